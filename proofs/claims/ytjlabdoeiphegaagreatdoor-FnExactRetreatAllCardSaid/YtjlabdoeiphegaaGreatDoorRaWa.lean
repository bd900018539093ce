/- What each function that FnExactRetreatAll reaches computes; no condition. -/
import Derived.Test.YtjlabdoeiphegaaGreatDoorProg
import Derived.Test.YtjlabdoeiphegaaGreatDoorAmCore3
set_option linter.unusedVariables false
set_option linter.unusedSimpArgs false
set_option maxRecDepth 100000
namespace Go.Proofs.YtjlabdoeiphegaaGreatDoor.X0
open Go Go.RowKit Go.Proofs.YtjlabdoeiphegaaGreatDoor.Ab Go.Proofs

def zI : Int := 0
def zB : Bool := false
def zS : List UInt8 := []
def eI (x : Int) : List AC := [.int .i64 x]
def eU (x : Int) : List AC := [.int .u8 x]
def eB (x : Bool) : List AC := [.bool x]
def eS (x : List UInt8) : List AC := [.str x]
def zLI : List Int := []
def eLI (xs : List Int) : List AC := [dat 1 eI zI xs]
theorem nLI : LeR [.nil] (eLI zLI) := And.intro (LeC.nil 1 _) trivial
structure TTerrain where
 Name : (List UInt8)
 Cost : (List Int)
 Shift : Int
 Height : Int
 Blocks : Bool
def zTTerrain : TTerrain := ⟨zS, zLI, zI, zI, zB⟩
def eTTerrain (x : TTerrain) : List AC := [.str x.Name, dat 1 eI zI x.Cost, .int .i64 x.Shift, .int .i64 x.Height, .bool x.Blocks]
def rTTerrain (x : TTerrain) : List AC := [.str x.Name, .fr (dat 1 eI zI x.Cost), .int .i64 x.Shift, .int .i64 x.Height, .bool x.Blocks]
def eTTerrainF (x : TTerrain) : List AC := [.str x.Name, .fr (dat 1 eI zI x.Cost), .int .i64 x.Shift, .int .i64 x.Height, .bool x.Blocks]
theorem nTTerrainF : LeR [.str [], .nil, .int .i64 0, .int .i64 0, .bool false] (eTTerrainF zTTerrain) := And.intro (LeC.refl _) (And.intro (LeC.nilfr 1 _) (And.intro (LeC.refl _) (And.intro (LeC.refl _) (And.intro (LeC.refl _) (trivial)))))
theorem nTTerrain : LeR [.str [], .nil, .int .i64 0, .int .i64 0, .bool false] (eTTerrain zTTerrain) := And.intro (LeC.refl _) (And.intro (LeC.nil 1 _) (And.intro (LeC.refl _) (And.intro (LeC.refl _) (And.intro (LeC.refl _) (trivial)))))
def zLTTerrain : List TTerrain := []
def eLTTerrain (xs : List TTerrain) : List AC := [dat 5 eTTerrain zTTerrain xs]
theorem nLTTerrain : LeR [.nil] (eLTTerrain zLTTerrain) := And.intro (LeC.nil 5 _) trivial
structure TKind where
 Name : (List UInt8)
 Strength : Int
 Moves : Int
 Steps : Int
 Zone : Bool
 View : Int
def zTKind : TKind := ⟨zS, zI, zI, zI, zB, zI⟩
def eTKind (x : TKind) : List AC := [.str x.Name, .int .i64 x.Strength, .int .i64 x.Moves, .int .i64 x.Steps, .bool x.Zone, .int .i64 x.View]
def zLTKind : List TKind := []
def eLTKind (xs : List TKind) : List AC := [dat 6 eTKind zTKind xs]
theorem nLTKind : LeR [.nil] (eLTKind zLTKind) := And.intro (LeC.nil 6 _) trivial
structure TRules where
 Terrains : (List TTerrain)
 Kinds : (List TKind)
 Stack : Int
 River : Int
 Road : Int
 Supply : Int
 Turns : Int
def zTRules : TRules := ⟨zLTTerrain, zLTKind, zI, zI, zI, zI, zI⟩
def eTRules (x : TRules) : List AC := [dat 5 eTTerrain zTTerrain x.Terrains, dat 6 eTKind zTKind x.Kinds, .int .i64 x.Stack, .int .i64 x.River, .int .i64 x.Road, .int .i64 x.Supply, .int .i64 x.Turns]
def rTRules (x : TRules) : List AC := [.fr (dat 5 eTTerrain zTTerrain x.Terrains), .fr (dat 6 eTKind zTKind x.Kinds), .int .i64 x.Stack, .int .i64 x.River, .int .i64 x.Road, .int .i64 x.Supply, .int .i64 x.Turns]
def lTRules (x : TRules) : List AC := [.lv (dat 5 eTTerrain zTTerrain x.Terrains), .lv (dat 6 eTKind zTKind x.Kinds), .int .i64 x.Stack, .int .i64 x.River, .int .i64 x.Road, .int .i64 x.Supply, .int .i64 x.Turns]
theorem nTRules : LeR [.nil, .nil, .int .i64 0, .int .i64 0, .int .i64 0, .int .i64 0, .int .i64 0] (eTRules zTRules) := And.intro (LeC.nil 5 _) (And.intro (LeC.nil 6 _) (And.intro (LeC.refl _) (And.intro (LeC.refl _) (And.intro (LeC.refl _) (And.intro (LeC.refl _) (And.intro (LeC.refl _) (trivial)))))))
structure TMap where
 Width : Int
 Height : Int
 Terrain : (List Int)
 Rivers : (List Int)
 Roads : (List Int)
def zTMap : TMap := ⟨zI, zI, zLI, zLI, zLI⟩
def eTMap (x : TMap) : List AC := [.int .i64 x.Width, .int .i64 x.Height, dat 1 eI zI x.Terrain, dat 1 eI zI x.Rivers, dat 1 eI zI x.Roads]
def rTMap (x : TMap) : List AC := [.int .i64 x.Width, .int .i64 x.Height, .fr (dat 1 eI zI x.Terrain), .fr (dat 1 eI zI x.Rivers), .fr (dat 1 eI zI x.Roads)]
def lTMap (x : TMap) : List AC := [.int .i64 x.Width, .int .i64 x.Height, .lv (dat 1 eI zI x.Terrain), .lv (dat 1 eI zI x.Rivers), .lv (dat 1 eI zI x.Roads)]
theorem nTMap : LeR [.int .i64 0, .int .i64 0, .nil, .nil, .nil] (eTMap zTMap) := And.intro (LeC.refl _) (And.intro (LeC.refl _) (And.intro (LeC.nil 1 _) (And.intro (LeC.nil 1 _) (And.intro (LeC.nil 1 _) (trivial)))))
structure TBoard where
 Rules : TRules
 Map : TMap
def zTBoard : TBoard := ⟨zTRules, zTMap⟩
def eTBoard (x : TBoard) : List AC := [dat 5 eTTerrain zTTerrain x.Rules.Terrains, dat 6 eTKind zTKind x.Rules.Kinds, .int .i64 x.Rules.Stack, .int .i64 x.Rules.River, .int .i64 x.Rules.Road, .int .i64 x.Rules.Supply, .int .i64 x.Rules.Turns, .int .i64 x.Map.Width, .int .i64 x.Map.Height, dat 1 eI zI x.Map.Terrain, dat 1 eI zI x.Map.Rivers, dat 1 eI zI x.Map.Roads]
def oTBoard (x : TBoard) : List AC := [.old (dat 5 eTTerrain zTTerrain x.Rules.Terrains), .old (dat 6 eTKind zTKind x.Rules.Kinds), .int .i64 x.Rules.Stack, .int .i64 x.Rules.River, .int .i64 x.Rules.Road, .int .i64 x.Rules.Supply, .int .i64 x.Rules.Turns, .int .i64 x.Map.Width, .int .i64 x.Map.Height, .old (dat 1 eI zI x.Map.Terrain), .old (dat 1 eI zI x.Map.Rivers), .old (dat 1 eI zI x.Map.Roads)]
def rTBoard (x : TBoard) : List AC := [.fr (dat 5 eTTerrain zTTerrain x.Rules.Terrains), .fr (dat 6 eTKind zTKind x.Rules.Kinds), .int .i64 x.Rules.Stack, .int .i64 x.Rules.River, .int .i64 x.Rules.Road, .int .i64 x.Rules.Supply, .int .i64 x.Rules.Turns, .int .i64 x.Map.Width, .int .i64 x.Map.Height, .fr (dat 1 eI zI x.Map.Terrain), .fr (dat 1 eI zI x.Map.Rivers), .fr (dat 1 eI zI x.Map.Roads)]
def lTBoard (x : TBoard) : List AC := [.lv (dat 5 eTTerrain zTTerrain x.Rules.Terrains), .lv (dat 6 eTKind zTKind x.Rules.Kinds), .int .i64 x.Rules.Stack, .int .i64 x.Rules.River, .int .i64 x.Rules.Road, .int .i64 x.Rules.Supply, .int .i64 x.Rules.Turns, .int .i64 x.Map.Width, .int .i64 x.Map.Height, .lv (dat 1 eI zI x.Map.Terrain), .lv (dat 1 eI zI x.Map.Rivers), .lv (dat 1 eI zI x.Map.Roads)]
theorem nTBoard : LeR [.nil, .nil, .int .i64 0, .int .i64 0, .int .i64 0, .int .i64 0, .int .i64 0, .int .i64 0, .int .i64 0, .nil, .nil, .nil] (eTBoard zTBoard) := And.intro (LeC.nil 5 _) (And.intro (LeC.nil 6 _) (And.intro (LeC.refl _) (And.intro (LeC.refl _) (And.intro (LeC.refl _) (And.intro (LeC.refl _) (And.intro (LeC.refl _) (And.intro (LeC.refl _) (And.intro (LeC.refl _) (And.intro (LeC.nil 1 _) (And.intro (LeC.nil 1 _) (And.intro (LeC.nil 1 _) (trivial))))))))))))
structure TUnit where
 Side : Int
 Kind : Int
 At : Int
 Steps : Int
def zTUnit : TUnit := ⟨zI, zI, zI, zI⟩
def eTUnit (x : TUnit) : List AC := [.int .i64 x.Side, .int .i64 x.Kind, .int .i64 x.At, .int .i64 x.Steps]
def zLTUnit : List TUnit := []
def eLTUnit (xs : List TUnit) : List AC := [dat 4 eTUnit zTUnit xs]
theorem nLTUnit : LeR [.nil] (eLTUnit zLTUnit) := And.intro (LeC.nil 4 _) trivial
structure TState where
 Turn : Int
 Weather : Int
 Units : (List TUnit)
def zTState : TState := ⟨zI, zI, zLTUnit⟩
def eTState (x : TState) : List AC := [.int .i64 x.Turn, .int .i64 x.Weather, dat 4 eTUnit zTUnit x.Units]
def oTState (x : TState) : List AC := [.int .i64 x.Turn, .int .i64 x.Weather, .old (dat 4 eTUnit zTUnit x.Units)]
def rTState (x : TState) : List AC := [.int .i64 x.Turn, .int .i64 x.Weather, .fr (dat 4 eTUnit zTUnit x.Units)]
def lTState (x : TState) : List AC := [.int .i64 x.Turn, .int .i64 x.Weather, .lv (dat 4 eTUnit zTUnit x.Units)]
theorem nTState : LeR [.int .i64 0, .int .i64 0, .nil] (eTState zTState) := And.intro (LeC.refl _) (And.intro (LeC.refl _) (And.intro (LeC.nil 4 _) (trivial)))
structure THex where
 Q : Int
 R : Int
def zTHex : THex := ⟨zI, zI⟩
def eTHex (x : THex) : List AC := [.int .i64 x.Q, .int .i64 x.R]
structure TAttempt where
 Unit : Int
 From : Int
 To : Int
def zTAttempt : TAttempt := ⟨zI, zI, zI⟩
def eTAttempt (x : TAttempt) : List AC := [.int .i64 x.Unit, .int .i64 x.From, .int .i64 x.To]
def zLTAttempt : List TAttempt := []
def eLTAttempt (xs : List TAttempt) : List AC := [dat 3 eTAttempt zTAttempt xs]
theorem nLTAttempt : LeR [.nil] (eLTAttempt zLTAttempt) := And.intro (LeC.nil 3 _) trivial
def zLLI : List (List Int) := []
def eLLI (xs : List (List Int)) : List AC := [dat 1 eLI zLI xs]
theorem nLLI : LeR [.nil] (eLLI zLLI) := And.intro (LeC.nil 1 _) trivial
structure A2_I where
 a0 : Int
 a1 : Int
def zA2_I : A2_I := ⟨zI, zI⟩
def eA2_I (x : A2_I) : List AC := [.int .i64 x.a0, .int .i64 x.a1]
theorem shI (x : Int) : Shps (eI x) := .cons (.int _ _) .nil
theorem shU (x : Int) : Shps (eU x) := .cons (.int _ _) .nil
theorem shB (x : Bool) : Shps (eB x) := .cons (.bool _) .nil
theorem shS (x : List UInt8) : Shps (eS x) := .cons (.str _) .nil
theorem shLI (x : List Int) : Shps (eLI x) := (.cons (.dat shI) .nil)
theorem shTTerrain (x : TTerrain) : Shps (eTTerrain x) := (.cons (.str _) (.cons (.dat shI) (.cons (.int _ _) (.cons (.int _ _) (.cons (.bool _) .nil)))))
theorem shLTTerrain (x : List TTerrain) : Shps (eLTTerrain x) := (.cons (.dat shTTerrain) .nil)
theorem shTKind (x : TKind) : Shps (eTKind x) := (.cons (.str _) (.cons (.int _ _) (.cons (.int _ _) (.cons (.int _ _) (.cons (.bool _) (.cons (.int _ _) .nil))))))
theorem shLTKind (x : List TKind) : Shps (eLTKind x) := (.cons (.dat shTKind) .nil)
theorem shTRules (x : TRules) : Shps (eTRules x) := (.cons (.dat shTTerrain) (.cons (.dat shTKind) (.cons (.int _ _) (.cons (.int _ _) (.cons (.int _ _) (.cons (.int _ _) (.cons (.int _ _) .nil)))))))
theorem shTMap (x : TMap) : Shps (eTMap x) := (.cons (.int _ _) (.cons (.int _ _) (.cons (.dat shI) (.cons (.dat shI) (.cons (.dat shI) .nil)))))
theorem shTBoard (x : TBoard) : Shps (eTBoard x) := (.cons (.dat shTTerrain) (.cons (.dat shTKind) (.cons (.int _ _) (.cons (.int _ _) (.cons (.int _ _) (.cons (.int _ _) (.cons (.int _ _) (.cons (.int _ _) (.cons (.int _ _) (.cons (.dat shI) (.cons (.dat shI) (.cons (.dat shI) .nil))))))))))))
theorem shTUnit (x : TUnit) : Shps (eTUnit x) := (.cons (.int _ _) (.cons (.int _ _) (.cons (.int _ _) (.cons (.int _ _) .nil))))
theorem shLTUnit (x : List TUnit) : Shps (eLTUnit x) := (.cons (.dat shTUnit) .nil)
theorem shTState (x : TState) : Shps (eTState x) := (.cons (.int _ _) (.cons (.int _ _) (.cons (.dat shTUnit) .nil)))
theorem shTHex (x : THex) : Shps (eTHex x) := (.cons (.int _ _) (.cons (.int _ _) .nil))
theorem shTAttempt (x : TAttempt) : Shps (eTAttempt x) := (.cons (.int _ _) (.cons (.int _ _) (.cons (.int _ _) .nil)))
theorem shLTAttempt (x : List TAttempt) : Shps (eLTAttempt x) := (.cons (.dat shTAttempt) .nil)
theorem shLLI (x : List (List Int)) : Shps (eLLI x) := (.cons (.dat shLI) .nil)
theorem shA2_I (x : A2_I) : Shps (eA2_I x) := (.cons (.int _ _) (.cons (.int _ _) .nil))
def dirs : List THex := [⟨1, 0⟩, ⟨1, -1⟩, ⟨0, -1⟩, ⟨-1, 0⟩, ⟨-1, 1⟩, ⟨0, 1⟩]
def gl : Nat → Option (List AC) := fun g => match g with | 6 => some (dirs.flatMap eTHex) | _ => none
theorem dirs_at {i : Int} {v : THex} (h : at' zTHex dirs i = some v) : ((dirs.flatMap eTHex).drop (0 + i.toNat * 2)).take 2 = eTHex v := arr_at (fun _ => rfl) h
theorem glL : gl LAW = none := rfl
theorem glTs : ∀ g cs, gl g = some cs → glT gl g = some cs := glT_sub glL
theorem glTn : glT gl LAW ≠ none := by simp [glT]
theorem glTp : ∀ g cs, glT gl g = some cs → Shps cs := glT_shp fun g cs h => by
 unfold gl at h
 split at h
 ·cases h; intro c hc; obtain ⟨x, _, hx⟩ := List.mem_flatMap.1 hc; exact shTHex x c hx
 ·cases h
abbrev FK := FnOk Tryz.prog gl
def l_szIntS_ir : S :=
 (sq [o 4 (.mv (iv 0))]
 (sq [om 5 1, om 6 0, o 7 (.len (.t 6)), o 8 (.bin .sub (.t 5) (.t 7)), om 1 8]
 (.seq (sq [om 9 1, o 10 (.bin .lss (.t 9) (iv 0))]
 (.ite (.t 10) (sq [o 4 (.mv (.v (.int .i64 (-1))))]
  .ret)
 .skip))
 (sq [om 11 1, om 4 11]
 .ret))))
noncomputable def X.l_szIntS (p0 : (List Int)) (p1 : Int) : Option Int :=
 (bif (decide ((W (p1 - (p0.length : Int))) < 0)) then some (-1) else some (W (p1 - (p0.length : Int))))
theorem l_szIntS_ok (p0 : (List Int)) (p1 : Int) (r : Int) (H : X.l_szIntS p0 p1 = some r) : FK 71 [.c (dat 1 eI zI p0), cI p1] (cI r) := by
 unfold X.l_szIntS at H
 refine fi Tryz.f71 l_szIntS_ir [(4, cI r)] [] glL Tryz.func71 ?_
 refine sn [] [] [] [] [] id ?_
 refine so [] [] [(1, cI (W (p1 - (p0.length : Int))))] [] (fun t => lI p0 (t)) ?_
 refine seq_in ?_
 refine sn [] [] [(10, cB (decide ((W (p1 - (p0.length : Int))) < 0)))] [] [] id ?_
 rcases oC H with ⟨c1, H⟩ | ⟨c1, H⟩
 ·refine it c1 ?_
  refine so [] [] [(4, cI (-1))] [] id ?_
  cases H
  exact er
 ·refine jf c1 ?_
  refine sk ?_
  refine so [] [] [(4, cI (W (p1 - (p0.length : Int))))] [] id ?_
  cases H
  exact er
def l_szTerrain_ir : S :=
 (sq [o 2 (.box 5 (.t 0)), o 4 (.mv (iv 0))]
 (sq [om 5 1, oa 6 0 2, ol 7 6, o 8 (.lens (.t 7)), o 9 (.bin .sub (.t 5) (.t 8)), om 1 9]
 (.seq (sq [om 10 1, o 11 (.bin .lss (.t 10) (iv 0))]
 (.ite (.t 11) (sq [o 4 (.mv (.v (.int .i64 (-1))))]
  .ret)
 .skip))
 (sq [oa 12 1 2, ol 13 12, om 14 1, o 15 (.call 71 [.t 13, .t 14]), om 1 15]
 (.seq (sq [om 16 1, o 17 (.bin .lss (.t 16) (iv 0))]
 (.ite (.t 17) (sq [o 4 (.mv (.v (.int .i64 (-1))))]
  .ret)
 .skip))
 (sq [om 18 1, om 4 18]
 .ret))))))
noncomputable def X.l_szTerrain (p0 : TTerrain) (p1 : Int) : Option Int :=
 (bif (decide ((W (p1 - (p0.Name.length : Int))) < 0)) then some (-1) else ((X.l_szIntS p0.Cost (W (p1 - (p0.Name.length : Int)))).bind fun v3 => (bif (decide (v3 < 0)) then some (-1) else some v3)))
theorem l_szTerrain_ok (p0 : TTerrain) (p1 : Int) (r : Int) (H : X.l_szTerrain p0 p1 = some r) : FK 133 [.agg (eTTerrain p0), cI p1] (cI r) := by
 unfold X.l_szTerrain at H
 refine fi Tryz.f133 l_szTerrain_ir [(4, cI r)] [] glL Tryz.func133 ?_
 refine sn [] [] [(2, pk 2)] [] [(2, va (eTTerrain p0))] id ?_
 refine so [] [] [(1, cI (W (p1 - (p0.Name.length : Int)))), (2, pk 2)] [(2, va (eTTerrain p0))] id ?_
 refine seq_in ?_
 refine sn [] [] [(11, cB (decide ((W (p1 - (p0.Name.length : Int))) < 0)))] [] [] id ?_
 rcases oC H with ⟨c2, H⟩ | ⟨c2, H⟩
 ·refine it c2 ?_
  refine so [] [] [(4, cI (-1))] [] id ?_
  cases H
  exact er
 ·refine jf c2 ?_
  refine sk ?_
  obtain ⟨v3, h4, H⟩ := oB H
  refine so [.res (cI v3)] [] [(1, cI v3)] [] (aI (l_szIntS_ok p0.Cost (W (p1 - (p0.Name.length : Int))) v3 h4)) ?_
  refine seq_in ?_
  refine sn [] [] [(17, cB (decide (v3 < 0)))] [] [] id ?_
  rcases oC H with ⟨c5, H⟩ | ⟨c5, H⟩
  ·refine it c5 ?_
   refine so [] [] [(4, cI (-1))] [] id ?_
   cases H
   exact er
  ·refine jf c5 ?_
   refine sk ?_
   refine so [] [] [(4, cI v3)] [] id ?_
   cases H
   exact er
def l_szTerrainS_ir : S :=
 (sq [o 4 (.mv (iv 0))]
 (sq [om 6 1, om 7 0, o 8 (.len (.t 7)), o 9 (.bin .sub (.t 6) (.t 8)), om 1 9]
 (.seq (sq [om 10 1, o 11 (.bin .lss (.t 10) (iv 0))]
 (.ite (.t 11) (sq [o 4 (.mv (.v (.int .i64 (-1))))]
  .ret)
 .skip))
 (.seq (sq [o 5 (.mv (iv 0))]
 (.blk 0 (.loop (.seq (sq [om 12 5, om 13 0, o 14 (.len (.t 13)), o 15 (.bin .lss (.t 12) (.t 14))]
   (.ite (.t 15) .skip
   (.exit 0)))
   (.seq (.blk 1 (sq [om 18 0, om 19 5, o 20 (.iad 5 (.t 18) (.t 19)), o 21 (.load 5 true (.t 20)), om 22 1, o 23 (.call 133 [.t 21, .t 22]), om 1 23]
    (sq [om 24 1, o 25 (.bin .lss (.t 24) (iv 0))]
    (.ite (.t 25) (sq [o 4 (.mv (.v (.int .i64 (-1))))]
     .ret)
    .skip))))
   (.ops [om 16 5, o 17 (.bin .add (.t 16) (iv 1)), om 5 17]))))))
 (sq [om 26 1, om 4 26]
 .ret)))))
noncomputable def X.l_szTerrainS (p0 : (List TTerrain)) (p1 : Int) : Option Int :=
 (bif (decide ((W (p1 - (p0.length : Int))) < 0)) then some (-1) else ((loop (fun (x18 : (Int × Int)) => ((bif (decide (x18.2 < (p0.length : Int))) then ((at' zTTerrain p0 x18.2).bind fun v21 => ((X.l_szTerrain v21 x18.1).bind fun v23 => (bif (decide (v23 < 0)) then some (Sum.inr (Sum.inr (-1))) else some (Sum.inl (v23, (W (x18.2 + 1))))))) else some (Sum.inr (Sum.inl x18.1))) : Option ((Int × Int) ⊕ (Int ⊕ Int)))) ((W (p1 - (p0.length : Int))), 0)).bind fun y26 => (Sum.elim (fun (y28 : Int) => some y28) (fun (y29 : Int) => some y29) y26)))
theorem l_szTerrainS_ok (p0 : (List TTerrain)) (p1 : Int) (r : Int) (H : X.l_szTerrainS p0 p1 = some r) : FK 69 [.c (dat 5 eTTerrain zTTerrain p0), cI p1] (cI r) := by
 unfold X.l_szTerrainS at H
 refine fi Tryz.f69 l_szTerrainS_ir [(4, cI r)] [] glL Tryz.func69 ?_
 refine sn [] [] [] [] [] id ?_
 refine so [] [] [(0, dc 5 eTTerrain zTTerrain p0), (1, cI (W (p1 - (p0.length : Int))))] [] (fun t => lI p0 (t)) ?_
 refine seq_in ?_
 refine sn [] [] [(11, cB (decide ((W (p1 - (p0.length : Int))) < 0)))] [] [] id ?_
 rcases oC H with ⟨c2, H⟩ | ⟨c2, H⟩
 ·refine it c2 ?_
  refine so [] [] [(4, cI (-1))] [] id ?_
  cases H
  exact er
 ·refine jf c2 ?_
  refine sk ?_
  refine seq_in ?_
  refine sn [] [] [(5, cI 0)] [] [] id ?_
  refine ends_blk ?_
  obtain ⟨y26, h27, H⟩ := oB H
  refine tl [] [(0, dc 5 eTTerrain zTTerrain p0), (1, cI (W (p1 - (p0.length : Int)))), (5, cI 0)] [] id ?_
  refine loop_in (fun (x : (Int × Int)) => lit [(0, dc 5 eTTerrain zTTerrain p0), (1, cI x.1), (5, cI x.2)] []) (orJ (fun (z : Int) => At (.exit 0) (lit [(1, cI z)] [])) (fun (z : Int) => At .ret (lit [(4, cI z)] []))) h27 ?_ ?_
  ·clear H h27
   intro x18 y0 H
   refine seq_in ?_
   refine sn [] [] [(15, cB (decide (x18.2 < (p0.length : Int))))] [] [] (fun t => lI p0 (t)) ?_
   rcases oC H with ⟨c20, H⟩ | ⟨c20, H⟩
   ·refine it c20 ?_
    refine sk ?_
    refine seq_in ?_
    refine ends_blk ?_
    obtain ⟨v21, h22, H⟩ := oB H
    obtain ⟨v23, h24, H⟩ := oB H
    refine so [.cs (eTTerrain v21), .res (cI v23)] [] [(0, dc 5 eTTerrain zTTerrain p0), (1, cI v23), (5, cI x18.2)] [] (fun t => (a2 eTTerrain h22 (aI (l_szTerrain_ok v21 x18.1 v23 h24) (t)))) ?_
    refine sn [] [] [(25, cB (decide (v23 < 0)))] [] [] id ?_
    rcases oC H with ⟨c25, H⟩ | ⟨c25, H⟩
    ·refine it c25 ?_
     refine so [] [] [(4, cI (-1))] [] id ?_
     refine ends_ret ?_
     cases H
     exact rsr
    ·refine jf c25 ?_
     refine sk ?_
     refine oo [] [] [(0, dc 5 eTTerrain zTTerrain p0), (1, cI v23), (5, cI (W (x18.2 + 1)))] [] id ?_
     cases H
     exact rr
   ·refine jf c20 ?_
    refine tl [] [(1, cI x18.1)] [] id ?_
    refine ends_exit ?_
    cases H
    exact rse
  ·clear h27
   cases y26 with
   | inl y28 =>
    replace H := ofInl H
    rintro e s ⟨rfl, rfl⟩
    change EndsI _ _ _ _ _ _
    refine so [] [] [(4, cI y28)] [] id ?_
    cases H
    exact er
   | inr y29 =>
    replace H := ofInr H
    rintro e s ⟨rfl, rfl⟩
    cases H
    exact qr
def l_szKind_ir : S :=
 (sq [o 2 (.box 6 (.t 0)), o 4 (.mv (iv 0))]
 (sq [om 5 1, oa 6 0 2, ol 7 6, o 8 (.lens (.t 7)), o 9 (.bin .sub (.t 5) (.t 8)), om 1 9]
 (.seq (sq [om 10 1, o 11 (.bin .lss (.t 10) (iv 0))]
 (.ite (.t 11) (sq [o 4 (.mv (.v (.int .i64 (-1))))]
  .ret)
 .skip))
 (sq [om 12 1, om 4 12]
 .ret))))
noncomputable def X.l_szKind (p0 : TKind) (p1 : Int) : Option Int :=
 (bif (decide ((W (p1 - (p0.Name.length : Int))) < 0)) then some (-1) else some (W (p1 - (p0.Name.length : Int))))
theorem l_szKind_ok (p0 : TKind) (p1 : Int) (r : Int) (H : X.l_szKind p0 p1 = some r) : FK 134 [.agg (eTKind p0), cI p1] (cI r) := by
 unfold X.l_szKind at H
 refine fi Tryz.f134 l_szKind_ir [(4, cI r)] [] glL Tryz.func134 ?_
 refine sn [] [] [(2, pk 2)] [] [(2, va (eTKind p0))] id ?_
 refine so [] [] [(1, cI (W (p1 - (p0.Name.length : Int))))] [] id ?_
 refine seq_in ?_
 refine sn [] [] [(11, cB (decide ((W (p1 - (p0.Name.length : Int))) < 0)))] [] [] id ?_
 rcases oC H with ⟨c1, H⟩ | ⟨c1, H⟩
 ·refine it c1 ?_
  refine so [] [] [(4, cI (-1))] [] id ?_
  cases H
  exact er
 ·refine jf c1 ?_
  refine sk ?_
  refine so [] [] [(4, cI (W (p1 - (p0.Name.length : Int))))] [] id ?_
  cases H
  exact er
def l_szKindS_ir : S :=
 (sq [o 4 (.mv (iv 0))]
 (sq [om 6 1, om 7 0, o 8 (.len (.t 7)), o 9 (.bin .sub (.t 6) (.t 8)), om 1 9]
 (.seq (sq [om 10 1, o 11 (.bin .lss (.t 10) (iv 0))]
 (.ite (.t 11) (sq [o 4 (.mv (.v (.int .i64 (-1))))]
  .ret)
 .skip))
 (.seq (sq [o 5 (.mv (iv 0))]
 (.blk 0 (.loop (.seq (sq [om 12 5, om 13 0, o 14 (.len (.t 13)), o 15 (.bin .lss (.t 12) (.t 14))]
   (.ite (.t 15) .skip
   (.exit 0)))
   (.seq (.blk 1 (sq [om 18 0, om 19 5, o 20 (.iad 6 (.t 18) (.t 19)), o 21 (.load 6 true (.t 20)), om 22 1, o 23 (.call 134 [.t 21, .t 22]), om 1 23]
    (sq [om 24 1, o 25 (.bin .lss (.t 24) (iv 0))]
    (.ite (.t 25) (sq [o 4 (.mv (.v (.int .i64 (-1))))]
     .ret)
    .skip))))
   (.ops [om 16 5, o 17 (.bin .add (.t 16) (iv 1)), om 5 17]))))))
 (sq [om 26 1, om 4 26]
 .ret)))))
noncomputable def X.l_szKindS (p0 : (List TKind)) (p1 : Int) : Option Int :=
 (bif (decide ((W (p1 - (p0.length : Int))) < 0)) then some (-1) else ((loop (fun (x18 : (Int × Int)) => ((bif (decide (x18.2 < (p0.length : Int))) then ((at' zTKind p0 x18.2).bind fun v21 => ((X.l_szKind v21 x18.1).bind fun v23 => (bif (decide (v23 < 0)) then some (Sum.inr (Sum.inr (-1))) else some (Sum.inl (v23, (W (x18.2 + 1))))))) else some (Sum.inr (Sum.inl x18.1))) : Option ((Int × Int) ⊕ (Int ⊕ Int)))) ((W (p1 - (p0.length : Int))), 0)).bind fun y26 => (Sum.elim (fun (y28 : Int) => some y28) (fun (y29 : Int) => some y29) y26)))
theorem l_szKindS_ok (p0 : (List TKind)) (p1 : Int) (r : Int) (H : X.l_szKindS p0 p1 = some r) : FK 70 [.c (dat 6 eTKind zTKind p0), cI p1] (cI r) := by
 unfold X.l_szKindS at H
 refine fi Tryz.f70 l_szKindS_ir [(4, cI r)] [] glL Tryz.func70 ?_
 refine sn [] [] [] [] [] id ?_
 refine so [] [] [(0, dc 6 eTKind zTKind p0), (1, cI (W (p1 - (p0.length : Int))))] [] (fun t => lI p0 (t)) ?_
 refine seq_in ?_
 refine sn [] [] [(11, cB (decide ((W (p1 - (p0.length : Int))) < 0)))] [] [] id ?_
 rcases oC H with ⟨c2, H⟩ | ⟨c2, H⟩
 ·refine it c2 ?_
  refine so [] [] [(4, cI (-1))] [] id ?_
  cases H
  exact er
 ·refine jf c2 ?_
  refine sk ?_
  refine seq_in ?_
  refine sn [] [] [(5, cI 0)] [] [] id ?_
  refine ends_blk ?_
  obtain ⟨y26, h27, H⟩ := oB H
  refine tl [] [(0, dc 6 eTKind zTKind p0), (1, cI (W (p1 - (p0.length : Int)))), (5, cI 0)] [] id ?_
  refine loop_in (fun (x : (Int × Int)) => lit [(0, dc 6 eTKind zTKind p0), (1, cI x.1), (5, cI x.2)] []) (orJ (fun (z : Int) => At (.exit 0) (lit [(1, cI z)] [])) (fun (z : Int) => At .ret (lit [(4, cI z)] []))) h27 ?_ ?_
  ·clear H h27
   intro x18 y0 H
   refine seq_in ?_
   refine sn [] [] [(15, cB (decide (x18.2 < (p0.length : Int))))] [] [] (fun t => lI p0 (t)) ?_
   rcases oC H with ⟨c20, H⟩ | ⟨c20, H⟩
   ·refine it c20 ?_
    refine sk ?_
    refine seq_in ?_
    refine ends_blk ?_
    obtain ⟨v21, h22, H⟩ := oB H
    obtain ⟨v23, h24, H⟩ := oB H
    refine so [.cs (eTKind v21), .res (cI v23)] [] [(0, dc 6 eTKind zTKind p0), (1, cI v23), (5, cI x18.2)] [] (fun t => (a2 eTKind h22 (aI (l_szKind_ok v21 x18.1 v23 h24) (t)))) ?_
    refine sn [] [] [(25, cB (decide (v23 < 0)))] [] [] id ?_
    rcases oC H with ⟨c25, H⟩ | ⟨c25, H⟩
    ·refine it c25 ?_
     refine so [] [] [(4, cI (-1))] [] id ?_
     refine ends_ret ?_
     cases H
     exact rsr
    ·refine jf c25 ?_
     refine sk ?_
     refine oo [] [] [(0, dc 6 eTKind zTKind p0), (1, cI v23), (5, cI (W (x18.2 + 1)))] [] id ?_
     cases H
     exact rr
   ·refine jf c20 ?_
    refine tl [] [(1, cI x18.1)] [] id ?_
    refine ends_exit ?_
    cases H
    exact rse
  ·clear h27
   cases y26 with
   | inl y28 =>
    replace H := ofInl H
    rintro e s ⟨rfl, rfl⟩
    change EndsI _ _ _ _ _ _
    refine so [] [] [(4, cI y28)] [] id ?_
    cases H
    exact er
   | inr y29 =>
    replace H := ofInr H
    rintro e s ⟨rfl, rfl⟩
    cases H
    exact qr
def l_szRules_ir : S :=
 (sq [o 2 (.box 7 (.t 0)), o 4 (.mv (iv 0))]
 (sq [oa 5 0 2, ol 6 5, om 7 1, o 8 (.call 69 [.t 6, .t 7]), om 1 8]
 (.seq (sq [om 9 1, o 10 (.bin .lss (.t 9) (iv 0))]
 (.ite (.t 10) (sq [o 4 (.mv (.v (.int .i64 (-1))))]
  .ret)
 .skip))
 (sq [oa 11 1 2, ol 12 11, om 13 1, o 14 (.call 70 [.t 12, .t 13]), om 1 14]
 (.seq (sq [om 15 1, o 16 (.bin .lss (.t 15) (iv 0))]
 (.ite (.t 16) (sq [o 4 (.mv (.v (.int .i64 (-1))))]
  .ret)
 .skip))
 (sq [om 17 1, om 4 17]
 .ret))))))
noncomputable def X.l_szRules (p0 : TRules) (p1 : Int) : Option Int :=
 ((X.l_szTerrainS p0.Terrains p1).bind fun v1 => (bif (decide (v1 < 0)) then some (-1) else ((X.l_szKindS p0.Kinds v1).bind fun v5 => (bif (decide (v5 < 0)) then some (-1) else some v5))))
theorem l_szRules_ok (p0 : TRules) (p1 : Int) (r : Int) (H : X.l_szRules p0 p1 = some r) : FK 28 [.agg (eTRules p0), cI p1] (cI r) := by
 unfold X.l_szRules at H
 refine fi Tryz.f28 l_szRules_ir [(4, cI r)] [] glL Tryz.func28 ?_
 refine sn [] [] [(2, pk 2)] [] [(2, va (eTRules p0))] id ?_
 obtain ⟨v1, h2, H⟩ := oB H
 refine so [.res (cI v1)] [] [(1, cI v1), (2, pk 2)] [(2, va (eTRules p0))] (aI (l_szTerrainS_ok p0.Terrains p1 v1 h2)) ?_
 refine seq_in ?_
 refine sn [] [] [(10, cB (decide (v1 < 0)))] [] [] id ?_
 rcases oC H with ⟨c4, H⟩ | ⟨c4, H⟩
 ·refine it c4 ?_
  refine so [] [] [(4, cI (-1))] [] id ?_
  cases H
  exact er
 ·refine jf c4 ?_
  refine sk ?_
  obtain ⟨v5, h6, H⟩ := oB H
  refine so [.res (cI v5)] [] [(1, cI v5)] [] (aI (l_szKindS_ok p0.Kinds v1 v5 h6)) ?_
  refine seq_in ?_
  refine sn [] [] [(16, cB (decide (v5 < 0)))] [] [] id ?_
  rcases oC H with ⟨c7, H⟩ | ⟨c7, H⟩
  ·refine it c7 ?_
   refine so [] [] [(4, cI (-1))] [] id ?_
   cases H
   exact er
  ·refine jf c7 ?_
   refine sk ?_
   refine so [] [] [(4, cI v5)] [] id ?_
   cases H
   exact er
def l_szMap_ir : S :=
 (sq [o 2 (.box 5 (.t 0)), o 4 (.mv (iv 0))]
 (sq [oa 5 2 2, ol 6 5, om 7 1, o 8 (.call 71 [.t 6, .t 7]), om 1 8]
 (.seq (sq [om 9 1, o 10 (.bin .lss (.t 9) (iv 0))]
 (.ite (.t 10) (sq [o 4 (.mv (.v (.int .i64 (-1))))]
  .ret)
 .skip))
 (sq [oa 11 3 2, ol 12 11, om 13 1, o 14 (.call 71 [.t 12, .t 13]), om 1 14]
 (.seq (sq [om 15 1, o 16 (.bin .lss (.t 15) (iv 0))]
 (.ite (.t 16) (sq [o 4 (.mv (.v (.int .i64 (-1))))]
  .ret)
 .skip))
 (sq [oa 17 4 2, ol 18 17, om 19 1, o 20 (.call 71 [.t 18, .t 19]), om 1 20]
 (.seq (sq [om 21 1, o 22 (.bin .lss (.t 21) (iv 0))]
 (.ite (.t 22) (sq [o 4 (.mv (.v (.int .i64 (-1))))]
  .ret)
 .skip))
 (sq [om 23 1, om 4 23]
 .ret))))))))
noncomputable def X.l_szMap (p0 : TMap) (p1 : Int) : Option Int :=
 ((X.l_szIntS p0.Terrain p1).bind fun v1 => (bif (decide (v1 < 0)) then some (-1) else ((X.l_szIntS p0.Rivers v1).bind fun v5 => (bif (decide (v5 < 0)) then some (-1) else ((X.l_szIntS p0.Roads v5).bind fun v9 => (bif (decide (v9 < 0)) then some (-1) else some v9))))))
theorem l_szMap_ok (p0 : TMap) (p1 : Int) (r : Int) (H : X.l_szMap p0 p1 = some r) : FK 29 [.agg (eTMap p0), cI p1] (cI r) := by
 unfold X.l_szMap at H
 refine fi Tryz.f29 l_szMap_ir [(4, cI r)] [] glL Tryz.func29 ?_
 refine sn [] [] [(2, pk 2)] [] [(2, va (eTMap p0))] id ?_
 obtain ⟨v1, h2, H⟩ := oB H
 refine so [.res (cI v1)] [] [(1, cI v1), (2, pk 2)] [(2, va (eTMap p0))] (aI (l_szIntS_ok p0.Terrain p1 v1 h2)) ?_
 refine seq_in ?_
 refine sn [] [] [(10, cB (decide (v1 < 0)))] [] [] id ?_
 rcases oC H with ⟨c4, H⟩ | ⟨c4, H⟩
 ·refine it c4 ?_
  refine so [] [] [(4, cI (-1))] [] id ?_
  cases H
  exact er
 ·refine jf c4 ?_
  refine sk ?_
  obtain ⟨v5, h6, H⟩ := oB H
  refine so [.res (cI v5)] [] [(1, cI v5), (2, pk 2)] [(2, va (eTMap p0))] (aI (l_szIntS_ok p0.Rivers v1 v5 h6)) ?_
  refine seq_in ?_
  refine sn [] [] [(16, cB (decide (v5 < 0)))] [] [] id ?_
  rcases oC H with ⟨c8, H⟩ | ⟨c8, H⟩
  ·refine it c8 ?_
   refine so [] [] [(4, cI (-1))] [] id ?_
   cases H
   exact er
  ·refine jf c8 ?_
   refine sk ?_
   obtain ⟨v9, h10, H⟩ := oB H
   refine so [.res (cI v9)] [] [(1, cI v9)] [] (aI (l_szIntS_ok p0.Roads v5 v9 h10)) ?_
   refine seq_in ?_
   refine sn [] [] [(22, cB (decide (v9 < 0)))] [] [] id ?_
   rcases oC H with ⟨c11, H⟩ | ⟨c11, H⟩
   ·refine it c11 ?_
    refine so [] [] [(4, cI (-1))] [] id ?_
    cases H
    exact er
   ·refine jf c11 ?_
    refine sk ?_
    refine so [] [] [(4, cI v9)] [] id ?_
    cases H
    exact er
def l_szBoard_ir : S :=
 (sq [o 2 (.box 12 (.t 0)), o 4 (.mv (iv 0))]
 (sq [oa 5 0 2, o 6 (.load 7 true (.t 5)), om 7 1, o 8 (.call 28 [.t 6, .t 7]), om 1 8]
 (.seq (sq [om 9 1, o 10 (.bin .lss (.t 9) (iv 0))]
 (.ite (.t 10) (sq [o 4 (.mv (.v (.int .i64 (-1))))]
  .ret)
 .skip))
 (sq [oa 11 7 2, o 12 (.load 5 true (.t 11)), om 13 1, o 14 (.call 29 [.t 12, .t 13]), om 1 14]
 (.seq (sq [om 15 1, o 16 (.bin .lss (.t 15) (iv 0))]
 (.ite (.t 16) (sq [o 4 (.mv (.v (.int .i64 (-1))))]
  .ret)
 .skip))
 (sq [om 17 1, om 4 17]
 .ret))))))
noncomputable def X.l_szBoard (p0 : TBoard) (p1 : Int) : Option Int :=
 ((X.l_szRules p0.Rules p1).bind fun v1 => (bif (decide (v1 < 0)) then some (-1) else ((X.l_szMap p0.Map v1).bind fun v5 => (bif (decide (v5 < 0)) then some (-1) else some v5))))
theorem l_szBoard_ok (p0 : TBoard) (p1 : Int) (r : Int) (H : X.l_szBoard p0 p1 = some r) : FK 6 [.agg (eTBoard p0), cI p1] (cI r) := by
 unfold X.l_szBoard at H
 refine fi Tryz.f6 l_szBoard_ir [(4, cI r)] [] glL Tryz.func6 ?_
 refine sn [] [] [(2, pk 2)] [] [(2, va (eTBoard p0))] id ?_
 obtain ⟨v1, h2, H⟩ := oB H
 refine so [.res (cI v1)] [] [(1, cI v1), (2, pk 2)] [(2, va (eTBoard p0))] (aI (l_szRules_ok p0.Rules p1 v1 h2)) ?_
 refine seq_in ?_
 refine sn [] [] [(10, cB (decide (v1 < 0)))] [] [] id ?_
 rcases oC H with ⟨c4, H⟩ | ⟨c4, H⟩
 ·refine it c4 ?_
  refine so [] [] [(4, cI (-1))] [] id ?_
  cases H
  exact er
 ·refine jf c4 ?_
  refine sk ?_
  obtain ⟨v5, h6, H⟩ := oB H
  refine so [.res (cI v5)] [] [(1, cI v5)] [] (aI (l_szMap_ok p0.Map v1 v5 h6)) ?_
  refine seq_in ?_
  refine sn [] [] [(16, cB (decide (v5 < 0)))] [] [] id ?_
  rcases oC H with ⟨c7, H⟩ | ⟨c7, H⟩
  ·refine it c7 ?_
   refine so [] [] [(4, cI (-1))] [] id ?_
   cases H
   exact er
  ·refine jf c7 ?_
   refine sk ?_
   refine so [] [] [(4, cI v5)] [] id ?_
   cases H
   exact er
def l_toIntS_ir : S :=
 (sq [o 2 (.mv (.v (.nil)))]
 (sq [om 5 0, o 6 (.len (.t 5)), o 7 (.msl 1 8 [.int .i64 0] (.t 6)), om 3 7]
 (.seq (sq [o 4 (.mv (iv 0))]
 (.blk 0 (.loop (.seq (sq [om 8 4, om 9 0, o 10 (.len (.t 9)), o 11 (.bin .lss (.t 8) (.t 10))]
   (.ite (.t 11) .skip
   (.exit 0)))
   (.seq (.blk 1 (.ops [om 14 3, om 15 4, om 16 0, om 17 4, o 18 (.iad 1 (.t 16) (.t 17)), ol 19 18, o 20 (.iad 1 (.t 14) (.t 15)), os 1 20 19]))
   (.ops [om 12 4, o 13 (.bin .add (.t 12) (iv 1)), om 4 13]))))))
 (sq [om 21 3, om 2 21]
 .ret))))
noncomputable def X.l_toIntS (p0 : (List Int)) : Option (List Int) :=
 (if 0 ≤ (p0.length : Int) ∧ (p0.length : Int).toNat ≤ LIM then ((loop (fun (x13 : (Int × (List Int))) => ((bif (decide (x13.1 < (p0.length : Int))) then ((at' zI p0 x13.1).bind fun v16 => (if 0 ≤ x13.1 ∧ x13.1 < (x13.2.length : Int) then some (Sum.inl ((W (x13.1 + 1)), (x13.2.set x13.1.toNat v16))) else none)) else some (Sum.inr x13.2)) : Option ((Int × (List Int)) ⊕ (List Int)))) (0, (List.replicate (p0.length : Int).toNat zI))).bind fun y19 => some y19) else none)
theorem l_toIntS_F_ok (p0 : (List Int)) (r : (List Int)) (H : X.l_toIntS p0 = some r) : FK 18 [.c (dat 1 eI zI p0)] (.c (.fr (dat 1 eI zI r))) := by
 unfold X.l_toIntS at H
 refine fn_fr (fn := Tryz.f18) (ir := l_toIntS_ir) (s1 := lit [(2, ow 900000 1 r)] [(900000, ar 1 eI zI r)]) (res0 := ow 900000 1 r) glL Tryz.func18 (by kernel_rfl) (by kernel_rfl) (by kernel_rfl) (by kernel_rfl) (FrTo.own rfl (Nat.le_refl _) (fun i _ => ⟨rfl, rfl⟩)) ?_
 refine sn [] [] [] [] [] id ?_
 obtain ⟨g1, H⟩ := oI H
 refine sn [fh eI zI (List.replicate (p0.length : Int).toNat zI)] [] [(3, ow 7 1 (List.replicate (p0.length : Int).toNat zI))] [] [(7, ar 1 eI zI (List.replicate (p0.length : Int).toNat zI))] (fun t => lI p0 (aI (And.intro g1.1 (And.intro (List.length_replicate (n := (p0.length : Int).toNat) (a := zI)).symm (Nat.le_trans (Nat.le_of_eq List.length_replicate) g1.2 : (List.replicate (p0.length : Int).toNat zI).length ≤ LIM))) (aI (fF_rep eI zI zI (p0.length : Int).toNat) (t)))) ?_
 refine seq_in ?_
 refine sn [] [] [(4, cI 0)] [] [] id ?_
 refine ends_blk ?_
 obtain ⟨y19, h20, H⟩ := oB H
 refine tl [] [(0, dc 1 eI zI p0), (3, ow 7 1 (List.replicate (p0.length : Int).toNat zI)), (4, cI 0)] [(7, ar 1 eI zI (List.replicate (p0.length : Int).toNat zI))] id ?_
 refine loop_in (fun (x : (Int × (List Int))) => lit [(0, dc 1 eI zI p0), (3, ow 7 1 x.2), (4, cI x.1)] [(7, ar 1 eI zI x.2)]) (fun (z : (List Int)) => At (.exit 0) (lit [(3, ow 7 1 z)] [(7, ar 1 eI zI z)])) h20 ?_ ?_
 ·clear H h20
  intro x13 y0 H
  refine seq_in ?_
  refine sn [] [] [(11, cB (decide (x13.1 < (p0.length : Int))))] [] [] (fun t => lI p0 (t)) ?_
  rcases oC H with ⟨c15, H⟩ | ⟨c15, H⟩
  ·refine it c15 ?_
   refine sk ?_
   refine seq_in ?_
   refine ends_blk ?_
   obtain ⟨v16, h17, H⟩ := oB H
   obtain ⟨g18, H⟩ := oI H
   refine oo [.cs (eI v16), .no, .fn 0 (fF eI zI (x13.2.set x13.1.toNat v16))] [] [(0, dc 1 eI zI p0), (3, ow 7 1 x13.2), (4, cI x13.1)] [(7, .arr 1 x13.2.length (fF eI zI (x13.2.set x13.1.toNat v16)) false)] (fun t => (a2 eI h17 (aI g18 (aI rT (aI (nat_lt g18) (aI (by decide : 0 + 1 ≤ 1) (aI (fF_set eI zI x13.2 x13.1.toNat v16 (nat_lt g18) x13.2.length) (t)))))))) ?_
   change EndsI _ _ _ _ _ _
   refine oo [] [.rel 3 ((x13.2.set x13.1.toNat v16).length), .rep 7 ((x13.2.set x13.1.toNat v16).length) (fF eI zI (x13.2.set x13.1.toNat v16))] [(0, dc 1 eI zI p0), (3, ow 7 1 (x13.2.set x13.1.toNat v16)), (4, cI (W (x13.1 + 1)))] [(7, ar 1 eI zI (x13.2.set x13.1.toNat v16))] (fun t => aI (by simp : x13.2.length = (x13.2.set x13.1.toNat v16).length) (aI (Nat.le_of_eq (by simp : (x13.2.set x13.1.toNat v16).length = x13.2.length)) (aI (fun _ _ => rfl : ∀ i, i < (x13.2.set x13.1.toNat v16).length → (fF eI zI (x13.2.set x13.1.toNat v16)) i = (fF eI zI (x13.2.set x13.1.toNat v16)) i) (t)))) ?_
   cases H
   exact rr
  ·refine jf c15 ?_
   refine tl [] [(3, ow 7 1 x13.2)] [(7, ar 1 eI zI x13.2)] id ?_
   refine ends_exit ?_
   cases H
   exact rse
 ·clear h20
  rintro e s ⟨rfl, rfl⟩
  change EndsI _ _ _ _ _ _
  refine sn [] [] [(2, ow 7 1 y19)] [] [] id ?_
  refine tl [.ren 7 900000] [(2, ow 900000 1 y19)] [(900000, ar 1 eI zI y19)] id ?_
  cases H
  exact er
def l_toTerrain_ir : S :=
 (sq [o 1 (.box 5 (.t 0)), o 2 (.alloc [.str [], .nil, .int .i64 0, .int .i64 0, .bool false])]
 (sq [o 3 (.alloc [.str [], .nil, .int .i64 0, .int .i64 0, .bool false])]
 (sq [oa 4 0 1, ol 5 4, oa 6 0 3, os 1 6 5]
 (sq [oa 7 1 1, ol 8 7, o 9 (.call 18 [.t 8]), oa 10 1 3, os 1 10 9]
 (sq [oa 11 2 1, ol 12 11, oa 13 2 3, os 1 13 12]
 (sq [oa 14 3 1, ol 15 14, oa 16 3 3, os 1 16 15]
 (sq [oa 17 4 1, ol 18 17, oa 19 4 3, os 1 19 18]
 (sq [o 20 (.load 5 true (.t 3)), os 5 2 20]
 .ret))))))))
noncomputable def X.l_toTerrain (p0 : TTerrain) : Option TTerrain :=
 ((X.l_toIntS p0.Cost).bind fun v1 => some (TTerrain.mk p0.Name v1 p0.Shift p0.Height p0.Blocks))
theorem l_toTerrain_F_ok (p0 : TTerrain) (r : TTerrain) (H : X.l_toTerrain p0 = some r) : FK 138 [.agg (eTTerrain p0)] (.agg (rTTerrain r)) := by
 unfold X.l_toTerrain at H
 refine fn_fr (fn := Tryz.f138) (ir := l_toTerrain_ir) (s1 := lit [(2, pk 2)] [(2, va (rTTerrain r))]) (res0 := .agg (rTTerrain r)) glL Tryz.func138 (by kernel_rfl) (by kernel_rfl) (by kernel_rfl) (by kernel_rfl) ((And.intro ((.inl ⟨rfl, rfl⟩)) (And.intro ((.inl ⟨rfl, rfl⟩)) (And.intro ((.inl ⟨rfl, rfl⟩)) (And.intro ((.inl ⟨rfl, rfl⟩)) (And.intro ((.inl ⟨rfl, rfl⟩)) trivial)))))) ?_
 refine so [] [] [(1, pk 1), (2, pk 2)] [(1, va (eTTerrain p0)), (2, .var [.str [], .nil, jI 0, jI 0, .bool false] false)] id ?_
 refine sn [] [] [(3, pk 3)] [] [(3, .var [.str [], .nil, jI 0, jI 0, .bool false] false)] id ?_
 refine sn [] [] [] [3] [(3, .var [.str p0.Name, .nil, jI 0, jI 0, .bool false] false)] id ?_
 obtain ⟨v1, h2, H⟩ := oB H
 refine sn [.res (.c (.fr (dat 1 eI zI v1)))] [] [] [3] [(3, .var [.str p0.Name, .fr (dat 1 eI zI v1), jI 0, jI 0, .bool false] false)] (aI (l_toIntS_F_ok p0.Cost v1 h2)) ?_
 refine sn [] [] [] [3] [(3, .var [.str p0.Name, .fr (dat 1 eI zI v1), jI p0.Shift, jI 0, .bool false] false)] id ?_
 refine sn [] [] [] [3] [(3, .var [.str p0.Name, .fr (dat 1 eI zI v1), jI p0.Shift, jI p0.Height, .bool false] false)] id ?_
 refine sn [] [] [] [3] [(3, .var [.str p0.Name, .fr (dat 1 eI zI v1), jI p0.Shift, jI p0.Height, .bool p0.Blocks] false)] id ?_
 refine sn [] [] [] [1, 2] [(2, .var [.str p0.Name, .fr (dat 1 eI zI v1), jI p0.Shift, jI p0.Height, .bool p0.Blocks] false)] id ?_
 refine tl [] [(2, pk 2)] [(2, .var [.str p0.Name, .fr (dat 1 eI zI v1), jI p0.Shift, jI p0.Height, .bool p0.Blocks] false)] id ?_
 cases H
 exact er
def l_toTerrainS_ir : S :=
 (sq [o 2 (.mv (.v (.nil)))]
 (sq [om 5 0, o 6 (.len (.t 5)), o 7 (.msl 5 64 [.str [], .nil, .int .i64 0, .int .i64 0, .bool false] (.t 6)), om 3 7]
 (.seq (sq [o 4 (.mv (iv 0))]
 (.blk 0 (.loop (.seq (sq [om 8 4, om 9 0, o 10 (.len (.t 9)), o 11 (.bin .lss (.t 8) (.t 10))]
   (.ite (.t 11) .skip
   (.exit 0)))
   (.seq (.blk 1 (.ops [om 14 3, om 15 4, om 16 0, om 17 4, o 18 (.iad 5 (.t 16) (.t 17)), o 19 (.load 5 true (.t 18)), o 20 (.call 138 [.t 19]), o 21 (.iad 5 (.t 14) (.t 15)), os 5 21 20]))
   (.ops [om 12 4, o 13 (.bin .add (.t 12) (iv 1)), om 4 13]))))))
 (sq [om 22 3, om 2 22]
 .ret))))
noncomputable def X.l_toTerrainS (p0 : (List TTerrain)) : Option (List TTerrain) :=
 (if 0 ≤ (p0.length : Int) ∧ (p0.length : Int).toNat ≤ LIM then ((loop (fun (x21 : (Int × (List TTerrain))) => ((bif (decide (x21.1 < (p0.length : Int))) then ((at' zTTerrain p0 x21.1).bind fun v24 => ((X.l_toTerrain v24).bind fun v26 => (if 0 ≤ x21.1 ∧ x21.1 < (x21.2.length : Int) then ((some (x21.2.set x21.1.toNat v26)).bind fun l29 => some (Sum.inl ((W (x21.1 + 1)), l29))) else none))) else some (Sum.inr x21.2)) : Option ((Int × (List TTerrain)) ⊕ (List TTerrain)))) (0, (List.replicate (p0.length : Int).toNat zTTerrain))).bind fun y31 => some y31) else none)
theorem l_toTerrainS_F_ok (p0 : (List TTerrain)) (r : (List TTerrain)) (H : X.l_toTerrainS p0 = some r) : FK 87 [.c (dat 5 eTTerrain zTTerrain p0)] (.c (.fr (dat 5 eTTerrain zTTerrain r))) := by
 unfold X.l_toTerrainS at H
 refine fn_fr (fn := Tryz.f87) (ir := l_toTerrainS_ir) (s1 := lit [(2, ow 900000 5 r)] [(900000, ar 5 eTTerrainF zTTerrain r)]) (res0 := ow 900000 5 r) glL Tryz.func87 (by kernel_rfl) (by kernel_rfl) (by kernel_rfl) (by kernel_rfl) (FrTo.own rfl (Nat.le_refl _) (fun i _ => ⟨rfl, rfl⟩)) ?_
 refine sn [] [] [] [] [] id ?_
 obtain ⟨g1, H⟩ := oI H
 refine sn [.fn (List.replicate (p0.length : Int).toNat zTTerrain).length (fun _ => [.str [], .nil, jI 0, jI 0, .bool false])] [.rpw 7 (fF eTTerrainF zTTerrain (List.replicate (p0.length : Int).toNat zTTerrain))] [(3, ow 7 5 (List.replicate (p0.length : Int).toNat zTTerrain))] [] [(7, ar 5 eTTerrainF zTTerrain (List.replicate (p0.length : Int).toNat zTTerrain))] (fun t => lI p0 (aI (And.intro g1.1 (And.intro (List.length_replicate (n := (p0.length : Int).toNat) (a := zTTerrain)).symm (Nat.le_trans (Nat.le_of_eq List.length_replicate) g1.2 : (List.replicate (p0.length : Int).toNat zTTerrain).length ≤ LIM))) (aI (fun _ _ => rfl : ∀ i, i < (List.replicate (p0.length : Int).toNat zTTerrain).length → (fun (_ : Nat) => ([.str [], .nil, jI 0, jI 0, .bool false] : List AC)) i = [.str [], .nil, jI 0, jI 0, .bool false]) (aI (fun i hi => (fF_rep eTTerrainF zTTerrain zTTerrain (p0.length : Int).toNat i hi) ▸ nTTerrainF : ∀ i, i < (List.replicate (p0.length : Int).toNat zTTerrain).length → LeR ((fun (_ : Nat) => ([.str [], .nil, jI 0, jI 0, .bool false] : List AC)) i) ((fF eTTerrainF zTTerrain (List.replicate (p0.length : Int).toNat zTTerrain)) i)) (t))))) ?_
 refine seq_in ?_
 refine sn [] [] [(4, cI 0)] [] [] id ?_
 refine ends_blk ?_
 obtain ⟨y31, h32, H⟩ := oB H
 refine tl [] [(0, dc 5 eTTerrain zTTerrain p0), (3, ow 7 5 (List.replicate (p0.length : Int).toNat zTTerrain)), (4, cI 0)] [(7, ar 5 eTTerrainF zTTerrain (List.replicate (p0.length : Int).toNat zTTerrain))] id ?_
 refine loop_in (fun (x : (Int × (List TTerrain))) => lit [(0, dc 5 eTTerrain zTTerrain p0), (3, ow 7 5 x.2), (4, cI x.1)] [(7, ar 5 eTTerrainF zTTerrain x.2)]) (fun (z : (List TTerrain)) => At (.exit 0) (lit [(3, ow 7 5 z)] [(7, ar 5 eTTerrainF zTTerrain z)])) h32 ?_ ?_
 ·clear H h32
  intro x21 y0 H
  refine seq_in ?_
  refine sn [] [] [(11, cB (decide (x21.1 < (p0.length : Int))))] [] [] (fun t => lI p0 (t)) ?_
  rcases oC H with ⟨c23, H⟩ | ⟨c23, H⟩
  ·refine it c23 ?_
   refine sk ?_
   refine seq_in ?_
   refine ends_blk ?_
   obtain ⟨v24, h25, H⟩ := oB H
   obtain ⟨v26, h27, H⟩ := oB H
   obtain ⟨g28, H⟩ := oI H
   obtain ⟨l29, h30, H⟩ := oB H
   refine oo [.cs (eTTerrain v24), .res (.agg (rTTerrain v26)), .no, .fn 0 (fF eTTerrainF zTTerrain l29)] [] [(0, dc 5 eTTerrain zTTerrain p0), (3, ow 7 5 x21.2), (4, cI x21.1)] [(7, .arr 5 x21.2.length (fF eTTerrainF zTTerrain l29) false)] (fun t => (a2 eTTerrain h25 (aI (l_toTerrain_F_ok v24 v26 h27) (aI g28 (aI rT (aI (nat_lt g28) (aI (by decide : 0 + 5 ≤ 5) (aI (fF_setN eTTerrainF zTTerrain h30 (nat_lt g28) x21.2.length) (t))))))))) ?_
   change EndsI _ _ _ _ _ _
   refine oo [] [.rel 3 l29.length, .rep 7 l29.length (fF eTTerrainF zTTerrain l29)] [(0, dc 5 eTTerrain zTTerrain p0), (3, ow 7 5 l29), (4, cI (W (x21.1 + 1)))] [(7, ar 5 eTTerrainF zTTerrain l29)] (fun t => aI (by simp [lenN h30] : x21.2.length = l29.length) (aI (Nat.le_of_eq (by simp [lenN h30] : l29.length = x21.2.length)) (aI (fun _ _ => rfl : ∀ i, i < l29.length → (fF eTTerrainF zTTerrain l29) i = (fF eTTerrainF zTTerrain l29) i) (t)))) ?_
   cases H
   exact rr
  ·refine jf c23 ?_
   refine tl [] [(3, ow 7 5 x21.2)] [(7, ar 5 eTTerrainF zTTerrain x21.2)] id ?_
   refine ends_exit ?_
   cases H
   exact rse
 ·clear h32
  rintro e s ⟨rfl, rfl⟩
  change EndsI _ _ _ _ _ _
  refine sn [] [] [(2, ow 7 5 y31)] [] [] id ?_
  refine tl [.ren 7 900000] [(2, ow 900000 5 y31)] [(900000, ar 5 eTTerrainF zTTerrain y31)] id ?_
  cases H
  exact er
def l_toKind_ir : S :=
 (sq [o 1 (.box 6 (.t 0)), o 2 (.alloc [.str [], .int .i64 0, .int .i64 0, .int .i64 0, .bool false, .int .i64 0])]
 (sq [o 3 (.alloc [.str [], .int .i64 0, .int .i64 0, .int .i64 0, .bool false, .int .i64 0])]
 (sq [oa 4 0 1, ol 5 4, oa 6 0 3, os 1 6 5]
 (sq [oa 7 1 1, ol 8 7, oa 9 1 3, os 1 9 8]
 (sq [oa 10 2 1, ol 11 10, oa 12 2 3, os 1 12 11]
 (sq [oa 13 3 1, ol 14 13, oa 15 3 3, os 1 15 14]
 (sq [oa 16 4 1, ol 17 16, oa 18 4 3, os 1 18 17]
 (sq [oa 19 5 1, ol 20 19, oa 21 5 3, os 1 21 20]
 (sq [o 22 (.load 6 true (.t 3)), os 6 2 22]
 .ret)))))))))
noncomputable def X.l_toKind (p0 : TKind) : Option TKind :=
 some p0
theorem l_toKind_ok (p0 : TKind) (r : TKind) (H : X.l_toKind p0 = some r) : FK 139 [.agg (eTKind p0)] (.agg (eTKind r)) := by
 unfold X.l_toKind at H
 refine fi Tryz.f139 l_toKind_ir [(2, pk 2)] [(2, va (eTKind r))] glL Tryz.func139 ?_
 refine so [] [] [(1, pk 1), (2, pk 2)] [(1, va (eTKind p0)), (2, .var [.str [], jI 0, jI 0, jI 0, .bool false, jI 0] false)] id ?_
 refine sn [] [] [(3, pk 3)] [] [(3, .var [.str [], jI 0, jI 0, jI 0, .bool false, jI 0] false)] id ?_
 refine sn [] [] [] [3] [(3, .var [.str p0.Name, jI 0, jI 0, jI 0, .bool false, jI 0] false)] id ?_
 refine sn [] [] [] [3] [(3, .var [.str p0.Name, jI p0.Strength, jI 0, jI 0, .bool false, jI 0] false)] id ?_
 refine sn [] [] [] [3] [(3, .var [.str p0.Name, jI p0.Strength, jI p0.Moves, jI 0, .bool false, jI 0] false)] id ?_
 refine sn [] [] [] [3] [(3, .var [.str p0.Name, jI p0.Strength, jI p0.Moves, jI p0.Steps, .bool false, jI 0] false)] id ?_
 refine sn [] [] [] [3] [(3, .var [.str p0.Name, jI p0.Strength, jI p0.Moves, jI p0.Steps, .bool p0.Zone, jI 0] false)] id ?_
 refine sn [] [] [] [3] [(3, va (eTKind p0))] id ?_
 refine sn [] [] [] [1, 2] [(2, va (eTKind p0))] id ?_
 refine tl [] [(2, pk 2)] [(2, va (eTKind p0))] id ?_
 cases H
 exact er
def l_toKindS_ir : S :=
 (sq [o 2 (.mv (.v (.nil)))]
 (sq [om 5 0, o 6 (.len (.t 5)), o 7 (.msl 6 56 [.str [], .int .i64 0, .int .i64 0, .int .i64 0, .bool false, .int .i64 0] (.t 6)), om 3 7]
 (.seq (sq [o 4 (.mv (iv 0))]
 (.blk 0 (.loop (.seq (sq [om 8 4, om 9 0, o 10 (.len (.t 9)), o 11 (.bin .lss (.t 8) (.t 10))]
   (.ite (.t 11) .skip
   (.exit 0)))
   (.seq (.blk 1 (.ops [om 14 3, om 15 4, om 16 0, om 17 4, o 18 (.iad 6 (.t 16) (.t 17)), o 19 (.load 6 true (.t 18)), o 20 (.call 139 [.t 19]), o 21 (.iad 6 (.t 14) (.t 15)), os 6 21 20]))
   (.ops [om 12 4, o 13 (.bin .add (.t 12) (iv 1)), om 4 13]))))))
 (sq [om 22 3, om 2 22]
 .ret))))
noncomputable def X.l_toKindS (p0 : (List TKind)) : Option (List TKind) :=
 (if 0 ≤ (p0.length : Int) ∧ (p0.length : Int).toNat ≤ LIM then ((loop (fun (x21 : (Int × (List TKind))) => ((bif (decide (x21.1 < (p0.length : Int))) then ((at' zTKind p0 x21.1).bind fun v24 => ((X.l_toKind v24).bind fun v26 => (if 0 ≤ x21.1 ∧ x21.1 < (x21.2.length : Int) then ((some (x21.2.set x21.1.toNat v26)).bind fun l29 => some (Sum.inl ((W (x21.1 + 1)), l29))) else none))) else some (Sum.inr x21.2)) : Option ((Int × (List TKind)) ⊕ (List TKind)))) (0, (List.replicate (p0.length : Int).toNat zTKind))).bind fun y31 => some y31) else none)
theorem l_toKindS_F_ok (p0 : (List TKind)) (r : (List TKind)) (H : X.l_toKindS p0 = some r) : FK 88 [.c (dat 6 eTKind zTKind p0)] (.c (.fr (dat 6 eTKind zTKind r))) := by
 unfold X.l_toKindS at H
 refine fn_fr (fn := Tryz.f88) (ir := l_toKindS_ir) (s1 := lit [(2, ow 900000 6 r)] [(900000, ar 6 eTKind zTKind r)]) (res0 := ow 900000 6 r) glL Tryz.func88 (by kernel_rfl) (by kernel_rfl) (by kernel_rfl) (by kernel_rfl) (FrTo.own rfl (Nat.le_refl _) (fun i _ => ⟨rfl, rfl⟩)) ?_
 refine sn [] [] [] [] [] id ?_
 obtain ⟨g1, H⟩ := oI H
 refine sn [fh eTKind zTKind (List.replicate (p0.length : Int).toNat zTKind)] [] [(3, ow 7 6 (List.replicate (p0.length : Int).toNat zTKind))] [] [(7, ar 6 eTKind zTKind (List.replicate (p0.length : Int).toNat zTKind))] (fun t => lI p0 (aI (And.intro g1.1 (And.intro (List.length_replicate (n := (p0.length : Int).toNat) (a := zTKind)).symm (Nat.le_trans (Nat.le_of_eq List.length_replicate) g1.2 : (List.replicate (p0.length : Int).toNat zTKind).length ≤ LIM))) (aI (fF_rep eTKind zTKind zTKind (p0.length : Int).toNat) (t)))) ?_
 refine seq_in ?_
 refine sn [] [] [(4, cI 0)] [] [] id ?_
 refine ends_blk ?_
 obtain ⟨y31, h32, H⟩ := oB H
 refine tl [] [(0, dc 6 eTKind zTKind p0), (3, ow 7 6 (List.replicate (p0.length : Int).toNat zTKind)), (4, cI 0)] [(7, ar 6 eTKind zTKind (List.replicate (p0.length : Int).toNat zTKind))] id ?_
 refine loop_in (fun (x : (Int × (List TKind))) => lit [(0, dc 6 eTKind zTKind p0), (3, ow 7 6 x.2), (4, cI x.1)] [(7, ar 6 eTKind zTKind x.2)]) (fun (z : (List TKind)) => At (.exit 0) (lit [(3, ow 7 6 z)] [(7, ar 6 eTKind zTKind z)])) h32 ?_ ?_
 ·clear H h32
  intro x21 y0 H
  refine seq_in ?_
  refine sn [] [] [(11, cB (decide (x21.1 < (p0.length : Int))))] [] [] (fun t => lI p0 (t)) ?_
  rcases oC H with ⟨c23, H⟩ | ⟨c23, H⟩
  ·refine it c23 ?_
   refine sk ?_
   refine seq_in ?_
   refine ends_blk ?_
   obtain ⟨v24, h25, H⟩ := oB H
   obtain ⟨v26, h27, H⟩ := oB H
   obtain ⟨g28, H⟩ := oI H
   obtain ⟨l29, h30, H⟩ := oB H
   refine oo [.cs (eTKind v24), .res (.agg (eTKind v26)), .no, .fn 0 (fF eTKind zTKind l29)] [] [(0, dc 6 eTKind zTKind p0), (3, ow 7 6 x21.2), (4, cI x21.1)] [(7, .arr 6 x21.2.length (fF eTKind zTKind l29) false)] (fun t => (a2 eTKind h25 (aI (l_toKind_ok v24 v26 h27) (aI g28 (aI rT (aI (nat_lt g28) (aI (by decide : 0 + 6 ≤ 6) (aI (fF_setN eTKind zTKind h30 (nat_lt g28) x21.2.length) (t))))))))) ?_
   change EndsI _ _ _ _ _ _
   refine oo [] [.rel 3 l29.length, .rep 7 l29.length (fF eTKind zTKind l29)] [(0, dc 6 eTKind zTKind p0), (3, ow 7 6 l29), (4, cI (W (x21.1 + 1)))] [(7, ar 6 eTKind zTKind l29)] (fun t => aI (by simp [lenN h30] : x21.2.length = l29.length) (aI (Nat.le_of_eq (by simp [lenN h30] : l29.length = x21.2.length)) (aI (fun _ _ => rfl : ∀ i, i < l29.length → (fF eTKind zTKind l29) i = (fF eTKind zTKind l29) i) (t)))) ?_
   cases H
   exact rr
  ·refine jf c23 ?_
   refine tl [] [(3, ow 7 6 x21.2)] [(7, ar 6 eTKind zTKind x21.2)] id ?_
   refine ends_exit ?_
   cases H
   exact rse
 ·clear h32
  rintro e s ⟨rfl, rfl⟩
  change EndsI _ _ _ _ _ _
  refine sn [] [] [(2, ow 7 6 y31)] [] [] id ?_
  refine tl [.ren 7 900000] [(2, ow 900000 6 y31)] [(900000, ar 6 eTKind zTKind y31)] id ?_
  cases H
  exact er
def l_toRules_ir : S :=
 (sq [o 1 (.box 7 (.t 0)), o 2 (.alloc [.nil, .nil, .int .i64 0, .int .i64 0, .int .i64 0, .int .i64 0, .int .i64 0])]
 (sq [o 3 (.alloc [.nil, .nil, .int .i64 0, .int .i64 0, .int .i64 0, .int .i64 0, .int .i64 0])]
 (sq [oa 4 0 1, ol 5 4, o 6 (.call 87 [.t 5]), oa 7 0 3, os 1 7 6]
 (sq [oa 8 1 1, ol 9 8, o 10 (.call 88 [.t 9]), oa 11 1 3, os 1 11 10]
 (sq [oa 12 2 1, ol 13 12, oa 14 2 3, os 1 14 13]
 (sq [oa 15 3 1, ol 16 15, oa 17 3 3, os 1 17 16]
 (sq [oa 18 4 1, ol 19 18, oa 20 4 3, os 1 20 19]
 (sq [oa 21 5 1, ol 22 21, oa 23 5 3, os 1 23 22]
 (sq [oa 24 6 1, ol 25 24, oa 26 6 3, os 1 26 25]
 (sq [o 27 (.load 7 true (.t 3)), os 7 2 27]
 .ret))))))))))
noncomputable def X.l_toRules (p0 : TRules) : Option TRules :=
 ((X.l_toTerrainS p0.Terrains).bind fun v1 => ((X.l_toKindS p0.Kinds).bind fun v3 => some (TRules.mk v1 v3 p0.Stack p0.River p0.Road p0.Supply p0.Turns)))
theorem l_toRules_F_ok (p0 : TRules) (r : TRules) (H : X.l_toRules p0 = some r) : FK 34 [.agg (eTRules p0)] (.agg (rTRules r)) := by
 unfold X.l_toRules at H
 refine fn_fr (fn := Tryz.f34) (ir := l_toRules_ir) (s1 := lit [(2, pk 2)] [(2, va (rTRules r))]) (res0 := .agg (rTRules r)) glL Tryz.func34 (by kernel_rfl) (by kernel_rfl) (by kernel_rfl) (by kernel_rfl) ((And.intro ((.inl ⟨rfl, rfl⟩)) (And.intro ((.inl ⟨rfl, rfl⟩)) (And.intro ((.inl ⟨rfl, rfl⟩)) (And.intro ((.inl ⟨rfl, rfl⟩)) (And.intro ((.inl ⟨rfl, rfl⟩)) (And.intro ((.inl ⟨rfl, rfl⟩)) (And.intro ((.inl ⟨rfl, rfl⟩)) trivial)))))))) ?_
 refine so [] [] [(1, pk 1), (2, pk 2)] [(1, va (eTRules p0)), (2, .var [.nil, .nil, jI 0, jI 0, jI 0, jI 0, jI 0] false)] id ?_
 refine sn [] [] [(3, pk 3)] [] [(3, .var [.nil, .nil, jI 0, jI 0, jI 0, jI 0, jI 0] false)] id ?_
 obtain ⟨v1, h2, H⟩ := oB H
 refine sn [.res (.c (.fr (dat 5 eTTerrain zTTerrain v1)))] [] [] [3] [(3, .var [.fr (dat 5 eTTerrain zTTerrain v1), .nil, jI 0, jI 0, jI 0, jI 0, jI 0] false)] (aI (l_toTerrainS_F_ok p0.Terrains v1 h2)) ?_
 obtain ⟨v3, h4, H⟩ := oB H
 refine sn [.res (.c (.fr (dat 6 eTKind zTKind v3)))] [] [] [3] [(3, .var [.fr (dat 5 eTTerrain zTTerrain v1), .fr (dat 6 eTKind zTKind v3), jI 0, jI 0, jI 0, jI 0, jI 0] false)] (aI (l_toKindS_F_ok p0.Kinds v3 h4)) ?_
 refine sn [] [] [] [3] [(3, .var [.fr (dat 5 eTTerrain zTTerrain v1), .fr (dat 6 eTKind zTKind v3), jI p0.Stack, jI 0, jI 0, jI 0, jI 0] false)] id ?_
 refine sn [] [] [] [3] [(3, .var [.fr (dat 5 eTTerrain zTTerrain v1), .fr (dat 6 eTKind zTKind v3), jI p0.Stack, jI p0.River, jI 0, jI 0, jI 0] false)] id ?_
 refine sn [] [] [] [3] [(3, .var [.fr (dat 5 eTTerrain zTTerrain v1), .fr (dat 6 eTKind zTKind v3), jI p0.Stack, jI p0.River, jI p0.Road, jI 0, jI 0] false)] id ?_
 refine sn [] [] [] [3] [(3, .var [.fr (dat 5 eTTerrain zTTerrain v1), .fr (dat 6 eTKind zTKind v3), jI p0.Stack, jI p0.River, jI p0.Road, jI p0.Supply, jI 0] false)] id ?_
 refine sn [] [] [] [3] [(3, .var [.fr (dat 5 eTTerrain zTTerrain v1), .fr (dat 6 eTKind zTKind v3), jI p0.Stack, jI p0.River, jI p0.Road, jI p0.Supply, jI p0.Turns] false)] id ?_
 refine so [] [] [(2, pk 2)] [(2, .var [.fr (dat 5 eTTerrain zTTerrain v1), .fr (dat 6 eTKind zTKind v3), jI p0.Stack, jI p0.River, jI p0.Road, jI p0.Supply, jI p0.Turns] false)] id ?_
 cases H
 exact er
def l_toMap_ir : S :=
 (sq [o 1 (.box 5 (.t 0)), o 2 (.alloc [.int .i64 0, .int .i64 0, .nil, .nil, .nil])]
 (sq [o 3 (.alloc [.int .i64 0, .int .i64 0, .nil, .nil, .nil])]
 (sq [oa 4 0 1, ol 5 4, oa 6 0 3, os 1 6 5]
 (sq [oa 7 1 1, ol 8 7, oa 9 1 3, os 1 9 8]
 (sq [oa 10 2 1, ol 11 10, o 12 (.call 18 [.t 11]), oa 13 2 3, os 1 13 12]
 (sq [oa 14 3 1, ol 15 14, o 16 (.call 18 [.t 15]), oa 17 3 3, os 1 17 16]
 (sq [oa 18 4 1, ol 19 18, o 20 (.call 18 [.t 19]), oa 21 4 3, os 1 21 20]
 (sq [o 22 (.load 5 true (.t 3)), os 5 2 22]
 .ret))))))))
noncomputable def X.l_toMap (p0 : TMap) : Option TMap :=
 ((X.l_toIntS p0.Terrain).bind fun v1 => ((X.l_toIntS p0.Rivers).bind fun v3 => ((X.l_toIntS p0.Roads).bind fun v5 => some (TMap.mk p0.Width p0.Height v1 v3 v5))))
theorem l_toMap_F_ok (p0 : TMap) (r : TMap) (H : X.l_toMap p0 = some r) : FK 35 [.agg (eTMap p0)] (.agg (rTMap r)) := by
 unfold X.l_toMap at H
 refine fn_fr (fn := Tryz.f35) (ir := l_toMap_ir) (s1 := lit [(2, pk 2)] [(2, va (rTMap r))]) (res0 := .agg (rTMap r)) glL Tryz.func35 (by kernel_rfl) (by kernel_rfl) (by kernel_rfl) (by kernel_rfl) ((And.intro ((.inl ⟨rfl, rfl⟩)) (And.intro ((.inl ⟨rfl, rfl⟩)) (And.intro ((.inl ⟨rfl, rfl⟩)) (And.intro ((.inl ⟨rfl, rfl⟩)) (And.intro ((.inl ⟨rfl, rfl⟩)) trivial)))))) ?_
 refine so [] [] [(1, pk 1), (2, pk 2)] [(1, va (eTMap p0)), (2, .var [jI 0, jI 0, .nil, .nil, .nil] false)] id ?_
 refine sn [] [] [(3, pk 3)] [] [(3, .var [jI 0, jI 0, .nil, .nil, .nil] false)] id ?_
 refine sn [] [] [] [3] [(3, .var [jI p0.Width, jI 0, .nil, .nil, .nil] false)] id ?_
 refine sn [] [] [] [3] [(3, .var [jI p0.Width, jI p0.Height, .nil, .nil, .nil] false)] id ?_
 obtain ⟨v1, h2, H⟩ := oB H
 refine sn [.res (.c (.fr (dat 1 eI zI v1)))] [] [] [3] [(3, .var [jI p0.Width, jI p0.Height, .fr (dat 1 eI zI v1), .nil, .nil] false)] (aI (l_toIntS_F_ok p0.Terrain v1 h2)) ?_
 obtain ⟨v3, h4, H⟩ := oB H
 refine sn [.res (.c (.fr (dat 1 eI zI v3)))] [] [] [3] [(3, .var [jI p0.Width, jI p0.Height, .fr (dat 1 eI zI v1), .fr (dat 1 eI zI v3), .nil] false)] (aI (l_toIntS_F_ok p0.Rivers v3 h4)) ?_
 obtain ⟨v5, h6, H⟩ := oB H
 refine sn [.res (.c (.fr (dat 1 eI zI v5)))] [] [] [3] [(3, .var [jI p0.Width, jI p0.Height, .fr (dat 1 eI zI v1), .fr (dat 1 eI zI v3), .fr (dat 1 eI zI v5)] false)] (aI (l_toIntS_F_ok p0.Roads v5 h6)) ?_
 refine sn [] [] [] [1, 2] [(2, .var [jI p0.Width, jI p0.Height, .fr (dat 1 eI zI v1), .fr (dat 1 eI zI v3), .fr (dat 1 eI zI v5)] false)] id ?_
 refine tl [] [(2, pk 2)] [(2, .var [jI p0.Width, jI p0.Height, .fr (dat 1 eI zI v1), .fr (dat 1 eI zI v3), .fr (dat 1 eI zI v5)] false)] id ?_
 cases H
 exact er
def l_toBoard_ir : S :=
 (sq [o 1 (.box 12 (.t 0)), o 2 (.alloc [.nil, .nil, .int .i64 0, .int .i64 0, .int .i64 0, .int .i64 0, .int .i64 0, .int .i64 0, .int .i64 0, .nil, .nil, .nil])]
 (sq [o 3 (.alloc [.nil, .nil, .int .i64 0, .int .i64 0, .int .i64 0, .int .i64 0, .int .i64 0, .int .i64 0, .int .i64 0, .nil, .nil, .nil])]
 (sq [oa 4 0 1, o 5 (.load 7 true (.t 4)), o 6 (.call 34 [.t 5]), oa 7 0 3, os 7 7 6]
 (sq [oa 8 7 1, o 9 (.load 5 true (.t 8)), o 10 (.call 35 [.t 9]), oa 11 7 3, os 5 11 10]
 (sq [o 12 (.load 12 true (.t 3)), os 12 2 12]
 .ret)))))
noncomputable def X.l_toBoard (p0 : TBoard) : Option TBoard :=
 ((X.l_toRules p0.Rules).bind fun v1 => ((X.l_toMap p0.Map).bind fun v3 => some (TBoard.mk v1 v3)))
theorem l_toBoard_F_ok (p0 : TBoard) (r : TBoard) (H : X.l_toBoard p0 = some r) : FK 8 [.agg (eTBoard p0)] (.agg (rTBoard r)) := by
 unfold X.l_toBoard at H
 refine fn_fr (fn := Tryz.f8) (ir := l_toBoard_ir) (s1 := lit [(2, pk 2)] [(2, va (rTBoard r))]) (res0 := .agg (rTBoard r)) glL Tryz.func8 (by kernel_rfl) (by kernel_rfl) (by kernel_rfl) (by kernel_rfl) ((And.intro ((.inl ⟨rfl, rfl⟩)) (And.intro ((.inl ⟨rfl, rfl⟩)) (And.intro ((.inl ⟨rfl, rfl⟩)) (And.intro ((.inl ⟨rfl, rfl⟩)) (And.intro ((.inl ⟨rfl, rfl⟩)) (And.intro ((.inl ⟨rfl, rfl⟩)) (And.intro ((.inl ⟨rfl, rfl⟩)) (And.intro ((.inl ⟨rfl, rfl⟩)) (And.intro ((.inl ⟨rfl, rfl⟩)) (And.intro ((.inl ⟨rfl, rfl⟩)) (And.intro ((.inl ⟨rfl, rfl⟩)) (And.intro ((.inl ⟨rfl, rfl⟩)) trivial))))))))))))) ?_
 refine so [] [] [(1, pk 1), (2, pk 2)] [(1, va (eTBoard p0)), (2, .var [.nil, .nil, jI 0, jI 0, jI 0, jI 0, jI 0, jI 0, jI 0, .nil, .nil, .nil] false)] id ?_
 refine sn [] [] [(3, pk 3)] [] [(3, .var [.nil, .nil, jI 0, jI 0, jI 0, jI 0, jI 0, jI 0, jI 0, .nil, .nil, .nil] false)] id ?_
 obtain ⟨v1, h2, H⟩ := oB H
 refine sn [.res (.agg (rTRules v1))] [] [] [3] [(3, .var [.fr (dat 5 eTTerrain zTTerrain v1.Terrains), .fr (dat 6 eTKind zTKind v1.Kinds), jI v1.Stack, jI v1.River, jI v1.Road, jI v1.Supply, jI v1.Turns, jI 0, jI 0, .nil, .nil, .nil] false)] (aI (l_toRules_F_ok p0.Rules v1 h2)) ?_
 obtain ⟨v3, h4, H⟩ := oB H
 refine sn [.res (.agg (rTMap v3))] [] [] [3] [(3, .var [.fr (dat 5 eTTerrain zTTerrain v1.Terrains), .fr (dat 6 eTKind zTKind v1.Kinds), jI v1.Stack, jI v1.River, jI v1.Road, jI v1.Supply, jI v1.Turns, jI v3.Width, jI v3.Height, .fr (dat 1 eI zI v3.Terrain), .fr (dat 1 eI zI v3.Rivers), .fr (dat 1 eI zI v3.Roads)] false)] (aI (l_toMap_F_ok p0.Map v3 h4)) ?_
 refine sn [] [] [] [1, 2] [(2, .var [.fr (dat 5 eTTerrain zTTerrain v1.Terrains), .fr (dat 6 eTKind zTKind v1.Kinds), jI v1.Stack, jI v1.River, jI v1.Road, jI v1.Supply, jI v1.Turns, jI v3.Width, jI v3.Height, .fr (dat 1 eI zI v3.Terrain), .fr (dat 1 eI zI v3.Rivers), .fr (dat 1 eI zI v3.Roads)] false)] id ?_
 refine tl [] [(2, pk 2)] [(2, .var [.fr (dat 5 eTTerrain zTTerrain v1.Terrains), .fr (dat 6 eTKind zTKind v1.Kinds), jI v1.Stack, jI v1.River, jI v1.Road, jI v1.Supply, jI v1.Turns, jI v3.Width, jI v3.Height, .fr (dat 1 eI zI v3.Terrain), .fr (dat 1 eI zI v3.Rivers), .fr (dat 1 eI zI v3.Roads)] false)] id ?_
 cases H
 exact er
def l_eqIntS_ir : S :=
 (sq [o 4 (.mv bF)]
 (.seq (sq [om 6 0, o 7 (.len (.t 6)), om 8 1, o 9 (.len (.t 8)), o 10 (.bin .neq (.t 7) (.t 9))]
 (.ite (.t 10) (sq [o 4 (.mv bF)]
  .ret)
 .skip))
 (.seq (sq [o 5 (.mv (iv 0))]
 (.blk 0 (.loop (.seq (sq [om 11 5, om 12 0, o 13 (.len (.t 12)), o 14 (.bin .lss (.t 11) (.t 13))]
   (.ite (.t 14) .skip
   (.exit 0)))
   (.seq (.blk 1 (.seq (.drw [(0, 1), (0, 4), (1, 4), (2, 4), (3, 4), (0, 5), (1, 5), (2, 5), (3, 5), (4, 5), (0, 6), (1, 6), (2, 6), (3, 6), (0, 7), (1, 7), (2, 7), (3, 7)] [om 17 0, om 18 5, o 19 (.iad 1 (.t 17) (.t 18)), ol 20 19, om 21 1, om 22 5, o 23 (.iad 1 (.t 21) (.t 22)), ol 24 23, o 25 (.bin .neq (.t 20) (.t 24))])
    (.ite (.t 25) (sq [o 4 (.mv bF)]
     .ret)
    .skip)))
   (.ops [om 15 5, o 16 (.bin .add (.t 15) (iv 1)), om 5 16]))))))
 (sq [o 4 (.mv bT)]
 .ret))))
noncomputable def X.l_eqIntS (p0 : (List Int)) (p1 : (List Int)) : Option Bool :=
 (bif ((p0.length : Int) != (p1.length : Int)) then some false else ((loop (fun (x18 : Int) => ((bif (decide (x18 < (p0.length : Int))) then ((at' zI p0 x18).bind fun v21 => ((at' zI p1 x18).bind fun v23 => (bif (v21 != v23) then some (Sum.inr (Sum.inr false)) else some (Sum.inl (W (x18 + 1)))))) else some (Sum.inr (Sum.inl ()))) : Option (Int ⊕ (Unit ⊕ Bool)))) 0).bind fun y26 => (Sum.elim (fun (y28 : Unit) => some true) (fun (y29 : Bool) => some y29) y26)))
theorem l_eqIntS_ok (p0 : (List Int)) (p1 : (List Int)) (r : Bool) (H : X.l_eqIntS p0 p1 = some r) : FK 21 [.c (dat 1 eI zI p0), .c (dat 1 eI zI p1)] (cB r) := by
 unfold X.l_eqIntS at H
 refine fi Tryz.f21 l_eqIntS_ir [(4, cB r)] [] glL Tryz.func21 ?_
 refine sn [] [] [] [] [] id ?_
 refine seq_in ?_
 refine sn [] [] [(10, cB ((p0.length : Int) != (p1.length : Int)))] [] [] (fun t => lI p0 (lI p1 (t))) ?_
 rcases oC H with ⟨c2, H⟩ | ⟨c2, H⟩
 ·refine it c2 ?_
  refine so [] [] [(4, cB false)] [] id ?_
  cases H
  exact er
 ·refine jf c2 ?_
  refine sk ?_
  refine seq_in ?_
  refine sn [] [] [(5, cI 0)] [] [] id ?_
  refine ends_blk ?_
  obtain ⟨y26, h27, H⟩ := oB H
  refine tl [] [(0, dc 1 eI zI p0), (1, dc 1 eI zI p1), (5, cI 0)] [] id ?_
  refine loop_in (fun (x : Int) => lit [(0, dc 1 eI zI p0), (1, dc 1 eI zI p1), (5, cI x)] []) (orJ (fun (z : Unit) => At (.exit 0) (lit [] [])) (fun (z : Bool) => At .ret (lit [(4, cB z)] []))) h27 ?_ ?_
  ·clear H h27
   intro x18 y0 H
   refine seq_in ?_
   refine sn [] [] [(14, cB (decide (x18 < (p0.length : Int))))] [] [] (fun t => lI p0 (t)) ?_
   rcases oC H with ⟨c20, H⟩ | ⟨c20, H⟩
   ·refine it c20 ?_
    refine sk ?_
    refine seq_in ?_
    refine ends_blk ?_
    obtain ⟨v21, h22, H⟩ := oB H
    obtain ⟨v23, h24, H⟩ := oB H
    refine xn [.cs (eI v21), .cs (eI v23)] [] [(25, cB (v21 != v23))] [] [] (fun t => (a2 eI h22 (aI rN ((a2 eI h24 (aI rN (t))))))) ?_
    rcases oC H with ⟨c25, H⟩ | ⟨c25, H⟩
    ·refine it c25 ?_
     refine so [] [] [(4, cB false)] [] id ?_
     refine ends_ret ?_
     cases H
     exact rsr
    ·refine jf c25 ?_
     refine sk ?_
     refine oo [] [] [(0, dc 1 eI zI p0), (1, dc 1 eI zI p1), (5, cI (W (x18 + 1)))] [] id ?_
     cases H
     exact rr
   ·refine jf c20 ?_
    refine tl [] [] [] id ?_
    refine ends_exit ?_
    cases H
    exact rse
  ·clear h27
   cases y26 with
   | inl y28 =>
    replace H := ofInl H
    rintro e s ⟨rfl, rfl⟩
    change EndsI _ _ _ _ _ _
    refine so [] [] [(4, cB true)] [] id ?_
    cases H
    exact er
   | inr y29 =>
    replace H := ofInr H
    rintro e s ⟨rfl, rfl⟩
    cases H
    exact qr
def l_eqTerrain_ir : S :=
 (sq [o 2 (.box 5 (.t 0)), o 3 (.box 5 (.t 1)), o 4 (.mv bF)]
 (.seq (sq [oa 5 0 2, ol 6 5, oa 7 0 3, ol 8 7, o 9 (.bin .neq (.t 6) (.t 8))]
 (.ite (.t 9) (sq [o 4 (.mv bF)]
  .ret)
 .skip))
 (.seq (sq [oa 10 1 2, ol 11 10, oa 12 1 3, ol 13 12, o 14 (.call 21 [.t 11, .t 13]), o 15 (.not (.t 14))]
 (.ite (.t 15) (sq [o 4 (.mv bF)]
  .ret)
 .skip))
 (.seq (sq [oa 16 2 2, ol 17 16, oa 18 2 3, ol 19 18, o 20 (.bin .neq (.t 17) (.t 19))]
 (.ite (.t 20) (sq [o 4 (.mv bF)]
  .ret)
 .skip))
 (.seq (sq [oa 21 3 2, ol 22 21, oa 23 3 3, ol 24 23, o 25 (.bin .neq (.t 22) (.t 24))]
 (.ite (.t 25) (sq [o 4 (.mv bF)]
  .ret)
 .skip))
 (.seq (sq [oa 26 4 2, ol 27 26, oa 28 4 3, ol 29 28, o 30 (.bqe true (.t 27) (.t 29))]
 (.ite (.t 30) (sq [o 4 (.mv bF)]
  .ret)
 .skip))
 (sq [o 4 (.mv bT)]
 .ret)))))))
noncomputable def X.l_eqTerrain (p0 : TTerrain) (p1 : TTerrain) : Option Bool :=
 (bif (!(p0.Name == p1.Name)) then some false else ((X.l_eqIntS p0.Cost p1.Cost).bind fun v6 => (bif (!v6) then some false else (bif (p0.Shift != p1.Shift) then some false else (bif (p0.Height != p1.Height) then some false else (bif (!(p0.Blocks == p1.Blocks)) then some false else some true))))))
theorem l_eqTerrain_ok (p0 : TTerrain) (p1 : TTerrain) (r : Bool) (H : X.l_eqTerrain p0 p1 = some r) : FK 157 [.agg (eTTerrain p0), .agg (eTTerrain p1)] (cB r) := by
 unfold X.l_eqTerrain at H
 refine fi Tryz.f157 l_eqTerrain_ir [(4, cB r)] [] glL Tryz.func157 ?_
 refine so [] [] [(2, pk 2), (3, pk 3)] [(2, va (eTTerrain p0)), (3, va (eTTerrain p1))] id ?_
 refine seq_in ?_
 refine sn [] [] [(9, cB (!(p0.Name == p1.Name)))] [] [] id ?_
 rcases oC H with ⟨c2, H⟩ | ⟨c2, H⟩
 ·refine it c2 ?_
  refine so [] [] [(4, cB false)] [] id ?_
  cases H
  exact er
 ·refine jf c2 ?_
  refine sk ?_
  refine seq_in ?_
  obtain ⟨v6, h7, H⟩ := oB H
  refine sn [.res (cB v6)] [] [(15, cB (!v6))] [] [] (aI (l_eqIntS_ok p0.Cost p1.Cost v6 h7)) ?_
  rcases oC H with ⟨c8, H⟩ | ⟨c8, H⟩
  ·refine it c8 ?_
   refine so [] [] [(4, cB false)] [] id ?_
   cases H
   exact er
  ·refine jf c8 ?_
   refine sk ?_
   refine seq_in ?_
   refine sn [] [] [(20, cB (p0.Shift != p1.Shift))] [] [] id ?_
   rcases oC H with ⟨c10, H⟩ | ⟨c10, H⟩
   ·refine it c10 ?_
    refine so [] [] [(4, cB false)] [] id ?_
    cases H
    exact er
   ·refine jf c10 ?_
    refine sk ?_
    refine seq_in ?_
    refine sn [] [] [(25, cB (p0.Height != p1.Height))] [] [] id ?_
    rcases oC H with ⟨c12, H⟩ | ⟨c12, H⟩
    ·refine it c12 ?_
     refine so [] [] [(4, cB false)] [] id ?_
     cases H
     exact er
    ·refine jf c12 ?_
     refine sk ?_
     refine seq_in ?_
     refine so [] [] [(30, cB (!(p0.Blocks == p1.Blocks)))] [] id ?_
     rcases oC H with ⟨c13, H⟩ | ⟨c13, H⟩
     ·refine it c13 ?_
      refine so [] [] [(4, cB false)] [] id ?_
      cases H
      exact er
     ·refine jf c13 ?_
      refine sk ?_
      refine so [] [] [(4, cB true)] [] id ?_
      cases H
      exact er
def l_eqTerrainS_ir : S :=
 (sq [o 4 (.mv bF)]
 (.seq (sq [om 6 0, o 7 (.len (.t 6)), om 8 1, o 9 (.len (.t 8)), o 10 (.bin .neq (.t 7) (.t 9))]
 (.ite (.t 10) (sq [o 4 (.mv bF)]
  .ret)
 .skip))
 (.seq (sq [o 5 (.mv (iv 0))]
 (.blk 0 (.loop (.seq (sq [om 11 5, om 12 0, o 13 (.len (.t 12)), o 14 (.bin .lss (.t 11) (.t 13))]
   (.ite (.t 14) .skip
   (.exit 0)))
   (.seq (.blk 1 (.seq (.drw [(0, 1), (0, 4), (1, 4), (2, 4), (3, 4), (0, 5), (1, 5), (2, 5), (3, 5), (4, 5), (0, 6), (1, 6), (2, 6), (3, 6), (0, 7), (1, 7), (2, 7), (3, 7)] [om 17 0, om 18 5, o 19 (.iad 5 (.t 17) (.t 18)), o 20 (.load 5 true (.t 19)), om 21 1, om 22 5, o 23 (.iad 5 (.t 21) (.t 22)), o 24 (.load 5 true (.t 23)), o 25 (.call 157 [.t 20, .t 24]), o 26 (.not (.t 25))])
    (.ite (.t 26) (sq [o 4 (.mv bF)]
     .ret)
    .skip)))
   (.ops [om 15 5, o 16 (.bin .add (.t 15) (iv 1)), om 5 16]))))))
 (sq [o 4 (.mv bT)]
 .ret))))
noncomputable def X.l_eqTerrainS (p0 : (List TTerrain)) (p1 : (List TTerrain)) : Option Bool :=
 (bif ((p0.length : Int) != (p1.length : Int)) then some false else ((loop (fun (x22 : Int) => ((bif (decide (x22 < (p0.length : Int))) then ((at' zTTerrain p0 x22).bind fun v25 => ((at' zTTerrain p1 x22).bind fun v27 => ((X.l_eqTerrain v25 v27).bind fun v29 => (bif (!v29) then some (Sum.inr (Sum.inr false)) else some (Sum.inl (W (x22 + 1))))))) else some (Sum.inr (Sum.inl ()))) : Option (Int ⊕ (Unit ⊕ Bool)))) 0).bind fun y32 => (Sum.elim (fun (y34 : Unit) => some true) (fun (y35 : Bool) => some y35) y32)))
theorem l_eqTerrainS_ok (p0 : (List TTerrain)) (p1 : (List TTerrain)) (r : Bool) (H : X.l_eqTerrainS p0 p1 = some r) : FK 112 [.c (dat 5 eTTerrain zTTerrain p0), .c (dat 5 eTTerrain zTTerrain p1)] (cB r) := by
 unfold X.l_eqTerrainS at H
 refine fi Tryz.f112 l_eqTerrainS_ir [(4, cB r)] [] glL Tryz.func112 ?_
 refine sn [] [] [] [] [] id ?_
 refine seq_in ?_
 refine sn [] [] [(10, cB ((p0.length : Int) != (p1.length : Int)))] [] [] (fun t => lI p0 (lI p1 (t))) ?_
 rcases oC H with ⟨c2, H⟩ | ⟨c2, H⟩
 ·refine it c2 ?_
  refine so [] [] [(4, cB false)] [] id ?_
  cases H
  exact er
 ·refine jf c2 ?_
  refine sk ?_
  refine seq_in ?_
  refine sn [] [] [(5, cI 0)] [] [] id ?_
  refine ends_blk ?_
  obtain ⟨y32, h33, H⟩ := oB H
  refine tl [] [(0, dc 5 eTTerrain zTTerrain p0), (1, dc 5 eTTerrain zTTerrain p1), (5, cI 0)] [] id ?_
  refine loop_in (fun (x : Int) => lit [(0, dc 5 eTTerrain zTTerrain p0), (1, dc 5 eTTerrain zTTerrain p1), (5, cI x)] []) (orJ (fun (z : Unit) => At (.exit 0) (lit [] [])) (fun (z : Bool) => At .ret (lit [(4, cB z)] []))) h33 ?_ ?_
  ·clear H h33
   intro x22 y0 H
   refine seq_in ?_
   refine sn [] [] [(14, cB (decide (x22 < (p0.length : Int))))] [] [] (fun t => lI p0 (t)) ?_
   rcases oC H with ⟨c24, H⟩ | ⟨c24, H⟩
   ·refine it c24 ?_
    refine sk ?_
    refine seq_in ?_
    refine ends_blk ?_
    obtain ⟨v25, h26, H⟩ := oB H
    obtain ⟨v27, h28, H⟩ := oB H
    obtain ⟨v29, h30, H⟩ := oB H
    refine xn [.cs (eTTerrain v25), .cs (eTTerrain v27), .res (cB v29)] [] [(26, cB (!v29))] [] [] (fun t => (a2 eTTerrain h26 (aI rN ((a2 eTTerrain h28 (aI rN (aI (l_eqTerrain_ok v25 v27 v29 h30) (aI trivial (aI rN (t)))))))))) ?_
    rcases oC H with ⟨c31, H⟩ | ⟨c31, H⟩
    ·refine it c31 ?_
     refine so [] [] [(4, cB false)] [] id ?_
     refine ends_ret ?_
     cases H
     exact rsr
    ·refine jf c31 ?_
     refine sk ?_
     refine oo [] [] [(0, dc 5 eTTerrain zTTerrain p0), (1, dc 5 eTTerrain zTTerrain p1), (5, cI (W (x22 + 1)))] [] id ?_
     cases H
     exact rr
   ·refine jf c24 ?_
    refine tl [] [] [] id ?_
    refine ends_exit ?_
    cases H
    exact rse
  ·clear h33
   cases y32 with
   | inl y34 =>
    replace H := ofInl H
    rintro e s ⟨rfl, rfl⟩
    change EndsI _ _ _ _ _ _
    refine so [] [] [(4, cB true)] [] id ?_
    cases H
    exact er
   | inr y35 =>
    replace H := ofInr H
    rintro e s ⟨rfl, rfl⟩
    cases H
    exact qr
def l_eqKind_ir : S :=
 (sq [o 2 (.box 6 (.t 0)), o 3 (.box 6 (.t 1)), o 4 (.mv bF)]
 (.seq (sq [oa 5 0 2, ol 6 5, oa 7 0 3, ol 8 7, o 9 (.bin .neq (.t 6) (.t 8))]
 (.ite (.t 9) (sq [o 4 (.mv bF)]
  .ret)
 .skip))
 (.seq (sq [oa 10 1 2, ol 11 10, oa 12 1 3, ol 13 12, o 14 (.bin .neq (.t 11) (.t 13))]
 (.ite (.t 14) (sq [o 4 (.mv bF)]
  .ret)
 .skip))
 (.seq (sq [oa 15 2 2, ol 16 15, oa 17 2 3, ol 18 17, o 19 (.bin .neq (.t 16) (.t 18))]
 (.ite (.t 19) (sq [o 4 (.mv bF)]
  .ret)
 .skip))
 (.seq (sq [oa 20 3 2, ol 21 20, oa 22 3 3, ol 23 22, o 24 (.bin .neq (.t 21) (.t 23))]
 (.ite (.t 24) (sq [o 4 (.mv bF)]
  .ret)
 .skip))
 (.seq (sq [oa 25 4 2, ol 26 25, oa 27 4 3, ol 28 27, o 29 (.bqe true (.t 26) (.t 28))]
 (.ite (.t 29) (sq [o 4 (.mv bF)]
  .ret)
 .skip))
 (.seq (sq [oa 30 5 2, ol 31 30, oa 32 5 3, ol 33 32, o 34 (.bin .neq (.t 31) (.t 33))]
 (.ite (.t 34) (sq [o 4 (.mv bF)]
  .ret)
 .skip))
 (sq [o 4 (.mv bT)]
 .ret))))))))
noncomputable def X.l_eqKind (p0 : TKind) (p1 : TKind) : Option Bool :=
 (bif (!(p0.Name == p1.Name)) then some false else (bif (p0.Strength != p1.Strength) then some false else (bif (p0.Moves != p1.Moves) then some false else (bif (p0.Steps != p1.Steps) then some false else (bif (!(p0.Zone == p1.Zone)) then some false else (bif (p0.View != p1.View) then some false else some true))))))
theorem l_eqKind_ok (p0 : TKind) (p1 : TKind) (r : Bool) (H : X.l_eqKind p0 p1 = some r) : FK 158 [.agg (eTKind p0), .agg (eTKind p1)] (cB r) := by
 unfold X.l_eqKind at H
 refine fi Tryz.f158 l_eqKind_ir [(4, cB r)] [] glL Tryz.func158 ?_
 refine so [] [] [(2, pk 2), (3, pk 3)] [(2, va (eTKind p0)), (3, va (eTKind p1))] id ?_
 refine seq_in ?_
 refine sn [] [] [(9, cB (!(p0.Name == p1.Name)))] [] [] id ?_
 rcases oC H with ⟨c2, H⟩ | ⟨c2, H⟩
 ·refine it c2 ?_
  refine so [] [] [(4, cB false)] [] id ?_
  cases H
  exact er
 ·refine jf c2 ?_
  refine sk ?_
  refine seq_in ?_
  refine sn [] [] [(14, cB (p0.Strength != p1.Strength))] [] [] id ?_
  rcases oC H with ⟨c4, H⟩ | ⟨c4, H⟩
  ·refine it c4 ?_
   refine so [] [] [(4, cB false)] [] id ?_
   cases H
   exact er
  ·refine jf c4 ?_
   refine sk ?_
   refine seq_in ?_
   refine sn [] [] [(19, cB (p0.Moves != p1.Moves))] [] [] id ?_
   rcases oC H with ⟨c6, H⟩ | ⟨c6, H⟩
   ·refine it c6 ?_
    refine so [] [] [(4, cB false)] [] id ?_
    cases H
    exact er
   ·refine jf c6 ?_
    refine sk ?_
    refine seq_in ?_
    refine sn [] [] [(24, cB (p0.Steps != p1.Steps))] [] [] id ?_
    rcases oC H with ⟨c8, H⟩ | ⟨c8, H⟩
    ·refine it c8 ?_
     refine so [] [] [(4, cB false)] [] id ?_
     cases H
     exact er
    ·refine jf c8 ?_
     refine sk ?_
     refine seq_in ?_
     refine sn [] [] [(29, cB (!(p0.Zone == p1.Zone)))] [] [] id ?_
     rcases oC H with ⟨c10, H⟩ | ⟨c10, H⟩
     ·refine it c10 ?_
      refine so [] [] [(4, cB false)] [] id ?_
      cases H
      exact er
     ·refine jf c10 ?_
      refine sk ?_
      refine seq_in ?_
      refine so [] [] [(34, cB (p0.View != p1.View))] [] id ?_
      rcases oC H with ⟨c11, H⟩ | ⟨c11, H⟩
      ·refine it c11 ?_
       refine so [] [] [(4, cB false)] [] id ?_
       cases H
       exact er
      ·refine jf c11 ?_
       refine sk ?_
       refine so [] [] [(4, cB true)] [] id ?_
       cases H
       exact er
def l_eqKindS_ir : S :=
 (sq [o 4 (.mv bF)]
 (.seq (sq [om 6 0, o 7 (.len (.t 6)), om 8 1, o 9 (.len (.t 8)), o 10 (.bin .neq (.t 7) (.t 9))]
 (.ite (.t 10) (sq [o 4 (.mv bF)]
  .ret)
 .skip))
 (.seq (sq [o 5 (.mv (iv 0))]
 (.blk 0 (.loop (.seq (sq [om 11 5, om 12 0, o 13 (.len (.t 12)), o 14 (.bin .lss (.t 11) (.t 13))]
   (.ite (.t 14) .skip
   (.exit 0)))
   (.seq (.blk 1 (.seq (.drw [(0, 1), (0, 4), (1, 4), (2, 4), (3, 4), (0, 5), (1, 5), (2, 5), (3, 5), (4, 5), (0, 6), (1, 6), (2, 6), (3, 6), (0, 7), (1, 7), (2, 7), (3, 7)] [om 17 0, om 18 5, o 19 (.iad 6 (.t 17) (.t 18)), o 20 (.load 6 true (.t 19)), om 21 1, om 22 5, o 23 (.iad 6 (.t 21) (.t 22)), o 24 (.load 6 true (.t 23)), o 25 (.call 158 [.t 20, .t 24]), o 26 (.not (.t 25))])
    (.ite (.t 26) (sq [o 4 (.mv bF)]
     .ret)
    .skip)))
   (.ops [om 15 5, o 16 (.bin .add (.t 15) (iv 1)), om 5 16]))))))
 (sq [o 4 (.mv bT)]
 .ret))))
noncomputable def X.l_eqKindS (p0 : (List TKind)) (p1 : (List TKind)) : Option Bool :=
 (bif ((p0.length : Int) != (p1.length : Int)) then some false else ((loop (fun (x22 : Int) => ((bif (decide (x22 < (p0.length : Int))) then ((at' zTKind p0 x22).bind fun v25 => ((at' zTKind p1 x22).bind fun v27 => ((X.l_eqKind v25 v27).bind fun v29 => (bif (!v29) then some (Sum.inr (Sum.inr false)) else some (Sum.inl (W (x22 + 1))))))) else some (Sum.inr (Sum.inl ()))) : Option (Int ⊕ (Unit ⊕ Bool)))) 0).bind fun y32 => (Sum.elim (fun (y34 : Unit) => some true) (fun (y35 : Bool) => some y35) y32)))
theorem l_eqKindS_ok (p0 : (List TKind)) (p1 : (List TKind)) (r : Bool) (H : X.l_eqKindS p0 p1 = some r) : FK 113 [.c (dat 6 eTKind zTKind p0), .c (dat 6 eTKind zTKind p1)] (cB r) := by
 unfold X.l_eqKindS at H
 refine fi Tryz.f113 l_eqKindS_ir [(4, cB r)] [] glL Tryz.func113 ?_
 refine sn [] [] [] [] [] id ?_
 refine seq_in ?_
 refine sn [] [] [(10, cB ((p0.length : Int) != (p1.length : Int)))] [] [] (fun t => lI p0 (lI p1 (t))) ?_
 rcases oC H with ⟨c2, H⟩ | ⟨c2, H⟩
 ·refine it c2 ?_
  refine so [] [] [(4, cB false)] [] id ?_
  cases H
  exact er
 ·refine jf c2 ?_
  refine sk ?_
  refine seq_in ?_
  refine sn [] [] [(5, cI 0)] [] [] id ?_
  refine ends_blk ?_
  obtain ⟨y32, h33, H⟩ := oB H
  refine tl [] [(0, dc 6 eTKind zTKind p0), (1, dc 6 eTKind zTKind p1), (5, cI 0)] [] id ?_
  refine loop_in (fun (x : Int) => lit [(0, dc 6 eTKind zTKind p0), (1, dc 6 eTKind zTKind p1), (5, cI x)] []) (orJ (fun (z : Unit) => At (.exit 0) (lit [] [])) (fun (z : Bool) => At .ret (lit [(4, cB z)] []))) h33 ?_ ?_
  ·clear H h33
   intro x22 y0 H
   refine seq_in ?_
   refine sn [] [] [(14, cB (decide (x22 < (p0.length : Int))))] [] [] (fun t => lI p0 (t)) ?_
   rcases oC H with ⟨c24, H⟩ | ⟨c24, H⟩
   ·refine it c24 ?_
    refine sk ?_
    refine seq_in ?_
    refine ends_blk ?_
    obtain ⟨v25, h26, H⟩ := oB H
    obtain ⟨v27, h28, H⟩ := oB H
    obtain ⟨v29, h30, H⟩ := oB H
    refine xn [.cs (eTKind v25), .cs (eTKind v27), .res (cB v29)] [] [(26, cB (!v29))] [] [] (fun t => (a2 eTKind h26 (aI rN ((a2 eTKind h28 (aI rN (aI (l_eqKind_ok v25 v27 v29 h30) (aI trivial (aI rN (t)))))))))) ?_
    rcases oC H with ⟨c31, H⟩ | ⟨c31, H⟩
    ·refine it c31 ?_
     refine so [] [] [(4, cB false)] [] id ?_
     refine ends_ret ?_
     cases H
     exact rsr
    ·refine jf c31 ?_
     refine sk ?_
     refine oo [] [] [(0, dc 6 eTKind zTKind p0), (1, dc 6 eTKind zTKind p1), (5, cI (W (x22 + 1)))] [] id ?_
     cases H
     exact rr
   ·refine jf c24 ?_
    refine tl [] [] [] id ?_
    refine ends_exit ?_
    cases H
    exact rse
  ·clear h33
   cases y32 with
   | inl y34 =>
    replace H := ofInl H
    rintro e s ⟨rfl, rfl⟩
    change EndsI _ _ _ _ _ _
    refine so [] [] [(4, cB true)] [] id ?_
    cases H
    exact er
   | inr y35 =>
    replace H := ofInr H
    rintro e s ⟨rfl, rfl⟩
    cases H
    exact qr
def l_eqRules_ir : S :=
 (sq [o 2 (.box 7 (.t 0)), o 3 (.box 7 (.t 1)), o 4 (.mv bF)]
 (.seq (sq [oa 5 0 2, ol 6 5, oa 7 0 3, ol 8 7, o 9 (.call 112 [.t 6, .t 8]), o 10 (.not (.t 9))]
 (.ite (.t 10) (sq [o 4 (.mv bF)]
  .ret)
 .skip))
 (.seq (sq [oa 11 1 2, ol 12 11, oa 13 1 3, ol 14 13, o 15 (.call 113 [.t 12, .t 14]), o 16 (.not (.t 15))]
 (.ite (.t 16) (sq [o 4 (.mv bF)]
  .ret)
 .skip))
 (.seq (sq [oa 17 2 2, ol 18 17, oa 19 2 3, ol 20 19, o 21 (.bin .neq (.t 18) (.t 20))]
 (.ite (.t 21) (sq [o 4 (.mv bF)]
  .ret)
 .skip))
 (.seq (sq [oa 22 3 2, ol 23 22, oa 24 3 3, ol 25 24, o 26 (.bin .neq (.t 23) (.t 25))]
 (.ite (.t 26) (sq [o 4 (.mv bF)]
  .ret)
 .skip))
 (.seq (sq [oa 27 4 2, ol 28 27, oa 29 4 3, ol 30 29, o 31 (.bin .neq (.t 28) (.t 30))]
 (.ite (.t 31) (sq [o 4 (.mv bF)]
  .ret)
 .skip))
 (.seq (sq [oa 32 5 2, ol 33 32, oa 34 5 3, ol 35 34, o 36 (.bin .neq (.t 33) (.t 35))]
 (.ite (.t 36) (sq [o 4 (.mv bF)]
  .ret)
 .skip))
 (.seq (sq [oa 37 6 2, ol 38 37, oa 39 6 3, ol 40 39, o 41 (.bin .neq (.t 38) (.t 40))]
 (.ite (.t 41) (sq [o 4 (.mv bF)]
  .ret)
 .skip))
 (sq [o 4 (.mv bT)]
 .ret)))))))))
noncomputable def X.l_eqRules (p0 : TRules) (p1 : TRules) : Option Bool :=
 ((X.l_eqTerrainS p0.Terrains p1.Terrains).bind fun v4 => (bif (!v4) then some false else ((X.l_eqKindS p0.Kinds p1.Kinds).bind fun v10 => (bif (!v10) then some false else (bif (p0.Stack != p1.Stack) then some false else (bif (p0.River != p1.River) then some false else (bif (p0.Road != p1.Road) then some false else (bif (p0.Supply != p1.Supply) then some false else (bif (p0.Turns != p1.Turns) then some false else some true)))))))))
theorem l_eqRules_ok (p0 : TRules) (p1 : TRules) (r : Bool) (H : X.l_eqRules p0 p1 = some r) : FK 46 [.agg (eTRules p0), .agg (eTRules p1)] (cB r) := by
 unfold X.l_eqRules at H
 refine fi Tryz.f46 l_eqRules_ir [(4, cB r)] [] glL Tryz.func46 ?_
 refine so [] [] [(2, pk 2), (3, pk 3)] [(2, va (eTRules p0)), (3, va (eTRules p1))] id ?_
 refine seq_in ?_
 obtain ⟨v4, h5, H⟩ := oB H
 refine sn [.res (cB v4)] [] [(10, cB (!v4))] [] [] (aI (l_eqTerrainS_ok p0.Terrains p1.Terrains v4 h5)) ?_
 rcases oC H with ⟨c6, H⟩ | ⟨c6, H⟩
 ·refine it c6 ?_
  refine so [] [] [(4, cB false)] [] id ?_
  cases H
  exact er
 ·refine jf c6 ?_
  refine sk ?_
  refine seq_in ?_
  obtain ⟨v10, h11, H⟩ := oB H
  refine sn [.res (cB v10)] [] [(16, cB (!v10))] [] [] (aI (l_eqKindS_ok p0.Kinds p1.Kinds v10 h11)) ?_
  rcases oC H with ⟨c12, H⟩ | ⟨c12, H⟩
  ·refine it c12 ?_
   refine so [] [] [(4, cB false)] [] id ?_
   cases H
   exact er
  ·refine jf c12 ?_
   refine sk ?_
   refine seq_in ?_
   refine sn [] [] [(21, cB (p0.Stack != p1.Stack))] [] [] id ?_
   rcases oC H with ⟨c14, H⟩ | ⟨c14, H⟩
   ·refine it c14 ?_
    refine so [] [] [(4, cB false)] [] id ?_
    cases H
    exact er
   ·refine jf c14 ?_
    refine sk ?_
    refine seq_in ?_
    refine sn [] [] [(26, cB (p0.River != p1.River))] [] [] id ?_
    rcases oC H with ⟨c16, H⟩ | ⟨c16, H⟩
    ·refine it c16 ?_
     refine so [] [] [(4, cB false)] [] id ?_
     cases H
     exact er
    ·refine jf c16 ?_
     refine sk ?_
     refine seq_in ?_
     refine sn [] [] [(31, cB (p0.Road != p1.Road))] [] [] id ?_
     rcases oC H with ⟨c18, H⟩ | ⟨c18, H⟩
     ·refine it c18 ?_
      refine so [] [] [(4, cB false)] [] id ?_
      cases H
      exact er
     ·refine jf c18 ?_
      refine sk ?_
      refine seq_in ?_
      refine sn [] [] [(36, cB (p0.Supply != p1.Supply))] [] [] id ?_
      rcases oC H with ⟨c20, H⟩ | ⟨c20, H⟩
      ·refine it c20 ?_
       refine so [] [] [(4, cB false)] [] id ?_
       cases H
       exact er
      ·refine jf c20 ?_
       refine sk ?_
       refine seq_in ?_
       refine so [] [] [(41, cB (p0.Turns != p1.Turns))] [] id ?_
       rcases oC H with ⟨c21, H⟩ | ⟨c21, H⟩
       ·refine it c21 ?_
        refine so [] [] [(4, cB false)] [] id ?_
        cases H
        exact er
       ·refine jf c21 ?_
        refine sk ?_
        refine so [] [] [(4, cB true)] [] id ?_
        cases H
        exact er
def l_eqMap_ir : S :=
 (sq [o 2 (.box 5 (.t 0)), o 3 (.box 5 (.t 1)), o 4 (.mv bF)]
 (.seq (sq [oa 5 0 2, ol 6 5, oa 7 0 3, ol 8 7, o 9 (.bin .neq (.t 6) (.t 8))]
 (.ite (.t 9) (sq [o 4 (.mv bF)]
  .ret)
 .skip))
 (.seq (sq [oa 10 1 2, ol 11 10, oa 12 1 3, ol 13 12, o 14 (.bin .neq (.t 11) (.t 13))]
 (.ite (.t 14) (sq [o 4 (.mv bF)]
  .ret)
 .skip))
 (.seq (sq [oa 15 2 2, ol 16 15, oa 17 2 3, ol 18 17, o 19 (.call 21 [.t 16, .t 18]), o 20 (.not (.t 19))]
 (.ite (.t 20) (sq [o 4 (.mv bF)]
  .ret)
 .skip))
 (.seq (sq [oa 21 3 2, ol 22 21, oa 23 3 3, ol 24 23, o 25 (.call 21 [.t 22, .t 24]), o 26 (.not (.t 25))]
 (.ite (.t 26) (sq [o 4 (.mv bF)]
  .ret)
 .skip))
 (.seq (sq [oa 27 4 2, ol 28 27, oa 29 4 3, ol 30 29, o 31 (.call 21 [.t 28, .t 30]), o 32 (.not (.t 31))]
 (.ite (.t 32) (sq [o 4 (.mv bF)]
  .ret)
 .skip))
 (sq [o 4 (.mv bT)]
 .ret)))))))
noncomputable def X.l_eqMap (p0 : TMap) (p1 : TMap) : Option Bool :=
 (bif (p0.Width != p1.Width) then some false else (bif (p0.Height != p1.Height) then some false else ((X.l_eqIntS p0.Terrain p1.Terrain).bind fun v8 => (bif (!v8) then some false else ((X.l_eqIntS p0.Rivers p1.Rivers).bind fun v14 => (bif (!v14) then some false else ((X.l_eqIntS p0.Roads p1.Roads).bind fun v17 => (bif (!v17) then some false else some true))))))))
theorem l_eqMap_ok (p0 : TMap) (p1 : TMap) (r : Bool) (H : X.l_eqMap p0 p1 = some r) : FK 47 [.agg (eTMap p0), .agg (eTMap p1)] (cB r) := by
 unfold X.l_eqMap at H
 refine fi Tryz.f47 l_eqMap_ir [(4, cB r)] [] glL Tryz.func47 ?_
 refine so [] [] [(2, pk 2), (3, pk 3)] [(2, va (eTMap p0)), (3, va (eTMap p1))] id ?_
 refine seq_in ?_
 refine sn [] [] [(9, cB (p0.Width != p1.Width))] [] [] id ?_
 rcases oC H with ⟨c2, H⟩ | ⟨c2, H⟩
 ·refine it c2 ?_
  refine so [] [] [(4, cB false)] [] id ?_
  cases H
  exact er
 ·refine jf c2 ?_
  refine sk ?_
  refine seq_in ?_
  refine sn [] [] [(14, cB (p0.Height != p1.Height))] [] [] id ?_
  rcases oC H with ⟨c4, H⟩ | ⟨c4, H⟩
  ·refine it c4 ?_
   refine so [] [] [(4, cB false)] [] id ?_
   cases H
   exact er
  ·refine jf c4 ?_
   refine sk ?_
   refine seq_in ?_
   obtain ⟨v8, h9, H⟩ := oB H
   refine sn [.res (cB v8)] [] [(20, cB (!v8))] [] [] (aI (l_eqIntS_ok p0.Terrain p1.Terrain v8 h9)) ?_
   rcases oC H with ⟨c10, H⟩ | ⟨c10, H⟩
   ·refine it c10 ?_
    refine so [] [] [(4, cB false)] [] id ?_
    cases H
    exact er
   ·refine jf c10 ?_
    refine sk ?_
    refine seq_in ?_
    obtain ⟨v14, h15, H⟩ := oB H
    refine sn [.res (cB v14)] [] [(26, cB (!v14))] [] [] (aI (l_eqIntS_ok p0.Rivers p1.Rivers v14 h15)) ?_
    rcases oC H with ⟨c16, H⟩ | ⟨c16, H⟩
    ·refine it c16 ?_
     refine so [] [] [(4, cB false)] [] id ?_
     cases H
     exact er
    ·refine jf c16 ?_
     refine sk ?_
     refine seq_in ?_
     obtain ⟨v17, h18, H⟩ := oB H
     refine so [.res (cB v17)] [] [(32, cB (!v17))] [] (aI (l_eqIntS_ok p0.Roads p1.Roads v17 h18)) ?_
     rcases oC H with ⟨c19, H⟩ | ⟨c19, H⟩
     ·refine it c19 ?_
      refine so [] [] [(4, cB false)] [] id ?_
      cases H
      exact er
     ·refine jf c19 ?_
      refine sk ?_
      refine so [] [] [(4, cB true)] [] id ?_
      cases H
      exact er
def l_eqBoard_ir : S :=
 (sq [o 2 (.box 12 (.t 0)), o 3 (.box 12 (.t 1)), o 4 (.mv bF)]
 (.seq (sq [oa 5 0 2, o 6 (.load 7 true (.t 5)), oa 7 0 3, o 8 (.load 7 true (.t 7)), o 9 (.call 46 [.t 6, .t 8]), o 10 (.not (.t 9))]
 (.ite (.t 10) (sq [o 4 (.mv bF)]
  .ret)
 .skip))
 (.seq (sq [oa 11 7 2, o 12 (.load 5 true (.t 11)), oa 13 7 3, o 14 (.load 5 true (.t 13)), o 15 (.call 47 [.t 12, .t 14]), o 16 (.not (.t 15))]
 (.ite (.t 16) (sq [o 4 (.mv bF)]
  .ret)
 .skip))
 (sq [o 4 (.mv bT)]
 .ret))))
noncomputable def X.l_eqBoard (p0 : TBoard) (p1 : TBoard) : Option Bool :=
 ((X.l_eqRules p0.Rules p1.Rules).bind fun v4 => (bif (!v4) then some false else ((X.l_eqMap p0.Map p1.Map).bind fun v7 => (bif (!v7) then some false else some true))))
theorem l_eqBoard_ok (p0 : TBoard) (p1 : TBoard) (r : Bool) (H : X.l_eqBoard p0 p1 = some r) : FK 11 [.agg (eTBoard p0), .agg (eTBoard p1)] (cB r) := by
 unfold X.l_eqBoard at H
 refine fi Tryz.f11 l_eqBoard_ir [(4, cB r)] [] glL Tryz.func11 ?_
 refine so [] [] [(2, pk 2), (3, pk 3)] [(2, va (eTBoard p0)), (3, va (eTBoard p1))] id ?_
 refine seq_in ?_
 obtain ⟨v4, h5, H⟩ := oB H
 refine sn [.res (cB v4)] [] [(10, cB (!v4))] [] [] (aI (l_eqRules_ok p0.Rules p1.Rules v4 h5)) ?_
 rcases oC H with ⟨c6, H⟩ | ⟨c6, H⟩
 ·refine it c6 ?_
  refine so [] [] [(4, cB false)] [] id ?_
  cases H
  exact er
 ·refine jf c6 ?_
  refine sk ?_
  refine seq_in ?_
  obtain ⟨v7, h8, H⟩ := oB H
  refine so [.res (cB v7)] [] [(16, cB (!v7))] [] (aI (l_eqMap_ok p0.Map p1.Map v7 h8)) ?_
  rcases oC H with ⟨c9, H⟩ | ⟨c9, H⟩
  ·refine it c9 ?_
   refine so [] [] [(4, cB false)] [] id ?_
   cases H
   exact er
  ·refine jf c9 ?_
   refine sk ?_
   refine so [] [] [(4, cB true)] [] id ?_
   cases H
   exact er
def l_markIntS_ir : S :=
 (sq [o 4 (.mv (iv 0))]
 (.seq (sq [o 5 (.mv (iv 0))]
 (.blk 0 (.loop (.seq (sq [om 6 5, om 7 0, o 8 (.len (.t 7)), o 9 (.bin .lss (.t 6) (.t 8))]
   (.ite (.t 9) .skip
   (.exit 0)))
   (.seq (.blk 1 (sq [om 12 0, om 13 5, om 14 1, o 15 (.iad 1 (.t 12) (.t 13)), os 1 15 14]
    (.ops [om 16 1, o 17 (.bin .add (.t 16) (iv 1)), om 1 17])))
   (.ops [om 10 5, o 11 (.bin .add (.t 10) (iv 1)), om 5 11]))))))
 (sq [om 18 1, om 4 18]
 .ret)))
noncomputable def X.l_markIntS_L (p0 : (List Int)) (p1 : Int) : Option Int :=
 ((loop (fun (x10 : (Int × Int)) => ((bif (decide (x10.2 < (p0.length : Int))) then ((at' zI p0 x10.2).bind fun v13 => some (Sum.inl ((W (x10.1 + 1)), (W (x10.2 + 1))))) else some (Sum.inr x10.1)) : Option ((Int × Int) ⊕ Int))) (p1, 0)).bind fun y15 => some y15)
theorem l_markIntS_L_ok (p0 : (List Int)) (p1 : Int) (r : Int) (H : X.l_markIntS_L p0 p1 = some r) : FK 23 [.c (.lv (dat 1 eI zI p0)), cI p1] (cI r) := by
 unfold X.l_markIntS_L at H
 refine fi Tryz.f23 l_markIntS_ir [(4, cI r)] [] glL Tryz.func23 ?_
 refine sn [] [] [] [] [] id ?_
 refine seq_in ?_
 refine sn [] [] [(5, cI 0)] [] [] id ?_
 refine ends_blk ?_
 obtain ⟨y15, h16, H⟩ := oB H
 refine tl [] [(0, .c (.lv (dat 1 eI zI p0))), (1, cI p1), (5, cI 0)] [] id ?_
 refine loop_in (fun (x : (Int × Int)) => lit [(0, .c (.lv (dat 1 eI zI p0))), (1, cI x.1), (5, cI x.2)] []) (fun (z : Int) => At (.exit 0) (lit [(1, cI z)] [])) h16 ?_ ?_
 ·clear H h16
  intro x10 y0 H
  refine seq_in ?_
  refine sn [] [] [(9, cB (decide (x10.2 < (p0.length : Int))))] [] [] (fun t => lI p0 (t)) ?_
  rcases oC H with ⟨c12, H⟩ | ⟨c12, H⟩
  ·refine it c12 ?_
   refine sk ?_
   refine seq_in ?_
   refine ends_blk ?_
   obtain ⟨v13, h14, H⟩ := oB H
   refine sn [.cs (eI v13)] [] [] [] [] (fun t => (a2 eI h14 (aI rT (t)))) ?_
   refine oo [] [] [(0, .c (.lv (dat 1 eI zI p0))), (1, cI (W (x10.1 + 1))), (5, cI x10.2)] [] id ?_
   change EndsI _ _ _ _ _ _
   refine oo [] [] [(0, .c (.lv (dat 1 eI zI p0))), (1, cI (W (x10.1 + 1))), (5, cI (W (x10.2 + 1)))] [] id ?_
   cases H
   exact rr
  ·refine jf c12 ?_
   refine tl [] [(1, cI x10.1)] [] id ?_
   refine ends_exit ?_
   cases H
   exact rse
 ·clear h16
  rintro e s ⟨rfl, rfl⟩
  change EndsI _ _ _ _ _ _
  refine so [] [] [(4, cI y15)] [] id ?_
  cases H
  exact er
def l_markText_ir : S :=
 (sq [o 2 (.mv (.v (.str [])))]
 (.seq (sq [om 4 0, o 5 (.bin .leq (.t 4) (iv 0))]
 (.ite (.t 5) (sq [o 2 (.mv (.v (.str [109, 48])))]
  .ret)
 .skip))
 (sq [o 3 (.mv (.v (.str [])))]
 (.seq (.blk 0 (.loop (.seq (sq [om 6 0, o 7 (.bin .gtr (.t 6) (iv 0))]
   (.ite (.t 7) .skip
   (.exit 0)))
   (.blk 1 (sq [om 8 0, o 9 (.bin .rem (.t 8) (iv 10)), o 10 (.bin .add (iv 48) (.t 9)), o 11 (.conv .u8 (.t 10)), o 12 (.bsl 1 [.t 11]), o 13 (.b2s (.t 12)), om 14 3, o 15 (.bin .add (.t 13) (.t 14)), om 3 15]
    (.ops [om 16 0, o 17 (.bin .quo (.t 16) (iv 10)), om 0 17]))))))
 (sq [om 18 3, o 19 (.bin .add (.v (.str [109])) (.t 18)), om 2 19]
 .ret)))))
noncomputable def X.l_markText (p0 : Int) : Option (List UInt8) :=
 (bif (decide (p0 ≤ 0)) then some [109, 48] else ((loop (fun (x12 : (Int × (List UInt8))) => ((bif (decide (x12.1 > 0)) then (if ([(IntKind.u8.wrap (W (48 + (Int.tmod x12.1 10))))] : List Int).all inU8 = true then (if (bytesOf ([(IntKind.u8.wrap (W (48 + (Int.tmod x12.1 10))))] : List Int)).length + x12.2.length ≤ maxLen then some (Sum.inl ((W (Int.tdiv x12.1 10)), ((bytesOf ([(IntKind.u8.wrap (W (48 + (Int.tmod x12.1 10))))] : List Int)) ++ x12.2))) else none) else none) else some (Sum.inr x12.2)) : Option ((Int × (List UInt8)) ⊕ (List UInt8)))) (p0, [])).bind fun y17 => (if ([109] : List UInt8).length + y17.length ≤ maxLen then some (([109] : List UInt8) ++ y17) else none)))
theorem l_markText_ok (p0 : Int) (r : (List UInt8)) (H : X.l_markText p0 = some r) : FK 159 [cI p0] (.c (.str r)) := by
 unfold X.l_markText at H
 refine fi Tryz.f159 l_markText_ir [(2, .c (.str r))] [] glL Tryz.func159 ?_
 refine sn [] [] [] [] [] id ?_
 refine seq_in ?_
 refine sn [] [] [(5, cB (decide (p0 ≤ 0)))] [] [] id ?_
 rcases oC H with ⟨c2, H⟩ | ⟨c2, H⟩
 ·refine it c2 ?_
  refine so [] [] [(2, .c (.str [109, 48]))] [] id ?_
  cases H
  exact er
 ·refine jf c2 ?_
  refine sk ?_
  refine sn [] [] [(3, .c (.str []))] [] [] id ?_
  refine seq_in ?_
  refine ends_blk ?_
  obtain ⟨y17, h18, H⟩ := oB H
  refine tl [] [(0, cI p0), (3, .c (.str []))] [] id ?_
  refine loop_in (fun (x : (Int × (List UInt8))) => lit [(0, cI x.1), (3, .c (.str x.2))] []) (fun (z : (List UInt8)) => At (.exit 0) (lit [(3, .c (.str z))] [])) h18 ?_ ?_
  ·clear H h18
   intro x12 y0 H
   refine seq_in ?_
   refine sn [] [] [(7, cB (decide (x12.1 > 0)))] [] [] id ?_
   rcases oC H with ⟨c14, H⟩ | ⟨c14, H⟩
   ·refine it c14 ?_
    refine sk ?_
    refine ends_blk ?_
    obtain ⟨g15, H⟩ := oI H
    obtain ⟨g16, H⟩ := oI H
    refine so [fh eU zI ([(IntKind.u8.wrap (W (48 + (Int.tmod x12.1 10))))] : List Int), .str (bytesOf ([(IntKind.u8.wrap (W (48 + (Int.tmod x12.1 10))))] : List Int))] [] [(0, cI x12.1), (3, .c (.str ((bytesOf ([(IntKind.u8.wrap (W (48 + (Int.tmod x12.1 10))))] : List Int)) ++ x12.2)))] [] (fun t => aI (by decide : (10 : Int) ≠ 0) (aI (rfl : ([(IntKind.u8.wrap (W (48 + (Int.tmod x12.1 10))))] : List Int).length = 1) (aI (fF_lit eU zI ([(IntKind.u8.wrap (W (48 + (Int.tmod x12.1 10))))] : List Int)) (aI (Nat.le_refl (([(IntKind.u8.wrap (W (48 + (Int.tmod x12.1 10))))] : List Int).length)) (aI (bytesOf_len ([(IntKind.u8.wrap (W (48 + (Int.tmod x12.1 10))))] : List Int)) (aI (bytesOf_at ([(IntKind.u8.wrap (W (48 + (Int.tmod x12.1 10))))] : List Int) g15) (aI g16 (t)))))))) ?_
    refine oo [] [] [(0, cI (W (Int.tdiv x12.1 10))), (3, .c (.str ((bytesOf ([(IntKind.u8.wrap (W (48 + (Int.tmod x12.1 10))))] : List Int)) ++ x12.2)))] [] (aI (by decide : (10 : Int) ≠ 0)) ?_
    cases H
    exact rr
   ·refine jf c14 ?_
    refine tl [] [(3, .c (.str x12.2))] [] id ?_
    refine ends_exit ?_
    cases H
    exact rse
  ·clear h18
   rintro e s ⟨rfl, rfl⟩
   change EndsI _ _ _ _ _ _
   obtain ⟨g19, H⟩ := oI H
   refine so [] [] [(2, .c (.str (([109] : List UInt8) ++ y17)))] [] (fun t => aI g19 (t)) ?_
   cases H
   exact er
def l_markTerrainS_ir : S :=
 (sq [o 4 (.mv (iv 0))]
 (.seq (sq [o 5 (.mv (iv 0))]
 (.blk 0 (.loop (.seq (sq [om 6 5, om 7 0, o 8 (.len (.t 7)), o 9 (.bin .lss (.t 6) (.t 8))]
   (.ite (.t 9) .skip
   (.exit 0)))
   (.seq (.blk 1 (sq [om 12 0, om 13 5, om 14 1, o 15 (.call 159 [.t 14]), o 16 (.iad 5 (.t 12) (.t 13)), oa 17 0 16, os 1 17 15]
    (sq [om 18 1, o 19 (.bin .add (.t 18) (iv 1)), om 1 19]
    (sq [om 20 0, om 21 5, o 22 (.iad 5 (.t 20) (.t 21)), oa 23 1 22, ol 24 23, om 25 1, o 26 (.call 23 [.t 24, .t 25]), om 1 26]
    (sq [om 27 0, om 28 5, om 29 1, o 30 (.iad 5 (.t 27) (.t 28)), oa 31 2 30, os 1 31 29]
    (sq [om 32 1, o 33 (.bin .add (.t 32) (iv 1)), om 1 33]
    (sq [om 34 0, om 35 5, om 36 1, o 37 (.iad 5 (.t 34) (.t 35)), oa 38 3 37, os 1 38 36]
    (sq [om 39 1, o 40 (.bin .add (.t 39) (iv 1)), om 1 40]
    (sq [om 41 0, om 42 5, om 43 1, o 44 (.bin .rem (.t 43) (iv 3)), o 45 (.bin .eql (.t 44) (iv 0)), o 46 (.iad 5 (.t 41) (.t 42)), oa 47 4 46, os 1 47 45]
    (.ops [om 48 1, o 49 (.bin .add (.t 48) (iv 1)), om 1 49]))))))))))
   (.ops [om 10 5, o 11 (.bin .add (.t 10) (iv 1)), om 5 11]))))))
 (sq [om 50 1, om 4 50]
 .ret)))
noncomputable def X.l_markTerrainS_L (p0 : (List TTerrain)) (p1 : Int) : Option Int :=
 ((loop (fun (x18 : (Int × Int)) => ((bif (decide (x18.2 < (p0.length : Int))) then ((X.l_markText x18.1).bind fun v21 => ((at' zTTerrain p0 x18.2).bind fun v23 => ((X.l_markIntS_L v23.Cost (W (x18.1 + 1))).bind fun v25 => some (Sum.inl ((W ((W ((W (v25 + 1)) + 1)) + 1)), (W (x18.2 + 1))))))) else some (Sum.inr x18.1)) : Option ((Int × Int) ⊕ Int))) (p1, 0)).bind fun y27 => some y27)
theorem l_markTerrainS_L_ok (p0 : (List TTerrain)) (p1 : Int) (r : Int) (H : X.l_markTerrainS_L p0 p1 = some r) : FK 114 [.c (.lv (dat 5 eTTerrain zTTerrain p0)), cI p1] (cI r) := by
 unfold X.l_markTerrainS_L at H
 refine fi Tryz.f114 l_markTerrainS_ir [(4, cI r)] [] glL Tryz.func114 ?_
 refine sn [] [] [] [] [] id ?_
 refine seq_in ?_
 refine sn [] [] [(5, cI 0)] [] [] id ?_
 refine ends_blk ?_
 obtain ⟨y27, h28, H⟩ := oB H
 refine tl [] [(0, .c (.lv (dat 5 eTTerrain zTTerrain p0))), (1, cI p1), (5, cI 0)] [] id ?_
 refine loop_in (fun (x : (Int × Int)) => lit [(0, .c (.lv (dat 5 eTTerrain zTTerrain p0))), (1, cI x.1), (5, cI x.2)] []) (fun (z : Int) => At (.exit 0) (lit [(1, cI z)] [])) h28 ?_ ?_
 ·clear H h28
  intro x18 y0 H
  refine seq_in ?_
  refine sn [] [] [(9, cB (decide (x18.2 < (p0.length : Int))))] [] [] (fun t => lI p0 (t)) ?_
  rcases oC H with ⟨c20, H⟩ | ⟨c20, H⟩
  ·refine it c20 ?_
   refine sk ?_
   refine seq_in ?_
   refine ends_blk ?_
   obtain ⟨v21, h22, H⟩ := oB H
   obtain ⟨v23, h24, H⟩ := oB H
   refine sn [.res (.c (.str v21)), .cs (eTTerrain v23)] [] [] [] [] (fun t => aI (l_markText_ok x18.1 v21 h22) ((a2 eTTerrain h24 (aI rT (t))))) ?_
   refine so [] [] [(0, .c (.lv (dat 5 eTTerrain zTTerrain p0))), (1, cI (W (x18.1 + 1))), (5, cI x18.2)] [] id ?_
   obtain ⟨v25, h26, H⟩ := oB H
   refine so [.cs (eTTerrain v23), .res (cI v25)] [] [(0, .c (.lv (dat 5 eTTerrain zTTerrain p0))), (1, cI v25), (5, cI x18.2)] [] (fun t => (a2 eTTerrain h24 (aI (l_markIntS_L_ok v23.Cost (W (x18.1 + 1)) v25 h26) (t)))) ?_
   refine sn [.cs (eTTerrain v23)] [] [] [] [] (fun t => (a2 eTTerrain h24 (aI rT (t)))) ?_
   refine so [] [] [(0, .c (.lv (dat 5 eTTerrain zTTerrain p0))), (1, cI (W (v25 + 1))), (5, cI x18.2)] [] id ?_
   refine sn [.cs (eTTerrain v23)] [] [] [] [] (fun t => (a2 eTTerrain h24 (aI rT (t)))) ?_
   refine so [] [] [(0, .c (.lv (dat 5 eTTerrain zTTerrain p0))), (1, cI (W ((W (v25 + 1)) + 1))), (5, cI x18.2)] [] id ?_
   refine sn [.cs (eTTerrain v23)] [] [] [] [] (fun t => aI (by decide : (3 : Int) ≠ 0) ((a2 eTTerrain h24 (aI rT (t))))) ?_
   refine oo [] [] [(0, .c (.lv (dat 5 eTTerrain zTTerrain p0))), (1, cI (W ((W ((W (v25 + 1)) + 1)) + 1))), (5, cI x18.2)] [] id ?_
   change EndsI _ _ _ _ _ _
   refine oo [] [] [(0, .c (.lv (dat 5 eTTerrain zTTerrain p0))), (1, cI (W ((W ((W (v25 + 1)) + 1)) + 1))), (5, cI (W (x18.2 + 1)))] [] id ?_
   cases H
   exact rr
  ·refine jf c20 ?_
   refine tl [] [(1, cI x18.1)] [] id ?_
   refine ends_exit ?_
   cases H
   exact rse
 ·clear h28
  rintro e s ⟨rfl, rfl⟩
  change EndsI _ _ _ _ _ _
  refine so [] [] [(4, cI y27)] [] id ?_
  cases H
  exact er
def l_markKindS_ir : S :=
 (sq [o 4 (.mv (iv 0))]
 (.seq (sq [o 5 (.mv (iv 0))]
 (.blk 0 (.loop (.seq (sq [om 6 5, om 7 0, o 8 (.len (.t 7)), o 9 (.bin .lss (.t 6) (.t 8))]
   (.ite (.t 9) .skip
   (.exit 0)))
   (.seq (.blk 1 (sq [om 12 0, om 13 5, om 14 1, o 15 (.call 159 [.t 14]), o 16 (.iad 6 (.t 12) (.t 13)), oa 17 0 16, os 1 17 15]
    (sq [om 18 1, o 19 (.bin .add (.t 18) (iv 1)), om 1 19]
    (sq [om 20 0, om 21 5, om 22 1, o 23 (.iad 6 (.t 20) (.t 21)), oa 24 1 23, os 1 24 22]
    (sq [om 25 1, o 26 (.bin .add (.t 25) (iv 1)), om 1 26]
    (sq [om 27 0, om 28 5, om 29 1, o 30 (.iad 6 (.t 27) (.t 28)), oa 31 2 30, os 1 31 29]
    (sq [om 32 1, o 33 (.bin .add (.t 32) (iv 1)), om 1 33]
    (sq [om 34 0, om 35 5, om 36 1, o 37 (.iad 6 (.t 34) (.t 35)), oa 38 3 37, os 1 38 36]
    (sq [om 39 1, o 40 (.bin .add (.t 39) (iv 1)), om 1 40]
    (sq [om 41 0, om 42 5, om 43 1, o 44 (.bin .rem (.t 43) (iv 3)), o 45 (.bin .eql (.t 44) (iv 0)), o 46 (.iad 6 (.t 41) (.t 42)), oa 47 4 46, os 1 47 45]
    (sq [om 48 1, o 49 (.bin .add (.t 48) (iv 1)), om 1 49]
    (sq [om 50 0, om 51 5, om 52 1, o 53 (.iad 6 (.t 50) (.t 51)), oa 54 5 53, os 1 54 52]
    (.ops [om 55 1, o 56 (.bin .add (.t 55) (iv 1)), om 1 56])))))))))))))
   (.ops [om 10 5, o 11 (.bin .add (.t 10) (iv 1)), om 5 11]))))))
 (sq [om 57 1, om 4 57]
 .ret)))
noncomputable def X.l_markKindS_L (p0 : (List TKind)) (p1 : Int) : Option Int :=
 ((loop (fun (x14 : (Int × Int)) => ((bif (decide (x14.2 < (p0.length : Int))) then ((X.l_markText x14.1).bind fun v17 => ((at' zTKind p0 x14.2).bind fun v19 => some (Sum.inl ((W ((W ((W ((W ((W ((W (x14.1 + 1)) + 1)) + 1)) + 1)) + 1)) + 1)), (W (x14.2 + 1)))))) else some (Sum.inr x14.1)) : Option ((Int × Int) ⊕ Int))) (p1, 0)).bind fun y21 => some y21)
theorem l_markKindS_L_ok (p0 : (List TKind)) (p1 : Int) (r : Int) (H : X.l_markKindS_L p0 p1 = some r) : FK 115 [.c (.lv (dat 6 eTKind zTKind p0)), cI p1] (cI r) := by
 unfold X.l_markKindS_L at H
 refine fi Tryz.f115 l_markKindS_ir [(4, cI r)] [] glL Tryz.func115 ?_
 refine sn [] [] [] [] [] id ?_
 refine seq_in ?_
 refine sn [] [] [(5, cI 0)] [] [] id ?_
 refine ends_blk ?_
 obtain ⟨y21, h22, H⟩ := oB H
 refine tl [] [(0, .c (.lv (dat 6 eTKind zTKind p0))), (1, cI p1), (5, cI 0)] [] id ?_
 refine loop_in (fun (x : (Int × Int)) => lit [(0, .c (.lv (dat 6 eTKind zTKind p0))), (1, cI x.1), (5, cI x.2)] []) (fun (z : Int) => At (.exit 0) (lit [(1, cI z)] [])) h22 ?_ ?_
 ·clear H h22
  intro x14 y0 H
  refine seq_in ?_
  refine sn [] [] [(9, cB (decide (x14.2 < (p0.length : Int))))] [] [] (fun t => lI p0 (t)) ?_
  rcases oC H with ⟨c16, H⟩ | ⟨c16, H⟩
  ·refine it c16 ?_
   refine sk ?_
   refine seq_in ?_
   refine ends_blk ?_
   obtain ⟨v17, h18, H⟩ := oB H
   obtain ⟨v19, h20, H⟩ := oB H
   refine sn [.res (.c (.str v17)), .cs (eTKind v19)] [] [] [] [] (fun t => aI (l_markText_ok x14.1 v17 h18) ((a2 eTKind h20 (aI rT (t))))) ?_
   refine so [] [] [(0, .c (.lv (dat 6 eTKind zTKind p0))), (1, cI (W (x14.1 + 1))), (5, cI x14.2)] [] id ?_
   refine sn [.cs (eTKind v19)] [] [] [] [] (fun t => (a2 eTKind h20 (aI rT (t)))) ?_
   refine so [] [] [(0, .c (.lv (dat 6 eTKind zTKind p0))), (1, cI (W ((W (x14.1 + 1)) + 1))), (5, cI x14.2)] [] id ?_
   refine sn [.cs (eTKind v19)] [] [] [] [] (fun t => (a2 eTKind h20 (aI rT (t)))) ?_
   refine so [] [] [(0, .c (.lv (dat 6 eTKind zTKind p0))), (1, cI (W ((W ((W (x14.1 + 1)) + 1)) + 1))), (5, cI x14.2)] [] id ?_
   refine sn [.cs (eTKind v19)] [] [] [] [] (fun t => (a2 eTKind h20 (aI rT (t)))) ?_
   refine so [] [] [(0, .c (.lv (dat 6 eTKind zTKind p0))), (1, cI (W ((W ((W ((W (x14.1 + 1)) + 1)) + 1)) + 1))), (5, cI x14.2)] [] id ?_
   refine sn [.cs (eTKind v19)] [] [] [] [] (fun t => aI (by decide : (3 : Int) ≠ 0) ((a2 eTKind h20 (aI rT (t))))) ?_
   refine so [] [] [(0, .c (.lv (dat 6 eTKind zTKind p0))), (1, cI (W ((W ((W ((W ((W (x14.1 + 1)) + 1)) + 1)) + 1)) + 1))), (5, cI x14.2)] [] id ?_
   refine sn [.cs (eTKind v19)] [] [] [] [] (fun t => (a2 eTKind h20 (aI rT (t)))) ?_
   refine oo [] [] [(0, .c (.lv (dat 6 eTKind zTKind p0))), (1, cI (W ((W ((W ((W ((W ((W (x14.1 + 1)) + 1)) + 1)) + 1)) + 1)) + 1))), (5, cI x14.2)] [] id ?_
   change EndsI _ _ _ _ _ _
   refine oo [] [] [(0, .c (.lv (dat 6 eTKind zTKind p0))), (1, cI (W ((W ((W ((W ((W ((W (x14.1 + 1)) + 1)) + 1)) + 1)) + 1)) + 1))), (5, cI (W (x14.2 + 1)))] [] id ?_
   cases H
   exact rr
  ·refine jf c16 ?_
   refine tl [] [(1, cI x14.1)] [] id ?_
   refine ends_exit ?_
   cases H
   exact rse
 ·clear h22
  rintro e s ⟨rfl, rfl⟩
  change EndsI _ _ _ _ _ _
  refine so [] [] [(4, cI y21)] [] id ?_
  cases H
  exact er
def l_markRules_ir : S :=
 (sq [o 2 (.box 7 (.t 0)), o 4 (.mv (iv 0))]
 (sq [oa 5 0 2, ol 6 5, om 7 1, o 8 (.call 114 [.t 6, .t 7]), om 1 8]
 (sq [oa 9 1 2, ol 10 9, om 11 1, o 12 (.call 115 [.t 10, .t 11]), om 1 12]
 (sq [om 13 1, om 4 13]
 .ret))))
noncomputable def X.l_markRules_L (p0 : TRules) (p1 : Int) : Option Int :=
 ((X.l_markTerrainS_L p0.Terrains p1).bind fun v1 => ((X.l_markKindS_L p0.Kinds v1).bind fun v3 => some v3))
theorem l_markRules_L_ok (p0 : TRules) (p1 : Int) (r : Int) (H : X.l_markRules_L p0 p1 = some r) : FK 48 [.agg (lTRules p0), cI p1] (cI r) := by
 unfold X.l_markRules_L at H
 refine fi Tryz.f48 l_markRules_ir [(4, cI r)] [] glL Tryz.func48 ?_
 refine sn [] [] [(2, pk 2)] [] [(2, va (lTRules p0))] id ?_
 obtain ⟨v1, h2, H⟩ := oB H
 refine so [.res (cI v1)] [] [(1, cI v1), (2, pk 2)] [(2, va (lTRules p0))] (aI (l_markTerrainS_L_ok p0.Terrains p1 v1 h2)) ?_
 obtain ⟨v3, h4, H⟩ := oB H
 refine so [.res (cI v3)] [] [(1, cI v3)] [] (aI (l_markKindS_L_ok p0.Kinds v1 v3 h4)) ?_
 refine so [] [] [(4, cI v3)] [] id ?_
 cases H
 exact er
def l_markMap_ir : S :=
 (sq [o 2 (.box 5 (.t 0)), o 4 (.mv (iv 0))]
 (sq [oa 5 2 2, ol 6 5, om 7 1, o 8 (.call 23 [.t 6, .t 7]), om 1 8]
 (sq [oa 9 3 2, ol 10 9, om 11 1, o 12 (.call 23 [.t 10, .t 11]), om 1 12]
 (sq [oa 13 4 2, ol 14 13, om 15 1, o 16 (.call 23 [.t 14, .t 15]), om 1 16]
 (sq [om 17 1, om 4 17]
 .ret)))))
noncomputable def X.l_markMap_L (p0 : TMap) (p1 : Int) : Option Int :=
 ((X.l_markIntS_L p0.Terrain p1).bind fun v1 => ((X.l_markIntS_L p0.Rivers v1).bind fun v3 => ((X.l_markIntS_L p0.Roads v3).bind fun v5 => some v5)))
theorem l_markMap_L_ok (p0 : TMap) (p1 : Int) (r : Int) (H : X.l_markMap_L p0 p1 = some r) : FK 49 [.agg (lTMap p0), cI p1] (cI r) := by
 unfold X.l_markMap_L at H
 refine fi Tryz.f49 l_markMap_ir [(4, cI r)] [] glL Tryz.func49 ?_
 refine sn [] [] [(2, pk 2)] [] [(2, va (lTMap p0))] id ?_
 obtain ⟨v1, h2, H⟩ := oB H
 refine so [.res (cI v1)] [] [(1, cI v1), (2, pk 2)] [(2, va (lTMap p0))] (aI (l_markIntS_L_ok p0.Terrain p1 v1 h2)) ?_
 obtain ⟨v3, h4, H⟩ := oB H
 refine so [.res (cI v3)] [] [(1, cI v3), (2, pk 2)] [(2, va (lTMap p0))] (aI (l_markIntS_L_ok p0.Rivers v1 v3 h4)) ?_
 obtain ⟨v5, h6, H⟩ := oB H
 refine so [.res (cI v5)] [] [(1, cI v5)] [] (aI (l_markIntS_L_ok p0.Roads v3 v5 h6)) ?_
 refine so [] [] [(4, cI v5)] [] id ?_
 cases H
 exact er
def l_markBoard_ir : S :=
 (sq [o 2 (.box 12 (.t 0)), o 4 (.mv (iv 0))]
 (sq [oa 5 0 2, o 6 (.load 7 true (.t 5)), om 7 1, o 8 (.call 48 [.t 6, .t 7]), om 1 8]
 (sq [oa 9 7 2, o 10 (.load 5 true (.t 9)), om 11 1, o 12 (.call 49 [.t 10, .t 11]), om 1 12]
 (sq [om 13 1, om 4 13]
 .ret))))
noncomputable def X.l_markBoard_L (p0 : TBoard) (p1 : Int) : Option Int :=
 ((X.l_markRules_L p0.Rules p1).bind fun v1 => ((X.l_markMap_L p0.Map v1).bind fun v3 => some v3))
theorem l_markBoard_L_ok (p0 : TBoard) (p1 : Int) (r : Int) (H : X.l_markBoard_L p0 p1 = some r) : FK 12 [.agg (lTBoard p0), cI p1] (cI r) := by
 unfold X.l_markBoard_L at H
 refine fi Tryz.f12 l_markBoard_ir [(4, cI r)] [] glL Tryz.func12 ?_
 refine sn [] [] [(2, pk 2)] [] [(2, va (lTBoard p0))] id ?_
 obtain ⟨v1, h2, H⟩ := oB H
 refine so [.res (cI v1)] [] [(1, cI v1), (2, pk 2)] [(2, va (lTBoard p0))] (aI (l_markRules_L_ok p0.Rules p1 v1 h2)) ?_
 obtain ⟨v3, h4, H⟩ := oB H
 refine so [.res (cI v3)] [] [(1, cI v3)] [] (aI (l_markMap_L_ok p0.Map v1 v3 h4)) ?_
 refine so [] [] [(4, cI v3)] [] id ?_
 cases H
 exact er
def l_szUnitS_ir : S :=
 (sq [o 4 (.mv (iv 0))]
 (sq [om 5 1, om 6 0, o 7 (.len (.t 6)), o 8 (.bin .sub (.t 5) (.t 7)), om 1 8]
 (.seq (sq [om 9 1, o 10 (.bin .lss (.t 9) (iv 0))]
 (.ite (.t 10) (sq [o 4 (.mv (.v (.int .i64 (-1))))]
  .ret)
 .skip))
 (sq [om 11 1, om 4 11]
 .ret))))
noncomputable def X.l_szUnitS (p0 : (List TUnit)) (p1 : Int) : Option Int :=
 (bif (decide ((W (p1 - (p0.length : Int))) < 0)) then some (-1) else some (W (p1 - (p0.length : Int))))
theorem l_szUnitS_ok (p0 : (List TUnit)) (p1 : Int) (r : Int) (H : X.l_szUnitS p0 p1 = some r) : FK 53 [.c (dat 4 eTUnit zTUnit p0), cI p1] (cI r) := by
 unfold X.l_szUnitS at H
 refine fi Tryz.f53 l_szUnitS_ir [(4, cI r)] [] glL Tryz.func53 ?_
 refine sn [] [] [] [] [] id ?_
 refine so [] [] [(1, cI (W (p1 - (p0.length : Int))))] [] (fun t => lI p0 (t)) ?_
 refine seq_in ?_
 refine sn [] [] [(10, cB (decide ((W (p1 - (p0.length : Int))) < 0)))] [] [] id ?_
 rcases oC H with ⟨c1, H⟩ | ⟨c1, H⟩
 ·refine it c1 ?_
  refine so [] [] [(4, cI (-1))] [] id ?_
  cases H
  exact er
 ·refine jf c1 ?_
  refine sk ?_
  refine so [] [] [(4, cI (W (p1 - (p0.length : Int))))] [] id ?_
  cases H
  exact er
def l_szState_ir : S :=
 (sq [o 2 (.box 3 (.t 0)), o 4 (.mv (iv 0))]
 (sq [oa 5 2 2, ol 6 5, om 7 1, o 8 (.call 53 [.t 6, .t 7]), om 1 8]
 (.seq (sq [om 9 1, o 10 (.bin .lss (.t 9) (iv 0))]
 (.ite (.t 10) (sq [o 4 (.mv (.v (.int .i64 (-1))))]
  .ret)
 .skip))
 (sq [om 11 1, om 4 11]
 .ret))))
noncomputable def X.l_szState (p0 : TState) (p1 : Int) : Option Int :=
 ((X.l_szUnitS p0.Units p1).bind fun v1 => (bif (decide (v1 < 0)) then some (-1) else some v1))
theorem l_szState_ok (p0 : TState) (p1 : Int) (r : Int) (H : X.l_szState p0 p1 = some r) : FK 15 [.agg (eTState p0), cI p1] (cI r) := by
 unfold X.l_szState at H
 refine fi Tryz.f15 l_szState_ir [(4, cI r)] [] glL Tryz.func15 ?_
 refine sn [] [] [(2, pk 2)] [] [(2, va (eTState p0))] id ?_
 obtain ⟨v1, h2, H⟩ := oB H
 refine so [.res (cI v1)] [] [(1, cI v1)] [] (aI (l_szUnitS_ok p0.Units p1 v1 h2)) ?_
 refine seq_in ?_
 refine sn [] [] [(10, cB (decide (v1 < 0)))] [] [] id ?_
 rcases oC H with ⟨c3, H⟩ | ⟨c3, H⟩
 ·refine it c3 ?_
  refine so [] [] [(4, cI (-1))] [] id ?_
  cases H
  exact er
 ·refine jf c3 ?_
  refine sk ?_
  refine so [] [] [(4, cI v1)] [] id ?_
  cases H
  exact er
def s_l1In_ir : S :=
 (sq [o 6 (.mv bF)]
 (sq [om 7 0, om 8 1, o 9 (.bin .geq (.t 7) (.t 8)), om 10 9, oh 11 (.mv (.t 0)) 10, oh 12 (.mv (.t 2)) 10, oh 13 (.bin .leq (.t 11) (.t 12)) 10, o 14 (.pick (.t 10) (.t 13) bF), om 6 14]
 .ret))
noncomputable def X.s_l1In (p0 : Int) (p1 : Int) (p2 : Int) : Option Bool :=
 (bif (decide (p0 ≥ p1)) then some (decide (p0 ≤ p2)) else some false)
theorem s_l1In_ok (p0 : Int) (p1 : Int) (p2 : Int) (r : Bool) (H : X.s_l1In p0 p1 p2 = some r) : FK 55 [cI p0, cI p1, cI p2] (cB r) := by
 unfold X.s_l1In at H
 refine fi Tryz.f55 s_l1In_ir [(6, cB r)] [] glL Tryz.func55 ?_
 refine sn [] [] [] [] [] id ?_
 rcases oC H with ⟨c1, H⟩ | ⟨c1, H⟩
 ·refine so (rg 4 true []) [] [(6, cB (decide (p0 ≤ p2)))] [] (fun t => aG 4 c1 (t)) ?_
  cases H
  exact er
 ·refine so (rg 4 false []) [] [(6, cB false)] [] (fun t => aG 4 c1 (t)) ?_
  cases H
  exact er
def s_l1All_ir : S :=
 (sq [o 6 (.mv bF)]
 (.seq (sq [om 9 0, o 10 (.len (.t 9)), o 11 (.mv (iv 0))]
 (.blk 0 (.loop (sq [o 12 (.bin .lss (.t 11) (.t 10))]
   (.seq (.ite (.t 12) .skip
   (.exit 0))
   (.seq (.blk 1 (sq [o 13 (.iad 1 (.t 9) (.t 11)), ol 14 13, om 8 14]
    (sq [om 15 8, om 16 1, om 17 2, o 18 (.call 55 [.t 15, .t 16, .t 17]), o 19 (.not (.t 18))]
    (.ite (.t 19) (sq [o 6 (.mv bF)]
     .ret)
    .skip))))
   (.ops [o 20 (.bin .add (.t 11) (iv 1)), om 11 20])))))))
 (sq [o 6 (.mv bT)]
 .ret)))
noncomputable def X.s_l1All (p0 : (List Int)) (p1 : Int) (p2 : Int) : Option Bool :=
 ((loop (fun (x16 : Int) => ((bif (decide (x16 < (p0.length : Int))) then ((at' zI p0 x16).bind fun v19 => ((X.s_l1In v19 p1 p2).bind fun v21 => (bif (!v21) then some (Sum.inr (Sum.inr false)) else some (Sum.inl (W (x16 + 1)))))) else some (Sum.inr (Sum.inl ()))) : Option (Int ⊕ (Unit ⊕ Bool)))) 0).bind fun y24 => (Sum.elim (fun (y26 : Unit) => some true) (fun (y27 : Bool) => some y27) y24))
theorem s_l1All_ok (p0 : (List Int)) (p1 : Int) (p2 : Int) (r : Bool) (H : X.s_l1All p0 p1 p2 = some r) : FK 74 [.c (dat 1 eI zI p0), cI p1, cI p2] (cB r) := by
 unfold X.s_l1All at H
 refine fi Tryz.f74 s_l1All_ir [(6, cB r)] [] glL Tryz.func74 ?_
 refine sn [] [] [] [] [] id ?_
 refine seq_in ?_
 refine sn [] [] [(9, dc 1 eI zI p0), (10, cL p0), (11, cI 0)] [] [] (fun t => lI p0 (t)) ?_
 refine ends_blk ?_
 obtain ⟨y24, h25, H⟩ := oB H
 refine tl [] [(1, cI p1), (2, cI p2), (9, dc 1 eI zI p0), (10, cL p0), (11, cI 0)] [] id ?_
 refine loop_in (fun (x : Int) => lit [(1, cI p1), (2, cI p2), (9, dc 1 eI zI p0), (10, cL p0), (11, cI x)] []) (orJ (fun (z : Unit) => At (.exit 0) (lit [] [])) (fun (z : Bool) => At .ret (lit [(6, cB z)] []))) h25 ?_ ?_
 ·clear H h25
  intro x16 y0 H
  refine sn [] [] [(12, cB (decide (x16 < (p0.length : Int))))] [] [] id ?_
  refine seq_in ?_
  rcases oC H with ⟨c18, H⟩ | ⟨c18, H⟩
  ·refine it c18 ?_
   refine sk ?_
   refine seq_in ?_
   refine ends_blk ?_
   obtain ⟨v19, h20, H⟩ := oB H
   refine sn [.cs (eI v19)] [] [(8, cI v19)] [] [] (a2 eI h20) ?_
   obtain ⟨v21, h22, H⟩ := oB H
   refine sn [.res (cB v21)] [] [(19, cB (!v21))] [] [] (aI (s_l1In_ok v19 p1 p2 v21 h22)) ?_
   rcases oC H with ⟨c23, H⟩ | ⟨c23, H⟩
   ·refine it c23 ?_
    refine so [] [] [(6, cB false)] [] id ?_
    refine ends_ret ?_
    cases H
    exact rsr
   ·refine jf c23 ?_
    refine sk ?_
    refine oo [] [] [(1, cI p1), (2, cI p2), (9, dc 1 eI zI p0), (10, cL p0), (11, cI (W (x16 + 1)))] [] id ?_
    cases H
    exact rr
  ·refine jf c18 ?_
   refine tl [] [] [] id ?_
   refine ends_exit ?_
   cases H
   exact rse
 ·clear h25
  cases y24 with
  | inl y26 =>
   replace H := ofInl H
   rintro e s ⟨rfl, rfl⟩
   change EndsI _ _ _ _ _ _
   refine so [] [] [(6, cB true)] [] id ?_
   cases H
   exact er
  | inr y27 =>
   replace H := ofInr H
   rintro e s ⟨rfl, rfl⟩
   cases H
   exact qr
def s_rKind_ir : S :=
 (sq [o 4 (.mv (iv 0))]
 (.seq (sq [om 7 0, o 8 (.len (.t 7)), o 9 (.mv (iv 0))]
 (.blk 0 (.loop (sq [o 10 (.bin .lss (.t 9) (.t 8))]
   (.seq (.ite (.t 10) .skip
   (.exit 0))
   (.seq (.blk 1 (sq [om 11 9, o 12 (.iad 6 (.t 7) (.t 9)), o 13 (.load 6 true (.t 12)), o 6 (.alloc [.str [], .int .i64 0, .int .i64 0, .int .i64 0, .bool false, .int .i64 0]), om 5 11, os 6 6 13]
    (sq [oa 14 0 6, ol 15 14, om 16 1, o 17 (.bin .eql (.t 15) (.t 16))]
    (.ite (.t 17) (sq [om 18 5, om 4 18]
     .ret)
    .skip))))
   (.ops [o 19 (.bin .add (.t 9) (iv 1)), om 9 19])))))))
 (sq [o 4 (.mv (.v (.int .i64 (-1))))]
 .ret)))
noncomputable def X.s_rKind (p0 : (List TKind)) (p1 : (List UInt8)) : Option Int :=
 ((loop (fun (x12 : Int) => ((bif (decide (x12 < (p0.length : Int))) then ((at' zTKind p0 x12).bind fun v15 => (bif (v15.Name == p1) then some (Sum.inr (Sum.inr x12)) else some (Sum.inl (W (x12 + 1))))) else some (Sum.inr (Sum.inl ()))) : Option (Int ⊕ (Unit ⊕ Int)))) 0).bind fun y18 => (Sum.elim (fun (y20 : Unit) => some (-1)) (fun (y21 : Int) => some y21) y18))
theorem s_rKind_ok (p0 : (List TKind)) (p1 : (List UInt8)) (r : Int) (H : X.s_rKind p0 p1 = some r) : FK 78 [.c (dat 6 eTKind zTKind p0), .c (.str p1)] (cI r) := by
 unfold X.s_rKind at H
 refine fi Tryz.f78 s_rKind_ir [(4, cI r)] [] glL Tryz.func78 ?_
 refine sn [] [] [] [] [] id ?_
 refine seq_in ?_
 refine sn [] [] [(7, dc 6 eTKind zTKind p0), (8, cL p0), (9, cI 0)] [] [] (fun t => lI p0 (t)) ?_
 refine ends_blk ?_
 obtain ⟨y18, h19, H⟩ := oB H
 refine tl [] [(1, .c (.str p1)), (7, dc 6 eTKind zTKind p0), (8, cL p0), (9, cI 0)] [] id ?_
 refine loop_in (fun (x : Int) => lit [(1, .c (.str p1)), (7, dc 6 eTKind zTKind p0), (8, cL p0), (9, cI x)] []) (orJ (fun (z : Unit) => At (.exit 0) (lit [] [])) (fun (z : Int) => At .ret (lit [(4, cI z)] []))) h19 ?_ ?_
 ·clear H h19
  intro x12 y0 H
  refine sn [] [] [(10, cB (decide (x12 < (p0.length : Int))))] [] [] id ?_
  refine seq_in ?_
  rcases oC H with ⟨c14, H⟩ | ⟨c14, H⟩
  ·refine it c14 ?_
   refine sk ?_
   refine seq_in ?_
   refine ends_blk ?_
   obtain ⟨v15, h16, H⟩ := oB H
   refine sn [.cs (eTKind v15)] [] [(5, cI x12), (6, pk 6)] [] [(6, va (eTKind v15))] (a2 eTKind h16) ?_
   refine sn [] [] [(17, cB (v15.Name == p1))] [] [] id ?_
   rcases oC H with ⟨c17, H⟩ | ⟨c17, H⟩
   ·refine it c17 ?_
    refine so [] [] [(4, cI x12)] [] id ?_
    refine ends_ret ?_
    cases H
    exact rsr
   ·refine jf c17 ?_
    refine sk ?_
    refine oo [] [] [(1, .c (.str p1)), (7, dc 6 eTKind zTKind p0), (8, cL p0), (9, cI (W (x12 + 1)))] [] id ?_
    cases H
    exact rr
  ·refine jf c14 ?_
   refine tl [] [] [] id ?_
   refine ends_exit ?_
   cases H
   exact rse
 ·clear h19
  cases y18 with
  | inl y20 =>
   replace H := ofInl H
   rintro e s ⟨rfl, rfl⟩
   change EndsI _ _ _ _ _ _
   refine so [] [] [(4, cI (-1))] [] id ?_
   cases H
   exact er
  | inr y21 =>
   replace H := ofInr H
   rintro e s ⟨rfl, rfl⟩
   cases H
   exact qr
def s_rName_ir : S :=
 (sq [o 2 (.mv bF)]
 (.seq (sq [o 3 (.mv (iv 0))]
 (.blk 0 (.loop (.seq (sq [om 4 3, om 5 0, o 6 (.lens (.t 5)), o 7 (.bin .lss (.t 4) (.t 6))]
   (.ite (.t 7) .skip
   (.exit 0)))
   (.seq (.blk 1 (sq [om 10 0, om 11 3, o 12 (.ixs (.t 10) (.t 11)), o 13 (.bin .lss (.t 12) (.v (.int .u8 97))), om 14 13, og 15 (.mv (.t 0)) 14, og 16 (.mv (.t 3)) 14, og 17 (.ixs (.t 15) (.t 16)) 14, og 18 (.bin .gtr (.t 17) (.v (.int .u8 122))) 14, o 19 (.pick (.t 14) bT (.t 18))]
    (.ite (.t 19) (sq [o 2 (.mv bF)]
     .ret)
    .skip)))
   (.ops [om 8 3, o 9 (.bin .add (.t 8) (iv 1)), om 3 9]))))))
 (sq [om 20 0, o 21 (.lens (.t 20)), o 22 (.call 55 [.t 21, .v (.int .i64 1), .v (.int .i64 8)]), om 2 22]
 .ret)))
noncomputable def X.s_rName (p0 : (List UInt8)) : Option Bool :=
 ((loop (fun (x14 : Int) => ((bif (decide (x14 < (p0.length : Int))) then (if 0 ≤ x14 ∧ x14 < (p0.length : Int) then (bif (decide ((((p0.getD x14.toNat 0).toNat : Nat) : Int) < 97)) then some (Sum.inr (Sum.inr false)) else (if 0 ≤ x14 ∧ x14 < (p0.length : Int) then (bif (decide ((((p0.getD x14.toNat 0).toNat : Nat) : Int) > 122)) then some (Sum.inr (Sum.inr false)) else some (Sum.inl (W (x14 + 1)))) else none)) else none) else some (Sum.inr (Sum.inl ()))) : Option (Int ⊕ (Unit ⊕ Bool)))) 0).bind fun y21 => (Sum.elim (fun (y23 : Unit) => ((X.s_l1In (p0.length : Int) 1 8).bind fun v25 => some v25)) (fun (y24 : Bool) => some y24) y21))
theorem s_rName_ok (p0 : (List UInt8)) (r : Bool) (H : X.s_rName p0 = some r) : FK 135 [.c (.str p0)] (cB r) := by
 unfold X.s_rName at H
 refine fi Tryz.f135 s_rName_ir [(2, cB r)] [] glL Tryz.func135 ?_
 refine sn [] [] [] [] [] id ?_
 refine seq_in ?_
 refine sn [] [] [(3, cI 0)] [] [] id ?_
 refine ends_blk ?_
 obtain ⟨y21, h22, H⟩ := oB H
 refine tl [] [(0, .c (.str p0)), (3, cI 0)] [] id ?_
 refine loop_in (fun (x : Int) => lit [(0, .c (.str p0)), (3, cI x)] []) (orJ (fun (z : Unit) => At (.exit 0) (lit [(0, .c (.str p0))] [])) (fun (z : Bool) => At .ret (lit [(2, cB z)] []))) h22 ?_ ?_
 ·clear H h22
  intro x14 y0 H
  refine seq_in ?_
  refine sn [] [] [(7, cB (decide (x14 < (p0.length : Int))))] [] [] id ?_
  rcases oC H with ⟨c16, H⟩ | ⟨c16, H⟩
  ·refine it c16 ?_
   refine sk ?_
   refine seq_in ?_
   refine ends_blk ?_
   obtain ⟨g17, H⟩ := oI H
   rcases oC H with ⟨c18, H⟩ | ⟨c18, H⟩
   ·refine sn (rg 5 true []) [] [(19, cB true)] [] [] (fun t => aI g17 (aG 5 c18 (t))) ?_
    refine it rT ?_
    refine so [] [] [(2, cB false)] [] id ?_
    refine ends_ret ?_
    cases H
    exact rsr
   ·obtain ⟨g19, H⟩ := oI H
    refine sn (rg 5 false []) [] [(19, cB (decide ((((p0.getD x14.toNat 0).toNat : Nat) : Int) > 122)))] [] [] (fun t => aI g17 (aG 3 c18 (aI g19 (aG 2 c18 (t))))) ?_
    rcases oC H with ⟨c20, H⟩ | ⟨c20, H⟩
    ·refine it c20 ?_
     refine so [] [] [(2, cB false)] [] id ?_
     refine ends_ret ?_
     cases H
     exact rsr
    ·refine jf c20 ?_
     refine sk ?_
     refine oo [] [] [(0, .c (.str p0)), (3, cI (W (x14 + 1)))] [] id ?_
     cases H
     exact rr
  ·refine jf c16 ?_
   refine tl [] [(0, .c (.str p0))] [] id ?_
   refine ends_exit ?_
   cases H
   exact rse
 ·clear h22
  cases y21 with
  | inl y23 =>
   replace H := ofInl H
   rintro e s ⟨rfl, rfl⟩
   change EndsI _ _ _ _ _ _
   obtain ⟨v25, h26, H⟩ := oB H
   refine so [.res (cB v25)] [] [(2, cB v25)] [] (aI (s_l1In_ok (p0.length : Int) 1 8 v25 h26)) ?_
   cases H
   exact er
  | inr y24 =>
   replace H := ofInr H
   rintro e s ⟨rfl, rfl⟩
   cases H
   exact qr
def s_rTerrain_ir : S :=
 (sq [o 4 (.mv (iv 0))]
 (.seq (sq [om 7 0, o 8 (.len (.t 7)), o 9 (.mv (iv 0))]
 (.blk 0 (.loop (sq [o 10 (.bin .lss (.t 9) (.t 8))]
   (.seq (.ite (.t 10) .skip
   (.exit 0))
   (.seq (.blk 1 (sq [om 11 9, o 12 (.iad 5 (.t 7) (.t 9)), o 13 (.load 5 true (.t 12)), o 6 (.alloc [.str [], .nil, .int .i64 0, .int .i64 0, .bool false]), om 5 11, os 5 6 13]
    (sq [oa 14 0 6, ol 15 14, om 16 1, o 17 (.bin .eql (.t 15) (.t 16))]
    (.ite (.t 17) (sq [om 18 5, om 4 18]
     .ret)
    .skip))))
   (.ops [o 19 (.bin .add (.t 9) (iv 1)), om 9 19])))))))
 (sq [o 4 (.mv (.v (.int .i64 (-1))))]
 .ret)))
noncomputable def X.s_rTerrain (p0 : (List TTerrain)) (p1 : (List UInt8)) : Option Int :=
 ((loop (fun (x12 : Int) => ((bif (decide (x12 < (p0.length : Int))) then ((at' zTTerrain p0 x12).bind fun v15 => (bif (v15.Name == p1) then some (Sum.inr (Sum.inr x12)) else some (Sum.inl (W (x12 + 1))))) else some (Sum.inr (Sum.inl ()))) : Option (Int ⊕ (Unit ⊕ Int)))) 0).bind fun y18 => (Sum.elim (fun (y20 : Unit) => some (-1)) (fun (y21 : Int) => some y21) y18))
theorem s_rTerrain_ok (p0 : (List TTerrain)) (p1 : (List UInt8)) (r : Int) (H : X.s_rTerrain p0 p1 = some r) : FK 136 [.c (dat 5 eTTerrain zTTerrain p0), .c (.str p1)] (cI r) := by
 unfold X.s_rTerrain at H
 refine fi Tryz.f136 s_rTerrain_ir [(4, cI r)] [] glL Tryz.func136 ?_
 refine sn [] [] [] [] [] id ?_
 refine seq_in ?_
 refine sn [] [] [(7, dc 5 eTTerrain zTTerrain p0), (8, cL p0), (9, cI 0)] [] [] (fun t => lI p0 (t)) ?_
 refine ends_blk ?_
 obtain ⟨y18, h19, H⟩ := oB H
 refine tl [] [(1, .c (.str p1)), (7, dc 5 eTTerrain zTTerrain p0), (8, cL p0), (9, cI 0)] [] id ?_
 refine loop_in (fun (x : Int) => lit [(1, .c (.str p1)), (7, dc 5 eTTerrain zTTerrain p0), (8, cL p0), (9, cI x)] []) (orJ (fun (z : Unit) => At (.exit 0) (lit [] [])) (fun (z : Int) => At .ret (lit [(4, cI z)] []))) h19 ?_ ?_
 ·clear H h19
  intro x12 y0 H
  refine sn [] [] [(10, cB (decide (x12 < (p0.length : Int))))] [] [] id ?_
  refine seq_in ?_
  rcases oC H with ⟨c14, H⟩ | ⟨c14, H⟩
  ·refine it c14 ?_
   refine sk ?_
   refine seq_in ?_
   refine ends_blk ?_
   obtain ⟨v15, h16, H⟩ := oB H
   refine sn [.cs (eTTerrain v15)] [] [(5, cI x12), (6, pk 6)] [] [(6, va (eTTerrain v15))] (a2 eTTerrain h16) ?_
   refine sn [] [] [(17, cB (v15.Name == p1))] [] [] id ?_
   rcases oC H with ⟨c17, H⟩ | ⟨c17, H⟩
   ·refine it c17 ?_
    refine so [] [] [(4, cI x12)] [] id ?_
    refine ends_ret ?_
    cases H
    exact rsr
   ·refine jf c17 ?_
    refine sk ?_
    refine oo [] [] [(1, .c (.str p1)), (7, dc 5 eTTerrain zTTerrain p0), (8, cL p0), (9, cI (W (x12 + 1)))] [] id ?_
    cases H
    exact rr
  ·refine jf c14 ?_
   refine tl [] [] [] id ?_
   refine ends_exit ?_
   cases H
   exact rse
 ·clear h19
  cases y18 with
  | inl y20 =>
   replace H := ofInl H
   rintro e s ⟨rfl, rfl⟩
   change EndsI _ _ _ _ _ _
   refine so [] [] [(4, cI (-1))] [] id ?_
   cases H
   exact er
  | inr y21 =>
   replace H := ofInr H
   rintro e s ⟨rfl, rfl⟩
   cases H
   exact qr
def s_rGood_ir : S :=
 (sq [o 1 (.box 7 (.t 0)), o 2 (.mv bF)]
 (.seq (sq [oa 7 0 1, ol 8 7, o 9 (.len (.t 8)), o 10 (.call 55 [.t 9, .v (.int .i64 1), .v (.int .i64 6)]), o 11 (.not (.t 10)), om 12 11, og 13 (.fad 1 (.t 1)) 12, og 14 (.load 1 false (.t 13)) 12, og 15 (.len (.t 14)) 12, og 16 (.call 55 [.t 15, .v (.int .i64 1), .v (.int .i64 4)]) 12, og 17 (.not (.t 16)) 12, o 18 (.pick (.t 12) bT (.t 17))]
 (.ite (.t 18) (sq [o 2 (.mv bF)]
  .ret)
 .skip))
 (.seq (sq [oa 19 0 1, ol 20 19, o 21 (.len (.t 20)), o 22 (.mv (iv 0))]
 (.blk 0 (.loop (sq [o 23 (.bin .lss (.t 22) (.t 21))]
   (.seq (.ite (.t 23) .skip
   (.exit 0))
   (.seq (.blk 1 (sq [om 24 22, o 25 (.iad 5 (.t 20) (.t 22)), o 26 (.load 5 true (.t 25)), o 4 (.alloc [.str [], .nil, .int .i64 0, .int .i64 0, .bool false]), om 3 24, os 5 4 26]
    (sq [oa 27 0 4, ol 28 27, o 29 (.call 135 [.t 28]), o 30 (.not (.t 29)), om 31 30, og 32 (.fad 0 (.t 1)) 31, og 33 (.load 1 false (.t 32)) 31, og 34 (.fad 0 (.t 4)) 31, og 35 (.load 1 false (.t 34)) 31, og 36 (.call 136 [.t 33, .t 35]) 31, og 37 (.mv (.t 3)) 31, og 38 (.bin .neq (.t 36) (.t 37)) 31, o 39 (.pick (.t 31) bT (.t 38)), om 40 39, og 41 (.fad 1 (.t 4)) 40, og 42 (.load 1 false (.t 41)) 40, og 43 (.len (.t 42)) 40, og 44 (.fad 1 (.t 1)) 40, og 45 (.load 1 false (.t 44)) 40, og 46 (.len (.t 45)) 40, og 47 (.bin .neq (.t 43) (.t 46)) 40, o 48 (.pick (.t 40) bT (.t 47)), om 49 48, og 50 (.fad 1 (.t 4)) 49, og 51 (.load 1 false (.t 50)) 49, og 52 (.call 74 [.t 51, .v (.int .i64 0), .v (.int .i64 9)]) 49, og 53 (.not (.t 52)) 49, o 54 (.pick (.t 49) bT (.t 53)), om 55 54, og 56 (.fad 2 (.t 4)) 55, og 57 (.load 1 false (.t 56)) 55, og 58 (.call 55 [.t 57, .v (.int .i64 (-3)), .v (.int .i64 3)]) 55, og 59 (.not (.t 58)) 55, o 60 (.pick (.t 55) bT (.t 59)), om 61 60, og 62 (.fad 3 (.t 4)) 61, og 63 (.load 1 false (.t 62)) 61, og 64 (.call 55 [.t 63, .v (.int .i64 0), .v (.int .i64 3)]) 61, og 65 (.not (.t 64)) 61, o 66 (.pick (.t 61) bT (.t 65))]
    (.ite (.t 66) (sq [o 2 (.mv bF)]
     .ret)
    .skip))))
   (.ops [o 67 (.bin .add (.t 22) (iv 1)), om 22 67])))))))
 (.seq (sq [oa 68 1 1, ol 69 68, o 70 (.len (.t 69)), o 71 (.mv (iv 0))]
 (.blk 2 (.loop (sq [o 72 (.bin .lss (.t 71) (.t 70))]
   (.seq (.ite (.t 72) .skip
   (.exit 2))
   (.seq (.blk 3 (sq [om 73 71, o 74 (.iad 6 (.t 69) (.t 71)), o 75 (.load 6 true (.t 74)), o 6 (.alloc [.str [], .int .i64 0, .int .i64 0, .int .i64 0, .bool false, .int .i64 0]), om 5 73, os 6 6 75]
    (sq [oa 76 0 6, ol 77 76, o 78 (.call 135 [.t 77]), o 79 (.not (.t 78)), om 80 79, og 81 (.fad 1 (.t 1)) 80, og 82 (.load 1 false (.t 81)) 80, og 83 (.fad 0 (.t 6)) 80, og 84 (.load 1 false (.t 83)) 80, og 85 (.call 78 [.t 82, .t 84]) 80, og 86 (.mv (.t 5)) 80, og 87 (.bin .neq (.t 85) (.t 86)) 80, o 88 (.pick (.t 80) bT (.t 87)), om 89 88, og 90 (.fad 1 (.t 6)) 89, og 91 (.load 1 false (.t 90)) 89, og 92 (.call 55 [.t 91, .v (.int .i64 1), .v (.int .i64 9)]) 89, og 93 (.not (.t 92)) 89, o 94 (.pick (.t 89) bT (.t 93)), om 95 94, og 96 (.fad 2 (.t 6)) 95, og 97 (.load 1 false (.t 96)) 95, og 98 (.call 55 [.t 97, .v (.int .i64 0), .v (.int .i64 9)]) 95, og 99 (.not (.t 98)) 95, o 100 (.pick (.t 95) bT (.t 99)), om 101 100, og 102 (.fad 3 (.t 6)) 101, og 103 (.load 1 false (.t 102)) 101, og 104 (.call 55 [.t 103, .v (.int .i64 1), .v (.int .i64 4)]) 101, og 105 (.not (.t 104)) 101, o 106 (.pick (.t 101) bT (.t 105)), om 107 106, og 108 (.fad 5 (.t 6)) 107, og 109 (.load 1 false (.t 108)) 107, og 110 (.call 55 [.t 109, .v (.int .i64 0), .v (.int .i64 4)]) 107, og 111 (.not (.t 110)) 107, o 112 (.pick (.t 107) bT (.t 111))]
    (.ite (.t 112) (sq [o 2 (.mv bF)]
     .ret)
    .skip))))
   (.ops [o 113 (.bin .add (.t 71) (iv 1)), om 71 113])))))))
 (sq [oa 114 2 1, ol 115 114, o 116 (.call 55 [.t 115, .v (.int .i64 1), .v (.int .i64 4)]), om 117 116, oh 118 (.fad 3 (.t 1)) 117, oh 119 (.load 1 false (.t 118)) 117, oh 120 (.call 55 [.t 119, .v (.int .i64 0), .v (.int .i64 9)]) 117, o 121 (.pick (.t 117) (.t 120) bF), om 122 121, oh 123 (.fad 4 (.t 1)) 122, oh 124 (.load 1 false (.t 123)) 122, oh 125 (.call 55 [.t 124, .v (.int .i64 1), .v (.int .i64 9)]) 122, o 126 (.pick (.t 122) (.t 125) bF), om 127 126, oh 128 (.fad 5 (.t 1)) 127, oh 129 (.load 1 false (.t 128)) 127, oh 130 (.call 55 [.t 129, .v (.int .i64 0), .v (.int .i64 20)]) 127, o 131 (.pick (.t 127) (.t 130) bF), om 132 131, oh 133 (.fad 6 (.t 1)) 132, oh 134 (.load 1 false (.t 133)) 132, oh 135 (.call 55 [.t 134, .v (.int .i64 1), .v (.int .i64 30)]) 132, o 136 (.pick (.t 132) (.t 135) bF), om 2 136]
 .ret)))))
noncomputable def X.s_rGood (p0 : TRules) : Option Bool :=
 ((X.s_l1In (p0.Terrains.length : Int) 1 6).bind fun v7 => (bif (!v7) then some false else ((X.s_l1In (p0.Kinds.length : Int) 1 4).bind fun v10 => (bif (!v10) then some false else ((loop (fun (x120 : Int) => ((bif (decide (x120 < (p0.Terrains.length : Int))) then ((at' zTTerrain p0.Terrains x120).bind fun v123 => ((X.s_rName v123.Name).bind fun v125 => (bif (!v125) then some (Sum.inr (Sum.inr false)) else ((X.s_rTerrain p0.Terrains v123.Name).bind fun v128 => (bif (v128 != x120) then some (Sum.inr (Sum.inr false)) else (bif ((v123.Cost.length : Int) != (p0.Kinds.length : Int)) then some (Sum.inr (Sum.inr false)) else ((X.s_l1All v123.Cost 0 9).bind fun v132 => (bif (!v132) then some (Sum.inr (Sum.inr false)) else ((X.s_l1In v123.Shift (-3) 3).bind fun v135 => (bif (!v135) then some (Sum.inr (Sum.inr false)) else ((X.s_l1In v123.Height 0 3).bind fun v138 => (bif (!v138) then some (Sum.inr (Sum.inr false)) else some (Sum.inl (W (x120 + 1))))))))))))))) else some (Sum.inr (Sum.inl ()))) : Option (Int ⊕ (Unit ⊕ Bool)))) 0).bind fun y141 => (Sum.elim (fun (y143 : Unit) => ((loop (fun (x262 : Int) => ((bif (decide (x262 < (p0.Kinds.length : Int))) then ((at' zTKind p0.Kinds x262).bind fun v265 => ((X.s_rName v265.Name).bind fun v267 => (bif (!v267) then some (Sum.inr (Sum.inr false)) else ((X.s_rKind p0.Kinds v265.Name).bind fun v270 => (bif (v270 != x262) then some (Sum.inr (Sum.inr false)) else ((X.s_l1In v265.Strength 1 9).bind fun v273 => (bif (!v273) then some (Sum.inr (Sum.inr false)) else ((X.s_l1In v265.Moves 0 9).bind fun v276 => (bif (!v276) then some (Sum.inr (Sum.inr false)) else ((X.s_l1In v265.Steps 1 4).bind fun v279 => (bif (!v279) then some (Sum.inr (Sum.inr false)) else ((X.s_l1In v265.View 0 4).bind fun v282 => (bif (!v282) then some (Sum.inr (Sum.inr false)) else some (Sum.inl (W (x262 + 1)))))))))))))))) else some (Sum.inr (Sum.inl ()))) : Option (Int ⊕ (Unit ⊕ Bool)))) 0).bind fun y285 => (Sum.elim (fun (y287 : Unit) => ((X.s_l1In p0.Stack 1 4).bind fun v289 => (bif v289 then ((X.s_l1In p0.River 0 9).bind fun v292 => (bif v292 then ((X.s_l1In p0.Road 1 9).bind fun v295 => (bif v295 then ((X.s_l1In p0.Supply 0 20).bind fun v298 => (bif v298 then ((X.s_l1In p0.Turns 1 30).bind fun v301 => some v301) else some false)) else some false)) else some false)) else some false))) (fun (y288 : Bool) => some y288) y285))) (fun (y144 : Bool) => some y144) y141))))))
theorem s_rGood_ok (p0 : TRules) (r : Bool) (H : X.s_rGood p0 = some r) : FK 72 [.agg (eTRules p0)] (cB r) := by
 unfold X.s_rGood at H
 refine fi Tryz.f72 s_rGood_ir [(2, cB r)] [] glL Tryz.func72 ?_
 refine so [] [] [(1, pk 1)] [(1, va (eTRules p0))] id ?_
 refine seq_in ?_
 obtain ⟨v7, h8, H⟩ := oB H
 rcases oC H with ⟨c9, H⟩ | ⟨c9, H⟩
 ·refine sn ([.res (cB v7)] ++ rg 6 true []) [] [(18, cB true)] [] [] (fun t => lI p0.Terrains (aI (s_l1In_ok (p0.Terrains.length : Int) 1 6 v7 h8) (aG 6 c9 (t)))) ?_
  refine it rT ?_
  refine so [] [] [(2, cB false)] [] id ?_
  cases H
  exact er
 ·obtain ⟨v10, h11, H⟩ := oB H
  refine sn ([.res (cB v7)] ++ rg 4 false ([.res (cB v10)] ++ rg 2 false [])) [] [(18, cB (!v10))] [] [] (fun t => lI p0.Terrains (aI (s_l1In_ok (p0.Terrains.length : Int) 1 6 v7 h8) (aG 3 c9 (lI p0.Kinds (aI c9 (aI (s_l1In_ok (p0.Kinds.length : Int) 1 4 v10 h11) (aG 2 c9 (t)))))))) ?_
  rcases oC H with ⟨c12, H⟩ | ⟨c12, H⟩
  ·refine it c12 ?_
   refine so [] [] [(2, cB false)] [] id ?_
   cases H
   exact er
  ·refine jf c12 ?_
   refine sk ?_
   refine seq_in ?_
   refine sn [] [] [(20, dc 5 eTTerrain zTTerrain p0.Terrains), (21, cL p0.Terrains), (22, cI 0)] [] [] (fun t => lI p0.Terrains (t)) ?_
   refine ends_blk ?_
   obtain ⟨y141, h142, H⟩ := oB H
   refine tl [] [(1, pk 1), (20, dc 5 eTTerrain zTTerrain p0.Terrains), (21, cL p0.Terrains), (22, cI 0)] [(1, va (eTRules p0))] id ?_
   refine loop_in (fun (x : Int) => lit [(1, pk 1), (20, dc 5 eTTerrain zTTerrain p0.Terrains), (21, cL p0.Terrains), (22, cI x)] [(1, va (eTRules p0))]) (orJ (fun (z : Unit) => At (.exit 0) (lit [(1, pk 1)] [(1, va (eTRules p0))])) (fun (z : Bool) => At .ret (lit [(2, cB z)] []))) h142 ?_ ?_
   ·clear H h142
    intro x120 y0 H
    refine sn [] [] [(23, cB (decide (x120 < (p0.Terrains.length : Int))))] [] [] id ?_
    refine seq_in ?_
    rcases oC H with ⟨c122, H⟩ | ⟨c122, H⟩
    ·refine it c122 ?_
     refine sk ?_
     refine seq_in ?_
     refine ends_blk ?_
     obtain ⟨v123, h124, H⟩ := oB H
     refine sn [.cs (eTTerrain v123)] [] [(3, cI x120), (4, pk 4)] [] [(4, va (eTTerrain v123))] (a2 eTTerrain h124) ?_
     obtain ⟨v125, h126, H⟩ := oB H
     rcases oC H with ⟨c127, H⟩ | ⟨c127, H⟩
     ·refine sn ([.res (cB v125)] ++ rg 31 true []) [] [(66, cB true)] [] [] (fun t => aI (s_rName_ok v123.Name v125 h126) (aG 8 c127 (aG 23 rT (t)))) ?_
      refine it rT ?_
      refine so [] [] [(2, cB false)] [] id ?_
      refine ends_ret ?_
      cases H
      exact rsr
     ·obtain ⟨v128, h129, H⟩ := oB H
      rcases oC H with ⟨c130, H⟩ | ⟨c130, H⟩
      ·refine sn ([.res (cB v125)] ++ rg 5 false ([.res (cI v128)] ++ rg 3 false (rg 23 true []))) [] [(66, cB true)] [] [] (fun t => aI (s_rName_ok v123.Name v125 h126) (aG 5 c127 (aI (s_rTerrain_ok p0.Terrains v123.Name v128 h129) (aG 3 c127 (aG 8 c130 (aG 15 rT (t))))))) ?_
       refine it rT ?_
       refine so [] [] [(2, cB false)] [] id ?_
       refine ends_ret ?_
       cases H
       exact rsr
      ·rcases oC H with ⟨c131, H⟩ | ⟨c131, H⟩
       ·refine sn ([.res (cB v125)] ++ rg 5 false ([.res (cI v128)] ++ rg 11 false (rg 15 true []))) [] [(66, cB true)] [] [] (fun t => aI (s_rName_ok v123.Name v125 h126) (aG 5 c127 (aI (s_rTerrain_ok p0.Terrains v123.Name v128 h129) (aG 3 c127 (aG 3 c130 (lI v123.Cost (aG 3 c130 (lI p0.Kinds (aG 2 c130 (aG 5 c131 (aG 10 rT (t)))))))))))) ?_
        refine it rT ?_
        refine so [] [] [(2, cB false)] [] id ?_
        refine ends_ret ?_
        cases H
        exact rsr
       ·obtain ⟨v132, h133, H⟩ := oB H
        rcases oC H with ⟨c134, H⟩ | ⟨c134, H⟩
        ·refine sn ([.res (cB v125)] ++ rg 5 false ([.res (cI v128)] ++ rg 14 false ([.res (cB v132)] ++ rg 2 false (rg 10 true [])))) [] [(66, cB true)] [] [] (fun t => aI (s_rName_ok v123.Name v125 h126) (aG 5 c127 (aI (s_rTerrain_ok p0.Terrains v123.Name v128 h129) (aG 3 c127 (aG 3 c130 (lI v123.Cost (aG 3 c130 (lI p0.Kinds (aG 2 c130 (aG 3 c131 (aI (s_l1All_ok v123.Cost 0 9 v132 h133) (aG 2 c131 (aG 5 c134 (aG 5 rT (t))))))))))))))) ?_
         refine it rT ?_
         refine so [] [] [(2, cB false)] [] id ?_
         refine ends_ret ?_
         cases H
         exact rsr
        ·obtain ⟨v135, h136, H⟩ := oB H
         rcases oC H with ⟨c137, H⟩ | ⟨c137, H⟩
         ·refine sn ([.res (cB v125)] ++ rg 5 false ([.res (cI v128)] ++ rg 14 false ([.res (cB v132)] ++ rg 5 false ([.res (cB v135)] ++ rg 2 false (rg 5 true []))))) [] [(66, cB true)] [] [] (fun t => aI (s_rName_ok v123.Name v125 h126) (aG 5 c127 (aI (s_rTerrain_ok p0.Terrains v123.Name v128 h129) (aG 3 c127 (aG 3 c130 (lI v123.Cost (aG 3 c130 (lI p0.Kinds (aG 2 c130 (aG 3 c131 (aI (s_l1All_ok v123.Cost 0 9 v132 h133) (aG 2 c131 (aG 3 c134 (aI (s_l1In_ok v123.Shift (-3) 3 v135 h136) (aG 2 c134 (aG 5 c137 (t))))))))))))))))) ?_
          refine it rT ?_
          refine so [] [] [(2, cB false)] [] id ?_
          refine ends_ret ?_
          cases H
          exact rsr
         ·obtain ⟨v138, h139, H⟩ := oB H
          refine sn ([.res (cB v125)] ++ rg 5 false ([.res (cI v128)] ++ rg 14 false ([.res (cB v132)] ++ rg 5 false ([.res (cB v135)] ++ rg 5 false ([.res (cB v138)] ++ rg 2 false []))))) [] [(66, cB (!v138))] [] [] (fun t => aI (s_rName_ok v123.Name v125 h126) (aG 5 c127 (aI (s_rTerrain_ok p0.Terrains v123.Name v128 h129) (aG 3 c127 (aG 3 c130 (lI v123.Cost (aG 3 c130 (lI p0.Kinds (aG 2 c130 (aG 3 c131 (aI (s_l1All_ok v123.Cost 0 9 v132 h133) (aG 2 c131 (aG 3 c134 (aI (s_l1In_ok v123.Shift (-3) 3 v135 h136) (aG 2 c134 (aG 3 c137 (aI (s_l1In_ok v123.Height 0 3 v138 h139) (aG 2 c137 (t))))))))))))))))))) ?_
          rcases oC H with ⟨c140, H⟩ | ⟨c140, H⟩
          ·refine it c140 ?_
           refine so [] [] [(2, cB false)] [] id ?_
           refine ends_ret ?_
           cases H
           exact rsr
          ·refine jf c140 ?_
           refine sk ?_
           refine oo [] [] [(1, pk 1), (20, dc 5 eTTerrain zTTerrain p0.Terrains), (21, cL p0.Terrains), (22, cI (W (x120 + 1)))] [(1, va (eTRules p0))] id ?_
           cases H
           exact rr
    ·refine jf c122 ?_
     refine tl [] [(1, pk 1)] [(1, va (eTRules p0))] id ?_
     refine ends_exit ?_
     cases H
     exact rse
   ·clear h142
    cases y141 with
    | inl y143 =>
     replace H := ofInl H
     rintro e s ⟨rfl, rfl⟩
     change EndsI _ _ _ _ _ _
     refine seq_in ?_
     refine sn [] [] [(69, dc 6 eTKind zTKind p0.Kinds), (70, cL p0.Kinds), (71, cI 0)] [] [] (fun t => lI p0.Kinds (t)) ?_
     refine ends_blk ?_
     obtain ⟨y285, h286, H⟩ := oB H
     refine tl [] [(1, pk 1), (69, dc 6 eTKind zTKind p0.Kinds), (70, cL p0.Kinds), (71, cI 0)] [(1, va (eTRules p0))] id ?_
     refine loop_in (fun (x : Int) => lit [(1, pk 1), (69, dc 6 eTKind zTKind p0.Kinds), (70, cL p0.Kinds), (71, cI x)] [(1, va (eTRules p0))]) (orJ (fun (z : Unit) => At (.exit 2) (lit [(1, pk 1)] [(1, va (eTRules p0))])) (fun (z : Bool) => At .ret (lit [(2, cB z)] []))) h286 ?_ ?_
     ·clear H h286
      intro x262 y0 H
      refine sn [] [] [(72, cB (decide (x262 < (p0.Kinds.length : Int))))] [] [] id ?_
      refine seq_in ?_
      rcases oC H with ⟨c264, H⟩ | ⟨c264, H⟩
      ·refine it c264 ?_
       refine sk ?_
       refine seq_in ?_
       refine ends_blk ?_
       obtain ⟨v265, h266, H⟩ := oB H
       refine sn [.cs (eTKind v265)] [] [(5, cI x262), (6, pk 6)] [] [(6, va (eTKind v265))] (a2 eTKind h266) ?_
       obtain ⟨v267, h268, H⟩ := oB H
       rcases oC H with ⟨c269, H⟩ | ⟨c269, H⟩
       ·refine sn ([.res (cB v267)] ++ rg 28 true []) [] [(112, cB true)] [] [] (fun t => aI (s_rName_ok v265.Name v267 h268) (aG 8 c269 (aG 20 rT (t)))) ?_
        refine it rT ?_
        refine so [] [] [(2, cB false)] [] id ?_
        refine ends_ret ?_
        cases H
        exact rsr
       ·obtain ⟨v270, h271, H⟩ := oB H
        rcases oC H with ⟨c272, H⟩ | ⟨c272, H⟩
        ·refine sn ([.res (cB v267)] ++ rg 5 false ([.res (cI v270)] ++ rg 3 false (rg 20 true []))) [] [(112, cB true)] [] [] (fun t => aI (s_rName_ok v265.Name v267 h268) (aG 5 c269 (aI (s_rKind_ok p0.Kinds v265.Name v270 h271) (aG 3 c269 (aG 5 c272 (aG 15 rT (t))))))) ?_
         refine it rT ?_
         refine so [] [] [(2, cB false)] [] id ?_
         refine ends_ret ?_
         cases H
         exact rsr
        ·obtain ⟨v273, h274, H⟩ := oB H
         rcases oC H with ⟨c275, H⟩ | ⟨c275, H⟩
         ·refine sn ([.res (cB v267)] ++ rg 5 false ([.res (cI v270)] ++ rg 6 false ([.res (cB v273)] ++ rg 2 false (rg 15 true [])))) [] [(112, cB true)] [] [] (fun t => aI (s_rName_ok v265.Name v267 h268) (aG 5 c269 (aI (s_rKind_ok p0.Kinds v265.Name v270 h271) (aG 3 c269 (aG 3 c272 (aI (s_l1In_ok v265.Strength 1 9 v273 h274) (aG 2 c272 (aG 5 c275 (aG 10 rT (t)))))))))) ?_
          refine it rT ?_
          refine so [] [] [(2, cB false)] [] id ?_
          refine ends_ret ?_
          cases H
          exact rsr
         ·obtain ⟨v276, h277, H⟩ := oB H
          rcases oC H with ⟨c278, H⟩ | ⟨c278, H⟩
          ·refine sn ([.res (cB v267)] ++ rg 5 false ([.res (cI v270)] ++ rg 6 false ([.res (cB v273)] ++ rg 5 false ([.res (cB v276)] ++ rg 2 false (rg 10 true []))))) [] [(112, cB true)] [] [] (fun t => aI (s_rName_ok v265.Name v267 h268) (aG 5 c269 (aI (s_rKind_ok p0.Kinds v265.Name v270 h271) (aG 3 c269 (aG 3 c272 (aI (s_l1In_ok v265.Strength 1 9 v273 h274) (aG 2 c272 (aG 3 c275 (aI (s_l1In_ok v265.Moves 0 9 v276 h277) (aG 2 c275 (aG 5 c278 (aG 5 rT (t))))))))))))) ?_
           refine it rT ?_
           refine so [] [] [(2, cB false)] [] id ?_
           refine ends_ret ?_
           cases H
           exact rsr
          ·obtain ⟨v279, h280, H⟩ := oB H
           rcases oC H with ⟨c281, H⟩ | ⟨c281, H⟩
           ·refine sn ([.res (cB v267)] ++ rg 5 false ([.res (cI v270)] ++ rg 6 false ([.res (cB v273)] ++ rg 5 false ([.res (cB v276)] ++ rg 5 false ([.res (cB v279)] ++ rg 2 false (rg 5 true [])))))) [] [(112, cB true)] [] [] (fun t => aI (s_rName_ok v265.Name v267 h268) (aG 5 c269 (aI (s_rKind_ok p0.Kinds v265.Name v270 h271) (aG 3 c269 (aG 3 c272 (aI (s_l1In_ok v265.Strength 1 9 v273 h274) (aG 2 c272 (aG 3 c275 (aI (s_l1In_ok v265.Moves 0 9 v276 h277) (aG 2 c275 (aG 3 c278 (aI (s_l1In_ok v265.Steps 1 4 v279 h280) (aG 2 c278 (aG 5 c281 (t))))))))))))))) ?_
            refine it rT ?_
            refine so [] [] [(2, cB false)] [] id ?_
            refine ends_ret ?_
            cases H
            exact rsr
           ·obtain ⟨v282, h283, H⟩ := oB H
            refine sn ([.res (cB v267)] ++ rg 5 false ([.res (cI v270)] ++ rg 6 false ([.res (cB v273)] ++ rg 5 false ([.res (cB v276)] ++ rg 5 false ([.res (cB v279)] ++ rg 5 false ([.res (cB v282)] ++ rg 2 false [])))))) [] [(112, cB (!v282))] [] [] (fun t => aI (s_rName_ok v265.Name v267 h268) (aG 5 c269 (aI (s_rKind_ok p0.Kinds v265.Name v270 h271) (aG 3 c269 (aG 3 c272 (aI (s_l1In_ok v265.Strength 1 9 v273 h274) (aG 2 c272 (aG 3 c275 (aI (s_l1In_ok v265.Moves 0 9 v276 h277) (aG 2 c275 (aG 3 c278 (aI (s_l1In_ok v265.Steps 1 4 v279 h280) (aG 2 c278 (aG 3 c281 (aI (s_l1In_ok v265.View 0 4 v282 h283) (aG 2 c281 (t))))))))))))))))) ?_
            rcases oC H with ⟨c284, H⟩ | ⟨c284, H⟩
            ·refine it c284 ?_
             refine so [] [] [(2, cB false)] [] id ?_
             refine ends_ret ?_
             cases H
             exact rsr
            ·refine jf c284 ?_
             refine sk ?_
             refine oo [] [] [(1, pk 1), (69, dc 6 eTKind zTKind p0.Kinds), (70, cL p0.Kinds), (71, cI (W (x262 + 1)))] [(1, va (eTRules p0))] id ?_
             cases H
             exact rr
      ·refine jf c264 ?_
       refine tl [] [(1, pk 1)] [(1, va (eTRules p0))] id ?_
       refine ends_exit ?_
       cases H
       exact rse
     ·clear h286
      cases y285 with
      | inl y287 =>
       replace H := ofInl H
       rintro e s ⟨rfl, rfl⟩
       change EndsI _ _ _ _ _ _
       obtain ⟨v289, h290, H⟩ := oB H
       rcases oC H with ⟨c291, H⟩ | ⟨c291, H⟩
       ·obtain ⟨v292, h293, H⟩ := oB H
        rcases oC H with ⟨c294, H⟩ | ⟨c294, H⟩
        ·obtain ⟨v295, h296, H⟩ := oB H
         rcases oC H with ⟨c297, H⟩ | ⟨c297, H⟩
         ·obtain ⟨v298, h299, H⟩ := oB H
          rcases oC H with ⟨c300, H⟩ | ⟨c300, H⟩
          ·obtain ⟨v301, h302, H⟩ := oB H
           refine so ([.res (cB v289)] ++ rg 3 true ([.res (cB v292)] ++ rg 4 true ([.res (cB v295)] ++ rg 4 true ([.res (cB v298)] ++ rg 4 true [.res (cB v301), .g true])))) [] [(2, cB v301)] [] (fun t => aI (s_l1In_ok p0.Stack 1 4 v289 h290) (aG 3 c291 (aI (s_l1In_ok p0.River 0 9 v292 h293) (aI c291 (aG 3 c294 (aI (s_l1In_ok p0.Road 1 9 v295 h296) (aI c294 (aG 3 c297 (aI (s_l1In_ok p0.Supply 0 20 v298 h299) (aI c297 (aG 3 c300 (aI (s_l1In_ok p0.Turns 1 30 v301 h302) (aI c300 (t)))))))))))))) ?_
           cases H
           exact er
          ·refine so ([.res (cB v289)] ++ rg 3 true ([.res (cB v292)] ++ rg 4 true ([.res (cB v295)] ++ rg 4 true ([.res (cB v298), .g true] ++ rg 4 false [])))) [] [(2, cB false)] [] (fun t => aI (s_l1In_ok p0.Stack 1 4 v289 h290) (aG 3 c291 (aI (s_l1In_ok p0.River 0 9 v292 h293) (aI c291 (aG 3 c294 (aI (s_l1In_ok p0.Road 1 9 v295 h296) (aI c294 (aG 3 c297 (aI (s_l1In_ok p0.Supply 0 20 v298 h299) (aI c297 (aG 4 c300 (t)))))))))))) ?_
           cases H
           exact er
         ·refine so ([.res (cB v289)] ++ rg 3 true ([.res (cB v292)] ++ rg 4 true ([.res (cB v295), .g true] ++ rg 8 false []))) [] [(2, cB false)] [] (fun t => aI (s_l1In_ok p0.Stack 1 4 v289 h290) (aG 3 c291 (aI (s_l1In_ok p0.River 0 9 v292 h293) (aI c291 (aG 3 c294 (aI (s_l1In_ok p0.Road 1 9 v295 h296) (aI c294 (aG 4 c297 (aG 4 rF (t)))))))))) ?_
          cases H
          exact er
        ·refine so ([.res (cB v289)] ++ rg 3 true ([.res (cB v292), .g true] ++ rg 12 false [])) [] [(2, cB false)] [] (fun t => aI (s_l1In_ok p0.Stack 1 4 v289 h290) (aG 3 c291 (aI (s_l1In_ok p0.River 0 9 v292 h293) (aI c291 (aG 4 c294 (aG 8 rF (t))))))) ?_
         cases H
         exact er
       ·refine so ([.res (cB v289)] ++ rg 16 false []) [] [(2, cB false)] [] (fun t => aI (s_l1In_ok p0.Stack 1 4 v289 h290) (aG 4 c291 (aG 12 rF (t)))) ?_
        cases H
        exact er
      | inr y288 =>
       replace H := ofInr H
       rintro e s ⟨rfl, rfl⟩
       cases H
       exact qr
    | inr y144 =>
     replace H := ofInr H
     rintro e s ⟨rfl, rfl⟩
     cases H
     exact qr
def s_mSize_ir : S :=
 (sq [o 1 (.box 5 (.t 0)), o 2 (.mv (iv 0))]
 (sq [oa 3 0 1, ol 4 3, oa 5 1 1, ol 6 5, o 7 (.bin .mul (.t 4) (.t 6)), om 2 7]
 .ret))
noncomputable def X.s_mSize (p0 : TMap) : Option Int :=
 some (W (p0.Width * p0.Height))
theorem s_mSize_ok (p0 : TMap) (r : Int) (H : X.s_mSize p0 = some r) : FK 80 [.agg (eTMap p0)] (cI r) := by
 unfold X.s_mSize at H
 refine fi Tryz.f80 s_mSize_ir [(2, cI r)] [] glL Tryz.func80 ?_
 refine so [] [] [(1, pk 1)] [(1, va (eTMap p0))] id ?_
 refine so [] [] [(2, cI (W (p0.Width * p0.Height)))] [] id ?_
 cases H
 exact er
def s_l1Rising_ir : S :=
 (sq [o 6 (.mv bF)]
 (.seq (sq [om 9 0, o 10 (.len (.t 9)), o 11 (.mv (iv 0))]
 (.blk 0 (.loop (sq [o 12 (.bin .lss (.t 11) (.t 10))]
   (.seq (.ite (.t 12) .skip
   (.exit 0))
   (.seq (.blk 1 (sq [om 13 11, o 14 (.iad 1 (.t 9) (.t 11)), ol 15 14, om 7 13, om 8 15]
    (sq [om 16 8, om 17 1, om 18 2, o 19 (.call 55 [.t 16, .t 17, .t 18]), o 20 (.not (.t 19)), om 21 20, og 22 (.mv (.t 7)) 21, og 23 (.bin .gtr (.t 22) (iv 0)) 21, og 24 (.mv (.t 23)) 21, oh 25 (.mv (.t 0)) 24, oh 26 (.mv (.t 7)) 24, oh 27 (.bin .sub (.t 26) (iv 1)) 24, oh 28 (.iad 1 (.t 25) (.t 27)) 24, oh 29 (.load 1 false (.t 28)) 24, oh 30 (.mv (.t 8)) 24, oh 31 (.bin .geq (.t 29) (.t 30)) 24, og 32 (.pick (.t 24) (.t 31) bF) 21, o 33 (.pick (.t 21) bT (.t 32))]
    (.ite (.t 33) (sq [o 6 (.mv bF)]
     .ret)
    .skip))))
   (.ops [o 34 (.bin .add (.t 11) (iv 1)), om 11 34])))))))
 (sq [o 6 (.mv bT)]
 .ret)))
noncomputable def X.s_l1Rising (p0 : (List Int)) (p1 : Int) (p2 : Int) : Option Bool :=
 ((loop (fun (x24 : Int) => ((bif (decide (x24 < (p0.length : Int))) then ((at' zI p0 x24).bind fun v27 => ((X.s_l1In v27 p1 p2).bind fun v29 => (bif (!v29) then some (Sum.inr (Sum.inr false)) else (bif (decide (x24 > 0)) then ((at' zI p0 (W (x24 - 1))).bind fun v33 => (bif (decide (v33 ≥ v27)) then some (Sum.inr (Sum.inr false)) else some (Sum.inl (W (x24 + 1))))) else some (Sum.inl (W (x24 + 1))))))) else some (Sum.inr (Sum.inl ()))) : Option (Int ⊕ (Unit ⊕ Bool)))) 0).bind fun y36 => (Sum.elim (fun (y38 : Unit) => some true) (fun (y39 : Bool) => some y39) y36))
theorem s_l1Rising_ok (p0 : (List Int)) (p1 : Int) (p2 : Int) (r : Bool) (H : X.s_l1Rising p0 p1 p2 = some r) : FK 79 [.c (dat 1 eI zI p0), cI p1, cI p2] (cB r) := by
 unfold X.s_l1Rising at H
 refine fi Tryz.f79 s_l1Rising_ir [(6, cB r)] [] glL Tryz.func79 ?_
 refine sn [] [] [] [] [] id ?_
 refine seq_in ?_
 refine sn [] [] [(9, dc 1 eI zI p0), (10, cL p0), (11, cI 0)] [] [] (fun t => lI p0 (t)) ?_
 refine ends_blk ?_
 obtain ⟨y36, h37, H⟩ := oB H
 refine tl [] [(0, dc 1 eI zI p0), (1, cI p1), (2, cI p2), (9, dc 1 eI zI p0), (10, cL p0), (11, cI 0)] [] id ?_
 refine loop_in (fun (x : Int) => lit [(0, dc 1 eI zI p0), (1, cI p1), (2, cI p2), (9, dc 1 eI zI p0), (10, cL p0), (11, cI x)] []) (orJ (fun (z : Unit) => At (.exit 0) (lit [] [])) (fun (z : Bool) => At .ret (lit [(6, cB z)] []))) h37 ?_ ?_
 ·clear H h37
  intro x24 y0 H
  refine sn [] [] [(12, cB (decide (x24 < (p0.length : Int))))] [] [] id ?_
  refine seq_in ?_
  rcases oC H with ⟨c26, H⟩ | ⟨c26, H⟩
  ·refine it c26 ?_
   refine sk ?_
   refine seq_in ?_
   refine ends_blk ?_
   obtain ⟨v27, h28, H⟩ := oB H
   refine sn [.cs (eI v27)] [] [(7, cI x24), (8, cI v27)] [] [] (a2 eI h28) ?_
   obtain ⟨v29, h30, H⟩ := oB H
   rcases oC H with ⟨c31, H⟩ | ⟨c31, H⟩
   ·refine sn ([.res (cB v29)] ++ rg 5 true []) [] [(33, cB true)] [] [] (fun t => aI (s_l1In_ok v27 p1 p2 v29 h30) (aG 5 c31 (t))) ?_
    refine it rT ?_
    refine so [] [] [(6, cB false)] [] id ?_
    refine ends_ret ?_
    cases H
    exact rsr
   ·rcases oC H with ⟨c32, H⟩ | ⟨c32, H⟩
    ·obtain ⟨v33, h34, H⟩ := oB H
     refine sn ([.res (cB v29)] ++ rg 3 false (rg 4 true ([.cs (eI v33)] ++ rg 3 true [.g false, .g true, .g false]))) [] [(33, cB (decide (v33 ≥ v27)))] [] [] (fun t => aI (s_l1In_ok v27 p1 p2 v29 h30) (aG 3 c31 (aG 4 c32 ((a2 eI h34 (aG 3 c32 (aI c31 (aI c32 (aI c31 (t)))))))))) ?_
     rcases oC H with ⟨c35, H⟩ | ⟨c35, H⟩
     ·refine it c35 ?_
      refine so [] [] [(6, cB false)] [] id ?_
      refine ends_ret ?_
      cases H
      exact rsr
     ·refine jf c35 ?_
      refine sk ?_
      refine oo [] [] [(0, dc 1 eI zI p0), (1, cI p1), (2, cI p2), (9, dc 1 eI zI p0), (10, cL p0), (11, cI (W (x24 + 1)))] [] id ?_
      cases H
      exact rr
    ·refine sn ([.res (cB v29)] ++ rg 13 false []) [] [(33, cB false)] [] [] (fun t => aI (s_l1In_ok v27 p1 p2 v29 h30) (aG 3 c31 (aG 7 c32 (aI c31 (aI c32 (aI c31 (t))))))) ?_
     refine jf rF ?_
     refine sk ?_
     refine oo [] [] [(0, dc 1 eI zI p0), (1, cI p1), (2, cI p2), (9, dc 1 eI zI p0), (10, cL p0), (11, cI (W (x24 + 1)))] [] id ?_
     cases H
     exact rr
  ·refine jf c26 ?_
   refine tl [] [] [] id ?_
   refine ends_exit ?_
   cases H
   exact rse
 ·clear h37
  cases y36 with
  | inl y38 =>
   replace H := ofInl H
   rintro e s ⟨rfl, rfl⟩
   change EndsI _ _ _ _ _ _
   refine so [] [] [(6, cB true)] [] id ?_
   cases H
   exact er
  | inr y39 =>
   replace H := ofInr H
   rintro e s ⟨rfl, rfl⟩
   cases H
   exact qr
def s_mIndex_ir : S :=
 (sq [o 2 (.box 5 (.t 0)), o 3 (.box 2 (.t 1)), o 4 (.mv (iv 0))]
 (.seq (sq [oa 5 0 3, ol 6 5, oa 7 0 2, ol 8 7, o 9 (.bin .sub (.t 8) (iv 1)), o 10 (.call 55 [.t 6, .v (.int .i64 0), .t 9]), o 11 (.not (.t 10)), om 12 11, og 13 (.fad 1 (.t 3)) 12, og 14 (.load 1 false (.t 13)) 12, og 15 (.fad 1 (.t 2)) 12, og 16 (.load 1 false (.t 15)) 12, og 17 (.bin .sub (.t 16) (iv 1)) 12, og 18 (.call 55 [.t 14, .v (.int .i64 0), .t 17]) 12, og 19 (.not (.t 18)) 12, o 20 (.pick (.t 12) bT (.t 19))]
 (.ite (.t 20) (sq [o 4 (.mv (.v (.int .i64 (-1))))]
  .ret)
 .skip))
 (sq [oa 21 1 3, ol 22 21, oa 23 0 2, ol 24 23, o 25 (.bin .mul (.t 22) (.t 24)), oa 26 0 3, ol 27 26, o 28 (.bin .add (.t 25) (.t 27)), om 4 28]
 .ret)))
noncomputable def X.s_mIndex (p0 : TMap) (p1 : THex) : Option Int :=
 ((X.s_l1In p1.Q 0 (W (p0.Width - 1))).bind fun v7 => (bif (!v7) then some (-1) else ((X.s_l1In p1.R 0 (W (p0.Height - 1))).bind fun v10 => (bif (!v10) then some (-1) else some (W ((W (p1.R * p0.Width)) + p1.Q))))))
theorem s_mIndex_ok (p0 : TMap) (p1 : THex) (r : Int) (H : X.s_mIndex p0 p1 = some r) : FK 204 [.agg (eTMap p0), .agg (eTHex p1)] (cI r) := by
 unfold X.s_mIndex at H
 refine fi Tryz.f204 s_mIndex_ir [(4, cI r)] [] glL Tryz.func204 ?_
 refine so [] [] [(2, pk 2), (3, pk 3)] [(2, va (eTMap p0)), (3, va (eTHex p1))] id ?_
 refine seq_in ?_
 obtain ⟨v7, h8, H⟩ := oB H
 rcases oC H with ⟨c9, H⟩ | ⟨c9, H⟩
 ·refine sn ([.res (cB v7)] ++ rg 8 true []) [] [(20, cB true)] [] [] (fun t => aI (s_l1In_ok p1.Q 0 (W (p0.Width - 1)) v7 h8) (aG 8 c9 (t))) ?_
  refine it rT ?_
  refine so [] [] [(4, cI (-1))] [] id ?_
  cases H
  exact er
 ·obtain ⟨v10, h11, H⟩ := oB H
  refine sn ([.res (cB v7)] ++ rg 6 false ([.res (cB v10)] ++ rg 2 false [])) [] [(20, cB (!v10))] [] [] (fun t => aI (s_l1In_ok p1.Q 0 (W (p0.Width - 1)) v7 h8) (aG 6 c9 (aI (s_l1In_ok p1.R 0 (W (p0.Height - 1)) v10 h11) (aG 2 c9 (t))))) ?_
  rcases oC H with ⟨c12, H⟩ | ⟨c12, H⟩
  ·refine it c12 ?_
   refine so [] [] [(4, cI (-1))] [] id ?_
   cases H
   exact er
  ·refine jf c12 ?_
   refine sk ?_
   refine so [] [] [(4, cI (W ((W (p1.R * p0.Width)) + p1.Q)))] [] id ?_
   cases H
   exact er
def s_hStep_ir : S :=
 (sq [o 2 (.box 2 (.t 0)), o 4 (.alloc [.int .i64 0, .int .i64 0])]
 (.seq (.drw [(0, 2), (1, 2), (0, 3), (1, 3), (2, 3), (0, 4), (1, 4), (0, 5), (1, 5), (0, 7), (1, 7), (2, 7), (3, 7), (4, 7), (5, 7), (6, 7), (0, 8), (1, 8), (2, 8), (3, 8), (4, 8), (5, 8), (6, 8), (0, 9), (1, 9), (2, 9), (3, 9), (4, 9), (5, 9), (6, 9), (7, 9), (8, 9), (0, 10), (1, 10), (2, 10), (3, 10), (4, 10), (5, 10), (6, 10), (7, 10), (8, 10), (9, 10), (0, 11), (1, 11), (2, 11), (3, 11), (4, 11), (5, 11), (6, 11), (7, 11), (8, 11), (0, 12), (1, 12), (2, 12), (3, 12), (4, 12), (5, 12), (6, 12), (7, 12), (8, 12), (0, 13), (1, 13), (2, 13), (3, 13), (4, 13), (5, 13), (6, 13)] [oa 5 0 2, ol 6 5, o 7 (.bsl 1 [.v (.int .i64 1), .v (.int .i64 1), .v (.int .i64 0), .v (.int .i64 (-1)), .v (.int .i64 (-1)), .v (.int .i64 0)]), om 8 1, o 9 (.iad 1 (.t 7) (.t 8)), ol 10 9, o 11 (.bin .add (.t 6) (.t 10)), oa 12 1 2, ol 13 12, o 14 (.bsl 1 [.v (.int .i64 0), .v (.int .i64 (-1)), .v (.int .i64 (-1)), .v (.int .i64 0), .v (.int .i64 1), .v (.int .i64 1)]), om 15 1, o 16 (.iad 1 (.t 14) (.t 15)), ol 17 16, o 18 (.bin .add (.t 13) (.t 17)), o 19 (.build [.int .i64 0, .int .i64 0] [(0, 1, .t 11), (1, 1, .t 18)]), os 2 4 19])
 .ret))
noncomputable def X.s_hStep (p0 : THex) (p1 : Int) : Option THex :=
 (if 0 ≤ p1 ∧ p1 < (([1, 1, 0, -1, -1, 0] : List Int).length : Int) then (if 0 ≤ p1 ∧ p1 < (([0, -1, -1, 0, 1, 1] : List Int).length : Int) then some (THex.mk (W (p0.Q + (([1, 1, 0, -1, -1, 0] : List Int).getD p1.toNat zI))) (W (p0.R + (([0, -1, -1, 0, 1, 1] : List Int).getD p1.toNat zI)))) else none) else none)
theorem s_hStep_ok (p0 : THex) (p1 : Int) (r : THex) (H : X.s_hStep p0 p1 = some r) : FK 205 [.agg (eTHex p0), cI p1] (.agg (eTHex r)) := by
 unfold X.s_hStep at H
 refine fi Tryz.f205 s_hStep_ir [(4, pk 4)] [(4, va (eTHex r))] glL Tryz.func205 ?_
 refine sn [] [] [(2, pk 2), (4, pk 4)] [] [(2, va (eTHex p0)), (4, .var [jI 0, jI 0] false)] id ?_
 obtain ⟨g1, H⟩ := oI H
 obtain ⟨g2, H⟩ := oI H
 refine xn [.no, fh eI zI ([1, 1, 0, -1, -1, 0] : List Int), .no, .no, fh eI zI ([0, -1, -1, 0, 1, 1] : List Int), .no] [] [] [4] [(4, .var [jI (W (p0.Q + (([1, 1, 0, -1, -1, 0] : List Int).getD p1.toNat zI))), jI (W (p0.R + (([0, -1, -1, 0, 1, 1] : List Int).getD p1.toNat zI)))] false)] (fun t => aI (rfl : ([1, 1, 0, -1, -1, 0] : List Int).length = 6) (aI rT (aI (fF_lit eI zI ([1, 1, 0, -1, -1, 0] : List Int)) (aI g1 (aI (nat_lt g1) (aI rN (aI (rfl : ([0, -1, -1, 0, 1, 1] : List Int).length = 6) (aI rT (aI (fF_lit eI zI ([0, -1, -1, 0, 1, 1] : List Int)) (aI g2 (aI (nat_lt g2) (aI rN (t))))))))))))) ?_
 refine tl [] [(4, pk 4)] [(4, .var [jI (W (p0.Q + (([1, 1, 0, -1, -1, 0] : List Int).getD p1.toNat zI))), jI (W (p0.R + (([0, -1, -1, 0, 1, 1] : List Int).getD p1.toNat zI)))] false)] id ?_
 cases H
 exact er
def s_mHex_ir : S :=
 (sq [o 2 (.box 5 (.t 0)), o 4 (.alloc [.int .i64 0, .int .i64 0])]
 (.seq (.drw [(0, 1), (0, 2), (0, 4), (1, 4), (2, 4), (3, 4), (0, 5), (1, 5), (2, 5), (3, 5), (4, 5), (0, 6), (1, 6), (2, 6), (3, 6), (4, 6), (0, 7), (1, 7), (2, 7), (3, 7)] [om 5 1, oa 6 0 2, ol 7 6, o 8 (.bin .rem (.t 5) (.t 7)), om 9 1, oa 10 0 2, ol 11 10, o 12 (.bin .quo (.t 9) (.t 11)), o 13 (.build [.int .i64 0, .int .i64 0] [(0, 1, .t 8), (1, 1, .t 12)]), os 2 4 13])
 .ret))
noncomputable def X.s_mHex (p0 : TMap) (p1 : Int) : Option THex :=
 (if p0.Width ≠ 0 then (if p0.Width ≠ 0 then some (THex.mk (Int.tmod p1 p0.Width) (W (Int.tdiv p1 p0.Width))) else none) else none)
theorem s_mHex_ok (p0 : TMap) (p1 : Int) (r : THex) (H : X.s_mHex p0 p1 = some r) : FK 206 [.agg (eTMap p0), cI p1] (.agg (eTHex r)) := by
 unfold X.s_mHex at H
 refine fi Tryz.f206 s_mHex_ir [(4, pk 4)] [(4, va (eTHex r))] glL Tryz.func206 ?_
 refine sn [] [] [(2, pk 2), (4, pk 4)] [] [(2, va (eTMap p0)), (4, .var [jI 0, jI 0] false)] id ?_
 obtain ⟨g1, H⟩ := oI H
 obtain ⟨g2, H⟩ := oI H
 refine xn [] [] [] [4] [(4, .var [jI (Int.tmod p1 p0.Width), jI (W (Int.tdiv p1 p0.Width))] false)] (fun t => aI g1 (aI g2 (t))) ?_
 refine tl [] [(4, pk 4)] [(4, .var [jI (Int.tmod p1 p0.Width), jI (W (Int.tdiv p1 p0.Width))] false)] id ?_
 cases H
 exact er
def s_mNext_ir : S :=
 (sq [o 3 (.box 5 (.t 0)), o 6 (.mv (iv 0))]
 (.seq (.drw [(0, 1), (0, 2), (1, 2), (0, 3), (0, 4), (1, 4), (2, 4), (3, 4), (0, 5)] [o 7 (.load 5 true (.t 3)), o 8 (.load 5 true (.t 3)), om 9 1, o 10 (.call 206 [.t 8, .t 9]), om 11 2, o 12 (.call 205 [.t 10, .t 11]), o 13 (.call 204 [.t 7, .t 12]), om 6 13])
 .ret))
noncomputable def X.s_mNext (p0 : TMap) (p1 : Int) (p2 : Int) : Option Int :=
 ((X.s_mHex p0 p1).bind fun v1 => ((X.s_hStep v1 p2).bind fun v3 => ((X.s_mIndex p0 v3).bind fun v5 => some v5)))
theorem s_mNext_ok (p0 : TMap) (p1 : Int) (p2 : Int) (r : Int) (H : X.s_mNext p0 p1 p2 = some r) : FK 162 [.agg (eTMap p0), cI p1, cI p2] (cI r) := by
 unfold X.s_mNext at H
 refine fi Tryz.f162 s_mNext_ir [(6, cI r)] [] glL Tryz.func162 ?_
 refine sn [] [] [(3, pk 3)] [] [(3, va (eTMap p0))] id ?_
 obtain ⟨v1, h2, H⟩ := oB H
 obtain ⟨v3, h4, H⟩ := oB H
 obtain ⟨v5, h6, H⟩ := oB H
 refine sx [.res (.agg (eTHex v1)), .res (.agg (eTHex v3)), .res (cI v5)] [] [(6, cI v5)] [] (fun t => aI (s_mHex_ok p0 p1 v1 h2) (aI trivial (aI rN (aI (s_hStep_ok v1 p2 v3 h4) (aI trivial (aI rN (aI (s_mIndex_ok p0 v3 v5 h6) (aI trivial (aI rN (t)))))))))) ?_
 cases H
 exact er
def s_mEdges_ir : S :=
 (sq [o 2 (.box 5 (.t 0)), o 4 (.mv bF)]
 (.seq (sq [om 7 1, o 8 (.len (.t 7)), o 9 (.mv (iv 0))]
 (.blk 0 (.loop (sq [o 10 (.bin .lss (.t 9) (.t 8))]
   (.seq (.ite (.t 10) .skip
   (.exit 0))
   (.seq (.blk 1 (sq [o 11 (.iad 1 (.t 7) (.t 9)), ol 12 11, om 6 12]
    (sq [om 13 6, o 14 (.load 5 true (.t 2)), o 15 (.call 80 [.t 14]), o 16 (.bin .mul (iv 3) (.t 15)), o 17 (.bin .sub (.t 16) (iv 1)), o 18 (.call 55 [.t 13, .v (.int .i64 0), .t 17]), o 19 (.not (.t 18)), om 20 19, og 21 (.load 5 true (.t 2)) 20, og 22 (.mv (.t 6)) 20, og 23 (.bin .quo (.t 22) (iv 3)) 20, og 24 (.mv (.t 6)) 20, og 25 (.bin .rem (.t 24) (iv 3)) 20, og 26 (.call 162 [.t 21, .t 23, .t 25]) 20, og 27 (.bin .lss (.t 26) (iv 0)) 20, o 28 (.pick (.t 20) bT (.t 27))]
    (.ite (.t 28) (sq [o 4 (.mv bF)]
     .ret)
    .skip))))
   (.ops [o 29 (.bin .add (.t 9) (iv 1)), om 9 29])))))))
 (sq [om 30 1, o 31 (.load 5 true (.t 2)), o 32 (.call 80 [.t 31]), o 33 (.bin .mul (iv 3) (.t 32)), o 34 (.bin .sub (.t 33) (iv 1)), o 35 (.call 79 [.t 30, .v (.int .i64 0), .t 34]), om 4 35]
 .ret)))
noncomputable def X.s_mEdges (p0 : TMap) (p1 : (List Int)) : Option Bool :=
 ((loop (fun (x68 : Int) => ((bif (decide (x68 < (p1.length : Int))) then ((at' zI p1 x68).bind fun v71 => ((X.s_mSize p0).bind fun v73 => ((X.s_l1In v71 0 (W ((W (3 * v73)) - 1))).bind fun v75 => (bif (!v75) then some (Sum.inr (Sum.inr false)) else ((X.s_mNext p0 (W (Int.tdiv v71 3)) (Int.tmod v71 3)).bind fun v78 => (bif (decide (v78 < 0)) then some (Sum.inr (Sum.inr false)) else some (Sum.inl (W (x68 + 1))))))))) else some (Sum.inr (Sum.inl ()))) : Option (Int ⊕ (Unit ⊕ Bool)))) 0).bind fun y81 => (Sum.elim (fun (y83 : Unit) => ((X.s_mSize p0).bind fun v85 => ((X.s_l1Rising p1 0 (W ((W (3 * v85)) - 1))).bind fun v87 => some v87))) (fun (y84 : Bool) => some y84) y81))
theorem s_mEdges_ok (p0 : TMap) (p1 : (List Int)) (r : Bool) (H : X.s_mEdges p0 p1 = some r) : FK 137 [.agg (eTMap p0), .c (dat 1 eI zI p1)] (cB r) := by
 unfold X.s_mEdges at H
 refine fi Tryz.f137 s_mEdges_ir [(4, cB r)] [] glL Tryz.func137 ?_
 refine sn [] [] [(2, pk 2)] [] [(2, va (eTMap p0))] id ?_
 refine seq_in ?_
 refine sn [] [] [(7, dc 1 eI zI p1), (8, cL p1), (9, cI 0)] [] [] (fun t => lI p1 (t)) ?_
 refine ends_blk ?_
 obtain ⟨y81, h82, H⟩ := oB H
 refine tl [] [(1, dc 1 eI zI p1), (2, pk 2), (7, dc 1 eI zI p1), (8, cL p1), (9, cI 0)] [(2, va (eTMap p0))] id ?_
 refine loop_in (fun (x : Int) => lit [(1, dc 1 eI zI p1), (2, pk 2), (7, dc 1 eI zI p1), (8, cL p1), (9, cI x)] [(2, va (eTMap p0))]) (orJ (fun (z : Unit) => At (.exit 0) (lit [(1, dc 1 eI zI p1), (2, pk 2)] [(2, va (eTMap p0))])) (fun (z : Bool) => At .ret (lit [(4, cB z)] []))) h82 ?_ ?_
 ·clear H h82
  intro x68 y0 H
  refine sn [] [] [(10, cB (decide (x68 < (p1.length : Int))))] [] [] id ?_
  refine seq_in ?_
  rcases oC H with ⟨c70, H⟩ | ⟨c70, H⟩
  ·refine it c70 ?_
   refine sk ?_
   refine seq_in ?_
   refine ends_blk ?_
   obtain ⟨v71, h72, H⟩ := oB H
   refine sn [.cs (eI v71)] [] [(6, cI v71)] [] [] (a2 eI h72) ?_
   obtain ⟨v73, h74, H⟩ := oB H
   obtain ⟨v75, h76, H⟩ := oB H
   rcases oC H with ⟨c77, H⟩ | ⟨c77, H⟩
   ·refine sn ([.res (cI v73), .res (cB v75)] ++ rg 8 true []) [] [(28, cB true)] [] [] (fun t => aI (s_mSize_ok p0 v73 h74) (aI (s_l1In_ok v71 0 (W ((W (3 * v73)) - 1)) v75 h76) (aG 8 c77 (t)))) ?_
    refine it rT ?_
    refine so [] [] [(4, cB false)] [] id ?_
    refine ends_ret ?_
    cases H
    exact rsr
   ·obtain ⟨v78, h79, H⟩ := oB H
    refine sn ([.res (cI v73), .res (cB v75)] ++ rg 6 false ([.res (cI v78)] ++ rg 2 false [])) [] [(28, cB (decide (v78 < 0)))] [] [] (fun t => aI (s_mSize_ok p0 v73 h74) (aI (s_l1In_ok v71 0 (W ((W (3 * v73)) - 1)) v75 h76) (aG 3 c77 (aI (by decide : (3 : Int) ≠ 0) (aG 2 c77 (aI (by decide : (3 : Int) ≠ 0) (aI c77 (aI (s_mNext_ok p0 (W (Int.tdiv v71 3)) (Int.tmod v71 3) v78 h79) (aG 2 c77 (t)))))))))) ?_
    rcases oC H with ⟨c80, H⟩ | ⟨c80, H⟩
    ·refine it c80 ?_
     refine so [] [] [(4, cB false)] [] id ?_
     refine ends_ret ?_
     cases H
     exact rsr
    ·refine jf c80 ?_
     refine sk ?_
     refine oo [] [] [(1, dc 1 eI zI p1), (2, pk 2), (7, dc 1 eI zI p1), (8, cL p1), (9, cI (W (x68 + 1)))] [(2, va (eTMap p0))] id ?_
     cases H
     exact rr
  ·refine jf c70 ?_
   refine tl [] [(1, dc 1 eI zI p1), (2, pk 2)] [(2, va (eTMap p0))] id ?_
   refine ends_exit ?_
   cases H
   exact rse
 ·clear h82
  cases y81 with
  | inl y83 =>
   replace H := ofInl H
   rintro e s ⟨rfl, rfl⟩
   change EndsI _ _ _ _ _ _
   obtain ⟨v85, h86, H⟩ := oB H
   obtain ⟨v87, h88, H⟩ := oB H
   refine so [.res (cI v85), .res (cB v87)] [] [(4, cB v87)] [] (fun t => aI (s_mSize_ok p0 v85 h86) (aI (s_l1Rising_ok p1 0 (W ((W (3 * v85)) - 1)) v87 h88) (t))) ?_
   cases H
   exact er
  | inr y84 =>
   replace H := ofInr H
   rintro e s ⟨rfl, rfl⟩
   cases H
   exact qr
def s_mGood_ir : S :=
 (sq [o 1 (.box 5 (.t 0)), o 2 (.mv bF)]
 (.seq (.drw [(9, 12), (10, 12), (11, 12), (9, 13), (10, 13), (11, 13), (22, 23), (22, 24), (28, 29), (28, 30)] [oa 3 0 1, ol 4 3, o 5 (.call 55 [.t 4, .v (.int .i64 1), .v (.int .i64 10)]), om 6 5, oh 7 (.fad 1 (.t 1)) 6, oh 8 (.load 1 false (.t 7)) 6, oh 9 (.call 55 [.t 8, .v (.int .i64 1), .v (.int .i64 10)]) 6, o 10 (.pick (.t 6) (.t 9) bF), om 11 10, oh 12 (.fad 2 (.t 1)) 11, oh 13 (.load 1 false (.t 12)) 11, oh 14 (.len (.t 13)) 11, oh 15 (.load 5 true (.t 1)) 11, oh 16 (.call 80 [.t 15]) 11, oh 17 (.bin .eql (.t 14) (.t 16)) 11, o 18 (.pick (.t 11) (.t 17) bF), om 19 18, oh 20 (.fad 2 (.t 1)) 19, oh 21 (.load 1 false (.t 20)) 19, oh 22 (.call 74 [.t 21, .v (.int .i64 0), .v (.int .i64 5)]) 19, o 23 (.pick (.t 19) (.t 22) bF), om 24 23, oh 25 (.load 5 true (.t 1)) 24, oh 26 (.fad 3 (.t 1)) 24, oh 27 (.load 1 false (.t 26)) 24, oh 28 (.call 137 [.t 25, .t 27]) 24, o 29 (.pick (.t 24) (.t 28) bF), om 30 29, oh 31 (.load 5 true (.t 1)) 30, oh 32 (.fad 4 (.t 1)) 30, oh 33 (.load 1 false (.t 32)) 30, oh 34 (.call 137 [.t 31, .t 33]) 30, o 35 (.pick (.t 30) (.t 34) bF), om 2 35])
 .ret))
noncomputable def X.s_mGood (p0 : TMap) : Option Bool :=
 ((X.s_l1In p0.Width 1 10).bind fun v1 => (bif v1 then ((X.s_l1In p0.Height 1 10).bind fun v4 => (bif v4 then ((X.s_mSize p0).bind fun v7 => (bif ((p0.Terrain.length : Int) == v7) then ((X.s_l1All p0.Terrain 0 5).bind fun v10 => (bif v10 then ((X.s_mEdges p0 p0.Rivers).bind fun v13 => (bif v13 then ((X.s_mEdges p0 p0.Roads).bind fun v16 => some v16) else some false)) else some false)) else some false)) else some false)) else some false))
theorem s_mGood_ok (p0 : TMap) (r : Bool) (H : X.s_mGood p0 = some r) : FK 73 [.agg (eTMap p0)] (cB r) := by
 unfold X.s_mGood at H
 refine fi Tryz.f73 s_mGood_ir [(2, cB r)] [] glL Tryz.func73 ?_
 refine so [] [] [(1, pk 1)] [(1, va (eTMap p0))] id ?_
 obtain ⟨v1, h2, H⟩ := oB H
 rcases oC H with ⟨c3, H⟩ | ⟨c3, H⟩
 ·obtain ⟨v4, h5, H⟩ := oB H
  rcases oC H with ⟨c6, H⟩ | ⟨c6, H⟩
  ·obtain ⟨v7, h8, H⟩ := oB H
   rcases oC H with ⟨c9, H⟩ | ⟨c9, H⟩
   ·obtain ⟨v10, h11, H⟩ := oB H
    rcases oC H with ⟨c12, H⟩ | ⟨c12, H⟩
    ·obtain ⟨v13, h14, H⟩ := oB H
     rcases oC H with ⟨c15, H⟩ | ⟨c15, H⟩
     ·obtain ⟨v16, h17, H⟩ := oB H
      refine sx ([.res (cB v1)] ++ rg 3 true ([.res (cB v4)] ++ rg 6 true ([.res (cI v7)] ++ rg 5 true ([.res (cB v10)] ++ rg 5 true ([.res (cB v13)] ++ rg 5 true [.res (cB v16), .g true]))))) [] [(2, cB v16)] [] (fun t => aI (s_l1In_ok p0.Width 1 10 v1 h2) (aI trivial (aI rN (aG 3 c3 (aI (s_l1In_ok p0.Height 1 10 v4 h5) (aI trivial (aI rN (aI c3 (aG 5 c6 (aI (s_mSize_ok p0 v7 h8) (aI trivial (aI rN (aG 2 c6 (aG 3 c9 (aI (s_l1All_ok p0.Terrain 0 5 v10 h11) (aI trivial (aI rN (aI c9 (aG 4 c12 (aI (s_mEdges_ok p0 p0.Rivers v13 h14) (aI trivial (aI rN (aI c12 (aG 4 c15 (aI (s_mEdges_ok p0 p0.Roads v16 h17) (aI trivial (aI rN (aI c15 (t))))))))))))))))))))))))))))) ?_
      cases H
      exact er
     ·refine sx ([.res (cB v1)] ++ rg 3 true ([.res (cB v4)] ++ rg 6 true ([.res (cI v7)] ++ rg 5 true ([.res (cB v10)] ++ rg 5 true ([.res (cB v13), .g true] ++ rg 5 false []))))) [] [(2, cB false)] [] (fun t => aI (s_l1In_ok p0.Width 1 10 v1 h2) (aI trivial (aI rN (aG 3 c3 (aI (s_l1In_ok p0.Height 1 10 v4 h5) (aI trivial (aI rN (aI c3 (aG 5 c6 (aI (s_mSize_ok p0 v7 h8) (aI trivial (aI rN (aG 2 c6 (aG 3 c9 (aI (s_l1All_ok p0.Terrain 0 5 v10 h11) (aI trivial (aI rN (aI c9 (aG 4 c12 (aI (s_mEdges_ok p0 p0.Rivers v13 h14) (aI trivial (aI rN (aI c12 (aG 5 c15 (t))))))))))))))))))))))))) ?_
      cases H
      exact er
    ·refine sx ([.res (cB v1)] ++ rg 3 true ([.res (cB v4)] ++ rg 6 true ([.res (cI v7)] ++ rg 5 true ([.res (cB v10), .g true] ++ rg 10 false [])))) [] [(2, cB false)] [] (fun t => aI (s_l1In_ok p0.Width 1 10 v1 h2) (aI trivial (aI rN (aG 3 c3 (aI (s_l1In_ok p0.Height 1 10 v4 h5) (aI trivial (aI rN (aI c3 (aG 5 c6 (aI (s_mSize_ok p0 v7 h8) (aI trivial (aI rN (aG 2 c6 (aG 3 c9 (aI (s_l1All_ok p0.Terrain 0 5 v10 h11) (aI trivial (aI rN (aI c9 (aG 5 c12 (aG 5 rF (t))))))))))))))))))))) ?_
     cases H
     exact er
   ·refine sx ([.res (cB v1)] ++ rg 3 true ([.res (cB v4)] ++ rg 6 true ([.res (cI v7)] ++ rg 2 true (rg 14 false [])))) [] [(2, cB false)] [] (fun t => aI (s_l1In_ok p0.Width 1 10 v1 h2) (aI trivial (aI rN (aG 3 c3 (aI (s_l1In_ok p0.Height 1 10 v4 h5) (aI trivial (aI rN (aI c3 (aG 5 c6 (aI (s_mSize_ok p0 v7 h8) (aI trivial (aI rN (aG 2 c6 (aG 4 c9 (aG 10 rF (t)))))))))))))))) ?_
    cases H
    exact er
  ·refine sx ([.res (cB v1)] ++ rg 3 true ([.res (cB v4), .g true] ++ rg 21 false [])) [] [(2, cB false)] [] (fun t => aI (s_l1In_ok p0.Width 1 10 v1 h2) (aI trivial (aI rN (aG 3 c3 (aI (s_l1In_ok p0.Height 1 10 v4 h5) (aI trivial (aI rN (aI c3 (aG 7 c6 (aG 14 rF (t))))))))))) ?_
   cases H
   exact er
 ·refine sx ([.res (cB v1)] ++ rg 25 false []) [] [(2, cB false)] [] (fun t => aI (s_l1In_ok p0.Width 1 10 v1 h2) (aI trivial (aI rN (aG 4 c3 (aG 21 rF (t)))))) ?_
  cases H
  exact er
def s_bGood_ir : S :=
 (sq [o 1 (.box 12 (.t 0)), o 2 (.mv bF)]
 (sq [oa 3 0 1, o 4 (.load 7 true (.t 3)), o 5 (.call 72 [.t 4]), om 6 5, oh 7 (.fad 7 (.t 1)) 6, oh 8 (.load 5 true (.t 7)) 6, oh 9 (.call 73 [.t 8]) 6, o 10 (.pick (.t 6) (.t 9) bF), om 11 10, oh 12 (.fad 7 (.t 1)) 11, oh 13 (.fad 2 (.t 12)) 11, oh 14 (.load 1 false (.t 13)) 11, oh 15 (.fad 0 (.t 1)) 11, oh 16 (.fad 0 (.t 15)) 11, oh 17 (.load 1 false (.t 16)) 11, oh 18 (.len (.t 17)) 11, oh 19 (.bin .sub (.t 18) (iv 1)) 11, oh 20 (.call 74 [.t 14, .v (.int .i64 0), .t 19]) 11, o 21 (.pick (.t 11) (.t 20) bF), om 2 21]
 .ret))
noncomputable def X.s_bGood (p0 : TBoard) : Option Bool :=
 ((X.s_rGood p0.Rules).bind fun v1 => (bif v1 then ((X.s_mGood p0.Map).bind fun v4 => (bif v4 then ((X.s_l1All p0.Map.Terrain 0 (W ((p0.Rules.Terrains.length : Int) - 1))).bind fun v7 => some v7) else some false)) else some false))
theorem s_bGood_ok (p0 : TBoard) (r : Bool) (H : X.s_bGood p0 = some r) : FK 30 [.agg (eTBoard p0)] (cB r) := by
 unfold X.s_bGood at H
 refine fi Tryz.f30 s_bGood_ir [(2, cB r)] [] glL Tryz.func30 ?_
 refine so [] [] [(1, pk 1)] [(1, va (eTBoard p0))] id ?_
 obtain ⟨v1, h2, H⟩ := oB H
 rcases oC H with ⟨c3, H⟩ | ⟨c3, H⟩
 ·obtain ⟨v4, h5, H⟩ := oB H
  rcases oC H with ⟨c6, H⟩ | ⟨c6, H⟩
  ·obtain ⟨v7, h8, H⟩ := oB H
   refine so ([.res (cB v1)] ++ rg 3 true ([.res (cB v4)] ++ rg 10 true [.res (cB v7), .g true])) [] [(2, cB v7)] [] (fun t => aI (s_rGood_ok p0.Rules v1 h2) (aG 3 c3 (aI (s_mGood_ok p0.Map v4 h5) (aI c3 (aG 7 c6 (lI p0.Rules.Terrains (aG 2 c6 (aI (s_l1All_ok p0.Map.Terrain 0 (W ((p0.Rules.Terrains.length : Int) - 1)) v7 h8) (aI c6 (t)))))))))) ?_
   cases H
   exact er
  ·refine so ([.res (cB v1)] ++ rg 3 true ([.res (cB v4), .g true] ++ rg 10 false [])) [] [(2, cB false)] [] (fun t => aI (s_rGood_ok p0.Rules v1 h2) (aG 3 c3 (aI (s_mGood_ok p0.Map v4 h5) (aI c3 (aG 10 c6 (t)))))) ?_
   cases H
   exact er
 ·refine so ([.res (cB v1)] ++ rg 14 false []) [] [(2, cB false)] [] (fun t => aI (s_rGood_ok p0.Rules v1 h2) (aG 4 c3 (aG 10 rF (t)))) ?_
  cases H
  exact er
def s_bTerrain_ir : S :=
 (sq [o 2 (.box 12 (.t 0)), o 4 (.alloc [.str [], .nil, .int .i64 0, .int .i64 0, .bool false])]
 (.seq (.drw [(0, 3), (1, 3), (2, 3), (0, 4), (1, 4), (2, 4), (0, 5), (1, 5), (2, 5), (0, 6), (1, 6), (2, 6), (3, 6), (4, 6), (5, 6), (0, 7), (1, 7), (2, 7), (0, 8), (1, 8), (2, 8)] [oa 5 0 2, oa 6 0 5, ol 7 6, oa 8 7 2, oa 9 2 8, ol 10 9, om 11 1, o 12 (.iad 1 (.t 10) (.t 11)), ol 13 12, o 14 (.iad 5 (.t 7) (.t 13)), o 15 (.load 5 true (.t 14)), os 5 4 15])
 .ret))
noncomputable def X.s_bTerrain (p0 : TBoard) (p1 : Int) : Option TTerrain :=
 ((at' zI p0.Map.Terrain p1).bind fun v1 => ((at' zTTerrain p0.Rules.Terrains v1).bind fun v3 => some v3))
theorem s_bTerrain_ok (p0 : TBoard) (p1 : Int) (r : TTerrain) (H : X.s_bTerrain p0 p1 = some r) : FK 220 [.agg (eTBoard p0), cI p1] (.agg (eTTerrain r)) := by
 unfold X.s_bTerrain at H
 refine fi Tryz.f220 s_bTerrain_ir [(4, pk 4)] [(4, va (eTTerrain r))] glL Tryz.func220 ?_
 refine sn [] [] [(2, pk 2), (4, pk 4)] [] [(2, va (eTBoard p0)), (4, .var [.str [], .nil, jI 0, jI 0, .bool false] false)] id ?_
 obtain ⟨v1, h2, H⟩ := oB H
 obtain ⟨v3, h4, H⟩ := oB H
 refine xn [.cs (eI v1), .cs (eTTerrain v3)] [] [] [4] [(4, va (eTTerrain v3))] (fun t => (a2 eI h2 (aI rN ((a2 eTTerrain h4 (aI rN (t))))))) ?_
 refine tl [] [(4, pk 4)] [(4, va (eTTerrain v3))] id ?_
 cases H
 exact er
def s_bCost_ir : S :=
 (sq [o 3 (.box 12 (.t 0)), o 6 (.mv (iv 0))]
 (sq [o 7 (.load 12 true (.t 3)), om 8 2, o 9 (.call 220 [.t 7, .t 8]), o 10 (.fld 1 1 false (.t 9)), om 11 1, o 12 (.iad 1 (.t 10) (.t 11)), ol 13 12, om 6 13]
 .ret))
noncomputable def X.s_bCost (p0 : TBoard) (p1 : Int) (p2 : Int) : Option Int :=
 ((X.s_bTerrain p0 p2).bind fun v1 => ((at' zI v1.Cost p1).bind fun v3 => some v3))
theorem s_bCost_ok (p0 : TBoard) (p1 : Int) (p2 : Int) (r : Int) (H : X.s_bCost p0 p1 p2 = some r) : FK 173 [.agg (eTBoard p0), cI p1, cI p2] (cI r) := by
 unfold X.s_bCost at H
 refine fi Tryz.f173 s_bCost_ir [(6, cI r)] [] glL Tryz.func173 ?_
 refine sn [] [] [(3, pk 3)] [] [(3, va (eTBoard p0))] id ?_
 obtain ⟨v1, h2, H⟩ := oB H
 obtain ⟨v3, h4, H⟩ := oB H
 refine so [.res (.agg (eTTerrain v1)), .cs (eI v3)] [] [(6, cI v3)] [] (fun t => aI (s_bTerrain_ok p0 p2 v1 h2) ((a2 eI h4 (t)))) ?_
 cases H
 exact er
def s_sUnit_ir : S :=
 (sq [o 2 (.box 12 (.t 0)), o 3 (.box 4 (.t 1)), o 4 (.mv bF)]
 (.seq (.seq (.drw [(5, 7), (6, 7), (5, 8), (6, 8), (5, 9), (6, 9), (5, 10), (6, 10), (5, 11), (6, 11), (16, 18), (17, 18), (16, 19), (17, 19), (16, 20), (17, 20), (16, 21), (17, 21), (18, 21), (19, 21), (20, 21), (16, 22), (17, 22), (18, 22), (19, 22), (20, 22), (16, 23), (17, 23), (16, 24), (17, 24), (16, 25), (17, 25)] [oa 5 0 3, ol 6 5, o 7 (.call 55 [.t 6, .v (.int .i64 0), .v (.int .i64 1)]), o 8 (.not (.t 7)), om 9 8, og 10 (.fad 1 (.t 3)) 9, og 11 (.load 1 false (.t 10)) 9, og 12 (.fad 0 (.t 2)) 9, og 13 (.fad 1 (.t 12)) 9, og 14 (.load 1 false (.t 13)) 9, og 15 (.len (.t 14)) 9, og 16 (.bin .sub (.t 15) (iv 1)) 9, og 17 (.call 55 [.t 11, .v (.int .i64 0), .t 16]) 9, og 18 (.not (.t 17)) 9, o 19 (.pick (.t 9) bT (.t 18)), om 20 19, og 21 (.fad 3 (.t 3)) 20, og 22 (.load 1 false (.t 21)) 20, og 23 (.fad 0 (.t 2)) 20, og 24 (.fad 1 (.t 23)) 20, og 25 (.load 1 false (.t 24)) 20, og 26 (.fad 1 (.t 3)) 20, og 27 (.load 1 false (.t 26)) 20, og 28 (.iad 6 (.t 25) (.t 27)) 20, og 29 (.fad 3 (.t 28)) 20, og 30 (.load 1 false (.t 29)) 20, og 31 (.call 55 [.t 22, .v (.int .i64 0), .t 30]) 20, og 32 (.not (.t 31)) 20, o 33 (.pick (.t 20) bT (.t 32))])
 (.ite (.t 33) (sq [o 4 (.mv bF)]
  .ret)
 .skip))
 (.seq (.drw [(8, 10), (9, 10), (8, 11), (9, 11), (8, 12), (9, 12), (8, 13), (9, 13), (17, 18), (17, 19), (17, 20), (18, 20), (19, 20), (17, 21), (18, 21), (19, 21)] [oa 34 2 3, ol 35 34, o 36 (.bin .eql (.t 35) (.v (.int .i64 (-1)))), om 37 36, og 38 (.fad 3 (.t 3)) 37, og 39 (.load 1 false (.t 38)) 37, og 40 (.bin .gtr (.t 39) (iv 0)) 37, og 41 (.mv (.t 40)) 37, oh 42 (.fad 2 (.t 3)) 41, oh 43 (.load 1 false (.t 42)) 41, oh 44 (.fad 7 (.t 2)) 41, oh 45 (.load 5 true (.t 44)) 41, oh 46 (.call 80 [.t 45]) 41, oh 47 (.bin .sub (.t 46) (iv 1)) 41, oh 48 (.call 55 [.t 43, .v (.int .i64 0), .t 47]) 41, og 49 (.pick (.t 41) (.t 48) bF) 37, og 50 (.mv (.t 49)) 37, oh 51 (.load 12 true (.t 2)) 50, oh 52 (.fad 1 (.t 3)) 50, oh 53 (.load 1 false (.t 52)) 50, oh 54 (.fad 2 (.t 3)) 50, oh 55 (.load 1 false (.t 54)) 50, oh 56 (.call 173 [.t 51, .t 53, .t 55]) 50, oh 57 (.bin .gtr (.t 56) (iv 0)) 50, og 58 (.pick (.t 50) (.t 57) bF) 37, o 59 (.pick (.t 37) bT (.t 58)), om 4 59])
 .ret)))
noncomputable def X.s_sUnit (p0 : TBoard) (p1 : TUnit) : Option Bool :=
 ((X.s_l1In p1.Side 0 1).bind fun v12 => (bif (!v12) then some false else ((X.s_l1In p1.Kind 0 (W ((p0.Rules.Kinds.length : Int) - 1))).bind fun v15 => (bif (!v15) then some false else ((at' zTKind p0.Rules.Kinds p1.Kind).bind fun v18 => ((X.s_l1In p1.Steps 0 v18.Steps).bind fun v20 => (bif (!v20) then some false else (bif (p1.At == (-1)) then some true else (bif (decide (p1.Steps > 0)) then ((X.s_mSize p0.Map).bind fun v25 => ((X.s_l1In p1.At 0 (W (v25 - 1))).bind fun v27 => (bif v27 then ((X.s_bCost p0 p1.Kind p1.At).bind fun v30 => some (decide (v30 > 0))) else some false))) else some false)))))))))
theorem s_sUnit_ok (p0 : TBoard) (p1 : TUnit) (r : Bool) (H : X.s_sUnit p0 p1 = some r) : FK 128 [.agg (eTBoard p0), .agg (eTUnit p1)] (cB r) := by
 unfold X.s_sUnit at H
 refine fi Tryz.f128 s_sUnit_ir [(4, cB r)] [] glL Tryz.func128 ?_
 refine so [] [] [(2, pk 2), (3, pk 3)] [(2, va (eTBoard p0)), (3, va (eTUnit p1))] id ?_
 refine seq_in ?_
 obtain ⟨v12, h13, H⟩ := oB H
 rcases oC H with ⟨c14, H⟩ | ⟨c14, H⟩
 ·refine xn ([.res (cB v12)] ++ rg 23 true []) [] [(33, cB true)] [] [] (fun t => aI (s_l1In_ok p1.Side 0 1 v12 h13) (aI trivial (aI rN (aG 10 c14 (aG 13 rT (t)))))) ?_
  refine it rT ?_
  refine so [] [] [(4, cB false)] [] id ?_
  cases H
  exact er
 ·obtain ⟨v15, h16, H⟩ := oB H
  rcases oC H with ⟨c17, H⟩ | ⟨c17, H⟩
  ·refine xn ([.res (cB v12)] ++ rg 8 false ([.res (cB v15)] ++ rg 2 false (rg 13 true []))) [] [(33, cB true)] [] [] (fun t => aI (s_l1In_ok p1.Side 0 1 v12 h13) (aI trivial (aI rN (aG 8 c14 (aI (s_l1In_ok p1.Kind 0 (W ((p0.Rules.Kinds.length : Int) - 1)) v15 h16) (aI trivial (aI rN (aG 2 c14 (aG 13 c17 (t)))))))))) ?_
   refine it rT ?_
   refine so [] [] [(4, cB false)] [] id ?_
   cases H
   exact er
  ·obtain ⟨v18, h19, H⟩ := oB H
   obtain ⟨v20, h21, H⟩ := oB H
   refine xn ([.res (cB v12)] ++ rg 8 false ([.res (cB v15)] ++ rg 10 false ([.cs (eTKind v18)] ++ rg 3 false ([.res (cB v20)] ++ rg 2 false [])))) [] [(33, cB (!v20))] [] [] (fun t => aI (s_l1In_ok p1.Side 0 1 v12 h13) (aI trivial (aI rN (aG 8 c14 (aI (s_l1In_ok p1.Kind 0 (W ((p0.Rules.Kinds.length : Int) - 1)) v15 h16) (aI trivial (aI rN (aG 2 c14 (aG 8 c17 ((a2 eTKind h19 (aG 2 c17 (aI rN (aI c17 (aI (s_l1In_ok p1.Steps 0 v18.Steps v20 h21) (aI trivial (aI rN (aG 2 c17 (t))))))))))))))))))) ?_
   rcases oC H with ⟨c22, H⟩ | ⟨c22, H⟩
   ·refine it c22 ?_
    refine so [] [] [(4, cB false)] [] id ?_
    cases H
    exact er
   ·refine jf c22 ?_
    refine sk ?_
    rcases oC H with ⟨c23, H⟩ | ⟨c23, H⟩
    ·refine sx (rg 8 true []) [] [(4, cB true)] [] (fun t => aG 8 c23 (t)) ?_
     cases H
     exact er
    ·rcases oC H with ⟨c24, H⟩ | ⟨c24, H⟩
     ·obtain ⟨v25, h26, H⟩ := oB H
      obtain ⟨v27, h28, H⟩ := oB H
      rcases oC H with ⟨c29, H⟩ | ⟨c29, H⟩
      ·obtain ⟨v30, h31, H⟩ := oB H
       refine sx (rg 4 false (rg 5 true ([.res (cI v25)] ++ rg 2 true ([.res (cB v27), .g false, .g true, .g false] ++ rg 6 true [.res (cI v30), .g true, .g false, .g true, .g false])))) [] [(4, cB (decide (v30 > 0)))] [] (fun t => aG 4 c23 (aG 5 c24 (aI (s_mSize_ok p0.Map v25 h26) (aI trivial (aI rN (aG 2 c24 (aI (s_l1In_ok p1.At 0 (W (v25 - 1)) v27 h28) (aI trivial (aI rN (aI c23 (aI c24 (aI c23 (aG 6 c29 (aI (s_bCost_ok p0 p1.Kind p1.At v30 h31) (aI trivial (aI rN (aI c29 (aI c23 (aI c29 (aI c23 (t))))))))))))))))))))) ?_
       cases H
       exact er
      ·refine sx (rg 4 false (rg 5 true ([.res (cI v25)] ++ rg 2 true ([.res (cB v27), .g false, .g true] ++ rg 11 false [])))) [] [(4, cB false)] [] (fun t => aG 4 c23 (aG 5 c24 (aI (s_mSize_ok p0.Map v25 h26) (aI trivial (aI rN (aG 2 c24 (aI (s_l1In_ok p1.At 0 (W (v25 - 1)) v27 h28) (aI trivial (aI rN (aI c23 (aI c24 (aI c23 (aG 7 c29 (aI c23 (aI c29 (aI c23 (t))))))))))))))))) ?_
       cases H
       exact er
     ·refine sx (rg 24 false []) [] [(4, cB false)] [] (fun t => aG 4 c23 (aG 7 c24 (aI c23 (aI c24 (aI c23 (aG 7 rF (aI c23 (aI rF (aI c23 (t)))))))))) ?_
      cases H
      exact er
def s_sAt_ir : S :=
 (sq [o 3 (.box 3 (.t 0)), o 6 (.mv (.v (.nil)))]
 (sq [o 7 (.mv (.v (.nil)))]
 (.seq (sq [oa 10 2 3, ol 11 10, o 12 (.len (.t 11)), o 13 (.mv (iv 0))]
 (.blk 0 (.loop (sq [o 14 (.bin .lss (.t 13) (.t 12))]
   (.seq (.ite (.t 14) .skip
   (.exit 0))
   (.seq (.blk 1 (sq [om 15 13, o 16 (.iad 4 (.t 11) (.t 13)), o 17 (.load 4 true (.t 16)), o 9 (.alloc [.int .i64 0, .int .i64 0, .int .i64 0, .int .i64 0]), om 8 15, os 4 9 17]
    (sq [oa 18 2 9, ol 19 18, om 20 1, o 21 (.bin .eql (.t 19) (.t 20)), om 22 21, oh 23 (.fad 0 (.t 9)) 22, oh 24 (.load 1 false (.t 23)) 22, oh 25 (.mv (.t 2)) 22, oh 26 (.bin .eql (.t 24) (.t 25)) 22, o 27 (.pick (.t 22) (.t 26) bF)]
    (.ite (.t 27) (.ops [om 28 7, om 29 8, o 30 (.bsl 1 [.t 29]), o 31 (.app 1 8 (.t 28) (.t 30)), om 7 31])
    .skip))))
   (.ops [o 32 (.bin .add (.t 13) (iv 1)), om 13 32])))))))
 (sq [om 33 7, om 6 33]
 .ret))))
noncomputable def X.s_sAt (p0 : TState) (p1 : Int) (p2 : Int) : Option (List Int) :=
 ((loop (fun (x16 : (Int × (List Int))) => ((bif (decide (x16.1 < (p0.Units.length : Int))) then ((at' zTUnit p0.Units x16.1).bind fun v19 => (bif (v19.At == p1) then (bif (v19.Side == p2) then (if (x16.2 ++ ([x16.1] : List Int)).length ≤ LIM then some (Sum.inl ((W (x16.1 + 1)), (x16.2 ++ ([x16.1] : List Int)))) else none) else some (Sum.inl ((W (x16.1 + 1)), x16.2))) else some (Sum.inl ((W (x16.1 + 1)), x16.2)))) else some (Sum.inr x16.2)) : Option ((Int × (List Int)) ⊕ (List Int)))) (0, ([] : List Int))).bind fun y24 => some y24)
theorem s_sAt_ok (p0 : TState) (p1 : Int) (p2 : Int) (r : (List Int)) (H : X.s_sAt p0 p1 p2 = some r) : FK 129 [.agg (eTState p0), cI p1, cI p2] (.c (dat 1 eI zI r)) := by
 unfold X.s_sAt at H
 refine fi Tryz.f129 s_sAt_ir [(6, dc 1 eI zI r)] [] glL Tryz.func129 ?_
 refine sn [] [] [(3, pk 3)] [] [(3, va (eTState p0))] id ?_
 refine sn [] [] [(7, .c (.nil))] [] [] id ?_
 refine seq_in ?_
 refine sn [] [] [(11, dc 4 eTUnit zTUnit p0.Units), (12, cL p0.Units), (13, cI 0)] [] [] (fun t => lI p0.Units (t)) ?_
 refine ends_blk ?_
 obtain ⟨y24, h25, H⟩ := oB H
 refine tl [.nlo 7 1001 1 (fF eI zI ([] : List Int))] [(1, cI p1), (2, cI p2), (7, ow 1001 1 ([] : List Int)), (11, dc 4 eTUnit zTUnit p0.Units), (12, cL p0.Units), (13, cI 0)] [(1001, ar 1 eI zI ([] : List Int))] (aI (by decide : 0 < 1)) ?_
 refine loop_in (fun (x : (Int × (List Int))) => lit [(1, cI p1), (2, cI p2), (7, ow 1001 1 x.2), (11, dc 4 eTUnit zTUnit p0.Units), (12, cL p0.Units), (13, cI x.1)] [(1001, ar 1 eI zI x.2)]) (fun (z : (List Int)) => At (.exit 0) (lit [(7, ow 1001 1 z)] [(1001, ar 1 eI zI z)])) h25 ?_ ?_
 ·clear H h25
  intro x16 y0 H
  refine sn [] [] [(14, cB (decide (x16.1 < (p0.Units.length : Int))))] [] [] id ?_
  refine seq_in ?_
  rcases oC H with ⟨c18, H⟩ | ⟨c18, H⟩
  ·refine it c18 ?_
   refine sk ?_
   refine seq_in ?_
   refine ends_blk ?_
   obtain ⟨v19, h20, H⟩ := oB H
   refine sn [.cs (eTUnit v19)] [] [(8, cI x16.1), (9, pk 9)] [] [(9, va (eTUnit v19))] (a2 eTUnit h20) ?_
   rcases oC H with ⟨c21, H⟩ | ⟨c21, H⟩
   ·refine sn (rg 5 true []) [] [(27, cB (v19.Side == p2))] [] [] (fun t => aG 5 c21 (t)) ?_
    rcases oC H with ⟨c22, H⟩ | ⟨c22, H⟩
    ·refine it c22 ?_
     obtain ⟨g23, H⟩ := oI H
     refine oo [fh eI zI ([x16.1] : List Int), fh eI zI (x16.2 ++ ([x16.1] : List Int))] [] [(1, cI p1), (2, cI p2), (7, ow 31 1 (x16.2 ++ ([x16.1] : List Int))), (11, dc 4 eTUnit zTUnit p0.Units), (12, cL p0.Units), (13, cI x16.1)] [(31, ar 1 eI zI (x16.2 ++ ([x16.1] : List Int)))] (fun t => aI (rfl : ([x16.1] : List Int).length = 1) (aI (fF_lit eI zI ([x16.1] : List Int)) (aI (Nat.le_refl (([x16.1] : List Int).length)) (aI (And.intro (Nat.le_refl x16.2.length) (And.intro (@List.length_append _ x16.2 ([x16.1] : List Int)) g23)) (aI (fF_appL eI zI x16.2 ([x16.1] : List Int)) (aI (fF_appR eI zI x16.2 ([x16.1] : List Int)) (t))))))) ?_
     change EndsI _ _ _ _ _ _
     refine oo [] [.ren 31 1001] [(1, cI p1), (2, cI p2), (7, ow 1001 1 (x16.2 ++ ([x16.1] : List Int))), (11, dc 4 eTUnit zTUnit p0.Units), (12, cL p0.Units), (13, cI (W (x16.1 + 1)))] [(1001, ar 1 eI zI (x16.2 ++ ([x16.1] : List Int)))] id ?_
     cases H
     exact rr
    ·refine jf c22 ?_
     refine sk ?_
     refine oo [] [] [(1, cI p1), (2, cI p2), (7, ow 1001 1 x16.2), (11, dc 4 eTUnit zTUnit p0.Units), (12, cL p0.Units), (13, cI (W (x16.1 + 1)))] [(1001, ar 1 eI zI x16.2)] id ?_
     cases H
     exact rr
   ·refine sn (rg 5 false []) [] [(27, cB false)] [] [] (fun t => aG 5 c21 (t)) ?_
    refine jf rF ?_
    refine sk ?_
    refine oo [] [] [(1, cI p1), (2, cI p2), (7, ow 1001 1 x16.2), (11, dc 4 eTUnit zTUnit p0.Units), (12, cL p0.Units), (13, cI (W (x16.1 + 1)))] [(1001, ar 1 eI zI x16.2)] id ?_
    cases H
    exact rr
  ·refine jf c18 ?_
   refine tl [] [(7, ow 1001 1 x16.2)] [(1001, ar 1 eI zI x16.2)] id ?_
   refine ends_exit ?_
   cases H
   exact rse
 ·clear h25
  rintro e s ⟨rfl, rfl⟩
  change EndsI _ _ _ _ _ _
  refine sn [] [] [(6, ow 1001 1 y24)] [] [] id ?_
  refine tl [.frz 6] [(6, dc 1 eI zI y24)] [] (aI (Nat.le_refl y24.length)) ?_
  cases H
  exact er
def s_sGood_ir : S :=
 (sq [o 2 (.box 12 (.t 0)), o 3 (.box 3 (.t 1)), o 4 (.mv bF)]
 (.seq (sq [o 9 (.load 12 true (.t 2)), o 10 (.call 30 [.t 9]), o 11 (.not (.t 10)), om 12 11, og 13 (.fad 0 (.t 3)) 12, og 14 (.load 1 false (.t 13)) 12, og 15 (.fad 0 (.t 2)) 12, og 16 (.fad 6 (.t 15)) 12, og 17 (.load 1 false (.t 16)) 12, og 18 (.call 55 [.t 14, .v (.int .i64 0), .t 17]) 12, og 19 (.not (.t 18)) 12, o 20 (.pick (.t 12) bT (.t 19)), om 21 20, og 22 (.fad 1 (.t 3)) 21, og 23 (.load 1 false (.t 22)) 21, og 24 (.call 55 [.t 23, .v (.int .i64 0), .v (.int .i64 2)]) 21, og 25 (.not (.t 24)) 21, o 26 (.pick (.t 21) bT (.t 25)), om 27 26, og 28 (.fad 2 (.t 3)) 27, og 29 (.load 1 false (.t 28)) 27, og 30 (.len (.t 29)) 27, og 31 (.bin .gtr (.t 30) (iv 12)) 27, o 32 (.pick (.t 27) bT (.t 31))]
 (.ite (.t 32) (sq [o 4 (.mv bF)]
  .ret)
 .skip))
 (.seq (sq [oa 33 2 3, ol 34 33, o 35 (.len (.t 34)), o 36 (.mv (iv 0))]
 (.blk 0 (.loop (sq [o 37 (.bin .lss (.t 36) (.t 35))]
   (.seq (.ite (.t 37) .skip
   (.exit 0))
   (.seq (.blk 1 (sq [o 38 (.iad 4 (.t 34) (.t 36)), o 39 (.load 4 true (.t 38)), o 6 (.alloc [.int .i64 0, .int .i64 0, .int .i64 0, .int .i64 0]), os 4 6 39]
    (sq [o 40 (.load 12 true (.t 2)), o 41 (.load 4 true (.t 6)), o 42 (.call 128 [.t 40, .t 41]), o 43 (.not (.t 42))]
    (.ite (.t 43) (sq [o 4 (.mv bF)]
     .ret)
    .skip))))
   (.ops [o 44 (.bin .add (.t 36) (iv 1)), om 36 44])))))))
 (.seq (sq [oa 45 2 3, ol 46 45, o 47 (.len (.t 46)), o 48 (.mv (iv 0))]
 (.blk 2 (.loop (sq [o 49 (.bin .lss (.t 48) (.t 47))]
   (.seq (.ite (.t 49) .skip
   (.exit 2))
   (.seq (.blk 3 (sq [o 50 (.iad 4 (.t 46) (.t 48)), o 51 (.load 4 true (.t 50)), o 8 (.alloc [.int .i64 0, .int .i64 0, .int .i64 0, .int .i64 0]), os 4 8 51]
    (.seq (.drw [(4, 5), (4, 6), (4, 7), (5, 7), (6, 7), (4, 8), (5, 8), (6, 8), (4, 9), (5, 9), (6, 9), (14, 15), (14, 16), (14, 17), (15, 17), (16, 17), (14, 18), (15, 18), (16, 18), (14, 21), (15, 21), (16, 21), (17, 21), (18, 21), (19, 21), (20, 21), (14, 22), (15, 22), (16, 22), (17, 22), (18, 22), (19, 22), (20, 22), (14, 23), (15, 23), (16, 23), (17, 23), (18, 23), (19, 23), (20, 23)] [oa 52 2 8, ol 53 52, o 54 (.bin .geq (.t 53) (iv 0)), om 55 54, oh 56 (.load 3 true (.t 3)) 55, oh 57 (.fad 2 (.t 8)) 55, oh 58 (.load 1 false (.t 57)) 55, oh 59 (.fad 0 (.t 8)) 55, oh 60 (.load 1 false (.t 59)) 55, oh 61 (.bin .sub (iv 1) (.t 60)) 55, oh 62 (.call 129 [.t 56, .t 58, .t 61]) 55, oh 63 (.len (.t 62)) 55, oh 64 (.bin .gtr (.t 63) (iv 0)) 55, oh 65 (.mv (.t 64)) 55, og 66 (.load 3 true (.t 3)) 65, og 67 (.fad 2 (.t 8)) 65, og 68 (.load 1 false (.t 67)) 65, og 69 (.fad 0 (.t 8)) 65, og 70 (.load 1 false (.t 69)) 65, og 71 (.call 129 [.t 66, .t 68, .t 70]) 65, og 72 (.len (.t 71)) 65, og 73 (.fad 0 (.t 2)) 65, og 74 (.fad 2 (.t 73)) 65, og 75 (.load 1 false (.t 74)) 65, og 76 (.bin .gtr (.t 72) (.t 75)) 65, oh 77 (.pick (.t 65) bT (.t 76)) 55, o 78 (.pick (.t 55) (.t 77) bF)])
    (.ite (.t 78) (sq [o 4 (.mv bF)]
     .ret)
    .skip))))
   (.ops [o 79 (.bin .add (.t 48) (iv 1)), om 48 79])))))))
 (sq [o 4 (.mv bT)]
 .ret)))))
noncomputable def X.s_sGood (p0 : TBoard) (p1 : TState) : Option Bool :=
 ((X.s_bGood p0).bind fun v11 => (bif (!v11) then some false else ((X.s_l1In p1.Turn 0 p0.Rules.Turns).bind fun v14 => (bif (!v14) then some false else ((X.s_l1In p1.Weather 0 2).bind fun v17 => (bif (!v17) then some false else (bif (decide ((p1.Units.length : Int) > 12)) then some false else ((loop (fun (x63 : Int) => ((bif (decide (x63 < (p1.Units.length : Int))) then ((at' zTUnit p1.Units x63).bind fun v66 => ((X.s_sUnit p0 v66).bind fun v68 => (bif (!v68) then some (Sum.inr (Sum.inr false)) else some (Sum.inl (W (x63 + 1)))))) else some (Sum.inr (Sum.inl ()))) : Option (Int ⊕ (Unit ⊕ Bool)))) 0).bind fun y71 => (Sum.elim (fun (y73 : Unit) => ((loop (fun (x98 : Int) => ((bif (decide (x98 < (p1.Units.length : Int))) then ((at' zTUnit p1.Units x98).bind fun v101 => (bif (decide (v101.At ≥ 0)) then ((X.s_sAt p1 v101.At (W (1 - v101.Side))).bind fun v104 => (bif (decide ((v104.length : Int) > 0)) then some (Sum.inr (Sum.inr false)) else ((X.s_sAt p1 v101.At v101.Side).bind fun v107 => (bif (decide ((v107.length : Int) > p0.Rules.Stack)) then some (Sum.inr (Sum.inr false)) else some (Sum.inl (W (x98 + 1))))))) else some (Sum.inl (W (x98 + 1))))) else some (Sum.inr (Sum.inl ()))) : Option (Int ⊕ (Unit ⊕ Bool)))) 0).bind fun y110 => (Sum.elim (fun (y112 : Unit) => some true) (fun (y113 : Bool) => some y113) y110))) (fun (y74 : Bool) => some y74) y71)))))))))
theorem s_sGood_ok (p0 : TBoard) (p1 : TState) (r : Bool) (H : X.s_sGood p0 p1 = some r) : FK 66 [.agg (eTBoard p0), .agg (eTState p1)] (cB r) := by
 unfold X.s_sGood at H
 refine fi Tryz.f66 s_sGood_ir [(4, cB r)] [] glL Tryz.func66 ?_
 refine so [] [] [(2, pk 2), (3, pk 3)] [(2, va (eTBoard p0)), (3, va (eTState p1))] id ?_
 refine seq_in ?_
 obtain ⟨v11, h12, H⟩ := oB H
 rcases oC H with ⟨c13, H⟩ | ⟨c13, H⟩
 ·refine sn ([.res (cB v11)] ++ rg 18 true []) [] [(32, cB true)] [] [] (fun t => aI (s_bGood_ok p0 v11 h12) (aG 8 c13 (aG 10 rT (t)))) ?_
  refine it rT ?_
  refine so [] [] [(4, cB false)] [] id ?_
  cases H
  exact er
 ·obtain ⟨v14, h15, H⟩ := oB H
  rcases oC H with ⟨c16, H⟩ | ⟨c16, H⟩
  ·refine sn ([.res (cB v11)] ++ rg 6 false ([.res (cB v14)] ++ rg 2 false (rg 10 true []))) [] [(32, cB true)] [] [] (fun t => aI (s_bGood_ok p0 v11 h12) (aG 6 c13 (aI (s_l1In_ok p1.Turn 0 p0.Rules.Turns v14 h15) (aG 2 c13 (aG 5 c16 (aG 5 rT (t))))))) ?_
   refine it rT ?_
   refine so [] [] [(4, cB false)] [] id ?_
   cases H
   exact er
  ·obtain ⟨v17, h18, H⟩ := oB H
   rcases oC H with ⟨c19, H⟩ | ⟨c19, H⟩
   ·refine sn ([.res (cB v11)] ++ rg 6 false ([.res (cB v14)] ++ rg 5 false ([.res (cB v17)] ++ rg 2 false (rg 5 true [])))) [] [(32, cB true)] [] [] (fun t => aI (s_bGood_ok p0 v11 h12) (aG 6 c13 (aI (s_l1In_ok p1.Turn 0 p0.Rules.Turns v14 h15) (aG 2 c13 (aG 3 c16 (aI (s_l1In_ok p1.Weather 0 2 v17 h18) (aG 2 c16 (aG 5 c19 (t))))))))) ?_
    refine it rT ?_
    refine so [] [] [(4, cB false)] [] id ?_
    cases H
    exact er
   ·refine sn ([.res (cB v11)] ++ rg 6 false ([.res (cB v14)] ++ rg 5 false ([.res (cB v17)] ++ rg 7 false []))) [] [(32, cB (decide ((p1.Units.length : Int) > 12)))] [] [] (fun t => aI (s_bGood_ok p0 v11 h12) (aG 6 c13 (aI (s_l1In_ok p1.Turn 0 p0.Rules.Turns v14 h15) (aG 2 c13 (aG 3 c16 (aI (s_l1In_ok p1.Weather 0 2 v17 h18) (aG 2 c16 (aG 3 c19 (lI p1.Units (aG 2 c19 (t))))))))))) ?_
    rcases oC H with ⟨c20, H⟩ | ⟨c20, H⟩
    ·refine it c20 ?_
     refine so [] [] [(4, cB false)] [] id ?_
     cases H
     exact er
    ·refine jf c20 ?_
     refine sk ?_
     refine seq_in ?_
     refine sn [] [] [(34, dc 4 eTUnit zTUnit p1.Units), (35, cL p1.Units), (36, cI 0)] [] [] (fun t => lI p1.Units (t)) ?_
     refine ends_blk ?_
     obtain ⟨y71, h72, H⟩ := oB H
     refine tl [] [(2, pk 2), (3, pk 3), (34, dc 4 eTUnit zTUnit p1.Units), (35, cL p1.Units), (36, cI 0)] [(2, va (eTBoard p0)), (3, va (eTState p1))] id ?_
     refine loop_in (fun (x : Int) => lit [(2, pk 2), (3, pk 3), (34, dc 4 eTUnit zTUnit p1.Units), (35, cL p1.Units), (36, cI x)] [(2, va (eTBoard p0)), (3, va (eTState p1))]) (orJ (fun (z : Unit) => At (.exit 0) (lit [(2, pk 2), (3, pk 3)] [(2, va (eTBoard p0)), (3, va (eTState p1))])) (fun (z : Bool) => At .ret (lit [(4, cB z)] []))) h72 ?_ ?_
     ·clear H h72
      intro x63 y0 H
      refine sn [] [] [(37, cB (decide (x63 < (p1.Units.length : Int))))] [] [] id ?_
      refine seq_in ?_
      rcases oC H with ⟨c65, H⟩ | ⟨c65, H⟩
      ·refine it c65 ?_
       refine sk ?_
       refine seq_in ?_
       refine ends_blk ?_
       obtain ⟨v66, h67, H⟩ := oB H
       refine sn [.cs (eTUnit v66)] [] [(6, pk 6)] [] [(6, va (eTUnit v66))] (a2 eTUnit h67) ?_
       obtain ⟨v68, h69, H⟩ := oB H
       refine sn [.res (cB v68)] [] [(43, cB (!v68))] [] [] (aI (s_sUnit_ok p0 v66 v68 h69)) ?_
       rcases oC H with ⟨c70, H⟩ | ⟨c70, H⟩
       ·refine it c70 ?_
        refine so [] [] [(4, cB false)] [] id ?_
        refine ends_ret ?_
        cases H
        exact rsr
       ·refine jf c70 ?_
        refine sk ?_
        refine oo [] [] [(2, pk 2), (3, pk 3), (34, dc 4 eTUnit zTUnit p1.Units), (35, cL p1.Units), (36, cI (W (x63 + 1)))] [(2, va (eTBoard p0)), (3, va (eTState p1))] id ?_
        cases H
        exact rr
      ·refine jf c65 ?_
       refine tl [] [(2, pk 2), (3, pk 3)] [(2, va (eTBoard p0)), (3, va (eTState p1))] id ?_
       refine ends_exit ?_
       cases H
       exact rse
     ·clear h72
      cases y71 with
      | inl y73 =>
       replace H := ofInl H
       rintro e s ⟨rfl, rfl⟩
       change EndsI _ _ _ _ _ _
       refine seq_in ?_
       refine sn [] [] [(46, dc 4 eTUnit zTUnit p1.Units), (47, cL p1.Units), (48, cI 0)] [] [] (fun t => lI p1.Units (t)) ?_
       refine ends_blk ?_
       obtain ⟨y110, h111, H⟩ := oB H
       refine tl [] [(2, pk 2), (3, pk 3), (46, dc 4 eTUnit zTUnit p1.Units), (47, cL p1.Units), (48, cI 0)] [(2, va (eTBoard p0)), (3, va (eTState p1))] id ?_
       refine loop_in (fun (x : Int) => lit [(2, pk 2), (3, pk 3), (46, dc 4 eTUnit zTUnit p1.Units), (47, cL p1.Units), (48, cI x)] [(2, va (eTBoard p0)), (3, va (eTState p1))]) (orJ (fun (z : Unit) => At (.exit 2) (lit [] [])) (fun (z : Bool) => At .ret (lit [(4, cB z)] []))) h111 ?_ ?_
       ·clear H h111
        intro x98 y0 H
        refine sn [] [] [(49, cB (decide (x98 < (p1.Units.length : Int))))] [] [] id ?_
        refine seq_in ?_
        rcases oC H with ⟨c100, H⟩ | ⟨c100, H⟩
        ·refine it c100 ?_
         refine sk ?_
         refine seq_in ?_
         refine ends_blk ?_
         obtain ⟨v101, h102, H⟩ := oB H
         refine sn [.cs (eTUnit v101)] [] [(8, pk 8)] [] [(8, va (eTUnit v101))] (a2 eTUnit h102) ?_
         rcases oC H with ⟨c103, H⟩ | ⟨c103, H⟩
         ·obtain ⟨v104, h105, H⟩ := oB H
          rcases oC H with ⟨c106, H⟩ | ⟨c106, H⟩
          ·refine xn (rg 7 true ([.res (dc 1 eI zI v104)] ++ rg 17 true [])) [] [(78, cB true)] [] [] (fun t => aG 7 c103 (aI (s_sAt_ok p1 v101.At (W (1 - v101.Side)) v104 h105) (aG 2 rN (aG 3 c103 (aG 11 c106 (aI c103 (aI c106 (aI c103 (t))))))))) ?_
           refine it rT ?_
           refine so [] [] [(4, cB false)] [] id ?_
           refine ends_ret ?_
           cases H
           exact rsr
          ·obtain ⟨v107, h108, H⟩ := oB H
           refine xn (rg 7 true ([.res (dc 1 eI zI v104)] ++ rg 3 true (rg 6 false ([.res (dc 1 eI zI v107)] ++ rg 5 false [.g true, .g false, .g true])))) [] [(78, cB (decide ((v107.length : Int) > p0.Rules.Stack)))] [] [] (fun t => aG 7 c103 (aI (s_sAt_ok p1 v101.At (W (1 - v101.Side)) v104 h105) (aG 2 rN (aG 3 c103 (aG 6 c106 (aI (s_sAt_ok p1 v101.At v101.Side v107 h108) (aG 2 rN (aG 5 c106 (aI c103 (aI c106 (aI c103 (t)))))))))))) ?_
           rcases oC H with ⟨c109, H⟩ | ⟨c109, H⟩
           ·refine it c109 ?_
            refine so [] [] [(4, cB false)] [] id ?_
            refine ends_ret ?_
            cases H
            exact rsr
           ·refine jf c109 ?_
            refine sk ?_
            refine oo [] [] [(2, pk 2), (3, pk 3), (46, dc 4 eTUnit zTUnit p1.Units), (47, cL p1.Units), (48, cI (W (x98 + 1)))] [(2, va (eTBoard p0)), (3, va (eTState p1))] id ?_
            cases H
            exact rr
         ·refine xn (rg 12 false []) [] [(78, cB false)] [] [] (fun t => aG 12 c103 (t)) ?_
          refine jf rF ?_
          refine sk ?_
          refine oo [] [] [(2, pk 2), (3, pk 3), (46, dc 4 eTUnit zTUnit p1.Units), (47, cL p1.Units), (48, cI (W (x98 + 1)))] [(2, va (eTBoard p0)), (3, va (eTState p1))] id ?_
          cases H
          exact rr
        ·refine jf c100 ?_
         refine tl [] [] [] id ?_
         refine ends_exit ?_
         cases H
         exact rse
       ·clear h111
        cases y110 with
        | inl y112 =>
         replace H := ofInl H
         rintro e s ⟨rfl, rfl⟩
         change EndsI _ _ _ _ _ _
         refine so [] [] [(4, cB true)] [] id ?_
         cases H
         exact er
        | inr y113 =>
         replace H := ofInr H
         rintro e s ⟨rfl, rfl⟩
         cases H
         exact qr
      | inr y74 =>
       replace H := ofInr H
       rintro e s ⟨rfl, rfl⟩
       cases H
       exact qr
def s_gUnits_ir : S :=
 (sq [o 3 (.box 12 (.t 0)), o 4 (.box 3 (.t 1)), o 6 (.mv bF)]
 (.seq (sq [o 9 (.load 12 true (.t 3)), o 10 (.load 3 true (.t 4)), o 11 (.call 66 [.t 9, .t 10]), o 12 (.not (.t 11)), om 13 12, og 14 (.mv (.t 2)) 13, og 15 (.fad 2 (.t 4)) 13, og 16 (.load 1 false (.t 15)) 13, og 17 (.len (.t 16)) 13, og 18 (.bin .sub (.t 17) (iv 1)) 13, og 19 (.call 79 [.t 14, .v (.int .i64 0), .t 18]) 13, og 20 (.not (.t 19)) 13, o 21 (.pick (.t 13) bT (.t 20))]
 (.ite (.t 21) (sq [o 6 (.mv bF)]
  .ret)
 .skip))
 (.seq (sq [om 22 2, o 23 (.len (.t 22)), o 24 (.mv (iv 0))]
 (.blk 0 (.loop (sq [o 25 (.bin .lss (.t 24) (.t 23))]
   (.seq (.ite (.t 25) .skip
   (.exit 0))
   (.seq (.blk 1 (sq [o 26 (.iad 1 (.t 22) (.t 24)), ol 27 26, om 8 27]
    (sq [oa 28 2 4, ol 29 28, om 30 8, o 31 (.iad 4 (.t 29) (.t 30)), oa 32 2 31, ol 33 32, o 34 (.bin .lss (.t 33) (iv 0))]
    (.ite (.t 34) (sq [o 6 (.mv bF)]
     .ret)
    .skip))))
   (.ops [o 35 (.bin .add (.t 24) (iv 1)), om 24 35])))))))
 (sq [o 6 (.mv bT)]
 .ret))))
noncomputable def X.s_gUnits (p0 : TBoard) (p1 : TState) (p2 : (List Int)) : Option Bool :=
 ((X.s_sGood p0 p1).bind fun v7 => (bif (!v7) then some false else ((X.s_l1Rising p2 0 (W ((p1.Units.length : Int) - 1))).bind fun v10 => (bif (!v10) then some false else ((loop (fun (x28 : Int) => ((bif (decide (x28 < (p2.length : Int))) then ((at' zI p2 x28).bind fun v31 => ((at' zTUnit p1.Units v31).bind fun v33 => (bif (decide (v33.At < 0)) then some (Sum.inr (Sum.inr false)) else some (Sum.inl (W (x28 + 1)))))) else some (Sum.inr (Sum.inl ()))) : Option (Int ⊕ (Unit ⊕ Bool)))) 0).bind fun y36 => (Sum.elim (fun (y38 : Unit) => some true) (fun (y39 : Bool) => some y39) y36))))))
theorem s_gUnits_ok (p0 : TBoard) (p1 : TState) (p2 : (List Int)) (r : Bool) (H : X.s_gUnits p0 p1 p2 = some r) : FK 54 [.agg (eTBoard p0), .agg (eTState p1), .c (dat 1 eI zI p2)] (cB r) := by
 unfold X.s_gUnits at H
 refine fi Tryz.f54 s_gUnits_ir [(6, cB r)] [] glL Tryz.func54 ?_
 refine sn [] [] [(3, pk 3), (4, pk 4)] [] [(3, va (eTBoard p0)), (4, va (eTState p1))] id ?_
 refine seq_in ?_
 obtain ⟨v7, h8, H⟩ := oB H
 rcases oC H with ⟨c9, H⟩ | ⟨c9, H⟩
 ·refine sn ([.res (cB v7)] ++ rg 8 true []) [] [(21, cB true)] [] [] (fun t => aI (s_sGood_ok p0 p1 v7 h8) (aG 8 c9 (t))) ?_
  refine it rT ?_
  refine so [] [] [(6, cB false)] [] id ?_
  cases H
  exact er
 ·obtain ⟨v10, h11, H⟩ := oB H
  refine sn ([.res (cB v7)] ++ rg 6 false ([.res (cB v10)] ++ rg 2 false [])) [] [(21, cB (!v10))] [] [] (fun t => aI (s_sGood_ok p0 p1 v7 h8) (aG 4 c9 (lI p1.Units (aG 2 c9 (aI (s_l1Rising_ok p2 0 (W ((p1.Units.length : Int) - 1)) v10 h11) (aG 2 c9 (t))))))) ?_
  rcases oC H with ⟨c12, H⟩ | ⟨c12, H⟩
  ·refine it c12 ?_
   refine so [] [] [(6, cB false)] [] id ?_
   cases H
   exact er
  ·refine jf c12 ?_
   refine sk ?_
   refine seq_in ?_
   refine sn [] [] [(22, dc 1 eI zI p2), (23, cL p2), (24, cI 0)] [3] [] (fun t => lI p2 (t)) ?_
   refine ends_blk ?_
   obtain ⟨y36, h37, H⟩ := oB H
   refine tl [] [(4, pk 4), (22, dc 1 eI zI p2), (23, cL p2), (24, cI 0)] [(4, va (eTState p1))] id ?_
   refine loop_in (fun (x : Int) => lit [(4, pk 4), (22, dc 1 eI zI p2), (23, cL p2), (24, cI x)] [(4, va (eTState p1))]) (orJ (fun (z : Unit) => At (.exit 0) (lit [] [])) (fun (z : Bool) => At .ret (lit [(6, cB z)] []))) h37 ?_ ?_
   ·clear H h37
    intro x28 y0 H
    refine sn [] [] [(25, cB (decide (x28 < (p2.length : Int))))] [] [] id ?_
    refine seq_in ?_
    rcases oC H with ⟨c30, H⟩ | ⟨c30, H⟩
    ·refine it c30 ?_
     refine sk ?_
     refine seq_in ?_
     refine ends_blk ?_
     obtain ⟨v31, h32, H⟩ := oB H
     refine sn [.cs (eI v31)] [] [(8, cI v31)] [] [] (a2 eI h32) ?_
     obtain ⟨v33, h34, H⟩ := oB H
     refine sn [.cs (eTUnit v33)] [] [(34, cB (decide (v33.At < 0)))] [] [] (a2 eTUnit h34) ?_
     rcases oC H with ⟨c35, H⟩ | ⟨c35, H⟩
     ·refine it c35 ?_
      refine so [] [] [(6, cB false)] [] id ?_
      refine ends_ret ?_
      cases H
      exact rsr
     ·refine jf c35 ?_
      refine sk ?_
      refine oo [] [] [(4, pk 4), (22, dc 1 eI zI p2), (23, cL p2), (24, cI (W (x28 + 1)))] [(4, va (eTState p1))] id ?_
      cases H
      exact rr
    ·refine jf c30 ?_
     refine tl [] [] [] id ?_
     refine ends_exit ?_
     cases H
     exact rse
   ·clear h37
    cases y36 with
    | inl y38 =>
     replace H := ofInl H
     rintro e s ⟨rfl, rfl⟩
     change EndsI _ _ _ _ _ _
     refine so [] [] [(6, cB true)] [] id ?_
     cases H
     exact er
    | inr y39 =>
     replace H := ofInr H
     rintro e s ⟨rfl, rfl⟩
     cases H
     exact qr
def s_fDo_ir : S :=
 (sq [o 2 (.box 3 (.t 0)), o 4 (.alloc [.int .i64 0, .int .i64 0, .nil])]
 (.seq (.drw [(0, 2), (1, 2), (0, 3), (1, 3), (0, 4), (1, 4), (2, 4), (3, 4), (0, 5), (1, 5), (2, 5), (3, 5), (4, 5), (0, 6), (1, 6), (2, 6), (3, 6), (4, 6), (0, 7), (1, 7), (2, 7), (3, 7), (0, 9), (1, 9), (2, 9), (3, 9), (4, 9), (5, 9), (6, 9), (7, 9), (8, 9)] [oa 8 0 2, ol 9 8, oa 10 1 2, ol 11 10, o 12 (.bsl 4 []), oa 13 2 2, ol 14 13, o 15 (.app 4 32 (.t 12) (.t 14)), o 16 (.build [.int .i64 0, .int .i64 0, .nil] [(0, 1, .t 9), (1, 1, .t 11), (2, 1, .t 15)]), o 5 (.alloc [.int .i64 0, .int .i64 0, .nil]), os 3 5 16])
 (.seq (sq [om 17 1, o 18 (.len (.t 17)), o 19 (.mv (iv 0))]
 (.blk 0 (.loop (sq [o 20 (.bin .lss (.t 19) (.t 18))]
   (.seq (.ite (.t 20) .skip
   (.exit 0))
   (.seq (.blk 1 (sq [o 21 (.iad 3 (.t 17) (.t 19)), o 22 (.load 3 true (.t 21)), o 7 (.alloc [.int .i64 0, .int .i64 0, .int .i64 0]), os 3 7 22]
    (.ops [oa 23 2 5, ol 24 23, oa 25 0 7, ol 26 25, oa 27 2 7, ol 28 27, o 29 (.iad 4 (.t 24) (.t 26)), oa 30 2 29, os 1 30 28])))
   (.ops [o 31 (.bin .add (.t 19) (iv 1)), om 19 31])))))))
 (sq [o 32 (.load 3 true (.t 5)), os 3 4 32]
 .ret))))
noncomputable def X.s_fDo (p0 : TState) (p1 : (List TAttempt)) : Option TState :=
 (if (([] : List TUnit) ++ p0.Units).length ≤ LIM then ((loop (fun (x17 : (Int × (List TUnit))) => ((bif (decide (x17.1 < (p1.length : Int))) then ((at' zTAttempt p1 x17.1).bind fun v20 => (if 0 ≤ v20.Unit ∧ v20.Unit < (x17.2.length : Int) then ((some (x17.2.set v20.Unit.toNat (TUnit.mk ((x17.2.getD v20.Unit.toNat zTUnit).Side) ((x17.2.getD v20.Unit.toNat zTUnit).Kind) v20.To ((x17.2.getD v20.Unit.toNat zTUnit).Steps)))).bind fun l23 => some (Sum.inl ((W (x17.1 + 1)), l23))) else none)) else some (Sum.inr x17.2)) : Option ((Int × (List TUnit)) ⊕ (List TUnit)))) (0, (([] : List TUnit) ++ p0.Units))).bind fun y25 => some (TState.mk p0.Turn p0.Weather y25)) else none)
theorem s_fDo_ok (p0 : TState) (p1 : (List TAttempt)) (r : TState) (H : X.s_fDo p0 p1 = some r) : FK 116 [.agg (eTState p0), .c (dat 3 eTAttempt zTAttempt p1)] (.agg (eTState r)) := by
 unfold X.s_fDo at H
 refine fi Tryz.f116 s_fDo_ir [(4, pk 4)] [(4, va (eTState r))] glL Tryz.func116 ?_
 refine sn [] [] [(2, pk 2), (4, pk 4)] [] [(2, va (eTState p0)), (4, .var [jI 0, jI 0, .nil] false)] id ?_
 obtain ⟨g1, H⟩ := oI H
 refine xn [.no, fh eTUnit zTUnit ([] : List TUnit), fh eTUnit zTUnit (([] : List TUnit) ++ p0.Units)] [] [(5, pk 5)] [] [(5, .var [jI p0.Turn, jI p0.Weather, .own 15 4 0 ((([] : List TUnit) ++ p0.Units).length)] false), (15, ar 4 eTUnit zTUnit (([] : List TUnit) ++ p0.Units))] (fun t => aI (rfl : ([] : List TUnit).length = 0) (aI rT (aI (fF_lit eTUnit zTUnit ([] : List TUnit)) (aI (And.intro (Nat.le_refl (([] : List TUnit).length)) (And.intro (@List.length_append _ ([] : List TUnit) p0.Units) g1)) (aI (fF_appL eTUnit zTUnit ([] : List TUnit) p0.Units) (aI (fF_appR eTUnit zTUnit ([] : List TUnit) p0.Units) (t))))))) ?_
 refine seq_in ?_
 refine sn [] [] [(17, dc 3 eTAttempt zTAttempt p1), (18, cL p1), (19, cI 0)] [2] [] (fun t => lI p1 (t)) ?_
 refine ends_blk ?_
 obtain ⟨y25, h26, H⟩ := oB H
 refine tl [] [(4, pk 4), (5, pk 5), (17, dc 3 eTAttempt zTAttempt p1), (18, cL p1), (19, cI 0)] [(4, .var [jI 0, jI 0, .nil] false), (5, .var [jI p0.Turn, jI p0.Weather, .own 15 4 0 ((([] : List TUnit) ++ p0.Units).length)] false), (15, ar 4 eTUnit zTUnit (([] : List TUnit) ++ p0.Units))] id ?_
 refine loop_in (fun (x : (Int × (List TUnit))) => lit [(4, pk 4), (5, pk 5), (17, dc 3 eTAttempt zTAttempt p1), (18, cL p1), (19, cI x.1)] [(4, .var [jI 0, jI 0, .nil] false), (5, .var [jI p0.Turn, jI p0.Weather, .own 15 4 0 x.2.length] false), (15, ar 4 eTUnit zTUnit x.2)]) (fun (z : (List TUnit)) => At (.exit 0) (lit [(4, pk 4), (5, pk 5)] [(4, .var [jI 0, jI 0, .nil] false), (5, .var [jI p0.Turn, jI p0.Weather, .own 15 4 0 z.length] false), (15, ar 4 eTUnit zTUnit z)])) h26 ?_ ?_
 ·clear H h26
  intro x17 y0 H
  refine sn [] [] [(20, cB (decide (x17.1 < (p1.length : Int))))] [] [] id ?_
  refine seq_in ?_
  rcases oC H with ⟨c19, H⟩ | ⟨c19, H⟩
  ·refine it c19 ?_
   refine sk ?_
   refine seq_in ?_
   refine ends_blk ?_
   obtain ⟨v20, h21, H⟩ := oB H
   refine sn [.cs (eTAttempt v20)] [] [(7, pk 7)] [] [(7, va (eTAttempt v20))] (a2 eTAttempt h21) ?_
   obtain ⟨g22, H⟩ := oI H
   obtain ⟨l23, h24, H⟩ := oB H
   refine oo [.no, .fn 0 (fF eTUnit zTUnit l23)] [] [(4, pk 4), (5, pk 5), (17, dc 3 eTAttempt zTAttempt p1), (18, cL p1), (19, cI x17.1)] [(4, .var [jI 0, jI 0, .nil] false), (5, .var [jI p0.Turn, jI p0.Weather, .own 15 4 0 x17.2.length] false), (15, .arr 4 x17.2.length (fF eTUnit zTUnit l23) false)] (fun t => aI g22 (aI rT (aI (nat_lt g22) (aI (by decide : 2 + 1 ≤ 4) (aI (fF_setN eTUnit zTUnit h24 (nat_lt g22) x17.2.length) (t)))))) ?_
   change EndsI _ _ _ _ _ _
   refine oo [] [.relc 5 2 l23.length, .rep 15 l23.length (fF eTUnit zTUnit l23)] [(4, pk 4), (5, pk 5), (17, dc 3 eTAttempt zTAttempt p1), (18, cL p1), (19, cI (W (x17.1 + 1)))] [(4, .var [jI 0, jI 0, .nil] false), (5, .var [jI p0.Turn, jI p0.Weather, .own 15 4 0 l23.length] false), (15, ar 4 eTUnit zTUnit l23)] (fun t => aI (by simp [lenN h24] : x17.2.length = l23.length) (aI (Nat.le_of_eq (by simp [lenN h24] : l23.length = x17.2.length)) (aI (fun _ _ => rfl : ∀ i, i < l23.length → (fF eTUnit zTUnit l23) i = (fF eTUnit zTUnit l23) i) (t)))) ?_
   cases H
   exact rr
  ·refine jf c19 ?_
   refine tl [] [(4, pk 4), (5, pk 5)] [(4, .var [jI 0, jI 0, .nil] false), (5, .var [jI p0.Turn, jI p0.Weather, .own 15 4 0 x17.2.length] false), (15, ar 4 eTUnit zTUnit x17.2)] id ?_
   refine ends_exit ?_
   cases H
   exact rse
 ·clear h26
  rintro e s ⟨rfl, rfl⟩
  change EndsI _ _ _ _ _ _
  refine sn [] [] [] [4] [(4, .var [jI p0.Turn, jI p0.Weather, .own 15 4 0 y25.length] false)] id ?_
  refine tl [.frc 4 2] [(4, pk 4)] [(4, .var [jI p0.Turn, jI p0.Weather, dat 4 eTUnit zTUnit y25] false)] (aI (Nat.le_refl y25.length)) ?_
  cases H
  exact er
theorem s_fDo_Mdd_ok (p0 : TState) (p1 : (List TAttempt)) (r : TState) (H : X.s_fDo p0 p1 = some r) : FnMu Tryz.prog gl 116 [.agg (eTState p0), .c (dat 3 eTAttempt zTAttempt p1)] [] (.agg [.int .i64 r.Turn, .int .i64 r.Weather, .own 900000 4 0 r.Units.length]) [(4, .var [.int .i64 r.Turn, .int .i64 r.Weather, .own 900000 4 0 r.Units.length] false), (900000, .arr 4 r.Units.length (fF eTUnit zTUnit r.Units) false)] := by
 unfold X.s_fDo at H
 refine fn_mu (fn := Tryz.f116) (ir := s_fDo_ir) (E' := [(4, pk 4)]) (E1 := [(4, .var [jI r.Turn, jI r.Weather, .own 900000 4 0 r.Units.length] false), (900000, ar 4 eTUnit zTUnit r.Units)]) glL Tryz.func116 (by kernel_rfl) (by kernel_rfl) (by kernel_rfl) (by kernel_rfl) (by kernel_rfl) ?_
 refine sn [] [] [(2, pk 2), (4, pk 4)] [] [(2, va (eTState p0)), (4, .var [jI 0, jI 0, .nil] false)] id ?_
 obtain ⟨g1, H⟩ := oI H
 refine xn [.no, fh eTUnit zTUnit ([] : List TUnit), fh eTUnit zTUnit (([] : List TUnit) ++ p0.Units)] [] [(5, pk 5)] [] [(5, .var [jI p0.Turn, jI p0.Weather, .own 15 4 0 ((([] : List TUnit) ++ p0.Units).length)] false), (15, ar 4 eTUnit zTUnit (([] : List TUnit) ++ p0.Units))] (fun t => aI (rfl : ([] : List TUnit).length = 0) (aI rT (aI (fF_lit eTUnit zTUnit ([] : List TUnit)) (aI (And.intro (Nat.le_refl (([] : List TUnit).length)) (And.intro (@List.length_append _ ([] : List TUnit) p0.Units) g1)) (aI (fF_appL eTUnit zTUnit ([] : List TUnit) p0.Units) (aI (fF_appR eTUnit zTUnit ([] : List TUnit) p0.Units) (t))))))) ?_
 refine seq_in ?_
 refine sn [] [] [(17, dc 3 eTAttempt zTAttempt p1), (18, cL p1), (19, cI 0)] [2] [] (fun t => lI p1 (t)) ?_
 refine ends_blk ?_
 obtain ⟨y25, h26, H⟩ := oB H
 refine tl [] [(4, pk 4), (5, pk 5), (17, dc 3 eTAttempt zTAttempt p1), (18, cL p1), (19, cI 0)] [(4, .var [jI 0, jI 0, .nil] false), (5, .var [jI p0.Turn, jI p0.Weather, .own 15 4 0 ((([] : List TUnit) ++ p0.Units).length)] false), (15, ar 4 eTUnit zTUnit (([] : List TUnit) ++ p0.Units))] id ?_
 refine loop_in (fun (x : (Int × (List TUnit))) => lit [(4, pk 4), (5, pk 5), (17, dc 3 eTAttempt zTAttempt p1), (18, cL p1), (19, cI x.1)] [(4, .var [jI 0, jI 0, .nil] false), (5, .var [jI p0.Turn, jI p0.Weather, .own 15 4 0 x.2.length] false), (15, ar 4 eTUnit zTUnit x.2)]) (fun (z : (List TUnit)) => At (.exit 0) (lit [(4, pk 4), (5, pk 5)] [(4, .var [jI 0, jI 0, .nil] false), (5, .var [jI p0.Turn, jI p0.Weather, .own 15 4 0 z.length] false), (15, ar 4 eTUnit zTUnit z)])) h26 ?_ ?_
 ·clear H h26
  intro x17 y0 H
  refine sn [] [] [(20, cB (decide (x17.1 < (p1.length : Int))))] [] [] id ?_
  refine seq_in ?_
  rcases oC H with ⟨c19, H⟩ | ⟨c19, H⟩
  ·refine it c19 ?_
   refine sk ?_
   refine seq_in ?_
   refine ends_blk ?_
   obtain ⟨v20, h21, H⟩ := oB H
   refine sn [.cs (eTAttempt v20)] [] [(7, pk 7)] [] [(7, va (eTAttempt v20))] (a2 eTAttempt h21) ?_
   obtain ⟨g22, H⟩ := oI H
   obtain ⟨l23, h24, H⟩ := oB H
   refine oo [.no, .fn 0 (fF eTUnit zTUnit l23)] [] [(4, pk 4), (5, pk 5), (17, dc 3 eTAttempt zTAttempt p1), (18, cL p1), (19, cI x17.1)] [(4, .var [jI 0, jI 0, .nil] false), (5, .var [jI p0.Turn, jI p0.Weather, .own 15 4 0 x17.2.length] false), (15, .arr 4 x17.2.length (fF eTUnit zTUnit l23) false)] (fun t => aI g22 (aI rT (aI (nat_lt g22) (aI (by decide : 2 + 1 ≤ 4) (aI (fF_setN eTUnit zTUnit h24 (nat_lt g22) x17.2.length) (t)))))) ?_
   change EndsI _ _ _ _ _ _
   refine oo [] [.relc 5 2 l23.length, .rep 15 l23.length (fF eTUnit zTUnit l23)] [(4, pk 4), (5, pk 5), (17, dc 3 eTAttempt zTAttempt p1), (18, cL p1), (19, cI (W (x17.1 + 1)))] [(4, .var [jI 0, jI 0, .nil] false), (5, .var [jI p0.Turn, jI p0.Weather, .own 15 4 0 l23.length] false), (15, ar 4 eTUnit zTUnit l23)] (fun t => aI (by simp [lenN h24] : x17.2.length = l23.length) (aI (Nat.le_of_eq (by simp [lenN h24] : l23.length = x17.2.length)) (aI (fun _ _ => rfl : ∀ i, i < l23.length → (fF eTUnit zTUnit l23) i = (fF eTUnit zTUnit l23) i) (t)))) ?_
   cases H
   exact rr
  ·refine jf c19 ?_
   refine tl [] [(4, pk 4), (5, pk 5)] [(4, .var [jI 0, jI 0, .nil] false), (5, .var [jI p0.Turn, jI p0.Weather, .own 15 4 0 x17.2.length] false), (15, ar 4 eTUnit zTUnit x17.2)] id ?_
   refine ends_exit ?_
   cases H
   exact rse
 ·clear h26
  rintro e s ⟨rfl, rfl⟩
  change EndsI _ _ _ _ _ _
  refine sn [] [] [] [4] [(4, .var [jI p0.Turn, jI p0.Weather, .own 15 4 0 y25.length] false)] id ?_
  refine tl [.ren 15 900000] [(4, pk 4)] [(4, .var [jI p0.Turn, jI p0.Weather, .own 900000 4 0 y25.length] false), (900000, ar 4 eTUnit zTUnit y25)] id ?_
  cases H
  exact er
def s_gRoom_ir : S :=
 (sq [o 4 (.box 12 (.t 0)), o 5 (.box 3 (.t 1)), o 8 (.mv bF)]
 (.seq (.drw [(0, 1), (0, 2), (1, 2), (0, 3), (1, 3), (8, 9), (8, 10), (9, 10), (8, 13), (9, 13), (10, 13), (11, 13), (12, 13), (8, 14), (9, 14), (10, 14), (11, 14), (12, 14), (8, 15), (9, 15), (10, 15), (11, 15), (12, 15)] [o 9 (.load 3 true (.t 5)), om 10 3, om 11 2, o 12 (.bin .sub (iv 1) (.t 11)), o 13 (.call 129 [.t 9, .t 10, .t 12]), o 14 (.len (.t 13)), o 15 (.bin .eql (.t 14) (iv 0)), om 16 15, oh 17 (.load 3 true (.t 5)) 16, oh 18 (.mv (.t 3)) 16, oh 19 (.mv (.t 2)) 16, oh 20 (.call 129 [.t 17, .t 18, .t 19]) 16, oh 21 (.len (.t 20)) 16, oh 22 (.fad 0 (.t 4)) 16, oh 23 (.fad 2 (.t 22)) 16, oh 24 (.load 1 false (.t 23)) 16, oh 25 (.bin .lss (.t 21) (.t 24)) 16, o 26 (.pick (.t 16) (.t 25) bF), om 8 26])
 .ret))
noncomputable def X.s_gRoom (p0 : TBoard) (p1 : TState) (p2 : Int) (p3 : Int) : Option Bool :=
 ((X.s_sAt p1 p3 (W (1 - p2))).bind fun v1 => (bif ((v1.length : Int) == 0) then ((X.s_sAt p1 p3 p2).bind fun v4 => some (decide ((v4.length : Int) < p0.Rules.Stack))) else some false))
theorem s_gRoom_ok (p0 : TBoard) (p1 : TState) (p2 : Int) (p3 : Int) (r : Bool) (H : X.s_gRoom p0 p1 p2 p3 = some r) : FK 237 [.agg (eTBoard p0), .agg (eTState p1), cI p2, cI p3] (cB r) := by
 unfold X.s_gRoom at H
 refine fi Tryz.f237 s_gRoom_ir [(8, cB r)] [] glL Tryz.func237 ?_
 refine sn [] [] [(4, pk 4), (5, pk 5)] [] [(4, va (eTBoard p0)), (5, va (eTState p1))] id ?_
 obtain ⟨v1, h2, H⟩ := oB H
 rcases oC H with ⟨c3, H⟩ | ⟨c3, H⟩
 ·obtain ⟨v4, h5, H⟩ := oB H
  refine sx ([.res (dc 1 eI zI v1)] ++ rg 4 true ([.res (dc 1 eI zI v4)] ++ rg 6 true [])) [] [(8, cB (decide ((v4.length : Int) < p0.Rules.Stack)))] [] (fun t => aI (s_sAt_ok p1 p3 (W (1 - p2)) v1 h2) (aG 2 rN (aG 4 c3 (aI (s_sAt_ok p1 p3 p2 v4 h5) (aG 2 rN (aG 6 c3 (t))))))) ?_
  cases H
  exact er
 ·refine sx ([.res (dc 1 eI zI v1)] ++ rg 10 false []) [] [(8, cB false)] [] (fun t => aI (s_sAt_ok p1 p3 (W (1 - p2)) v1 h2) (aG 2 rN (aG 10 c3 (t)))) ?_
  cases H
  exact er
def s_l1Own_ir : S :=
 (sq [o 2 (.mv (.v (.nil)))]
 (sq [o 3 (.bsl 1 []), om 4 0, o 5 (.app 1 8 (.t 3) (.t 4)), om 2 5]
 .ret))
noncomputable def X.s_l1Own_Mo (p0 : (List Int)) : Option ((List Int) × (List Int)) :=
 (if (([] : List Int) ++ p0).length ≤ LIM then some ((([] : List Int) ++ p0), p0) else none)
theorem s_l1Own_Mo_ok (p0 : (List Int)) (r : ((List Int) × (List Int))) (H : X.s_l1Own_Mo p0 = some r) : FnMu Tryz.prog gl 238 [.c (.own 1000000 1 0 p0.length)] [(1000000, .arr 1 p0.length (fF eI zI p0) false)] (.c (.own 900000 1 0 r.1.length)) [(900000, .arr 1 r.1.length (fF eI zI r.1) false), (1000000, .arr 1 r.2.length (fF eI zI r.2) false)] := by
 unfold X.s_l1Own_Mo at H
 refine fn_mu (fn := Tryz.f238) (ir := s_l1Own_ir) (E' := [(2, ow 900000 1 r.1)]) (E1 := [(900000, ar 1 eI zI r.1), (1000000, ar 1 eI zI r.2)]) glL Tryz.func238 (by kernel_rfl) (by kernel_rfl) (by kernel_rfl) (by kernel_rfl) (by kernel_rfl) ?_
 refine sn [] [] [] [] [] id ?_
 obtain ⟨g1, H⟩ := oI H
 refine sn [fh eI zI ([] : List Int), fh eI zI (([] : List Int) ++ p0)] [] [(2, ow 5 1 (([] : List Int) ++ p0))] [] [(5, ar 1 eI zI (([] : List Int) ++ p0))] (fun t => aI (rfl : ([] : List Int).length = 0) (aI (fF_lit eI zI ([] : List Int)) (aI (Nat.le_refl p0.length) (aI (And.intro (Nat.le_refl (([] : List Int).length)) (And.intro (@List.length_append _ ([] : List Int) p0) g1)) (aI (fF_appL eI zI ([] : List Int) p0) (aI (fF_appR eI zI ([] : List Int) p0) (t))))))) ?_
 refine tl [.ren 5 900000] [(2, ow 900000 1 (([] : List Int) ++ p0))] [(900000, ar 1 eI zI (([] : List Int) ++ p0)), (1000000, ar 1 eI zI p0)] id ?_
 cases H
 exact er
def s_l1Has_ir : S :=
 (sq [o 4 (.mv bF)]
 (.seq (sq [om 7 0, o 8 (.len (.t 7)), o 9 (.mv (iv 0))]
 (.blk 0 (.loop (sq [o 10 (.bin .lss (.t 9) (.t 8))]
   (.seq (.ite (.t 10) .skip
   (.exit 0))
   (.seq (.blk 1 (sq [o 11 (.iad 1 (.t 7) (.t 9)), ol 12 11, om 6 12]
    (sq [om 13 6, om 14 1, o 15 (.bin .eql (.t 13) (.t 14))]
    (.ite (.t 15) (sq [o 4 (.mv bT)]
     .ret)
    .skip))))
   (.ops [o 16 (.bin .add (.t 9) (iv 1)), om 9 16])))))))
 (sq [o 4 (.mv bF)]
 .ret)))
noncomputable def X.s_l1Has (p0 : (List Int)) (p1 : Int) : Option Bool :=
 ((loop (fun (x12 : Int) => ((bif (decide (x12 < (p0.length : Int))) then ((at' zI p0 x12).bind fun v15 => (bif (v15 == p1) then some (Sum.inr (Sum.inr true)) else some (Sum.inl (W (x12 + 1))))) else some (Sum.inr (Sum.inl ()))) : Option (Int ⊕ (Unit ⊕ Bool)))) 0).bind fun y18 => (Sum.elim (fun (y20 : Unit) => some false) (fun (y21 : Bool) => some y21) y18))
theorem s_l1Has_ok (p0 : (List Int)) (p1 : Int) (r : Bool) (H : X.s_l1Has p0 p1 = some r) : FK 82 [.c (dat 1 eI zI p0), cI p1] (cB r) := by
 unfold X.s_l1Has at H
 refine fi Tryz.f82 s_l1Has_ir [(4, cB r)] [] glL Tryz.func82 ?_
 refine sn [] [] [] [] [] id ?_
 refine seq_in ?_
 refine sn [] [] [(7, dc 1 eI zI p0), (8, cL p0), (9, cI 0)] [] [] (fun t => lI p0 (t)) ?_
 refine ends_blk ?_
 obtain ⟨y18, h19, H⟩ := oB H
 refine tl [] [(1, cI p1), (7, dc 1 eI zI p0), (8, cL p0), (9, cI 0)] [] id ?_
 refine loop_in (fun (x : Int) => lit [(1, cI p1), (7, dc 1 eI zI p0), (8, cL p0), (9, cI x)] []) (orJ (fun (z : Unit) => At (.exit 0) (lit [] [])) (fun (z : Bool) => At .ret (lit [(4, cB z)] []))) h19 ?_ ?_
 ·clear H h19
  intro x12 y0 H
  refine sn [] [] [(10, cB (decide (x12 < (p0.length : Int))))] [] [] id ?_
  refine seq_in ?_
  rcases oC H with ⟨c14, H⟩ | ⟨c14, H⟩
  ·refine it c14 ?_
   refine sk ?_
   refine seq_in ?_
   refine ends_blk ?_
   obtain ⟨v15, h16, H⟩ := oB H
   refine sn [.cs (eI v15)] [] [(6, cI v15)] [] [] (a2 eI h16) ?_
   refine sn [] [] [(15, cB (v15 == p1))] [] [] id ?_
   rcases oC H with ⟨c17, H⟩ | ⟨c17, H⟩
   ·refine it c17 ?_
    refine so [] [] [(4, cB true)] [] id ?_
    refine ends_ret ?_
    cases H
    exact rsr
   ·refine jf c17 ?_
    refine sk ?_
    refine oo [] [] [(1, cI p1), (7, dc 1 eI zI p0), (8, cL p0), (9, cI (W (x12 + 1)))] [] id ?_
    cases H
    exact rr
  ·refine jf c14 ?_
   refine tl [] [] [] id ?_
   refine ends_exit ?_
   cases H
   exact rse
 ·clear h19
  cases y18 with
  | inl y20 =>
   replace H := ofInl H
   rintro e s ⟨rfl, rfl⟩
   change EndsI _ _ _ _ _ _
   refine so [] [] [(4, cB false)] [] id ?_
   cases H
   exact er
  | inr y21 =>
   replace H := ofInr H
   rintro e s ⟨rfl, rfl⟩
   cases H
   exact qr
def s_mEdge_ir : S :=
 (sq [o 3 (.box 5 (.t 0)), o 6 (.mv (iv 0))]
 (.seq (sq [om 7 2, o 8 (.bin .lss (.t 7) (iv 3))]
 (.ite (.t 8) (sq [om 9 1, o 10 (.bin .mul (iv 3) (.t 9)), om 11 2, o 12 (.bin .add (.t 10) (.t 11)), om 6 12]
  .ret)
 .skip))
 (sq [o 13 (.load 5 true (.t 3)), om 14 1, om 15 2, o 16 (.call 162 [.t 13, .t 14, .t 15]), o 17 (.bin .mul (iv 3) (.t 16)), om 18 2, o 19 (.bin .add (.t 17) (.t 18)), o 20 (.bin .sub (.t 19) (iv 3)), om 6 20]
 .ret)))
noncomputable def X.s_mEdge (p0 : TMap) (p1 : Int) (p2 : Int) : Option Int :=
 (bif (decide (p2 < 3)) then some (W ((W (3 * p1)) + p2)) else ((X.s_mNext p0 p1 p2).bind fun v3 => some (W ((W ((W (3 * v3)) + p2)) - 3))))
theorem s_mEdge_ok (p0 : TMap) (p1 : Int) (p2 : Int) (r : Int) (H : X.s_mEdge p0 p1 p2 = some r) : FK 286 [.agg (eTMap p0), cI p1, cI p2] (cI r) := by
 unfold X.s_mEdge at H
 refine fi Tryz.f286 s_mEdge_ir [(6, cI r)] [] glL Tryz.func286 ?_
 refine sn [] [] [(3, pk 3)] [] [(3, va (eTMap p0))] id ?_
 refine seq_in ?_
 refine sn [] [] [(8, cB (decide (p2 < 3)))] [] [] id ?_
 rcases oC H with ⟨c2, H⟩ | ⟨c2, H⟩
 ·refine it c2 ?_
  refine so [] [] [(6, cI (W ((W (3 * p1)) + p2)))] [] id ?_
  cases H
  exact er
 ·refine jf c2 ?_
  refine sk ?_
  obtain ⟨v3, h4, H⟩ := oB H
  refine so [.res (cI v3)] [] [(6, cI (W ((W ((W (3 * v3)) + p2)) - 3)))] [] (aI (s_mNext_ok p0 p1 p2 v3 h4)) ?_
  cases H
  exact er
def s_mRiver_ir : S :=
 (sq [o 3 (.box 5 (.t 0)), o 6 (.mv bF)]
 (.seq (.drw [(0, 2), (1, 2), (0, 3), (1, 3), (2, 3), (0, 4), (1, 4), (2, 4), (3, 4), (0, 5), (1, 5)] [oa 7 3 3, ol 8 7, o 9 (.load 5 true (.t 3)), om 10 1, om 11 2, o 12 (.call 286 [.t 9, .t 10, .t 11]), o 13 (.call 82 [.t 8, .t 12]), om 6 13])
 .ret))
noncomputable def X.s_mRiver (p0 : TMap) (p1 : Int) (p2 : Int) : Option Bool :=
 ((X.s_mEdge p0 p1 p2).bind fun v1 => ((X.s_l1Has p0.Rivers v1).bind fun v3 => some v3))
theorem s_mRiver_ok (p0 : TMap) (p1 : Int) (p2 : Int) (r : Bool) (H : X.s_mRiver p0 p1 p2 = some r) : FK 281 [.agg (eTMap p0), cI p1, cI p2] (cB r) := by
 unfold X.s_mRiver at H
 refine fi Tryz.f281 s_mRiver_ir [(6, cB r)] [] glL Tryz.func281 ?_
 refine sn [] [] [(3, pk 3)] [] [(3, va (eTMap p0))] id ?_
 obtain ⟨v1, h2, H⟩ := oB H
 obtain ⟨v3, h4, H⟩ := oB H
 refine sx [.res (cI v1), .res (cB v3)] [] [(6, cB v3)] [] (fun t => aI (s_mEdge_ok p0 p1 p2 v1 h2) (aI trivial (aI rN (aI (s_l1Has_ok p0.Rivers v1 v3 h4) (aI trivial (aI rN (t))))))) ?_
 cases H
 exact er
def s_mRoad_ir : S :=
 (sq [o 3 (.box 5 (.t 0)), o 6 (.mv bF)]
 (.seq (.drw [(0, 2), (1, 2), (0, 3), (1, 3), (2, 3), (0, 4), (1, 4), (2, 4), (3, 4), (0, 5), (1, 5)] [oa 7 4 3, ol 8 7, o 9 (.load 5 true (.t 3)), om 10 1, om 11 2, o 12 (.call 286 [.t 9, .t 10, .t 11]), o 13 (.call 82 [.t 8, .t 12]), om 6 13])
 .ret))
noncomputable def X.s_mRoad (p0 : TMap) (p1 : Int) (p2 : Int) : Option Bool :=
 ((X.s_mEdge p0 p1 p2).bind fun v1 => ((X.s_l1Has p0.Roads v1).bind fun v3 => some v3))
theorem s_mRoad_ok (p0 : TMap) (p1 : Int) (p2 : Int) (r : Bool) (H : X.s_mRoad p0 p1 p2 = some r) : FK 282 [.agg (eTMap p0), cI p1, cI p2] (cB r) := by
 unfold X.s_mRoad at H
 refine fi Tryz.f282 s_mRoad_ir [(6, cB r)] [] glL Tryz.func282 ?_
 refine sn [] [] [(3, pk 3)] [] [(3, va (eTMap p0))] id ?_
 obtain ⟨v1, h2, H⟩ := oB H
 obtain ⟨v3, h4, H⟩ := oB H
 refine sx [.res (cI v1), .res (cB v3)] [] [(6, cB v3)] [] (fun t => aI (s_mEdge_ok p0 p1 p2 v1 h2) (aI trivial (aI rN (aI (s_l1Has_ok p0.Roads v1 v3 h4) (aI trivial (aI rN (t))))))) ?_
 cases H
 exact er
def s_zExerts_ir : S :=
 (sq [o 4 (.box 12 (.t 0)), o 5 (.box 3 (.t 1)), o 8 (.mv bF)]
 (sq [oa 11 2 5, ol 12 11, om 13 2, o 14 (.iad 4 (.t 12) (.t 13)), o 15 (.load 4 true (.t 14)), o 9 (.alloc [.int .i64 0, .int .i64 0, .int .i64 0, .int .i64 0]), os 4 9 15]
 (.seq (sq [oa 16 2 9, ol 17 16, o 18 (.bin .lss (.t 17) (iv 0)), om 19 18, og 20 (.fad 0 (.t 4)) 19, og 21 (.fad 1 (.t 20)) 19, og 22 (.load 1 false (.t 21)) 19, og 23 (.fad 1 (.t 9)) 19, og 24 (.load 1 false (.t 23)) 19, og 25 (.iad 6 (.t 22) (.t 24)) 19, og 26 (.fad 4 (.t 25)) 19, og 27 (.load 1 false (.t 26)) 19, og 28 (.not (.t 27)) 19, o 29 (.pick (.t 19) bT (.t 28)), om 30 29, og 31 (.load 12 true (.t 4)) 30, og 32 (.fad 1 (.t 9)) 30, og 33 (.load 1 false (.t 32)) 30, og 34 (.mv (.t 3)) 30, og 35 (.call 173 [.t 31, .t 33, .t 34]) 30, og 36 (.bin .eql (.t 35) (iv 0)) 30, o 37 (.pick (.t 30) bT (.t 36))]
 (.ite (.t 37) (sq [o 8 (.mv bF)]
  .ret)
 .skip))
 (.seq (sq [o 10 (.mv (iv 0))]
 (.blk 0 (.loop (.seq (sq [om 38 10, o 39 (.bin .lss (.t 38) (iv 6))]
   (.ite (.t 39) .skip
   (.exit 0)))
   (.seq (.blk 1 (sq [oa 42 7 4, o 43 (.load 5 true (.t 42)), oa 44 2 9, ol 45 44, om 46 10, o 47 (.call 162 [.t 43, .t 45, .t 46]), om 48 3, o 49 (.bin .eql (.t 47) (.t 48))]
    (.ite (.t 49) (sq [oa 50 7 4, o 51 (.load 5 true (.t 50)), oa 52 2 9, ol 53 52, om 54 10, o 55 (.call 281 [.t 51, .t 53, .t 54]), o 56 (.not (.t 55)), om 57 56, og 58 (.fad 7 (.t 4)) 57, og 59 (.load 5 true (.t 58)) 57, og 60 (.fad 2 (.t 9)) 57, og 61 (.load 1 false (.t 60)) 57, og 62 (.mv (.t 10)) 57, og 63 (.call 282 [.t 59, .t 61, .t 62]) 57, o 64 (.pick (.t 57) bT (.t 63)), om 8 64]
     .ret)
    .skip)))
   (.ops [om 40 10, o 41 (.bin .add (.t 40) (iv 1)), om 10 41]))))))
 (sq [o 8 (.mv bF)]
 .ret)))))
noncomputable def X.s_zExerts (p0 : TBoard) (p1 : TState) (p2 : Int) (p3 : Int) : Option Bool :=
 ((at' zTUnit p1.Units p2).bind fun v1 => (bif (decide (v1.At < 0)) then some false else ((at' zTKind p0.Rules.Kinds v1.Kind).bind fun v11 => (bif (!v11.Zone) then some false else ((X.s_bCost p0 v1.Kind p3).bind fun v14 => (bif (v14 == 0) then some false else ((loop (fun (x38 : Int) => ((bif (decide (x38 < 6)) then ((X.s_mNext p0.Map v1.At x38).bind fun v41 => (bif (v41 == p3) then ((X.s_mRiver p0.Map v1.At x38).bind fun v44 => (bif (!v44) then some (Sum.inr (Sum.inr true)) else ((X.s_mRoad p0.Map v1.At x38).bind fun v47 => some (Sum.inr (Sum.inr v47))))) else some (Sum.inl (W (x38 + 1))))) else some (Sum.inr (Sum.inl ()))) : Option (Int ⊕ (Unit ⊕ Bool)))) 0).bind fun y49 => (Sum.elim (fun (y51 : Unit) => some false) (fun (y52 : Bool) => some y52) y49))))))))
theorem s_zExerts_ok (p0 : TBoard) (p1 : TState) (p2 : Int) (p3 : Int) (r : Bool) (H : X.s_zExerts p0 p1 p2 p3 = some r) : FK 273 [.agg (eTBoard p0), .agg (eTState p1), cI p2, cI p3] (cB r) := by
 unfold X.s_zExerts at H
 refine fi Tryz.f273 s_zExerts_ir [(8, cB r)] [] glL Tryz.func273 ?_
 refine sn [] [] [(4, pk 4), (5, pk 5)] [] [(4, va (eTBoard p0)), (5, va (eTState p1))] id ?_
 obtain ⟨v1, h2, H⟩ := oB H
 refine sn [.cs (eTUnit v1)] [] [(9, pk 9)] [] [(9, va (eTUnit v1))] (a2 eTUnit h2) ?_
 refine seq_in ?_
 rcases oC H with ⟨c10, H⟩ | ⟨c10, H⟩
 ·refine sn (rg 17 true []) [] [(37, cB true)] [5] [] (fun t => aG 10 c10 (aG 7 rT (t))) ?_
  refine it rT ?_
  refine so [] [] [(8, cB false)] [] id ?_
  cases H
  exact er
 ·obtain ⟨v11, h12, H⟩ := oB H
  rcases oC H with ⟨c13, H⟩ | ⟨c13, H⟩
  ·refine sn (rg 6 false ([.cs (eTKind v11)] ++ rg 4 false (rg 7 true []))) [] [(37, cB true)] [5] [] (fun t => aG 6 c10 ((a2 eTKind h12 (aG 4 c10 (aG 7 c13 (t)))))) ?_
   refine it rT ?_
   refine so [] [] [(8, cB false)] [] id ?_
   cases H
   exact er
  ·obtain ⟨v14, h15, H⟩ := oB H
   refine sn (rg 6 false ([.cs (eTKind v11)] ++ rg 9 false ([.res (cI v14)] ++ rg 2 false []))) [] [(37, cB (v14 == 0))] [5] [] (fun t => aG 6 c10 ((a2 eTKind h12 (aG 4 c10 (aG 5 c13 (aI (s_bCost_ok p0 v1.Kind p3 v14 h15) (aG 2 c13 (t)))))))) ?_
   rcases oC H with ⟨c16, H⟩ | ⟨c16, H⟩
   ·refine it c16 ?_
    refine so [] [] [(8, cB false)] [] id ?_
    cases H
    exact er
   ·refine jf c16 ?_
    refine sk ?_
    refine seq_in ?_
    refine sn [] [] [(10, cI 0)] [] [] id ?_
    refine ends_blk ?_
    obtain ⟨y49, h50, H⟩ := oB H
    refine tl [] [(3, cI p3), (4, pk 4), (9, pk 9), (10, cI 0)] [(4, va (eTBoard p0)), (9, va (eTUnit v1))] id ?_
    refine loop_in (fun (x : Int) => lit [(3, cI p3), (4, pk 4), (9, pk 9), (10, cI x)] [(4, va (eTBoard p0)), (9, va (eTUnit v1))]) (orJ (fun (z : Unit) => At (.exit 0) (lit [] [])) (fun (z : Bool) => At .ret (lit [(8, cB z)] []))) h50 ?_ ?_
    ·clear H h50
     intro x38 y0 H
     refine seq_in ?_
     refine sn [] [] [(39, cB (decide (x38 < 6)))] [] [] id ?_
     rcases oC H with ⟨c40, H⟩ | ⟨c40, H⟩
     ·refine it c40 ?_
      refine sk ?_
      refine seq_in ?_
      refine ends_blk ?_
      obtain ⟨v41, h42, H⟩ := oB H
      refine sn [.res (cI v41)] [] [(49, cB (v41 == p3))] [] [] (aI (s_mNext_ok p0.Map v1.At x38 v41 h42)) ?_
      rcases oC H with ⟨c43, H⟩ | ⟨c43, H⟩
      ·refine it c43 ?_
       obtain ⟨v44, h45, H⟩ := oB H
       rcases oC H with ⟨c46, H⟩ | ⟨c46, H⟩
       ·refine so ([.res (cB v44)] ++ rg 7 true []) [] [(8, cB true)] [] (fun t => aI (s_mRiver_ok p0.Map v1.At x38 v44 h45) (aG 7 c46 (t))) ?_
        refine ends_ret ?_
        cases H
        exact rsr
       ·obtain ⟨v47, h48, H⟩ := oB H
        refine so ([.res (cB v44)] ++ rg 6 false [.res (cB v47), .g false]) [] [(8, cB v47)] [] (fun t => aI (s_mRiver_ok p0.Map v1.At x38 v44 h45) (aG 6 c46 (aI (s_mRoad_ok p0.Map v1.At x38 v47 h48) (aI c46 (t))))) ?_
        refine ends_ret ?_
        cases H
        exact rsr
      ·refine jf c43 ?_
       refine sk ?_
       refine oo [] [] [(3, cI p3), (4, pk 4), (9, pk 9), (10, cI (W (x38 + 1)))] [(4, va (eTBoard p0)), (9, va (eTUnit v1))] id ?_
       cases H
       exact rr
     ·refine jf c40 ?_
      refine tl [] [] [] id ?_
      refine ends_exit ?_
      cases H
      exact rse
    ·clear h50
     cases y49 with
     | inl y51 =>
      replace H := ofInl H
      rintro e s ⟨rfl, rfl⟩
      change EndsI _ _ _ _ _ _
      refine so [] [] [(8, cB false)] [] id ?_
      cases H
      exact er
     | inr y52 =>
      replace H := ofInr H
      rintro e s ⟨rfl, rfl⟩
      cases H
      exact qr
def s_zSources_ir : S :=
 (sq [o 4 (.box 12 (.t 0)), o 5 (.box 3 (.t 1)), o 8 (.mv (.v (.nil)))]
 (sq [o 9 (.mv (.v (.nil)))]
 (.seq (sq [oa 12 2 5, ol 13 12, o 14 (.len (.t 13)), o 15 (.mv (iv 0))]
 (.blk 0 (.loop (sq [o 16 (.bin .lss (.t 15) (.t 14))]
   (.seq (.ite (.t 16) .skip
   (.exit 0))
   (.seq (.blk 1 (sq [om 17 15, o 18 (.iad 4 (.t 13) (.t 15)), o 19 (.load 4 true (.t 18)), o 11 (.alloc [.int .i64 0, .int .i64 0, .int .i64 0, .int .i64 0]), om 10 17, os 4 11 19]
    (sq [oa 20 0 11, ol 21 20, om 22 2, o 23 (.bin .eql (.t 21) (.t 22)), om 24 23, oh 25 (.load 12 true (.t 4)) 24, oh 26 (.load 3 true (.t 5)) 24, oh 27 (.mv (.t 10)) 24, oh 28 (.mv (.t 3)) 24, oh 29 (.call 273 [.t 25, .t 26, .t 27, .t 28]) 24, o 30 (.pick (.t 24) (.t 29) bF)]
    (.ite (.t 30) (.ops [om 31 9, om 32 10, o 33 (.bsl 1 [.t 32]), o 34 (.app 1 8 (.t 31) (.t 33)), om 9 34])
    .skip))))
   (.ops [o 35 (.bin .add (.t 15) (iv 1)), om 15 35])))))))
 (sq [om 36 9, om 8 36]
 .ret))))
noncomputable def X.s_zSources (p0 : TBoard) (p1 : TState) (p2 : Int) (p3 : Int) : Option (List Int) :=
 ((loop (fun (x20 : (Int × (List Int))) => ((bif (decide (x20.1 < (p1.Units.length : Int))) then ((at' zTUnit p1.Units x20.1).bind fun v23 => (bif (v23.Side == p2) then ((X.s_zExerts p0 p1 x20.1 p3).bind fun v26 => (bif v26 then (if (x20.2 ++ ([x20.1] : List Int)).length ≤ LIM then some (Sum.inl ((W (x20.1 + 1)), (x20.2 ++ ([x20.1] : List Int)))) else none) else some (Sum.inl ((W (x20.1 + 1)), x20.2)))) else some (Sum.inl ((W (x20.1 + 1)), x20.2)))) else some (Sum.inr x20.2)) : Option ((Int × (List Int)) ⊕ (List Int)))) (0, ([] : List Int))).bind fun y30 => some y30)
theorem s_zSources_ok (p0 : TBoard) (p1 : TState) (p2 : Int) (p3 : Int) (r : (List Int)) (H : X.s_zSources p0 p1 p2 p3 = some r) : FK 268 [.agg (eTBoard p0), .agg (eTState p1), cI p2, cI p3] (.c (dat 1 eI zI r)) := by
 unfold X.s_zSources at H
 refine fi Tryz.f268 s_zSources_ir [(8, dc 1 eI zI r)] [] glL Tryz.func268 ?_
 refine sn [] [] [(4, pk 4), (5, pk 5)] [] [(4, va (eTBoard p0)), (5, va (eTState p1))] id ?_
 refine sn [] [] [(9, .c (.nil))] [] [] id ?_
 refine seq_in ?_
 refine sn [] [] [(13, dc 4 eTUnit zTUnit p1.Units), (14, cL p1.Units), (15, cI 0)] [] [] (fun t => lI p1.Units (t)) ?_
 refine ends_blk ?_
 obtain ⟨y30, h31, H⟩ := oB H
 refine tl [.nlo 9 1001 1 (fF eI zI ([] : List Int))] [(2, cI p2), (3, cI p3), (4, pk 4), (5, pk 5), (9, ow 1001 1 ([] : List Int)), (13, dc 4 eTUnit zTUnit p1.Units), (14, cL p1.Units), (15, cI 0)] [(4, va (eTBoard p0)), (5, va (eTState p1)), (1001, ar 1 eI zI ([] : List Int))] (aI (by decide : 0 < 1)) ?_
 refine loop_in (fun (x : (Int × (List Int))) => lit [(2, cI p2), (3, cI p3), (4, pk 4), (5, pk 5), (9, ow 1001 1 x.2), (13, dc 4 eTUnit zTUnit p1.Units), (14, cL p1.Units), (15, cI x.1)] [(4, va (eTBoard p0)), (5, va (eTState p1)), (1001, ar 1 eI zI x.2)]) (fun (z : (List Int)) => At (.exit 0) (lit [(9, ow 1001 1 z)] [(1001, ar 1 eI zI z)])) h31 ?_ ?_
 ·clear H h31
  intro x20 y0 H
  refine sn [] [] [(16, cB (decide (x20.1 < (p1.Units.length : Int))))] [] [] id ?_
  refine seq_in ?_
  rcases oC H with ⟨c22, H⟩ | ⟨c22, H⟩
  ·refine it c22 ?_
   refine sk ?_
   refine seq_in ?_
   refine ends_blk ?_
   obtain ⟨v23, h24, H⟩ := oB H
   refine sn [.cs (eTUnit v23)] [] [(10, cI x20.1), (11, pk 11)] [] [(11, va (eTUnit v23))] (a2 eTUnit h24) ?_
   rcases oC H with ⟨c25, H⟩ | ⟨c25, H⟩
   ·obtain ⟨v26, h27, H⟩ := oB H
    refine sn (rg 5 true [.res (cB v26), .g true]) [] [(30, cB v26)] [] [] (fun t => aG 5 c25 (aI (s_zExerts_ok p0 p1 x20.1 p3 v26 h27) (aI c25 (t)))) ?_
    rcases oC H with ⟨c28, H⟩ | ⟨c28, H⟩
    ·refine it c28 ?_
     obtain ⟨g29, H⟩ := oI H
     refine oo [fh eI zI ([x20.1] : List Int), fh eI zI (x20.2 ++ ([x20.1] : List Int))] [] [(2, cI p2), (3, cI p3), (4, pk 4), (5, pk 5), (9, ow 34 1 (x20.2 ++ ([x20.1] : List Int))), (13, dc 4 eTUnit zTUnit p1.Units), (14, cL p1.Units), (15, cI x20.1)] [(4, va (eTBoard p0)), (5, va (eTState p1)), (34, ar 1 eI zI (x20.2 ++ ([x20.1] : List Int)))] (fun t => aI (rfl : ([x20.1] : List Int).length = 1) (aI (fF_lit eI zI ([x20.1] : List Int)) (aI (Nat.le_refl (([x20.1] : List Int).length)) (aI (And.intro (Nat.le_refl x20.2.length) (And.intro (@List.length_append _ x20.2 ([x20.1] : List Int)) g29)) (aI (fF_appL eI zI x20.2 ([x20.1] : List Int)) (aI (fF_appR eI zI x20.2 ([x20.1] : List Int)) (t))))))) ?_
     change EndsI _ _ _ _ _ _
     refine oo [] [.ren 34 1001] [(2, cI p2), (3, cI p3), (4, pk 4), (5, pk 5), (9, ow 1001 1 (x20.2 ++ ([x20.1] : List Int))), (13, dc 4 eTUnit zTUnit p1.Units), (14, cL p1.Units), (15, cI (W (x20.1 + 1)))] [(4, va (eTBoard p0)), (5, va (eTState p1)), (1001, ar 1 eI zI (x20.2 ++ ([x20.1] : List Int)))] id ?_
     cases H
     exact rr
    ·refine jf c28 ?_
     refine sk ?_
     refine oo [] [] [(2, cI p2), (3, cI p3), (4, pk 4), (5, pk 5), (9, ow 1001 1 x20.2), (13, dc 4 eTUnit zTUnit p1.Units), (14, cL p1.Units), (15, cI (W (x20.1 + 1)))] [(4, va (eTBoard p0)), (5, va (eTState p1)), (1001, ar 1 eI zI x20.2)] id ?_
     cases H
     exact rr
   ·refine sn (rg 6 false []) [] [(30, cB false)] [] [] (fun t => aG 6 c25 (t)) ?_
    refine jf rF ?_
    refine sk ?_
    refine oo [] [] [(2, cI p2), (3, cI p3), (4, pk 4), (5, pk 5), (9, ow 1001 1 x20.2), (13, dc 4 eTUnit zTUnit p1.Units), (14, cL p1.Units), (15, cI (W (x20.1 + 1)))] [(4, va (eTBoard p0)), (5, va (eTState p1)), (1001, ar 1 eI zI x20.2)] id ?_
    cases H
    exact rr
  ·refine jf c22 ?_
   refine tl [] [(9, ow 1001 1 x20.2)] [(1001, ar 1 eI zI x20.2)] id ?_
   refine ends_exit ?_
   cases H
   exact rse
 ·clear h31
  rintro e s ⟨rfl, rfl⟩
  change EndsI _ _ _ _ _ _
  refine sn [] [] [(8, ow 1001 1 y30)] [] [] id ?_
  refine tl [.frz 8] [(8, dc 1 eI zI y30)] [] (aI (Nat.le_refl y30.length)) ?_
  cases H
  exact er
def s_zIn_ir : S :=
 (sq [o 4 (.box 12 (.t 0)), o 5 (.box 3 (.t 1)), o 8 (.mv bF)]
 (sq [o 9 (.load 12 true (.t 4)), o 10 (.load 3 true (.t 5)), om 11 3, om 12 2, o 13 (.call 268 [.t 9, .t 10, .t 11, .t 12]), o 14 (.len (.t 13)), o 15 (.bin .gtr (.t 14) (iv 0)), om 8 15]
 .ret))
noncomputable def X.s_zIn (p0 : TBoard) (p1 : TState) (p2 : Int) (p3 : Int) : Option Bool :=
 ((X.s_zSources p0 p1 p3 p2).bind fun v1 => some (decide ((v1.length : Int) > 0)))
theorem s_zIn_ok (p0 : TBoard) (p1 : TState) (p2 : Int) (p3 : Int) (r : Bool) (H : X.s_zIn p0 p1 p2 p3 = some r) : FK 259 [.agg (eTBoard p0), .agg (eTState p1), cI p2, cI p3] (cB r) := by
 unfold X.s_zIn at H
 refine fi Tryz.f259 s_zIn_ir [(8, cB r)] [] glL Tryz.func259 ?_
 refine sn [] [] [(4, pk 4), (5, pk 5)] [] [(4, va (eTBoard p0)), (5, va (eTState p1))] id ?_
 obtain ⟨v1, h2, H⟩ := oB H
 refine so [.res (dc 1 eI zI v1)] [] [(8, cB (decide ((v1.length : Int) > 0)))] [] (fun t => aI (s_zSources_ok p0 p1 p3 p2 v1 h2) (lI v1 (t))) ?_
 cases H
 exact er
def s_gBack_ir : S :=
 (sq [o 5 (.box 12 (.t 0)), o 6 (.box 3 (.t 1)), o 10 (.mv bF)]
 (sq [oa 15 2 6, ol 16 15, om 17 2, o 18 (.iad 4 (.t 16) (.t 17)), o 19 (.load 4 true (.t 18)), o 11 (.alloc [.int .i64 0, .int .i64 0, .int .i64 0, .int .i64 0]), os 4 11 19]
 (sq [oa 20 7 5, o 21 (.load 5 true (.t 20)), om 22 3, om 23 4, o 24 (.call 162 [.t 21, .t 22, .t 23]), om 12 24]
 (.seq (sq [om 25 12, o 26 (.bin .lss (.t 25) (iv 0)), om 27 26, og 28 (.load 12 true (.t 5)) 27, og 29 (.fad 1 (.t 11)) 27, og 30 (.load 1 false (.t 29)) 27, og 31 (.mv (.t 12)) 27, og 32 (.call 173 [.t 28, .t 30, .t 31]) 27, og 33 (.bin .eql (.t 32) (iv 0)) 27, o 34 (.pick (.t 27) bT (.t 33)), om 35 34, og 36 (.load 3 true (.t 6)) 35, og 37 (.mv (.t 12)) 35, og 38 (.fad 0 (.t 11)) 35, og 39 (.load 1 false (.t 38)) 35, og 40 (.bin .sub (iv 1) (.t 39)) 35, og 41 (.call 129 [.t 36, .t 37, .t 40]) 35, og 42 (.len (.t 41)) 35, og 43 (.bin .gtr (.t 42) (iv 0)) 35, o 44 (.pick (.t 35) bT (.t 43))]
 (.ite (.t 44) (sq [o 10 (.mv bF)]
  .ret)
 .skip))
 (.seq (sq [o 45 (.load 12 true (.t 5)), o 46 (.load 3 true (.t 6)), om 47 12, oa 48 0 11, ol 49 48, o 50 (.bin .sub (iv 1) (.t 49)), o 51 (.call 259 [.t 45, .t 46, .t 47, .t 50]), o 52 (.not (.t 51))]
 (.ite (.t 52) (sq [o 10 (.mv bT)]
  .ret)
 .skip))
 (.seq (sq [o 53 (.load 3 true (.t 6)), om 54 12, oa 55 0 11, ol 56 55, o 57 (.call 129 [.t 53, .t 54, .t 56]), o 58 (.len (.t 57)), o 59 (.mv (iv 0))]
 (.blk 0 (.loop (sq [o 60 (.bin .lss (.t 59) (.t 58))]
   (.seq (.ite (.t 60) .skip
   (.exit 0))
   (.seq (.blk 1 (sq [o 61 (.iad 1 (.t 57) (.t 59)), ol 62 61, om 14 62]
    (sq [om 63 14, om 64 2, o 65 (.bin .neq (.t 63) (.t 64))]
    (.ite (.t 65) (sq [o 10 (.mv bT)]
     .ret)
    .skip))))
   (.ops [o 66 (.bin .add (.t 59) (iv 1)), om 59 66])))))))
 (sq [o 10 (.mv bF)]
 .ret)))))))
noncomputable def X.s_gBack (p0 : TBoard) (p1 : TState) (p2 : Int) (p3 : Int) (p4 : Int) : Option Bool :=
 ((at' zTUnit p1.Units p2).bind fun v1 => ((X.s_mNext p0.Map p3 p4).bind fun v3 => (bif (decide (v3 < 0)) then some false else ((X.s_bCost p0 v1.Kind v3).bind fun v13 => (bif (v13 == 0) then some false else ((X.s_sAt p1 v3 (W (1 - v1.Side))).bind fun v16 => (bif (decide ((v16.length : Int) > 0)) then some false else ((X.s_zIn p0 p1 v3 (W (1 - v1.Side))).bind fun v22 => (bif (!v22) then some true else ((X.s_sAt p1 v3 v1.Side).bind fun v25 => ((loop (fun (x38 : Int) => ((bif (decide (x38 < (v25.length : Int))) then ((at' zI v25 x38).bind fun v41 => (bif (v41 != p2) then some (Sum.inr (Sum.inr true)) else some (Sum.inl (W (x38 + 1))))) else some (Sum.inr (Sum.inl ()))) : Option (Int ⊕ (Unit ⊕ Bool)))) 0).bind fun y44 => (Sum.elim (fun (y46 : Unit) => some false) (fun (y47 : Bool) => some y47) y44))))))))))))
theorem s_gBack_ok (p0 : TBoard) (p1 : TState) (p2 : Int) (p3 : Int) (p4 : Int) (r : Bool) (H : X.s_gBack p0 p1 p2 p3 p4 = some r) : FK 239 [.agg (eTBoard p0), .agg (eTState p1), cI p2, cI p3, cI p4] (cB r) := by
 unfold X.s_gBack at H
 refine fi Tryz.f239 s_gBack_ir [(10, cB r)] [] glL Tryz.func239 ?_
 refine sn [] [] [(5, pk 5), (6, pk 6)] [] [(5, va (eTBoard p0)), (6, va (eTState p1))] id ?_
 obtain ⟨v1, h2, H⟩ := oB H
 refine sn [.cs (eTUnit v1)] [] [(11, pk 11)] [] [(11, va (eTUnit v1))] (a2 eTUnit h2) ?_
 obtain ⟨v3, h4, H⟩ := oB H
 refine sn [.res (cI v3)] [] [(12, cI v3)] [] [] (aI (s_mNext_ok p0.Map p3 p4 v3 h4)) ?_
 refine seq_in ?_
 rcases oC H with ⟨c12, H⟩ | ⟨c12, H⟩
 ·refine sn (rg 16 true []) [] [(44, cB true)] [] [] (fun t => aG 7 c12 (aG 9 rT (t))) ?_
  refine it rT ?_
  refine so [] [] [(10, cB false)] [] id ?_
  cases H
  exact er
 ·obtain ⟨v13, h14, H⟩ := oB H
  rcases oC H with ⟨c15, H⟩ | ⟨c15, H⟩
  ·refine sn (rg 5 false ([.res (cI v13)] ++ rg 2 false (rg 9 true []))) [] [(44, cB true)] [] [] (fun t => aG 5 c12 (aI (s_bCost_ok p0 v1.Kind v3 v13 h14) (aG 2 c12 (aG 9 c15 (t))))) ?_
   refine it rT ?_
   refine so [] [] [(10, cB false)] [] id ?_
   cases H
   exact er
  ·obtain ⟨v16, h17, H⟩ := oB H
   refine sn (rg 5 false ([.res (cI v13)] ++ rg 8 false ([.res (dc 1 eI zI v16)] ++ rg 3 false []))) [] [(44, cB (decide ((v16.length : Int) > 0)))] [] [] (fun t => aG 5 c12 (aI (s_bCost_ok p0 v1.Kind v3 v13 h14) (aG 2 c12 (aG 6 c15 (aI (s_sAt_ok p1 v3 (W (1 - v1.Side)) v16 h17) (aI c15 (lI v16 (aG 2 c15 (t))))))))) ?_
   rcases oC H with ⟨c18, H⟩ | ⟨c18, H⟩
   ·refine it c18 ?_
    refine so [] [] [(10, cB false)] [] id ?_
    cases H
    exact er
   ·refine jf c18 ?_
    refine sk ?_
    refine seq_in ?_
    obtain ⟨v22, h23, H⟩ := oB H
    refine sn [.res (cB v22)] [] [(52, cB (!v22))] [] [] (aI (s_zIn_ok p0 p1 v3 (W (1 - v1.Side)) v22 h23)) ?_
    rcases oC H with ⟨c24, H⟩ | ⟨c24, H⟩
    ·refine it c24 ?_
     refine so [] [] [(10, cB true)] [] id ?_
     cases H
     exact er
    ·refine jf c24 ?_
     refine sk ?_
     refine seq_in ?_
     obtain ⟨v25, h26, H⟩ := oB H
     refine sn [.res (dc 1 eI zI v25)] [] [(57, dc 1 eI zI v25), (58, cL v25), (59, cI 0)] [5] [] (fun t => aI (s_sAt_ok p1 v3 v1.Side v25 h26) (lI v25 (t))) ?_
     refine ends_blk ?_
     obtain ⟨y44, h45, H⟩ := oB H
     refine tl [] [(2, cI p2), (57, dc 1 eI zI v25), (58, cL v25), (59, cI 0)] [] id ?_
     refine loop_in (fun (x : Int) => lit [(2, cI p2), (57, dc 1 eI zI v25), (58, cL v25), (59, cI x)] []) (orJ (fun (z : Unit) => At (.exit 0) (lit [] [])) (fun (z : Bool) => At .ret (lit [(10, cB z)] []))) h45 ?_ ?_
     ·clear H h45
      intro x38 y0 H
      refine sn [] [] [(60, cB (decide (x38 < (v25.length : Int))))] [] [] id ?_
      refine seq_in ?_
      rcases oC H with ⟨c40, H⟩ | ⟨c40, H⟩
      ·refine it c40 ?_
       refine sk ?_
       refine seq_in ?_
       refine ends_blk ?_
       obtain ⟨v41, h42, H⟩ := oB H
       refine sn [.cs (eI v41)] [] [(14, cI v41)] [] [] (a2 eI h42) ?_
       refine sn [] [] [(65, cB (v41 != p2))] [] [] id ?_
       rcases oC H with ⟨c43, H⟩ | ⟨c43, H⟩
       ·refine it c43 ?_
        refine so [] [] [(10, cB true)] [] id ?_
        refine ends_ret ?_
        cases H
        exact rsr
       ·refine jf c43 ?_
        refine sk ?_
        refine oo [] [] [(2, cI p2), (57, dc 1 eI zI v25), (58, cL v25), (59, cI (W (x38 + 1)))] [] id ?_
        cases H
        exact rr
      ·refine jf c40 ?_
       refine tl [] [] [] id ?_
       refine ends_exit ?_
       cases H
       exact rse
     ·clear h45
      cases y44 with
      | inl y46 =>
       replace H := ofInl H
       rintro e s ⟨rfl, rfl⟩
       change EndsI _ _ _ _ _ _
       refine so [] [] [(10, cB false)] [] id ?_
       cases H
       exact er
      | inr y47 =>
       replace H := ofInr H
       rintro e s ⟨rfl, rfl⟩
       cases H
       exact qr
def s_l1Most_ir : S :=
 (sq [o 4 (.mv (iv 0))]
 (.seq (sq [om 5 0, om 6 1, o 7 (.bin .gtr (.t 5) (.t 6))]
 (.ite (.t 7) (sq [om 8 0, om 4 8]
  .ret)
 .skip))
 (sq [om 9 1, om 4 9]
 .ret)))
noncomputable def X.s_l1Most (p0 : Int) (p1 : Int) : Option Int :=
 (bif (decide (p0 > p1)) then some p0 else some p1)
theorem s_l1Most_ok (p0 : Int) (p1 : Int) (r : Int) (H : X.s_l1Most p0 p1 = some r) : FK 203 [cI p0, cI p1] (cI r) := by
 unfold X.s_l1Most at H
 refine fi Tryz.f203 s_l1Most_ir [(4, cI r)] [] glL Tryz.func203 ?_
 refine sn [] [] [] [] [] id ?_
 refine seq_in ?_
 refine sn [] [] [(7, cB (decide (p0 > p1)))] [] [] id ?_
 rcases oC H with ⟨c1, H⟩ | ⟨c1, H⟩
 ·refine it c1 ?_
  refine so [] [] [(4, cI p0)] [] id ?_
  cases H
  exact er
 ·refine jf c1 ?_
  refine sk ?_
  refine so [] [] [(4, cI p1)] [] id ?_
  cases H
  exact er
def s_l1Abs_ir : S :=
 (sq [o 2 (.mv (iv 0))]
 (sq [om 3 0, om 4 0, o 5 (.neg (.t 4)), o 6 (.call 203 [.t 3, .t 5]), om 2 6]
 .ret))
noncomputable def X.s_l1Abs (p0 : Int) : Option Int :=
 ((X.s_l1Most p0 (W (0 - p0))).bind fun v1 => some v1)
theorem s_l1Abs_ok (p0 : Int) (r : Int) (H : X.s_l1Abs p0 = some r) : FK 260 [cI p0] (cI r) := by
 unfold X.s_l1Abs at H
 refine fi Tryz.f260 s_l1Abs_ir [(2, cI r)] [] glL Tryz.func260 ?_
 refine sn [] [] [] [] [] id ?_
 obtain ⟨v1, h2, H⟩ := oB H
 refine so [.res (cI v1)] [] [(2, cI v1)] [] (aI (s_l1Most_ok p0 (W (0 - p0)) v1 h2)) ?_
 cases H
 exact er
def s_hDistance_ir : S :=
 (sq [o 2 (.box 2 (.t 0)), o 3 (.box 2 (.t 1)), o 4 (.mv (iv 0))]
 (.seq (.drw [(0, 2), (1, 2), (0, 3), (1, 3), (0, 5), (1, 5), (2, 5), (3, 5), (4, 5), (0, 6), (1, 6), (2, 6), (3, 6), (4, 6), (0, 7), (1, 7), (2, 7), (3, 7), (4, 7), (5, 7), (6, 7), (0, 8), (1, 8), (2, 8), (3, 8), (4, 8), (5, 8), (6, 8), (0, 9), (1, 9), (2, 9), (3, 9), (4, 9), (5, 10), (6, 10), (7, 10), (8, 10), (9, 10)] [oa 7 0 3, ol 8 7, oa 9 0 2, ol 10 9, o 11 (.bin .sub (.t 8) (.t 10)), oa 12 1 3, ol 13 12, oa 14 1 2, ol 15 14, o 16 (.bin .sub (.t 13) (.t 15)), om 5 11, om 6 16])
 (sq [om 17 5, o 18 (.call 260 [.t 17]), om 19 6, o 20 (.call 260 [.t 19]), o 21 (.bin .add (.t 18) (.t 20)), om 22 5, om 23 6, o 24 (.bin .add (.t 22) (.t 23)), o 25 (.call 260 [.t 24]), o 26 (.bin .add (.t 21) (.t 25)), o 27 (.bin .quo (.t 26) (iv 2)), om 4 27]
 .ret)))
noncomputable def X.s_hDistance (p0 : THex) (p1 : THex) : Option Int :=
 ((X.s_l1Abs (W (p1.Q - p0.Q))).bind fun v1 => ((X.s_l1Abs (W (p1.R - p0.R))).bind fun v3 => ((X.s_l1Abs (W ((W (p1.Q - p0.Q)) + (W (p1.R - p0.R))))).bind fun v5 => some (W (Int.tdiv (W ((W (v1 + v3)) + v5)) 2)))))
theorem s_hDistance_ok (p0 : THex) (p1 : THex) (r : Int) (H : X.s_hDistance p0 p1 = some r) : FK 240 [.agg (eTHex p0), .agg (eTHex p1)] (cI r) := by
 unfold X.s_hDistance at H
 refine fi Tryz.f240 s_hDistance_ir [(4, cI r)] [] glL Tryz.func240 ?_
 refine so [] [] [(2, pk 2), (3, pk 3)] [(2, va (eTHex p0)), (3, va (eTHex p1))] id ?_
 refine sx [] [] [(5, cI (W (p1.Q - p0.Q))), (6, cI (W (p1.R - p0.R)))] [] id ?_
 obtain ⟨v1, h2, H⟩ := oB H
 obtain ⟨v3, h4, H⟩ := oB H
 obtain ⟨v5, h6, H⟩ := oB H
 refine so [.res (cI v1), .res (cI v3), .res (cI v5)] [] [(4, cI (W (Int.tdiv (W ((W (v1 + v3)) + v5)) 2)))] [] (fun t => aI (s_l1Abs_ok (W (p1.Q - p0.Q)) v1 h2) (aI (s_l1Abs_ok (W (p1.R - p0.R)) v3 h4) (aI (s_l1Abs_ok (W ((W (p1.Q - p0.Q)) + (W (p1.R - p0.R)))) v5 h6) (aI (by decide : (2 : Int) ≠ 0) (t))))) ?_
 cases H
 exact er
def s_gPaths_ir : S :=
 (sq [o 6 (.box 12 (.t 0)), o 7 (.box 3 (.t 1)), o 12 (.mv (.v (.nil)))]
 (sq [oa 18 2 7, ol 19 18, om 20 2, o 21 (.iad 4 (.t 19) (.t 20)), o 22 (.load 4 true (.t 21)), o 13 (.alloc [.int .i64 0, .int .i64 0, .int .i64 0, .int .i64 0]), os 4 13 22]
 (.seq (sq [om 23 4, o 24 (.bin .eql (.t 23) (iv 0))]
 (.ite (.t 24) (.seq (sq [o 25 (.load 12 true (.t 6)), o 26 (.load 3 true (.t 7)), oa 27 0 13, ol 28 27, om 29 3, o 30 (.call 237 [.t 25, .t 26, .t 28, .t 29])]
  (.ite (.t 30) (sq [om 31 5, o 32 (.call 238 [.t 31]), o 33 (.bsl 1 [.t 32]), om 12 33]
   .ret)
  .skip))
  (sq [o 12 (.mv (.v (.nil)))]
  .ret))
 .skip))
 (sq [o 14 (.mv (.v (.nil)))]
 (.seq (sq [o 15 (.mv (iv 0))]
 (.blk 0 (.loop (.seq (sq [om 34 15, o 35 (.bin .lss (.t 34) (iv 6))]
   (.ite (.t 35) .skip
   (.exit 0)))
   (.seq (.blk 1 (.seq (sq [o 38 (.load 12 true (.t 6)), o 39 (.load 3 true (.t 7)), om 40 2, om 41 3, om 42 15, o 43 (.call 239 [.t 38, .t 39, .t 40, .t 41, .t 42]), o 44 (.not (.t 43))]
    (.ite (.t 44) (.exit 1)
    .skip))
    (sq [oa 45 7 6, o 46 (.load 5 true (.t 45)), om 47 3, om 48 15, o 49 (.call 162 [.t 46, .t 47, .t 48]), om 16 49]
    (sq [oa 50 7 6, o 51 (.load 5 true (.t 50)), oa 52 2 13, ol 53 52, o 54 (.call 206 [.t 51, .t 53]), o 17 (.alloc [.int .i64 0, .int .i64 0]), os 2 17 54]
    (.seq (.drw [(0, 1), (0, 2), (0, 3), (1, 3), (2, 3), (0, 4), (0, 6), (1, 6), (2, 6), (3, 6), (4, 6), (5, 6), (0, 7), (1, 7), (2, 7), (3, 7), (4, 7), (5, 7), (6, 7), (0, 8), (1, 8), (2, 8), (3, 8), (4, 8), (5, 8), (6, 8), (0, 9), (1, 9), (2, 9), (3, 9), (4, 9), (5, 9), (6, 9), (7, 9), (8, 9), (6, 10)] [o 55 (.load 2 true (.t 17)), oa 56 7 6, o 57 (.load 5 true (.t 56)), om 58 16, o 59 (.call 206 [.t 57, .t 58]), o 60 (.call 240 [.t 55, .t 59]), o 61 (.load 2 true (.t 17)), oa 62 7 6, o 63 (.load 5 true (.t 62)), om 64 3, o 65 (.call 206 [.t 63, .t 64]), o 66 (.call 240 [.t 61, .t 65]), o 67 (.bin .add (.t 66) (iv 1)), o 68 (.bin .eql (.t 60) (.t 67))])
    (.ite (.t 68) (.drw [(0, 1), (0, 2), (1, 2), (0, 3), (1, 3), (2, 3), (0, 4), (1, 4), (2, 4), (3, 4), (0, 5), (1, 5), (2, 5), (3, 5), (4, 5), (0, 6), (1, 6), (2, 6), (3, 6), (4, 6), (0, 7), (1, 7), (2, 7), (3, 7), (4, 7), (5, 7), (6, 7), (0, 8), (1, 8), (2, 8), (3, 8), (4, 8), (5, 8), (6, 8), (0, 9), (1, 9), (2, 9), (3, 9), (4, 9), (5, 9), (6, 9), (7, 9), (8, 9), (0, 10), (1, 10), (2, 10), (3, 10), (4, 10), (5, 10), (6, 10), (7, 10), (8, 10), (0, 11), (1, 11), (2, 11), (3, 11), (4, 11), (5, 11), (6, 11), (0, 12)] [om 69 14, o 70 (.load 12 true (.t 6)), o 71 (.load 3 true (.t 7)), om 72 2, om 73 16, om 74 4, o 75 (.bin .sub (.t 74) (iv 1)), om 76 5, o 77 (.call 238 [.t 76]), om 78 15, o 79 (.bsl 1 [.t 78]), o 80 (.app 1 8 (.t 77) (.t 79)), o 81 (.call 202 [.t 70, .t 71, .t 72, .t 73, .t 75, .t 80]), o 82 (.app 1 24 (.t 69) (.t 81)), om 14 82])
    .skip))))))
   (.ops [om 36 15, o 37 (.bin .add (.t 36) (iv 1)), om 15 37]))))))
 (sq [om 83 14, om 12 83]
 .ret))))))
noncomputable def X.s_gPaths_Mdddddo : Nat → TBoard → TState → Int → Int → Int → (List Int) → Option ((List (List Int)) × (List Int))
 | 0, _, _, _, _, _, _ => none
 | fuel + 1, p0, p1, p2, p3, p4, p5 =>
 ((at' zTUnit p1.Units p2).bind fun v1 => (bif (p4 == 0) then ((X.s_gRoom p0 p1 v1.Side p3).bind fun v11 => (bif v11 then ((X.s_l1Own_Mo p5).bind fun v14 => (if v14.2.length = p5.length then some (([v14.1] : List (List Int)), v14.2) else none)) else some (([] : List (List Int)), p5))) else ((loop (fun (x76 : (Int × (List (List Int)) × (List Int))) => ((bif (decide (x76.1 < 6)) then ((X.s_gBack p0 p1 p2 p3 x76.1).bind fun v82 => (bif (!v82) then some (Sum.inl ((W (x76.1 + 1)), x76.2.1, x76.2.2)) else ((X.s_mNext p0.Map p3 x76.1).bind fun v85 => ((X.s_mHex p0.Map v1.At).bind fun v87 => ((X.s_mHex p0.Map v85).bind fun v89 => ((X.s_hDistance v87 v89).bind fun v91 => ((X.s_mHex p0.Map p3).bind fun v93 => ((X.s_hDistance v87 v93).bind fun v95 => (bif (v91 == (W (v95 + 1))) then ((X.s_l1Own_Mo x76.2.2).bind fun v98 => (if v98.2.length = x76.2.2.length then (if (v98.1 ++ ([x76.1] : List Int)).length ≤ LIM then ((X.s_gPaths_Mdddddo fuel p0 p1 p2 v85 (W (p4 - 1)) (v98.1 ++ ([x76.1] : List Int))).bind fun v102 => (if v102.2.length = (v98.1 ++ ([x76.1] : List Int)).length then (if (x76.2.1 ++ v102.1).length ≤ LIM then some (Sum.inl ((W (x76.1 + 1)), (x76.2.1 ++ v102.1), v98.2)) else none) else none)) else none) else none)) else some (Sum.inl ((W (x76.1 + 1)), x76.2.1, x76.2.2))))))))))) else some (Sum.inr (x76.2.1, x76.2.2))) : Option ((Int × (List (List Int)) × (List Int)) ⊕ ((List (List Int)) × (List Int))))) (0, ([] : List (List Int)), p5)).bind fun y106 => some (y106.1, y106.2))))
theorem s_gPaths_Mdddddo_ok (fuel : Nat) : ∀ (p0 : TBoard) (p1 : TState) (p2 : Int) (p3 : Int) (p4 : Int) (p5 : (List Int)) (r : ((List (List Int)) × (List Int))) (H : X.s_gPaths_Mdddddo fuel p0 p1 p2 p3 p4 p5 = some r), FnMu Tryz.prog gl 202 [.agg (eTBoard p0), .agg (eTState p1), cI p2, cI p3, cI p4, .c (.own 1000000 1 0 p5.length)] [(1000000, .arr 1 p5.length (fF eI zI p5) false)] (.c (.own 900000 1 0 r.1.length)) [(900000, .arr 1 r.1.length (fF eLI zLI r.1) false), (1000000, .arr 1 r.2.length (fF eI zI r.2) false)] := by
 induction fuel with
 | zero => intro p0 p1 p2 p3 p4 p5 r H; rw [X.s_gPaths_Mdddddo.eq_1] at H; cases H
 | succ fuel ih =>
 intro p0 p1 p2 p3 p4 p5 r H
 rw [X.s_gPaths_Mdddddo.eq_2] at H
 refine fn_mu (fn := Tryz.f202) (ir := s_gPaths_ir) (E' := [(12, ow 900000 1 r.1)]) (E1 := [(900000, ar 1 eLI zLI r.1), (1000000, ar 1 eI zI r.2)]) glL Tryz.func202 (by kernel_rfl) (by kernel_rfl) (by kernel_rfl) (by kernel_rfl) (by kernel_rfl) ?_
 refine sn [] [] [(6, pk 6), (7, pk 7)] [] [(6, va (eTBoard p0)), (7, va (eTState p1))] id ?_
 obtain ⟨v1, h2, H⟩ := oB H
 refine sn [.cs (eTUnit v1)] [] [(13, pk 13)] [] [(13, va (eTUnit v1))] (a2 eTUnit h2) ?_
 refine seq_in ?_
 refine sn [] [] [(24, cB (p4 == 0))] [] [] id ?_
 rcases oC H with ⟨c10, H⟩ | ⟨c10, H⟩
 ·refine it c10 ?_
  refine seq_in ?_
  obtain ⟨v11, h12, H⟩ := oB H
  refine sn [.res (cB v11)] [] [(30, cB v11)] [] [] (aI (s_gRoom_ok p0 p1 v1.Side p3 v11 h12)) ?_
  rcases oC H with ⟨c13, H⟩ | ⟨c13, H⟩
  ·refine it c13 ?_
   obtain ⟨v14, h15, H⟩ := oB H
   obtain ⟨g16, H⟩ := oI H
   refine so [.mu [(1000000, 1000000)] [(900000, 1002), (1000000, 1000000)] (ow 900000 1 v14.1) [(900000, ar 1 eI zI v14.1), (1000000, ar 1 eI zI v14.2)], fh eLI zLI ([v14.1] : List (List Int))] [.rel 5 v14.2.length, .rel 31 v14.2.length] [(12, ow 33 1 ([v14.1] : List (List Int)))] [(33, ar 1 eLI zLI ([v14.1] : List (List Int))), (1000000, ar 1 eI zI v14.2)] (fun t => aI (s_l1Own_Mo_ok p5 v14 h15) (aI (Nat.le_refl v14.1.length) (aI (rfl : ([v14.1] : List (List Int)).length = 1) (aI (fF_lit eLI zLI ([v14.1] : List (List Int))) (aG 2 (Eq.symm g16) (t)))))) ?_
   refine tl [.ren 33 900000] [(12, ow 900000 1 ([v14.1] : List (List Int)))] [(900000, ar 1 eLI zLI ([v14.1] : List (List Int))), (1000000, ar 1 eI zI v14.2)] id ?_
   cases H
   exact er
  ·refine jf c13 ?_
   refine sk ?_
   refine sn [] [] [(12, .c (.nil))] [6, 7, 13] [] id ?_
   refine tl [.nlo 12 900000 1 (fF eLI zLI ([] : List (List Int)))] [(12, ow 900000 1 ([] : List (List Int)))] [(900000, ar 1 eLI zLI ([] : List (List Int))), (1000000, ar 1 eI zI p5)] (aI (by decide : 0 < 1)) ?_
   cases H
   exact er
 ·refine jf c10 ?_
  refine sk ?_
  refine sn [] [] [(14, .c (.nil))] [] [] id ?_
  refine seq_in ?_
  refine sn [] [] [(15, cI 0)] [] [] id ?_
  refine ends_blk ?_
  obtain ⟨y106, h107, H⟩ := oB H
  refine tl [.nlo 14 1005 1 (fF eLI zLI ([] : List (List Int)))] [(2, cI p2), (3, cI p3), (4, cI p4), (5, ow 1000000 1 p5), (6, pk 6), (7, pk 7), (13, pk 13), (14, ow 1005 1 ([] : List (List Int))), (15, cI 0)] [(6, va (eTBoard p0)), (7, va (eTState p1)), (13, va (eTUnit v1)), (1005, ar 1 eLI zLI ([] : List (List Int))), (1000000, ar 1 eI zI p5)] (aI (by decide : 0 < 1)) ?_
  refine loop_in (fun (x : (Int × (List (List Int)) × (List Int))) => lit [(2, cI p2), (3, cI p3), (4, cI p4), (5, ow 1000000 1 x.2.2), (6, pk 6), (7, pk 7), (13, pk 13), (14, ow 1005 1 x.2.1), (15, cI x.1)] [(6, va (eTBoard p0)), (7, va (eTState p1)), (13, va (eTUnit v1)), (1005, ar 1 eLI zLI x.2.1), (1000000, ar 1 eI zI x.2.2)]) (fun (z : ((List (List Int)) × (List Int))) => At (.exit 0) (lit [(14, ow 1005 1 z.1)] [(1005, ar 1 eLI zLI z.1), (1000000, ar 1 eI zI z.2)])) h107 ?_ ?_
  ·clear H h107
   intro x76 y0 H
   refine seq_in ?_
   refine sn [] [] [(35, cB (decide (x76.1 < 6)))] [] [] id ?_
   rcases oC H with ⟨c78, H⟩ | ⟨c78, H⟩
   ·refine it c78 ?_
    refine sk ?_
    refine seq_in ?_
    refine ends_blk ?_
    refine seq_in ?_
    obtain ⟨v82, h83, H⟩ := oB H
    refine sn [.res (cB v82)] [] [(44, cB (!v82))] [] [] (aI (s_gBack_ok p0 p1 p2 p3 x76.1 v82 h83)) ?_
    rcases oC H with ⟨c84, H⟩ | ⟨c84, H⟩
    ·refine it c84 ?_
     refine ends_exit ?_
     change EndsI _ _ _ _ _ _
     refine oo [] [] [(2, cI p2), (3, cI p3), (4, cI p4), (5, ow 1000000 1 x76.2.2), (6, pk 6), (7, pk 7), (13, pk 13), (14, ow 1005 1 x76.2.1), (15, cI (W (x76.1 + 1)))] [(6, va (eTBoard p0)), (7, va (eTState p1)), (13, va (eTUnit v1)), (1005, ar 1 eLI zLI x76.2.1), (1000000, ar 1 eI zI x76.2.2)] id ?_
     cases H
     exact rr
    ·refine jf c84 ?_
     refine sk ?_
     obtain ⟨v85, h86, H⟩ := oB H
     refine sn [.res (cI v85)] [] [(16, cI v85)] [] [] (aI (s_mNext_ok p0.Map p3 x76.1 v85 h86)) ?_
     obtain ⟨v87, h88, H⟩ := oB H
     refine sn [.res (.agg (eTHex v87))] [] [(17, pk 17)] [] [(17, va (eTHex v87))] (aI (s_mHex_ok p0.Map v1.At v87 h88)) ?_
     obtain ⟨v89, h90, H⟩ := oB H
     obtain ⟨v91, h92, H⟩ := oB H
     obtain ⟨v93, h94, H⟩ := oB H
     obtain ⟨v95, h96, H⟩ := oB H
     refine xn [.res (.agg (eTHex v89)), .res (cI v91), .res (.agg (eTHex v93)), .res (cI v95)] [] [(68, cB (v91 == (W (v95 + 1))))] [] [] (fun t => aI (s_mHex_ok p0.Map v85 v89 h90) (aI trivial (aI rN (aI (s_hDistance_ok v87 v89 v91 h92) (aI trivial (aI rN (aI (s_mHex_ok p0.Map p3 v93 h94) (aI trivial (aI rN (aI (s_hDistance_ok v87 v93 v95 h96) (aI trivial (aI rN (t))))))))))))) ?_
     rcases oC H with ⟨c97, H⟩ | ⟨c97, H⟩
     ·refine it c97 ?_
      obtain ⟨v98, h99, H⟩ := oB H
      obtain ⟨g100, H⟩ := oI H
      obtain ⟨g101, H⟩ := oI H
      obtain ⟨v102, h103, H⟩ := oB H
      obtain ⟨g104, H⟩ := oI H
      obtain ⟨g105, H⟩ := oI H
      refine ox [.mu [(1000000, 1000000)] [(900000, 1008), (1000000, 1000000)] (ow 900000 1 v98.1) [(900000, ar 1 eI zI v98.1), (1000000, ar 1 eI zI v98.2)], .no, fh eI zI ([x76.1] : List Int), fh eI zI (v98.1 ++ ([x76.1] : List Int)), .mu [(80, 1000000)] [(900000, 1009), (1000000, 80)] (ow 900000 1 v102.1) [(900000, ar 1 eLI zLI v102.1), (1000000, ar 1 eI zI v102.2)], fh eLI zLI (x76.2.1 ++ v102.1)] [.rel 5 v98.2.length, .rel 76 v98.2.length, .rel 80 v102.2.length] [(2, cI p2), (3, cI p3), (4, cI p4), (5, ow 1000000 1 v98.2), (6, pk 6), (7, pk 7), (13, pk 13), (14, ow 82 1 (x76.2.1 ++ v102.1)), (15, cI x76.1)] [(6, va (eTBoard p0)), (7, va (eTState p1)), (13, va (eTUnit v1)), (82, ar 1 eLI zLI (x76.2.1 ++ v102.1)), (1000000, ar 1 eI zI v98.2)] (fun t => aI (s_l1Own_Mo_ok x76.2.2 v98 h99) (aI (rfl : ([x76.1] : List Int).length = 1) (aI rT (aI (fF_lit eI zI ([x76.1] : List Int)) (aI (Nat.le_refl (([x76.1] : List Int).length)) (aI (And.intro (Nat.le_refl v98.1.length) (And.intro (@List.length_append _ v98.1 ([x76.1] : List Int)) g101)) (aI (fF_appL eI zI v98.1 ([x76.1] : List Int)) (aI (fF_appR eI zI v98.1 ([x76.1] : List Int)) (aI (ih p0 p1 p2 v85 (W (p4 - 1)) (v98.1 ++ ([x76.1] : List Int)) v102 h103) (aI (Nat.le_refl v102.1.length) (aI (And.intro (Nat.le_refl x76.2.1.length) (And.intro (@List.length_append _ x76.2.1 v102.1) g105)) (aI (fF_appL eLI zLI x76.2.1 v102.1) (aI (fF_appR eLI zLI x76.2.1 v102.1) (aG 2 (Eq.symm g100) (aI (Eq.symm g104) (t)))))))))))))))) ?_
      change EndsI _ _ _ _ _ _
      refine oo [] [.ren 82 1005] [(2, cI p2), (3, cI p3), (4, cI p4), (5, ow 1000000 1 v98.2), (6, pk 6), (7, pk 7), (13, pk 13), (14, ow 1005 1 (x76.2.1 ++ v102.1)), (15, cI (W (x76.1 + 1)))] [(6, va (eTBoard p0)), (7, va (eTState p1)), (13, va (eTUnit v1)), (1005, ar 1 eLI zLI (x76.2.1 ++ v102.1)), (1000000, ar 1 eI zI v98.2)] id ?_
      cases H
      exact rr
     ·refine jf c97 ?_
      refine sk ?_
      refine oo [] [] [(2, cI p2), (3, cI p3), (4, cI p4), (5, ow 1000000 1 x76.2.2), (6, pk 6), (7, pk 7), (13, pk 13), (14, ow 1005 1 x76.2.1), (15, cI (W (x76.1 + 1)))] [(6, va (eTBoard p0)), (7, va (eTState p1)), (13, va (eTUnit v1)), (1005, ar 1 eLI zLI x76.2.1), (1000000, ar 1 eI zI x76.2.2)] id ?_
      cases H
      exact rr
   ·refine jf c78 ?_
    refine tl [] [(14, ow 1005 1 x76.2.1)] [(1005, ar 1 eLI zLI x76.2.1), (1000000, ar 1 eI zI x76.2.2)] id ?_
    refine ends_exit ?_
    cases H
    exact rse
  ·clear h107
   rintro e s ⟨rfl, rfl⟩
   change EndsI _ _ _ _ _ _
   refine sn [] [] [(12, ow 1005 1 y106.1)] [] [] id ?_
   refine tl [.ren 1005 900000] [(12, ow 900000 1 y106.1)] [(900000, ar 1 eLI zLI y106.1), (1000000, ar 1 eI zI y106.2)] id ?_
   cases H
   exact er
noncomputable def X.s_l1Own (p0 : (List Int)) : Option (List Int) :=
 (if (([] : List Int) ++ p0).length ≤ LIM then some (([] : List Int) ++ p0) else none)
theorem s_l1Own_Md_ok (p0 : (List Int)) (r : (List Int)) (H : X.s_l1Own p0 = some r) : FnMu Tryz.prog gl 238 [.c (dat 1 eI zI p0)] [] (.c (.own 900000 1 0 r.length)) [(900000, .arr 1 r.length (fF eI zI r) false)] := by
 unfold X.s_l1Own at H
 refine fn_mu (fn := Tryz.f238) (ir := s_l1Own_ir) (E' := [(2, ow 900000 1 r)]) (E1 := [(900000, ar 1 eI zI r)]) glL Tryz.func238 (by kernel_rfl) (by kernel_rfl) (by kernel_rfl) (by kernel_rfl) (by kernel_rfl) ?_
 refine sn [] [] [] [] [] id ?_
 obtain ⟨g1, H⟩ := oI H
 refine so [fh eI zI ([] : List Int), fh eI zI (([] : List Int) ++ p0)] [] [(2, ow 5 1 (([] : List Int) ++ p0))] [(5, ar 1 eI zI (([] : List Int) ++ p0))] (fun t => aI (rfl : ([] : List Int).length = 0) (aI (fF_lit eI zI ([] : List Int)) (aI (And.intro (Nat.le_refl (([] : List Int).length)) (And.intro (@List.length_append _ ([] : List Int) p0) g1)) (aI (fF_appL eI zI ([] : List Int) p0) (aI (fF_appR eI zI ([] : List Int) p0) (t)))))) ?_
 refine tl [.ren 5 900000] [(2, ow 900000 1 (([] : List Int) ++ p0))] [(900000, ar 1 eI zI (([] : List Int) ++ p0))] id ?_
 cases H
 exact er
noncomputable def X.s_gPaths : Nat → TBoard → TState → Int → Int → Int → (List Int) → Option (List (List Int))
 | 0, _, _, _, _, _, _ => none
 | fuel + 1, p0, p1, p2, p3, p4, p5 =>
 ((at' zTUnit p1.Units p2).bind fun v1 => (bif (p4 == 0) then ((X.s_gRoom p0 p1 v1.Side p3).bind fun v10 => (bif v10 then ((X.s_l1Own p5).bind fun v13 => some ([v13] : List (List Int))) else some ([] : List (List Int)))) else ((loop (fun (x72 : (Int × (List (List Int)))) => ((bif (decide (x72.1 < 6)) then ((X.s_gBack p0 p1 p2 p3 x72.1).bind fun v78 => (bif (!v78) then some (Sum.inl ((W (x72.1 + 1)), x72.2)) else ((X.s_mNext p0.Map p3 x72.1).bind fun v81 => ((X.s_mHex p0.Map v1.At).bind fun v83 => ((X.s_mHex p0.Map v81).bind fun v85 => ((X.s_hDistance v83 v85).bind fun v87 => ((X.s_mHex p0.Map p3).bind fun v89 => ((X.s_hDistance v83 v89).bind fun v91 => (bif (v87 == (W (v91 + 1))) then ((X.s_l1Own p5).bind fun v94 => (if (v94 ++ ([x72.1] : List Int)).length ≤ LIM then ((X.s_gPaths_Mdddddo 64 p0 p1 p2 v81 (W (p4 - 1)) (v94 ++ ([x72.1] : List Int))).bind fun v97 => (if v97.2.length = (v94 ++ ([x72.1] : List Int)).length then (if (x72.2 ++ v97.1).length ≤ LIM then some (Sum.inl ((W (x72.1 + 1)), (x72.2 ++ v97.1))) else none) else none)) else none)) else some (Sum.inl ((W (x72.1 + 1)), x72.2))))))))))) else some (Sum.inr x72.2)) : Option ((Int × (List (List Int))) ⊕ (List (List Int))))) (0, ([] : List (List Int)))).bind fun y101 => some y101)))
theorem s_gPaths_ok (fuel : Nat) : ∀ (p0 : TBoard) (p1 : TState) (p2 : Int) (p3 : Int) (p4 : Int) (p5 : (List Int)) (r : (List (List Int))) (H : X.s_gPaths fuel p0 p1 p2 p3 p4 p5 = some r), FK 202 [.agg (eTBoard p0), .agg (eTState p1), cI p2, cI p3, cI p4, .c (dat 1 eI zI p5)] (.c (dat 1 eLI zLI r)) := by
 induction fuel with
 | zero => intro p0 p1 p2 p3 p4 p5 r H; rw [X.s_gPaths.eq_1] at H; cases H
 | succ fuel ih =>
 intro p0 p1 p2 p3 p4 p5 r H
 rw [X.s_gPaths.eq_2] at H
 refine fi Tryz.f202 s_gPaths_ir [(12, dc 1 eLI zLI r)] [] glL Tryz.func202 ?_
 refine sn [] [] [(6, pk 6), (7, pk 7)] [] [(6, va (eTBoard p0)), (7, va (eTState p1))] id ?_
 obtain ⟨v1, h2, H⟩ := oB H
 refine sn [.cs (eTUnit v1)] [] [(13, pk 13)] [] [(13, va (eTUnit v1))] (a2 eTUnit h2) ?_
 refine seq_in ?_
 refine sn [] [] [(24, cB (p4 == 0))] [] [] id ?_
 rcases oC H with ⟨c9, H⟩ | ⟨c9, H⟩
 ·refine it c9 ?_
  refine seq_in ?_
  obtain ⟨v10, h11, H⟩ := oB H
  refine sn [.res (cB v10)] [] [(30, cB v10)] [] [] (aI (s_gRoom_ok p0 p1 v1.Side p3 v10 h11)) ?_
  rcases oC H with ⟨c12, H⟩ | ⟨c12, H⟩
  ·refine it c12 ?_
   obtain ⟨v13, h14, H⟩ := oB H
   refine so [.mu [] [(900000, 1002)] (ow 900000 1 v13) [(900000, ar 1 eI zI v13)], fh eLI zLI ([v13] : List (List Int))] [] [(12, ow 33 1 ([v13] : List (List Int)))] [(33, ar 1 eLI zLI ([v13] : List (List Int)))] (fun t => aI (s_l1Own_Md_ok p5 v13 h14) (aI (Nat.le_refl v13.length) (aI (rfl : ([v13] : List (List Int)).length = 1) (aI (fF_lit eLI zLI ([v13] : List (List Int))) (t))))) ?_
   refine tl [.frz 12] [(12, .c (dat 1 eLI zLI ([v13] : List (List Int))))] [] (aI (Nat.le_refl (([v13] : List (List Int)).length))) ?_
   cases H
   exact er
  ·refine jf c12 ?_
   refine sk ?_
   refine so [] [] [(12, .c (.nil))] [] id ?_
   refine tl [.nld 12 1 (fF eLI zLI ([] : List (List Int)))] [(12, .c (dat 1 eLI zLI ([] : List (List Int))))] [] id ?_
   cases H
   exact er
 ·refine jf c9 ?_
  refine sk ?_
  refine sn [] [] [(14, .c (.nil))] [] [] id ?_
  refine seq_in ?_
  refine sn [] [] [(15, cI 0)] [] [] id ?_
  refine ends_blk ?_
  obtain ⟨y101, h102, H⟩ := oB H
  refine tl [.nlo 14 1005 1 (fF eLI zLI ([] : List (List Int)))] [(2, cI p2), (3, cI p3), (4, cI p4), (5, dc 1 eI zI p5), (6, pk 6), (7, pk 7), (13, pk 13), (14, ow 1005 1 ([] : List (List Int))), (15, cI 0)] [(6, va (eTBoard p0)), (7, va (eTState p1)), (13, va (eTUnit v1)), (1005, ar 1 eLI zLI ([] : List (List Int)))] (aI (by decide : 0 < 1)) ?_
  refine loop_in (fun (x : (Int × (List (List Int)))) => lit [(2, cI p2), (3, cI p3), (4, cI p4), (5, dc 1 eI zI p5), (6, pk 6), (7, pk 7), (13, pk 13), (14, ow 1005 1 x.2), (15, cI x.1)] [(6, va (eTBoard p0)), (7, va (eTState p1)), (13, va (eTUnit v1)), (1005, ar 1 eLI zLI x.2)]) (fun (z : (List (List Int))) => At (.exit 0) (lit [(14, ow 1005 1 z)] [(1005, ar 1 eLI zLI z)])) h102 ?_ ?_
  ·clear H h102
   intro x72 y0 H
   refine seq_in ?_
   refine sn [] [] [(35, cB (decide (x72.1 < 6)))] [] [] id ?_
   rcases oC H with ⟨c74, H⟩ | ⟨c74, H⟩
   ·refine it c74 ?_
    refine sk ?_
    refine seq_in ?_
    refine ends_blk ?_
    refine seq_in ?_
    obtain ⟨v78, h79, H⟩ := oB H
    refine sn [.res (cB v78)] [] [(44, cB (!v78))] [] [] (aI (s_gBack_ok p0 p1 p2 p3 x72.1 v78 h79)) ?_
    rcases oC H with ⟨c80, H⟩ | ⟨c80, H⟩
    ·refine it c80 ?_
     refine ends_exit ?_
     change EndsI _ _ _ _ _ _
     refine oo [] [] [(2, cI p2), (3, cI p3), (4, cI p4), (5, dc 1 eI zI p5), (6, pk 6), (7, pk 7), (13, pk 13), (14, ow 1005 1 x72.2), (15, cI (W (x72.1 + 1)))] [(6, va (eTBoard p0)), (7, va (eTState p1)), (13, va (eTUnit v1)), (1005, ar 1 eLI zLI x72.2)] id ?_
     cases H
     exact rr
    ·refine jf c80 ?_
     refine sk ?_
     obtain ⟨v81, h82, H⟩ := oB H
     refine sn [.res (cI v81)] [] [(16, cI v81)] [] [] (aI (s_mNext_ok p0.Map p3 x72.1 v81 h82)) ?_
     obtain ⟨v83, h84, H⟩ := oB H
     refine sn [.res (.agg (eTHex v83))] [] [(17, pk 17)] [] [(17, va (eTHex v83))] (aI (s_mHex_ok p0.Map v1.At v83 h84)) ?_
     obtain ⟨v85, h86, H⟩ := oB H
     obtain ⟨v87, h88, H⟩ := oB H
     obtain ⟨v89, h90, H⟩ := oB H
     obtain ⟨v91, h92, H⟩ := oB H
     refine xn [.res (.agg (eTHex v85)), .res (cI v87), .res (.agg (eTHex v89)), .res (cI v91)] [] [(68, cB (v87 == (W (v91 + 1))))] [] [] (fun t => aI (s_mHex_ok p0.Map v81 v85 h86) (aI trivial (aI rN (aI (s_hDistance_ok v83 v85 v87 h88) (aI trivial (aI rN (aI (s_mHex_ok p0.Map p3 v89 h90) (aI trivial (aI rN (aI (s_hDistance_ok v83 v89 v91 h92) (aI trivial (aI rN (t))))))))))))) ?_
     rcases oC H with ⟨c93, H⟩ | ⟨c93, H⟩
     ·refine it c93 ?_
      obtain ⟨v94, h95, H⟩ := oB H
      obtain ⟨g96, H⟩ := oI H
      obtain ⟨v97, h98, H⟩ := oB H
      obtain ⟨g99, H⟩ := oI H
      obtain ⟨g100, H⟩ := oI H
      refine ox [.mu [] [(900000, 1008)] (ow 900000 1 v94) [(900000, ar 1 eI zI v94)], .no, fh eI zI ([x72.1] : List Int), fh eI zI (v94 ++ ([x72.1] : List Int)), .mu [(80, 1000000)] [(900000, 1009), (1000000, 80)] (ow 900000 1 v97.1) [(900000, ar 1 eLI zLI v97.1), (1000000, ar 1 eI zI v97.2)], fh eLI zLI (x72.2 ++ v97.1)] [.rel 80 v97.2.length] [(2, cI p2), (3, cI p3), (4, cI p4), (5, dc 1 eI zI p5), (6, pk 6), (7, pk 7), (13, pk 13), (14, ow 82 1 (x72.2 ++ v97.1)), (15, cI x72.1)] [(6, va (eTBoard p0)), (7, va (eTState p1)), (13, va (eTUnit v1)), (82, ar 1 eLI zLI (x72.2 ++ v97.1))] (fun t => aI (s_l1Own_Md_ok p5 v94 h95) (aI (rfl : ([x72.1] : List Int).length = 1) (aI rT (aI (fF_lit eI zI ([x72.1] : List Int)) (aI (Nat.le_refl (([x72.1] : List Int).length)) (aI (And.intro (Nat.le_refl v94.length) (And.intro (@List.length_append _ v94 ([x72.1] : List Int)) g96)) (aI (fF_appL eI zI v94 ([x72.1] : List Int)) (aI (fF_appR eI zI v94 ([x72.1] : List Int)) (aI (s_gPaths_Mdddddo_ok 64 p0 p1 p2 v81 (W (p4 - 1)) (v94 ++ ([x72.1] : List Int)) v97 h98) (aI (Nat.le_refl v97.1.length) (aI (And.intro (Nat.le_refl x72.2.length) (And.intro (@List.length_append _ x72.2 v97.1) g100)) (aI (fF_appL eLI zLI x72.2 v97.1) (aI (fF_appR eLI zLI x72.2 v97.1) (aI (Eq.symm g99) (t))))))))))))))) ?_
      change EndsI _ _ _ _ _ _
      refine oo [] [.ren 82 1005] [(2, cI p2), (3, cI p3), (4, cI p4), (5, dc 1 eI zI p5), (6, pk 6), (7, pk 7), (13, pk 13), (14, ow 1005 1 (x72.2 ++ v97.1)), (15, cI (W (x72.1 + 1)))] [(6, va (eTBoard p0)), (7, va (eTState p1)), (13, va (eTUnit v1)), (1005, ar 1 eLI zLI (x72.2 ++ v97.1))] id ?_
      cases H
      exact rr
     ·refine jf c93 ?_
      refine sk ?_
      refine oo [] [] [(2, cI p2), (3, cI p3), (4, cI p4), (5, dc 1 eI zI p5), (6, pk 6), (7, pk 7), (13, pk 13), (14, ow 1005 1 x72.2), (15, cI (W (x72.1 + 1)))] [(6, va (eTBoard p0)), (7, va (eTState p1)), (13, va (eTUnit v1)), (1005, ar 1 eLI zLI x72.2)] id ?_
      cases H
      exact rr
   ·refine jf c74 ?_
    refine tl [] [(14, ow 1005 1 x72.2)] [(1005, ar 1 eLI zLI x72.2)] id ?_
    refine ends_exit ?_
    cases H
    exact rse
  ·clear h102
   rintro e s ⟨rfl, rfl⟩
   change EndsI _ _ _ _ _ _
   refine sn [] [] [(12, ow 1005 1 y101)] [] [] id ?_
   refine tl [.frz 12] [(12, dc 1 eLI zLI y101)] [] (aI (Nat.le_refl y101.length)) ?_
   cases H
   exact er
def s_gAll_ir : S :=
 (sq [o 4 (.box 12 (.t 0)), o 5 (.box 3 (.t 1)), o 8 (.mv (.v (.nil)))]
 (.seq (.drw [(0, 1), (0, 2), (1, 2), (0, 3), (1, 3), (2, 3), (0, 4), (1, 4), (2, 4), (0, 5), (1, 5), (2, 5), (3, 5), (4, 5), (0, 6), (1, 6), (2, 6), (0, 7), (1, 7), (2, 7), (0, 8), (1, 8), (2, 8), (0, 9), (1, 9), (2, 9), (3, 9), (4, 9), (5, 9), (6, 9), (7, 9), (8, 9)] [o 9 (.load 12 true (.t 4)), o 10 (.load 3 true (.t 5)), om 11 2, oa 12 2 5, ol 13 12, om 14 2, o 15 (.iad 4 (.t 13) (.t 14)), oa 16 2 15, ol 17 16, om 18 3, o 19 (.call 202 [.t 9, .t 10, .t 11, .t 17, .t 18, .v (.nil)]), om 8 19])
 .ret))
noncomputable def X.s_gAll (p0 : TBoard) (p1 : TState) (p2 : Int) (p3 : Int) : Option (List (List Int)) :=
 ((at' zTUnit p1.Units p2).bind fun v1 => ((X.s_gPaths 64 p0 p1 p2 v1.At p3 ([] : List Int)).bind fun v3 => some v3))
theorem s_gAll_ok (p0 : TBoard) (p1 : TState) (p2 : Int) (p3 : Int) (r : (List (List Int))) (H : X.s_gAll p0 p1 p2 p3 = some r) : FK 160 [.agg (eTBoard p0), .agg (eTState p1), cI p2, cI p3] (.c (dat 1 eLI zLI r)) := by
 unfold X.s_gAll at H
 refine fi Tryz.f160 s_gAll_ir [(8, dc 1 eLI zLI r)] [] glL Tryz.func160 ?_
 refine sn [] [] [(4, pk 4), (5, pk 5)] [] [(4, va (eTBoard p0)), (5, va (eTState p1))] id ?_
 obtain ⟨v1, h2, H⟩ := oB H
 obtain ⟨v3, h4, H⟩ := oB H
 refine sx [.cs (eTUnit v1), .res (dc 1 eLI zLI v3)] [] [(8, dc 1 eLI zLI v3)] [] (fun t => (a2 eTUnit h2 (aI rN (aI (FnOk.le2 (xs := [.agg (eTBoard p0), .agg (eTState p1), cI p2, cI v1.At, cI p3, .c (.nil)]) (s_gPaths_ok 64 p0 p1 p2 v1.At p3 ([] : List Int) v3 h4) ⟨LeD.refl _, LeD.refl _, LeD.refl _, LeD.refl _, LeD.refl _, LeD.nil 1 (fF eI zI ([] : List Int)), trivial⟩) (aG 2 rN (t)))))) ?_
 cases H
 exact er
def s_sLose_ir : S :=
 (sq [o 3 (.box 3 (.t 0))]
 (.seq (.drw [(0, 2), (1, 2), (0, 3), (1, 3), (2, 3), (0, 4), (1, 4), (2, 4), (0, 5), (1, 5), (2, 5), (3, 5), (4, 5), (0, 6), (1, 6), (2, 6), (0, 7), (1, 7), (2, 7), (0, 8), (1, 8), (2, 8), (0, 9), (1, 9), (2, 9), (3, 9), (4, 9), (5, 9), (6, 9), (7, 9), (8, 9), (0, 10), (1, 10), (2, 10), (0, 11), (1, 11), (2, 11)] [oa 6 2 3, ol 7 6, om 8 1, oa 9 2 3, ol 10 9, om 11 1, o 12 (.iad 4 (.t 10) (.t 11)), oa 13 3 12, ol 14 13, om 15 2, o 16 (.bin .sub (.t 14) (.t 15)), o 17 (.call 203 [.v (.int .i64 0), .t 16]), o 18 (.iad 4 (.t 7) (.t 8)), oa 19 3 18, os 1 19 17])
 (sq [oa 20 2 3, ol 21 20, om 22 1, o 23 (.iad 4 (.t 21) (.t 22)), oa 24 3 23, ol 25 24, o 26 (.bin .eql (.t 25) (iv 0))]
 (.ite (.t 26) (.ops [oa 27 2 3, ol 28 27, om 29 1, o 30 (.iad 4 (.t 28) (.t 29)), oa 31 2 30, ⟨none, .store 1 (.t 31) (.v (.int .i64 (-1))), none⟩])
 .skip))))
noncomputable def X.s_sLose_Modd (p0 : TState) (p1 : Int) (p2 : Int) : Option TState :=
 (if 0 ≤ p1 ∧ p1 < (p0.Units.length : Int) then ((X.s_l1Most 0 (W ((p0.Units.getD p1.toNat zTUnit).Steps - p2))).bind fun v2 => ((some (p0.Units.set p1.toNat (TUnit.mk ((p0.Units.getD p1.toNat zTUnit).Side) ((p0.Units.getD p1.toNat zTUnit).Kind) ((p0.Units.getD p1.toNat zTUnit).At) v2))).bind fun l4 => (bif ((l4.getD p1.toNat zTUnit).Steps == 0) then ((some (l4.set p1.toNat (TUnit.mk ((l4.getD p1.toNat zTUnit).Side) ((l4.getD p1.toNat zTUnit).Kind) (-1) ((l4.getD p1.toNat zTUnit).Steps)))).bind fun l7 => some (TState.mk p0.Turn p0.Weather l7)) else some (TState.mk p0.Turn p0.Weather l4)))) else none)
theorem s_sLose_Modd_ok (p0 : TState) (p1 : Int) (p2 : Int) (r : TState) (H : X.s_sLose_Modd p0 p1 p2 = some r) : FnMu Tryz.prog gl 161 [.agg [.int .i64 p0.Turn, .int .i64 p0.Weather, .own 1000000 4 0 p0.Units.length], cI p1, cI p2] [(1000000, .arr 4 p0.Units.length (fF eTUnit zTUnit p0.Units) false)] (.tup []) [(1000000, .arr 4 r.Units.length (fF eTUnit zTUnit r.Units) false)] := by
 unfold X.s_sLose_Modd at H
 refine fn_mu (fn := Tryz.f161) (ir := s_sLose_ir) (E' := []) (E1 := [(1000000, ar 4 eTUnit zTUnit r.Units)]) glL Tryz.func161 (by kernel_rfl) (by kernel_rfl) (by kernel_rfl) (by kernel_rfl) (by kernel_rfl) ?_
 refine sn [] [] [(3, pk 3)] [] [(3, .var [jI p0.Turn, jI p0.Weather, .own 1000000 4 0 p0.Units.length] false)] id ?_
 obtain ⟨g1, H⟩ := oI H
 obtain ⟨v2, h3, H⟩ := oB H
 obtain ⟨l4, h5, H⟩ := oB H
 refine xn [.no, .res (cI v2), .no, .fn 0 (fF eTUnit zTUnit l4)] [] [] [1000000] [(1000000, .arr 4 p0.Units.length (fF eTUnit zTUnit l4) false)] (fun t => aI g1 (aI (nat_lt g1) (aI rN (aI (s_l1Most_ok 0 (W ((p0.Units.getD p1.toNat zTUnit).Steps - p2)) v2 h3) (aI trivial (aI rN (aI g1 (aI rT (aI (nat_lt g1) (aI (by decide : 3 + 1 ≤ 4) (aI (fF_setN eTUnit zTUnit h5 (nat_lt g1) p0.Units.length) (t)))))))))))) ?_
 refine sn [.no] [] [(26, cB ((l4.getD p1.toNat zTUnit).Steps == 0))] [] [] (fun t => aI g1 (aI (nat_lt g1) (t))) ?_
 rcases oC H with ⟨c6, H⟩ | ⟨c6, H⟩
 ·refine it c6 ?_
  obtain ⟨l7, h8, H⟩ := oB H
  refine oo [.no, .fn 0 (fF eTUnit zTUnit l7)] [.rep 1000000 l7.length (fF eTUnit zTUnit l7)] [] [(1000000, ar 4 eTUnit zTUnit l7)] (fun t => aI g1 (aI rT (aI (nat_lt g1) (aI (by decide : 2 + 1 ≤ 4) (aI (fF_setN eTUnit zTUnit h8 (ltN h5 (nat_lt g1)) p0.Units.length) (aI (Nat.le_of_eq (by simp [lenN h8, lenN h5] : l7.length = p0.Units.length)) (aI (fun _ _ => rfl : ∀ i, i < l7.length → (fF eTUnit zTUnit l7) i = (fF eTUnit zTUnit l7) i) (t)))))))) ?_
  cases H
  exact qn
 ·refine jf c6 ?_
  refine tl [.rep 1000000 l4.length (fF eTUnit zTUnit l4)] [] [(1000000, ar 4 eTUnit zTUnit l4)] (fun t => aI (Nat.le_of_eq (by simp [lenN h5] : l4.length = p0.Units.length)) (aI (fun _ _ => rfl : ∀ i, i < l4.length → (fF eTUnit zTUnit l4) i = (fF eTUnit zTUnit l4) i) (t))) ?_
  refine ends_skip ?_
  cases H
  exact qn
def s_gRetreat_ir : S :=
 (sq [o 4 (.box 12 (.t 0)), o 5 (.box 3 (.t 1)), o 8 (.alloc [.int .i64 0, .int .i64 0, .nil]), o 9 (.mv bF)]
 (sq [o 14 (.load 3 true (.t 5)), o 15 (.call 116 [.t 14, .v (.nil)]), o 10 (.alloc [.int .i64 0, .int .i64 0, .nil]), os 3 10 15]
 (sq [o 16 (.load 12 true (.t 4)), o 17 (.load 3 true (.t 5)), om 18 2, om 19 3, o 20 (.call 160 [.t 16, .t 17, .t 18, .t 19]), om 11 20]
 (.seq (sq [om 21 11, o 22 (.len (.t 21)), o 23 (.bin .eql (.t 22) (iv 0))]
 (.ite (.t 23) (sq [o 24 (.load 3 true (.t 10)), om 25 2, o 26 (.call 161 [.t 24, .t 25, .v (.int .i64 1)])]
  (sq [o 27 (.load 3 true (.t 10)), os 3 8 27, o 9 (.mv bF)]
  .ret))
 .skip))
 (.seq (sq [om 28 11, o 29 (.iad 1 (.t 28) (iv 0)), ol 30 29, o 31 (.len (.t 30)), o 32 (.mv (iv 0))]
 (.blk 0 (.loop (sq [o 33 (.bin .lss (.t 32) (.t 31))]
   (.seq (.ite (.t 33) .skip
   (.exit 0))
   (.seq (.blk 1 (sq [o 34 (.iad 1 (.t 30) (.t 32)), ol 35 34, om 13 35]
    (.drw [(0, 2), (1, 2), (0, 3), (1, 3), (2, 3), (0, 4), (1, 4), (2, 4), (0, 5), (1, 5), (2, 5), (3, 5), (4, 5), (0, 6), (1, 6), (2, 6), (3, 6), (4, 6), (0, 7), (1, 7), (2, 7), (3, 7), (4, 7), (5, 7), (6, 7), (0, 8), (1, 8), (2, 8), (3, 8), (4, 8), (0, 9), (1, 9), (2, 9), (3, 9), (4, 9), (0, 10), (1, 10), (2, 10), (3, 10), (4, 10), (0, 11), (1, 11), (2, 11), (3, 11), (4, 11), (5, 11), (6, 11), (7, 11), (8, 11), (9, 11), (10, 11), (0, 12), (1, 12), (2, 12)] [oa 36 2 10, ol 37 36, om 38 2, oa 39 7 4, o 40 (.load 5 true (.t 39)), oa 41 2 10, ol 42 41, om 43 2, o 44 (.iad 4 (.t 42) (.t 43)), oa 45 2 44, ol 46 45, om 47 13, o 48 (.call 162 [.t 40, .t 46, .t 47]), o 49 (.iad 4 (.t 37) (.t 38)), oa 50 2 49, os 1 50 48])))
   (.ops [o 51 (.bin .add (.t 32) (iv 1)), om 32 51])))))))
 (sq [o 52 (.load 3 true (.t 10)), os 3 8 52, o 9 (.mv bT)]
 .ret))))))
noncomputable def X.s_gRetreat (p0 : TBoard) (p1 : TState) (p2 : Int) (p3 : Int) : Option (TState × Bool) :=
 ((X.s_fDo p1 ([] : List TAttempt)).bind fun v1 => ((X.s_gAll p0 p1 p2 p3).bind fun v3 => (bif ((v3.length : Int) == 0) then ((X.s_sLose_Modd v1 p2 1).bind fun v10 => (if v10.Units.length = v1.Units.length then some ((TState.mk v1.Turn v1.Weather v10.Units), false) else none)) else ((at' zLI v3 0).bind fun v13 => ((loop (fun (x34 : (Int × (List TUnit))) => ((bif (decide (x34.1 < (v13.length : Int))) then ((at' zI v13 x34.1).bind fun v37 => (if 0 ≤ p2 ∧ p2 < (x34.2.length : Int) then ((X.s_mNext p0.Map ((x34.2.getD p2.toNat zTUnit).At) v37).bind fun v40 => ((some (x34.2.set p2.toNat (TUnit.mk ((x34.2.getD p2.toNat zTUnit).Side) ((x34.2.getD p2.toNat zTUnit).Kind) v40 ((x34.2.getD p2.toNat zTUnit).Steps)))).bind fun l42 => some (Sum.inl ((W (x34.1 + 1)), l42)))) else none)) else some (Sum.inr x34.2)) : Option ((Int × (List TUnit)) ⊕ (List TUnit)))) (0, v1.Units)).bind fun y44 => some ((TState.mk v1.Turn v1.Weather y44), true))))))
theorem s_gRetreat_ok (p0 : TBoard) (p1 : TState) (p2 : Int) (p3 : Int) (r : (TState × Bool)) (H : X.s_gRetreat p0 p1 p2 p3 = some r) : FK 117 [.agg (eTBoard p0), .agg (eTState p1), cI p2, cI p3] (.tup [(true, [.int .i64 r.1.Turn, .int .i64 r.1.Weather, dat 4 eTUnit zTUnit r.1.Units]), (false, [.bool r.2])]) := by
 unfold X.s_gRetreat at H
 refine fi Tryz.f117 s_gRetreat_ir [(8, pk 8), (9, cB r.2)] [(8, va (eTState r.1))] glL Tryz.func117 ?_
 refine sn [] [] [(4, pk 4), (5, pk 5), (8, pk 8)] [] [(4, va (eTBoard p0)), (5, va (eTState p1)), (8, .var [jI 0, jI 0, .nil] false)] id ?_
 obtain ⟨v1, h2, H⟩ := oB H
 refine sn [.mu [] [(4, 1001), (900000, 1002)] (.agg [jI v1.Turn, jI v1.Weather, .own 900000 4 0 v1.Units.length]) [(4, .var [jI v1.Turn, jI v1.Weather, .own 900000 4 0 v1.Units.length] false), (900000, ar 4 eTUnit zTUnit v1.Units)]] [] [(10, pk 10)] [] [(10, .var [jI v1.Turn, jI v1.Weather, .own 1002 4 0 v1.Units.length] false), (1002, ar 4 eTUnit zTUnit v1.Units)] (aI (FnMu.le2 (xs := [.agg (eTState p1), .c (.nil)]) (s_fDo_Mdd_ok p1 ([] : List TAttempt) v1 h2) ⟨LeK.refl _, LeK.of rfl (LeD.nil 3 (fF eTAttempt zTAttempt ([] : List TAttempt))), trivial⟩)) ?_
 obtain ⟨v3, h4, H⟩ := oB H
 refine sn [.res (dc 1 eLI zLI v3)] [] [(11, dc 1 eLI zLI v3)] [] [] (aI (s_gAll_ok p0 p1 p2 p3 v3 h4)) ?_
 refine seq_in ?_
 refine sn [] [] [(23, cB ((v3.length : Int) == 0))] [5] [] (fun t => lI v3 (t)) ?_
 rcases oC H with ⟨c9, H⟩ | ⟨c9, H⟩
 ·refine it c9 ?_
  obtain ⟨v10, h11, H⟩ := oB H
  obtain ⟨g12, H⟩ := oI H
  refine sn [.mu [(1002, 1000000)] [(1000000, 1002)] (.tup []) [(1000000, ar 4 eTUnit zTUnit v10.Units)]] [.agg 24 [jI v1.Turn, jI v1.Weather, .own 1002 4 0 v10.Units.length], .relc 10 2 v10.Units.length] [] [1002, 10] [(10, .var [jI v1.Turn, jI v1.Weather, .own 1002 4 0 v10.Units.length] false), (1002, ar 4 eTUnit zTUnit v10.Units)] (fun t => aI (s_sLose_Modd_ok v1 p2 1 v10 h11) (aI (by rw [← g12] : AV.agg [jI v1.Turn, jI v1.Weather, .own 1002 4 0 v1.Units.length] = AV.agg [jI v1.Turn, jI v1.Weather, .own 1002 4 0 v10.Units.length]) (aI (Eq.symm g12) (t)))) ?_
  refine sn [] [] [(9, cB false)] [4, 8] [(8, .var [jI v1.Turn, jI v1.Weather, .own 1002 4 0 v10.Units.length] false)] id ?_
  refine tl [.frc 8 2] [(8, pk 8), (9, cB false)] [(8, .var [jI v1.Turn, jI v1.Weather, dat 4 eTUnit zTUnit v10.Units] false)] (aI (Nat.le_refl v10.Units.length)) ?_
  cases H
  exact er
 ·refine jf c9 ?_
  refine sk ?_
  refine seq_in ?_
  obtain ⟨v13, h14, H⟩ := oB H
  refine sn [.cs (eLI v13)] [] [(30, dc 1 eI zI v13), (31, cL v13), (32, cI 0)] [] [] (fun t => (a2 eLI h14 (lI v13 (t)))) ?_
  refine ends_blk ?_
  obtain ⟨y44, h45, H⟩ := oB H
  refine tl [] [(2, cI p2), (4, pk 4), (8, pk 8), (10, pk 10), (30, dc 1 eI zI v13), (31, cL v13), (32, cI 0)] [(4, va (eTBoard p0)), (8, .var [jI 0, jI 0, .nil] false), (10, .var [jI v1.Turn, jI v1.Weather, .own 1002 4 0 v1.Units.length] false), (1002, ar 4 eTUnit zTUnit v1.Units)] id ?_
  refine loop_in (fun (x : (Int × (List TUnit))) => lit [(2, cI p2), (4, pk 4), (8, pk 8), (10, pk 10), (30, dc 1 eI zI v13), (31, cL v13), (32, cI x.1)] [(4, va (eTBoard p0)), (8, .var [jI 0, jI 0, .nil] false), (10, .var [jI v1.Turn, jI v1.Weather, .own 1002 4 0 x.2.length] false), (1002, ar 4 eTUnit zTUnit x.2)]) (fun (z : (List TUnit)) => At (.exit 0) (lit [(8, pk 8), (10, pk 10)] [(8, .var [jI 0, jI 0, .nil] false), (10, .var [jI v1.Turn, jI v1.Weather, .own 1002 4 0 z.length] false), (1002, ar 4 eTUnit zTUnit z)])) h45 ?_ ?_
  ·clear H h45
   intro x34 y0 H
   refine sn [] [] [(33, cB (decide (x34.1 < (v13.length : Int))))] [] [] id ?_
   refine seq_in ?_
   rcases oC H with ⟨c36, H⟩ | ⟨c36, H⟩
   ·refine it c36 ?_
    refine sk ?_
    refine seq_in ?_
    refine ends_blk ?_
    obtain ⟨v37, h38, H⟩ := oB H
    refine sn [.cs (eI v37)] [] [(13, cI v37)] [] [] (a2 eI h38) ?_
    obtain ⟨g39, H⟩ := oI H
    obtain ⟨v40, h41, H⟩ := oB H
    obtain ⟨l42, h43, H⟩ := oB H
    refine ox [.no, .res (cI v40), .no, .fn 0 (fF eTUnit zTUnit l42)] [] [(2, cI p2), (4, pk 4), (8, pk 8), (10, pk 10), (30, dc 1 eI zI v13), (31, cL v13), (32, cI x34.1)] [(4, va (eTBoard p0)), (8, .var [jI 0, jI 0, .nil] false), (10, .var [jI v1.Turn, jI v1.Weather, .own 1002 4 0 x34.2.length] false), (1002, .arr 4 x34.2.length (fF eTUnit zTUnit l42) false)] (fun t => aI g39 (aI (nat_lt g39) (aI rN (aI (s_mNext_ok p0.Map ((x34.2.getD p2.toNat zTUnit).At) v37 v40 h41) (aI trivial (aI rN (aI g39 (aI rT (aI (nat_lt g39) (aI (by decide : 2 + 1 ≤ 4) (aI (fF_setN eTUnit zTUnit h43 (nat_lt g39) x34.2.length) (t)))))))))))) ?_
    change EndsI _ _ _ _ _ _
    refine oo [] [.relc 10 2 l42.length, .rep 1002 l42.length (fF eTUnit zTUnit l42)] [(2, cI p2), (4, pk 4), (8, pk 8), (10, pk 10), (30, dc 1 eI zI v13), (31, cL v13), (32, cI (W (x34.1 + 1)))] [(4, va (eTBoard p0)), (8, .var [jI 0, jI 0, .nil] false), (10, .var [jI v1.Turn, jI v1.Weather, .own 1002 4 0 l42.length] false), (1002, ar 4 eTUnit zTUnit l42)] (fun t => aI (by simp [lenN h43] : x34.2.length = l42.length) (aI (Nat.le_of_eq (by simp [lenN h43] : l42.length = x34.2.length)) (aI (fun _ _ => rfl : ∀ i, i < l42.length → (fF eTUnit zTUnit l42) i = (fF eTUnit zTUnit l42) i) (t)))) ?_
    cases H
    exact rr
   ·refine jf c36 ?_
    refine tl [] [(8, pk 8), (10, pk 10)] [(8, .var [jI 0, jI 0, .nil] false), (10, .var [jI v1.Turn, jI v1.Weather, .own 1002 4 0 x34.2.length] false), (1002, ar 4 eTUnit zTUnit x34.2)] id ?_
    refine ends_exit ?_
    cases H
    exact rse
  ·clear h45
   rintro e s ⟨rfl, rfl⟩
   change EndsI _ _ _ _ _ _
   refine sn [] [] [(9, cB true)] [8] [(8, .var [jI v1.Turn, jI v1.Weather, .own 1002 4 0 y44.length] false)] id ?_
   refine tl [.frc 8 2] [(8, pk 8), (9, cB true)] [(8, .var [jI v1.Turn, jI v1.Weather, dat 4 eTUnit zTUnit y44] false)] (aI (Nat.le_refl y44.length)) ?_
   cases H
   exact er
end Go.Proofs.YtjlabdoeiphegaaGreatDoor.X0
