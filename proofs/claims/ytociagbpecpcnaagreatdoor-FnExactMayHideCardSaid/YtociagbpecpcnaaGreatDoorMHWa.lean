/- What each Go function that FnExactMayHide reaches computes, and that it returns so; no condition. -/
import Derived.Test.YtociagbpecpcnaaGreatDoorProg
import Derived.Test.YtociagbpecpcnaaGreatDoorAmCore3
set_option linter.unusedVariables false
set_option linter.unusedSimpArgs false
set_option maxRecDepth 100000
namespace Go.Proofs.YtociagbpecpcnaaGreatDoor.X0
open Go Go.RowKit Go.Proofs.YtociagbpecpcnaaGreatDoor.Ab Go.Proofs

def zI : Int := 0
def zB : Bool := false
def zS : List UInt8 := []
def eI (x : Int) : List AC := [.int .i64 x]
def eU (x : Int) : List AC := [.int .u8 x]
def eB (x : Bool) : List AC := [.bool x]
def eS (x : List UInt8) : List AC := [.str x]
def zLI : List Int := []
def eLI (xs : List Int) : List AC := [dat 1 eI zI xs]
theorem nLI : LeR [.nil] (eLI zLI) := And.intro (LeC.nil 1 _) trivial
structure TTerrain where
  Name : (List UInt8)
  Cost : (List Int)
  Shift : Int
  Height : Int
  Blocks : Bool

def zTTerrain : TTerrain := ⟨zS, zLI, zI, zI, zB⟩
def eTTerrain (x : TTerrain) : List AC := [.str x.Name, dat 1 eI zI x.Cost, .int .i64 x.Shift, .int .i64 x.Height, .bool x.Blocks]
def eTTerrainF (x : TTerrain) : List AC := [.str x.Name, .fr (dat 1 eI zI x.Cost), .int .i64 x.Shift, .int .i64 x.Height, .bool x.Blocks]
theorem nTTerrainF : LeR [.str [], .nil, .int .i64 0, .int .i64 0, .bool false] (eTTerrainF zTTerrain) := And.intro (LeC.refl _) (And.intro (LeC.nilfr 1 _) (And.intro (LeC.refl _) (And.intro (LeC.refl _) (And.intro (LeC.refl _) (trivial)))))
theorem nTTerrain : LeR [.str [], .nil, .int .i64 0, .int .i64 0, .bool false] (eTTerrain zTTerrain) := And.intro (LeC.refl _) (And.intro (LeC.nil 1 _) (And.intro (LeC.refl _) (And.intro (LeC.refl _) (And.intro (LeC.refl _) (trivial)))))
def zLTTerrain : List TTerrain := []
def eLTTerrain (xs : List TTerrain) : List AC := [dat 5 eTTerrain zTTerrain xs]
theorem nLTTerrain : LeR [.nil] (eLTTerrain zLTTerrain) := And.intro (LeC.nil 5 _) trivial
structure TKind where
  Name : (List UInt8)
  Strength : Int
  Moves : Int
  Steps : Int
  Zone : Bool
  View : Int

def zTKind : TKind := ⟨zS, zI, zI, zI, zB, zI⟩
def eTKind (x : TKind) : List AC := [.str x.Name, .int .i64 x.Strength, .int .i64 x.Moves, .int .i64 x.Steps, .bool x.Zone, .int .i64 x.View]
def zLTKind : List TKind := []
def eLTKind (xs : List TKind) : List AC := [dat 6 eTKind zTKind xs]
theorem nLTKind : LeR [.nil] (eLTKind zLTKind) := And.intro (LeC.nil 6 _) trivial
structure TRules where
  Terrains : (List TTerrain)
  Kinds : (List TKind)
  Stack : Int
  River : Int
  Road : Int
  Supply : Int
  Turns : Int

def zTRules : TRules := ⟨zLTTerrain, zLTKind, zI, zI, zI, zI, zI⟩
def eTRules (x : TRules) : List AC := [dat 5 eTTerrain zTTerrain x.Terrains, dat 6 eTKind zTKind x.Kinds, .int .i64 x.Stack, .int .i64 x.River, .int .i64 x.Road, .int .i64 x.Supply, .int .i64 x.Turns]
theorem nTRules : LeR [.nil, .nil, .int .i64 0, .int .i64 0, .int .i64 0, .int .i64 0, .int .i64 0] (eTRules zTRules) := And.intro (LeC.nil 5 _) (And.intro (LeC.nil 6 _) (And.intro (LeC.refl _) (And.intro (LeC.refl _) (And.intro (LeC.refl _) (And.intro (LeC.refl _) (And.intro (LeC.refl _) (trivial)))))))
structure TMap where
  Width : Int
  Height : Int
  Terrain : (List Int)
  Rivers : (List Int)
  Roads : (List Int)

def zTMap : TMap := ⟨zI, zI, zLI, zLI, zLI⟩
def eTMap (x : TMap) : List AC := [.int .i64 x.Width, .int .i64 x.Height, dat 1 eI zI x.Terrain, dat 1 eI zI x.Rivers, dat 1 eI zI x.Roads]
theorem nTMap : LeR [.int .i64 0, .int .i64 0, .nil, .nil, .nil] (eTMap zTMap) := And.intro (LeC.refl _) (And.intro (LeC.refl _) (And.intro (LeC.nil 1 _) (And.intro (LeC.nil 1 _) (And.intro (LeC.nil 1 _) (trivial)))))
structure TBoard where
  Rules : TRules
  Map : TMap

def zTBoard : TBoard := ⟨zTRules, zTMap⟩
def eTBoard (x : TBoard) : List AC := [dat 5 eTTerrain zTTerrain x.Rules.Terrains, dat 6 eTKind zTKind x.Rules.Kinds, .int .i64 x.Rules.Stack, .int .i64 x.Rules.River, .int .i64 x.Rules.Road, .int .i64 x.Rules.Supply, .int .i64 x.Rules.Turns, .int .i64 x.Map.Width, .int .i64 x.Map.Height, dat 1 eI zI x.Map.Terrain, dat 1 eI zI x.Map.Rivers, dat 1 eI zI x.Map.Roads]
theorem nTBoard : LeR [.nil, .nil, .int .i64 0, .int .i64 0, .int .i64 0, .int .i64 0, .int .i64 0, .int .i64 0, .int .i64 0, .nil, .nil, .nil] (eTBoard zTBoard) := And.intro (LeC.nil 5 _) (And.intro (LeC.nil 6 _) (And.intro (LeC.refl _) (And.intro (LeC.refl _) (And.intro (LeC.refl _) (And.intro (LeC.refl _) (And.intro (LeC.refl _) (And.intro (LeC.refl _) (And.intro (LeC.refl _) (And.intro (LeC.nil 1 _) (And.intro (LeC.nil 1 _) (And.intro (LeC.nil 1 _) (trivial))))))))))))
structure TUnit where
  Side : Int
  Kind : Int
  At : Int
  Steps : Int

def zTUnit : TUnit := ⟨zI, zI, zI, zI⟩
def eTUnit (x : TUnit) : List AC := [.int .i64 x.Side, .int .i64 x.Kind, .int .i64 x.At, .int .i64 x.Steps]
def zLTUnit : List TUnit := []
def eLTUnit (xs : List TUnit) : List AC := [dat 4 eTUnit zTUnit xs]
theorem nLTUnit : LeR [.nil] (eLTUnit zLTUnit) := And.intro (LeC.nil 4 _) trivial
structure TView where
  Side : Int
  Turn : Int
  Weather : Int
  Seen : (List Int)
  Own : (List TUnit)
  Enemies : (List TUnit)

def zTView : TView := ⟨zI, zI, zI, zLI, zLTUnit, zLTUnit⟩
def eTView (x : TView) : List AC := [.int .i64 x.Side, .int .i64 x.Turn, .int .i64 x.Weather, dat 1 eI zI x.Seen, dat 4 eTUnit zTUnit x.Own, dat 4 eTUnit zTUnit x.Enemies]
theorem nTView : LeR [.int .i64 0, .int .i64 0, .int .i64 0, .nil, .nil, .nil] (eTView zTView) := And.intro (LeC.refl _) (And.intro (LeC.refl _) (And.intro (LeC.refl _) (And.intro (LeC.nil 1 _) (And.intro (LeC.nil 4 _) (And.intro (LeC.nil 4 _) (trivial))))))
structure THex where
  Q : Int
  R : Int

def zTHex : THex := ⟨zI, zI⟩
def eTHex (x : THex) : List AC := [.int .i64 x.Q, .int .i64 x.R]
theorem shI (x : Int) : Shps (eI x) := .cons (.int _ _) .nil
theorem shU (x : Int) : Shps (eU x) := .cons (.int _ _) .nil
theorem shB (x : Bool) : Shps (eB x) := .cons (.bool _) .nil
theorem shS (x : List UInt8) : Shps (eS x) := .cons (.str _) .nil
theorem shLI (x : List Int) : Shps (eLI x) := (.cons (.dat shI) .nil)
theorem shTTerrain (x : TTerrain) : Shps (eTTerrain x) := (.cons (.str _) (.cons (.dat shI) (.cons (.int _ _) (.cons (.int _ _) (.cons (.bool _) .nil)))))
theorem shLTTerrain (x : List TTerrain) : Shps (eLTTerrain x) := (.cons (.dat shTTerrain) .nil)
theorem shTKind (x : TKind) : Shps (eTKind x) := (.cons (.str _) (.cons (.int _ _) (.cons (.int _ _) (.cons (.int _ _) (.cons (.bool _) (.cons (.int _ _) .nil))))))
theorem shLTKind (x : List TKind) : Shps (eLTKind x) := (.cons (.dat shTKind) .nil)
theorem shTRules (x : TRules) : Shps (eTRules x) := (.cons (.dat shTTerrain) (.cons (.dat shTKind) (.cons (.int _ _) (.cons (.int _ _) (.cons (.int _ _) (.cons (.int _ _) (.cons (.int _ _) .nil)))))))
theorem shTMap (x : TMap) : Shps (eTMap x) := (.cons (.int _ _) (.cons (.int _ _) (.cons (.dat shI) (.cons (.dat shI) (.cons (.dat shI) .nil)))))
theorem shTBoard (x : TBoard) : Shps (eTBoard x) := (.cons (.dat shTTerrain) (.cons (.dat shTKind) (.cons (.int _ _) (.cons (.int _ _) (.cons (.int _ _) (.cons (.int _ _) (.cons (.int _ _) (.cons (.int _ _) (.cons (.int _ _) (.cons (.dat shI) (.cons (.dat shI) (.cons (.dat shI) .nil))))))))))))
theorem shTUnit (x : TUnit) : Shps (eTUnit x) := (.cons (.int _ _) (.cons (.int _ _) (.cons (.int _ _) (.cons (.int _ _) .nil))))
theorem shLTUnit (x : List TUnit) : Shps (eLTUnit x) := (.cons (.dat shTUnit) .nil)
theorem shTView (x : TView) : Shps (eTView x) := (.cons (.int _ _) (.cons (.int _ _) (.cons (.int _ _) (.cons (.dat shI) (.cons (.dat shTUnit) (.cons (.dat shTUnit) .nil))))))
theorem shTHex (x : THex) : Shps (eTHex x) := (.cons (.int _ _) (.cons (.int _ _) .nil))
def dirs : List THex := [⟨1, 0⟩, ⟨1, -1⟩, ⟨0, -1⟩, ⟨-1, 0⟩, ⟨-1, 1⟩, ⟨0, 1⟩]
def gl : Nat → Option (List AC) := fun g => match g with | 0 => some (dirs.flatMap eTHex) | _ => none
theorem dirs_at {i : Int} {v : THex} (h : at' zTHex dirs i = some v) : ((dirs.flatMap eTHex).drop (0 + i.toNat * 2)).take 2 = eTHex v := arr_at (fun _ => rfl) h
theorem glL : gl LAW = none := rfl
theorem glTs : ∀ g cs, gl g = some cs → glT gl g = some cs := glT_sub glL
theorem glTn : glT gl LAW ≠ none := by simp [glT]
theorem glTp : ∀ g cs, glT gl g = some cs → Shps cs := glT_shp fun g cs h => by
  unfold gl at h
  split at h
  · cases h; intro c hc; obtain ⟨x, _, hx⟩ := List.mem_flatMap.1 hc; exact shTHex x c hx
  · cases h

def l_szIntS_ir : S :=
 (.seq (.ops [⟨some 4, .mv (.v (.int .i64 0)), none⟩])
 (.seq (.ops [⟨some 5, .mv (.t 1), none⟩, ⟨some 6, .mv (.t 0), none⟩, ⟨some 7, .len (.t 6), none⟩, ⟨some 8, .bin .sub (.t 5) (.t 7), none⟩, ⟨some 1, .mv (.t 8), none⟩])
 (.seq (.seq (.ops [⟨some 9, .mv (.t 1), none⟩, ⟨some 10, .bin .lss (.t 9) (.v (.int .i64 0)), none⟩])
 (.ite (.t 10) (.seq (.ops [⟨some 4, .mv (.v (.int .i64 (-1))), none⟩])
  .ret)
 .skip))
 (.seq (.ops [⟨some 11, .mv (.t 1), none⟩, ⟨some 4, .mv (.t 11), none⟩])
 .ret))))
noncomputable def X.l_szIntS (p0 : (List Int)) (p1 : Int) : Option Int :=
  (bif (decide ((W (p1 - (p0.length : Int))) < 0)) then some (-1) else some (W (p1 - (p0.length : Int))))
theorem l_szIntS_ok (p0 : (List Int)) (p1 : Int) (r : Int) (H : X.l_szIntS p0 p1 = some r) : FnOk Tryz.prog gl 79 [.c (dat 1 eI zI p0), cI p1] (cI r) := by
  unfold X.l_szIntS at H
  refine fn_in (fn := Tryz.f79) (ir := l_szIntS_ir) (s1 := lit [(4, cI r)] []) glL Tryz.func79 (by kernel_rfl) (by kernel_rfl) (by kernel_rfl) (by kernel_rfl) (by kernel_rfl) ?_
  refine seq_ops [] [] [(0, .c (dat 1 eI zI p0)), (1, cI p1)] [] (fun t => t) (by kernel_rfl) ?_
  refine seq_ops [] [] [(1, cI (W (p1 - (p0.length : Int))))] [] (fun t => lI p0 (t)) (by kernel_rfl) ?_
  refine seq_in ?_
  refine seq_ops [] [] [(1, cI (W (p1 - (p0.length : Int)))), (10, cB (decide ((W (p1 - (p0.length : Int))) < 0)))] [] (fun t => t) (by kernel_rfl) ?_
  rcases ofCond H with ⟨c1, H⟩ | ⟨c1, H⟩
  · refine ite_t c1 (by kernel_rfl) ?_
    refine seq_ops [] [] [(4, cI (-1))] [] (fun t => t) (by kernel_rfl) ?_
    refine ends_ret ?_
    obtain rfl := Option.some.inj H
    exact And.intro (.inl rfl) rfl
  · refine ite_f c1 (by kernel_rfl) ?_
    refine ends_skip ?_
    change EndsI _ _ _ _ _ _
    refine seq_ops [] [] [(4, cI (W (p1 - (p0.length : Int))))] [] (fun t => t) (by kernel_rfl) ?_
    refine ends_ret ?_
    obtain rfl := Option.some.inj H
    exact And.intro (.inl rfl) rfl

def l_szTerrain_ir : S :=
 (.seq (.ops [⟨some 2, .box 5 (.t 0), none⟩, ⟨some 4, .mv (.v (.int .i64 0)), none⟩])
 (.seq (.ops [⟨some 5, .mv (.t 1), none⟩, ⟨some 6, .fad 0 (.t 2), none⟩, ⟨some 7, .load 1 false (.t 6), none⟩, ⟨some 8, .lens (.t 7), none⟩, ⟨some 9, .bin .sub (.t 5) (.t 8), none⟩, ⟨some 1, .mv (.t 9), none⟩])
 (.seq (.seq (.ops [⟨some 10, .mv (.t 1), none⟩, ⟨some 11, .bin .lss (.t 10) (.v (.int .i64 0)), none⟩])
 (.ite (.t 11) (.seq (.ops [⟨some 4, .mv (.v (.int .i64 (-1))), none⟩])
  .ret)
 .skip))
 (.seq (.ops [⟨some 12, .fad 1 (.t 2), none⟩, ⟨some 13, .load 1 false (.t 12), none⟩, ⟨some 14, .mv (.t 1), none⟩, ⟨some 15, .call 79 [.t 13, .t 14], none⟩, ⟨some 1, .mv (.t 15), none⟩])
 (.seq (.seq (.ops [⟨some 16, .mv (.t 1), none⟩, ⟨some 17, .bin .lss (.t 16) (.v (.int .i64 0)), none⟩])
 (.ite (.t 17) (.seq (.ops [⟨some 4, .mv (.v (.int .i64 (-1))), none⟩])
  .ret)
 .skip))
 (.seq (.ops [⟨some 18, .mv (.t 1), none⟩, ⟨some 4, .mv (.t 18), none⟩])
 .ret))))))
noncomputable def X.l_szTerrain (p0 : TTerrain) (p1 : Int) : Option Int :=
  (bif (decide ((W (p1 - (p0.Name.length : Int))) < 0)) then some (-1) else ((X.l_szIntS p0.Cost (W (p1 - (p0.Name.length : Int)))).bind fun v3 => (bif (decide (v3 < 0)) then some (-1) else some v3)))
theorem l_szTerrain_ok (p0 : TTerrain) (p1 : Int) (r : Int) (H : X.l_szTerrain p0 p1 = some r) : FnOk Tryz.prog gl 175 [.agg (eTTerrain p0), cI p1] (cI r) := by
  unfold X.l_szTerrain at H
  refine fn_in (fn := Tryz.f175) (ir := l_szTerrain_ir) (s1 := lit [(4, cI r)] []) glL Tryz.func175 (by kernel_rfl) (by kernel_rfl) (by kernel_rfl) (by kernel_rfl) (by kernel_rfl) ?_
  refine seq_ops [] [] [(1, cI p1), (2, .c (.pk 2 0))] [(2, .var (eTTerrain p0) false)] (fun t => t) (by kernel_rfl) ?_
  refine seq_ops [] [] [(1, cI (W (p1 - (p0.Name.length : Int)))), (2, .c (.pk 2 0))] [(2, .var (eTTerrain p0) false)] (fun t => t) (by kernel_rfl) ?_
  refine seq_in ?_
  refine seq_ops [] [] [(1, cI (W (p1 - (p0.Name.length : Int)))), (2, .c (.pk 2 0)), (11, cB (decide ((W (p1 - (p0.Name.length : Int))) < 0)))] [(2, .var (eTTerrain p0) false)] (fun t => t) (by kernel_rfl) ?_
  rcases ofCond H with ⟨c2, H⟩ | ⟨c2, H⟩
  · refine ite_t c2 (by kernel_rfl) ?_
    refine seq_ops [] [] [(4, cI (-1))] [] (fun t => t) (by kernel_rfl) ?_
    refine ends_ret ?_
    obtain rfl := Option.some.inj H
    exact And.intro (.inl rfl) rfl
  · refine ite_f c2 (by kernel_rfl) ?_
    refine ends_skip ?_
    change EndsI _ _ _ _ _ _
    obtain ⟨v3, h4, H⟩ := ofBind H
    refine seq_ops [.res (cI v3)] [] [(1, cI v3)] [] (fun t => aI (l_szIntS_ok p0.Cost (W (p1 - (p0.Name.length : Int))) v3 h4) (t)) (by kernel_rfl) ?_
    refine seq_in ?_
    refine seq_ops [] [] [(1, cI v3), (17, cB (decide (v3 < 0)))] [] (fun t => t) (by kernel_rfl) ?_
    rcases ofCond H with ⟨c5, H⟩ | ⟨c5, H⟩
    · refine ite_t c5 (by kernel_rfl) ?_
      refine seq_ops [] [] [(4, cI (-1))] [] (fun t => t) (by kernel_rfl) ?_
      refine ends_ret ?_
      obtain rfl := Option.some.inj H
      exact And.intro (.inl rfl) rfl
    · refine ite_f c5 (by kernel_rfl) ?_
      refine ends_skip ?_
      change EndsI _ _ _ _ _ _
      refine seq_ops [] [] [(4, cI v3)] [] (fun t => t) (by kernel_rfl) ?_
      refine ends_ret ?_
      obtain rfl := Option.some.inj H
      exact And.intro (.inl rfl) rfl

def l_szTerrainS_ir : S :=
 (.seq (.ops [⟨some 4, .mv (.v (.int .i64 0)), none⟩])
 (.seq (.ops [⟨some 6, .mv (.t 1), none⟩, ⟨some 7, .mv (.t 0), none⟩, ⟨some 8, .len (.t 7), none⟩, ⟨some 9, .bin .sub (.t 6) (.t 8), none⟩, ⟨some 1, .mv (.t 9), none⟩])
 (.seq (.seq (.ops [⟨some 10, .mv (.t 1), none⟩, ⟨some 11, .bin .lss (.t 10) (.v (.int .i64 0)), none⟩])
 (.ite (.t 11) (.seq (.ops [⟨some 4, .mv (.v (.int .i64 (-1))), none⟩])
  .ret)
 .skip))
 (.seq (.seq (.ops [⟨some 5, .mv (.v (.int .i64 0)), none⟩])
 (.blk 0 (.loop (.seq (.seq (.ops [⟨some 12, .mv (.t 5), none⟩, ⟨some 13, .mv (.t 0), none⟩, ⟨some 14, .len (.t 13), none⟩, ⟨some 15, .bin .lss (.t 12) (.t 14), none⟩])
   (.ite (.t 15) .skip
   (.exit 0)))
   (.seq (.blk 1 (.seq (.ops [⟨some 18, .mv (.t 0), none⟩, ⟨some 19, .mv (.t 5), none⟩, ⟨some 20, .iad 5 (.t 18) (.t 19), none⟩, ⟨some 21, .load 5 true (.t 20), none⟩, ⟨some 22, .mv (.t 1), none⟩, ⟨some 23, .call 175 [.t 21, .t 22], none⟩, ⟨some 1, .mv (.t 23), none⟩])
    (.seq (.ops [⟨some 24, .mv (.t 1), none⟩, ⟨some 25, .bin .lss (.t 24) (.v (.int .i64 0)), none⟩])
    (.ite (.t 25) (.seq (.ops [⟨some 4, .mv (.v (.int .i64 (-1))), none⟩])
     .ret)
    .skip))))
   (.ops [⟨some 16, .mv (.t 5), none⟩, ⟨some 17, .bin .add (.t 16) (.v (.int .i64 1)), none⟩, ⟨some 5, .mv (.t 17), none⟩]))))))
 (.seq (.ops [⟨some 26, .mv (.t 1), none⟩, ⟨some 4, .mv (.t 26), none⟩])
 .ret)))))
noncomputable def X.l_szTerrainS (p0 : (List TTerrain)) (p1 : Int) : Option Int :=
  (bif (decide ((W (p1 - (p0.length : Int))) < 0)) then some (-1) else ((loop (fun (x18 : (Int × Int)) => ((bif (decide (x18.2 < (p0.length : Int))) then ((at' zTTerrain p0 x18.2).bind fun v21 => ((X.l_szTerrain v21 x18.1).bind fun v23 => (bif (decide (v23 < 0)) then some (Sum.inr (Sum.inr (-1))) else some (Sum.inl (v23, (W (x18.2 + 1))))))) else some (Sum.inr (Sum.inl x18.1))) : Option ((Int × Int) ⊕ (Int ⊕ Int)))) ((W (p1 - (p0.length : Int))), 0)).bind fun y26 => (Sum.elim (fun (y28 : Int) => some y28) (fun (y29 : Int) => some y29) y26)))
theorem l_szTerrainS_ok (p0 : (List TTerrain)) (p1 : Int) (r : Int) (H : X.l_szTerrainS p0 p1 = some r) : FnOk Tryz.prog gl 121 [.c (dat 5 eTTerrain zTTerrain p0), cI p1] (cI r) := by
  unfold X.l_szTerrainS at H
  refine fn_in (fn := Tryz.f121) (ir := l_szTerrainS_ir) (s1 := lit [(4, cI r)] []) glL Tryz.func121 (by kernel_rfl) (by kernel_rfl) (by kernel_rfl) (by kernel_rfl) (by kernel_rfl) ?_
  refine seq_ops [] [] [(0, .c (dat 5 eTTerrain zTTerrain p0)), (1, cI p1)] [] (fun t => t) (by kernel_rfl) ?_
  refine seq_ops [] [] [(0, .c (dat 5 eTTerrain zTTerrain p0)), (1, cI (W (p1 - (p0.length : Int))))] [] (fun t => lI p0 (t)) (by kernel_rfl) ?_
  refine seq_in ?_
  refine seq_ops [] [] [(0, .c (dat 5 eTTerrain zTTerrain p0)), (1, cI (W (p1 - (p0.length : Int)))), (11, cB (decide ((W (p1 - (p0.length : Int))) < 0)))] [] (fun t => t) (by kernel_rfl) ?_
  rcases ofCond H with ⟨c2, H⟩ | ⟨c2, H⟩
  · refine ite_t c2 (by kernel_rfl) ?_
    refine seq_ops [] [] [(4, cI (-1))] [] (fun t => t) (by kernel_rfl) ?_
    refine ends_ret ?_
    obtain rfl := Option.some.inj H
    exact And.intro (.inl rfl) rfl
  · refine ite_f c2 (by kernel_rfl) ?_
    refine ends_skip ?_
    change EndsI _ _ _ _ _ _
    refine seq_in ?_
    refine seq_ops [] [] [(0, .c (dat 5 eTTerrain zTTerrain p0)), (1, cI (W (p1 - (p0.length : Int)))), (5, cI 0)] [] (fun t => t) (by kernel_rfl) ?_
    refine ends_blk ?_
    obtain ⟨y26, h27, H⟩ := ofBind H
    refine loop_in (fun (x : (Int × Int)) => lit [(0, .c (dat 5 eTTerrain zTTerrain p0)), (1, cI x.1), (5, cI x.2)] []) (orJ (fun (z : Int) => At (.exit 0) (lit [(1, cI z)] [])) (fun (z : Int) => At .ret (lit [(4, cI z)] []))) h27 ?_ ?_
    · clear H h27
      intro x18 y0 H
      refine seq_in ?_
      refine seq_ops [] [] [(0, .c (dat 5 eTTerrain zTTerrain p0)), (1, cI x18.1), (5, cI x18.2), (15, cB (decide (x18.2 < (p0.length : Int))))] [] (fun t => lI p0 (t)) (by kernel_rfl) ?_
      rcases ofCond H with ⟨c20, H⟩ | ⟨c20, H⟩
      · refine ite_t c20 (by kernel_rfl) ?_
        refine ends_skip ?_
        change EndsI _ _ _ _ _ _
        refine seq_in ?_
        refine ends_blk ?_
        obtain ⟨v21, h22, H⟩ := ofBind H
        obtain ⟨v23, h24, H⟩ := ofBind H
        refine seq_ops [.cs (eTTerrain v21), .res (cI v23)] [] [(0, .c (dat 5 eTTerrain zTTerrain p0)), (1, cI v23), (5, cI x18.2)] [] (fun t => aI (at_lt h22) (aI (at_enc (enc := eTTerrain) h22) (aI (l_szTerrain_ok v21 x18.1 v23 h24) (t)))) (by kernel_rfl) ?_
        refine seq_ops [] [] [(0, .c (dat 5 eTTerrain zTTerrain p0)), (1, cI v23), (5, cI x18.2), (25, cB (decide (v23 < 0)))] [] (fun t => t) (by kernel_rfl) ?_
        rcases ofCond H with ⟨c25, H⟩ | ⟨c25, H⟩
        · refine ite_t c25 (by kernel_rfl) ?_
          refine seq_ops [] [] [(4, cI (-1))] [] (fun t => t) (by kernel_rfl) ?_
          refine ends_ret ?_
          obtain rfl := Option.some.inj H
          exact And.intro (by simp) (And.intro rfl rfl)
        · refine ite_f c25 (by kernel_rfl) ?_
          refine ends_skip ?_
          change EndsI _ _ _ _ _ _
          refine one_ops [] [] [(0, .c (dat 5 eTTerrain zTTerrain p0)), (1, cI v23), (5, cI (W (x18.2 + 1)))] [] (fun t => t) (by kernel_rfl) ?_
          obtain rfl := Option.some.inj H
          exact And.intro rfl rfl
      · refine ite_f c20 (by kernel_rfl) ?_
        refine tell [] [(1, cI x18.1)] [] (fun t => t) (by kernel_rfl) ?_
        refine ends_exit ?_
        obtain rfl := Option.some.inj H
        exact And.intro (by simp) (And.intro rfl rfl)
    · clear h27
      cases y26 with
      | inl y28 =>
        replace H := ofInl H
        intro e s q
        obtain ⟨rfl, rfl⟩ := q
        change EndsI _ _ _ _ _ _
        refine seq_ops [] [] [(4, cI y28)] [] (fun t => t) (by kernel_rfl) ?_
        refine ends_ret ?_
        obtain rfl := Option.some.inj H
        exact And.intro (.inl rfl) rfl
      | inr y29 =>
        replace H := ofInr H
        intro e s q
        obtain ⟨rfl, rfl⟩ := q
        obtain rfl := Option.some.inj H
        exact And.intro (.inl rfl) rfl

def l_szKind_ir : S :=
 (.seq (.ops [⟨some 2, .box 6 (.t 0), none⟩, ⟨some 4, .mv (.v (.int .i64 0)), none⟩])
 (.seq (.ops [⟨some 5, .mv (.t 1), none⟩, ⟨some 6, .fad 0 (.t 2), none⟩, ⟨some 7, .load 1 false (.t 6), none⟩, ⟨some 8, .lens (.t 7), none⟩, ⟨some 9, .bin .sub (.t 5) (.t 8), none⟩, ⟨some 1, .mv (.t 9), none⟩])
 (.seq (.seq (.ops [⟨some 10, .mv (.t 1), none⟩, ⟨some 11, .bin .lss (.t 10) (.v (.int .i64 0)), none⟩])
 (.ite (.t 11) (.seq (.ops [⟨some 4, .mv (.v (.int .i64 (-1))), none⟩])
  .ret)
 .skip))
 (.seq (.ops [⟨some 12, .mv (.t 1), none⟩, ⟨some 4, .mv (.t 12), none⟩])
 .ret))))
noncomputable def X.l_szKind (p0 : TKind) (p1 : Int) : Option Int :=
  (bif (decide ((W (p1 - (p0.Name.length : Int))) < 0)) then some (-1) else some (W (p1 - (p0.Name.length : Int))))
theorem l_szKind_ok (p0 : TKind) (p1 : Int) (r : Int) (H : X.l_szKind p0 p1 = some r) : FnOk Tryz.prog gl 176 [.agg (eTKind p0), cI p1] (cI r) := by
  unfold X.l_szKind at H
  refine fn_in (fn := Tryz.f176) (ir := l_szKind_ir) (s1 := lit [(4, cI r)] []) glL Tryz.func176 (by kernel_rfl) (by kernel_rfl) (by kernel_rfl) (by kernel_rfl) (by kernel_rfl) ?_
  refine seq_ops [] [] [(1, cI p1), (2, .c (.pk 2 0))] [(2, .var (eTKind p0) false)] (fun t => t) (by kernel_rfl) ?_
  refine seq_ops [] [] [(1, cI (W (p1 - (p0.Name.length : Int))))] [] (fun t => t) (by kernel_rfl) ?_
  refine seq_in ?_
  refine seq_ops [] [] [(1, cI (W (p1 - (p0.Name.length : Int)))), (11, cB (decide ((W (p1 - (p0.Name.length : Int))) < 0)))] [] (fun t => t) (by kernel_rfl) ?_
  rcases ofCond H with ⟨c1, H⟩ | ⟨c1, H⟩
  · refine ite_t c1 (by kernel_rfl) ?_
    refine seq_ops [] [] [(4, cI (-1))] [] (fun t => t) (by kernel_rfl) ?_
    refine ends_ret ?_
    obtain rfl := Option.some.inj H
    exact And.intro (.inl rfl) rfl
  · refine ite_f c1 (by kernel_rfl) ?_
    refine ends_skip ?_
    change EndsI _ _ _ _ _ _
    refine seq_ops [] [] [(4, cI (W (p1 - (p0.Name.length : Int))))] [] (fun t => t) (by kernel_rfl) ?_
    refine ends_ret ?_
    obtain rfl := Option.some.inj H
    exact And.intro (.inl rfl) rfl

def l_szKindS_ir : S :=
 (.seq (.ops [⟨some 4, .mv (.v (.int .i64 0)), none⟩])
 (.seq (.ops [⟨some 6, .mv (.t 1), none⟩, ⟨some 7, .mv (.t 0), none⟩, ⟨some 8, .len (.t 7), none⟩, ⟨some 9, .bin .sub (.t 6) (.t 8), none⟩, ⟨some 1, .mv (.t 9), none⟩])
 (.seq (.seq (.ops [⟨some 10, .mv (.t 1), none⟩, ⟨some 11, .bin .lss (.t 10) (.v (.int .i64 0)), none⟩])
 (.ite (.t 11) (.seq (.ops [⟨some 4, .mv (.v (.int .i64 (-1))), none⟩])
  .ret)
 .skip))
 (.seq (.seq (.ops [⟨some 5, .mv (.v (.int .i64 0)), none⟩])
 (.blk 0 (.loop (.seq (.seq (.ops [⟨some 12, .mv (.t 5), none⟩, ⟨some 13, .mv (.t 0), none⟩, ⟨some 14, .len (.t 13), none⟩, ⟨some 15, .bin .lss (.t 12) (.t 14), none⟩])
   (.ite (.t 15) .skip
   (.exit 0)))
   (.seq (.blk 1 (.seq (.ops [⟨some 18, .mv (.t 0), none⟩, ⟨some 19, .mv (.t 5), none⟩, ⟨some 20, .iad 6 (.t 18) (.t 19), none⟩, ⟨some 21, .load 6 true (.t 20), none⟩, ⟨some 22, .mv (.t 1), none⟩, ⟨some 23, .call 176 [.t 21, .t 22], none⟩, ⟨some 1, .mv (.t 23), none⟩])
    (.seq (.ops [⟨some 24, .mv (.t 1), none⟩, ⟨some 25, .bin .lss (.t 24) (.v (.int .i64 0)), none⟩])
    (.ite (.t 25) (.seq (.ops [⟨some 4, .mv (.v (.int .i64 (-1))), none⟩])
     .ret)
    .skip))))
   (.ops [⟨some 16, .mv (.t 5), none⟩, ⟨some 17, .bin .add (.t 16) (.v (.int .i64 1)), none⟩, ⟨some 5, .mv (.t 17), none⟩]))))))
 (.seq (.ops [⟨some 26, .mv (.t 1), none⟩, ⟨some 4, .mv (.t 26), none⟩])
 .ret)))))
noncomputable def X.l_szKindS (p0 : (List TKind)) (p1 : Int) : Option Int :=
  (bif (decide ((W (p1 - (p0.length : Int))) < 0)) then some (-1) else ((loop (fun (x18 : (Int × Int)) => ((bif (decide (x18.2 < (p0.length : Int))) then ((at' zTKind p0 x18.2).bind fun v21 => ((X.l_szKind v21 x18.1).bind fun v23 => (bif (decide (v23 < 0)) then some (Sum.inr (Sum.inr (-1))) else some (Sum.inl (v23, (W (x18.2 + 1))))))) else some (Sum.inr (Sum.inl x18.1))) : Option ((Int × Int) ⊕ (Int ⊕ Int)))) ((W (p1 - (p0.length : Int))), 0)).bind fun y26 => (Sum.elim (fun (y28 : Int) => some y28) (fun (y29 : Int) => some y29) y26)))
theorem l_szKindS_ok (p0 : (List TKind)) (p1 : Int) (r : Int) (H : X.l_szKindS p0 p1 = some r) : FnOk Tryz.prog gl 122 [.c (dat 6 eTKind zTKind p0), cI p1] (cI r) := by
  unfold X.l_szKindS at H
  refine fn_in (fn := Tryz.f122) (ir := l_szKindS_ir) (s1 := lit [(4, cI r)] []) glL Tryz.func122 (by kernel_rfl) (by kernel_rfl) (by kernel_rfl) (by kernel_rfl) (by kernel_rfl) ?_
  refine seq_ops [] [] [(0, .c (dat 6 eTKind zTKind p0)), (1, cI p1)] [] (fun t => t) (by kernel_rfl) ?_
  refine seq_ops [] [] [(0, .c (dat 6 eTKind zTKind p0)), (1, cI (W (p1 - (p0.length : Int))))] [] (fun t => lI p0 (t)) (by kernel_rfl) ?_
  refine seq_in ?_
  refine seq_ops [] [] [(0, .c (dat 6 eTKind zTKind p0)), (1, cI (W (p1 - (p0.length : Int)))), (11, cB (decide ((W (p1 - (p0.length : Int))) < 0)))] [] (fun t => t) (by kernel_rfl) ?_
  rcases ofCond H with ⟨c2, H⟩ | ⟨c2, H⟩
  · refine ite_t c2 (by kernel_rfl) ?_
    refine seq_ops [] [] [(4, cI (-1))] [] (fun t => t) (by kernel_rfl) ?_
    refine ends_ret ?_
    obtain rfl := Option.some.inj H
    exact And.intro (.inl rfl) rfl
  · refine ite_f c2 (by kernel_rfl) ?_
    refine ends_skip ?_
    change EndsI _ _ _ _ _ _
    refine seq_in ?_
    refine seq_ops [] [] [(0, .c (dat 6 eTKind zTKind p0)), (1, cI (W (p1 - (p0.length : Int)))), (5, cI 0)] [] (fun t => t) (by kernel_rfl) ?_
    refine ends_blk ?_
    obtain ⟨y26, h27, H⟩ := ofBind H
    refine loop_in (fun (x : (Int × Int)) => lit [(0, .c (dat 6 eTKind zTKind p0)), (1, cI x.1), (5, cI x.2)] []) (orJ (fun (z : Int) => At (.exit 0) (lit [(1, cI z)] [])) (fun (z : Int) => At .ret (lit [(4, cI z)] []))) h27 ?_ ?_
    · clear H h27
      intro x18 y0 H
      refine seq_in ?_
      refine seq_ops [] [] [(0, .c (dat 6 eTKind zTKind p0)), (1, cI x18.1), (5, cI x18.2), (15, cB (decide (x18.2 < (p0.length : Int))))] [] (fun t => lI p0 (t)) (by kernel_rfl) ?_
      rcases ofCond H with ⟨c20, H⟩ | ⟨c20, H⟩
      · refine ite_t c20 (by kernel_rfl) ?_
        refine ends_skip ?_
        change EndsI _ _ _ _ _ _
        refine seq_in ?_
        refine ends_blk ?_
        obtain ⟨v21, h22, H⟩ := ofBind H
        obtain ⟨v23, h24, H⟩ := ofBind H
        refine seq_ops [.cs (eTKind v21), .res (cI v23)] [] [(0, .c (dat 6 eTKind zTKind p0)), (1, cI v23), (5, cI x18.2)] [] (fun t => aI (at_lt h22) (aI (at_enc (enc := eTKind) h22) (aI (l_szKind_ok v21 x18.1 v23 h24) (t)))) (by kernel_rfl) ?_
        refine seq_ops [] [] [(0, .c (dat 6 eTKind zTKind p0)), (1, cI v23), (5, cI x18.2), (25, cB (decide (v23 < 0)))] [] (fun t => t) (by kernel_rfl) ?_
        rcases ofCond H with ⟨c25, H⟩ | ⟨c25, H⟩
        · refine ite_t c25 (by kernel_rfl) ?_
          refine seq_ops [] [] [(4, cI (-1))] [] (fun t => t) (by kernel_rfl) ?_
          refine ends_ret ?_
          obtain rfl := Option.some.inj H
          exact And.intro (by simp) (And.intro rfl rfl)
        · refine ite_f c25 (by kernel_rfl) ?_
          refine ends_skip ?_
          change EndsI _ _ _ _ _ _
          refine one_ops [] [] [(0, .c (dat 6 eTKind zTKind p0)), (1, cI v23), (5, cI (W (x18.2 + 1)))] [] (fun t => t) (by kernel_rfl) ?_
          obtain rfl := Option.some.inj H
          exact And.intro rfl rfl
      · refine ite_f c20 (by kernel_rfl) ?_
        refine tell [] [(1, cI x18.1)] [] (fun t => t) (by kernel_rfl) ?_
        refine ends_exit ?_
        obtain rfl := Option.some.inj H
        exact And.intro (by simp) (And.intro rfl rfl)
    · clear h27
      cases y26 with
      | inl y28 =>
        replace H := ofInl H
        intro e s q
        obtain ⟨rfl, rfl⟩ := q
        change EndsI _ _ _ _ _ _
        refine seq_ops [] [] [(4, cI y28)] [] (fun t => t) (by kernel_rfl) ?_
        refine ends_ret ?_
        obtain rfl := Option.some.inj H
        exact And.intro (.inl rfl) rfl
      | inr y29 =>
        replace H := ofInr H
        intro e s q
        obtain ⟨rfl, rfl⟩ := q
        obtain rfl := Option.some.inj H
        exact And.intro (.inl rfl) rfl

def l_szRules_ir : S :=
 (.seq (.ops [⟨some 2, .box 7 (.t 0), none⟩, ⟨some 4, .mv (.v (.int .i64 0)), none⟩])
 (.seq (.ops [⟨some 5, .fad 0 (.t 2), none⟩, ⟨some 6, .load 1 false (.t 5), none⟩, ⟨some 7, .mv (.t 1), none⟩, ⟨some 8, .call 121 [.t 6, .t 7], none⟩, ⟨some 1, .mv (.t 8), none⟩])
 (.seq (.seq (.ops [⟨some 9, .mv (.t 1), none⟩, ⟨some 10, .bin .lss (.t 9) (.v (.int .i64 0)), none⟩])
 (.ite (.t 10) (.seq (.ops [⟨some 4, .mv (.v (.int .i64 (-1))), none⟩])
  .ret)
 .skip))
 (.seq (.ops [⟨some 11, .fad 1 (.t 2), none⟩, ⟨some 12, .load 1 false (.t 11), none⟩, ⟨some 13, .mv (.t 1), none⟩, ⟨some 14, .call 122 [.t 12, .t 13], none⟩, ⟨some 1, .mv (.t 14), none⟩])
 (.seq (.seq (.ops [⟨some 15, .mv (.t 1), none⟩, ⟨some 16, .bin .lss (.t 15) (.v (.int .i64 0)), none⟩])
 (.ite (.t 16) (.seq (.ops [⟨some 4, .mv (.v (.int .i64 (-1))), none⟩])
  .ret)
 .skip))
 (.seq (.ops [⟨some 17, .mv (.t 1), none⟩, ⟨some 4, .mv (.t 17), none⟩])
 .ret))))))
noncomputable def X.l_szRules (p0 : TRules) (p1 : Int) : Option Int :=
  ((X.l_szTerrainS p0.Terrains p1).bind fun v1 => (bif (decide (v1 < 0)) then some (-1) else ((X.l_szKindS p0.Kinds v1).bind fun v5 => (bif (decide (v5 < 0)) then some (-1) else some v5))))
theorem l_szRules_ok (p0 : TRules) (p1 : Int) (r : Int) (H : X.l_szRules p0 p1 = some r) : FnOk Tryz.prog gl 57 [.agg (eTRules p0), cI p1] (cI r) := by
  unfold X.l_szRules at H
  refine fn_in (fn := Tryz.f57) (ir := l_szRules_ir) (s1 := lit [(4, cI r)] []) glL Tryz.func57 (by kernel_rfl) (by kernel_rfl) (by kernel_rfl) (by kernel_rfl) (by kernel_rfl) ?_
  refine seq_ops [] [] [(1, cI p1), (2, .c (.pk 2 0))] [(2, .var (eTRules p0) false)] (fun t => t) (by kernel_rfl) ?_
  obtain ⟨v1, h2, H⟩ := ofBind H
  refine seq_ops [.res (cI v1)] [] [(1, cI v1), (2, .c (.pk 2 0))] [(2, .var (eTRules p0) false)] (fun t => aI (l_szTerrainS_ok p0.Terrains p1 v1 h2) (t)) (by kernel_rfl) ?_
  refine seq_in ?_
  refine seq_ops [] [] [(1, cI v1), (2, .c (.pk 2 0)), (10, cB (decide (v1 < 0)))] [(2, .var (eTRules p0) false)] (fun t => t) (by kernel_rfl) ?_
  rcases ofCond H with ⟨c4, H⟩ | ⟨c4, H⟩
  · refine ite_t c4 (by kernel_rfl) ?_
    refine seq_ops [] [] [(4, cI (-1))] [] (fun t => t) (by kernel_rfl) ?_
    refine ends_ret ?_
    obtain rfl := Option.some.inj H
    exact And.intro (.inl rfl) rfl
  · refine ite_f c4 (by kernel_rfl) ?_
    refine ends_skip ?_
    change EndsI _ _ _ _ _ _
    obtain ⟨v5, h6, H⟩ := ofBind H
    refine seq_ops [.res (cI v5)] [] [(1, cI v5)] [] (fun t => aI (l_szKindS_ok p0.Kinds v1 v5 h6) (t)) (by kernel_rfl) ?_
    refine seq_in ?_
    refine seq_ops [] [] [(1, cI v5), (16, cB (decide (v5 < 0)))] [] (fun t => t) (by kernel_rfl) ?_
    rcases ofCond H with ⟨c7, H⟩ | ⟨c7, H⟩
    · refine ite_t c7 (by kernel_rfl) ?_
      refine seq_ops [] [] [(4, cI (-1))] [] (fun t => t) (by kernel_rfl) ?_
      refine ends_ret ?_
      obtain rfl := Option.some.inj H
      exact And.intro (.inl rfl) rfl
    · refine ite_f c7 (by kernel_rfl) ?_
      refine ends_skip ?_
      change EndsI _ _ _ _ _ _
      refine seq_ops [] [] [(4, cI v5)] [] (fun t => t) (by kernel_rfl) ?_
      refine ends_ret ?_
      obtain rfl := Option.some.inj H
      exact And.intro (.inl rfl) rfl

def l_szMap_ir : S :=
 (.seq (.ops [⟨some 2, .box 5 (.t 0), none⟩, ⟨some 4, .mv (.v (.int .i64 0)), none⟩])
 (.seq (.ops [⟨some 5, .fad 2 (.t 2), none⟩, ⟨some 6, .load 1 false (.t 5), none⟩, ⟨some 7, .mv (.t 1), none⟩, ⟨some 8, .call 79 [.t 6, .t 7], none⟩, ⟨some 1, .mv (.t 8), none⟩])
 (.seq (.seq (.ops [⟨some 9, .mv (.t 1), none⟩, ⟨some 10, .bin .lss (.t 9) (.v (.int .i64 0)), none⟩])
 (.ite (.t 10) (.seq (.ops [⟨some 4, .mv (.v (.int .i64 (-1))), none⟩])
  .ret)
 .skip))
 (.seq (.ops [⟨some 11, .fad 3 (.t 2), none⟩, ⟨some 12, .load 1 false (.t 11), none⟩, ⟨some 13, .mv (.t 1), none⟩, ⟨some 14, .call 79 [.t 12, .t 13], none⟩, ⟨some 1, .mv (.t 14), none⟩])
 (.seq (.seq (.ops [⟨some 15, .mv (.t 1), none⟩, ⟨some 16, .bin .lss (.t 15) (.v (.int .i64 0)), none⟩])
 (.ite (.t 16) (.seq (.ops [⟨some 4, .mv (.v (.int .i64 (-1))), none⟩])
  .ret)
 .skip))
 (.seq (.ops [⟨some 17, .fad 4 (.t 2), none⟩, ⟨some 18, .load 1 false (.t 17), none⟩, ⟨some 19, .mv (.t 1), none⟩, ⟨some 20, .call 79 [.t 18, .t 19], none⟩, ⟨some 1, .mv (.t 20), none⟩])
 (.seq (.seq (.ops [⟨some 21, .mv (.t 1), none⟩, ⟨some 22, .bin .lss (.t 21) (.v (.int .i64 0)), none⟩])
 (.ite (.t 22) (.seq (.ops [⟨some 4, .mv (.v (.int .i64 (-1))), none⟩])
  .ret)
 .skip))
 (.seq (.ops [⟨some 23, .mv (.t 1), none⟩, ⟨some 4, .mv (.t 23), none⟩])
 .ret))))))))
noncomputable def X.l_szMap (p0 : TMap) (p1 : Int) : Option Int :=
  ((X.l_szIntS p0.Terrain p1).bind fun v1 => (bif (decide (v1 < 0)) then some (-1) else ((X.l_szIntS p0.Rivers v1).bind fun v5 => (bif (decide (v5 < 0)) then some (-1) else ((X.l_szIntS p0.Roads v5).bind fun v9 => (bif (decide (v9 < 0)) then some (-1) else some v9))))))
theorem l_szMap_ok (p0 : TMap) (p1 : Int) (r : Int) (H : X.l_szMap p0 p1 = some r) : FnOk Tryz.prog gl 58 [.agg (eTMap p0), cI p1] (cI r) := by
  unfold X.l_szMap at H
  refine fn_in (fn := Tryz.f58) (ir := l_szMap_ir) (s1 := lit [(4, cI r)] []) glL Tryz.func58 (by kernel_rfl) (by kernel_rfl) (by kernel_rfl) (by kernel_rfl) (by kernel_rfl) ?_
  refine seq_ops [] [] [(1, cI p1), (2, .c (.pk 2 0))] [(2, .var (eTMap p0) false)] (fun t => t) (by kernel_rfl) ?_
  obtain ⟨v1, h2, H⟩ := ofBind H
  refine seq_ops [.res (cI v1)] [] [(1, cI v1), (2, .c (.pk 2 0))] [(2, .var (eTMap p0) false)] (fun t => aI (l_szIntS_ok p0.Terrain p1 v1 h2) (t)) (by kernel_rfl) ?_
  refine seq_in ?_
  refine seq_ops [] [] [(1, cI v1), (2, .c (.pk 2 0)), (10, cB (decide (v1 < 0)))] [(2, .var (eTMap p0) false)] (fun t => t) (by kernel_rfl) ?_
  rcases ofCond H with ⟨c4, H⟩ | ⟨c4, H⟩
  · refine ite_t c4 (by kernel_rfl) ?_
    refine seq_ops [] [] [(4, cI (-1))] [] (fun t => t) (by kernel_rfl) ?_
    refine ends_ret ?_
    obtain rfl := Option.some.inj H
    exact And.intro (.inl rfl) rfl
  · refine ite_f c4 (by kernel_rfl) ?_
    refine ends_skip ?_
    change EndsI _ _ _ _ _ _
    obtain ⟨v5, h6, H⟩ := ofBind H
    refine seq_ops [.res (cI v5)] [] [(1, cI v5), (2, .c (.pk 2 0))] [(2, .var (eTMap p0) false)] (fun t => aI (l_szIntS_ok p0.Rivers v1 v5 h6) (t)) (by kernel_rfl) ?_
    refine seq_in ?_
    refine seq_ops [] [] [(1, cI v5), (2, .c (.pk 2 0)), (16, cB (decide (v5 < 0)))] [(2, .var (eTMap p0) false)] (fun t => t) (by kernel_rfl) ?_
    rcases ofCond H with ⟨c8, H⟩ | ⟨c8, H⟩
    · refine ite_t c8 (by kernel_rfl) ?_
      refine seq_ops [] [] [(4, cI (-1))] [] (fun t => t) (by kernel_rfl) ?_
      refine ends_ret ?_
      obtain rfl := Option.some.inj H
      exact And.intro (.inl rfl) rfl
    · refine ite_f c8 (by kernel_rfl) ?_
      refine ends_skip ?_
      change EndsI _ _ _ _ _ _
      obtain ⟨v9, h10, H⟩ := ofBind H
      refine seq_ops [.res (cI v9)] [] [(1, cI v9)] [] (fun t => aI (l_szIntS_ok p0.Roads v5 v9 h10) (t)) (by kernel_rfl) ?_
      refine seq_in ?_
      refine seq_ops [] [] [(1, cI v9), (22, cB (decide (v9 < 0)))] [] (fun t => t) (by kernel_rfl) ?_
      rcases ofCond H with ⟨c11, H⟩ | ⟨c11, H⟩
      · refine ite_t c11 (by kernel_rfl) ?_
        refine seq_ops [] [] [(4, cI (-1))] [] (fun t => t) (by kernel_rfl) ?_
        refine ends_ret ?_
        obtain rfl := Option.some.inj H
        exact And.intro (.inl rfl) rfl
      · refine ite_f c11 (by kernel_rfl) ?_
        refine ends_skip ?_
        change EndsI _ _ _ _ _ _
        refine seq_ops [] [] [(4, cI v9)] [] (fun t => t) (by kernel_rfl) ?_
        refine ends_ret ?_
        obtain rfl := Option.some.inj H
        exact And.intro (.inl rfl) rfl

def l_szBoard_ir : S :=
 (.seq (.ops [⟨some 2, .box 12 (.t 0), none⟩, ⟨some 4, .mv (.v (.int .i64 0)), none⟩])
 (.seq (.ops [⟨some 5, .fad 0 (.t 2), none⟩, ⟨some 6, .load 7 true (.t 5), none⟩, ⟨some 7, .mv (.t 1), none⟩, ⟨some 8, .call 57 [.t 6, .t 7], none⟩, ⟨some 1, .mv (.t 8), none⟩])
 (.seq (.seq (.ops [⟨some 9, .mv (.t 1), none⟩, ⟨some 10, .bin .lss (.t 9) (.v (.int .i64 0)), none⟩])
 (.ite (.t 10) (.seq (.ops [⟨some 4, .mv (.v (.int .i64 (-1))), none⟩])
  .ret)
 .skip))
 (.seq (.ops [⟨some 11, .fad 7 (.t 2), none⟩, ⟨some 12, .load 5 true (.t 11), none⟩, ⟨some 13, .mv (.t 1), none⟩, ⟨some 14, .call 58 [.t 12, .t 13], none⟩, ⟨some 1, .mv (.t 14), none⟩])
 (.seq (.seq (.ops [⟨some 15, .mv (.t 1), none⟩, ⟨some 16, .bin .lss (.t 15) (.v (.int .i64 0)), none⟩])
 (.ite (.t 16) (.seq (.ops [⟨some 4, .mv (.v (.int .i64 (-1))), none⟩])
  .ret)
 .skip))
 (.seq (.ops [⟨some 17, .mv (.t 1), none⟩, ⟨some 4, .mv (.t 17), none⟩])
 .ret))))))
noncomputable def X.l_szBoard (p0 : TBoard) (p1 : Int) : Option Int :=
  ((X.l_szRules p0.Rules p1).bind fun v1 => (bif (decide (v1 < 0)) then some (-1) else ((X.l_szMap p0.Map v1).bind fun v5 => (bif (decide (v5 < 0)) then some (-1) else some v5))))
theorem l_szBoard_ok (p0 : TBoard) (p1 : Int) (r : Int) (H : X.l_szBoard p0 p1 = some r) : FnOk Tryz.prog gl 12 [.agg (eTBoard p0), cI p1] (cI r) := by
  unfold X.l_szBoard at H
  refine fn_in (fn := Tryz.f12) (ir := l_szBoard_ir) (s1 := lit [(4, cI r)] []) glL Tryz.func12 (by kernel_rfl) (by kernel_rfl) (by kernel_rfl) (by kernel_rfl) (by kernel_rfl) ?_
  refine seq_ops [] [] [(1, cI p1), (2, .c (.pk 2 0))] [(2, .var (eTBoard p0) false)] (fun t => t) (by kernel_rfl) ?_
  obtain ⟨v1, h2, H⟩ := ofBind H
  refine seq_ops [.res (cI v1)] [] [(1, cI v1), (2, .c (.pk 2 0))] [(2, .var (eTBoard p0) false)] (fun t => aI (l_szRules_ok p0.Rules p1 v1 h2) (t)) (by kernel_rfl) ?_
  refine seq_in ?_
  refine seq_ops [] [] [(1, cI v1), (2, .c (.pk 2 0)), (10, cB (decide (v1 < 0)))] [(2, .var (eTBoard p0) false)] (fun t => t) (by kernel_rfl) ?_
  rcases ofCond H with ⟨c4, H⟩ | ⟨c4, H⟩
  · refine ite_t c4 (by kernel_rfl) ?_
    refine seq_ops [] [] [(4, cI (-1))] [] (fun t => t) (by kernel_rfl) ?_
    refine ends_ret ?_
    obtain rfl := Option.some.inj H
    exact And.intro (.inl rfl) rfl
  · refine ite_f c4 (by kernel_rfl) ?_
    refine ends_skip ?_
    change EndsI _ _ _ _ _ _
    obtain ⟨v5, h6, H⟩ := ofBind H
    refine seq_ops [.res (cI v5)] [] [(1, cI v5)] [] (fun t => aI (l_szMap_ok p0.Map v1 v5 h6) (t)) (by kernel_rfl) ?_
    refine seq_in ?_
    refine seq_ops [] [] [(1, cI v5), (16, cB (decide (v5 < 0)))] [] (fun t => t) (by kernel_rfl) ?_
    rcases ofCond H with ⟨c7, H⟩ | ⟨c7, H⟩
    · refine ite_t c7 (by kernel_rfl) ?_
      refine seq_ops [] [] [(4, cI (-1))] [] (fun t => t) (by kernel_rfl) ?_
      refine ends_ret ?_
      obtain rfl := Option.some.inj H
      exact And.intro (.inl rfl) rfl
    · refine ite_f c7 (by kernel_rfl) ?_
      refine ends_skip ?_
      change EndsI _ _ _ _ _ _
      refine seq_ops [] [] [(4, cI v5)] [] (fun t => t) (by kernel_rfl) ?_
      refine ends_ret ?_
      obtain rfl := Option.some.inj H
      exact And.intro (.inl rfl) rfl

def l_toIntS_ir : S :=
 (.seq (.ops [⟨some 2, .mv (.v (.nil)), none⟩])
 (.seq (.ops [⟨some 5, .mv (.t 0), none⟩, ⟨some 6, .len (.t 5), none⟩, ⟨some 7, .msl 1 8 [.int .i64 0] (.t 6), none⟩, ⟨some 3, .mv (.t 7), none⟩])
 (.seq (.seq (.ops [⟨some 4, .mv (.v (.int .i64 0)), none⟩])
 (.blk 0 (.loop (.seq (.seq (.ops [⟨some 8, .mv (.t 4), none⟩, ⟨some 9, .mv (.t 0), none⟩, ⟨some 10, .len (.t 9), none⟩, ⟨some 11, .bin .lss (.t 8) (.t 10), none⟩])
   (.ite (.t 11) .skip
   (.exit 0)))
   (.seq (.blk 1 (.ops [⟨some 14, .mv (.t 3), none⟩, ⟨some 15, .mv (.t 4), none⟩, ⟨some 16, .mv (.t 0), none⟩, ⟨some 17, .mv (.t 4), none⟩, ⟨some 18, .iad 1 (.t 16) (.t 17), none⟩, ⟨some 19, .load 1 false (.t 18), none⟩, ⟨some 20, .iad 1 (.t 14) (.t 15), none⟩, ⟨none, .store 1 (.t 20) (.t 19), none⟩]))
   (.ops [⟨some 12, .mv (.t 4), none⟩, ⟨some 13, .bin .add (.t 12) (.v (.int .i64 1)), none⟩, ⟨some 4, .mv (.t 13), none⟩]))))))
 (.seq (.ops [⟨some 21, .mv (.t 3), none⟩, ⟨some 2, .mv (.t 21), none⟩])
 .ret))))
noncomputable def X.l_toIntS (p0 : (List Int)) : Option (List Int) :=
  (if 0 ≤ (p0.length : Int) ∧ (p0.length : Int).toNat ≤ LIM then ((loop (fun (x13 : (Int × (List Int))) => ((bif (decide (x13.1 < (p0.length : Int))) then ((at' zI p0 x13.1).bind fun v16 => (if 0 ≤ x13.1 ∧ x13.1 < (x13.2.length : Int) then some (Sum.inl ((W (x13.1 + 1)), (x13.2.set x13.1.toNat v16))) else none)) else some (Sum.inr x13.2)) : Option ((Int × (List Int)) ⊕ (List Int)))) (0, (List.replicate (p0.length : Int).toNat zI))).bind fun y19 => some y19) else none)
theorem l_toIntS_ok (p0 : (List Int)) (r : (List Int)) (H : X.l_toIntS p0 = some r) : FnOk Tryz.prog gl 82 [.c (dat 1 eI zI p0)] (.c (dat 1 eI zI r)) := by
  unfold X.l_toIntS at H
  refine fn_in (fn := Tryz.f82) (ir := l_toIntS_ir) (s1 := lit [(2, .c (dat 1 eI zI r))] []) glL Tryz.func82 (by kernel_rfl) (by kernel_rfl) (by kernel_rfl) (by kernel_rfl) (by kernel_rfl) ?_
  refine seq_ops [] [] [(0, .c (dat 1 eI zI p0))] [] (fun t => t) (by kernel_rfl) ?_
  obtain ⟨g1, H⟩ := ofIf H
  refine seq_ops [.fn (List.replicate (p0.length : Int).toNat zI).length (fF eI zI (List.replicate (p0.length : Int).toNat zI))] [] [(0, .c (dat 1 eI zI p0)), (3, .c (.own 7 1 0 ((List.replicate (p0.length : Int).toNat zI).length)))] [(7, .arr 1 ((List.replicate (p0.length : Int).toNat zI).length) (fF eI zI (List.replicate (p0.length : Int).toNat zI)) false)] (fun t => lI p0 (aI (And.intro g1.1 (And.intro (List.length_replicate (n := (p0.length : Int).toNat) (a := zI)).symm (Nat.le_trans (Nat.le_of_eq List.length_replicate) g1.2 : (List.replicate (p0.length : Int).toNat zI).length ≤ LIM))) (aI (fF_rep eI zI zI (p0.length : Int).toNat) (t)))) (by kernel_rfl) ?_
  refine seq_in ?_
  refine seq_ops [] [] [(0, .c (dat 1 eI zI p0)), (3, .c (.own 7 1 0 ((List.replicate (p0.length : Int).toNat zI).length))), (4, cI 0)] [(7, .arr 1 ((List.replicate (p0.length : Int).toNat zI).length) (fF eI zI (List.replicate (p0.length : Int).toNat zI)) false)] (fun t => t) (by kernel_rfl) ?_
  refine ends_blk ?_
  obtain ⟨y19, h20, H⟩ := ofBind H
  refine loop_in (fun (x : (Int × (List Int))) => lit [(0, .c (dat 1 eI zI p0)), (3, .c (.own 7 1 0 x.2.length)), (4, cI x.1)] [(7, .arr 1 x.2.length (fF eI zI x.2) false)]) (fun (z : (List Int)) => At (.exit 0) (lit [(3, .c (.own 7 1 0 z.length))] [(7, .arr 1 z.length (fF eI zI z) false)])) h20 ?_ ?_
  · clear H h20
    intro x13 y0 H
    refine seq_in ?_
    refine seq_ops [] [] [(0, .c (dat 1 eI zI p0)), (3, .c (.own 7 1 0 x13.2.length)), (4, cI x13.1), (11, cB (decide (x13.1 < (p0.length : Int))))] [(7, .arr 1 x13.2.length (fF eI zI x13.2) false)] (fun t => lI p0 (t)) (by kernel_rfl) ?_
    rcases ofCond H with ⟨c15, H⟩ | ⟨c15, H⟩
    · refine ite_t c15 (by kernel_rfl) ?_
      refine ends_skip ?_
      change EndsI _ _ _ _ _ _
      refine seq_in ?_
      refine ends_blk ?_
      obtain ⟨v16, h17, H⟩ := ofBind H
      obtain ⟨g18, H⟩ := ofIf H
      refine one_ops [.cs (eI v16), .no, .fn 0 (fF eI zI (x13.2.set x13.1.toNat v16))] [] [(0, .c (dat 1 eI zI p0)), (3, .c (.own 7 1 0 x13.2.length)), (4, cI x13.1)] [(7, .arr 1 x13.2.length (fF eI zI (x13.2.set x13.1.toNat v16)) false)] (fun t => aI (at_lt h17) (aI (at_enc (enc := eI) h17) (aI g18 (aI (rfl : true = true) (aI (nat_lt g18) (aI (by decide : 0 + 1 ≤ 1) (aI (fF_set eI zI x13.2 x13.1.toNat v16 (nat_lt g18) x13.2.length) (t)))))))) (by kernel_rfl) ?_
      change EndsI _ _ _ _ _ _
      refine one_ops [] [.rel 3 ((x13.2.set x13.1.toNat v16).length), .rep 7 ((x13.2.set x13.1.toNat v16).length) (fF eI zI (x13.2.set x13.1.toNat v16))] [(0, .c (dat 1 eI zI p0)), (3, .c (.own 7 1 0 ((x13.2.set x13.1.toNat v16).length))), (4, cI (W (x13.1 + 1)))] [(7, .arr 1 ((x13.2.set x13.1.toNat v16).length) (fF eI zI (x13.2.set x13.1.toNat v16)) false)] (fun t => aI (by simp : x13.2.length = (x13.2.set x13.1.toNat v16).length) (aI (Nat.le_of_eq (by simp : (x13.2.set x13.1.toNat v16).length = x13.2.length)) (aI (fun _ _ => rfl : ∀ i, i < (x13.2.set x13.1.toNat v16).length → (fF eI zI (x13.2.set x13.1.toNat v16)) i = (fF eI zI (x13.2.set x13.1.toNat v16)) i) (t)))) (by kernel_rfl) ?_
      obtain rfl := Option.some.inj H
      exact And.intro rfl rfl
    · refine ite_f c15 (by kernel_rfl) ?_
      refine tell [] [(3, .c (.own 7 1 0 x13.2.length))] [(7, .arr 1 x13.2.length (fF eI zI x13.2) false)] (fun t => t) (by kernel_rfl) ?_
      refine ends_exit ?_
      obtain rfl := Option.some.inj H
      exact And.intro (by simp) (And.intro rfl rfl)
  · clear h20
    intro e s q
    obtain ⟨rfl, rfl⟩ := q
    change EndsI _ _ _ _ _ _
    refine seq_ops [] [] [(2, .c (.own 7 1 0 y19.length))] [(7, .arr 1 y19.length (fF eI zI y19) false)] (fun t => t) (by kernel_rfl) ?_
    refine tell [.frz 2] [(2, .c (dat 1 eI zI y19))] [] (fun t => aI (Nat.le_refl y19.length) (t)) (by kernel_rfl) ?_
    refine ends_ret ?_
    obtain rfl := Option.some.inj H
    exact And.intro (.inl rfl) rfl

def l_toTerrain_ir : S :=
 (.seq (.ops [⟨some 1, .box 5 (.t 0), none⟩, ⟨some 2, .alloc [.str [], .nil, .int .i64 0, .int .i64 0, .bool false], none⟩])
 (.seq (.ops [⟨some 3, .alloc [.str [], .nil, .int .i64 0, .int .i64 0, .bool false], none⟩])
 (.seq (.ops [⟨some 4, .fad 0 (.t 1), none⟩, ⟨some 5, .load 1 false (.t 4), none⟩, ⟨some 6, .fad 0 (.t 3), none⟩, ⟨none, .store 1 (.t 6) (.t 5), none⟩])
 (.seq (.ops [⟨some 7, .fad 1 (.t 1), none⟩, ⟨some 8, .load 1 false (.t 7), none⟩, ⟨some 9, .call 82 [.t 8], none⟩, ⟨some 10, .fad 1 (.t 3), none⟩, ⟨none, .store 1 (.t 10) (.t 9), none⟩])
 (.seq (.ops [⟨some 11, .fad 2 (.t 1), none⟩, ⟨some 12, .load 1 false (.t 11), none⟩, ⟨some 13, .fad 2 (.t 3), none⟩, ⟨none, .store 1 (.t 13) (.t 12), none⟩])
 (.seq (.ops [⟨some 14, .fad 3 (.t 1), none⟩, ⟨some 15, .load 1 false (.t 14), none⟩, ⟨some 16, .fad 3 (.t 3), none⟩, ⟨none, .store 1 (.t 16) (.t 15), none⟩])
 (.seq (.ops [⟨some 17, .fad 4 (.t 1), none⟩, ⟨some 18, .load 1 false (.t 17), none⟩, ⟨some 19, .fad 4 (.t 3), none⟩, ⟨none, .store 1 (.t 19) (.t 18), none⟩])
 (.seq (.ops [⟨some 20, .load 5 true (.t 3), none⟩, ⟨none, .store 5 (.t 2) (.t 20), none⟩])
 .ret))))))))
noncomputable def X.l_toTerrain (p0 : TTerrain) : Option TTerrain :=
  ((X.l_toIntS p0.Cost).bind fun v1 => some (TTerrain.mk p0.Name v1 p0.Shift p0.Height p0.Blocks))
theorem l_toTerrain_ok (p0 : TTerrain) (r : TTerrain) (H : X.l_toTerrain p0 = some r) : FnOk Tryz.prog gl 179 [.agg (eTTerrain p0)] (.agg (eTTerrain r)) := by
  unfold X.l_toTerrain at H
  refine fn_in (fn := Tryz.f179) (ir := l_toTerrain_ir) (s1 := lit [(2, .c (.pk 2 0))] [(2, .var (eTTerrain r) false)]) glL Tryz.func179 (by kernel_rfl) (by kernel_rfl) (by kernel_rfl) (by kernel_rfl) (by kernel_rfl) ?_
  refine seq_ops [] [] [(1, .c (.pk 1 0)), (2, .c (.pk 2 0))] [(1, .var (eTTerrain p0) false), (2, .var [.str [], .nil, .int .i64 0, .int .i64 0, .bool false] false)] (fun t => t) (by kernel_rfl) ?_
  refine seq_ops [] [] [(1, .c (.pk 1 0)), (2, .c (.pk 2 0)), (3, .c (.pk 3 0))] [(1, .var (eTTerrain p0) false), (2, .var [.str [], .nil, .int .i64 0, .int .i64 0, .bool false] false), (3, .var [.str [], .nil, .int .i64 0, .int .i64 0, .bool false] false)] (fun t => t) (by kernel_rfl) ?_
  refine seq_ops [] [] [(1, .c (.pk 1 0)), (2, .c (.pk 2 0)), (3, .c (.pk 3 0))] [(1, .var (eTTerrain p0) false), (2, .var [.str [], .nil, .int .i64 0, .int .i64 0, .bool false] false), (3, .var [.str p0.Name, .nil, .int .i64 0, .int .i64 0, .bool false] false)] (fun t => t) (by kernel_rfl) ?_
  obtain ⟨v1, h2, H⟩ := ofBind H
  refine seq_ops [.res (.c (dat 1 eI zI v1))] [] [(1, .c (.pk 1 0)), (2, .c (.pk 2 0)), (3, .c (.pk 3 0))] [(1, .var (eTTerrain p0) false), (2, .var [.str [], .nil, .int .i64 0, .int .i64 0, .bool false] false), (3, .var [.str p0.Name, dat 1 eI zI v1, .int .i64 0, .int .i64 0, .bool false] false)] (fun t => aI (l_toIntS_ok p0.Cost v1 h2) (t)) (by kernel_rfl) ?_
  refine seq_ops [] [] [(1, .c (.pk 1 0)), (2, .c (.pk 2 0)), (3, .c (.pk 3 0))] [(1, .var (eTTerrain p0) false), (2, .var [.str [], .nil, .int .i64 0, .int .i64 0, .bool false] false), (3, .var [.str p0.Name, dat 1 eI zI v1, .int .i64 p0.Shift, .int .i64 0, .bool false] false)] (fun t => t) (by kernel_rfl) ?_
  refine seq_ops [] [] [(1, .c (.pk 1 0)), (2, .c (.pk 2 0)), (3, .c (.pk 3 0))] [(1, .var (eTTerrain p0) false), (2, .var [.str [], .nil, .int .i64 0, .int .i64 0, .bool false] false), (3, .var [.str p0.Name, dat 1 eI zI v1, .int .i64 p0.Shift, .int .i64 p0.Height, .bool false] false)] (fun t => t) (by kernel_rfl) ?_
  refine seq_ops [] [] [(2, .c (.pk 2 0)), (3, .c (.pk 3 0))] [(2, .var [.str [], .nil, .int .i64 0, .int .i64 0, .bool false] false), (3, .var [.str p0.Name, dat 1 eI zI v1, .int .i64 p0.Shift, .int .i64 p0.Height, .bool p0.Blocks] false)] (fun t => t) (by kernel_rfl) ?_
  refine seq_ops [] [] [(2, .c (.pk 2 0))] [(2, .var [.str p0.Name, dat 1 eI zI v1, .int .i64 p0.Shift, .int .i64 p0.Height, .bool p0.Blocks] false)] (fun t => t) (by kernel_rfl) ?_
  refine ends_ret ?_
  obtain rfl := Option.some.inj H
  exact And.intro (.inl rfl) rfl

def l_toTerrainS_ir : S :=
 (.seq (.ops [⟨some 2, .mv (.v (.nil)), none⟩])
 (.seq (.ops [⟨some 5, .mv (.t 0), none⟩, ⟨some 6, .len (.t 5), none⟩, ⟨some 7, .msl 5 64 [.str [], .nil, .int .i64 0, .int .i64 0, .bool false] (.t 6), none⟩, ⟨some 3, .mv (.t 7), none⟩])
 (.seq (.seq (.ops [⟨some 4, .mv (.v (.int .i64 0)), none⟩])
 (.blk 0 (.loop (.seq (.seq (.ops [⟨some 8, .mv (.t 4), none⟩, ⟨some 9, .mv (.t 0), none⟩, ⟨some 10, .len (.t 9), none⟩, ⟨some 11, .bin .lss (.t 8) (.t 10), none⟩])
   (.ite (.t 11) .skip
   (.exit 0)))
   (.seq (.blk 1 (.ops [⟨some 14, .mv (.t 3), none⟩, ⟨some 15, .mv (.t 4), none⟩, ⟨some 16, .mv (.t 0), none⟩, ⟨some 17, .mv (.t 4), none⟩, ⟨some 18, .iad 5 (.t 16) (.t 17), none⟩, ⟨some 19, .load 5 true (.t 18), none⟩, ⟨some 20, .call 179 [.t 19], none⟩, ⟨some 21, .iad 5 (.t 14) (.t 15), none⟩, ⟨none, .store 5 (.t 21) (.t 20), none⟩]))
   (.ops [⟨some 12, .mv (.t 4), none⟩, ⟨some 13, .bin .add (.t 12) (.v (.int .i64 1)), none⟩, ⟨some 4, .mv (.t 13), none⟩]))))))
 (.seq (.ops [⟨some 22, .mv (.t 3), none⟩, ⟨some 2, .mv (.t 22), none⟩])
 .ret))))
noncomputable def X.l_toTerrainS (p0 : (List TTerrain)) : Option (List TTerrain) :=
  (if 0 ≤ (p0.length : Int) ∧ (p0.length : Int).toNat ≤ LIM then ((loop (fun (x17 : (Int × (List TTerrain))) => ((bif (decide (x17.1 < (p0.length : Int))) then ((at' zTTerrain p0 x17.1).bind fun v20 => ((X.l_toTerrain v20).bind fun v22 => (if 0 ≤ x17.1 ∧ x17.1 < (x17.2.length : Int) then some (Sum.inl ((W (x17.1 + 1)), (x17.2.set x17.1.toNat v22))) else none))) else some (Sum.inr x17.2)) : Option ((Int × (List TTerrain)) ⊕ (List TTerrain)))) (0, (List.replicate (p0.length : Int).toNat zTTerrain))).bind fun y25 => some y25) else none)
theorem l_toTerrainS_ok (p0 : (List TTerrain)) (r : (List TTerrain)) (H : X.l_toTerrainS p0 = some r) : FnOk Tryz.prog gl 128 [.c (dat 5 eTTerrain zTTerrain p0)] (.c (dat 5 eTTerrain zTTerrain r)) := by
  unfold X.l_toTerrainS at H
  refine fn_in (fn := Tryz.f128) (ir := l_toTerrainS_ir) (s1 := lit [(2, .c (dat 5 eTTerrain zTTerrain r))] []) glL Tryz.func128 (by kernel_rfl) (by kernel_rfl) (by kernel_rfl) (by kernel_rfl) (by kernel_rfl) ?_
  refine seq_ops [] [] [(0, .c (dat 5 eTTerrain zTTerrain p0))] [] (fun t => t) (by kernel_rfl) ?_
  obtain ⟨g1, H⟩ := ofIf H
  refine seq_ops [.fn (List.replicate (p0.length : Int).toNat zTTerrain).length (fun _ => [.str [], .nil, .int .i64 0, .int .i64 0, .bool false])] [.rpw 7 (fF eTTerrain zTTerrain (List.replicate (p0.length : Int).toNat zTTerrain))] [(0, .c (dat 5 eTTerrain zTTerrain p0)), (3, .c (.own 7 5 0 ((List.replicate (p0.length : Int).toNat zTTerrain).length)))] [(7, .arr 5 ((List.replicate (p0.length : Int).toNat zTTerrain).length) (fF eTTerrain zTTerrain (List.replicate (p0.length : Int).toNat zTTerrain)) false)] (fun t => lI p0 (aI (And.intro g1.1 (And.intro (List.length_replicate (n := (p0.length : Int).toNat) (a := zTTerrain)).symm (Nat.le_trans (Nat.le_of_eq List.length_replicate) g1.2 : (List.replicate (p0.length : Int).toNat zTTerrain).length ≤ LIM))) (aI (fun _ _ => rfl : ∀ i, i < (List.replicate (p0.length : Int).toNat zTTerrain).length → (fun (_ : Nat) => ([.str [], .nil, .int .i64 0, .int .i64 0, .bool false] : List AC)) i = [.str [], .nil, .int .i64 0, .int .i64 0, .bool false]) (aI (fun i hi => (fF_rep eTTerrain zTTerrain zTTerrain (p0.length : Int).toNat i hi) ▸ nTTerrain : ∀ i, i < (List.replicate (p0.length : Int).toNat zTTerrain).length → LeR ((fun (_ : Nat) => ([.str [], .nil, .int .i64 0, .int .i64 0, .bool false] : List AC)) i) ((fF eTTerrain zTTerrain (List.replicate (p0.length : Int).toNat zTTerrain)) i)) (t))))) (by kernel_rfl) ?_
  refine seq_in ?_
  refine seq_ops [] [] [(0, .c (dat 5 eTTerrain zTTerrain p0)), (3, .c (.own 7 5 0 ((List.replicate (p0.length : Int).toNat zTTerrain).length))), (4, cI 0)] [(7, .arr 5 ((List.replicate (p0.length : Int).toNat zTTerrain).length) (fF eTTerrain zTTerrain (List.replicate (p0.length : Int).toNat zTTerrain)) false)] (fun t => t) (by kernel_rfl) ?_
  refine ends_blk ?_
  obtain ⟨y25, h26, H⟩ := ofBind H
  refine loop_in (fun (x : (Int × (List TTerrain))) => lit [(0, .c (dat 5 eTTerrain zTTerrain p0)), (3, .c (.own 7 5 0 x.2.length)), (4, cI x.1)] [(7, .arr 5 x.2.length (fF eTTerrain zTTerrain x.2) false)]) (fun (z : (List TTerrain)) => At (.exit 0) (lit [(3, .c (.own 7 5 0 z.length))] [(7, .arr 5 z.length (fF eTTerrain zTTerrain z) false)])) h26 ?_ ?_
  · clear H h26
    intro x17 y0 H
    refine seq_in ?_
    refine seq_ops [] [] [(0, .c (dat 5 eTTerrain zTTerrain p0)), (3, .c (.own 7 5 0 x17.2.length)), (4, cI x17.1), (11, cB (decide (x17.1 < (p0.length : Int))))] [(7, .arr 5 x17.2.length (fF eTTerrain zTTerrain x17.2) false)] (fun t => lI p0 (t)) (by kernel_rfl) ?_
    rcases ofCond H with ⟨c19, H⟩ | ⟨c19, H⟩
    · refine ite_t c19 (by kernel_rfl) ?_
      refine ends_skip ?_
      change EndsI _ _ _ _ _ _
      refine seq_in ?_
      refine ends_blk ?_
      obtain ⟨v20, h21, H⟩ := ofBind H
      obtain ⟨v22, h23, H⟩ := ofBind H
      obtain ⟨g24, H⟩ := ofIf H
      refine one_ops [.cs (eTTerrain v20), .res (.agg (eTTerrain v22)), .no, .fn 0 (fF eTTerrain zTTerrain (x17.2.set x17.1.toNat v22))] [] [(0, .c (dat 5 eTTerrain zTTerrain p0)), (3, .c (.own 7 5 0 x17.2.length)), (4, cI x17.1)] [(7, .arr 5 x17.2.length (fF eTTerrain zTTerrain (x17.2.set x17.1.toNat v22)) false)] (fun t => aI (at_lt h21) (aI (at_enc (enc := eTTerrain) h21) (aI (l_toTerrain_ok v20 v22 h23) (aI g24 (aI (rfl : true = true) (aI (nat_lt g24) (aI (by decide : 0 + 5 ≤ 5) (aI (fF_set eTTerrain zTTerrain x17.2 x17.1.toNat v22 (nat_lt g24) x17.2.length) (t))))))))) (by kernel_rfl) ?_
      change EndsI _ _ _ _ _ _
      refine one_ops [] [.rel 3 ((x17.2.set x17.1.toNat v22).length), .rep 7 ((x17.2.set x17.1.toNat v22).length) (fF eTTerrain zTTerrain (x17.2.set x17.1.toNat v22))] [(0, .c (dat 5 eTTerrain zTTerrain p0)), (3, .c (.own 7 5 0 ((x17.2.set x17.1.toNat v22).length))), (4, cI (W (x17.1 + 1)))] [(7, .arr 5 ((x17.2.set x17.1.toNat v22).length) (fF eTTerrain zTTerrain (x17.2.set x17.1.toNat v22)) false)] (fun t => aI (by simp : x17.2.length = (x17.2.set x17.1.toNat v22).length) (aI (Nat.le_of_eq (by simp : (x17.2.set x17.1.toNat v22).length = x17.2.length)) (aI (fun _ _ => rfl : ∀ i, i < (x17.2.set x17.1.toNat v22).length → (fF eTTerrain zTTerrain (x17.2.set x17.1.toNat v22)) i = (fF eTTerrain zTTerrain (x17.2.set x17.1.toNat v22)) i) (t)))) (by kernel_rfl) ?_
      obtain rfl := Option.some.inj H
      exact And.intro rfl rfl
    · refine ite_f c19 (by kernel_rfl) ?_
      refine tell [] [(3, .c (.own 7 5 0 x17.2.length))] [(7, .arr 5 x17.2.length (fF eTTerrain zTTerrain x17.2) false)] (fun t => t) (by kernel_rfl) ?_
      refine ends_exit ?_
      obtain rfl := Option.some.inj H
      exact And.intro (by simp) (And.intro rfl rfl)
  · clear h26
    intro e s q
    obtain ⟨rfl, rfl⟩ := q
    change EndsI _ _ _ _ _ _
    refine seq_ops [] [] [(2, .c (.own 7 5 0 y25.length))] [(7, .arr 5 y25.length (fF eTTerrain zTTerrain y25) false)] (fun t => t) (by kernel_rfl) ?_
    refine tell [.frz 2] [(2, .c (dat 5 eTTerrain zTTerrain y25))] [] (fun t => aI (Nat.le_refl y25.length) (t)) (by kernel_rfl) ?_
    refine ends_ret ?_
    obtain rfl := Option.some.inj H
    exact And.intro (.inl rfl) rfl

def l_toKind_ir : S :=
 (.seq (.ops [⟨some 1, .box 6 (.t 0), none⟩, ⟨some 2, .alloc [.str [], .int .i64 0, .int .i64 0, .int .i64 0, .bool false, .int .i64 0], none⟩])
 (.seq (.ops [⟨some 3, .alloc [.str [], .int .i64 0, .int .i64 0, .int .i64 0, .bool false, .int .i64 0], none⟩])
 (.seq (.ops [⟨some 4, .fad 0 (.t 1), none⟩, ⟨some 5, .load 1 false (.t 4), none⟩, ⟨some 6, .fad 0 (.t 3), none⟩, ⟨none, .store 1 (.t 6) (.t 5), none⟩])
 (.seq (.ops [⟨some 7, .fad 1 (.t 1), none⟩, ⟨some 8, .load 1 false (.t 7), none⟩, ⟨some 9, .fad 1 (.t 3), none⟩, ⟨none, .store 1 (.t 9) (.t 8), none⟩])
 (.seq (.ops [⟨some 10, .fad 2 (.t 1), none⟩, ⟨some 11, .load 1 false (.t 10), none⟩, ⟨some 12, .fad 2 (.t 3), none⟩, ⟨none, .store 1 (.t 12) (.t 11), none⟩])
 (.seq (.ops [⟨some 13, .fad 3 (.t 1), none⟩, ⟨some 14, .load 1 false (.t 13), none⟩, ⟨some 15, .fad 3 (.t 3), none⟩, ⟨none, .store 1 (.t 15) (.t 14), none⟩])
 (.seq (.ops [⟨some 16, .fad 4 (.t 1), none⟩, ⟨some 17, .load 1 false (.t 16), none⟩, ⟨some 18, .fad 4 (.t 3), none⟩, ⟨none, .store 1 (.t 18) (.t 17), none⟩])
 (.seq (.ops [⟨some 19, .fad 5 (.t 1), none⟩, ⟨some 20, .load 1 false (.t 19), none⟩, ⟨some 21, .fad 5 (.t 3), none⟩, ⟨none, .store 1 (.t 21) (.t 20), none⟩])
 (.seq (.ops [⟨some 22, .load 6 true (.t 3), none⟩, ⟨none, .store 6 (.t 2) (.t 22), none⟩])
 .ret)))))))))
noncomputable def X.l_toKind (p0 : TKind) : Option TKind :=
  some p0
theorem l_toKind_ok (p0 : TKind) (r : TKind) (H : X.l_toKind p0 = some r) : FnOk Tryz.prog gl 180 [.agg (eTKind p0)] (.agg (eTKind r)) := by
  unfold X.l_toKind at H
  refine fn_in (fn := Tryz.f180) (ir := l_toKind_ir) (s1 := lit [(2, .c (.pk 2 0))] [(2, .var (eTKind r) false)]) glL Tryz.func180 (by kernel_rfl) (by kernel_rfl) (by kernel_rfl) (by kernel_rfl) (by kernel_rfl) ?_
  refine seq_ops [] [] [(1, .c (.pk 1 0)), (2, .c (.pk 2 0))] [(1, .var (eTKind p0) false), (2, .var [.str [], .int .i64 0, .int .i64 0, .int .i64 0, .bool false, .int .i64 0] false)] (fun t => t) (by kernel_rfl) ?_
  refine seq_ops [] [] [(1, .c (.pk 1 0)), (2, .c (.pk 2 0)), (3, .c (.pk 3 0))] [(1, .var (eTKind p0) false), (2, .var [.str [], .int .i64 0, .int .i64 0, .int .i64 0, .bool false, .int .i64 0] false), (3, .var [.str [], .int .i64 0, .int .i64 0, .int .i64 0, .bool false, .int .i64 0] false)] (fun t => t) (by kernel_rfl) ?_
  refine seq_ops [] [] [(1, .c (.pk 1 0)), (2, .c (.pk 2 0)), (3, .c (.pk 3 0))] [(1, .var (eTKind p0) false), (2, .var [.str [], .int .i64 0, .int .i64 0, .int .i64 0, .bool false, .int .i64 0] false), (3, .var [.str p0.Name, .int .i64 0, .int .i64 0, .int .i64 0, .bool false, .int .i64 0] false)] (fun t => t) (by kernel_rfl) ?_
  refine seq_ops [] [] [(1, .c (.pk 1 0)), (2, .c (.pk 2 0)), (3, .c (.pk 3 0))] [(1, .var (eTKind p0) false), (2, .var [.str [], .int .i64 0, .int .i64 0, .int .i64 0, .bool false, .int .i64 0] false), (3, .var [.str p0.Name, .int .i64 p0.Strength, .int .i64 0, .int .i64 0, .bool false, .int .i64 0] false)] (fun t => t) (by kernel_rfl) ?_
  refine seq_ops [] [] [(1, .c (.pk 1 0)), (2, .c (.pk 2 0)), (3, .c (.pk 3 0))] [(1, .var (eTKind p0) false), (2, .var [.str [], .int .i64 0, .int .i64 0, .int .i64 0, .bool false, .int .i64 0] false), (3, .var [.str p0.Name, .int .i64 p0.Strength, .int .i64 p0.Moves, .int .i64 0, .bool false, .int .i64 0] false)] (fun t => t) (by kernel_rfl) ?_
  refine seq_ops [] [] [(1, .c (.pk 1 0)), (2, .c (.pk 2 0)), (3, .c (.pk 3 0))] [(1, .var (eTKind p0) false), (2, .var [.str [], .int .i64 0, .int .i64 0, .int .i64 0, .bool false, .int .i64 0] false), (3, .var [.str p0.Name, .int .i64 p0.Strength, .int .i64 p0.Moves, .int .i64 p0.Steps, .bool false, .int .i64 0] false)] (fun t => t) (by kernel_rfl) ?_
  refine seq_ops [] [] [(1, .c (.pk 1 0)), (2, .c (.pk 2 0)), (3, .c (.pk 3 0))] [(1, .var (eTKind p0) false), (2, .var [.str [], .int .i64 0, .int .i64 0, .int .i64 0, .bool false, .int .i64 0] false), (3, .var [.str p0.Name, .int .i64 p0.Strength, .int .i64 p0.Moves, .int .i64 p0.Steps, .bool p0.Zone, .int .i64 0] false)] (fun t => t) (by kernel_rfl) ?_
  refine seq_ops [] [] [(2, .c (.pk 2 0)), (3, .c (.pk 3 0))] [(2, .var [.str [], .int .i64 0, .int .i64 0, .int .i64 0, .bool false, .int .i64 0] false), (3, .var (eTKind p0) false)] (fun t => t) (by kernel_rfl) ?_
  refine seq_ops [] [] [(2, .c (.pk 2 0))] [(2, .var (eTKind p0) false)] (fun t => t) (by kernel_rfl) ?_
  refine ends_ret ?_
  obtain rfl := Option.some.inj H
  exact And.intro (.inl rfl) rfl

def l_toKindS_ir : S :=
 (.seq (.ops [⟨some 2, .mv (.v (.nil)), none⟩])
 (.seq (.ops [⟨some 5, .mv (.t 0), none⟩, ⟨some 6, .len (.t 5), none⟩, ⟨some 7, .msl 6 56 [.str [], .int .i64 0, .int .i64 0, .int .i64 0, .bool false, .int .i64 0] (.t 6), none⟩, ⟨some 3, .mv (.t 7), none⟩])
 (.seq (.seq (.ops [⟨some 4, .mv (.v (.int .i64 0)), none⟩])
 (.blk 0 (.loop (.seq (.seq (.ops [⟨some 8, .mv (.t 4), none⟩, ⟨some 9, .mv (.t 0), none⟩, ⟨some 10, .len (.t 9), none⟩, ⟨some 11, .bin .lss (.t 8) (.t 10), none⟩])
   (.ite (.t 11) .skip
   (.exit 0)))
   (.seq (.blk 1 (.ops [⟨some 14, .mv (.t 3), none⟩, ⟨some 15, .mv (.t 4), none⟩, ⟨some 16, .mv (.t 0), none⟩, ⟨some 17, .mv (.t 4), none⟩, ⟨some 18, .iad 6 (.t 16) (.t 17), none⟩, ⟨some 19, .load 6 true (.t 18), none⟩, ⟨some 20, .call 180 [.t 19], none⟩, ⟨some 21, .iad 6 (.t 14) (.t 15), none⟩, ⟨none, .store 6 (.t 21) (.t 20), none⟩]))
   (.ops [⟨some 12, .mv (.t 4), none⟩, ⟨some 13, .bin .add (.t 12) (.v (.int .i64 1)), none⟩, ⟨some 4, .mv (.t 13), none⟩]))))))
 (.seq (.ops [⟨some 22, .mv (.t 3), none⟩, ⟨some 2, .mv (.t 22), none⟩])
 .ret))))
noncomputable def X.l_toKindS (p0 : (List TKind)) : Option (List TKind) :=
  (if 0 ≤ (p0.length : Int) ∧ (p0.length : Int).toNat ≤ LIM then ((loop (fun (x17 : (Int × (List TKind))) => ((bif (decide (x17.1 < (p0.length : Int))) then ((at' zTKind p0 x17.1).bind fun v20 => ((X.l_toKind v20).bind fun v22 => (if 0 ≤ x17.1 ∧ x17.1 < (x17.2.length : Int) then some (Sum.inl ((W (x17.1 + 1)), (x17.2.set x17.1.toNat v22))) else none))) else some (Sum.inr x17.2)) : Option ((Int × (List TKind)) ⊕ (List TKind)))) (0, (List.replicate (p0.length : Int).toNat zTKind))).bind fun y25 => some y25) else none)
theorem l_toKindS_ok (p0 : (List TKind)) (r : (List TKind)) (H : X.l_toKindS p0 = some r) : FnOk Tryz.prog gl 129 [.c (dat 6 eTKind zTKind p0)] (.c (dat 6 eTKind zTKind r)) := by
  unfold X.l_toKindS at H
  refine fn_in (fn := Tryz.f129) (ir := l_toKindS_ir) (s1 := lit [(2, .c (dat 6 eTKind zTKind r))] []) glL Tryz.func129 (by kernel_rfl) (by kernel_rfl) (by kernel_rfl) (by kernel_rfl) (by kernel_rfl) ?_
  refine seq_ops [] [] [(0, .c (dat 6 eTKind zTKind p0))] [] (fun t => t) (by kernel_rfl) ?_
  obtain ⟨g1, H⟩ := ofIf H
  refine seq_ops [.fn (List.replicate (p0.length : Int).toNat zTKind).length (fF eTKind zTKind (List.replicate (p0.length : Int).toNat zTKind))] [] [(0, .c (dat 6 eTKind zTKind p0)), (3, .c (.own 7 6 0 ((List.replicate (p0.length : Int).toNat zTKind).length)))] [(7, .arr 6 ((List.replicate (p0.length : Int).toNat zTKind).length) (fF eTKind zTKind (List.replicate (p0.length : Int).toNat zTKind)) false)] (fun t => lI p0 (aI (And.intro g1.1 (And.intro (List.length_replicate (n := (p0.length : Int).toNat) (a := zTKind)).symm (Nat.le_trans (Nat.le_of_eq List.length_replicate) g1.2 : (List.replicate (p0.length : Int).toNat zTKind).length ≤ LIM))) (aI (fF_rep eTKind zTKind zTKind (p0.length : Int).toNat) (t)))) (by kernel_rfl) ?_
  refine seq_in ?_
  refine seq_ops [] [] [(0, .c (dat 6 eTKind zTKind p0)), (3, .c (.own 7 6 0 ((List.replicate (p0.length : Int).toNat zTKind).length))), (4, cI 0)] [(7, .arr 6 ((List.replicate (p0.length : Int).toNat zTKind).length) (fF eTKind zTKind (List.replicate (p0.length : Int).toNat zTKind)) false)] (fun t => t) (by kernel_rfl) ?_
  refine ends_blk ?_
  obtain ⟨y25, h26, H⟩ := ofBind H
  refine loop_in (fun (x : (Int × (List TKind))) => lit [(0, .c (dat 6 eTKind zTKind p0)), (3, .c (.own 7 6 0 x.2.length)), (4, cI x.1)] [(7, .arr 6 x.2.length (fF eTKind zTKind x.2) false)]) (fun (z : (List TKind)) => At (.exit 0) (lit [(3, .c (.own 7 6 0 z.length))] [(7, .arr 6 z.length (fF eTKind zTKind z) false)])) h26 ?_ ?_
  · clear H h26
    intro x17 y0 H
    refine seq_in ?_
    refine seq_ops [] [] [(0, .c (dat 6 eTKind zTKind p0)), (3, .c (.own 7 6 0 x17.2.length)), (4, cI x17.1), (11, cB (decide (x17.1 < (p0.length : Int))))] [(7, .arr 6 x17.2.length (fF eTKind zTKind x17.2) false)] (fun t => lI p0 (t)) (by kernel_rfl) ?_
    rcases ofCond H with ⟨c19, H⟩ | ⟨c19, H⟩
    · refine ite_t c19 (by kernel_rfl) ?_
      refine ends_skip ?_
      change EndsI _ _ _ _ _ _
      refine seq_in ?_
      refine ends_blk ?_
      obtain ⟨v20, h21, H⟩ := ofBind H
      obtain ⟨v22, h23, H⟩ := ofBind H
      obtain ⟨g24, H⟩ := ofIf H
      refine one_ops [.cs (eTKind v20), .res (.agg (eTKind v22)), .no, .fn 0 (fF eTKind zTKind (x17.2.set x17.1.toNat v22))] [] [(0, .c (dat 6 eTKind zTKind p0)), (3, .c (.own 7 6 0 x17.2.length)), (4, cI x17.1)] [(7, .arr 6 x17.2.length (fF eTKind zTKind (x17.2.set x17.1.toNat v22)) false)] (fun t => aI (at_lt h21) (aI (at_enc (enc := eTKind) h21) (aI (l_toKind_ok v20 v22 h23) (aI g24 (aI (rfl : true = true) (aI (nat_lt g24) (aI (by decide : 0 + 6 ≤ 6) (aI (fF_set eTKind zTKind x17.2 x17.1.toNat v22 (nat_lt g24) x17.2.length) (t))))))))) (by kernel_rfl) ?_
      change EndsI _ _ _ _ _ _
      refine one_ops [] [.rel 3 ((x17.2.set x17.1.toNat v22).length), .rep 7 ((x17.2.set x17.1.toNat v22).length) (fF eTKind zTKind (x17.2.set x17.1.toNat v22))] [(0, .c (dat 6 eTKind zTKind p0)), (3, .c (.own 7 6 0 ((x17.2.set x17.1.toNat v22).length))), (4, cI (W (x17.1 + 1)))] [(7, .arr 6 ((x17.2.set x17.1.toNat v22).length) (fF eTKind zTKind (x17.2.set x17.1.toNat v22)) false)] (fun t => aI (by simp : x17.2.length = (x17.2.set x17.1.toNat v22).length) (aI (Nat.le_of_eq (by simp : (x17.2.set x17.1.toNat v22).length = x17.2.length)) (aI (fun _ _ => rfl : ∀ i, i < (x17.2.set x17.1.toNat v22).length → (fF eTKind zTKind (x17.2.set x17.1.toNat v22)) i = (fF eTKind zTKind (x17.2.set x17.1.toNat v22)) i) (t)))) (by kernel_rfl) ?_
      obtain rfl := Option.some.inj H
      exact And.intro rfl rfl
    · refine ite_f c19 (by kernel_rfl) ?_
      refine tell [] [(3, .c (.own 7 6 0 x17.2.length))] [(7, .arr 6 x17.2.length (fF eTKind zTKind x17.2) false)] (fun t => t) (by kernel_rfl) ?_
      refine ends_exit ?_
      obtain rfl := Option.some.inj H
      exact And.intro (by simp) (And.intro rfl rfl)
  · clear h26
    intro e s q
    obtain ⟨rfl, rfl⟩ := q
    change EndsI _ _ _ _ _ _
    refine seq_ops [] [] [(2, .c (.own 7 6 0 y25.length))] [(7, .arr 6 y25.length (fF eTKind zTKind y25) false)] (fun t => t) (by kernel_rfl) ?_
    refine tell [.frz 2] [(2, .c (dat 6 eTKind zTKind y25))] [] (fun t => aI (Nat.le_refl y25.length) (t)) (by kernel_rfl) ?_
    refine ends_ret ?_
    obtain rfl := Option.some.inj H
    exact And.intro (.inl rfl) rfl

def l_toRules_ir : S :=
 (.seq (.ops [⟨some 1, .box 7 (.t 0), none⟩, ⟨some 2, .alloc [.nil, .nil, .int .i64 0, .int .i64 0, .int .i64 0, .int .i64 0, .int .i64 0], none⟩])
 (.seq (.ops [⟨some 3, .alloc [.nil, .nil, .int .i64 0, .int .i64 0, .int .i64 0, .int .i64 0, .int .i64 0], none⟩])
 (.seq (.ops [⟨some 4, .fad 0 (.t 1), none⟩, ⟨some 5, .load 1 false (.t 4), none⟩, ⟨some 6, .call 128 [.t 5], none⟩, ⟨some 7, .fad 0 (.t 3), none⟩, ⟨none, .store 1 (.t 7) (.t 6), none⟩])
 (.seq (.ops [⟨some 8, .fad 1 (.t 1), none⟩, ⟨some 9, .load 1 false (.t 8), none⟩, ⟨some 10, .call 129 [.t 9], none⟩, ⟨some 11, .fad 1 (.t 3), none⟩, ⟨none, .store 1 (.t 11) (.t 10), none⟩])
 (.seq (.ops [⟨some 12, .fad 2 (.t 1), none⟩, ⟨some 13, .load 1 false (.t 12), none⟩, ⟨some 14, .fad 2 (.t 3), none⟩, ⟨none, .store 1 (.t 14) (.t 13), none⟩])
 (.seq (.ops [⟨some 15, .fad 3 (.t 1), none⟩, ⟨some 16, .load 1 false (.t 15), none⟩, ⟨some 17, .fad 3 (.t 3), none⟩, ⟨none, .store 1 (.t 17) (.t 16), none⟩])
 (.seq (.ops [⟨some 18, .fad 4 (.t 1), none⟩, ⟨some 19, .load 1 false (.t 18), none⟩, ⟨some 20, .fad 4 (.t 3), none⟩, ⟨none, .store 1 (.t 20) (.t 19), none⟩])
 (.seq (.ops [⟨some 21, .fad 5 (.t 1), none⟩, ⟨some 22, .load 1 false (.t 21), none⟩, ⟨some 23, .fad 5 (.t 3), none⟩, ⟨none, .store 1 (.t 23) (.t 22), none⟩])
 (.seq (.ops [⟨some 24, .fad 6 (.t 1), none⟩, ⟨some 25, .load 1 false (.t 24), none⟩, ⟨some 26, .fad 6 (.t 3), none⟩, ⟨none, .store 1 (.t 26) (.t 25), none⟩])
 (.seq (.ops [⟨some 27, .load 7 true (.t 3), none⟩, ⟨none, .store 7 (.t 2) (.t 27), none⟩])
 .ret))))))))))
noncomputable def X.l_toRules (p0 : TRules) : Option TRules :=
  ((X.l_toTerrainS p0.Terrains).bind fun v1 => ((X.l_toKindS p0.Kinds).bind fun v3 => some (TRules.mk v1 v3 p0.Stack p0.River p0.Road p0.Supply p0.Turns)))
theorem l_toRules_ok (p0 : TRules) (r : TRules) (H : X.l_toRules p0 = some r) : FnOk Tryz.prog gl 64 [.agg (eTRules p0)] (.agg (eTRules r)) := by
  unfold X.l_toRules at H
  refine fn_in (fn := Tryz.f64) (ir := l_toRules_ir) (s1 := lit [(2, .c (.pk 2 0))] [(2, .var (eTRules r) false)]) glL Tryz.func64 (by kernel_rfl) (by kernel_rfl) (by kernel_rfl) (by kernel_rfl) (by kernel_rfl) ?_
  refine seq_ops [] [] [(1, .c (.pk 1 0)), (2, .c (.pk 2 0))] [(1, .var (eTRules p0) false), (2, .var [.nil, .nil, .int .i64 0, .int .i64 0, .int .i64 0, .int .i64 0, .int .i64 0] false)] (fun t => t) (by kernel_rfl) ?_
  refine seq_ops [] [] [(1, .c (.pk 1 0)), (2, .c (.pk 2 0)), (3, .c (.pk 3 0))] [(1, .var (eTRules p0) false), (2, .var [.nil, .nil, .int .i64 0, .int .i64 0, .int .i64 0, .int .i64 0, .int .i64 0] false), (3, .var [.nil, .nil, .int .i64 0, .int .i64 0, .int .i64 0, .int .i64 0, .int .i64 0] false)] (fun t => t) (by kernel_rfl) ?_
  obtain ⟨v1, h2, H⟩ := ofBind H
  refine seq_ops [.res (.c (dat 5 eTTerrain zTTerrain v1))] [] [(1, .c (.pk 1 0)), (2, .c (.pk 2 0)), (3, .c (.pk 3 0))] [(1, .var (eTRules p0) false), (2, .var [.nil, .nil, .int .i64 0, .int .i64 0, .int .i64 0, .int .i64 0, .int .i64 0] false), (3, .var [dat 5 eTTerrain zTTerrain v1, .nil, .int .i64 0, .int .i64 0, .int .i64 0, .int .i64 0, .int .i64 0] false)] (fun t => aI (l_toTerrainS_ok p0.Terrains v1 h2) (t)) (by kernel_rfl) ?_
  obtain ⟨v3, h4, H⟩ := ofBind H
  refine seq_ops [.res (.c (dat 6 eTKind zTKind v3))] [] [(1, .c (.pk 1 0)), (2, .c (.pk 2 0)), (3, .c (.pk 3 0))] [(1, .var (eTRules p0) false), (2, .var [.nil, .nil, .int .i64 0, .int .i64 0, .int .i64 0, .int .i64 0, .int .i64 0] false), (3, .var [dat 5 eTTerrain zTTerrain v1, dat 6 eTKind zTKind v3, .int .i64 0, .int .i64 0, .int .i64 0, .int .i64 0, .int .i64 0] false)] (fun t => aI (l_toKindS_ok p0.Kinds v3 h4) (t)) (by kernel_rfl) ?_
  refine seq_ops [] [] [(1, .c (.pk 1 0)), (2, .c (.pk 2 0)), (3, .c (.pk 3 0))] [(1, .var (eTRules p0) false), (2, .var [.nil, .nil, .int .i64 0, .int .i64 0, .int .i64 0, .int .i64 0, .int .i64 0] false), (3, .var [dat 5 eTTerrain zTTerrain v1, dat 6 eTKind zTKind v3, .int .i64 p0.Stack, .int .i64 0, .int .i64 0, .int .i64 0, .int .i64 0] false)] (fun t => t) (by kernel_rfl) ?_
  refine seq_ops [] [] [(1, .c (.pk 1 0)), (2, .c (.pk 2 0)), (3, .c (.pk 3 0))] [(1, .var (eTRules p0) false), (2, .var [.nil, .nil, .int .i64 0, .int .i64 0, .int .i64 0, .int .i64 0, .int .i64 0] false), (3, .var [dat 5 eTTerrain zTTerrain v1, dat 6 eTKind zTKind v3, .int .i64 p0.Stack, .int .i64 p0.River, .int .i64 0, .int .i64 0, .int .i64 0] false)] (fun t => t) (by kernel_rfl) ?_
  refine seq_ops [] [] [(1, .c (.pk 1 0)), (2, .c (.pk 2 0)), (3, .c (.pk 3 0))] [(1, .var (eTRules p0) false), (2, .var [.nil, .nil, .int .i64 0, .int .i64 0, .int .i64 0, .int .i64 0, .int .i64 0] false), (3, .var [dat 5 eTTerrain zTTerrain v1, dat 6 eTKind zTKind v3, .int .i64 p0.Stack, .int .i64 p0.River, .int .i64 p0.Road, .int .i64 0, .int .i64 0] false)] (fun t => t) (by kernel_rfl) ?_
  refine seq_ops [] [] [(1, .c (.pk 1 0)), (2, .c (.pk 2 0)), (3, .c (.pk 3 0))] [(1, .var (eTRules p0) false), (2, .var [.nil, .nil, .int .i64 0, .int .i64 0, .int .i64 0, .int .i64 0, .int .i64 0] false), (3, .var [dat 5 eTTerrain zTTerrain v1, dat 6 eTKind zTKind v3, .int .i64 p0.Stack, .int .i64 p0.River, .int .i64 p0.Road, .int .i64 p0.Supply, .int .i64 0] false)] (fun t => t) (by kernel_rfl) ?_
  refine seq_ops [] [] [(2, .c (.pk 2 0)), (3, .c (.pk 3 0))] [(2, .var [.nil, .nil, .int .i64 0, .int .i64 0, .int .i64 0, .int .i64 0, .int .i64 0] false), (3, .var [dat 5 eTTerrain zTTerrain v1, dat 6 eTKind zTKind v3, .int .i64 p0.Stack, .int .i64 p0.River, .int .i64 p0.Road, .int .i64 p0.Supply, .int .i64 p0.Turns] false)] (fun t => t) (by kernel_rfl) ?_
  refine seq_ops [] [] [(2, .c (.pk 2 0))] [(2, .var [dat 5 eTTerrain zTTerrain v1, dat 6 eTKind zTKind v3, .int .i64 p0.Stack, .int .i64 p0.River, .int .i64 p0.Road, .int .i64 p0.Supply, .int .i64 p0.Turns] false)] (fun t => t) (by kernel_rfl) ?_
  refine ends_ret ?_
  obtain rfl := Option.some.inj H
  exact And.intro (.inl rfl) rfl

def l_toMap_ir : S :=
 (.seq (.ops [⟨some 1, .box 5 (.t 0), none⟩, ⟨some 2, .alloc [.int .i64 0, .int .i64 0, .nil, .nil, .nil], none⟩])
 (.seq (.ops [⟨some 3, .alloc [.int .i64 0, .int .i64 0, .nil, .nil, .nil], none⟩])
 (.seq (.ops [⟨some 4, .fad 0 (.t 1), none⟩, ⟨some 5, .load 1 false (.t 4), none⟩, ⟨some 6, .fad 0 (.t 3), none⟩, ⟨none, .store 1 (.t 6) (.t 5), none⟩])
 (.seq (.ops [⟨some 7, .fad 1 (.t 1), none⟩, ⟨some 8, .load 1 false (.t 7), none⟩, ⟨some 9, .fad 1 (.t 3), none⟩, ⟨none, .store 1 (.t 9) (.t 8), none⟩])
 (.seq (.ops [⟨some 10, .fad 2 (.t 1), none⟩, ⟨some 11, .load 1 false (.t 10), none⟩, ⟨some 12, .call 82 [.t 11], none⟩, ⟨some 13, .fad 2 (.t 3), none⟩, ⟨none, .store 1 (.t 13) (.t 12), none⟩])
 (.seq (.ops [⟨some 14, .fad 3 (.t 1), none⟩, ⟨some 15, .load 1 false (.t 14), none⟩, ⟨some 16, .call 82 [.t 15], none⟩, ⟨some 17, .fad 3 (.t 3), none⟩, ⟨none, .store 1 (.t 17) (.t 16), none⟩])
 (.seq (.ops [⟨some 18, .fad 4 (.t 1), none⟩, ⟨some 19, .load 1 false (.t 18), none⟩, ⟨some 20, .call 82 [.t 19], none⟩, ⟨some 21, .fad 4 (.t 3), none⟩, ⟨none, .store 1 (.t 21) (.t 20), none⟩])
 (.seq (.ops [⟨some 22, .load 5 true (.t 3), none⟩, ⟨none, .store 5 (.t 2) (.t 22), none⟩])
 .ret))))))))
noncomputable def X.l_toMap (p0 : TMap) : Option TMap :=
  ((X.l_toIntS p0.Terrain).bind fun v1 => ((X.l_toIntS p0.Rivers).bind fun v3 => ((X.l_toIntS p0.Roads).bind fun v5 => some (TMap.mk p0.Width p0.Height v1 v3 v5))))
theorem l_toMap_ok (p0 : TMap) (r : TMap) (H : X.l_toMap p0 = some r) : FnOk Tryz.prog gl 65 [.agg (eTMap p0)] (.agg (eTMap r)) := by
  unfold X.l_toMap at H
  refine fn_in (fn := Tryz.f65) (ir := l_toMap_ir) (s1 := lit [(2, .c (.pk 2 0))] [(2, .var (eTMap r) false)]) glL Tryz.func65 (by kernel_rfl) (by kernel_rfl) (by kernel_rfl) (by kernel_rfl) (by kernel_rfl) ?_
  refine seq_ops [] [] [(1, .c (.pk 1 0)), (2, .c (.pk 2 0))] [(1, .var (eTMap p0) false), (2, .var [.int .i64 0, .int .i64 0, .nil, .nil, .nil] false)] (fun t => t) (by kernel_rfl) ?_
  refine seq_ops [] [] [(1, .c (.pk 1 0)), (2, .c (.pk 2 0)), (3, .c (.pk 3 0))] [(1, .var (eTMap p0) false), (2, .var [.int .i64 0, .int .i64 0, .nil, .nil, .nil] false), (3, .var [.int .i64 0, .int .i64 0, .nil, .nil, .nil] false)] (fun t => t) (by kernel_rfl) ?_
  refine seq_ops [] [] [(1, .c (.pk 1 0)), (2, .c (.pk 2 0)), (3, .c (.pk 3 0))] [(1, .var (eTMap p0) false), (2, .var [.int .i64 0, .int .i64 0, .nil, .nil, .nil] false), (3, .var [.int .i64 p0.Width, .int .i64 0, .nil, .nil, .nil] false)] (fun t => t) (by kernel_rfl) ?_
  refine seq_ops [] [] [(1, .c (.pk 1 0)), (2, .c (.pk 2 0)), (3, .c (.pk 3 0))] [(1, .var (eTMap p0) false), (2, .var [.int .i64 0, .int .i64 0, .nil, .nil, .nil] false), (3, .var [.int .i64 p0.Width, .int .i64 p0.Height, .nil, .nil, .nil] false)] (fun t => t) (by kernel_rfl) ?_
  obtain ⟨v1, h2, H⟩ := ofBind H
  refine seq_ops [.res (.c (dat 1 eI zI v1))] [] [(1, .c (.pk 1 0)), (2, .c (.pk 2 0)), (3, .c (.pk 3 0))] [(1, .var (eTMap p0) false), (2, .var [.int .i64 0, .int .i64 0, .nil, .nil, .nil] false), (3, .var [.int .i64 p0.Width, .int .i64 p0.Height, dat 1 eI zI v1, .nil, .nil] false)] (fun t => aI (l_toIntS_ok p0.Terrain v1 h2) (t)) (by kernel_rfl) ?_
  obtain ⟨v3, h4, H⟩ := ofBind H
  refine seq_ops [.res (.c (dat 1 eI zI v3))] [] [(1, .c (.pk 1 0)), (2, .c (.pk 2 0)), (3, .c (.pk 3 0))] [(1, .var (eTMap p0) false), (2, .var [.int .i64 0, .int .i64 0, .nil, .nil, .nil] false), (3, .var [.int .i64 p0.Width, .int .i64 p0.Height, dat 1 eI zI v1, dat 1 eI zI v3, .nil] false)] (fun t => aI (l_toIntS_ok p0.Rivers v3 h4) (t)) (by kernel_rfl) ?_
  obtain ⟨v5, h6, H⟩ := ofBind H
  refine seq_ops [.res (.c (dat 1 eI zI v5))] [] [(2, .c (.pk 2 0)), (3, .c (.pk 3 0))] [(2, .var [.int .i64 0, .int .i64 0, .nil, .nil, .nil] false), (3, .var [.int .i64 p0.Width, .int .i64 p0.Height, dat 1 eI zI v1, dat 1 eI zI v3, dat 1 eI zI v5] false)] (fun t => aI (l_toIntS_ok p0.Roads v5 h6) (t)) (by kernel_rfl) ?_
  refine seq_ops [] [] [(2, .c (.pk 2 0))] [(2, .var [.int .i64 p0.Width, .int .i64 p0.Height, dat 1 eI zI v1, dat 1 eI zI v3, dat 1 eI zI v5] false)] (fun t => t) (by kernel_rfl) ?_
  refine ends_ret ?_
  obtain rfl := Option.some.inj H
  exact And.intro (.inl rfl) rfl

def l_toBoard_ir : S :=
 (.seq (.ops [⟨some 1, .box 12 (.t 0), none⟩, ⟨some 2, .alloc [.nil, .nil, .int .i64 0, .int .i64 0, .int .i64 0, .int .i64 0, .int .i64 0, .int .i64 0, .int .i64 0, .nil, .nil, .nil], none⟩])
 (.seq (.ops [⟨some 3, .alloc [.nil, .nil, .int .i64 0, .int .i64 0, .int .i64 0, .int .i64 0, .int .i64 0, .int .i64 0, .int .i64 0, .nil, .nil, .nil], none⟩])
 (.seq (.ops [⟨some 4, .fad 0 (.t 1), none⟩, ⟨some 5, .load 7 true (.t 4), none⟩, ⟨some 6, .call 64 [.t 5], none⟩, ⟨some 7, .fad 0 (.t 3), none⟩, ⟨none, .store 7 (.t 7) (.t 6), none⟩])
 (.seq (.ops [⟨some 8, .fad 7 (.t 1), none⟩, ⟨some 9, .load 5 true (.t 8), none⟩, ⟨some 10, .call 65 [.t 9], none⟩, ⟨some 11, .fad 7 (.t 3), none⟩, ⟨none, .store 5 (.t 11) (.t 10), none⟩])
 (.seq (.ops [⟨some 12, .load 12 true (.t 3), none⟩, ⟨none, .store 12 (.t 2) (.t 12), none⟩])
 .ret)))))
noncomputable def X.l_toBoard (p0 : TBoard) : Option TBoard :=
  ((X.l_toRules p0.Rules).bind fun v1 => ((X.l_toMap p0.Map).bind fun v3 => some (TBoard.mk v1 v3)))
theorem l_toBoard_ok (p0 : TBoard) (r : TBoard) (H : X.l_toBoard p0 = some r) : FnOk Tryz.prog gl 15 [.agg (eTBoard p0)] (.agg (eTBoard r)) := by
  unfold X.l_toBoard at H
  refine fn_in (fn := Tryz.f15) (ir := l_toBoard_ir) (s1 := lit [(2, .c (.pk 2 0))] [(2, .var (eTBoard r) false)]) glL Tryz.func15 (by kernel_rfl) (by kernel_rfl) (by kernel_rfl) (by kernel_rfl) (by kernel_rfl) ?_
  refine seq_ops [] [] [(1, .c (.pk 1 0)), (2, .c (.pk 2 0))] [(1, .var (eTBoard p0) false), (2, .var [.nil, .nil, .int .i64 0, .int .i64 0, .int .i64 0, .int .i64 0, .int .i64 0, .int .i64 0, .int .i64 0, .nil, .nil, .nil] false)] (fun t => t) (by kernel_rfl) ?_
  refine seq_ops [] [] [(1, .c (.pk 1 0)), (2, .c (.pk 2 0)), (3, .c (.pk 3 0))] [(1, .var (eTBoard p0) false), (2, .var [.nil, .nil, .int .i64 0, .int .i64 0, .int .i64 0, .int .i64 0, .int .i64 0, .int .i64 0, .int .i64 0, .nil, .nil, .nil] false), (3, .var [.nil, .nil, .int .i64 0, .int .i64 0, .int .i64 0, .int .i64 0, .int .i64 0, .int .i64 0, .int .i64 0, .nil, .nil, .nil] false)] (fun t => t) (by kernel_rfl) ?_
  obtain ⟨v1, h2, H⟩ := ofBind H
  refine seq_ops [.res (.agg (eTRules v1))] [] [(1, .c (.pk 1 0)), (2, .c (.pk 2 0)), (3, .c (.pk 3 0))] [(1, .var (eTBoard p0) false), (2, .var [.nil, .nil, .int .i64 0, .int .i64 0, .int .i64 0, .int .i64 0, .int .i64 0, .int .i64 0, .int .i64 0, .nil, .nil, .nil] false), (3, .var [dat 5 eTTerrain zTTerrain v1.Terrains, dat 6 eTKind zTKind v1.Kinds, .int .i64 v1.Stack, .int .i64 v1.River, .int .i64 v1.Road, .int .i64 v1.Supply, .int .i64 v1.Turns, .int .i64 0, .int .i64 0, .nil, .nil, .nil] false)] (fun t => aI (l_toRules_ok p0.Rules v1 h2) (t)) (by kernel_rfl) ?_
  obtain ⟨v3, h4, H⟩ := ofBind H
  refine seq_ops [.res (.agg (eTMap v3))] [] [(2, .c (.pk 2 0)), (3, .c (.pk 3 0))] [(2, .var [.nil, .nil, .int .i64 0, .int .i64 0, .int .i64 0, .int .i64 0, .int .i64 0, .int .i64 0, .int .i64 0, .nil, .nil, .nil] false), (3, .var [dat 5 eTTerrain zTTerrain v1.Terrains, dat 6 eTKind zTKind v1.Kinds, .int .i64 v1.Stack, .int .i64 v1.River, .int .i64 v1.Road, .int .i64 v1.Supply, .int .i64 v1.Turns, .int .i64 v3.Width, .int .i64 v3.Height, dat 1 eI zI v3.Terrain, dat 1 eI zI v3.Rivers, dat 1 eI zI v3.Roads] false)] (fun t => aI (l_toMap_ok p0.Map v3 h4) (t)) (by kernel_rfl) ?_
  refine seq_ops [] [] [(2, .c (.pk 2 0))] [(2, .var [dat 5 eTTerrain zTTerrain v1.Terrains, dat 6 eTKind zTKind v1.Kinds, .int .i64 v1.Stack, .int .i64 v1.River, .int .i64 v1.Road, .int .i64 v1.Supply, .int .i64 v1.Turns, .int .i64 v3.Width, .int .i64 v3.Height, dat 1 eI zI v3.Terrain, dat 1 eI zI v3.Rivers, dat 1 eI zI v3.Roads] false)] (fun t => t) (by kernel_rfl) ?_
  refine ends_ret ?_
  obtain rfl := Option.some.inj H
  exact And.intro (.inl rfl) rfl

theorem l_toIntS_F_ok (p0 : (List Int)) (r : (List Int)) (H : X.l_toIntS p0 = some r) : FnOk Tryz.prog gl 82 [.c (dat 1 eI zI p0)] (.c (.fr (dat 1 eI zI r))) := by
  unfold X.l_toIntS at H
  refine fn_fr (fn := Tryz.f82) (ir := l_toIntS_ir) (s1 := lit [(2, .c (.own 900000 1 0 r.length))] [(900000, .arr 1 r.length (fF eI zI r) false)]) (res0 := .c (.own 900000 1 0 r.length)) glL Tryz.func82 (by kernel_rfl) (by kernel_rfl) (by kernel_rfl) (by kernel_rfl) (FrTo.own rfl (Nat.le_refl _) (fun i _ => ⟨rfl, rfl⟩)) ?_
  refine seq_ops [] [] [(0, .c (dat 1 eI zI p0))] [] (fun t => t) (by kernel_rfl) ?_
  obtain ⟨g1, H⟩ := ofIf H
  refine seq_ops [.fn (List.replicate (p0.length : Int).toNat zI).length (fF eI zI (List.replicate (p0.length : Int).toNat zI))] [] [(0, .c (dat 1 eI zI p0)), (3, .c (.own 7 1 0 ((List.replicate (p0.length : Int).toNat zI).length)))] [(7, .arr 1 ((List.replicate (p0.length : Int).toNat zI).length) (fF eI zI (List.replicate (p0.length : Int).toNat zI)) false)] (fun t => lI p0 (aI (And.intro g1.1 (And.intro (List.length_replicate (n := (p0.length : Int).toNat) (a := zI)).symm (Nat.le_trans (Nat.le_of_eq List.length_replicate) g1.2 : (List.replicate (p0.length : Int).toNat zI).length ≤ LIM))) (aI (fF_rep eI zI zI (p0.length : Int).toNat) (t)))) (by kernel_rfl) ?_
  refine seq_in ?_
  refine seq_ops [] [] [(0, .c (dat 1 eI zI p0)), (3, .c (.own 7 1 0 ((List.replicate (p0.length : Int).toNat zI).length))), (4, cI 0)] [(7, .arr 1 ((List.replicate (p0.length : Int).toNat zI).length) (fF eI zI (List.replicate (p0.length : Int).toNat zI)) false)] (fun t => t) (by kernel_rfl) ?_
  refine ends_blk ?_
  obtain ⟨y19, h20, H⟩ := ofBind H
  refine loop_in (fun (x : (Int × (List Int))) => lit [(0, .c (dat 1 eI zI p0)), (3, .c (.own 7 1 0 x.2.length)), (4, cI x.1)] [(7, .arr 1 x.2.length (fF eI zI x.2) false)]) (fun (z : (List Int)) => At (.exit 0) (lit [(3, .c (.own 7 1 0 z.length))] [(7, .arr 1 z.length (fF eI zI z) false)])) h20 ?_ ?_
  · clear H h20
    intro x13 y0 H
    refine seq_in ?_
    refine seq_ops [] [] [(0, .c (dat 1 eI zI p0)), (3, .c (.own 7 1 0 x13.2.length)), (4, cI x13.1), (11, cB (decide (x13.1 < (p0.length : Int))))] [(7, .arr 1 x13.2.length (fF eI zI x13.2) false)] (fun t => lI p0 (t)) (by kernel_rfl) ?_
    rcases ofCond H with ⟨c15, H⟩ | ⟨c15, H⟩
    · refine ite_t c15 (by kernel_rfl) ?_
      refine ends_skip ?_
      change EndsI _ _ _ _ _ _
      refine seq_in ?_
      refine ends_blk ?_
      obtain ⟨v16, h17, H⟩ := ofBind H
      obtain ⟨g18, H⟩ := ofIf H
      refine one_ops [.cs (eI v16), .no, .fn 0 (fF eI zI (x13.2.set x13.1.toNat v16))] [] [(0, .c (dat 1 eI zI p0)), (3, .c (.own 7 1 0 x13.2.length)), (4, cI x13.1)] [(7, .arr 1 x13.2.length (fF eI zI (x13.2.set x13.1.toNat v16)) false)] (fun t => aI (at_lt h17) (aI (at_enc (enc := eI) h17) (aI g18 (aI (rfl : true = true) (aI (nat_lt g18) (aI (by decide : 0 + 1 ≤ 1) (aI (fF_set eI zI x13.2 x13.1.toNat v16 (nat_lt g18) x13.2.length) (t)))))))) (by kernel_rfl) ?_
      change EndsI _ _ _ _ _ _
      refine one_ops [] [.rel 3 ((x13.2.set x13.1.toNat v16).length), .rep 7 ((x13.2.set x13.1.toNat v16).length) (fF eI zI (x13.2.set x13.1.toNat v16))] [(0, .c (dat 1 eI zI p0)), (3, .c (.own 7 1 0 ((x13.2.set x13.1.toNat v16).length))), (4, cI (W (x13.1 + 1)))] [(7, .arr 1 ((x13.2.set x13.1.toNat v16).length) (fF eI zI (x13.2.set x13.1.toNat v16)) false)] (fun t => aI (by simp : x13.2.length = (x13.2.set x13.1.toNat v16).length) (aI (Nat.le_of_eq (by simp : (x13.2.set x13.1.toNat v16).length = x13.2.length)) (aI (fun _ _ => rfl : ∀ i, i < (x13.2.set x13.1.toNat v16).length → (fF eI zI (x13.2.set x13.1.toNat v16)) i = (fF eI zI (x13.2.set x13.1.toNat v16)) i) (t)))) (by kernel_rfl) ?_
      obtain rfl := Option.some.inj H
      exact And.intro rfl rfl
    · refine ite_f c15 (by kernel_rfl) ?_
      refine tell [] [(3, .c (.own 7 1 0 x13.2.length))] [(7, .arr 1 x13.2.length (fF eI zI x13.2) false)] (fun t => t) (by kernel_rfl) ?_
      refine ends_exit ?_
      obtain rfl := Option.some.inj H
      exact And.intro (by simp) (And.intro rfl rfl)
  · clear h20
    intro e s q
    obtain ⟨rfl, rfl⟩ := q
    change EndsI _ _ _ _ _ _
    refine seq_ops [] [] [(2, .c (.own 7 1 0 y19.length))] [(7, .arr 1 y19.length (fF eI zI y19) false)] (fun t => t) (by kernel_rfl) ?_
    refine tell [.ren 7 900000] [(2, .c (.own 900000 1 0 y19.length))] [(900000, .arr 1 y19.length (fF eI zI y19) false)] (fun t => t) (by kernel_rfl) ?_
    refine ends_ret ?_
    obtain rfl := Option.some.inj H
    exact And.intro (.inl rfl) rfl

theorem l_toTerrain_F_ok (p0 : TTerrain) (r : TTerrain) (H : X.l_toTerrain p0 = some r) : FnOk Tryz.prog gl 179 [.agg (eTTerrain p0)] (.agg [.str r.Name, .fr (dat 1 eI zI r.Cost), .int .i64 r.Shift, .int .i64 r.Height, .bool r.Blocks]) := by
  unfold X.l_toTerrain at H
  refine fn_fr (fn := Tryz.f179) (ir := l_toTerrain_ir) (s1 := lit [(2, .c (.pk 2 0))] [(2, .var [.str r.Name, .fr (dat 1 eI zI r.Cost), .int .i64 r.Shift, .int .i64 r.Height, .bool r.Blocks] false)]) (res0 := .agg [.str r.Name, .fr (dat 1 eI zI r.Cost), .int .i64 r.Shift, .int .i64 r.Height, .bool r.Blocks]) glL Tryz.func179 (by kernel_rfl) (by kernel_rfl) (by kernel_rfl) (by kernel_rfl) ((And.intro ((.inl ⟨rfl, rfl⟩)) (And.intro ((.inl ⟨rfl, rfl⟩)) (And.intro ((.inl ⟨rfl, rfl⟩)) (And.intro ((.inl ⟨rfl, rfl⟩)) (And.intro ((.inl ⟨rfl, rfl⟩)) trivial)))))) ?_
  refine seq_ops [] [] [(1, .c (.pk 1 0)), (2, .c (.pk 2 0))] [(1, .var (eTTerrain p0) false), (2, .var [.str [], .nil, .int .i64 0, .int .i64 0, .bool false] false)] (fun t => t) (by kernel_rfl) ?_
  refine seq_ops [] [] [(1, .c (.pk 1 0)), (2, .c (.pk 2 0)), (3, .c (.pk 3 0))] [(1, .var (eTTerrain p0) false), (2, .var [.str [], .nil, .int .i64 0, .int .i64 0, .bool false] false), (3, .var [.str [], .nil, .int .i64 0, .int .i64 0, .bool false] false)] (fun t => t) (by kernel_rfl) ?_
  refine seq_ops [] [] [(1, .c (.pk 1 0)), (2, .c (.pk 2 0)), (3, .c (.pk 3 0))] [(1, .var (eTTerrain p0) false), (2, .var [.str [], .nil, .int .i64 0, .int .i64 0, .bool false] false), (3, .var [.str p0.Name, .nil, .int .i64 0, .int .i64 0, .bool false] false)] (fun t => t) (by kernel_rfl) ?_
  obtain ⟨v1, h2, H⟩ := ofBind H
  refine seq_ops [.res (.c (.fr (dat 1 eI zI v1)))] [] [(1, .c (.pk 1 0)), (2, .c (.pk 2 0)), (3, .c (.pk 3 0))] [(1, .var (eTTerrain p0) false), (2, .var [.str [], .nil, .int .i64 0, .int .i64 0, .bool false] false), (3, .var [.str p0.Name, .fr (dat 1 eI zI v1), .int .i64 0, .int .i64 0, .bool false] false)] (fun t => aI (l_toIntS_F_ok p0.Cost v1 h2) (t)) (by kernel_rfl) ?_
  refine seq_ops [] [] [(1, .c (.pk 1 0)), (2, .c (.pk 2 0)), (3, .c (.pk 3 0))] [(1, .var (eTTerrain p0) false), (2, .var [.str [], .nil, .int .i64 0, .int .i64 0, .bool false] false), (3, .var [.str p0.Name, .fr (dat 1 eI zI v1), .int .i64 p0.Shift, .int .i64 0, .bool false] false)] (fun t => t) (by kernel_rfl) ?_
  refine seq_ops [] [] [(1, .c (.pk 1 0)), (2, .c (.pk 2 0)), (3, .c (.pk 3 0))] [(1, .var (eTTerrain p0) false), (2, .var [.str [], .nil, .int .i64 0, .int .i64 0, .bool false] false), (3, .var [.str p0.Name, .fr (dat 1 eI zI v1), .int .i64 p0.Shift, .int .i64 p0.Height, .bool false] false)] (fun t => t) (by kernel_rfl) ?_
  refine seq_ops [] [] [(2, .c (.pk 2 0)), (3, .c (.pk 3 0))] [(2, .var [.str [], .nil, .int .i64 0, .int .i64 0, .bool false] false), (3, .var [.str p0.Name, .fr (dat 1 eI zI v1), .int .i64 p0.Shift, .int .i64 p0.Height, .bool p0.Blocks] false)] (fun t => t) (by kernel_rfl) ?_
  refine seq_ops [] [] [(2, .c (.pk 2 0))] [(2, .var [.str p0.Name, .fr (dat 1 eI zI v1), .int .i64 p0.Shift, .int .i64 p0.Height, .bool p0.Blocks] false)] (fun t => t) (by kernel_rfl) ?_
  refine ends_ret ?_
  obtain rfl := Option.some.inj H
  exact And.intro (.inl rfl) rfl

theorem l_toTerrainS_F_ok (p0 : (List TTerrain)) (r : (List TTerrain)) (H : X.l_toTerrainS p0 = some r) : FnOk Tryz.prog gl 128 [.c (dat 5 eTTerrain zTTerrain p0)] (.c (.fr (dat 5 eTTerrain zTTerrain r))) := by
  unfold X.l_toTerrainS at H
  refine fn_fr (fn := Tryz.f128) (ir := l_toTerrainS_ir) (s1 := lit [(2, .c (.own 900000 5 0 r.length))] [(900000, .arr 5 r.length (fF eTTerrainF zTTerrain r) false)]) (res0 := .c (.own 900000 5 0 r.length)) glL Tryz.func128 (by kernel_rfl) (by kernel_rfl) (by kernel_rfl) (by kernel_rfl) (FrTo.own rfl (Nat.le_refl _) (fun i _ => ⟨rfl, rfl⟩)) ?_
  refine seq_ops [] [] [(0, .c (dat 5 eTTerrain zTTerrain p0))] [] (fun t => t) (by kernel_rfl) ?_
  obtain ⟨g1, H⟩ := ofIf H
  refine seq_ops [.fn (List.replicate (p0.length : Int).toNat zTTerrain).length (fun _ => [.str [], .nil, .int .i64 0, .int .i64 0, .bool false])] [.rpw 7 (fF eTTerrainF zTTerrain (List.replicate (p0.length : Int).toNat zTTerrain))] [(0, .c (dat 5 eTTerrain zTTerrain p0)), (3, .c (.own 7 5 0 ((List.replicate (p0.length : Int).toNat zTTerrain).length)))] [(7, .arr 5 ((List.replicate (p0.length : Int).toNat zTTerrain).length) (fF eTTerrainF zTTerrain (List.replicate (p0.length : Int).toNat zTTerrain)) false)] (fun t => lI p0 (aI (And.intro g1.1 (And.intro (List.length_replicate (n := (p0.length : Int).toNat) (a := zTTerrain)).symm (Nat.le_trans (Nat.le_of_eq List.length_replicate) g1.2 : (List.replicate (p0.length : Int).toNat zTTerrain).length ≤ LIM))) (aI (fun _ _ => rfl : ∀ i, i < (List.replicate (p0.length : Int).toNat zTTerrain).length → (fun (_ : Nat) => ([.str [], .nil, .int .i64 0, .int .i64 0, .bool false] : List AC)) i = [.str [], .nil, .int .i64 0, .int .i64 0, .bool false]) (aI (fun i hi => (fF_rep eTTerrainF zTTerrain zTTerrain (p0.length : Int).toNat i hi) ▸ nTTerrainF : ∀ i, i < (List.replicate (p0.length : Int).toNat zTTerrain).length → LeR ((fun (_ : Nat) => ([.str [], .nil, .int .i64 0, .int .i64 0, .bool false] : List AC)) i) ((fF eTTerrainF zTTerrain (List.replicate (p0.length : Int).toNat zTTerrain)) i)) (t))))) (by kernel_rfl) ?_
  refine seq_in ?_
  refine seq_ops [] [] [(0, .c (dat 5 eTTerrain zTTerrain p0)), (3, .c (.own 7 5 0 ((List.replicate (p0.length : Int).toNat zTTerrain).length))), (4, cI 0)] [(7, .arr 5 ((List.replicate (p0.length : Int).toNat zTTerrain).length) (fF eTTerrainF zTTerrain (List.replicate (p0.length : Int).toNat zTTerrain)) false)] (fun t => t) (by kernel_rfl) ?_
  refine ends_blk ?_
  obtain ⟨y25, h26, H⟩ := ofBind H
  refine loop_in (fun (x : (Int × (List TTerrain))) => lit [(0, .c (dat 5 eTTerrain zTTerrain p0)), (3, .c (.own 7 5 0 x.2.length)), (4, cI x.1)] [(7, .arr 5 x.2.length (fF eTTerrainF zTTerrain x.2) false)]) (fun (z : (List TTerrain)) => At (.exit 0) (lit [(3, .c (.own 7 5 0 z.length))] [(7, .arr 5 z.length (fF eTTerrainF zTTerrain z) false)])) h26 ?_ ?_
  · clear H h26
    intro x17 y0 H
    refine seq_in ?_
    refine seq_ops [] [] [(0, .c (dat 5 eTTerrain zTTerrain p0)), (3, .c (.own 7 5 0 x17.2.length)), (4, cI x17.1), (11, cB (decide (x17.1 < (p0.length : Int))))] [(7, .arr 5 x17.2.length (fF eTTerrainF zTTerrain x17.2) false)] (fun t => lI p0 (t)) (by kernel_rfl) ?_
    rcases ofCond H with ⟨c19, H⟩ | ⟨c19, H⟩
    · refine ite_t c19 (by kernel_rfl) ?_
      refine ends_skip ?_
      change EndsI _ _ _ _ _ _
      refine seq_in ?_
      refine ends_blk ?_
      obtain ⟨v20, h21, H⟩ := ofBind H
      obtain ⟨v22, h23, H⟩ := ofBind H
      obtain ⟨g24, H⟩ := ofIf H
      refine one_ops [.cs (eTTerrain v20), .res (.agg [.str v22.Name, .fr (dat 1 eI zI v22.Cost), .int .i64 v22.Shift, .int .i64 v22.Height, .bool v22.Blocks]), .no, .fn 0 (fF eTTerrainF zTTerrain (x17.2.set x17.1.toNat v22))] [] [(0, .c (dat 5 eTTerrain zTTerrain p0)), (3, .c (.own 7 5 0 x17.2.length)), (4, cI x17.1)] [(7, .arr 5 x17.2.length (fF eTTerrainF zTTerrain (x17.2.set x17.1.toNat v22)) false)] (fun t => aI (at_lt h21) (aI (at_enc (enc := eTTerrain) h21) (aI (l_toTerrain_F_ok v20 v22 h23) (aI g24 (aI (rfl : true = true) (aI (nat_lt g24) (aI (by decide : 0 + 5 ≤ 5) (aI (fF_set eTTerrainF zTTerrain x17.2 x17.1.toNat v22 (nat_lt g24) x17.2.length) (t))))))))) (by kernel_rfl) ?_
      change EndsI _ _ _ _ _ _
      refine one_ops [] [.rel 3 ((x17.2.set x17.1.toNat v22).length), .rep 7 ((x17.2.set x17.1.toNat v22).length) (fF eTTerrainF zTTerrain (x17.2.set x17.1.toNat v22))] [(0, .c (dat 5 eTTerrain zTTerrain p0)), (3, .c (.own 7 5 0 ((x17.2.set x17.1.toNat v22).length))), (4, cI (W (x17.1 + 1)))] [(7, .arr 5 ((x17.2.set x17.1.toNat v22).length) (fF eTTerrainF zTTerrain (x17.2.set x17.1.toNat v22)) false)] (fun t => aI (by simp : x17.2.length = (x17.2.set x17.1.toNat v22).length) (aI (Nat.le_of_eq (by simp : (x17.2.set x17.1.toNat v22).length = x17.2.length)) (aI (fun _ _ => rfl : ∀ i, i < (x17.2.set x17.1.toNat v22).length → (fF eTTerrainF zTTerrain (x17.2.set x17.1.toNat v22)) i = (fF eTTerrainF zTTerrain (x17.2.set x17.1.toNat v22)) i) (t)))) (by kernel_rfl) ?_
      obtain rfl := Option.some.inj H
      exact And.intro rfl rfl
    · refine ite_f c19 (by kernel_rfl) ?_
      refine tell [] [(3, .c (.own 7 5 0 x17.2.length))] [(7, .arr 5 x17.2.length (fF eTTerrainF zTTerrain x17.2) false)] (fun t => t) (by kernel_rfl) ?_
      refine ends_exit ?_
      obtain rfl := Option.some.inj H
      exact And.intro (by simp) (And.intro rfl rfl)
  · clear h26
    intro e s q
    obtain ⟨rfl, rfl⟩ := q
    change EndsI _ _ _ _ _ _
    refine seq_ops [] [] [(2, .c (.own 7 5 0 y25.length))] [(7, .arr 5 y25.length (fF eTTerrainF zTTerrain y25) false)] (fun t => t) (by kernel_rfl) ?_
    refine tell [.ren 7 900000] [(2, .c (.own 900000 5 0 y25.length))] [(900000, .arr 5 y25.length (fF eTTerrainF zTTerrain y25) false)] (fun t => t) (by kernel_rfl) ?_
    refine ends_ret ?_
    obtain rfl := Option.some.inj H
    exact And.intro (.inl rfl) rfl

theorem l_toKindS_F_ok (p0 : (List TKind)) (r : (List TKind)) (H : X.l_toKindS p0 = some r) : FnOk Tryz.prog gl 129 [.c (dat 6 eTKind zTKind p0)] (.c (.fr (dat 6 eTKind zTKind r))) := by
  unfold X.l_toKindS at H
  refine fn_fr (fn := Tryz.f129) (ir := l_toKindS_ir) (s1 := lit [(2, .c (.own 900000 6 0 r.length))] [(900000, .arr 6 r.length (fF eTKind zTKind r) false)]) (res0 := .c (.own 900000 6 0 r.length)) glL Tryz.func129 (by kernel_rfl) (by kernel_rfl) (by kernel_rfl) (by kernel_rfl) (FrTo.own rfl (Nat.le_refl _) (fun i _ => ⟨rfl, rfl⟩)) ?_
  refine seq_ops [] [] [(0, .c (dat 6 eTKind zTKind p0))] [] (fun t => t) (by kernel_rfl) ?_
  obtain ⟨g1, H⟩ := ofIf H
  refine seq_ops [.fn (List.replicate (p0.length : Int).toNat zTKind).length (fF eTKind zTKind (List.replicate (p0.length : Int).toNat zTKind))] [] [(0, .c (dat 6 eTKind zTKind p0)), (3, .c (.own 7 6 0 ((List.replicate (p0.length : Int).toNat zTKind).length)))] [(7, .arr 6 ((List.replicate (p0.length : Int).toNat zTKind).length) (fF eTKind zTKind (List.replicate (p0.length : Int).toNat zTKind)) false)] (fun t => lI p0 (aI (And.intro g1.1 (And.intro (List.length_replicate (n := (p0.length : Int).toNat) (a := zTKind)).symm (Nat.le_trans (Nat.le_of_eq List.length_replicate) g1.2 : (List.replicate (p0.length : Int).toNat zTKind).length ≤ LIM))) (aI (fF_rep eTKind zTKind zTKind (p0.length : Int).toNat) (t)))) (by kernel_rfl) ?_
  refine seq_in ?_
  refine seq_ops [] [] [(0, .c (dat 6 eTKind zTKind p0)), (3, .c (.own 7 6 0 ((List.replicate (p0.length : Int).toNat zTKind).length))), (4, cI 0)] [(7, .arr 6 ((List.replicate (p0.length : Int).toNat zTKind).length) (fF eTKind zTKind (List.replicate (p0.length : Int).toNat zTKind)) false)] (fun t => t) (by kernel_rfl) ?_
  refine ends_blk ?_
  obtain ⟨y25, h26, H⟩ := ofBind H
  refine loop_in (fun (x : (Int × (List TKind))) => lit [(0, .c (dat 6 eTKind zTKind p0)), (3, .c (.own 7 6 0 x.2.length)), (4, cI x.1)] [(7, .arr 6 x.2.length (fF eTKind zTKind x.2) false)]) (fun (z : (List TKind)) => At (.exit 0) (lit [(3, .c (.own 7 6 0 z.length))] [(7, .arr 6 z.length (fF eTKind zTKind z) false)])) h26 ?_ ?_
  · clear H h26
    intro x17 y0 H
    refine seq_in ?_
    refine seq_ops [] [] [(0, .c (dat 6 eTKind zTKind p0)), (3, .c (.own 7 6 0 x17.2.length)), (4, cI x17.1), (11, cB (decide (x17.1 < (p0.length : Int))))] [(7, .arr 6 x17.2.length (fF eTKind zTKind x17.2) false)] (fun t => lI p0 (t)) (by kernel_rfl) ?_
    rcases ofCond H with ⟨c19, H⟩ | ⟨c19, H⟩
    · refine ite_t c19 (by kernel_rfl) ?_
      refine ends_skip ?_
      change EndsI _ _ _ _ _ _
      refine seq_in ?_
      refine ends_blk ?_
      obtain ⟨v20, h21, H⟩ := ofBind H
      obtain ⟨v22, h23, H⟩ := ofBind H
      obtain ⟨g24, H⟩ := ofIf H
      refine one_ops [.cs (eTKind v20), .res (.agg (eTKind v22)), .no, .fn 0 (fF eTKind zTKind (x17.2.set x17.1.toNat v22))] [] [(0, .c (dat 6 eTKind zTKind p0)), (3, .c (.own 7 6 0 x17.2.length)), (4, cI x17.1)] [(7, .arr 6 x17.2.length (fF eTKind zTKind (x17.2.set x17.1.toNat v22)) false)] (fun t => aI (at_lt h21) (aI (at_enc (enc := eTKind) h21) (aI (l_toKind_ok v20 v22 h23) (aI g24 (aI (rfl : true = true) (aI (nat_lt g24) (aI (by decide : 0 + 6 ≤ 6) (aI (fF_set eTKind zTKind x17.2 x17.1.toNat v22 (nat_lt g24) x17.2.length) (t))))))))) (by kernel_rfl) ?_
      change EndsI _ _ _ _ _ _
      refine one_ops [] [.rel 3 ((x17.2.set x17.1.toNat v22).length), .rep 7 ((x17.2.set x17.1.toNat v22).length) (fF eTKind zTKind (x17.2.set x17.1.toNat v22))] [(0, .c (dat 6 eTKind zTKind p0)), (3, .c (.own 7 6 0 ((x17.2.set x17.1.toNat v22).length))), (4, cI (W (x17.1 + 1)))] [(7, .arr 6 ((x17.2.set x17.1.toNat v22).length) (fF eTKind zTKind (x17.2.set x17.1.toNat v22)) false)] (fun t => aI (by simp : x17.2.length = (x17.2.set x17.1.toNat v22).length) (aI (Nat.le_of_eq (by simp : (x17.2.set x17.1.toNat v22).length = x17.2.length)) (aI (fun _ _ => rfl : ∀ i, i < (x17.2.set x17.1.toNat v22).length → (fF eTKind zTKind (x17.2.set x17.1.toNat v22)) i = (fF eTKind zTKind (x17.2.set x17.1.toNat v22)) i) (t)))) (by kernel_rfl) ?_
      obtain rfl := Option.some.inj H
      exact And.intro rfl rfl
    · refine ite_f c19 (by kernel_rfl) ?_
      refine tell [] [(3, .c (.own 7 6 0 x17.2.length))] [(7, .arr 6 x17.2.length (fF eTKind zTKind x17.2) false)] (fun t => t) (by kernel_rfl) ?_
      refine ends_exit ?_
      obtain rfl := Option.some.inj H
      exact And.intro (by simp) (And.intro rfl rfl)
  · clear h26
    intro e s q
    obtain ⟨rfl, rfl⟩ := q
    change EndsI _ _ _ _ _ _
    refine seq_ops [] [] [(2, .c (.own 7 6 0 y25.length))] [(7, .arr 6 y25.length (fF eTKind zTKind y25) false)] (fun t => t) (by kernel_rfl) ?_
    refine tell [.ren 7 900000] [(2, .c (.own 900000 6 0 y25.length))] [(900000, .arr 6 y25.length (fF eTKind zTKind y25) false)] (fun t => t) (by kernel_rfl) ?_
    refine ends_ret ?_
    obtain rfl := Option.some.inj H
    exact And.intro (.inl rfl) rfl

theorem l_toRules_F_ok (p0 : TRules) (r : TRules) (H : X.l_toRules p0 = some r) : FnOk Tryz.prog gl 64 [.agg (eTRules p0)] (.agg [.fr (dat 5 eTTerrain zTTerrain r.Terrains), .fr (dat 6 eTKind zTKind r.Kinds), .int .i64 r.Stack, .int .i64 r.River, .int .i64 r.Road, .int .i64 r.Supply, .int .i64 r.Turns]) := by
  unfold X.l_toRules at H
  refine fn_fr (fn := Tryz.f64) (ir := l_toRules_ir) (s1 := lit [(2, .c (.pk 2 0))] [(2, .var [.fr (dat 5 eTTerrain zTTerrain r.Terrains), .fr (dat 6 eTKind zTKind r.Kinds), .int .i64 r.Stack, .int .i64 r.River, .int .i64 r.Road, .int .i64 r.Supply, .int .i64 r.Turns] false)]) (res0 := .agg [.fr (dat 5 eTTerrain zTTerrain r.Terrains), .fr (dat 6 eTKind zTKind r.Kinds), .int .i64 r.Stack, .int .i64 r.River, .int .i64 r.Road, .int .i64 r.Supply, .int .i64 r.Turns]) glL Tryz.func64 (by kernel_rfl) (by kernel_rfl) (by kernel_rfl) (by kernel_rfl) ((And.intro ((.inl ⟨rfl, rfl⟩)) (And.intro ((.inl ⟨rfl, rfl⟩)) (And.intro ((.inl ⟨rfl, rfl⟩)) (And.intro ((.inl ⟨rfl, rfl⟩)) (And.intro ((.inl ⟨rfl, rfl⟩)) (And.intro ((.inl ⟨rfl, rfl⟩)) (And.intro ((.inl ⟨rfl, rfl⟩)) trivial)))))))) ?_
  refine seq_ops [] [] [(1, .c (.pk 1 0)), (2, .c (.pk 2 0))] [(1, .var (eTRules p0) false), (2, .var [.nil, .nil, .int .i64 0, .int .i64 0, .int .i64 0, .int .i64 0, .int .i64 0] false)] (fun t => t) (by kernel_rfl) ?_
  refine seq_ops [] [] [(1, .c (.pk 1 0)), (2, .c (.pk 2 0)), (3, .c (.pk 3 0))] [(1, .var (eTRules p0) false), (2, .var [.nil, .nil, .int .i64 0, .int .i64 0, .int .i64 0, .int .i64 0, .int .i64 0] false), (3, .var [.nil, .nil, .int .i64 0, .int .i64 0, .int .i64 0, .int .i64 0, .int .i64 0] false)] (fun t => t) (by kernel_rfl) ?_
  obtain ⟨v1, h2, H⟩ := ofBind H
  refine seq_ops [.res (.c (.fr (dat 5 eTTerrain zTTerrain v1)))] [] [(1, .c (.pk 1 0)), (2, .c (.pk 2 0)), (3, .c (.pk 3 0))] [(1, .var (eTRules p0) false), (2, .var [.nil, .nil, .int .i64 0, .int .i64 0, .int .i64 0, .int .i64 0, .int .i64 0] false), (3, .var [.fr (dat 5 eTTerrain zTTerrain v1), .nil, .int .i64 0, .int .i64 0, .int .i64 0, .int .i64 0, .int .i64 0] false)] (fun t => aI (l_toTerrainS_F_ok p0.Terrains v1 h2) (t)) (by kernel_rfl) ?_
  obtain ⟨v3, h4, H⟩ := ofBind H
  refine seq_ops [.res (.c (.fr (dat 6 eTKind zTKind v3)))] [] [(1, .c (.pk 1 0)), (2, .c (.pk 2 0)), (3, .c (.pk 3 0))] [(1, .var (eTRules p0) false), (2, .var [.nil, .nil, .int .i64 0, .int .i64 0, .int .i64 0, .int .i64 0, .int .i64 0] false), (3, .var [.fr (dat 5 eTTerrain zTTerrain v1), .fr (dat 6 eTKind zTKind v3), .int .i64 0, .int .i64 0, .int .i64 0, .int .i64 0, .int .i64 0] false)] (fun t => aI (l_toKindS_F_ok p0.Kinds v3 h4) (t)) (by kernel_rfl) ?_
  refine seq_ops [] [] [(1, .c (.pk 1 0)), (2, .c (.pk 2 0)), (3, .c (.pk 3 0))] [(1, .var (eTRules p0) false), (2, .var [.nil, .nil, .int .i64 0, .int .i64 0, .int .i64 0, .int .i64 0, .int .i64 0] false), (3, .var [.fr (dat 5 eTTerrain zTTerrain v1), .fr (dat 6 eTKind zTKind v3), .int .i64 p0.Stack, .int .i64 0, .int .i64 0, .int .i64 0, .int .i64 0] false)] (fun t => t) (by kernel_rfl) ?_
  refine seq_ops [] [] [(1, .c (.pk 1 0)), (2, .c (.pk 2 0)), (3, .c (.pk 3 0))] [(1, .var (eTRules p0) false), (2, .var [.nil, .nil, .int .i64 0, .int .i64 0, .int .i64 0, .int .i64 0, .int .i64 0] false), (3, .var [.fr (dat 5 eTTerrain zTTerrain v1), .fr (dat 6 eTKind zTKind v3), .int .i64 p0.Stack, .int .i64 p0.River, .int .i64 0, .int .i64 0, .int .i64 0] false)] (fun t => t) (by kernel_rfl) ?_
  refine seq_ops [] [] [(1, .c (.pk 1 0)), (2, .c (.pk 2 0)), (3, .c (.pk 3 0))] [(1, .var (eTRules p0) false), (2, .var [.nil, .nil, .int .i64 0, .int .i64 0, .int .i64 0, .int .i64 0, .int .i64 0] false), (3, .var [.fr (dat 5 eTTerrain zTTerrain v1), .fr (dat 6 eTKind zTKind v3), .int .i64 p0.Stack, .int .i64 p0.River, .int .i64 p0.Road, .int .i64 0, .int .i64 0] false)] (fun t => t) (by kernel_rfl) ?_
  refine seq_ops [] [] [(1, .c (.pk 1 0)), (2, .c (.pk 2 0)), (3, .c (.pk 3 0))] [(1, .var (eTRules p0) false), (2, .var [.nil, .nil, .int .i64 0, .int .i64 0, .int .i64 0, .int .i64 0, .int .i64 0] false), (3, .var [.fr (dat 5 eTTerrain zTTerrain v1), .fr (dat 6 eTKind zTKind v3), .int .i64 p0.Stack, .int .i64 p0.River, .int .i64 p0.Road, .int .i64 p0.Supply, .int .i64 0] false)] (fun t => t) (by kernel_rfl) ?_
  refine seq_ops [] [] [(2, .c (.pk 2 0)), (3, .c (.pk 3 0))] [(2, .var [.nil, .nil, .int .i64 0, .int .i64 0, .int .i64 0, .int .i64 0, .int .i64 0] false), (3, .var [.fr (dat 5 eTTerrain zTTerrain v1), .fr (dat 6 eTKind zTKind v3), .int .i64 p0.Stack, .int .i64 p0.River, .int .i64 p0.Road, .int .i64 p0.Supply, .int .i64 p0.Turns] false)] (fun t => t) (by kernel_rfl) ?_
  refine seq_ops [] [] [(2, .c (.pk 2 0))] [(2, .var [.fr (dat 5 eTTerrain zTTerrain v1), .fr (dat 6 eTKind zTKind v3), .int .i64 p0.Stack, .int .i64 p0.River, .int .i64 p0.Road, .int .i64 p0.Supply, .int .i64 p0.Turns] false)] (fun t => t) (by kernel_rfl) ?_
  refine ends_ret ?_
  obtain rfl := Option.some.inj H
  exact And.intro (.inl rfl) rfl

theorem l_toMap_F_ok (p0 : TMap) (r : TMap) (H : X.l_toMap p0 = some r) : FnOk Tryz.prog gl 65 [.agg (eTMap p0)] (.agg [.int .i64 r.Width, .int .i64 r.Height, .fr (dat 1 eI zI r.Terrain), .fr (dat 1 eI zI r.Rivers), .fr (dat 1 eI zI r.Roads)]) := by
  unfold X.l_toMap at H
  refine fn_fr (fn := Tryz.f65) (ir := l_toMap_ir) (s1 := lit [(2, .c (.pk 2 0))] [(2, .var [.int .i64 r.Width, .int .i64 r.Height, .fr (dat 1 eI zI r.Terrain), .fr (dat 1 eI zI r.Rivers), .fr (dat 1 eI zI r.Roads)] false)]) (res0 := .agg [.int .i64 r.Width, .int .i64 r.Height, .fr (dat 1 eI zI r.Terrain), .fr (dat 1 eI zI r.Rivers), .fr (dat 1 eI zI r.Roads)]) glL Tryz.func65 (by kernel_rfl) (by kernel_rfl) (by kernel_rfl) (by kernel_rfl) ((And.intro ((.inl ⟨rfl, rfl⟩)) (And.intro ((.inl ⟨rfl, rfl⟩)) (And.intro ((.inl ⟨rfl, rfl⟩)) (And.intro ((.inl ⟨rfl, rfl⟩)) (And.intro ((.inl ⟨rfl, rfl⟩)) trivial)))))) ?_
  refine seq_ops [] [] [(1, .c (.pk 1 0)), (2, .c (.pk 2 0))] [(1, .var (eTMap p0) false), (2, .var [.int .i64 0, .int .i64 0, .nil, .nil, .nil] false)] (fun t => t) (by kernel_rfl) ?_
  refine seq_ops [] [] [(1, .c (.pk 1 0)), (2, .c (.pk 2 0)), (3, .c (.pk 3 0))] [(1, .var (eTMap p0) false), (2, .var [.int .i64 0, .int .i64 0, .nil, .nil, .nil] false), (3, .var [.int .i64 0, .int .i64 0, .nil, .nil, .nil] false)] (fun t => t) (by kernel_rfl) ?_
  refine seq_ops [] [] [(1, .c (.pk 1 0)), (2, .c (.pk 2 0)), (3, .c (.pk 3 0))] [(1, .var (eTMap p0) false), (2, .var [.int .i64 0, .int .i64 0, .nil, .nil, .nil] false), (3, .var [.int .i64 p0.Width, .int .i64 0, .nil, .nil, .nil] false)] (fun t => t) (by kernel_rfl) ?_
  refine seq_ops [] [] [(1, .c (.pk 1 0)), (2, .c (.pk 2 0)), (3, .c (.pk 3 0))] [(1, .var (eTMap p0) false), (2, .var [.int .i64 0, .int .i64 0, .nil, .nil, .nil] false), (3, .var [.int .i64 p0.Width, .int .i64 p0.Height, .nil, .nil, .nil] false)] (fun t => t) (by kernel_rfl) ?_
  obtain ⟨v1, h2, H⟩ := ofBind H
  refine seq_ops [.res (.c (.fr (dat 1 eI zI v1)))] [] [(1, .c (.pk 1 0)), (2, .c (.pk 2 0)), (3, .c (.pk 3 0))] [(1, .var (eTMap p0) false), (2, .var [.int .i64 0, .int .i64 0, .nil, .nil, .nil] false), (3, .var [.int .i64 p0.Width, .int .i64 p0.Height, .fr (dat 1 eI zI v1), .nil, .nil] false)] (fun t => aI (l_toIntS_F_ok p0.Terrain v1 h2) (t)) (by kernel_rfl) ?_
  obtain ⟨v3, h4, H⟩ := ofBind H
  refine seq_ops [.res (.c (.fr (dat 1 eI zI v3)))] [] [(1, .c (.pk 1 0)), (2, .c (.pk 2 0)), (3, .c (.pk 3 0))] [(1, .var (eTMap p0) false), (2, .var [.int .i64 0, .int .i64 0, .nil, .nil, .nil] false), (3, .var [.int .i64 p0.Width, .int .i64 p0.Height, .fr (dat 1 eI zI v1), .fr (dat 1 eI zI v3), .nil] false)] (fun t => aI (l_toIntS_F_ok p0.Rivers v3 h4) (t)) (by kernel_rfl) ?_
  obtain ⟨v5, h6, H⟩ := ofBind H
  refine seq_ops [.res (.c (.fr (dat 1 eI zI v5)))] [] [(2, .c (.pk 2 0)), (3, .c (.pk 3 0))] [(2, .var [.int .i64 0, .int .i64 0, .nil, .nil, .nil] false), (3, .var [.int .i64 p0.Width, .int .i64 p0.Height, .fr (dat 1 eI zI v1), .fr (dat 1 eI zI v3), .fr (dat 1 eI zI v5)] false)] (fun t => aI (l_toIntS_F_ok p0.Roads v5 h6) (t)) (by kernel_rfl) ?_
  refine seq_ops [] [] [(2, .c (.pk 2 0))] [(2, .var [.int .i64 p0.Width, .int .i64 p0.Height, .fr (dat 1 eI zI v1), .fr (dat 1 eI zI v3), .fr (dat 1 eI zI v5)] false)] (fun t => t) (by kernel_rfl) ?_
  refine ends_ret ?_
  obtain rfl := Option.some.inj H
  exact And.intro (.inl rfl) rfl

theorem l_toBoard_F_ok (p0 : TBoard) (r : TBoard) (H : X.l_toBoard p0 = some r) : FnOk Tryz.prog gl 15 [.agg (eTBoard p0)] (.agg [.fr (dat 5 eTTerrain zTTerrain r.Rules.Terrains), .fr (dat 6 eTKind zTKind r.Rules.Kinds), .int .i64 r.Rules.Stack, .int .i64 r.Rules.River, .int .i64 r.Rules.Road, .int .i64 r.Rules.Supply, .int .i64 r.Rules.Turns, .int .i64 r.Map.Width, .int .i64 r.Map.Height, .fr (dat 1 eI zI r.Map.Terrain), .fr (dat 1 eI zI r.Map.Rivers), .fr (dat 1 eI zI r.Map.Roads)]) := by
  unfold X.l_toBoard at H
  refine fn_fr (fn := Tryz.f15) (ir := l_toBoard_ir) (s1 := lit [(2, .c (.pk 2 0))] [(2, .var [.fr (dat 5 eTTerrain zTTerrain r.Rules.Terrains), .fr (dat 6 eTKind zTKind r.Rules.Kinds), .int .i64 r.Rules.Stack, .int .i64 r.Rules.River, .int .i64 r.Rules.Road, .int .i64 r.Rules.Supply, .int .i64 r.Rules.Turns, .int .i64 r.Map.Width, .int .i64 r.Map.Height, .fr (dat 1 eI zI r.Map.Terrain), .fr (dat 1 eI zI r.Map.Rivers), .fr (dat 1 eI zI r.Map.Roads)] false)]) (res0 := .agg [.fr (dat 5 eTTerrain zTTerrain r.Rules.Terrains), .fr (dat 6 eTKind zTKind r.Rules.Kinds), .int .i64 r.Rules.Stack, .int .i64 r.Rules.River, .int .i64 r.Rules.Road, .int .i64 r.Rules.Supply, .int .i64 r.Rules.Turns, .int .i64 r.Map.Width, .int .i64 r.Map.Height, .fr (dat 1 eI zI r.Map.Terrain), .fr (dat 1 eI zI r.Map.Rivers), .fr (dat 1 eI zI r.Map.Roads)]) glL Tryz.func15 (by kernel_rfl) (by kernel_rfl) (by kernel_rfl) (by kernel_rfl) ((And.intro ((.inl ⟨rfl, rfl⟩)) (And.intro ((.inl ⟨rfl, rfl⟩)) (And.intro ((.inl ⟨rfl, rfl⟩)) (And.intro ((.inl ⟨rfl, rfl⟩)) (And.intro ((.inl ⟨rfl, rfl⟩)) (And.intro ((.inl ⟨rfl, rfl⟩)) (And.intro ((.inl ⟨rfl, rfl⟩)) (And.intro ((.inl ⟨rfl, rfl⟩)) (And.intro ((.inl ⟨rfl, rfl⟩)) (And.intro ((.inl ⟨rfl, rfl⟩)) (And.intro ((.inl ⟨rfl, rfl⟩)) (And.intro ((.inl ⟨rfl, rfl⟩)) trivial))))))))))))) ?_
  refine seq_ops [] [] [(1, .c (.pk 1 0)), (2, .c (.pk 2 0))] [(1, .var (eTBoard p0) false), (2, .var [.nil, .nil, .int .i64 0, .int .i64 0, .int .i64 0, .int .i64 0, .int .i64 0, .int .i64 0, .int .i64 0, .nil, .nil, .nil] false)] (fun t => t) (by kernel_rfl) ?_
  refine seq_ops [] [] [(1, .c (.pk 1 0)), (2, .c (.pk 2 0)), (3, .c (.pk 3 0))] [(1, .var (eTBoard p0) false), (2, .var [.nil, .nil, .int .i64 0, .int .i64 0, .int .i64 0, .int .i64 0, .int .i64 0, .int .i64 0, .int .i64 0, .nil, .nil, .nil] false), (3, .var [.nil, .nil, .int .i64 0, .int .i64 0, .int .i64 0, .int .i64 0, .int .i64 0, .int .i64 0, .int .i64 0, .nil, .nil, .nil] false)] (fun t => t) (by kernel_rfl) ?_
  obtain ⟨v1, h2, H⟩ := ofBind H
  refine seq_ops [.res (.agg [.fr (dat 5 eTTerrain zTTerrain v1.Terrains), .fr (dat 6 eTKind zTKind v1.Kinds), .int .i64 v1.Stack, .int .i64 v1.River, .int .i64 v1.Road, .int .i64 v1.Supply, .int .i64 v1.Turns])] [] [(1, .c (.pk 1 0)), (2, .c (.pk 2 0)), (3, .c (.pk 3 0))] [(1, .var (eTBoard p0) false), (2, .var [.nil, .nil, .int .i64 0, .int .i64 0, .int .i64 0, .int .i64 0, .int .i64 0, .int .i64 0, .int .i64 0, .nil, .nil, .nil] false), (3, .var [.fr (dat 5 eTTerrain zTTerrain v1.Terrains), .fr (dat 6 eTKind zTKind v1.Kinds), .int .i64 v1.Stack, .int .i64 v1.River, .int .i64 v1.Road, .int .i64 v1.Supply, .int .i64 v1.Turns, .int .i64 0, .int .i64 0, .nil, .nil, .nil] false)] (fun t => aI (l_toRules_F_ok p0.Rules v1 h2) (t)) (by kernel_rfl) ?_
  obtain ⟨v3, h4, H⟩ := ofBind H
  refine seq_ops [.res (.agg [.int .i64 v3.Width, .int .i64 v3.Height, .fr (dat 1 eI zI v3.Terrain), .fr (dat 1 eI zI v3.Rivers), .fr (dat 1 eI zI v3.Roads)])] [] [(2, .c (.pk 2 0)), (3, .c (.pk 3 0))] [(2, .var [.nil, .nil, .int .i64 0, .int .i64 0, .int .i64 0, .int .i64 0, .int .i64 0, .int .i64 0, .int .i64 0, .nil, .nil, .nil] false), (3, .var [.fr (dat 5 eTTerrain zTTerrain v1.Terrains), .fr (dat 6 eTKind zTKind v1.Kinds), .int .i64 v1.Stack, .int .i64 v1.River, .int .i64 v1.Road, .int .i64 v1.Supply, .int .i64 v1.Turns, .int .i64 v3.Width, .int .i64 v3.Height, .fr (dat 1 eI zI v3.Terrain), .fr (dat 1 eI zI v3.Rivers), .fr (dat 1 eI zI v3.Roads)] false)] (fun t => aI (l_toMap_F_ok p0.Map v3 h4) (t)) (by kernel_rfl) ?_
  refine seq_ops [] [] [(2, .c (.pk 2 0))] [(2, .var [.fr (dat 5 eTTerrain zTTerrain v1.Terrains), .fr (dat 6 eTKind zTKind v1.Kinds), .int .i64 v1.Stack, .int .i64 v1.River, .int .i64 v1.Road, .int .i64 v1.Supply, .int .i64 v1.Turns, .int .i64 v3.Width, .int .i64 v3.Height, .fr (dat 1 eI zI v3.Terrain), .fr (dat 1 eI zI v3.Rivers), .fr (dat 1 eI zI v3.Roads)] false)] (fun t => t) (by kernel_rfl) ?_
  refine ends_ret ?_
  obtain rfl := Option.some.inj H
  exact And.intro (.inl rfl) rfl

def l_eqIntS_ir : S :=
 (.seq (.ops [⟨some 4, .mv (.v (.bool false)), none⟩])
 (.seq (.seq (.ops [⟨some 6, .mv (.t 0), none⟩, ⟨some 7, .len (.t 6), none⟩, ⟨some 8, .mv (.t 1), none⟩, ⟨some 9, .len (.t 8), none⟩, ⟨some 10, .bin .neq (.t 7) (.t 9), none⟩])
 (.ite (.t 10) (.seq (.ops [⟨some 4, .mv (.v (.bool false)), none⟩])
  .ret)
 .skip))
 (.seq (.seq (.ops [⟨some 5, .mv (.v (.int .i64 0)), none⟩])
 (.blk 0 (.loop (.seq (.seq (.ops [⟨some 11, .mv (.t 5), none⟩, ⟨some 12, .mv (.t 0), none⟩, ⟨some 13, .len (.t 12), none⟩, ⟨some 14, .bin .lss (.t 11) (.t 13), none⟩])
   (.ite (.t 14) .skip
   (.exit 0)))
   (.seq (.blk 1 (.seq (.draw 9 [⟨some 17, .mv (.t 0), none⟩, ⟨some 18, .mv (.t 5), none⟩, ⟨some 19, .iad 1 (.t 17) (.t 18), none⟩, ⟨some 20, .load 1 false (.t 19), none⟩, ⟨some 21, .mv (.t 1), none⟩, ⟨some 22, .mv (.t 5), none⟩, ⟨some 23, .iad 1 (.t 21) (.t 22), none⟩, ⟨some 24, .load 1 false (.t 23), none⟩, ⟨some 25, .bin .neq (.t 20) (.t 24), none⟩])
    (.ite (.t 25) (.seq (.ops [⟨some 4, .mv (.v (.bool false)), none⟩])
     .ret)
    .skip)))
   (.ops [⟨some 15, .mv (.t 5), none⟩, ⟨some 16, .bin .add (.t 15) (.v (.int .i64 1)), none⟩, ⟨some 5, .mv (.t 16), none⟩]))))))
 (.seq (.ops [⟨some 4, .mv (.v (.bool true)), none⟩])
 .ret))))
noncomputable def X.l_eqIntS (p0 : (List Int)) (p1 : (List Int)) : Option Bool :=
  (bif ((p0.length : Int) != (p1.length : Int)) then some false else ((loop (fun (x18 : Int) => ((bif (decide (x18 < (p0.length : Int))) then ((at' zI p0 x18).bind fun v21 => ((at' zI p1 x18).bind fun v23 => (bif (v21 != v23) then some (Sum.inr (Sum.inr false)) else some (Sum.inl (W (x18 + 1)))))) else some (Sum.inr (Sum.inl ()))) : Option (Int ⊕ (Unit ⊕ Bool)))) 0).bind fun y26 => (Sum.elim (fun (y28 : Unit) => some true) (fun (y29 : Bool) => some y29) y26)))
theorem l_eqIntS_ok (p0 : (List Int)) (p1 : (List Int)) (r : Bool) (H : X.l_eqIntS p0 p1 = some r) : FnOk Tryz.prog gl 18 [.c (dat 1 eI zI p0), .c (dat 1 eI zI p1)] (cB r) := by
  unfold X.l_eqIntS at H
  refine fn_in (fn := Tryz.f18) (ir := l_eqIntS_ir) (s1 := lit [(4, cB r)] []) glL Tryz.func18 (by kernel_rfl) (by kernel_rfl) (by kernel_rfl) (by kernel_rfl) (by kernel_rfl) ?_
  refine seq_ops [] [] [(0, .c (dat 1 eI zI p0)), (1, .c (dat 1 eI zI p1))] [] (fun t => t) (by kernel_rfl) ?_
  refine seq_in ?_
  refine seq_ops [] [] [(0, .c (dat 1 eI zI p0)), (1, .c (dat 1 eI zI p1)), (10, cB ((p0.length : Int) != (p1.length : Int)))] [] (fun t => lI p0 (lI p1 (t))) (by kernel_rfl) ?_
  rcases ofCond H with ⟨c2, H⟩ | ⟨c2, H⟩
  · refine ite_t c2 (by kernel_rfl) ?_
    refine seq_ops [] [] [(4, cB false)] [] (fun t => t) (by kernel_rfl) ?_
    refine ends_ret ?_
    obtain rfl := Option.some.inj H
    exact And.intro (.inl rfl) rfl
  · refine ite_f c2 (by kernel_rfl) ?_
    refine ends_skip ?_
    change EndsI _ _ _ _ _ _
    refine seq_in ?_
    refine seq_ops [] [] [(0, .c (dat 1 eI zI p0)), (1, .c (dat 1 eI zI p1)), (5, cI 0)] [] (fun t => t) (by kernel_rfl) ?_
    refine ends_blk ?_
    obtain ⟨y26, h27, H⟩ := ofBind H
    refine loop_in (fun (x : Int) => lit [(0, .c (dat 1 eI zI p0)), (1, .c (dat 1 eI zI p1)), (5, cI x)] []) (orJ (fun (z : Unit) => At (.exit 0) (lit [] [])) (fun (z : Bool) => At .ret (lit [(4, cB z)] []))) h27 ?_ ?_
    · clear H h27
      intro x18 y0 H
      refine seq_in ?_
      refine seq_ops [] [] [(0, .c (dat 1 eI zI p0)), (1, .c (dat 1 eI zI p1)), (5, cI x18), (14, cB (decide (x18 < (p0.length : Int))))] [] (fun t => lI p0 (t)) (by kernel_rfl) ?_
      rcases ofCond H with ⟨c20, H⟩ | ⟨c20, H⟩
      · refine ite_t c20 (by kernel_rfl) ?_
        refine ends_skip ?_
        change EndsI _ _ _ _ _ _
        refine seq_in ?_
        refine ends_blk ?_
        obtain ⟨v21, h22, H⟩ := ofBind H
        obtain ⟨v23, h24, H⟩ := ofBind H
        refine seq_draw [.cs (eI v21), .cs (eI v23)] [] [(0, .c (dat 1 eI zI p0)), (1, .c (dat 1 eI zI p1)), (5, cI x18), (25, cB (v21 != v23))] [] (fun t => aI (at_lt h22) (aI (at_enc (enc := eI) h22) (aI (rfl : ([] : List Nat) = []) (aI (at_lt h24) (aI (at_enc (enc := eI) h24) (aI (rfl : ([] : List Nat) = []) (t))))))) (by kernel_rfl) ?_
        rcases ofCond H with ⟨c25, H⟩ | ⟨c25, H⟩
        · refine ite_t c25 (by kernel_rfl) ?_
          refine seq_ops [] [] [(4, cB false)] [] (fun t => t) (by kernel_rfl) ?_
          refine ends_ret ?_
          obtain rfl := Option.some.inj H
          exact And.intro (by simp) (And.intro rfl rfl)
        · refine ite_f c25 (by kernel_rfl) ?_
          refine ends_skip ?_
          change EndsI _ _ _ _ _ _
          refine one_ops [] [] [(0, .c (dat 1 eI zI p0)), (1, .c (dat 1 eI zI p1)), (5, cI (W (x18 + 1)))] [] (fun t => t) (by kernel_rfl) ?_
          obtain rfl := Option.some.inj H
          exact And.intro rfl rfl
      · refine ite_f c20 (by kernel_rfl) ?_
        refine tell [] [] [] (fun t => t) (by kernel_rfl) ?_
        refine ends_exit ?_
        obtain rfl := Option.some.inj H
        exact And.intro (by simp) (And.intro rfl rfl)
    · clear h27
      cases y26 with
      | inl y28 =>
        replace H := ofInl H
        intro e s q
        obtain ⟨rfl, rfl⟩ := q
        change EndsI _ _ _ _ _ _
        refine seq_ops [] [] [(4, cB true)] [] (fun t => t) (by kernel_rfl) ?_
        refine ends_ret ?_
        obtain rfl := Option.some.inj H
        exact And.intro (.inl rfl) rfl
      | inr y29 =>
        replace H := ofInr H
        intro e s q
        obtain ⟨rfl, rfl⟩ := q
        obtain rfl := Option.some.inj H
        exact And.intro (.inl rfl) rfl

def l_eqTerrain_ir : S :=
 (.seq (.ops [⟨some 2, .box 5 (.t 0), none⟩, ⟨some 3, .box 5 (.t 1), none⟩, ⟨some 4, .mv (.v (.bool false)), none⟩])
 (.seq (.seq (.ops [⟨some 5, .fad 0 (.t 2), none⟩, ⟨some 6, .load 1 false (.t 5), none⟩, ⟨some 7, .fad 0 (.t 3), none⟩, ⟨some 8, .load 1 false (.t 7), none⟩, ⟨some 9, .bin .neq (.t 6) (.t 8), none⟩])
 (.ite (.t 9) (.seq (.ops [⟨some 4, .mv (.v (.bool false)), none⟩])
  .ret)
 .skip))
 (.seq (.seq (.ops [⟨some 10, .fad 1 (.t 2), none⟩, ⟨some 11, .load 1 false (.t 10), none⟩, ⟨some 12, .fad 1 (.t 3), none⟩, ⟨some 13, .load 1 false (.t 12), none⟩, ⟨some 14, .call 18 [.t 11, .t 13], none⟩, ⟨some 15, .not (.t 14), none⟩])
 (.ite (.t 15) (.seq (.ops [⟨some 4, .mv (.v (.bool false)), none⟩])
  .ret)
 .skip))
 (.seq (.seq (.ops [⟨some 16, .fad 2 (.t 2), none⟩, ⟨some 17, .load 1 false (.t 16), none⟩, ⟨some 18, .fad 2 (.t 3), none⟩, ⟨some 19, .load 1 false (.t 18), none⟩, ⟨some 20, .bin .neq (.t 17) (.t 19), none⟩])
 (.ite (.t 20) (.seq (.ops [⟨some 4, .mv (.v (.bool false)), none⟩])
  .ret)
 .skip))
 (.seq (.seq (.ops [⟨some 21, .fad 3 (.t 2), none⟩, ⟨some 22, .load 1 false (.t 21), none⟩, ⟨some 23, .fad 3 (.t 3), none⟩, ⟨some 24, .load 1 false (.t 23), none⟩, ⟨some 25, .bin .neq (.t 22) (.t 24), none⟩])
 (.ite (.t 25) (.seq (.ops [⟨some 4, .mv (.v (.bool false)), none⟩])
  .ret)
 .skip))
 (.seq (.seq (.ops [⟨some 26, .fad 4 (.t 2), none⟩, ⟨some 27, .load 1 false (.t 26), none⟩, ⟨some 28, .fad 4 (.t 3), none⟩, ⟨some 29, .load 1 false (.t 28), none⟩, ⟨some 30, .bqe true (.t 27) (.t 29), none⟩])
 (.ite (.t 30) (.seq (.ops [⟨some 4, .mv (.v (.bool false)), none⟩])
  .ret)
 .skip))
 (.seq (.ops [⟨some 4, .mv (.v (.bool true)), none⟩])
 .ret)))))))
noncomputable def X.l_eqTerrain (p0 : TTerrain) (p1 : TTerrain) : Option Bool :=
  (bif (!(p0.Name == p1.Name)) then some false else ((X.l_eqIntS p0.Cost p1.Cost).bind fun v6 => (bif (!v6) then some false else (bif (p0.Shift != p1.Shift) then some false else (bif (p0.Height != p1.Height) then some false else (bif (!(p0.Blocks == p1.Blocks)) then some false else some true))))))
theorem l_eqTerrain_ok (p0 : TTerrain) (p1 : TTerrain) (r : Bool) (H : X.l_eqTerrain p0 p1 = some r) : FnOk Tryz.prog gl 185 [.agg (eTTerrain p0), .agg (eTTerrain p1)] (cB r) := by
  unfold X.l_eqTerrain at H
  refine fn_in (fn := Tryz.f185) (ir := l_eqTerrain_ir) (s1 := lit [(4, cB r)] []) glL Tryz.func185 (by kernel_rfl) (by kernel_rfl) (by kernel_rfl) (by kernel_rfl) (by kernel_rfl) ?_
  refine seq_ops [] [] [(2, .c (.pk 2 0)), (3, .c (.pk 3 0))] [(2, .var (eTTerrain p0) false), (3, .var (eTTerrain p1) false)] (fun t => t) (by kernel_rfl) ?_
  refine seq_in ?_
  refine seq_ops [] [] [(2, .c (.pk 2 0)), (3, .c (.pk 3 0)), (9, cB (!(p0.Name == p1.Name)))] [(2, .var (eTTerrain p0) false), (3, .var (eTTerrain p1) false)] (fun t => t) (by kernel_rfl) ?_
  rcases ofCond H with ⟨c2, H⟩ | ⟨c2, H⟩
  · refine ite_t c2 (by kernel_rfl) ?_
    refine seq_ops [] [] [(4, cB false)] [] (fun t => t) (by kernel_rfl) ?_
    refine ends_ret ?_
    obtain rfl := Option.some.inj H
    exact And.intro (.inl rfl) rfl
  · refine ite_f c2 (by kernel_rfl) ?_
    refine ends_skip ?_
    change EndsI _ _ _ _ _ _
    refine seq_in ?_
    obtain ⟨v6, h7, H⟩ := ofBind H
    refine seq_ops [.res (cB v6)] [] [(2, .c (.pk 2 0)), (3, .c (.pk 3 0)), (15, cB (!v6))] [(2, .var (eTTerrain p0) false), (3, .var (eTTerrain p1) false)] (fun t => aI (l_eqIntS_ok p0.Cost p1.Cost v6 h7) (t)) (by kernel_rfl) ?_
    rcases ofCond H with ⟨c8, H⟩ | ⟨c8, H⟩
    · refine ite_t c8 (by kernel_rfl) ?_
      refine seq_ops [] [] [(4, cB false)] [] (fun t => t) (by kernel_rfl) ?_
      refine ends_ret ?_
      obtain rfl := Option.some.inj H
      exact And.intro (.inl rfl) rfl
    · refine ite_f c8 (by kernel_rfl) ?_
      refine ends_skip ?_
      change EndsI _ _ _ _ _ _
      refine seq_in ?_
      refine seq_ops [] [] [(2, .c (.pk 2 0)), (3, .c (.pk 3 0)), (20, cB (p0.Shift != p1.Shift))] [(2, .var (eTTerrain p0) false), (3, .var (eTTerrain p1) false)] (fun t => t) (by kernel_rfl) ?_
      rcases ofCond H with ⟨c10, H⟩ | ⟨c10, H⟩
      · refine ite_t c10 (by kernel_rfl) ?_
        refine seq_ops [] [] [(4, cB false)] [] (fun t => t) (by kernel_rfl) ?_
        refine ends_ret ?_
        obtain rfl := Option.some.inj H
        exact And.intro (.inl rfl) rfl
      · refine ite_f c10 (by kernel_rfl) ?_
        refine ends_skip ?_
        change EndsI _ _ _ _ _ _
        refine seq_in ?_
        refine seq_ops [] [] [(2, .c (.pk 2 0)), (3, .c (.pk 3 0)), (25, cB (p0.Height != p1.Height))] [(2, .var (eTTerrain p0) false), (3, .var (eTTerrain p1) false)] (fun t => t) (by kernel_rfl) ?_
        rcases ofCond H with ⟨c12, H⟩ | ⟨c12, H⟩
        · refine ite_t c12 (by kernel_rfl) ?_
          refine seq_ops [] [] [(4, cB false)] [] (fun t => t) (by kernel_rfl) ?_
          refine ends_ret ?_
          obtain rfl := Option.some.inj H
          exact And.intro (.inl rfl) rfl
        · refine ite_f c12 (by kernel_rfl) ?_
          refine ends_skip ?_
          change EndsI _ _ _ _ _ _
          refine seq_in ?_
          refine seq_ops [] [] [(30, cB (!(p0.Blocks == p1.Blocks)))] [] (fun t => t) (by kernel_rfl) ?_
          rcases ofCond H with ⟨c13, H⟩ | ⟨c13, H⟩
          · refine ite_t c13 (by kernel_rfl) ?_
            refine seq_ops [] [] [(4, cB false)] [] (fun t => t) (by kernel_rfl) ?_
            refine ends_ret ?_
            obtain rfl := Option.some.inj H
            exact And.intro (.inl rfl) rfl
          · refine ite_f c13 (by kernel_rfl) ?_
            refine ends_skip ?_
            change EndsI _ _ _ _ _ _
            refine seq_ops [] [] [(4, cB true)] [] (fun t => t) (by kernel_rfl) ?_
            refine ends_ret ?_
            obtain rfl := Option.some.inj H
            exact And.intro (.inl rfl) rfl

def l_eqTerrainS_ir : S :=
 (.seq (.ops [⟨some 4, .mv (.v (.bool false)), none⟩])
 (.seq (.seq (.ops [⟨some 6, .mv (.t 0), none⟩, ⟨some 7, .len (.t 6), none⟩, ⟨some 8, .mv (.t 1), none⟩, ⟨some 9, .len (.t 8), none⟩, ⟨some 10, .bin .neq (.t 7) (.t 9), none⟩])
 (.ite (.t 10) (.seq (.ops [⟨some 4, .mv (.v (.bool false)), none⟩])
  .ret)
 .skip))
 (.seq (.seq (.ops [⟨some 5, .mv (.v (.int .i64 0)), none⟩])
 (.blk 0 (.loop (.seq (.seq (.ops [⟨some 11, .mv (.t 5), none⟩, ⟨some 12, .mv (.t 0), none⟩, ⟨some 13, .len (.t 12), none⟩, ⟨some 14, .bin .lss (.t 11) (.t 13), none⟩])
   (.ite (.t 14) .skip
   (.exit 0)))
   (.seq (.blk 1 (.seq (.draw 10 [⟨some 17, .mv (.t 0), none⟩, ⟨some 18, .mv (.t 5), none⟩, ⟨some 19, .iad 5 (.t 17) (.t 18), none⟩, ⟨some 20, .load 5 true (.t 19), none⟩, ⟨some 21, .mv (.t 1), none⟩, ⟨some 22, .mv (.t 5), none⟩, ⟨some 23, .iad 5 (.t 21) (.t 22), none⟩, ⟨some 24, .load 5 true (.t 23), none⟩, ⟨some 25, .call 185 [.t 20, .t 24], none⟩, ⟨some 26, .not (.t 25), none⟩])
    (.ite (.t 26) (.seq (.ops [⟨some 4, .mv (.v (.bool false)), none⟩])
     .ret)
    .skip)))
   (.ops [⟨some 15, .mv (.t 5), none⟩, ⟨some 16, .bin .add (.t 15) (.v (.int .i64 1)), none⟩, ⟨some 5, .mv (.t 16), none⟩]))))))
 (.seq (.ops [⟨some 4, .mv (.v (.bool true)), none⟩])
 .ret))))
noncomputable def X.l_eqTerrainS (p0 : (List TTerrain)) (p1 : (List TTerrain)) : Option Bool :=
  (bif ((p0.length : Int) != (p1.length : Int)) then some false else ((loop (fun (x22 : Int) => ((bif (decide (x22 < (p0.length : Int))) then ((at' zTTerrain p0 x22).bind fun v25 => ((at' zTTerrain p1 x22).bind fun v27 => ((X.l_eqTerrain v25 v27).bind fun v29 => (bif (!v29) then some (Sum.inr (Sum.inr false)) else some (Sum.inl (W (x22 + 1))))))) else some (Sum.inr (Sum.inl ()))) : Option (Int ⊕ (Unit ⊕ Bool)))) 0).bind fun y32 => (Sum.elim (fun (y34 : Unit) => some true) (fun (y35 : Bool) => some y35) y32)))
theorem l_eqTerrainS_ok (p0 : (List TTerrain)) (p1 : (List TTerrain)) (r : Bool) (H : X.l_eqTerrainS p0 p1 = some r) : FnOk Tryz.prog gl 135 [.c (dat 5 eTTerrain zTTerrain p0), .c (dat 5 eTTerrain zTTerrain p1)] (cB r) := by
  unfold X.l_eqTerrainS at H
  refine fn_in (fn := Tryz.f135) (ir := l_eqTerrainS_ir) (s1 := lit [(4, cB r)] []) glL Tryz.func135 (by kernel_rfl) (by kernel_rfl) (by kernel_rfl) (by kernel_rfl) (by kernel_rfl) ?_
  refine seq_ops [] [] [(0, .c (dat 5 eTTerrain zTTerrain p0)), (1, .c (dat 5 eTTerrain zTTerrain p1))] [] (fun t => t) (by kernel_rfl) ?_
  refine seq_in ?_
  refine seq_ops [] [] [(0, .c (dat 5 eTTerrain zTTerrain p0)), (1, .c (dat 5 eTTerrain zTTerrain p1)), (10, cB ((p0.length : Int) != (p1.length : Int)))] [] (fun t => lI p0 (lI p1 (t))) (by kernel_rfl) ?_
  rcases ofCond H with ⟨c2, H⟩ | ⟨c2, H⟩
  · refine ite_t c2 (by kernel_rfl) ?_
    refine seq_ops [] [] [(4, cB false)] [] (fun t => t) (by kernel_rfl) ?_
    refine ends_ret ?_
    obtain rfl := Option.some.inj H
    exact And.intro (.inl rfl) rfl
  · refine ite_f c2 (by kernel_rfl) ?_
    refine ends_skip ?_
    change EndsI _ _ _ _ _ _
    refine seq_in ?_
    refine seq_ops [] [] [(0, .c (dat 5 eTTerrain zTTerrain p0)), (1, .c (dat 5 eTTerrain zTTerrain p1)), (5, cI 0)] [] (fun t => t) (by kernel_rfl) ?_
    refine ends_blk ?_
    obtain ⟨y32, h33, H⟩ := ofBind H
    refine loop_in (fun (x : Int) => lit [(0, .c (dat 5 eTTerrain zTTerrain p0)), (1, .c (dat 5 eTTerrain zTTerrain p1)), (5, cI x)] []) (orJ (fun (z : Unit) => At (.exit 0) (lit [] [])) (fun (z : Bool) => At .ret (lit [(4, cB z)] []))) h33 ?_ ?_
    · clear H h33
      intro x22 y0 H
      refine seq_in ?_
      refine seq_ops [] [] [(0, .c (dat 5 eTTerrain zTTerrain p0)), (1, .c (dat 5 eTTerrain zTTerrain p1)), (5, cI x22), (14, cB (decide (x22 < (p0.length : Int))))] [] (fun t => lI p0 (t)) (by kernel_rfl) ?_
      rcases ofCond H with ⟨c24, H⟩ | ⟨c24, H⟩
      · refine ite_t c24 (by kernel_rfl) ?_
        refine ends_skip ?_
        change EndsI _ _ _ _ _ _
        refine seq_in ?_
        refine ends_blk ?_
        obtain ⟨v25, h26, H⟩ := ofBind H
        obtain ⟨v27, h28, H⟩ := ofBind H
        obtain ⟨v29, h30, H⟩ := ofBind H
        refine seq_draw [.cs (eTTerrain v25), .cs (eTTerrain v27), .res (cB v29)] [] [(0, .c (dat 5 eTTerrain zTTerrain p0)), (1, .c (dat 5 eTTerrain zTTerrain p1)), (5, cI x22), (26, cB (!v29))] [] (fun t => aI (at_lt h26) (aI (at_enc (enc := eTTerrain) h26) (aI (rfl : ([] : List Nat) = []) (aI (at_lt h28) (aI (at_enc (enc := eTTerrain) h28) (aI (rfl : ([] : List Nat) = []) (aI (l_eqTerrain_ok v25 v27 v29 h30) (aI trivial (aI (rfl : ([] : List Nat) = []) (t)))))))))) (by kernel_rfl) ?_
        rcases ofCond H with ⟨c31, H⟩ | ⟨c31, H⟩
        · refine ite_t c31 (by kernel_rfl) ?_
          refine seq_ops [] [] [(4, cB false)] [] (fun t => t) (by kernel_rfl) ?_
          refine ends_ret ?_
          obtain rfl := Option.some.inj H
          exact And.intro (by simp) (And.intro rfl rfl)
        · refine ite_f c31 (by kernel_rfl) ?_
          refine ends_skip ?_
          change EndsI _ _ _ _ _ _
          refine one_ops [] [] [(0, .c (dat 5 eTTerrain zTTerrain p0)), (1, .c (dat 5 eTTerrain zTTerrain p1)), (5, cI (W (x22 + 1)))] [] (fun t => t) (by kernel_rfl) ?_
          obtain rfl := Option.some.inj H
          exact And.intro rfl rfl
      · refine ite_f c24 (by kernel_rfl) ?_
        refine tell [] [] [] (fun t => t) (by kernel_rfl) ?_
        refine ends_exit ?_
        obtain rfl := Option.some.inj H
        exact And.intro (by simp) (And.intro rfl rfl)
    · clear h33
      cases y32 with
      | inl y34 =>
        replace H := ofInl H
        intro e s q
        obtain ⟨rfl, rfl⟩ := q
        change EndsI _ _ _ _ _ _
        refine seq_ops [] [] [(4, cB true)] [] (fun t => t) (by kernel_rfl) ?_
        refine ends_ret ?_
        obtain rfl := Option.some.inj H
        exact And.intro (.inl rfl) rfl
      | inr y35 =>
        replace H := ofInr H
        intro e s q
        obtain ⟨rfl, rfl⟩ := q
        obtain rfl := Option.some.inj H
        exact And.intro (.inl rfl) rfl

def l_eqKind_ir : S :=
 (.seq (.ops [⟨some 2, .box 6 (.t 0), none⟩, ⟨some 3, .box 6 (.t 1), none⟩, ⟨some 4, .mv (.v (.bool false)), none⟩])
 (.seq (.seq (.ops [⟨some 5, .fad 0 (.t 2), none⟩, ⟨some 6, .load 1 false (.t 5), none⟩, ⟨some 7, .fad 0 (.t 3), none⟩, ⟨some 8, .load 1 false (.t 7), none⟩, ⟨some 9, .bin .neq (.t 6) (.t 8), none⟩])
 (.ite (.t 9) (.seq (.ops [⟨some 4, .mv (.v (.bool false)), none⟩])
  .ret)
 .skip))
 (.seq (.seq (.ops [⟨some 10, .fad 1 (.t 2), none⟩, ⟨some 11, .load 1 false (.t 10), none⟩, ⟨some 12, .fad 1 (.t 3), none⟩, ⟨some 13, .load 1 false (.t 12), none⟩, ⟨some 14, .bin .neq (.t 11) (.t 13), none⟩])
 (.ite (.t 14) (.seq (.ops [⟨some 4, .mv (.v (.bool false)), none⟩])
  .ret)
 .skip))
 (.seq (.seq (.ops [⟨some 15, .fad 2 (.t 2), none⟩, ⟨some 16, .load 1 false (.t 15), none⟩, ⟨some 17, .fad 2 (.t 3), none⟩, ⟨some 18, .load 1 false (.t 17), none⟩, ⟨some 19, .bin .neq (.t 16) (.t 18), none⟩])
 (.ite (.t 19) (.seq (.ops [⟨some 4, .mv (.v (.bool false)), none⟩])
  .ret)
 .skip))
 (.seq (.seq (.ops [⟨some 20, .fad 3 (.t 2), none⟩, ⟨some 21, .load 1 false (.t 20), none⟩, ⟨some 22, .fad 3 (.t 3), none⟩, ⟨some 23, .load 1 false (.t 22), none⟩, ⟨some 24, .bin .neq (.t 21) (.t 23), none⟩])
 (.ite (.t 24) (.seq (.ops [⟨some 4, .mv (.v (.bool false)), none⟩])
  .ret)
 .skip))
 (.seq (.seq (.ops [⟨some 25, .fad 4 (.t 2), none⟩, ⟨some 26, .load 1 false (.t 25), none⟩, ⟨some 27, .fad 4 (.t 3), none⟩, ⟨some 28, .load 1 false (.t 27), none⟩, ⟨some 29, .bqe true (.t 26) (.t 28), none⟩])
 (.ite (.t 29) (.seq (.ops [⟨some 4, .mv (.v (.bool false)), none⟩])
  .ret)
 .skip))
 (.seq (.seq (.ops [⟨some 30, .fad 5 (.t 2), none⟩, ⟨some 31, .load 1 false (.t 30), none⟩, ⟨some 32, .fad 5 (.t 3), none⟩, ⟨some 33, .load 1 false (.t 32), none⟩, ⟨some 34, .bin .neq (.t 31) (.t 33), none⟩])
 (.ite (.t 34) (.seq (.ops [⟨some 4, .mv (.v (.bool false)), none⟩])
  .ret)
 .skip))
 (.seq (.ops [⟨some 4, .mv (.v (.bool true)), none⟩])
 .ret))))))))
noncomputable def X.l_eqKind (p0 : TKind) (p1 : TKind) : Option Bool :=
  (bif (!(p0.Name == p1.Name)) then some false else (bif (p0.Strength != p1.Strength) then some false else (bif (p0.Moves != p1.Moves) then some false else (bif (p0.Steps != p1.Steps) then some false else (bif (!(p0.Zone == p1.Zone)) then some false else (bif (p0.View != p1.View) then some false else some true))))))
theorem l_eqKind_ok (p0 : TKind) (p1 : TKind) (r : Bool) (H : X.l_eqKind p0 p1 = some r) : FnOk Tryz.prog gl 186 [.agg (eTKind p0), .agg (eTKind p1)] (cB r) := by
  unfold X.l_eqKind at H
  refine fn_in (fn := Tryz.f186) (ir := l_eqKind_ir) (s1 := lit [(4, cB r)] []) glL Tryz.func186 (by kernel_rfl) (by kernel_rfl) (by kernel_rfl) (by kernel_rfl) (by kernel_rfl) ?_
  refine seq_ops [] [] [(2, .c (.pk 2 0)), (3, .c (.pk 3 0))] [(2, .var (eTKind p0) false), (3, .var (eTKind p1) false)] (fun t => t) (by kernel_rfl) ?_
  refine seq_in ?_
  refine seq_ops [] [] [(2, .c (.pk 2 0)), (3, .c (.pk 3 0)), (9, cB (!(p0.Name == p1.Name)))] [(2, .var (eTKind p0) false), (3, .var (eTKind p1) false)] (fun t => t) (by kernel_rfl) ?_
  rcases ofCond H with ⟨c2, H⟩ | ⟨c2, H⟩
  · refine ite_t c2 (by kernel_rfl) ?_
    refine seq_ops [] [] [(4, cB false)] [] (fun t => t) (by kernel_rfl) ?_
    refine ends_ret ?_
    obtain rfl := Option.some.inj H
    exact And.intro (.inl rfl) rfl
  · refine ite_f c2 (by kernel_rfl) ?_
    refine ends_skip ?_
    change EndsI _ _ _ _ _ _
    refine seq_in ?_
    refine seq_ops [] [] [(2, .c (.pk 2 0)), (3, .c (.pk 3 0)), (14, cB (p0.Strength != p1.Strength))] [(2, .var (eTKind p0) false), (3, .var (eTKind p1) false)] (fun t => t) (by kernel_rfl) ?_
    rcases ofCond H with ⟨c4, H⟩ | ⟨c4, H⟩
    · refine ite_t c4 (by kernel_rfl) ?_
      refine seq_ops [] [] [(4, cB false)] [] (fun t => t) (by kernel_rfl) ?_
      refine ends_ret ?_
      obtain rfl := Option.some.inj H
      exact And.intro (.inl rfl) rfl
    · refine ite_f c4 (by kernel_rfl) ?_
      refine ends_skip ?_
      change EndsI _ _ _ _ _ _
      refine seq_in ?_
      refine seq_ops [] [] [(2, .c (.pk 2 0)), (3, .c (.pk 3 0)), (19, cB (p0.Moves != p1.Moves))] [(2, .var (eTKind p0) false), (3, .var (eTKind p1) false)] (fun t => t) (by kernel_rfl) ?_
      rcases ofCond H with ⟨c6, H⟩ | ⟨c6, H⟩
      · refine ite_t c6 (by kernel_rfl) ?_
        refine seq_ops [] [] [(4, cB false)] [] (fun t => t) (by kernel_rfl) ?_
        refine ends_ret ?_
        obtain rfl := Option.some.inj H
        exact And.intro (.inl rfl) rfl
      · refine ite_f c6 (by kernel_rfl) ?_
        refine ends_skip ?_
        change EndsI _ _ _ _ _ _
        refine seq_in ?_
        refine seq_ops [] [] [(2, .c (.pk 2 0)), (3, .c (.pk 3 0)), (24, cB (p0.Steps != p1.Steps))] [(2, .var (eTKind p0) false), (3, .var (eTKind p1) false)] (fun t => t) (by kernel_rfl) ?_
        rcases ofCond H with ⟨c8, H⟩ | ⟨c8, H⟩
        · refine ite_t c8 (by kernel_rfl) ?_
          refine seq_ops [] [] [(4, cB false)] [] (fun t => t) (by kernel_rfl) ?_
          refine ends_ret ?_
          obtain rfl := Option.some.inj H
          exact And.intro (.inl rfl) rfl
        · refine ite_f c8 (by kernel_rfl) ?_
          refine ends_skip ?_
          change EndsI _ _ _ _ _ _
          refine seq_in ?_
          refine seq_ops [] [] [(2, .c (.pk 2 0)), (3, .c (.pk 3 0)), (29, cB (!(p0.Zone == p1.Zone)))] [(2, .var (eTKind p0) false), (3, .var (eTKind p1) false)] (fun t => t) (by kernel_rfl) ?_
          rcases ofCond H with ⟨c10, H⟩ | ⟨c10, H⟩
          · refine ite_t c10 (by kernel_rfl) ?_
            refine seq_ops [] [] [(4, cB false)] [] (fun t => t) (by kernel_rfl) ?_
            refine ends_ret ?_
            obtain rfl := Option.some.inj H
            exact And.intro (.inl rfl) rfl
          · refine ite_f c10 (by kernel_rfl) ?_
            refine ends_skip ?_
            change EndsI _ _ _ _ _ _
            refine seq_in ?_
            refine seq_ops [] [] [(34, cB (p0.View != p1.View))] [] (fun t => t) (by kernel_rfl) ?_
            rcases ofCond H with ⟨c11, H⟩ | ⟨c11, H⟩
            · refine ite_t c11 (by kernel_rfl) ?_
              refine seq_ops [] [] [(4, cB false)] [] (fun t => t) (by kernel_rfl) ?_
              refine ends_ret ?_
              obtain rfl := Option.some.inj H
              exact And.intro (.inl rfl) rfl
            · refine ite_f c11 (by kernel_rfl) ?_
              refine ends_skip ?_
              change EndsI _ _ _ _ _ _
              refine seq_ops [] [] [(4, cB true)] [] (fun t => t) (by kernel_rfl) ?_
              refine ends_ret ?_
              obtain rfl := Option.some.inj H
              exact And.intro (.inl rfl) rfl

def l_eqKindS_ir : S :=
 (.seq (.ops [⟨some 4, .mv (.v (.bool false)), none⟩])
 (.seq (.seq (.ops [⟨some 6, .mv (.t 0), none⟩, ⟨some 7, .len (.t 6), none⟩, ⟨some 8, .mv (.t 1), none⟩, ⟨some 9, .len (.t 8), none⟩, ⟨some 10, .bin .neq (.t 7) (.t 9), none⟩])
 (.ite (.t 10) (.seq (.ops [⟨some 4, .mv (.v (.bool false)), none⟩])
  .ret)
 .skip))
 (.seq (.seq (.ops [⟨some 5, .mv (.v (.int .i64 0)), none⟩])
 (.blk 0 (.loop (.seq (.seq (.ops [⟨some 11, .mv (.t 5), none⟩, ⟨some 12, .mv (.t 0), none⟩, ⟨some 13, .len (.t 12), none⟩, ⟨some 14, .bin .lss (.t 11) (.t 13), none⟩])
   (.ite (.t 14) .skip
   (.exit 0)))
   (.seq (.blk 1 (.seq (.draw 10 [⟨some 17, .mv (.t 0), none⟩, ⟨some 18, .mv (.t 5), none⟩, ⟨some 19, .iad 6 (.t 17) (.t 18), none⟩, ⟨some 20, .load 6 true (.t 19), none⟩, ⟨some 21, .mv (.t 1), none⟩, ⟨some 22, .mv (.t 5), none⟩, ⟨some 23, .iad 6 (.t 21) (.t 22), none⟩, ⟨some 24, .load 6 true (.t 23), none⟩, ⟨some 25, .call 186 [.t 20, .t 24], none⟩, ⟨some 26, .not (.t 25), none⟩])
    (.ite (.t 26) (.seq (.ops [⟨some 4, .mv (.v (.bool false)), none⟩])
     .ret)
    .skip)))
   (.ops [⟨some 15, .mv (.t 5), none⟩, ⟨some 16, .bin .add (.t 15) (.v (.int .i64 1)), none⟩, ⟨some 5, .mv (.t 16), none⟩]))))))
 (.seq (.ops [⟨some 4, .mv (.v (.bool true)), none⟩])
 .ret))))
noncomputable def X.l_eqKindS (p0 : (List TKind)) (p1 : (List TKind)) : Option Bool :=
  (bif ((p0.length : Int) != (p1.length : Int)) then some false else ((loop (fun (x22 : Int) => ((bif (decide (x22 < (p0.length : Int))) then ((at' zTKind p0 x22).bind fun v25 => ((at' zTKind p1 x22).bind fun v27 => ((X.l_eqKind v25 v27).bind fun v29 => (bif (!v29) then some (Sum.inr (Sum.inr false)) else some (Sum.inl (W (x22 + 1))))))) else some (Sum.inr (Sum.inl ()))) : Option (Int ⊕ (Unit ⊕ Bool)))) 0).bind fun y32 => (Sum.elim (fun (y34 : Unit) => some true) (fun (y35 : Bool) => some y35) y32)))
theorem l_eqKindS_ok (p0 : (List TKind)) (p1 : (List TKind)) (r : Bool) (H : X.l_eqKindS p0 p1 = some r) : FnOk Tryz.prog gl 136 [.c (dat 6 eTKind zTKind p0), .c (dat 6 eTKind zTKind p1)] (cB r) := by
  unfold X.l_eqKindS at H
  refine fn_in (fn := Tryz.f136) (ir := l_eqKindS_ir) (s1 := lit [(4, cB r)] []) glL Tryz.func136 (by kernel_rfl) (by kernel_rfl) (by kernel_rfl) (by kernel_rfl) (by kernel_rfl) ?_
  refine seq_ops [] [] [(0, .c (dat 6 eTKind zTKind p0)), (1, .c (dat 6 eTKind zTKind p1))] [] (fun t => t) (by kernel_rfl) ?_
  refine seq_in ?_
  refine seq_ops [] [] [(0, .c (dat 6 eTKind zTKind p0)), (1, .c (dat 6 eTKind zTKind p1)), (10, cB ((p0.length : Int) != (p1.length : Int)))] [] (fun t => lI p0 (lI p1 (t))) (by kernel_rfl) ?_
  rcases ofCond H with ⟨c2, H⟩ | ⟨c2, H⟩
  · refine ite_t c2 (by kernel_rfl) ?_
    refine seq_ops [] [] [(4, cB false)] [] (fun t => t) (by kernel_rfl) ?_
    refine ends_ret ?_
    obtain rfl := Option.some.inj H
    exact And.intro (.inl rfl) rfl
  · refine ite_f c2 (by kernel_rfl) ?_
    refine ends_skip ?_
    change EndsI _ _ _ _ _ _
    refine seq_in ?_
    refine seq_ops [] [] [(0, .c (dat 6 eTKind zTKind p0)), (1, .c (dat 6 eTKind zTKind p1)), (5, cI 0)] [] (fun t => t) (by kernel_rfl) ?_
    refine ends_blk ?_
    obtain ⟨y32, h33, H⟩ := ofBind H
    refine loop_in (fun (x : Int) => lit [(0, .c (dat 6 eTKind zTKind p0)), (1, .c (dat 6 eTKind zTKind p1)), (5, cI x)] []) (orJ (fun (z : Unit) => At (.exit 0) (lit [] [])) (fun (z : Bool) => At .ret (lit [(4, cB z)] []))) h33 ?_ ?_
    · clear H h33
      intro x22 y0 H
      refine seq_in ?_
      refine seq_ops [] [] [(0, .c (dat 6 eTKind zTKind p0)), (1, .c (dat 6 eTKind zTKind p1)), (5, cI x22), (14, cB (decide (x22 < (p0.length : Int))))] [] (fun t => lI p0 (t)) (by kernel_rfl) ?_
      rcases ofCond H with ⟨c24, H⟩ | ⟨c24, H⟩
      · refine ite_t c24 (by kernel_rfl) ?_
        refine ends_skip ?_
        change EndsI _ _ _ _ _ _
        refine seq_in ?_
        refine ends_blk ?_
        obtain ⟨v25, h26, H⟩ := ofBind H
        obtain ⟨v27, h28, H⟩ := ofBind H
        obtain ⟨v29, h30, H⟩ := ofBind H
        refine seq_draw [.cs (eTKind v25), .cs (eTKind v27), .res (cB v29)] [] [(0, .c (dat 6 eTKind zTKind p0)), (1, .c (dat 6 eTKind zTKind p1)), (5, cI x22), (26, cB (!v29))] [] (fun t => aI (at_lt h26) (aI (at_enc (enc := eTKind) h26) (aI (rfl : ([] : List Nat) = []) (aI (at_lt h28) (aI (at_enc (enc := eTKind) h28) (aI (rfl : ([] : List Nat) = []) (aI (l_eqKind_ok v25 v27 v29 h30) (aI trivial (aI (rfl : ([] : List Nat) = []) (t)))))))))) (by kernel_rfl) ?_
        rcases ofCond H with ⟨c31, H⟩ | ⟨c31, H⟩
        · refine ite_t c31 (by kernel_rfl) ?_
          refine seq_ops [] [] [(4, cB false)] [] (fun t => t) (by kernel_rfl) ?_
          refine ends_ret ?_
          obtain rfl := Option.some.inj H
          exact And.intro (by simp) (And.intro rfl rfl)
        · refine ite_f c31 (by kernel_rfl) ?_
          refine ends_skip ?_
          change EndsI _ _ _ _ _ _
          refine one_ops [] [] [(0, .c (dat 6 eTKind zTKind p0)), (1, .c (dat 6 eTKind zTKind p1)), (5, cI (W (x22 + 1)))] [] (fun t => t) (by kernel_rfl) ?_
          obtain rfl := Option.some.inj H
          exact And.intro rfl rfl
      · refine ite_f c24 (by kernel_rfl) ?_
        refine tell [] [] [] (fun t => t) (by kernel_rfl) ?_
        refine ends_exit ?_
        obtain rfl := Option.some.inj H
        exact And.intro (by simp) (And.intro rfl rfl)
    · clear h33
      cases y32 with
      | inl y34 =>
        replace H := ofInl H
        intro e s q
        obtain ⟨rfl, rfl⟩ := q
        change EndsI _ _ _ _ _ _
        refine seq_ops [] [] [(4, cB true)] [] (fun t => t) (by kernel_rfl) ?_
        refine ends_ret ?_
        obtain rfl := Option.some.inj H
        exact And.intro (.inl rfl) rfl
      | inr y35 =>
        replace H := ofInr H
        intro e s q
        obtain ⟨rfl, rfl⟩ := q
        obtain rfl := Option.some.inj H
        exact And.intro (.inl rfl) rfl

def l_eqRules_ir : S :=
 (.seq (.ops [⟨some 2, .box 7 (.t 0), none⟩, ⟨some 3, .box 7 (.t 1), none⟩, ⟨some 4, .mv (.v (.bool false)), none⟩])
 (.seq (.seq (.ops [⟨some 5, .fad 0 (.t 2), none⟩, ⟨some 6, .load 1 false (.t 5), none⟩, ⟨some 7, .fad 0 (.t 3), none⟩, ⟨some 8, .load 1 false (.t 7), none⟩, ⟨some 9, .call 135 [.t 6, .t 8], none⟩, ⟨some 10, .not (.t 9), none⟩])
 (.ite (.t 10) (.seq (.ops [⟨some 4, .mv (.v (.bool false)), none⟩])
  .ret)
 .skip))
 (.seq (.seq (.ops [⟨some 11, .fad 1 (.t 2), none⟩, ⟨some 12, .load 1 false (.t 11), none⟩, ⟨some 13, .fad 1 (.t 3), none⟩, ⟨some 14, .load 1 false (.t 13), none⟩, ⟨some 15, .call 136 [.t 12, .t 14], none⟩, ⟨some 16, .not (.t 15), none⟩])
 (.ite (.t 16) (.seq (.ops [⟨some 4, .mv (.v (.bool false)), none⟩])
  .ret)
 .skip))
 (.seq (.seq (.ops [⟨some 17, .fad 2 (.t 2), none⟩, ⟨some 18, .load 1 false (.t 17), none⟩, ⟨some 19, .fad 2 (.t 3), none⟩, ⟨some 20, .load 1 false (.t 19), none⟩, ⟨some 21, .bin .neq (.t 18) (.t 20), none⟩])
 (.ite (.t 21) (.seq (.ops [⟨some 4, .mv (.v (.bool false)), none⟩])
  .ret)
 .skip))
 (.seq (.seq (.ops [⟨some 22, .fad 3 (.t 2), none⟩, ⟨some 23, .load 1 false (.t 22), none⟩, ⟨some 24, .fad 3 (.t 3), none⟩, ⟨some 25, .load 1 false (.t 24), none⟩, ⟨some 26, .bin .neq (.t 23) (.t 25), none⟩])
 (.ite (.t 26) (.seq (.ops [⟨some 4, .mv (.v (.bool false)), none⟩])
  .ret)
 .skip))
 (.seq (.seq (.ops [⟨some 27, .fad 4 (.t 2), none⟩, ⟨some 28, .load 1 false (.t 27), none⟩, ⟨some 29, .fad 4 (.t 3), none⟩, ⟨some 30, .load 1 false (.t 29), none⟩, ⟨some 31, .bin .neq (.t 28) (.t 30), none⟩])
 (.ite (.t 31) (.seq (.ops [⟨some 4, .mv (.v (.bool false)), none⟩])
  .ret)
 .skip))
 (.seq (.seq (.ops [⟨some 32, .fad 5 (.t 2), none⟩, ⟨some 33, .load 1 false (.t 32), none⟩, ⟨some 34, .fad 5 (.t 3), none⟩, ⟨some 35, .load 1 false (.t 34), none⟩, ⟨some 36, .bin .neq (.t 33) (.t 35), none⟩])
 (.ite (.t 36) (.seq (.ops [⟨some 4, .mv (.v (.bool false)), none⟩])
  .ret)
 .skip))
 (.seq (.seq (.ops [⟨some 37, .fad 6 (.t 2), none⟩, ⟨some 38, .load 1 false (.t 37), none⟩, ⟨some 39, .fad 6 (.t 3), none⟩, ⟨some 40, .load 1 false (.t 39), none⟩, ⟨some 41, .bin .neq (.t 38) (.t 40), none⟩])
 (.ite (.t 41) (.seq (.ops [⟨some 4, .mv (.v (.bool false)), none⟩])
  .ret)
 .skip))
 (.seq (.ops [⟨some 4, .mv (.v (.bool true)), none⟩])
 .ret)))))))))
noncomputable def X.l_eqRules (p0 : TRules) (p1 : TRules) : Option Bool :=
  ((X.l_eqTerrainS p0.Terrains p1.Terrains).bind fun v4 => (bif (!v4) then some false else ((X.l_eqKindS p0.Kinds p1.Kinds).bind fun v10 => (bif (!v10) then some false else (bif (p0.Stack != p1.Stack) then some false else (bif (p0.River != p1.River) then some false else (bif (p0.Road != p1.Road) then some false else (bif (p0.Supply != p1.Supply) then some false else (bif (p0.Turns != p1.Turns) then some false else some true)))))))))
theorem l_eqRules_ok (p0 : TRules) (p1 : TRules) (r : Bool) (H : X.l_eqRules p0 p1 = some r) : FnOk Tryz.prog gl 73 [.agg (eTRules p0), .agg (eTRules p1)] (cB r) := by
  unfold X.l_eqRules at H
  refine fn_in (fn := Tryz.f73) (ir := l_eqRules_ir) (s1 := lit [(4, cB r)] []) glL Tryz.func73 (by kernel_rfl) (by kernel_rfl) (by kernel_rfl) (by kernel_rfl) (by kernel_rfl) ?_
  refine seq_ops [] [] [(2, .c (.pk 2 0)), (3, .c (.pk 3 0))] [(2, .var (eTRules p0) false), (3, .var (eTRules p1) false)] (fun t => t) (by kernel_rfl) ?_
  refine seq_in ?_
  obtain ⟨v4, h5, H⟩ := ofBind H
  refine seq_ops [.res (cB v4)] [] [(2, .c (.pk 2 0)), (3, .c (.pk 3 0)), (10, cB (!v4))] [(2, .var (eTRules p0) false), (3, .var (eTRules p1) false)] (fun t => aI (l_eqTerrainS_ok p0.Terrains p1.Terrains v4 h5) (t)) (by kernel_rfl) ?_
  rcases ofCond H with ⟨c6, H⟩ | ⟨c6, H⟩
  · refine ite_t c6 (by kernel_rfl) ?_
    refine seq_ops [] [] [(4, cB false)] [] (fun t => t) (by kernel_rfl) ?_
    refine ends_ret ?_
    obtain rfl := Option.some.inj H
    exact And.intro (.inl rfl) rfl
  · refine ite_f c6 (by kernel_rfl) ?_
    refine ends_skip ?_
    change EndsI _ _ _ _ _ _
    refine seq_in ?_
    obtain ⟨v10, h11, H⟩ := ofBind H
    refine seq_ops [.res (cB v10)] [] [(2, .c (.pk 2 0)), (3, .c (.pk 3 0)), (16, cB (!v10))] [(2, .var (eTRules p0) false), (3, .var (eTRules p1) false)] (fun t => aI (l_eqKindS_ok p0.Kinds p1.Kinds v10 h11) (t)) (by kernel_rfl) ?_
    rcases ofCond H with ⟨c12, H⟩ | ⟨c12, H⟩
    · refine ite_t c12 (by kernel_rfl) ?_
      refine seq_ops [] [] [(4, cB false)] [] (fun t => t) (by kernel_rfl) ?_
      refine ends_ret ?_
      obtain rfl := Option.some.inj H
      exact And.intro (.inl rfl) rfl
    · refine ite_f c12 (by kernel_rfl) ?_
      refine ends_skip ?_
      change EndsI _ _ _ _ _ _
      refine seq_in ?_
      refine seq_ops [] [] [(2, .c (.pk 2 0)), (3, .c (.pk 3 0)), (21, cB (p0.Stack != p1.Stack))] [(2, .var (eTRules p0) false), (3, .var (eTRules p1) false)] (fun t => t) (by kernel_rfl) ?_
      rcases ofCond H with ⟨c14, H⟩ | ⟨c14, H⟩
      · refine ite_t c14 (by kernel_rfl) ?_
        refine seq_ops [] [] [(4, cB false)] [] (fun t => t) (by kernel_rfl) ?_
        refine ends_ret ?_
        obtain rfl := Option.some.inj H
        exact And.intro (.inl rfl) rfl
      · refine ite_f c14 (by kernel_rfl) ?_
        refine ends_skip ?_
        change EndsI _ _ _ _ _ _
        refine seq_in ?_
        refine seq_ops [] [] [(2, .c (.pk 2 0)), (3, .c (.pk 3 0)), (26, cB (p0.River != p1.River))] [(2, .var (eTRules p0) false), (3, .var (eTRules p1) false)] (fun t => t) (by kernel_rfl) ?_
        rcases ofCond H with ⟨c16, H⟩ | ⟨c16, H⟩
        · refine ite_t c16 (by kernel_rfl) ?_
          refine seq_ops [] [] [(4, cB false)] [] (fun t => t) (by kernel_rfl) ?_
          refine ends_ret ?_
          obtain rfl := Option.some.inj H
          exact And.intro (.inl rfl) rfl
        · refine ite_f c16 (by kernel_rfl) ?_
          refine ends_skip ?_
          change EndsI _ _ _ _ _ _
          refine seq_in ?_
          refine seq_ops [] [] [(2, .c (.pk 2 0)), (3, .c (.pk 3 0)), (31, cB (p0.Road != p1.Road))] [(2, .var (eTRules p0) false), (3, .var (eTRules p1) false)] (fun t => t) (by kernel_rfl) ?_
          rcases ofCond H with ⟨c18, H⟩ | ⟨c18, H⟩
          · refine ite_t c18 (by kernel_rfl) ?_
            refine seq_ops [] [] [(4, cB false)] [] (fun t => t) (by kernel_rfl) ?_
            refine ends_ret ?_
            obtain rfl := Option.some.inj H
            exact And.intro (.inl rfl) rfl
          · refine ite_f c18 (by kernel_rfl) ?_
            refine ends_skip ?_
            change EndsI _ _ _ _ _ _
            refine seq_in ?_
            refine seq_ops [] [] [(2, .c (.pk 2 0)), (3, .c (.pk 3 0)), (36, cB (p0.Supply != p1.Supply))] [(2, .var (eTRules p0) false), (3, .var (eTRules p1) false)] (fun t => t) (by kernel_rfl) ?_
            rcases ofCond H with ⟨c20, H⟩ | ⟨c20, H⟩
            · refine ite_t c20 (by kernel_rfl) ?_
              refine seq_ops [] [] [(4, cB false)] [] (fun t => t) (by kernel_rfl) ?_
              refine ends_ret ?_
              obtain rfl := Option.some.inj H
              exact And.intro (.inl rfl) rfl
            · refine ite_f c20 (by kernel_rfl) ?_
              refine ends_skip ?_
              change EndsI _ _ _ _ _ _
              refine seq_in ?_
              refine seq_ops [] [] [(41, cB (p0.Turns != p1.Turns))] [] (fun t => t) (by kernel_rfl) ?_
              rcases ofCond H with ⟨c21, H⟩ | ⟨c21, H⟩
              · refine ite_t c21 (by kernel_rfl) ?_
                refine seq_ops [] [] [(4, cB false)] [] (fun t => t) (by kernel_rfl) ?_
                refine ends_ret ?_
                obtain rfl := Option.some.inj H
                exact And.intro (.inl rfl) rfl
              · refine ite_f c21 (by kernel_rfl) ?_
                refine ends_skip ?_
                change EndsI _ _ _ _ _ _
                refine seq_ops [] [] [(4, cB true)] [] (fun t => t) (by kernel_rfl) ?_
                refine ends_ret ?_
                obtain rfl := Option.some.inj H
                exact And.intro (.inl rfl) rfl

def l_eqMap_ir : S :=
 (.seq (.ops [⟨some 2, .box 5 (.t 0), none⟩, ⟨some 3, .box 5 (.t 1), none⟩, ⟨some 4, .mv (.v (.bool false)), none⟩])
 (.seq (.seq (.ops [⟨some 5, .fad 0 (.t 2), none⟩, ⟨some 6, .load 1 false (.t 5), none⟩, ⟨some 7, .fad 0 (.t 3), none⟩, ⟨some 8, .load 1 false (.t 7), none⟩, ⟨some 9, .bin .neq (.t 6) (.t 8), none⟩])
 (.ite (.t 9) (.seq (.ops [⟨some 4, .mv (.v (.bool false)), none⟩])
  .ret)
 .skip))
 (.seq (.seq (.ops [⟨some 10, .fad 1 (.t 2), none⟩, ⟨some 11, .load 1 false (.t 10), none⟩, ⟨some 12, .fad 1 (.t 3), none⟩, ⟨some 13, .load 1 false (.t 12), none⟩, ⟨some 14, .bin .neq (.t 11) (.t 13), none⟩])
 (.ite (.t 14) (.seq (.ops [⟨some 4, .mv (.v (.bool false)), none⟩])
  .ret)
 .skip))
 (.seq (.seq (.ops [⟨some 15, .fad 2 (.t 2), none⟩, ⟨some 16, .load 1 false (.t 15), none⟩, ⟨some 17, .fad 2 (.t 3), none⟩, ⟨some 18, .load 1 false (.t 17), none⟩, ⟨some 19, .call 18 [.t 16, .t 18], none⟩, ⟨some 20, .not (.t 19), none⟩])
 (.ite (.t 20) (.seq (.ops [⟨some 4, .mv (.v (.bool false)), none⟩])
  .ret)
 .skip))
 (.seq (.seq (.ops [⟨some 21, .fad 3 (.t 2), none⟩, ⟨some 22, .load 1 false (.t 21), none⟩, ⟨some 23, .fad 3 (.t 3), none⟩, ⟨some 24, .load 1 false (.t 23), none⟩, ⟨some 25, .call 18 [.t 22, .t 24], none⟩, ⟨some 26, .not (.t 25), none⟩])
 (.ite (.t 26) (.seq (.ops [⟨some 4, .mv (.v (.bool false)), none⟩])
  .ret)
 .skip))
 (.seq (.seq (.ops [⟨some 27, .fad 4 (.t 2), none⟩, ⟨some 28, .load 1 false (.t 27), none⟩, ⟨some 29, .fad 4 (.t 3), none⟩, ⟨some 30, .load 1 false (.t 29), none⟩, ⟨some 31, .call 18 [.t 28, .t 30], none⟩, ⟨some 32, .not (.t 31), none⟩])
 (.ite (.t 32) (.seq (.ops [⟨some 4, .mv (.v (.bool false)), none⟩])
  .ret)
 .skip))
 (.seq (.ops [⟨some 4, .mv (.v (.bool true)), none⟩])
 .ret)))))))
noncomputable def X.l_eqMap (p0 : TMap) (p1 : TMap) : Option Bool :=
  (bif (p0.Width != p1.Width) then some false else (bif (p0.Height != p1.Height) then some false else ((X.l_eqIntS p0.Terrain p1.Terrain).bind fun v8 => (bif (!v8) then some false else ((X.l_eqIntS p0.Rivers p1.Rivers).bind fun v14 => (bif (!v14) then some false else ((X.l_eqIntS p0.Roads p1.Roads).bind fun v17 => (bif (!v17) then some false else some true))))))))
theorem l_eqMap_ok (p0 : TMap) (p1 : TMap) (r : Bool) (H : X.l_eqMap p0 p1 = some r) : FnOk Tryz.prog gl 74 [.agg (eTMap p0), .agg (eTMap p1)] (cB r) := by
  unfold X.l_eqMap at H
  refine fn_in (fn := Tryz.f74) (ir := l_eqMap_ir) (s1 := lit [(4, cB r)] []) glL Tryz.func74 (by kernel_rfl) (by kernel_rfl) (by kernel_rfl) (by kernel_rfl) (by kernel_rfl) ?_
  refine seq_ops [] [] [(2, .c (.pk 2 0)), (3, .c (.pk 3 0))] [(2, .var (eTMap p0) false), (3, .var (eTMap p1) false)] (fun t => t) (by kernel_rfl) ?_
  refine seq_in ?_
  refine seq_ops [] [] [(2, .c (.pk 2 0)), (3, .c (.pk 3 0)), (9, cB (p0.Width != p1.Width))] [(2, .var (eTMap p0) false), (3, .var (eTMap p1) false)] (fun t => t) (by kernel_rfl) ?_
  rcases ofCond H with ⟨c2, H⟩ | ⟨c2, H⟩
  · refine ite_t c2 (by kernel_rfl) ?_
    refine seq_ops [] [] [(4, cB false)] [] (fun t => t) (by kernel_rfl) ?_
    refine ends_ret ?_
    obtain rfl := Option.some.inj H
    exact And.intro (.inl rfl) rfl
  · refine ite_f c2 (by kernel_rfl) ?_
    refine ends_skip ?_
    change EndsI _ _ _ _ _ _
    refine seq_in ?_
    refine seq_ops [] [] [(2, .c (.pk 2 0)), (3, .c (.pk 3 0)), (14, cB (p0.Height != p1.Height))] [(2, .var (eTMap p0) false), (3, .var (eTMap p1) false)] (fun t => t) (by kernel_rfl) ?_
    rcases ofCond H with ⟨c4, H⟩ | ⟨c4, H⟩
    · refine ite_t c4 (by kernel_rfl) ?_
      refine seq_ops [] [] [(4, cB false)] [] (fun t => t) (by kernel_rfl) ?_
      refine ends_ret ?_
      obtain rfl := Option.some.inj H
      exact And.intro (.inl rfl) rfl
    · refine ite_f c4 (by kernel_rfl) ?_
      refine ends_skip ?_
      change EndsI _ _ _ _ _ _
      refine seq_in ?_
      obtain ⟨v8, h9, H⟩ := ofBind H
      refine seq_ops [.res (cB v8)] [] [(2, .c (.pk 2 0)), (3, .c (.pk 3 0)), (20, cB (!v8))] [(2, .var (eTMap p0) false), (3, .var (eTMap p1) false)] (fun t => aI (l_eqIntS_ok p0.Terrain p1.Terrain v8 h9) (t)) (by kernel_rfl) ?_
      rcases ofCond H with ⟨c10, H⟩ | ⟨c10, H⟩
      · refine ite_t c10 (by kernel_rfl) ?_
        refine seq_ops [] [] [(4, cB false)] [] (fun t => t) (by kernel_rfl) ?_
        refine ends_ret ?_
        obtain rfl := Option.some.inj H
        exact And.intro (.inl rfl) rfl
      · refine ite_f c10 (by kernel_rfl) ?_
        refine ends_skip ?_
        change EndsI _ _ _ _ _ _
        refine seq_in ?_
        obtain ⟨v14, h15, H⟩ := ofBind H
        refine seq_ops [.res (cB v14)] [] [(2, .c (.pk 2 0)), (3, .c (.pk 3 0)), (26, cB (!v14))] [(2, .var (eTMap p0) false), (3, .var (eTMap p1) false)] (fun t => aI (l_eqIntS_ok p0.Rivers p1.Rivers v14 h15) (t)) (by kernel_rfl) ?_
        rcases ofCond H with ⟨c16, H⟩ | ⟨c16, H⟩
        · refine ite_t c16 (by kernel_rfl) ?_
          refine seq_ops [] [] [(4, cB false)] [] (fun t => t) (by kernel_rfl) ?_
          refine ends_ret ?_
          obtain rfl := Option.some.inj H
          exact And.intro (.inl rfl) rfl
        · refine ite_f c16 (by kernel_rfl) ?_
          refine ends_skip ?_
          change EndsI _ _ _ _ _ _
          refine seq_in ?_
          obtain ⟨v17, h18, H⟩ := ofBind H
          refine seq_ops [.res (cB v17)] [] [(32, cB (!v17))] [] (fun t => aI (l_eqIntS_ok p0.Roads p1.Roads v17 h18) (t)) (by kernel_rfl) ?_
          rcases ofCond H with ⟨c19, H⟩ | ⟨c19, H⟩
          · refine ite_t c19 (by kernel_rfl) ?_
            refine seq_ops [] [] [(4, cB false)] [] (fun t => t) (by kernel_rfl) ?_
            refine ends_ret ?_
            obtain rfl := Option.some.inj H
            exact And.intro (.inl rfl) rfl
          · refine ite_f c19 (by kernel_rfl) ?_
            refine ends_skip ?_
            change EndsI _ _ _ _ _ _
            refine seq_ops [] [] [(4, cB true)] [] (fun t => t) (by kernel_rfl) ?_
            refine ends_ret ?_
            obtain rfl := Option.some.inj H
            exact And.intro (.inl rfl) rfl

def l_eqBoard_ir : S :=
 (.seq (.ops [⟨some 2, .box 12 (.t 0), none⟩, ⟨some 3, .box 12 (.t 1), none⟩, ⟨some 4, .mv (.v (.bool false)), none⟩])
 (.seq (.seq (.ops [⟨some 5, .fad 0 (.t 2), none⟩, ⟨some 6, .load 7 true (.t 5), none⟩, ⟨some 7, .fad 0 (.t 3), none⟩, ⟨some 8, .load 7 true (.t 7), none⟩, ⟨some 9, .call 73 [.t 6, .t 8], none⟩, ⟨some 10, .not (.t 9), none⟩])
 (.ite (.t 10) (.seq (.ops [⟨some 4, .mv (.v (.bool false)), none⟩])
  .ret)
 .skip))
 (.seq (.seq (.ops [⟨some 11, .fad 7 (.t 2), none⟩, ⟨some 12, .load 5 true (.t 11), none⟩, ⟨some 13, .fad 7 (.t 3), none⟩, ⟨some 14, .load 5 true (.t 13), none⟩, ⟨some 15, .call 74 [.t 12, .t 14], none⟩, ⟨some 16, .not (.t 15), none⟩])
 (.ite (.t 16) (.seq (.ops [⟨some 4, .mv (.v (.bool false)), none⟩])
  .ret)
 .skip))
 (.seq (.ops [⟨some 4, .mv (.v (.bool true)), none⟩])
 .ret))))
noncomputable def X.l_eqBoard (p0 : TBoard) (p1 : TBoard) : Option Bool :=
  ((X.l_eqRules p0.Rules p1.Rules).bind fun v4 => (bif (!v4) then some false else ((X.l_eqMap p0.Map p1.Map).bind fun v7 => (bif (!v7) then some false else some true))))
theorem l_eqBoard_ok (p0 : TBoard) (p1 : TBoard) (r : Bool) (H : X.l_eqBoard p0 p1 = some r) : FnOk Tryz.prog gl 19 [.agg (eTBoard p0), .agg (eTBoard p1)] (cB r) := by
  unfold X.l_eqBoard at H
  refine fn_in (fn := Tryz.f19) (ir := l_eqBoard_ir) (s1 := lit [(4, cB r)] []) glL Tryz.func19 (by kernel_rfl) (by kernel_rfl) (by kernel_rfl) (by kernel_rfl) (by kernel_rfl) ?_
  refine seq_ops [] [] [(2, .c (.pk 2 0)), (3, .c (.pk 3 0))] [(2, .var (eTBoard p0) false), (3, .var (eTBoard p1) false)] (fun t => t) (by kernel_rfl) ?_
  refine seq_in ?_
  obtain ⟨v4, h5, H⟩ := ofBind H
  refine seq_ops [.res (cB v4)] [] [(2, .c (.pk 2 0)), (3, .c (.pk 3 0)), (10, cB (!v4))] [(2, .var (eTBoard p0) false), (3, .var (eTBoard p1) false)] (fun t => aI (l_eqRules_ok p0.Rules p1.Rules v4 h5) (t)) (by kernel_rfl) ?_
  rcases ofCond H with ⟨c6, H⟩ | ⟨c6, H⟩
  · refine ite_t c6 (by kernel_rfl) ?_
    refine seq_ops [] [] [(4, cB false)] [] (fun t => t) (by kernel_rfl) ?_
    refine ends_ret ?_
    obtain rfl := Option.some.inj H
    exact And.intro (.inl rfl) rfl
  · refine ite_f c6 (by kernel_rfl) ?_
    refine ends_skip ?_
    change EndsI _ _ _ _ _ _
    refine seq_in ?_
    obtain ⟨v7, h8, H⟩ := ofBind H
    refine seq_ops [.res (cB v7)] [] [(16, cB (!v7))] [] (fun t => aI (l_eqMap_ok p0.Map p1.Map v7 h8) (t)) (by kernel_rfl) ?_
    rcases ofCond H with ⟨c9, H⟩ | ⟨c9, H⟩
    · refine ite_t c9 (by kernel_rfl) ?_
      refine seq_ops [] [] [(4, cB false)] [] (fun t => t) (by kernel_rfl) ?_
      refine ends_ret ?_
      obtain rfl := Option.some.inj H
      exact And.intro (.inl rfl) rfl
    · refine ite_f c9 (by kernel_rfl) ?_
      refine ends_skip ?_
      change EndsI _ _ _ _ _ _
      refine seq_ops [] [] [(4, cB true)] [] (fun t => t) (by kernel_rfl) ?_
      refine ends_ret ?_
      obtain rfl := Option.some.inj H
      exact And.intro (.inl rfl) rfl

def l_markIntS_ir : S :=
 (.seq (.ops [⟨some 4, .mv (.v (.int .i64 0)), none⟩])
 (.seq (.seq (.ops [⟨some 5, .mv (.v (.int .i64 0)), none⟩])
 (.blk 0 (.loop (.seq (.seq (.ops [⟨some 6, .mv (.t 5), none⟩, ⟨some 7, .mv (.t 0), none⟩, ⟨some 8, .len (.t 7), none⟩, ⟨some 9, .bin .lss (.t 6) (.t 8), none⟩])
   (.ite (.t 9) .skip
   (.exit 0)))
   (.seq (.blk 1 (.seq (.ops [⟨some 12, .mv (.t 0), none⟩, ⟨some 13, .mv (.t 5), none⟩, ⟨some 14, .mv (.t 1), none⟩, ⟨some 15, .iad 1 (.t 12) (.t 13), none⟩, ⟨none, .store 1 (.t 15) (.t 14), none⟩])
    (.ops [⟨some 16, .mv (.t 1), none⟩, ⟨some 17, .bin .add (.t 16) (.v (.int .i64 1)), none⟩, ⟨some 1, .mv (.t 17), none⟩])))
   (.ops [⟨some 10, .mv (.t 5), none⟩, ⟨some 11, .bin .add (.t 10) (.v (.int .i64 1)), none⟩, ⟨some 5, .mv (.t 11), none⟩]))))))
 (.seq (.ops [⟨some 18, .mv (.t 1), none⟩, ⟨some 4, .mv (.t 18), none⟩])
 .ret)))
noncomputable def X.l_markIntS_L (p0 : (List Int)) (p1 : Int) : Option Int :=
  ((loop (fun (x10 : (Int × Int)) => ((bif (decide (x10.2 < (p0.length : Int))) then ((at' zI p0 x10.2).bind fun v13 => some (Sum.inl ((W (x10.1 + 1)), (W (x10.2 + 1))))) else some (Sum.inr x10.1)) : Option ((Int × Int) ⊕ Int))) (p1, 0)).bind fun y15 => some y15)
theorem l_markIntS_L_ok (p0 : (List Int)) (p1 : Int) (r : Int) (H : X.l_markIntS_L p0 p1 = some r) : FnOk Tryz.prog gl 23 [.c (.lv (dat 1 eI zI p0)), cI p1] (cI r) := by
  unfold X.l_markIntS_L at H
  refine fn_in (fn := Tryz.f23) (ir := l_markIntS_ir) (s1 := lit [(4, cI r)] []) glL Tryz.func23 (by kernel_rfl) (by kernel_rfl) (by kernel_rfl) (by kernel_rfl) (by kernel_rfl) ?_
  refine seq_ops [] [] [(0, .c (.lv (dat 1 eI zI p0))), (1, cI p1)] [] (fun t => t) (by kernel_rfl) ?_
  refine seq_in ?_
  refine seq_ops [] [] [(0, .c (.lv (dat 1 eI zI p0))), (1, cI p1), (5, cI 0)] [] (fun t => t) (by kernel_rfl) ?_
  refine ends_blk ?_
  obtain ⟨y15, h16, H⟩ := ofBind H
  refine loop_in (fun (x : (Int × Int)) => lit [(0, .c (.lv (dat 1 eI zI p0))), (1, cI x.1), (5, cI x.2)] []) (fun (z : Int) => At (.exit 0) (lit [(1, cI z)] [])) h16 ?_ ?_
  · clear H h16
    intro x10 y0 H
    refine seq_in ?_
    refine seq_ops [] [] [(0, .c (.lv (dat 1 eI zI p0))), (1, cI x10.1), (5, cI x10.2), (9, cB (decide (x10.2 < (p0.length : Int))))] [] (fun t => lI p0 (t)) (by kernel_rfl) ?_
    rcases ofCond H with ⟨c12, H⟩ | ⟨c12, H⟩
    · refine ite_t c12 (by kernel_rfl) ?_
      refine ends_skip ?_
      change EndsI _ _ _ _ _ _
      refine seq_in ?_
      refine ends_blk ?_
      obtain ⟨v13, h14, H⟩ := ofBind H
      refine seq_ops [.cs (eI v13)] [] [(0, .c (.lv (dat 1 eI zI p0))), (1, cI x10.1), (5, cI x10.2)] [] (fun t => aI (at_lt h14) (aI (at_enc (enc := eI) h14) (aI (rfl : true = true) (t)))) (by kernel_rfl) ?_
      refine one_ops [] [] [(0, .c (.lv (dat 1 eI zI p0))), (1, cI (W (x10.1 + 1))), (5, cI x10.2)] [] (fun t => t) (by kernel_rfl) ?_
      change EndsI _ _ _ _ _ _
      refine one_ops [] [] [(0, .c (.lv (dat 1 eI zI p0))), (1, cI (W (x10.1 + 1))), (5, cI (W (x10.2 + 1)))] [] (fun t => t) (by kernel_rfl) ?_
      obtain rfl := Option.some.inj H
      exact And.intro rfl rfl
    · refine ite_f c12 (by kernel_rfl) ?_
      refine tell [] [(1, cI x10.1)] [] (fun t => t) (by kernel_rfl) ?_
      refine ends_exit ?_
      obtain rfl := Option.some.inj H
      exact And.intro (by simp) (And.intro rfl rfl)
  · clear h16
    intro e s q
    obtain ⟨rfl, rfl⟩ := q
    change EndsI _ _ _ _ _ _
    refine seq_ops [] [] [(4, cI y15)] [] (fun t => t) (by kernel_rfl) ?_
    refine ends_ret ?_
    obtain rfl := Option.some.inj H
    exact And.intro (.inl rfl) rfl

def l_markText_ir : S :=
 (.seq (.ops [⟨some 2, .mv (.v (.str [])), none⟩])
 (.seq (.seq (.ops [⟨some 4, .mv (.t 0), none⟩, ⟨some 5, .bin .leq (.t 4) (.v (.int .i64 0)), none⟩])
 (.ite (.t 5) (.seq (.ops [⟨some 2, .mv (.v (.str [109, 48])), none⟩])
  .ret)
 .skip))
 (.seq (.ops [⟨some 3, .mv (.v (.str [])), none⟩])
 (.seq (.blk 0 (.loop (.seq (.seq (.ops [⟨some 6, .mv (.t 0), none⟩, ⟨some 7, .bin .gtr (.t 6) (.v (.int .i64 0)), none⟩])
   (.ite (.t 7) .skip
   (.exit 0)))
   (.blk 1 (.seq (.ops [⟨some 8, .mv (.t 0), none⟩, ⟨some 9, .bin .rem (.t 8) (.v (.int .i64 10)), none⟩, ⟨some 10, .bin .add (.v (.int .i64 48)) (.t 9), none⟩, ⟨some 11, .conv .u8 (.t 10), none⟩, ⟨some 12, .bsl 1 [.t 11], none⟩, ⟨some 13, .b2s (.t 12), none⟩, ⟨some 14, .mv (.t 3), none⟩, ⟨some 15, .bin .add (.t 13) (.t 14), none⟩, ⟨some 3, .mv (.t 15), none⟩])
    (.ops [⟨some 16, .mv (.t 0), none⟩, ⟨some 17, .bin .quo (.t 16) (.v (.int .i64 10)), none⟩, ⟨some 0, .mv (.t 17), none⟩]))))))
 (.seq (.ops [⟨some 18, .mv (.t 3), none⟩, ⟨some 19, .bin .add (.v (.str [109])) (.t 18), none⟩, ⟨some 2, .mv (.t 19), none⟩])
 .ret)))))
noncomputable def X.l_markText (p0 : Int) : Option (List UInt8) :=
  (bif (decide (p0 ≤ 0)) then some [109, 48] else ((loop (fun (x12 : (Int × (List UInt8))) => ((bif (decide (x12.1 > 0)) then (if ([(IntKind.u8.wrap (W (48 + (Int.tmod x12.1 10))))] : List Int).all inU8 = true then (if (bytesOf ([(IntKind.u8.wrap (W (48 + (Int.tmod x12.1 10))))] : List Int)).length + x12.2.length ≤ maxLen then some (Sum.inl ((W (Int.tdiv x12.1 10)), ((bytesOf ([(IntKind.u8.wrap (W (48 + (Int.tmod x12.1 10))))] : List Int)) ++ x12.2))) else none) else none) else some (Sum.inr x12.2)) : Option ((Int × (List UInt8)) ⊕ (List UInt8)))) (p0, [])).bind fun y17 => (if ([109] : List UInt8).length + y17.length ≤ maxLen then some (([109] : List UInt8) ++ y17) else none)))
theorem l_markText_ok (p0 : Int) (r : (List UInt8)) (H : X.l_markText p0 = some r) : FnOk Tryz.prog gl 187 [cI p0] (.c (.str r)) := by
  unfold X.l_markText at H
  refine fn_in (fn := Tryz.f187) (ir := l_markText_ir) (s1 := lit [(2, .c (.str r))] []) glL Tryz.func187 (by kernel_rfl) (by kernel_rfl) (by kernel_rfl) (by kernel_rfl) (by kernel_rfl) ?_
  refine seq_ops [] [] [(0, cI p0)] [] (fun t => t) (by kernel_rfl) ?_
  refine seq_in ?_
  refine seq_ops [] [] [(0, cI p0), (5, cB (decide (p0 ≤ 0)))] [] (fun t => t) (by kernel_rfl) ?_
  rcases ofCond H with ⟨c2, H⟩ | ⟨c2, H⟩
  · refine ite_t c2 (by kernel_rfl) ?_
    refine seq_ops [] [] [(2, .c (.str [109, 48]))] [] (fun t => t) (by kernel_rfl) ?_
    refine ends_ret ?_
    obtain rfl := Option.some.inj H
    exact And.intro (.inl rfl) rfl
  · refine ite_f c2 (by kernel_rfl) ?_
    refine ends_skip ?_
    change EndsI _ _ _ _ _ _
    refine seq_ops [] [] [(0, cI p0), (3, .c (.str []))] [] (fun t => t) (by kernel_rfl) ?_
    refine seq_in ?_
    refine ends_blk ?_
    obtain ⟨y17, h18, H⟩ := ofBind H
    refine loop_in (fun (x : (Int × (List UInt8))) => lit [(0, cI x.1), (3, .c (.str x.2))] []) (fun (z : (List UInt8)) => At (.exit 0) (lit [(3, .c (.str z))] [])) h18 ?_ ?_
    · clear H h18
      intro x12 y0 H
      refine seq_in ?_
      refine seq_ops [] [] [(0, cI x12.1), (3, .c (.str x12.2)), (7, cB (decide (x12.1 > 0)))] [] (fun t => t) (by kernel_rfl) ?_
      rcases ofCond H with ⟨c14, H⟩ | ⟨c14, H⟩
      · refine ite_t c14 (by kernel_rfl) ?_
        refine ends_skip ?_
        change EndsI _ _ _ _ _ _
        refine ends_blk ?_
        obtain ⟨g15, H⟩ := ofIf H
        obtain ⟨g16, H⟩ := ofIf H
        refine seq_ops [.fn ([(IntKind.u8.wrap (W (48 + (Int.tmod x12.1 10))))] : List Int).length (fF eU zI ([(IntKind.u8.wrap (W (48 + (Int.tmod x12.1 10))))] : List Int)), .str (bytesOf ([(IntKind.u8.wrap (W (48 + (Int.tmod x12.1 10))))] : List Int))] [] [(0, cI x12.1), (3, .c (.str ((bytesOf ([(IntKind.u8.wrap (W (48 + (Int.tmod x12.1 10))))] : List Int)) ++ x12.2)))] [] (fun t => aI (by decide : (10 : Int) ≠ 0) (aI (rfl : ([(IntKind.u8.wrap (W (48 + (Int.tmod x12.1 10))))] : List Int).length = 1) (aI (fF_lit eU zI ([(IntKind.u8.wrap (W (48 + (Int.tmod x12.1 10))))] : List Int)) (aI (Nat.le_refl (([(IntKind.u8.wrap (W (48 + (Int.tmod x12.1 10))))] : List Int).length)) (aI (bytesOf_len ([(IntKind.u8.wrap (W (48 + (Int.tmod x12.1 10))))] : List Int)) (aI (bytesOf_at ([(IntKind.u8.wrap (W (48 + (Int.tmod x12.1 10))))] : List Int) g15) (aI g16 (t)))))))) (by kernel_rfl) ?_
        refine one_ops [] [] [(0, cI (W (Int.tdiv x12.1 10))), (3, .c (.str ((bytesOf ([(IntKind.u8.wrap (W (48 + (Int.tmod x12.1 10))))] : List Int)) ++ x12.2)))] [] (fun t => aI (by decide : (10 : Int) ≠ 0) (t)) (by kernel_rfl) ?_
        obtain rfl := Option.some.inj H
        exact And.intro rfl rfl
      · refine ite_f c14 (by kernel_rfl) ?_
        refine tell [] [(3, .c (.str x12.2))] [] (fun t => t) (by kernel_rfl) ?_
        refine ends_exit ?_
        obtain rfl := Option.some.inj H
        exact And.intro (by simp) (And.intro rfl rfl)
    · clear h18
      intro e s q
      obtain ⟨rfl, rfl⟩ := q
      change EndsI _ _ _ _ _ _
      obtain ⟨g19, H⟩ := ofIf H
      refine seq_ops [] [] [(2, .c (.str (([109] : List UInt8) ++ y17)))] [] (fun t => aI g19 (t)) (by kernel_rfl) ?_
      refine ends_ret ?_
      obtain rfl := Option.some.inj H
      exact And.intro (.inl rfl) rfl

def l_markTerrainS_ir : S :=
 (.seq (.ops [⟨some 4, .mv (.v (.int .i64 0)), none⟩])
 (.seq (.seq (.ops [⟨some 5, .mv (.v (.int .i64 0)), none⟩])
 (.blk 0 (.loop (.seq (.seq (.ops [⟨some 6, .mv (.t 5), none⟩, ⟨some 7, .mv (.t 0), none⟩, ⟨some 8, .len (.t 7), none⟩, ⟨some 9, .bin .lss (.t 6) (.t 8), none⟩])
   (.ite (.t 9) .skip
   (.exit 0)))
   (.seq (.blk 1 (.seq (.ops [⟨some 12, .mv (.t 0), none⟩, ⟨some 13, .mv (.t 5), none⟩, ⟨some 14, .mv (.t 1), none⟩, ⟨some 15, .call 187 [.t 14], none⟩, ⟨some 16, .iad 5 (.t 12) (.t 13), none⟩, ⟨some 17, .fad 0 (.t 16), none⟩, ⟨none, .store 1 (.t 17) (.t 15), none⟩])
    (.seq (.ops [⟨some 18, .mv (.t 1), none⟩, ⟨some 19, .bin .add (.t 18) (.v (.int .i64 1)), none⟩, ⟨some 1, .mv (.t 19), none⟩])
    (.seq (.ops [⟨some 20, .mv (.t 0), none⟩, ⟨some 21, .mv (.t 5), none⟩, ⟨some 22, .iad 5 (.t 20) (.t 21), none⟩, ⟨some 23, .fad 1 (.t 22), none⟩, ⟨some 24, .load 1 false (.t 23), none⟩, ⟨some 25, .mv (.t 1), none⟩, ⟨some 26, .call 23 [.t 24, .t 25], none⟩, ⟨some 1, .mv (.t 26), none⟩])
    (.seq (.ops [⟨some 27, .mv (.t 0), none⟩, ⟨some 28, .mv (.t 5), none⟩, ⟨some 29, .mv (.t 1), none⟩, ⟨some 30, .iad 5 (.t 27) (.t 28), none⟩, ⟨some 31, .fad 2 (.t 30), none⟩, ⟨none, .store 1 (.t 31) (.t 29), none⟩])
    (.seq (.ops [⟨some 32, .mv (.t 1), none⟩, ⟨some 33, .bin .add (.t 32) (.v (.int .i64 1)), none⟩, ⟨some 1, .mv (.t 33), none⟩])
    (.seq (.ops [⟨some 34, .mv (.t 0), none⟩, ⟨some 35, .mv (.t 5), none⟩, ⟨some 36, .mv (.t 1), none⟩, ⟨some 37, .iad 5 (.t 34) (.t 35), none⟩, ⟨some 38, .fad 3 (.t 37), none⟩, ⟨none, .store 1 (.t 38) (.t 36), none⟩])
    (.seq (.ops [⟨some 39, .mv (.t 1), none⟩, ⟨some 40, .bin .add (.t 39) (.v (.int .i64 1)), none⟩, ⟨some 1, .mv (.t 40), none⟩])
    (.seq (.ops [⟨some 41, .mv (.t 0), none⟩, ⟨some 42, .mv (.t 5), none⟩, ⟨some 43, .mv (.t 1), none⟩, ⟨some 44, .bin .rem (.t 43) (.v (.int .i64 3)), none⟩, ⟨some 45, .bin .eql (.t 44) (.v (.int .i64 0)), none⟩, ⟨some 46, .iad 5 (.t 41) (.t 42), none⟩, ⟨some 47, .fad 4 (.t 46), none⟩, ⟨none, .store 1 (.t 47) (.t 45), none⟩])
    (.ops [⟨some 48, .mv (.t 1), none⟩, ⟨some 49, .bin .add (.t 48) (.v (.int .i64 1)), none⟩, ⟨some 1, .mv (.t 49), none⟩]))))))))))
   (.ops [⟨some 10, .mv (.t 5), none⟩, ⟨some 11, .bin .add (.t 10) (.v (.int .i64 1)), none⟩, ⟨some 5, .mv (.t 11), none⟩]))))))
 (.seq (.ops [⟨some 50, .mv (.t 1), none⟩, ⟨some 4, .mv (.t 50), none⟩])
 .ret)))
noncomputable def X.l_markTerrainS_L (p0 : (List TTerrain)) (p1 : Int) : Option Int :=
  ((loop (fun (x18 : (Int × Int)) => ((bif (decide (x18.2 < (p0.length : Int))) then ((X.l_markText x18.1).bind fun v21 => ((at' zTTerrain p0 x18.2).bind fun v23 => ((X.l_markIntS_L v23.Cost (W (x18.1 + 1))).bind fun v25 => some (Sum.inl ((W ((W ((W (v25 + 1)) + 1)) + 1)), (W (x18.2 + 1))))))) else some (Sum.inr x18.1)) : Option ((Int × Int) ⊕ Int))) (p1, 0)).bind fun y27 => some y27)
theorem l_markTerrainS_L_ok (p0 : (List TTerrain)) (p1 : Int) (r : Int) (H : X.l_markTerrainS_L p0 p1 = some r) : FnOk Tryz.prog gl 138 [.c (.lv (dat 5 eTTerrain zTTerrain p0)), cI p1] (cI r) := by
  unfold X.l_markTerrainS_L at H
  refine fn_in (fn := Tryz.f138) (ir := l_markTerrainS_ir) (s1 := lit [(4, cI r)] []) glL Tryz.func138 (by kernel_rfl) (by kernel_rfl) (by kernel_rfl) (by kernel_rfl) (by kernel_rfl) ?_
  refine seq_ops [] [] [(0, .c (.lv (dat 5 eTTerrain zTTerrain p0))), (1, cI p1)] [] (fun t => t) (by kernel_rfl) ?_
  refine seq_in ?_
  refine seq_ops [] [] [(0, .c (.lv (dat 5 eTTerrain zTTerrain p0))), (1, cI p1), (5, cI 0)] [] (fun t => t) (by kernel_rfl) ?_
  refine ends_blk ?_
  obtain ⟨y27, h28, H⟩ := ofBind H
  refine loop_in (fun (x : (Int × Int)) => lit [(0, .c (.lv (dat 5 eTTerrain zTTerrain p0))), (1, cI x.1), (5, cI x.2)] []) (fun (z : Int) => At (.exit 0) (lit [(1, cI z)] [])) h28 ?_ ?_
  · clear H h28
    intro x18 y0 H
    refine seq_in ?_
    refine seq_ops [] [] [(0, .c (.lv (dat 5 eTTerrain zTTerrain p0))), (1, cI x18.1), (5, cI x18.2), (9, cB (decide (x18.2 < (p0.length : Int))))] [] (fun t => lI p0 (t)) (by kernel_rfl) ?_
    rcases ofCond H with ⟨c20, H⟩ | ⟨c20, H⟩
    · refine ite_t c20 (by kernel_rfl) ?_
      refine ends_skip ?_
      change EndsI _ _ _ _ _ _
      refine seq_in ?_
      refine ends_blk ?_
      obtain ⟨v21, h22, H⟩ := ofBind H
      obtain ⟨v23, h24, H⟩ := ofBind H
      refine seq_ops [.res (.c (.str v21)), .cs (eTTerrain v23)] [] [(0, .c (.lv (dat 5 eTTerrain zTTerrain p0))), (1, cI x18.1), (5, cI x18.2)] [] (fun t => aI (l_markText_ok x18.1 v21 h22) (aI (at_lt h24) (aI (at_enc (enc := eTTerrain) h24) (aI (rfl : true = true) (t))))) (by kernel_rfl) ?_
      refine seq_ops [] [] [(0, .c (.lv (dat 5 eTTerrain zTTerrain p0))), (1, cI (W (x18.1 + 1))), (5, cI x18.2)] [] (fun t => t) (by kernel_rfl) ?_
      obtain ⟨v25, h26, H⟩ := ofBind H
      refine seq_ops [.cs (eTTerrain v23), .res (cI v25)] [] [(0, .c (.lv (dat 5 eTTerrain zTTerrain p0))), (1, cI v25), (5, cI x18.2)] [] (fun t => aI (at_lt h24) (aI (at_enc (enc := eTTerrain) h24) (aI (l_markIntS_L_ok v23.Cost (W (x18.1 + 1)) v25 h26) (t)))) (by kernel_rfl) ?_
      refine seq_ops [.cs (eTTerrain v23)] [] [(0, .c (.lv (dat 5 eTTerrain zTTerrain p0))), (1, cI v25), (5, cI x18.2)] [] (fun t => aI (at_lt h24) (aI (at_enc (enc := eTTerrain) h24) (aI (rfl : true = true) (t)))) (by kernel_rfl) ?_
      refine seq_ops [] [] [(0, .c (.lv (dat 5 eTTerrain zTTerrain p0))), (1, cI (W (v25 + 1))), (5, cI x18.2)] [] (fun t => t) (by kernel_rfl) ?_
      refine seq_ops [.cs (eTTerrain v23)] [] [(0, .c (.lv (dat 5 eTTerrain zTTerrain p0))), (1, cI (W (v25 + 1))), (5, cI x18.2)] [] (fun t => aI (at_lt h24) (aI (at_enc (enc := eTTerrain) h24) (aI (rfl : true = true) (t)))) (by kernel_rfl) ?_
      refine seq_ops [] [] [(0, .c (.lv (dat 5 eTTerrain zTTerrain p0))), (1, cI (W ((W (v25 + 1)) + 1))), (5, cI x18.2)] [] (fun t => t) (by kernel_rfl) ?_
      refine seq_ops [.cs (eTTerrain v23)] [] [(0, .c (.lv (dat 5 eTTerrain zTTerrain p0))), (1, cI (W ((W (v25 + 1)) + 1))), (5, cI x18.2)] [] (fun t => aI (by decide : (3 : Int) ≠ 0) (aI (at_lt h24) (aI (at_enc (enc := eTTerrain) h24) (aI (rfl : true = true) (t))))) (by kernel_rfl) ?_
      refine one_ops [] [] [(0, .c (.lv (dat 5 eTTerrain zTTerrain p0))), (1, cI (W ((W ((W (v25 + 1)) + 1)) + 1))), (5, cI x18.2)] [] (fun t => t) (by kernel_rfl) ?_
      change EndsI _ _ _ _ _ _
      refine one_ops [] [] [(0, .c (.lv (dat 5 eTTerrain zTTerrain p0))), (1, cI (W ((W ((W (v25 + 1)) + 1)) + 1))), (5, cI (W (x18.2 + 1)))] [] (fun t => t) (by kernel_rfl) ?_
      obtain rfl := Option.some.inj H
      exact And.intro rfl rfl
    · refine ite_f c20 (by kernel_rfl) ?_
      refine tell [] [(1, cI x18.1)] [] (fun t => t) (by kernel_rfl) ?_
      refine ends_exit ?_
      obtain rfl := Option.some.inj H
      exact And.intro (by simp) (And.intro rfl rfl)
  · clear h28
    intro e s q
    obtain ⟨rfl, rfl⟩ := q
    change EndsI _ _ _ _ _ _
    refine seq_ops [] [] [(4, cI y27)] [] (fun t => t) (by kernel_rfl) ?_
    refine ends_ret ?_
    obtain rfl := Option.some.inj H
    exact And.intro (.inl rfl) rfl

def l_markKindS_ir : S :=
 (.seq (.ops [⟨some 4, .mv (.v (.int .i64 0)), none⟩])
 (.seq (.seq (.ops [⟨some 5, .mv (.v (.int .i64 0)), none⟩])
 (.blk 0 (.loop (.seq (.seq (.ops [⟨some 6, .mv (.t 5), none⟩, ⟨some 7, .mv (.t 0), none⟩, ⟨some 8, .len (.t 7), none⟩, ⟨some 9, .bin .lss (.t 6) (.t 8), none⟩])
   (.ite (.t 9) .skip
   (.exit 0)))
   (.seq (.blk 1 (.seq (.ops [⟨some 12, .mv (.t 0), none⟩, ⟨some 13, .mv (.t 5), none⟩, ⟨some 14, .mv (.t 1), none⟩, ⟨some 15, .call 187 [.t 14], none⟩, ⟨some 16, .iad 6 (.t 12) (.t 13), none⟩, ⟨some 17, .fad 0 (.t 16), none⟩, ⟨none, .store 1 (.t 17) (.t 15), none⟩])
    (.seq (.ops [⟨some 18, .mv (.t 1), none⟩, ⟨some 19, .bin .add (.t 18) (.v (.int .i64 1)), none⟩, ⟨some 1, .mv (.t 19), none⟩])
    (.seq (.ops [⟨some 20, .mv (.t 0), none⟩, ⟨some 21, .mv (.t 5), none⟩, ⟨some 22, .mv (.t 1), none⟩, ⟨some 23, .iad 6 (.t 20) (.t 21), none⟩, ⟨some 24, .fad 1 (.t 23), none⟩, ⟨none, .store 1 (.t 24) (.t 22), none⟩])
    (.seq (.ops [⟨some 25, .mv (.t 1), none⟩, ⟨some 26, .bin .add (.t 25) (.v (.int .i64 1)), none⟩, ⟨some 1, .mv (.t 26), none⟩])
    (.seq (.ops [⟨some 27, .mv (.t 0), none⟩, ⟨some 28, .mv (.t 5), none⟩, ⟨some 29, .mv (.t 1), none⟩, ⟨some 30, .iad 6 (.t 27) (.t 28), none⟩, ⟨some 31, .fad 2 (.t 30), none⟩, ⟨none, .store 1 (.t 31) (.t 29), none⟩])
    (.seq (.ops [⟨some 32, .mv (.t 1), none⟩, ⟨some 33, .bin .add (.t 32) (.v (.int .i64 1)), none⟩, ⟨some 1, .mv (.t 33), none⟩])
    (.seq (.ops [⟨some 34, .mv (.t 0), none⟩, ⟨some 35, .mv (.t 5), none⟩, ⟨some 36, .mv (.t 1), none⟩, ⟨some 37, .iad 6 (.t 34) (.t 35), none⟩, ⟨some 38, .fad 3 (.t 37), none⟩, ⟨none, .store 1 (.t 38) (.t 36), none⟩])
    (.seq (.ops [⟨some 39, .mv (.t 1), none⟩, ⟨some 40, .bin .add (.t 39) (.v (.int .i64 1)), none⟩, ⟨some 1, .mv (.t 40), none⟩])
    (.seq (.ops [⟨some 41, .mv (.t 0), none⟩, ⟨some 42, .mv (.t 5), none⟩, ⟨some 43, .mv (.t 1), none⟩, ⟨some 44, .bin .rem (.t 43) (.v (.int .i64 3)), none⟩, ⟨some 45, .bin .eql (.t 44) (.v (.int .i64 0)), none⟩, ⟨some 46, .iad 6 (.t 41) (.t 42), none⟩, ⟨some 47, .fad 4 (.t 46), none⟩, ⟨none, .store 1 (.t 47) (.t 45), none⟩])
    (.seq (.ops [⟨some 48, .mv (.t 1), none⟩, ⟨some 49, .bin .add (.t 48) (.v (.int .i64 1)), none⟩, ⟨some 1, .mv (.t 49), none⟩])
    (.seq (.ops [⟨some 50, .mv (.t 0), none⟩, ⟨some 51, .mv (.t 5), none⟩, ⟨some 52, .mv (.t 1), none⟩, ⟨some 53, .iad 6 (.t 50) (.t 51), none⟩, ⟨some 54, .fad 5 (.t 53), none⟩, ⟨none, .store 1 (.t 54) (.t 52), none⟩])
    (.ops [⟨some 55, .mv (.t 1), none⟩, ⟨some 56, .bin .add (.t 55) (.v (.int .i64 1)), none⟩, ⟨some 1, .mv (.t 56), none⟩])))))))))))))
   (.ops [⟨some 10, .mv (.t 5), none⟩, ⟨some 11, .bin .add (.t 10) (.v (.int .i64 1)), none⟩, ⟨some 5, .mv (.t 11), none⟩]))))))
 (.seq (.ops [⟨some 57, .mv (.t 1), none⟩, ⟨some 4, .mv (.t 57), none⟩])
 .ret)))
noncomputable def X.l_markKindS_L (p0 : (List TKind)) (p1 : Int) : Option Int :=
  ((loop (fun (x14 : (Int × Int)) => ((bif (decide (x14.2 < (p0.length : Int))) then ((X.l_markText x14.1).bind fun v17 => ((at' zTKind p0 x14.2).bind fun v19 => some (Sum.inl ((W ((W ((W ((W ((W ((W (x14.1 + 1)) + 1)) + 1)) + 1)) + 1)) + 1)), (W (x14.2 + 1)))))) else some (Sum.inr x14.1)) : Option ((Int × Int) ⊕ Int))) (p1, 0)).bind fun y21 => some y21)
theorem l_markKindS_L_ok (p0 : (List TKind)) (p1 : Int) (r : Int) (H : X.l_markKindS_L p0 p1 = some r) : FnOk Tryz.prog gl 139 [.c (.lv (dat 6 eTKind zTKind p0)), cI p1] (cI r) := by
  unfold X.l_markKindS_L at H
  refine fn_in (fn := Tryz.f139) (ir := l_markKindS_ir) (s1 := lit [(4, cI r)] []) glL Tryz.func139 (by kernel_rfl) (by kernel_rfl) (by kernel_rfl) (by kernel_rfl) (by kernel_rfl) ?_
  refine seq_ops [] [] [(0, .c (.lv (dat 6 eTKind zTKind p0))), (1, cI p1)] [] (fun t => t) (by kernel_rfl) ?_
  refine seq_in ?_
  refine seq_ops [] [] [(0, .c (.lv (dat 6 eTKind zTKind p0))), (1, cI p1), (5, cI 0)] [] (fun t => t) (by kernel_rfl) ?_
  refine ends_blk ?_
  obtain ⟨y21, h22, H⟩ := ofBind H
  refine loop_in (fun (x : (Int × Int)) => lit [(0, .c (.lv (dat 6 eTKind zTKind p0))), (1, cI x.1), (5, cI x.2)] []) (fun (z : Int) => At (.exit 0) (lit [(1, cI z)] [])) h22 ?_ ?_
  · clear H h22
    intro x14 y0 H
    refine seq_in ?_
    refine seq_ops [] [] [(0, .c (.lv (dat 6 eTKind zTKind p0))), (1, cI x14.1), (5, cI x14.2), (9, cB (decide (x14.2 < (p0.length : Int))))] [] (fun t => lI p0 (t)) (by kernel_rfl) ?_
    rcases ofCond H with ⟨c16, H⟩ | ⟨c16, H⟩
    · refine ite_t c16 (by kernel_rfl) ?_
      refine ends_skip ?_
      change EndsI _ _ _ _ _ _
      refine seq_in ?_
      refine ends_blk ?_
      obtain ⟨v17, h18, H⟩ := ofBind H
      obtain ⟨v19, h20, H⟩ := ofBind H
      refine seq_ops [.res (.c (.str v17)), .cs (eTKind v19)] [] [(0, .c (.lv (dat 6 eTKind zTKind p0))), (1, cI x14.1), (5, cI x14.2)] [] (fun t => aI (l_markText_ok x14.1 v17 h18) (aI (at_lt h20) (aI (at_enc (enc := eTKind) h20) (aI (rfl : true = true) (t))))) (by kernel_rfl) ?_
      refine seq_ops [] [] [(0, .c (.lv (dat 6 eTKind zTKind p0))), (1, cI (W (x14.1 + 1))), (5, cI x14.2)] [] (fun t => t) (by kernel_rfl) ?_
      refine seq_ops [.cs (eTKind v19)] [] [(0, .c (.lv (dat 6 eTKind zTKind p0))), (1, cI (W (x14.1 + 1))), (5, cI x14.2)] [] (fun t => aI (at_lt h20) (aI (at_enc (enc := eTKind) h20) (aI (rfl : true = true) (t)))) (by kernel_rfl) ?_
      refine seq_ops [] [] [(0, .c (.lv (dat 6 eTKind zTKind p0))), (1, cI (W ((W (x14.1 + 1)) + 1))), (5, cI x14.2)] [] (fun t => t) (by kernel_rfl) ?_
      refine seq_ops [.cs (eTKind v19)] [] [(0, .c (.lv (dat 6 eTKind zTKind p0))), (1, cI (W ((W (x14.1 + 1)) + 1))), (5, cI x14.2)] [] (fun t => aI (at_lt h20) (aI (at_enc (enc := eTKind) h20) (aI (rfl : true = true) (t)))) (by kernel_rfl) ?_
      refine seq_ops [] [] [(0, .c (.lv (dat 6 eTKind zTKind p0))), (1, cI (W ((W ((W (x14.1 + 1)) + 1)) + 1))), (5, cI x14.2)] [] (fun t => t) (by kernel_rfl) ?_
      refine seq_ops [.cs (eTKind v19)] [] [(0, .c (.lv (dat 6 eTKind zTKind p0))), (1, cI (W ((W ((W (x14.1 + 1)) + 1)) + 1))), (5, cI x14.2)] [] (fun t => aI (at_lt h20) (aI (at_enc (enc := eTKind) h20) (aI (rfl : true = true) (t)))) (by kernel_rfl) ?_
      refine seq_ops [] [] [(0, .c (.lv (dat 6 eTKind zTKind p0))), (1, cI (W ((W ((W ((W (x14.1 + 1)) + 1)) + 1)) + 1))), (5, cI x14.2)] [] (fun t => t) (by kernel_rfl) ?_
      refine seq_ops [.cs (eTKind v19)] [] [(0, .c (.lv (dat 6 eTKind zTKind p0))), (1, cI (W ((W ((W ((W (x14.1 + 1)) + 1)) + 1)) + 1))), (5, cI x14.2)] [] (fun t => aI (by decide : (3 : Int) ≠ 0) (aI (at_lt h20) (aI (at_enc (enc := eTKind) h20) (aI (rfl : true = true) (t))))) (by kernel_rfl) ?_
      refine seq_ops [] [] [(0, .c (.lv (dat 6 eTKind zTKind p0))), (1, cI (W ((W ((W ((W ((W (x14.1 + 1)) + 1)) + 1)) + 1)) + 1))), (5, cI x14.2)] [] (fun t => t) (by kernel_rfl) ?_
      refine seq_ops [.cs (eTKind v19)] [] [(0, .c (.lv (dat 6 eTKind zTKind p0))), (1, cI (W ((W ((W ((W ((W (x14.1 + 1)) + 1)) + 1)) + 1)) + 1))), (5, cI x14.2)] [] (fun t => aI (at_lt h20) (aI (at_enc (enc := eTKind) h20) (aI (rfl : true = true) (t)))) (by kernel_rfl) ?_
      refine one_ops [] [] [(0, .c (.lv (dat 6 eTKind zTKind p0))), (1, cI (W ((W ((W ((W ((W ((W (x14.1 + 1)) + 1)) + 1)) + 1)) + 1)) + 1))), (5, cI x14.2)] [] (fun t => t) (by kernel_rfl) ?_
      change EndsI _ _ _ _ _ _
      refine one_ops [] [] [(0, .c (.lv (dat 6 eTKind zTKind p0))), (1, cI (W ((W ((W ((W ((W ((W (x14.1 + 1)) + 1)) + 1)) + 1)) + 1)) + 1))), (5, cI (W (x14.2 + 1)))] [] (fun t => t) (by kernel_rfl) ?_
      obtain rfl := Option.some.inj H
      exact And.intro rfl rfl
    · refine ite_f c16 (by kernel_rfl) ?_
      refine tell [] [(1, cI x14.1)] [] (fun t => t) (by kernel_rfl) ?_
      refine ends_exit ?_
      obtain rfl := Option.some.inj H
      exact And.intro (by simp) (And.intro rfl rfl)
  · clear h22
    intro e s q
    obtain ⟨rfl, rfl⟩ := q
    change EndsI _ _ _ _ _ _
    refine seq_ops [] [] [(4, cI y21)] [] (fun t => t) (by kernel_rfl) ?_
    refine ends_ret ?_
    obtain rfl := Option.some.inj H
    exact And.intro (.inl rfl) rfl

def l_markRules_ir : S :=
 (.seq (.ops [⟨some 2, .box 7 (.t 0), none⟩, ⟨some 4, .mv (.v (.int .i64 0)), none⟩])
 (.seq (.ops [⟨some 5, .fad 0 (.t 2), none⟩, ⟨some 6, .load 1 false (.t 5), none⟩, ⟨some 7, .mv (.t 1), none⟩, ⟨some 8, .call 138 [.t 6, .t 7], none⟩, ⟨some 1, .mv (.t 8), none⟩])
 (.seq (.ops [⟨some 9, .fad 1 (.t 2), none⟩, ⟨some 10, .load 1 false (.t 9), none⟩, ⟨some 11, .mv (.t 1), none⟩, ⟨some 12, .call 139 [.t 10, .t 11], none⟩, ⟨some 1, .mv (.t 12), none⟩])
 (.seq (.ops [⟨some 13, .mv (.t 1), none⟩, ⟨some 4, .mv (.t 13), none⟩])
 .ret))))
noncomputable def X.l_markRules_L (p0 : TRules) (p1 : Int) : Option Int :=
  ((X.l_markTerrainS_L p0.Terrains p1).bind fun v1 => ((X.l_markKindS_L p0.Kinds v1).bind fun v3 => some v3))
theorem l_markRules_L_ok (p0 : TRules) (p1 : Int) (r : Int) (H : X.l_markRules_L p0 p1 = some r) : FnOk Tryz.prog gl 76 [.agg [.lv (dat 5 eTTerrain zTTerrain p0.Terrains), .lv (dat 6 eTKind zTKind p0.Kinds), .int .i64 p0.Stack, .int .i64 p0.River, .int .i64 p0.Road, .int .i64 p0.Supply, .int .i64 p0.Turns], cI p1] (cI r) := by
  unfold X.l_markRules_L at H
  refine fn_in (fn := Tryz.f76) (ir := l_markRules_ir) (s1 := lit [(4, cI r)] []) glL Tryz.func76 (by kernel_rfl) (by kernel_rfl) (by kernel_rfl) (by kernel_rfl) (by kernel_rfl) ?_
  refine seq_ops [] [] [(1, cI p1), (2, .c (.pk 2 0))] [(2, .var [.lv (dat 5 eTTerrain zTTerrain p0.Terrains), .lv (dat 6 eTKind zTKind p0.Kinds), .int .i64 p0.Stack, .int .i64 p0.River, .int .i64 p0.Road, .int .i64 p0.Supply, .int .i64 p0.Turns] false)] (fun t => t) (by kernel_rfl) ?_
  obtain ⟨v1, h2, H⟩ := ofBind H
  refine seq_ops [.res (cI v1)] [] [(1, cI v1), (2, .c (.pk 2 0))] [(2, .var [.lv (dat 5 eTTerrain zTTerrain p0.Terrains), .lv (dat 6 eTKind zTKind p0.Kinds), .int .i64 p0.Stack, .int .i64 p0.River, .int .i64 p0.Road, .int .i64 p0.Supply, .int .i64 p0.Turns] false)] (fun t => aI (l_markTerrainS_L_ok p0.Terrains p1 v1 h2) (t)) (by kernel_rfl) ?_
  obtain ⟨v3, h4, H⟩ := ofBind H
  refine seq_ops [.res (cI v3)] [] [(1, cI v3)] [] (fun t => aI (l_markKindS_L_ok p0.Kinds v1 v3 h4) (t)) (by kernel_rfl) ?_
  refine seq_ops [] [] [(4, cI v3)] [] (fun t => t) (by kernel_rfl) ?_
  refine ends_ret ?_
  obtain rfl := Option.some.inj H
  exact And.intro (.inl rfl) rfl

def l_markMap_ir : S :=
 (.seq (.ops [⟨some 2, .box 5 (.t 0), none⟩, ⟨some 4, .mv (.v (.int .i64 0)), none⟩])
 (.seq (.ops [⟨some 5, .fad 2 (.t 2), none⟩, ⟨some 6, .load 1 false (.t 5), none⟩, ⟨some 7, .mv (.t 1), none⟩, ⟨some 8, .call 23 [.t 6, .t 7], none⟩, ⟨some 1, .mv (.t 8), none⟩])
 (.seq (.ops [⟨some 9, .fad 3 (.t 2), none⟩, ⟨some 10, .load 1 false (.t 9), none⟩, ⟨some 11, .mv (.t 1), none⟩, ⟨some 12, .call 23 [.t 10, .t 11], none⟩, ⟨some 1, .mv (.t 12), none⟩])
 (.seq (.ops [⟨some 13, .fad 4 (.t 2), none⟩, ⟨some 14, .load 1 false (.t 13), none⟩, ⟨some 15, .mv (.t 1), none⟩, ⟨some 16, .call 23 [.t 14, .t 15], none⟩, ⟨some 1, .mv (.t 16), none⟩])
 (.seq (.ops [⟨some 17, .mv (.t 1), none⟩, ⟨some 4, .mv (.t 17), none⟩])
 .ret)))))
noncomputable def X.l_markMap_L (p0 : TMap) (p1 : Int) : Option Int :=
  ((X.l_markIntS_L p0.Terrain p1).bind fun v1 => ((X.l_markIntS_L p0.Rivers v1).bind fun v3 => ((X.l_markIntS_L p0.Roads v3).bind fun v5 => some v5)))
theorem l_markMap_L_ok (p0 : TMap) (p1 : Int) (r : Int) (H : X.l_markMap_L p0 p1 = some r) : FnOk Tryz.prog gl 77 [.agg [.int .i64 p0.Width, .int .i64 p0.Height, .lv (dat 1 eI zI p0.Terrain), .lv (dat 1 eI zI p0.Rivers), .lv (dat 1 eI zI p0.Roads)], cI p1] (cI r) := by
  unfold X.l_markMap_L at H
  refine fn_in (fn := Tryz.f77) (ir := l_markMap_ir) (s1 := lit [(4, cI r)] []) glL Tryz.func77 (by kernel_rfl) (by kernel_rfl) (by kernel_rfl) (by kernel_rfl) (by kernel_rfl) ?_
  refine seq_ops [] [] [(1, cI p1), (2, .c (.pk 2 0))] [(2, .var [.int .i64 p0.Width, .int .i64 p0.Height, .lv (dat 1 eI zI p0.Terrain), .lv (dat 1 eI zI p0.Rivers), .lv (dat 1 eI zI p0.Roads)] false)] (fun t => t) (by kernel_rfl) ?_
  obtain ⟨v1, h2, H⟩ := ofBind H
  refine seq_ops [.res (cI v1)] [] [(1, cI v1), (2, .c (.pk 2 0))] [(2, .var [.int .i64 p0.Width, .int .i64 p0.Height, .lv (dat 1 eI zI p0.Terrain), .lv (dat 1 eI zI p0.Rivers), .lv (dat 1 eI zI p0.Roads)] false)] (fun t => aI (l_markIntS_L_ok p0.Terrain p1 v1 h2) (t)) (by kernel_rfl) ?_
  obtain ⟨v3, h4, H⟩ := ofBind H
  refine seq_ops [.res (cI v3)] [] [(1, cI v3), (2, .c (.pk 2 0))] [(2, .var [.int .i64 p0.Width, .int .i64 p0.Height, .lv (dat 1 eI zI p0.Terrain), .lv (dat 1 eI zI p0.Rivers), .lv (dat 1 eI zI p0.Roads)] false)] (fun t => aI (l_markIntS_L_ok p0.Rivers v1 v3 h4) (t)) (by kernel_rfl) ?_
  obtain ⟨v5, h6, H⟩ := ofBind H
  refine seq_ops [.res (cI v5)] [] [(1, cI v5)] [] (fun t => aI (l_markIntS_L_ok p0.Roads v3 v5 h6) (t)) (by kernel_rfl) ?_
  refine seq_ops [] [] [(4, cI v5)] [] (fun t => t) (by kernel_rfl) ?_
  refine ends_ret ?_
  obtain rfl := Option.some.inj H
  exact And.intro (.inl rfl) rfl

def l_markBoard_ir : S :=
 (.seq (.ops [⟨some 2, .box 12 (.t 0), none⟩, ⟨some 4, .mv (.v (.int .i64 0)), none⟩])
 (.seq (.ops [⟨some 5, .fad 0 (.t 2), none⟩, ⟨some 6, .load 7 true (.t 5), none⟩, ⟨some 7, .mv (.t 1), none⟩, ⟨some 8, .call 76 [.t 6, .t 7], none⟩, ⟨some 1, .mv (.t 8), none⟩])
 (.seq (.ops [⟨some 9, .fad 7 (.t 2), none⟩, ⟨some 10, .load 5 true (.t 9), none⟩, ⟨some 11, .mv (.t 1), none⟩, ⟨some 12, .call 77 [.t 10, .t 11], none⟩, ⟨some 1, .mv (.t 12), none⟩])
 (.seq (.ops [⟨some 13, .mv (.t 1), none⟩, ⟨some 4, .mv (.t 13), none⟩])
 .ret))))
noncomputable def X.l_markBoard_L (p0 : TBoard) (p1 : Int) : Option Int :=
  ((X.l_markRules_L p0.Rules p1).bind fun v1 => ((X.l_markMap_L p0.Map v1).bind fun v3 => some v3))
theorem l_markBoard_L_ok (p0 : TBoard) (p1 : Int) (r : Int) (H : X.l_markBoard_L p0 p1 = some r) : FnOk Tryz.prog gl 21 [.agg [.lv (dat 5 eTTerrain zTTerrain p0.Rules.Terrains), .lv (dat 6 eTKind zTKind p0.Rules.Kinds), .int .i64 p0.Rules.Stack, .int .i64 p0.Rules.River, .int .i64 p0.Rules.Road, .int .i64 p0.Rules.Supply, .int .i64 p0.Rules.Turns, .int .i64 p0.Map.Width, .int .i64 p0.Map.Height, .lv (dat 1 eI zI p0.Map.Terrain), .lv (dat 1 eI zI p0.Map.Rivers), .lv (dat 1 eI zI p0.Map.Roads)], cI p1] (cI r) := by
  unfold X.l_markBoard_L at H
  refine fn_in (fn := Tryz.f21) (ir := l_markBoard_ir) (s1 := lit [(4, cI r)] []) glL Tryz.func21 (by kernel_rfl) (by kernel_rfl) (by kernel_rfl) (by kernel_rfl) (by kernel_rfl) ?_
  refine seq_ops [] [] [(1, cI p1), (2, .c (.pk 2 0))] [(2, .var [.lv (dat 5 eTTerrain zTTerrain p0.Rules.Terrains), .lv (dat 6 eTKind zTKind p0.Rules.Kinds), .int .i64 p0.Rules.Stack, .int .i64 p0.Rules.River, .int .i64 p0.Rules.Road, .int .i64 p0.Rules.Supply, .int .i64 p0.Rules.Turns, .int .i64 p0.Map.Width, .int .i64 p0.Map.Height, .lv (dat 1 eI zI p0.Map.Terrain), .lv (dat 1 eI zI p0.Map.Rivers), .lv (dat 1 eI zI p0.Map.Roads)] false)] (fun t => t) (by kernel_rfl) ?_
  obtain ⟨v1, h2, H⟩ := ofBind H
  refine seq_ops [.res (cI v1)] [] [(1, cI v1), (2, .c (.pk 2 0))] [(2, .var [.lv (dat 5 eTTerrain zTTerrain p0.Rules.Terrains), .lv (dat 6 eTKind zTKind p0.Rules.Kinds), .int .i64 p0.Rules.Stack, .int .i64 p0.Rules.River, .int .i64 p0.Rules.Road, .int .i64 p0.Rules.Supply, .int .i64 p0.Rules.Turns, .int .i64 p0.Map.Width, .int .i64 p0.Map.Height, .lv (dat 1 eI zI p0.Map.Terrain), .lv (dat 1 eI zI p0.Map.Rivers), .lv (dat 1 eI zI p0.Map.Roads)] false)] (fun t => aI (l_markRules_L_ok p0.Rules p1 v1 h2) (t)) (by kernel_rfl) ?_
  obtain ⟨v3, h4, H⟩ := ofBind H
  refine seq_ops [.res (cI v3)] [] [(1, cI v3)] [] (fun t => aI (l_markMap_L_ok p0.Map v1 v3 h4) (t)) (by kernel_rfl) ?_
  refine seq_ops [] [] [(4, cI v3)] [] (fun t => t) (by kernel_rfl) ?_
  refine ends_ret ?_
  obtain rfl := Option.some.inj H
  exact And.intro (.inl rfl) rfl

noncomputable def X.l_markIntS_Mod (p0 : (List Int)) (p1 : Int) : Option (Int × (List Int)) :=
  ((loop (fun (x8 : (Int × Int × (List Int))) => ((bif (decide (x8.2.1 < (x8.2.2.length : Int))) then (if 0 ≤ x8.2.1 ∧ x8.2.1 < (x8.2.2.length : Int) then some (Sum.inl ((W (x8.1 + 1)), (W (x8.2.1 + 1)), (x8.2.2.set x8.2.1.toNat x8.1))) else none) else some (Sum.inr (x8.1, x8.2.2))) : Option ((Int × Int × (List Int)) ⊕ (Int × (List Int))))) (p1, 0, p0)).bind fun y12 => some (y12.1, y12.2))
theorem l_markIntS_Mod_ok (p0 : (List Int)) (p1 : Int) (r : (Int × (List Int))) (H : X.l_markIntS_Mod p0 p1 = some r) : FnMu Tryz.prog gl 23 [.c (.own 1000000 1 0 p0.length), cI p1] [(1000000, .arr 1 p0.length (fF eI zI p0) false)] (cI r.1) [(1000000, .arr 1 r.2.length (fF eI zI r.2) false)] := by
  unfold X.l_markIntS_Mod at H
  refine fn_mu (fn := Tryz.f23) (ir := l_markIntS_ir) (E' := [(4, cI r.1)]) (E1 := [(1000000, .arr 1 r.2.length (fF eI zI r.2) false)]) glL Tryz.func23 (by kernel_rfl) (by kernel_rfl) (by kernel_rfl) (by kernel_rfl) (by kernel_rfl) ?_
  refine seq_ops [] [] [(0, .c (.own 1000000 1 0 p0.length)), (1, cI p1)] [(1000000, .arr 1 p0.length (fF eI zI p0) false)] (fun t => t) (by kernel_rfl) ?_
  refine seq_in ?_
  refine seq_ops [] [] [(0, .c (.own 1000000 1 0 p0.length)), (1, cI p1), (5, cI 0)] [(1000000, .arr 1 p0.length (fF eI zI p0) false)] (fun t => t) (by kernel_rfl) ?_
  refine ends_blk ?_
  obtain ⟨y12, h13, H⟩ := ofBind H
  refine loop_in (fun (x : (Int × Int × (List Int))) => lit [(0, .c (.own 1000000 1 0 x.2.2.length)), (1, cI x.1), (5, cI x.2.1)] [(1000000, .arr 1 x.2.2.length (fF eI zI x.2.2) false)]) (fun (z : (Int × (List Int))) => At (.exit 0) (lit [(1, cI z.1)] [(1000000, .arr 1 z.2.length (fF eI zI z.2) false)])) h13 ?_ ?_
  · clear H h13
    intro x8 y0 H
    refine seq_in ?_
    refine seq_ops [] [] [(0, .c (.own 1000000 1 0 x8.2.2.length)), (1, cI x8.1), (5, cI x8.2.1), (9, cB (decide (x8.2.1 < (x8.2.2.length : Int))))] [(1000000, .arr 1 x8.2.2.length (fF eI zI x8.2.2) false)] (fun t => lI x8.2.2 (t)) (by kernel_rfl) ?_
    rcases ofCond H with ⟨c10, H⟩ | ⟨c10, H⟩
    · refine ite_t c10 (by kernel_rfl) ?_
      refine ends_skip ?_
      change EndsI _ _ _ _ _ _
      refine seq_in ?_
      refine ends_blk ?_
      obtain ⟨g11, H⟩ := ofIf H
      refine seq_ops [.no, .fn 0 (fF eI zI (x8.2.2.set x8.2.1.toNat x8.1))] [] [(0, .c (.own 1000000 1 0 x8.2.2.length)), (1, cI x8.1), (5, cI x8.2.1)] [(1000000, .arr 1 x8.2.2.length (fF eI zI (x8.2.2.set x8.2.1.toNat x8.1)) false)] (fun t => aI g11 (aI (rfl : true = true) (aI (nat_lt g11) (aI (by decide : 0 + 1 ≤ 1) (aI (fF_set eI zI x8.2.2 x8.2.1.toNat x8.1 (nat_lt g11) x8.2.2.length) (t)))))) (by kernel_rfl) ?_
      refine one_ops [] [] [(0, .c (.own 1000000 1 0 x8.2.2.length)), (1, cI (W (x8.1 + 1))), (5, cI x8.2.1)] [(1000000, .arr 1 x8.2.2.length (fF eI zI (x8.2.2.set x8.2.1.toNat x8.1)) false)] (fun t => t) (by kernel_rfl) ?_
      change EndsI _ _ _ _ _ _
      refine one_ops [] [.rel 0 ((x8.2.2.set x8.2.1.toNat x8.1).length), .rep 1000000 ((x8.2.2.set x8.2.1.toNat x8.1).length) (fF eI zI (x8.2.2.set x8.2.1.toNat x8.1))] [(0, .c (.own 1000000 1 0 ((x8.2.2.set x8.2.1.toNat x8.1).length))), (1, cI (W (x8.1 + 1))), (5, cI (W (x8.2.1 + 1)))] [(1000000, .arr 1 ((x8.2.2.set x8.2.1.toNat x8.1).length) (fF eI zI (x8.2.2.set x8.2.1.toNat x8.1)) false)] (fun t => aI (by simp : x8.2.2.length = (x8.2.2.set x8.2.1.toNat x8.1).length) (aI (Nat.le_of_eq (by simp : (x8.2.2.set x8.2.1.toNat x8.1).length = x8.2.2.length)) (aI (fun _ _ => rfl : ∀ i, i < (x8.2.2.set x8.2.1.toNat x8.1).length → (fF eI zI (x8.2.2.set x8.2.1.toNat x8.1)) i = (fF eI zI (x8.2.2.set x8.2.1.toNat x8.1)) i) (t)))) (by kernel_rfl) ?_
      obtain rfl := Option.some.inj H
      exact And.intro rfl rfl
    · refine ite_f c10 (by kernel_rfl) ?_
      refine tell [] [(1, cI x8.1)] [(1000000, .arr 1 x8.2.2.length (fF eI zI x8.2.2) false)] (fun t => t) (by kernel_rfl) ?_
      refine ends_exit ?_
      obtain rfl := Option.some.inj H
      exact And.intro (by simp) (And.intro rfl rfl)
  · clear h13
    intro e s q
    obtain ⟨rfl, rfl⟩ := q
    change EndsI _ _ _ _ _ _
    refine seq_ops [] [] [(4, cI y12.1)] [(1000000, .arr 1 y12.2.length (fF eI zI y12.2) false)] (fun t => t) (by kernel_rfl) ?_
    refine ends_ret ?_
    obtain rfl := Option.some.inj H
    exact And.intro (.inl rfl) rfl

def l_heldIntS_ir : S :=
 (.seq (.ops [⟨some 4, .mv (.v (.int .i64 0)), none⟩])
 (.seq (.seq (.ops [⟨some 5, .mv (.v (.int .i64 0)), none⟩])
 (.blk 0 (.loop (.seq (.seq (.ops [⟨some 6, .mv (.t 5), none⟩, ⟨some 7, .mv (.t 0), none⟩, ⟨some 8, .len (.t 7), none⟩, ⟨some 9, .bin .lss (.t 6) (.t 8), none⟩])
   (.ite (.t 9) .skip
   (.exit 0)))
   (.seq (.blk 1 (.seq (.seq (.ops [⟨some 12, .mv (.t 0), none⟩, ⟨some 13, .mv (.t 5), none⟩, ⟨some 14, .iad 1 (.t 12) (.t 13), none⟩, ⟨some 15, .load 1 false (.t 14), none⟩, ⟨some 16, .mv (.t 1), none⟩, ⟨some 17, .bin .neq (.t 15) (.t 16), none⟩])
    (.ite (.t 17) (.seq (.ops [⟨some 4, .mv (.v (.int .i64 (-1))), none⟩])
     .ret)
    .skip))
    (.ops [⟨some 18, .mv (.t 1), none⟩, ⟨some 19, .bin .add (.t 18) (.v (.int .i64 1)), none⟩, ⟨some 1, .mv (.t 19), none⟩])))
   (.ops [⟨some 10, .mv (.t 5), none⟩, ⟨some 11, .bin .add (.t 10) (.v (.int .i64 1)), none⟩, ⟨some 5, .mv (.t 11), none⟩]))))))
 (.seq (.ops [⟨some 20, .mv (.t 1), none⟩, ⟨some 4, .mv (.t 20), none⟩])
 .ret)))
noncomputable def X.l_heldIntS (p0 : (List Int)) (p1 : Int) : Option Int :=
  ((loop (fun (x12 : (Int × Int)) => ((bif (decide (x12.2 < (p0.length : Int))) then ((at' zI p0 x12.2).bind fun v15 => (bif (v15 != x12.1) then some (Sum.inr (Sum.inr (-1))) else some (Sum.inl ((W (x12.1 + 1)), (W (x12.2 + 1)))))) else some (Sum.inr (Sum.inl x12.1))) : Option ((Int × Int) ⊕ (Int ⊕ Int)))) (p1, 0)).bind fun y18 => (Sum.elim (fun (y20 : Int) => some y20) (fun (y21 : Int) => some y21) y18))
theorem l_heldIntS_ok (p0 : (List Int)) (p1 : Int) (r : Int) (H : X.l_heldIntS p0 p1 = some r) : FnOk Tryz.prog gl 24 [.c (dat 1 eI zI p0), cI p1] (cI r) := by
  unfold X.l_heldIntS at H
  refine fn_in (fn := Tryz.f24) (ir := l_heldIntS_ir) (s1 := lit [(4, cI r)] []) glL Tryz.func24 (by kernel_rfl) (by kernel_rfl) (by kernel_rfl) (by kernel_rfl) (by kernel_rfl) ?_
  refine seq_ops [] [] [(0, .c (dat 1 eI zI p0)), (1, cI p1)] [] (fun t => t) (by kernel_rfl) ?_
  refine seq_in ?_
  refine seq_ops [] [] [(0, .c (dat 1 eI zI p0)), (1, cI p1), (5, cI 0)] [] (fun t => t) (by kernel_rfl) ?_
  refine ends_blk ?_
  obtain ⟨y18, h19, H⟩ := ofBind H
  refine loop_in (fun (x : (Int × Int)) => lit [(0, .c (dat 1 eI zI p0)), (1, cI x.1), (5, cI x.2)] []) (orJ (fun (z : Int) => At (.exit 0) (lit [(1, cI z)] [])) (fun (z : Int) => At .ret (lit [(4, cI z)] []))) h19 ?_ ?_
  · clear H h19
    intro x12 y0 H
    refine seq_in ?_
    refine seq_ops [] [] [(0, .c (dat 1 eI zI p0)), (1, cI x12.1), (5, cI x12.2), (9, cB (decide (x12.2 < (p0.length : Int))))] [] (fun t => lI p0 (t)) (by kernel_rfl) ?_
    rcases ofCond H with ⟨c14, H⟩ | ⟨c14, H⟩
    · refine ite_t c14 (by kernel_rfl) ?_
      refine ends_skip ?_
      change EndsI _ _ _ _ _ _
      refine seq_in ?_
      refine ends_blk ?_
      refine seq_in ?_
      obtain ⟨v15, h16, H⟩ := ofBind H
      refine seq_ops [.cs (eI v15)] [] [(0, .c (dat 1 eI zI p0)), (1, cI x12.1), (5, cI x12.2), (17, cB (v15 != x12.1))] [] (fun t => aI (at_lt h16) (aI (at_enc (enc := eI) h16) (t))) (by kernel_rfl) ?_
      rcases ofCond H with ⟨c17, H⟩ | ⟨c17, H⟩
      · refine ite_t c17 (by kernel_rfl) ?_
        refine seq_ops [] [] [(4, cI (-1))] [] (fun t => t) (by kernel_rfl) ?_
        refine ends_ret ?_
        obtain rfl := Option.some.inj H
        exact And.intro (by simp) (And.intro rfl rfl)
      · refine ite_f c17 (by kernel_rfl) ?_
        refine ends_skip ?_
        change EndsI _ _ _ _ _ _
        refine one_ops [] [] [(0, .c (dat 1 eI zI p0)), (1, cI (W (x12.1 + 1))), (5, cI x12.2)] [] (fun t => t) (by kernel_rfl) ?_
        change EndsI _ _ _ _ _ _
        refine one_ops [] [] [(0, .c (dat 1 eI zI p0)), (1, cI (W (x12.1 + 1))), (5, cI (W (x12.2 + 1)))] [] (fun t => t) (by kernel_rfl) ?_
        obtain rfl := Option.some.inj H
        exact And.intro rfl rfl
    · refine ite_f c14 (by kernel_rfl) ?_
      refine tell [] [(1, cI x12.1)] [] (fun t => t) (by kernel_rfl) ?_
      refine ends_exit ?_
      obtain rfl := Option.some.inj H
      exact And.intro (by simp) (And.intro rfl rfl)
  · clear h19
    cases y18 with
    | inl y20 =>
      replace H := ofInl H
      intro e s q
      obtain ⟨rfl, rfl⟩ := q
      change EndsI _ _ _ _ _ _
      refine seq_ops [] [] [(4, cI y20)] [] (fun t => t) (by kernel_rfl) ?_
      refine ends_ret ?_
      obtain rfl := Option.some.inj H
      exact And.intro (.inl rfl) rfl
    | inr y21 =>
      replace H := ofInr H
      intro e s q
      obtain ⟨rfl, rfl⟩ := q
      obtain rfl := Option.some.inj H
      exact And.intro (.inl rfl) rfl

def l_szUnitS_ir : S :=
 (.seq (.ops [⟨some 4, .mv (.v (.int .i64 0)), none⟩])
 (.seq (.ops [⟨some 5, .mv (.t 1), none⟩, ⟨some 6, .mv (.t 0), none⟩, ⟨some 7, .len (.t 6), none⟩, ⟨some 8, .bin .sub (.t 5) (.t 7), none⟩, ⟨some 1, .mv (.t 8), none⟩])
 (.seq (.seq (.ops [⟨some 9, .mv (.t 1), none⟩, ⟨some 10, .bin .lss (.t 9) (.v (.int .i64 0)), none⟩])
 (.ite (.t 10) (.seq (.ops [⟨some 4, .mv (.v (.int .i64 (-1))), none⟩])
  .ret)
 .skip))
 (.seq (.ops [⟨some 11, .mv (.t 1), none⟩, ⟨some 4, .mv (.t 11), none⟩])
 .ret))))
noncomputable def X.l_szUnitS (p0 : (List TUnit)) (p1 : Int) : Option Int :=
  (bif (decide ((W (p1 - (p0.length : Int))) < 0)) then some (-1) else some (W (p1 - (p0.length : Int))))
theorem l_szUnitS_ok (p0 : (List TUnit)) (p1 : Int) (r : Int) (H : X.l_szUnitS p0 p1 = some r) : FnOk Tryz.prog gl 59 [.c (dat 4 eTUnit zTUnit p0), cI p1] (cI r) := by
  unfold X.l_szUnitS at H
  refine fn_in (fn := Tryz.f59) (ir := l_szUnitS_ir) (s1 := lit [(4, cI r)] []) glL Tryz.func59 (by kernel_rfl) (by kernel_rfl) (by kernel_rfl) (by kernel_rfl) (by kernel_rfl) ?_
  refine seq_ops [] [] [(0, .c (dat 4 eTUnit zTUnit p0)), (1, cI p1)] [] (fun t => t) (by kernel_rfl) ?_
  refine seq_ops [] [] [(1, cI (W (p1 - (p0.length : Int))))] [] (fun t => lI p0 (t)) (by kernel_rfl) ?_
  refine seq_in ?_
  refine seq_ops [] [] [(1, cI (W (p1 - (p0.length : Int)))), (10, cB (decide ((W (p1 - (p0.length : Int))) < 0)))] [] (fun t => t) (by kernel_rfl) ?_
  rcases ofCond H with ⟨c1, H⟩ | ⟨c1, H⟩
  · refine ite_t c1 (by kernel_rfl) ?_
    refine seq_ops [] [] [(4, cI (-1))] [] (fun t => t) (by kernel_rfl) ?_
    refine ends_ret ?_
    obtain rfl := Option.some.inj H
    exact And.intro (.inl rfl) rfl
  · refine ite_f c1 (by kernel_rfl) ?_
    refine ends_skip ?_
    change EndsI _ _ _ _ _ _
    refine seq_ops [] [] [(4, cI (W (p1 - (p0.length : Int))))] [] (fun t => t) (by kernel_rfl) ?_
    refine ends_ret ?_
    obtain rfl := Option.some.inj H
    exact And.intro (.inl rfl) rfl

def l_szView_ir : S :=
 (.seq (.ops [⟨some 2, .box 6 (.t 0), none⟩, ⟨some 4, .mv (.v (.int .i64 0)), none⟩])
 (.seq (.ops [⟨some 5, .fad 3 (.t 2), none⟩, ⟨some 6, .load 1 false (.t 5), none⟩, ⟨some 7, .mv (.t 1), none⟩, ⟨some 8, .call 79 [.t 6, .t 7], none⟩, ⟨some 1, .mv (.t 8), none⟩])
 (.seq (.seq (.ops [⟨some 9, .mv (.t 1), none⟩, ⟨some 10, .bin .lss (.t 9) (.v (.int .i64 0)), none⟩])
 (.ite (.t 10) (.seq (.ops [⟨some 4, .mv (.v (.int .i64 (-1))), none⟩])
  .ret)
 .skip))
 (.seq (.ops [⟨some 11, .fad 4 (.t 2), none⟩, ⟨some 12, .load 1 false (.t 11), none⟩, ⟨some 13, .mv (.t 1), none⟩, ⟨some 14, .call 59 [.t 12, .t 13], none⟩, ⟨some 1, .mv (.t 14), none⟩])
 (.seq (.seq (.ops [⟨some 15, .mv (.t 1), none⟩, ⟨some 16, .bin .lss (.t 15) (.v (.int .i64 0)), none⟩])
 (.ite (.t 16) (.seq (.ops [⟨some 4, .mv (.v (.int .i64 (-1))), none⟩])
  .ret)
 .skip))
 (.seq (.ops [⟨some 17, .fad 5 (.t 2), none⟩, ⟨some 18, .load 1 false (.t 17), none⟩, ⟨some 19, .mv (.t 1), none⟩, ⟨some 20, .call 59 [.t 18, .t 19], none⟩, ⟨some 1, .mv (.t 20), none⟩])
 (.seq (.seq (.ops [⟨some 21, .mv (.t 1), none⟩, ⟨some 22, .bin .lss (.t 21) (.v (.int .i64 0)), none⟩])
 (.ite (.t 22) (.seq (.ops [⟨some 4, .mv (.v (.int .i64 (-1))), none⟩])
  .ret)
 .skip))
 (.seq (.ops [⟨some 23, .mv (.t 1), none⟩, ⟨some 4, .mv (.t 23), none⟩])
 .ret))))))))
noncomputable def X.l_szView (p0 : TView) (p1 : Int) : Option Int :=
  ((X.l_szIntS p0.Seen p1).bind fun v1 => (bif (decide (v1 < 0)) then some (-1) else ((X.l_szUnitS p0.Own v1).bind fun v5 => (bif (decide (v5 < 0)) then some (-1) else ((X.l_szUnitS p0.Enemies v5).bind fun v9 => (bif (decide (v9 < 0)) then some (-1) else some v9))))))
theorem l_szView_ok (p0 : TView) (p1 : Int) (r : Int) (H : X.l_szView p0 p1 = some r) : FnOk Tryz.prog gl 25 [.agg (eTView p0), cI p1] (cI r) := by
  unfold X.l_szView at H
  refine fn_in (fn := Tryz.f25) (ir := l_szView_ir) (s1 := lit [(4, cI r)] []) glL Tryz.func25 (by kernel_rfl) (by kernel_rfl) (by kernel_rfl) (by kernel_rfl) (by kernel_rfl) ?_
  refine seq_ops [] [] [(1, cI p1), (2, .c (.pk 2 0))] [(2, .var (eTView p0) false)] (fun t => t) (by kernel_rfl) ?_
  obtain ⟨v1, h2, H⟩ := ofBind H
  refine seq_ops [.res (cI v1)] [] [(1, cI v1), (2, .c (.pk 2 0))] [(2, .var (eTView p0) false)] (fun t => aI (l_szIntS_ok p0.Seen p1 v1 h2) (t)) (by kernel_rfl) ?_
  refine seq_in ?_
  refine seq_ops [] [] [(1, cI v1), (2, .c (.pk 2 0)), (10, cB (decide (v1 < 0)))] [(2, .var (eTView p0) false)] (fun t => t) (by kernel_rfl) ?_
  rcases ofCond H with ⟨c4, H⟩ | ⟨c4, H⟩
  · refine ite_t c4 (by kernel_rfl) ?_
    refine seq_ops [] [] [(4, cI (-1))] [] (fun t => t) (by kernel_rfl) ?_
    refine ends_ret ?_
    obtain rfl := Option.some.inj H
    exact And.intro (.inl rfl) rfl
  · refine ite_f c4 (by kernel_rfl) ?_
    refine ends_skip ?_
    change EndsI _ _ _ _ _ _
    obtain ⟨v5, h6, H⟩ := ofBind H
    refine seq_ops [.res (cI v5)] [] [(1, cI v5), (2, .c (.pk 2 0))] [(2, .var (eTView p0) false)] (fun t => aI (l_szUnitS_ok p0.Own v1 v5 h6) (t)) (by kernel_rfl) ?_
    refine seq_in ?_
    refine seq_ops [] [] [(1, cI v5), (2, .c (.pk 2 0)), (16, cB (decide (v5 < 0)))] [(2, .var (eTView p0) false)] (fun t => t) (by kernel_rfl) ?_
    rcases ofCond H with ⟨c8, H⟩ | ⟨c8, H⟩
    · refine ite_t c8 (by kernel_rfl) ?_
      refine seq_ops [] [] [(4, cI (-1))] [] (fun t => t) (by kernel_rfl) ?_
      refine ends_ret ?_
      obtain rfl := Option.some.inj H
      exact And.intro (.inl rfl) rfl
    · refine ite_f c8 (by kernel_rfl) ?_
      refine ends_skip ?_
      change EndsI _ _ _ _ _ _
      obtain ⟨v9, h10, H⟩ := ofBind H
      refine seq_ops [.res (cI v9)] [] [(1, cI v9)] [] (fun t => aI (l_szUnitS_ok p0.Enemies v5 v9 h10) (t)) (by kernel_rfl) ?_
      refine seq_in ?_
      refine seq_ops [] [] [(1, cI v9), (22, cB (decide (v9 < 0)))] [] (fun t => t) (by kernel_rfl) ?_
      rcases ofCond H with ⟨c11, H⟩ | ⟨c11, H⟩
      · refine ite_t c11 (by kernel_rfl) ?_
        refine seq_ops [] [] [(4, cI (-1))] [] (fun t => t) (by kernel_rfl) ?_
        refine ends_ret ?_
        obtain rfl := Option.some.inj H
        exact And.intro (.inl rfl) rfl
      · refine ite_f c11 (by kernel_rfl) ?_
        refine ends_skip ?_
        change EndsI _ _ _ _ _ _
        refine seq_ops [] [] [(4, cI v9)] [] (fun t => t) (by kernel_rfl) ?_
        refine ends_ret ?_
        obtain rfl := Option.some.inj H
        exact And.intro (.inl rfl) rfl

def l_toUnit_ir : S :=
 (.seq (.ops [⟨some 1, .box 4 (.t 0), none⟩, ⟨some 2, .alloc [.int .i64 0, .int .i64 0, .int .i64 0, .int .i64 0], none⟩])
 (.seq (.ops [⟨some 3, .alloc [.int .i64 0, .int .i64 0, .int .i64 0, .int .i64 0], none⟩])
 (.seq (.ops [⟨some 4, .fad 0 (.t 1), none⟩, ⟨some 5, .load 1 false (.t 4), none⟩, ⟨some 6, .fad 0 (.t 3), none⟩, ⟨none, .store 1 (.t 6) (.t 5), none⟩])
 (.seq (.ops [⟨some 7, .fad 1 (.t 1), none⟩, ⟨some 8, .load 1 false (.t 7), none⟩, ⟨some 9, .fad 1 (.t 3), none⟩, ⟨none, .store 1 (.t 9) (.t 8), none⟩])
 (.seq (.ops [⟨some 10, .fad 2 (.t 1), none⟩, ⟨some 11, .load 1 false (.t 10), none⟩, ⟨some 12, .fad 2 (.t 3), none⟩, ⟨none, .store 1 (.t 12) (.t 11), none⟩])
 (.seq (.ops [⟨some 13, .fad 3 (.t 1), none⟩, ⟨some 14, .load 1 false (.t 13), none⟩, ⟨some 15, .fad 3 (.t 3), none⟩, ⟨none, .store 1 (.t 15) (.t 14), none⟩])
 (.seq (.ops [⟨some 16, .load 4 true (.t 3), none⟩, ⟨none, .store 4 (.t 2) (.t 16), none⟩])
 .ret)))))))
noncomputable def X.l_toUnit (p0 : TUnit) : Option TUnit :=
  some p0
theorem l_toUnit_ok (p0 : TUnit) (r : TUnit) (H : X.l_toUnit p0 = some r) : FnOk Tryz.prog gl 130 [.agg (eTUnit p0)] (.agg (eTUnit r)) := by
  unfold X.l_toUnit at H
  refine fn_in (fn := Tryz.f130) (ir := l_toUnit_ir) (s1 := lit [(2, .c (.pk 2 0))] [(2, .var (eTUnit r) false)]) glL Tryz.func130 (by kernel_rfl) (by kernel_rfl) (by kernel_rfl) (by kernel_rfl) (by kernel_rfl) ?_
  refine seq_ops [] [] [(1, .c (.pk 1 0)), (2, .c (.pk 2 0))] [(1, .var (eTUnit p0) false), (2, .var [.int .i64 0, .int .i64 0, .int .i64 0, .int .i64 0] false)] (fun t => t) (by kernel_rfl) ?_
  refine seq_ops [] [] [(1, .c (.pk 1 0)), (2, .c (.pk 2 0)), (3, .c (.pk 3 0))] [(1, .var (eTUnit p0) false), (2, .var [.int .i64 0, .int .i64 0, .int .i64 0, .int .i64 0] false), (3, .var [.int .i64 0, .int .i64 0, .int .i64 0, .int .i64 0] false)] (fun t => t) (by kernel_rfl) ?_
  refine seq_ops [] [] [(1, .c (.pk 1 0)), (2, .c (.pk 2 0)), (3, .c (.pk 3 0))] [(1, .var (eTUnit p0) false), (2, .var [.int .i64 0, .int .i64 0, .int .i64 0, .int .i64 0] false), (3, .var [.int .i64 p0.Side, .int .i64 0, .int .i64 0, .int .i64 0] false)] (fun t => t) (by kernel_rfl) ?_
  refine seq_ops [] [] [(1, .c (.pk 1 0)), (2, .c (.pk 2 0)), (3, .c (.pk 3 0))] [(1, .var (eTUnit p0) false), (2, .var [.int .i64 0, .int .i64 0, .int .i64 0, .int .i64 0] false), (3, .var [.int .i64 p0.Side, .int .i64 p0.Kind, .int .i64 0, .int .i64 0] false)] (fun t => t) (by kernel_rfl) ?_
  refine seq_ops [] [] [(1, .c (.pk 1 0)), (2, .c (.pk 2 0)), (3, .c (.pk 3 0))] [(1, .var (eTUnit p0) false), (2, .var [.int .i64 0, .int .i64 0, .int .i64 0, .int .i64 0] false), (3, .var [.int .i64 p0.Side, .int .i64 p0.Kind, .int .i64 p0.At, .int .i64 0] false)] (fun t => t) (by kernel_rfl) ?_
  refine seq_ops [] [] [(2, .c (.pk 2 0)), (3, .c (.pk 3 0))] [(2, .var [.int .i64 0, .int .i64 0, .int .i64 0, .int .i64 0] false), (3, .var (eTUnit p0) false)] (fun t => t) (by kernel_rfl) ?_
  refine seq_ops [] [] [(2, .c (.pk 2 0))] [(2, .var (eTUnit p0) false)] (fun t => t) (by kernel_rfl) ?_
  refine ends_ret ?_
  obtain rfl := Option.some.inj H
  exact And.intro (.inl rfl) rfl

def l_toUnitS_ir : S :=
 (.seq (.ops [⟨some 2, .mv (.v (.nil)), none⟩])
 (.seq (.ops [⟨some 5, .mv (.t 0), none⟩, ⟨some 6, .len (.t 5), none⟩, ⟨some 7, .msl 4 32 [.int .i64 0, .int .i64 0, .int .i64 0, .int .i64 0] (.t 6), none⟩, ⟨some 3, .mv (.t 7), none⟩])
 (.seq (.seq (.ops [⟨some 4, .mv (.v (.int .i64 0)), none⟩])
 (.blk 0 (.loop (.seq (.seq (.ops [⟨some 8, .mv (.t 4), none⟩, ⟨some 9, .mv (.t 0), none⟩, ⟨some 10, .len (.t 9), none⟩, ⟨some 11, .bin .lss (.t 8) (.t 10), none⟩])
   (.ite (.t 11) .skip
   (.exit 0)))
   (.seq (.blk 1 (.ops [⟨some 14, .mv (.t 3), none⟩, ⟨some 15, .mv (.t 4), none⟩, ⟨some 16, .mv (.t 0), none⟩, ⟨some 17, .mv (.t 4), none⟩, ⟨some 18, .iad 4 (.t 16) (.t 17), none⟩, ⟨some 19, .load 4 true (.t 18), none⟩, ⟨some 20, .call 130 [.t 19], none⟩, ⟨some 21, .iad 4 (.t 14) (.t 15), none⟩, ⟨none, .store 4 (.t 21) (.t 20), none⟩]))
   (.ops [⟨some 12, .mv (.t 4), none⟩, ⟨some 13, .bin .add (.t 12) (.v (.int .i64 1)), none⟩, ⟨some 4, .mv (.t 13), none⟩]))))))
 (.seq (.ops [⟨some 22, .mv (.t 3), none⟩, ⟨some 2, .mv (.t 22), none⟩])
 .ret))))
noncomputable def X.l_toUnitS (p0 : (List TUnit)) : Option (List TUnit) :=
  (if 0 ≤ (p0.length : Int) ∧ (p0.length : Int).toNat ≤ LIM then ((loop (fun (x17 : (Int × (List TUnit))) => ((bif (decide (x17.1 < (p0.length : Int))) then ((at' zTUnit p0 x17.1).bind fun v20 => ((X.l_toUnit v20).bind fun v22 => (if 0 ≤ x17.1 ∧ x17.1 < (x17.2.length : Int) then some (Sum.inl ((W (x17.1 + 1)), (x17.2.set x17.1.toNat v22))) else none))) else some (Sum.inr x17.2)) : Option ((Int × (List TUnit)) ⊕ (List TUnit)))) (0, (List.replicate (p0.length : Int).toNat zTUnit))).bind fun y25 => some y25) else none)
theorem l_toUnitS_ok (p0 : (List TUnit)) (r : (List TUnit)) (H : X.l_toUnitS p0 = some r) : FnOk Tryz.prog gl 66 [.c (dat 4 eTUnit zTUnit p0)] (.c (dat 4 eTUnit zTUnit r)) := by
  unfold X.l_toUnitS at H
  refine fn_in (fn := Tryz.f66) (ir := l_toUnitS_ir) (s1 := lit [(2, .c (dat 4 eTUnit zTUnit r))] []) glL Tryz.func66 (by kernel_rfl) (by kernel_rfl) (by kernel_rfl) (by kernel_rfl) (by kernel_rfl) ?_
  refine seq_ops [] [] [(0, .c (dat 4 eTUnit zTUnit p0))] [] (fun t => t) (by kernel_rfl) ?_
  obtain ⟨g1, H⟩ := ofIf H
  refine seq_ops [.fn (List.replicate (p0.length : Int).toNat zTUnit).length (fF eTUnit zTUnit (List.replicate (p0.length : Int).toNat zTUnit))] [] [(0, .c (dat 4 eTUnit zTUnit p0)), (3, .c (.own 7 4 0 ((List.replicate (p0.length : Int).toNat zTUnit).length)))] [(7, .arr 4 ((List.replicate (p0.length : Int).toNat zTUnit).length) (fF eTUnit zTUnit (List.replicate (p0.length : Int).toNat zTUnit)) false)] (fun t => lI p0 (aI (And.intro g1.1 (And.intro (List.length_replicate (n := (p0.length : Int).toNat) (a := zTUnit)).symm (Nat.le_trans (Nat.le_of_eq List.length_replicate) g1.2 : (List.replicate (p0.length : Int).toNat zTUnit).length ≤ LIM))) (aI (fF_rep eTUnit zTUnit zTUnit (p0.length : Int).toNat) (t)))) (by kernel_rfl) ?_
  refine seq_in ?_
  refine seq_ops [] [] [(0, .c (dat 4 eTUnit zTUnit p0)), (3, .c (.own 7 4 0 ((List.replicate (p0.length : Int).toNat zTUnit).length))), (4, cI 0)] [(7, .arr 4 ((List.replicate (p0.length : Int).toNat zTUnit).length) (fF eTUnit zTUnit (List.replicate (p0.length : Int).toNat zTUnit)) false)] (fun t => t) (by kernel_rfl) ?_
  refine ends_blk ?_
  obtain ⟨y25, h26, H⟩ := ofBind H
  refine loop_in (fun (x : (Int × (List TUnit))) => lit [(0, .c (dat 4 eTUnit zTUnit p0)), (3, .c (.own 7 4 0 x.2.length)), (4, cI x.1)] [(7, .arr 4 x.2.length (fF eTUnit zTUnit x.2) false)]) (fun (z : (List TUnit)) => At (.exit 0) (lit [(3, .c (.own 7 4 0 z.length))] [(7, .arr 4 z.length (fF eTUnit zTUnit z) false)])) h26 ?_ ?_
  · clear H h26
    intro x17 y0 H
    refine seq_in ?_
    refine seq_ops [] [] [(0, .c (dat 4 eTUnit zTUnit p0)), (3, .c (.own 7 4 0 x17.2.length)), (4, cI x17.1), (11, cB (decide (x17.1 < (p0.length : Int))))] [(7, .arr 4 x17.2.length (fF eTUnit zTUnit x17.2) false)] (fun t => lI p0 (t)) (by kernel_rfl) ?_
    rcases ofCond H with ⟨c19, H⟩ | ⟨c19, H⟩
    · refine ite_t c19 (by kernel_rfl) ?_
      refine ends_skip ?_
      change EndsI _ _ _ _ _ _
      refine seq_in ?_
      refine ends_blk ?_
      obtain ⟨v20, h21, H⟩ := ofBind H
      obtain ⟨v22, h23, H⟩ := ofBind H
      obtain ⟨g24, H⟩ := ofIf H
      refine one_ops [.cs (eTUnit v20), .res (.agg (eTUnit v22)), .no, .fn 0 (fF eTUnit zTUnit (x17.2.set x17.1.toNat v22))] [] [(0, .c (dat 4 eTUnit zTUnit p0)), (3, .c (.own 7 4 0 x17.2.length)), (4, cI x17.1)] [(7, .arr 4 x17.2.length (fF eTUnit zTUnit (x17.2.set x17.1.toNat v22)) false)] (fun t => aI (at_lt h21) (aI (at_enc (enc := eTUnit) h21) (aI (l_toUnit_ok v20 v22 h23) (aI g24 (aI (rfl : true = true) (aI (nat_lt g24) (aI (by decide : 0 + 4 ≤ 4) (aI (fF_set eTUnit zTUnit x17.2 x17.1.toNat v22 (nat_lt g24) x17.2.length) (t))))))))) (by kernel_rfl) ?_
      change EndsI _ _ _ _ _ _
      refine one_ops [] [.rel 3 ((x17.2.set x17.1.toNat v22).length), .rep 7 ((x17.2.set x17.1.toNat v22).length) (fF eTUnit zTUnit (x17.2.set x17.1.toNat v22))] [(0, .c (dat 4 eTUnit zTUnit p0)), (3, .c (.own 7 4 0 ((x17.2.set x17.1.toNat v22).length))), (4, cI (W (x17.1 + 1)))] [(7, .arr 4 ((x17.2.set x17.1.toNat v22).length) (fF eTUnit zTUnit (x17.2.set x17.1.toNat v22)) false)] (fun t => aI (by simp : x17.2.length = (x17.2.set x17.1.toNat v22).length) (aI (Nat.le_of_eq (by simp : (x17.2.set x17.1.toNat v22).length = x17.2.length)) (aI (fun _ _ => rfl : ∀ i, i < (x17.2.set x17.1.toNat v22).length → (fF eTUnit zTUnit (x17.2.set x17.1.toNat v22)) i = (fF eTUnit zTUnit (x17.2.set x17.1.toNat v22)) i) (t)))) (by kernel_rfl) ?_
      obtain rfl := Option.some.inj H
      exact And.intro rfl rfl
    · refine ite_f c19 (by kernel_rfl) ?_
      refine tell [] [(3, .c (.own 7 4 0 x17.2.length))] [(7, .arr 4 x17.2.length (fF eTUnit zTUnit x17.2) false)] (fun t => t) (by kernel_rfl) ?_
      refine ends_exit ?_
      obtain rfl := Option.some.inj H
      exact And.intro (by simp) (And.intro rfl rfl)
  · clear h26
    intro e s q
    obtain ⟨rfl, rfl⟩ := q
    change EndsI _ _ _ _ _ _
    refine seq_ops [] [] [(2, .c (.own 7 4 0 y25.length))] [(7, .arr 4 y25.length (fF eTUnit zTUnit y25) false)] (fun t => t) (by kernel_rfl) ?_
    refine tell [.frz 2] [(2, .c (dat 4 eTUnit zTUnit y25))] [] (fun t => aI (Nat.le_refl y25.length) (t)) (by kernel_rfl) ?_
    refine ends_ret ?_
    obtain rfl := Option.some.inj H
    exact And.intro (.inl rfl) rfl

def l_toView_ir : S :=
 (.seq (.ops [⟨some 1, .box 6 (.t 0), none⟩, ⟨some 2, .alloc [.int .i64 0, .int .i64 0, .int .i64 0, .nil, .nil, .nil], none⟩])
 (.seq (.ops [⟨some 3, .alloc [.int .i64 0, .int .i64 0, .int .i64 0, .nil, .nil, .nil], none⟩])
 (.seq (.ops [⟨some 4, .fad 0 (.t 1), none⟩, ⟨some 5, .load 1 false (.t 4), none⟩, ⟨some 6, .fad 0 (.t 3), none⟩, ⟨none, .store 1 (.t 6) (.t 5), none⟩])
 (.seq (.ops [⟨some 7, .fad 1 (.t 1), none⟩, ⟨some 8, .load 1 false (.t 7), none⟩, ⟨some 9, .fad 1 (.t 3), none⟩, ⟨none, .store 1 (.t 9) (.t 8), none⟩])
 (.seq (.ops [⟨some 10, .fad 2 (.t 1), none⟩, ⟨some 11, .load 1 false (.t 10), none⟩, ⟨some 12, .fad 2 (.t 3), none⟩, ⟨none, .store 1 (.t 12) (.t 11), none⟩])
 (.seq (.ops [⟨some 13, .fad 3 (.t 1), none⟩, ⟨some 14, .load 1 false (.t 13), none⟩, ⟨some 15, .call 82 [.t 14], none⟩, ⟨some 16, .fad 3 (.t 3), none⟩, ⟨none, .store 1 (.t 16) (.t 15), none⟩])
 (.seq (.ops [⟨some 17, .fad 4 (.t 1), none⟩, ⟨some 18, .load 1 false (.t 17), none⟩, ⟨some 19, .call 66 [.t 18], none⟩, ⟨some 20, .fad 4 (.t 3), none⟩, ⟨none, .store 1 (.t 20) (.t 19), none⟩])
 (.seq (.ops [⟨some 21, .fad 5 (.t 1), none⟩, ⟨some 22, .load 1 false (.t 21), none⟩, ⟨some 23, .call 66 [.t 22], none⟩, ⟨some 24, .fad 5 (.t 3), none⟩, ⟨none, .store 1 (.t 24) (.t 23), none⟩])
 (.seq (.ops [⟨some 25, .load 6 true (.t 3), none⟩, ⟨none, .store 6 (.t 2) (.t 25), none⟩])
 .ret)))))))))
noncomputable def X.l_toView (p0 : TView) : Option TView :=
  ((X.l_toIntS p0.Seen).bind fun v1 => ((X.l_toUnitS p0.Own).bind fun v3 => ((X.l_toUnitS p0.Enemies).bind fun v5 => some (TView.mk p0.Side p0.Turn p0.Weather v1 v3 v5))))
theorem l_toView_ok (p0 : TView) (r : TView) (H : X.l_toView p0 = some r) : FnOk Tryz.prog gl 27 [.agg (eTView p0)] (.agg (eTView r)) := by
  unfold X.l_toView at H
  refine fn_in (fn := Tryz.f27) (ir := l_toView_ir) (s1 := lit [(2, .c (.pk 2 0))] [(2, .var (eTView r) false)]) glL Tryz.func27 (by kernel_rfl) (by kernel_rfl) (by kernel_rfl) (by kernel_rfl) (by kernel_rfl) ?_
  refine seq_ops [] [] [(1, .c (.pk 1 0)), (2, .c (.pk 2 0))] [(1, .var (eTView p0) false), (2, .var [.int .i64 0, .int .i64 0, .int .i64 0, .nil, .nil, .nil] false)] (fun t => t) (by kernel_rfl) ?_
  refine seq_ops [] [] [(1, .c (.pk 1 0)), (2, .c (.pk 2 0)), (3, .c (.pk 3 0))] [(1, .var (eTView p0) false), (2, .var [.int .i64 0, .int .i64 0, .int .i64 0, .nil, .nil, .nil] false), (3, .var [.int .i64 0, .int .i64 0, .int .i64 0, .nil, .nil, .nil] false)] (fun t => t) (by kernel_rfl) ?_
  refine seq_ops [] [] [(1, .c (.pk 1 0)), (2, .c (.pk 2 0)), (3, .c (.pk 3 0))] [(1, .var (eTView p0) false), (2, .var [.int .i64 0, .int .i64 0, .int .i64 0, .nil, .nil, .nil] false), (3, .var [.int .i64 p0.Side, .int .i64 0, .int .i64 0, .nil, .nil, .nil] false)] (fun t => t) (by kernel_rfl) ?_
  refine seq_ops [] [] [(1, .c (.pk 1 0)), (2, .c (.pk 2 0)), (3, .c (.pk 3 0))] [(1, .var (eTView p0) false), (2, .var [.int .i64 0, .int .i64 0, .int .i64 0, .nil, .nil, .nil] false), (3, .var [.int .i64 p0.Side, .int .i64 p0.Turn, .int .i64 0, .nil, .nil, .nil] false)] (fun t => t) (by kernel_rfl) ?_
  refine seq_ops [] [] [(1, .c (.pk 1 0)), (2, .c (.pk 2 0)), (3, .c (.pk 3 0))] [(1, .var (eTView p0) false), (2, .var [.int .i64 0, .int .i64 0, .int .i64 0, .nil, .nil, .nil] false), (3, .var [.int .i64 p0.Side, .int .i64 p0.Turn, .int .i64 p0.Weather, .nil, .nil, .nil] false)] (fun t => t) (by kernel_rfl) ?_
  obtain ⟨v1, h2, H⟩ := ofBind H
  refine seq_ops [.res (.c (dat 1 eI zI v1))] [] [(1, .c (.pk 1 0)), (2, .c (.pk 2 0)), (3, .c (.pk 3 0))] [(1, .var (eTView p0) false), (2, .var [.int .i64 0, .int .i64 0, .int .i64 0, .nil, .nil, .nil] false), (3, .var [.int .i64 p0.Side, .int .i64 p0.Turn, .int .i64 p0.Weather, dat 1 eI zI v1, .nil, .nil] false)] (fun t => aI (l_toIntS_ok p0.Seen v1 h2) (t)) (by kernel_rfl) ?_
  obtain ⟨v3, h4, H⟩ := ofBind H
  refine seq_ops [.res (.c (dat 4 eTUnit zTUnit v3))] [] [(1, .c (.pk 1 0)), (2, .c (.pk 2 0)), (3, .c (.pk 3 0))] [(1, .var (eTView p0) false), (2, .var [.int .i64 0, .int .i64 0, .int .i64 0, .nil, .nil, .nil] false), (3, .var [.int .i64 p0.Side, .int .i64 p0.Turn, .int .i64 p0.Weather, dat 1 eI zI v1, dat 4 eTUnit zTUnit v3, .nil] false)] (fun t => aI (l_toUnitS_ok p0.Own v3 h4) (t)) (by kernel_rfl) ?_
  obtain ⟨v5, h6, H⟩ := ofBind H
  refine seq_ops [.res (.c (dat 4 eTUnit zTUnit v5))] [] [(2, .c (.pk 2 0)), (3, .c (.pk 3 0))] [(2, .var [.int .i64 0, .int .i64 0, .int .i64 0, .nil, .nil, .nil] false), (3, .var [.int .i64 p0.Side, .int .i64 p0.Turn, .int .i64 p0.Weather, dat 1 eI zI v1, dat 4 eTUnit zTUnit v3, dat 4 eTUnit zTUnit v5] false)] (fun t => aI (l_toUnitS_ok p0.Enemies v5 h6) (t)) (by kernel_rfl) ?_
  refine seq_ops [] [] [(2, .c (.pk 2 0))] [(2, .var [.int .i64 p0.Side, .int .i64 p0.Turn, .int .i64 p0.Weather, dat 1 eI zI v1, dat 4 eTUnit zTUnit v3, dat 4 eTUnit zTUnit v5] false)] (fun t => t) (by kernel_rfl) ?_
  refine ends_ret ?_
  obtain rfl := Option.some.inj H
  exact And.intro (.inl rfl) rfl

theorem l_toUnitS_F_ok (p0 : (List TUnit)) (r : (List TUnit)) (H : X.l_toUnitS p0 = some r) : FnOk Tryz.prog gl 66 [.c (dat 4 eTUnit zTUnit p0)] (.c (.fr (dat 4 eTUnit zTUnit r))) := by
  unfold X.l_toUnitS at H
  refine fn_fr (fn := Tryz.f66) (ir := l_toUnitS_ir) (s1 := lit [(2, .c (.own 900000 4 0 r.length))] [(900000, .arr 4 r.length (fF eTUnit zTUnit r) false)]) (res0 := .c (.own 900000 4 0 r.length)) glL Tryz.func66 (by kernel_rfl) (by kernel_rfl) (by kernel_rfl) (by kernel_rfl) (FrTo.own rfl (Nat.le_refl _) (fun i _ => ⟨rfl, rfl⟩)) ?_
  refine seq_ops [] [] [(0, .c (dat 4 eTUnit zTUnit p0))] [] (fun t => t) (by kernel_rfl) ?_
  obtain ⟨g1, H⟩ := ofIf H
  refine seq_ops [.fn (List.replicate (p0.length : Int).toNat zTUnit).length (fF eTUnit zTUnit (List.replicate (p0.length : Int).toNat zTUnit))] [] [(0, .c (dat 4 eTUnit zTUnit p0)), (3, .c (.own 7 4 0 ((List.replicate (p0.length : Int).toNat zTUnit).length)))] [(7, .arr 4 ((List.replicate (p0.length : Int).toNat zTUnit).length) (fF eTUnit zTUnit (List.replicate (p0.length : Int).toNat zTUnit)) false)] (fun t => lI p0 (aI (And.intro g1.1 (And.intro (List.length_replicate (n := (p0.length : Int).toNat) (a := zTUnit)).symm (Nat.le_trans (Nat.le_of_eq List.length_replicate) g1.2 : (List.replicate (p0.length : Int).toNat zTUnit).length ≤ LIM))) (aI (fF_rep eTUnit zTUnit zTUnit (p0.length : Int).toNat) (t)))) (by kernel_rfl) ?_
  refine seq_in ?_
  refine seq_ops [] [] [(0, .c (dat 4 eTUnit zTUnit p0)), (3, .c (.own 7 4 0 ((List.replicate (p0.length : Int).toNat zTUnit).length))), (4, cI 0)] [(7, .arr 4 ((List.replicate (p0.length : Int).toNat zTUnit).length) (fF eTUnit zTUnit (List.replicate (p0.length : Int).toNat zTUnit)) false)] (fun t => t) (by kernel_rfl) ?_
  refine ends_blk ?_
  obtain ⟨y25, h26, H⟩ := ofBind H
  refine loop_in (fun (x : (Int × (List TUnit))) => lit [(0, .c (dat 4 eTUnit zTUnit p0)), (3, .c (.own 7 4 0 x.2.length)), (4, cI x.1)] [(7, .arr 4 x.2.length (fF eTUnit zTUnit x.2) false)]) (fun (z : (List TUnit)) => At (.exit 0) (lit [(3, .c (.own 7 4 0 z.length))] [(7, .arr 4 z.length (fF eTUnit zTUnit z) false)])) h26 ?_ ?_
  · clear H h26
    intro x17 y0 H
    refine seq_in ?_
    refine seq_ops [] [] [(0, .c (dat 4 eTUnit zTUnit p0)), (3, .c (.own 7 4 0 x17.2.length)), (4, cI x17.1), (11, cB (decide (x17.1 < (p0.length : Int))))] [(7, .arr 4 x17.2.length (fF eTUnit zTUnit x17.2) false)] (fun t => lI p0 (t)) (by kernel_rfl) ?_
    rcases ofCond H with ⟨c19, H⟩ | ⟨c19, H⟩
    · refine ite_t c19 (by kernel_rfl) ?_
      refine ends_skip ?_
      change EndsI _ _ _ _ _ _
      refine seq_in ?_
      refine ends_blk ?_
      obtain ⟨v20, h21, H⟩ := ofBind H
      obtain ⟨v22, h23, H⟩ := ofBind H
      obtain ⟨g24, H⟩ := ofIf H
      refine one_ops [.cs (eTUnit v20), .res (.agg (eTUnit v22)), .no, .fn 0 (fF eTUnit zTUnit (x17.2.set x17.1.toNat v22))] [] [(0, .c (dat 4 eTUnit zTUnit p0)), (3, .c (.own 7 4 0 x17.2.length)), (4, cI x17.1)] [(7, .arr 4 x17.2.length (fF eTUnit zTUnit (x17.2.set x17.1.toNat v22)) false)] (fun t => aI (at_lt h21) (aI (at_enc (enc := eTUnit) h21) (aI (l_toUnit_ok v20 v22 h23) (aI g24 (aI (rfl : true = true) (aI (nat_lt g24) (aI (by decide : 0 + 4 ≤ 4) (aI (fF_set eTUnit zTUnit x17.2 x17.1.toNat v22 (nat_lt g24) x17.2.length) (t))))))))) (by kernel_rfl) ?_
      change EndsI _ _ _ _ _ _
      refine one_ops [] [.rel 3 ((x17.2.set x17.1.toNat v22).length), .rep 7 ((x17.2.set x17.1.toNat v22).length) (fF eTUnit zTUnit (x17.2.set x17.1.toNat v22))] [(0, .c (dat 4 eTUnit zTUnit p0)), (3, .c (.own 7 4 0 ((x17.2.set x17.1.toNat v22).length))), (4, cI (W (x17.1 + 1)))] [(7, .arr 4 ((x17.2.set x17.1.toNat v22).length) (fF eTUnit zTUnit (x17.2.set x17.1.toNat v22)) false)] (fun t => aI (by simp : x17.2.length = (x17.2.set x17.1.toNat v22).length) (aI (Nat.le_of_eq (by simp : (x17.2.set x17.1.toNat v22).length = x17.2.length)) (aI (fun _ _ => rfl : ∀ i, i < (x17.2.set x17.1.toNat v22).length → (fF eTUnit zTUnit (x17.2.set x17.1.toNat v22)) i = (fF eTUnit zTUnit (x17.2.set x17.1.toNat v22)) i) (t)))) (by kernel_rfl) ?_
      obtain rfl := Option.some.inj H
      exact And.intro rfl rfl
    · refine ite_f c19 (by kernel_rfl) ?_
      refine tell [] [(3, .c (.own 7 4 0 x17.2.length))] [(7, .arr 4 x17.2.length (fF eTUnit zTUnit x17.2) false)] (fun t => t) (by kernel_rfl) ?_
      refine ends_exit ?_
      obtain rfl := Option.some.inj H
      exact And.intro (by simp) (And.intro rfl rfl)
  · clear h26
    intro e s q
    obtain ⟨rfl, rfl⟩ := q
    change EndsI _ _ _ _ _ _
    refine seq_ops [] [] [(2, .c (.own 7 4 0 y25.length))] [(7, .arr 4 y25.length (fF eTUnit zTUnit y25) false)] (fun t => t) (by kernel_rfl) ?_
    refine tell [.ren 7 900000] [(2, .c (.own 900000 4 0 y25.length))] [(900000, .arr 4 y25.length (fF eTUnit zTUnit y25) false)] (fun t => t) (by kernel_rfl) ?_
    refine ends_ret ?_
    obtain rfl := Option.some.inj H
    exact And.intro (.inl rfl) rfl

theorem l_toView_F_ok (p0 : TView) (r : TView) (H : X.l_toView p0 = some r) : FnOk Tryz.prog gl 27 [.agg (eTView p0)] (.agg [.int .i64 r.Side, .int .i64 r.Turn, .int .i64 r.Weather, .fr (dat 1 eI zI r.Seen), .fr (dat 4 eTUnit zTUnit r.Own), .fr (dat 4 eTUnit zTUnit r.Enemies)]) := by
  unfold X.l_toView at H
  refine fn_fr (fn := Tryz.f27) (ir := l_toView_ir) (s1 := lit [(2, .c (.pk 2 0))] [(2, .var [.int .i64 r.Side, .int .i64 r.Turn, .int .i64 r.Weather, .fr (dat 1 eI zI r.Seen), .fr (dat 4 eTUnit zTUnit r.Own), .fr (dat 4 eTUnit zTUnit r.Enemies)] false)]) (res0 := .agg [.int .i64 r.Side, .int .i64 r.Turn, .int .i64 r.Weather, .fr (dat 1 eI zI r.Seen), .fr (dat 4 eTUnit zTUnit r.Own), .fr (dat 4 eTUnit zTUnit r.Enemies)]) glL Tryz.func27 (by kernel_rfl) (by kernel_rfl) (by kernel_rfl) (by kernel_rfl) ((And.intro ((.inl ⟨rfl, rfl⟩)) (And.intro ((.inl ⟨rfl, rfl⟩)) (And.intro ((.inl ⟨rfl, rfl⟩)) (And.intro ((.inl ⟨rfl, rfl⟩)) (And.intro ((.inl ⟨rfl, rfl⟩)) (And.intro ((.inl ⟨rfl, rfl⟩)) trivial))))))) ?_
  refine seq_ops [] [] [(1, .c (.pk 1 0)), (2, .c (.pk 2 0))] [(1, .var (eTView p0) false), (2, .var [.int .i64 0, .int .i64 0, .int .i64 0, .nil, .nil, .nil] false)] (fun t => t) (by kernel_rfl) ?_
  refine seq_ops [] [] [(1, .c (.pk 1 0)), (2, .c (.pk 2 0)), (3, .c (.pk 3 0))] [(1, .var (eTView p0) false), (2, .var [.int .i64 0, .int .i64 0, .int .i64 0, .nil, .nil, .nil] false), (3, .var [.int .i64 0, .int .i64 0, .int .i64 0, .nil, .nil, .nil] false)] (fun t => t) (by kernel_rfl) ?_
  refine seq_ops [] [] [(1, .c (.pk 1 0)), (2, .c (.pk 2 0)), (3, .c (.pk 3 0))] [(1, .var (eTView p0) false), (2, .var [.int .i64 0, .int .i64 0, .int .i64 0, .nil, .nil, .nil] false), (3, .var [.int .i64 p0.Side, .int .i64 0, .int .i64 0, .nil, .nil, .nil] false)] (fun t => t) (by kernel_rfl) ?_
  refine seq_ops [] [] [(1, .c (.pk 1 0)), (2, .c (.pk 2 0)), (3, .c (.pk 3 0))] [(1, .var (eTView p0) false), (2, .var [.int .i64 0, .int .i64 0, .int .i64 0, .nil, .nil, .nil] false), (3, .var [.int .i64 p0.Side, .int .i64 p0.Turn, .int .i64 0, .nil, .nil, .nil] false)] (fun t => t) (by kernel_rfl) ?_
  refine seq_ops [] [] [(1, .c (.pk 1 0)), (2, .c (.pk 2 0)), (3, .c (.pk 3 0))] [(1, .var (eTView p0) false), (2, .var [.int .i64 0, .int .i64 0, .int .i64 0, .nil, .nil, .nil] false), (3, .var [.int .i64 p0.Side, .int .i64 p0.Turn, .int .i64 p0.Weather, .nil, .nil, .nil] false)] (fun t => t) (by kernel_rfl) ?_
  obtain ⟨v1, h2, H⟩ := ofBind H
  refine seq_ops [.res (.c (.fr (dat 1 eI zI v1)))] [] [(1, .c (.pk 1 0)), (2, .c (.pk 2 0)), (3, .c (.pk 3 0))] [(1, .var (eTView p0) false), (2, .var [.int .i64 0, .int .i64 0, .int .i64 0, .nil, .nil, .nil] false), (3, .var [.int .i64 p0.Side, .int .i64 p0.Turn, .int .i64 p0.Weather, .fr (dat 1 eI zI v1), .nil, .nil] false)] (fun t => aI (l_toIntS_F_ok p0.Seen v1 h2) (t)) (by kernel_rfl) ?_
  obtain ⟨v3, h4, H⟩ := ofBind H
  refine seq_ops [.res (.c (.fr (dat 4 eTUnit zTUnit v3)))] [] [(1, .c (.pk 1 0)), (2, .c (.pk 2 0)), (3, .c (.pk 3 0))] [(1, .var (eTView p0) false), (2, .var [.int .i64 0, .int .i64 0, .int .i64 0, .nil, .nil, .nil] false), (3, .var [.int .i64 p0.Side, .int .i64 p0.Turn, .int .i64 p0.Weather, .fr (dat 1 eI zI v1), .fr (dat 4 eTUnit zTUnit v3), .nil] false)] (fun t => aI (l_toUnitS_F_ok p0.Own v3 h4) (t)) (by kernel_rfl) ?_
  obtain ⟨v5, h6, H⟩ := ofBind H
  refine seq_ops [.res (.c (.fr (dat 4 eTUnit zTUnit v5)))] [] [(2, .c (.pk 2 0)), (3, .c (.pk 3 0))] [(2, .var [.int .i64 0, .int .i64 0, .int .i64 0, .nil, .nil, .nil] false), (3, .var [.int .i64 p0.Side, .int .i64 p0.Turn, .int .i64 p0.Weather, .fr (dat 1 eI zI v1), .fr (dat 4 eTUnit zTUnit v3), .fr (dat 4 eTUnit zTUnit v5)] false)] (fun t => aI (l_toUnitS_F_ok p0.Enemies v5 h6) (t)) (by kernel_rfl) ?_
  refine seq_ops [] [] [(2, .c (.pk 2 0))] [(2, .var [.int .i64 p0.Side, .int .i64 p0.Turn, .int .i64 p0.Weather, .fr (dat 1 eI zI v1), .fr (dat 4 eTUnit zTUnit v3), .fr (dat 4 eTUnit zTUnit v5)] false)] (fun t => t) (by kernel_rfl) ?_
  refine ends_ret ?_
  obtain rfl := Option.some.inj H
  exact And.intro (.inl rfl) rfl

def l_eqUnit_ir : S :=
 (.seq (.ops [⟨some 2, .box 4 (.t 0), none⟩, ⟨some 3, .box 4 (.t 1), none⟩, ⟨some 4, .mv (.v (.bool false)), none⟩])
 (.seq (.seq (.ops [⟨some 5, .fad 0 (.t 2), none⟩, ⟨some 6, .load 1 false (.t 5), none⟩, ⟨some 7, .fad 0 (.t 3), none⟩, ⟨some 8, .load 1 false (.t 7), none⟩, ⟨some 9, .bin .neq (.t 6) (.t 8), none⟩])
 (.ite (.t 9) (.seq (.ops [⟨some 4, .mv (.v (.bool false)), none⟩])
  .ret)
 .skip))
 (.seq (.seq (.ops [⟨some 10, .fad 1 (.t 2), none⟩, ⟨some 11, .load 1 false (.t 10), none⟩, ⟨some 12, .fad 1 (.t 3), none⟩, ⟨some 13, .load 1 false (.t 12), none⟩, ⟨some 14, .bin .neq (.t 11) (.t 13), none⟩])
 (.ite (.t 14) (.seq (.ops [⟨some 4, .mv (.v (.bool false)), none⟩])
  .ret)
 .skip))
 (.seq (.seq (.ops [⟨some 15, .fad 2 (.t 2), none⟩, ⟨some 16, .load 1 false (.t 15), none⟩, ⟨some 17, .fad 2 (.t 3), none⟩, ⟨some 18, .load 1 false (.t 17), none⟩, ⟨some 19, .bin .neq (.t 16) (.t 18), none⟩])
 (.ite (.t 19) (.seq (.ops [⟨some 4, .mv (.v (.bool false)), none⟩])
  .ret)
 .skip))
 (.seq (.seq (.ops [⟨some 20, .fad 3 (.t 2), none⟩, ⟨some 21, .load 1 false (.t 20), none⟩, ⟨some 22, .fad 3 (.t 3), none⟩, ⟨some 23, .load 1 false (.t 22), none⟩, ⟨some 24, .bin .neq (.t 21) (.t 23), none⟩])
 (.ite (.t 24) (.seq (.ops [⟨some 4, .mv (.v (.bool false)), none⟩])
  .ret)
 .skip))
 (.seq (.ops [⟨some 4, .mv (.v (.bool true)), none⟩])
 .ret))))))
noncomputable def X.l_eqUnit (p0 : TUnit) (p1 : TUnit) : Option Bool :=
  (bif (p0.Side != p1.Side) then some false else (bif (p0.Kind != p1.Kind) then some false else (bif (p0.At != p1.At) then some false else (bif (p0.Steps != p1.Steps) then some false else some true))))
theorem l_eqUnit_ok (p0 : TUnit) (p1 : TUnit) (r : Bool) (H : X.l_eqUnit p0 p1 = some r) : FnOk Tryz.prog gl 137 [.agg (eTUnit p0), .agg (eTUnit p1)] (cB r) := by
  unfold X.l_eqUnit at H
  refine fn_in (fn := Tryz.f137) (ir := l_eqUnit_ir) (s1 := lit [(4, cB r)] []) glL Tryz.func137 (by kernel_rfl) (by kernel_rfl) (by kernel_rfl) (by kernel_rfl) (by kernel_rfl) ?_
  refine seq_ops [] [] [(2, .c (.pk 2 0)), (3, .c (.pk 3 0))] [(2, .var (eTUnit p0) false), (3, .var (eTUnit p1) false)] (fun t => t) (by kernel_rfl) ?_
  refine seq_in ?_
  refine seq_ops [] [] [(2, .c (.pk 2 0)), (3, .c (.pk 3 0)), (9, cB (p0.Side != p1.Side))] [(2, .var (eTUnit p0) false), (3, .var (eTUnit p1) false)] (fun t => t) (by kernel_rfl) ?_
  rcases ofCond H with ⟨c2, H⟩ | ⟨c2, H⟩
  · refine ite_t c2 (by kernel_rfl) ?_
    refine seq_ops [] [] [(4, cB false)] [] (fun t => t) (by kernel_rfl) ?_
    refine ends_ret ?_
    obtain rfl := Option.some.inj H
    exact And.intro (.inl rfl) rfl
  · refine ite_f c2 (by kernel_rfl) ?_
    refine ends_skip ?_
    change EndsI _ _ _ _ _ _
    refine seq_in ?_
    refine seq_ops [] [] [(2, .c (.pk 2 0)), (3, .c (.pk 3 0)), (14, cB (p0.Kind != p1.Kind))] [(2, .var (eTUnit p0) false), (3, .var (eTUnit p1) false)] (fun t => t) (by kernel_rfl) ?_
    rcases ofCond H with ⟨c4, H⟩ | ⟨c4, H⟩
    · refine ite_t c4 (by kernel_rfl) ?_
      refine seq_ops [] [] [(4, cB false)] [] (fun t => t) (by kernel_rfl) ?_
      refine ends_ret ?_
      obtain rfl := Option.some.inj H
      exact And.intro (.inl rfl) rfl
    · refine ite_f c4 (by kernel_rfl) ?_
      refine ends_skip ?_
      change EndsI _ _ _ _ _ _
      refine seq_in ?_
      refine seq_ops [] [] [(2, .c (.pk 2 0)), (3, .c (.pk 3 0)), (19, cB (p0.At != p1.At))] [(2, .var (eTUnit p0) false), (3, .var (eTUnit p1) false)] (fun t => t) (by kernel_rfl) ?_
      rcases ofCond H with ⟨c6, H⟩ | ⟨c6, H⟩
      · refine ite_t c6 (by kernel_rfl) ?_
        refine seq_ops [] [] [(4, cB false)] [] (fun t => t) (by kernel_rfl) ?_
        refine ends_ret ?_
        obtain rfl := Option.some.inj H
        exact And.intro (.inl rfl) rfl
      · refine ite_f c6 (by kernel_rfl) ?_
        refine ends_skip ?_
        change EndsI _ _ _ _ _ _
        refine seq_in ?_
        refine seq_ops [] [] [(24, cB (p0.Steps != p1.Steps))] [] (fun t => t) (by kernel_rfl) ?_
        rcases ofCond H with ⟨c7, H⟩ | ⟨c7, H⟩
        · refine ite_t c7 (by kernel_rfl) ?_
          refine seq_ops [] [] [(4, cB false)] [] (fun t => t) (by kernel_rfl) ?_
          refine ends_ret ?_
          obtain rfl := Option.some.inj H
          exact And.intro (.inl rfl) rfl
        · refine ite_f c7 (by kernel_rfl) ?_
          refine ends_skip ?_
          change EndsI _ _ _ _ _ _
          refine seq_ops [] [] [(4, cB true)] [] (fun t => t) (by kernel_rfl) ?_
          refine ends_ret ?_
          obtain rfl := Option.some.inj H
          exact And.intro (.inl rfl) rfl

def l_eqUnitS_ir : S :=
 (.seq (.ops [⟨some 4, .mv (.v (.bool false)), none⟩])
 (.seq (.seq (.ops [⟨some 6, .mv (.t 0), none⟩, ⟨some 7, .len (.t 6), none⟩, ⟨some 8, .mv (.t 1), none⟩, ⟨some 9, .len (.t 8), none⟩, ⟨some 10, .bin .neq (.t 7) (.t 9), none⟩])
 (.ite (.t 10) (.seq (.ops [⟨some 4, .mv (.v (.bool false)), none⟩])
  .ret)
 .skip))
 (.seq (.seq (.ops [⟨some 5, .mv (.v (.int .i64 0)), none⟩])
 (.blk 0 (.loop (.seq (.seq (.ops [⟨some 11, .mv (.t 5), none⟩, ⟨some 12, .mv (.t 0), none⟩, ⟨some 13, .len (.t 12), none⟩, ⟨some 14, .bin .lss (.t 11) (.t 13), none⟩])
   (.ite (.t 14) .skip
   (.exit 0)))
   (.seq (.blk 1 (.seq (.draw 10 [⟨some 17, .mv (.t 0), none⟩, ⟨some 18, .mv (.t 5), none⟩, ⟨some 19, .iad 4 (.t 17) (.t 18), none⟩, ⟨some 20, .load 4 true (.t 19), none⟩, ⟨some 21, .mv (.t 1), none⟩, ⟨some 22, .mv (.t 5), none⟩, ⟨some 23, .iad 4 (.t 21) (.t 22), none⟩, ⟨some 24, .load 4 true (.t 23), none⟩, ⟨some 25, .call 137 [.t 20, .t 24], none⟩, ⟨some 26, .not (.t 25), none⟩])
    (.ite (.t 26) (.seq (.ops [⟨some 4, .mv (.v (.bool false)), none⟩])
     .ret)
    .skip)))
   (.ops [⟨some 15, .mv (.t 5), none⟩, ⟨some 16, .bin .add (.t 15) (.v (.int .i64 1)), none⟩, ⟨some 5, .mv (.t 16), none⟩]))))))
 (.seq (.ops [⟨some 4, .mv (.v (.bool true)), none⟩])
 .ret))))
noncomputable def X.l_eqUnitS (p0 : (List TUnit)) (p1 : (List TUnit)) : Option Bool :=
  (bif ((p0.length : Int) != (p1.length : Int)) then some false else ((loop (fun (x22 : Int) => ((bif (decide (x22 < (p0.length : Int))) then ((at' zTUnit p0 x22).bind fun v25 => ((at' zTUnit p1 x22).bind fun v27 => ((X.l_eqUnit v25 v27).bind fun v29 => (bif (!v29) then some (Sum.inr (Sum.inr false)) else some (Sum.inl (W (x22 + 1))))))) else some (Sum.inr (Sum.inl ()))) : Option (Int ⊕ (Unit ⊕ Bool)))) 0).bind fun y32 => (Sum.elim (fun (y34 : Unit) => some true) (fun (y35 : Bool) => some y35) y32)))
theorem l_eqUnitS_ok (p0 : (List TUnit)) (p1 : (List TUnit)) (r : Bool) (H : X.l_eqUnitS p0 p1 = some r) : FnOk Tryz.prog gl 75 [.c (dat 4 eTUnit zTUnit p0), .c (dat 4 eTUnit zTUnit p1)] (cB r) := by
  unfold X.l_eqUnitS at H
  refine fn_in (fn := Tryz.f75) (ir := l_eqUnitS_ir) (s1 := lit [(4, cB r)] []) glL Tryz.func75 (by kernel_rfl) (by kernel_rfl) (by kernel_rfl) (by kernel_rfl) (by kernel_rfl) ?_
  refine seq_ops [] [] [(0, .c (dat 4 eTUnit zTUnit p0)), (1, .c (dat 4 eTUnit zTUnit p1))] [] (fun t => t) (by kernel_rfl) ?_
  refine seq_in ?_
  refine seq_ops [] [] [(0, .c (dat 4 eTUnit zTUnit p0)), (1, .c (dat 4 eTUnit zTUnit p1)), (10, cB ((p0.length : Int) != (p1.length : Int)))] [] (fun t => lI p0 (lI p1 (t))) (by kernel_rfl) ?_
  rcases ofCond H with ⟨c2, H⟩ | ⟨c2, H⟩
  · refine ite_t c2 (by kernel_rfl) ?_
    refine seq_ops [] [] [(4, cB false)] [] (fun t => t) (by kernel_rfl) ?_
    refine ends_ret ?_
    obtain rfl := Option.some.inj H
    exact And.intro (.inl rfl) rfl
  · refine ite_f c2 (by kernel_rfl) ?_
    refine ends_skip ?_
    change EndsI _ _ _ _ _ _
    refine seq_in ?_
    refine seq_ops [] [] [(0, .c (dat 4 eTUnit zTUnit p0)), (1, .c (dat 4 eTUnit zTUnit p1)), (5, cI 0)] [] (fun t => t) (by kernel_rfl) ?_
    refine ends_blk ?_
    obtain ⟨y32, h33, H⟩ := ofBind H
    refine loop_in (fun (x : Int) => lit [(0, .c (dat 4 eTUnit zTUnit p0)), (1, .c (dat 4 eTUnit zTUnit p1)), (5, cI x)] []) (orJ (fun (z : Unit) => At (.exit 0) (lit [] [])) (fun (z : Bool) => At .ret (lit [(4, cB z)] []))) h33 ?_ ?_
    · clear H h33
      intro x22 y0 H
      refine seq_in ?_
      refine seq_ops [] [] [(0, .c (dat 4 eTUnit zTUnit p0)), (1, .c (dat 4 eTUnit zTUnit p1)), (5, cI x22), (14, cB (decide (x22 < (p0.length : Int))))] [] (fun t => lI p0 (t)) (by kernel_rfl) ?_
      rcases ofCond H with ⟨c24, H⟩ | ⟨c24, H⟩
      · refine ite_t c24 (by kernel_rfl) ?_
        refine ends_skip ?_
        change EndsI _ _ _ _ _ _
        refine seq_in ?_
        refine ends_blk ?_
        obtain ⟨v25, h26, H⟩ := ofBind H
        obtain ⟨v27, h28, H⟩ := ofBind H
        obtain ⟨v29, h30, H⟩ := ofBind H
        refine seq_draw [.cs (eTUnit v25), .cs (eTUnit v27), .res (cB v29)] [] [(0, .c (dat 4 eTUnit zTUnit p0)), (1, .c (dat 4 eTUnit zTUnit p1)), (5, cI x22), (26, cB (!v29))] [] (fun t => aI (at_lt h26) (aI (at_enc (enc := eTUnit) h26) (aI (rfl : ([] : List Nat) = []) (aI (at_lt h28) (aI (at_enc (enc := eTUnit) h28) (aI (rfl : ([] : List Nat) = []) (aI (l_eqUnit_ok v25 v27 v29 h30) (aI trivial (aI (rfl : ([] : List Nat) = []) (t)))))))))) (by kernel_rfl) ?_
        rcases ofCond H with ⟨c31, H⟩ | ⟨c31, H⟩
        · refine ite_t c31 (by kernel_rfl) ?_
          refine seq_ops [] [] [(4, cB false)] [] (fun t => t) (by kernel_rfl) ?_
          refine ends_ret ?_
          obtain rfl := Option.some.inj H
          exact And.intro (by simp) (And.intro rfl rfl)
        · refine ite_f c31 (by kernel_rfl) ?_
          refine ends_skip ?_
          change EndsI _ _ _ _ _ _
          refine one_ops [] [] [(0, .c (dat 4 eTUnit zTUnit p0)), (1, .c (dat 4 eTUnit zTUnit p1)), (5, cI (W (x22 + 1)))] [] (fun t => t) (by kernel_rfl) ?_
          obtain rfl := Option.some.inj H
          exact And.intro rfl rfl
      · refine ite_f c24 (by kernel_rfl) ?_
        refine tell [] [] [] (fun t => t) (by kernel_rfl) ?_
        refine ends_exit ?_
        obtain rfl := Option.some.inj H
        exact And.intro (by simp) (And.intro rfl rfl)
    · clear h33
      cases y32 with
      | inl y34 =>
        replace H := ofInl H
        intro e s q
        obtain ⟨rfl, rfl⟩ := q
        change EndsI _ _ _ _ _ _
        refine seq_ops [] [] [(4, cB true)] [] (fun t => t) (by kernel_rfl) ?_
        refine ends_ret ?_
        obtain rfl := Option.some.inj H
        exact And.intro (.inl rfl) rfl
      | inr y35 =>
        replace H := ofInr H
        intro e s q
        obtain ⟨rfl, rfl⟩ := q
        obtain rfl := Option.some.inj H
        exact And.intro (.inl rfl) rfl

def l_eqView_ir : S :=
 (.seq (.ops [⟨some 2, .box 6 (.t 0), none⟩, ⟨some 3, .box 6 (.t 1), none⟩, ⟨some 4, .mv (.v (.bool false)), none⟩])
 (.seq (.seq (.ops [⟨some 5, .fad 0 (.t 2), none⟩, ⟨some 6, .load 1 false (.t 5), none⟩, ⟨some 7, .fad 0 (.t 3), none⟩, ⟨some 8, .load 1 false (.t 7), none⟩, ⟨some 9, .bin .neq (.t 6) (.t 8), none⟩])
 (.ite (.t 9) (.seq (.ops [⟨some 4, .mv (.v (.bool false)), none⟩])
  .ret)
 .skip))
 (.seq (.seq (.ops [⟨some 10, .fad 1 (.t 2), none⟩, ⟨some 11, .load 1 false (.t 10), none⟩, ⟨some 12, .fad 1 (.t 3), none⟩, ⟨some 13, .load 1 false (.t 12), none⟩, ⟨some 14, .bin .neq (.t 11) (.t 13), none⟩])
 (.ite (.t 14) (.seq (.ops [⟨some 4, .mv (.v (.bool false)), none⟩])
  .ret)
 .skip))
 (.seq (.seq (.ops [⟨some 15, .fad 2 (.t 2), none⟩, ⟨some 16, .load 1 false (.t 15), none⟩, ⟨some 17, .fad 2 (.t 3), none⟩, ⟨some 18, .load 1 false (.t 17), none⟩, ⟨some 19, .bin .neq (.t 16) (.t 18), none⟩])
 (.ite (.t 19) (.seq (.ops [⟨some 4, .mv (.v (.bool false)), none⟩])
  .ret)
 .skip))
 (.seq (.seq (.ops [⟨some 20, .fad 3 (.t 2), none⟩, ⟨some 21, .load 1 false (.t 20), none⟩, ⟨some 22, .fad 3 (.t 3), none⟩, ⟨some 23, .load 1 false (.t 22), none⟩, ⟨some 24, .call 18 [.t 21, .t 23], none⟩, ⟨some 25, .not (.t 24), none⟩])
 (.ite (.t 25) (.seq (.ops [⟨some 4, .mv (.v (.bool false)), none⟩])
  .ret)
 .skip))
 (.seq (.seq (.ops [⟨some 26, .fad 4 (.t 2), none⟩, ⟨some 27, .load 1 false (.t 26), none⟩, ⟨some 28, .fad 4 (.t 3), none⟩, ⟨some 29, .load 1 false (.t 28), none⟩, ⟨some 30, .call 75 [.t 27, .t 29], none⟩, ⟨some 31, .not (.t 30), none⟩])
 (.ite (.t 31) (.seq (.ops [⟨some 4, .mv (.v (.bool false)), none⟩])
  .ret)
 .skip))
 (.seq (.seq (.ops [⟨some 32, .fad 5 (.t 2), none⟩, ⟨some 33, .load 1 false (.t 32), none⟩, ⟨some 34, .fad 5 (.t 3), none⟩, ⟨some 35, .load 1 false (.t 34), none⟩, ⟨some 36, .call 75 [.t 33, .t 35], none⟩, ⟨some 37, .not (.t 36), none⟩])
 (.ite (.t 37) (.seq (.ops [⟨some 4, .mv (.v (.bool false)), none⟩])
  .ret)
 .skip))
 (.seq (.ops [⟨some 4, .mv (.v (.bool true)), none⟩])
 .ret))))))))
noncomputable def X.l_eqView (p0 : TView) (p1 : TView) : Option Bool :=
  (bif (p0.Side != p1.Side) then some false else (bif (p0.Turn != p1.Turn) then some false else (bif (p0.Weather != p1.Weather) then some false else ((X.l_eqIntS p0.Seen p1.Seen).bind fun v10 => (bif (!v10) then some false else ((X.l_eqUnitS p0.Own p1.Own).bind fun v16 => (bif (!v16) then some false else ((X.l_eqUnitS p0.Enemies p1.Enemies).bind fun v19 => (bif (!v19) then some false else some true)))))))))
theorem l_eqView_ok (p0 : TView) (p1 : TView) (r : Bool) (H : X.l_eqView p0 p1 = some r) : FnOk Tryz.prog gl 29 [.agg (eTView p0), .agg (eTView p1)] (cB r) := by
  unfold X.l_eqView at H
  refine fn_in (fn := Tryz.f29) (ir := l_eqView_ir) (s1 := lit [(4, cB r)] []) glL Tryz.func29 (by kernel_rfl) (by kernel_rfl) (by kernel_rfl) (by kernel_rfl) (by kernel_rfl) ?_
  refine seq_ops [] [] [(2, .c (.pk 2 0)), (3, .c (.pk 3 0))] [(2, .var (eTView p0) false), (3, .var (eTView p1) false)] (fun t => t) (by kernel_rfl) ?_
  refine seq_in ?_
  refine seq_ops [] [] [(2, .c (.pk 2 0)), (3, .c (.pk 3 0)), (9, cB (p0.Side != p1.Side))] [(2, .var (eTView p0) false), (3, .var (eTView p1) false)] (fun t => t) (by kernel_rfl) ?_
  rcases ofCond H with ⟨c2, H⟩ | ⟨c2, H⟩
  · refine ite_t c2 (by kernel_rfl) ?_
    refine seq_ops [] [] [(4, cB false)] [] (fun t => t) (by kernel_rfl) ?_
    refine ends_ret ?_
    obtain rfl := Option.some.inj H
    exact And.intro (.inl rfl) rfl
  · refine ite_f c2 (by kernel_rfl) ?_
    refine ends_skip ?_
    change EndsI _ _ _ _ _ _
    refine seq_in ?_
    refine seq_ops [] [] [(2, .c (.pk 2 0)), (3, .c (.pk 3 0)), (14, cB (p0.Turn != p1.Turn))] [(2, .var (eTView p0) false), (3, .var (eTView p1) false)] (fun t => t) (by kernel_rfl) ?_
    rcases ofCond H with ⟨c4, H⟩ | ⟨c4, H⟩
    · refine ite_t c4 (by kernel_rfl) ?_
      refine seq_ops [] [] [(4, cB false)] [] (fun t => t) (by kernel_rfl) ?_
      refine ends_ret ?_
      obtain rfl := Option.some.inj H
      exact And.intro (.inl rfl) rfl
    · refine ite_f c4 (by kernel_rfl) ?_
      refine ends_skip ?_
      change EndsI _ _ _ _ _ _
      refine seq_in ?_
      refine seq_ops [] [] [(2, .c (.pk 2 0)), (3, .c (.pk 3 0)), (19, cB (p0.Weather != p1.Weather))] [(2, .var (eTView p0) false), (3, .var (eTView p1) false)] (fun t => t) (by kernel_rfl) ?_
      rcases ofCond H with ⟨c6, H⟩ | ⟨c6, H⟩
      · refine ite_t c6 (by kernel_rfl) ?_
        refine seq_ops [] [] [(4, cB false)] [] (fun t => t) (by kernel_rfl) ?_
        refine ends_ret ?_
        obtain rfl := Option.some.inj H
        exact And.intro (.inl rfl) rfl
      · refine ite_f c6 (by kernel_rfl) ?_
        refine ends_skip ?_
        change EndsI _ _ _ _ _ _
        refine seq_in ?_
        obtain ⟨v10, h11, H⟩ := ofBind H
        refine seq_ops [.res (cB v10)] [] [(2, .c (.pk 2 0)), (3, .c (.pk 3 0)), (25, cB (!v10))] [(2, .var (eTView p0) false), (3, .var (eTView p1) false)] (fun t => aI (l_eqIntS_ok p0.Seen p1.Seen v10 h11) (t)) (by kernel_rfl) ?_
        rcases ofCond H with ⟨c12, H⟩ | ⟨c12, H⟩
        · refine ite_t c12 (by kernel_rfl) ?_
          refine seq_ops [] [] [(4, cB false)] [] (fun t => t) (by kernel_rfl) ?_
          refine ends_ret ?_
          obtain rfl := Option.some.inj H
          exact And.intro (.inl rfl) rfl
        · refine ite_f c12 (by kernel_rfl) ?_
          refine ends_skip ?_
          change EndsI _ _ _ _ _ _
          refine seq_in ?_
          obtain ⟨v16, h17, H⟩ := ofBind H
          refine seq_ops [.res (cB v16)] [] [(2, .c (.pk 2 0)), (3, .c (.pk 3 0)), (31, cB (!v16))] [(2, .var (eTView p0) false), (3, .var (eTView p1) false)] (fun t => aI (l_eqUnitS_ok p0.Own p1.Own v16 h17) (t)) (by kernel_rfl) ?_
          rcases ofCond H with ⟨c18, H⟩ | ⟨c18, H⟩
          · refine ite_t c18 (by kernel_rfl) ?_
            refine seq_ops [] [] [(4, cB false)] [] (fun t => t) (by kernel_rfl) ?_
            refine ends_ret ?_
            obtain rfl := Option.some.inj H
            exact And.intro (.inl rfl) rfl
          · refine ite_f c18 (by kernel_rfl) ?_
            refine ends_skip ?_
            change EndsI _ _ _ _ _ _
            refine seq_in ?_
            obtain ⟨v19, h20, H⟩ := ofBind H
            refine seq_ops [.res (cB v19)] [] [(37, cB (!v19))] [] (fun t => aI (l_eqUnitS_ok p0.Enemies p1.Enemies v19 h20) (t)) (by kernel_rfl) ?_
            rcases ofCond H with ⟨c21, H⟩ | ⟨c21, H⟩
            · refine ite_t c21 (by kernel_rfl) ?_
              refine seq_ops [] [] [(4, cB false)] [] (fun t => t) (by kernel_rfl) ?_
              refine ends_ret ?_
              obtain rfl := Option.some.inj H
              exact And.intro (.inl rfl) rfl
            · refine ite_f c21 (by kernel_rfl) ?_
              refine ends_skip ?_
              change EndsI _ _ _ _ _ _
              refine seq_ops [] [] [(4, cB true)] [] (fun t => t) (by kernel_rfl) ?_
              refine ends_ret ?_
              obtain rfl := Option.some.inj H
              exact And.intro (.inl rfl) rfl

def l_markUnitS_ir : S :=
 (.seq (.ops [⟨some 4, .mv (.v (.int .i64 0)), none⟩])
 (.seq (.seq (.ops [⟨some 5, .mv (.v (.int .i64 0)), none⟩])
 (.blk 0 (.loop (.seq (.seq (.ops [⟨some 6, .mv (.t 5), none⟩, ⟨some 7, .mv (.t 0), none⟩, ⟨some 8, .len (.t 7), none⟩, ⟨some 9, .bin .lss (.t 6) (.t 8), none⟩])
   (.ite (.t 9) .skip
   (.exit 0)))
   (.seq (.blk 1 (.seq (.ops [⟨some 12, .mv (.t 0), none⟩, ⟨some 13, .mv (.t 5), none⟩, ⟨some 14, .mv (.t 1), none⟩, ⟨some 15, .iad 4 (.t 12) (.t 13), none⟩, ⟨some 16, .fad 0 (.t 15), none⟩, ⟨none, .store 1 (.t 16) (.t 14), none⟩])
    (.seq (.ops [⟨some 17, .mv (.t 1), none⟩, ⟨some 18, .bin .add (.t 17) (.v (.int .i64 1)), none⟩, ⟨some 1, .mv (.t 18), none⟩])
    (.seq (.ops [⟨some 19, .mv (.t 0), none⟩, ⟨some 20, .mv (.t 5), none⟩, ⟨some 21, .mv (.t 1), none⟩, ⟨some 22, .iad 4 (.t 19) (.t 20), none⟩, ⟨some 23, .fad 1 (.t 22), none⟩, ⟨none, .store 1 (.t 23) (.t 21), none⟩])
    (.seq (.ops [⟨some 24, .mv (.t 1), none⟩, ⟨some 25, .bin .add (.t 24) (.v (.int .i64 1)), none⟩, ⟨some 1, .mv (.t 25), none⟩])
    (.seq (.ops [⟨some 26, .mv (.t 0), none⟩, ⟨some 27, .mv (.t 5), none⟩, ⟨some 28, .mv (.t 1), none⟩, ⟨some 29, .iad 4 (.t 26) (.t 27), none⟩, ⟨some 30, .fad 2 (.t 29), none⟩, ⟨none, .store 1 (.t 30) (.t 28), none⟩])
    (.seq (.ops [⟨some 31, .mv (.t 1), none⟩, ⟨some 32, .bin .add (.t 31) (.v (.int .i64 1)), none⟩, ⟨some 1, .mv (.t 32), none⟩])
    (.seq (.ops [⟨some 33, .mv (.t 0), none⟩, ⟨some 34, .mv (.t 5), none⟩, ⟨some 35, .mv (.t 1), none⟩, ⟨some 36, .iad 4 (.t 33) (.t 34), none⟩, ⟨some 37, .fad 3 (.t 36), none⟩, ⟨none, .store 1 (.t 37) (.t 35), none⟩])
    (.ops [⟨some 38, .mv (.t 1), none⟩, ⟨some 39, .bin .add (.t 38) (.v (.int .i64 1)), none⟩, ⟨some 1, .mv (.t 39), none⟩])))))))))
   (.ops [⟨some 10, .mv (.t 5), none⟩, ⟨some 11, .bin .add (.t 10) (.v (.int .i64 1)), none⟩, ⟨some 5, .mv (.t 11), none⟩]))))))
 (.seq (.ops [⟨some 40, .mv (.t 1), none⟩, ⟨some 4, .mv (.t 40), none⟩])
 .ret)))
noncomputable def X.l_markUnitS_L (p0 : (List TUnit)) (p1 : Int) : Option Int :=
  ((loop (fun (x10 : (Int × Int)) => ((bif (decide (x10.2 < (p0.length : Int))) then ((at' zTUnit p0 x10.2).bind fun v13 => some (Sum.inl ((W ((W ((W ((W (x10.1 + 1)) + 1)) + 1)) + 1)), (W (x10.2 + 1))))) else some (Sum.inr x10.1)) : Option ((Int × Int) ⊕ Int))) (p1, 0)).bind fun y15 => some y15)
theorem l_markUnitS_L_ok (p0 : (List TUnit)) (p1 : Int) (r : Int) (H : X.l_markUnitS_L p0 p1 = some r) : FnOk Tryz.prog gl 78 [.c (.lv (dat 4 eTUnit zTUnit p0)), cI p1] (cI r) := by
  unfold X.l_markUnitS_L at H
  refine fn_in (fn := Tryz.f78) (ir := l_markUnitS_ir) (s1 := lit [(4, cI r)] []) glL Tryz.func78 (by kernel_rfl) (by kernel_rfl) (by kernel_rfl) (by kernel_rfl) (by kernel_rfl) ?_
  refine seq_ops [] [] [(0, .c (.lv (dat 4 eTUnit zTUnit p0))), (1, cI p1)] [] (fun t => t) (by kernel_rfl) ?_
  refine seq_in ?_
  refine seq_ops [] [] [(0, .c (.lv (dat 4 eTUnit zTUnit p0))), (1, cI p1), (5, cI 0)] [] (fun t => t) (by kernel_rfl) ?_
  refine ends_blk ?_
  obtain ⟨y15, h16, H⟩ := ofBind H
  refine loop_in (fun (x : (Int × Int)) => lit [(0, .c (.lv (dat 4 eTUnit zTUnit p0))), (1, cI x.1), (5, cI x.2)] []) (fun (z : Int) => At (.exit 0) (lit [(1, cI z)] [])) h16 ?_ ?_
  · clear H h16
    intro x10 y0 H
    refine seq_in ?_
    refine seq_ops [] [] [(0, .c (.lv (dat 4 eTUnit zTUnit p0))), (1, cI x10.1), (5, cI x10.2), (9, cB (decide (x10.2 < (p0.length : Int))))] [] (fun t => lI p0 (t)) (by kernel_rfl) ?_
    rcases ofCond H with ⟨c12, H⟩ | ⟨c12, H⟩
    · refine ite_t c12 (by kernel_rfl) ?_
      refine ends_skip ?_
      change EndsI _ _ _ _ _ _
      refine seq_in ?_
      refine ends_blk ?_
      obtain ⟨v13, h14, H⟩ := ofBind H
      refine seq_ops [.cs (eTUnit v13)] [] [(0, .c (.lv (dat 4 eTUnit zTUnit p0))), (1, cI x10.1), (5, cI x10.2)] [] (fun t => aI (at_lt h14) (aI (at_enc (enc := eTUnit) h14) (aI (rfl : true = true) (t)))) (by kernel_rfl) ?_
      refine seq_ops [] [] [(0, .c (.lv (dat 4 eTUnit zTUnit p0))), (1, cI (W (x10.1 + 1))), (5, cI x10.2)] [] (fun t => t) (by kernel_rfl) ?_
      refine seq_ops [.cs (eTUnit v13)] [] [(0, .c (.lv (dat 4 eTUnit zTUnit p0))), (1, cI (W (x10.1 + 1))), (5, cI x10.2)] [] (fun t => aI (at_lt h14) (aI (at_enc (enc := eTUnit) h14) (aI (rfl : true = true) (t)))) (by kernel_rfl) ?_
      refine seq_ops [] [] [(0, .c (.lv (dat 4 eTUnit zTUnit p0))), (1, cI (W ((W (x10.1 + 1)) + 1))), (5, cI x10.2)] [] (fun t => t) (by kernel_rfl) ?_
      refine seq_ops [.cs (eTUnit v13)] [] [(0, .c (.lv (dat 4 eTUnit zTUnit p0))), (1, cI (W ((W (x10.1 + 1)) + 1))), (5, cI x10.2)] [] (fun t => aI (at_lt h14) (aI (at_enc (enc := eTUnit) h14) (aI (rfl : true = true) (t)))) (by kernel_rfl) ?_
      refine seq_ops [] [] [(0, .c (.lv (dat 4 eTUnit zTUnit p0))), (1, cI (W ((W ((W (x10.1 + 1)) + 1)) + 1))), (5, cI x10.2)] [] (fun t => t) (by kernel_rfl) ?_
      refine seq_ops [.cs (eTUnit v13)] [] [(0, .c (.lv (dat 4 eTUnit zTUnit p0))), (1, cI (W ((W ((W (x10.1 + 1)) + 1)) + 1))), (5, cI x10.2)] [] (fun t => aI (at_lt h14) (aI (at_enc (enc := eTUnit) h14) (aI (rfl : true = true) (t)))) (by kernel_rfl) ?_
      refine one_ops [] [] [(0, .c (.lv (dat 4 eTUnit zTUnit p0))), (1, cI (W ((W ((W ((W (x10.1 + 1)) + 1)) + 1)) + 1))), (5, cI x10.2)] [] (fun t => t) (by kernel_rfl) ?_
      change EndsI _ _ _ _ _ _
      refine one_ops [] [] [(0, .c (.lv (dat 4 eTUnit zTUnit p0))), (1, cI (W ((W ((W ((W (x10.1 + 1)) + 1)) + 1)) + 1))), (5, cI (W (x10.2 + 1)))] [] (fun t => t) (by kernel_rfl) ?_
      obtain rfl := Option.some.inj H
      exact And.intro rfl rfl
    · refine ite_f c12 (by kernel_rfl) ?_
      refine tell [] [(1, cI x10.1)] [] (fun t => t) (by kernel_rfl) ?_
      refine ends_exit ?_
      obtain rfl := Option.some.inj H
      exact And.intro (by simp) (And.intro rfl rfl)
  · clear h16
    intro e s q
    obtain ⟨rfl, rfl⟩ := q
    change EndsI _ _ _ _ _ _
    refine seq_ops [] [] [(4, cI y15)] [] (fun t => t) (by kernel_rfl) ?_
    refine ends_ret ?_
    obtain rfl := Option.some.inj H
    exact And.intro (.inl rfl) rfl

def l_markView_ir : S :=
 (.seq (.ops [⟨some 2, .box 6 (.t 0), none⟩, ⟨some 4, .mv (.v (.int .i64 0)), none⟩])
 (.seq (.ops [⟨some 5, .fad 3 (.t 2), none⟩, ⟨some 6, .load 1 false (.t 5), none⟩, ⟨some 7, .mv (.t 1), none⟩, ⟨some 8, .call 23 [.t 6, .t 7], none⟩, ⟨some 1, .mv (.t 8), none⟩])
 (.seq (.ops [⟨some 9, .fad 4 (.t 2), none⟩, ⟨some 10, .load 1 false (.t 9), none⟩, ⟨some 11, .mv (.t 1), none⟩, ⟨some 12, .call 78 [.t 10, .t 11], none⟩, ⟨some 1, .mv (.t 12), none⟩])
 (.seq (.ops [⟨some 13, .fad 5 (.t 2), none⟩, ⟨some 14, .load 1 false (.t 13), none⟩, ⟨some 15, .mv (.t 1), none⟩, ⟨some 16, .call 78 [.t 14, .t 15], none⟩, ⟨some 1, .mv (.t 16), none⟩])
 (.seq (.ops [⟨some 17, .mv (.t 1), none⟩, ⟨some 4, .mv (.t 17), none⟩])
 .ret)))))
noncomputable def X.l_markView_L (p0 : TView) (p1 : Int) : Option Int :=
  ((X.l_markIntS_L p0.Seen p1).bind fun v1 => ((X.l_markUnitS_L p0.Own v1).bind fun v3 => ((X.l_markUnitS_L p0.Enemies v3).bind fun v5 => some v5)))
theorem l_markView_L_ok (p0 : TView) (p1 : Int) (r : Int) (H : X.l_markView_L p0 p1 = some r) : FnOk Tryz.prog gl 30 [.agg [.int .i64 p0.Side, .int .i64 p0.Turn, .int .i64 p0.Weather, .lv (dat 1 eI zI p0.Seen), .lv (dat 4 eTUnit zTUnit p0.Own), .lv (dat 4 eTUnit zTUnit p0.Enemies)], cI p1] (cI r) := by
  unfold X.l_markView_L at H
  refine fn_in (fn := Tryz.f30) (ir := l_markView_ir) (s1 := lit [(4, cI r)] []) glL Tryz.func30 (by kernel_rfl) (by kernel_rfl) (by kernel_rfl) (by kernel_rfl) (by kernel_rfl) ?_
  refine seq_ops [] [] [(1, cI p1), (2, .c (.pk 2 0))] [(2, .var [.int .i64 p0.Side, .int .i64 p0.Turn, .int .i64 p0.Weather, .lv (dat 1 eI zI p0.Seen), .lv (dat 4 eTUnit zTUnit p0.Own), .lv (dat 4 eTUnit zTUnit p0.Enemies)] false)] (fun t => t) (by kernel_rfl) ?_
  obtain ⟨v1, h2, H⟩ := ofBind H
  refine seq_ops [.res (cI v1)] [] [(1, cI v1), (2, .c (.pk 2 0))] [(2, .var [.int .i64 p0.Side, .int .i64 p0.Turn, .int .i64 p0.Weather, .lv (dat 1 eI zI p0.Seen), .lv (dat 4 eTUnit zTUnit p0.Own), .lv (dat 4 eTUnit zTUnit p0.Enemies)] false)] (fun t => aI (l_markIntS_L_ok p0.Seen p1 v1 h2) (t)) (by kernel_rfl) ?_
  obtain ⟨v3, h4, H⟩ := ofBind H
  refine seq_ops [.res (cI v3)] [] [(1, cI v3), (2, .c (.pk 2 0))] [(2, .var [.int .i64 p0.Side, .int .i64 p0.Turn, .int .i64 p0.Weather, .lv (dat 1 eI zI p0.Seen), .lv (dat 4 eTUnit zTUnit p0.Own), .lv (dat 4 eTUnit zTUnit p0.Enemies)] false)] (fun t => aI (l_markUnitS_L_ok p0.Own v1 v3 h4) (t)) (by kernel_rfl) ?_
  obtain ⟨v5, h6, H⟩ := ofBind H
  refine seq_ops [.res (cI v5)] [] [(1, cI v5)] [] (fun t => aI (l_markUnitS_L_ok p0.Enemies v3 v5 h6) (t)) (by kernel_rfl) ?_
  refine seq_ops [] [] [(4, cI v5)] [] (fun t => t) (by kernel_rfl) ?_
  refine ends_ret ?_
  obtain rfl := Option.some.inj H
  exact And.intro (.inl rfl) rfl

def s_l1In_ir : S :=
 (.seq (.ops [⟨some 6, .mv (.v (.bool false)), none⟩])
 (.seq (.ops [⟨some 7, .mv (.t 0), none⟩, ⟨some 8, .mv (.t 1), none⟩, ⟨some 9, .bin .geq (.t 7) (.t 8), none⟩, ⟨some 10, .mv (.t 9), none⟩, ⟨some 11, .mv (.t 0), some (10, true)⟩, ⟨some 12, .mv (.t 2), some (10, true)⟩, ⟨some 13, .bin .leq (.t 11) (.t 12), some (10, true)⟩, ⟨some 14, .pick (.t 10) (.t 13) (.v (.bool false)), none⟩, ⟨some 6, .mv (.t 14), none⟩])
 .ret))
noncomputable def X.s_l1In (p0 : Int) (p1 : Int) (p2 : Int) : Option Bool :=
  (bif (decide (p0 ≥ p1)) then some (decide (p0 ≤ p2)) else some false)
theorem s_l1In_ok (p0 : Int) (p1 : Int) (p2 : Int) (r : Bool) (H : X.s_l1In p0 p1 p2 = some r) : FnOk Tryz.prog gl 124 [cI p0, cI p1, cI p2] (cB r) := by
  unfold X.s_l1In at H
  refine fn_in (fn := Tryz.f124) (ir := s_l1In_ir) (s1 := lit [(6, cB r)] []) glL Tryz.func124 (by kernel_rfl) (by kernel_rfl) (by kernel_rfl) (by kernel_rfl) (by kernel_rfl) ?_
  refine seq_ops [] [] [(0, cI p0), (1, cI p1), (2, cI p2)] [] (fun t => t) (by kernel_rfl) ?_
  rcases ofCond H with ⟨c1, H⟩ | ⟨c1, H⟩
  · refine seq_ops [.g true, .g true, .g true, .g true] [] [(6, cB (decide (p0 ≤ p2)))] [] (fun t => aI c1 (aI c1 (aI c1 (aI c1 (t))))) (by kernel_rfl) ?_
    refine ends_ret ?_
    obtain rfl := Option.some.inj H
    exact And.intro (.inl rfl) rfl
  · refine seq_ops [.g false, .g false, .g false, .g false] [] [(6, cB false)] [] (fun t => aI c1 (aI c1 (aI c1 (aI c1 (t))))) (by kernel_rfl) ?_
    refine ends_ret ?_
    obtain rfl := Option.some.inj H
    exact And.intro (.inl rfl) rfl

def s_l1All_ir : S :=
 (.seq (.ops [⟨some 6, .mv (.v (.bool false)), none⟩])
 (.seq (.seq (.ops [⟨some 9, .mv (.t 0), none⟩, ⟨some 10, .len (.t 9), none⟩, ⟨some 11, .mv (.v (.int .i64 0)), none⟩])
 (.blk 0 (.loop (.seq (.ops [⟨some 12, .bin .lss (.t 11) (.t 10), none⟩])
   (.seq (.ite (.t 12) .skip
   (.exit 0))
   (.seq (.blk 1 (.seq (.ops [⟨some 13, .iad 1 (.t 9) (.t 11), none⟩, ⟨some 14, .load 1 false (.t 13), none⟩, ⟨some 8, .mv (.t 14), none⟩])
    (.seq (.ops [⟨some 15, .mv (.t 8), none⟩, ⟨some 16, .mv (.t 1), none⟩, ⟨some 17, .mv (.t 2), none⟩, ⟨some 18, .call 124 [.t 15, .t 16, .t 17], none⟩, ⟨some 19, .not (.t 18), none⟩])
    (.ite (.t 19) (.seq (.ops [⟨some 6, .mv (.v (.bool false)), none⟩])
     .ret)
    .skip))))
   (.ops [⟨some 20, .bin .add (.t 11) (.v (.int .i64 1)), none⟩, ⟨some 11, .mv (.t 20), none⟩])))))))
 (.seq (.ops [⟨some 6, .mv (.v (.bool true)), none⟩])
 .ret)))
noncomputable def X.s_l1All (p0 : (List Int)) (p1 : Int) (p2 : Int) : Option Bool :=
  ((loop (fun (x16 : Int) => ((bif (decide (x16 < (p0.length : Int))) then ((at' zI p0 x16).bind fun v19 => ((X.s_l1In v19 p1 p2).bind fun v21 => (bif (!v21) then some (Sum.inr (Sum.inr false)) else some (Sum.inl (W (x16 + 1)))))) else some (Sum.inr (Sum.inl ()))) : Option (Int ⊕ (Unit ⊕ Bool)))) 0).bind fun y24 => (Sum.elim (fun (y26 : Unit) => some true) (fun (y27 : Bool) => some y27) y24))
theorem s_l1All_ok (p0 : (List Int)) (p1 : Int) (p2 : Int) (r : Bool) (H : X.s_l1All p0 p1 p2 = some r) : FnOk Tryz.prog gl 166 [.c (dat 1 eI zI p0), cI p1, cI p2] (cB r) := by
  unfold X.s_l1All at H
  refine fn_in (fn := Tryz.f166) (ir := s_l1All_ir) (s1 := lit [(6, cB r)] []) glL Tryz.func166 (by kernel_rfl) (by kernel_rfl) (by kernel_rfl) (by kernel_rfl) (by kernel_rfl) ?_
  refine seq_ops [] [] [(0, .c (dat 1 eI zI p0)), (1, cI p1), (2, cI p2)] [] (fun t => t) (by kernel_rfl) ?_
  refine seq_in ?_
  refine seq_ops [] [] [(1, cI p1), (2, cI p2), (9, .c (dat 1 eI zI p0)), (10, cI (p0.length : Int)), (11, cI 0)] [] (fun t => lI p0 (t)) (by kernel_rfl) ?_
  refine ends_blk ?_
  obtain ⟨y24, h25, H⟩ := ofBind H
  refine loop_in (fun (x : Int) => lit [(1, cI p1), (2, cI p2), (9, .c (dat 1 eI zI p0)), (10, cI (p0.length : Int)), (11, cI x)] []) (orJ (fun (z : Unit) => At (.exit 0) (lit [] [])) (fun (z : Bool) => At .ret (lit [(6, cB z)] []))) h25 ?_ ?_
  · clear H h25
    intro x16 y0 H
    refine seq_ops [] [] [(1, cI p1), (2, cI p2), (9, .c (dat 1 eI zI p0)), (10, cI (p0.length : Int)), (11, cI x16), (12, cB (decide (x16 < (p0.length : Int))))] [] (fun t => t) (by kernel_rfl) ?_
    refine seq_in ?_
    rcases ofCond H with ⟨c18, H⟩ | ⟨c18, H⟩
    · refine ite_t c18 (by kernel_rfl) ?_
      refine ends_skip ?_
      change EndsI _ _ _ _ _ _
      refine seq_in ?_
      refine ends_blk ?_
      obtain ⟨v19, h20, H⟩ := ofBind H
      refine seq_ops [.cs (eI v19)] [] [(1, cI p1), (2, cI p2), (8, cI v19), (9, .c (dat 1 eI zI p0)), (10, cI (p0.length : Int)), (11, cI x16)] [] (fun t => aI (at_lt h20) (aI (at_enc (enc := eI) h20) (t))) (by kernel_rfl) ?_
      obtain ⟨v21, h22, H⟩ := ofBind H
      refine seq_ops [.res (cB v21)] [] [(1, cI p1), (2, cI p2), (9, .c (dat 1 eI zI p0)), (10, cI (p0.length : Int)), (11, cI x16), (19, cB (!v21))] [] (fun t => aI (s_l1In_ok v19 p1 p2 v21 h22) (t)) (by kernel_rfl) ?_
      rcases ofCond H with ⟨c23, H⟩ | ⟨c23, H⟩
      · refine ite_t c23 (by kernel_rfl) ?_
        refine seq_ops [] [] [(6, cB false)] [] (fun t => t) (by kernel_rfl) ?_
        refine ends_ret ?_
        obtain rfl := Option.some.inj H
        exact And.intro (by simp) (And.intro rfl rfl)
      · refine ite_f c23 (by kernel_rfl) ?_
        refine ends_skip ?_
        change EndsI _ _ _ _ _ _
        refine one_ops [] [] [(1, cI p1), (2, cI p2), (9, .c (dat 1 eI zI p0)), (10, cI (p0.length : Int)), (11, cI (W (x16 + 1)))] [] (fun t => t) (by kernel_rfl) ?_
        obtain rfl := Option.some.inj H
        exact And.intro rfl rfl
    · refine ite_f c18 (by kernel_rfl) ?_
      refine tell [] [] [] (fun t => t) (by kernel_rfl) ?_
      refine ends_exit ?_
      obtain rfl := Option.some.inj H
      exact And.intro (by simp) (And.intro rfl rfl)
  · clear h25
    cases y24 with
    | inl y26 =>
      replace H := ofInl H
      intro e s q
      obtain ⟨rfl, rfl⟩ := q
      change EndsI _ _ _ _ _ _
      refine seq_ops [] [] [(6, cB true)] [] (fun t => t) (by kernel_rfl) ?_
      refine ends_ret ?_
      obtain rfl := Option.some.inj H
      exact And.intro (.inl rfl) rfl
    | inr y27 =>
      replace H := ofInr H
      intro e s q
      obtain ⟨rfl, rfl⟩ := q
      obtain rfl := Option.some.inj H
      exact And.intro (.inl rfl) rfl

def s_rName_ir : S :=
 (.seq (.ops [⟨some 2, .mv (.v (.bool false)), none⟩])
 (.seq (.seq (.ops [⟨some 3, .mv (.v (.int .i64 0)), none⟩])
 (.blk 0 (.loop (.seq (.seq (.ops [⟨some 4, .mv (.t 3), none⟩, ⟨some 5, .mv (.t 0), none⟩, ⟨some 6, .lens (.t 5), none⟩, ⟨some 7, .bin .lss (.t 4) (.t 6), none⟩])
   (.ite (.t 7) .skip
   (.exit 0)))
   (.seq (.blk 1 (.seq (.ops [⟨some 10, .mv (.t 0), none⟩, ⟨some 11, .mv (.t 3), none⟩, ⟨some 12, .ixs (.t 10) (.t 11), none⟩, ⟨some 13, .bin .lss (.t 12) (.v (.int .u8 97)), none⟩, ⟨some 14, .mv (.t 13), none⟩, ⟨some 15, .mv (.t 0), some (14, false)⟩, ⟨some 16, .mv (.t 3), some (14, false)⟩, ⟨some 17, .ixs (.t 15) (.t 16), some (14, false)⟩, ⟨some 18, .bin .gtr (.t 17) (.v (.int .u8 122)), some (14, false)⟩, ⟨some 19, .pick (.t 14) (.v (.bool true)) (.t 18), none⟩])
    (.ite (.t 19) (.seq (.ops [⟨some 2, .mv (.v (.bool false)), none⟩])
     .ret)
    .skip)))
   (.ops [⟨some 8, .mv (.t 3), none⟩, ⟨some 9, .bin .add (.t 8) (.v (.int .i64 1)), none⟩, ⟨some 3, .mv (.t 9), none⟩]))))))
 (.seq (.ops [⟨some 20, .mv (.t 0), none⟩, ⟨some 21, .lens (.t 20), none⟩, ⟨some 22, .call 124 [.t 21, .v (.int .i64 1), .v (.int .i64 8)], none⟩, ⟨some 2, .mv (.t 22), none⟩])
 .ret)))
noncomputable def X.s_rName (p0 : (List UInt8)) : Option Bool :=
  ((loop (fun (x14 : Int) => ((bif (decide (x14 < (p0.length : Int))) then (if 0 ≤ x14 ∧ x14 < (p0.length : Int) then (bif (decide ((((p0.getD x14.toNat 0).toNat : Nat) : Int) < 97)) then some (Sum.inr (Sum.inr false)) else (if 0 ≤ x14 ∧ x14 < (p0.length : Int) then (bif (decide ((((p0.getD x14.toNat 0).toNat : Nat) : Int) > 122)) then some (Sum.inr (Sum.inr false)) else some (Sum.inl (W (x14 + 1)))) else none)) else none) else some (Sum.inr (Sum.inl ()))) : Option (Int ⊕ (Unit ⊕ Bool)))) 0).bind fun y21 => (Sum.elim (fun (y23 : Unit) => ((X.s_l1In (p0.length : Int) 1 8).bind fun v25 => some v25)) (fun (y24 : Bool) => some y24) y21))
theorem s_rName_ok (p0 : (List UInt8)) (r : Bool) (H : X.s_rName p0 = some r) : FnOk Tryz.prog gl 209 [.c (.str p0)] (cB r) := by
  unfold X.s_rName at H
  refine fn_in (fn := Tryz.f209) (ir := s_rName_ir) (s1 := lit [(2, cB r)] []) glL Tryz.func209 (by kernel_rfl) (by kernel_rfl) (by kernel_rfl) (by kernel_rfl) (by kernel_rfl) ?_
  refine seq_ops [] [] [(0, .c (.str p0))] [] (fun t => t) (by kernel_rfl) ?_
  refine seq_in ?_
  refine seq_ops [] [] [(0, .c (.str p0)), (3, cI 0)] [] (fun t => t) (by kernel_rfl) ?_
  refine ends_blk ?_
  obtain ⟨y21, h22, H⟩ := ofBind H
  refine loop_in (fun (x : Int) => lit [(0, .c (.str p0)), (3, cI x)] []) (orJ (fun (z : Unit) => At (.exit 0) (lit [(0, .c (.str p0))] [])) (fun (z : Bool) => At .ret (lit [(2, cB z)] []))) h22 ?_ ?_
  · clear H h22
    intro x14 y0 H
    refine seq_in ?_
    refine seq_ops [] [] [(0, .c (.str p0)), (3, cI x14), (7, cB (decide (x14 < (p0.length : Int))))] [] (fun t => t) (by kernel_rfl) ?_
    rcases ofCond H with ⟨c16, H⟩ | ⟨c16, H⟩
    · refine ite_t c16 (by kernel_rfl) ?_
      refine ends_skip ?_
      change EndsI _ _ _ _ _ _
      refine seq_in ?_
      refine ends_blk ?_
      obtain ⟨g17, H⟩ := ofIf H
      rcases ofCond H with ⟨c18, H⟩ | ⟨c18, H⟩
      · refine seq_ops [.g true, .g true, .g true, .g true, .g true] [] [(0, .c (.str p0)), (3, cI x14), (19, cB true)] [] (fun t => aI g17 (aI c18 (aI c18 (aI c18 (aI c18 (aI c18 (t))))))) (by kernel_rfl) ?_
        refine ite_t (rfl : (true : Bool) = true) (by kernel_rfl) ?_
        refine seq_ops [] [] [(2, cB false)] [] (fun t => t) (by kernel_rfl) ?_
        refine ends_ret ?_
        obtain rfl := Option.some.inj H
        exact And.intro (by simp) (And.intro rfl rfl)
      · obtain ⟨g19, H⟩ := ofIf H
        refine seq_ops [.g false, .g false, .g false, .g false, .g false] [] [(0, .c (.str p0)), (3, cI x14), (19, cB (decide ((((p0.getD x14.toNat 0).toNat : Nat) : Int) > 122)))] [] (fun t => aI g17 (aI c18 (aI c18 (aI c18 (aI g19 (aI c18 (aI c18 (t)))))))) (by kernel_rfl) ?_
        rcases ofCond H with ⟨c20, H⟩ | ⟨c20, H⟩
        · refine ite_t c20 (by kernel_rfl) ?_
          refine seq_ops [] [] [(2, cB false)] [] (fun t => t) (by kernel_rfl) ?_
          refine ends_ret ?_
          obtain rfl := Option.some.inj H
          exact And.intro (by simp) (And.intro rfl rfl)
        · refine ite_f c20 (by kernel_rfl) ?_
          refine ends_skip ?_
          change EndsI _ _ _ _ _ _
          refine one_ops [] [] [(0, .c (.str p0)), (3, cI (W (x14 + 1)))] [] (fun t => t) (by kernel_rfl) ?_
          obtain rfl := Option.some.inj H
          exact And.intro rfl rfl
    · refine ite_f c16 (by kernel_rfl) ?_
      refine tell [] [(0, .c (.str p0))] [] (fun t => t) (by kernel_rfl) ?_
      refine ends_exit ?_
      obtain rfl := Option.some.inj H
      exact And.intro (by simp) (And.intro rfl rfl)
  · clear h22
    cases y21 with
    | inl y23 =>
      replace H := ofInl H
      intro e s q
      obtain ⟨rfl, rfl⟩ := q
      change EndsI _ _ _ _ _ _
      obtain ⟨v25, h26, H⟩ := ofBind H
      refine seq_ops [.res (cB v25)] [] [(2, cB v25)] [] (fun t => aI (s_l1In_ok (p0.length : Int) 1 8 v25 h26) (t)) (by kernel_rfl) ?_
      refine ends_ret ?_
      obtain rfl := Option.some.inj H
      exact And.intro (.inl rfl) rfl
    | inr y24 =>
      replace H := ofInr H
      intro e s q
      obtain ⟨rfl, rfl⟩ := q
      obtain rfl := Option.some.inj H
      exact And.intro (.inl rfl) rfl

def s_rTerrain_ir : S :=
 (.seq (.ops [⟨some 4, .mv (.v (.int .i64 0)), none⟩])
 (.seq (.seq (.ops [⟨some 7, .mv (.t 0), none⟩, ⟨some 8, .len (.t 7), none⟩, ⟨some 9, .mv (.v (.int .i64 0)), none⟩])
 (.blk 0 (.loop (.seq (.ops [⟨some 10, .bin .lss (.t 9) (.t 8), none⟩])
   (.seq (.ite (.t 10) .skip
   (.exit 0))
   (.seq (.blk 1 (.seq (.ops [⟨some 11, .mv (.t 9), none⟩, ⟨some 12, .iad 5 (.t 7) (.t 9), none⟩, ⟨some 13, .load 5 true (.t 12), none⟩, ⟨some 6, .alloc [.str [], .nil, .int .i64 0, .int .i64 0, .bool false], none⟩, ⟨some 5, .mv (.t 11), none⟩, ⟨none, .store 5 (.t 6) (.t 13), none⟩])
    (.seq (.ops [⟨some 14, .fad 0 (.t 6), none⟩, ⟨some 15, .load 1 false (.t 14), none⟩, ⟨some 16, .mv (.t 1), none⟩, ⟨some 17, .bin .eql (.t 15) (.t 16), none⟩])
    (.ite (.t 17) (.seq (.ops [⟨some 18, .mv (.t 5), none⟩, ⟨some 4, .mv (.t 18), none⟩])
     .ret)
    .skip))))
   (.ops [⟨some 19, .bin .add (.t 9) (.v (.int .i64 1)), none⟩, ⟨some 9, .mv (.t 19), none⟩])))))))
 (.seq (.ops [⟨some 4, .mv (.v (.int .i64 (-1))), none⟩])
 .ret)))
noncomputable def X.s_rTerrain (p0 : (List TTerrain)) (p1 : (List UInt8)) : Option Int :=
  ((loop (fun (x12 : Int) => ((bif (decide (x12 < (p0.length : Int))) then ((at' zTTerrain p0 x12).bind fun v15 => (bif (v15.Name == p1) then some (Sum.inr (Sum.inr x12)) else some (Sum.inl (W (x12 + 1))))) else some (Sum.inr (Sum.inl ()))) : Option (Int ⊕ (Unit ⊕ Int)))) 0).bind fun y18 => (Sum.elim (fun (y20 : Unit) => some (-1)) (fun (y21 : Int) => some y21) y18))
theorem s_rTerrain_ok (p0 : (List TTerrain)) (p1 : (List UInt8)) (r : Int) (H : X.s_rTerrain p0 p1 = some r) : FnOk Tryz.prog gl 210 [.c (dat 5 eTTerrain zTTerrain p0), .c (.str p1)] (cI r) := by
  unfold X.s_rTerrain at H
  refine fn_in (fn := Tryz.f210) (ir := s_rTerrain_ir) (s1 := lit [(4, cI r)] []) glL Tryz.func210 (by kernel_rfl) (by kernel_rfl) (by kernel_rfl) (by kernel_rfl) (by kernel_rfl) ?_
  refine seq_ops [] [] [(0, .c (dat 5 eTTerrain zTTerrain p0)), (1, .c (.str p1))] [] (fun t => t) (by kernel_rfl) ?_
  refine seq_in ?_
  refine seq_ops [] [] [(1, .c (.str p1)), (7, .c (dat 5 eTTerrain zTTerrain p0)), (8, cI (p0.length : Int)), (9, cI 0)] [] (fun t => lI p0 (t)) (by kernel_rfl) ?_
  refine ends_blk ?_
  obtain ⟨y18, h19, H⟩ := ofBind H
  refine loop_in (fun (x : Int) => lit [(1, .c (.str p1)), (7, .c (dat 5 eTTerrain zTTerrain p0)), (8, cI (p0.length : Int)), (9, cI x)] []) (orJ (fun (z : Unit) => At (.exit 0) (lit [] [])) (fun (z : Int) => At .ret (lit [(4, cI z)] []))) h19 ?_ ?_
  · clear H h19
    intro x12 y0 H
    refine seq_ops [] [] [(1, .c (.str p1)), (7, .c (dat 5 eTTerrain zTTerrain p0)), (8, cI (p0.length : Int)), (9, cI x12), (10, cB (decide (x12 < (p0.length : Int))))] [] (fun t => t) (by kernel_rfl) ?_
    refine seq_in ?_
    rcases ofCond H with ⟨c14, H⟩ | ⟨c14, H⟩
    · refine ite_t c14 (by kernel_rfl) ?_
      refine ends_skip ?_
      change EndsI _ _ _ _ _ _
      refine seq_in ?_
      refine ends_blk ?_
      obtain ⟨v15, h16, H⟩ := ofBind H
      refine seq_ops [.cs (eTTerrain v15)] [] [(1, .c (.str p1)), (5, cI x12), (6, .c (.pk 6 0)), (7, .c (dat 5 eTTerrain zTTerrain p0)), (8, cI (p0.length : Int)), (9, cI x12)] [(6, .var (eTTerrain v15) false)] (fun t => aI (at_lt h16) (aI (at_enc (enc := eTTerrain) h16) (t))) (by kernel_rfl) ?_
      refine seq_ops [] [] [(1, .c (.str p1)), (5, cI x12), (7, .c (dat 5 eTTerrain zTTerrain p0)), (8, cI (p0.length : Int)), (9, cI x12), (17, cB (v15.Name == p1))] [] (fun t => t) (by kernel_rfl) ?_
      rcases ofCond H with ⟨c17, H⟩ | ⟨c17, H⟩
      · refine ite_t c17 (by kernel_rfl) ?_
        refine seq_ops [] [] [(4, cI x12)] [] (fun t => t) (by kernel_rfl) ?_
        refine ends_ret ?_
        obtain rfl := Option.some.inj H
        exact And.intro (by simp) (And.intro rfl rfl)
      · refine ite_f c17 (by kernel_rfl) ?_
        refine ends_skip ?_
        change EndsI _ _ _ _ _ _
        refine one_ops [] [] [(1, .c (.str p1)), (7, .c (dat 5 eTTerrain zTTerrain p0)), (8, cI (p0.length : Int)), (9, cI (W (x12 + 1)))] [] (fun t => t) (by kernel_rfl) ?_
        obtain rfl := Option.some.inj H
        exact And.intro rfl rfl
    · refine ite_f c14 (by kernel_rfl) ?_
      refine tell [] [] [] (fun t => t) (by kernel_rfl) ?_
      refine ends_exit ?_
      obtain rfl := Option.some.inj H
      exact And.intro (by simp) (And.intro rfl rfl)
  · clear h19
    cases y18 with
    | inl y20 =>
      replace H := ofInl H
      intro e s q
      obtain ⟨rfl, rfl⟩ := q
      change EndsI _ _ _ _ _ _
      refine seq_ops [] [] [(4, cI (-1))] [] (fun t => t) (by kernel_rfl) ?_
      refine ends_ret ?_
      obtain rfl := Option.some.inj H
      exact And.intro (.inl rfl) rfl
    | inr y21 =>
      replace H := ofInr H
      intro e s q
      obtain ⟨rfl, rfl⟩ := q
      obtain rfl := Option.some.inj H
      exact And.intro (.inl rfl) rfl

end Go.Proofs.YtociagbpecpcnaaGreatDoor.X0
