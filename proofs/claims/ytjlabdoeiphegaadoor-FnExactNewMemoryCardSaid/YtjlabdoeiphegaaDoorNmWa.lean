/- What each function that FnExactNewMemory reaches computes; no condition. -/
import Derived.Test.YtjlabdoeiphegaaDoorProg
import Derived.Test.YtjlabdoeiphegaaDoorAmCore3
import Derived.Shelf.Bits.Mul64
set_option linter.unusedVariables false
set_option linter.unusedSimpArgs false
set_option maxRecDepth 100000
namespace Go.Proofs.YtjlabdoeiphegaaDoor.X0
open Go Go.RowKit Go.Proofs.YtjlabdoeiphegaaDoor.Ab Go.Proofs

def lays212_ren : Go.Shelf.Ren := ⟨fun | 212 => 43 | 263 => 66 | 264 => 67 | n => n, fun | 46 => 74 | 51 => 103 | 146 => 104 | 53 => 106 | 148 => 107 | n => n, fun | n => n⟩
theorem lays212 : Go.Proofs.Lays.n212 Tryd.prog lays212_ren := {
 mixed := by kernel_rfl
 f212 := Tryd.func43.trans (congrArg some (by kernel_rfl))
 f263 := Tryd.func66.trans (congrArg some (by kernel_rfl))
 f264 := Tryd.func67.trans (congrArg some (by kernel_rfl))
 t46 := Tryd.underlying74
 a46 := Tryd.isAgg74
 z46 := Tryd.sizeOf74
 v46 := Tryd.zeroValue74
 t51 := Tryd.underlying103
 a51 := Tryd.isAgg103
 z51 := Tryd.sizeOf103
 v51 := Tryd.zeroValue103
 t53 := Tryd.underlying106
 a53 := Tryd.isAgg106
 z53 := Tryd.sizeOf106
 v53 := Tryd.zeroValue106
 t146 := Tryd.underlying104
 a146 := Tryd.isAgg104
 z146 := Tryd.sizeOf104
 v146 := Tryd.zeroValue104
 t148 := Tryd.underlying107
 a148 := Tryd.isAgg107
 z148 := Tryd.sizeOf107
 v148 := Tryd.zeroValue107 }
def zI : Int := 0
def zB : Bool := false
def zS : List UInt8 := []
def eI (x : Int) : List AC := [.int .i64 x]
def eU (x : Int) : List AC := [.int .u8 x]
def eB (x : Bool) : List AC := [.bool x]
def eS (x : List UInt8) : List AC := [.str x]
def zLI : List Int := []
def eLI (xs : List Int) : List AC := [dat 1 eI zI xs]
theorem nLI : LeR [.nil] (eLI zLI) := And.intro (LeC.nil 1 _) trivial
structure TTerrain where
 Name : (List UInt8)
 Cost : (List Int)
 Shift : Int
 Height : Int
 Blocks : Bool
def zTTerrain : TTerrain := ⟨zS, zLI, zI, zI, zB⟩
def eTTerrain (x : TTerrain) : List AC := [.str x.Name, dat 1 eI zI x.Cost, .int .i64 x.Shift, .int .i64 x.Height, .bool x.Blocks]
def rTTerrain (x : TTerrain) : List AC := [.str x.Name, .fr (dat 1 eI zI x.Cost), .int .i64 x.Shift, .int .i64 x.Height, .bool x.Blocks]
def eTTerrainF (x : TTerrain) : List AC := [.str x.Name, .fr (dat 1 eI zI x.Cost), .int .i64 x.Shift, .int .i64 x.Height, .bool x.Blocks]
theorem nTTerrainF : LeR [.str [], .nil, .int .i64 0, .int .i64 0, .bool false] (eTTerrainF zTTerrain) := And.intro (LeC.refl _) (And.intro (LeC.nilfr 1 _) (And.intro (LeC.refl _) (And.intro (LeC.refl _) (And.intro (LeC.refl _) (trivial)))))
theorem nTTerrain : LeR [.str [], .nil, .int .i64 0, .int .i64 0, .bool false] (eTTerrain zTTerrain) := And.intro (LeC.refl _) (And.intro (LeC.nil 1 _) (And.intro (LeC.refl _) (And.intro (LeC.refl _) (And.intro (LeC.refl _) (trivial)))))
def zLTTerrain : List TTerrain := []
def eLTTerrain (xs : List TTerrain) : List AC := [dat 5 eTTerrain zTTerrain xs]
theorem nLTTerrain : LeR [.nil] (eLTTerrain zLTTerrain) := And.intro (LeC.nil 5 _) trivial
structure TKind where
 Name : (List UInt8)
 Strength : Int
 Moves : Int
 Steps : Int
 Zone : Bool
 View : Int
def zTKind : TKind := ⟨zS, zI, zI, zI, zB, zI⟩
def eTKind (x : TKind) : List AC := [.str x.Name, .int .i64 x.Strength, .int .i64 x.Moves, .int .i64 x.Steps, .bool x.Zone, .int .i64 x.View]
def zLTKind : List TKind := []
def eLTKind (xs : List TKind) : List AC := [dat 6 eTKind zTKind xs]
theorem nLTKind : LeR [.nil] (eLTKind zLTKind) := And.intro (LeC.nil 6 _) trivial
structure TRules where
 Terrains : (List TTerrain)
 Kinds : (List TKind)
 Stack : Int
 River : Int
 Road : Int
 Supply : Int
 Turns : Int
def zTRules : TRules := ⟨zLTTerrain, zLTKind, zI, zI, zI, zI, zI⟩
def eTRules (x : TRules) : List AC := [dat 5 eTTerrain zTTerrain x.Terrains, dat 6 eTKind zTKind x.Kinds, .int .i64 x.Stack, .int .i64 x.River, .int .i64 x.Road, .int .i64 x.Supply, .int .i64 x.Turns]
def rTRules (x : TRules) : List AC := [.fr (dat 5 eTTerrain zTTerrain x.Terrains), .fr (dat 6 eTKind zTKind x.Kinds), .int .i64 x.Stack, .int .i64 x.River, .int .i64 x.Road, .int .i64 x.Supply, .int .i64 x.Turns]
def lTRules (x : TRules) : List AC := [.lv (dat 5 eTTerrain zTTerrain x.Terrains), .lv (dat 6 eTKind zTKind x.Kinds), .int .i64 x.Stack, .int .i64 x.River, .int .i64 x.Road, .int .i64 x.Supply, .int .i64 x.Turns]
theorem nTRules : LeR [.nil, .nil, .int .i64 0, .int .i64 0, .int .i64 0, .int .i64 0, .int .i64 0] (eTRules zTRules) := And.intro (LeC.nil 5 _) (And.intro (LeC.nil 6 _) (And.intro (LeC.refl _) (And.intro (LeC.refl _) (And.intro (LeC.refl _) (And.intro (LeC.refl _) (And.intro (LeC.refl _) (trivial)))))))
structure TMap where
 Width : Int
 Height : Int
 Terrain : (List Int)
 Rivers : (List Int)
 Roads : (List Int)
def zTMap : TMap := ⟨zI, zI, zLI, zLI, zLI⟩
def eTMap (x : TMap) : List AC := [.int .i64 x.Width, .int .i64 x.Height, dat 1 eI zI x.Terrain, dat 1 eI zI x.Rivers, dat 1 eI zI x.Roads]
def rTMap (x : TMap) : List AC := [.int .i64 x.Width, .int .i64 x.Height, .fr (dat 1 eI zI x.Terrain), .fr (dat 1 eI zI x.Rivers), .fr (dat 1 eI zI x.Roads)]
def lTMap (x : TMap) : List AC := [.int .i64 x.Width, .int .i64 x.Height, .lv (dat 1 eI zI x.Terrain), .lv (dat 1 eI zI x.Rivers), .lv (dat 1 eI zI x.Roads)]
theorem nTMap : LeR [.int .i64 0, .int .i64 0, .nil, .nil, .nil] (eTMap zTMap) := And.intro (LeC.refl _) (And.intro (LeC.refl _) (And.intro (LeC.nil 1 _) (And.intro (LeC.nil 1 _) (And.intro (LeC.nil 1 _) (trivial)))))
structure TBoard where
 Rules : TRules
 Map : TMap
def zTBoard : TBoard := ⟨zTRules, zTMap⟩
def eTBoard (x : TBoard) : List AC := [dat 5 eTTerrain zTTerrain x.Rules.Terrains, dat 6 eTKind zTKind x.Rules.Kinds, .int .i64 x.Rules.Stack, .int .i64 x.Rules.River, .int .i64 x.Rules.Road, .int .i64 x.Rules.Supply, .int .i64 x.Rules.Turns, .int .i64 x.Map.Width, .int .i64 x.Map.Height, dat 1 eI zI x.Map.Terrain, dat 1 eI zI x.Map.Rivers, dat 1 eI zI x.Map.Roads]
def oTBoard (x : TBoard) : List AC := [.old (dat 5 eTTerrain zTTerrain x.Rules.Terrains), .old (dat 6 eTKind zTKind x.Rules.Kinds), .int .i64 x.Rules.Stack, .int .i64 x.Rules.River, .int .i64 x.Rules.Road, .int .i64 x.Rules.Supply, .int .i64 x.Rules.Turns, .int .i64 x.Map.Width, .int .i64 x.Map.Height, .old (dat 1 eI zI x.Map.Terrain), .old (dat 1 eI zI x.Map.Rivers), .old (dat 1 eI zI x.Map.Roads)]
def rTBoard (x : TBoard) : List AC := [.fr (dat 5 eTTerrain zTTerrain x.Rules.Terrains), .fr (dat 6 eTKind zTKind x.Rules.Kinds), .int .i64 x.Rules.Stack, .int .i64 x.Rules.River, .int .i64 x.Rules.Road, .int .i64 x.Rules.Supply, .int .i64 x.Rules.Turns, .int .i64 x.Map.Width, .int .i64 x.Map.Height, .fr (dat 1 eI zI x.Map.Terrain), .fr (dat 1 eI zI x.Map.Rivers), .fr (dat 1 eI zI x.Map.Roads)]
def lTBoard (x : TBoard) : List AC := [.lv (dat 5 eTTerrain zTTerrain x.Rules.Terrains), .lv (dat 6 eTKind zTKind x.Rules.Kinds), .int .i64 x.Rules.Stack, .int .i64 x.Rules.River, .int .i64 x.Rules.Road, .int .i64 x.Rules.Supply, .int .i64 x.Rules.Turns, .int .i64 x.Map.Width, .int .i64 x.Map.Height, .lv (dat 1 eI zI x.Map.Terrain), .lv (dat 1 eI zI x.Map.Rivers), .lv (dat 1 eI zI x.Map.Roads)]
theorem nTBoard : LeR [.nil, .nil, .int .i64 0, .int .i64 0, .int .i64 0, .int .i64 0, .int .i64 0, .int .i64 0, .int .i64 0, .nil, .nil, .nil] (eTBoard zTBoard) := And.intro (LeC.nil 5 _) (And.intro (LeC.nil 6 _) (And.intro (LeC.refl _) (And.intro (LeC.refl _) (And.intro (LeC.refl _) (And.intro (LeC.refl _) (And.intro (LeC.refl _) (And.intro (LeC.refl _) (And.intro (LeC.refl _) (And.intro (LeC.nil 1 _) (And.intro (LeC.nil 1 _) (And.intro (LeC.nil 1 _) (trivial))))))))))))
structure TMemory where
 Turns : (List Int)
 Counts : (List Int)
def zTMemory : TMemory := ⟨zLI, zLI⟩
def eTMemory (x : TMemory) : List AC := [dat 1 eI zI x.Turns, dat 1 eI zI x.Counts]
theorem nTMemory : LeR [.nil, .nil] (eTMemory zTMemory) := And.intro (LeC.nil 1 _) (And.intro (LeC.nil 1 _) (trivial))
structure THex where
 Q : Int
 R : Int
def zTHex : THex := ⟨zI, zI⟩
def eTHex (x : THex) : List AC := [.int .i64 x.Q, .int .i64 x.R]
theorem shI (x : Int) : Shps (eI x) := .cons (.int _ _) .nil
theorem shU (x : Int) : Shps (eU x) := .cons (.int _ _) .nil
theorem shB (x : Bool) : Shps (eB x) := .cons (.bool _) .nil
theorem shS (x : List UInt8) : Shps (eS x) := .cons (.str _) .nil
theorem shLI (x : List Int) : Shps (eLI x) := (.cons (.dat shI) .nil)
theorem shTTerrain (x : TTerrain) : Shps (eTTerrain x) := (.cons (.str _) (.cons (.dat shI) (.cons (.int _ _) (.cons (.int _ _) (.cons (.bool _) .nil)))))
theorem shLTTerrain (x : List TTerrain) : Shps (eLTTerrain x) := (.cons (.dat shTTerrain) .nil)
theorem shTKind (x : TKind) : Shps (eTKind x) := (.cons (.str _) (.cons (.int _ _) (.cons (.int _ _) (.cons (.int _ _) (.cons (.bool _) (.cons (.int _ _) .nil))))))
theorem shLTKind (x : List TKind) : Shps (eLTKind x) := (.cons (.dat shTKind) .nil)
theorem shTRules (x : TRules) : Shps (eTRules x) := (.cons (.dat shTTerrain) (.cons (.dat shTKind) (.cons (.int _ _) (.cons (.int _ _) (.cons (.int _ _) (.cons (.int _ _) (.cons (.int _ _) .nil)))))))
theorem shTMap (x : TMap) : Shps (eTMap x) := (.cons (.int _ _) (.cons (.int _ _) (.cons (.dat shI) (.cons (.dat shI) (.cons (.dat shI) .nil)))))
theorem shTBoard (x : TBoard) : Shps (eTBoard x) := (.cons (.dat shTTerrain) (.cons (.dat shTKind) (.cons (.int _ _) (.cons (.int _ _) (.cons (.int _ _) (.cons (.int _ _) (.cons (.int _ _) (.cons (.int _ _) (.cons (.int _ _) (.cons (.dat shI) (.cons (.dat shI) (.cons (.dat shI) .nil))))))))))))
theorem shTMemory (x : TMemory) : Shps (eTMemory x) := (.cons (.dat shI) (.cons (.dat shI) .nil))
theorem shTHex (x : THex) : Shps (eTHex x) := (.cons (.int _ _) (.cons (.int _ _) .nil))
def dirs : List THex := [⟨1, 0⟩, ⟨1, -1⟩, ⟨0, -1⟩, ⟨-1, 0⟩, ⟨-1, 1⟩, ⟨0, 1⟩]
def gl : Nat → Option (List AC) := fun g => match g with | 0 => some (dirs.flatMap eTHex) | _ => none
theorem dirs_at {i : Int} {v : THex} (h : at' zTHex dirs i = some v) : ((dirs.flatMap eTHex).drop (0 + i.toNat * 2)).take 2 = eTHex v := arr_at (fun _ => rfl) h
theorem glL : gl LAW = none := rfl
theorem glTs : ∀ g cs, gl g = some cs → glT gl g = some cs := glT_sub glL
theorem glTn : glT gl LAW ≠ none := by simp [glT]
theorem glTp : ∀ g cs, glT gl g = some cs → Shps cs := glT_shp fun g cs h => by
 unfold gl at h
 split at h
 ·cases h; intro c hc; obtain ⟨x, _, hx⟩ := List.mem_flatMap.1 hc; exact shTHex x c hx
 ·cases h
abbrev FK := FnOk Tryd.prog gl
def l_szIntS_ir : S :=
 (sq [o 4 (.mv (iv 0))]
 (sq [om 5 1, om 6 0, o 7 (.len (.t 6)), o 8 (.bin .sub (.t 5) (.t 7)), om 1 8]
 (.seq (sq [om 9 1, o 10 (.bin .lss (.t 9) (iv 0))]
 (.ite (.t 10) (sq [o 4 (.mv (.v (.int .i64 (-1))))]
  .ret)
 .skip))
 (sq [om 11 1, om 4 11]
 .ret))))
noncomputable def X.l_szIntS (p0 : (List Int)) (p1 : Int) : Option Int :=
 (bif (decide ((W (p1 - (p0.length : Int))) < 0)) then some (-1) else some (W (p1 - (p0.length : Int))))
theorem l_szIntS_ok (p0 : (List Int)) (p1 : Int) (r : Int) (H : X.l_szIntS p0 p1 = some r) : FK 31 [.c (dat 1 eI zI p0), cI p1] (cI r) := by
 unfold X.l_szIntS at H
 refine fi Tryd.f31 l_szIntS_ir [(4, cI r)] [] glL Tryd.func31 ?_
 refine sn [] [] [] [] [] id ?_
 refine so [] [] [(1, cI (W (p1 - (p0.length : Int))))] [] (fun t => lI p0 (t)) ?_
 refine seq_in ?_
 refine sn [] [] [(10, cB (decide ((W (p1 - (p0.length : Int))) < 0)))] [] [] id ?_
 rcases oC H with ⟨c1, H⟩ | ⟨c1, H⟩
 ·refine it c1 ?_
  refine so [] [] [(4, cI (-1))] [] id ?_
  cases H
  exact er
 ·refine jf c1 ?_
  refine sk ?_
  refine so [] [] [(4, cI (W (p1 - (p0.length : Int))))] [] id ?_
  cases H
  exact er
def l_szTerrain_ir : S :=
 (sq [o 2 (.box 5 (.t 0)), o 4 (.mv (iv 0))]
 (sq [om 5 1, oa 6 0 2, ol 7 6, o 8 (.lens (.t 7)), o 9 (.bin .sub (.t 5) (.t 8)), om 1 9]
 (.seq (sq [om 10 1, o 11 (.bin .lss (.t 10) (iv 0))]
 (.ite (.t 11) (sq [o 4 (.mv (.v (.int .i64 (-1))))]
  .ret)
 .skip))
 (sq [oa 12 1 2, ol 13 12, om 14 1, o 15 (.call 31 [.t 13, .t 14]), om 1 15]
 (.seq (sq [om 16 1, o 17 (.bin .lss (.t 16) (iv 0))]
 (.ite (.t 17) (sq [o 4 (.mv (.v (.int .i64 (-1))))]
  .ret)
 .skip))
 (sq [om 18 1, om 4 18]
 .ret))))))
noncomputable def X.l_szTerrain (p0 : TTerrain) (p1 : Int) : Option Int :=
 (bif (decide ((W (p1 - (p0.Name.length : Int))) < 0)) then some (-1) else ((X.l_szIntS p0.Cost (W (p1 - (p0.Name.length : Int)))).bind fun v3 => (bif (decide (v3 < 0)) then some (-1) else some v3)))
theorem l_szTerrain_ok (p0 : TTerrain) (p1 : Int) (r : Int) (H : X.l_szTerrain p0 p1 = some r) : FK 48 [.agg (eTTerrain p0), cI p1] (cI r) := by
 unfold X.l_szTerrain at H
 refine fi Tryd.f48 l_szTerrain_ir [(4, cI r)] [] glL Tryd.func48 ?_
 refine sn [] [] [(2, pk 2)] [] [(2, va (eTTerrain p0))] id ?_
 refine so [] [] [(1, cI (W (p1 - (p0.Name.length : Int)))), (2, pk 2)] [(2, va (eTTerrain p0))] id ?_
 refine seq_in ?_
 refine sn [] [] [(11, cB (decide ((W (p1 - (p0.Name.length : Int))) < 0)))] [] [] id ?_
 rcases oC H with ⟨c2, H⟩ | ⟨c2, H⟩
 ·refine it c2 ?_
  refine so [] [] [(4, cI (-1))] [] id ?_
  cases H
  exact er
 ·refine jf c2 ?_
  refine sk ?_
  obtain ⟨v3, h4, H⟩ := oB H
  refine so [.res (cI v3)] [] [(1, cI v3)] [] (aI (l_szIntS_ok p0.Cost (W (p1 - (p0.Name.length : Int))) v3 h4)) ?_
  refine seq_in ?_
  refine sn [] [] [(17, cB (decide (v3 < 0)))] [] [] id ?_
  rcases oC H with ⟨c5, H⟩ | ⟨c5, H⟩
  ·refine it c5 ?_
   refine so [] [] [(4, cI (-1))] [] id ?_
   cases H
   exact er
  ·refine jf c5 ?_
   refine sk ?_
   refine so [] [] [(4, cI v3)] [] id ?_
   cases H
   exact er
def l_szTerrainS_ir : S :=
 (sq [o 4 (.mv (iv 0))]
 (sq [om 6 1, om 7 0, o 8 (.len (.t 7)), o 9 (.bin .sub (.t 6) (.t 8)), om 1 9]
 (.seq (sq [om 10 1, o 11 (.bin .lss (.t 10) (iv 0))]
 (.ite (.t 11) (sq [o 4 (.mv (.v (.int .i64 (-1))))]
  .ret)
 .skip))
 (.seq (sq [o 5 (.mv (iv 0))]
 (.blk 0 (.loop (.seq (sq [om 12 5, om 13 0, o 14 (.len (.t 13)), o 15 (.bin .lss (.t 12) (.t 14))]
   (.ite (.t 15) .skip
   (.exit 0)))
   (.seq (.blk 1 (sq [om 18 0, om 19 5, o 20 (.iad 5 (.t 18) (.t 19)), o 21 (.load 5 true (.t 20)), om 22 1, o 23 (.call 48 [.t 21, .t 22]), om 1 23]
    (sq [om 24 1, o 25 (.bin .lss (.t 24) (iv 0))]
    (.ite (.t 25) (sq [o 4 (.mv (.v (.int .i64 (-1))))]
     .ret)
    .skip))))
   (.ops [om 16 5, o 17 (.bin .add (.t 16) (iv 1)), om 5 17]))))))
 (sq [om 26 1, om 4 26]
 .ret)))))
noncomputable def X.l_szTerrainS (p0 : (List TTerrain)) (p1 : Int) : Option Int :=
 (bif (decide ((W (p1 - (p0.length : Int))) < 0)) then some (-1) else ((loop (fun (x18 : (Int × Int)) => ((bif (decide (x18.2 < (p0.length : Int))) then ((at' zTTerrain p0 x18.2).bind fun v21 => ((X.l_szTerrain v21 x18.1).bind fun v23 => (bif (decide (v23 < 0)) then some (Sum.inr (Sum.inr (-1))) else some (Sum.inl (v23, (W (x18.2 + 1))))))) else some (Sum.inr (Sum.inl x18.1))) : Option ((Int × Int) ⊕ (Int ⊕ Int)))) ((W (p1 - (p0.length : Int))), 0)).bind fun y26 => (Sum.elim (fun (y28 : Int) => some y28) (fun (y29 : Int) => some y29) y26)))
theorem l_szTerrainS_ok (p0 : (List TTerrain)) (p1 : Int) (r : Int) (H : X.l_szTerrainS p0 p1 = some r) : FK 29 [.c (dat 5 eTTerrain zTTerrain p0), cI p1] (cI r) := by
 unfold X.l_szTerrainS at H
 refine fi Tryd.f29 l_szTerrainS_ir [(4, cI r)] [] glL Tryd.func29 ?_
 refine sn [] [] [] [] [] id ?_
 refine so [] [] [(0, dc 5 eTTerrain zTTerrain p0), (1, cI (W (p1 - (p0.length : Int))))] [] (fun t => lI p0 (t)) ?_
 refine seq_in ?_
 refine sn [] [] [(11, cB (decide ((W (p1 - (p0.length : Int))) < 0)))] [] [] id ?_
 rcases oC H with ⟨c2, H⟩ | ⟨c2, H⟩
 ·refine it c2 ?_
  refine so [] [] [(4, cI (-1))] [] id ?_
  cases H
  exact er
 ·refine jf c2 ?_
  refine sk ?_
  refine seq_in ?_
  refine sn [] [] [(5, cI 0)] [] [] id ?_
  refine ends_blk ?_
  obtain ⟨y26, h27, H⟩ := oB H
  refine tl [] [(0, dc 5 eTTerrain zTTerrain p0), (1, cI (W (p1 - (p0.length : Int)))), (5, cI 0)] [] id ?_
  refine loop_in (fun (x : (Int × Int)) => lit [(0, dc 5 eTTerrain zTTerrain p0), (1, cI x.1), (5, cI x.2)] []) (orJ (fun (z : Int) => At (.exit 0) (lit [(1, cI z)] [])) (fun (z : Int) => At .ret (lit [(4, cI z)] []))) h27 ?_ ?_
  ·clear H h27
   intro x18 y0 H
   refine seq_in ?_
   refine sn [] [] [(15, cB (decide (x18.2 < (p0.length : Int))))] [] [] (fun t => lI p0 (t)) ?_
   rcases oC H with ⟨c20, H⟩ | ⟨c20, H⟩
   ·refine it c20 ?_
    refine sk ?_
    refine seq_in ?_
    refine ends_blk ?_
    obtain ⟨v21, h22, H⟩ := oB H
    obtain ⟨v23, h24, H⟩ := oB H
    refine so [.cs (eTTerrain v21), .res (cI v23)] [] [(0, dc 5 eTTerrain zTTerrain p0), (1, cI v23), (5, cI x18.2)] [] (fun t => (a2 eTTerrain h22 (aI (l_szTerrain_ok v21 x18.1 v23 h24) (t)))) ?_
    refine sn [] [] [(25, cB (decide (v23 < 0)))] [] [] id ?_
    rcases oC H with ⟨c25, H⟩ | ⟨c25, H⟩
    ·refine it c25 ?_
     refine so [] [] [(4, cI (-1))] [] id ?_
     refine ends_ret ?_
     cases H
     exact rsr
    ·refine jf c25 ?_
     refine sk ?_
     refine oo [] [] [(0, dc 5 eTTerrain zTTerrain p0), (1, cI v23), (5, cI (W (x18.2 + 1)))] [] id ?_
     cases H
     exact rr
   ·refine jf c20 ?_
    refine tl [] [(1, cI x18.1)] [] id ?_
    refine ends_exit ?_
    cases H
    exact rse
  ·clear h27
   cases y26 with
   | inl y28 =>
    replace H := ofInl H
    rintro e s ⟨rfl, rfl⟩
    change EndsI _ _ _ _ _ _
    refine so [] [] [(4, cI y28)] [] id ?_
    cases H
    exact er
   | inr y29 =>
    replace H := ofInr H
    rintro e s ⟨rfl, rfl⟩
    cases H
    exact qr
def l_szKind_ir : S :=
 (sq [o 2 (.box 6 (.t 0)), o 4 (.mv (iv 0))]
 (sq [om 5 1, oa 6 0 2, ol 7 6, o 8 (.lens (.t 7)), o 9 (.bin .sub (.t 5) (.t 8)), om 1 9]
 (.seq (sq [om 10 1, o 11 (.bin .lss (.t 10) (iv 0))]
 (.ite (.t 11) (sq [o 4 (.mv (.v (.int .i64 (-1))))]
  .ret)
 .skip))
 (sq [om 12 1, om 4 12]
 .ret))))
noncomputable def X.l_szKind (p0 : TKind) (p1 : Int) : Option Int :=
 (bif (decide ((W (p1 - (p0.Name.length : Int))) < 0)) then some (-1) else some (W (p1 - (p0.Name.length : Int))))
theorem l_szKind_ok (p0 : TKind) (p1 : Int) (r : Int) (H : X.l_szKind p0 p1 = some r) : FK 49 [.agg (eTKind p0), cI p1] (cI r) := by
 unfold X.l_szKind at H
 refine fi Tryd.f49 l_szKind_ir [(4, cI r)] [] glL Tryd.func49 ?_
 refine sn [] [] [(2, pk 2)] [] [(2, va (eTKind p0))] id ?_
 refine so [] [] [(1, cI (W (p1 - (p0.Name.length : Int))))] [] id ?_
 refine seq_in ?_
 refine sn [] [] [(11, cB (decide ((W (p1 - (p0.Name.length : Int))) < 0)))] [] [] id ?_
 rcases oC H with ⟨c1, H⟩ | ⟨c1, H⟩
 ·refine it c1 ?_
  refine so [] [] [(4, cI (-1))] [] id ?_
  cases H
  exact er
 ·refine jf c1 ?_
  refine sk ?_
  refine so [] [] [(4, cI (W (p1 - (p0.Name.length : Int))))] [] id ?_
  cases H
  exact er
def l_szKindS_ir : S :=
 (sq [o 4 (.mv (iv 0))]
 (sq [om 6 1, om 7 0, o 8 (.len (.t 7)), o 9 (.bin .sub (.t 6) (.t 8)), om 1 9]
 (.seq (sq [om 10 1, o 11 (.bin .lss (.t 10) (iv 0))]
 (.ite (.t 11) (sq [o 4 (.mv (.v (.int .i64 (-1))))]
  .ret)
 .skip))
 (.seq (sq [o 5 (.mv (iv 0))]
 (.blk 0 (.loop (.seq (sq [om 12 5, om 13 0, o 14 (.len (.t 13)), o 15 (.bin .lss (.t 12) (.t 14))]
   (.ite (.t 15) .skip
   (.exit 0)))
   (.seq (.blk 1 (sq [om 18 0, om 19 5, o 20 (.iad 6 (.t 18) (.t 19)), o 21 (.load 6 true (.t 20)), om 22 1, o 23 (.call 49 [.t 21, .t 22]), om 1 23]
    (sq [om 24 1, o 25 (.bin .lss (.t 24) (iv 0))]
    (.ite (.t 25) (sq [o 4 (.mv (.v (.int .i64 (-1))))]
     .ret)
    .skip))))
   (.ops [om 16 5, o 17 (.bin .add (.t 16) (iv 1)), om 5 17]))))))
 (sq [om 26 1, om 4 26]
 .ret)))))
noncomputable def X.l_szKindS (p0 : (List TKind)) (p1 : Int) : Option Int :=
 (bif (decide ((W (p1 - (p0.length : Int))) < 0)) then some (-1) else ((loop (fun (x18 : (Int × Int)) => ((bif (decide (x18.2 < (p0.length : Int))) then ((at' zTKind p0 x18.2).bind fun v21 => ((X.l_szKind v21 x18.1).bind fun v23 => (bif (decide (v23 < 0)) then some (Sum.inr (Sum.inr (-1))) else some (Sum.inl (v23, (W (x18.2 + 1))))))) else some (Sum.inr (Sum.inl x18.1))) : Option ((Int × Int) ⊕ (Int ⊕ Int)))) ((W (p1 - (p0.length : Int))), 0)).bind fun y26 => (Sum.elim (fun (y28 : Int) => some y28) (fun (y29 : Int) => some y29) y26)))
theorem l_szKindS_ok (p0 : (List TKind)) (p1 : Int) (r : Int) (H : X.l_szKindS p0 p1 = some r) : FK 30 [.c (dat 6 eTKind zTKind p0), cI p1] (cI r) := by
 unfold X.l_szKindS at H
 refine fi Tryd.f30 l_szKindS_ir [(4, cI r)] [] glL Tryd.func30 ?_
 refine sn [] [] [] [] [] id ?_
 refine so [] [] [(0, dc 6 eTKind zTKind p0), (1, cI (W (p1 - (p0.length : Int))))] [] (fun t => lI p0 (t)) ?_
 refine seq_in ?_
 refine sn [] [] [(11, cB (decide ((W (p1 - (p0.length : Int))) < 0)))] [] [] id ?_
 rcases oC H with ⟨c2, H⟩ | ⟨c2, H⟩
 ·refine it c2 ?_
  refine so [] [] [(4, cI (-1))] [] id ?_
  cases H
  exact er
 ·refine jf c2 ?_
  refine sk ?_
  refine seq_in ?_
  refine sn [] [] [(5, cI 0)] [] [] id ?_
  refine ends_blk ?_
  obtain ⟨y26, h27, H⟩ := oB H
  refine tl [] [(0, dc 6 eTKind zTKind p0), (1, cI (W (p1 - (p0.length : Int)))), (5, cI 0)] [] id ?_
  refine loop_in (fun (x : (Int × Int)) => lit [(0, dc 6 eTKind zTKind p0), (1, cI x.1), (5, cI x.2)] []) (orJ (fun (z : Int) => At (.exit 0) (lit [(1, cI z)] [])) (fun (z : Int) => At .ret (lit [(4, cI z)] []))) h27 ?_ ?_
  ·clear H h27
   intro x18 y0 H
   refine seq_in ?_
   refine sn [] [] [(15, cB (decide (x18.2 < (p0.length : Int))))] [] [] (fun t => lI p0 (t)) ?_
   rcases oC H with ⟨c20, H⟩ | ⟨c20, H⟩
   ·refine it c20 ?_
    refine sk ?_
    refine seq_in ?_
    refine ends_blk ?_
    obtain ⟨v21, h22, H⟩ := oB H
    obtain ⟨v23, h24, H⟩ := oB H
    refine so [.cs (eTKind v21), .res (cI v23)] [] [(0, dc 6 eTKind zTKind p0), (1, cI v23), (5, cI x18.2)] [] (fun t => (a2 eTKind h22 (aI (l_szKind_ok v21 x18.1 v23 h24) (t)))) ?_
    refine sn [] [] [(25, cB (decide (v23 < 0)))] [] [] id ?_
    rcases oC H with ⟨c25, H⟩ | ⟨c25, H⟩
    ·refine it c25 ?_
     refine so [] [] [(4, cI (-1))] [] id ?_
     refine ends_ret ?_
     cases H
     exact rsr
    ·refine jf c25 ?_
     refine sk ?_
     refine oo [] [] [(0, dc 6 eTKind zTKind p0), (1, cI v23), (5, cI (W (x18.2 + 1)))] [] id ?_
     cases H
     exact rr
   ·refine jf c20 ?_
    refine tl [] [(1, cI x18.1)] [] id ?_
    refine ends_exit ?_
    cases H
    exact rse
  ·clear h27
   cases y26 with
   | inl y28 =>
    replace H := ofInl H
    rintro e s ⟨rfl, rfl⟩
    change EndsI _ _ _ _ _ _
    refine so [] [] [(4, cI y28)] [] id ?_
    cases H
    exact er
   | inr y29 =>
    replace H := ofInr H
    rintro e s ⟨rfl, rfl⟩
    cases H
    exact qr
def l_szRules_ir : S :=
 (sq [o 2 (.box 7 (.t 0)), o 4 (.mv (iv 0))]
 (sq [oa 5 0 2, ol 6 5, om 7 1, o 8 (.call 29 [.t 6, .t 7]), om 1 8]
 (.seq (sq [om 9 1, o 10 (.bin .lss (.t 9) (iv 0))]
 (.ite (.t 10) (sq [o 4 (.mv (.v (.int .i64 (-1))))]
  .ret)
 .skip))
 (sq [oa 11 1 2, ol 12 11, om 13 1, o 14 (.call 30 [.t 12, .t 13]), om 1 14]
 (.seq (sq [om 15 1, o 16 (.bin .lss (.t 15) (iv 0))]
 (.ite (.t 16) (sq [o 4 (.mv (.v (.int .i64 (-1))))]
  .ret)
 .skip))
 (sq [om 17 1, om 4 17]
 .ret))))))
noncomputable def X.l_szRules (p0 : TRules) (p1 : Int) : Option Int :=
 ((X.l_szTerrainS p0.Terrains p1).bind fun v1 => (bif (decide (v1 < 0)) then some (-1) else ((X.l_szKindS p0.Kinds v1).bind fun v5 => (bif (decide (v5 < 0)) then some (-1) else some v5))))
theorem l_szRules_ok (p0 : TRules) (p1 : Int) (r : Int) (H : X.l_szRules p0 p1 = some r) : FK 13 [.agg (eTRules p0), cI p1] (cI r) := by
 unfold X.l_szRules at H
 refine fi Tryd.f13 l_szRules_ir [(4, cI r)] [] glL Tryd.func13 ?_
 refine sn [] [] [(2, pk 2)] [] [(2, va (eTRules p0))] id ?_
 obtain ⟨v1, h2, H⟩ := oB H
 refine so [.res (cI v1)] [] [(1, cI v1), (2, pk 2)] [(2, va (eTRules p0))] (aI (l_szTerrainS_ok p0.Terrains p1 v1 h2)) ?_
 refine seq_in ?_
 refine sn [] [] [(10, cB (decide (v1 < 0)))] [] [] id ?_
 rcases oC H with ⟨c4, H⟩ | ⟨c4, H⟩
 ·refine it c4 ?_
  refine so [] [] [(4, cI (-1))] [] id ?_
  cases H
  exact er
 ·refine jf c4 ?_
  refine sk ?_
  obtain ⟨v5, h6, H⟩ := oB H
  refine so [.res (cI v5)] [] [(1, cI v5)] [] (aI (l_szKindS_ok p0.Kinds v1 v5 h6)) ?_
  refine seq_in ?_
  refine sn [] [] [(16, cB (decide (v5 < 0)))] [] [] id ?_
  rcases oC H with ⟨c7, H⟩ | ⟨c7, H⟩
  ·refine it c7 ?_
   refine so [] [] [(4, cI (-1))] [] id ?_
   cases H
   exact er
  ·refine jf c7 ?_
   refine sk ?_
   refine so [] [] [(4, cI v5)] [] id ?_
   cases H
   exact er
def l_szMap_ir : S :=
 (sq [o 2 (.box 5 (.t 0)), o 4 (.mv (iv 0))]
 (sq [oa 5 2 2, ol 6 5, om 7 1, o 8 (.call 31 [.t 6, .t 7]), om 1 8]
 (.seq (sq [om 9 1, o 10 (.bin .lss (.t 9) (iv 0))]
 (.ite (.t 10) (sq [o 4 (.mv (.v (.int .i64 (-1))))]
  .ret)
 .skip))
 (sq [oa 11 3 2, ol 12 11, om 13 1, o 14 (.call 31 [.t 12, .t 13]), om 1 14]
 (.seq (sq [om 15 1, o 16 (.bin .lss (.t 15) (iv 0))]
 (.ite (.t 16) (sq [o 4 (.mv (.v (.int .i64 (-1))))]
  .ret)
 .skip))
 (sq [oa 17 4 2, ol 18 17, om 19 1, o 20 (.call 31 [.t 18, .t 19]), om 1 20]
 (.seq (sq [om 21 1, o 22 (.bin .lss (.t 21) (iv 0))]
 (.ite (.t 22) (sq [o 4 (.mv (.v (.int .i64 (-1))))]
  .ret)
 .skip))
 (sq [om 23 1, om 4 23]
 .ret))))))))
noncomputable def X.l_szMap (p0 : TMap) (p1 : Int) : Option Int :=
 ((X.l_szIntS p0.Terrain p1).bind fun v1 => (bif (decide (v1 < 0)) then some (-1) else ((X.l_szIntS p0.Rivers v1).bind fun v5 => (bif (decide (v5 < 0)) then some (-1) else ((X.l_szIntS p0.Roads v5).bind fun v9 => (bif (decide (v9 < 0)) then some (-1) else some v9))))))
theorem l_szMap_ok (p0 : TMap) (p1 : Int) (r : Int) (H : X.l_szMap p0 p1 = some r) : FK 14 [.agg (eTMap p0), cI p1] (cI r) := by
 unfold X.l_szMap at H
 refine fi Tryd.f14 l_szMap_ir [(4, cI r)] [] glL Tryd.func14 ?_
 refine sn [] [] [(2, pk 2)] [] [(2, va (eTMap p0))] id ?_
 obtain ⟨v1, h2, H⟩ := oB H
 refine so [.res (cI v1)] [] [(1, cI v1), (2, pk 2)] [(2, va (eTMap p0))] (aI (l_szIntS_ok p0.Terrain p1 v1 h2)) ?_
 refine seq_in ?_
 refine sn [] [] [(10, cB (decide (v1 < 0)))] [] [] id ?_
 rcases oC H with ⟨c4, H⟩ | ⟨c4, H⟩
 ·refine it c4 ?_
  refine so [] [] [(4, cI (-1))] [] id ?_
  cases H
  exact er
 ·refine jf c4 ?_
  refine sk ?_
  obtain ⟨v5, h6, H⟩ := oB H
  refine so [.res (cI v5)] [] [(1, cI v5), (2, pk 2)] [(2, va (eTMap p0))] (aI (l_szIntS_ok p0.Rivers v1 v5 h6)) ?_
  refine seq_in ?_
  refine sn [] [] [(16, cB (decide (v5 < 0)))] [] [] id ?_
  rcases oC H with ⟨c8, H⟩ | ⟨c8, H⟩
  ·refine it c8 ?_
   refine so [] [] [(4, cI (-1))] [] id ?_
   cases H
   exact er
  ·refine jf c8 ?_
   refine sk ?_
   obtain ⟨v9, h10, H⟩ := oB H
   refine so [.res (cI v9)] [] [(1, cI v9)] [] (aI (l_szIntS_ok p0.Roads v5 v9 h10)) ?_
   refine seq_in ?_
   refine sn [] [] [(22, cB (decide (v9 < 0)))] [] [] id ?_
   rcases oC H with ⟨c11, H⟩ | ⟨c11, H⟩
   ·refine it c11 ?_
    refine so [] [] [(4, cI (-1))] [] id ?_
    cases H
    exact er
   ·refine jf c11 ?_
    refine sk ?_
    refine so [] [] [(4, cI v9)] [] id ?_
    cases H
    exact er
def l_szBoard_ir : S :=
 (sq [o 2 (.box 12 (.t 0)), o 4 (.mv (iv 0))]
 (sq [oa 5 0 2, o 6 (.load 7 true (.t 5)), om 7 1, o 8 (.call 13 [.t 6, .t 7]), om 1 8]
 (.seq (sq [om 9 1, o 10 (.bin .lss (.t 9) (iv 0))]
 (.ite (.t 10) (sq [o 4 (.mv (.v (.int .i64 (-1))))]
  .ret)
 .skip))
 (sq [oa 11 7 2, o 12 (.load 5 true (.t 11)), om 13 1, o 14 (.call 14 [.t 12, .t 13]), om 1 14]
 (.seq (sq [om 15 1, o 16 (.bin .lss (.t 15) (iv 0))]
 (.ite (.t 16) (sq [o 4 (.mv (.v (.int .i64 (-1))))]
  .ret)
 .skip))
 (sq [om 17 1, om 4 17]
 .ret))))))
noncomputable def X.l_szBoard (p0 : TBoard) (p1 : Int) : Option Int :=
 ((X.l_szRules p0.Rules p1).bind fun v1 => (bif (decide (v1 < 0)) then some (-1) else ((X.l_szMap p0.Map v1).bind fun v5 => (bif (decide (v5 < 0)) then some (-1) else some v5))))
theorem l_szBoard_ok (p0 : TBoard) (p1 : Int) (r : Int) (H : X.l_szBoard p0 p1 = some r) : FK 4 [.agg (eTBoard p0), cI p1] (cI r) := by
 unfold X.l_szBoard at H
 refine fi Tryd.f4 l_szBoard_ir [(4, cI r)] [] glL Tryd.func4 ?_
 refine sn [] [] [(2, pk 2)] [] [(2, va (eTBoard p0))] id ?_
 obtain ⟨v1, h2, H⟩ := oB H
 refine so [.res (cI v1)] [] [(1, cI v1), (2, pk 2)] [(2, va (eTBoard p0))] (aI (l_szRules_ok p0.Rules p1 v1 h2)) ?_
 refine seq_in ?_
 refine sn [] [] [(10, cB (decide (v1 < 0)))] [] [] id ?_
 rcases oC H with ⟨c4, H⟩ | ⟨c4, H⟩
 ·refine it c4 ?_
  refine so [] [] [(4, cI (-1))] [] id ?_
  cases H
  exact er
 ·refine jf c4 ?_
  refine sk ?_
  obtain ⟨v5, h6, H⟩ := oB H
  refine so [.res (cI v5)] [] [(1, cI v5)] [] (aI (l_szMap_ok p0.Map v1 v5 h6)) ?_
  refine seq_in ?_
  refine sn [] [] [(16, cB (decide (v5 < 0)))] [] [] id ?_
  rcases oC H with ⟨c7, H⟩ | ⟨c7, H⟩
  ·refine it c7 ?_
   refine so [] [] [(4, cI (-1))] [] id ?_
   cases H
   exact er
  ·refine jf c7 ?_
   refine sk ?_
   refine so [] [] [(4, cI v5)] [] id ?_
   cases H
   exact er
def s_l1In_ir : S :=
 (sq [o 6 (.mv bF)]
 (sq [om 7 0, om 8 1, o 9 (.bin .geq (.t 7) (.t 8)), om 10 9, oh 11 (.mv (.t 0)) 10, oh 12 (.mv (.t 2)) 10, oh 13 (.bin .leq (.t 11) (.t 12)) 10, o 14 (.pick (.t 10) (.t 13) bF), om 6 14]
 .ret))
noncomputable def X.s_l1In (p0 : Int) (p1 : Int) (p2 : Int) : Option Bool :=
 (bif (decide (p0 ≥ p1)) then some (decide (p0 ≤ p2)) else some false)
theorem s_l1In_ok (p0 : Int) (p1 : Int) (p2 : Int) (r : Bool) (H : X.s_l1In p0 p1 p2 = some r) : FK 50 [cI p0, cI p1, cI p2] (cB r) := by
 unfold X.s_l1In at H
 refine fi Tryd.f50 s_l1In_ir [(6, cB r)] [] glL Tryd.func50 ?_
 refine sn [] [] [] [] [] id ?_
 rcases oC H with ⟨c1, H⟩ | ⟨c1, H⟩
 ·refine so (rg 4 true []) [] [(6, cB (decide (p0 ≤ p2)))] [] (fun t => aG 4 c1 (t)) ?_
  cases H
  exact er
 ·refine so (rg 4 false []) [] [(6, cB false)] [] (fun t => aG 4 c1 (t)) ?_
  cases H
  exact er
def s_l1All_ir : S :=
 (sq [o 6 (.mv bF)]
 (.seq (sq [om 9 0, o 10 (.len (.t 9)), o 11 (.mv (iv 0))]
 (.blk 0 (.loop (sq [o 12 (.bin .lss (.t 11) (.t 10))]
   (.seq (.ite (.t 12) .skip
   (.exit 0))
   (.seq (.blk 1 (sq [o 13 (.iad 1 (.t 9) (.t 11)), ol 14 13, om 8 14]
    (sq [om 15 8, om 16 1, om 17 2, o 18 (.call 50 [.t 15, .t 16, .t 17]), o 19 (.not (.t 18))]
    (.ite (.t 19) (sq [o 6 (.mv bF)]
     .ret)
    .skip))))
   (.ops [o 20 (.bin .add (.t 11) (iv 1)), om 11 20])))))))
 (sq [o 6 (.mv bT)]
 .ret)))
noncomputable def X.s_l1All (p0 : (List Int)) (p1 : Int) (p2 : Int) : Option Bool :=
 ((loop (fun (x16 : Int) => ((bif (decide (x16 < (p0.length : Int))) then ((at' zI p0 x16).bind fun v19 => ((X.s_l1In v19 p1 p2).bind fun v21 => (bif (!v21) then some (Sum.inr (Sum.inr false)) else some (Sum.inl (W (x16 + 1)))))) else some (Sum.inr (Sum.inl ()))) : Option (Int ⊕ (Unit ⊕ Bool)))) 0).bind fun y24 => (Sum.elim (fun (y26 : Unit) => some true) (fun (y27 : Bool) => some y27) y24))
theorem s_l1All_ok (p0 : (List Int)) (p1 : Int) (p2 : Int) (r : Bool) (H : X.s_l1All p0 p1 p2 = some r) : FK 34 [.c (dat 1 eI zI p0), cI p1, cI p2] (cB r) := by
 unfold X.s_l1All at H
 refine fi Tryd.f34 s_l1All_ir [(6, cB r)] [] glL Tryd.func34 ?_
 refine sn [] [] [] [] [] id ?_
 refine seq_in ?_
 refine sn [] [] [(9, dc 1 eI zI p0), (10, cL p0), (11, cI 0)] [] [] (fun t => lI p0 (t)) ?_
 refine ends_blk ?_
 obtain ⟨y24, h25, H⟩ := oB H
 refine tl [] [(1, cI p1), (2, cI p2), (9, dc 1 eI zI p0), (10, cL p0), (11, cI 0)] [] id ?_
 refine loop_in (fun (x : Int) => lit [(1, cI p1), (2, cI p2), (9, dc 1 eI zI p0), (10, cL p0), (11, cI x)] []) (orJ (fun (z : Unit) => At (.exit 0) (lit [] [])) (fun (z : Bool) => At .ret (lit [(6, cB z)] []))) h25 ?_ ?_
 ·clear H h25
  intro x16 y0 H
  refine sn [] [] [(12, cB (decide (x16 < (p0.length : Int))))] [] [] id ?_
  refine seq_in ?_
  rcases oC H with ⟨c18, H⟩ | ⟨c18, H⟩
  ·refine it c18 ?_
   refine sk ?_
   refine seq_in ?_
   refine ends_blk ?_
   obtain ⟨v19, h20, H⟩ := oB H
   refine sn [.cs (eI v19)] [] [(8, cI v19)] [] [] (a2 eI h20) ?_
   obtain ⟨v21, h22, H⟩ := oB H
   refine sn [.res (cB v21)] [] [(19, cB (!v21))] [] [] (aI (s_l1In_ok v19 p1 p2 v21 h22)) ?_
   rcases oC H with ⟨c23, H⟩ | ⟨c23, H⟩
   ·refine it c23 ?_
    refine so [] [] [(6, cB false)] [] id ?_
    refine ends_ret ?_
    cases H
    exact rsr
   ·refine jf c23 ?_
    refine sk ?_
    refine oo [] [] [(1, cI p1), (2, cI p2), (9, dc 1 eI zI p0), (10, cL p0), (11, cI (W (x16 + 1)))] [] id ?_
    cases H
    exact rr
  ·refine jf c18 ?_
   refine tl [] [] [] id ?_
   refine ends_exit ?_
   cases H
   exact rse
 ·clear h25
  cases y24 with
  | inl y26 =>
   replace H := ofInl H
   rintro e s ⟨rfl, rfl⟩
   change EndsI _ _ _ _ _ _
   refine so [] [] [(6, cB true)] [] id ?_
   cases H
   exact er
  | inr y27 =>
   replace H := ofInr H
   rintro e s ⟨rfl, rfl⟩
   cases H
   exact qr
def s_rName_ir : S :=
 (sq [o 2 (.mv bF)]
 (.seq (sq [o 3 (.mv (iv 0))]
 (.blk 0 (.loop (.seq (sq [om 4 3, om 5 0, o 6 (.lens (.t 5)), o 7 (.bin .lss (.t 4) (.t 6))]
   (.ite (.t 7) .skip
   (.exit 0)))
   (.seq (.blk 1 (sq [om 10 0, om 11 3, o 12 (.ixs (.t 10) (.t 11)), o 13 (.bin .lss (.t 12) (.v (.int .u8 97))), om 14 13, og 15 (.mv (.t 0)) 14, og 16 (.mv (.t 3)) 14, og 17 (.ixs (.t 15) (.t 16)) 14, og 18 (.bin .gtr (.t 17) (.v (.int .u8 122))) 14, o 19 (.pick (.t 14) bT (.t 18))]
    (.ite (.t 19) (sq [o 2 (.mv bF)]
     .ret)
    .skip)))
   (.ops [om 8 3, o 9 (.bin .add (.t 8) (iv 1)), om 3 9]))))))
 (sq [om 20 0, o 21 (.lens (.t 20)), o 22 (.call 50 [.t 21, .v (.int .i64 1), .v (.int .i64 8)]), om 2 22]
 .ret)))
noncomputable def X.s_rName (p0 : (List UInt8)) : Option Bool :=
 ((loop (fun (x14 : Int) => ((bif (decide (x14 < (p0.length : Int))) then (if 0 ≤ x14 ∧ x14 < (p0.length : Int) then (bif (decide ((((p0.getD x14.toNat 0).toNat : Nat) : Int) < 97)) then some (Sum.inr (Sum.inr false)) else (if 0 ≤ x14 ∧ x14 < (p0.length : Int) then (bif (decide ((((p0.getD x14.toNat 0).toNat : Nat) : Int) > 122)) then some (Sum.inr (Sum.inr false)) else some (Sum.inl (W (x14 + 1)))) else none)) else none) else some (Sum.inr (Sum.inl ()))) : Option (Int ⊕ (Unit ⊕ Bool)))) 0).bind fun y21 => (Sum.elim (fun (y23 : Unit) => ((X.s_l1In (p0.length : Int) 1 8).bind fun v25 => some v25)) (fun (y24 : Bool) => some y24) y21))
theorem s_rName_ok (p0 : (List UInt8)) (r : Bool) (H : X.s_rName p0 = some r) : FK 51 [.c (.str p0)] (cB r) := by
 unfold X.s_rName at H
 refine fi Tryd.f51 s_rName_ir [(2, cB r)] [] glL Tryd.func51 ?_
 refine sn [] [] [] [] [] id ?_
 refine seq_in ?_
 refine sn [] [] [(3, cI 0)] [] [] id ?_
 refine ends_blk ?_
 obtain ⟨y21, h22, H⟩ := oB H
 refine tl [] [(0, .c (.str p0)), (3, cI 0)] [] id ?_
 refine loop_in (fun (x : Int) => lit [(0, .c (.str p0)), (3, cI x)] []) (orJ (fun (z : Unit) => At (.exit 0) (lit [(0, .c (.str p0))] [])) (fun (z : Bool) => At .ret (lit [(2, cB z)] []))) h22 ?_ ?_
 ·clear H h22
  intro x14 y0 H
  refine seq_in ?_
  refine sn [] [] [(7, cB (decide (x14 < (p0.length : Int))))] [] [] id ?_
  rcases oC H with ⟨c16, H⟩ | ⟨c16, H⟩
  ·refine it c16 ?_
   refine sk ?_
   refine seq_in ?_
   refine ends_blk ?_
   obtain ⟨g17, H⟩ := oI H
   rcases oC H with ⟨c18, H⟩ | ⟨c18, H⟩
   ·refine sn (rg 5 true []) [] [(19, cB true)] [] [] (fun t => aI g17 (aG 5 c18 (t))) ?_
    refine it rT ?_
    refine so [] [] [(2, cB false)] [] id ?_
    refine ends_ret ?_
    cases H
    exact rsr
   ·obtain ⟨g19, H⟩ := oI H
    refine sn (rg 5 false []) [] [(19, cB (decide ((((p0.getD x14.toNat 0).toNat : Nat) : Int) > 122)))] [] [] (fun t => aI g17 (aG 3 c18 (aI g19 (aG 2 c18 (t))))) ?_
    rcases oC H with ⟨c20, H⟩ | ⟨c20, H⟩
    ·refine it c20 ?_
     refine so [] [] [(2, cB false)] [] id ?_
     refine ends_ret ?_
     cases H
     exact rsr
    ·refine jf c20 ?_
     refine sk ?_
     refine oo [] [] [(0, .c (.str p0)), (3, cI (W (x14 + 1)))] [] id ?_
     cases H
     exact rr
  ·refine jf c16 ?_
   refine tl [] [(0, .c (.str p0))] [] id ?_
   refine ends_exit ?_
   cases H
   exact rse
 ·clear h22
  cases y21 with
  | inl y23 =>
   replace H := ofInl H
   rintro e s ⟨rfl, rfl⟩
   change EndsI _ _ _ _ _ _
   obtain ⟨v25, h26, H⟩ := oB H
   refine so [.res (cB v25)] [] [(2, cB v25)] [] (aI (s_l1In_ok (p0.length : Int) 1 8 v25 h26)) ?_
   cases H
   exact er
  | inr y24 =>
   replace H := ofInr H
   rintro e s ⟨rfl, rfl⟩
   cases H
   exact qr
def s_rTerrain_ir : S :=
 (sq [o 4 (.mv (iv 0))]
 (.seq (sq [om 7 0, o 8 (.len (.t 7)), o 9 (.mv (iv 0))]
 (.blk 0 (.loop (sq [o 10 (.bin .lss (.t 9) (.t 8))]
   (.seq (.ite (.t 10) .skip
   (.exit 0))
   (.seq (.blk 1 (sq [om 11 9, o 12 (.iad 5 (.t 7) (.t 9)), o 13 (.load 5 true (.t 12)), o 6 (.alloc [.str [], .nil, .int .i64 0, .int .i64 0, .bool false]), om 5 11, os 5 6 13]
    (sq [oa 14 0 6, ol 15 14, om 16 1, o 17 (.bin .eql (.t 15) (.t 16))]
    (.ite (.t 17) (sq [om 18 5, om 4 18]
     .ret)
    .skip))))
   (.ops [o 19 (.bin .add (.t 9) (iv 1)), om 9 19])))))))
 (sq [o 4 (.mv (.v (.int .i64 (-1))))]
 .ret)))
noncomputable def X.s_rTerrain (p0 : (List TTerrain)) (p1 : (List UInt8)) : Option Int :=
 ((loop (fun (x12 : Int) => ((bif (decide (x12 < (p0.length : Int))) then ((at' zTTerrain p0 x12).bind fun v15 => (bif (v15.Name == p1) then some (Sum.inr (Sum.inr x12)) else some (Sum.inl (W (x12 + 1))))) else some (Sum.inr (Sum.inl ()))) : Option (Int ⊕ (Unit ⊕ Int)))) 0).bind fun y18 => (Sum.elim (fun (y20 : Unit) => some (-1)) (fun (y21 : Int) => some y21) y18))
theorem s_rTerrain_ok (p0 : (List TTerrain)) (p1 : (List UInt8)) (r : Int) (H : X.s_rTerrain p0 p1 = some r) : FK 52 [.c (dat 5 eTTerrain zTTerrain p0), .c (.str p1)] (cI r) := by
 unfold X.s_rTerrain at H
 refine fi Tryd.f52 s_rTerrain_ir [(4, cI r)] [] glL Tryd.func52 ?_
 refine sn [] [] [] [] [] id ?_
 refine seq_in ?_
 refine sn [] [] [(7, dc 5 eTTerrain zTTerrain p0), (8, cL p0), (9, cI 0)] [] [] (fun t => lI p0 (t)) ?_
 refine ends_blk ?_
 obtain ⟨y18, h19, H⟩ := oB H
 refine tl [] [(1, .c (.str p1)), (7, dc 5 eTTerrain zTTerrain p0), (8, cL p0), (9, cI 0)] [] id ?_
 refine loop_in (fun (x : Int) => lit [(1, .c (.str p1)), (7, dc 5 eTTerrain zTTerrain p0), (8, cL p0), (9, cI x)] []) (orJ (fun (z : Unit) => At (.exit 0) (lit [] [])) (fun (z : Int) => At .ret (lit [(4, cI z)] []))) h19 ?_ ?_
 ·clear H h19
  intro x12 y0 H
  refine sn [] [] [(10, cB (decide (x12 < (p0.length : Int))))] [] [] id ?_
  refine seq_in ?_
  rcases oC H with ⟨c14, H⟩ | ⟨c14, H⟩
  ·refine it c14 ?_
   refine sk ?_
   refine seq_in ?_
   refine ends_blk ?_
   obtain ⟨v15, h16, H⟩ := oB H
   refine sn [.cs (eTTerrain v15)] [] [(5, cI x12), (6, pk 6)] [] [(6, va (eTTerrain v15))] (a2 eTTerrain h16) ?_
   refine sn [] [] [(17, cB (v15.Name == p1))] [] [] id ?_
   rcases oC H with ⟨c17, H⟩ | ⟨c17, H⟩
   ·refine it c17 ?_
    refine so [] [] [(4, cI x12)] [] id ?_
    refine ends_ret ?_
    cases H
    exact rsr
   ·refine jf c17 ?_
    refine sk ?_
    refine oo [] [] [(1, .c (.str p1)), (7, dc 5 eTTerrain zTTerrain p0), (8, cL p0), (9, cI (W (x12 + 1)))] [] id ?_
    cases H
    exact rr
  ·refine jf c14 ?_
   refine tl [] [] [] id ?_
   refine ends_exit ?_
   cases H
   exact rse
 ·clear h19
  cases y18 with
  | inl y20 =>
   replace H := ofInl H
   rintro e s ⟨rfl, rfl⟩
   change EndsI _ _ _ _ _ _
   refine so [] [] [(4, cI (-1))] [] id ?_
   cases H
   exact er
  | inr y21 =>
   replace H := ofInr H
   rintro e s ⟨rfl, rfl⟩
   cases H
   exact qr
def s_rKind_ir : S :=
 (sq [o 4 (.mv (iv 0))]
 (.seq (sq [om 7 0, o 8 (.len (.t 7)), o 9 (.mv (iv 0))]
 (.blk 0 (.loop (sq [o 10 (.bin .lss (.t 9) (.t 8))]
   (.seq (.ite (.t 10) .skip
   (.exit 0))
   (.seq (.blk 1 (sq [om 11 9, o 12 (.iad 6 (.t 7) (.t 9)), o 13 (.load 6 true (.t 12)), o 6 (.alloc [.str [], .int .i64 0, .int .i64 0, .int .i64 0, .bool false, .int .i64 0]), om 5 11, os 6 6 13]
    (sq [oa 14 0 6, ol 15 14, om 16 1, o 17 (.bin .eql (.t 15) (.t 16))]
    (.ite (.t 17) (sq [om 18 5, om 4 18]
     .ret)
    .skip))))
   (.ops [o 19 (.bin .add (.t 9) (iv 1)), om 9 19])))))))
 (sq [o 4 (.mv (.v (.int .i64 (-1))))]
 .ret)))
noncomputable def X.s_rKind (p0 : (List TKind)) (p1 : (List UInt8)) : Option Int :=
 ((loop (fun (x12 : Int) => ((bif (decide (x12 < (p0.length : Int))) then ((at' zTKind p0 x12).bind fun v15 => (bif (v15.Name == p1) then some (Sum.inr (Sum.inr x12)) else some (Sum.inl (W (x12 + 1))))) else some (Sum.inr (Sum.inl ()))) : Option (Int ⊕ (Unit ⊕ Int)))) 0).bind fun y18 => (Sum.elim (fun (y20 : Unit) => some (-1)) (fun (y21 : Int) => some y21) y18))
theorem s_rKind_ok (p0 : (List TKind)) (p1 : (List UInt8)) (r : Int) (H : X.s_rKind p0 p1 = some r) : FK 53 [.c (dat 6 eTKind zTKind p0), .c (.str p1)] (cI r) := by
 unfold X.s_rKind at H
 refine fi Tryd.f53 s_rKind_ir [(4, cI r)] [] glL Tryd.func53 ?_
 refine sn [] [] [] [] [] id ?_
 refine seq_in ?_
 refine sn [] [] [(7, dc 6 eTKind zTKind p0), (8, cL p0), (9, cI 0)] [] [] (fun t => lI p0 (t)) ?_
 refine ends_blk ?_
 obtain ⟨y18, h19, H⟩ := oB H
 refine tl [] [(1, .c (.str p1)), (7, dc 6 eTKind zTKind p0), (8, cL p0), (9, cI 0)] [] id ?_
 refine loop_in (fun (x : Int) => lit [(1, .c (.str p1)), (7, dc 6 eTKind zTKind p0), (8, cL p0), (9, cI x)] []) (orJ (fun (z : Unit) => At (.exit 0) (lit [] [])) (fun (z : Int) => At .ret (lit [(4, cI z)] []))) h19 ?_ ?_
 ·clear H h19
  intro x12 y0 H
  refine sn [] [] [(10, cB (decide (x12 < (p0.length : Int))))] [] [] id ?_
  refine seq_in ?_
  rcases oC H with ⟨c14, H⟩ | ⟨c14, H⟩
  ·refine it c14 ?_
   refine sk ?_
   refine seq_in ?_
   refine ends_blk ?_
   obtain ⟨v15, h16, H⟩ := oB H
   refine sn [.cs (eTKind v15)] [] [(5, cI x12), (6, pk 6)] [] [(6, va (eTKind v15))] (a2 eTKind h16) ?_
   refine sn [] [] [(17, cB (v15.Name == p1))] [] [] id ?_
   rcases oC H with ⟨c17, H⟩ | ⟨c17, H⟩
   ·refine it c17 ?_
    refine so [] [] [(4, cI x12)] [] id ?_
    refine ends_ret ?_
    cases H
    exact rsr
   ·refine jf c17 ?_
    refine sk ?_
    refine oo [] [] [(1, .c (.str p1)), (7, dc 6 eTKind zTKind p0), (8, cL p0), (9, cI (W (x12 + 1)))] [] id ?_
    cases H
    exact rr
  ·refine jf c14 ?_
   refine tl [] [] [] id ?_
   refine ends_exit ?_
   cases H
   exact rse
 ·clear h19
  cases y18 with
  | inl y20 =>
   replace H := ofInl H
   rintro e s ⟨rfl, rfl⟩
   change EndsI _ _ _ _ _ _
   refine so [] [] [(4, cI (-1))] [] id ?_
   cases H
   exact er
  | inr y21 =>
   replace H := ofInr H
   rintro e s ⟨rfl, rfl⟩
   cases H
   exact qr
def s_rGood_ir : S :=
 (sq [o 1 (.box 7 (.t 0)), o 2 (.mv bF)]
 (.seq (sq [oa 7 0 1, ol 8 7, o 9 (.len (.t 8)), o 10 (.call 50 [.t 9, .v (.int .i64 1), .v (.int .i64 6)]), o 11 (.not (.t 10)), om 12 11, og 13 (.fad 1 (.t 1)) 12, og 14 (.load 1 false (.t 13)) 12, og 15 (.len (.t 14)) 12, og 16 (.call 50 [.t 15, .v (.int .i64 1), .v (.int .i64 4)]) 12, og 17 (.not (.t 16)) 12, o 18 (.pick (.t 12) bT (.t 17))]
 (.ite (.t 18) (sq [o 2 (.mv bF)]
  .ret)
 .skip))
 (.seq (sq [oa 19 0 1, ol 20 19, o 21 (.len (.t 20)), o 22 (.mv (iv 0))]
 (.blk 0 (.loop (sq [o 23 (.bin .lss (.t 22) (.t 21))]
   (.seq (.ite (.t 23) .skip
   (.exit 0))
   (.seq (.blk 1 (sq [om 24 22, o 25 (.iad 5 (.t 20) (.t 22)), o 26 (.load 5 true (.t 25)), o 4 (.alloc [.str [], .nil, .int .i64 0, .int .i64 0, .bool false]), om 3 24, os 5 4 26]
    (sq [oa 27 0 4, ol 28 27, o 29 (.call 51 [.t 28]), o 30 (.not (.t 29)), om 31 30, og 32 (.fad 0 (.t 1)) 31, og 33 (.load 1 false (.t 32)) 31, og 34 (.fad 0 (.t 4)) 31, og 35 (.load 1 false (.t 34)) 31, og 36 (.call 52 [.t 33, .t 35]) 31, og 37 (.mv (.t 3)) 31, og 38 (.bin .neq (.t 36) (.t 37)) 31, o 39 (.pick (.t 31) bT (.t 38)), om 40 39, og 41 (.fad 1 (.t 4)) 40, og 42 (.load 1 false (.t 41)) 40, og 43 (.len (.t 42)) 40, og 44 (.fad 1 (.t 1)) 40, og 45 (.load 1 false (.t 44)) 40, og 46 (.len (.t 45)) 40, og 47 (.bin .neq (.t 43) (.t 46)) 40, o 48 (.pick (.t 40) bT (.t 47)), om 49 48, og 50 (.fad 1 (.t 4)) 49, og 51 (.load 1 false (.t 50)) 49, og 52 (.call 34 [.t 51, .v (.int .i64 0), .v (.int .i64 9)]) 49, og 53 (.not (.t 52)) 49, o 54 (.pick (.t 49) bT (.t 53)), om 55 54, og 56 (.fad 2 (.t 4)) 55, og 57 (.load 1 false (.t 56)) 55, og 58 (.call 50 [.t 57, .v (.int .i64 (-3)), .v (.int .i64 3)]) 55, og 59 (.not (.t 58)) 55, o 60 (.pick (.t 55) bT (.t 59)), om 61 60, og 62 (.fad 3 (.t 4)) 61, og 63 (.load 1 false (.t 62)) 61, og 64 (.call 50 [.t 63, .v (.int .i64 0), .v (.int .i64 3)]) 61, og 65 (.not (.t 64)) 61, o 66 (.pick (.t 61) bT (.t 65))]
    (.ite (.t 66) (sq [o 2 (.mv bF)]
     .ret)
    .skip))))
   (.ops [o 67 (.bin .add (.t 22) (iv 1)), om 22 67])))))))
 (.seq (sq [oa 68 1 1, ol 69 68, o 70 (.len (.t 69)), o 71 (.mv (iv 0))]
 (.blk 2 (.loop (sq [o 72 (.bin .lss (.t 71) (.t 70))]
   (.seq (.ite (.t 72) .skip
   (.exit 2))
   (.seq (.blk 3 (sq [om 73 71, o 74 (.iad 6 (.t 69) (.t 71)), o 75 (.load 6 true (.t 74)), o 6 (.alloc [.str [], .int .i64 0, .int .i64 0, .int .i64 0, .bool false, .int .i64 0]), om 5 73, os 6 6 75]
    (sq [oa 76 0 6, ol 77 76, o 78 (.call 51 [.t 77]), o 79 (.not (.t 78)), om 80 79, og 81 (.fad 1 (.t 1)) 80, og 82 (.load 1 false (.t 81)) 80, og 83 (.fad 0 (.t 6)) 80, og 84 (.load 1 false (.t 83)) 80, og 85 (.call 53 [.t 82, .t 84]) 80, og 86 (.mv (.t 5)) 80, og 87 (.bin .neq (.t 85) (.t 86)) 80, o 88 (.pick (.t 80) bT (.t 87)), om 89 88, og 90 (.fad 1 (.t 6)) 89, og 91 (.load 1 false (.t 90)) 89, og 92 (.call 50 [.t 91, .v (.int .i64 1), .v (.int .i64 9)]) 89, og 93 (.not (.t 92)) 89, o 94 (.pick (.t 89) bT (.t 93)), om 95 94, og 96 (.fad 2 (.t 6)) 95, og 97 (.load 1 false (.t 96)) 95, og 98 (.call 50 [.t 97, .v (.int .i64 0), .v (.int .i64 9)]) 95, og 99 (.not (.t 98)) 95, o 100 (.pick (.t 95) bT (.t 99)), om 101 100, og 102 (.fad 3 (.t 6)) 101, og 103 (.load 1 false (.t 102)) 101, og 104 (.call 50 [.t 103, .v (.int .i64 1), .v (.int .i64 4)]) 101, og 105 (.not (.t 104)) 101, o 106 (.pick (.t 101) bT (.t 105)), om 107 106, og 108 (.fad 5 (.t 6)) 107, og 109 (.load 1 false (.t 108)) 107, og 110 (.call 50 [.t 109, .v (.int .i64 0), .v (.int .i64 4)]) 107, og 111 (.not (.t 110)) 107, o 112 (.pick (.t 107) bT (.t 111))]
    (.ite (.t 112) (sq [o 2 (.mv bF)]
     .ret)
    .skip))))
   (.ops [o 113 (.bin .add (.t 71) (iv 1)), om 71 113])))))))
 (sq [oa 114 2 1, ol 115 114, o 116 (.call 50 [.t 115, .v (.int .i64 1), .v (.int .i64 4)]), om 117 116, oh 118 (.fad 3 (.t 1)) 117, oh 119 (.load 1 false (.t 118)) 117, oh 120 (.call 50 [.t 119, .v (.int .i64 0), .v (.int .i64 9)]) 117, o 121 (.pick (.t 117) (.t 120) bF), om 122 121, oh 123 (.fad 4 (.t 1)) 122, oh 124 (.load 1 false (.t 123)) 122, oh 125 (.call 50 [.t 124, .v (.int .i64 1), .v (.int .i64 9)]) 122, o 126 (.pick (.t 122) (.t 125) bF), om 127 126, oh 128 (.fad 5 (.t 1)) 127, oh 129 (.load 1 false (.t 128)) 127, oh 130 (.call 50 [.t 129, .v (.int .i64 0), .v (.int .i64 20)]) 127, o 131 (.pick (.t 127) (.t 130) bF), om 132 131, oh 133 (.fad 6 (.t 1)) 132, oh 134 (.load 1 false (.t 133)) 132, oh 135 (.call 50 [.t 134, .v (.int .i64 1), .v (.int .i64 30)]) 132, o 136 (.pick (.t 132) (.t 135) bF), om 2 136]
 .ret)))))
noncomputable def X.s_rGood (p0 : TRules) : Option Bool :=
 ((X.s_l1In (p0.Terrains.length : Int) 1 6).bind fun v7 => (bif (!v7) then some false else ((X.s_l1In (p0.Kinds.length : Int) 1 4).bind fun v10 => (bif (!v10) then some false else ((loop (fun (x120 : Int) => ((bif (decide (x120 < (p0.Terrains.length : Int))) then ((at' zTTerrain p0.Terrains x120).bind fun v123 => ((X.s_rName v123.Name).bind fun v125 => (bif (!v125) then some (Sum.inr (Sum.inr false)) else ((X.s_rTerrain p0.Terrains v123.Name).bind fun v128 => (bif (v128 != x120) then some (Sum.inr (Sum.inr false)) else (bif ((v123.Cost.length : Int) != (p0.Kinds.length : Int)) then some (Sum.inr (Sum.inr false)) else ((X.s_l1All v123.Cost 0 9).bind fun v132 => (bif (!v132) then some (Sum.inr (Sum.inr false)) else ((X.s_l1In v123.Shift (-3) 3).bind fun v135 => (bif (!v135) then some (Sum.inr (Sum.inr false)) else ((X.s_l1In v123.Height 0 3).bind fun v138 => (bif (!v138) then some (Sum.inr (Sum.inr false)) else some (Sum.inl (W (x120 + 1))))))))))))))) else some (Sum.inr (Sum.inl ()))) : Option (Int ⊕ (Unit ⊕ Bool)))) 0).bind fun y141 => (Sum.elim (fun (y143 : Unit) => ((loop (fun (x262 : Int) => ((bif (decide (x262 < (p0.Kinds.length : Int))) then ((at' zTKind p0.Kinds x262).bind fun v265 => ((X.s_rName v265.Name).bind fun v267 => (bif (!v267) then some (Sum.inr (Sum.inr false)) else ((X.s_rKind p0.Kinds v265.Name).bind fun v270 => (bif (v270 != x262) then some (Sum.inr (Sum.inr false)) else ((X.s_l1In v265.Strength 1 9).bind fun v273 => (bif (!v273) then some (Sum.inr (Sum.inr false)) else ((X.s_l1In v265.Moves 0 9).bind fun v276 => (bif (!v276) then some (Sum.inr (Sum.inr false)) else ((X.s_l1In v265.Steps 1 4).bind fun v279 => (bif (!v279) then some (Sum.inr (Sum.inr false)) else ((X.s_l1In v265.View 0 4).bind fun v282 => (bif (!v282) then some (Sum.inr (Sum.inr false)) else some (Sum.inl (W (x262 + 1)))))))))))))))) else some (Sum.inr (Sum.inl ()))) : Option (Int ⊕ (Unit ⊕ Bool)))) 0).bind fun y285 => (Sum.elim (fun (y287 : Unit) => ((X.s_l1In p0.Stack 1 4).bind fun v289 => (bif v289 then ((X.s_l1In p0.River 0 9).bind fun v292 => (bif v292 then ((X.s_l1In p0.Road 1 9).bind fun v295 => (bif v295 then ((X.s_l1In p0.Supply 0 20).bind fun v298 => (bif v298 then ((X.s_l1In p0.Turns 1 30).bind fun v301 => some v301) else some false)) else some false)) else some false)) else some false))) (fun (y288 : Bool) => some y288) y285))) (fun (y144 : Bool) => some y144) y141))))))
theorem s_rGood_ok (p0 : TRules) (r : Bool) (H : X.s_rGood p0 = some r) : FK 32 [.agg (eTRules p0)] (cB r) := by
 unfold X.s_rGood at H
 refine fi Tryd.f32 s_rGood_ir [(2, cB r)] [] glL Tryd.func32 ?_
 refine so [] [] [(1, pk 1)] [(1, va (eTRules p0))] id ?_
 refine seq_in ?_
 obtain ⟨v7, h8, H⟩ := oB H
 rcases oC H with ⟨c9, H⟩ | ⟨c9, H⟩
 ·refine sn ([.res (cB v7)] ++ rg 6 true []) [] [(18, cB true)] [] [] (fun t => lI p0.Terrains (aI (s_l1In_ok (p0.Terrains.length : Int) 1 6 v7 h8) (aG 6 c9 (t)))) ?_
  refine it rT ?_
  refine so [] [] [(2, cB false)] [] id ?_
  cases H
  exact er
 ·obtain ⟨v10, h11, H⟩ := oB H
  refine sn ([.res (cB v7)] ++ rg 4 false ([.res (cB v10)] ++ rg 2 false [])) [] [(18, cB (!v10))] [] [] (fun t => lI p0.Terrains (aI (s_l1In_ok (p0.Terrains.length : Int) 1 6 v7 h8) (aG 3 c9 (lI p0.Kinds (aI c9 (aI (s_l1In_ok (p0.Kinds.length : Int) 1 4 v10 h11) (aG 2 c9 (t)))))))) ?_
  rcases oC H with ⟨c12, H⟩ | ⟨c12, H⟩
  ·refine it c12 ?_
   refine so [] [] [(2, cB false)] [] id ?_
   cases H
   exact er
  ·refine jf c12 ?_
   refine sk ?_
   refine seq_in ?_
   refine sn [] [] [(20, dc 5 eTTerrain zTTerrain p0.Terrains), (21, cL p0.Terrains), (22, cI 0)] [] [] (fun t => lI p0.Terrains (t)) ?_
   refine ends_blk ?_
   obtain ⟨y141, h142, H⟩ := oB H
   refine tl [] [(1, pk 1), (20, dc 5 eTTerrain zTTerrain p0.Terrains), (21, cL p0.Terrains), (22, cI 0)] [(1, va (eTRules p0))] id ?_
   refine loop_in (fun (x : Int) => lit [(1, pk 1), (20, dc 5 eTTerrain zTTerrain p0.Terrains), (21, cL p0.Terrains), (22, cI x)] [(1, va (eTRules p0))]) (orJ (fun (z : Unit) => At (.exit 0) (lit [(1, pk 1)] [(1, va (eTRules p0))])) (fun (z : Bool) => At .ret (lit [(2, cB z)] []))) h142 ?_ ?_
   ·clear H h142
    intro x120 y0 H
    refine sn [] [] [(23, cB (decide (x120 < (p0.Terrains.length : Int))))] [] [] id ?_
    refine seq_in ?_
    rcases oC H with ⟨c122, H⟩ | ⟨c122, H⟩
    ·refine it c122 ?_
     refine sk ?_
     refine seq_in ?_
     refine ends_blk ?_
     obtain ⟨v123, h124, H⟩ := oB H
     refine sn [.cs (eTTerrain v123)] [] [(3, cI x120), (4, pk 4)] [] [(4, va (eTTerrain v123))] (a2 eTTerrain h124) ?_
     obtain ⟨v125, h126, H⟩ := oB H
     rcases oC H with ⟨c127, H⟩ | ⟨c127, H⟩
     ·refine sn ([.res (cB v125)] ++ rg 31 true []) [] [(66, cB true)] [] [] (fun t => aI (s_rName_ok v123.Name v125 h126) (aG 8 c127 (aG 23 rT (t)))) ?_
      refine it rT ?_
      refine so [] [] [(2, cB false)] [] id ?_
      refine ends_ret ?_
      cases H
      exact rsr
     ·obtain ⟨v128, h129, H⟩ := oB H
      rcases oC H with ⟨c130, H⟩ | ⟨c130, H⟩
      ·refine sn ([.res (cB v125)] ++ rg 5 false ([.res (cI v128)] ++ rg 3 false (rg 23 true []))) [] [(66, cB true)] [] [] (fun t => aI (s_rName_ok v123.Name v125 h126) (aG 5 c127 (aI (s_rTerrain_ok p0.Terrains v123.Name v128 h129) (aG 3 c127 (aG 8 c130 (aG 15 rT (t))))))) ?_
       refine it rT ?_
       refine so [] [] [(2, cB false)] [] id ?_
       refine ends_ret ?_
       cases H
       exact rsr
      ·rcases oC H with ⟨c131, H⟩ | ⟨c131, H⟩
       ·refine sn ([.res (cB v125)] ++ rg 5 false ([.res (cI v128)] ++ rg 11 false (rg 15 true []))) [] [(66, cB true)] [] [] (fun t => aI (s_rName_ok v123.Name v125 h126) (aG 5 c127 (aI (s_rTerrain_ok p0.Terrains v123.Name v128 h129) (aG 3 c127 (aG 3 c130 (lI v123.Cost (aG 3 c130 (lI p0.Kinds (aG 2 c130 (aG 5 c131 (aG 10 rT (t)))))))))))) ?_
        refine it rT ?_
        refine so [] [] [(2, cB false)] [] id ?_
        refine ends_ret ?_
        cases H
        exact rsr
       ·obtain ⟨v132, h133, H⟩ := oB H
        rcases oC H with ⟨c134, H⟩ | ⟨c134, H⟩
        ·refine sn ([.res (cB v125)] ++ rg 5 false ([.res (cI v128)] ++ rg 14 false ([.res (cB v132)] ++ rg 2 false (rg 10 true [])))) [] [(66, cB true)] [] [] (fun t => aI (s_rName_ok v123.Name v125 h126) (aG 5 c127 (aI (s_rTerrain_ok p0.Terrains v123.Name v128 h129) (aG 3 c127 (aG 3 c130 (lI v123.Cost (aG 3 c130 (lI p0.Kinds (aG 2 c130 (aG 3 c131 (aI (s_l1All_ok v123.Cost 0 9 v132 h133) (aG 2 c131 (aG 5 c134 (aG 5 rT (t))))))))))))))) ?_
         refine it rT ?_
         refine so [] [] [(2, cB false)] [] id ?_
         refine ends_ret ?_
         cases H
         exact rsr
        ·obtain ⟨v135, h136, H⟩ := oB H
         rcases oC H with ⟨c137, H⟩ | ⟨c137, H⟩
         ·refine sn ([.res (cB v125)] ++ rg 5 false ([.res (cI v128)] ++ rg 14 false ([.res (cB v132)] ++ rg 5 false ([.res (cB v135)] ++ rg 2 false (rg 5 true []))))) [] [(66, cB true)] [] [] (fun t => aI (s_rName_ok v123.Name v125 h126) (aG 5 c127 (aI (s_rTerrain_ok p0.Terrains v123.Name v128 h129) (aG 3 c127 (aG 3 c130 (lI v123.Cost (aG 3 c130 (lI p0.Kinds (aG 2 c130 (aG 3 c131 (aI (s_l1All_ok v123.Cost 0 9 v132 h133) (aG 2 c131 (aG 3 c134 (aI (s_l1In_ok v123.Shift (-3) 3 v135 h136) (aG 2 c134 (aG 5 c137 (t))))))))))))))))) ?_
          refine it rT ?_
          refine so [] [] [(2, cB false)] [] id ?_
          refine ends_ret ?_
          cases H
          exact rsr
         ·obtain ⟨v138, h139, H⟩ := oB H
          refine sn ([.res (cB v125)] ++ rg 5 false ([.res (cI v128)] ++ rg 14 false ([.res (cB v132)] ++ rg 5 false ([.res (cB v135)] ++ rg 5 false ([.res (cB v138)] ++ rg 2 false []))))) [] [(66, cB (!v138))] [] [] (fun t => aI (s_rName_ok v123.Name v125 h126) (aG 5 c127 (aI (s_rTerrain_ok p0.Terrains v123.Name v128 h129) (aG 3 c127 (aG 3 c130 (lI v123.Cost (aG 3 c130 (lI p0.Kinds (aG 2 c130 (aG 3 c131 (aI (s_l1All_ok v123.Cost 0 9 v132 h133) (aG 2 c131 (aG 3 c134 (aI (s_l1In_ok v123.Shift (-3) 3 v135 h136) (aG 2 c134 (aG 3 c137 (aI (s_l1In_ok v123.Height 0 3 v138 h139) (aG 2 c137 (t))))))))))))))))))) ?_
          rcases oC H with ⟨c140, H⟩ | ⟨c140, H⟩
          ·refine it c140 ?_
           refine so [] [] [(2, cB false)] [] id ?_
           refine ends_ret ?_
           cases H
           exact rsr
          ·refine jf c140 ?_
           refine sk ?_
           refine oo [] [] [(1, pk 1), (20, dc 5 eTTerrain zTTerrain p0.Terrains), (21, cL p0.Terrains), (22, cI (W (x120 + 1)))] [(1, va (eTRules p0))] id ?_
           cases H
           exact rr
    ·refine jf c122 ?_
     refine tl [] [(1, pk 1)] [(1, va (eTRules p0))] id ?_
     refine ends_exit ?_
     cases H
     exact rse
   ·clear h142
    cases y141 with
    | inl y143 =>
     replace H := ofInl H
     rintro e s ⟨rfl, rfl⟩
     change EndsI _ _ _ _ _ _
     refine seq_in ?_
     refine sn [] [] [(69, dc 6 eTKind zTKind p0.Kinds), (70, cL p0.Kinds), (71, cI 0)] [] [] (fun t => lI p0.Kinds (t)) ?_
     refine ends_blk ?_
     obtain ⟨y285, h286, H⟩ := oB H
     refine tl [] [(1, pk 1), (69, dc 6 eTKind zTKind p0.Kinds), (70, cL p0.Kinds), (71, cI 0)] [(1, va (eTRules p0))] id ?_
     refine loop_in (fun (x : Int) => lit [(1, pk 1), (69, dc 6 eTKind zTKind p0.Kinds), (70, cL p0.Kinds), (71, cI x)] [(1, va (eTRules p0))]) (orJ (fun (z : Unit) => At (.exit 2) (lit [(1, pk 1)] [(1, va (eTRules p0))])) (fun (z : Bool) => At .ret (lit [(2, cB z)] []))) h286 ?_ ?_
     ·clear H h286
      intro x262 y0 H
      refine sn [] [] [(72, cB (decide (x262 < (p0.Kinds.length : Int))))] [] [] id ?_
      refine seq_in ?_
      rcases oC H with ⟨c264, H⟩ | ⟨c264, H⟩
      ·refine it c264 ?_
       refine sk ?_
       refine seq_in ?_
       refine ends_blk ?_
       obtain ⟨v265, h266, H⟩ := oB H
       refine sn [.cs (eTKind v265)] [] [(5, cI x262), (6, pk 6)] [] [(6, va (eTKind v265))] (a2 eTKind h266) ?_
       obtain ⟨v267, h268, H⟩ := oB H
       rcases oC H with ⟨c269, H⟩ | ⟨c269, H⟩
       ·refine sn ([.res (cB v267)] ++ rg 28 true []) [] [(112, cB true)] [] [] (fun t => aI (s_rName_ok v265.Name v267 h268) (aG 8 c269 (aG 20 rT (t)))) ?_
        refine it rT ?_
        refine so [] [] [(2, cB false)] [] id ?_
        refine ends_ret ?_
        cases H
        exact rsr
       ·obtain ⟨v270, h271, H⟩ := oB H
        rcases oC H with ⟨c272, H⟩ | ⟨c272, H⟩
        ·refine sn ([.res (cB v267)] ++ rg 5 false ([.res (cI v270)] ++ rg 3 false (rg 20 true []))) [] [(112, cB true)] [] [] (fun t => aI (s_rName_ok v265.Name v267 h268) (aG 5 c269 (aI (s_rKind_ok p0.Kinds v265.Name v270 h271) (aG 3 c269 (aG 5 c272 (aG 15 rT (t))))))) ?_
         refine it rT ?_
         refine so [] [] [(2, cB false)] [] id ?_
         refine ends_ret ?_
         cases H
         exact rsr
        ·obtain ⟨v273, h274, H⟩ := oB H
         rcases oC H with ⟨c275, H⟩ | ⟨c275, H⟩
         ·refine sn ([.res (cB v267)] ++ rg 5 false ([.res (cI v270)] ++ rg 6 false ([.res (cB v273)] ++ rg 2 false (rg 15 true [])))) [] [(112, cB true)] [] [] (fun t => aI (s_rName_ok v265.Name v267 h268) (aG 5 c269 (aI (s_rKind_ok p0.Kinds v265.Name v270 h271) (aG 3 c269 (aG 3 c272 (aI (s_l1In_ok v265.Strength 1 9 v273 h274) (aG 2 c272 (aG 5 c275 (aG 10 rT (t)))))))))) ?_
          refine it rT ?_
          refine so [] [] [(2, cB false)] [] id ?_
          refine ends_ret ?_
          cases H
          exact rsr
         ·obtain ⟨v276, h277, H⟩ := oB H
          rcases oC H with ⟨c278, H⟩ | ⟨c278, H⟩
          ·refine sn ([.res (cB v267)] ++ rg 5 false ([.res (cI v270)] ++ rg 6 false ([.res (cB v273)] ++ rg 5 false ([.res (cB v276)] ++ rg 2 false (rg 10 true []))))) [] [(112, cB true)] [] [] (fun t => aI (s_rName_ok v265.Name v267 h268) (aG 5 c269 (aI (s_rKind_ok p0.Kinds v265.Name v270 h271) (aG 3 c269 (aG 3 c272 (aI (s_l1In_ok v265.Strength 1 9 v273 h274) (aG 2 c272 (aG 3 c275 (aI (s_l1In_ok v265.Moves 0 9 v276 h277) (aG 2 c275 (aG 5 c278 (aG 5 rT (t))))))))))))) ?_
           refine it rT ?_
           refine so [] [] [(2, cB false)] [] id ?_
           refine ends_ret ?_
           cases H
           exact rsr
          ·obtain ⟨v279, h280, H⟩ := oB H
           rcases oC H with ⟨c281, H⟩ | ⟨c281, H⟩
           ·refine sn ([.res (cB v267)] ++ rg 5 false ([.res (cI v270)] ++ rg 6 false ([.res (cB v273)] ++ rg 5 false ([.res (cB v276)] ++ rg 5 false ([.res (cB v279)] ++ rg 2 false (rg 5 true [])))))) [] [(112, cB true)] [] [] (fun t => aI (s_rName_ok v265.Name v267 h268) (aG 5 c269 (aI (s_rKind_ok p0.Kinds v265.Name v270 h271) (aG 3 c269 (aG 3 c272 (aI (s_l1In_ok v265.Strength 1 9 v273 h274) (aG 2 c272 (aG 3 c275 (aI (s_l1In_ok v265.Moves 0 9 v276 h277) (aG 2 c275 (aG 3 c278 (aI (s_l1In_ok v265.Steps 1 4 v279 h280) (aG 2 c278 (aG 5 c281 (t))))))))))))))) ?_
            refine it rT ?_
            refine so [] [] [(2, cB false)] [] id ?_
            refine ends_ret ?_
            cases H
            exact rsr
           ·obtain ⟨v282, h283, H⟩ := oB H
            refine sn ([.res (cB v267)] ++ rg 5 false ([.res (cI v270)] ++ rg 6 false ([.res (cB v273)] ++ rg 5 false ([.res (cB v276)] ++ rg 5 false ([.res (cB v279)] ++ rg 5 false ([.res (cB v282)] ++ rg 2 false [])))))) [] [(112, cB (!v282))] [] [] (fun t => aI (s_rName_ok v265.Name v267 h268) (aG 5 c269 (aI (s_rKind_ok p0.Kinds v265.Name v270 h271) (aG 3 c269 (aG 3 c272 (aI (s_l1In_ok v265.Strength 1 9 v273 h274) (aG 2 c272 (aG 3 c275 (aI (s_l1In_ok v265.Moves 0 9 v276 h277) (aG 2 c275 (aG 3 c278 (aI (s_l1In_ok v265.Steps 1 4 v279 h280) (aG 2 c278 (aG 3 c281 (aI (s_l1In_ok v265.View 0 4 v282 h283) (aG 2 c281 (t))))))))))))))))) ?_
            rcases oC H with ⟨c284, H⟩ | ⟨c284, H⟩
            ·refine it c284 ?_
             refine so [] [] [(2, cB false)] [] id ?_
             refine ends_ret ?_
             cases H
             exact rsr
            ·refine jf c284 ?_
             refine sk ?_
             refine oo [] [] [(1, pk 1), (69, dc 6 eTKind zTKind p0.Kinds), (70, cL p0.Kinds), (71, cI (W (x262 + 1)))] [(1, va (eTRules p0))] id ?_
             cases H
             exact rr
      ·refine jf c264 ?_
       refine tl [] [(1, pk 1)] [(1, va (eTRules p0))] id ?_
       refine ends_exit ?_
       cases H
       exact rse
     ·clear h286
      cases y285 with
      | inl y287 =>
       replace H := ofInl H
       rintro e s ⟨rfl, rfl⟩
       change EndsI _ _ _ _ _ _
       obtain ⟨v289, h290, H⟩ := oB H
       rcases oC H with ⟨c291, H⟩ | ⟨c291, H⟩
       ·obtain ⟨v292, h293, H⟩ := oB H
        rcases oC H with ⟨c294, H⟩ | ⟨c294, H⟩
        ·obtain ⟨v295, h296, H⟩ := oB H
         rcases oC H with ⟨c297, H⟩ | ⟨c297, H⟩
         ·obtain ⟨v298, h299, H⟩ := oB H
          rcases oC H with ⟨c300, H⟩ | ⟨c300, H⟩
          ·obtain ⟨v301, h302, H⟩ := oB H
           refine so ([.res (cB v289)] ++ rg 3 true ([.res (cB v292)] ++ rg 4 true ([.res (cB v295)] ++ rg 4 true ([.res (cB v298)] ++ rg 4 true [.res (cB v301), .g true])))) [] [(2, cB v301)] [] (fun t => aI (s_l1In_ok p0.Stack 1 4 v289 h290) (aG 3 c291 (aI (s_l1In_ok p0.River 0 9 v292 h293) (aI c291 (aG 3 c294 (aI (s_l1In_ok p0.Road 1 9 v295 h296) (aI c294 (aG 3 c297 (aI (s_l1In_ok p0.Supply 0 20 v298 h299) (aI c297 (aG 3 c300 (aI (s_l1In_ok p0.Turns 1 30 v301 h302) (aI c300 (t)))))))))))))) ?_
           cases H
           exact er
          ·refine so ([.res (cB v289)] ++ rg 3 true ([.res (cB v292)] ++ rg 4 true ([.res (cB v295)] ++ rg 4 true ([.res (cB v298), .g true] ++ rg 4 false [])))) [] [(2, cB false)] [] (fun t => aI (s_l1In_ok p0.Stack 1 4 v289 h290) (aG 3 c291 (aI (s_l1In_ok p0.River 0 9 v292 h293) (aI c291 (aG 3 c294 (aI (s_l1In_ok p0.Road 1 9 v295 h296) (aI c294 (aG 3 c297 (aI (s_l1In_ok p0.Supply 0 20 v298 h299) (aI c297 (aG 4 c300 (t)))))))))))) ?_
           cases H
           exact er
         ·refine so ([.res (cB v289)] ++ rg 3 true ([.res (cB v292)] ++ rg 4 true ([.res (cB v295), .g true] ++ rg 8 false []))) [] [(2, cB false)] [] (fun t => aI (s_l1In_ok p0.Stack 1 4 v289 h290) (aG 3 c291 (aI (s_l1In_ok p0.River 0 9 v292 h293) (aI c291 (aG 3 c294 (aI (s_l1In_ok p0.Road 1 9 v295 h296) (aI c294 (aG 4 c297 (aG 4 rF (t)))))))))) ?_
          cases H
          exact er
        ·refine so ([.res (cB v289)] ++ rg 3 true ([.res (cB v292), .g true] ++ rg 12 false [])) [] [(2, cB false)] [] (fun t => aI (s_l1In_ok p0.Stack 1 4 v289 h290) (aG 3 c291 (aI (s_l1In_ok p0.River 0 9 v292 h293) (aI c291 (aG 4 c294 (aG 8 rF (t))))))) ?_
         cases H
         exact er
       ·refine so ([.res (cB v289)] ++ rg 16 false []) [] [(2, cB false)] [] (fun t => aI (s_l1In_ok p0.Stack 1 4 v289 h290) (aG 4 c291 (aG 12 rF (t)))) ?_
        cases H
        exact er
      | inr y288 =>
       replace H := ofInr H
       rintro e s ⟨rfl, rfl⟩
       cases H
       exact qr
    | inr y144 =>
     replace H := ofInr H
     rintro e s ⟨rfl, rfl⟩
     cases H
     exact qr
def s_mSize_ir : S :=
 (sq [o 1 (.box 5 (.t 0)), o 2 (.mv (iv 0))]
 (sq [oa 3 0 1, ol 4 3, oa 5 1 1, ol 6 5, o 7 (.bin .mul (.t 4) (.t 6)), om 2 7]
 .ret))
noncomputable def X.s_mSize (p0 : TMap) : Option Int :=
 some (W (p0.Width * p0.Height))
theorem s_mSize_ok (p0 : TMap) (r : Int) (H : X.s_mSize p0 = some r) : FK 35 [.agg (eTMap p0)] (cI r) := by
 unfold X.s_mSize at H
 refine fi Tryd.f35 s_mSize_ir [(2, cI r)] [] glL Tryd.func35 ?_
 refine so [] [] [(1, pk 1)] [(1, va (eTMap p0))] id ?_
 refine so [] [] [(2, cI (W (p0.Width * p0.Height)))] [] id ?_
 cases H
 exact er
def s_mIndex_ir : S :=
 (sq [o 2 (.box 5 (.t 0)), o 3 (.box 2 (.t 1)), o 4 (.mv (iv 0))]
 (.seq (sq [oa 5 0 3, ol 6 5, oa 7 0 2, ol 8 7, o 9 (.bin .sub (.t 8) (iv 1)), o 10 (.call 50 [.t 6, .v (.int .i64 0), .t 9]), o 11 (.not (.t 10)), om 12 11, og 13 (.fad 1 (.t 3)) 12, og 14 (.load 1 false (.t 13)) 12, og 15 (.fad 1 (.t 2)) 12, og 16 (.load 1 false (.t 15)) 12, og 17 (.bin .sub (.t 16) (iv 1)) 12, og 18 (.call 50 [.t 14, .v (.int .i64 0), .t 17]) 12, og 19 (.not (.t 18)) 12, o 20 (.pick (.t 12) bT (.t 19))]
 (.ite (.t 20) (sq [o 4 (.mv (.v (.int .i64 (-1))))]
  .ret)
 .skip))
 (sq [oa 21 1 3, ol 22 21, oa 23 0 2, ol 24 23, o 25 (.bin .mul (.t 22) (.t 24)), oa 26 0 3, ol 27 26, o 28 (.bin .add (.t 25) (.t 27)), om 4 28]
 .ret)))
noncomputable def X.s_mIndex (p0 : TMap) (p1 : THex) : Option Int :=
 ((X.s_l1In p1.Q 0 (W (p0.Width - 1))).bind fun v7 => (bif (!v7) then some (-1) else ((X.s_l1In p1.R 0 (W (p0.Height - 1))).bind fun v10 => (bif (!v10) then some (-1) else some (W ((W (p1.R * p0.Width)) + p1.Q))))))
theorem s_mIndex_ok (p0 : TMap) (p1 : THex) (r : Int) (H : X.s_mIndex p0 p1 = some r) : FK 80 [.agg (eTMap p0), .agg (eTHex p1)] (cI r) := by
 unfold X.s_mIndex at H
 refine fi Tryd.f80 s_mIndex_ir [(4, cI r)] [] glL Tryd.func80 ?_
 refine so [] [] [(2, pk 2), (3, pk 3)] [(2, va (eTMap p0)), (3, va (eTHex p1))] id ?_
 refine seq_in ?_
 obtain ⟨v7, h8, H⟩ := oB H
 rcases oC H with ⟨c9, H⟩ | ⟨c9, H⟩
 ·refine sn ([.res (cB v7)] ++ rg 8 true []) [] [(20, cB true)] [] [] (fun t => aI (s_l1In_ok p1.Q 0 (W (p0.Width - 1)) v7 h8) (aG 8 c9 (t))) ?_
  refine it rT ?_
  refine so [] [] [(4, cI (-1))] [] id ?_
  cases H
  exact er
 ·obtain ⟨v10, h11, H⟩ := oB H
  refine sn ([.res (cB v7)] ++ rg 6 false ([.res (cB v10)] ++ rg 2 false [])) [] [(20, cB (!v10))] [] [] (fun t => aI (s_l1In_ok p1.Q 0 (W (p0.Width - 1)) v7 h8) (aG 6 c9 (aI (s_l1In_ok p1.R 0 (W (p0.Height - 1)) v10 h11) (aG 2 c9 (t))))) ?_
  rcases oC H with ⟨c12, H⟩ | ⟨c12, H⟩
  ·refine it c12 ?_
   refine so [] [] [(4, cI (-1))] [] id ?_
   cases H
   exact er
  ·refine jf c12 ?_
   refine sk ?_
   refine so [] [] [(4, cI (W ((W (p1.R * p0.Width)) + p1.Q)))] [] id ?_
   cases H
   exact er
def s_hStep_ir : S :=
 (sq [o 2 (.box 2 (.t 0)), o 4 (.alloc [.int .i64 0, .int .i64 0])]
 (.seq (.drw [(0, 2), (1, 2), (0, 3), (1, 3), (2, 3), (0, 4), (1, 4), (0, 5), (1, 5), (0, 7), (1, 7), (2, 7), (3, 7), (4, 7), (5, 7), (6, 7), (0, 8), (1, 8), (2, 8), (3, 8), (4, 8), (5, 8), (6, 8), (0, 9), (1, 9), (2, 9), (3, 9), (4, 9), (5, 9), (6, 9), (7, 9), (8, 9), (0, 10), (1, 10), (2, 10), (3, 10), (4, 10), (5, 10), (6, 10), (7, 10), (8, 10), (9, 10), (0, 11), (1, 11), (2, 11), (3, 11), (4, 11), (5, 11), (6, 11), (7, 11), (8, 11), (0, 12), (1, 12), (2, 12), (3, 12), (4, 12), (5, 12), (6, 12), (7, 12), (8, 12), (0, 13), (1, 13), (2, 13), (3, 13), (4, 13), (5, 13), (6, 13)] [oa 5 0 2, ol 6 5, o 7 (.bsl 1 [.v (.int .i64 1), .v (.int .i64 1), .v (.int .i64 0), .v (.int .i64 (-1)), .v (.int .i64 (-1)), .v (.int .i64 0)]), om 8 1, o 9 (.iad 1 (.t 7) (.t 8)), ol 10 9, o 11 (.bin .add (.t 6) (.t 10)), oa 12 1 2, ol 13 12, o 14 (.bsl 1 [.v (.int .i64 0), .v (.int .i64 (-1)), .v (.int .i64 (-1)), .v (.int .i64 0), .v (.int .i64 1), .v (.int .i64 1)]), om 15 1, o 16 (.iad 1 (.t 14) (.t 15)), ol 17 16, o 18 (.bin .add (.t 13) (.t 17)), o 19 (.build [.int .i64 0, .int .i64 0] [(0, 1, .t 11), (1, 1, .t 18)]), os 2 4 19])
 .ret))
noncomputable def X.s_hStep (p0 : THex) (p1 : Int) : Option THex :=
 (if 0 ≤ p1 ∧ p1 < (([1, 1, 0, -1, -1, 0] : List Int).length : Int) then (if 0 ≤ p1 ∧ p1 < (([0, -1, -1, 0, 1, 1] : List Int).length : Int) then some (THex.mk (W (p0.Q + (([1, 1, 0, -1, -1, 0] : List Int).getD p1.toNat zI))) (W (p0.R + (([0, -1, -1, 0, 1, 1] : List Int).getD p1.toNat zI)))) else none) else none)
theorem s_hStep_ok (p0 : THex) (p1 : Int) (r : THex) (H : X.s_hStep p0 p1 = some r) : FK 81 [.agg (eTHex p0), cI p1] (.agg (eTHex r)) := by
 unfold X.s_hStep at H
 refine fi Tryd.f81 s_hStep_ir [(4, pk 4)] [(4, va (eTHex r))] glL Tryd.func81 ?_
 refine sn [] [] [(2, pk 2), (4, pk 4)] [] [(2, va (eTHex p0)), (4, .var [jI 0, jI 0] false)] id ?_
 obtain ⟨g1, H⟩ := oI H
 obtain ⟨g2, H⟩ := oI H
 refine xn [.no, fh eI zI ([1, 1, 0, -1, -1, 0] : List Int), .no, .no, fh eI zI ([0, -1, -1, 0, 1, 1] : List Int), .no] [] [] [4] [(4, .var [jI (W (p0.Q + (([1, 1, 0, -1, -1, 0] : List Int).getD p1.toNat zI))), jI (W (p0.R + (([0, -1, -1, 0, 1, 1] : List Int).getD p1.toNat zI)))] false)] (fun t => aI (rfl : ([1, 1, 0, -1, -1, 0] : List Int).length = 6) (aI rT (aI (fF_lit eI zI ([1, 1, 0, -1, -1, 0] : List Int)) (aI g1 (aI (nat_lt g1) (aI rN (aI (rfl : ([0, -1, -1, 0, 1, 1] : List Int).length = 6) (aI rT (aI (fF_lit eI zI ([0, -1, -1, 0, 1, 1] : List Int)) (aI g2 (aI (nat_lt g2) (aI rN (t))))))))))))) ?_
 refine tl [] [(4, pk 4)] [(4, .var [jI (W (p0.Q + (([1, 1, 0, -1, -1, 0] : List Int).getD p1.toNat zI))), jI (W (p0.R + (([0, -1, -1, 0, 1, 1] : List Int).getD p1.toNat zI)))] false)] id ?_
 cases H
 exact er
def s_mHex_ir : S :=
 (sq [o 2 (.box 5 (.t 0)), o 4 (.alloc [.int .i64 0, .int .i64 0])]
 (.seq (.drw [(0, 1), (0, 2), (0, 4), (1, 4), (2, 4), (3, 4), (0, 5), (1, 5), (2, 5), (3, 5), (4, 5), (0, 6), (1, 6), (2, 6), (3, 6), (4, 6), (0, 7), (1, 7), (2, 7), (3, 7)] [om 5 1, oa 6 0 2, ol 7 6, o 8 (.bin .rem (.t 5) (.t 7)), om 9 1, oa 10 0 2, ol 11 10, o 12 (.bin .quo (.t 9) (.t 11)), o 13 (.build [.int .i64 0, .int .i64 0] [(0, 1, .t 8), (1, 1, .t 12)]), os 2 4 13])
 .ret))
noncomputable def X.s_mHex (p0 : TMap) (p1 : Int) : Option THex :=
 (if p0.Width ≠ 0 then (if p0.Width ≠ 0 then some (THex.mk (Int.tmod p1 p0.Width) (W (Int.tdiv p1 p0.Width))) else none) else none)
theorem s_mHex_ok (p0 : TMap) (p1 : Int) (r : THex) (H : X.s_mHex p0 p1 = some r) : FK 82 [.agg (eTMap p0), cI p1] (.agg (eTHex r)) := by
 unfold X.s_mHex at H
 refine fi Tryd.f82 s_mHex_ir [(4, pk 4)] [(4, va (eTHex r))] glL Tryd.func82 ?_
 refine sn [] [] [(2, pk 2), (4, pk 4)] [] [(2, va (eTMap p0)), (4, .var [jI 0, jI 0] false)] id ?_
 obtain ⟨g1, H⟩ := oI H
 obtain ⟨g2, H⟩ := oI H
 refine xn [] [] [] [4] [(4, .var [jI (Int.tmod p1 p0.Width), jI (W (Int.tdiv p1 p0.Width))] false)] (fun t => aI g1 (aI g2 (t))) ?_
 refine tl [] [(4, pk 4)] [(4, .var [jI (Int.tmod p1 p0.Width), jI (W (Int.tdiv p1 p0.Width))] false)] id ?_
 cases H
 exact er
def s_mNext_ir : S :=
 (sq [o 3 (.box 5 (.t 0)), o 6 (.mv (iv 0))]
 (.seq (.drw [(0, 1), (0, 2), (1, 2), (0, 3), (0, 4), (1, 4), (2, 4), (3, 4), (0, 5)] [o 7 (.load 5 true (.t 3)), o 8 (.load 5 true (.t 3)), om 9 1, o 10 (.call 82 [.t 8, .t 9]), om 11 2, o 12 (.call 81 [.t 10, .t 11]), o 13 (.call 80 [.t 7, .t 12]), om 6 13])
 .ret))
noncomputable def X.s_mNext (p0 : TMap) (p1 : Int) (p2 : Int) : Option Int :=
 ((X.s_mHex p0 p1).bind fun v1 => ((X.s_hStep v1 p2).bind fun v3 => ((X.s_mIndex p0 v3).bind fun v5 => some v5)))
theorem s_mNext_ok (p0 : TMap) (p1 : Int) (p2 : Int) (r : Int) (H : X.s_mNext p0 p1 p2 = some r) : FK 71 [.agg (eTMap p0), cI p1, cI p2] (cI r) := by
 unfold X.s_mNext at H
 refine fi Tryd.f71 s_mNext_ir [(6, cI r)] [] glL Tryd.func71 ?_
 refine sn [] [] [(3, pk 3)] [] [(3, va (eTMap p0))] id ?_
 obtain ⟨v1, h2, H⟩ := oB H
 obtain ⟨v3, h4, H⟩ := oB H
 obtain ⟨v5, h6, H⟩ := oB H
 refine sx [.res (.agg (eTHex v1)), .res (.agg (eTHex v3)), .res (cI v5)] [] [(6, cI v5)] [] (fun t => aI (s_mHex_ok p0 p1 v1 h2) (aI trivial (aI rN (aI (s_hStep_ok v1 p2 v3 h4) (aI trivial (aI rN (aI (s_mIndex_ok p0 v3 v5 h6) (aI trivial (aI rN (t)))))))))) ?_
 cases H
 exact er
def s_l1Rising_ir : S :=
 (sq [o 6 (.mv bF)]
 (.seq (sq [om 9 0, o 10 (.len (.t 9)), o 11 (.mv (iv 0))]
 (.blk 0 (.loop (sq [o 12 (.bin .lss (.t 11) (.t 10))]
   (.seq (.ite (.t 12) .skip
   (.exit 0))
   (.seq (.blk 1 (sq [om 13 11, o 14 (.iad 1 (.t 9) (.t 11)), ol 15 14, om 7 13, om 8 15]
    (sq [om 16 8, om 17 1, om 18 2, o 19 (.call 50 [.t 16, .t 17, .t 18]), o 20 (.not (.t 19)), om 21 20, og 22 (.mv (.t 7)) 21, og 23 (.bin .gtr (.t 22) (iv 0)) 21, og 24 (.mv (.t 23)) 21, oh 25 (.mv (.t 0)) 24, oh 26 (.mv (.t 7)) 24, oh 27 (.bin .sub (.t 26) (iv 1)) 24, oh 28 (.iad 1 (.t 25) (.t 27)) 24, oh 29 (.load 1 false (.t 28)) 24, oh 30 (.mv (.t 8)) 24, oh 31 (.bin .geq (.t 29) (.t 30)) 24, og 32 (.pick (.t 24) (.t 31) bF) 21, o 33 (.pick (.t 21) bT (.t 32))]
    (.ite (.t 33) (sq [o 6 (.mv bF)]
     .ret)
    .skip))))
   (.ops [o 34 (.bin .add (.t 11) (iv 1)), om 11 34])))))))
 (sq [o 6 (.mv bT)]
 .ret)))
noncomputable def X.s_l1Rising (p0 : (List Int)) (p1 : Int) (p2 : Int) : Option Bool :=
 ((loop (fun (x24 : Int) => ((bif (decide (x24 < (p0.length : Int))) then ((at' zI p0 x24).bind fun v27 => ((X.s_l1In v27 p1 p2).bind fun v29 => (bif (!v29) then some (Sum.inr (Sum.inr false)) else (bif (decide (x24 > 0)) then ((at' zI p0 (W (x24 - 1))).bind fun v33 => (bif (decide (v33 ≥ v27)) then some (Sum.inr (Sum.inr false)) else some (Sum.inl (W (x24 + 1))))) else some (Sum.inl (W (x24 + 1))))))) else some (Sum.inr (Sum.inl ()))) : Option (Int ⊕ (Unit ⊕ Bool)))) 0).bind fun y36 => (Sum.elim (fun (y38 : Unit) => some true) (fun (y39 : Bool) => some y39) y36))
theorem s_l1Rising_ok (p0 : (List Int)) (p1 : Int) (p2 : Int) (r : Bool) (H : X.s_l1Rising p0 p1 p2 = some r) : FK 72 [.c (dat 1 eI zI p0), cI p1, cI p2] (cB r) := by
 unfold X.s_l1Rising at H
 refine fi Tryd.f72 s_l1Rising_ir [(6, cB r)] [] glL Tryd.func72 ?_
 refine sn [] [] [] [] [] id ?_
 refine seq_in ?_
 refine sn [] [] [(9, dc 1 eI zI p0), (10, cL p0), (11, cI 0)] [] [] (fun t => lI p0 (t)) ?_
 refine ends_blk ?_
 obtain ⟨y36, h37, H⟩ := oB H
 refine tl [] [(0, dc 1 eI zI p0), (1, cI p1), (2, cI p2), (9, dc 1 eI zI p0), (10, cL p0), (11, cI 0)] [] id ?_
 refine loop_in (fun (x : Int) => lit [(0, dc 1 eI zI p0), (1, cI p1), (2, cI p2), (9, dc 1 eI zI p0), (10, cL p0), (11, cI x)] []) (orJ (fun (z : Unit) => At (.exit 0) (lit [] [])) (fun (z : Bool) => At .ret (lit [(6, cB z)] []))) h37 ?_ ?_
 ·clear H h37
  intro x24 y0 H
  refine sn [] [] [(12, cB (decide (x24 < (p0.length : Int))))] [] [] id ?_
  refine seq_in ?_
  rcases oC H with ⟨c26, H⟩ | ⟨c26, H⟩
  ·refine it c26 ?_
   refine sk ?_
   refine seq_in ?_
   refine ends_blk ?_
   obtain ⟨v27, h28, H⟩ := oB H
   refine sn [.cs (eI v27)] [] [(7, cI x24), (8, cI v27)] [] [] (a2 eI h28) ?_
   obtain ⟨v29, h30, H⟩ := oB H
   rcases oC H with ⟨c31, H⟩ | ⟨c31, H⟩
   ·refine sn ([.res (cB v29)] ++ rg 5 true []) [] [(33, cB true)] [] [] (fun t => aI (s_l1In_ok v27 p1 p2 v29 h30) (aG 5 c31 (t))) ?_
    refine it rT ?_
    refine so [] [] [(6, cB false)] [] id ?_
    refine ends_ret ?_
    cases H
    exact rsr
   ·rcases oC H with ⟨c32, H⟩ | ⟨c32, H⟩
    ·obtain ⟨v33, h34, H⟩ := oB H
     refine sn ([.res (cB v29)] ++ rg 3 false (rg 4 true ([.cs (eI v33)] ++ rg 3 true [.g false, .g true, .g false]))) [] [(33, cB (decide (v33 ≥ v27)))] [] [] (fun t => aI (s_l1In_ok v27 p1 p2 v29 h30) (aG 3 c31 (aG 4 c32 ((a2 eI h34 (aG 3 c32 (aI c31 (aI c32 (aI c31 (t)))))))))) ?_
     rcases oC H with ⟨c35, H⟩ | ⟨c35, H⟩
     ·refine it c35 ?_
      refine so [] [] [(6, cB false)] [] id ?_
      refine ends_ret ?_
      cases H
      exact rsr
     ·refine jf c35 ?_
      refine sk ?_
      refine oo [] [] [(0, dc 1 eI zI p0), (1, cI p1), (2, cI p2), (9, dc 1 eI zI p0), (10, cL p0), (11, cI (W (x24 + 1)))] [] id ?_
      cases H
      exact rr
    ·refine sn ([.res (cB v29)] ++ rg 13 false []) [] [(33, cB false)] [] [] (fun t => aI (s_l1In_ok v27 p1 p2 v29 h30) (aG 3 c31 (aG 7 c32 (aI c31 (aI c32 (aI c31 (t))))))) ?_
     refine jf rF ?_
     refine sk ?_
     refine oo [] [] [(0, dc 1 eI zI p0), (1, cI p1), (2, cI p2), (9, dc 1 eI zI p0), (10, cL p0), (11, cI (W (x24 + 1)))] [] id ?_
     cases H
     exact rr
  ·refine jf c26 ?_
   refine tl [] [] [] id ?_
   refine ends_exit ?_
   cases H
   exact rse
 ·clear h37
  cases y36 with
  | inl y38 =>
   replace H := ofInl H
   rintro e s ⟨rfl, rfl⟩
   change EndsI _ _ _ _ _ _
   refine so [] [] [(6, cB true)] [] id ?_
   cases H
   exact er
  | inr y39 =>
   replace H := ofInr H
   rintro e s ⟨rfl, rfl⟩
   cases H
   exact qr
def s_mEdges_ir : S :=
 (sq [o 2 (.box 5 (.t 0)), o 4 (.mv bF)]
 (.seq (sq [om 7 1, o 8 (.len (.t 7)), o 9 (.mv (iv 0))]
 (.blk 0 (.loop (sq [o 10 (.bin .lss (.t 9) (.t 8))]
   (.seq (.ite (.t 10) .skip
   (.exit 0))
   (.seq (.blk 1 (sq [o 11 (.iad 1 (.t 7) (.t 9)), ol 12 11, om 6 12]
    (sq [om 13 6, o 14 (.load 5 true (.t 2)), o 15 (.call 35 [.t 14]), o 16 (.bin .mul (iv 3) (.t 15)), o 17 (.bin .sub (.t 16) (iv 1)), o 18 (.call 50 [.t 13, .v (.int .i64 0), .t 17]), o 19 (.not (.t 18)), om 20 19, og 21 (.load 5 true (.t 2)) 20, og 22 (.mv (.t 6)) 20, og 23 (.bin .quo (.t 22) (iv 3)) 20, og 24 (.mv (.t 6)) 20, og 25 (.bin .rem (.t 24) (iv 3)) 20, og 26 (.call 71 [.t 21, .t 23, .t 25]) 20, og 27 (.bin .lss (.t 26) (iv 0)) 20, o 28 (.pick (.t 20) bT (.t 27))]
    (.ite (.t 28) (sq [o 4 (.mv bF)]
     .ret)
    .skip))))
   (.ops [o 29 (.bin .add (.t 9) (iv 1)), om 9 29])))))))
 (sq [om 30 1, o 31 (.load 5 true (.t 2)), o 32 (.call 35 [.t 31]), o 33 (.bin .mul (iv 3) (.t 32)), o 34 (.bin .sub (.t 33) (iv 1)), o 35 (.call 72 [.t 30, .v (.int .i64 0), .t 34]), om 4 35]
 .ret)))
noncomputable def X.s_mEdges (p0 : TMap) (p1 : (List Int)) : Option Bool :=
 ((loop (fun (x68 : Int) => ((bif (decide (x68 < (p1.length : Int))) then ((at' zI p1 x68).bind fun v71 => ((X.s_mSize p0).bind fun v73 => ((X.s_l1In v71 0 (W ((W (3 * v73)) - 1))).bind fun v75 => (bif (!v75) then some (Sum.inr (Sum.inr false)) else ((X.s_mNext p0 (W (Int.tdiv v71 3)) (Int.tmod v71 3)).bind fun v78 => (bif (decide (v78 < 0)) then some (Sum.inr (Sum.inr false)) else some (Sum.inl (W (x68 + 1))))))))) else some (Sum.inr (Sum.inl ()))) : Option (Int ⊕ (Unit ⊕ Bool)))) 0).bind fun y81 => (Sum.elim (fun (y83 : Unit) => ((X.s_mSize p0).bind fun v85 => ((X.s_l1Rising p1 0 (W ((W (3 * v85)) - 1))).bind fun v87 => some v87))) (fun (y84 : Bool) => some y84) y81))
theorem s_mEdges_ok (p0 : TMap) (p1 : (List Int)) (r : Bool) (H : X.s_mEdges p0 p1 = some r) : FK 54 [.agg (eTMap p0), .c (dat 1 eI zI p1)] (cB r) := by
 unfold X.s_mEdges at H
 refine fi Tryd.f54 s_mEdges_ir [(4, cB r)] [] glL Tryd.func54 ?_
 refine sn [] [] [(2, pk 2)] [] [(2, va (eTMap p0))] id ?_
 refine seq_in ?_
 refine sn [] [] [(7, dc 1 eI zI p1), (8, cL p1), (9, cI 0)] [] [] (fun t => lI p1 (t)) ?_
 refine ends_blk ?_
 obtain ⟨y81, h82, H⟩ := oB H
 refine tl [] [(1, dc 1 eI zI p1), (2, pk 2), (7, dc 1 eI zI p1), (8, cL p1), (9, cI 0)] [(2, va (eTMap p0))] id ?_
 refine loop_in (fun (x : Int) => lit [(1, dc 1 eI zI p1), (2, pk 2), (7, dc 1 eI zI p1), (8, cL p1), (9, cI x)] [(2, va (eTMap p0))]) (orJ (fun (z : Unit) => At (.exit 0) (lit [(1, dc 1 eI zI p1), (2, pk 2)] [(2, va (eTMap p0))])) (fun (z : Bool) => At .ret (lit [(4, cB z)] []))) h82 ?_ ?_
 ·clear H h82
  intro x68 y0 H
  refine sn [] [] [(10, cB (decide (x68 < (p1.length : Int))))] [] [] id ?_
  refine seq_in ?_
  rcases oC H with ⟨c70, H⟩ | ⟨c70, H⟩
  ·refine it c70 ?_
   refine sk ?_
   refine seq_in ?_
   refine ends_blk ?_
   obtain ⟨v71, h72, H⟩ := oB H
   refine sn [.cs (eI v71)] [] [(6, cI v71)] [] [] (a2 eI h72) ?_
   obtain ⟨v73, h74, H⟩ := oB H
   obtain ⟨v75, h76, H⟩ := oB H
   rcases oC H with ⟨c77, H⟩ | ⟨c77, H⟩
   ·refine sn ([.res (cI v73), .res (cB v75)] ++ rg 8 true []) [] [(28, cB true)] [] [] (fun t => aI (s_mSize_ok p0 v73 h74) (aI (s_l1In_ok v71 0 (W ((W (3 * v73)) - 1)) v75 h76) (aG 8 c77 (t)))) ?_
    refine it rT ?_
    refine so [] [] [(4, cB false)] [] id ?_
    refine ends_ret ?_
    cases H
    exact rsr
   ·obtain ⟨v78, h79, H⟩ := oB H
    refine sn ([.res (cI v73), .res (cB v75)] ++ rg 6 false ([.res (cI v78)] ++ rg 2 false [])) [] [(28, cB (decide (v78 < 0)))] [] [] (fun t => aI (s_mSize_ok p0 v73 h74) (aI (s_l1In_ok v71 0 (W ((W (3 * v73)) - 1)) v75 h76) (aG 3 c77 (aI (by decide : (3 : Int) ≠ 0) (aG 2 c77 (aI (by decide : (3 : Int) ≠ 0) (aI c77 (aI (s_mNext_ok p0 (W (Int.tdiv v71 3)) (Int.tmod v71 3) v78 h79) (aG 2 c77 (t)))))))))) ?_
    rcases oC H with ⟨c80, H⟩ | ⟨c80, H⟩
    ·refine it c80 ?_
     refine so [] [] [(4, cB false)] [] id ?_
     refine ends_ret ?_
     cases H
     exact rsr
    ·refine jf c80 ?_
     refine sk ?_
     refine oo [] [] [(1, dc 1 eI zI p1), (2, pk 2), (7, dc 1 eI zI p1), (8, cL p1), (9, cI (W (x68 + 1)))] [(2, va (eTMap p0))] id ?_
     cases H
     exact rr
  ·refine jf c70 ?_
   refine tl [] [(1, dc 1 eI zI p1), (2, pk 2)] [(2, va (eTMap p0))] id ?_
   refine ends_exit ?_
   cases H
   exact rse
 ·clear h82
  cases y81 with
  | inl y83 =>
   replace H := ofInl H
   rintro e s ⟨rfl, rfl⟩
   change EndsI _ _ _ _ _ _
   obtain ⟨v85, h86, H⟩ := oB H
   obtain ⟨v87, h88, H⟩ := oB H
   refine so [.res (cI v85), .res (cB v87)] [] [(4, cB v87)] [] (fun t => aI (s_mSize_ok p0 v85 h86) (aI (s_l1Rising_ok p1 0 (W ((W (3 * v85)) - 1)) v87 h88) (t))) ?_
   cases H
   exact er
  | inr y84 =>
   replace H := ofInr H
   rintro e s ⟨rfl, rfl⟩
   cases H
   exact qr
def s_mGood_ir : S :=
 (sq [o 1 (.box 5 (.t 0)), o 2 (.mv bF)]
 (.seq (.drw [(9, 12), (10, 12), (11, 12), (9, 13), (10, 13), (11, 13), (22, 23), (22, 24), (28, 29), (28, 30)] [oa 3 0 1, ol 4 3, o 5 (.call 50 [.t 4, .v (.int .i64 1), .v (.int .i64 10)]), om 6 5, oh 7 (.fad 1 (.t 1)) 6, oh 8 (.load 1 false (.t 7)) 6, oh 9 (.call 50 [.t 8, .v (.int .i64 1), .v (.int .i64 10)]) 6, o 10 (.pick (.t 6) (.t 9) bF), om 11 10, oh 12 (.fad 2 (.t 1)) 11, oh 13 (.load 1 false (.t 12)) 11, oh 14 (.len (.t 13)) 11, oh 15 (.load 5 true (.t 1)) 11, oh 16 (.call 35 [.t 15]) 11, oh 17 (.bin .eql (.t 14) (.t 16)) 11, o 18 (.pick (.t 11) (.t 17) bF), om 19 18, oh 20 (.fad 2 (.t 1)) 19, oh 21 (.load 1 false (.t 20)) 19, oh 22 (.call 34 [.t 21, .v (.int .i64 0), .v (.int .i64 5)]) 19, o 23 (.pick (.t 19) (.t 22) bF), om 24 23, oh 25 (.load 5 true (.t 1)) 24, oh 26 (.fad 3 (.t 1)) 24, oh 27 (.load 1 false (.t 26)) 24, oh 28 (.call 54 [.t 25, .t 27]) 24, o 29 (.pick (.t 24) (.t 28) bF), om 30 29, oh 31 (.load 5 true (.t 1)) 30, oh 32 (.fad 4 (.t 1)) 30, oh 33 (.load 1 false (.t 32)) 30, oh 34 (.call 54 [.t 31, .t 33]) 30, o 35 (.pick (.t 30) (.t 34) bF), om 2 35])
 .ret))
noncomputable def X.s_mGood (p0 : TMap) : Option Bool :=
 ((X.s_l1In p0.Width 1 10).bind fun v1 => (bif v1 then ((X.s_l1In p0.Height 1 10).bind fun v4 => (bif v4 then ((X.s_mSize p0).bind fun v7 => (bif ((p0.Terrain.length : Int) == v7) then ((X.s_l1All p0.Terrain 0 5).bind fun v10 => (bif v10 then ((X.s_mEdges p0 p0.Rivers).bind fun v13 => (bif v13 then ((X.s_mEdges p0 p0.Roads).bind fun v16 => some v16) else some false)) else some false)) else some false)) else some false)) else some false))
theorem s_mGood_ok (p0 : TMap) (r : Bool) (H : X.s_mGood p0 = some r) : FK 33 [.agg (eTMap p0)] (cB r) := by
 unfold X.s_mGood at H
 refine fi Tryd.f33 s_mGood_ir [(2, cB r)] [] glL Tryd.func33 ?_
 refine so [] [] [(1, pk 1)] [(1, va (eTMap p0))] id ?_
 obtain ⟨v1, h2, H⟩ := oB H
 rcases oC H with ⟨c3, H⟩ | ⟨c3, H⟩
 ·obtain ⟨v4, h5, H⟩ := oB H
  rcases oC H with ⟨c6, H⟩ | ⟨c6, H⟩
  ·obtain ⟨v7, h8, H⟩ := oB H
   rcases oC H with ⟨c9, H⟩ | ⟨c9, H⟩
   ·obtain ⟨v10, h11, H⟩ := oB H
    rcases oC H with ⟨c12, H⟩ | ⟨c12, H⟩
    ·obtain ⟨v13, h14, H⟩ := oB H
     rcases oC H with ⟨c15, H⟩ | ⟨c15, H⟩
     ·obtain ⟨v16, h17, H⟩ := oB H
      refine sx ([.res (cB v1)] ++ rg 3 true ([.res (cB v4)] ++ rg 6 true ([.res (cI v7)] ++ rg 5 true ([.res (cB v10)] ++ rg 5 true ([.res (cB v13)] ++ rg 5 true [.res (cB v16), .g true]))))) [] [(2, cB v16)] [] (fun t => aI (s_l1In_ok p0.Width 1 10 v1 h2) (aI trivial (aI rN (aG 3 c3 (aI (s_l1In_ok p0.Height 1 10 v4 h5) (aI trivial (aI rN (aI c3 (aG 5 c6 (aI (s_mSize_ok p0 v7 h8) (aI trivial (aI rN (aG 2 c6 (aG 3 c9 (aI (s_l1All_ok p0.Terrain 0 5 v10 h11) (aI trivial (aI rN (aI c9 (aG 4 c12 (aI (s_mEdges_ok p0 p0.Rivers v13 h14) (aI trivial (aI rN (aI c12 (aG 4 c15 (aI (s_mEdges_ok p0 p0.Roads v16 h17) (aI trivial (aI rN (aI c15 (t))))))))))))))))))))))))))))) ?_
      cases H
      exact er
     ·refine sx ([.res (cB v1)] ++ rg 3 true ([.res (cB v4)] ++ rg 6 true ([.res (cI v7)] ++ rg 5 true ([.res (cB v10)] ++ rg 5 true ([.res (cB v13), .g true] ++ rg 5 false []))))) [] [(2, cB false)] [] (fun t => aI (s_l1In_ok p0.Width 1 10 v1 h2) (aI trivial (aI rN (aG 3 c3 (aI (s_l1In_ok p0.Height 1 10 v4 h5) (aI trivial (aI rN (aI c3 (aG 5 c6 (aI (s_mSize_ok p0 v7 h8) (aI trivial (aI rN (aG 2 c6 (aG 3 c9 (aI (s_l1All_ok p0.Terrain 0 5 v10 h11) (aI trivial (aI rN (aI c9 (aG 4 c12 (aI (s_mEdges_ok p0 p0.Rivers v13 h14) (aI trivial (aI rN (aI c12 (aG 5 c15 (t))))))))))))))))))))))))) ?_
      cases H
      exact er
    ·refine sx ([.res (cB v1)] ++ rg 3 true ([.res (cB v4)] ++ rg 6 true ([.res (cI v7)] ++ rg 5 true ([.res (cB v10), .g true] ++ rg 10 false [])))) [] [(2, cB false)] [] (fun t => aI (s_l1In_ok p0.Width 1 10 v1 h2) (aI trivial (aI rN (aG 3 c3 (aI (s_l1In_ok p0.Height 1 10 v4 h5) (aI trivial (aI rN (aI c3 (aG 5 c6 (aI (s_mSize_ok p0 v7 h8) (aI trivial (aI rN (aG 2 c6 (aG 3 c9 (aI (s_l1All_ok p0.Terrain 0 5 v10 h11) (aI trivial (aI rN (aI c9 (aG 5 c12 (aG 5 rF (t))))))))))))))))))))) ?_
     cases H
     exact er
   ·refine sx ([.res (cB v1)] ++ rg 3 true ([.res (cB v4)] ++ rg 6 true ([.res (cI v7)] ++ rg 2 true (rg 14 false [])))) [] [(2, cB false)] [] (fun t => aI (s_l1In_ok p0.Width 1 10 v1 h2) (aI trivial (aI rN (aG 3 c3 (aI (s_l1In_ok p0.Height 1 10 v4 h5) (aI trivial (aI rN (aI c3 (aG 5 c6 (aI (s_mSize_ok p0 v7 h8) (aI trivial (aI rN (aG 2 c6 (aG 4 c9 (aG 10 rF (t)))))))))))))))) ?_
    cases H
    exact er
  ·refine sx ([.res (cB v1)] ++ rg 3 true ([.res (cB v4), .g true] ++ rg 21 false [])) [] [(2, cB false)] [] (fun t => aI (s_l1In_ok p0.Width 1 10 v1 h2) (aI trivial (aI rN (aG 3 c3 (aI (s_l1In_ok p0.Height 1 10 v4 h5) (aI trivial (aI rN (aI c3 (aG 7 c6 (aG 14 rF (t))))))))))) ?_
   cases H
   exact er
 ·refine sx ([.res (cB v1)] ++ rg 25 false []) [] [(2, cB false)] [] (fun t => aI (s_l1In_ok p0.Width 1 10 v1 h2) (aI trivial (aI rN (aG 4 c3 (aG 21 rF (t)))))) ?_
  cases H
  exact er
def s_bGood_ir : S :=
 (sq [o 1 (.box 12 (.t 0)), o 2 (.mv bF)]
 (sq [oa 3 0 1, o 4 (.load 7 true (.t 3)), o 5 (.call 32 [.t 4]), om 6 5, oh 7 (.fad 7 (.t 1)) 6, oh 8 (.load 5 true (.t 7)) 6, oh 9 (.call 33 [.t 8]) 6, o 10 (.pick (.t 6) (.t 9) bF), om 11 10, oh 12 (.fad 7 (.t 1)) 11, oh 13 (.fad 2 (.t 12)) 11, oh 14 (.load 1 false (.t 13)) 11, oh 15 (.fad 0 (.t 1)) 11, oh 16 (.fad 0 (.t 15)) 11, oh 17 (.load 1 false (.t 16)) 11, oh 18 (.len (.t 17)) 11, oh 19 (.bin .sub (.t 18) (iv 1)) 11, oh 20 (.call 34 [.t 14, .v (.int .i64 0), .t 19]) 11, o 21 (.pick (.t 11) (.t 20) bF), om 2 21]
 .ret))
noncomputable def X.s_bGood (p0 : TBoard) : Option Bool :=
 ((X.s_rGood p0.Rules).bind fun v1 => (bif v1 then ((X.s_mGood p0.Map).bind fun v4 => (bif v4 then ((X.s_l1All p0.Map.Terrain 0 (W ((p0.Rules.Terrains.length : Int) - 1))).bind fun v7 => some v7) else some false)) else some false))
theorem s_bGood_ok (p0 : TBoard) (r : Bool) (H : X.s_bGood p0 = some r) : FK 15 [.agg (eTBoard p0)] (cB r) := by
 unfold X.s_bGood at H
 refine fi Tryd.f15 s_bGood_ir [(2, cB r)] [] glL Tryd.func15 ?_
 refine so [] [] [(1, pk 1)] [(1, va (eTBoard p0))] id ?_
 obtain ⟨v1, h2, H⟩ := oB H
 rcases oC H with ⟨c3, H⟩ | ⟨c3, H⟩
 ·obtain ⟨v4, h5, H⟩ := oB H
  rcases oC H with ⟨c6, H⟩ | ⟨c6, H⟩
  ·obtain ⟨v7, h8, H⟩ := oB H
   refine so ([.res (cB v1)] ++ rg 3 true ([.res (cB v4)] ++ rg 10 true [.res (cB v7), .g true])) [] [(2, cB v7)] [] (fun t => aI (s_rGood_ok p0.Rules v1 h2) (aG 3 c3 (aI (s_mGood_ok p0.Map v4 h5) (aI c3 (aG 7 c6 (lI p0.Rules.Terrains (aG 2 c6 (aI (s_l1All_ok p0.Map.Terrain 0 (W ((p0.Rules.Terrains.length : Int) - 1)) v7 h8) (aI c6 (t)))))))))) ?_
   cases H
   exact er
  ·refine so ([.res (cB v1)] ++ rg 3 true ([.res (cB v4), .g true] ++ rg 10 false [])) [] [(2, cB false)] [] (fun t => aI (s_rGood_ok p0.Rules v1 h2) (aG 3 c3 (aI (s_mGood_ok p0.Map v4 h5) (aI c3 (aG 10 c6 (t)))))) ?_
   cases H
   exact er
 ·refine so ([.res (cB v1)] ++ rg 14 false []) [] [(2, cB false)] [] (fun t => aI (s_rGood_ok p0.Rules v1 h2) (aG 4 c3 (aG 10 rF (t)))) ?_
  cases H
  exact er
def s_fgNew_ir : S :=
 (sq [o 1 (.box 12 (.t 0)), o 2 (.alloc [.nil, .nil])]
 (.seq (.drw [(0, 4), (1, 4), (2, 4), (3, 4), (0, 5), (1, 5), (2, 5), (3, 5), (3, 6), (3, 7), (0, 9), (1, 9), (2, 9), (3, 9), (4, 9), (5, 9), (6, 9), (7, 9), (8, 9)] [oa 5 7 1, o 6 (.load 5 true (.t 5)), o 7 (.call 35 [.t 6]), o 8 (.msl 1 8 [.int .i64 0] (.t 7)), oa 9 7 1, o 10 (.load 5 true (.t 9)), o 11 (.call 35 [.t 10]), o 12 (.msl 1 8 [.int .i64 0] (.t 11)), o 13 (.build [.nil, .nil] [(0, 1, .t 8), (1, 1, .t 12)]), o 3 (.alloc [.nil, .nil]), os 2 3 13])
 (.seq (sq [oa 14 0 3, ol 15 14, o 16 (.len (.t 15)), o 17 (.mv (iv 0))]
 (.blk 0 (.loop (sq [o 18 (.bin .lss (.t 17) (.t 16))]
   (.seq (.ite (.t 18) .skip
   (.exit 0))
   (.seq (.blk 1 (sq [om 19 17, om 4 19]
    (.ops [oa 20 0 3, ol 21 20, om 22 4, o 23 (.iad 1 (.t 21) (.t 22)), ⟨none, .store 1 (.t 23) (.v (.int .i64 (-1))), none⟩])))
   (.ops [o 24 (.bin .add (.t 17) (iv 1)), om 17 24])))))))
 (sq [o 25 (.load 2 true (.t 3)), os 2 2 25]
 .ret))))
noncomputable def X.s_fgNew (p0 : TBoard) : Option TMemory :=
 ((X.s_mSize p0.Map).bind fun v1 => (if 0 ≤ v1 ∧ v1.toNat ≤ LIM then ((X.s_mSize p0.Map).bind fun v4 => (if 0 ≤ v4 ∧ v4.toNat ≤ LIM then ((loop (fun (x14 : (Int × (List Int))) => ((bif (decide (x14.1 < ((List.replicate v1.toNat zI).length : Int))) then (if 0 ≤ x14.1 ∧ x14.1 < (x14.2.length : Int) then some (Sum.inl ((W (x14.1 + 1)), (x14.2.set x14.1.toNat (-1)))) else none) else some (Sum.inr x14.2)) : Option ((Int × (List Int)) ⊕ (List Int)))) (0, (List.replicate v1.toNat zI))).bind fun y18 => some (TMemory.mk y18 (List.replicate v4.toNat zI))) else none)) else none))
theorem s_fgNew_ok (p0 : TBoard) (r : TMemory) (H : X.s_fgNew p0 = some r) : FK 16 [.agg (eTBoard p0)] (.agg (eTMemory r)) := by
 unfold X.s_fgNew at H
 refine fi Tryd.f16 s_fgNew_ir [(2, pk 2)] [(2, va (eTMemory r))] glL Tryd.func16 ?_
 refine so [] [] [(1, pk 1), (2, pk 2)] [(1, va (eTBoard p0)), (2, .var [.nil, .nil] false)] id ?_
 obtain ⟨v1, h2, H⟩ := oB H
 obtain ⟨g3, H⟩ := oI H
 obtain ⟨v4, h5, H⟩ := oB H
 obtain ⟨g6, H⟩ := oI H
 refine xn [.res (cI v1), .no, fh eI zI (List.replicate v1.toNat zI), .res (cI v4), .no, fh eI zI (List.replicate v4.toNat zI)] [] [(3, pk 3)] [] [(3, .var [.own 8 1 0 ((List.replicate v1.toNat zI).length), .own 12 1 0 ((List.replicate v4.toNat zI).length)] false), (8, ar 1 eI zI (List.replicate v1.toNat zI)), (12, ar 1 eI zI (List.replicate v4.toNat zI))] (fun t => aI (s_mSize_ok p0.Map v1 h2) (aI trivial (aI rN (aI (And.intro g3.1 (And.intro (List.length_replicate (n := v1.toNat) (a := zI)).symm (Nat.le_trans (Nat.le_of_eq List.length_replicate) g3.2 : (List.replicate v1.toNat zI).length ≤ LIM))) (aI (fF_rep eI zI zI v1.toNat) (aI (s_mSize_ok p0.Map v4 h5) (aI trivial (aI rN (aI (And.intro g6.1 (And.intro (List.length_replicate (n := v4.toNat) (a := zI)).symm (Nat.le_trans (Nat.le_of_eq List.length_replicate) g6.2 : (List.replicate v4.toNat zI).length ≤ LIM))) (aI (fF_rep eI zI zI v4.toNat) (t))))))))))) ?_
 refine seq_in ?_
 refine sn [] [] [(16, cL (List.replicate v1.toNat zI)), (17, cI 0)] [1] [] (fun t => (fun (_ : (List.replicate v1.toNat zI).length ≤ maxLen) => t)) ?_
 refine ends_blk ?_
 obtain ⟨y18, h19, H⟩ := oB H
 refine tl [] [(2, pk 2), (3, pk 3), (16, cL (List.replicate v1.toNat zI)), (17, cI 0)] [(2, .var [.nil, .nil] false), (3, .var [.own 8 1 0 ((List.replicate v1.toNat zI).length), .own 12 1 0 ((List.replicate v4.toNat zI).length)] false), (8, ar 1 eI zI (List.replicate v1.toNat zI)), (12, ar 1 eI zI (List.replicate v4.toNat zI))] id ?_
 refine loop_in (fun (x : (Int × (List Int))) => lit [(2, pk 2), (3, pk 3), (16, cL (List.replicate v1.toNat zI)), (17, cI x.1)] [(2, .var [.nil, .nil] false), (3, .var [.own 8 1 0 x.2.length, .own 12 1 0 ((List.replicate v4.toNat zI).length)] false), (8, ar 1 eI zI x.2), (12, ar 1 eI zI (List.replicate v4.toNat zI))]) (fun (z : (List Int)) => At (.exit 0) (lit [(2, pk 2), (3, pk 3)] [(2, .var [.nil, .nil] false), (3, .var [.own 8 1 0 z.length, .own 12 1 0 ((List.replicate v4.toNat zI).length)] false), (8, ar 1 eI zI z), (12, ar 1 eI zI (List.replicate v4.toNat zI))])) h19 ?_ ?_
 ·clear H h19
  intro x14 y0 H
  refine sn [] [] [(18, cB (decide (x14.1 < ((List.replicate v1.toNat zI).length : Int))))] [] [] id ?_
  refine seq_in ?_
  rcases oC H with ⟨c16, H⟩ | ⟨c16, H⟩
  ·refine it c16 ?_
   refine sk ?_
   refine seq_in ?_
   refine ends_blk ?_
   refine sn [] [] [(4, cI x14.1)] [] [] id ?_
   obtain ⟨g17, H⟩ := oI H
   refine oo [.no, .fn 0 (fF eI zI (x14.2.set x14.1.toNat (-1)))] [] [(2, pk 2), (3, pk 3), (16, cL (List.replicate v1.toNat zI)), (17, cI x14.1)] [(2, .var [.nil, .nil] false), (3, .var [.own 8 1 0 x14.2.length, .own 12 1 0 ((List.replicate v4.toNat zI).length)] false), (8, .arr 1 x14.2.length (fF eI zI (x14.2.set x14.1.toNat (-1))) false), (12, ar 1 eI zI (List.replicate v4.toNat zI))] (fun t => aI g17 (aI rT (aI (nat_lt g17) (aI (by decide : 0 + 1 ≤ 1) (aI (fF_set eI zI x14.2 x14.1.toNat (-1) (nat_lt g17) x14.2.length) (t)))))) ?_
   change EndsI _ _ _ _ _ _
   refine oo [] [.relc 3 0 ((x14.2.set x14.1.toNat (-1)).length), .rep 8 ((x14.2.set x14.1.toNat (-1)).length) (fF eI zI (x14.2.set x14.1.toNat (-1)))] [(2, pk 2), (3, pk 3), (16, cL (List.replicate v1.toNat zI)), (17, cI (W (x14.1 + 1)))] [(2, .var [.nil, .nil] false), (3, .var [.own 8 1 0 ((x14.2.set x14.1.toNat (-1)).length), .own 12 1 0 ((List.replicate v4.toNat zI).length)] false), (8, ar 1 eI zI (x14.2.set x14.1.toNat (-1))), (12, ar 1 eI zI (List.replicate v4.toNat zI))] (fun t => aI (by simp : x14.2.length = (x14.2.set x14.1.toNat (-1)).length) (aI (Nat.le_of_eq (by simp : (x14.2.set x14.1.toNat (-1)).length = x14.2.length)) (aI (fun _ _ => rfl : ∀ i, i < (x14.2.set x14.1.toNat (-1)).length → (fF eI zI (x14.2.set x14.1.toNat (-1))) i = (fF eI zI (x14.2.set x14.1.toNat (-1))) i) (t)))) ?_
   cases H
   exact rr
  ·refine jf c16 ?_
   refine tl [] [(2, pk 2), (3, pk 3)] [(2, .var [.nil, .nil] false), (3, .var [.own 8 1 0 x14.2.length, .own 12 1 0 ((List.replicate v4.toNat zI).length)] false), (8, ar 1 eI zI x14.2), (12, ar 1 eI zI (List.replicate v4.toNat zI))] id ?_
   refine ends_exit ?_
   cases H
   exact rse
 ·clear h19
  rintro e s ⟨rfl, rfl⟩
  change EndsI _ _ _ _ _ _
  refine sn [] [] [] [2] [(2, .var [.own 8 1 0 y18.length, .own 12 1 0 ((List.replicate v4.toNat zI).length)] false)] id ?_
  refine tl [.frc 2 0, .frc 2 1] [(2, pk 2)] [(2, .var [dat 1 eI zI y18, dat 1 eI zI (List.replicate v4.toNat zI)] false)] (fun t => aI (Nat.le_refl y18.length) (aI (Nat.le_refl ((List.replicate v4.toNat zI).length)) (t))) ?_
  cases H
  exact er
def s_NewMemory_ir : S :=
 (sq [o 1 (.box 12 (.t 0)), o 2 (.alloc [.nil, .nil]), o 3 (.mv bF)]
 (.seq (sq [o 4 (.load 12 true (.t 1)), o 5 (.call 15 [.t 4]), o 6 (.not (.t 5))]
 (.ite (.t 6) (sq [o 7 (.build [.nil, .nil] []), os 2 2 7, o 3 (.mv bF)]
  .ret)
 .skip))
 (sq [o 8 (.load 12 true (.t 1)), o 9 (.call 16 [.t 8]), os 2 2 9, o 3 (.mv bT)]
 .ret)))
noncomputable def X.s_NewMemory (p0 : TBoard) : Option (TMemory × Bool) :=
 ((X.s_bGood p0).bind fun v1 => (bif (!v1) then some ((TMemory.mk ([] : List Int) ([] : List Int)), false) else ((X.s_fgNew p0).bind fun v4 => some (v4, true))))
theorem s_NewMemory_ok (p0 : TBoard) (r : (TMemory × Bool)) (H : X.s_NewMemory p0 = some r) : FK 5 [.agg (eTBoard p0)] (.tup [(true, [dat 1 eI zI r.1.Turns, dat 1 eI zI r.1.Counts]), (false, [.bool r.2])]) := by
 unfold X.s_NewMemory at H
 refine fi Tryd.f5 s_NewMemory_ir [(2, pk 2), (3, cB r.2)] [(2, va (eTMemory r.1))] glL Tryd.func5 ?_
 refine so [] [] [(1, pk 1), (2, pk 2)] [(1, va (eTBoard p0)), (2, .var [.nil, .nil] false)] id ?_
 refine seq_in ?_
 obtain ⟨v1, h2, H⟩ := oB H
 refine sn [.res (cB v1)] [] [(6, cB (!v1))] [] [] (aI (s_bGood_ok p0 v1 h2)) ?_
 rcases oC H with ⟨c3, H⟩ | ⟨c3, H⟩
 ·refine it c3 ?_
  refine sn [] [] [(3, cB false)] [] [] id ?_
  refine tl [.nldc 2 0 1 (fF eI zI ([] : List Int)), .nldc 2 1 1 (fF eI zI ([] : List Int))] [(2, pk 2), (3, cB false)] [(2, .var [dat 1 eI zI ([] : List Int), dat 1 eI zI ([] : List Int)] false)] id ?_
  cases H
  exact er
 ·refine jf c3 ?_
  refine sk ?_
  obtain ⟨v4, h5, H⟩ := oB H
  refine sn [.res (.agg (eTMemory v4))] [] [(3, cB true)] [2] [(2, va (eTMemory v4))] (aI (s_fgNew_ok p0 v4 h5)) ?_
  refine tl [] [(2, pk 2), (3, cB true)] [(2, va (eTMemory v4))] id ?_
  cases H
  exact er
def l_toIntS_ir : S :=
 (sq [o 2 (.mv (.v (.nil)))]
 (sq [om 5 0, o 6 (.len (.t 5)), o 7 (.msl 1 8 [.int .i64 0] (.t 6)), om 3 7]
 (.seq (sq [o 4 (.mv (iv 0))]
 (.blk 0 (.loop (.seq (sq [om 8 4, om 9 0, o 10 (.len (.t 9)), o 11 (.bin .lss (.t 8) (.t 10))]
   (.ite (.t 11) .skip
   (.exit 0)))
   (.seq (.blk 1 (.ops [om 14 3, om 15 4, om 16 0, om 17 4, o 18 (.iad 1 (.t 16) (.t 17)), ol 19 18, o 20 (.iad 1 (.t 14) (.t 15)), os 1 20 19]))
   (.ops [om 12 4, o 13 (.bin .add (.t 12) (iv 1)), om 4 13]))))))
 (sq [om 21 3, om 2 21]
 .ret))))
noncomputable def X.l_toIntS (p0 : (List Int)) : Option (List Int) :=
 (if 0 ≤ (p0.length : Int) ∧ (p0.length : Int).toNat ≤ LIM then ((loop (fun (x13 : (Int × (List Int))) => ((bif (decide (x13.1 < (p0.length : Int))) then ((at' zI p0 x13.1).bind fun v16 => (if 0 ≤ x13.1 ∧ x13.1 < (x13.2.length : Int) then some (Sum.inl ((W (x13.1 + 1)), (x13.2.set x13.1.toNat v16))) else none)) else some (Sum.inr x13.2)) : Option ((Int × (List Int)) ⊕ (List Int)))) (0, (List.replicate (p0.length : Int).toNat zI))).bind fun y19 => some y19) else none)
theorem l_toIntS_F_ok (p0 : (List Int)) (r : (List Int)) (H : X.l_toIntS p0 = some r) : FK 38 [.c (dat 1 eI zI p0)] (.c (.fr (dat 1 eI zI r))) := by
 unfold X.l_toIntS at H
 refine fn_fr (fn := Tryd.f38) (ir := l_toIntS_ir) (s1 := lit [(2, ow 900000 1 r)] [(900000, ar 1 eI zI r)]) (res0 := ow 900000 1 r) glL Tryd.func38 (by kernel_rfl) (by kernel_rfl) (by kernel_rfl) (by kernel_rfl) (FrTo.own rfl (Nat.le_refl _) (fun i _ => ⟨rfl, rfl⟩)) ?_
 refine sn [] [] [] [] [] id ?_
 obtain ⟨g1, H⟩ := oI H
 refine sn [fh eI zI (List.replicate (p0.length : Int).toNat zI)] [] [(3, ow 7 1 (List.replicate (p0.length : Int).toNat zI))] [] [(7, ar 1 eI zI (List.replicate (p0.length : Int).toNat zI))] (fun t => lI p0 (aI (And.intro g1.1 (And.intro (List.length_replicate (n := (p0.length : Int).toNat) (a := zI)).symm (Nat.le_trans (Nat.le_of_eq List.length_replicate) g1.2 : (List.replicate (p0.length : Int).toNat zI).length ≤ LIM))) (aI (fF_rep eI zI zI (p0.length : Int).toNat) (t)))) ?_
 refine seq_in ?_
 refine sn [] [] [(4, cI 0)] [] [] id ?_
 refine ends_blk ?_
 obtain ⟨y19, h20, H⟩ := oB H
 refine tl [] [(0, dc 1 eI zI p0), (3, ow 7 1 (List.replicate (p0.length : Int).toNat zI)), (4, cI 0)] [(7, ar 1 eI zI (List.replicate (p0.length : Int).toNat zI))] id ?_
 refine loop_in (fun (x : (Int × (List Int))) => lit [(0, dc 1 eI zI p0), (3, ow 7 1 x.2), (4, cI x.1)] [(7, ar 1 eI zI x.2)]) (fun (z : (List Int)) => At (.exit 0) (lit [(3, ow 7 1 z)] [(7, ar 1 eI zI z)])) h20 ?_ ?_
 ·clear H h20
  intro x13 y0 H
  refine seq_in ?_
  refine sn [] [] [(11, cB (decide (x13.1 < (p0.length : Int))))] [] [] (fun t => lI p0 (t)) ?_
  rcases oC H with ⟨c15, H⟩ | ⟨c15, H⟩
  ·refine it c15 ?_
   refine sk ?_
   refine seq_in ?_
   refine ends_blk ?_
   obtain ⟨v16, h17, H⟩ := oB H
   obtain ⟨g18, H⟩ := oI H
   refine oo [.cs (eI v16), .no, .fn 0 (fF eI zI (x13.2.set x13.1.toNat v16))] [] [(0, dc 1 eI zI p0), (3, ow 7 1 x13.2), (4, cI x13.1)] [(7, .arr 1 x13.2.length (fF eI zI (x13.2.set x13.1.toNat v16)) false)] (fun t => (a2 eI h17 (aI g18 (aI rT (aI (nat_lt g18) (aI (by decide : 0 + 1 ≤ 1) (aI (fF_set eI zI x13.2 x13.1.toNat v16 (nat_lt g18) x13.2.length) (t)))))))) ?_
   change EndsI _ _ _ _ _ _
   refine oo [] [.rel 3 ((x13.2.set x13.1.toNat v16).length), .rep 7 ((x13.2.set x13.1.toNat v16).length) (fF eI zI (x13.2.set x13.1.toNat v16))] [(0, dc 1 eI zI p0), (3, ow 7 1 (x13.2.set x13.1.toNat v16)), (4, cI (W (x13.1 + 1)))] [(7, ar 1 eI zI (x13.2.set x13.1.toNat v16))] (fun t => aI (by simp : x13.2.length = (x13.2.set x13.1.toNat v16).length) (aI (Nat.le_of_eq (by simp : (x13.2.set x13.1.toNat v16).length = x13.2.length)) (aI (fun _ _ => rfl : ∀ i, i < (x13.2.set x13.1.toNat v16).length → (fF eI zI (x13.2.set x13.1.toNat v16)) i = (fF eI zI (x13.2.set x13.1.toNat v16)) i) (t)))) ?_
   cases H
   exact rr
  ·refine jf c15 ?_
   refine tl [] [(3, ow 7 1 x13.2)] [(7, ar 1 eI zI x13.2)] id ?_
   refine ends_exit ?_
   cases H
   exact rse
 ·clear h20
  rintro e s ⟨rfl, rfl⟩
  change EndsI _ _ _ _ _ _
  refine sn [] [] [(2, ow 7 1 y19)] [] [] id ?_
  refine tl [.ren 7 900000] [(2, ow 900000 1 y19)] [(900000, ar 1 eI zI y19)] id ?_
  cases H
  exact er
def l_toTerrain_ir : S :=
 (sq [o 1 (.box 5 (.t 0)), o 2 (.alloc [.str [], .nil, .int .i64 0, .int .i64 0, .bool false])]
 (sq [o 3 (.alloc [.str [], .nil, .int .i64 0, .int .i64 0, .bool false])]
 (sq [oa 4 0 1, ol 5 4, oa 6 0 3, os 1 6 5]
 (sq [oa 7 1 1, ol 8 7, o 9 (.call 38 [.t 8]), oa 10 1 3, os 1 10 9]
 (sq [oa 11 2 1, ol 12 11, oa 13 2 3, os 1 13 12]
 (sq [oa 14 3 1, ol 15 14, oa 16 3 3, os 1 16 15]
 (sq [oa 17 4 1, ol 18 17, oa 19 4 3, os 1 19 18]
 (sq [o 20 (.load 5 true (.t 3)), os 5 2 20]
 .ret))))))))
noncomputable def X.l_toTerrain (p0 : TTerrain) : Option TTerrain :=
 ((X.l_toIntS p0.Cost).bind fun v1 => some (TTerrain.mk p0.Name v1 p0.Shift p0.Height p0.Blocks))
theorem l_toTerrain_F_ok (p0 : TTerrain) (r : TTerrain) (H : X.l_toTerrain p0 = some r) : FK 55 [.agg (eTTerrain p0)] (.agg (rTTerrain r)) := by
 unfold X.l_toTerrain at H
 refine fn_fr (fn := Tryd.f55) (ir := l_toTerrain_ir) (s1 := lit [(2, pk 2)] [(2, va (rTTerrain r))]) (res0 := .agg (rTTerrain r)) glL Tryd.func55 (by kernel_rfl) (by kernel_rfl) (by kernel_rfl) (by kernel_rfl) ((And.intro ((.inl ⟨rfl, rfl⟩)) (And.intro ((.inl ⟨rfl, rfl⟩)) (And.intro ((.inl ⟨rfl, rfl⟩)) (And.intro ((.inl ⟨rfl, rfl⟩)) (And.intro ((.inl ⟨rfl, rfl⟩)) trivial)))))) ?_
 refine so [] [] [(1, pk 1), (2, pk 2)] [(1, va (eTTerrain p0)), (2, .var [.str [], .nil, jI 0, jI 0, .bool false] false)] id ?_
 refine sn [] [] [(3, pk 3)] [] [(3, .var [.str [], .nil, jI 0, jI 0, .bool false] false)] id ?_
 refine sn [] [] [] [3] [(3, .var [.str p0.Name, .nil, jI 0, jI 0, .bool false] false)] id ?_
 obtain ⟨v1, h2, H⟩ := oB H
 refine sn [.res (.c (.fr (dat 1 eI zI v1)))] [] [] [3] [(3, .var [.str p0.Name, .fr (dat 1 eI zI v1), jI 0, jI 0, .bool false] false)] (aI (l_toIntS_F_ok p0.Cost v1 h2)) ?_
 refine sn [] [] [] [3] [(3, .var [.str p0.Name, .fr (dat 1 eI zI v1), jI p0.Shift, jI 0, .bool false] false)] id ?_
 refine sn [] [] [] [3] [(3, .var [.str p0.Name, .fr (dat 1 eI zI v1), jI p0.Shift, jI p0.Height, .bool false] false)] id ?_
 refine sn [] [] [] [3] [(3, .var [.str p0.Name, .fr (dat 1 eI zI v1), jI p0.Shift, jI p0.Height, .bool p0.Blocks] false)] id ?_
 refine sn [] [] [] [1, 2] [(2, .var [.str p0.Name, .fr (dat 1 eI zI v1), jI p0.Shift, jI p0.Height, .bool p0.Blocks] false)] id ?_
 refine tl [] [(2, pk 2)] [(2, .var [.str p0.Name, .fr (dat 1 eI zI v1), jI p0.Shift, jI p0.Height, .bool p0.Blocks] false)] id ?_
 cases H
 exact er
def l_toTerrainS_ir : S :=
 (sq [o 2 (.mv (.v (.nil)))]
 (sq [om 5 0, o 6 (.len (.t 5)), o 7 (.msl 5 64 [.str [], .nil, .int .i64 0, .int .i64 0, .bool false] (.t 6)), om 3 7]
 (.seq (sq [o 4 (.mv (iv 0))]
 (.blk 0 (.loop (.seq (sq [om 8 4, om 9 0, o 10 (.len (.t 9)), o 11 (.bin .lss (.t 8) (.t 10))]
   (.ite (.t 11) .skip
   (.exit 0)))
   (.seq (.blk 1 (.ops [om 14 3, om 15 4, om 16 0, om 17 4, o 18 (.iad 5 (.t 16) (.t 17)), o 19 (.load 5 true (.t 18)), o 20 (.call 55 [.t 19]), o 21 (.iad 5 (.t 14) (.t 15)), os 5 21 20]))
   (.ops [om 12 4, o 13 (.bin .add (.t 12) (iv 1)), om 4 13]))))))
 (sq [om 22 3, om 2 22]
 .ret))))
noncomputable def X.l_toTerrainS (p0 : (List TTerrain)) : Option (List TTerrain) :=
 (if 0 ≤ (p0.length : Int) ∧ (p0.length : Int).toNat ≤ LIM then ((loop (fun (x21 : (Int × (List TTerrain))) => ((bif (decide (x21.1 < (p0.length : Int))) then ((at' zTTerrain p0 x21.1).bind fun v24 => ((X.l_toTerrain v24).bind fun v26 => (if 0 ≤ x21.1 ∧ x21.1 < (x21.2.length : Int) then ((some (x21.2.set x21.1.toNat v26)).bind fun l29 => some (Sum.inl ((W (x21.1 + 1)), l29))) else none))) else some (Sum.inr x21.2)) : Option ((Int × (List TTerrain)) ⊕ (List TTerrain)))) (0, (List.replicate (p0.length : Int).toNat zTTerrain))).bind fun y31 => some y31) else none)
theorem l_toTerrainS_F_ok (p0 : (List TTerrain)) (r : (List TTerrain)) (H : X.l_toTerrainS p0 = some r) : FK 36 [.c (dat 5 eTTerrain zTTerrain p0)] (.c (.fr (dat 5 eTTerrain zTTerrain r))) := by
 unfold X.l_toTerrainS at H
 refine fn_fr (fn := Tryd.f36) (ir := l_toTerrainS_ir) (s1 := lit [(2, ow 900000 5 r)] [(900000, ar 5 eTTerrainF zTTerrain r)]) (res0 := ow 900000 5 r) glL Tryd.func36 (by kernel_rfl) (by kernel_rfl) (by kernel_rfl) (by kernel_rfl) (FrTo.own rfl (Nat.le_refl _) (fun i _ => ⟨rfl, rfl⟩)) ?_
 refine sn [] [] [] [] [] id ?_
 obtain ⟨g1, H⟩ := oI H
 refine sn [.fn (List.replicate (p0.length : Int).toNat zTTerrain).length (fun _ => [.str [], .nil, jI 0, jI 0, .bool false])] [.rpw 7 (fF eTTerrainF zTTerrain (List.replicate (p0.length : Int).toNat zTTerrain))] [(3, ow 7 5 (List.replicate (p0.length : Int).toNat zTTerrain))] [] [(7, ar 5 eTTerrainF zTTerrain (List.replicate (p0.length : Int).toNat zTTerrain))] (fun t => lI p0 (aI (And.intro g1.1 (And.intro (List.length_replicate (n := (p0.length : Int).toNat) (a := zTTerrain)).symm (Nat.le_trans (Nat.le_of_eq List.length_replicate) g1.2 : (List.replicate (p0.length : Int).toNat zTTerrain).length ≤ LIM))) (aI (fun _ _ => rfl : ∀ i, i < (List.replicate (p0.length : Int).toNat zTTerrain).length → (fun (_ : Nat) => ([.str [], .nil, jI 0, jI 0, .bool false] : List AC)) i = [.str [], .nil, jI 0, jI 0, .bool false]) (aI (fun i hi => (fF_rep eTTerrainF zTTerrain zTTerrain (p0.length : Int).toNat i hi) ▸ nTTerrainF : ∀ i, i < (List.replicate (p0.length : Int).toNat zTTerrain).length → LeR ((fun (_ : Nat) => ([.str [], .nil, jI 0, jI 0, .bool false] : List AC)) i) ((fF eTTerrainF zTTerrain (List.replicate (p0.length : Int).toNat zTTerrain)) i)) (t))))) ?_
 refine seq_in ?_
 refine sn [] [] [(4, cI 0)] [] [] id ?_
 refine ends_blk ?_
 obtain ⟨y31, h32, H⟩ := oB H
 refine tl [] [(0, dc 5 eTTerrain zTTerrain p0), (3, ow 7 5 (List.replicate (p0.length : Int).toNat zTTerrain)), (4, cI 0)] [(7, ar 5 eTTerrainF zTTerrain (List.replicate (p0.length : Int).toNat zTTerrain))] id ?_
 refine loop_in (fun (x : (Int × (List TTerrain))) => lit [(0, dc 5 eTTerrain zTTerrain p0), (3, ow 7 5 x.2), (4, cI x.1)] [(7, ar 5 eTTerrainF zTTerrain x.2)]) (fun (z : (List TTerrain)) => At (.exit 0) (lit [(3, ow 7 5 z)] [(7, ar 5 eTTerrainF zTTerrain z)])) h32 ?_ ?_
 ·clear H h32
  intro x21 y0 H
  refine seq_in ?_
  refine sn [] [] [(11, cB (decide (x21.1 < (p0.length : Int))))] [] [] (fun t => lI p0 (t)) ?_
  rcases oC H with ⟨c23, H⟩ | ⟨c23, H⟩
  ·refine it c23 ?_
   refine sk ?_
   refine seq_in ?_
   refine ends_blk ?_
   obtain ⟨v24, h25, H⟩ := oB H
   obtain ⟨v26, h27, H⟩ := oB H
   obtain ⟨g28, H⟩ := oI H
   obtain ⟨l29, h30, H⟩ := oB H
   refine oo [.cs (eTTerrain v24), .res (.agg (rTTerrain v26)), .no, .fn 0 (fF eTTerrainF zTTerrain l29)] [] [(0, dc 5 eTTerrain zTTerrain p0), (3, ow 7 5 x21.2), (4, cI x21.1)] [(7, .arr 5 x21.2.length (fF eTTerrainF zTTerrain l29) false)] (fun t => (a2 eTTerrain h25 (aI (l_toTerrain_F_ok v24 v26 h27) (aI g28 (aI rT (aI (nat_lt g28) (aI (by decide : 0 + 5 ≤ 5) (aI (fF_setN eTTerrainF zTTerrain h30 (nat_lt g28) x21.2.length) (t))))))))) ?_
   change EndsI _ _ _ _ _ _
   refine oo [] [.rel 3 l29.length, .rep 7 l29.length (fF eTTerrainF zTTerrain l29)] [(0, dc 5 eTTerrain zTTerrain p0), (3, ow 7 5 l29), (4, cI (W (x21.1 + 1)))] [(7, ar 5 eTTerrainF zTTerrain l29)] (fun t => aI (by simp [lenN h30] : x21.2.length = l29.length) (aI (Nat.le_of_eq (by simp [lenN h30] : l29.length = x21.2.length)) (aI (fun _ _ => rfl : ∀ i, i < l29.length → (fF eTTerrainF zTTerrain l29) i = (fF eTTerrainF zTTerrain l29) i) (t)))) ?_
   cases H
   exact rr
  ·refine jf c23 ?_
   refine tl [] [(3, ow 7 5 x21.2)] [(7, ar 5 eTTerrainF zTTerrain x21.2)] id ?_
   refine ends_exit ?_
   cases H
   exact rse
 ·clear h32
  rintro e s ⟨rfl, rfl⟩
  change EndsI _ _ _ _ _ _
  refine sn [] [] [(2, ow 7 5 y31)] [] [] id ?_
  refine tl [.ren 7 900000] [(2, ow 900000 5 y31)] [(900000, ar 5 eTTerrainF zTTerrain y31)] id ?_
  cases H
  exact er
def l_toKind_ir : S :=
 (sq [o 1 (.box 6 (.t 0)), o 2 (.alloc [.str [], .int .i64 0, .int .i64 0, .int .i64 0, .bool false, .int .i64 0])]
 (sq [o 3 (.alloc [.str [], .int .i64 0, .int .i64 0, .int .i64 0, .bool false, .int .i64 0])]
 (sq [oa 4 0 1, ol 5 4, oa 6 0 3, os 1 6 5]
 (sq [oa 7 1 1, ol 8 7, oa 9 1 3, os 1 9 8]
 (sq [oa 10 2 1, ol 11 10, oa 12 2 3, os 1 12 11]
 (sq [oa 13 3 1, ol 14 13, oa 15 3 3, os 1 15 14]
 (sq [oa 16 4 1, ol 17 16, oa 18 4 3, os 1 18 17]
 (sq [oa 19 5 1, ol 20 19, oa 21 5 3, os 1 21 20]
 (sq [o 22 (.load 6 true (.t 3)), os 6 2 22]
 .ret)))))))))
noncomputable def X.l_toKind (p0 : TKind) : Option TKind :=
 some p0
theorem l_toKind_ok (p0 : TKind) (r : TKind) (H : X.l_toKind p0 = some r) : FK 56 [.agg (eTKind p0)] (.agg (eTKind r)) := by
 unfold X.l_toKind at H
 refine fi Tryd.f56 l_toKind_ir [(2, pk 2)] [(2, va (eTKind r))] glL Tryd.func56 ?_
 refine so [] [] [(1, pk 1), (2, pk 2)] [(1, va (eTKind p0)), (2, .var [.str [], jI 0, jI 0, jI 0, .bool false, jI 0] false)] id ?_
 refine sn [] [] [(3, pk 3)] [] [(3, .var [.str [], jI 0, jI 0, jI 0, .bool false, jI 0] false)] id ?_
 refine sn [] [] [] [3] [(3, .var [.str p0.Name, jI 0, jI 0, jI 0, .bool false, jI 0] false)] id ?_
 refine sn [] [] [] [3] [(3, .var [.str p0.Name, jI p0.Strength, jI 0, jI 0, .bool false, jI 0] false)] id ?_
 refine sn [] [] [] [3] [(3, .var [.str p0.Name, jI p0.Strength, jI p0.Moves, jI 0, .bool false, jI 0] false)] id ?_
 refine sn [] [] [] [3] [(3, .var [.str p0.Name, jI p0.Strength, jI p0.Moves, jI p0.Steps, .bool false, jI 0] false)] id ?_
 refine sn [] [] [] [3] [(3, .var [.str p0.Name, jI p0.Strength, jI p0.Moves, jI p0.Steps, .bool p0.Zone, jI 0] false)] id ?_
 refine sn [] [] [] [3] [(3, va (eTKind p0))] id ?_
 refine sn [] [] [] [1, 2] [(2, va (eTKind p0))] id ?_
 refine tl [] [(2, pk 2)] [(2, va (eTKind p0))] id ?_
 cases H
 exact er
def l_toKindS_ir : S :=
 (sq [o 2 (.mv (.v (.nil)))]
 (sq [om 5 0, o 6 (.len (.t 5)), o 7 (.msl 6 56 [.str [], .int .i64 0, .int .i64 0, .int .i64 0, .bool false, .int .i64 0] (.t 6)), om 3 7]
 (.seq (sq [o 4 (.mv (iv 0))]
 (.blk 0 (.loop (.seq (sq [om 8 4, om 9 0, o 10 (.len (.t 9)), o 11 (.bin .lss (.t 8) (.t 10))]
   (.ite (.t 11) .skip
   (.exit 0)))
   (.seq (.blk 1 (.ops [om 14 3, om 15 4, om 16 0, om 17 4, o 18 (.iad 6 (.t 16) (.t 17)), o 19 (.load 6 true (.t 18)), o 20 (.call 56 [.t 19]), o 21 (.iad 6 (.t 14) (.t 15)), os 6 21 20]))
   (.ops [om 12 4, o 13 (.bin .add (.t 12) (iv 1)), om 4 13]))))))
 (sq [om 22 3, om 2 22]
 .ret))))
noncomputable def X.l_toKindS (p0 : (List TKind)) : Option (List TKind) :=
 (if 0 ≤ (p0.length : Int) ∧ (p0.length : Int).toNat ≤ LIM then ((loop (fun (x21 : (Int × (List TKind))) => ((bif (decide (x21.1 < (p0.length : Int))) then ((at' zTKind p0 x21.1).bind fun v24 => ((X.l_toKind v24).bind fun v26 => (if 0 ≤ x21.1 ∧ x21.1 < (x21.2.length : Int) then ((some (x21.2.set x21.1.toNat v26)).bind fun l29 => some (Sum.inl ((W (x21.1 + 1)), l29))) else none))) else some (Sum.inr x21.2)) : Option ((Int × (List TKind)) ⊕ (List TKind)))) (0, (List.replicate (p0.length : Int).toNat zTKind))).bind fun y31 => some y31) else none)
theorem l_toKindS_F_ok (p0 : (List TKind)) (r : (List TKind)) (H : X.l_toKindS p0 = some r) : FK 37 [.c (dat 6 eTKind zTKind p0)] (.c (.fr (dat 6 eTKind zTKind r))) := by
 unfold X.l_toKindS at H
 refine fn_fr (fn := Tryd.f37) (ir := l_toKindS_ir) (s1 := lit [(2, ow 900000 6 r)] [(900000, ar 6 eTKind zTKind r)]) (res0 := ow 900000 6 r) glL Tryd.func37 (by kernel_rfl) (by kernel_rfl) (by kernel_rfl) (by kernel_rfl) (FrTo.own rfl (Nat.le_refl _) (fun i _ => ⟨rfl, rfl⟩)) ?_
 refine sn [] [] [] [] [] id ?_
 obtain ⟨g1, H⟩ := oI H
 refine sn [fh eTKind zTKind (List.replicate (p0.length : Int).toNat zTKind)] [] [(3, ow 7 6 (List.replicate (p0.length : Int).toNat zTKind))] [] [(7, ar 6 eTKind zTKind (List.replicate (p0.length : Int).toNat zTKind))] (fun t => lI p0 (aI (And.intro g1.1 (And.intro (List.length_replicate (n := (p0.length : Int).toNat) (a := zTKind)).symm (Nat.le_trans (Nat.le_of_eq List.length_replicate) g1.2 : (List.replicate (p0.length : Int).toNat zTKind).length ≤ LIM))) (aI (fF_rep eTKind zTKind zTKind (p0.length : Int).toNat) (t)))) ?_
 refine seq_in ?_
 refine sn [] [] [(4, cI 0)] [] [] id ?_
 refine ends_blk ?_
 obtain ⟨y31, h32, H⟩ := oB H
 refine tl [] [(0, dc 6 eTKind zTKind p0), (3, ow 7 6 (List.replicate (p0.length : Int).toNat zTKind)), (4, cI 0)] [(7, ar 6 eTKind zTKind (List.replicate (p0.length : Int).toNat zTKind))] id ?_
 refine loop_in (fun (x : (Int × (List TKind))) => lit [(0, dc 6 eTKind zTKind p0), (3, ow 7 6 x.2), (4, cI x.1)] [(7, ar 6 eTKind zTKind x.2)]) (fun (z : (List TKind)) => At (.exit 0) (lit [(3, ow 7 6 z)] [(7, ar 6 eTKind zTKind z)])) h32 ?_ ?_
 ·clear H h32
  intro x21 y0 H
  refine seq_in ?_
  refine sn [] [] [(11, cB (decide (x21.1 < (p0.length : Int))))] [] [] (fun t => lI p0 (t)) ?_
  rcases oC H with ⟨c23, H⟩ | ⟨c23, H⟩
  ·refine it c23 ?_
   refine sk ?_
   refine seq_in ?_
   refine ends_blk ?_
   obtain ⟨v24, h25, H⟩ := oB H
   obtain ⟨v26, h27, H⟩ := oB H
   obtain ⟨g28, H⟩ := oI H
   obtain ⟨l29, h30, H⟩ := oB H
   refine oo [.cs (eTKind v24), .res (.agg (eTKind v26)), .no, .fn 0 (fF eTKind zTKind l29)] [] [(0, dc 6 eTKind zTKind p0), (3, ow 7 6 x21.2), (4, cI x21.1)] [(7, .arr 6 x21.2.length (fF eTKind zTKind l29) false)] (fun t => (a2 eTKind h25 (aI (l_toKind_ok v24 v26 h27) (aI g28 (aI rT (aI (nat_lt g28) (aI (by decide : 0 + 6 ≤ 6) (aI (fF_setN eTKind zTKind h30 (nat_lt g28) x21.2.length) (t))))))))) ?_
   change EndsI _ _ _ _ _ _
   refine oo [] [.rel 3 l29.length, .rep 7 l29.length (fF eTKind zTKind l29)] [(0, dc 6 eTKind zTKind p0), (3, ow 7 6 l29), (4, cI (W (x21.1 + 1)))] [(7, ar 6 eTKind zTKind l29)] (fun t => aI (by simp [lenN h30] : x21.2.length = l29.length) (aI (Nat.le_of_eq (by simp [lenN h30] : l29.length = x21.2.length)) (aI (fun _ _ => rfl : ∀ i, i < l29.length → (fF eTKind zTKind l29) i = (fF eTKind zTKind l29) i) (t)))) ?_
   cases H
   exact rr
  ·refine jf c23 ?_
   refine tl [] [(3, ow 7 6 x21.2)] [(7, ar 6 eTKind zTKind x21.2)] id ?_
   refine ends_exit ?_
   cases H
   exact rse
 ·clear h32
  rintro e s ⟨rfl, rfl⟩
  change EndsI _ _ _ _ _ _
  refine sn [] [] [(2, ow 7 6 y31)] [] [] id ?_
  refine tl [.ren 7 900000] [(2, ow 900000 6 y31)] [(900000, ar 6 eTKind zTKind y31)] id ?_
  cases H
  exact er
def l_toRules_ir : S :=
 (sq [o 1 (.box 7 (.t 0)), o 2 (.alloc [.nil, .nil, .int .i64 0, .int .i64 0, .int .i64 0, .int .i64 0, .int .i64 0])]
 (sq [o 3 (.alloc [.nil, .nil, .int .i64 0, .int .i64 0, .int .i64 0, .int .i64 0, .int .i64 0])]
 (sq [oa 4 0 1, ol 5 4, o 6 (.call 36 [.t 5]), oa 7 0 3, os 1 7 6]
 (sq [oa 8 1 1, ol 9 8, o 10 (.call 37 [.t 9]), oa 11 1 3, os 1 11 10]
 (sq [oa 12 2 1, ol 13 12, oa 14 2 3, os 1 14 13]
 (sq [oa 15 3 1, ol 16 15, oa 17 3 3, os 1 17 16]
 (sq [oa 18 4 1, ol 19 18, oa 20 4 3, os 1 20 19]
 (sq [oa 21 5 1, ol 22 21, oa 23 5 3, os 1 23 22]
 (sq [oa 24 6 1, ol 25 24, oa 26 6 3, os 1 26 25]
 (sq [o 27 (.load 7 true (.t 3)), os 7 2 27]
 .ret))))))))))
noncomputable def X.l_toRules (p0 : TRules) : Option TRules :=
 ((X.l_toTerrainS p0.Terrains).bind fun v1 => ((X.l_toKindS p0.Kinds).bind fun v3 => some (TRules.mk v1 v3 p0.Stack p0.River p0.Road p0.Supply p0.Turns)))
theorem l_toRules_F_ok (p0 : TRules) (r : TRules) (H : X.l_toRules p0 = some r) : FK 17 [.agg (eTRules p0)] (.agg (rTRules r)) := by
 unfold X.l_toRules at H
 refine fn_fr (fn := Tryd.f17) (ir := l_toRules_ir) (s1 := lit [(2, pk 2)] [(2, va (rTRules r))]) (res0 := .agg (rTRules r)) glL Tryd.func17 (by kernel_rfl) (by kernel_rfl) (by kernel_rfl) (by kernel_rfl) ((And.intro ((.inl ⟨rfl, rfl⟩)) (And.intro ((.inl ⟨rfl, rfl⟩)) (And.intro ((.inl ⟨rfl, rfl⟩)) (And.intro ((.inl ⟨rfl, rfl⟩)) (And.intro ((.inl ⟨rfl, rfl⟩)) (And.intro ((.inl ⟨rfl, rfl⟩)) (And.intro ((.inl ⟨rfl, rfl⟩)) trivial)))))))) ?_
 refine so [] [] [(1, pk 1), (2, pk 2)] [(1, va (eTRules p0)), (2, .var [.nil, .nil, jI 0, jI 0, jI 0, jI 0, jI 0] false)] id ?_
 refine sn [] [] [(3, pk 3)] [] [(3, .var [.nil, .nil, jI 0, jI 0, jI 0, jI 0, jI 0] false)] id ?_
 obtain ⟨v1, h2, H⟩ := oB H
 refine sn [.res (.c (.fr (dat 5 eTTerrain zTTerrain v1)))] [] [] [3] [(3, .var [.fr (dat 5 eTTerrain zTTerrain v1), .nil, jI 0, jI 0, jI 0, jI 0, jI 0] false)] (aI (l_toTerrainS_F_ok p0.Terrains v1 h2)) ?_
 obtain ⟨v3, h4, H⟩ := oB H
 refine sn [.res (.c (.fr (dat 6 eTKind zTKind v3)))] [] [] [3] [(3, .var [.fr (dat 5 eTTerrain zTTerrain v1), .fr (dat 6 eTKind zTKind v3), jI 0, jI 0, jI 0, jI 0, jI 0] false)] (aI (l_toKindS_F_ok p0.Kinds v3 h4)) ?_
 refine sn [] [] [] [3] [(3, .var [.fr (dat 5 eTTerrain zTTerrain v1), .fr (dat 6 eTKind zTKind v3), jI p0.Stack, jI 0, jI 0, jI 0, jI 0] false)] id ?_
 refine sn [] [] [] [3] [(3, .var [.fr (dat 5 eTTerrain zTTerrain v1), .fr (dat 6 eTKind zTKind v3), jI p0.Stack, jI p0.River, jI 0, jI 0, jI 0] false)] id ?_
 refine sn [] [] [] [3] [(3, .var [.fr (dat 5 eTTerrain zTTerrain v1), .fr (dat 6 eTKind zTKind v3), jI p0.Stack, jI p0.River, jI p0.Road, jI 0, jI 0] false)] id ?_
 refine sn [] [] [] [3] [(3, .var [.fr (dat 5 eTTerrain zTTerrain v1), .fr (dat 6 eTKind zTKind v3), jI p0.Stack, jI p0.River, jI p0.Road, jI p0.Supply, jI 0] false)] id ?_
 refine sn [] [] [] [3] [(3, .var [.fr (dat 5 eTTerrain zTTerrain v1), .fr (dat 6 eTKind zTKind v3), jI p0.Stack, jI p0.River, jI p0.Road, jI p0.Supply, jI p0.Turns] false)] id ?_
 refine so [] [] [(2, pk 2)] [(2, .var [.fr (dat 5 eTTerrain zTTerrain v1), .fr (dat 6 eTKind zTKind v3), jI p0.Stack, jI p0.River, jI p0.Road, jI p0.Supply, jI p0.Turns] false)] id ?_
 cases H
 exact er
def l_toMap_ir : S :=
 (sq [o 1 (.box 5 (.t 0)), o 2 (.alloc [.int .i64 0, .int .i64 0, .nil, .nil, .nil])]
 (sq [o 3 (.alloc [.int .i64 0, .int .i64 0, .nil, .nil, .nil])]
 (sq [oa 4 0 1, ol 5 4, oa 6 0 3, os 1 6 5]
 (sq [oa 7 1 1, ol 8 7, oa 9 1 3, os 1 9 8]
 (sq [oa 10 2 1, ol 11 10, o 12 (.call 38 [.t 11]), oa 13 2 3, os 1 13 12]
 (sq [oa 14 3 1, ol 15 14, o 16 (.call 38 [.t 15]), oa 17 3 3, os 1 17 16]
 (sq [oa 18 4 1, ol 19 18, o 20 (.call 38 [.t 19]), oa 21 4 3, os 1 21 20]
 (sq [o 22 (.load 5 true (.t 3)), os 5 2 22]
 .ret))))))))
noncomputable def X.l_toMap (p0 : TMap) : Option TMap :=
 ((X.l_toIntS p0.Terrain).bind fun v1 => ((X.l_toIntS p0.Rivers).bind fun v3 => ((X.l_toIntS p0.Roads).bind fun v5 => some (TMap.mk p0.Width p0.Height v1 v3 v5))))
theorem l_toMap_F_ok (p0 : TMap) (r : TMap) (H : X.l_toMap p0 = some r) : FK 18 [.agg (eTMap p0)] (.agg (rTMap r)) := by
 unfold X.l_toMap at H
 refine fn_fr (fn := Tryd.f18) (ir := l_toMap_ir) (s1 := lit [(2, pk 2)] [(2, va (rTMap r))]) (res0 := .agg (rTMap r)) glL Tryd.func18 (by kernel_rfl) (by kernel_rfl) (by kernel_rfl) (by kernel_rfl) ((And.intro ((.inl ⟨rfl, rfl⟩)) (And.intro ((.inl ⟨rfl, rfl⟩)) (And.intro ((.inl ⟨rfl, rfl⟩)) (And.intro ((.inl ⟨rfl, rfl⟩)) (And.intro ((.inl ⟨rfl, rfl⟩)) trivial)))))) ?_
 refine so [] [] [(1, pk 1), (2, pk 2)] [(1, va (eTMap p0)), (2, .var [jI 0, jI 0, .nil, .nil, .nil] false)] id ?_
 refine sn [] [] [(3, pk 3)] [] [(3, .var [jI 0, jI 0, .nil, .nil, .nil] false)] id ?_
 refine sn [] [] [] [3] [(3, .var [jI p0.Width, jI 0, .nil, .nil, .nil] false)] id ?_
 refine sn [] [] [] [3] [(3, .var [jI p0.Width, jI p0.Height, .nil, .nil, .nil] false)] id ?_
 obtain ⟨v1, h2, H⟩ := oB H
 refine sn [.res (.c (.fr (dat 1 eI zI v1)))] [] [] [3] [(3, .var [jI p0.Width, jI p0.Height, .fr (dat 1 eI zI v1), .nil, .nil] false)] (aI (l_toIntS_F_ok p0.Terrain v1 h2)) ?_
 obtain ⟨v3, h4, H⟩ := oB H
 refine sn [.res (.c (.fr (dat 1 eI zI v3)))] [] [] [3] [(3, .var [jI p0.Width, jI p0.Height, .fr (dat 1 eI zI v1), .fr (dat 1 eI zI v3), .nil] false)] (aI (l_toIntS_F_ok p0.Rivers v3 h4)) ?_
 obtain ⟨v5, h6, H⟩ := oB H
 refine sn [.res (.c (.fr (dat 1 eI zI v5)))] [] [] [3] [(3, .var [jI p0.Width, jI p0.Height, .fr (dat 1 eI zI v1), .fr (dat 1 eI zI v3), .fr (dat 1 eI zI v5)] false)] (aI (l_toIntS_F_ok p0.Roads v5 h6)) ?_
 refine sn [] [] [] [1, 2] [(2, .var [jI p0.Width, jI p0.Height, .fr (dat 1 eI zI v1), .fr (dat 1 eI zI v3), .fr (dat 1 eI zI v5)] false)] id ?_
 refine tl [] [(2, pk 2)] [(2, .var [jI p0.Width, jI p0.Height, .fr (dat 1 eI zI v1), .fr (dat 1 eI zI v3), .fr (dat 1 eI zI v5)] false)] id ?_
 cases H
 exact er
def l_toBoard_ir : S :=
 (sq [o 1 (.box 12 (.t 0)), o 2 (.alloc [.nil, .nil, .int .i64 0, .int .i64 0, .int .i64 0, .int .i64 0, .int .i64 0, .int .i64 0, .int .i64 0, .nil, .nil, .nil])]
 (sq [o 3 (.alloc [.nil, .nil, .int .i64 0, .int .i64 0, .int .i64 0, .int .i64 0, .int .i64 0, .int .i64 0, .int .i64 0, .nil, .nil, .nil])]
 (sq [oa 4 0 1, o 5 (.load 7 true (.t 4)), o 6 (.call 17 [.t 5]), oa 7 0 3, os 7 7 6]
 (sq [oa 8 7 1, o 9 (.load 5 true (.t 8)), o 10 (.call 18 [.t 9]), oa 11 7 3, os 5 11 10]
 (sq [o 12 (.load 12 true (.t 3)), os 12 2 12]
 .ret)))))
noncomputable def X.l_toBoard (p0 : TBoard) : Option TBoard :=
 ((X.l_toRules p0.Rules).bind fun v1 => ((X.l_toMap p0.Map).bind fun v3 => some (TBoard.mk v1 v3)))
theorem l_toBoard_F_ok (p0 : TBoard) (r : TBoard) (H : X.l_toBoard p0 = some r) : FK 6 [.agg (eTBoard p0)] (.agg (rTBoard r)) := by
 unfold X.l_toBoard at H
 refine fn_fr (fn := Tryd.f6) (ir := l_toBoard_ir) (s1 := lit [(2, pk 2)] [(2, va (rTBoard r))]) (res0 := .agg (rTBoard r)) glL Tryd.func6 (by kernel_rfl) (by kernel_rfl) (by kernel_rfl) (by kernel_rfl) ((And.intro ((.inl ⟨rfl, rfl⟩)) (And.intro ((.inl ⟨rfl, rfl⟩)) (And.intro ((.inl ⟨rfl, rfl⟩)) (And.intro ((.inl ⟨rfl, rfl⟩)) (And.intro ((.inl ⟨rfl, rfl⟩)) (And.intro ((.inl ⟨rfl, rfl⟩)) (And.intro ((.inl ⟨rfl, rfl⟩)) (And.intro ((.inl ⟨rfl, rfl⟩)) (And.intro ((.inl ⟨rfl, rfl⟩)) (And.intro ((.inl ⟨rfl, rfl⟩)) (And.intro ((.inl ⟨rfl, rfl⟩)) (And.intro ((.inl ⟨rfl, rfl⟩)) trivial))))))))))))) ?_
 refine so [] [] [(1, pk 1), (2, pk 2)] [(1, va (eTBoard p0)), (2, .var [.nil, .nil, jI 0, jI 0, jI 0, jI 0, jI 0, jI 0, jI 0, .nil, .nil, .nil] false)] id ?_
 refine sn [] [] [(3, pk 3)] [] [(3, .var [.nil, .nil, jI 0, jI 0, jI 0, jI 0, jI 0, jI 0, jI 0, .nil, .nil, .nil] false)] id ?_
 obtain ⟨v1, h2, H⟩ := oB H
 refine sn [.res (.agg (rTRules v1))] [] [] [3] [(3, .var [.fr (dat 5 eTTerrain zTTerrain v1.Terrains), .fr (dat 6 eTKind zTKind v1.Kinds), jI v1.Stack, jI v1.River, jI v1.Road, jI v1.Supply, jI v1.Turns, jI 0, jI 0, .nil, .nil, .nil] false)] (aI (l_toRules_F_ok p0.Rules v1 h2)) ?_
 obtain ⟨v3, h4, H⟩ := oB H
 refine sn [.res (.agg (rTMap v3))] [] [] [3] [(3, .var [.fr (dat 5 eTTerrain zTTerrain v1.Terrains), .fr (dat 6 eTKind zTKind v1.Kinds), jI v1.Stack, jI v1.River, jI v1.Road, jI v1.Supply, jI v1.Turns, jI v3.Width, jI v3.Height, .fr (dat 1 eI zI v3.Terrain), .fr (dat 1 eI zI v3.Rivers), .fr (dat 1 eI zI v3.Roads)] false)] (aI (l_toMap_F_ok p0.Map v3 h4)) ?_
 refine sn [] [] [] [1, 2] [(2, .var [.fr (dat 5 eTTerrain zTTerrain v1.Terrains), .fr (dat 6 eTKind zTKind v1.Kinds), jI v1.Stack, jI v1.River, jI v1.Road, jI v1.Supply, jI v1.Turns, jI v3.Width, jI v3.Height, .fr (dat 1 eI zI v3.Terrain), .fr (dat 1 eI zI v3.Rivers), .fr (dat 1 eI zI v3.Roads)] false)] id ?_
 refine tl [] [(2, pk 2)] [(2, .var [.fr (dat 5 eTTerrain zTTerrain v1.Terrains), .fr (dat 6 eTKind zTKind v1.Kinds), jI v1.Stack, jI v1.River, jI v1.Road, jI v1.Supply, jI v1.Turns, jI v3.Width, jI v3.Height, .fr (dat 1 eI zI v3.Terrain), .fr (dat 1 eI zI v3.Rivers), .fr (dat 1 eI zI v3.Roads)] false)] id ?_
 cases H
 exact er
def i_inRange_ir : S :=
 (sq [o 6 (.mv bF)]
 (sq [om 7 1, om 8 0, o 9 (.bin .leq (.t 7) (.t 8)), om 10 9, oh 11 (.mv (.t 0)) 10, oh 12 (.mv (.t 2)) 10, oh 13 (.bin .leq (.t 11) (.t 12)) 10, o 14 (.pick (.t 10) (.t 13) bF), om 6 14]
 .ret))
noncomputable def X.i_inRange (p0 : Int) (p1 : Int) (p2 : Int) : Option Bool :=
 (bif (decide (p1 ≤ p0)) then some (decide (p0 ≤ p2)) else some false)
theorem i_inRange_ok (p0 : Int) (p1 : Int) (p2 : Int) (r : Bool) (H : X.i_inRange p0 p1 p2 = some r) : FK 57 [cI p0, cI p1, cI p2] (cB r) := by
 unfold X.i_inRange at H
 refine fi Tryd.f57 i_inRange_ir [(6, cB r)] [] glL Tryd.func57 ?_
 refine sn [] [] [] [] [] id ?_
 rcases oC H with ⟨c1, H⟩ | ⟨c1, H⟩
 ·refine so (rg 4 true []) [] [(6, cB (decide (p0 ≤ p2)))] [] (fun t => aG 4 c1 (t)) ?_
  cases H
  exact er
 ·refine so (rg 4 false []) [] [(6, cB false)] [] (fun t => aG 4 c1 (t)) ?_
  cases H
  exact er
def g_IndexFunc_int_ir : S :=
 (sq [o 4 (.mv (iv 0))]
 (.seq (sq [om 6 0, o 7 (.len (.t 6)), o 8 (.mv (iv 0))]
 (.blk 0 (.loop (sq [o 9 (.bin .lss (.t 8) (.t 7))]
   (.seq (.ite (.t 9) .skip
   (.exit 0))
   (.seq (.blk 1 (sq [om 10 8, om 5 10]
    (sq [om 11 1, om 12 0, om 13 5, o 14 (.iad 1 (.t 12) (.t 13)), ol 15 14, o 16 (.cald (.t 11) [.t 15])]
    (.ite (.t 16) (sq [om 17 5, om 4 17]
     .ret)
    .skip))))
   (.ops [o 18 (.bin .add (.t 8) (iv 1)), om 8 18])))))))
 (sq [o 4 (.mv (.v (.int .i64 (-1))))]
 .ret)))
noncomputable def X.g_IndexFunc_int (p0 : (List Int)) (f1 : Int → Option Bool) : Option Int :=
 ((loop (fun (x16 : Int) => ((bif (decide (x16 < (p0.length : Int))) then ((at' zI p0 x16).bind fun v19 => ((f1 v19).bind fun v21 => (bif v21 then some (Sum.inr (Sum.inr x16)) else some (Sum.inl (W (x16 + 1)))))) else some (Sum.inr (Sum.inl ()))) : Option (Int ⊕ (Unit ⊕ Int)))) 0).bind fun y24 => (Sum.elim (fun (y26 : Unit) => some (-1)) (fun (y27 : Int) => some y27) y24))
theorem g_IndexFunc_int_c0_ok (p0 : (List Int)) (cf1 : FuncId) (f1 : Int → Option Bool) (hf1 : ∀ q0 r, f1 q0 = some r → FK cf1 [cI q0] (cB r)) (r : Int) (H : X.g_IndexFunc_int p0 f1 = some r) : FK 65 [.c (dat 1 eI zI p0), .c (.clo cf1 [])] (cI r) := by
 unfold X.g_IndexFunc_int at H
 refine fi Tryd.f65 g_IndexFunc_int_ir [(4, cI r)] [] glL Tryd.func65 ?_
 refine sn [] [] [] [] [] id ?_
 refine seq_in ?_
 refine sn [] [] [(7, cL p0), (8, cI 0)] [] [] (fun t => lI p0 (t)) ?_
 refine ends_blk ?_
 obtain ⟨y24, h25, H⟩ := oB H
 refine tl [] [(0, dc 1 eI zI p0), (1, .c (.clo cf1 [])), (7, cL p0), (8, cI 0)] [] id ?_
 refine loop_in (fun (x : Int) => lit [(0, dc 1 eI zI p0), (1, .c (.clo cf1 [])), (7, cL p0), (8, cI x)] []) (orJ (fun (z : Unit) => At (.exit 0) (lit [] [])) (fun (z : Int) => At .ret (lit [(4, cI z)] []))) h25 ?_ ?_
 ·clear H h25
  intro x16 y0 H
  refine sn [] [] [(9, cB (decide (x16 < (p0.length : Int))))] [] [] id ?_
  refine seq_in ?_
  rcases oC H with ⟨c18, H⟩ | ⟨c18, H⟩
  ·refine it c18 ?_
   refine sk ?_
   refine seq_in ?_
   refine ends_blk ?_
   refine sn [] [] [(5, cI x16)] [] [] id ?_
   obtain ⟨v19, h20, H⟩ := oB H
   obtain ⟨v21, h22, H⟩ := oB H
   refine sn [.cs (eI v19), .res (cB v21)] [] [(16, cB v21)] [] [] (fun t => (a2 eI h20 (aI (hf1 v19 v21 h22) (t)))) ?_
   rcases oC H with ⟨c23, H⟩ | ⟨c23, H⟩
   ·refine it c23 ?_
    refine so [] [] [(4, cI x16)] [] id ?_
    refine ends_ret ?_
    cases H
    exact rsr
   ·refine jf c23 ?_
    refine sk ?_
    refine oo [] [] [(0, dc 1 eI zI p0), (1, .c (.clo cf1 [])), (7, cL p0), (8, cI (W (x16 + 1)))] [] id ?_
    cases H
    exact rr
  ·refine jf c18 ?_
   refine tl [] [] [] id ?_
   refine ends_exit ?_
   cases H
   exact rse
 ·clear h25
  cases y24 with
  | inl y26 =>
   replace H := ofInl H
   rintro e s ⟨rfl, rfl⟩
   change EndsI _ _ _ _ _ _
   refine so [] [] [(4, cI (-1))] [] id ?_
   cases H
   exact er
  | inr y27 =>
   replace H := ofInr H
   rintro e s ⟨rfl, rfl⟩
   cases H
   exact qr
def g_ContainsFunc_int_ir : S :=
 (sq [o 4 (.mv bF)]
 (sq [om 5 0, om 6 1, o 7 (.call 65 [.t 5, .t 6]), o 8 (.bin .geq (.t 7) (iv 0)), om 4 8]
 .ret))
noncomputable def X.g_ContainsFunc_int (p0 : (List Int)) (f1 : Int → Option Bool) : Option Bool :=
 ((X.g_IndexFunc_int p0 f1).bind fun v1 => some (decide (v1 ≥ 0)))
theorem g_ContainsFunc_int_c0_ok (p0 : (List Int)) (cf1 : FuncId) (f1 : Int → Option Bool) (hf1 : ∀ q0 r, f1 q0 = some r → FK cf1 [cI q0] (cB r)) (r : Bool) (H : X.g_ContainsFunc_int p0 f1 = some r) : FK 41 [.c (dat 1 eI zI p0), .c (.clo cf1 [])] (cB r) := by
 unfold X.g_ContainsFunc_int at H
 refine fi Tryd.f41 g_ContainsFunc_int_ir [(4, cB r)] [] glL Tryd.func41 ?_
 refine sn [] [] [] [] [] id ?_
 obtain ⟨v1, h2, H⟩ := oB H
 refine so [.res (cI v1)] [] [(4, cB (decide (v1 ≥ 0)))] [] (aI (g_IndexFunc_int_c0_ok p0 (cf1) f1 hf1 v1 h2)) ?_
 cases H
 exact er
def i_isName_ir : S :=
 (sq [o 2 (.mv bF)]
 (.seq (sq [o 3 (.mv (iv 0))]
 (.blk 0 (.loop (.seq (sq [om 4 3, om 5 0, o 6 (.lens (.t 5)), o 7 (.bin .lss (.t 4) (.t 6))]
   (.ite (.t 7) .skip
   (.exit 0)))
   (.seq (.blk 1 (sq [om 10 0, om 11 3, o 12 (.ixs (.t 10) (.t 11)), o 13 (.bin .lss (.t 12) (.v (.int .u8 97))), om 14 13, og 15 (.mv (.t 0)) 14, og 16 (.mv (.t 3)) 14, og 17 (.ixs (.t 15) (.t 16)) 14, og 18 (.bin .gtr (.t 17) (.v (.int .u8 122))) 14, o 19 (.pick (.t 14) bT (.t 18))]
    (.ite (.t 19) (sq [o 2 (.mv bF)]
     .ret)
    .skip)))
   (.ops [om 8 3, o 9 (.bin .add (.t 8) (iv 1)), om 3 9]))))))
 (sq [om 20 0, o 21 (.lens (.t 20)), o 22 (.call 57 [.t 21, .v (.int .i64 1), .v (.int .i64 8)]), om 2 22]
 .ret)))
noncomputable def X.i_isName (p0 : (List UInt8)) : Option Bool :=
 ((loop (fun (x14 : Int) => ((bif (decide (x14 < (p0.length : Int))) then (if 0 ≤ x14 ∧ x14 < (p0.length : Int) then (bif (decide ((((p0.getD x14.toNat 0).toNat : Nat) : Int) < 97)) then some (Sum.inr (Sum.inr false)) else (if 0 ≤ x14 ∧ x14 < (p0.length : Int) then (bif (decide ((((p0.getD x14.toNat 0).toNat : Nat) : Int) > 122)) then some (Sum.inr (Sum.inr false)) else some (Sum.inl (W (x14 + 1)))) else none)) else none) else some (Sum.inr (Sum.inl ()))) : Option (Int ⊕ (Unit ⊕ Bool)))) 0).bind fun y21 => (Sum.elim (fun (y23 : Unit) => ((X.i_inRange (p0.length : Int) 1 8).bind fun v25 => some v25)) (fun (y24 : Bool) => some y24) y21))
theorem i_isName_ok (p0 : (List UInt8)) (r : Bool) (H : X.i_isName p0 = some r) : FK 73 [.c (.str p0)] (cB r) := by
 unfold X.i_isName at H
 refine fi Tryd.f73 i_isName_ir [(2, cB r)] [] glL Tryd.func73 ?_
 refine sn [] [] [] [] [] id ?_
 refine seq_in ?_
 refine sn [] [] [(3, cI 0)] [] [] id ?_
 refine ends_blk ?_
 obtain ⟨y21, h22, H⟩ := oB H
 refine tl [] [(0, .c (.str p0)), (3, cI 0)] [] id ?_
 refine loop_in (fun (x : Int) => lit [(0, .c (.str p0)), (3, cI x)] []) (orJ (fun (z : Unit) => At (.exit 0) (lit [(0, .c (.str p0))] [])) (fun (z : Bool) => At .ret (lit [(2, cB z)] []))) h22 ?_ ?_
 ·clear H h22
  intro x14 y0 H
  refine seq_in ?_
  refine sn [] [] [(7, cB (decide (x14 < (p0.length : Int))))] [] [] id ?_
  rcases oC H with ⟨c16, H⟩ | ⟨c16, H⟩
  ·refine it c16 ?_
   refine sk ?_
   refine seq_in ?_
   refine ends_blk ?_
   obtain ⟨g17, H⟩ := oI H
   rcases oC H with ⟨c18, H⟩ | ⟨c18, H⟩
   ·refine sn (rg 5 true []) [] [(19, cB true)] [] [] (fun t => aI g17 (aG 5 c18 (t))) ?_
    refine it rT ?_
    refine so [] [] [(2, cB false)] [] id ?_
    refine ends_ret ?_
    cases H
    exact rsr
   ·obtain ⟨g19, H⟩ := oI H
    refine sn (rg 5 false []) [] [(19, cB (decide ((((p0.getD x14.toNat 0).toNat : Nat) : Int) > 122)))] [] [] (fun t => aI g17 (aG 3 c18 (aI g19 (aG 2 c18 (t))))) ?_
    rcases oC H with ⟨c20, H⟩ | ⟨c20, H⟩
    ·refine it c20 ?_
     refine so [] [] [(2, cB false)] [] id ?_
     refine ends_ret ?_
     cases H
     exact rsr
    ·refine jf c20 ?_
     refine sk ?_
     refine oo [] [] [(0, .c (.str p0)), (3, cI (W (x14 + 1)))] [] id ?_
     cases H
     exact rr
  ·refine jf c16 ?_
   refine tl [] [(0, .c (.str p0))] [] id ?_
   refine ends_exit ?_
   cases H
   exact rse
 ·clear h22
  cases y21 with
  | inl y23 =>
   replace H := ofInl H
   rintro e s ⟨rfl, rfl⟩
   change EndsI _ _ _ _ _ _
   obtain ⟨v25, h26, H⟩ := oB H
   refine so [.res (cB v25)] [] [(2, cB v25)] [] (aI (i_inRange_ok (p0.length : Int) 1 8 v25 h26)) ?_
   cases H
   exact er
  | inr y24 =>
   replace H := ofInr H
   rintro e s ⟨rfl, rfl⟩
   cases H
   exact qr
def i_goodTerrain_1_ir : S :=
 (sq [o 2 (.mv bF)]
 (sq [om 3 0, o 4 (.call 57 [.t 3, .v (.int .i64 0), .v (.int .i64 9)]), o 5 (.not (.t 4)), om 2 5]
 .ret))
noncomputable def X.i_goodTerrain_1 (p0 : Int) : Option Bool :=
 ((X.i_inRange p0 0 9).bind fun v1 => some (!v1))
theorem i_goodTerrain_1_ok (p0 : Int) (r : Bool) (H : X.i_goodTerrain_1 p0 = some r) : FK 74 [cI p0] (cB r) := by
 unfold X.i_goodTerrain_1 at H
 refine fi Tryd.f74 i_goodTerrain_1_ir [(2, cB r)] [] glL Tryd.func74 ?_
 refine sn [] [] [] [] [] id ?_
 obtain ⟨v1, h2, H⟩ := oB H
 refine so [.res (cB v1)] [] [(2, cB (!v1))] [] (aI (i_inRange_ok p0 0 9 v1 h2)) ?_
 cases H
 exact er
def i_goodTerrain_ir : S :=
 (sq [o 2 (.box 5 (.t 0)), o 4 (.mv bF)]
 (.seq (sq [oa 5 0 2, ol 6 5, o 7 (.call 73 [.t 6]), o 8 (.not (.t 7)), om 9 8, og 10 (.fad 1 (.t 2)) 9, og 11 (.load 1 false (.t 10)) 9, og 12 (.len (.t 11)) 9, og 13 (.mv (.t 1)) 9, og 14 (.bin .neq (.t 12) (.t 13)) 9, o 15 (.pick (.t 9) bT (.t 14)), om 16 15, og 17 (.fad 2 (.t 2)) 16, og 18 (.load 1 false (.t 17)) 16, og 19 (.call 57 [.t 18, .v (.int .i64 (-3)), .v (.int .i64 3)]) 16, og 20 (.not (.t 19)) 16, o 21 (.pick (.t 16) bT (.t 20)), om 22 21, og 23 (.fad 3 (.t 2)) 22, og 24 (.load 1 false (.t 23)) 22, og 25 (.call 57 [.t 24, .v (.int .i64 0), .v (.int .i64 3)]) 22, og 26 (.not (.t 25)) 22, o 27 (.pick (.t 22) bT (.t 26))]
 (.ite (.t 27) (sq [o 4 (.mv bF)]
  .ret)
 .skip))
 (sq [oa 28 1 2, ol 29 28, o 30 (.call 41 [.t 29, .f 74]), o 31 (.not (.t 30)), om 4 31]
 .ret)))
noncomputable def X.i_goodTerrain (p0 : TTerrain) (p1 : Int) : Option Bool :=
 ((X.i_isName p0.Name).bind fun v1 => (bif (!v1) then some false else (bif ((p0.Cost.length : Int) != p1) then some false else ((X.i_inRange p0.Shift (-3) 3).bind fun v5 => (bif (!v5) then some false else ((X.i_inRange p0.Height 0 3).bind fun v8 => (bif (!v8) then some false else ((X.g_ContainsFunc_int p0.Cost (fun q0 => X.i_goodTerrain_1 q0)).bind fun v11 => some (!v11)))))))))
theorem i_goodTerrain_ok (p0 : TTerrain) (p1 : Int) (r : Bool) (H : X.i_goodTerrain p0 p1 = some r) : FK 58 [.agg (eTTerrain p0), cI p1] (cB r) := by
 unfold X.i_goodTerrain at H
 refine fi Tryd.f58 i_goodTerrain_ir [(4, cB r)] [] glL Tryd.func58 ?_
 refine sn [] [] [(2, pk 2)] [] [(2, va (eTTerrain p0))] id ?_
 refine seq_in ?_
 obtain ⟨v1, h2, H⟩ := oB H
 rcases oC H with ⟨c3, H⟩ | ⟨c3, H⟩
 ·refine sn ([.res (cB v1)] ++ rg 16 true []) [] [(27, cB true)] [] [] (fun t => aI (i_isName_ok p0.Name v1 h2) (aG 6 c3 (aG 10 rT (t)))) ?_
  refine it rT ?_
  refine so [] [] [(4, cB false)] [] id ?_
  cases H
  exact er
 ·rcases oC H with ⟨c4, H⟩ | ⟨c4, H⟩
  ·refine sn ([.res (cB v1)] ++ rg 6 false (rg 10 true [])) [] [(27, cB true)] [] [] (fun t => aI (i_isName_ok p0.Name v1 h2) (aG 3 c3 (lI p0.Cost (aG 3 c3 (aG 5 c4 (aG 5 rT (t))))))) ?_
   refine it rT ?_
   refine so [] [] [(4, cB false)] [] id ?_
   cases H
   exact er
  ·obtain ⟨v5, h6, H⟩ := oB H
   rcases oC H with ⟨c7, H⟩ | ⟨c7, H⟩
   ·refine sn ([.res (cB v1)] ++ rg 9 false ([.res (cB v5)] ++ rg 2 false (rg 5 true []))) [] [(27, cB true)] [] [] (fun t => aI (i_isName_ok p0.Name v1 h2) (aG 3 c3 (lI p0.Cost (aG 3 c3 (aG 3 c4 (aI (i_inRange_ok p0.Shift (-3) 3 v5 h6) (aG 2 c4 (aG 5 c7 (t))))))))) ?_
    refine it rT ?_
    refine so [] [] [(4, cB false)] [] id ?_
    cases H
    exact er
   ·obtain ⟨v8, h9, H⟩ := oB H
    refine sn ([.res (cB v1)] ++ rg 9 false ([.res (cB v5)] ++ rg 5 false ([.res (cB v8)] ++ rg 2 false []))) [] [(27, cB (!v8))] [] [] (fun t => aI (i_isName_ok p0.Name v1 h2) (aG 3 c3 (lI p0.Cost (aG 3 c3 (aG 3 c4 (aI (i_inRange_ok p0.Shift (-3) 3 v5 h6) (aG 2 c4 (aG 3 c7 (aI (i_inRange_ok p0.Height 0 3 v8 h9) (aG 2 c7 (t))))))))))) ?_
    rcases oC H with ⟨c10, H⟩ | ⟨c10, H⟩
    ·refine it c10 ?_
     refine so [] [] [(4, cB false)] [] id ?_
     cases H
     exact er
    ·refine jf c10 ?_
     refine sk ?_
     obtain ⟨v11, h12, H⟩ := oB H
     refine so [.res (cB v11)] [] [(4, cB (!v11))] [] (aI (g_ContainsFunc_int_c0_ok p0.Cost (74) (fun q0 => X.i_goodTerrain_1 q0) (fun q0 r h => i_goodTerrain_1_ok q0 r h) v11 h12)) ?_
     cases H
     exact er
def g_IndexFunc_Terrain_ir : S :=
 (sq [o 4 (.mv (iv 0))]
 (.seq (sq [om 6 0, o 7 (.len (.t 6)), o 8 (.mv (iv 0))]
 (.blk 0 (.loop (sq [o 9 (.bin .lss (.t 8) (.t 7))]
   (.seq (.ite (.t 9) .skip
   (.exit 0))
   (.seq (.blk 1 (sq [om 10 8, om 5 10]
    (sq [om 11 1, om 12 0, om 13 5, o 14 (.iad 5 (.t 12) (.t 13)), o 15 (.load 5 true (.t 14)), o 16 (.cald (.t 11) [.t 15])]
    (.ite (.t 16) (sq [om 17 5, om 4 17]
     .ret)
    .skip))))
   (.ops [o 18 (.bin .add (.t 8) (iv 1)), om 8 18])))))))
 (sq [o 4 (.mv (.v (.int .i64 (-1))))]
 .ret)))
noncomputable def X.g_IndexFunc_Terrain (p0 : (List TTerrain)) (f1 : TTerrain → Option Bool) : Option Int :=
 ((loop (fun (x16 : Int) => ((bif (decide (x16 < (p0.length : Int))) then ((at' zTTerrain p0 x16).bind fun v19 => ((f1 v19).bind fun v21 => (bif v21 then some (Sum.inr (Sum.inr x16)) else some (Sum.inl (W (x16 + 1)))))) else some (Sum.inr (Sum.inl ()))) : Option (Int ⊕ (Unit ⊕ Int)))) 0).bind fun y24 => (Sum.elim (fun (y26 : Unit) => some (-1)) (fun (y27 : Int) => some y27) y24))
theorem g_IndexFunc_Terrain_c1_ok (p0 : (List TTerrain)) (cf1 : FuncId) (cs1_0 : List AC) (f1 : TTerrain → Option Bool) (hf1 : ∀ q0 r, f1 q0 = some r → FK cf1 [.agg (eTTerrain q0), .c (.pd cs1_0 0)] (cB r)) (r : Int) (H : X.g_IndexFunc_Terrain p0 f1 = some r) : FK 75 [.c (dat 5 eTTerrain zTTerrain p0), .c (.clo cf1 [.pd cs1_0 0])] (cI r) := by
 unfold X.g_IndexFunc_Terrain at H
 refine fi Tryd.f75 g_IndexFunc_Terrain_ir [(4, cI r)] [] glL Tryd.func75 ?_
 refine sn [] [] [] [] [] id ?_
 refine seq_in ?_
 refine sn [] [] [(7, cL p0), (8, cI 0)] [] [] (fun t => lI p0 (t)) ?_
 refine ends_blk ?_
 obtain ⟨y24, h25, H⟩ := oB H
 refine tl [] [(0, dc 5 eTTerrain zTTerrain p0), (1, .c (.clo cf1 [.pd cs1_0 0])), (7, cL p0), (8, cI 0)] [] id ?_
 refine loop_in (fun (x : Int) => lit [(0, dc 5 eTTerrain zTTerrain p0), (1, .c (.clo cf1 [.pd cs1_0 0])), (7, cL p0), (8, cI x)] []) (orJ (fun (z : Unit) => At (.exit 0) (lit [] [])) (fun (z : Int) => At .ret (lit [(4, cI z)] []))) h25 ?_ ?_
 ·clear H h25
  intro x16 y0 H
  refine sn [] [] [(9, cB (decide (x16 < (p0.length : Int))))] [] [] id ?_
  refine seq_in ?_
  rcases oC H with ⟨c18, H⟩ | ⟨c18, H⟩
  ·refine it c18 ?_
   refine sk ?_
   refine seq_in ?_
   refine ends_blk ?_
   refine sn [] [] [(5, cI x16)] [] [] id ?_
   obtain ⟨v19, h20, H⟩ := oB H
   obtain ⟨v21, h22, H⟩ := oB H
   refine sn [.cs (eTTerrain v19), .res (cB v21)] [] [(16, cB v21)] [] [] (fun t => (a2 eTTerrain h20 (aI (hf1 v19 v21 h22) (t)))) ?_
   rcases oC H with ⟨c23, H⟩ | ⟨c23, H⟩
   ·refine it c23 ?_
    refine so [] [] [(4, cI x16)] [] id ?_
    refine ends_ret ?_
    cases H
    exact rsr
   ·refine jf c23 ?_
    refine sk ?_
    refine oo [] [] [(0, dc 5 eTTerrain zTTerrain p0), (1, .c (.clo cf1 [.pd cs1_0 0])), (7, cL p0), (8, cI (W (x16 + 1)))] [] id ?_
    cases H
    exact rr
  ·refine jf c18 ?_
   refine tl [] [] [] id ?_
   refine ends_exit ?_
   cases H
   exact rse
 ·clear h25
  cases y24 with
  | inl y26 =>
   replace H := ofInl H
   rintro e s ⟨rfl, rfl⟩
   change EndsI _ _ _ _ _ _
   refine so [] [] [(4, cI (-1))] [] id ?_
   cases H
   exact er
  | inr y27 =>
   replace H := ofInr H
   rintro e s ⟨rfl, rfl⟩
   cases H
   exact qr
def i_terrainIndex_1_ir : S :=
 (sq [o 2 (.box 5 (.t 0)), o 3 (.mv bF)]
 (sq [oa 4 0 2, ol 5 4, ol 6 1, o 7 (.bin .eql (.t 5) (.t 6)), om 3 7]
 .ret))
noncomputable def X.i_terrainIndex_1 (p0 : TTerrain) (p1 : (List UInt8)) : Option Bool :=
 some (p0.Name == p1)
theorem i_terrainIndex_1_ok (p0 : TTerrain) (p1 : (List UInt8)) (r : Bool) (H : X.i_terrainIndex_1 p0 p1 = some r) : FK 76 [.agg (eTTerrain p0), .c (.pd (eS p1) 0)] (cB r) := by
 unfold X.i_terrainIndex_1 at H
 refine fi Tryd.f76 i_terrainIndex_1_ir [(3, cB r)] [] glL Tryd.func76 ?_
 refine sn [] [] [(2, pk 2)] [] [(2, va (eTTerrain p0))] id ?_
 refine so [] [] [(3, cB (p0.Name == p1))] [] id ?_
 cases H
 exact er
def i_terrainIndex_ir : S :=
 (sq [o 3 (.box 1 (.t 1)), o 4 (.mv (iv 0))]
 (sq [om 5 0, o 6 (.clo 76 [.t 3]), o 7 (.call 75 [.t 5, .t 6]), om 4 7]
 .ret))
noncomputable def X.i_terrainIndex (p0 : (List TTerrain)) (p1 : (List UInt8)) : Option Int :=
 ((X.g_IndexFunc_Terrain p0 (fun q0 => X.i_terrainIndex_1 q0 p1)).bind fun v1 => some v1)
theorem i_terrainIndex_ok (p0 : (List TTerrain)) (p1 : (List UInt8)) (r : Int) (H : X.i_terrainIndex p0 p1 = some r) : FK 59 [.c (dat 5 eTTerrain zTTerrain p0), .c (.str p1)] (cI r) := by
 unfold X.i_terrainIndex at H
 refine fi Tryd.f59 i_terrainIndex_ir [(4, cI r)] [] glL Tryd.func59 ?_
 refine sn [] [] [(3, pk 3)] [] [(3, .var [.str p1] false)] id ?_
 obtain ⟨v1, h2, H⟩ := oB H
 refine so [.res (cI v1)] [] [(4, cI v1)] [] (aI (g_IndexFunc_Terrain_c1_ok p0 (76) (eS p1) (fun q0 => X.i_terrainIndex_1 q0 p1) (fun q0 r h => i_terrainIndex_1_ok q0 p1 r h) v1 h2)) ?_
 cases H
 exact er
def i_goodKind_ir : S :=
 (sq [o 1 (.box 6 (.t 0)), o 2 (.mv bF)]
 (sq [oa 3 0 1, ol 4 3, o 5 (.call 73 [.t 4]), om 6 5, oh 7 (.fad 1 (.t 1)) 6, oh 8 (.load 1 false (.t 7)) 6, oh 9 (.call 57 [.t 8, .v (.int .i64 1), .v (.int .i64 9)]) 6, o 10 (.pick (.t 6) (.t 9) bF), om 11 10, oh 12 (.fad 2 (.t 1)) 11, oh 13 (.load 1 false (.t 12)) 11, oh 14 (.call 57 [.t 13, .v (.int .i64 0), .v (.int .i64 9)]) 11, o 15 (.pick (.t 11) (.t 14) bF), om 16 15, oh 17 (.fad 3 (.t 1)) 16, oh 18 (.load 1 false (.t 17)) 16, oh 19 (.call 57 [.t 18, .v (.int .i64 1), .v (.int .i64 4)]) 16, o 20 (.pick (.t 16) (.t 19) bF), om 21 20, oh 22 (.fad 5 (.t 1)) 21, oh 23 (.load 1 false (.t 22)) 21, oh 24 (.call 57 [.t 23, .v (.int .i64 0), .v (.int .i64 4)]) 21, o 25 (.pick (.t 21) (.t 24) bF), om 2 25]
 .ret))
noncomputable def X.i_goodKind (p0 : TKind) : Option Bool :=
 ((X.i_isName p0.Name).bind fun v1 => (bif v1 then ((X.i_inRange p0.Strength 1 9).bind fun v4 => (bif v4 then ((X.i_inRange p0.Moves 0 9).bind fun v7 => (bif v7 then ((X.i_inRange p0.Steps 1 4).bind fun v10 => (bif v10 then ((X.i_inRange p0.View 0 4).bind fun v13 => some v13) else some false)) else some false)) else some false)) else some false))
theorem i_goodKind_ok (p0 : TKind) (r : Bool) (H : X.i_goodKind p0 = some r) : FK 60 [.agg (eTKind p0)] (cB r) := by
 unfold X.i_goodKind at H
 refine fi Tryd.f60 i_goodKind_ir [(2, cB r)] [] glL Tryd.func60 ?_
 refine so [] [] [(1, pk 1)] [(1, va (eTKind p0))] id ?_
 obtain ⟨v1, h2, H⟩ := oB H
 rcases oC H with ⟨c3, H⟩ | ⟨c3, H⟩
 ·obtain ⟨v4, h5, H⟩ := oB H
  rcases oC H with ⟨c6, H⟩ | ⟨c6, H⟩
  ·obtain ⟨v7, h8, H⟩ := oB H
   rcases oC H with ⟨c9, H⟩ | ⟨c9, H⟩
   ·obtain ⟨v10, h11, H⟩ := oB H
    rcases oC H with ⟨c12, H⟩ | ⟨c12, H⟩
    ·obtain ⟨v13, h14, H⟩ := oB H
     refine so ([.res (cB v1)] ++ rg 3 true ([.res (cB v4)] ++ rg 4 true ([.res (cB v7)] ++ rg 4 true ([.res (cB v10)] ++ rg 4 true [.res (cB v13), .g true])))) [] [(2, cB v13)] [] (fun t => aI (i_isName_ok p0.Name v1 h2) (aG 3 c3 (aI (i_inRange_ok p0.Strength 1 9 v4 h5) (aI c3 (aG 3 c6 (aI (i_inRange_ok p0.Moves 0 9 v7 h8) (aI c6 (aG 3 c9 (aI (i_inRange_ok p0.Steps 1 4 v10 h11) (aI c9 (aG 3 c12 (aI (i_inRange_ok p0.View 0 4 v13 h14) (aI c12 (t)))))))))))))) ?_
     cases H
     exact er
    ·refine so ([.res (cB v1)] ++ rg 3 true ([.res (cB v4)] ++ rg 4 true ([.res (cB v7)] ++ rg 4 true ([.res (cB v10), .g true] ++ rg 4 false [])))) [] [(2, cB false)] [] (fun t => aI (i_isName_ok p0.Name v1 h2) (aG 3 c3 (aI (i_inRange_ok p0.Strength 1 9 v4 h5) (aI c3 (aG 3 c6 (aI (i_inRange_ok p0.Moves 0 9 v7 h8) (aI c6 (aG 3 c9 (aI (i_inRange_ok p0.Steps 1 4 v10 h11) (aI c9 (aG 4 c12 (t)))))))))))) ?_
     cases H
     exact er
   ·refine so ([.res (cB v1)] ++ rg 3 true ([.res (cB v4)] ++ rg 4 true ([.res (cB v7), .g true] ++ rg 8 false []))) [] [(2, cB false)] [] (fun t => aI (i_isName_ok p0.Name v1 h2) (aG 3 c3 (aI (i_inRange_ok p0.Strength 1 9 v4 h5) (aI c3 (aG 3 c6 (aI (i_inRange_ok p0.Moves 0 9 v7 h8) (aI c6 (aG 4 c9 (aG 4 rF (t)))))))))) ?_
    cases H
    exact er
  ·refine so ([.res (cB v1)] ++ rg 3 true ([.res (cB v4), .g true] ++ rg 12 false [])) [] [(2, cB false)] [] (fun t => aI (i_isName_ok p0.Name v1 h2) (aG 3 c3 (aI (i_inRange_ok p0.Strength 1 9 v4 h5) (aI c3 (aG 4 c6 (aG 8 rF (t))))))) ?_
   cases H
   exact er
 ·refine so ([.res (cB v1)] ++ rg 16 false []) [] [(2, cB false)] [] (fun t => aI (i_isName_ok p0.Name v1 h2) (aG 4 c3 (aG 12 rF (t)))) ?_
  cases H
  exact er
def g_IndexFunc_Kind_ir : S :=
 (sq [o 4 (.mv (iv 0))]
 (.seq (sq [om 6 0, o 7 (.len (.t 6)), o 8 (.mv (iv 0))]
 (.blk 0 (.loop (sq [o 9 (.bin .lss (.t 8) (.t 7))]
   (.seq (.ite (.t 9) .skip
   (.exit 0))
   (.seq (.blk 1 (sq [om 10 8, om 5 10]
    (sq [om 11 1, om 12 0, om 13 5, o 14 (.iad 6 (.t 12) (.t 13)), o 15 (.load 6 true (.t 14)), o 16 (.cald (.t 11) [.t 15])]
    (.ite (.t 16) (sq [om 17 5, om 4 17]
     .ret)
    .skip))))
   (.ops [o 18 (.bin .add (.t 8) (iv 1)), om 8 18])))))))
 (sq [o 4 (.mv (.v (.int .i64 (-1))))]
 .ret)))
noncomputable def X.g_IndexFunc_Kind (p0 : (List TKind)) (f1 : TKind → Option Bool) : Option Int :=
 ((loop (fun (x16 : Int) => ((bif (decide (x16 < (p0.length : Int))) then ((at' zTKind p0 x16).bind fun v19 => ((f1 v19).bind fun v21 => (bif v21 then some (Sum.inr (Sum.inr x16)) else some (Sum.inl (W (x16 + 1)))))) else some (Sum.inr (Sum.inl ()))) : Option (Int ⊕ (Unit ⊕ Int)))) 0).bind fun y24 => (Sum.elim (fun (y26 : Unit) => some (-1)) (fun (y27 : Int) => some y27) y24))
theorem g_IndexFunc_Kind_c1_ok (p0 : (List TKind)) (cf1 : FuncId) (cs1_0 : List AC) (f1 : TKind → Option Bool) (hf1 : ∀ q0 r, f1 q0 = some r → FK cf1 [.agg (eTKind q0), .c (.pd cs1_0 0)] (cB r)) (r : Int) (H : X.g_IndexFunc_Kind p0 f1 = some r) : FK 77 [.c (dat 6 eTKind zTKind p0), .c (.clo cf1 [.pd cs1_0 0])] (cI r) := by
 unfold X.g_IndexFunc_Kind at H
 refine fi Tryd.f77 g_IndexFunc_Kind_ir [(4, cI r)] [] glL Tryd.func77 ?_
 refine sn [] [] [] [] [] id ?_
 refine seq_in ?_
 refine sn [] [] [(7, cL p0), (8, cI 0)] [] [] (fun t => lI p0 (t)) ?_
 refine ends_blk ?_
 obtain ⟨y24, h25, H⟩ := oB H
 refine tl [] [(0, dc 6 eTKind zTKind p0), (1, .c (.clo cf1 [.pd cs1_0 0])), (7, cL p0), (8, cI 0)] [] id ?_
 refine loop_in (fun (x : Int) => lit [(0, dc 6 eTKind zTKind p0), (1, .c (.clo cf1 [.pd cs1_0 0])), (7, cL p0), (8, cI x)] []) (orJ (fun (z : Unit) => At (.exit 0) (lit [] [])) (fun (z : Int) => At .ret (lit [(4, cI z)] []))) h25 ?_ ?_
 ·clear H h25
  intro x16 y0 H
  refine sn [] [] [(9, cB (decide (x16 < (p0.length : Int))))] [] [] id ?_
  refine seq_in ?_
  rcases oC H with ⟨c18, H⟩ | ⟨c18, H⟩
  ·refine it c18 ?_
   refine sk ?_
   refine seq_in ?_
   refine ends_blk ?_
   refine sn [] [] [(5, cI x16)] [] [] id ?_
   obtain ⟨v19, h20, H⟩ := oB H
   obtain ⟨v21, h22, H⟩ := oB H
   refine sn [.cs (eTKind v19), .res (cB v21)] [] [(16, cB v21)] [] [] (fun t => (a2 eTKind h20 (aI (hf1 v19 v21 h22) (t)))) ?_
   rcases oC H with ⟨c23, H⟩ | ⟨c23, H⟩
   ·refine it c23 ?_
    refine so [] [] [(4, cI x16)] [] id ?_
    refine ends_ret ?_
    cases H
    exact rsr
   ·refine jf c23 ?_
    refine sk ?_
    refine oo [] [] [(0, dc 6 eTKind zTKind p0), (1, .c (.clo cf1 [.pd cs1_0 0])), (7, cL p0), (8, cI (W (x16 + 1)))] [] id ?_
    cases H
    exact rr
  ·refine jf c18 ?_
   refine tl [] [] [] id ?_
   refine ends_exit ?_
   cases H
   exact rse
 ·clear h25
  cases y24 with
  | inl y26 =>
   replace H := ofInl H
   rintro e s ⟨rfl, rfl⟩
   change EndsI _ _ _ _ _ _
   refine so [] [] [(4, cI (-1))] [] id ?_
   cases H
   exact er
  | inr y27 =>
   replace H := ofInr H
   rintro e s ⟨rfl, rfl⟩
   cases H
   exact qr
def i_kindIndex_1_ir : S :=
 (sq [o 2 (.box 6 (.t 0)), o 3 (.mv bF)]
 (sq [oa 4 0 2, ol 5 4, ol 6 1, o 7 (.bin .eql (.t 5) (.t 6)), om 3 7]
 .ret))
noncomputable def X.i_kindIndex_1 (p0 : TKind) (p1 : (List UInt8)) : Option Bool :=
 some (p0.Name == p1)
theorem i_kindIndex_1_ok (p0 : TKind) (p1 : (List UInt8)) (r : Bool) (H : X.i_kindIndex_1 p0 p1 = some r) : FK 78 [.agg (eTKind p0), .c (.pd (eS p1) 0)] (cB r) := by
 unfold X.i_kindIndex_1 at H
 refine fi Tryd.f78 i_kindIndex_1_ir [(3, cB r)] [] glL Tryd.func78 ?_
 refine sn [] [] [(2, pk 2)] [] [(2, va (eTKind p0))] id ?_
 refine so [] [] [(3, cB (p0.Name == p1))] [] id ?_
 cases H
 exact er
def i_kindIndex_ir : S :=
 (sq [o 3 (.box 1 (.t 1)), o 4 (.mv (iv 0))]
 (sq [om 5 0, o 6 (.clo 78 [.t 3]), o 7 (.call 77 [.t 5, .t 6]), om 4 7]
 .ret))
noncomputable def X.i_kindIndex (p0 : (List TKind)) (p1 : (List UInt8)) : Option Int :=
 ((X.g_IndexFunc_Kind p0 (fun q0 => X.i_kindIndex_1 q0 p1)).bind fun v1 => some v1)
theorem i_kindIndex_ok (p0 : (List TKind)) (p1 : (List UInt8)) (r : Int) (H : X.i_kindIndex p0 p1 = some r) : FK 61 [.c (dat 6 eTKind zTKind p0), .c (.str p1)] (cI r) := by
 unfold X.i_kindIndex at H
 refine fi Tryd.f61 i_kindIndex_ir [(4, cI r)] [] glL Tryd.func61 ?_
 refine sn [] [] [(3, pk 3)] [] [(3, .var [.str p1] false)] id ?_
 obtain ⟨v1, h2, H⟩ := oB H
 refine so [.res (cI v1)] [] [(4, cI v1)] [] (aI (g_IndexFunc_Kind_c1_ok p0 (78) (eS p1) (fun q0 => X.i_kindIndex_1 q0 p1) (fun q0 r h => i_kindIndex_1_ok q0 p1 r h) v1 h2)) ?_
 cases H
 exact er
def i_IsRules_ir : S :=
 (sq [o 1 (.box 7 (.t 0)), o 2 (.mv bF)]
 (.seq (sq [oa 7 0 1, ol 8 7, o 9 (.len (.t 8)), o 10 (.call 57 [.t 9, .v (.int .i64 1), .v (.int .i64 6)]), o 11 (.not (.t 10)), om 12 11, og 13 (.fad 1 (.t 1)) 12, og 14 (.load 1 false (.t 13)) 12, og 15 (.len (.t 14)) 12, og 16 (.call 57 [.t 15, .v (.int .i64 1), .v (.int .i64 4)]) 12, og 17 (.not (.t 16)) 12, o 18 (.pick (.t 12) bT (.t 17))]
 (.ite (.t 18) (sq [o 2 (.mv bF)]
  .ret)
 .skip))
 (.seq (sq [oa 19 0 1, ol 20 19, o 21 (.len (.t 20)), o 22 (.mv (iv 0))]
 (.blk 0 (.loop (sq [o 23 (.bin .lss (.t 22) (.t 21))]
   (.seq (.ite (.t 23) .skip
   (.exit 0))
   (.seq (.blk 1 (sq [om 24 22, o 25 (.iad 5 (.t 20) (.t 22)), o 26 (.load 5 true (.t 25)), o 4 (.alloc [.str [], .nil, .int .i64 0, .int .i64 0, .bool false]), om 3 24, os 5 4 26]
    (sq [o 27 (.load 5 true (.t 4)), oa 28 1 1, ol 29 28, o 30 (.len (.t 29)), o 31 (.call 58 [.t 27, .t 30]), o 32 (.not (.t 31)), om 33 32, og 34 (.fad 0 (.t 1)) 33, og 35 (.load 1 false (.t 34)) 33, og 36 (.fad 0 (.t 4)) 33, og 37 (.load 1 false (.t 36)) 33, og 38 (.call 59 [.t 35, .t 37]) 33, og 39 (.mv (.t 3)) 33, og 40 (.bin .neq (.t 38) (.t 39)) 33, o 41 (.pick (.t 33) bT (.t 40))]
    (.ite (.t 41) (sq [o 2 (.mv bF)]
     .ret)
    .skip))))
   (.ops [o 42 (.bin .add (.t 22) (iv 1)), om 22 42])))))))
 (.seq (sq [oa 43 1 1, ol 44 43, o 45 (.len (.t 44)), o 46 (.mv (iv 0))]
 (.blk 2 (.loop (sq [o 47 (.bin .lss (.t 46) (.t 45))]
   (.seq (.ite (.t 47) .skip
   (.exit 2))
   (.seq (.blk 3 (sq [om 48 46, o 49 (.iad 6 (.t 44) (.t 46)), o 50 (.load 6 true (.t 49)), o 6 (.alloc [.str [], .int .i64 0, .int .i64 0, .int .i64 0, .bool false, .int .i64 0]), om 5 48, os 6 6 50]
    (sq [o 51 (.load 6 true (.t 6)), o 52 (.call 60 [.t 51]), o 53 (.not (.t 52)), om 54 53, og 55 (.fad 1 (.t 1)) 54, og 56 (.load 1 false (.t 55)) 54, og 57 (.fad 0 (.t 6)) 54, og 58 (.load 1 false (.t 57)) 54, og 59 (.call 61 [.t 56, .t 58]) 54, og 60 (.mv (.t 5)) 54, og 61 (.bin .neq (.t 59) (.t 60)) 54, o 62 (.pick (.t 54) bT (.t 61))]
    (.ite (.t 62) (sq [o 2 (.mv bF)]
     .ret)
    .skip))))
   (.ops [o 63 (.bin .add (.t 46) (iv 1)), om 46 63])))))))
 (sq [oa 64 2 1, ol 65 64, o 66 (.call 57 [.t 65, .v (.int .i64 1), .v (.int .i64 4)]), om 67 66, oh 68 (.fad 3 (.t 1)) 67, oh 69 (.load 1 false (.t 68)) 67, oh 70 (.call 57 [.t 69, .v (.int .i64 0), .v (.int .i64 9)]) 67, o 71 (.pick (.t 67) (.t 70) bF), om 72 71, oh 73 (.fad 4 (.t 1)) 72, oh 74 (.load 1 false (.t 73)) 72, oh 75 (.call 57 [.t 74, .v (.int .i64 1), .v (.int .i64 9)]) 72, o 76 (.pick (.t 72) (.t 75) bF), om 77 76, oh 78 (.fad 5 (.t 1)) 77, oh 79 (.load 1 false (.t 78)) 77, oh 80 (.call 57 [.t 79, .v (.int .i64 0), .v (.int .i64 20)]) 77, o 81 (.pick (.t 77) (.t 80) bF), om 82 81, oh 83 (.fad 6 (.t 1)) 82, oh 84 (.load 1 false (.t 83)) 82, oh 85 (.call 57 [.t 84, .v (.int .i64 1), .v (.int .i64 30)]) 82, o 86 (.pick (.t 82) (.t 85) bF), om 2 86]
 .ret)))))
noncomputable def X.i_IsRules (p0 : TRules) : Option Bool :=
 ((X.i_inRange (p0.Terrains.length : Int) 1 6).bind fun v7 => (bif (!v7) then some false else ((X.i_inRange (p0.Kinds.length : Int) 1 4).bind fun v10 => (bif (!v10) then some false else ((loop (fun (x70 : Int) => ((bif (decide (x70 < (p0.Terrains.length : Int))) then ((at' zTTerrain p0.Terrains x70).bind fun v73 => ((X.i_goodTerrain v73 (p0.Kinds.length : Int)).bind fun v75 => (bif (!v75) then some (Sum.inr (Sum.inr false)) else ((X.i_terrainIndex p0.Terrains v73.Name).bind fun v78 => (bif (v78 != x70) then some (Sum.inr (Sum.inr false)) else some (Sum.inl (W (x70 + 1)))))))) else some (Sum.inr (Sum.inl ()))) : Option (Int ⊕ (Unit ⊕ Bool)))) 0).bind fun y81 => (Sum.elim (fun (y83 : Unit) => ((loop (fun (x142 : Int) => ((bif (decide (x142 < (p0.Kinds.length : Int))) then ((at' zTKind p0.Kinds x142).bind fun v145 => ((X.i_goodKind v145).bind fun v147 => (bif (!v147) then some (Sum.inr (Sum.inr false)) else ((X.i_kindIndex p0.Kinds v145.Name).bind fun v150 => (bif (v150 != x142) then some (Sum.inr (Sum.inr false)) else some (Sum.inl (W (x142 + 1)))))))) else some (Sum.inr (Sum.inl ()))) : Option (Int ⊕ (Unit ⊕ Bool)))) 0).bind fun y153 => (Sum.elim (fun (y155 : Unit) => ((X.i_inRange p0.Stack 1 4).bind fun v157 => (bif v157 then ((X.i_inRange p0.River 0 9).bind fun v160 => (bif v160 then ((X.i_inRange p0.Road 1 9).bind fun v163 => (bif v163 then ((X.i_inRange p0.Supply 0 20).bind fun v166 => (bif v166 then ((X.i_inRange p0.Turns 1 30).bind fun v169 => some v169) else some false)) else some false)) else some false)) else some false))) (fun (y156 : Bool) => some y156) y153))) (fun (y84 : Bool) => some y84) y81))))))
theorem i_IsRules_ok (p0 : TRules) (r : Bool) (H : X.i_IsRules p0 = some r) : FK 39 [.agg (eTRules p0)] (cB r) := by
 unfold X.i_IsRules at H
 refine fi Tryd.f39 i_IsRules_ir [(2, cB r)] [] glL Tryd.func39 ?_
 refine so [] [] [(1, pk 1)] [(1, va (eTRules p0))] id ?_
 refine seq_in ?_
 obtain ⟨v7, h8, H⟩ := oB H
 rcases oC H with ⟨c9, H⟩ | ⟨c9, H⟩
 ·refine sn ([.res (cB v7)] ++ rg 6 true []) [] [(18, cB true)] [] [] (fun t => lI p0.Terrains (aI (i_inRange_ok (p0.Terrains.length : Int) 1 6 v7 h8) (aG 6 c9 (t)))) ?_
  refine it rT ?_
  refine so [] [] [(2, cB false)] [] id ?_
  cases H
  exact er
 ·obtain ⟨v10, h11, H⟩ := oB H
  refine sn ([.res (cB v7)] ++ rg 4 false ([.res (cB v10)] ++ rg 2 false [])) [] [(18, cB (!v10))] [] [] (fun t => lI p0.Terrains (aI (i_inRange_ok (p0.Terrains.length : Int) 1 6 v7 h8) (aG 3 c9 (lI p0.Kinds (aI c9 (aI (i_inRange_ok (p0.Kinds.length : Int) 1 4 v10 h11) (aG 2 c9 (t)))))))) ?_
  rcases oC H with ⟨c12, H⟩ | ⟨c12, H⟩
  ·refine it c12 ?_
   refine so [] [] [(2, cB false)] [] id ?_
   cases H
   exact er
  ·refine jf c12 ?_
   refine sk ?_
   refine seq_in ?_
   refine sn [] [] [(20, dc 5 eTTerrain zTTerrain p0.Terrains), (21, cL p0.Terrains), (22, cI 0)] [] [] (fun t => lI p0.Terrains (t)) ?_
   refine ends_blk ?_
   obtain ⟨y81, h82, H⟩ := oB H
   refine tl [] [(1, pk 1), (20, dc 5 eTTerrain zTTerrain p0.Terrains), (21, cL p0.Terrains), (22, cI 0)] [(1, va (eTRules p0))] id ?_
   refine loop_in (fun (x : Int) => lit [(1, pk 1), (20, dc 5 eTTerrain zTTerrain p0.Terrains), (21, cL p0.Terrains), (22, cI x)] [(1, va (eTRules p0))]) (orJ (fun (z : Unit) => At (.exit 0) (lit [(1, pk 1)] [(1, va (eTRules p0))])) (fun (z : Bool) => At .ret (lit [(2, cB z)] []))) h82 ?_ ?_
   ·clear H h82
    intro x70 y0 H
    refine sn [] [] [(23, cB (decide (x70 < (p0.Terrains.length : Int))))] [] [] id ?_
    refine seq_in ?_
    rcases oC H with ⟨c72, H⟩ | ⟨c72, H⟩
    ·refine it c72 ?_
     refine sk ?_
     refine seq_in ?_
     refine ends_blk ?_
     obtain ⟨v73, h74, H⟩ := oB H
     refine sn [.cs (eTTerrain v73)] [] [(3, cI x70), (4, pk 4)] [] [(4, va (eTTerrain v73))] (a2 eTTerrain h74) ?_
     obtain ⟨v75, h76, H⟩ := oB H
     rcases oC H with ⟨c77, H⟩ | ⟨c77, H⟩
     ·refine sn ([.res (cB v75)] ++ rg 8 true []) [] [(41, cB true)] [] [] (fun t => lI p0.Kinds (aI (i_goodTerrain_ok v73 (p0.Kinds.length : Int) v75 h76) (aG 8 c77 (t)))) ?_
      refine it rT ?_
      refine so [] [] [(2, cB false)] [] id ?_
      refine ends_ret ?_
      cases H
      exact rsr
     ·obtain ⟨v78, h79, H⟩ := oB H
      refine sn ([.res (cB v75)] ++ rg 5 false ([.res (cI v78)] ++ rg 3 false [])) [] [(41, cB (v78 != x70))] [] [] (fun t => lI p0.Kinds (aI (i_goodTerrain_ok v73 (p0.Kinds.length : Int) v75 h76) (aG 5 c77 (aI (i_terrainIndex_ok p0.Terrains v73.Name v78 h79) (aG 3 c77 (t)))))) ?_
      rcases oC H with ⟨c80, H⟩ | ⟨c80, H⟩
      ·refine it c80 ?_
       refine so [] [] [(2, cB false)] [] id ?_
       refine ends_ret ?_
       cases H
       exact rsr
      ·refine jf c80 ?_
       refine sk ?_
       refine oo [] [] [(1, pk 1), (20, dc 5 eTTerrain zTTerrain p0.Terrains), (21, cL p0.Terrains), (22, cI (W (x70 + 1)))] [(1, va (eTRules p0))] id ?_
       cases H
       exact rr
    ·refine jf c72 ?_
     refine tl [] [(1, pk 1)] [(1, va (eTRules p0))] id ?_
     refine ends_exit ?_
     cases H
     exact rse
   ·clear h82
    cases y81 with
    | inl y83 =>
     replace H := ofInl H
     rintro e s ⟨rfl, rfl⟩
     change EndsI _ _ _ _ _ _
     refine seq_in ?_
     refine sn [] [] [(44, dc 6 eTKind zTKind p0.Kinds), (45, cL p0.Kinds), (46, cI 0)] [] [] (fun t => lI p0.Kinds (t)) ?_
     refine ends_blk ?_
     obtain ⟨y153, h154, H⟩ := oB H
     refine tl [] [(1, pk 1), (44, dc 6 eTKind zTKind p0.Kinds), (45, cL p0.Kinds), (46, cI 0)] [(1, va (eTRules p0))] id ?_
     refine loop_in (fun (x : Int) => lit [(1, pk 1), (44, dc 6 eTKind zTKind p0.Kinds), (45, cL p0.Kinds), (46, cI x)] [(1, va (eTRules p0))]) (orJ (fun (z : Unit) => At (.exit 2) (lit [(1, pk 1)] [(1, va (eTRules p0))])) (fun (z : Bool) => At .ret (lit [(2, cB z)] []))) h154 ?_ ?_
     ·clear H h154
      intro x142 y0 H
      refine sn [] [] [(47, cB (decide (x142 < (p0.Kinds.length : Int))))] [] [] id ?_
      refine seq_in ?_
      rcases oC H with ⟨c144, H⟩ | ⟨c144, H⟩
      ·refine it c144 ?_
       refine sk ?_
       refine seq_in ?_
       refine ends_blk ?_
       obtain ⟨v145, h146, H⟩ := oB H
       refine sn [.cs (eTKind v145)] [] [(5, cI x142), (6, pk 6)] [] [(6, va (eTKind v145))] (a2 eTKind h146) ?_
       obtain ⟨v147, h148, H⟩ := oB H
       rcases oC H with ⟨c149, H⟩ | ⟨c149, H⟩
       ·refine sn ([.res (cB v147)] ++ rg 8 true []) [] [(62, cB true)] [] [] (fun t => aI (i_goodKind_ok v145 v147 h148) (aG 8 c149 (t))) ?_
        refine it rT ?_
        refine so [] [] [(2, cB false)] [] id ?_
        refine ends_ret ?_
        cases H
        exact rsr
       ·obtain ⟨v150, h151, H⟩ := oB H
        refine sn ([.res (cB v147)] ++ rg 5 false ([.res (cI v150)] ++ rg 3 false [])) [] [(62, cB (v150 != x142))] [] [] (fun t => aI (i_goodKind_ok v145 v147 h148) (aG 5 c149 (aI (i_kindIndex_ok p0.Kinds v145.Name v150 h151) (aG 3 c149 (t))))) ?_
        rcases oC H with ⟨c152, H⟩ | ⟨c152, H⟩
        ·refine it c152 ?_
         refine so [] [] [(2, cB false)] [] id ?_
         refine ends_ret ?_
         cases H
         exact rsr
        ·refine jf c152 ?_
         refine sk ?_
         refine oo [] [] [(1, pk 1), (44, dc 6 eTKind zTKind p0.Kinds), (45, cL p0.Kinds), (46, cI (W (x142 + 1)))] [(1, va (eTRules p0))] id ?_
         cases H
         exact rr
      ·refine jf c144 ?_
       refine tl [] [(1, pk 1)] [(1, va (eTRules p0))] id ?_
       refine ends_exit ?_
       cases H
       exact rse
     ·clear h154
      cases y153 with
      | inl y155 =>
       replace H := ofInl H
       rintro e s ⟨rfl, rfl⟩
       change EndsI _ _ _ _ _ _
       obtain ⟨v157, h158, H⟩ := oB H
       rcases oC H with ⟨c159, H⟩ | ⟨c159, H⟩
       ·obtain ⟨v160, h161, H⟩ := oB H
        rcases oC H with ⟨c162, H⟩ | ⟨c162, H⟩
        ·obtain ⟨v163, h164, H⟩ := oB H
         rcases oC H with ⟨c165, H⟩ | ⟨c165, H⟩
         ·obtain ⟨v166, h167, H⟩ := oB H
          rcases oC H with ⟨c168, H⟩ | ⟨c168, H⟩
          ·obtain ⟨v169, h170, H⟩ := oB H
           refine so ([.res (cB v157)] ++ rg 3 true ([.res (cB v160)] ++ rg 4 true ([.res (cB v163)] ++ rg 4 true ([.res (cB v166)] ++ rg 4 true [.res (cB v169), .g true])))) [] [(2, cB v169)] [] (fun t => aI (i_inRange_ok p0.Stack 1 4 v157 h158) (aG 3 c159 (aI (i_inRange_ok p0.River 0 9 v160 h161) (aI c159 (aG 3 c162 (aI (i_inRange_ok p0.Road 1 9 v163 h164) (aI c162 (aG 3 c165 (aI (i_inRange_ok p0.Supply 0 20 v166 h167) (aI c165 (aG 3 c168 (aI (i_inRange_ok p0.Turns 1 30 v169 h170) (aI c168 (t)))))))))))))) ?_
           cases H
           exact er
          ·refine so ([.res (cB v157)] ++ rg 3 true ([.res (cB v160)] ++ rg 4 true ([.res (cB v163)] ++ rg 4 true ([.res (cB v166), .g true] ++ rg 4 false [])))) [] [(2, cB false)] [] (fun t => aI (i_inRange_ok p0.Stack 1 4 v157 h158) (aG 3 c159 (aI (i_inRange_ok p0.River 0 9 v160 h161) (aI c159 (aG 3 c162 (aI (i_inRange_ok p0.Road 1 9 v163 h164) (aI c162 (aG 3 c165 (aI (i_inRange_ok p0.Supply 0 20 v166 h167) (aI c165 (aG 4 c168 (t)))))))))))) ?_
           cases H
           exact er
         ·refine so ([.res (cB v157)] ++ rg 3 true ([.res (cB v160)] ++ rg 4 true ([.res (cB v163), .g true] ++ rg 8 false []))) [] [(2, cB false)] [] (fun t => aI (i_inRange_ok p0.Stack 1 4 v157 h158) (aG 3 c159 (aI (i_inRange_ok p0.River 0 9 v160 h161) (aI c159 (aG 3 c162 (aI (i_inRange_ok p0.Road 1 9 v163 h164) (aI c162 (aG 4 c165 (aG 4 rF (t)))))))))) ?_
          cases H
          exact er
        ·refine so ([.res (cB v157)] ++ rg 3 true ([.res (cB v160), .g true] ++ rg 12 false [])) [] [(2, cB false)] [] (fun t => aI (i_inRange_ok p0.Stack 1 4 v157 h158) (aG 3 c159 (aI (i_inRange_ok p0.River 0 9 v160 h161) (aI c159 (aG 4 c162 (aG 8 rF (t))))))) ?_
         cases H
         exact er
       ·refine so ([.res (cB v157)] ++ rg 16 false []) [] [(2, cB false)] [] (fun t => aI (i_inRange_ok p0.Stack 1 4 v157 h158) (aG 4 c159 (aG 12 rF (t)))) ?_
        cases H
        exact er
      | inr y156 =>
       replace H := ofInr H
       rintro e s ⟨rfl, rfl⟩
       cases H
       exact qr
    | inr y84 =>
     replace H := ofInr H
     rintro e s ⟨rfl, rfl⟩
     cases H
     exact qr
def i_isIndex_ir : S :=
 (sq [o 4 (.mv bF)]
 (sq [om 5 0, om 6 1, o 7 (.bin .sub (.t 6) (iv 1)), o 8 (.call 57 [.t 5, .v (.int .i64 0), .t 7]), om 4 8]
 .ret))
noncomputable def X.i_isIndex (p0 : Int) (p1 : Int) : Option Bool :=
 ((X.i_inRange p0 0 (W (p1 - 1))).bind fun v1 => some v1)
theorem i_isIndex_ok (p0 : Int) (p1 : Int) (r : Bool) (H : X.i_isIndex p0 p1 = some r) : FK 62 [cI p0, cI p1] (cB r) := by
 unfold X.i_isIndex at H
 refine fi Tryd.f62 i_isIndex_ir [(4, cB r)] [] glL Tryd.func62 ?_
 refine sn [] [] [] [] [] id ?_
 obtain ⟨v1, h2, H⟩ := oB H
 refine so [.res (cB v1)] [] [(4, cB v1)] [] (aI (i_inRange_ok p0 0 (W (p1 - 1)) v1 h2)) ?_
 cases H
 exact er
def i_increasing_ir : S :=
 (sq [o 2 (.mv bF)]
 (.seq (sq [o 3 (.mv (iv 1))]
 (.blk 0 (.loop (.seq (sq [om 4 3, om 5 0, o 6 (.len (.t 5)), o 7 (.bin .lss (.t 4) (.t 6))]
   (.ite (.t 7) .skip
   (.exit 0)))
   (.seq (.blk 1 (.seq (.drw [(0, 1), (0, 2), (0, 5), (1, 5), (2, 5), (3, 5), (4, 5), (0, 6), (1, 6), (2, 6), (3, 6), (4, 6), (5, 6), (0, 7), (1, 7), (2, 7), (3, 7), (4, 7), (0, 8), (1, 8), (2, 8), (3, 8), (4, 8)] [om 10 0, om 11 3, o 12 (.bin .sub (.t 11) (iv 1)), o 13 (.iad 1 (.t 10) (.t 12)), ol 14 13, om 15 0, om 16 3, o 17 (.iad 1 (.t 15) (.t 16)), ol 18 17, o 19 (.bin .geq (.t 14) (.t 18))])
    (.ite (.t 19) (sq [o 2 (.mv bF)]
     .ret)
    .skip)))
   (.ops [om 8 3, o 9 (.bin .add (.t 8) (iv 1)), om 3 9]))))))
 (sq [o 2 (.mv bT)]
 .ret)))
noncomputable def X.i_increasing (p0 : (List Int)) : Option Bool :=
 ((loop (fun (x16 : Int) => ((bif (decide (x16 < (p0.length : Int))) then ((at' zI p0 (W (x16 - 1))).bind fun v19 => ((at' zI p0 x16).bind fun v21 => (bif (decide (v19 ≥ v21)) then some (Sum.inr (Sum.inr false)) else some (Sum.inl (W (x16 + 1)))))) else some (Sum.inr (Sum.inl ()))) : Option (Int ⊕ (Unit ⊕ Bool)))) 1).bind fun y24 => (Sum.elim (fun (y26 : Unit) => some true) (fun (y27 : Bool) => some y27) y24))
theorem i_increasing_ok (p0 : (List Int)) (r : Bool) (H : X.i_increasing p0 = some r) : FK 63 [.c (dat 1 eI zI p0)] (cB r) := by
 unfold X.i_increasing at H
 refine fi Tryd.f63 i_increasing_ir [(2, cB r)] [] glL Tryd.func63 ?_
 refine sn [] [] [] [] [] id ?_
 refine seq_in ?_
 refine sn [] [] [(3, cI 1)] [] [] id ?_
 refine ends_blk ?_
 obtain ⟨y24, h25, H⟩ := oB H
 refine tl [] [(0, dc 1 eI zI p0), (3, cI 1)] [] id ?_
 refine loop_in (fun (x : Int) => lit [(0, dc 1 eI zI p0), (3, cI x)] []) (orJ (fun (z : Unit) => At (.exit 0) (lit [] [])) (fun (z : Bool) => At .ret (lit [(2, cB z)] []))) h25 ?_ ?_
 ·clear H h25
  intro x16 y0 H
  refine seq_in ?_
  refine sn [] [] [(7, cB (decide (x16 < (p0.length : Int))))] [] [] (fun t => lI p0 (t)) ?_
  rcases oC H with ⟨c18, H⟩ | ⟨c18, H⟩
  ·refine it c18 ?_
   refine sk ?_
   refine seq_in ?_
   refine ends_blk ?_
   obtain ⟨v19, h20, H⟩ := oB H
   obtain ⟨v21, h22, H⟩ := oB H
   refine xn [.cs (eI v19), .cs (eI v21)] [] [(19, cB (decide (v19 ≥ v21)))] [] [] (fun t => (a2 eI h20 (aI rN ((a2 eI h22 (aI rN (t))))))) ?_
   rcases oC H with ⟨c23, H⟩ | ⟨c23, H⟩
   ·refine it c23 ?_
    refine so [] [] [(2, cB false)] [] id ?_
    refine ends_ret ?_
    cases H
    exact rsr
   ·refine jf c23 ?_
    refine sk ?_
    refine oo [] [] [(0, dc 1 eI zI p0), (3, cI (W (x16 + 1)))] [] id ?_
    cases H
    exact rr
  ·refine jf c18 ?_
   refine tl [] [] [] id ?_
   refine ends_exit ?_
   cases H
   exact rse
 ·clear h25
  cases y24 with
  | inl y26 =>
   replace H := ofInl H
   rintro e s ⟨rfl, rfl⟩
   change EndsI _ _ _ _ _ _
   refine so [] [] [(2, cB true)] [] id ?_
   cases H
   exact er
  | inr y27 =>
   replace H := ofInr H
   rintro e s ⟨rfl, rfl⟩
   cases H
   exact qr
def i_indexOf_ir : S :=
 (sq [o 2 (.box 5 (.t 0)), o 3 (.box 2 (.t 1)), o 4 (.mv (iv 0))]
 (.seq (sq [oa 5 0 3, ol 6 5, oa 7 0 2, ol 8 7, o 9 (.call 62 [.t 6, .t 8]), o 10 (.not (.t 9)), om 11 10, og 12 (.fad 1 (.t 3)) 11, og 13 (.load 1 false (.t 12)) 11, og 14 (.fad 1 (.t 2)) 11, og 15 (.load 1 false (.t 14)) 11, og 16 (.call 62 [.t 13, .t 15]) 11, og 17 (.not (.t 16)) 11, o 18 (.pick (.t 11) bT (.t 17))]
 (.ite (.t 18) (sq [o 4 (.mv (.v (.int .i64 (-1))))]
  .ret)
 .skip))
 (sq [oa 19 1 3, ol 20 19, oa 21 0 2, ol 22 21, o 23 (.bin .mul (.t 20) (.t 22)), oa 24 0 3, ol 25 24, o 26 (.bin .add (.t 23) (.t 25)), om 4 26]
 .ret)))
noncomputable def X.i_indexOf (p0 : TMap) (p1 : THex) : Option Int :=
 ((X.i_isIndex p1.Q p0.Width).bind fun v7 => (bif (!v7) then some (-1) else ((X.i_isIndex p1.R p0.Height).bind fun v10 => (bif (!v10) then some (-1) else some (W ((W (p1.R * p0.Width)) + p1.Q))))))
theorem i_indexOf_ok (p0 : TMap) (p1 : THex) (r : Int) (H : X.i_indexOf p0 p1 = some r) : FK 83 [.agg (eTMap p0), .agg (eTHex p1)] (cI r) := by
 unfold X.i_indexOf at H
 refine fi Tryd.f83 i_indexOf_ir [(4, cI r)] [] glL Tryd.func83 ?_
 refine so [] [] [(2, pk 2), (3, pk 3)] [(2, va (eTMap p0)), (3, va (eTHex p1))] id ?_
 refine seq_in ?_
 obtain ⟨v7, h8, H⟩ := oB H
 rcases oC H with ⟨c9, H⟩ | ⟨c9, H⟩
 ·refine sn ([.res (cB v7)] ++ rg 7 true []) [] [(18, cB true)] [] [] (fun t => aI (i_isIndex_ok p1.Q p0.Width v7 h8) (aG 7 c9 (t))) ?_
  refine it rT ?_
  refine so [] [] [(4, cI (-1))] [] id ?_
  cases H
  exact er
 ·obtain ⟨v10, h11, H⟩ := oB H
  refine sn ([.res (cB v7)] ++ rg 5 false ([.res (cB v10)] ++ rg 2 false [])) [] [(18, cB (!v10))] [] [] (fun t => aI (i_isIndex_ok p1.Q p0.Width v7 h8) (aG 5 c9 (aI (i_isIndex_ok p1.R p0.Height v10 h11) (aG 2 c9 (t))))) ?_
  rcases oC H with ⟨c12, H⟩ | ⟨c12, H⟩
  ·refine it c12 ?_
   refine so [] [] [(4, cI (-1))] [] id ?_
   cases H
   exact er
  ·refine jf c12 ?_
   refine sk ?_
   refine so [] [] [(4, cI (W ((W (p1.R * p0.Width)) + p1.Q)))] [] id ?_
   cases H
   exact er
def i_stepBy_ir : S :=
 (sq [o 3 (.box 2 (.t 0)), o 6 (.alloc [.int .i64 0, .int .i64 0])]
 (.seq (.drw [(0, 2), (1, 2), (0, 3), (1, 3), (2, 3), (0, 4), (1, 4), (2, 4), (0, 5), (1, 5), (2, 5), (0, 6), (1, 6), (2, 6), (0, 7), (1, 7), (0, 9), (1, 9), (2, 9), (3, 9), (4, 9), (5, 9), (6, 9), (7, 9), (8, 9), (0, 10), (1, 10), (2, 10), (3, 10), (4, 10), (5, 10), (6, 10), (7, 10), (8, 10), (0, 11), (1, 11), (2, 11), (3, 11), (4, 11), (5, 11), (6, 11), (7, 11), (8, 11), (9, 11), (10, 11), (0, 12), (1, 12), (2, 12), (3, 12), (4, 12), (5, 12), (6, 12), (7, 12), (8, 12), (9, 12), (10, 12), (11, 12), (0, 13), (1, 13), (2, 13), (3, 13), (4, 13), (5, 13), (6, 13), (7, 13), (8, 13), (9, 13), (10, 13), (11, 13), (0, 14), (1, 14), (2, 14), (3, 14), (4, 14), (5, 14), (6, 14), (7, 14), (8, 14), (9, 14), (10, 14), (11, 14), (0, 15), (1, 15), (2, 15), (3, 15), (4, 15), (5, 15), (6, 15), (7, 15), (8, 15), (9, 15), (10, 15), (11, 15), (0, 16), (1, 16), (2, 16), (3, 16), (4, 16), (5, 16), (6, 16), (7, 16), (8, 16), (9, 16), (10, 16), (0, 17), (1, 17), (2, 17), (3, 17), (4, 17), (5, 17), (6, 17), (7, 17), (8, 17)] [oa 7 0 3, ol 8 7, om 9 2, om 10 1, o 11 (.iar 6 2 (.g 0) (.t 10)), oa 12 0 11, ol 13 12, o 14 (.bin .mul (.t 9) (.t 13)), o 15 (.bin .add (.t 8) (.t 14)), oa 16 1 3, ol 17 16, om 18 2, om 19 1, o 20 (.iar 6 2 (.g 0) (.t 19)), oa 21 1 20, ol 22 21, o 23 (.bin .mul (.t 18) (.t 22)), o 24 (.bin .add (.t 17) (.t 23)), o 25 (.build [.int .i64 0, .int .i64 0] [(0, 1, .t 15), (1, 1, .t 24)]), os 2 6 25])
 .ret))
noncomputable def X.i_stepBy (p0 : THex) (p1 : Int) (p2 : Int) : Option THex :=
 ((at' zTHex dirs p1).bind fun v1 => some (THex.mk (W (p0.Q + (W (p2 * v1.Q)))) (W (p0.R + (W (p2 * v1.R))))))
theorem i_stepBy_ok (p0 : THex) (p1 : Int) (p2 : Int) (r : THex) (H : X.i_stepBy p0 p1 p2 = some r) : FK 84 [.agg (eTHex p0), cI p1, cI p2] (.agg (eTHex r)) := by
 unfold X.i_stepBy at H
 refine fi Tryd.f84 i_stepBy_ir [(6, pk 6)] [(6, va (eTHex r))] glL Tryd.func84 ?_
 refine sn [] [] [(3, pk 3), (6, pk 6)] [] [(3, va (eTHex p0)), (6, .var [jI 0, jI 0] false)] id ?_
 obtain ⟨v1, h2, H⟩ := oB H
 refine xn [.cs (eTHex v1), .cs (eTHex v1)] [] [] [6] [(6, .var [jI (W (p0.Q + (W (p2 * v1.Q)))), jI (W (p0.R + (W (p2 * v1.R))))] false)] (fun t => aI (at_lt h2) (aI (dirs_at h2) (aI rN (aI (at_lt h2) (aI (dirs_at h2) (aI rN (t))))))) ?_
 refine tl [] [(6, pk 6)] [(6, .var [jI (W (p0.Q + (W (p2 * v1.Q)))), jI (W (p0.R + (W (p2 * v1.R))))] false)] id ?_
 cases H
 exact er
def i_hexOf_ir : S :=
 (sq [o 2 (.box 5 (.t 0)), o 4 (.alloc [.int .i64 0, .int .i64 0])]
 (.seq (.drw [(0, 1), (0, 2), (0, 4), (1, 4), (2, 4), (3, 4), (0, 5), (1, 5), (2, 5), (3, 5), (4, 5), (0, 6), (1, 6), (2, 6), (3, 6), (4, 6), (0, 7), (1, 7), (2, 7), (3, 7)] [om 5 1, oa 6 0 2, ol 7 6, o 8 (.bin .rem (.t 5) (.t 7)), om 9 1, oa 10 0 2, ol 11 10, o 12 (.bin .quo (.t 9) (.t 11)), o 13 (.build [.int .i64 0, .int .i64 0] [(0, 1, .t 8), (1, 1, .t 12)]), os 2 4 13])
 .ret))
noncomputable def X.i_hexOf (p0 : TMap) (p1 : Int) : Option THex :=
 (if p0.Width ≠ 0 then (if p0.Width ≠ 0 then some (THex.mk (Int.tmod p1 p0.Width) (W (Int.tdiv p1 p0.Width))) else none) else none)
theorem i_hexOf_ok (p0 : TMap) (p1 : Int) (r : THex) (H : X.i_hexOf p0 p1 = some r) : FK 85 [.agg (eTMap p0), cI p1] (.agg (eTHex r)) := by
 unfold X.i_hexOf at H
 refine fi Tryd.f85 i_hexOf_ir [(4, pk 4)] [(4, va (eTHex r))] glL Tryd.func85 ?_
 refine sn [] [] [(2, pk 2), (4, pk 4)] [] [(2, va (eTMap p0)), (4, .var [jI 0, jI 0] false)] id ?_
 obtain ⟨g1, H⟩ := oI H
 obtain ⟨g2, H⟩ := oI H
 refine xn [] [] [] [4] [(4, .var [jI (Int.tmod p1 p0.Width), jI (W (Int.tdiv p1 p0.Width))] false)] (fun t => aI g1 (aI g2 (t))) ?_
 refine tl [] [(4, pk 4)] [(4, .var [jI (Int.tmod p1 p0.Width), jI (W (Int.tdiv p1 p0.Width))] false)] id ?_
 cases H
 exact er
def i_nextTo_ir : S :=
 (sq [o 3 (.box 5 (.t 0)), o 6 (.mv (iv 0))]
 (.seq (.drw [(0, 1), (0, 2), (1, 2), (0, 3), (0, 4), (1, 4), (2, 4), (3, 4), (0, 5)] [o 7 (.load 5 true (.t 3)), o 8 (.load 5 true (.t 3)), om 9 1, o 10 (.call 85 [.t 8, .t 9]), om 11 2, o 12 (.call 84 [.t 10, .t 11, .v (.int .i64 1)]), o 13 (.call 83 [.t 7, .t 12]), om 6 13])
 .ret))
noncomputable def X.i_nextTo (p0 : TMap) (p1 : Int) (p2 : Int) : Option Int :=
 ((X.i_hexOf p0 p1).bind fun v1 => ((X.i_stepBy v1 p2 1).bind fun v3 => ((X.i_indexOf p0 v3).bind fun v5 => some v5)))
theorem i_nextTo_ok (p0 : TMap) (p1 : Int) (p2 : Int) (r : Int) (H : X.i_nextTo p0 p1 p2 = some r) : FK 79 [.agg (eTMap p0), cI p1, cI p2] (cI r) := by
 unfold X.i_nextTo at H
 refine fi Tryd.f79 i_nextTo_ir [(6, cI r)] [] glL Tryd.func79 ?_
 refine sn [] [] [(3, pk 3)] [] [(3, va (eTMap p0))] id ?_
 obtain ⟨v1, h2, H⟩ := oB H
 obtain ⟨v3, h4, H⟩ := oB H
 obtain ⟨v5, h6, H⟩ := oB H
 refine sx [.res (.agg (eTHex v1)), .res (.agg (eTHex v3)), .res (cI v5)] [] [(6, cI v5)] [] (fun t => aI (i_hexOf_ok p0 p1 v1 h2) (aI trivial (aI rN (aI (i_stepBy_ok v1 p2 1 v3 h4) (aI trivial (aI rN (aI (i_indexOf_ok p0 v3 v5 h6) (aI trivial (aI rN (t)))))))))) ?_
 cases H
 exact er
def i_isEdge_ir : S :=
 (sq [o 2 (.box 5 (.t 0)), o 4 (.mv bF)]
 (sq [om 5 1, oa 6 0 2, ol 7 6, o 8 (.bin .mul (iv 3) (.t 7)), oa 9 1 2, ol 10 9, o 11 (.bin .mul (.t 8) (.t 10)), o 12 (.bin .sub (.t 11) (iv 1)), o 13 (.call 57 [.t 5, .v (.int .i64 0), .t 12]), om 14 13, oh 15 (.load 5 true (.t 2)) 14, oh 16 (.mv (.t 1)) 14, oh 17 (.bin .quo (.t 16) (iv 3)) 14, oh 18 (.mv (.t 1)) 14, oh 19 (.bin .rem (.t 18) (iv 3)) 14, oh 20 (.call 79 [.t 15, .t 17, .t 19]) 14, oh 21 (.bin .geq (.t 20) (iv 0)) 14, o 22 (.pick (.t 14) (.t 21) bF), om 4 22]
 .ret))
noncomputable def X.i_isEdge (p0 : TMap) (p1 : Int) : Option Bool :=
 ((X.i_inRange p1 0 (W ((W ((W (3 * p0.Width)) * p0.Height)) - 1))).bind fun v1 => (bif v1 then ((X.i_nextTo p0 (W (Int.tdiv p1 3)) (Int.tmod p1 3)).bind fun v4 => some (decide (v4 ≥ 0))) else some false))
theorem i_isEdge_ok (p0 : TMap) (p1 : Int) (r : Bool) (H : X.i_isEdge p0 p1 = some r) : FK 64 [.agg (eTMap p0), cI p1] (cB r) := by
 unfold X.i_isEdge at H
 refine fi Tryd.f64 i_isEdge_ir [(4, cB r)] [] glL Tryd.func64 ?_
 refine sn [] [] [(2, pk 2)] [] [(2, va (eTMap p0))] id ?_
 obtain ⟨v1, h2, H⟩ := oB H
 rcases oC H with ⟨c3, H⟩ | ⟨c3, H⟩
 ·obtain ⟨v4, h5, H⟩ := oB H
  refine so ([.res (cB v1)] ++ rg 6 true ([.res (cI v4)] ++ rg 2 true [])) [] [(4, cB (decide (v4 ≥ 0)))] [] (fun t => aI (i_inRange_ok p1 0 (W ((W ((W (3 * p0.Width)) * p0.Height)) - 1)) v1 h2) (aG 3 c3 (aI (by decide : (3 : Int) ≠ 0) (aG 2 c3 (aI (by decide : (3 : Int) ≠ 0) (aI c3 (aI (i_nextTo_ok p0 (W (Int.tdiv p1 3)) (Int.tmod p1 3) v4 h5) (aG 2 c3 (t))))))))) ?_
  cases H
  exact er
 ·refine so ([.res (cB v1)] ++ rg 8 false []) [] [(4, cB false)] [] (fun t => aI (i_inRange_ok p1 0 (W ((W ((W (3 * p0.Width)) * p0.Height)) - 1)) v1 h2) (aG 8 c3 (t))) ?_
  cases H
  exact er
def i_IsMap_ir : S :=
 (sq [o 1 (.box 5 (.t 0)), o 2 (.mv bF)]
 (.seq (sq [oa 9 0 1, ol 10 9, o 11 (.call 57 [.t 10, .v (.int .i64 1), .v (.int .i64 10)]), o 12 (.not (.t 11)), om 13 12, og 14 (.fad 1 (.t 1)) 13, og 15 (.load 1 false (.t 14)) 13, og 16 (.call 57 [.t 15, .v (.int .i64 1), .v (.int .i64 10)]) 13, og 17 (.not (.t 16)) 13, o 18 (.pick (.t 13) bT (.t 17)), om 19 18, og 20 (.fad 2 (.t 1)) 19, og 21 (.load 1 false (.t 20)) 19, og 22 (.len (.t 21)) 19, og 23 (.fad 0 (.t 1)) 19, og 24 (.load 1 false (.t 23)) 19, og 25 (.fad 1 (.t 1)) 19, og 26 (.load 1 false (.t 25)) 19, og 27 (.bin .mul (.t 24) (.t 26)) 19, og 28 (.bin .neq (.t 22) (.t 27)) 19, o 29 (.pick (.t 19) bT (.t 28))]
 (.ite (.t 29) (sq [o 2 (.mv bF)]
  .ret)
 .skip))
 (.seq (sq [oa 30 2 1, ol 31 30, o 32 (.len (.t 31)), o 33 (.mv (iv 0))]
 (.blk 0 (.loop (sq [o 34 (.bin .lss (.t 33) (.t 32))]
   (.seq (.ite (.t 34) .skip
   (.exit 0))
   (.seq (.blk 1 (sq [o 35 (.iad 1 (.t 31) (.t 33)), ol 36 35, om 4 36]
    (sq [om 37 4, o 38 (.call 62 [.t 37, .v (.int .i64 6)]), o 39 (.not (.t 38))]
    (.ite (.t 39) (sq [o 2 (.mv bF)]
     .ret)
    .skip))))
   (.ops [o 40 (.bin .add (.t 33) (iv 1)), om 33 40])))))))
 (.seq (sq [oa 41 3 1, ol 42 41, oa 43 4 1, ol 44 43, o 45 (.bsl 1 [.t 42, .t 44]), o 46 (.len (.t 45)), o 47 (.mv (iv 0))]
 (.blk 2 (.loop (sq [o 48 (.bin .lss (.t 47) (.t 46))]
   (.seq (.ite (.t 48) .skip
   (.exit 2))
   (.seq (.blk 3 (sq [o 49 (.iad 1 (.t 45) (.t 47)), ol 50 49, om 6 50]
    (.seq (sq [om 51 6, o 52 (.call 63 [.t 51]), o 53 (.not (.t 52))]
    (.ite (.t 53) (sq [o 2 (.mv bF)]
     .ret)
    .skip))
    (sq [om 54 6, o 55 (.len (.t 54)), o 56 (.mv (iv 0))]
    (.blk 4 (.loop (sq [o 57 (.bin .lss (.t 56) (.t 55))]
      (.seq (.ite (.t 57) .skip
      (.exit 4))
      (.seq (.blk 5 (sq [o 58 (.iad 1 (.t 54) (.t 56)), ol 59 58, om 8 59]
       (sq [o 60 (.load 5 true (.t 1)), om 61 8, o 62 (.call 64 [.t 60, .t 61]), o 63 (.not (.t 62))]
       (.ite (.t 63) (sq [o 2 (.mv bF)]
        .ret)
       .skip))))
      (.ops [o 64 (.bin .add (.t 56) (iv 1)), om 56 64]))))))))))
   (.ops [o 65 (.bin .add (.t 47) (iv 1)), om 47 65])))))))
 (sq [o 2 (.mv bT)]
 .ret)))))
noncomputable def X.i_IsMap (p0 : TMap) : Option Bool :=
 ((X.i_inRange p0.Width 1 10).bind fun v8 => (bif (!v8) then some false else ((X.i_inRange p0.Height 1 10).bind fun v11 => (bif (!v11) then some false else (bif ((p0.Terrain.length : Int) != (W (p0.Width * p0.Height))) then some false else ((loop (fun (x57 : Int) => ((bif (decide (x57 < (p0.Terrain.length : Int))) then ((at' zI p0.Terrain x57).bind fun v60 => ((X.i_isIndex v60 6).bind fun v62 => (bif (!v62) then some (Sum.inr (Sum.inr false)) else some (Sum.inl (W (x57 + 1)))))) else some (Sum.inr (Sum.inl ()))) : Option (Int ⊕ (Unit ⊕ Bool)))) 0).bind fun y65 => (Sum.elim (fun (y67 : Unit) => ((loop (fun (x142 : Int) => ((bif (decide (x142 < (([p0.Rivers, p0.Roads] : List (List Int)).length : Int))) then (if 0 ≤ x142 ∧ x142 < (([p0.Rivers, p0.Roads] : List (List Int)).length : Int) then ((X.i_increasing (([p0.Rivers, p0.Roads] : List (List Int)).getD x142.toNat zLI)).bind fun v149 => (bif (!v149) then some (Sum.inr (Sum.inr false)) else ((loop (fun (x167 : Int) => ((bif (decide (x167 < ((([p0.Rivers, p0.Roads] : List (List Int)).getD x142.toNat zLI).length : Int))) then ((at' zI (([p0.Rivers, p0.Roads] : List (List Int)).getD x142.toNat zLI) x167).bind fun v170 => ((X.i_isEdge p0 v170).bind fun v172 => (bif (!v172) then some (Sum.inr (Sum.inr false)) else some (Sum.inl (W (x167 + 1)))))) else some (Sum.inr (Sum.inl ()))) : Option (Int ⊕ (Unit ⊕ Bool)))) 0).bind fun y175 => (Sum.elim (fun (y177 : Unit) => some (Sum.inl (W (x142 + 1)))) (fun (y178 : Bool) => some (Sum.inr (Sum.inr y178))) y175)))) else none) else some (Sum.inr (Sum.inl ()))) : Option (Int ⊕ (Unit ⊕ Bool)))) 0).bind fun y179 => (Sum.elim (fun (y181 : Unit) => some true) (fun (y182 : Bool) => some y182) y179))) (fun (y68 : Bool) => some y68) y65)))))))
theorem i_IsMap_ok (p0 : TMap) (r : Bool) (H : X.i_IsMap p0 = some r) : FK 40 [.agg (eTMap p0)] (cB r) := by
 unfold X.i_IsMap at H
 refine fi Tryd.f40 i_IsMap_ir [(2, cB r)] [] glL Tryd.func40 ?_
 refine so [] [] [(1, pk 1)] [(1, va (eTMap p0))] id ?_
 refine seq_in ?_
 obtain ⟨v8, h9, H⟩ := oB H
 rcases oC H with ⟨c10, H⟩ | ⟨c10, H⟩
 ·refine sn ([.res (cB v8)] ++ rg 15 true []) [] [(29, cB true)] [] [] (fun t => aI (i_inRange_ok p0.Width 1 10 v8 h9) (aG 5 c10 (aG 10 rT (t)))) ?_
  refine it rT ?_
  refine so [] [] [(2, cB false)] [] id ?_
  cases H
  exact er
 ·obtain ⟨v11, h12, H⟩ := oB H
  rcases oC H with ⟨c13, H⟩ | ⟨c13, H⟩
  ·refine sn ([.res (cB v8)] ++ rg 3 false ([.res (cB v11)] ++ rg 2 false (rg 10 true []))) [] [(29, cB true)] [] [] (fun t => aI (i_inRange_ok p0.Width 1 10 v8 h9) (aG 3 c10 (aI (i_inRange_ok p0.Height 1 10 v11 h12) (aG 2 c10 (aG 10 c13 (t)))))) ?_
   refine it rT ?_
   refine so [] [] [(2, cB false)] [] id ?_
   cases H
   exact er
  ·refine sn ([.res (cB v8)] ++ rg 3 false ([.res (cB v11)] ++ rg 12 false [])) [] [(29, cB ((p0.Terrain.length : Int) != (W (p0.Width * p0.Height))))] [] [] (fun t => aI (i_inRange_ok p0.Width 1 10 v8 h9) (aG 3 c10 (aI (i_inRange_ok p0.Height 1 10 v11 h12) (aG 2 c10 (aG 3 c13 (lI p0.Terrain (aG 7 c13 (t)))))))) ?_
   rcases oC H with ⟨c14, H⟩ | ⟨c14, H⟩
   ·refine it c14 ?_
    refine so [] [] [(2, cB false)] [] id ?_
    cases H
    exact er
   ·refine jf c14 ?_
    refine sk ?_
    refine seq_in ?_
    refine sn [] [] [(31, dc 1 eI zI p0.Terrain), (32, cL p0.Terrain), (33, cI 0)] [] [] (fun t => lI p0.Terrain (t)) ?_
    refine ends_blk ?_
    obtain ⟨y65, h66, H⟩ := oB H
    refine tl [] [(1, pk 1), (31, dc 1 eI zI p0.Terrain), (32, cL p0.Terrain), (33, cI 0)] [(1, va (eTMap p0))] id ?_
    refine loop_in (fun (x : Int) => lit [(1, pk 1), (31, dc 1 eI zI p0.Terrain), (32, cL p0.Terrain), (33, cI x)] [(1, va (eTMap p0))]) (orJ (fun (z : Unit) => At (.exit 0) (lit [(1, pk 1)] [(1, va (eTMap p0))])) (fun (z : Bool) => At .ret (lit [(2, cB z)] []))) h66 ?_ ?_
    ·clear H h66
     intro x57 y0 H
     refine sn [] [] [(34, cB (decide (x57 < (p0.Terrain.length : Int))))] [] [] id ?_
     refine seq_in ?_
     rcases oC H with ⟨c59, H⟩ | ⟨c59, H⟩
     ·refine it c59 ?_
      refine sk ?_
      refine seq_in ?_
      refine ends_blk ?_
      obtain ⟨v60, h61, H⟩ := oB H
      refine sn [.cs (eI v60)] [] [(4, cI v60)] [] [] (a2 eI h61) ?_
      obtain ⟨v62, h63, H⟩ := oB H
      refine sn [.res (cB v62)] [] [(39, cB (!v62))] [] [] (aI (i_isIndex_ok v60 6 v62 h63)) ?_
      rcases oC H with ⟨c64, H⟩ | ⟨c64, H⟩
      ·refine it c64 ?_
       refine so [] [] [(2, cB false)] [] id ?_
       refine ends_ret ?_
       cases H
       exact rsr
      ·refine jf c64 ?_
       refine sk ?_
       refine oo [] [] [(1, pk 1), (31, dc 1 eI zI p0.Terrain), (32, cL p0.Terrain), (33, cI (W (x57 + 1)))] [(1, va (eTMap p0))] id ?_
       cases H
       exact rr
     ·refine jf c59 ?_
      refine tl [] [(1, pk 1)] [(1, va (eTMap p0))] id ?_
      refine ends_exit ?_
      cases H
      exact rse
    ·clear h66
     cases y65 with
     | inl y67 =>
      replace H := ofInl H
      rintro e s ⟨rfl, rfl⟩
      change EndsI _ _ _ _ _ _
      refine seq_in ?_
      refine sn [fh eLI zLI ([p0.Rivers, p0.Roads] : List (List Int))] [] [(45, ow 45 1 ([p0.Rivers, p0.Roads] : List (List Int))), (46, cL ([p0.Rivers, p0.Roads] : List (List Int))), (47, cI 0)] [] [(45, ar 1 eLI zLI ([p0.Rivers, p0.Roads] : List (List Int)))] (fun t => aI (rfl : ([p0.Rivers, p0.Roads] : List (List Int)).length = 2) (aI (fF_lit eLI zLI ([p0.Rivers, p0.Roads] : List (List Int))) ((fun (_ : ([p0.Rivers, p0.Roads] : List (List Int)).length ≤ maxLen) => t)))) ?_
      refine ends_blk ?_
      obtain ⟨y179, h180, H⟩ := oB H
      refine tl [] [(1, pk 1), (45, ow 45 1 ([p0.Rivers, p0.Roads] : List (List Int))), (46, cL ([p0.Rivers, p0.Roads] : List (List Int))), (47, cI 0)] [(1, va (eTMap p0)), (45, ar 1 eLI zLI ([p0.Rivers, p0.Roads] : List (List Int)))] id ?_
      refine loop_in (fun (x : Int) => lit [(1, pk 1), (45, ow 45 1 ([p0.Rivers, p0.Roads] : List (List Int))), (46, cL ([p0.Rivers, p0.Roads] : List (List Int))), (47, cI x)] [(1, va (eTMap p0)), (45, ar 1 eLI zLI ([p0.Rivers, p0.Roads] : List (List Int)))]) (orJ (fun (z : Unit) => At (.exit 2) (lit [] [])) (fun (z : Bool) => At .ret (lit [(2, cB z)] []))) h180 ?_ ?_
      ·clear H h180
       intro x142 y0 H
       refine sn [] [] [(48, cB (decide (x142 < (([p0.Rivers, p0.Roads] : List (List Int)).length : Int))))] [] [] id ?_
       refine seq_in ?_
       rcases oC H with ⟨c144, H⟩ | ⟨c144, H⟩
       ·refine it c144 ?_
        refine sk ?_
        refine seq_in ?_
        refine ends_blk ?_
        obtain ⟨g145, H⟩ := oI H
        refine sn [.no] [] [(6, .c (dat 1 eI zI (([p0.Rivers, p0.Roads] : List (List Int)).getD x142.toNat zLI)))] [] [] (fun t => aI g145 (aI (nat_lt g145) (t))) ?_
        refine seq_in ?_
        obtain ⟨v149, h150, H⟩ := oB H
        refine sn [.res (cB v149)] [] [(53, cB (!v149))] [] [] (aI (i_increasing_ok (([p0.Rivers, p0.Roads] : List (List Int)).getD x142.toNat zLI) v149 h150)) ?_
        rcases oC H with ⟨c151, H⟩ | ⟨c151, H⟩
        ·refine it c151 ?_
         refine so [] [] [(2, cB false)] [] id ?_
         refine ends_ret ?_
         cases H
         exact rsr
        ·refine jf c151 ?_
         refine sk ?_
         refine sn [] [] [(54, .c (dat 1 eI zI (([p0.Rivers, p0.Roads] : List (List Int)).getD x142.toNat zLI))), (55, cL (([p0.Rivers, p0.Roads] : List (List Int)).getD x142.toNat zLI)), (56, cI 0)] [] [] (fun t => (fun (_ : (([p0.Rivers, p0.Roads] : List (List Int)).getD x142.toNat zLI).length ≤ maxLen) => t)) ?_
         refine ends_blk ?_
         obtain ⟨y175, h176, H⟩ := oB H
         refine tl [] [(1, pk 1), (45, ow 45 1 ([p0.Rivers, p0.Roads] : List (List Int))), (46, cL ([p0.Rivers, p0.Roads] : List (List Int))), (47, cI x142), (54, .c (dat 1 eI zI (([p0.Rivers, p0.Roads] : List (List Int)).getD x142.toNat zLI))), (55, cL (([p0.Rivers, p0.Roads] : List (List Int)).getD x142.toNat zLI)), (56, cI 0)] [(1, va (eTMap p0)), (45, ar 1 eLI zLI ([p0.Rivers, p0.Roads] : List (List Int)))] id ?_
         refine loop_in (fun (x : Int) => lit [(1, pk 1), (45, ow 45 1 ([p0.Rivers, p0.Roads] : List (List Int))), (46, cL ([p0.Rivers, p0.Roads] : List (List Int))), (47, cI x142), (54, .c (dat 1 eI zI (([p0.Rivers, p0.Roads] : List (List Int)).getD x142.toNat zLI))), (55, cL (([p0.Rivers, p0.Roads] : List (List Int)).getD x142.toNat zLI)), (56, cI x)] [(1, va (eTMap p0)), (45, ar 1 eLI zLI ([p0.Rivers, p0.Roads] : List (List Int)))]) (orJ (fun (z : Unit) => At (.exit 4) (lit [(1, pk 1), (45, ow 45 1 ([p0.Rivers, p0.Roads] : List (List Int))), (46, cL ([p0.Rivers, p0.Roads] : List (List Int))), (47, cI x142)] [(1, va (eTMap p0)), (45, ar 1 eLI zLI ([p0.Rivers, p0.Roads] : List (List Int)))])) (fun (z : Bool) => At .ret (lit [(2, cB z)] []))) h176 ?_ ?_
         ·clear H h176
          intro x167 y0 H
          refine sn [] [] [(57, cB (decide (x167 < ((([p0.Rivers, p0.Roads] : List (List Int)).getD x142.toNat zLI).length : Int))))] [] [] id ?_
          refine seq_in ?_
          rcases oC H with ⟨c169, H⟩ | ⟨c169, H⟩
          ·refine it c169 ?_
           refine sk ?_
           refine seq_in ?_
           refine ends_blk ?_
           obtain ⟨v170, h171, H⟩ := oB H
           refine sn [.cs (eI v170)] [] [(8, cI v170)] [] [] (a2 eI h171) ?_
           obtain ⟨v172, h173, H⟩ := oB H
           refine sn [.res (cB v172)] [] [(63, cB (!v172))] [] [] (aI (i_isEdge_ok p0 v170 v172 h173)) ?_
           rcases oC H with ⟨c174, H⟩ | ⟨c174, H⟩
           ·refine it c174 ?_
            refine so [] [] [(2, cB false)] [] id ?_
            refine ends_ret ?_
            cases H
            exact rsr
           ·refine jf c174 ?_
            refine sk ?_
            refine oo [] [] [(1, pk 1), (45, ow 45 1 ([p0.Rivers, p0.Roads] : List (List Int))), (46, cL ([p0.Rivers, p0.Roads] : List (List Int))), (47, cI x142), (54, .c (dat 1 eI zI (([p0.Rivers, p0.Roads] : List (List Int)).getD x142.toNat zLI))), (55, cL (([p0.Rivers, p0.Roads] : List (List Int)).getD x142.toNat zLI)), (56, cI (W (x167 + 1)))] [(1, va (eTMap p0)), (45, ar 1 eLI zLI ([p0.Rivers, p0.Roads] : List (List Int)))] id ?_
            cases H
            exact rr
          ·refine jf c169 ?_
           refine tl [] [(1, pk 1), (45, ow 45 1 ([p0.Rivers, p0.Roads] : List (List Int))), (46, cL ([p0.Rivers, p0.Roads] : List (List Int))), (47, cI x142)] [(1, va (eTMap p0)), (45, ar 1 eLI zLI ([p0.Rivers, p0.Roads] : List (List Int)))] id ?_
           refine ends_exit ?_
           cases H
           exact rse
         ·clear h176
          cases y175 with
          | inl y177 =>
           replace H := ofInl H
           rintro e s ⟨rfl, rfl⟩
           change EndsI _ _ _ _ _ _
           refine oo [] [] [(1, pk 1), (45, ow 45 1 ([p0.Rivers, p0.Roads] : List (List Int))), (46, cL ([p0.Rivers, p0.Roads] : List (List Int))), (47, cI (W (x142 + 1)))] [(1, va (eTMap p0)), (45, ar 1 eLI zLI ([p0.Rivers, p0.Roads] : List (List Int)))] id ?_
           cases H
           exact rr
          | inr y178 =>
           replace H := ofInr H
           rintro e s ⟨rfl, rfl⟩
           cases H
           exact rsr
       ·refine jf c144 ?_
        refine tl [] [] [] id ?_
        refine ends_exit ?_
        cases H
        exact rse
      ·clear h180
       cases y179 with
       | inl y181 =>
        replace H := ofInl H
        rintro e s ⟨rfl, rfl⟩
        change EndsI _ _ _ _ _ _
        refine so [] [] [(2, cB true)] [] id ?_
        cases H
        exact er
       | inr y182 =>
        replace H := ofInr H
        rintro e s ⟨rfl, rfl⟩
        cases H
        exact qr
     | inr y68 =>
      replace H := ofInr H
      rintro e s ⟨rfl, rfl⟩
      cases H
      exact qr
theorem g_IndexFunc_int_c1_ok (p0 : (List Int)) (cf1 : FuncId) (cs1_0 : List AC) (f1 : Int → Option Bool) (hf1 : ∀ q0 r, f1 q0 = some r → FK cf1 [cI q0, .c (.pd cs1_0 0)] (cB r)) (r : Int) (H : X.g_IndexFunc_int p0 f1 = some r) : FK 65 [.c (dat 1 eI zI p0), .c (.clo cf1 [.pd cs1_0 0])] (cI r) := by
 unfold X.g_IndexFunc_int at H
 refine fi Tryd.f65 g_IndexFunc_int_ir [(4, cI r)] [] glL Tryd.func65 ?_
 refine sn [] [] [] [] [] id ?_
 refine seq_in ?_
 refine sn [] [] [(7, cL p0), (8, cI 0)] [] [] (fun t => lI p0 (t)) ?_
 refine ends_blk ?_
 obtain ⟨y24, h25, H⟩ := oB H
 refine tl [] [(0, dc 1 eI zI p0), (1, .c (.clo cf1 [.pd cs1_0 0])), (7, cL p0), (8, cI 0)] [] id ?_
 refine loop_in (fun (x : Int) => lit [(0, dc 1 eI zI p0), (1, .c (.clo cf1 [.pd cs1_0 0])), (7, cL p0), (8, cI x)] []) (orJ (fun (z : Unit) => At (.exit 0) (lit [] [])) (fun (z : Int) => At .ret (lit [(4, cI z)] []))) h25 ?_ ?_
 ·clear H h25
  intro x16 y0 H
  refine sn [] [] [(9, cB (decide (x16 < (p0.length : Int))))] [] [] id ?_
  refine seq_in ?_
  rcases oC H with ⟨c18, H⟩ | ⟨c18, H⟩
  ·refine it c18 ?_
   refine sk ?_
   refine seq_in ?_
   refine ends_blk ?_
   refine sn [] [] [(5, cI x16)] [] [] id ?_
   obtain ⟨v19, h20, H⟩ := oB H
   obtain ⟨v21, h22, H⟩ := oB H
   refine sn [.cs (eI v19), .res (cB v21)] [] [(16, cB v21)] [] [] (fun t => (a2 eI h20 (aI (hf1 v19 v21 h22) (t)))) ?_
   rcases oC H with ⟨c23, H⟩ | ⟨c23, H⟩
   ·refine it c23 ?_
    refine so [] [] [(4, cI x16)] [] id ?_
    refine ends_ret ?_
    cases H
    exact rsr
   ·refine jf c23 ?_
    refine sk ?_
    refine oo [] [] [(0, dc 1 eI zI p0), (1, .c (.clo cf1 [.pd cs1_0 0])), (7, cL p0), (8, cI (W (x16 + 1)))] [] id ?_
    cases H
    exact rr
  ·refine jf c18 ?_
   refine tl [] [] [] id ?_
   refine ends_exit ?_
   cases H
   exact rse
 ·clear h25
  cases y24 with
  | inl y26 =>
   replace H := ofInl H
   rintro e s ⟨rfl, rfl⟩
   change EndsI _ _ _ _ _ _
   refine so [] [] [(4, cI (-1))] [] id ?_
   cases H
   exact er
  | inr y27 =>
   replace H := ofInr H
   rintro e s ⟨rfl, rfl⟩
   cases H
   exact qr
theorem g_ContainsFunc_int_c1_ok (p0 : (List Int)) (cf1 : FuncId) (cs1_0 : List AC) (f1 : Int → Option Bool) (hf1 : ∀ q0 r, f1 q0 = some r → FK cf1 [cI q0, .c (.pd cs1_0 0)] (cB r)) (r : Bool) (H : X.g_ContainsFunc_int p0 f1 = some r) : FK 41 [.c (dat 1 eI zI p0), .c (.clo cf1 [.pd cs1_0 0])] (cB r) := by
 unfold X.g_ContainsFunc_int at H
 refine fi Tryd.f41 g_ContainsFunc_int_ir [(4, cB r)] [] glL Tryd.func41 ?_
 refine sn [] [] [] [] [] id ?_
 obtain ⟨v1, h2, H⟩ := oB H
 refine so [.res (cI v1)] [] [(4, cB (decide (v1 ≥ 0)))] [] (aI (g_IndexFunc_int_c1_ok p0 (cf1) (cs1_0) f1 hf1 v1 h2)) ?_
 cases H
 exact er
def i_IsBoard_1_ir : S :=
 (sq [o 3 (.mv bF)]
 (sq [om 4 0, oa 5 0 1, oa 6 0 5, ol 7 6, o 8 (.len (.t 7)), o 9 (.bin .geq (.t 4) (.t 8)), om 3 9]
 .ret))
noncomputable def X.i_IsBoard_1 (p0 : Int) (p1 : TBoard) : Option Bool :=
 some (decide (p0 ≥ (p1.Rules.Terrains.length : Int)))
theorem i_IsBoard_1_ok (p0 : Int) (p1 : TBoard) (r : Bool) (H : X.i_IsBoard_1 p0 p1 = some r) : FK 42 [cI p0, .c (.pd (eTBoard p1) 0)] (cB r) := by
 unfold X.i_IsBoard_1 at H
 refine fi Tryd.f42 i_IsBoard_1_ir [(3, cB r)] [] glL Tryd.func42 ?_
 refine sn [] [] [] [] [] id ?_
 refine so [] [] [(3, cB (decide (p0 ≥ (p1.Rules.Terrains.length : Int))))] [] (fun t => lI p1.Rules.Terrains (t)) ?_
 cases H
 exact er
def i_IsBoard_ir : S :=
 (sq [o 1 (.box 12 (.t 0)), o 2 (.mv bF)]
 (.seq (sq [oa 3 0 1, o 4 (.load 7 true (.t 3)), o 5 (.call 39 [.t 4]), o 6 (.not (.t 5)), om 7 6, og 8 (.fad 7 (.t 1)) 7, og 9 (.load 5 true (.t 8)) 7, og 10 (.call 40 [.t 9]) 7, og 11 (.not (.t 10)) 7, o 12 (.pick (.t 7) bT (.t 11))]
 (.ite (.t 12) (sq [o 2 (.mv bF)]
  .ret)
 .skip))
 (sq [oa 13 7 1, oa 14 2 13, ol 15 14, o 16 (.clo 42 [.t 1]), o 17 (.call 41 [.t 15, .t 16]), o 18 (.not (.t 17)), om 2 18]
 .ret)))
noncomputable def X.i_IsBoard (p0 : TBoard) : Option Bool :=
 ((X.i_IsRules p0.Rules).bind fun v7 => (bif (!v7) then some false else ((X.i_IsMap p0.Map).bind fun v10 => (bif (!v10) then some false else ((X.g_ContainsFunc_int p0.Map.Terrain (fun q0 => X.i_IsBoard_1 q0 p0)).bind fun v13 => some (!v13))))))
theorem i_IsBoard_ok (p0 : TBoard) (r : Bool) (H : X.i_IsBoard p0 = some r) : FK 19 [.agg (eTBoard p0)] (cB r) := by
 unfold X.i_IsBoard at H
 refine fi Tryd.f19 i_IsBoard_ir [(2, cB r)] [] glL Tryd.func19 ?_
 refine so [] [] [(1, pk 1)] [(1, va (eTBoard p0))] id ?_
 refine seq_in ?_
 obtain ⟨v7, h8, H⟩ := oB H
 rcases oC H with ⟨c9, H⟩ | ⟨c9, H⟩
 ·refine sn ([.res (cB v7)] ++ rg 5 true []) [] [(12, cB true)] [] [] (fun t => aI (i_IsRules_ok p0.Rules v7 h8) (aG 5 c9 (t))) ?_
  refine it rT ?_
  refine so [] [] [(2, cB false)] [] id ?_
  cases H
  exact er
 ·obtain ⟨v10, h11, H⟩ := oB H
  refine sn ([.res (cB v7)] ++ rg 3 false ([.res (cB v10)] ++ rg 2 false [])) [] [(12, cB (!v10))] [] [] (fun t => aI (i_IsRules_ok p0.Rules v7 h8) (aG 3 c9 (aI (i_IsMap_ok p0.Map v10 h11) (aG 2 c9 (t))))) ?_
  rcases oC H with ⟨c12, H⟩ | ⟨c12, H⟩
  ·refine it c12 ?_
   refine so [] [] [(2, cB false)] [] id ?_
   cases H
   exact er
  ·refine jf c12 ?_
   refine sk ?_
   obtain ⟨v13, h14, H⟩ := oB H
   refine so [.res (cB v13)] [] [(2, cB (!v13))] [] (aI (g_ContainsFunc_int_c1_ok p0.Map.Terrain (42) (eTBoard p0) (fun q0 => X.i_IsBoard_1 q0 p0) (fun q0 r h => i_IsBoard_1_ok q0 p0 r h) v13 h14)) ?_
   cases H
   exact er
noncomputable def X.x_math_bits_Mul (p0 : Int) (p1 : Int) : Option (Int × Int) :=
 (if (0 ≤ p0 ∧ p0 < 18446744073709551616) ∧ (0 ≤ p1 ∧ p1 < 18446744073709551616) then some (p0 * p1 / 18446744073709551616, p0 * p1 % 18446744073709551616) else none)
theorem x_math_bits_Mul_ok (p0 : Int) (p1 : Int) (r : (Int × Int)) (H : X.x_math_bits_Mul p0 p1 = some r) : FK 43 [.c (.int .u64 p0), .c (.int .u64 p1)] (.tup [(false, [.int .u64 r.1]), (false, [.int .u64 r.2])]) := by
 unfold X.x_math_bits_Mul at H
 obtain ⟨g, H⟩ := oI H
 cases H
 exact mul_fn (by kernel_rfl) (fun x y w hx hy => Any.bits_Mul lays212 x y hx hy w) g.1 g.2
def g_Repeat_int_ir : S :=
 (sq [o 4 (.mv (.v (.nil)))]
 (.seq (sq [om 9 1, o 10 (.bin .lss (.t 9) (iv 0))]
 (.ite (.t 10) .bad
 .skip))
 (sq [om 13 0, o 14 (.len (.t 13)), o 15 (.conv .u64 (.t 14)), om 16 1, o 17 (.conv .u64 (.t 16)), o 18 (.call 43 [.t 15, .t 17]), om 12 18, o 19 (.ext (.t 12) 0), o 20 (.ext (.t 12) 1), om 5 19, om 6 20]
 (.seq (sq [om 21 5, o 22 (.bin .gtr (.t 21) (.v (.int .u64 0))), om 23 22, og 24 (.mv (.t 6)) 23, og 25 (.bin .gtr (.t 24) (.v (.int .u64 9223372036854775807))) 23, o 26 (.pick (.t 23) bT (.t 25))]
 (.ite (.t 26) .bad
 .skip))
 (sq [om 28 6, o 29 (.conv .i64 (.t 28)), o 30 (.msl 1 8 [.int .i64 0] (.t 29)), om 7 30]
 (sq [om 31 7, om 32 0, o 33 (.cpy (.t 31) (.t 32)), om 8 33]
 (.seq (.blk 0 (.loop (.seq (sq [om 34 8, om 35 7, o 36 (.len (.t 35)), o 37 (.bin .lss (.t 34) (.t 36))]
   (.ite (.t 37) .skip
   (.exit 0)))
   (.blk 1 (.drw [(0, 1), (0, 2), (1, 2), (0, 3), (0, 4), (1, 4), (2, 4), (3, 4), (0, 5), (1, 5), (2, 5), (3, 5), (4, 5), (0, 6), (1, 6), (2, 6), (3, 6), (0, 7)] [om 38 8, om 39 7, om 40 8, o 41 (.slc 1 (.t 39) (some (.t 40)) none), om 42 7, om 43 8, o 44 (.slc 1 (.t 42) none (some (.t 43))), o 45 (.cpy (.t 41) (.t 44)), o 46 (.bin .add (.t 38) (.t 45)), om 8 46])))))
 (sq [om 47 7, om 4 47]
 .ret))))))))
noncomputable def X.g_Repeat_int (p0 : (List Int)) (p1 : Int) : Option (List Int) :=
 (bif (decide (p1 < 0)) then none else ((X.x_math_bits_Mul (IntKind.u64.wrap (p0.length : Int)) (IntKind.u64.wrap p1)).bind fun v3 => (bif (decide (v3.1 > 0)) then none else (bif (decide (v3.2 > 9223372036854775807)) then none else (if 0 ≤ (W v3.2) ∧ (W v3.2).toNat ≤ LIM then (if 0 < (Nat.min p0.length ((List.replicate (W v3.2).toNat zI).length)) ∧ 0 + (List.replicate (W v3.2).toNat zI).length ≤ (List.replicate (W v3.2).toNat zI).length ∧ p0.length ≤ p0.length then ((some (cpyL (List.replicate (W v3.2).toNat zI) p0 0 (Nat.min p0.length ((List.replicate (W v3.2).toNat zI).length)))).bind fun l11 => ((loop (fun (x28 : (Int × (List Int))) => ((bif (decide (x28.1 < (x28.2.length : Int))) then (if 0 ≤ x28.1 ∧ x28.1 < (x28.2.length : Int) ∧ (x28.2.length : Int) ≤ (x28.2.length : Int) then (if 0 ≤ x28.1 ∧ x28.1 ≤ (x28.2.length : Int) then (if 0 < (Nat.min x28.1.toNat (((x28.2.length : Int) - x28.1).toNat)) ∧ x28.1.toNat + (((x28.2.length : Int) - x28.1).toNat) ≤ x28.2.length ∧ x28.1.toNat ≤ x28.2.length then ((some (cpyL x28.2 x28.2 x28.1.toNat (Nat.min x28.1.toNat (((x28.2.length : Int) - x28.1).toNat)))).bind fun l34 => some (Sum.inl ((W (x28.1 + (((Nat.min x28.1.toNat (((x28.2.length : Int) - x28.1).toNat)) : Nat) : Int))), l34))) else none) else none) else none) else some (Sum.inr x28.2)) : Option ((Int × (List Int)) ⊕ (List Int)))) ((((Nat.min p0.length ((List.replicate (W v3.2).toNat zI).length)) : Nat) : Int), l11)).bind fun y36 => some y36)) else none) else none)))))
theorem g_Repeat_int_Mdd_ok (p0 : (List Int)) (p1 : Int) (r : (List Int)) (H : X.g_Repeat_int p0 p1 = some r) : FnMu Tryd.prog gl 20 [.c (dat 1 eI zI p0), cI p1] [] (.c (.own 900000 1 0 r.length)) [(900000, .arr 1 r.length (fF eI zI r) false)] := by
 unfold X.g_Repeat_int at H
 refine fn_mu (fn := Tryd.f20) (ir := g_Repeat_int_ir) (E' := [(4, ow 900000 1 r)]) (E1 := [(900000, ar 1 eI zI r)]) glL Tryd.func20 (by kernel_rfl) (by kernel_rfl) (by kernel_rfl) (by kernel_rfl) (by kernel_rfl) ?_
 refine sn [] [] [] [] [] id ?_
 refine seq_in ?_
 refine sn [] [] [(10, cB (decide (p1 < 0)))] [] [] id ?_
 rcases oC H with ⟨c2, H⟩ | ⟨c2, H⟩
 ·refine it c2 ?_
  cases H
 ·refine jf c2 ?_
  refine sk ?_
  obtain ⟨v3, h4, H⟩ := oB H
  refine sn [.res (.tup [(false, [.int .u64 v3.1]), (false, [.int .u64 v3.2])])] [] [(5, .c (.int .u64 v3.1)), (6, .c (.int .u64 v3.2))] [] [] (fun t => lI p0 (aI (x_math_bits_Mul_ok (IntKind.u64.wrap (p0.length : Int)) (IntKind.u64.wrap p1) v3 h4) (t))) ?_
  refine seq_in ?_
  rcases oC H with ⟨c7, H⟩ | ⟨c7, H⟩
  ·refine sn (rg 3 true []) [] [(26, cB true)] [] [] (fun t => aG 3 c7 (t)) ?_
   refine it rT ?_
   cases H
  ·refine sn (rg 3 false []) [] [(26, cB (decide (v3.2 > 9223372036854775807)))] [] [] (fun t => aG 3 c7 (t)) ?_
   rcases oC H with ⟨c8, H⟩ | ⟨c8, H⟩
   ·refine it c8 ?_
    cases H
   ·refine jf c8 ?_
    refine sk ?_
    obtain ⟨g9, H⟩ := oI H
    refine sn [fh eI zI (List.replicate (W v3.2).toNat zI)] [] [(7, ow 30 1 (List.replicate (W v3.2).toNat zI))] [] [(30, ar 1 eI zI (List.replicate (W v3.2).toNat zI))] (fun t => aI (And.intro g9.1 (And.intro (List.length_replicate (n := (W v3.2).toNat) (a := zI)).symm (Nat.le_trans (Nat.le_of_eq List.length_replicate) g9.2 : (List.replicate (W v3.2).toNat zI).length ≤ LIM))) (aI (fF_rep eI zI zI (W v3.2).toNat) (t))) ?_
    obtain ⟨g10, H⟩ := oI H
    obtain ⟨l11, h12, H⟩ := oB H
    refine sn [.fn (Nat.min p0.length ((List.replicate (W v3.2).toNat zI).length)) (fF eI zI l11)] [] [(8, cI (((Nat.min p0.length ((List.replicate (W v3.2).toNat zI).length)) : Nat) : Int))] [30] [(30, .arr 1 ((List.replicate (W v3.2).toNat zI).length) (fF eI zI l11) false)] (fun t => aI (And.intro g10.1 (And.intro (rfl : (Nat.min p0.length ((List.replicate (W v3.2).toNat zI).length)) = (Nat.min p0.length ((List.replicate (W v3.2).toNat zI).length))) g10.2.1)) (aI (fF_cpy eI zI h12 g10 ((List.replicate (W v3.2).toNat zI).length)) (t))) ?_
    refine seq_in ?_
    refine ends_blk ?_
    obtain ⟨y36, h37, H⟩ := oB H
    refine tl [.rel 7 l11.length, .rep 30 l11.length (fF eI zI l11)] [(7, ow 30 1 l11), (8, cI (((Nat.min p0.length ((List.replicate (W v3.2).toNat zI).length)) : Nat) : Int))] [(30, ar 1 eI zI l11)] (fun t => aI (by simp [lenC h12 g10] : (List.replicate (W v3.2).toNat zI).length = l11.length) (aI (Nat.le_of_eq (by simp [lenC h12 g10] : l11.length = (List.replicate (W v3.2).toNat zI).length)) (aI (fun _ _ => rfl : ∀ i, i < l11.length → (fF eI zI l11) i = (fF eI zI l11) i) (t)))) ?_
    refine loop_in (fun (x : (Int × (List Int))) => lit [(7, ow 30 1 x.2), (8, cI x.1)] [(30, ar 1 eI zI x.2)]) (fun (z : (List Int)) => At (.exit 0) (lit [(7, ow 30 1 z)] [(30, ar 1 eI zI z)])) h37 ?_ ?_
    ·clear H h37
     intro x28 y0 H
     refine seq_in ?_
     refine sn [] [] [(37, cB (decide (x28.1 < (x28.2.length : Int))))] [] [] (fun t => lI x28.2 (t)) ?_
     rcases oC H with ⟨c30, H⟩ | ⟨c30, H⟩
     ·refine it c30 ?_
      refine sk ?_
      refine ends_blk ?_
      obtain ⟨g31, H⟩ := oI H
      obtain ⟨g32, H⟩ := oI H
      obtain ⟨g33, H⟩ := oI H
      obtain ⟨l34, h35, H⟩ := oB H
      refine ox [.nat (((x28.2.length : Int) - x28.1).toNat), .nat x28.1.toNat, .fn (Nat.min x28.1.toNat (((x28.2.length : Int) - x28.1).toNat)) (fF eI zI l34)] [.rel 7 l34.length, .rep 30 l34.length (fF eI zI l34)] [(7, ow 30 1 l34), (8, cI (W (x28.1 + (((Nat.min x28.1.toNat (((x28.2.length : Int) - x28.1).toNat)) : Nat) : Int))))] [(30, ar 1 eI zI l34)] (fun t => aI (And.intro g31.1 (And.intro g31.2.1 (And.intro g31.2.2 (rfl : (((x28.2.length : Int) - x28.1).toNat) = (((x28.2.length : Int) - x28.1).toNat))))) (aI (And.intro g32.1 (And.intro g32.2 (rfl : x28.1.toNat = x28.1.toNat))) (aI g33.2.2 (aI (And.intro g33.1 (And.intro (rfl : (Nat.min x28.1.toNat (((x28.2.length : Int) - x28.1).toNat)) = (Nat.min x28.1.toNat (((x28.2.length : Int) - x28.1).toNat))) g33.2.1)) (aI (fF_cpy eI zI h35 g33 x28.2.length) (aI (by simp [lenC h35 g33] : x28.2.length = l34.length) (aI (Nat.le_of_eq (by simp [lenC h35 g33] : l34.length = x28.2.length)) (aI (fun _ _ => rfl : ∀ i, i < l34.length → (fF eI zI l34) i = (fF eI zI l34) i) (t))))))))) ?_
      cases H
      exact rr
     ·refine jf c30 ?_
      refine tl [] [(7, ow 30 1 x28.2)] [(30, ar 1 eI zI x28.2)] id ?_
      refine ends_exit ?_
      cases H
      exact rse
    ·clear h37
     rintro e s ⟨rfl, rfl⟩
     change EndsI _ _ _ _ _ _
     refine sn [] [] [(4, ow 30 1 y36)] [] [] id ?_
     refine tl [.ren 30 900000] [(4, ow 900000 1 y36)] [(900000, ar 1 eI zI y36)] id ?_
     cases H
     exact er
def i_sizeOf_ir : S :=
 (sq [o 1 (.box 12 (.t 0)), o 2 (.mv (iv 0))]
 (sq [oa 3 7 1, oa 4 2 3, ol 5 4, o 6 (.len (.t 5)), om 2 6]
 .ret))
noncomputable def X.i_sizeOf (p0 : TBoard) : Option Int :=
 some (p0.Map.Terrain.length : Int)
theorem i_sizeOf_ok (p0 : TBoard) (r : Int) (H : X.i_sizeOf p0 = some r) : FK 21 [.agg (eTBoard p0)] (cI r) := by
 unfold X.i_sizeOf at H
 refine fi Tryd.f21 i_sizeOf_ir [(2, cI r)] [] glL Tryd.func21 ?_
 refine so [] [] [(1, pk 1)] [(1, va (eTBoard p0))] id ?_
 refine so [] [] [(2, cL p0.Map.Terrain)] [] (fun t => lI p0.Map.Terrain (t)) ?_
 cases H
 exact er
def i_NewMemory_ir : S :=
 (sq [o 1 (.box 12 (.t 0)), o 2 (.alloc [.nil, .nil]), o 3 (.mv bF)]
 (.seq (sq [o 4 (.load 12 true (.t 1)), o 5 (.call 19 [.t 4]), o 6 (.not (.t 5))]
 (.ite (.t 6) (sq [o 7 (.build [.nil, .nil] []), os 2 2 7, o 3 (.mv bF)]
  .ret)
 .skip))
 (.seq (.drw [(0, 1), (0, 2), (0, 4), (1, 4), (2, 4), (3, 4)] [o 8 (.bsl 1 [.v (.int .i64 (-1))]), o 9 (.load 12 true (.t 1)), o 10 (.call 21 [.t 9]), o 11 (.call 20 [.t 8, .t 10]), o 12 (.load 12 true (.t 1)), o 13 (.call 21 [.t 12]), o 14 (.msl 1 8 [.int .i64 0] (.t 13)), o 15 (.build [.nil, .nil] [(0, 1, .t 11), (1, 1, .t 14)]), os 2 2 15, o 3 (.mv bT)])
 .ret)))
noncomputable def X.i_NewMemory (p0 : TBoard) : Option (TMemory × Bool) :=
 ((X.i_IsBoard p0).bind fun v4 => (bif (!v4) then some ((TMemory.mk ([] : List Int) ([] : List Int)), false) else ((X.i_sizeOf p0).bind fun v7 => ((X.g_Repeat_int ([-1] : List Int) v7).bind fun v9 => ((X.i_sizeOf p0).bind fun v11 => (if 0 ≤ v11 ∧ v11.toNat ≤ LIM then some ((TMemory.mk v9 (List.replicate v11.toNat zI)), true) else none))))))
theorem i_NewMemory_ok (p0 : TBoard) (r : (TMemory × Bool)) (H : X.i_NewMemory p0 = some r) : FK 7 [.agg (eTBoard p0)] (.tup [(true, [dat 1 eI zI r.1.Turns, dat 1 eI zI r.1.Counts]), (false, [.bool r.2])]) := by
 unfold X.i_NewMemory at H
 refine fi Tryd.f7 i_NewMemory_ir [(2, pk 2), (3, cB r.2)] [(2, va (eTMemory r.1))] glL Tryd.func7 ?_
 refine so [] [] [(1, pk 1), (2, pk 2)] [(1, va (eTBoard p0)), (2, .var [.nil, .nil] false)] id ?_
 refine seq_in ?_
 obtain ⟨v4, h5, H⟩ := oB H
 refine sn [.res (cB v4)] [] [(6, cB (!v4))] [] [] (aI (i_IsBoard_ok p0 v4 h5)) ?_
 rcases oC H with ⟨c6, H⟩ | ⟨c6, H⟩
 ·refine it c6 ?_
  refine sn [] [] [(3, cB false)] [] [] id ?_
  refine tl [.nldc 2 0 1 (fF eI zI ([] : List Int)), .nldc 2 1 1 (fF eI zI ([] : List Int))] [(2, pk 2), (3, cB false)] [(2, .var [dat 1 eI zI ([] : List Int), dat 1 eI zI ([] : List Int)] false)] id ?_
  cases H
  exact er
 ·refine jf c6 ?_
  refine sk ?_
  obtain ⟨v7, h8, H⟩ := oB H
  obtain ⟨v9, h10, H⟩ := oB H
  obtain ⟨v11, h12, H⟩ := oB H
  obtain ⟨g13, H⟩ := oI H
  refine xn [fh eI zI ([-1] : List Int), .res (cI v7), .mu [] [(900000, 1001)] (ow 900000 1 v9) [(900000, ar 1 eI zI v9)], .res (cI v11), .no, fh eI zI (List.replicate v11.toNat zI)] [] [(3, cB true)] [2] [(2, .var [.own 1001 1 0 v9.length, .own 14 1 0 ((List.replicate v11.toNat zI).length)] false), (14, ar 1 eI zI (List.replicate v11.toNat zI)), (1001, ar 1 eI zI v9)] (fun t => aI (rfl : ([-1] : List Int).length = 1) (aI rT (aI (fF_lit eI zI ([-1] : List Int)) (aI (i_sizeOf_ok p0 v7 h8) (aI trivial (aI rN (aI (g_Repeat_int_Mdd_ok ([-1] : List Int) v7 v9 h10) (aI (i_sizeOf_ok p0 v11 h12) (aI trivial (aI rN (aI (And.intro g13.1 (And.intro (List.length_replicate (n := v11.toNat) (a := zI)).symm (Nat.le_trans (Nat.le_of_eq List.length_replicate) g13.2 : (List.replicate v11.toNat zI).length ≤ LIM))) (aI (fF_rep eI zI zI v11.toNat) (t))))))))))))) ?_
  refine tl [.frc 2 0, .frc 2 1] [(2, pk 2), (3, cB true)] [(2, .var [dat 1 eI zI v9, dat 1 eI zI (List.replicate v11.toNat zI)] false)] (fun t => aI (Nat.le_refl v9.length) (aI (Nat.le_refl ((List.replicate v11.toNat zI).length)) (t))) ?_
  cases H
  exact er
theorem i_NewMemory_Md_ok (p0 : TBoard) (r : (TMemory × Bool)) (H : X.i_NewMemory p0 = some r) : FnMu Tryd.prog gl 7 [.agg (eTBoard p0)] [] (.tup [(true, [.own 900000 1 0 r.1.Turns.length, .own 900001 1 0 r.1.Counts.length]), (false, [.bool r.2])]) [(2, .var [.own 900000 1 0 r.1.Turns.length, .own 900001 1 0 r.1.Counts.length] false), (900000, .arr 1 r.1.Turns.length (fF eI zI r.1.Turns) false), (900001, .arr 1 r.1.Counts.length (fF eI zI r.1.Counts) false)] := by
 unfold X.i_NewMemory at H
 refine fn_mu (fn := Tryd.f7) (ir := i_NewMemory_ir) (E' := [(2, pk 2), (3, cB r.2)]) (E1 := [(2, .var [.own 900000 1 0 r.1.Turns.length, .own 900001 1 0 r.1.Counts.length] false), (900000, ar 1 eI zI r.1.Turns), (900001, ar 1 eI zI r.1.Counts)]) glL Tryd.func7 (by kernel_rfl) (by kernel_rfl) (by kernel_rfl) (by kernel_rfl) (by kernel_rfl) ?_
 refine so [] [] [(1, pk 1), (2, pk 2)] [(1, va (eTBoard p0)), (2, .var [.nil, .nil] false)] id ?_
 refine seq_in ?_
 obtain ⟨v4, h5, H⟩ := oB H
 refine sn [.res (cB v4)] [] [(6, cB (!v4))] [] [] (aI (i_IsBoard_ok p0 v4 h5)) ?_
 rcases oC H with ⟨c6, H⟩ | ⟨c6, H⟩
 ·refine it c6 ?_
  refine sn [] [] [(3, cB false)] [] [] id ?_
  refine tl [.nloc 2 0 900000 1 (fF eI zI ([] : List Int)), .nloc 2 1 900001 1 (fF eI zI ([] : List Int))] [(2, pk 2), (3, cB false)] [(2, .var [.own 900000 1 0 (([] : List Int).length), .own 900001 1 0 (([] : List Int).length)] false), (900000, ar 1 eI zI ([] : List Int)), (900001, ar 1 eI zI ([] : List Int))] (fun t => aG 2 (by decide : 0 < 1) (t)) ?_
  cases H
  exact er
 ·refine jf c6 ?_
  refine sk ?_
  obtain ⟨v7, h8, H⟩ := oB H
  obtain ⟨v9, h10, H⟩ := oB H
  obtain ⟨v11, h12, H⟩ := oB H
  obtain ⟨g13, H⟩ := oI H
  refine xn [fh eI zI ([-1] : List Int), .res (cI v7), .mu [] [(900000, 1001)] (ow 900000 1 v9) [(900000, ar 1 eI zI v9)], .res (cI v11), .no, fh eI zI (List.replicate v11.toNat zI)] [] [(3, cB true)] [2] [(2, .var [.own 1001 1 0 v9.length, .own 14 1 0 ((List.replicate v11.toNat zI).length)] false), (14, ar 1 eI zI (List.replicate v11.toNat zI)), (1001, ar 1 eI zI v9)] (fun t => aI (rfl : ([-1] : List Int).length = 1) (aI rT (aI (fF_lit eI zI ([-1] : List Int)) (aI (i_sizeOf_ok p0 v7 h8) (aI trivial (aI rN (aI (g_Repeat_int_Mdd_ok ([-1] : List Int) v7 v9 h10) (aI (i_sizeOf_ok p0 v11 h12) (aI trivial (aI rN (aI (And.intro g13.1 (And.intro (List.length_replicate (n := v11.toNat) (a := zI)).symm (Nat.le_trans (Nat.le_of_eq List.length_replicate) g13.2 : (List.replicate v11.toNat zI).length ≤ LIM))) (aI (fF_rep eI zI zI v11.toNat) (t))))))))))))) ?_
  refine tl [.ren 1001 900000, .ren 14 900001] [(2, pk 2), (3, cB true)] [(2, .var [.own 900000 1 0 v9.length, .own 900001 1 0 ((List.replicate v11.toNat zI).length)] false), (900000, ar 1 eI zI v9), (900001, ar 1 eI zI (List.replicate v11.toNat zI))] id ?_
  cases H
  exact er
def l_eqIntS_ir : S :=
 (sq [o 4 (.mv bF)]
 (.seq (sq [om 6 0, o 7 (.len (.t 6)), om 8 1, o 9 (.len (.t 8)), o 10 (.bin .neq (.t 7) (.t 9))]
 (.ite (.t 10) (sq [o 4 (.mv bF)]
  .ret)
 .skip))
 (.seq (sq [o 5 (.mv (iv 0))]
 (.blk 0 (.loop (.seq (sq [om 11 5, om 12 0, o 13 (.len (.t 12)), o 14 (.bin .lss (.t 11) (.t 13))]
   (.ite (.t 14) .skip
   (.exit 0)))
   (.seq (.blk 1 (.seq (.drw [(0, 1), (0, 4), (1, 4), (2, 4), (3, 4), (0, 5), (1, 5), (2, 5), (3, 5), (4, 5), (0, 6), (1, 6), (2, 6), (3, 6), (0, 7), (1, 7), (2, 7), (3, 7)] [om 17 0, om 18 5, o 19 (.iad 1 (.t 17) (.t 18)), ol 20 19, om 21 1, om 22 5, o 23 (.iad 1 (.t 21) (.t 22)), ol 24 23, o 25 (.bin .neq (.t 20) (.t 24))])
    (.ite (.t 25) (sq [o 4 (.mv bF)]
     .ret)
    .skip)))
   (.ops [om 15 5, o 16 (.bin .add (.t 15) (iv 1)), om 5 16]))))))
 (sq [o 4 (.mv bT)]
 .ret))))
noncomputable def X.l_eqIntS (p0 : (List Int)) (p1 : (List Int)) : Option Bool :=
 (bif ((p0.length : Int) != (p1.length : Int)) then some false else ((loop (fun (x18 : Int) => ((bif (decide (x18 < (p0.length : Int))) then ((at' zI p0 x18).bind fun v21 => ((at' zI p1 x18).bind fun v23 => (bif (v21 != v23) then some (Sum.inr (Sum.inr false)) else some (Sum.inl (W (x18 + 1)))))) else some (Sum.inr (Sum.inl ()))) : Option (Int ⊕ (Unit ⊕ Bool)))) 0).bind fun y26 => (Sum.elim (fun (y28 : Unit) => some true) (fun (y29 : Bool) => some y29) y26)))
theorem l_eqIntS_ok (p0 : (List Int)) (p1 : (List Int)) (r : Bool) (H : X.l_eqIntS p0 p1 = some r) : FK 22 [.c (dat 1 eI zI p0), .c (dat 1 eI zI p1)] (cB r) := by
 unfold X.l_eqIntS at H
 refine fi Tryd.f22 l_eqIntS_ir [(4, cB r)] [] glL Tryd.func22 ?_
 refine sn [] [] [] [] [] id ?_
 refine seq_in ?_
 refine sn [] [] [(10, cB ((p0.length : Int) != (p1.length : Int)))] [] [] (fun t => lI p0 (lI p1 (t))) ?_
 rcases oC H with ⟨c2, H⟩ | ⟨c2, H⟩
 ·refine it c2 ?_
  refine so [] [] [(4, cB false)] [] id ?_
  cases H
  exact er
 ·refine jf c2 ?_
  refine sk ?_
  refine seq_in ?_
  refine sn [] [] [(5, cI 0)] [] [] id ?_
  refine ends_blk ?_
  obtain ⟨y26, h27, H⟩ := oB H
  refine tl [] [(0, dc 1 eI zI p0), (1, dc 1 eI zI p1), (5, cI 0)] [] id ?_
  refine loop_in (fun (x : Int) => lit [(0, dc 1 eI zI p0), (1, dc 1 eI zI p1), (5, cI x)] []) (orJ (fun (z : Unit) => At (.exit 0) (lit [] [])) (fun (z : Bool) => At .ret (lit [(4, cB z)] []))) h27 ?_ ?_
  ·clear H h27
   intro x18 y0 H
   refine seq_in ?_
   refine sn [] [] [(14, cB (decide (x18 < (p0.length : Int))))] [] [] (fun t => lI p0 (t)) ?_
   rcases oC H with ⟨c20, H⟩ | ⟨c20, H⟩
   ·refine it c20 ?_
    refine sk ?_
    refine seq_in ?_
    refine ends_blk ?_
    obtain ⟨v21, h22, H⟩ := oB H
    obtain ⟨v23, h24, H⟩ := oB H
    refine xn [.cs (eI v21), .cs (eI v23)] [] [(25, cB (v21 != v23))] [] [] (fun t => (a2 eI h22 (aI rN ((a2 eI h24 (aI rN (t))))))) ?_
    rcases oC H with ⟨c25, H⟩ | ⟨c25, H⟩
    ·refine it c25 ?_
     refine so [] [] [(4, cB false)] [] id ?_
     refine ends_ret ?_
     cases H
     exact rsr
    ·refine jf c25 ?_
     refine sk ?_
     refine oo [] [] [(0, dc 1 eI zI p0), (1, dc 1 eI zI p1), (5, cI (W (x18 + 1)))] [] id ?_
     cases H
     exact rr
   ·refine jf c20 ?_
    refine tl [] [] [] id ?_
    refine ends_exit ?_
    cases H
    exact rse
  ·clear h27
   cases y26 with
   | inl y28 =>
    replace H := ofInl H
    rintro e s ⟨rfl, rfl⟩
    change EndsI _ _ _ _ _ _
    refine so [] [] [(4, cB true)] [] id ?_
    cases H
    exact er
   | inr y29 =>
    replace H := ofInr H
    rintro e s ⟨rfl, rfl⟩
    cases H
    exact qr
def l_eqMemory_ir : S :=
 (sq [o 2 (.box 2 (.t 0)), o 3 (.box 2 (.t 1)), o 4 (.mv bF)]
 (.seq (sq [oa 5 0 2, ol 6 5, oa 7 0 3, ol 8 7, o 9 (.call 22 [.t 6, .t 8]), o 10 (.not (.t 9))]
 (.ite (.t 10) (sq [o 4 (.mv bF)]
  .ret)
 .skip))
 (.seq (sq [oa 11 1 2, ol 12 11, oa 13 1 3, ol 14 13, o 15 (.call 22 [.t 12, .t 14]), o 16 (.not (.t 15))]
 (.ite (.t 16) (sq [o 4 (.mv bF)]
  .ret)
 .skip))
 (sq [o 4 (.mv bT)]
 .ret))))
noncomputable def X.l_eqMemory (p0 : TMemory) (p1 : TMemory) : Option Bool :=
 ((X.l_eqIntS p0.Turns p1.Turns).bind fun v4 => (bif (!v4) then some false else ((X.l_eqIntS p0.Counts p1.Counts).bind fun v7 => (bif (!v7) then some false else some true))))
theorem l_eqMemory_ok (p0 : TMemory) (p1 : TMemory) (r : Bool) (H : X.l_eqMemory p0 p1 = some r) : FK 8 [.agg (eTMemory p0), .agg (eTMemory p1)] (cB r) := by
 unfold X.l_eqMemory at H
 refine fi Tryd.f8 l_eqMemory_ir [(4, cB r)] [] glL Tryd.func8 ?_
 refine so [] [] [(2, pk 2), (3, pk 3)] [(2, va (eTMemory p0)), (3, va (eTMemory p1))] id ?_
 refine seq_in ?_
 obtain ⟨v4, h5, H⟩ := oB H
 refine sn [.res (cB v4)] [] [(10, cB (!v4))] [] [] (aI (l_eqIntS_ok p0.Turns p1.Turns v4 h5)) ?_
 rcases oC H with ⟨c6, H⟩ | ⟨c6, H⟩
 ·refine it c6 ?_
  refine so [] [] [(4, cB false)] [] id ?_
  cases H
  exact er
 ·refine jf c6 ?_
  refine sk ?_
  refine seq_in ?_
  obtain ⟨v7, h8, H⟩ := oB H
  refine so [.res (cB v7)] [] [(16, cB (!v7))] [] (aI (l_eqIntS_ok p0.Counts p1.Counts v7 h8)) ?_
  rcases oC H with ⟨c9, H⟩ | ⟨c9, H⟩
  ·refine it c9 ?_
   refine so [] [] [(4, cB false)] [] id ?_
   cases H
   exact er
  ·refine jf c9 ?_
   refine sk ?_
   refine so [] [] [(4, cB true)] [] id ?_
   cases H
   exact er
def l_eqTerrain_ir : S :=
 (sq [o 2 (.box 5 (.t 0)), o 3 (.box 5 (.t 1)), o 4 (.mv bF)]
 (.seq (sq [oa 5 0 2, ol 6 5, oa 7 0 3, ol 8 7, o 9 (.bin .neq (.t 6) (.t 8))]
 (.ite (.t 9) (sq [o 4 (.mv bF)]
  .ret)
 .skip))
 (.seq (sq [oa 10 1 2, ol 11 10, oa 12 1 3, ol 13 12, o 14 (.call 22 [.t 11, .t 13]), o 15 (.not (.t 14))]
 (.ite (.t 15) (sq [o 4 (.mv bF)]
  .ret)
 .skip))
 (.seq (sq [oa 16 2 2, ol 17 16, oa 18 2 3, ol 19 18, o 20 (.bin .neq (.t 17) (.t 19))]
 (.ite (.t 20) (sq [o 4 (.mv bF)]
  .ret)
 .skip))
 (.seq (sq [oa 21 3 2, ol 22 21, oa 23 3 3, ol 24 23, o 25 (.bin .neq (.t 22) (.t 24))]
 (.ite (.t 25) (sq [o 4 (.mv bF)]
  .ret)
 .skip))
 (.seq (sq [oa 26 4 2, ol 27 26, oa 28 4 3, ol 29 28, o 30 (.bqe true (.t 27) (.t 29))]
 (.ite (.t 30) (sq [o 4 (.mv bF)]
  .ret)
 .skip))
 (sq [o 4 (.mv bT)]
 .ret)))))))
noncomputable def X.l_eqTerrain (p0 : TTerrain) (p1 : TTerrain) : Option Bool :=
 (bif (!(p0.Name == p1.Name)) then some false else ((X.l_eqIntS p0.Cost p1.Cost).bind fun v6 => (bif (!v6) then some false else (bif (p0.Shift != p1.Shift) then some false else (bif (p0.Height != p1.Height) then some false else (bif (!(p0.Blocks == p1.Blocks)) then some false else some true))))))
theorem l_eqTerrain_ok (p0 : TTerrain) (p1 : TTerrain) (r : Bool) (H : X.l_eqTerrain p0 p1 = some r) : FK 68 [.agg (eTTerrain p0), .agg (eTTerrain p1)] (cB r) := by
 unfold X.l_eqTerrain at H
 refine fi Tryd.f68 l_eqTerrain_ir [(4, cB r)] [] glL Tryd.func68 ?_
 refine so [] [] [(2, pk 2), (3, pk 3)] [(2, va (eTTerrain p0)), (3, va (eTTerrain p1))] id ?_
 refine seq_in ?_
 refine sn [] [] [(9, cB (!(p0.Name == p1.Name)))] [] [] id ?_
 rcases oC H with ⟨c2, H⟩ | ⟨c2, H⟩
 ·refine it c2 ?_
  refine so [] [] [(4, cB false)] [] id ?_
  cases H
  exact er
 ·refine jf c2 ?_
  refine sk ?_
  refine seq_in ?_
  obtain ⟨v6, h7, H⟩ := oB H
  refine sn [.res (cB v6)] [] [(15, cB (!v6))] [] [] (aI (l_eqIntS_ok p0.Cost p1.Cost v6 h7)) ?_
  rcases oC H with ⟨c8, H⟩ | ⟨c8, H⟩
  ·refine it c8 ?_
   refine so [] [] [(4, cB false)] [] id ?_
   cases H
   exact er
  ·refine jf c8 ?_
   refine sk ?_
   refine seq_in ?_
   refine sn [] [] [(20, cB (p0.Shift != p1.Shift))] [] [] id ?_
   rcases oC H with ⟨c10, H⟩ | ⟨c10, H⟩
   ·refine it c10 ?_
    refine so [] [] [(4, cB false)] [] id ?_
    cases H
    exact er
   ·refine jf c10 ?_
    refine sk ?_
    refine seq_in ?_
    refine sn [] [] [(25, cB (p0.Height != p1.Height))] [] [] id ?_
    rcases oC H with ⟨c12, H⟩ | ⟨c12, H⟩
    ·refine it c12 ?_
     refine so [] [] [(4, cB false)] [] id ?_
     cases H
     exact er
    ·refine jf c12 ?_
     refine sk ?_
     refine seq_in ?_
     refine so [] [] [(30, cB (!(p0.Blocks == p1.Blocks)))] [] id ?_
     rcases oC H with ⟨c13, H⟩ | ⟨c13, H⟩
     ·refine it c13 ?_
      refine so [] [] [(4, cB false)] [] id ?_
      cases H
      exact er
     ·refine jf c13 ?_
      refine sk ?_
      refine so [] [] [(4, cB true)] [] id ?_
      cases H
      exact er
def l_eqTerrainS_ir : S :=
 (sq [o 4 (.mv bF)]
 (.seq (sq [om 6 0, o 7 (.len (.t 6)), om 8 1, o 9 (.len (.t 8)), o 10 (.bin .neq (.t 7) (.t 9))]
 (.ite (.t 10) (sq [o 4 (.mv bF)]
  .ret)
 .skip))
 (.seq (sq [o 5 (.mv (iv 0))]
 (.blk 0 (.loop (.seq (sq [om 11 5, om 12 0, o 13 (.len (.t 12)), o 14 (.bin .lss (.t 11) (.t 13))]
   (.ite (.t 14) .skip
   (.exit 0)))
   (.seq (.blk 1 (.seq (.drw [(0, 1), (0, 4), (1, 4), (2, 4), (3, 4), (0, 5), (1, 5), (2, 5), (3, 5), (4, 5), (0, 6), (1, 6), (2, 6), (3, 6), (0, 7), (1, 7), (2, 7), (3, 7)] [om 17 0, om 18 5, o 19 (.iad 5 (.t 17) (.t 18)), o 20 (.load 5 true (.t 19)), om 21 1, om 22 5, o 23 (.iad 5 (.t 21) (.t 22)), o 24 (.load 5 true (.t 23)), o 25 (.call 68 [.t 20, .t 24]), o 26 (.not (.t 25))])
    (.ite (.t 26) (sq [o 4 (.mv bF)]
     .ret)
    .skip)))
   (.ops [om 15 5, o 16 (.bin .add (.t 15) (iv 1)), om 5 16]))))))
 (sq [o 4 (.mv bT)]
 .ret))))
noncomputable def X.l_eqTerrainS (p0 : (List TTerrain)) (p1 : (List TTerrain)) : Option Bool :=
 (bif ((p0.length : Int) != (p1.length : Int)) then some false else ((loop (fun (x22 : Int) => ((bif (decide (x22 < (p0.length : Int))) then ((at' zTTerrain p0 x22).bind fun v25 => ((at' zTTerrain p1 x22).bind fun v27 => ((X.l_eqTerrain v25 v27).bind fun v29 => (bif (!v29) then some (Sum.inr (Sum.inr false)) else some (Sum.inl (W (x22 + 1))))))) else some (Sum.inr (Sum.inl ()))) : Option (Int ⊕ (Unit ⊕ Bool)))) 0).bind fun y32 => (Sum.elim (fun (y34 : Unit) => some true) (fun (y35 : Bool) => some y35) y32)))
theorem l_eqTerrainS_ok (p0 : (List TTerrain)) (p1 : (List TTerrain)) (r : Bool) (H : X.l_eqTerrainS p0 p1 = some r) : FK 44 [.c (dat 5 eTTerrain zTTerrain p0), .c (dat 5 eTTerrain zTTerrain p1)] (cB r) := by
 unfold X.l_eqTerrainS at H
 refine fi Tryd.f44 l_eqTerrainS_ir [(4, cB r)] [] glL Tryd.func44 ?_
 refine sn [] [] [] [] [] id ?_
 refine seq_in ?_
 refine sn [] [] [(10, cB ((p0.length : Int) != (p1.length : Int)))] [] [] (fun t => lI p0 (lI p1 (t))) ?_
 rcases oC H with ⟨c2, H⟩ | ⟨c2, H⟩
 ·refine it c2 ?_
  refine so [] [] [(4, cB false)] [] id ?_
  cases H
  exact er
 ·refine jf c2 ?_
  refine sk ?_
  refine seq_in ?_
  refine sn [] [] [(5, cI 0)] [] [] id ?_
  refine ends_blk ?_
  obtain ⟨y32, h33, H⟩ := oB H
  refine tl [] [(0, dc 5 eTTerrain zTTerrain p0), (1, dc 5 eTTerrain zTTerrain p1), (5, cI 0)] [] id ?_
  refine loop_in (fun (x : Int) => lit [(0, dc 5 eTTerrain zTTerrain p0), (1, dc 5 eTTerrain zTTerrain p1), (5, cI x)] []) (orJ (fun (z : Unit) => At (.exit 0) (lit [] [])) (fun (z : Bool) => At .ret (lit [(4, cB z)] []))) h33 ?_ ?_
  ·clear H h33
   intro x22 y0 H
   refine seq_in ?_
   refine sn [] [] [(14, cB (decide (x22 < (p0.length : Int))))] [] [] (fun t => lI p0 (t)) ?_
   rcases oC H with ⟨c24, H⟩ | ⟨c24, H⟩
   ·refine it c24 ?_
    refine sk ?_
    refine seq_in ?_
    refine ends_blk ?_
    obtain ⟨v25, h26, H⟩ := oB H
    obtain ⟨v27, h28, H⟩ := oB H
    obtain ⟨v29, h30, H⟩ := oB H
    refine xn [.cs (eTTerrain v25), .cs (eTTerrain v27), .res (cB v29)] [] [(26, cB (!v29))] [] [] (fun t => (a2 eTTerrain h26 (aI rN ((a2 eTTerrain h28 (aI rN (aI (l_eqTerrain_ok v25 v27 v29 h30) (aI trivial (aI rN (t)))))))))) ?_
    rcases oC H with ⟨c31, H⟩ | ⟨c31, H⟩
    ·refine it c31 ?_
     refine so [] [] [(4, cB false)] [] id ?_
     refine ends_ret ?_
     cases H
     exact rsr
    ·refine jf c31 ?_
     refine sk ?_
     refine oo [] [] [(0, dc 5 eTTerrain zTTerrain p0), (1, dc 5 eTTerrain zTTerrain p1), (5, cI (W (x22 + 1)))] [] id ?_
     cases H
     exact rr
   ·refine jf c24 ?_
    refine tl [] [] [] id ?_
    refine ends_exit ?_
    cases H
    exact rse
  ·clear h33
   cases y32 with
   | inl y34 =>
    replace H := ofInl H
    rintro e s ⟨rfl, rfl⟩
    change EndsI _ _ _ _ _ _
    refine so [] [] [(4, cB true)] [] id ?_
    cases H
    exact er
   | inr y35 =>
    replace H := ofInr H
    rintro e s ⟨rfl, rfl⟩
    cases H
    exact qr
def l_eqKind_ir : S :=
 (sq [o 2 (.box 6 (.t 0)), o 3 (.box 6 (.t 1)), o 4 (.mv bF)]
 (.seq (sq [oa 5 0 2, ol 6 5, oa 7 0 3, ol 8 7, o 9 (.bin .neq (.t 6) (.t 8))]
 (.ite (.t 9) (sq [o 4 (.mv bF)]
  .ret)
 .skip))
 (.seq (sq [oa 10 1 2, ol 11 10, oa 12 1 3, ol 13 12, o 14 (.bin .neq (.t 11) (.t 13))]
 (.ite (.t 14) (sq [o 4 (.mv bF)]
  .ret)
 .skip))
 (.seq (sq [oa 15 2 2, ol 16 15, oa 17 2 3, ol 18 17, o 19 (.bin .neq (.t 16) (.t 18))]
 (.ite (.t 19) (sq [o 4 (.mv bF)]
  .ret)
 .skip))
 (.seq (sq [oa 20 3 2, ol 21 20, oa 22 3 3, ol 23 22, o 24 (.bin .neq (.t 21) (.t 23))]
 (.ite (.t 24) (sq [o 4 (.mv bF)]
  .ret)
 .skip))
 (.seq (sq [oa 25 4 2, ol 26 25, oa 27 4 3, ol 28 27, o 29 (.bqe true (.t 26) (.t 28))]
 (.ite (.t 29) (sq [o 4 (.mv bF)]
  .ret)
 .skip))
 (.seq (sq [oa 30 5 2, ol 31 30, oa 32 5 3, ol 33 32, o 34 (.bin .neq (.t 31) (.t 33))]
 (.ite (.t 34) (sq [o 4 (.mv bF)]
  .ret)
 .skip))
 (sq [o 4 (.mv bT)]
 .ret))))))))
noncomputable def X.l_eqKind (p0 : TKind) (p1 : TKind) : Option Bool :=
 (bif (!(p0.Name == p1.Name)) then some false else (bif (p0.Strength != p1.Strength) then some false else (bif (p0.Moves != p1.Moves) then some false else (bif (p0.Steps != p1.Steps) then some false else (bif (!(p0.Zone == p1.Zone)) then some false else (bif (p0.View != p1.View) then some false else some true))))))
theorem l_eqKind_ok (p0 : TKind) (p1 : TKind) (r : Bool) (H : X.l_eqKind p0 p1 = some r) : FK 69 [.agg (eTKind p0), .agg (eTKind p1)] (cB r) := by
 unfold X.l_eqKind at H
 refine fi Tryd.f69 l_eqKind_ir [(4, cB r)] [] glL Tryd.func69 ?_
 refine so [] [] [(2, pk 2), (3, pk 3)] [(2, va (eTKind p0)), (3, va (eTKind p1))] id ?_
 refine seq_in ?_
 refine sn [] [] [(9, cB (!(p0.Name == p1.Name)))] [] [] id ?_
 rcases oC H with ⟨c2, H⟩ | ⟨c2, H⟩
 ·refine it c2 ?_
  refine so [] [] [(4, cB false)] [] id ?_
  cases H
  exact er
 ·refine jf c2 ?_
  refine sk ?_
  refine seq_in ?_
  refine sn [] [] [(14, cB (p0.Strength != p1.Strength))] [] [] id ?_
  rcases oC H with ⟨c4, H⟩ | ⟨c4, H⟩
  ·refine it c4 ?_
   refine so [] [] [(4, cB false)] [] id ?_
   cases H
   exact er
  ·refine jf c4 ?_
   refine sk ?_
   refine seq_in ?_
   refine sn [] [] [(19, cB (p0.Moves != p1.Moves))] [] [] id ?_
   rcases oC H with ⟨c6, H⟩ | ⟨c6, H⟩
   ·refine it c6 ?_
    refine so [] [] [(4, cB false)] [] id ?_
    cases H
    exact er
   ·refine jf c6 ?_
    refine sk ?_
    refine seq_in ?_
    refine sn [] [] [(24, cB (p0.Steps != p1.Steps))] [] [] id ?_
    rcases oC H with ⟨c8, H⟩ | ⟨c8, H⟩
    ·refine it c8 ?_
     refine so [] [] [(4, cB false)] [] id ?_
     cases H
     exact er
    ·refine jf c8 ?_
     refine sk ?_
     refine seq_in ?_
     refine sn [] [] [(29, cB (!(p0.Zone == p1.Zone)))] [] [] id ?_
     rcases oC H with ⟨c10, H⟩ | ⟨c10, H⟩
     ·refine it c10 ?_
      refine so [] [] [(4, cB false)] [] id ?_
      cases H
      exact er
     ·refine jf c10 ?_
      refine sk ?_
      refine seq_in ?_
      refine so [] [] [(34, cB (p0.View != p1.View))] [] id ?_
      rcases oC H with ⟨c11, H⟩ | ⟨c11, H⟩
      ·refine it c11 ?_
       refine so [] [] [(4, cB false)] [] id ?_
       cases H
       exact er
      ·refine jf c11 ?_
       refine sk ?_
       refine so [] [] [(4, cB true)] [] id ?_
       cases H
       exact er
def l_eqKindS_ir : S :=
 (sq [o 4 (.mv bF)]
 (.seq (sq [om 6 0, o 7 (.len (.t 6)), om 8 1, o 9 (.len (.t 8)), o 10 (.bin .neq (.t 7) (.t 9))]
 (.ite (.t 10) (sq [o 4 (.mv bF)]
  .ret)
 .skip))
 (.seq (sq [o 5 (.mv (iv 0))]
 (.blk 0 (.loop (.seq (sq [om 11 5, om 12 0, o 13 (.len (.t 12)), o 14 (.bin .lss (.t 11) (.t 13))]
   (.ite (.t 14) .skip
   (.exit 0)))
   (.seq (.blk 1 (.seq (.drw [(0, 1), (0, 4), (1, 4), (2, 4), (3, 4), (0, 5), (1, 5), (2, 5), (3, 5), (4, 5), (0, 6), (1, 6), (2, 6), (3, 6), (0, 7), (1, 7), (2, 7), (3, 7)] [om 17 0, om 18 5, o 19 (.iad 6 (.t 17) (.t 18)), o 20 (.load 6 true (.t 19)), om 21 1, om 22 5, o 23 (.iad 6 (.t 21) (.t 22)), o 24 (.load 6 true (.t 23)), o 25 (.call 69 [.t 20, .t 24]), o 26 (.not (.t 25))])
    (.ite (.t 26) (sq [o 4 (.mv bF)]
     .ret)
    .skip)))
   (.ops [om 15 5, o 16 (.bin .add (.t 15) (iv 1)), om 5 16]))))))
 (sq [o 4 (.mv bT)]
 .ret))))
noncomputable def X.l_eqKindS (p0 : (List TKind)) (p1 : (List TKind)) : Option Bool :=
 (bif ((p0.length : Int) != (p1.length : Int)) then some false else ((loop (fun (x22 : Int) => ((bif (decide (x22 < (p0.length : Int))) then ((at' zTKind p0 x22).bind fun v25 => ((at' zTKind p1 x22).bind fun v27 => ((X.l_eqKind v25 v27).bind fun v29 => (bif (!v29) then some (Sum.inr (Sum.inr false)) else some (Sum.inl (W (x22 + 1))))))) else some (Sum.inr (Sum.inl ()))) : Option (Int ⊕ (Unit ⊕ Bool)))) 0).bind fun y32 => (Sum.elim (fun (y34 : Unit) => some true) (fun (y35 : Bool) => some y35) y32)))
theorem l_eqKindS_ok (p0 : (List TKind)) (p1 : (List TKind)) (r : Bool) (H : X.l_eqKindS p0 p1 = some r) : FK 45 [.c (dat 6 eTKind zTKind p0), .c (dat 6 eTKind zTKind p1)] (cB r) := by
 unfold X.l_eqKindS at H
 refine fi Tryd.f45 l_eqKindS_ir [(4, cB r)] [] glL Tryd.func45 ?_
 refine sn [] [] [] [] [] id ?_
 refine seq_in ?_
 refine sn [] [] [(10, cB ((p0.length : Int) != (p1.length : Int)))] [] [] (fun t => lI p0 (lI p1 (t))) ?_
 rcases oC H with ⟨c2, H⟩ | ⟨c2, H⟩
 ·refine it c2 ?_
  refine so [] [] [(4, cB false)] [] id ?_
  cases H
  exact er
 ·refine jf c2 ?_
  refine sk ?_
  refine seq_in ?_
  refine sn [] [] [(5, cI 0)] [] [] id ?_
  refine ends_blk ?_
  obtain ⟨y32, h33, H⟩ := oB H
  refine tl [] [(0, dc 6 eTKind zTKind p0), (1, dc 6 eTKind zTKind p1), (5, cI 0)] [] id ?_
  refine loop_in (fun (x : Int) => lit [(0, dc 6 eTKind zTKind p0), (1, dc 6 eTKind zTKind p1), (5, cI x)] []) (orJ (fun (z : Unit) => At (.exit 0) (lit [] [])) (fun (z : Bool) => At .ret (lit [(4, cB z)] []))) h33 ?_ ?_
  ·clear H h33
   intro x22 y0 H
   refine seq_in ?_
   refine sn [] [] [(14, cB (decide (x22 < (p0.length : Int))))] [] [] (fun t => lI p0 (t)) ?_
   rcases oC H with ⟨c24, H⟩ | ⟨c24, H⟩
   ·refine it c24 ?_
    refine sk ?_
    refine seq_in ?_
    refine ends_blk ?_
    obtain ⟨v25, h26, H⟩ := oB H
    obtain ⟨v27, h28, H⟩ := oB H
    obtain ⟨v29, h30, H⟩ := oB H
    refine xn [.cs (eTKind v25), .cs (eTKind v27), .res (cB v29)] [] [(26, cB (!v29))] [] [] (fun t => (a2 eTKind h26 (aI rN ((a2 eTKind h28 (aI rN (aI (l_eqKind_ok v25 v27 v29 h30) (aI trivial (aI rN (t)))))))))) ?_
    rcases oC H with ⟨c31, H⟩ | ⟨c31, H⟩
    ·refine it c31 ?_
     refine so [] [] [(4, cB false)] [] id ?_
     refine ends_ret ?_
     cases H
     exact rsr
    ·refine jf c31 ?_
     refine sk ?_
     refine oo [] [] [(0, dc 6 eTKind zTKind p0), (1, dc 6 eTKind zTKind p1), (5, cI (W (x22 + 1)))] [] id ?_
     cases H
     exact rr
   ·refine jf c24 ?_
    refine tl [] [] [] id ?_
    refine ends_exit ?_
    cases H
    exact rse
  ·clear h33
   cases y32 with
   | inl y34 =>
    replace H := ofInl H
    rintro e s ⟨rfl, rfl⟩
    change EndsI _ _ _ _ _ _
    refine so [] [] [(4, cB true)] [] id ?_
    cases H
    exact er
   | inr y35 =>
    replace H := ofInr H
    rintro e s ⟨rfl, rfl⟩
    cases H
    exact qr
def l_eqRules_ir : S :=
 (sq [o 2 (.box 7 (.t 0)), o 3 (.box 7 (.t 1)), o 4 (.mv bF)]
 (.seq (sq [oa 5 0 2, ol 6 5, oa 7 0 3, ol 8 7, o 9 (.call 44 [.t 6, .t 8]), o 10 (.not (.t 9))]
 (.ite (.t 10) (sq [o 4 (.mv bF)]
  .ret)
 .skip))
 (.seq (sq [oa 11 1 2, ol 12 11, oa 13 1 3, ol 14 13, o 15 (.call 45 [.t 12, .t 14]), o 16 (.not (.t 15))]
 (.ite (.t 16) (sq [o 4 (.mv bF)]
  .ret)
 .skip))
 (.seq (sq [oa 17 2 2, ol 18 17, oa 19 2 3, ol 20 19, o 21 (.bin .neq (.t 18) (.t 20))]
 (.ite (.t 21) (sq [o 4 (.mv bF)]
  .ret)
 .skip))
 (.seq (sq [oa 22 3 2, ol 23 22, oa 24 3 3, ol 25 24, o 26 (.bin .neq (.t 23) (.t 25))]
 (.ite (.t 26) (sq [o 4 (.mv bF)]
  .ret)
 .skip))
 (.seq (sq [oa 27 4 2, ol 28 27, oa 29 4 3, ol 30 29, o 31 (.bin .neq (.t 28) (.t 30))]
 (.ite (.t 31) (sq [o 4 (.mv bF)]
  .ret)
 .skip))
 (.seq (sq [oa 32 5 2, ol 33 32, oa 34 5 3, ol 35 34, o 36 (.bin .neq (.t 33) (.t 35))]
 (.ite (.t 36) (sq [o 4 (.mv bF)]
  .ret)
 .skip))
 (.seq (sq [oa 37 6 2, ol 38 37, oa 39 6 3, ol 40 39, o 41 (.bin .neq (.t 38) (.t 40))]
 (.ite (.t 41) (sq [o 4 (.mv bF)]
  .ret)
 .skip))
 (sq [o 4 (.mv bT)]
 .ret)))))))))
noncomputable def X.l_eqRules (p0 : TRules) (p1 : TRules) : Option Bool :=
 ((X.l_eqTerrainS p0.Terrains p1.Terrains).bind fun v4 => (bif (!v4) then some false else ((X.l_eqKindS p0.Kinds p1.Kinds).bind fun v10 => (bif (!v10) then some false else (bif (p0.Stack != p1.Stack) then some false else (bif (p0.River != p1.River) then some false else (bif (p0.Road != p1.Road) then some false else (bif (p0.Supply != p1.Supply) then some false else (bif (p0.Turns != p1.Turns) then some false else some true)))))))))
theorem l_eqRules_ok (p0 : TRules) (p1 : TRules) (r : Bool) (H : X.l_eqRules p0 p1 = some r) : FK 23 [.agg (eTRules p0), .agg (eTRules p1)] (cB r) := by
 unfold X.l_eqRules at H
 refine fi Tryd.f23 l_eqRules_ir [(4, cB r)] [] glL Tryd.func23 ?_
 refine so [] [] [(2, pk 2), (3, pk 3)] [(2, va (eTRules p0)), (3, va (eTRules p1))] id ?_
 refine seq_in ?_
 obtain ⟨v4, h5, H⟩ := oB H
 refine sn [.res (cB v4)] [] [(10, cB (!v4))] [] [] (aI (l_eqTerrainS_ok p0.Terrains p1.Terrains v4 h5)) ?_
 rcases oC H with ⟨c6, H⟩ | ⟨c6, H⟩
 ·refine it c6 ?_
  refine so [] [] [(4, cB false)] [] id ?_
  cases H
  exact er
 ·refine jf c6 ?_
  refine sk ?_
  refine seq_in ?_
  obtain ⟨v10, h11, H⟩ := oB H
  refine sn [.res (cB v10)] [] [(16, cB (!v10))] [] [] (aI (l_eqKindS_ok p0.Kinds p1.Kinds v10 h11)) ?_
  rcases oC H with ⟨c12, H⟩ | ⟨c12, H⟩
  ·refine it c12 ?_
   refine so [] [] [(4, cB false)] [] id ?_
   cases H
   exact er
  ·refine jf c12 ?_
   refine sk ?_
   refine seq_in ?_
   refine sn [] [] [(21, cB (p0.Stack != p1.Stack))] [] [] id ?_
   rcases oC H with ⟨c14, H⟩ | ⟨c14, H⟩
   ·refine it c14 ?_
    refine so [] [] [(4, cB false)] [] id ?_
    cases H
    exact er
   ·refine jf c14 ?_
    refine sk ?_
    refine seq_in ?_
    refine sn [] [] [(26, cB (p0.River != p1.River))] [] [] id ?_
    rcases oC H with ⟨c16, H⟩ | ⟨c16, H⟩
    ·refine it c16 ?_
     refine so [] [] [(4, cB false)] [] id ?_
     cases H
     exact er
    ·refine jf c16 ?_
     refine sk ?_
     refine seq_in ?_
     refine sn [] [] [(31, cB (p0.Road != p1.Road))] [] [] id ?_
     rcases oC H with ⟨c18, H⟩ | ⟨c18, H⟩
     ·refine it c18 ?_
      refine so [] [] [(4, cB false)] [] id ?_
      cases H
      exact er
     ·refine jf c18 ?_
      refine sk ?_
      refine seq_in ?_
      refine sn [] [] [(36, cB (p0.Supply != p1.Supply))] [] [] id ?_
      rcases oC H with ⟨c20, H⟩ | ⟨c20, H⟩
      ·refine it c20 ?_
       refine so [] [] [(4, cB false)] [] id ?_
       cases H
       exact er
      ·refine jf c20 ?_
       refine sk ?_
       refine seq_in ?_
       refine so [] [] [(41, cB (p0.Turns != p1.Turns))] [] id ?_
       rcases oC H with ⟨c21, H⟩ | ⟨c21, H⟩
       ·refine it c21 ?_
        refine so [] [] [(4, cB false)] [] id ?_
        cases H
        exact er
       ·refine jf c21 ?_
        refine sk ?_
        refine so [] [] [(4, cB true)] [] id ?_
        cases H
        exact er
def l_eqMap_ir : S :=
 (sq [o 2 (.box 5 (.t 0)), o 3 (.box 5 (.t 1)), o 4 (.mv bF)]
 (.seq (sq [oa 5 0 2, ol 6 5, oa 7 0 3, ol 8 7, o 9 (.bin .neq (.t 6) (.t 8))]
 (.ite (.t 9) (sq [o 4 (.mv bF)]
  .ret)
 .skip))
 (.seq (sq [oa 10 1 2, ol 11 10, oa 12 1 3, ol 13 12, o 14 (.bin .neq (.t 11) (.t 13))]
 (.ite (.t 14) (sq [o 4 (.mv bF)]
  .ret)
 .skip))
 (.seq (sq [oa 15 2 2, ol 16 15, oa 17 2 3, ol 18 17, o 19 (.call 22 [.t 16, .t 18]), o 20 (.not (.t 19))]
 (.ite (.t 20) (sq [o 4 (.mv bF)]
  .ret)
 .skip))
 (.seq (sq [oa 21 3 2, ol 22 21, oa 23 3 3, ol 24 23, o 25 (.call 22 [.t 22, .t 24]), o 26 (.not (.t 25))]
 (.ite (.t 26) (sq [o 4 (.mv bF)]
  .ret)
 .skip))
 (.seq (sq [oa 27 4 2, ol 28 27, oa 29 4 3, ol 30 29, o 31 (.call 22 [.t 28, .t 30]), o 32 (.not (.t 31))]
 (.ite (.t 32) (sq [o 4 (.mv bF)]
  .ret)
 .skip))
 (sq [o 4 (.mv bT)]
 .ret)))))))
noncomputable def X.l_eqMap (p0 : TMap) (p1 : TMap) : Option Bool :=
 (bif (p0.Width != p1.Width) then some false else (bif (p0.Height != p1.Height) then some false else ((X.l_eqIntS p0.Terrain p1.Terrain).bind fun v8 => (bif (!v8) then some false else ((X.l_eqIntS p0.Rivers p1.Rivers).bind fun v14 => (bif (!v14) then some false else ((X.l_eqIntS p0.Roads p1.Roads).bind fun v17 => (bif (!v17) then some false else some true))))))))
theorem l_eqMap_ok (p0 : TMap) (p1 : TMap) (r : Bool) (H : X.l_eqMap p0 p1 = some r) : FK 24 [.agg (eTMap p0), .agg (eTMap p1)] (cB r) := by
 unfold X.l_eqMap at H
 refine fi Tryd.f24 l_eqMap_ir [(4, cB r)] [] glL Tryd.func24 ?_
 refine so [] [] [(2, pk 2), (3, pk 3)] [(2, va (eTMap p0)), (3, va (eTMap p1))] id ?_
 refine seq_in ?_
 refine sn [] [] [(9, cB (p0.Width != p1.Width))] [] [] id ?_
 rcases oC H with ⟨c2, H⟩ | ⟨c2, H⟩
 ·refine it c2 ?_
  refine so [] [] [(4, cB false)] [] id ?_
  cases H
  exact er
 ·refine jf c2 ?_
  refine sk ?_
  refine seq_in ?_
  refine sn [] [] [(14, cB (p0.Height != p1.Height))] [] [] id ?_
  rcases oC H with ⟨c4, H⟩ | ⟨c4, H⟩
  ·refine it c4 ?_
   refine so [] [] [(4, cB false)] [] id ?_
   cases H
   exact er
  ·refine jf c4 ?_
   refine sk ?_
   refine seq_in ?_
   obtain ⟨v8, h9, H⟩ := oB H
   refine sn [.res (cB v8)] [] [(20, cB (!v8))] [] [] (aI (l_eqIntS_ok p0.Terrain p1.Terrain v8 h9)) ?_
   rcases oC H with ⟨c10, H⟩ | ⟨c10, H⟩
   ·refine it c10 ?_
    refine so [] [] [(4, cB false)] [] id ?_
    cases H
    exact er
   ·refine jf c10 ?_
    refine sk ?_
    refine seq_in ?_
    obtain ⟨v14, h15, H⟩ := oB H
    refine sn [.res (cB v14)] [] [(26, cB (!v14))] [] [] (aI (l_eqIntS_ok p0.Rivers p1.Rivers v14 h15)) ?_
    rcases oC H with ⟨c16, H⟩ | ⟨c16, H⟩
    ·refine it c16 ?_
     refine so [] [] [(4, cB false)] [] id ?_
     cases H
     exact er
    ·refine jf c16 ?_
     refine sk ?_
     refine seq_in ?_
     obtain ⟨v17, h18, H⟩ := oB H
     refine so [.res (cB v17)] [] [(32, cB (!v17))] [] (aI (l_eqIntS_ok p0.Roads p1.Roads v17 h18)) ?_
     rcases oC H with ⟨c19, H⟩ | ⟨c19, H⟩
     ·refine it c19 ?_
      refine so [] [] [(4, cB false)] [] id ?_
      cases H
      exact er
     ·refine jf c19 ?_
      refine sk ?_
      refine so [] [] [(4, cB true)] [] id ?_
      cases H
      exact er
def l_eqBoard_ir : S :=
 (sq [o 2 (.box 12 (.t 0)), o 3 (.box 12 (.t 1)), o 4 (.mv bF)]
 (.seq (sq [oa 5 0 2, o 6 (.load 7 true (.t 5)), oa 7 0 3, o 8 (.load 7 true (.t 7)), o 9 (.call 23 [.t 6, .t 8]), o 10 (.not (.t 9))]
 (.ite (.t 10) (sq [o 4 (.mv bF)]
  .ret)
 .skip))
 (.seq (sq [oa 11 7 2, o 12 (.load 5 true (.t 11)), oa 13 7 3, o 14 (.load 5 true (.t 13)), o 15 (.call 24 [.t 12, .t 14]), o 16 (.not (.t 15))]
 (.ite (.t 16) (sq [o 4 (.mv bF)]
  .ret)
 .skip))
 (sq [o 4 (.mv bT)]
 .ret))))
noncomputable def X.l_eqBoard (p0 : TBoard) (p1 : TBoard) : Option Bool :=
 ((X.l_eqRules p0.Rules p1.Rules).bind fun v4 => (bif (!v4) then some false else ((X.l_eqMap p0.Map p1.Map).bind fun v7 => (bif (!v7) then some false else some true))))
theorem l_eqBoard_ok (p0 : TBoard) (p1 : TBoard) (r : Bool) (H : X.l_eqBoard p0 p1 = some r) : FK 9 [.agg (eTBoard p0), .agg (eTBoard p1)] (cB r) := by
 unfold X.l_eqBoard at H
 refine fi Tryd.f9 l_eqBoard_ir [(4, cB r)] [] glL Tryd.func9 ?_
 refine so [] [] [(2, pk 2), (3, pk 3)] [(2, va (eTBoard p0)), (3, va (eTBoard p1))] id ?_
 refine seq_in ?_
 obtain ⟨v4, h5, H⟩ := oB H
 refine sn [.res (cB v4)] [] [(10, cB (!v4))] [] [] (aI (l_eqRules_ok p0.Rules p1.Rules v4 h5)) ?_
 rcases oC H with ⟨c6, H⟩ | ⟨c6, H⟩
 ·refine it c6 ?_
  refine so [] [] [(4, cB false)] [] id ?_
  cases H
  exact er
 ·refine jf c6 ?_
  refine sk ?_
  refine seq_in ?_
  obtain ⟨v7, h8, H⟩ := oB H
  refine so [.res (cB v7)] [] [(16, cB (!v7))] [] (aI (l_eqMap_ok p0.Map p1.Map v7 h8)) ?_
  rcases oC H with ⟨c9, H⟩ | ⟨c9, H⟩
  ·refine it c9 ?_
   refine so [] [] [(4, cB false)] [] id ?_
   cases H
   exact er
  ·refine jf c9 ?_
   refine sk ?_
   refine so [] [] [(4, cB true)] [] id ?_
   cases H
   exact er
def l_markIntS_ir : S :=
 (sq [o 4 (.mv (iv 0))]
 (.seq (sq [o 5 (.mv (iv 0))]
 (.blk 0 (.loop (.seq (sq [om 6 5, om 7 0, o 8 (.len (.t 7)), o 9 (.bin .lss (.t 6) (.t 8))]
   (.ite (.t 9) .skip
   (.exit 0)))
   (.seq (.blk 1 (sq [om 12 0, om 13 5, om 14 1, o 15 (.iad 1 (.t 12) (.t 13)), os 1 15 14]
    (.ops [om 16 1, o 17 (.bin .add (.t 16) (iv 1)), om 1 17])))
   (.ops [om 10 5, o 11 (.bin .add (.t 10) (iv 1)), om 5 11]))))))
 (sq [om 18 1, om 4 18]
 .ret)))
noncomputable def X.l_markIntS_L (p0 : (List Int)) (p1 : Int) : Option Int :=
 ((loop (fun (x10 : (Int × Int)) => ((bif (decide (x10.2 < (p0.length : Int))) then ((at' zI p0 x10.2).bind fun v13 => some (Sum.inl ((W (x10.1 + 1)), (W (x10.2 + 1))))) else some (Sum.inr x10.1)) : Option ((Int × Int) ⊕ Int))) (p1, 0)).bind fun y15 => some y15)
theorem l_markIntS_L_ok (p0 : (List Int)) (p1 : Int) (r : Int) (H : X.l_markIntS_L p0 p1 = some r) : FK 27 [.c (.lv (dat 1 eI zI p0)), cI p1] (cI r) := by
 unfold X.l_markIntS_L at H
 refine fi Tryd.f27 l_markIntS_ir [(4, cI r)] [] glL Tryd.func27 ?_
 refine sn [] [] [] [] [] id ?_
 refine seq_in ?_
 refine sn [] [] [(5, cI 0)] [] [] id ?_
 refine ends_blk ?_
 obtain ⟨y15, h16, H⟩ := oB H
 refine tl [] [(0, .c (.lv (dat 1 eI zI p0))), (1, cI p1), (5, cI 0)] [] id ?_
 refine loop_in (fun (x : (Int × Int)) => lit [(0, .c (.lv (dat 1 eI zI p0))), (1, cI x.1), (5, cI x.2)] []) (fun (z : Int) => At (.exit 0) (lit [(1, cI z)] [])) h16 ?_ ?_
 ·clear H h16
  intro x10 y0 H
  refine seq_in ?_
  refine sn [] [] [(9, cB (decide (x10.2 < (p0.length : Int))))] [] [] (fun t => lI p0 (t)) ?_
  rcases oC H with ⟨c12, H⟩ | ⟨c12, H⟩
  ·refine it c12 ?_
   refine sk ?_
   refine seq_in ?_
   refine ends_blk ?_
   obtain ⟨v13, h14, H⟩ := oB H
   refine sn [.cs (eI v13)] [] [] [] [] (fun t => (a2 eI h14 (aI rT (t)))) ?_
   refine oo [] [] [(0, .c (.lv (dat 1 eI zI p0))), (1, cI (W (x10.1 + 1))), (5, cI x10.2)] [] id ?_
   change EndsI _ _ _ _ _ _
   refine oo [] [] [(0, .c (.lv (dat 1 eI zI p0))), (1, cI (W (x10.1 + 1))), (5, cI (W (x10.2 + 1)))] [] id ?_
   cases H
   exact rr
  ·refine jf c12 ?_
   refine tl [] [(1, cI x10.1)] [] id ?_
   refine ends_exit ?_
   cases H
   exact rse
 ·clear h16
  rintro e s ⟨rfl, rfl⟩
  change EndsI _ _ _ _ _ _
  refine so [] [] [(4, cI y15)] [] id ?_
  cases H
  exact er
def l_markText_ir : S :=
 (sq [o 2 (.mv (.v (.str [])))]
 (.seq (sq [om 4 0, o 5 (.bin .leq (.t 4) (iv 0))]
 (.ite (.t 5) (sq [o 2 (.mv (.v (.str [109, 48])))]
  .ret)
 .skip))
 (sq [o 3 (.mv (.v (.str [])))]
 (.seq (.blk 0 (.loop (.seq (sq [om 6 0, o 7 (.bin .gtr (.t 6) (iv 0))]
   (.ite (.t 7) .skip
   (.exit 0)))
   (.blk 1 (sq [om 8 0, o 9 (.bin .rem (.t 8) (iv 10)), o 10 (.bin .add (iv 48) (.t 9)), o 11 (.conv .u8 (.t 10)), o 12 (.bsl 1 [.t 11]), o 13 (.b2s (.t 12)), om 14 3, o 15 (.bin .add (.t 13) (.t 14)), om 3 15]
    (.ops [om 16 0, o 17 (.bin .quo (.t 16) (iv 10)), om 0 17]))))))
 (sq [om 18 3, o 19 (.bin .add (.v (.str [109])) (.t 18)), om 2 19]
 .ret)))))
noncomputable def X.l_markText (p0 : Int) : Option (List UInt8) :=
 (bif (decide (p0 ≤ 0)) then some [109, 48] else ((loop (fun (x12 : (Int × (List UInt8))) => ((bif (decide (x12.1 > 0)) then (if ([(IntKind.u8.wrap (W (48 + (Int.tmod x12.1 10))))] : List Int).all inU8 = true then (if (bytesOf ([(IntKind.u8.wrap (W (48 + (Int.tmod x12.1 10))))] : List Int)).length + x12.2.length ≤ maxLen then some (Sum.inl ((W (Int.tdiv x12.1 10)), ((bytesOf ([(IntKind.u8.wrap (W (48 + (Int.tmod x12.1 10))))] : List Int)) ++ x12.2))) else none) else none) else some (Sum.inr x12.2)) : Option ((Int × (List UInt8)) ⊕ (List UInt8)))) (p0, [])).bind fun y17 => (if ([109] : List UInt8).length + y17.length ≤ maxLen then some (([109] : List UInt8) ++ y17) else none)))
theorem l_markText_ok (p0 : Int) (r : (List UInt8)) (H : X.l_markText p0 = some r) : FK 70 [cI p0] (.c (.str r)) := by
 unfold X.l_markText at H
 refine fi Tryd.f70 l_markText_ir [(2, .c (.str r))] [] glL Tryd.func70 ?_
 refine sn [] [] [] [] [] id ?_
 refine seq_in ?_
 refine sn [] [] [(5, cB (decide (p0 ≤ 0)))] [] [] id ?_
 rcases oC H with ⟨c2, H⟩ | ⟨c2, H⟩
 ·refine it c2 ?_
  refine so [] [] [(2, .c (.str [109, 48]))] [] id ?_
  cases H
  exact er
 ·refine jf c2 ?_
  refine sk ?_
  refine sn [] [] [(3, .c (.str []))] [] [] id ?_
  refine seq_in ?_
  refine ends_blk ?_
  obtain ⟨y17, h18, H⟩ := oB H
  refine tl [] [(0, cI p0), (3, .c (.str []))] [] id ?_
  refine loop_in (fun (x : (Int × (List UInt8))) => lit [(0, cI x.1), (3, .c (.str x.2))] []) (fun (z : (List UInt8)) => At (.exit 0) (lit [(3, .c (.str z))] [])) h18 ?_ ?_
  ·clear H h18
   intro x12 y0 H
   refine seq_in ?_
   refine sn [] [] [(7, cB (decide (x12.1 > 0)))] [] [] id ?_
   rcases oC H with ⟨c14, H⟩ | ⟨c14, H⟩
   ·refine it c14 ?_
    refine sk ?_
    refine ends_blk ?_
    obtain ⟨g15, H⟩ := oI H
    obtain ⟨g16, H⟩ := oI H
    refine so [fh eU zI ([(IntKind.u8.wrap (W (48 + (Int.tmod x12.1 10))))] : List Int), .str (bytesOf ([(IntKind.u8.wrap (W (48 + (Int.tmod x12.1 10))))] : List Int))] [] [(0, cI x12.1), (3, .c (.str ((bytesOf ([(IntKind.u8.wrap (W (48 + (Int.tmod x12.1 10))))] : List Int)) ++ x12.2)))] [] (fun t => aI (by decide : (10 : Int) ≠ 0) (aI (rfl : ([(IntKind.u8.wrap (W (48 + (Int.tmod x12.1 10))))] : List Int).length = 1) (aI (fF_lit eU zI ([(IntKind.u8.wrap (W (48 + (Int.tmod x12.1 10))))] : List Int)) (aI (Nat.le_refl (([(IntKind.u8.wrap (W (48 + (Int.tmod x12.1 10))))] : List Int).length)) (aI (bytesOf_len ([(IntKind.u8.wrap (W (48 + (Int.tmod x12.1 10))))] : List Int)) (aI (bytesOf_at ([(IntKind.u8.wrap (W (48 + (Int.tmod x12.1 10))))] : List Int) g15) (aI g16 (t)))))))) ?_
    refine oo [] [] [(0, cI (W (Int.tdiv x12.1 10))), (3, .c (.str ((bytesOf ([(IntKind.u8.wrap (W (48 + (Int.tmod x12.1 10))))] : List Int)) ++ x12.2)))] [] (aI (by decide : (10 : Int) ≠ 0)) ?_
    cases H
    exact rr
   ·refine jf c14 ?_
    refine tl [] [(3, .c (.str x12.2))] [] id ?_
    refine ends_exit ?_
    cases H
    exact rse
  ·clear h18
   rintro e s ⟨rfl, rfl⟩
   change EndsI _ _ _ _ _ _
   obtain ⟨g19, H⟩ := oI H
   refine so [] [] [(2, .c (.str (([109] : List UInt8) ++ y17)))] [] (fun t => aI g19 (t)) ?_
   cases H
   exact er
def l_markTerrainS_ir : S :=
 (sq [o 4 (.mv (iv 0))]
 (.seq (sq [o 5 (.mv (iv 0))]
 (.blk 0 (.loop (.seq (sq [om 6 5, om 7 0, o 8 (.len (.t 7)), o 9 (.bin .lss (.t 6) (.t 8))]
   (.ite (.t 9) .skip
   (.exit 0)))
   (.seq (.blk 1 (sq [om 12 0, om 13 5, om 14 1, o 15 (.call 70 [.t 14]), o 16 (.iad 5 (.t 12) (.t 13)), oa 17 0 16, os 1 17 15]
    (sq [om 18 1, o 19 (.bin .add (.t 18) (iv 1)), om 1 19]
    (sq [om 20 0, om 21 5, o 22 (.iad 5 (.t 20) (.t 21)), oa 23 1 22, ol 24 23, om 25 1, o 26 (.call 27 [.t 24, .t 25]), om 1 26]
    (sq [om 27 0, om 28 5, om 29 1, o 30 (.iad 5 (.t 27) (.t 28)), oa 31 2 30, os 1 31 29]
    (sq [om 32 1, o 33 (.bin .add (.t 32) (iv 1)), om 1 33]
    (sq [om 34 0, om 35 5, om 36 1, o 37 (.iad 5 (.t 34) (.t 35)), oa 38 3 37, os 1 38 36]
    (sq [om 39 1, o 40 (.bin .add (.t 39) (iv 1)), om 1 40]
    (sq [om 41 0, om 42 5, om 43 1, o 44 (.bin .rem (.t 43) (iv 3)), o 45 (.bin .eql (.t 44) (iv 0)), o 46 (.iad 5 (.t 41) (.t 42)), oa 47 4 46, os 1 47 45]
    (.ops [om 48 1, o 49 (.bin .add (.t 48) (iv 1)), om 1 49]))))))))))
   (.ops [om 10 5, o 11 (.bin .add (.t 10) (iv 1)), om 5 11]))))))
 (sq [om 50 1, om 4 50]
 .ret)))
noncomputable def X.l_markTerrainS_L (p0 : (List TTerrain)) (p1 : Int) : Option Int :=
 ((loop (fun (x18 : (Int × Int)) => ((bif (decide (x18.2 < (p0.length : Int))) then ((X.l_markText x18.1).bind fun v21 => ((at' zTTerrain p0 x18.2).bind fun v23 => ((X.l_markIntS_L v23.Cost (W (x18.1 + 1))).bind fun v25 => some (Sum.inl ((W ((W ((W (v25 + 1)) + 1)) + 1)), (W (x18.2 + 1))))))) else some (Sum.inr x18.1)) : Option ((Int × Int) ⊕ Int))) (p1, 0)).bind fun y27 => some y27)
theorem l_markTerrainS_L_ok (p0 : (List TTerrain)) (p1 : Int) (r : Int) (H : X.l_markTerrainS_L p0 p1 = some r) : FK 46 [.c (.lv (dat 5 eTTerrain zTTerrain p0)), cI p1] (cI r) := by
 unfold X.l_markTerrainS_L at H
 refine fi Tryd.f46 l_markTerrainS_ir [(4, cI r)] [] glL Tryd.func46 ?_
 refine sn [] [] [] [] [] id ?_
 refine seq_in ?_
 refine sn [] [] [(5, cI 0)] [] [] id ?_
 refine ends_blk ?_
 obtain ⟨y27, h28, H⟩ := oB H
 refine tl [] [(0, .c (.lv (dat 5 eTTerrain zTTerrain p0))), (1, cI p1), (5, cI 0)] [] id ?_
 refine loop_in (fun (x : (Int × Int)) => lit [(0, .c (.lv (dat 5 eTTerrain zTTerrain p0))), (1, cI x.1), (5, cI x.2)] []) (fun (z : Int) => At (.exit 0) (lit [(1, cI z)] [])) h28 ?_ ?_
 ·clear H h28
  intro x18 y0 H
  refine seq_in ?_
  refine sn [] [] [(9, cB (decide (x18.2 < (p0.length : Int))))] [] [] (fun t => lI p0 (t)) ?_
  rcases oC H with ⟨c20, H⟩ | ⟨c20, H⟩
  ·refine it c20 ?_
   refine sk ?_
   refine seq_in ?_
   refine ends_blk ?_
   obtain ⟨v21, h22, H⟩ := oB H
   obtain ⟨v23, h24, H⟩ := oB H
   refine sn [.res (.c (.str v21)), .cs (eTTerrain v23)] [] [] [] [] (fun t => aI (l_markText_ok x18.1 v21 h22) ((a2 eTTerrain h24 (aI rT (t))))) ?_
   refine so [] [] [(0, .c (.lv (dat 5 eTTerrain zTTerrain p0))), (1, cI (W (x18.1 + 1))), (5, cI x18.2)] [] id ?_
   obtain ⟨v25, h26, H⟩ := oB H
   refine so [.cs (eTTerrain v23), .res (cI v25)] [] [(0, .c (.lv (dat 5 eTTerrain zTTerrain p0))), (1, cI v25), (5, cI x18.2)] [] (fun t => (a2 eTTerrain h24 (aI (l_markIntS_L_ok v23.Cost (W (x18.1 + 1)) v25 h26) (t)))) ?_
   refine sn [.cs (eTTerrain v23)] [] [] [] [] (fun t => (a2 eTTerrain h24 (aI rT (t)))) ?_
   refine so [] [] [(0, .c (.lv (dat 5 eTTerrain zTTerrain p0))), (1, cI (W (v25 + 1))), (5, cI x18.2)] [] id ?_
   refine sn [.cs (eTTerrain v23)] [] [] [] [] (fun t => (a2 eTTerrain h24 (aI rT (t)))) ?_
   refine so [] [] [(0, .c (.lv (dat 5 eTTerrain zTTerrain p0))), (1, cI (W ((W (v25 + 1)) + 1))), (5, cI x18.2)] [] id ?_
   refine sn [.cs (eTTerrain v23)] [] [] [] [] (fun t => aI (by decide : (3 : Int) ≠ 0) ((a2 eTTerrain h24 (aI rT (t))))) ?_
   refine oo [] [] [(0, .c (.lv (dat 5 eTTerrain zTTerrain p0))), (1, cI (W ((W ((W (v25 + 1)) + 1)) + 1))), (5, cI x18.2)] [] id ?_
   change EndsI _ _ _ _ _ _
   refine oo [] [] [(0, .c (.lv (dat 5 eTTerrain zTTerrain p0))), (1, cI (W ((W ((W (v25 + 1)) + 1)) + 1))), (5, cI (W (x18.2 + 1)))] [] id ?_
   cases H
   exact rr
  ·refine jf c20 ?_
   refine tl [] [(1, cI x18.1)] [] id ?_
   refine ends_exit ?_
   cases H
   exact rse
 ·clear h28
  rintro e s ⟨rfl, rfl⟩
  change EndsI _ _ _ _ _ _
  refine so [] [] [(4, cI y27)] [] id ?_
  cases H
  exact er
def l_markKindS_ir : S :=
 (sq [o 4 (.mv (iv 0))]
 (.seq (sq [o 5 (.mv (iv 0))]
 (.blk 0 (.loop (.seq (sq [om 6 5, om 7 0, o 8 (.len (.t 7)), o 9 (.bin .lss (.t 6) (.t 8))]
   (.ite (.t 9) .skip
   (.exit 0)))
   (.seq (.blk 1 (sq [om 12 0, om 13 5, om 14 1, o 15 (.call 70 [.t 14]), o 16 (.iad 6 (.t 12) (.t 13)), oa 17 0 16, os 1 17 15]
    (sq [om 18 1, o 19 (.bin .add (.t 18) (iv 1)), om 1 19]
    (sq [om 20 0, om 21 5, om 22 1, o 23 (.iad 6 (.t 20) (.t 21)), oa 24 1 23, os 1 24 22]
    (sq [om 25 1, o 26 (.bin .add (.t 25) (iv 1)), om 1 26]
    (sq [om 27 0, om 28 5, om 29 1, o 30 (.iad 6 (.t 27) (.t 28)), oa 31 2 30, os 1 31 29]
    (sq [om 32 1, o 33 (.bin .add (.t 32) (iv 1)), om 1 33]
    (sq [om 34 0, om 35 5, om 36 1, o 37 (.iad 6 (.t 34) (.t 35)), oa 38 3 37, os 1 38 36]
    (sq [om 39 1, o 40 (.bin .add (.t 39) (iv 1)), om 1 40]
    (sq [om 41 0, om 42 5, om 43 1, o 44 (.bin .rem (.t 43) (iv 3)), o 45 (.bin .eql (.t 44) (iv 0)), o 46 (.iad 6 (.t 41) (.t 42)), oa 47 4 46, os 1 47 45]
    (sq [om 48 1, o 49 (.bin .add (.t 48) (iv 1)), om 1 49]
    (sq [om 50 0, om 51 5, om 52 1, o 53 (.iad 6 (.t 50) (.t 51)), oa 54 5 53, os 1 54 52]
    (.ops [om 55 1, o 56 (.bin .add (.t 55) (iv 1)), om 1 56])))))))))))))
   (.ops [om 10 5, o 11 (.bin .add (.t 10) (iv 1)), om 5 11]))))))
 (sq [om 57 1, om 4 57]
 .ret)))
noncomputable def X.l_markKindS_L (p0 : (List TKind)) (p1 : Int) : Option Int :=
 ((loop (fun (x14 : (Int × Int)) => ((bif (decide (x14.2 < (p0.length : Int))) then ((X.l_markText x14.1).bind fun v17 => ((at' zTKind p0 x14.2).bind fun v19 => some (Sum.inl ((W ((W ((W ((W ((W ((W (x14.1 + 1)) + 1)) + 1)) + 1)) + 1)) + 1)), (W (x14.2 + 1)))))) else some (Sum.inr x14.1)) : Option ((Int × Int) ⊕ Int))) (p1, 0)).bind fun y21 => some y21)
theorem l_markKindS_L_ok (p0 : (List TKind)) (p1 : Int) (r : Int) (H : X.l_markKindS_L p0 p1 = some r) : FK 47 [.c (.lv (dat 6 eTKind zTKind p0)), cI p1] (cI r) := by
 unfold X.l_markKindS_L at H
 refine fi Tryd.f47 l_markKindS_ir [(4, cI r)] [] glL Tryd.func47 ?_
 refine sn [] [] [] [] [] id ?_
 refine seq_in ?_
 refine sn [] [] [(5, cI 0)] [] [] id ?_
 refine ends_blk ?_
 obtain ⟨y21, h22, H⟩ := oB H
 refine tl [] [(0, .c (.lv (dat 6 eTKind zTKind p0))), (1, cI p1), (5, cI 0)] [] id ?_
 refine loop_in (fun (x : (Int × Int)) => lit [(0, .c (.lv (dat 6 eTKind zTKind p0))), (1, cI x.1), (5, cI x.2)] []) (fun (z : Int) => At (.exit 0) (lit [(1, cI z)] [])) h22 ?_ ?_
 ·clear H h22
  intro x14 y0 H
  refine seq_in ?_
  refine sn [] [] [(9, cB (decide (x14.2 < (p0.length : Int))))] [] [] (fun t => lI p0 (t)) ?_
  rcases oC H with ⟨c16, H⟩ | ⟨c16, H⟩
  ·refine it c16 ?_
   refine sk ?_
   refine seq_in ?_
   refine ends_blk ?_
   obtain ⟨v17, h18, H⟩ := oB H
   obtain ⟨v19, h20, H⟩ := oB H
   refine sn [.res (.c (.str v17)), .cs (eTKind v19)] [] [] [] [] (fun t => aI (l_markText_ok x14.1 v17 h18) ((a2 eTKind h20 (aI rT (t))))) ?_
   refine so [] [] [(0, .c (.lv (dat 6 eTKind zTKind p0))), (1, cI (W (x14.1 + 1))), (5, cI x14.2)] [] id ?_
   refine sn [.cs (eTKind v19)] [] [] [] [] (fun t => (a2 eTKind h20 (aI rT (t)))) ?_
   refine so [] [] [(0, .c (.lv (dat 6 eTKind zTKind p0))), (1, cI (W ((W (x14.1 + 1)) + 1))), (5, cI x14.2)] [] id ?_
   refine sn [.cs (eTKind v19)] [] [] [] [] (fun t => (a2 eTKind h20 (aI rT (t)))) ?_
   refine so [] [] [(0, .c (.lv (dat 6 eTKind zTKind p0))), (1, cI (W ((W ((W (x14.1 + 1)) + 1)) + 1))), (5, cI x14.2)] [] id ?_
   refine sn [.cs (eTKind v19)] [] [] [] [] (fun t => (a2 eTKind h20 (aI rT (t)))) ?_
   refine so [] [] [(0, .c (.lv (dat 6 eTKind zTKind p0))), (1, cI (W ((W ((W ((W (x14.1 + 1)) + 1)) + 1)) + 1))), (5, cI x14.2)] [] id ?_
   refine sn [.cs (eTKind v19)] [] [] [] [] (fun t => aI (by decide : (3 : Int) ≠ 0) ((a2 eTKind h20 (aI rT (t))))) ?_
   refine so [] [] [(0, .c (.lv (dat 6 eTKind zTKind p0))), (1, cI (W ((W ((W ((W ((W (x14.1 + 1)) + 1)) + 1)) + 1)) + 1))), (5, cI x14.2)] [] id ?_
   refine sn [.cs (eTKind v19)] [] [] [] [] (fun t => (a2 eTKind h20 (aI rT (t)))) ?_
   refine oo [] [] [(0, .c (.lv (dat 6 eTKind zTKind p0))), (1, cI (W ((W ((W ((W ((W ((W (x14.1 + 1)) + 1)) + 1)) + 1)) + 1)) + 1))), (5, cI x14.2)] [] id ?_
   change EndsI _ _ _ _ _ _
   refine oo [] [] [(0, .c (.lv (dat 6 eTKind zTKind p0))), (1, cI (W ((W ((W ((W ((W ((W (x14.1 + 1)) + 1)) + 1)) + 1)) + 1)) + 1))), (5, cI (W (x14.2 + 1)))] [] id ?_
   cases H
   exact rr
  ·refine jf c16 ?_
   refine tl [] [(1, cI x14.1)] [] id ?_
   refine ends_exit ?_
   cases H
   exact rse
 ·clear h22
  rintro e s ⟨rfl, rfl⟩
  change EndsI _ _ _ _ _ _
  refine so [] [] [(4, cI y21)] [] id ?_
  cases H
  exact er
def l_markRules_ir : S :=
 (sq [o 2 (.box 7 (.t 0)), o 4 (.mv (iv 0))]
 (sq [oa 5 0 2, ol 6 5, om 7 1, o 8 (.call 46 [.t 6, .t 7]), om 1 8]
 (sq [oa 9 1 2, ol 10 9, om 11 1, o 12 (.call 47 [.t 10, .t 11]), om 1 12]
 (sq [om 13 1, om 4 13]
 .ret))))
noncomputable def X.l_markRules_L (p0 : TRules) (p1 : Int) : Option Int :=
 ((X.l_markTerrainS_L p0.Terrains p1).bind fun v1 => ((X.l_markKindS_L p0.Kinds v1).bind fun v3 => some v3))
theorem l_markRules_L_ok (p0 : TRules) (p1 : Int) (r : Int) (H : X.l_markRules_L p0 p1 = some r) : FK 25 [.agg (lTRules p0), cI p1] (cI r) := by
 unfold X.l_markRules_L at H
 refine fi Tryd.f25 l_markRules_ir [(4, cI r)] [] glL Tryd.func25 ?_
 refine sn [] [] [(2, pk 2)] [] [(2, va (lTRules p0))] id ?_
 obtain ⟨v1, h2, H⟩ := oB H
 refine so [.res (cI v1)] [] [(1, cI v1), (2, pk 2)] [(2, va (lTRules p0))] (aI (l_markTerrainS_L_ok p0.Terrains p1 v1 h2)) ?_
 obtain ⟨v3, h4, H⟩ := oB H
 refine so [.res (cI v3)] [] [(1, cI v3)] [] (aI (l_markKindS_L_ok p0.Kinds v1 v3 h4)) ?_
 refine so [] [] [(4, cI v3)] [] id ?_
 cases H
 exact er
def l_markMap_ir : S :=
 (sq [o 2 (.box 5 (.t 0)), o 4 (.mv (iv 0))]
 (sq [oa 5 2 2, ol 6 5, om 7 1, o 8 (.call 27 [.t 6, .t 7]), om 1 8]
 (sq [oa 9 3 2, ol 10 9, om 11 1, o 12 (.call 27 [.t 10, .t 11]), om 1 12]
 (sq [oa 13 4 2, ol 14 13, om 15 1, o 16 (.call 27 [.t 14, .t 15]), om 1 16]
 (sq [om 17 1, om 4 17]
 .ret)))))
noncomputable def X.l_markMap_L (p0 : TMap) (p1 : Int) : Option Int :=
 ((X.l_markIntS_L p0.Terrain p1).bind fun v1 => ((X.l_markIntS_L p0.Rivers v1).bind fun v3 => ((X.l_markIntS_L p0.Roads v3).bind fun v5 => some v5)))
theorem l_markMap_L_ok (p0 : TMap) (p1 : Int) (r : Int) (H : X.l_markMap_L p0 p1 = some r) : FK 26 [.agg (lTMap p0), cI p1] (cI r) := by
 unfold X.l_markMap_L at H
 refine fi Tryd.f26 l_markMap_ir [(4, cI r)] [] glL Tryd.func26 ?_
 refine sn [] [] [(2, pk 2)] [] [(2, va (lTMap p0))] id ?_
 obtain ⟨v1, h2, H⟩ := oB H
 refine so [.res (cI v1)] [] [(1, cI v1), (2, pk 2)] [(2, va (lTMap p0))] (aI (l_markIntS_L_ok p0.Terrain p1 v1 h2)) ?_
 obtain ⟨v3, h4, H⟩ := oB H
 refine so [.res (cI v3)] [] [(1, cI v3), (2, pk 2)] [(2, va (lTMap p0))] (aI (l_markIntS_L_ok p0.Rivers v1 v3 h4)) ?_
 obtain ⟨v5, h6, H⟩ := oB H
 refine so [.res (cI v5)] [] [(1, cI v5)] [] (aI (l_markIntS_L_ok p0.Roads v3 v5 h6)) ?_
 refine so [] [] [(4, cI v5)] [] id ?_
 cases H
 exact er
def l_markBoard_ir : S :=
 (sq [o 2 (.box 12 (.t 0)), o 4 (.mv (iv 0))]
 (sq [oa 5 0 2, o 6 (.load 7 true (.t 5)), om 7 1, o 8 (.call 25 [.t 6, .t 7]), om 1 8]
 (sq [oa 9 7 2, o 10 (.load 5 true (.t 9)), om 11 1, o 12 (.call 26 [.t 10, .t 11]), om 1 12]
 (sq [om 13 1, om 4 13]
 .ret))))
noncomputable def X.l_markBoard_L (p0 : TBoard) (p1 : Int) : Option Int :=
 ((X.l_markRules_L p0.Rules p1).bind fun v1 => ((X.l_markMap_L p0.Map v1).bind fun v3 => some v3))
theorem l_markBoard_L_ok (p0 : TBoard) (p1 : Int) (r : Int) (H : X.l_markBoard_L p0 p1 = some r) : FK 10 [.agg (lTBoard p0), cI p1] (cI r) := by
 unfold X.l_markBoard_L at H
 refine fi Tryd.f10 l_markBoard_ir [(4, cI r)] [] glL Tryd.func10 ?_
 refine sn [] [] [(2, pk 2)] [] [(2, va (lTBoard p0))] id ?_
 obtain ⟨v1, h2, H⟩ := oB H
 refine so [.res (cI v1)] [] [(1, cI v1), (2, pk 2)] [(2, va (lTBoard p0))] (aI (l_markRules_L_ok p0.Rules p1 v1 h2)) ?_
 obtain ⟨v3, h4, H⟩ := oB H
 refine so [.res (cI v3)] [] [(1, cI v3)] [] (aI (l_markMap_L_ok p0.Map v1 v3 h4)) ?_
 refine so [] [] [(4, cI v3)] [] id ?_
 cases H
 exact er
noncomputable def X.l_markIntS_Mod (p0 : (List Int)) (p1 : Int) : Option (Int × (List Int)) :=
 ((loop (fun (x8 : (Int × Int × (List Int))) => ((bif (decide (x8.2.1 < (x8.2.2.length : Int))) then (if 0 ≤ x8.2.1 ∧ x8.2.1 < (x8.2.2.length : Int) then some (Sum.inl ((W (x8.1 + 1)), (W (x8.2.1 + 1)), (x8.2.2.set x8.2.1.toNat x8.1))) else none) else some (Sum.inr (x8.1, x8.2.2))) : Option ((Int × Int × (List Int)) ⊕ (Int × (List Int))))) (p1, 0, p0)).bind fun y12 => some (y12.1, y12.2))
theorem l_markIntS_Mod_ok (p0 : (List Int)) (p1 : Int) (r : (Int × (List Int))) (H : X.l_markIntS_Mod p0 p1 = some r) : FnMu Tryd.prog gl 27 [.c (.own 1000000 1 0 p0.length), cI p1] [(1000000, .arr 1 p0.length (fF eI zI p0) false)] (cI r.1) [(1000000, .arr 1 r.2.length (fF eI zI r.2) false)] := by
 unfold X.l_markIntS_Mod at H
 refine fn_mu (fn := Tryd.f27) (ir := l_markIntS_ir) (E' := [(4, cI r.1)]) (E1 := [(1000000, ar 1 eI zI r.2)]) glL Tryd.func27 (by kernel_rfl) (by kernel_rfl) (by kernel_rfl) (by kernel_rfl) (by kernel_rfl) ?_
 refine sn [] [] [] [] [] id ?_
 refine seq_in ?_
 refine sn [] [] [(5, cI 0)] [] [] id ?_
 refine ends_blk ?_
 obtain ⟨y12, h13, H⟩ := oB H
 refine tl [] [(0, ow 1000000 1 p0), (1, cI p1), (5, cI 0)] [(1000000, ar 1 eI zI p0)] id ?_
 refine loop_in (fun (x : (Int × Int × (List Int))) => lit [(0, ow 1000000 1 x.2.2), (1, cI x.1), (5, cI x.2.1)] [(1000000, ar 1 eI zI x.2.2)]) (fun (z : (Int × (List Int))) => At (.exit 0) (lit [(1, cI z.1)] [(1000000, ar 1 eI zI z.2)])) h13 ?_ ?_
 ·clear H h13
  intro x8 y0 H
  refine seq_in ?_
  refine sn [] [] [(9, cB (decide (x8.2.1 < (x8.2.2.length : Int))))] [] [] (fun t => lI x8.2.2 (t)) ?_
  rcases oC H with ⟨c10, H⟩ | ⟨c10, H⟩
  ·refine it c10 ?_
   refine sk ?_
   refine seq_in ?_
   refine ends_blk ?_
   obtain ⟨g11, H⟩ := oI H
   refine sn [.no, .fn 0 (fF eI zI (x8.2.2.set x8.2.1.toNat x8.1))] [] [] [1000000] [(1000000, .arr 1 x8.2.2.length (fF eI zI (x8.2.2.set x8.2.1.toNat x8.1)) false)] (fun t => aI g11 (aI rT (aI (nat_lt g11) (aI (by decide : 0 + 1 ≤ 1) (aI (fF_set eI zI x8.2.2 x8.2.1.toNat x8.1 (nat_lt g11) x8.2.2.length) (t)))))) ?_
   refine oo [] [] [(0, ow 1000000 1 x8.2.2), (1, cI (W (x8.1 + 1))), (5, cI x8.2.1)] [(1000000, .arr 1 x8.2.2.length (fF eI zI (x8.2.2.set x8.2.1.toNat x8.1)) false)] id ?_
   change EndsI _ _ _ _ _ _
   refine oo [] [.rel 0 ((x8.2.2.set x8.2.1.toNat x8.1).length), .rep 1000000 ((x8.2.2.set x8.2.1.toNat x8.1).length) (fF eI zI (x8.2.2.set x8.2.1.toNat x8.1))] [(0, ow 1000000 1 (x8.2.2.set x8.2.1.toNat x8.1)), (1, cI (W (x8.1 + 1))), (5, cI (W (x8.2.1 + 1)))] [(1000000, ar 1 eI zI (x8.2.2.set x8.2.1.toNat x8.1))] (fun t => aI (by simp : x8.2.2.length = (x8.2.2.set x8.2.1.toNat x8.1).length) (aI (Nat.le_of_eq (by simp : (x8.2.2.set x8.2.1.toNat x8.1).length = x8.2.2.length)) (aI (fun _ _ => rfl : ∀ i, i < (x8.2.2.set x8.2.1.toNat x8.1).length → (fF eI zI (x8.2.2.set x8.2.1.toNat x8.1)) i = (fF eI zI (x8.2.2.set x8.2.1.toNat x8.1)) i) (t)))) ?_
   cases H
   exact rr
  ·refine jf c10 ?_
   refine tl [] [(1, cI x8.1)] [(1000000, ar 1 eI zI x8.2.2)] id ?_
   refine ends_exit ?_
   cases H
   exact rse
 ·clear h13
  rintro e s ⟨rfl, rfl⟩
  change EndsI _ _ _ _ _ _
  refine sn [] [] [(4, cI y12.1)] [] [] id ?_
  refine tl [] [(4, cI y12.1)] [(1000000, ar 1 eI zI y12.2)] id ?_
  cases H
  exact er
def l_markMemory_ir : S :=
 (sq [o 2 (.box 2 (.t 0)), o 4 (.mv (iv 0))]
 (sq [oa 5 0 2, ol 6 5, om 7 1, o 8 (.call 27 [.t 6, .t 7]), om 1 8]
 (sq [oa 9 1 2, ol 10 9, om 11 1, o 12 (.call 27 [.t 10, .t 11]), om 1 12]
 (sq [om 13 1, om 4 13]
 .ret))))
noncomputable def X.l_markMemory_Mod (p0 : TMemory) (p1 : Int) : Option (Int × TMemory) :=
 ((X.l_markIntS_Mod p0.Turns p1).bind fun v1 => (if v1.2.length = p0.Turns.length then ((X.l_markIntS_Mod p0.Counts v1.1).bind fun v4 => (if v4.2.length = p0.Counts.length then some (v4.1, (TMemory.mk v1.2 v4.2)) else none)) else none))
theorem l_markMemory_Mod_ok (p0 : TMemory) (p1 : Int) (r : (Int × TMemory)) (H : X.l_markMemory_Mod p0 p1 = some r) : FnMu Tryd.prog gl 11 [.agg [.own 1000000 1 0 p0.Turns.length, .own 1000001 1 0 p0.Counts.length], cI p1] [(1000000, .arr 1 p0.Turns.length (fF eI zI p0.Turns) false), (1000001, .arr 1 p0.Counts.length (fF eI zI p0.Counts) false)] (cI r.1) [(1000000, .arr 1 r.2.Turns.length (fF eI zI r.2.Turns) false), (1000001, .arr 1 r.2.Counts.length (fF eI zI r.2.Counts) false)] := by
 unfold X.l_markMemory_Mod at H
 refine fn_mu (fn := Tryd.f11) (ir := l_markMemory_ir) (E' := [(4, cI r.1)]) (E1 := [(1000000, ar 1 eI zI r.2.Turns), (1000001, ar 1 eI zI r.2.Counts)]) glL Tryd.func11 (by kernel_rfl) (by kernel_rfl) (by kernel_rfl) (by kernel_rfl) (by kernel_rfl) ?_
 refine sn [] [] [(2, pk 2)] [] [(2, .var [.own 1000000 1 0 p0.Turns.length, .own 1000001 1 0 p0.Counts.length] false)] id ?_
 obtain ⟨v1, h2, H⟩ := oB H
 obtain ⟨g3, H⟩ := oI H
 refine so [.mu [(1000000, 1000000)] [(1000000, 1000000)] (cI v1.1) [(1000000, ar 1 eI zI v1.2)]] [.rel 6 v1.2.length, .relc 2 0 v1.2.length] [(1, cI v1.1), (2, pk 2)] [(2, .var [.own 1000000 1 0 v1.2.length, .own 1000001 1 0 p0.Counts.length] false), (1000000, ar 1 eI zI v1.2), (1000001, ar 1 eI zI p0.Counts)] (fun t => aI (l_markIntS_Mod_ok p0.Turns p1 v1 h2) (aG 2 (Eq.symm g3) (t))) ?_
 obtain ⟨v4, h5, H⟩ := oB H
 obtain ⟨g6, H⟩ := oI H
 refine so [.mu [(1000001, 1000000)] [(1000000, 1000001)] (cI v4.1) [(1000000, ar 1 eI zI v4.2)]] [.rel 10 v4.2.length, .relc 2 1 v4.2.length] [(1, cI v4.1)] [(1000000, ar 1 eI zI v1.2), (1000001, ar 1 eI zI v4.2)] (fun t => aI (l_markIntS_Mod_ok p0.Counts v1.1 v4 h5) (aG 2 (Eq.symm g6) (t))) ?_
 refine sn [] [] [(4, cI v4.1)] [] [] id ?_
 refine tl [] [(4, cI v4.1)] [(1000000, ar 1 eI zI v1.2), (1000001, ar 1 eI zI v4.2)] id ?_
 cases H
 exact er
def l_heldIntS_ir : S :=
 (sq [o 4 (.mv (iv 0))]
 (.seq (sq [o 5 (.mv (iv 0))]
 (.blk 0 (.loop (.seq (sq [om 6 5, om 7 0, o 8 (.len (.t 7)), o 9 (.bin .lss (.t 6) (.t 8))]
   (.ite (.t 9) .skip
   (.exit 0)))
   (.seq (.blk 1 (.seq (sq [om 12 0, om 13 5, o 14 (.iad 1 (.t 12) (.t 13)), ol 15 14, om 16 1, o 17 (.bin .neq (.t 15) (.t 16))]
    (.ite (.t 17) (sq [o 4 (.mv (.v (.int .i64 (-1))))]
     .ret)
    .skip))
    (.ops [om 18 1, o 19 (.bin .add (.t 18) (iv 1)), om 1 19])))
   (.ops [om 10 5, o 11 (.bin .add (.t 10) (iv 1)), om 5 11]))))))
 (sq [om 20 1, om 4 20]
 .ret)))
noncomputable def X.l_heldIntS (p0 : (List Int)) (p1 : Int) : Option Int :=
 ((loop (fun (x12 : (Int × Int)) => ((bif (decide (x12.2 < (p0.length : Int))) then ((at' zI p0 x12.2).bind fun v15 => (bif (v15 != x12.1) then some (Sum.inr (Sum.inr (-1))) else some (Sum.inl ((W (x12.1 + 1)), (W (x12.2 + 1)))))) else some (Sum.inr (Sum.inl x12.1))) : Option ((Int × Int) ⊕ (Int ⊕ Int)))) (p1, 0)).bind fun y18 => (Sum.elim (fun (y20 : Int) => some y20) (fun (y21 : Int) => some y21) y18))
theorem l_heldIntS_ok (p0 : (List Int)) (p1 : Int) (r : Int) (H : X.l_heldIntS p0 p1 = some r) : FK 28 [.c (dat 1 eI zI p0), cI p1] (cI r) := by
 unfold X.l_heldIntS at H
 refine fi Tryd.f28 l_heldIntS_ir [(4, cI r)] [] glL Tryd.func28 ?_
 refine sn [] [] [] [] [] id ?_
 refine seq_in ?_
 refine sn [] [] [(5, cI 0)] [] [] id ?_
 refine ends_blk ?_
 obtain ⟨y18, h19, H⟩ := oB H
 refine tl [] [(0, dc 1 eI zI p0), (1, cI p1), (5, cI 0)] [] id ?_
 refine loop_in (fun (x : (Int × Int)) => lit [(0, dc 1 eI zI p0), (1, cI x.1), (5, cI x.2)] []) (orJ (fun (z : Int) => At (.exit 0) (lit [(1, cI z)] [])) (fun (z : Int) => At .ret (lit [(4, cI z)] []))) h19 ?_ ?_
 ·clear H h19
  intro x12 y0 H
  refine seq_in ?_
  refine sn [] [] [(9, cB (decide (x12.2 < (p0.length : Int))))] [] [] (fun t => lI p0 (t)) ?_
  rcases oC H with ⟨c14, H⟩ | ⟨c14, H⟩
  ·refine it c14 ?_
   refine sk ?_
   refine seq_in ?_
   refine ends_blk ?_
   refine seq_in ?_
   obtain ⟨v15, h16, H⟩ := oB H
   refine sn [.cs (eI v15)] [] [(17, cB (v15 != x12.1))] [] [] (a2 eI h16) ?_
   rcases oC H with ⟨c17, H⟩ | ⟨c17, H⟩
   ·refine it c17 ?_
    refine so [] [] [(4, cI (-1))] [] id ?_
    refine ends_ret ?_
    cases H
    exact rsr
   ·refine jf c17 ?_
    refine sk ?_
    refine oo [] [] [(0, dc 1 eI zI p0), (1, cI (W (x12.1 + 1))), (5, cI x12.2)] [] id ?_
    change EndsI _ _ _ _ _ _
    refine oo [] [] [(0, dc 1 eI zI p0), (1, cI (W (x12.1 + 1))), (5, cI (W (x12.2 + 1)))] [] id ?_
    cases H
    exact rr
  ·refine jf c14 ?_
   refine tl [] [(1, cI x12.1)] [] id ?_
   refine ends_exit ?_
   cases H
   exact rse
 ·clear h19
  cases y18 with
  | inl y20 =>
   replace H := ofInl H
   rintro e s ⟨rfl, rfl⟩
   change EndsI _ _ _ _ _ _
   refine so [] [] [(4, cI y20)] [] id ?_
   cases H
   exact er
  | inr y21 =>
   replace H := ofInr H
   rintro e s ⟨rfl, rfl⟩
   cases H
   exact qr
def l_heldMemory_ir : S :=
 (sq [o 2 (.box 2 (.t 0)), o 4 (.mv (iv 0))]
 (sq [oa 5 0 2, ol 6 5, om 7 1, o 8 (.call 28 [.t 6, .t 7]), om 1 8]
 (.seq (sq [om 9 1, o 10 (.bin .lss (.t 9) (iv 0))]
 (.ite (.t 10) (sq [o 4 (.mv (.v (.int .i64 (-1))))]
  .ret)
 .skip))
 (sq [oa 11 1 2, ol 12 11, om 13 1, o 14 (.call 28 [.t 12, .t 13]), om 1 14]
 (.seq (sq [om 15 1, o 16 (.bin .lss (.t 15) (iv 0))]
 (.ite (.t 16) (sq [o 4 (.mv (.v (.int .i64 (-1))))]
  .ret)
 .skip))
 (sq [om 17 1, om 4 17]
 .ret))))))
noncomputable def X.l_heldMemory (p0 : TMemory) (p1 : Int) : Option Int :=
 ((X.l_heldIntS p0.Turns p1).bind fun v1 => (bif (decide (v1 < 0)) then some (-1) else ((X.l_heldIntS p0.Counts v1).bind fun v5 => (bif (decide (v5 < 0)) then some (-1) else some v5))))
theorem l_heldMemory_ok (p0 : TMemory) (p1 : Int) (r : Int) (H : X.l_heldMemory p0 p1 = some r) : FK 12 [.agg (eTMemory p0), cI p1] (cI r) := by
 unfold X.l_heldMemory at H
 refine fi Tryd.f12 l_heldMemory_ir [(4, cI r)] [] glL Tryd.func12 ?_
 refine sn [] [] [(2, pk 2)] [] [(2, va (eTMemory p0))] id ?_
 obtain ⟨v1, h2, H⟩ := oB H
 refine so [.res (cI v1)] [] [(1, cI v1), (2, pk 2)] [(2, va (eTMemory p0))] (aI (l_heldIntS_ok p0.Turns p1 v1 h2)) ?_
 refine seq_in ?_
 refine sn [] [] [(10, cB (decide (v1 < 0)))] [] [] id ?_
 rcases oC H with ⟨c4, H⟩ | ⟨c4, H⟩
 ·refine it c4 ?_
  refine so [] [] [(4, cI (-1))] [] id ?_
  cases H
  exact er
 ·refine jf c4 ?_
  refine sk ?_
  obtain ⟨v5, h6, H⟩ := oB H
  refine so [.res (cI v5)] [] [(1, cI v5)] [] (aI (l_heldIntS_ok p0.Counts v1 v5 h6)) ?_
  refine seq_in ?_
  refine sn [] [] [(16, cB (decide (v5 < 0)))] [] [] id ?_
  rcases oC H with ⟨c7, H⟩ | ⟨c7, H⟩
  ·refine it c7 ?_
   refine so [] [] [(4, cI (-1))] [] id ?_
   cases H
   exact er
  ·refine jf c7 ?_
   refine sk ?_
   refine so [] [] [(4, cI v5)] [] id ?_
   cases H
   exact er
end Go.Proofs.YtjlabdoeiphegaaDoor.X0
