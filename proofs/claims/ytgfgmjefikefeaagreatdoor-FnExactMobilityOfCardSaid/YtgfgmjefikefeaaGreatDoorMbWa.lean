/- What each function that FnExactMobilityOf reaches computes; no condition. -/
import Derived.Test.YtgfgmjefikefeaaGreatDoorProg
import Derived.Test.YtgfgmjefikefeaaGreatDoorAmCore3
set_option linter.unusedVariables false
set_option linter.unusedSimpArgs false
set_option maxRecDepth 100000
namespace Go.Proofs.YtgfgmjefikefeaaGreatDoor.X0
open Go Go.RowKit Go.Proofs.YtgfgmjefikefeaaGreatDoor.Ab Go.Proofs

def zI : Int := 0
def zB : Bool := false
def zS : List UInt8 := []
def eI (x : Int) : List AC := [.int .i64 x]
def eU (x : Int) : List AC := [.int .u8 x]
def eB (x : Bool) : List AC := [.bool x]
def eS (x : List UInt8) : List AC := [.str x]
def zLI : List Int := []
def eLI (xs : List Int) : List AC := [dat 1 eI zI xs]
theorem nLI : LeR [.nil] (eLI zLI) := And.intro (LeC.nil 1 _) trivial
structure TTerrain where
 Name : (List UInt8)
 Cost : (List Int)
 Shift : Int
 Height : Int
 Blocks : Bool
def zTTerrain : TTerrain := ⟨zS, zLI, zI, zI, zB⟩
def eTTerrain (x : TTerrain) : List AC := [.str x.Name, dat 1 eI zI x.Cost, .int .i64 x.Shift, .int .i64 x.Height, .bool x.Blocks]
theorem nTTerrain : LeR [.str [], .nil, .int .i64 0, .int .i64 0, .bool false] (eTTerrain zTTerrain) := And.intro (LeC.refl _) (And.intro (LeC.nil 1 _) (And.intro (LeC.refl _) (And.intro (LeC.refl _) (And.intro (LeC.refl _) (trivial)))))
def zLTTerrain : List TTerrain := []
def eLTTerrain (xs : List TTerrain) : List AC := [dat 5 eTTerrain zTTerrain xs]
theorem nLTTerrain : LeR [.nil] (eLTTerrain zLTTerrain) := And.intro (LeC.nil 5 _) trivial
structure TKind where
 Name : (List UInt8)
 Strength : Int
 Moves : Int
 Steps : Int
 Zone : Bool
 View : Int
def zTKind : TKind := ⟨zS, zI, zI, zI, zB, zI⟩
def eTKind (x : TKind) : List AC := [.str x.Name, .int .i64 x.Strength, .int .i64 x.Moves, .int .i64 x.Steps, .bool x.Zone, .int .i64 x.View]
def zLTKind : List TKind := []
def eLTKind (xs : List TKind) : List AC := [dat 6 eTKind zTKind xs]
theorem nLTKind : LeR [.nil] (eLTKind zLTKind) := And.intro (LeC.nil 6 _) trivial
structure TRules where
 Terrains : (List TTerrain)
 Kinds : (List TKind)
 Stack : Int
 River : Int
 Road : Int
 Supply : Int
 Turns : Int
def zTRules : TRules := ⟨zLTTerrain, zLTKind, zI, zI, zI, zI, zI⟩
def eTRules (x : TRules) : List AC := [dat 5 eTTerrain zTTerrain x.Terrains, dat 6 eTKind zTKind x.Kinds, .int .i64 x.Stack, .int .i64 x.River, .int .i64 x.Road, .int .i64 x.Supply, .int .i64 x.Turns]
theorem nTRules : LeR [.nil, .nil, .int .i64 0, .int .i64 0, .int .i64 0, .int .i64 0, .int .i64 0] (eTRules zTRules) := And.intro (LeC.nil 5 _) (And.intro (LeC.nil 6 _) (And.intro (LeC.refl _) (And.intro (LeC.refl _) (And.intro (LeC.refl _) (And.intro (LeC.refl _) (And.intro (LeC.refl _) (trivial)))))))
structure TMap where
 Width : Int
 Height : Int
 Terrain : (List Int)
 Rivers : (List Int)
 Roads : (List Int)
def zTMap : TMap := ⟨zI, zI, zLI, zLI, zLI⟩
def eTMap (x : TMap) : List AC := [.int .i64 x.Width, .int .i64 x.Height, dat 1 eI zI x.Terrain, dat 1 eI zI x.Rivers, dat 1 eI zI x.Roads]
theorem nTMap : LeR [.int .i64 0, .int .i64 0, .nil, .nil, .nil] (eTMap zTMap) := And.intro (LeC.refl _) (And.intro (LeC.refl _) (And.intro (LeC.nil 1 _) (And.intro (LeC.nil 1 _) (And.intro (LeC.nil 1 _) (trivial)))))
structure TBoard where
 Rules : TRules
 Map : TMap
def zTBoard : TBoard := ⟨zTRules, zTMap⟩
def eTBoard (x : TBoard) : List AC := [dat 5 eTTerrain zTTerrain x.Rules.Terrains, dat 6 eTKind zTKind x.Rules.Kinds, .int .i64 x.Rules.Stack, .int .i64 x.Rules.River, .int .i64 x.Rules.Road, .int .i64 x.Rules.Supply, .int .i64 x.Rules.Turns, .int .i64 x.Map.Width, .int .i64 x.Map.Height, dat 1 eI zI x.Map.Terrain, dat 1 eI zI x.Map.Rivers, dat 1 eI zI x.Map.Roads]
theorem nTBoard : LeR [.nil, .nil, .int .i64 0, .int .i64 0, .int .i64 0, .int .i64 0, .int .i64 0, .int .i64 0, .int .i64 0, .nil, .nil, .nil] (eTBoard zTBoard) := And.intro (LeC.nil 5 _) (And.intro (LeC.nil 6 _) (And.intro (LeC.refl _) (And.intro (LeC.refl _) (And.intro (LeC.refl _) (And.intro (LeC.refl _) (And.intro (LeC.refl _) (And.intro (LeC.refl _) (And.intro (LeC.refl _) (And.intro (LeC.nil 1 _) (And.intro (LeC.nil 1 _) (And.intro (LeC.nil 1 _) (trivial))))))))))))
structure TUnit where
 Side : Int
 Kind : Int
 At : Int
 Steps : Int
def zTUnit : TUnit := ⟨zI, zI, zI, zI⟩
def eTUnit (x : TUnit) : List AC := [.int .i64 x.Side, .int .i64 x.Kind, .int .i64 x.At, .int .i64 x.Steps]
def zLTUnit : List TUnit := []
def eLTUnit (xs : List TUnit) : List AC := [dat 4 eTUnit zTUnit xs]
theorem nLTUnit : LeR [.nil] (eLTUnit zLTUnit) := And.intro (LeC.nil 4 _) trivial
structure TState where
 Turn : Int
 Weather : Int
 Units : (List TUnit)
def zTState : TState := ⟨zI, zI, zLTUnit⟩
def eTState (x : TState) : List AC := [.int .i64 x.Turn, .int .i64 x.Weather, dat 4 eTUnit zTUnit x.Units]
theorem nTState : LeR [.int .i64 0, .int .i64 0, .nil] (eTState zTState) := And.intro (LeC.refl _) (And.intro (LeC.refl _) (And.intro (LeC.nil 4 _) (trivial)))
structure THex where
 Q : Int
 R : Int
def zTHex : THex := ⟨zI, zI⟩
def eTHex (x : THex) : List AC := [.int .i64 x.Q, .int .i64 x.R]
structure A2_I where
 a0 : Int
 a1 : Int
def zA2_I : A2_I := ⟨zI, zI⟩
def eA2_I (x : A2_I) : List AC := [.int .i64 x.a0, .int .i64 x.a1]
def dirs : List THex := [⟨1, 0⟩, ⟨1, -1⟩, ⟨0, -1⟩, ⟨-1, 0⟩, ⟨-1, 1⟩, ⟨0, 1⟩]
def gl : Nat → Option (List AC) := fun g => match g with | 0 => some (dirs.flatMap eTHex) | _ => none
theorem dirs_at {i : Int} {v : THex} (h : at' zTHex dirs i = some v) : ((dirs.flatMap eTHex).drop (0 + i.toNat * 2)).take 2 = eTHex v := arr_at (fun _ => rfl) h
theorem glL : gl LAW = none := rfl
theorem glTs : ∀ g cs, gl g = some cs → glT gl g = some cs := glT_sub glL
theorem glTn : glT gl LAW ≠ none := by simp [glT]
abbrev FK := FnOk Tryz.prog gl
def l_szIntS_ir : S :=
 (sq [o 4 (.mv (iv 0))]
 (sq [om 5 1, om 6 0, o 7 (.len (.t 6)), o 8 (.bin .sub (.t 5) (.t 7)), om 1 8]
 (.seq (sq [om 9 1, o 10 (.bin .lss (.t 9) (iv 0))]
 (.ite (.t 10) (sq [o 4 (.mv (.v (.int .i64 (-1))))]
  .ret)
 .skip))
 (sq [om 11 1, om 4 11]
 .ret))))
noncomputable def X.l_szIntS (p0 : (List Int)) (p1 : Int) : Option Int :=
 (bif (decide ((W (p1 - (p0.length : Int))) < 0)) then some (-1) else some (W (p1 - (p0.length : Int))))
theorem l_szIntS_ok (p0 : (List Int)) (p1 : Int) (r : Int) (H : X.l_szIntS p0 p1 = some r) : FK 57 [.c (dat 1 eI zI p0), cI p1] (cI r) := by
 unfold X.l_szIntS at H
 refine fi Tryz.f57 l_szIntS_ir [(4, cI r)] [] glL Tryz.func57 ?_
 refine sn [] [] [] [] [] id ?_
 refine so [] [] [(1, cI (W (p1 - (p0.length : Int))))] [] (fun t => lI p0 (t)) ?_
 refine seq_in ?_
 refine sn [] [] [(10, cB (decide ((W (p1 - (p0.length : Int))) < 0)))] [] [] id ?_
 rcases oC H with ⟨c1, H⟩ | ⟨c1, H⟩
 ·refine it c1 ?_
  refine so [] [] [(4, cI (-1))] [] id ?_
  cases H
  exact er
 ·refine jf c1 ?_
  refine sk ?_
  refine so [] [] [(4, cI (W (p1 - (p0.length : Int))))] [] id ?_
  cases H
  exact er
def l_szTerrain_ir : S :=
 (sq [o 2 (.box 5 (.t 0)), o 4 (.mv (iv 0))]
 (sq [om 5 1, oa 6 0 2, ol 7 6, o 8 (.lens (.t 7)), o 9 (.bin .sub (.t 5) (.t 8)), om 1 9]
 (.seq (sq [om 10 1, o 11 (.bin .lss (.t 10) (iv 0))]
 (.ite (.t 11) (sq [o 4 (.mv (.v (.int .i64 (-1))))]
  .ret)
 .skip))
 (sq [oa 12 1 2, ol 13 12, om 14 1, o 15 (.call 57 [.t 13, .t 14]), om 1 15]
 (.seq (sq [om 16 1, o 17 (.bin .lss (.t 16) (iv 0))]
 (.ite (.t 17) (sq [o 4 (.mv (.v (.int .i64 (-1))))]
  .ret)
 .skip))
 (sq [om 18 1, om 4 18]
 .ret))))))
noncomputable def X.l_szTerrain (p0 : TTerrain) (p1 : Int) : Option Int :=
 (bif (decide ((W (p1 - (p0.Name.length : Int))) < 0)) then some (-1) else ((X.l_szIntS p0.Cost (W (p1 - (p0.Name.length : Int)))).bind fun v3 => (bif (decide (v3 < 0)) then some (-1) else some v3)))
theorem l_szTerrain_ok (p0 : TTerrain) (p1 : Int) (r : Int) (H : X.l_szTerrain p0 p1 = some r) : FK 96 [.agg (eTTerrain p0), cI p1] (cI r) := by
 unfold X.l_szTerrain at H
 refine fi Tryz.f96 l_szTerrain_ir [(4, cI r)] [] glL Tryz.func96 ?_
 refine sn [] [] [(2, pk 2)] [] [(2, va (eTTerrain p0))] id ?_
 refine so [] [] [(1, cI (W (p1 - (p0.Name.length : Int)))), (2, pk 2)] [(2, va (eTTerrain p0))] id ?_
 refine seq_in ?_
 refine sn [] [] [(11, cB (decide ((W (p1 - (p0.Name.length : Int))) < 0)))] [] [] id ?_
 rcases oC H with ⟨c2, H⟩ | ⟨c2, H⟩
 ·refine it c2 ?_
  refine so [] [] [(4, cI (-1))] [] id ?_
  cases H
  exact er
 ·refine jf c2 ?_
  refine sk ?_
  obtain ⟨v3, h4, H⟩ := oB H
  refine so [.res (cI v3)] [] [(1, cI v3)] [] (aI (l_szIntS_ok p0.Cost (W (p1 - (p0.Name.length : Int))) v3 h4)) ?_
  refine seq_in ?_
  refine sn [] [] [(17, cB (decide (v3 < 0)))] [] [] id ?_
  rcases oC H with ⟨c5, H⟩ | ⟨c5, H⟩
  ·refine it c5 ?_
   refine so [] [] [(4, cI (-1))] [] id ?_
   cases H
   exact er
  ·refine jf c5 ?_
   refine sk ?_
   refine so [] [] [(4, cI v3)] [] id ?_
   cases H
   exact er
def l_szTerrainS_ir : S :=
 (sq [o 4 (.mv (iv 0))]
 (sq [om 6 1, om 7 0, o 8 (.len (.t 7)), o 9 (.bin .sub (.t 6) (.t 8)), om 1 9]
 (.seq (sq [om 10 1, o 11 (.bin .lss (.t 10) (iv 0))]
 (.ite (.t 11) (sq [o 4 (.mv (.v (.int .i64 (-1))))]
  .ret)
 .skip))
 (.seq (sq [o 5 (.mv (iv 0))]
 (.blk 0 (.loop (.seq (sq [om 12 5, om 13 0, o 14 (.len (.t 13)), o 15 (.bin .lss (.t 12) (.t 14))]
   (.ite (.t 15) .skip
   (.exit 0)))
   (.seq (.blk 1 (sq [om 18 0, om 19 5, o 20 (.iad 5 (.t 18) (.t 19)), o 21 (.load 5 true (.t 20)), om 22 1, o 23 (.call 96 [.t 21, .t 22]), om 1 23]
    (sq [om 24 1, o 25 (.bin .lss (.t 24) (iv 0))]
    (.ite (.t 25) (sq [o 4 (.mv (.v (.int .i64 (-1))))]
     .ret)
    .skip))))
   (.ops [om 16 5, o 17 (.bin .add (.t 16) (iv 1)), om 5 17]))))))
 (sq [om 26 1, om 4 26]
 .ret)))))
noncomputable def X.l_szTerrainS (p0 : (List TTerrain)) (p1 : Int) : Option Int :=
 (bif (decide ((W (p1 - (p0.length : Int))) < 0)) then some (-1) else ((loop (fun (x18 : (Int × Int)) => ((bif (decide (x18.2 < (p0.length : Int))) then ((at' zTTerrain p0 x18.2).bind fun v21 => ((X.l_szTerrain v21 x18.1).bind fun v23 => (bif (decide (v23 < 0)) then some (Sum.inr (Sum.inr (-1))) else some (Sum.inl (v23, (W (x18.2 + 1))))))) else some (Sum.inr (Sum.inl x18.1))) : Option ((Int × Int) ⊕ (Int ⊕ Int)))) ((W (p1 - (p0.length : Int))), 0)).bind fun y26 => (Sum.elim (fun (y28 : Int) => some y28) (fun (y29 : Int) => some y29) y26)))
theorem l_szTerrainS_ok (p0 : (List TTerrain)) (p1 : Int) (r : Int) (H : X.l_szTerrainS p0 p1 = some r) : FK 55 [.c (dat 5 eTTerrain zTTerrain p0), cI p1] (cI r) := by
 unfold X.l_szTerrainS at H
 refine fi Tryz.f55 l_szTerrainS_ir [(4, cI r)] [] glL Tryz.func55 ?_
 refine sn [] [] [] [] [] id ?_
 refine so [] [] [(0, dc 5 eTTerrain zTTerrain p0), (1, cI (W (p1 - (p0.length : Int))))] [] (fun t => lI p0 (t)) ?_
 refine seq_in ?_
 refine sn [] [] [(11, cB (decide ((W (p1 - (p0.length : Int))) < 0)))] [] [] id ?_
 rcases oC H with ⟨c2, H⟩ | ⟨c2, H⟩
 ·refine it c2 ?_
  refine so [] [] [(4, cI (-1))] [] id ?_
  cases H
  exact er
 ·refine jf c2 ?_
  refine sk ?_
  refine seq_in ?_
  refine sn [] [] [(5, cI 0)] [] [] id ?_
  refine ends_blk ?_
  obtain ⟨y26, h27, H⟩ := oB H
  refine tl [] [(0, dc 5 eTTerrain zTTerrain p0), (1, cI (W (p1 - (p0.length : Int)))), (5, cI 0)] [] id ?_
  refine loop_in (fun (x : (Int × Int)) => lit [(0, dc 5 eTTerrain zTTerrain p0), (1, cI x.1), (5, cI x.2)] []) (orJ (fun (z : Int) => At (.exit 0) (lit [(1, cI z)] [])) (fun (z : Int) => At .ret (lit [(4, cI z)] []))) h27 ?_ ?_
  ·clear H h27
   intro x18 y0 H
   refine seq_in ?_
   refine sn [] [] [(15, cB (decide (x18.2 < (p0.length : Int))))] [] [] (fun t => lI p0 (t)) ?_
   rcases oC H with ⟨c20, H⟩ | ⟨c20, H⟩
   ·refine it c20 ?_
    refine sk ?_
    refine seq_in ?_
    refine ends_blk ?_
    obtain ⟨v21, h22, H⟩ := oB H
    obtain ⟨v23, h24, H⟩ := oB H
    refine so [.cs (eTTerrain v21), .res (cI v23)] [] [(0, dc 5 eTTerrain zTTerrain p0), (1, cI v23), (5, cI x18.2)] [] (fun t => (a2 eTTerrain h22 (aI (l_szTerrain_ok v21 x18.1 v23 h24) (t)))) ?_
    refine sn [] [] [(25, cB (decide (v23 < 0)))] [] [] id ?_
    rcases oC H with ⟨c25, H⟩ | ⟨c25, H⟩
    ·refine it c25 ?_
     refine so [] [] [(4, cI (-1))] [] id ?_
     refine ends_ret ?_
     cases H
     exact rsr
    ·refine jf c25 ?_
     refine sk ?_
     refine oo [] [] [(0, dc 5 eTTerrain zTTerrain p0), (1, cI v23), (5, cI (W (x18.2 + 1)))] [] id ?_
     cases H
     exact rr
   ·refine jf c20 ?_
    refine tl [] [(1, cI x18.1)] [] id ?_
    refine ends_exit ?_
    cases H
    exact rse
  ·clear h27
   cases y26 with
   | inl y28 =>
    replace H := ofInl H
    rintro e s ⟨rfl, rfl⟩
    change EndsI _ _ _ _ _ _
    refine so [] [] [(4, cI y28)] [] id ?_
    cases H
    exact er
   | inr y29 =>
    replace H := ofInr H
    rintro e s ⟨rfl, rfl⟩
    cases H
    exact qr
def l_szKind_ir : S :=
 (sq [o 2 (.box 6 (.t 0)), o 4 (.mv (iv 0))]
 (sq [om 5 1, oa 6 0 2, ol 7 6, o 8 (.lens (.t 7)), o 9 (.bin .sub (.t 5) (.t 8)), om 1 9]
 (.seq (sq [om 10 1, o 11 (.bin .lss (.t 10) (iv 0))]
 (.ite (.t 11) (sq [o 4 (.mv (.v (.int .i64 (-1))))]
  .ret)
 .skip))
 (sq [om 12 1, om 4 12]
 .ret))))
noncomputable def X.l_szKind (p0 : TKind) (p1 : Int) : Option Int :=
 (bif (decide ((W (p1 - (p0.Name.length : Int))) < 0)) then some (-1) else some (W (p1 - (p0.Name.length : Int))))
theorem l_szKind_ok (p0 : TKind) (p1 : Int) (r : Int) (H : X.l_szKind p0 p1 = some r) : FK 97 [.agg (eTKind p0), cI p1] (cI r) := by
 unfold X.l_szKind at H
 refine fi Tryz.f97 l_szKind_ir [(4, cI r)] [] glL Tryz.func97 ?_
 refine sn [] [] [(2, pk 2)] [] [(2, va (eTKind p0))] id ?_
 refine so [] [] [(1, cI (W (p1 - (p0.Name.length : Int))))] [] id ?_
 refine seq_in ?_
 refine sn [] [] [(11, cB (decide ((W (p1 - (p0.Name.length : Int))) < 0)))] [] [] id ?_
 rcases oC H with ⟨c1, H⟩ | ⟨c1, H⟩
 ·refine it c1 ?_
  refine so [] [] [(4, cI (-1))] [] id ?_
  cases H
  exact er
 ·refine jf c1 ?_
  refine sk ?_
  refine so [] [] [(4, cI (W (p1 - (p0.Name.length : Int))))] [] id ?_
  cases H
  exact er
def l_szKindS_ir : S :=
 (sq [o 4 (.mv (iv 0))]
 (sq [om 6 1, om 7 0, o 8 (.len (.t 7)), o 9 (.bin .sub (.t 6) (.t 8)), om 1 9]
 (.seq (sq [om 10 1, o 11 (.bin .lss (.t 10) (iv 0))]
 (.ite (.t 11) (sq [o 4 (.mv (.v (.int .i64 (-1))))]
  .ret)
 .skip))
 (.seq (sq [o 5 (.mv (iv 0))]
 (.blk 0 (.loop (.seq (sq [om 12 5, om 13 0, o 14 (.len (.t 13)), o 15 (.bin .lss (.t 12) (.t 14))]
   (.ite (.t 15) .skip
   (.exit 0)))
   (.seq (.blk 1 (sq [om 18 0, om 19 5, o 20 (.iad 6 (.t 18) (.t 19)), o 21 (.load 6 true (.t 20)), om 22 1, o 23 (.call 97 [.t 21, .t 22]), om 1 23]
    (sq [om 24 1, o 25 (.bin .lss (.t 24) (iv 0))]
    (.ite (.t 25) (sq [o 4 (.mv (.v (.int .i64 (-1))))]
     .ret)
    .skip))))
   (.ops [om 16 5, o 17 (.bin .add (.t 16) (iv 1)), om 5 17]))))))
 (sq [om 26 1, om 4 26]
 .ret)))))
noncomputable def X.l_szKindS (p0 : (List TKind)) (p1 : Int) : Option Int :=
 (bif (decide ((W (p1 - (p0.length : Int))) < 0)) then some (-1) else ((loop (fun (x18 : (Int × Int)) => ((bif (decide (x18.2 < (p0.length : Int))) then ((at' zTKind p0 x18.2).bind fun v21 => ((X.l_szKind v21 x18.1).bind fun v23 => (bif (decide (v23 < 0)) then some (Sum.inr (Sum.inr (-1))) else some (Sum.inl (v23, (W (x18.2 + 1))))))) else some (Sum.inr (Sum.inl x18.1))) : Option ((Int × Int) ⊕ (Int ⊕ Int)))) ((W (p1 - (p0.length : Int))), 0)).bind fun y26 => (Sum.elim (fun (y28 : Int) => some y28) (fun (y29 : Int) => some y29) y26)))
theorem l_szKindS_ok (p0 : (List TKind)) (p1 : Int) (r : Int) (H : X.l_szKindS p0 p1 = some r) : FK 56 [.c (dat 6 eTKind zTKind p0), cI p1] (cI r) := by
 unfold X.l_szKindS at H
 refine fi Tryz.f56 l_szKindS_ir [(4, cI r)] [] glL Tryz.func56 ?_
 refine sn [] [] [] [] [] id ?_
 refine so [] [] [(0, dc 6 eTKind zTKind p0), (1, cI (W (p1 - (p0.length : Int))))] [] (fun t => lI p0 (t)) ?_
 refine seq_in ?_
 refine sn [] [] [(11, cB (decide ((W (p1 - (p0.length : Int))) < 0)))] [] [] id ?_
 rcases oC H with ⟨c2, H⟩ | ⟨c2, H⟩
 ·refine it c2 ?_
  refine so [] [] [(4, cI (-1))] [] id ?_
  cases H
  exact er
 ·refine jf c2 ?_
  refine sk ?_
  refine seq_in ?_
  refine sn [] [] [(5, cI 0)] [] [] id ?_
  refine ends_blk ?_
  obtain ⟨y26, h27, H⟩ := oB H
  refine tl [] [(0, dc 6 eTKind zTKind p0), (1, cI (W (p1 - (p0.length : Int)))), (5, cI 0)] [] id ?_
  refine loop_in (fun (x : (Int × Int)) => lit [(0, dc 6 eTKind zTKind p0), (1, cI x.1), (5, cI x.2)] []) (orJ (fun (z : Int) => At (.exit 0) (lit [(1, cI z)] [])) (fun (z : Int) => At .ret (lit [(4, cI z)] []))) h27 ?_ ?_
  ·clear H h27
   intro x18 y0 H
   refine seq_in ?_
   refine sn [] [] [(15, cB (decide (x18.2 < (p0.length : Int))))] [] [] (fun t => lI p0 (t)) ?_
   rcases oC H with ⟨c20, H⟩ | ⟨c20, H⟩
   ·refine it c20 ?_
    refine sk ?_
    refine seq_in ?_
    refine ends_blk ?_
    obtain ⟨v21, h22, H⟩ := oB H
    obtain ⟨v23, h24, H⟩ := oB H
    refine so [.cs (eTKind v21), .res (cI v23)] [] [(0, dc 6 eTKind zTKind p0), (1, cI v23), (5, cI x18.2)] [] (fun t => (a2 eTKind h22 (aI (l_szKind_ok v21 x18.1 v23 h24) (t)))) ?_
    refine sn [] [] [(25, cB (decide (v23 < 0)))] [] [] id ?_
    rcases oC H with ⟨c25, H⟩ | ⟨c25, H⟩
    ·refine it c25 ?_
     refine so [] [] [(4, cI (-1))] [] id ?_
     refine ends_ret ?_
     cases H
     exact rsr
    ·refine jf c25 ?_
     refine sk ?_
     refine oo [] [] [(0, dc 6 eTKind zTKind p0), (1, cI v23), (5, cI (W (x18.2 + 1)))] [] id ?_
     cases H
     exact rr
   ·refine jf c20 ?_
    refine tl [] [(1, cI x18.1)] [] id ?_
    refine ends_exit ?_
    cases H
    exact rse
  ·clear h27
   cases y26 with
   | inl y28 =>
    replace H := ofInl H
    rintro e s ⟨rfl, rfl⟩
    change EndsI _ _ _ _ _ _
    refine so [] [] [(4, cI y28)] [] id ?_
    cases H
    exact er
   | inr y29 =>
    replace H := ofInr H
    rintro e s ⟨rfl, rfl⟩
    cases H
    exact qr
def l_szRules_ir : S :=
 (sq [o 2 (.box 7 (.t 0)), o 4 (.mv (iv 0))]
 (sq [oa 5 0 2, ol 6 5, om 7 1, o 8 (.call 55 [.t 6, .t 7]), om 1 8]
 (.seq (sq [om 9 1, o 10 (.bin .lss (.t 9) (iv 0))]
 (.ite (.t 10) (sq [o 4 (.mv (.v (.int .i64 (-1))))]
  .ret)
 .skip))
 (sq [oa 11 1 2, ol 12 11, om 13 1, o 14 (.call 56 [.t 12, .t 13]), om 1 14]
 (.seq (sq [om 15 1, o 16 (.bin .lss (.t 15) (iv 0))]
 (.ite (.t 16) (sq [o 4 (.mv (.v (.int .i64 (-1))))]
  .ret)
 .skip))
 (sq [om 17 1, om 4 17]
 .ret))))))
noncomputable def X.l_szRules (p0 : TRules) (p1 : Int) : Option Int :=
 ((X.l_szTerrainS p0.Terrains p1).bind fun v1 => (bif (decide (v1 < 0)) then some (-1) else ((X.l_szKindS p0.Kinds v1).bind fun v5 => (bif (decide (v5 < 0)) then some (-1) else some v5))))
theorem l_szRules_ok (p0 : TRules) (p1 : Int) (r : Int) (H : X.l_szRules p0 p1 = some r) : FK 21 [.agg (eTRules p0), cI p1] (cI r) := by
 unfold X.l_szRules at H
 refine fi Tryz.f21 l_szRules_ir [(4, cI r)] [] glL Tryz.func21 ?_
 refine sn [] [] [(2, pk 2)] [] [(2, va (eTRules p0))] id ?_
 obtain ⟨v1, h2, H⟩ := oB H
 refine so [.res (cI v1)] [] [(1, cI v1), (2, pk 2)] [(2, va (eTRules p0))] (aI (l_szTerrainS_ok p0.Terrains p1 v1 h2)) ?_
 refine seq_in ?_
 refine sn [] [] [(10, cB (decide (v1 < 0)))] [] [] id ?_
 rcases oC H with ⟨c4, H⟩ | ⟨c4, H⟩
 ·refine it c4 ?_
  refine so [] [] [(4, cI (-1))] [] id ?_
  cases H
  exact er
 ·refine jf c4 ?_
  refine sk ?_
  obtain ⟨v5, h6, H⟩ := oB H
  refine so [.res (cI v5)] [] [(1, cI v5)] [] (aI (l_szKindS_ok p0.Kinds v1 v5 h6)) ?_
  refine seq_in ?_
  refine sn [] [] [(16, cB (decide (v5 < 0)))] [] [] id ?_
  rcases oC H with ⟨c7, H⟩ | ⟨c7, H⟩
  ·refine it c7 ?_
   refine so [] [] [(4, cI (-1))] [] id ?_
   cases H
   exact er
  ·refine jf c7 ?_
   refine sk ?_
   refine so [] [] [(4, cI v5)] [] id ?_
   cases H
   exact er
def l_szMap_ir : S :=
 (sq [o 2 (.box 5 (.t 0)), o 4 (.mv (iv 0))]
 (sq [oa 5 2 2, ol 6 5, om 7 1, o 8 (.call 57 [.t 6, .t 7]), om 1 8]
 (.seq (sq [om 9 1, o 10 (.bin .lss (.t 9) (iv 0))]
 (.ite (.t 10) (sq [o 4 (.mv (.v (.int .i64 (-1))))]
  .ret)
 .skip))
 (sq [oa 11 3 2, ol 12 11, om 13 1, o 14 (.call 57 [.t 12, .t 13]), om 1 14]
 (.seq (sq [om 15 1, o 16 (.bin .lss (.t 15) (iv 0))]
 (.ite (.t 16) (sq [o 4 (.mv (.v (.int .i64 (-1))))]
  .ret)
 .skip))
 (sq [oa 17 4 2, ol 18 17, om 19 1, o 20 (.call 57 [.t 18, .t 19]), om 1 20]
 (.seq (sq [om 21 1, o 22 (.bin .lss (.t 21) (iv 0))]
 (.ite (.t 22) (sq [o 4 (.mv (.v (.int .i64 (-1))))]
  .ret)
 .skip))
 (sq [om 23 1, om 4 23]
 .ret))))))))
noncomputable def X.l_szMap (p0 : TMap) (p1 : Int) : Option Int :=
 ((X.l_szIntS p0.Terrain p1).bind fun v1 => (bif (decide (v1 < 0)) then some (-1) else ((X.l_szIntS p0.Rivers v1).bind fun v5 => (bif (decide (v5 < 0)) then some (-1) else ((X.l_szIntS p0.Roads v5).bind fun v9 => (bif (decide (v9 < 0)) then some (-1) else some v9))))))
theorem l_szMap_ok (p0 : TMap) (p1 : Int) (r : Int) (H : X.l_szMap p0 p1 = some r) : FK 22 [.agg (eTMap p0), cI p1] (cI r) := by
 unfold X.l_szMap at H
 refine fi Tryz.f22 l_szMap_ir [(4, cI r)] [] glL Tryz.func22 ?_
 refine sn [] [] [(2, pk 2)] [] [(2, va (eTMap p0))] id ?_
 obtain ⟨v1, h2, H⟩ := oB H
 refine so [.res (cI v1)] [] [(1, cI v1), (2, pk 2)] [(2, va (eTMap p0))] (aI (l_szIntS_ok p0.Terrain p1 v1 h2)) ?_
 refine seq_in ?_
 refine sn [] [] [(10, cB (decide (v1 < 0)))] [] [] id ?_
 rcases oC H with ⟨c4, H⟩ | ⟨c4, H⟩
 ·refine it c4 ?_
  refine so [] [] [(4, cI (-1))] [] id ?_
  cases H
  exact er
 ·refine jf c4 ?_
  refine sk ?_
  obtain ⟨v5, h6, H⟩ := oB H
  refine so [.res (cI v5)] [] [(1, cI v5), (2, pk 2)] [(2, va (eTMap p0))] (aI (l_szIntS_ok p0.Rivers v1 v5 h6)) ?_
  refine seq_in ?_
  refine sn [] [] [(16, cB (decide (v5 < 0)))] [] [] id ?_
  rcases oC H with ⟨c8, H⟩ | ⟨c8, H⟩
  ·refine it c8 ?_
   refine so [] [] [(4, cI (-1))] [] id ?_
   cases H
   exact er
  ·refine jf c8 ?_
   refine sk ?_
   obtain ⟨v9, h10, H⟩ := oB H
   refine so [.res (cI v9)] [] [(1, cI v9)] [] (aI (l_szIntS_ok p0.Roads v5 v9 h10)) ?_
   refine seq_in ?_
   refine sn [] [] [(22, cB (decide (v9 < 0)))] [] [] id ?_
   rcases oC H with ⟨c11, H⟩ | ⟨c11, H⟩
   ·refine it c11 ?_
    refine so [] [] [(4, cI (-1))] [] id ?_
    cases H
    exact er
   ·refine jf c11 ?_
    refine sk ?_
    refine so [] [] [(4, cI v9)] [] id ?_
    cases H
    exact er
def l_szBoard_ir : S :=
 (sq [o 2 (.box 12 (.t 0)), o 4 (.mv (iv 0))]
 (sq [oa 5 0 2, o 6 (.load 7 true (.t 5)), om 7 1, o 8 (.call 21 [.t 6, .t 7]), om 1 8]
 (.seq (sq [om 9 1, o 10 (.bin .lss (.t 9) (iv 0))]
 (.ite (.t 10) (sq [o 4 (.mv (.v (.int .i64 (-1))))]
  .ret)
 .skip))
 (sq [oa 11 7 2, o 12 (.load 5 true (.t 11)), om 13 1, o 14 (.call 22 [.t 12, .t 13]), om 1 14]
 (.seq (sq [om 15 1, o 16 (.bin .lss (.t 15) (iv 0))]
 (.ite (.t 16) (sq [o 4 (.mv (.v (.int .i64 (-1))))]
  .ret)
 .skip))
 (sq [om 17 1, om 4 17]
 .ret))))))
noncomputable def X.l_szBoard (p0 : TBoard) (p1 : Int) : Option Int :=
 ((X.l_szRules p0.Rules p1).bind fun v1 => (bif (decide (v1 < 0)) then some (-1) else ((X.l_szMap p0.Map v1).bind fun v5 => (bif (decide (v5 < 0)) then some (-1) else some v5))))
theorem l_szBoard_ok (p0 : TBoard) (p1 : Int) (r : Int) (H : X.l_szBoard p0 p1 = some r) : FK 6 [.agg (eTBoard p0), cI p1] (cI r) := by
 unfold X.l_szBoard at H
 refine fi Tryz.f6 l_szBoard_ir [(4, cI r)] [] glL Tryz.func6 ?_
 refine sn [] [] [(2, pk 2)] [] [(2, va (eTBoard p0))] id ?_
 obtain ⟨v1, h2, H⟩ := oB H
 refine so [.res (cI v1)] [] [(1, cI v1), (2, pk 2)] [(2, va (eTBoard p0))] (aI (l_szRules_ok p0.Rules p1 v1 h2)) ?_
 refine seq_in ?_
 refine sn [] [] [(10, cB (decide (v1 < 0)))] [] [] id ?_
 rcases oC H with ⟨c4, H⟩ | ⟨c4, H⟩
 ·refine it c4 ?_
  refine so [] [] [(4, cI (-1))] [] id ?_
  cases H
  exact er
 ·refine jf c4 ?_
  refine sk ?_
  obtain ⟨v5, h6, H⟩ := oB H
  refine so [.res (cI v5)] [] [(1, cI v5)] [] (aI (l_szMap_ok p0.Map v1 v5 h6)) ?_
  refine seq_in ?_
  refine sn [] [] [(16, cB (decide (v5 < 0)))] [] [] id ?_
  rcases oC H with ⟨c7, H⟩ | ⟨c7, H⟩
  ·refine it c7 ?_
   refine so [] [] [(4, cI (-1))] [] id ?_
   cases H
   exact er
  ·refine jf c7 ?_
   refine sk ?_
   refine so [] [] [(4, cI v5)] [] id ?_
   cases H
   exact er
def l_szUnitS_ir : S :=
 (sq [o 4 (.mv (iv 0))]
 (sq [om 5 1, om 6 0, o 7 (.len (.t 6)), o 8 (.bin .sub (.t 5) (.t 7)), om 1 8]
 (.seq (sq [om 9 1, o 10 (.bin .lss (.t 9) (iv 0))]
 (.ite (.t 10) (sq [o 4 (.mv (.v (.int .i64 (-1))))]
  .ret)
 .skip))
 (sq [om 11 1, om 4 11]
 .ret))))
noncomputable def X.l_szUnitS (p0 : (List TUnit)) (p1 : Int) : Option Int :=
 (bif (decide ((W (p1 - (p0.length : Int))) < 0)) then some (-1) else some (W (p1 - (p0.length : Int))))
theorem l_szUnitS_ok (p0 : (List TUnit)) (p1 : Int) (r : Int) (H : X.l_szUnitS p0 p1 = some r) : FK 23 [.c (dat 4 eTUnit zTUnit p0), cI p1] (cI r) := by
 unfold X.l_szUnitS at H
 refine fi Tryz.f23 l_szUnitS_ir [(4, cI r)] [] glL Tryz.func23 ?_
 refine sn [] [] [] [] [] id ?_
 refine so [] [] [(1, cI (W (p1 - (p0.length : Int))))] [] (fun t => lI p0 (t)) ?_
 refine seq_in ?_
 refine sn [] [] [(10, cB (decide ((W (p1 - (p0.length : Int))) < 0)))] [] [] id ?_
 rcases oC H with ⟨c1, H⟩ | ⟨c1, H⟩
 ·refine it c1 ?_
  refine so [] [] [(4, cI (-1))] [] id ?_
  cases H
  exact er
 ·refine jf c1 ?_
  refine sk ?_
  refine so [] [] [(4, cI (W (p1 - (p0.length : Int))))] [] id ?_
  cases H
  exact er
def l_szState_ir : S :=
 (sq [o 2 (.box 3 (.t 0)), o 4 (.mv (iv 0))]
 (sq [oa 5 2 2, ol 6 5, om 7 1, o 8 (.call 23 [.t 6, .t 7]), om 1 8]
 (.seq (sq [om 9 1, o 10 (.bin .lss (.t 9) (iv 0))]
 (.ite (.t 10) (sq [o 4 (.mv (.v (.int .i64 (-1))))]
  .ret)
 .skip))
 (sq [om 11 1, om 4 11]
 .ret))))
noncomputable def X.l_szState (p0 : TState) (p1 : Int) : Option Int :=
 ((X.l_szUnitS p0.Units p1).bind fun v1 => (bif (decide (v1 < 0)) then some (-1) else some v1))
theorem l_szState_ok (p0 : TState) (p1 : Int) (r : Int) (H : X.l_szState p0 p1 = some r) : FK 7 [.agg (eTState p0), cI p1] (cI r) := by
 unfold X.l_szState at H
 refine fi Tryz.f7 l_szState_ir [(4, cI r)] [] glL Tryz.func7 ?_
 refine sn [] [] [(2, pk 2)] [] [(2, va (eTState p0))] id ?_
 obtain ⟨v1, h2, H⟩ := oB H
 refine so [.res (cI v1)] [] [(1, cI v1)] [] (aI (l_szUnitS_ok p0.Units p1 v1 h2)) ?_
 refine seq_in ?_
 refine sn [] [] [(10, cB (decide (v1 < 0)))] [] [] id ?_
 rcases oC H with ⟨c3, H⟩ | ⟨c3, H⟩
 ·refine it c3 ?_
  refine so [] [] [(4, cI (-1))] [] id ?_
  cases H
  exact er
 ·refine jf c3 ?_
  refine sk ?_
  refine so [] [] [(4, cI v1)] [] id ?_
  cases H
  exact er
def s_l1In_ir : S :=
 (sq [o 6 (.mv bF)]
 (sq [om 7 0, om 8 1, o 9 (.bin .geq (.t 7) (.t 8)), om 10 9, oh 11 (.mv (.t 0)) 10, oh 12 (.mv (.t 2)) 10, oh 13 (.bin .leq (.t 11) (.t 12)) 10, o 14 (.pick (.t 10) (.t 13) bF), om 6 14]
 .ret))
noncomputable def X.s_l1In (p0 : Int) (p1 : Int) (p2 : Int) : Option Bool :=
 (bif (decide (p0 ≥ p1)) then some (decide (p0 ≤ p2)) else some false)
theorem s_l1In_ok (p0 : Int) (p1 : Int) (p2 : Int) (r : Bool) (H : X.s_l1In p0 p1 p2 = some r) : FK 26 [cI p0, cI p1, cI p2] (cB r) := by
 unfold X.s_l1In at H
 refine fi Tryz.f26 s_l1In_ir [(6, cB r)] [] glL Tryz.func26 ?_
 refine sn [] [] [] [] [] id ?_
 rcases oC H with ⟨c1, H⟩ | ⟨c1, H⟩
 ·refine so (rg 4 true []) [] [(6, cB (decide (p0 ≤ p2)))] [] (fun t => aG 4 c1 (t)) ?_
  cases H
  exact er
 ·refine so (rg 4 false []) [] [(6, cB false)] [] (fun t => aG 4 c1 (t)) ?_
  cases H
  exact er
def s_l1All_ir : S :=
 (sq [o 6 (.mv bF)]
 (.seq (sq [om 9 0, o 10 (.len (.t 9)), o 11 (.mv (iv 0))]
 (.blk 0 (.loop (sq [o 12 (.bin .lss (.t 11) (.t 10))]
   (.seq (.ite (.t 12) .skip
   (.exit 0))
   (.seq (.blk 1 (sq [o 13 (.iad 1 (.t 9) (.t 11)), ol 14 13, om 8 14]
    (sq [om 15 8, om 16 1, om 17 2, o 18 (.call 26 [.t 15, .t 16, .t 17]), o 19 (.not (.t 18))]
    (.ite (.t 19) (sq [o 6 (.mv bF)]
     .ret)
    .skip))))
   (.ops [o 20 (.bin .add (.t 11) (iv 1)), om 11 20])))))))
 (sq [o 6 (.mv bT)]
 .ret)))
noncomputable def X.s_l1All (p0 : (List Int)) (p1 : Int) (p2 : Int) : Option Bool :=
 ((loop (fun (x16 : Int) => ((bif (decide (x16 < (p0.length : Int))) then ((at' zI p0 x16).bind fun v19 => ((X.s_l1In v19 p1 p2).bind fun v21 => (bif (!v21) then some (Sum.inr (Sum.inr false)) else some (Sum.inl (W (x16 + 1)))))) else some (Sum.inr (Sum.inl ()))) : Option (Int ⊕ (Unit ⊕ Bool)))) 0).bind fun y24 => (Sum.elim (fun (y26 : Unit) => some true) (fun (y27 : Bool) => some y27) y24))
theorem s_l1All_ok (p0 : (List Int)) (p1 : Int) (p2 : Int) (r : Bool) (H : X.s_l1All p0 p1 p2 = some r) : FK 123 [.c (dat 1 eI zI p0), cI p1, cI p2] (cB r) := by
 unfold X.s_l1All at H
 refine fi Tryz.f123 s_l1All_ir [(6, cB r)] [] glL Tryz.func123 ?_
 refine sn [] [] [] [] [] id ?_
 refine seq_in ?_
 refine sn [] [] [(9, dc 1 eI zI p0), (10, cL p0), (11, cI 0)] [] [] (fun t => lI p0 (t)) ?_
 refine ends_blk ?_
 obtain ⟨y24, h25, H⟩ := oB H
 refine tl [] [(1, cI p1), (2, cI p2), (9, dc 1 eI zI p0), (10, cL p0), (11, cI 0)] [] id ?_
 refine loop_in (fun (x : Int) => lit [(1, cI p1), (2, cI p2), (9, dc 1 eI zI p0), (10, cL p0), (11, cI x)] []) (orJ (fun (z : Unit) => At (.exit 0) (lit [] [])) (fun (z : Bool) => At .ret (lit [(6, cB z)] []))) h25 ?_ ?_
 ·clear H h25
  intro x16 y0 H
  refine sn [] [] [(12, cB (decide (x16 < (p0.length : Int))))] [] [] id ?_
  refine seq_in ?_
  rcases oC H with ⟨c18, H⟩ | ⟨c18, H⟩
  ·refine it c18 ?_
   refine sk ?_
   refine seq_in ?_
   refine ends_blk ?_
   obtain ⟨v19, h20, H⟩ := oB H
   refine sn [.cs (eI v19)] [] [(8, cI v19)] [] [] (a2 eI h20) ?_
   obtain ⟨v21, h22, H⟩ := oB H
   refine sn [.res (cB v21)] [] [(19, cB (!v21))] [] [] (aI (s_l1In_ok v19 p1 p2 v21 h22)) ?_
   rcases oC H with ⟨c23, H⟩ | ⟨c23, H⟩
   ·refine it c23 ?_
    refine so [] [] [(6, cB false)] [] id ?_
    refine ends_ret ?_
    cases H
    exact rsr
   ·refine jf c23 ?_
    refine sk ?_
    refine oo [] [] [(1, cI p1), (2, cI p2), (9, dc 1 eI zI p0), (10, cL p0), (11, cI (W (x16 + 1)))] [] id ?_
    cases H
    exact rr
  ·refine jf c18 ?_
   refine tl [] [] [] id ?_
   refine ends_exit ?_
   cases H
   exact rse
 ·clear h25
  cases y24 with
  | inl y26 =>
   replace H := ofInl H
   rintro e s ⟨rfl, rfl⟩
   change EndsI _ _ _ _ _ _
   refine so [] [] [(6, cB true)] [] id ?_
   cases H
   exact er
  | inr y27 =>
   replace H := ofInr H
   rintro e s ⟨rfl, rfl⟩
   cases H
   exact qr
def s_rName_ir : S :=
 (sq [o 2 (.mv bF)]
 (.seq (sq [o 3 (.mv (iv 0))]
 (.blk 0 (.loop (.seq (sq [om 4 3, om 5 0, o 6 (.lens (.t 5)), o 7 (.bin .lss (.t 4) (.t 6))]
   (.ite (.t 7) .skip
   (.exit 0)))
   (.seq (.blk 1 (sq [om 10 0, om 11 3, o 12 (.ixs (.t 10) (.t 11)), o 13 (.bin .lss (.t 12) (.v (.int .u8 97))), om 14 13, og 15 (.mv (.t 0)) 14, og 16 (.mv (.t 3)) 14, og 17 (.ixs (.t 15) (.t 16)) 14, og 18 (.bin .gtr (.t 17) (.v (.int .u8 122))) 14, o 19 (.pick (.t 14) bT (.t 18))]
    (.ite (.t 19) (sq [o 2 (.mv bF)]
     .ret)
    .skip)))
   (.ops [om 8 3, o 9 (.bin .add (.t 8) (iv 1)), om 3 9]))))))
 (sq [om 20 0, o 21 (.lens (.t 20)), o 22 (.call 26 [.t 21, .v (.int .i64 1), .v (.int .i64 8)]), om 2 22]
 .ret)))
noncomputable def X.s_rName (p0 : (List UInt8)) : Option Bool :=
 ((loop (fun (x14 : Int) => ((bif (decide (x14 < (p0.length : Int))) then (if 0 ≤ x14 ∧ x14 < (p0.length : Int) then (bif (decide ((((p0.getD x14.toNat 0).toNat : Nat) : Int) < 97)) then some (Sum.inr (Sum.inr false)) else (if 0 ≤ x14 ∧ x14 < (p0.length : Int) then (bif (decide ((((p0.getD x14.toNat 0).toNat : Nat) : Int) > 122)) then some (Sum.inr (Sum.inr false)) else some (Sum.inl (W (x14 + 1)))) else none)) else none) else some (Sum.inr (Sum.inl ()))) : Option (Int ⊕ (Unit ⊕ Bool)))) 0).bind fun y21 => (Sum.elim (fun (y23 : Unit) => ((X.s_l1In (p0.length : Int) 1 8).bind fun v25 => some v25)) (fun (y24 : Bool) => some y24) y21))
theorem s_rName_ok (p0 : (List UInt8)) (r : Bool) (H : X.s_rName p0 = some r) : FK 149 [.c (.str p0)] (cB r) := by
 unfold X.s_rName at H
 refine fi Tryz.f149 s_rName_ir [(2, cB r)] [] glL Tryz.func149 ?_
 refine sn [] [] [] [] [] id ?_
 refine seq_in ?_
 refine sn [] [] [(3, cI 0)] [] [] id ?_
 refine ends_blk ?_
 obtain ⟨y21, h22, H⟩ := oB H
 refine tl [] [(0, .c (.str p0)), (3, cI 0)] [] id ?_
 refine loop_in (fun (x : Int) => lit [(0, .c (.str p0)), (3, cI x)] []) (orJ (fun (z : Unit) => At (.exit 0) (lit [(0, .c (.str p0))] [])) (fun (z : Bool) => At .ret (lit [(2, cB z)] []))) h22 ?_ ?_
 ·clear H h22
  intro x14 y0 H
  refine seq_in ?_
  refine sn [] [] [(7, cB (decide (x14 < (p0.length : Int))))] [] [] id ?_
  rcases oC H with ⟨c16, H⟩ | ⟨c16, H⟩
  ·refine it c16 ?_
   refine sk ?_
   refine seq_in ?_
   refine ends_blk ?_
   obtain ⟨g17, H⟩ := oI H
   rcases oC H with ⟨c18, H⟩ | ⟨c18, H⟩
   ·refine sn (rg 5 true []) [] [(19, cB true)] [] [] (fun t => aI g17 (aG 5 c18 (t))) ?_
    refine it rT ?_
    refine so [] [] [(2, cB false)] [] id ?_
    refine ends_ret ?_
    cases H
    exact rsr
   ·obtain ⟨g19, H⟩ := oI H
    refine sn (rg 5 false []) [] [(19, cB (decide ((((p0.getD x14.toNat 0).toNat : Nat) : Int) > 122)))] [] [] (fun t => aI g17 (aG 3 c18 (aI g19 (aG 2 c18 (t))))) ?_
    rcases oC H with ⟨c20, H⟩ | ⟨c20, H⟩
    ·refine it c20 ?_
     refine so [] [] [(2, cB false)] [] id ?_
     refine ends_ret ?_
     cases H
     exact rsr
    ·refine jf c20 ?_
     refine sk ?_
     refine oo [] [] [(0, .c (.str p0)), (3, cI (W (x14 + 1)))] [] id ?_
     cases H
     exact rr
  ·refine jf c16 ?_
   refine tl [] [(0, .c (.str p0))] [] id ?_
   refine ends_exit ?_
   cases H
   exact rse
 ·clear h22
  cases y21 with
  | inl y23 =>
   replace H := ofInl H
   rintro e s ⟨rfl, rfl⟩
   change EndsI _ _ _ _ _ _
   obtain ⟨v25, h26, H⟩ := oB H
   refine so [.res (cB v25)] [] [(2, cB v25)] [] (aI (s_l1In_ok (p0.length : Int) 1 8 v25 h26)) ?_
   cases H
   exact er
  | inr y24 =>
   replace H := ofInr H
   rintro e s ⟨rfl, rfl⟩
   cases H
   exact qr
def s_rTerrain_ir : S :=
 (sq [o 4 (.mv (iv 0))]
 (.seq (sq [om 7 0, o 8 (.len (.t 7)), o 9 (.mv (iv 0))]
 (.blk 0 (.loop (sq [o 10 (.bin .lss (.t 9) (.t 8))]
   (.seq (.ite (.t 10) .skip
   (.exit 0))
   (.seq (.blk 1 (sq [om 11 9, o 12 (.iad 5 (.t 7) (.t 9)), o 13 (.load 5 true (.t 12)), o 6 (.alloc [.str [], .nil, .int .i64 0, .int .i64 0, .bool false]), om 5 11, os 5 6 13]
    (sq [oa 14 0 6, ol 15 14, om 16 1, o 17 (.bin .eql (.t 15) (.t 16))]
    (.ite (.t 17) (sq [om 18 5, om 4 18]
     .ret)
    .skip))))
   (.ops [o 19 (.bin .add (.t 9) (iv 1)), om 9 19])))))))
 (sq [o 4 (.mv (.v (.int .i64 (-1))))]
 .ret)))
noncomputable def X.s_rTerrain (p0 : (List TTerrain)) (p1 : (List UInt8)) : Option Int :=
 ((loop (fun (x12 : Int) => ((bif (decide (x12 < (p0.length : Int))) then ((at' zTTerrain p0 x12).bind fun v15 => (bif (v15.Name == p1) then some (Sum.inr (Sum.inr x12)) else some (Sum.inl (W (x12 + 1))))) else some (Sum.inr (Sum.inl ()))) : Option (Int ⊕ (Unit ⊕ Int)))) 0).bind fun y18 => (Sum.elim (fun (y20 : Unit) => some (-1)) (fun (y21 : Int) => some y21) y18))
theorem s_rTerrain_ok (p0 : (List TTerrain)) (p1 : (List UInt8)) (r : Int) (H : X.s_rTerrain p0 p1 = some r) : FK 150 [.c (dat 5 eTTerrain zTTerrain p0), .c (.str p1)] (cI r) := by
 unfold X.s_rTerrain at H
 refine fi Tryz.f150 s_rTerrain_ir [(4, cI r)] [] glL Tryz.func150 ?_
 refine sn [] [] [] [] [] id ?_
 refine seq_in ?_
 refine sn [] [] [(7, dc 5 eTTerrain zTTerrain p0), (8, cL p0), (9, cI 0)] [] [] (fun t => lI p0 (t)) ?_
 refine ends_blk ?_
 obtain ⟨y18, h19, H⟩ := oB H
 refine tl [] [(1, .c (.str p1)), (7, dc 5 eTTerrain zTTerrain p0), (8, cL p0), (9, cI 0)] [] id ?_
 refine loop_in (fun (x : Int) => lit [(1, .c (.str p1)), (7, dc 5 eTTerrain zTTerrain p0), (8, cL p0), (9, cI x)] []) (orJ (fun (z : Unit) => At (.exit 0) (lit [] [])) (fun (z : Int) => At .ret (lit [(4, cI z)] []))) h19 ?_ ?_
 ·clear H h19
  intro x12 y0 H
  refine sn [] [] [(10, cB (decide (x12 < (p0.length : Int))))] [] [] id ?_
  refine seq_in ?_
  rcases oC H with ⟨c14, H⟩ | ⟨c14, H⟩
  ·refine it c14 ?_
   refine sk ?_
   refine seq_in ?_
   refine ends_blk ?_
   obtain ⟨v15, h16, H⟩ := oB H
   refine sn [.cs (eTTerrain v15)] [] [(5, cI x12), (6, pk 6)] [] [(6, va (eTTerrain v15))] (a2 eTTerrain h16) ?_
   refine sn [] [] [(17, cB (v15.Name == p1))] [] [] id ?_
   rcases oC H with ⟨c17, H⟩ | ⟨c17, H⟩
   ·refine it c17 ?_
    refine so [] [] [(4, cI x12)] [] id ?_
    refine ends_ret ?_
    cases H
    exact rsr
   ·refine jf c17 ?_
    refine sk ?_
    refine oo [] [] [(1, .c (.str p1)), (7, dc 5 eTTerrain zTTerrain p0), (8, cL p0), (9, cI (W (x12 + 1)))] [] id ?_
    cases H
    exact rr
  ·refine jf c14 ?_
   refine tl [] [] [] id ?_
   refine ends_exit ?_
   cases H
   exact rse
 ·clear h19
  cases y18 with
  | inl y20 =>
   replace H := ofInl H
   rintro e s ⟨rfl, rfl⟩
   change EndsI _ _ _ _ _ _
   refine so [] [] [(4, cI (-1))] [] id ?_
   cases H
   exact er
  | inr y21 =>
   replace H := ofInr H
   rintro e s ⟨rfl, rfl⟩
   cases H
   exact qr
def s_rKind_ir : S :=
 (sq [o 4 (.mv (iv 0))]
 (.seq (sq [om 7 0, o 8 (.len (.t 7)), o 9 (.mv (iv 0))]
 (.blk 0 (.loop (sq [o 10 (.bin .lss (.t 9) (.t 8))]
   (.seq (.ite (.t 10) .skip
   (.exit 0))
   (.seq (.blk 1 (sq [om 11 9, o 12 (.iad 6 (.t 7) (.t 9)), o 13 (.load 6 true (.t 12)), o 6 (.alloc [.str [], .int .i64 0, .int .i64 0, .int .i64 0, .bool false, .int .i64 0]), om 5 11, os 6 6 13]
    (sq [oa 14 0 6, ol 15 14, om 16 1, o 17 (.bin .eql (.t 15) (.t 16))]
    (.ite (.t 17) (sq [om 18 5, om 4 18]
     .ret)
    .skip))))
   (.ops [o 19 (.bin .add (.t 9) (iv 1)), om 9 19])))))))
 (sq [o 4 (.mv (.v (.int .i64 (-1))))]
 .ret)))
noncomputable def X.s_rKind (p0 : (List TKind)) (p1 : (List UInt8)) : Option Int :=
 ((loop (fun (x12 : Int) => ((bif (decide (x12 < (p0.length : Int))) then ((at' zTKind p0 x12).bind fun v15 => (bif (v15.Name == p1) then some (Sum.inr (Sum.inr x12)) else some (Sum.inl (W (x12 + 1))))) else some (Sum.inr (Sum.inl ()))) : Option (Int ⊕ (Unit ⊕ Int)))) 0).bind fun y18 => (Sum.elim (fun (y20 : Unit) => some (-1)) (fun (y21 : Int) => some y21) y18))
theorem s_rKind_ok (p0 : (List TKind)) (p1 : (List UInt8)) (r : Int) (H : X.s_rKind p0 p1 = some r) : FK 151 [.c (dat 6 eTKind zTKind p0), .c (.str p1)] (cI r) := by
 unfold X.s_rKind at H
 refine fi Tryz.f151 s_rKind_ir [(4, cI r)] [] glL Tryz.func151 ?_
 refine sn [] [] [] [] [] id ?_
 refine seq_in ?_
 refine sn [] [] [(7, dc 6 eTKind zTKind p0), (8, cL p0), (9, cI 0)] [] [] (fun t => lI p0 (t)) ?_
 refine ends_blk ?_
 obtain ⟨y18, h19, H⟩ := oB H
 refine tl [] [(1, .c (.str p1)), (7, dc 6 eTKind zTKind p0), (8, cL p0), (9, cI 0)] [] id ?_
 refine loop_in (fun (x : Int) => lit [(1, .c (.str p1)), (7, dc 6 eTKind zTKind p0), (8, cL p0), (9, cI x)] []) (orJ (fun (z : Unit) => At (.exit 0) (lit [] [])) (fun (z : Int) => At .ret (lit [(4, cI z)] []))) h19 ?_ ?_
 ·clear H h19
  intro x12 y0 H
  refine sn [] [] [(10, cB (decide (x12 < (p0.length : Int))))] [] [] id ?_
  refine seq_in ?_
  rcases oC H with ⟨c14, H⟩ | ⟨c14, H⟩
  ·refine it c14 ?_
   refine sk ?_
   refine seq_in ?_
   refine ends_blk ?_
   obtain ⟨v15, h16, H⟩ := oB H
   refine sn [.cs (eTKind v15)] [] [(5, cI x12), (6, pk 6)] [] [(6, va (eTKind v15))] (a2 eTKind h16) ?_
   refine sn [] [] [(17, cB (v15.Name == p1))] [] [] id ?_
   rcases oC H with ⟨c17, H⟩ | ⟨c17, H⟩
   ·refine it c17 ?_
    refine so [] [] [(4, cI x12)] [] id ?_
    refine ends_ret ?_
    cases H
    exact rsr
   ·refine jf c17 ?_
    refine sk ?_
    refine oo [] [] [(1, .c (.str p1)), (7, dc 6 eTKind zTKind p0), (8, cL p0), (9, cI (W (x12 + 1)))] [] id ?_
    cases H
    exact rr
  ·refine jf c14 ?_
   refine tl [] [] [] id ?_
   refine ends_exit ?_
   cases H
   exact rse
 ·clear h19
  cases y18 with
  | inl y20 =>
   replace H := ofInl H
   rintro e s ⟨rfl, rfl⟩
   change EndsI _ _ _ _ _ _
   refine so [] [] [(4, cI (-1))] [] id ?_
   cases H
   exact er
  | inr y21 =>
   replace H := ofInr H
   rintro e s ⟨rfl, rfl⟩
   cases H
   exact qr
def s_rGood_ir : S :=
 (sq [o 1 (.box 7 (.t 0)), o 2 (.mv bF)]
 (.seq (sq [oa 7 0 1, ol 8 7, o 9 (.len (.t 8)), o 10 (.call 26 [.t 9, .v (.int .i64 1), .v (.int .i64 6)]), o 11 (.not (.t 10)), om 12 11, og 13 (.fad 1 (.t 1)) 12, og 14 (.load 1 false (.t 13)) 12, og 15 (.len (.t 14)) 12, og 16 (.call 26 [.t 15, .v (.int .i64 1), .v (.int .i64 4)]) 12, og 17 (.not (.t 16)) 12, o 18 (.pick (.t 12) bT (.t 17))]
 (.ite (.t 18) (sq [o 2 (.mv bF)]
  .ret)
 .skip))
 (.seq (sq [oa 19 0 1, ol 20 19, o 21 (.len (.t 20)), o 22 (.mv (iv 0))]
 (.blk 0 (.loop (sq [o 23 (.bin .lss (.t 22) (.t 21))]
   (.seq (.ite (.t 23) .skip
   (.exit 0))
   (.seq (.blk 1 (sq [om 24 22, o 25 (.iad 5 (.t 20) (.t 22)), o 26 (.load 5 true (.t 25)), o 4 (.alloc [.str [], .nil, .int .i64 0, .int .i64 0, .bool false]), om 3 24, os 5 4 26]
    (sq [oa 27 0 4, ol 28 27, o 29 (.call 149 [.t 28]), o 30 (.not (.t 29)), om 31 30, og 32 (.fad 0 (.t 1)) 31, og 33 (.load 1 false (.t 32)) 31, og 34 (.fad 0 (.t 4)) 31, og 35 (.load 1 false (.t 34)) 31, og 36 (.call 150 [.t 33, .t 35]) 31, og 37 (.mv (.t 3)) 31, og 38 (.bin .neq (.t 36) (.t 37)) 31, o 39 (.pick (.t 31) bT (.t 38)), om 40 39, og 41 (.fad 1 (.t 4)) 40, og 42 (.load 1 false (.t 41)) 40, og 43 (.len (.t 42)) 40, og 44 (.fad 1 (.t 1)) 40, og 45 (.load 1 false (.t 44)) 40, og 46 (.len (.t 45)) 40, og 47 (.bin .neq (.t 43) (.t 46)) 40, o 48 (.pick (.t 40) bT (.t 47)), om 49 48, og 50 (.fad 1 (.t 4)) 49, og 51 (.load 1 false (.t 50)) 49, og 52 (.call 123 [.t 51, .v (.int .i64 0), .v (.int .i64 9)]) 49, og 53 (.not (.t 52)) 49, o 54 (.pick (.t 49) bT (.t 53)), om 55 54, og 56 (.fad 2 (.t 4)) 55, og 57 (.load 1 false (.t 56)) 55, og 58 (.call 26 [.t 57, .v (.int .i64 (-3)), .v (.int .i64 3)]) 55, og 59 (.not (.t 58)) 55, o 60 (.pick (.t 55) bT (.t 59)), om 61 60, og 62 (.fad 3 (.t 4)) 61, og 63 (.load 1 false (.t 62)) 61, og 64 (.call 26 [.t 63, .v (.int .i64 0), .v (.int .i64 3)]) 61, og 65 (.not (.t 64)) 61, o 66 (.pick (.t 61) bT (.t 65))]
    (.ite (.t 66) (sq [o 2 (.mv bF)]
     .ret)
    .skip))))
   (.ops [o 67 (.bin .add (.t 22) (iv 1)), om 22 67])))))))
 (.seq (sq [oa 68 1 1, ol 69 68, o 70 (.len (.t 69)), o 71 (.mv (iv 0))]
 (.blk 2 (.loop (sq [o 72 (.bin .lss (.t 71) (.t 70))]
   (.seq (.ite (.t 72) .skip
   (.exit 2))
   (.seq (.blk 3 (sq [om 73 71, o 74 (.iad 6 (.t 69) (.t 71)), o 75 (.load 6 true (.t 74)), o 6 (.alloc [.str [], .int .i64 0, .int .i64 0, .int .i64 0, .bool false, .int .i64 0]), om 5 73, os 6 6 75]
    (sq [oa 76 0 6, ol 77 76, o 78 (.call 149 [.t 77]), o 79 (.not (.t 78)), om 80 79, og 81 (.fad 1 (.t 1)) 80, og 82 (.load 1 false (.t 81)) 80, og 83 (.fad 0 (.t 6)) 80, og 84 (.load 1 false (.t 83)) 80, og 85 (.call 151 [.t 82, .t 84]) 80, og 86 (.mv (.t 5)) 80, og 87 (.bin .neq (.t 85) (.t 86)) 80, o 88 (.pick (.t 80) bT (.t 87)), om 89 88, og 90 (.fad 1 (.t 6)) 89, og 91 (.load 1 false (.t 90)) 89, og 92 (.call 26 [.t 91, .v (.int .i64 1), .v (.int .i64 9)]) 89, og 93 (.not (.t 92)) 89, o 94 (.pick (.t 89) bT (.t 93)), om 95 94, og 96 (.fad 2 (.t 6)) 95, og 97 (.load 1 false (.t 96)) 95, og 98 (.call 26 [.t 97, .v (.int .i64 0), .v (.int .i64 9)]) 95, og 99 (.not (.t 98)) 95, o 100 (.pick (.t 95) bT (.t 99)), om 101 100, og 102 (.fad 3 (.t 6)) 101, og 103 (.load 1 false (.t 102)) 101, og 104 (.call 26 [.t 103, .v (.int .i64 1), .v (.int .i64 4)]) 101, og 105 (.not (.t 104)) 101, o 106 (.pick (.t 101) bT (.t 105)), om 107 106, og 108 (.fad 5 (.t 6)) 107, og 109 (.load 1 false (.t 108)) 107, og 110 (.call 26 [.t 109, .v (.int .i64 0), .v (.int .i64 4)]) 107, og 111 (.not (.t 110)) 107, o 112 (.pick (.t 107) bT (.t 111))]
    (.ite (.t 112) (sq [o 2 (.mv bF)]
     .ret)
    .skip))))
   (.ops [o 113 (.bin .add (.t 71) (iv 1)), om 71 113])))))))
 (sq [oa 114 2 1, ol 115 114, o 116 (.call 26 [.t 115, .v (.int .i64 1), .v (.int .i64 4)]), om 117 116, oh 118 (.fad 3 (.t 1)) 117, oh 119 (.load 1 false (.t 118)) 117, oh 120 (.call 26 [.t 119, .v (.int .i64 0), .v (.int .i64 9)]) 117, o 121 (.pick (.t 117) (.t 120) bF), om 122 121, oh 123 (.fad 4 (.t 1)) 122, oh 124 (.load 1 false (.t 123)) 122, oh 125 (.call 26 [.t 124, .v (.int .i64 1), .v (.int .i64 9)]) 122, o 126 (.pick (.t 122) (.t 125) bF), om 127 126, oh 128 (.fad 5 (.t 1)) 127, oh 129 (.load 1 false (.t 128)) 127, oh 130 (.call 26 [.t 129, .v (.int .i64 0), .v (.int .i64 20)]) 127, o 131 (.pick (.t 127) (.t 130) bF), om 132 131, oh 133 (.fad 6 (.t 1)) 132, oh 134 (.load 1 false (.t 133)) 132, oh 135 (.call 26 [.t 134, .v (.int .i64 1), .v (.int .i64 30)]) 132, o 136 (.pick (.t 132) (.t 135) bF), om 2 136]
 .ret)))))
noncomputable def X.s_rGood (p0 : TRules) : Option Bool :=
 ((X.s_l1In (p0.Terrains.length : Int) 1 6).bind fun v7 => (bif (!v7) then some false else ((X.s_l1In (p0.Kinds.length : Int) 1 4).bind fun v10 => (bif (!v10) then some false else ((loop (fun (x120 : Int) => ((bif (decide (x120 < (p0.Terrains.length : Int))) then ((at' zTTerrain p0.Terrains x120).bind fun v123 => ((X.s_rName v123.Name).bind fun v125 => (bif (!v125) then some (Sum.inr (Sum.inr false)) else ((X.s_rTerrain p0.Terrains v123.Name).bind fun v128 => (bif (v128 != x120) then some (Sum.inr (Sum.inr false)) else (bif ((v123.Cost.length : Int) != (p0.Kinds.length : Int)) then some (Sum.inr (Sum.inr false)) else ((X.s_l1All v123.Cost 0 9).bind fun v132 => (bif (!v132) then some (Sum.inr (Sum.inr false)) else ((X.s_l1In v123.Shift (-3) 3).bind fun v135 => (bif (!v135) then some (Sum.inr (Sum.inr false)) else ((X.s_l1In v123.Height 0 3).bind fun v138 => (bif (!v138) then some (Sum.inr (Sum.inr false)) else some (Sum.inl (W (x120 + 1))))))))))))))) else some (Sum.inr (Sum.inl ()))) : Option (Int ⊕ (Unit ⊕ Bool)))) 0).bind fun y141 => (Sum.elim (fun (y143 : Unit) => ((loop (fun (x262 : Int) => ((bif (decide (x262 < (p0.Kinds.length : Int))) then ((at' zTKind p0.Kinds x262).bind fun v265 => ((X.s_rName v265.Name).bind fun v267 => (bif (!v267) then some (Sum.inr (Sum.inr false)) else ((X.s_rKind p0.Kinds v265.Name).bind fun v270 => (bif (v270 != x262) then some (Sum.inr (Sum.inr false)) else ((X.s_l1In v265.Strength 1 9).bind fun v273 => (bif (!v273) then some (Sum.inr (Sum.inr false)) else ((X.s_l1In v265.Moves 0 9).bind fun v276 => (bif (!v276) then some (Sum.inr (Sum.inr false)) else ((X.s_l1In v265.Steps 1 4).bind fun v279 => (bif (!v279) then some (Sum.inr (Sum.inr false)) else ((X.s_l1In v265.View 0 4).bind fun v282 => (bif (!v282) then some (Sum.inr (Sum.inr false)) else some (Sum.inl (W (x262 + 1)))))))))))))))) else some (Sum.inr (Sum.inl ()))) : Option (Int ⊕ (Unit ⊕ Bool)))) 0).bind fun y285 => (Sum.elim (fun (y287 : Unit) => ((X.s_l1In p0.Stack 1 4).bind fun v289 => (bif v289 then ((X.s_l1In p0.River 0 9).bind fun v292 => (bif v292 then ((X.s_l1In p0.Road 1 9).bind fun v295 => (bif v295 then ((X.s_l1In p0.Supply 0 20).bind fun v298 => (bif v298 then ((X.s_l1In p0.Turns 1 30).bind fun v301 => some v301) else some false)) else some false)) else some false)) else some false))) (fun (y288 : Bool) => some y288) y285))) (fun (y144 : Bool) => some y144) y141))))))
theorem s_rGood_ok (p0 : TRules) (r : Bool) (H : X.s_rGood p0 = some r) : FK 121 [.agg (eTRules p0)] (cB r) := by
 unfold X.s_rGood at H
 refine fi Tryz.f121 s_rGood_ir [(2, cB r)] [] glL Tryz.func121 ?_
 refine so [] [] [(1, pk 1)] [(1, va (eTRules p0))] id ?_
 refine seq_in ?_
 obtain ⟨v7, h8, H⟩ := oB H
 rcases oC H with ⟨c9, H⟩ | ⟨c9, H⟩
 ·refine sn ([.res (cB v7)] ++ rg 6 true []) [] [(18, cB true)] [] [] (fun t => lI p0.Terrains (aI (s_l1In_ok (p0.Terrains.length : Int) 1 6 v7 h8) (aG 6 c9 (t)))) ?_
  refine it rT ?_
  refine so [] [] [(2, cB false)] [] id ?_
  cases H
  exact er
 ·obtain ⟨v10, h11, H⟩ := oB H
  refine sn ([.res (cB v7)] ++ rg 4 false ([.res (cB v10)] ++ rg 2 false [])) [] [(18, cB (!v10))] [] [] (fun t => lI p0.Terrains (aI (s_l1In_ok (p0.Terrains.length : Int) 1 6 v7 h8) (aG 3 c9 (lI p0.Kinds (aI c9 (aI (s_l1In_ok (p0.Kinds.length : Int) 1 4 v10 h11) (aG 2 c9 (t)))))))) ?_
  rcases oC H with ⟨c12, H⟩ | ⟨c12, H⟩
  ·refine it c12 ?_
   refine so [] [] [(2, cB false)] [] id ?_
   cases H
   exact er
  ·refine jf c12 ?_
   refine sk ?_
   refine seq_in ?_
   refine sn [] [] [(20, dc 5 eTTerrain zTTerrain p0.Terrains), (21, cL p0.Terrains), (22, cI 0)] [] [] (fun t => lI p0.Terrains (t)) ?_
   refine ends_blk ?_
   obtain ⟨y141, h142, H⟩ := oB H
   refine tl [] [(1, pk 1), (20, dc 5 eTTerrain zTTerrain p0.Terrains), (21, cL p0.Terrains), (22, cI 0)] [(1, va (eTRules p0))] id ?_
   refine loop_in (fun (x : Int) => lit [(1, pk 1), (20, dc 5 eTTerrain zTTerrain p0.Terrains), (21, cL p0.Terrains), (22, cI x)] [(1, va (eTRules p0))]) (orJ (fun (z : Unit) => At (.exit 0) (lit [(1, pk 1)] [(1, va (eTRules p0))])) (fun (z : Bool) => At .ret (lit [(2, cB z)] []))) h142 ?_ ?_
   ·clear H h142
    intro x120 y0 H
    refine sn [] [] [(23, cB (decide (x120 < (p0.Terrains.length : Int))))] [] [] id ?_
    refine seq_in ?_
    rcases oC H with ⟨c122, H⟩ | ⟨c122, H⟩
    ·refine it c122 ?_
     refine sk ?_
     refine seq_in ?_
     refine ends_blk ?_
     obtain ⟨v123, h124, H⟩ := oB H
     refine sn [.cs (eTTerrain v123)] [] [(3, cI x120), (4, pk 4)] [] [(4, va (eTTerrain v123))] (a2 eTTerrain h124) ?_
     obtain ⟨v125, h126, H⟩ := oB H
     rcases oC H with ⟨c127, H⟩ | ⟨c127, H⟩
     ·refine sn ([.res (cB v125)] ++ rg 31 true []) [] [(66, cB true)] [] [] (fun t => aI (s_rName_ok v123.Name v125 h126) (aG 8 c127 (aG 23 rT (t)))) ?_
      refine it rT ?_
      refine so [] [] [(2, cB false)] [] id ?_
      refine ends_ret ?_
      cases H
      exact rsr
     ·obtain ⟨v128, h129, H⟩ := oB H
      rcases oC H with ⟨c130, H⟩ | ⟨c130, H⟩
      ·refine sn ([.res (cB v125)] ++ rg 5 false ([.res (cI v128)] ++ rg 3 false (rg 23 true []))) [] [(66, cB true)] [] [] (fun t => aI (s_rName_ok v123.Name v125 h126) (aG 5 c127 (aI (s_rTerrain_ok p0.Terrains v123.Name v128 h129) (aG 3 c127 (aG 8 c130 (aG 15 rT (t))))))) ?_
       refine it rT ?_
       refine so [] [] [(2, cB false)] [] id ?_
       refine ends_ret ?_
       cases H
       exact rsr
      ·rcases oC H with ⟨c131, H⟩ | ⟨c131, H⟩
       ·refine sn ([.res (cB v125)] ++ rg 5 false ([.res (cI v128)] ++ rg 11 false (rg 15 true []))) [] [(66, cB true)] [] [] (fun t => aI (s_rName_ok v123.Name v125 h126) (aG 5 c127 (aI (s_rTerrain_ok p0.Terrains v123.Name v128 h129) (aG 3 c127 (aG 3 c130 (lI v123.Cost (aG 3 c130 (lI p0.Kinds (aG 2 c130 (aG 5 c131 (aG 10 rT (t)))))))))))) ?_
        refine it rT ?_
        refine so [] [] [(2, cB false)] [] id ?_
        refine ends_ret ?_
        cases H
        exact rsr
       ·obtain ⟨v132, h133, H⟩ := oB H
        rcases oC H with ⟨c134, H⟩ | ⟨c134, H⟩
        ·refine sn ([.res (cB v125)] ++ rg 5 false ([.res (cI v128)] ++ rg 14 false ([.res (cB v132)] ++ rg 2 false (rg 10 true [])))) [] [(66, cB true)] [] [] (fun t => aI (s_rName_ok v123.Name v125 h126) (aG 5 c127 (aI (s_rTerrain_ok p0.Terrains v123.Name v128 h129) (aG 3 c127 (aG 3 c130 (lI v123.Cost (aG 3 c130 (lI p0.Kinds (aG 2 c130 (aG 3 c131 (aI (s_l1All_ok v123.Cost 0 9 v132 h133) (aG 2 c131 (aG 5 c134 (aG 5 rT (t))))))))))))))) ?_
         refine it rT ?_
         refine so [] [] [(2, cB false)] [] id ?_
         refine ends_ret ?_
         cases H
         exact rsr
        ·obtain ⟨v135, h136, H⟩ := oB H
         rcases oC H with ⟨c137, H⟩ | ⟨c137, H⟩
         ·refine sn ([.res (cB v125)] ++ rg 5 false ([.res (cI v128)] ++ rg 14 false ([.res (cB v132)] ++ rg 5 false ([.res (cB v135)] ++ rg 2 false (rg 5 true []))))) [] [(66, cB true)] [] [] (fun t => aI (s_rName_ok v123.Name v125 h126) (aG 5 c127 (aI (s_rTerrain_ok p0.Terrains v123.Name v128 h129) (aG 3 c127 (aG 3 c130 (lI v123.Cost (aG 3 c130 (lI p0.Kinds (aG 2 c130 (aG 3 c131 (aI (s_l1All_ok v123.Cost 0 9 v132 h133) (aG 2 c131 (aG 3 c134 (aI (s_l1In_ok v123.Shift (-3) 3 v135 h136) (aG 2 c134 (aG 5 c137 (t))))))))))))))))) ?_
          refine it rT ?_
          refine so [] [] [(2, cB false)] [] id ?_
          refine ends_ret ?_
          cases H
          exact rsr
         ·obtain ⟨v138, h139, H⟩ := oB H
          refine sn ([.res (cB v125)] ++ rg 5 false ([.res (cI v128)] ++ rg 14 false ([.res (cB v132)] ++ rg 5 false ([.res (cB v135)] ++ rg 5 false ([.res (cB v138)] ++ rg 2 false []))))) [] [(66, cB (!v138))] [] [] (fun t => aI (s_rName_ok v123.Name v125 h126) (aG 5 c127 (aI (s_rTerrain_ok p0.Terrains v123.Name v128 h129) (aG 3 c127 (aG 3 c130 (lI v123.Cost (aG 3 c130 (lI p0.Kinds (aG 2 c130 (aG 3 c131 (aI (s_l1All_ok v123.Cost 0 9 v132 h133) (aG 2 c131 (aG 3 c134 (aI (s_l1In_ok v123.Shift (-3) 3 v135 h136) (aG 2 c134 (aG 3 c137 (aI (s_l1In_ok v123.Height 0 3 v138 h139) (aG 2 c137 (t))))))))))))))))))) ?_
          rcases oC H with ⟨c140, H⟩ | ⟨c140, H⟩
          ·refine it c140 ?_
           refine so [] [] [(2, cB false)] [] id ?_
           refine ends_ret ?_
           cases H
           exact rsr
          ·refine jf c140 ?_
           refine sk ?_
           refine oo [] [] [(1, pk 1), (20, dc 5 eTTerrain zTTerrain p0.Terrains), (21, cL p0.Terrains), (22, cI (W (x120 + 1)))] [(1, va (eTRules p0))] id ?_
           cases H
           exact rr
    ·refine jf c122 ?_
     refine tl [] [(1, pk 1)] [(1, va (eTRules p0))] id ?_
     refine ends_exit ?_
     cases H
     exact rse
   ·clear h142
    cases y141 with
    | inl y143 =>
     replace H := ofInl H
     rintro e s ⟨rfl, rfl⟩
     change EndsI _ _ _ _ _ _
     refine seq_in ?_
     refine sn [] [] [(69, dc 6 eTKind zTKind p0.Kinds), (70, cL p0.Kinds), (71, cI 0)] [] [] (fun t => lI p0.Kinds (t)) ?_
     refine ends_blk ?_
     obtain ⟨y285, h286, H⟩ := oB H
     refine tl [] [(1, pk 1), (69, dc 6 eTKind zTKind p0.Kinds), (70, cL p0.Kinds), (71, cI 0)] [(1, va (eTRules p0))] id ?_
     refine loop_in (fun (x : Int) => lit [(1, pk 1), (69, dc 6 eTKind zTKind p0.Kinds), (70, cL p0.Kinds), (71, cI x)] [(1, va (eTRules p0))]) (orJ (fun (z : Unit) => At (.exit 2) (lit [(1, pk 1)] [(1, va (eTRules p0))])) (fun (z : Bool) => At .ret (lit [(2, cB z)] []))) h286 ?_ ?_
     ·clear H h286
      intro x262 y0 H
      refine sn [] [] [(72, cB (decide (x262 < (p0.Kinds.length : Int))))] [] [] id ?_
      refine seq_in ?_
      rcases oC H with ⟨c264, H⟩ | ⟨c264, H⟩
      ·refine it c264 ?_
       refine sk ?_
       refine seq_in ?_
       refine ends_blk ?_
       obtain ⟨v265, h266, H⟩ := oB H
       refine sn [.cs (eTKind v265)] [] [(5, cI x262), (6, pk 6)] [] [(6, va (eTKind v265))] (a2 eTKind h266) ?_
       obtain ⟨v267, h268, H⟩ := oB H
       rcases oC H with ⟨c269, H⟩ | ⟨c269, H⟩
       ·refine sn ([.res (cB v267)] ++ rg 28 true []) [] [(112, cB true)] [] [] (fun t => aI (s_rName_ok v265.Name v267 h268) (aG 8 c269 (aG 20 rT (t)))) ?_
        refine it rT ?_
        refine so [] [] [(2, cB false)] [] id ?_
        refine ends_ret ?_
        cases H
        exact rsr
       ·obtain ⟨v270, h271, H⟩ := oB H
        rcases oC H with ⟨c272, H⟩ | ⟨c272, H⟩
        ·refine sn ([.res (cB v267)] ++ rg 5 false ([.res (cI v270)] ++ rg 3 false (rg 20 true []))) [] [(112, cB true)] [] [] (fun t => aI (s_rName_ok v265.Name v267 h268) (aG 5 c269 (aI (s_rKind_ok p0.Kinds v265.Name v270 h271) (aG 3 c269 (aG 5 c272 (aG 15 rT (t))))))) ?_
         refine it rT ?_
         refine so [] [] [(2, cB false)] [] id ?_
         refine ends_ret ?_
         cases H
         exact rsr
        ·obtain ⟨v273, h274, H⟩ := oB H
         rcases oC H with ⟨c275, H⟩ | ⟨c275, H⟩
         ·refine sn ([.res (cB v267)] ++ rg 5 false ([.res (cI v270)] ++ rg 6 false ([.res (cB v273)] ++ rg 2 false (rg 15 true [])))) [] [(112, cB true)] [] [] (fun t => aI (s_rName_ok v265.Name v267 h268) (aG 5 c269 (aI (s_rKind_ok p0.Kinds v265.Name v270 h271) (aG 3 c269 (aG 3 c272 (aI (s_l1In_ok v265.Strength 1 9 v273 h274) (aG 2 c272 (aG 5 c275 (aG 10 rT (t)))))))))) ?_
          refine it rT ?_
          refine so [] [] [(2, cB false)] [] id ?_
          refine ends_ret ?_
          cases H
          exact rsr
         ·obtain ⟨v276, h277, H⟩ := oB H
          rcases oC H with ⟨c278, H⟩ | ⟨c278, H⟩
          ·refine sn ([.res (cB v267)] ++ rg 5 false ([.res (cI v270)] ++ rg 6 false ([.res (cB v273)] ++ rg 5 false ([.res (cB v276)] ++ rg 2 false (rg 10 true []))))) [] [(112, cB true)] [] [] (fun t => aI (s_rName_ok v265.Name v267 h268) (aG 5 c269 (aI (s_rKind_ok p0.Kinds v265.Name v270 h271) (aG 3 c269 (aG 3 c272 (aI (s_l1In_ok v265.Strength 1 9 v273 h274) (aG 2 c272 (aG 3 c275 (aI (s_l1In_ok v265.Moves 0 9 v276 h277) (aG 2 c275 (aG 5 c278 (aG 5 rT (t))))))))))))) ?_
           refine it rT ?_
           refine so [] [] [(2, cB false)] [] id ?_
           refine ends_ret ?_
           cases H
           exact rsr
          ·obtain ⟨v279, h280, H⟩ := oB H
           rcases oC H with ⟨c281, H⟩ | ⟨c281, H⟩
           ·refine sn ([.res (cB v267)] ++ rg 5 false ([.res (cI v270)] ++ rg 6 false ([.res (cB v273)] ++ rg 5 false ([.res (cB v276)] ++ rg 5 false ([.res (cB v279)] ++ rg 2 false (rg 5 true [])))))) [] [(112, cB true)] [] [] (fun t => aI (s_rName_ok v265.Name v267 h268) (aG 5 c269 (aI (s_rKind_ok p0.Kinds v265.Name v270 h271) (aG 3 c269 (aG 3 c272 (aI (s_l1In_ok v265.Strength 1 9 v273 h274) (aG 2 c272 (aG 3 c275 (aI (s_l1In_ok v265.Moves 0 9 v276 h277) (aG 2 c275 (aG 3 c278 (aI (s_l1In_ok v265.Steps 1 4 v279 h280) (aG 2 c278 (aG 5 c281 (t))))))))))))))) ?_
            refine it rT ?_
            refine so [] [] [(2, cB false)] [] id ?_
            refine ends_ret ?_
            cases H
            exact rsr
           ·obtain ⟨v282, h283, H⟩ := oB H
            refine sn ([.res (cB v267)] ++ rg 5 false ([.res (cI v270)] ++ rg 6 false ([.res (cB v273)] ++ rg 5 false ([.res (cB v276)] ++ rg 5 false ([.res (cB v279)] ++ rg 5 false ([.res (cB v282)] ++ rg 2 false [])))))) [] [(112, cB (!v282))] [] [] (fun t => aI (s_rName_ok v265.Name v267 h268) (aG 5 c269 (aI (s_rKind_ok p0.Kinds v265.Name v270 h271) (aG 3 c269 (aG 3 c272 (aI (s_l1In_ok v265.Strength 1 9 v273 h274) (aG 2 c272 (aG 3 c275 (aI (s_l1In_ok v265.Moves 0 9 v276 h277) (aG 2 c275 (aG 3 c278 (aI (s_l1In_ok v265.Steps 1 4 v279 h280) (aG 2 c278 (aG 3 c281 (aI (s_l1In_ok v265.View 0 4 v282 h283) (aG 2 c281 (t))))))))))))))))) ?_
            rcases oC H with ⟨c284, H⟩ | ⟨c284, H⟩
            ·refine it c284 ?_
             refine so [] [] [(2, cB false)] [] id ?_
             refine ends_ret ?_
             cases H
             exact rsr
            ·refine jf c284 ?_
             refine sk ?_
             refine oo [] [] [(1, pk 1), (69, dc 6 eTKind zTKind p0.Kinds), (70, cL p0.Kinds), (71, cI (W (x262 + 1)))] [(1, va (eTRules p0))] id ?_
             cases H
             exact rr
      ·refine jf c264 ?_
       refine tl [] [(1, pk 1)] [(1, va (eTRules p0))] id ?_
       refine ends_exit ?_
       cases H
       exact rse
     ·clear h286
      cases y285 with
      | inl y287 =>
       replace H := ofInl H
       rintro e s ⟨rfl, rfl⟩
       change EndsI _ _ _ _ _ _
       obtain ⟨v289, h290, H⟩ := oB H
       rcases oC H with ⟨c291, H⟩ | ⟨c291, H⟩
       ·obtain ⟨v292, h293, H⟩ := oB H
        rcases oC H with ⟨c294, H⟩ | ⟨c294, H⟩
        ·obtain ⟨v295, h296, H⟩ := oB H
         rcases oC H with ⟨c297, H⟩ | ⟨c297, H⟩
         ·obtain ⟨v298, h299, H⟩ := oB H
          rcases oC H with ⟨c300, H⟩ | ⟨c300, H⟩
          ·obtain ⟨v301, h302, H⟩ := oB H
           refine so ([.res (cB v289)] ++ rg 3 true ([.res (cB v292)] ++ rg 4 true ([.res (cB v295)] ++ rg 4 true ([.res (cB v298)] ++ rg 4 true [.res (cB v301), .g true])))) [] [(2, cB v301)] [] (fun t => aI (s_l1In_ok p0.Stack 1 4 v289 h290) (aG 3 c291 (aI (s_l1In_ok p0.River 0 9 v292 h293) (aI c291 (aG 3 c294 (aI (s_l1In_ok p0.Road 1 9 v295 h296) (aI c294 (aG 3 c297 (aI (s_l1In_ok p0.Supply 0 20 v298 h299) (aI c297 (aG 3 c300 (aI (s_l1In_ok p0.Turns 1 30 v301 h302) (aI c300 (t)))))))))))))) ?_
           cases H
           exact er
          ·refine so ([.res (cB v289)] ++ rg 3 true ([.res (cB v292)] ++ rg 4 true ([.res (cB v295)] ++ rg 4 true ([.res (cB v298), .g true] ++ rg 4 false [])))) [] [(2, cB false)] [] (fun t => aI (s_l1In_ok p0.Stack 1 4 v289 h290) (aG 3 c291 (aI (s_l1In_ok p0.River 0 9 v292 h293) (aI c291 (aG 3 c294 (aI (s_l1In_ok p0.Road 1 9 v295 h296) (aI c294 (aG 3 c297 (aI (s_l1In_ok p0.Supply 0 20 v298 h299) (aI c297 (aG 4 c300 (t)))))))))))) ?_
           cases H
           exact er
         ·refine so ([.res (cB v289)] ++ rg 3 true ([.res (cB v292)] ++ rg 4 true ([.res (cB v295), .g true] ++ rg 8 false []))) [] [(2, cB false)] [] (fun t => aI (s_l1In_ok p0.Stack 1 4 v289 h290) (aG 3 c291 (aI (s_l1In_ok p0.River 0 9 v292 h293) (aI c291 (aG 3 c294 (aI (s_l1In_ok p0.Road 1 9 v295 h296) (aI c294 (aG 4 c297 (aG 4 rF (t)))))))))) ?_
          cases H
          exact er
        ·refine so ([.res (cB v289)] ++ rg 3 true ([.res (cB v292), .g true] ++ rg 12 false [])) [] [(2, cB false)] [] (fun t => aI (s_l1In_ok p0.Stack 1 4 v289 h290) (aG 3 c291 (aI (s_l1In_ok p0.River 0 9 v292 h293) (aI c291 (aG 4 c294 (aG 8 rF (t))))))) ?_
         cases H
         exact er
       ·refine so ([.res (cB v289)] ++ rg 16 false []) [] [(2, cB false)] [] (fun t => aI (s_l1In_ok p0.Stack 1 4 v289 h290) (aG 4 c291 (aG 12 rF (t)))) ?_
        cases H
        exact er
      | inr y288 =>
       replace H := ofInr H
       rintro e s ⟨rfl, rfl⟩
       cases H
       exact qr
    | inr y144 =>
     replace H := ofInr H
     rintro e s ⟨rfl, rfl⟩
     cases H
     exact qr
def s_mSize_ir : S :=
 (sq [o 1 (.box 5 (.t 0)), o 2 (.mv (iv 0))]
 (sq [oa 3 0 1, ol 4 3, oa 5 1 1, ol 6 5, o 7 (.bin .mul (.t 4) (.t 6)), om 2 7]
 .ret))
noncomputable def X.s_mSize (p0 : TMap) : Option Int :=
 some (W (p0.Width * p0.Height))
theorem s_mSize_ok (p0 : TMap) (r : Int) (H : X.s_mSize p0 = some r) : FK 58 [.agg (eTMap p0)] (cI r) := by
 unfold X.s_mSize at H
 refine fi Tryz.f58 s_mSize_ir [(2, cI r)] [] glL Tryz.func58 ?_
 refine so [] [] [(1, pk 1)] [(1, va (eTMap p0))] id ?_
 refine so [] [] [(2, cI (W (p0.Width * p0.Height)))] [] id ?_
 cases H
 exact er
def s_mIndex_ir : S :=
 (sq [o 2 (.box 5 (.t 0)), o 3 (.box 2 (.t 1)), o 4 (.mv (iv 0))]
 (.seq (sq [oa 5 0 3, ol 6 5, oa 7 0 2, ol 8 7, o 9 (.bin .sub (.t 8) (iv 1)), o 10 (.call 26 [.t 6, .v (.int .i64 0), .t 9]), o 11 (.not (.t 10)), om 12 11, og 13 (.fad 1 (.t 3)) 12, og 14 (.load 1 false (.t 13)) 12, og 15 (.fad 1 (.t 2)) 12, og 16 (.load 1 false (.t 15)) 12, og 17 (.bin .sub (.t 16) (iv 1)) 12, og 18 (.call 26 [.t 14, .v (.int .i64 0), .t 17]) 12, og 19 (.not (.t 18)) 12, o 20 (.pick (.t 12) bT (.t 19))]
 (.ite (.t 20) (sq [o 4 (.mv (.v (.int .i64 (-1))))]
  .ret)
 .skip))
 (sq [oa 21 1 3, ol 22 21, oa 23 0 2, ol 24 23, o 25 (.bin .mul (.t 22) (.t 24)), oa 26 0 3, ol 27 26, o 28 (.bin .add (.t 25) (.t 27)), om 4 28]
 .ret)))
noncomputable def X.s_mIndex (p0 : TMap) (p1 : THex) : Option Int :=
 ((X.s_l1In p1.Q 0 (W (p0.Width - 1))).bind fun v7 => (bif (!v7) then some (-1) else ((X.s_l1In p1.R 0 (W (p0.Height - 1))).bind fun v10 => (bif (!v10) then some (-1) else some (W ((W (p1.R * p0.Width)) + p1.Q))))))
theorem s_mIndex_ok (p0 : TMap) (p1 : THex) (r : Int) (H : X.s_mIndex p0 p1 = some r) : FK 102 [.agg (eTMap p0), .agg (eTHex p1)] (cI r) := by
 unfold X.s_mIndex at H
 refine fi Tryz.f102 s_mIndex_ir [(4, cI r)] [] glL Tryz.func102 ?_
 refine so [] [] [(2, pk 2), (3, pk 3)] [(2, va (eTMap p0)), (3, va (eTHex p1))] id ?_
 refine seq_in ?_
 obtain ⟨v7, h8, H⟩ := oB H
 rcases oC H with ⟨c9, H⟩ | ⟨c9, H⟩
 ·refine sn ([.res (cB v7)] ++ rg 8 true []) [] [(20, cB true)] [] [] (fun t => aI (s_l1In_ok p1.Q 0 (W (p0.Width - 1)) v7 h8) (aG 8 c9 (t))) ?_
  refine it rT ?_
  refine so [] [] [(4, cI (-1))] [] id ?_
  cases H
  exact er
 ·obtain ⟨v10, h11, H⟩ := oB H
  refine sn ([.res (cB v7)] ++ rg 6 false ([.res (cB v10)] ++ rg 2 false [])) [] [(20, cB (!v10))] [] [] (fun t => aI (s_l1In_ok p1.Q 0 (W (p0.Width - 1)) v7 h8) (aG 6 c9 (aI (s_l1In_ok p1.R 0 (W (p0.Height - 1)) v10 h11) (aG 2 c9 (t))))) ?_
  rcases oC H with ⟨c12, H⟩ | ⟨c12, H⟩
  ·refine it c12 ?_
   refine so [] [] [(4, cI (-1))] [] id ?_
   cases H
   exact er
  ·refine jf c12 ?_
   refine sk ?_
   refine so [] [] [(4, cI (W ((W (p1.R * p0.Width)) + p1.Q)))] [] id ?_
   cases H
   exact er
def s_hStep_ir : S :=
 (sq [o 2 (.box 2 (.t 0)), o 4 (.alloc [.int .i64 0, .int .i64 0])]
 (.seq (.drw [(0, 2), (1, 2), (0, 3), (1, 3), (2, 3), (0, 4), (1, 4), (0, 5), (1, 5), (0, 7), (1, 7), (2, 7), (3, 7), (4, 7), (5, 7), (6, 7), (0, 8), (1, 8), (2, 8), (3, 8), (4, 8), (5, 8), (6, 8), (0, 9), (1, 9), (2, 9), (3, 9), (4, 9), (5, 9), (6, 9), (7, 9), (8, 9), (0, 10), (1, 10), (2, 10), (3, 10), (4, 10), (5, 10), (6, 10), (7, 10), (8, 10), (9, 10), (0, 11), (1, 11), (2, 11), (3, 11), (4, 11), (5, 11), (6, 11), (7, 11), (8, 11), (0, 12), (1, 12), (2, 12), (3, 12), (4, 12), (5, 12), (6, 12), (7, 12), (8, 12), (0, 13), (1, 13), (2, 13), (3, 13), (4, 13), (5, 13), (6, 13)] [oa 5 0 2, ol 6 5, o 7 (.bsl 1 [.v (.int .i64 1), .v (.int .i64 1), .v (.int .i64 0), .v (.int .i64 (-1)), .v (.int .i64 (-1)), .v (.int .i64 0)]), om 8 1, o 9 (.iad 1 (.t 7) (.t 8)), ol 10 9, o 11 (.bin .add (.t 6) (.t 10)), oa 12 1 2, ol 13 12, o 14 (.bsl 1 [.v (.int .i64 0), .v (.int .i64 (-1)), .v (.int .i64 (-1)), .v (.int .i64 0), .v (.int .i64 1), .v (.int .i64 1)]), om 15 1, o 16 (.iad 1 (.t 14) (.t 15)), ol 17 16, o 18 (.bin .add (.t 13) (.t 17)), o 19 (.build [.int .i64 0, .int .i64 0] [(0, 1, .t 11), (1, 1, .t 18)]), os 2 4 19])
 .ret))
noncomputable def X.s_hStep (p0 : THex) (p1 : Int) : Option THex :=
 (if 0 ≤ p1 ∧ p1 < (([1, 1, 0, -1, -1, 0] : List Int).length : Int) then (if 0 ≤ p1 ∧ p1 < (([0, -1, -1, 0, 1, 1] : List Int).length : Int) then some (THex.mk (W (p0.Q + (([1, 1, 0, -1, -1, 0] : List Int).getD p1.toNat zI))) (W (p0.R + (([0, -1, -1, 0, 1, 1] : List Int).getD p1.toNat zI)))) else none) else none)
theorem s_hStep_ok (p0 : THex) (p1 : Int) (r : THex) (H : X.s_hStep p0 p1 = some r) : FK 103 [.agg (eTHex p0), cI p1] (.agg (eTHex r)) := by
 unfold X.s_hStep at H
 refine fi Tryz.f103 s_hStep_ir [(4, pk 4)] [(4, va (eTHex r))] glL Tryz.func103 ?_
 refine sn [] [] [(2, pk 2), (4, pk 4)] [] [(2, va (eTHex p0)), (4, .var [jI 0, jI 0] false)] id ?_
 obtain ⟨g1, H⟩ := oI H
 obtain ⟨g2, H⟩ := oI H
 refine xn [.no, fh eI zI ([1, 1, 0, -1, -1, 0] : List Int), .no, .no, fh eI zI ([0, -1, -1, 0, 1, 1] : List Int), .no] [] [] [4] [(4, .var [jI (W (p0.Q + (([1, 1, 0, -1, -1, 0] : List Int).getD p1.toNat zI))), jI (W (p0.R + (([0, -1, -1, 0, 1, 1] : List Int).getD p1.toNat zI)))] false)] (fun t => aI (rfl : ([1, 1, 0, -1, -1, 0] : List Int).length = 6) (aI rT (aI (fF_lit eI zI ([1, 1, 0, -1, -1, 0] : List Int)) (aI g1 (aI (nat_lt g1) (aI rN (aI (rfl : ([0, -1, -1, 0, 1, 1] : List Int).length = 6) (aI rT (aI (fF_lit eI zI ([0, -1, -1, 0, 1, 1] : List Int)) (aI g2 (aI (nat_lt g2) (aI rN (t))))))))))))) ?_
 refine tl [] [(4, pk 4)] [(4, .var [jI (W (p0.Q + (([1, 1, 0, -1, -1, 0] : List Int).getD p1.toNat zI))), jI (W (p0.R + (([0, -1, -1, 0, 1, 1] : List Int).getD p1.toNat zI)))] false)] id ?_
 cases H
 exact er
def s_mHex_ir : S :=
 (sq [o 2 (.box 5 (.t 0)), o 4 (.alloc [.int .i64 0, .int .i64 0])]
 (.seq (.drw [(0, 1), (0, 2), (0, 4), (1, 4), (2, 4), (3, 4), (0, 5), (1, 5), (2, 5), (3, 5), (4, 5), (0, 6), (1, 6), (2, 6), (3, 6), (4, 6), (0, 7), (1, 7), (2, 7), (3, 7)] [om 5 1, oa 6 0 2, ol 7 6, o 8 (.bin .rem (.t 5) (.t 7)), om 9 1, oa 10 0 2, ol 11 10, o 12 (.bin .quo (.t 9) (.t 11)), o 13 (.build [.int .i64 0, .int .i64 0] [(0, 1, .t 8), (1, 1, .t 12)]), os 2 4 13])
 .ret))
noncomputable def X.s_mHex (p0 : TMap) (p1 : Int) : Option THex :=
 (if p0.Width ≠ 0 then (if p0.Width ≠ 0 then some (THex.mk (Int.tmod p1 p0.Width) (W (Int.tdiv p1 p0.Width))) else none) else none)
theorem s_mHex_ok (p0 : TMap) (p1 : Int) (r : THex) (H : X.s_mHex p0 p1 = some r) : FK 104 [.agg (eTMap p0), cI p1] (.agg (eTHex r)) := by
 unfold X.s_mHex at H
 refine fi Tryz.f104 s_mHex_ir [(4, pk 4)] [(4, va (eTHex r))] glL Tryz.func104 ?_
 refine sn [] [] [(2, pk 2), (4, pk 4)] [] [(2, va (eTMap p0)), (4, .var [jI 0, jI 0] false)] id ?_
 obtain ⟨g1, H⟩ := oI H
 obtain ⟨g2, H⟩ := oI H
 refine xn [] [] [] [4] [(4, .var [jI (Int.tmod p1 p0.Width), jI (W (Int.tdiv p1 p0.Width))] false)] (fun t => aI g1 (aI g2 (t))) ?_
 refine tl [] [(4, pk 4)] [(4, .var [jI (Int.tmod p1 p0.Width), jI (W (Int.tdiv p1 p0.Width))] false)] id ?_
 cases H
 exact er
def s_mNext_ir : S :=
 (sq [o 3 (.box 5 (.t 0)), o 6 (.mv (iv 0))]
 (.seq (.drw [(0, 1), (0, 2), (1, 2), (0, 3), (0, 4), (1, 4), (2, 4), (3, 4), (0, 5)] [o 7 (.load 5 true (.t 3)), o 8 (.load 5 true (.t 3)), om 9 1, o 10 (.call 104 [.t 8, .t 9]), om 11 2, o 12 (.call 103 [.t 10, .t 11]), o 13 (.call 102 [.t 7, .t 12]), om 6 13])
 .ret))
noncomputable def X.s_mNext (p0 : TMap) (p1 : Int) (p2 : Int) : Option Int :=
 ((X.s_mHex p0 p1).bind fun v1 => ((X.s_hStep v1 p2).bind fun v3 => ((X.s_mIndex p0 v3).bind fun v5 => some v5)))
theorem s_mNext_ok (p0 : TMap) (p1 : Int) (p2 : Int) (r : Int) (H : X.s_mNext p0 p1 p2 = some r) : FK 60 [.agg (eTMap p0), cI p1, cI p2] (cI r) := by
 unfold X.s_mNext at H
 refine fi Tryz.f60 s_mNext_ir [(6, cI r)] [] glL Tryz.func60 ?_
 refine sn [] [] [(3, pk 3)] [] [(3, va (eTMap p0))] id ?_
 obtain ⟨v1, h2, H⟩ := oB H
 obtain ⟨v3, h4, H⟩ := oB H
 obtain ⟨v5, h6, H⟩ := oB H
 refine sx [.res (.agg (eTHex v1)), .res (.agg (eTHex v3)), .res (cI v5)] [] [(6, cI v5)] [] (fun t => aI (s_mHex_ok p0 p1 v1 h2) (aI trivial (aI rN (aI (s_hStep_ok v1 p2 v3 h4) (aI trivial (aI rN (aI (s_mIndex_ok p0 v3 v5 h6) (aI trivial (aI rN (t)))))))))) ?_
 cases H
 exact er
def s_l1Rising_ir : S :=
 (sq [o 6 (.mv bF)]
 (.seq (sq [om 9 0, o 10 (.len (.t 9)), o 11 (.mv (iv 0))]
 (.blk 0 (.loop (sq [o 12 (.bin .lss (.t 11) (.t 10))]
   (.seq (.ite (.t 12) .skip
   (.exit 0))
   (.seq (.blk 1 (sq [om 13 11, o 14 (.iad 1 (.t 9) (.t 11)), ol 15 14, om 7 13, om 8 15]
    (sq [om 16 8, om 17 1, om 18 2, o 19 (.call 26 [.t 16, .t 17, .t 18]), o 20 (.not (.t 19)), om 21 20, og 22 (.mv (.t 7)) 21, og 23 (.bin .gtr (.t 22) (iv 0)) 21, og 24 (.mv (.t 23)) 21, oh 25 (.mv (.t 0)) 24, oh 26 (.mv (.t 7)) 24, oh 27 (.bin .sub (.t 26) (iv 1)) 24, oh 28 (.iad 1 (.t 25) (.t 27)) 24, oh 29 (.load 1 false (.t 28)) 24, oh 30 (.mv (.t 8)) 24, oh 31 (.bin .geq (.t 29) (.t 30)) 24, og 32 (.pick (.t 24) (.t 31) bF) 21, o 33 (.pick (.t 21) bT (.t 32))]
    (.ite (.t 33) (sq [o 6 (.mv bF)]
     .ret)
    .skip))))
   (.ops [o 34 (.bin .add (.t 11) (iv 1)), om 11 34])))))))
 (sq [o 6 (.mv bT)]
 .ret)))
noncomputable def X.s_l1Rising (p0 : (List Int)) (p1 : Int) (p2 : Int) : Option Bool :=
 ((loop (fun (x24 : Int) => ((bif (decide (x24 < (p0.length : Int))) then ((at' zI p0 x24).bind fun v27 => ((X.s_l1In v27 p1 p2).bind fun v29 => (bif (!v29) then some (Sum.inr (Sum.inr false)) else (bif (decide (x24 > 0)) then ((at' zI p0 (W (x24 - 1))).bind fun v33 => (bif (decide (v33 ≥ v27)) then some (Sum.inr (Sum.inr false)) else some (Sum.inl (W (x24 + 1))))) else some (Sum.inl (W (x24 + 1))))))) else some (Sum.inr (Sum.inl ()))) : Option (Int ⊕ (Unit ⊕ Bool)))) 0).bind fun y36 => (Sum.elim (fun (y38 : Unit) => some true) (fun (y39 : Bool) => some y39) y36))
theorem s_l1Rising_ok (p0 : (List Int)) (p1 : Int) (p2 : Int) (r : Bool) (H : X.s_l1Rising p0 p1 p2 = some r) : FK 178 [.c (dat 1 eI zI p0), cI p1, cI p2] (cB r) := by
 unfold X.s_l1Rising at H
 refine fi Tryz.f178 s_l1Rising_ir [(6, cB r)] [] glL Tryz.func178 ?_
 refine sn [] [] [] [] [] id ?_
 refine seq_in ?_
 refine sn [] [] [(9, dc 1 eI zI p0), (10, cL p0), (11, cI 0)] [] [] (fun t => lI p0 (t)) ?_
 refine ends_blk ?_
 obtain ⟨y36, h37, H⟩ := oB H
 refine tl [] [(0, dc 1 eI zI p0), (1, cI p1), (2, cI p2), (9, dc 1 eI zI p0), (10, cL p0), (11, cI 0)] [] id ?_
 refine loop_in (fun (x : Int) => lit [(0, dc 1 eI zI p0), (1, cI p1), (2, cI p2), (9, dc 1 eI zI p0), (10, cL p0), (11, cI x)] []) (orJ (fun (z : Unit) => At (.exit 0) (lit [] [])) (fun (z : Bool) => At .ret (lit [(6, cB z)] []))) h37 ?_ ?_
 ·clear H h37
  intro x24 y0 H
  refine sn [] [] [(12, cB (decide (x24 < (p0.length : Int))))] [] [] id ?_
  refine seq_in ?_
  rcases oC H with ⟨c26, H⟩ | ⟨c26, H⟩
  ·refine it c26 ?_
   refine sk ?_
   refine seq_in ?_
   refine ends_blk ?_
   obtain ⟨v27, h28, H⟩ := oB H
   refine sn [.cs (eI v27)] [] [(7, cI x24), (8, cI v27)] [] [] (a2 eI h28) ?_
   obtain ⟨v29, h30, H⟩ := oB H
   rcases oC H with ⟨c31, H⟩ | ⟨c31, H⟩
   ·refine sn ([.res (cB v29)] ++ rg 5 true []) [] [(33, cB true)] [] [] (fun t => aI (s_l1In_ok v27 p1 p2 v29 h30) (aG 5 c31 (t))) ?_
    refine it rT ?_
    refine so [] [] [(6, cB false)] [] id ?_
    refine ends_ret ?_
    cases H
    exact rsr
   ·rcases oC H with ⟨c32, H⟩ | ⟨c32, H⟩
    ·obtain ⟨v33, h34, H⟩ := oB H
     refine sn ([.res (cB v29)] ++ rg 3 false (rg 4 true ([.cs (eI v33)] ++ rg 3 true [.g false, .g true, .g false]))) [] [(33, cB (decide (v33 ≥ v27)))] [] [] (fun t => aI (s_l1In_ok v27 p1 p2 v29 h30) (aG 3 c31 (aG 4 c32 ((a2 eI h34 (aG 3 c32 (aI c31 (aI c32 (aI c31 (t)))))))))) ?_
     rcases oC H with ⟨c35, H⟩ | ⟨c35, H⟩
     ·refine it c35 ?_
      refine so [] [] [(6, cB false)] [] id ?_
      refine ends_ret ?_
      cases H
      exact rsr
     ·refine jf c35 ?_
      refine sk ?_
      refine oo [] [] [(0, dc 1 eI zI p0), (1, cI p1), (2, cI p2), (9, dc 1 eI zI p0), (10, cL p0), (11, cI (W (x24 + 1)))] [] id ?_
      cases H
      exact rr
    ·refine sn ([.res (cB v29)] ++ rg 13 false []) [] [(33, cB false)] [] [] (fun t => aI (s_l1In_ok v27 p1 p2 v29 h30) (aG 3 c31 (aG 7 c32 (aI c31 (aI c32 (aI c31 (t))))))) ?_
     refine jf rF ?_
     refine sk ?_
     refine oo [] [] [(0, dc 1 eI zI p0), (1, cI p1), (2, cI p2), (9, dc 1 eI zI p0), (10, cL p0), (11, cI (W (x24 + 1)))] [] id ?_
     cases H
     exact rr
  ·refine jf c26 ?_
   refine tl [] [] [] id ?_
   refine ends_exit ?_
   cases H
   exact rse
 ·clear h37
  cases y36 with
  | inl y38 =>
   replace H := ofInl H
   rintro e s ⟨rfl, rfl⟩
   change EndsI _ _ _ _ _ _
   refine so [] [] [(6, cB true)] [] id ?_
   cases H
   exact er
  | inr y39 =>
   replace H := ofInr H
   rintro e s ⟨rfl, rfl⟩
   cases H
   exact qr
def s_mEdges_ir : S :=
 (sq [o 2 (.box 5 (.t 0)), o 4 (.mv bF)]
 (.seq (sq [om 7 1, o 8 (.len (.t 7)), o 9 (.mv (iv 0))]
 (.blk 0 (.loop (sq [o 10 (.bin .lss (.t 9) (.t 8))]
   (.seq (.ite (.t 10) .skip
   (.exit 0))
   (.seq (.blk 1 (sq [o 11 (.iad 1 (.t 7) (.t 9)), ol 12 11, om 6 12]
    (sq [om 13 6, o 14 (.load 5 true (.t 2)), o 15 (.call 58 [.t 14]), o 16 (.bin .mul (iv 3) (.t 15)), o 17 (.bin .sub (.t 16) (iv 1)), o 18 (.call 26 [.t 13, .v (.int .i64 0), .t 17]), o 19 (.not (.t 18)), om 20 19, og 21 (.load 5 true (.t 2)) 20, og 22 (.mv (.t 6)) 20, og 23 (.bin .quo (.t 22) (iv 3)) 20, og 24 (.mv (.t 6)) 20, og 25 (.bin .rem (.t 24) (iv 3)) 20, og 26 (.call 60 [.t 21, .t 23, .t 25]) 20, og 27 (.bin .lss (.t 26) (iv 0)) 20, o 28 (.pick (.t 20) bT (.t 27))]
    (.ite (.t 28) (sq [o 4 (.mv bF)]
     .ret)
    .skip))))
   (.ops [o 29 (.bin .add (.t 9) (iv 1)), om 9 29])))))))
 (sq [om 30 1, o 31 (.load 5 true (.t 2)), o 32 (.call 58 [.t 31]), o 33 (.bin .mul (iv 3) (.t 32)), o 34 (.bin .sub (.t 33) (iv 1)), o 35 (.call 178 [.t 30, .v (.int .i64 0), .t 34]), om 4 35]
 .ret)))
noncomputable def X.s_mEdges (p0 : TMap) (p1 : (List Int)) : Option Bool :=
 ((loop (fun (x68 : Int) => ((bif (decide (x68 < (p1.length : Int))) then ((at' zI p1 x68).bind fun v71 => ((X.s_mSize p0).bind fun v73 => ((X.s_l1In v71 0 (W ((W (3 * v73)) - 1))).bind fun v75 => (bif (!v75) then some (Sum.inr (Sum.inr false)) else ((X.s_mNext p0 (W (Int.tdiv v71 3)) (Int.tmod v71 3)).bind fun v78 => (bif (decide (v78 < 0)) then some (Sum.inr (Sum.inr false)) else some (Sum.inl (W (x68 + 1))))))))) else some (Sum.inr (Sum.inl ()))) : Option (Int ⊕ (Unit ⊕ Bool)))) 0).bind fun y81 => (Sum.elim (fun (y83 : Unit) => ((X.s_mSize p0).bind fun v85 => ((X.s_l1Rising p1 0 (W ((W (3 * v85)) - 1))).bind fun v87 => some v87))) (fun (y84 : Bool) => some y84) y81))
theorem s_mEdges_ok (p0 : TMap) (p1 : (List Int)) (r : Bool) (H : X.s_mEdges p0 p1 = some r) : FK 152 [.agg (eTMap p0), .c (dat 1 eI zI p1)] (cB r) := by
 unfold X.s_mEdges at H
 refine fi Tryz.f152 s_mEdges_ir [(4, cB r)] [] glL Tryz.func152 ?_
 refine sn [] [] [(2, pk 2)] [] [(2, va (eTMap p0))] id ?_
 refine seq_in ?_
 refine sn [] [] [(7, dc 1 eI zI p1), (8, cL p1), (9, cI 0)] [] [] (fun t => lI p1 (t)) ?_
 refine ends_blk ?_
 obtain ⟨y81, h82, H⟩ := oB H
 refine tl [] [(1, dc 1 eI zI p1), (2, pk 2), (7, dc 1 eI zI p1), (8, cL p1), (9, cI 0)] [(2, va (eTMap p0))] id ?_
 refine loop_in (fun (x : Int) => lit [(1, dc 1 eI zI p1), (2, pk 2), (7, dc 1 eI zI p1), (8, cL p1), (9, cI x)] [(2, va (eTMap p0))]) (orJ (fun (z : Unit) => At (.exit 0) (lit [(1, dc 1 eI zI p1), (2, pk 2)] [(2, va (eTMap p0))])) (fun (z : Bool) => At .ret (lit [(4, cB z)] []))) h82 ?_ ?_
 ·clear H h82
  intro x68 y0 H
  refine sn [] [] [(10, cB (decide (x68 < (p1.length : Int))))] [] [] id ?_
  refine seq_in ?_
  rcases oC H with ⟨c70, H⟩ | ⟨c70, H⟩
  ·refine it c70 ?_
   refine sk ?_
   refine seq_in ?_
   refine ends_blk ?_
   obtain ⟨v71, h72, H⟩ := oB H
   refine sn [.cs (eI v71)] [] [(6, cI v71)] [] [] (a2 eI h72) ?_
   obtain ⟨v73, h74, H⟩ := oB H
   obtain ⟨v75, h76, H⟩ := oB H
   rcases oC H with ⟨c77, H⟩ | ⟨c77, H⟩
   ·refine sn ([.res (cI v73), .res (cB v75)] ++ rg 8 true []) [] [(28, cB true)] [] [] (fun t => aI (s_mSize_ok p0 v73 h74) (aI (s_l1In_ok v71 0 (W ((W (3 * v73)) - 1)) v75 h76) (aG 8 c77 (t)))) ?_
    refine it rT ?_
    refine so [] [] [(4, cB false)] [] id ?_
    refine ends_ret ?_
    cases H
    exact rsr
   ·obtain ⟨v78, h79, H⟩ := oB H
    refine sn ([.res (cI v73), .res (cB v75)] ++ rg 6 false ([.res (cI v78)] ++ rg 2 false [])) [] [(28, cB (decide (v78 < 0)))] [] [] (fun t => aI (s_mSize_ok p0 v73 h74) (aI (s_l1In_ok v71 0 (W ((W (3 * v73)) - 1)) v75 h76) (aG 3 c77 (aI (by decide : (3 : Int) ≠ 0) (aG 2 c77 (aI (by decide : (3 : Int) ≠ 0) (aI c77 (aI (s_mNext_ok p0 (W (Int.tdiv v71 3)) (Int.tmod v71 3) v78 h79) (aG 2 c77 (t)))))))))) ?_
    rcases oC H with ⟨c80, H⟩ | ⟨c80, H⟩
    ·refine it c80 ?_
     refine so [] [] [(4, cB false)] [] id ?_
     refine ends_ret ?_
     cases H
     exact rsr
    ·refine jf c80 ?_
     refine sk ?_
     refine oo [] [] [(1, dc 1 eI zI p1), (2, pk 2), (7, dc 1 eI zI p1), (8, cL p1), (9, cI (W (x68 + 1)))] [(2, va (eTMap p0))] id ?_
     cases H
     exact rr
  ·refine jf c70 ?_
   refine tl [] [(1, dc 1 eI zI p1), (2, pk 2)] [(2, va (eTMap p0))] id ?_
   refine ends_exit ?_
   cases H
   exact rse
 ·clear h82
  cases y81 with
  | inl y83 =>
   replace H := ofInl H
   rintro e s ⟨rfl, rfl⟩
   change EndsI _ _ _ _ _ _
   obtain ⟨v85, h86, H⟩ := oB H
   obtain ⟨v87, h88, H⟩ := oB H
   refine so [.res (cI v85), .res (cB v87)] [] [(4, cB v87)] [] (fun t => aI (s_mSize_ok p0 v85 h86) (aI (s_l1Rising_ok p1 0 (W ((W (3 * v85)) - 1)) v87 h88) (t))) ?_
   cases H
   exact er
  | inr y84 =>
   replace H := ofInr H
   rintro e s ⟨rfl, rfl⟩
   cases H
   exact qr
def s_mGood_ir : S :=
 (sq [o 1 (.box 5 (.t 0)), o 2 (.mv bF)]
 (.seq (.drw [(9, 12), (10, 12), (11, 12), (9, 13), (10, 13), (11, 13), (22, 23), (22, 24), (28, 29), (28, 30)] [oa 3 0 1, ol 4 3, o 5 (.call 26 [.t 4, .v (.int .i64 1), .v (.int .i64 10)]), om 6 5, oh 7 (.fad 1 (.t 1)) 6, oh 8 (.load 1 false (.t 7)) 6, oh 9 (.call 26 [.t 8, .v (.int .i64 1), .v (.int .i64 10)]) 6, o 10 (.pick (.t 6) (.t 9) bF), om 11 10, oh 12 (.fad 2 (.t 1)) 11, oh 13 (.load 1 false (.t 12)) 11, oh 14 (.len (.t 13)) 11, oh 15 (.load 5 true (.t 1)) 11, oh 16 (.call 58 [.t 15]) 11, oh 17 (.bin .eql (.t 14) (.t 16)) 11, o 18 (.pick (.t 11) (.t 17) bF), om 19 18, oh 20 (.fad 2 (.t 1)) 19, oh 21 (.load 1 false (.t 20)) 19, oh 22 (.call 123 [.t 21, .v (.int .i64 0), .v (.int .i64 5)]) 19, o 23 (.pick (.t 19) (.t 22) bF), om 24 23, oh 25 (.load 5 true (.t 1)) 24, oh 26 (.fad 3 (.t 1)) 24, oh 27 (.load 1 false (.t 26)) 24, oh 28 (.call 152 [.t 25, .t 27]) 24, o 29 (.pick (.t 24) (.t 28) bF), om 30 29, oh 31 (.load 5 true (.t 1)) 30, oh 32 (.fad 4 (.t 1)) 30, oh 33 (.load 1 false (.t 32)) 30, oh 34 (.call 152 [.t 31, .t 33]) 30, o 35 (.pick (.t 30) (.t 34) bF), om 2 35])
 .ret))
noncomputable def X.s_mGood (p0 : TMap) : Option Bool :=
 ((X.s_l1In p0.Width 1 10).bind fun v1 => (bif v1 then ((X.s_l1In p0.Height 1 10).bind fun v4 => (bif v4 then ((X.s_mSize p0).bind fun v7 => (bif ((p0.Terrain.length : Int) == v7) then ((X.s_l1All p0.Terrain 0 5).bind fun v10 => (bif v10 then ((X.s_mEdges p0 p0.Rivers).bind fun v13 => (bif v13 then ((X.s_mEdges p0 p0.Roads).bind fun v16 => some v16) else some false)) else some false)) else some false)) else some false)) else some false))
theorem s_mGood_ok (p0 : TMap) (r : Bool) (H : X.s_mGood p0 = some r) : FK 122 [.agg (eTMap p0)] (cB r) := by
 unfold X.s_mGood at H
 refine fi Tryz.f122 s_mGood_ir [(2, cB r)] [] glL Tryz.func122 ?_
 refine so [] [] [(1, pk 1)] [(1, va (eTMap p0))] id ?_
 obtain ⟨v1, h2, H⟩ := oB H
 rcases oC H with ⟨c3, H⟩ | ⟨c3, H⟩
 ·obtain ⟨v4, h5, H⟩ := oB H
  rcases oC H with ⟨c6, H⟩ | ⟨c6, H⟩
  ·obtain ⟨v7, h8, H⟩ := oB H
   rcases oC H with ⟨c9, H⟩ | ⟨c9, H⟩
   ·obtain ⟨v10, h11, H⟩ := oB H
    rcases oC H with ⟨c12, H⟩ | ⟨c12, H⟩
    ·obtain ⟨v13, h14, H⟩ := oB H
     rcases oC H with ⟨c15, H⟩ | ⟨c15, H⟩
     ·obtain ⟨v16, h17, H⟩ := oB H
      refine sx ([.res (cB v1)] ++ rg 3 true ([.res (cB v4)] ++ rg 6 true ([.res (cI v7)] ++ rg 5 true ([.res (cB v10)] ++ rg 5 true ([.res (cB v13)] ++ rg 5 true [.res (cB v16), .g true]))))) [] [(2, cB v16)] [] (fun t => aI (s_l1In_ok p0.Width 1 10 v1 h2) (aI trivial (aI rN (aG 3 c3 (aI (s_l1In_ok p0.Height 1 10 v4 h5) (aI trivial (aI rN (aI c3 (aG 5 c6 (aI (s_mSize_ok p0 v7 h8) (aI trivial (aI rN (aG 2 c6 (aG 3 c9 (aI (s_l1All_ok p0.Terrain 0 5 v10 h11) (aI trivial (aI rN (aI c9 (aG 4 c12 (aI (s_mEdges_ok p0 p0.Rivers v13 h14) (aI trivial (aI rN (aI c12 (aG 4 c15 (aI (s_mEdges_ok p0 p0.Roads v16 h17) (aI trivial (aI rN (aI c15 (t))))))))))))))))))))))))))))) ?_
      cases H
      exact er
     ·refine sx ([.res (cB v1)] ++ rg 3 true ([.res (cB v4)] ++ rg 6 true ([.res (cI v7)] ++ rg 5 true ([.res (cB v10)] ++ rg 5 true ([.res (cB v13), .g true] ++ rg 5 false []))))) [] [(2, cB false)] [] (fun t => aI (s_l1In_ok p0.Width 1 10 v1 h2) (aI trivial (aI rN (aG 3 c3 (aI (s_l1In_ok p0.Height 1 10 v4 h5) (aI trivial (aI rN (aI c3 (aG 5 c6 (aI (s_mSize_ok p0 v7 h8) (aI trivial (aI rN (aG 2 c6 (aG 3 c9 (aI (s_l1All_ok p0.Terrain 0 5 v10 h11) (aI trivial (aI rN (aI c9 (aG 4 c12 (aI (s_mEdges_ok p0 p0.Rivers v13 h14) (aI trivial (aI rN (aI c12 (aG 5 c15 (t))))))))))))))))))))))))) ?_
      cases H
      exact er
    ·refine sx ([.res (cB v1)] ++ rg 3 true ([.res (cB v4)] ++ rg 6 true ([.res (cI v7)] ++ rg 5 true ([.res (cB v10), .g true] ++ rg 10 false [])))) [] [(2, cB false)] [] (fun t => aI (s_l1In_ok p0.Width 1 10 v1 h2) (aI trivial (aI rN (aG 3 c3 (aI (s_l1In_ok p0.Height 1 10 v4 h5) (aI trivial (aI rN (aI c3 (aG 5 c6 (aI (s_mSize_ok p0 v7 h8) (aI trivial (aI rN (aG 2 c6 (aG 3 c9 (aI (s_l1All_ok p0.Terrain 0 5 v10 h11) (aI trivial (aI rN (aI c9 (aG 5 c12 (aG 5 rF (t))))))))))))))))))))) ?_
     cases H
     exact er
   ·refine sx ([.res (cB v1)] ++ rg 3 true ([.res (cB v4)] ++ rg 6 true ([.res (cI v7)] ++ rg 2 true (rg 14 false [])))) [] [(2, cB false)] [] (fun t => aI (s_l1In_ok p0.Width 1 10 v1 h2) (aI trivial (aI rN (aG 3 c3 (aI (s_l1In_ok p0.Height 1 10 v4 h5) (aI trivial (aI rN (aI c3 (aG 5 c6 (aI (s_mSize_ok p0 v7 h8) (aI trivial (aI rN (aG 2 c6 (aG 4 c9 (aG 10 rF (t)))))))))))))))) ?_
    cases H
    exact er
  ·refine sx ([.res (cB v1)] ++ rg 3 true ([.res (cB v4), .g true] ++ rg 21 false [])) [] [(2, cB false)] [] (fun t => aI (s_l1In_ok p0.Width 1 10 v1 h2) (aI trivial (aI rN (aG 3 c3 (aI (s_l1In_ok p0.Height 1 10 v4 h5) (aI trivial (aI rN (aI c3 (aG 7 c6 (aG 14 rF (t))))))))))) ?_
   cases H
   exact er
 ·refine sx ([.res (cB v1)] ++ rg 25 false []) [] [(2, cB false)] [] (fun t => aI (s_l1In_ok p0.Width 1 10 v1 h2) (aI trivial (aI rN (aG 4 c3 (aG 21 rF (t)))))) ?_
  cases H
  exact er
def s_bGood_ir : S :=
 (sq [o 1 (.box 12 (.t 0)), o 2 (.mv bF)]
 (sq [oa 3 0 1, o 4 (.load 7 true (.t 3)), o 5 (.call 121 [.t 4]), om 6 5, oh 7 (.fad 7 (.t 1)) 6, oh 8 (.load 5 true (.t 7)) 6, oh 9 (.call 122 [.t 8]) 6, o 10 (.pick (.t 6) (.t 9) bF), om 11 10, oh 12 (.fad 7 (.t 1)) 11, oh 13 (.fad 2 (.t 12)) 11, oh 14 (.load 1 false (.t 13)) 11, oh 15 (.fad 0 (.t 1)) 11, oh 16 (.fad 0 (.t 15)) 11, oh 17 (.load 1 false (.t 16)) 11, oh 18 (.len (.t 17)) 11, oh 19 (.bin .sub (.t 18) (iv 1)) 11, oh 20 (.call 123 [.t 14, .v (.int .i64 0), .t 19]) 11, o 21 (.pick (.t 11) (.t 20) bF), om 2 21]
 .ret))
noncomputable def X.s_bGood (p0 : TBoard) : Option Bool :=
 ((X.s_rGood p0.Rules).bind fun v1 => (bif v1 then ((X.s_mGood p0.Map).bind fun v4 => (bif v4 then ((X.s_l1All p0.Map.Terrain 0 (W ((p0.Rules.Terrains.length : Int) - 1))).bind fun v7 => some v7) else some false)) else some false))
theorem s_bGood_ok (p0 : TBoard) (r : Bool) (H : X.s_bGood p0 = some r) : FK 82 [.agg (eTBoard p0)] (cB r) := by
 unfold X.s_bGood at H
 refine fi Tryz.f82 s_bGood_ir [(2, cB r)] [] glL Tryz.func82 ?_
 refine so [] [] [(1, pk 1)] [(1, va (eTBoard p0))] id ?_
 obtain ⟨v1, h2, H⟩ := oB H
 rcases oC H with ⟨c3, H⟩ | ⟨c3, H⟩
 ·obtain ⟨v4, h5, H⟩ := oB H
  rcases oC H with ⟨c6, H⟩ | ⟨c6, H⟩
  ·obtain ⟨v7, h8, H⟩ := oB H
   refine so ([.res (cB v1)] ++ rg 3 true ([.res (cB v4)] ++ rg 10 true [.res (cB v7), .g true])) [] [(2, cB v7)] [] (fun t => aI (s_rGood_ok p0.Rules v1 h2) (aG 3 c3 (aI (s_mGood_ok p0.Map v4 h5) (aI c3 (aG 7 c6 (lI p0.Rules.Terrains (aG 2 c6 (aI (s_l1All_ok p0.Map.Terrain 0 (W ((p0.Rules.Terrains.length : Int) - 1)) v7 h8) (aI c6 (t)))))))))) ?_
   cases H
   exact er
  ·refine so ([.res (cB v1)] ++ rg 3 true ([.res (cB v4), .g true] ++ rg 10 false [])) [] [(2, cB false)] [] (fun t => aI (s_rGood_ok p0.Rules v1 h2) (aG 3 c3 (aI (s_mGood_ok p0.Map v4 h5) (aI c3 (aG 10 c6 (t)))))) ?_
   cases H
   exact er
 ·refine so ([.res (cB v1)] ++ rg 14 false []) [] [(2, cB false)] [] (fun t => aI (s_rGood_ok p0.Rules v1 h2) (aG 4 c3 (aG 10 rF (t)))) ?_
  cases H
  exact er
def s_bTerrain_ir : S :=
 (sq [o 2 (.box 12 (.t 0)), o 4 (.alloc [.str [], .nil, .int .i64 0, .int .i64 0, .bool false])]
 (.seq (.drw [(0, 3), (1, 3), (2, 3), (0, 4), (1, 4), (2, 4), (0, 5), (1, 5), (2, 5), (0, 6), (1, 6), (2, 6), (3, 6), (4, 6), (5, 6), (0, 7), (1, 7), (2, 7), (0, 8), (1, 8), (2, 8)] [oa 5 0 2, oa 6 0 5, ol 7 6, oa 8 7 2, oa 9 2 8, ol 10 9, om 11 1, o 12 (.iad 1 (.t 10) (.t 11)), ol 13 12, o 14 (.iad 5 (.t 7) (.t 13)), o 15 (.load 5 true (.t 14)), os 5 4 15])
 .ret))
noncomputable def X.s_bTerrain (p0 : TBoard) (p1 : Int) : Option TTerrain :=
 ((at' zI p0.Map.Terrain p1).bind fun v1 => ((at' zTTerrain p0.Rules.Terrains v1).bind fun v3 => some v3))
theorem s_bTerrain_ok (p0 : TBoard) (p1 : Int) (r : TTerrain) (H : X.s_bTerrain p0 p1 = some r) : FK 132 [.agg (eTBoard p0), cI p1] (.agg (eTTerrain r)) := by
 unfold X.s_bTerrain at H
 refine fi Tryz.f132 s_bTerrain_ir [(4, pk 4)] [(4, va (eTTerrain r))] glL Tryz.func132 ?_
 refine sn [] [] [(2, pk 2), (4, pk 4)] [] [(2, va (eTBoard p0)), (4, .var [.str [], .nil, jI 0, jI 0, .bool false] false)] id ?_
 obtain ⟨v1, h2, H⟩ := oB H
 obtain ⟨v3, h4, H⟩ := oB H
 refine xn [.cs (eI v1), .cs (eTTerrain v3)] [] [] [4] [(4, va (eTTerrain v3))] (fun t => (a2 eI h2 (aI rN ((a2 eTTerrain h4 (aI rN (t))))))) ?_
 refine tl [] [(4, pk 4)] [(4, va (eTTerrain v3))] id ?_
 cases H
 exact er
def s_bCost_ir : S :=
 (sq [o 3 (.box 12 (.t 0)), o 6 (.mv (iv 0))]
 (sq [o 7 (.load 12 true (.t 3)), om 8 2, o 9 (.call 132 [.t 7, .t 8]), o 10 (.fld 1 1 false (.t 9)), om 11 1, o 12 (.iad 1 (.t 10) (.t 11)), ol 13 12, om 6 13]
 .ret))
noncomputable def X.s_bCost (p0 : TBoard) (p1 : Int) (p2 : Int) : Option Int :=
 ((X.s_bTerrain p0 p2).bind fun v1 => ((at' zI v1.Cost p1).bind fun v3 => some v3))
theorem s_bCost_ok (p0 : TBoard) (p1 : Int) (p2 : Int) (r : Int) (H : X.s_bCost p0 p1 p2 = some r) : FK 98 [.agg (eTBoard p0), cI p1, cI p2] (cI r) := by
 unfold X.s_bCost at H
 refine fi Tryz.f98 s_bCost_ir [(6, cI r)] [] glL Tryz.func98 ?_
 refine sn [] [] [(3, pk 3)] [] [(3, va (eTBoard p0))] id ?_
 obtain ⟨v1, h2, H⟩ := oB H
 obtain ⟨v3, h4, H⟩ := oB H
 refine so [.res (.agg (eTTerrain v1)), .cs (eI v3)] [] [(6, cI v3)] [] (fun t => aI (s_bTerrain_ok p0 p2 v1 h2) ((a2 eI h4 (t)))) ?_
 cases H
 exact er
def s_sUnit_ir : S :=
 (sq [o 2 (.box 12 (.t 0)), o 3 (.box 4 (.t 1)), o 4 (.mv bF)]
 (.seq (.seq (.drw [(5, 7), (6, 7), (5, 8), (6, 8), (5, 9), (6, 9), (5, 10), (6, 10), (5, 11), (6, 11), (16, 18), (17, 18), (16, 19), (17, 19), (16, 20), (17, 20), (16, 21), (17, 21), (18, 21), (19, 21), (20, 21), (16, 22), (17, 22), (18, 22), (19, 22), (20, 22), (16, 23), (17, 23), (16, 24), (17, 24), (16, 25), (17, 25)] [oa 5 0 3, ol 6 5, o 7 (.call 26 [.t 6, .v (.int .i64 0), .v (.int .i64 1)]), o 8 (.not (.t 7)), om 9 8, og 10 (.fad 1 (.t 3)) 9, og 11 (.load 1 false (.t 10)) 9, og 12 (.fad 0 (.t 2)) 9, og 13 (.fad 1 (.t 12)) 9, og 14 (.load 1 false (.t 13)) 9, og 15 (.len (.t 14)) 9, og 16 (.bin .sub (.t 15) (iv 1)) 9, og 17 (.call 26 [.t 11, .v (.int .i64 0), .t 16]) 9, og 18 (.not (.t 17)) 9, o 19 (.pick (.t 9) bT (.t 18)), om 20 19, og 21 (.fad 3 (.t 3)) 20, og 22 (.load 1 false (.t 21)) 20, og 23 (.fad 0 (.t 2)) 20, og 24 (.fad 1 (.t 23)) 20, og 25 (.load 1 false (.t 24)) 20, og 26 (.fad 1 (.t 3)) 20, og 27 (.load 1 false (.t 26)) 20, og 28 (.iad 6 (.t 25) (.t 27)) 20, og 29 (.fad 3 (.t 28)) 20, og 30 (.load 1 false (.t 29)) 20, og 31 (.call 26 [.t 22, .v (.int .i64 0), .t 30]) 20, og 32 (.not (.t 31)) 20, o 33 (.pick (.t 20) bT (.t 32))])
 (.ite (.t 33) (sq [o 4 (.mv bF)]
  .ret)
 .skip))
 (.seq (.drw [(8, 10), (9, 10), (8, 11), (9, 11), (8, 12), (9, 12), (8, 13), (9, 13), (17, 18), (17, 19), (17, 20), (18, 20), (19, 20), (17, 21), (18, 21), (19, 21)] [oa 34 2 3, ol 35 34, o 36 (.bin .eql (.t 35) (.v (.int .i64 (-1)))), om 37 36, og 38 (.fad 3 (.t 3)) 37, og 39 (.load 1 false (.t 38)) 37, og 40 (.bin .gtr (.t 39) (iv 0)) 37, og 41 (.mv (.t 40)) 37, oh 42 (.fad 2 (.t 3)) 41, oh 43 (.load 1 false (.t 42)) 41, oh 44 (.fad 7 (.t 2)) 41, oh 45 (.load 5 true (.t 44)) 41, oh 46 (.call 58 [.t 45]) 41, oh 47 (.bin .sub (.t 46) (iv 1)) 41, oh 48 (.call 26 [.t 43, .v (.int .i64 0), .t 47]) 41, og 49 (.pick (.t 41) (.t 48) bF) 37, og 50 (.mv (.t 49)) 37, oh 51 (.load 12 true (.t 2)) 50, oh 52 (.fad 1 (.t 3)) 50, oh 53 (.load 1 false (.t 52)) 50, oh 54 (.fad 2 (.t 3)) 50, oh 55 (.load 1 false (.t 54)) 50, oh 56 (.call 98 [.t 51, .t 53, .t 55]) 50, oh 57 (.bin .gtr (.t 56) (iv 0)) 50, og 58 (.pick (.t 50) (.t 57) bF) 37, o 59 (.pick (.t 37) bT (.t 58)), om 4 59])
 .ret)))
noncomputable def X.s_sUnit (p0 : TBoard) (p1 : TUnit) : Option Bool :=
 ((X.s_l1In p1.Side 0 1).bind fun v12 => (bif (!v12) then some false else ((X.s_l1In p1.Kind 0 (W ((p0.Rules.Kinds.length : Int) - 1))).bind fun v15 => (bif (!v15) then some false else ((at' zTKind p0.Rules.Kinds p1.Kind).bind fun v18 => ((X.s_l1In p1.Steps 0 v18.Steps).bind fun v20 => (bif (!v20) then some false else (bif (p1.At == (-1)) then some true else (bif (decide (p1.Steps > 0)) then ((X.s_mSize p0.Map).bind fun v25 => ((X.s_l1In p1.At 0 (W (v25 - 1))).bind fun v27 => (bif v27 then ((X.s_bCost p0 p1.Kind p1.At).bind fun v30 => some (decide (v30 > 0))) else some false))) else some false)))))))))
theorem s_sUnit_ok (p0 : TBoard) (p1 : TUnit) (r : Bool) (H : X.s_sUnit p0 p1 = some r) : FK 83 [.agg (eTBoard p0), .agg (eTUnit p1)] (cB r) := by
 unfold X.s_sUnit at H
 refine fi Tryz.f83 s_sUnit_ir [(4, cB r)] [] glL Tryz.func83 ?_
 refine so [] [] [(2, pk 2), (3, pk 3)] [(2, va (eTBoard p0)), (3, va (eTUnit p1))] id ?_
 refine seq_in ?_
 obtain ⟨v12, h13, H⟩ := oB H
 rcases oC H with ⟨c14, H⟩ | ⟨c14, H⟩
 ·refine xn ([.res (cB v12)] ++ rg 23 true []) [] [(33, cB true)] [] [] (fun t => aI (s_l1In_ok p1.Side 0 1 v12 h13) (aI trivial (aI rN (aG 10 c14 (aG 13 rT (t)))))) ?_
  refine it rT ?_
  refine so [] [] [(4, cB false)] [] id ?_
  cases H
  exact er
 ·obtain ⟨v15, h16, H⟩ := oB H
  rcases oC H with ⟨c17, H⟩ | ⟨c17, H⟩
  ·refine xn ([.res (cB v12)] ++ rg 8 false ([.res (cB v15)] ++ rg 2 false (rg 13 true []))) [] [(33, cB true)] [] [] (fun t => aI (s_l1In_ok p1.Side 0 1 v12 h13) (aI trivial (aI rN (aG 8 c14 (aI (s_l1In_ok p1.Kind 0 (W ((p0.Rules.Kinds.length : Int) - 1)) v15 h16) (aI trivial (aI rN (aG 2 c14 (aG 13 c17 (t)))))))))) ?_
   refine it rT ?_
   refine so [] [] [(4, cB false)] [] id ?_
   cases H
   exact er
  ·obtain ⟨v18, h19, H⟩ := oB H
   obtain ⟨v20, h21, H⟩ := oB H
   refine xn ([.res (cB v12)] ++ rg 8 false ([.res (cB v15)] ++ rg 10 false ([.cs (eTKind v18)] ++ rg 3 false ([.res (cB v20)] ++ rg 2 false [])))) [] [(33, cB (!v20))] [] [] (fun t => aI (s_l1In_ok p1.Side 0 1 v12 h13) (aI trivial (aI rN (aG 8 c14 (aI (s_l1In_ok p1.Kind 0 (W ((p0.Rules.Kinds.length : Int) - 1)) v15 h16) (aI trivial (aI rN (aG 2 c14 (aG 8 c17 ((a2 eTKind h19 (aG 2 c17 (aI rN (aI c17 (aI (s_l1In_ok p1.Steps 0 v18.Steps v20 h21) (aI trivial (aI rN (aG 2 c17 (t))))))))))))))))))) ?_
   rcases oC H with ⟨c22, H⟩ | ⟨c22, H⟩
   ·refine it c22 ?_
    refine so [] [] [(4, cB false)] [] id ?_
    cases H
    exact er
   ·refine jf c22 ?_
    refine sk ?_
    rcases oC H with ⟨c23, H⟩ | ⟨c23, H⟩
    ·refine sx (rg 8 true []) [] [(4, cB true)] [] (fun t => aG 8 c23 (t)) ?_
     cases H
     exact er
    ·rcases oC H with ⟨c24, H⟩ | ⟨c24, H⟩
     ·obtain ⟨v25, h26, H⟩ := oB H
      obtain ⟨v27, h28, H⟩ := oB H
      rcases oC H with ⟨c29, H⟩ | ⟨c29, H⟩
      ·obtain ⟨v30, h31, H⟩ := oB H
       refine sx (rg 4 false (rg 5 true ([.res (cI v25)] ++ rg 2 true ([.res (cB v27), .g false, .g true, .g false] ++ rg 6 true [.res (cI v30), .g true, .g false, .g true, .g false])))) [] [(4, cB (decide (v30 > 0)))] [] (fun t => aG 4 c23 (aG 5 c24 (aI (s_mSize_ok p0.Map v25 h26) (aI trivial (aI rN (aG 2 c24 (aI (s_l1In_ok p1.At 0 (W (v25 - 1)) v27 h28) (aI trivial (aI rN (aI c23 (aI c24 (aI c23 (aG 6 c29 (aI (s_bCost_ok p0 p1.Kind p1.At v30 h31) (aI trivial (aI rN (aI c29 (aI c23 (aI c29 (aI c23 (t))))))))))))))))))))) ?_
       cases H
       exact er
      ·refine sx (rg 4 false (rg 5 true ([.res (cI v25)] ++ rg 2 true ([.res (cB v27), .g false, .g true] ++ rg 11 false [])))) [] [(4, cB false)] [] (fun t => aG 4 c23 (aG 5 c24 (aI (s_mSize_ok p0.Map v25 h26) (aI trivial (aI rN (aG 2 c24 (aI (s_l1In_ok p1.At 0 (W (v25 - 1)) v27 h28) (aI trivial (aI rN (aI c23 (aI c24 (aI c23 (aG 7 c29 (aI c23 (aI c29 (aI c23 (t))))))))))))))))) ?_
       cases H
       exact er
     ·refine sx (rg 24 false []) [] [(4, cB false)] [] (fun t => aG 4 c23 (aG 7 c24 (aI c23 (aI c24 (aI c23 (aG 7 rF (aI c23 (aI rF (aI c23 (t)))))))))) ?_
      cases H
      exact er
def s_sAt_ir : S :=
 (sq [o 3 (.box 3 (.t 0)), o 6 (.mv (.v (.nil)))]
 (sq [o 7 (.mv (.v (.nil)))]
 (.seq (sq [oa 10 2 3, ol 11 10, o 12 (.len (.t 11)), o 13 (.mv (iv 0))]
 (.blk 0 (.loop (sq [o 14 (.bin .lss (.t 13) (.t 12))]
   (.seq (.ite (.t 14) .skip
   (.exit 0))
   (.seq (.blk 1 (sq [om 15 13, o 16 (.iad 4 (.t 11) (.t 13)), o 17 (.load 4 true (.t 16)), o 9 (.alloc [.int .i64 0, .int .i64 0, .int .i64 0, .int .i64 0]), om 8 15, os 4 9 17]
    (sq [oa 18 2 9, ol 19 18, om 20 1, o 21 (.bin .eql (.t 19) (.t 20)), om 22 21, oh 23 (.fad 0 (.t 9)) 22, oh 24 (.load 1 false (.t 23)) 22, oh 25 (.mv (.t 2)) 22, oh 26 (.bin .eql (.t 24) (.t 25)) 22, o 27 (.pick (.t 22) (.t 26) bF)]
    (.ite (.t 27) (.ops [om 28 7, om 29 8, o 30 (.bsl 1 [.t 29]), o 31 (.app 1 8 (.t 28) (.t 30)), om 7 31])
    .skip))))
   (.ops [o 32 (.bin .add (.t 13) (iv 1)), om 13 32])))))))
 (sq [om 33 7, om 6 33]
 .ret))))
noncomputable def X.s_sAt (p0 : TState) (p1 : Int) (p2 : Int) : Option (List Int) :=
 ((loop (fun (x16 : (Int × (List Int))) => ((bif (decide (x16.1 < (p0.Units.length : Int))) then ((at' zTUnit p0.Units x16.1).bind fun v19 => (bif (v19.At == p1) then (bif (v19.Side == p2) then (if (x16.2 ++ ([x16.1] : List Int)).length ≤ LIM then some (Sum.inl ((W (x16.1 + 1)), (x16.2 ++ ([x16.1] : List Int)))) else none) else some (Sum.inl ((W (x16.1 + 1)), x16.2))) else some (Sum.inl ((W (x16.1 + 1)), x16.2)))) else some (Sum.inr x16.2)) : Option ((Int × (List Int)) ⊕ (List Int)))) (0, ([] : List Int))).bind fun y24 => some y24)
theorem s_sAt_ok (p0 : TState) (p1 : Int) (p2 : Int) (r : (List Int)) (H : X.s_sAt p0 p1 p2 = some r) : FK 84 [.agg (eTState p0), cI p1, cI p2] (.c (dat 1 eI zI r)) := by
 unfold X.s_sAt at H
 refine fi Tryz.f84 s_sAt_ir [(6, dc 1 eI zI r)] [] glL Tryz.func84 ?_
 refine sn [] [] [(3, pk 3)] [] [(3, va (eTState p0))] id ?_
 refine sn [] [] [(7, .c (.nil))] [] [] id ?_
 refine seq_in ?_
 refine sn [] [] [(11, dc 4 eTUnit zTUnit p0.Units), (12, cL p0.Units), (13, cI 0)] [] [] (fun t => lI p0.Units (t)) ?_
 refine ends_blk ?_
 obtain ⟨y24, h25, H⟩ := oB H
 refine tl [.nlo 7 1001 1 (fF eI zI ([] : List Int))] [(1, cI p1), (2, cI p2), (7, ow 1001 1 ([] : List Int)), (11, dc 4 eTUnit zTUnit p0.Units), (12, cL p0.Units), (13, cI 0)] [(1001, ar 1 eI zI ([] : List Int))] (aI (by decide : 0 < 1)) ?_
 refine loop_in (fun (x : (Int × (List Int))) => lit [(1, cI p1), (2, cI p2), (7, ow 1001 1 x.2), (11, dc 4 eTUnit zTUnit p0.Units), (12, cL p0.Units), (13, cI x.1)] [(1001, ar 1 eI zI x.2)]) (fun (z : (List Int)) => At (.exit 0) (lit [(7, ow 1001 1 z)] [(1001, ar 1 eI zI z)])) h25 ?_ ?_
 ·clear H h25
  intro x16 y0 H
  refine sn [] [] [(14, cB (decide (x16.1 < (p0.Units.length : Int))))] [] [] id ?_
  refine seq_in ?_
  rcases oC H with ⟨c18, H⟩ | ⟨c18, H⟩
  ·refine it c18 ?_
   refine sk ?_
   refine seq_in ?_
   refine ends_blk ?_
   obtain ⟨v19, h20, H⟩ := oB H
   refine sn [.cs (eTUnit v19)] [] [(8, cI x16.1), (9, pk 9)] [] [(9, va (eTUnit v19))] (a2 eTUnit h20) ?_
   rcases oC H with ⟨c21, H⟩ | ⟨c21, H⟩
   ·refine sn (rg 5 true []) [] [(27, cB (v19.Side == p2))] [] [] (fun t => aG 5 c21 (t)) ?_
    rcases oC H with ⟨c22, H⟩ | ⟨c22, H⟩
    ·refine it c22 ?_
     obtain ⟨g23, H⟩ := oI H
     refine oo [fh eI zI ([x16.1] : List Int), fh eI zI (x16.2 ++ ([x16.1] : List Int))] [] [(1, cI p1), (2, cI p2), (7, ow 31 1 (x16.2 ++ ([x16.1] : List Int))), (11, dc 4 eTUnit zTUnit p0.Units), (12, cL p0.Units), (13, cI x16.1)] [(31, ar 1 eI zI (x16.2 ++ ([x16.1] : List Int)))] (fun t => aI (rfl : ([x16.1] : List Int).length = 1) (aI (fF_lit eI zI ([x16.1] : List Int)) (aI (And.intro (Nat.le_refl x16.2.length) (And.intro (@List.length_append _ x16.2 ([x16.1] : List Int)) g23)) (aI (fF_appL eI zI x16.2 ([x16.1] : List Int)) (aI (fF_appR eI zI x16.2 ([x16.1] : List Int)) (t)))))) ?_
     change EndsI _ _ _ _ _ _
     refine oo [] [.ren 31 1001] [(1, cI p1), (2, cI p2), (7, ow 1001 1 (x16.2 ++ ([x16.1] : List Int))), (11, dc 4 eTUnit zTUnit p0.Units), (12, cL p0.Units), (13, cI (W (x16.1 + 1)))] [(1001, ar 1 eI zI (x16.2 ++ ([x16.1] : List Int)))] id ?_
     cases H
     exact rr
    ·refine jf c22 ?_
     refine sk ?_
     refine oo [] [] [(1, cI p1), (2, cI p2), (7, ow 1001 1 x16.2), (11, dc 4 eTUnit zTUnit p0.Units), (12, cL p0.Units), (13, cI (W (x16.1 + 1)))] [(1001, ar 1 eI zI x16.2)] id ?_
     cases H
     exact rr
   ·refine sn (rg 5 false []) [] [(27, cB false)] [] [] (fun t => aG 5 c21 (t)) ?_
    refine jf rF ?_
    refine sk ?_
    refine oo [] [] [(1, cI p1), (2, cI p2), (7, ow 1001 1 x16.2), (11, dc 4 eTUnit zTUnit p0.Units), (12, cL p0.Units), (13, cI (W (x16.1 + 1)))] [(1001, ar 1 eI zI x16.2)] id ?_
    cases H
    exact rr
  ·refine jf c18 ?_
   refine tl [] [(7, ow 1001 1 x16.2)] [(1001, ar 1 eI zI x16.2)] id ?_
   refine ends_exit ?_
   cases H
   exact rse
 ·clear h25
  rintro e s ⟨rfl, rfl⟩
  change EndsI _ _ _ _ _ _
  refine sn [] [] [(6, ow 1001 1 y24)] [] [] id ?_
  refine tl [.frz 6] [(6, dc 1 eI zI y24)] [] (aI (Nat.le_refl y24.length)) ?_
  cases H
  exact er
def s_sGood_ir : S :=
 (sq [o 2 (.box 12 (.t 0)), o 3 (.box 3 (.t 1)), o 4 (.mv bF)]
 (.seq (sq [o 9 (.load 12 true (.t 2)), o 10 (.call 82 [.t 9]), o 11 (.not (.t 10)), om 12 11, og 13 (.fad 0 (.t 3)) 12, og 14 (.load 1 false (.t 13)) 12, og 15 (.fad 0 (.t 2)) 12, og 16 (.fad 6 (.t 15)) 12, og 17 (.load 1 false (.t 16)) 12, og 18 (.call 26 [.t 14, .v (.int .i64 0), .t 17]) 12, og 19 (.not (.t 18)) 12, o 20 (.pick (.t 12) bT (.t 19)), om 21 20, og 22 (.fad 1 (.t 3)) 21, og 23 (.load 1 false (.t 22)) 21, og 24 (.call 26 [.t 23, .v (.int .i64 0), .v (.int .i64 2)]) 21, og 25 (.not (.t 24)) 21, o 26 (.pick (.t 21) bT (.t 25)), om 27 26, og 28 (.fad 2 (.t 3)) 27, og 29 (.load 1 false (.t 28)) 27, og 30 (.len (.t 29)) 27, og 31 (.bin .gtr (.t 30) (iv 12)) 27, o 32 (.pick (.t 27) bT (.t 31))]
 (.ite (.t 32) (sq [o 4 (.mv bF)]
  .ret)
 .skip))
 (.seq (sq [oa 33 2 3, ol 34 33, o 35 (.len (.t 34)), o 36 (.mv (iv 0))]
 (.blk 0 (.loop (sq [o 37 (.bin .lss (.t 36) (.t 35))]
   (.seq (.ite (.t 37) .skip
   (.exit 0))
   (.seq (.blk 1 (sq [o 38 (.iad 4 (.t 34) (.t 36)), o 39 (.load 4 true (.t 38)), o 6 (.alloc [.int .i64 0, .int .i64 0, .int .i64 0, .int .i64 0]), os 4 6 39]
    (sq [o 40 (.load 12 true (.t 2)), o 41 (.load 4 true (.t 6)), o 42 (.call 83 [.t 40, .t 41]), o 43 (.not (.t 42))]
    (.ite (.t 43) (sq [o 4 (.mv bF)]
     .ret)
    .skip))))
   (.ops [o 44 (.bin .add (.t 36) (iv 1)), om 36 44])))))))
 (.seq (sq [oa 45 2 3, ol 46 45, o 47 (.len (.t 46)), o 48 (.mv (iv 0))]
 (.blk 2 (.loop (sq [o 49 (.bin .lss (.t 48) (.t 47))]
   (.seq (.ite (.t 49) .skip
   (.exit 2))
   (.seq (.blk 3 (sq [o 50 (.iad 4 (.t 46) (.t 48)), o 51 (.load 4 true (.t 50)), o 8 (.alloc [.int .i64 0, .int .i64 0, .int .i64 0, .int .i64 0]), os 4 8 51]
    (.seq (.drw [(4, 5), (4, 6), (4, 7), (5, 7), (6, 7), (4, 8), (5, 8), (6, 8), (4, 9), (5, 9), (6, 9), (14, 15), (14, 16), (14, 17), (15, 17), (16, 17), (14, 18), (15, 18), (16, 18), (14, 21), (15, 21), (16, 21), (17, 21), (18, 21), (19, 21), (20, 21), (14, 22), (15, 22), (16, 22), (17, 22), (18, 22), (19, 22), (20, 22), (14, 23), (15, 23), (16, 23), (17, 23), (18, 23), (19, 23), (20, 23)] [oa 52 2 8, ol 53 52, o 54 (.bin .geq (.t 53) (iv 0)), om 55 54, oh 56 (.load 3 true (.t 3)) 55, oh 57 (.fad 2 (.t 8)) 55, oh 58 (.load 1 false (.t 57)) 55, oh 59 (.fad 0 (.t 8)) 55, oh 60 (.load 1 false (.t 59)) 55, oh 61 (.bin .sub (iv 1) (.t 60)) 55, oh 62 (.call 84 [.t 56, .t 58, .t 61]) 55, oh 63 (.len (.t 62)) 55, oh 64 (.bin .gtr (.t 63) (iv 0)) 55, oh 65 (.mv (.t 64)) 55, og 66 (.load 3 true (.t 3)) 65, og 67 (.fad 2 (.t 8)) 65, og 68 (.load 1 false (.t 67)) 65, og 69 (.fad 0 (.t 8)) 65, og 70 (.load 1 false (.t 69)) 65, og 71 (.call 84 [.t 66, .t 68, .t 70]) 65, og 72 (.len (.t 71)) 65, og 73 (.fad 0 (.t 2)) 65, og 74 (.fad 2 (.t 73)) 65, og 75 (.load 1 false (.t 74)) 65, og 76 (.bin .gtr (.t 72) (.t 75)) 65, oh 77 (.pick (.t 65) bT (.t 76)) 55, o 78 (.pick (.t 55) (.t 77) bF)])
    (.ite (.t 78) (sq [o 4 (.mv bF)]
     .ret)
    .skip))))
   (.ops [o 79 (.bin .add (.t 48) (iv 1)), om 48 79])))))))
 (sq [o 4 (.mv bT)]
 .ret)))))
noncomputable def X.s_sGood (p0 : TBoard) (p1 : TState) : Option Bool :=
 ((X.s_bGood p0).bind fun v11 => (bif (!v11) then some false else ((X.s_l1In p1.Turn 0 p0.Rules.Turns).bind fun v14 => (bif (!v14) then some false else ((X.s_l1In p1.Weather 0 2).bind fun v17 => (bif (!v17) then some false else (bif (decide ((p1.Units.length : Int) > 12)) then some false else ((loop (fun (x63 : Int) => ((bif (decide (x63 < (p1.Units.length : Int))) then ((at' zTUnit p1.Units x63).bind fun v66 => ((X.s_sUnit p0 v66).bind fun v68 => (bif (!v68) then some (Sum.inr (Sum.inr false)) else some (Sum.inl (W (x63 + 1)))))) else some (Sum.inr (Sum.inl ()))) : Option (Int ⊕ (Unit ⊕ Bool)))) 0).bind fun y71 => (Sum.elim (fun (y73 : Unit) => ((loop (fun (x98 : Int) => ((bif (decide (x98 < (p1.Units.length : Int))) then ((at' zTUnit p1.Units x98).bind fun v101 => (bif (decide (v101.At ≥ 0)) then ((X.s_sAt p1 v101.At (W (1 - v101.Side))).bind fun v104 => (bif (decide ((v104.length : Int) > 0)) then some (Sum.inr (Sum.inr false)) else ((X.s_sAt p1 v101.At v101.Side).bind fun v107 => (bif (decide ((v107.length : Int) > p0.Rules.Stack)) then some (Sum.inr (Sum.inr false)) else some (Sum.inl (W (x98 + 1))))))) else some (Sum.inl (W (x98 + 1))))) else some (Sum.inr (Sum.inl ()))) : Option (Int ⊕ (Unit ⊕ Bool)))) 0).bind fun y110 => (Sum.elim (fun (y112 : Unit) => some true) (fun (y113 : Bool) => some y113) y110))) (fun (y74 : Bool) => some y74) y71)))))))))
theorem s_sGood_ok (p0 : TBoard) (p1 : TState) (r : Bool) (H : X.s_sGood p0 p1 = some r) : FK 48 [.agg (eTBoard p0), .agg (eTState p1)] (cB r) := by
 unfold X.s_sGood at H
 refine fi Tryz.f48 s_sGood_ir [(4, cB r)] [] glL Tryz.func48 ?_
 refine so [] [] [(2, pk 2), (3, pk 3)] [(2, va (eTBoard p0)), (3, va (eTState p1))] id ?_
 refine seq_in ?_
 obtain ⟨v11, h12, H⟩ := oB H
 rcases oC H with ⟨c13, H⟩ | ⟨c13, H⟩
 ·refine sn ([.res (cB v11)] ++ rg 18 true []) [] [(32, cB true)] [] [] (fun t => aI (s_bGood_ok p0 v11 h12) (aG 8 c13 (aG 10 rT (t)))) ?_
  refine it rT ?_
  refine so [] [] [(4, cB false)] [] id ?_
  cases H
  exact er
 ·obtain ⟨v14, h15, H⟩ := oB H
  rcases oC H with ⟨c16, H⟩ | ⟨c16, H⟩
  ·refine sn ([.res (cB v11)] ++ rg 6 false ([.res (cB v14)] ++ rg 2 false (rg 10 true []))) [] [(32, cB true)] [] [] (fun t => aI (s_bGood_ok p0 v11 h12) (aG 6 c13 (aI (s_l1In_ok p1.Turn 0 p0.Rules.Turns v14 h15) (aG 2 c13 (aG 5 c16 (aG 5 rT (t))))))) ?_
   refine it rT ?_
   refine so [] [] [(4, cB false)] [] id ?_
   cases H
   exact er
  ·obtain ⟨v17, h18, H⟩ := oB H
   rcases oC H with ⟨c19, H⟩ | ⟨c19, H⟩
   ·refine sn ([.res (cB v11)] ++ rg 6 false ([.res (cB v14)] ++ rg 5 false ([.res (cB v17)] ++ rg 2 false (rg 5 true [])))) [] [(32, cB true)] [] [] (fun t => aI (s_bGood_ok p0 v11 h12) (aG 6 c13 (aI (s_l1In_ok p1.Turn 0 p0.Rules.Turns v14 h15) (aG 2 c13 (aG 3 c16 (aI (s_l1In_ok p1.Weather 0 2 v17 h18) (aG 2 c16 (aG 5 c19 (t))))))))) ?_
    refine it rT ?_
    refine so [] [] [(4, cB false)] [] id ?_
    cases H
    exact er
   ·refine sn ([.res (cB v11)] ++ rg 6 false ([.res (cB v14)] ++ rg 5 false ([.res (cB v17)] ++ rg 7 false []))) [] [(32, cB (decide ((p1.Units.length : Int) > 12)))] [] [] (fun t => aI (s_bGood_ok p0 v11 h12) (aG 6 c13 (aI (s_l1In_ok p1.Turn 0 p0.Rules.Turns v14 h15) (aG 2 c13 (aG 3 c16 (aI (s_l1In_ok p1.Weather 0 2 v17 h18) (aG 2 c16 (aG 3 c19 (lI p1.Units (aG 2 c19 (t))))))))))) ?_
    rcases oC H with ⟨c20, H⟩ | ⟨c20, H⟩
    ·refine it c20 ?_
     refine so [] [] [(4, cB false)] [] id ?_
     cases H
     exact er
    ·refine jf c20 ?_
     refine sk ?_
     refine seq_in ?_
     refine sn [] [] [(34, dc 4 eTUnit zTUnit p1.Units), (35, cL p1.Units), (36, cI 0)] [] [] (fun t => lI p1.Units (t)) ?_
     refine ends_blk ?_
     obtain ⟨y71, h72, H⟩ := oB H
     refine tl [] [(2, pk 2), (3, pk 3), (34, dc 4 eTUnit zTUnit p1.Units), (35, cL p1.Units), (36, cI 0)] [(2, va (eTBoard p0)), (3, va (eTState p1))] id ?_
     refine loop_in (fun (x : Int) => lit [(2, pk 2), (3, pk 3), (34, dc 4 eTUnit zTUnit p1.Units), (35, cL p1.Units), (36, cI x)] [(2, va (eTBoard p0)), (3, va (eTState p1))]) (orJ (fun (z : Unit) => At (.exit 0) (lit [(2, pk 2), (3, pk 3)] [(2, va (eTBoard p0)), (3, va (eTState p1))])) (fun (z : Bool) => At .ret (lit [(4, cB z)] []))) h72 ?_ ?_
     ·clear H h72
      intro x63 y0 H
      refine sn [] [] [(37, cB (decide (x63 < (p1.Units.length : Int))))] [] [] id ?_
      refine seq_in ?_
      rcases oC H with ⟨c65, H⟩ | ⟨c65, H⟩
      ·refine it c65 ?_
       refine sk ?_
       refine seq_in ?_
       refine ends_blk ?_
       obtain ⟨v66, h67, H⟩ := oB H
       refine sn [.cs (eTUnit v66)] [] [(6, pk 6)] [] [(6, va (eTUnit v66))] (a2 eTUnit h67) ?_
       obtain ⟨v68, h69, H⟩ := oB H
       refine sn [.res (cB v68)] [] [(43, cB (!v68))] [] [] (aI (s_sUnit_ok p0 v66 v68 h69)) ?_
       rcases oC H with ⟨c70, H⟩ | ⟨c70, H⟩
       ·refine it c70 ?_
        refine so [] [] [(4, cB false)] [] id ?_
        refine ends_ret ?_
        cases H
        exact rsr
       ·refine jf c70 ?_
        refine sk ?_
        refine oo [] [] [(2, pk 2), (3, pk 3), (34, dc 4 eTUnit zTUnit p1.Units), (35, cL p1.Units), (36, cI (W (x63 + 1)))] [(2, va (eTBoard p0)), (3, va (eTState p1))] id ?_
        cases H
        exact rr
      ·refine jf c65 ?_
       refine tl [] [(2, pk 2), (3, pk 3)] [(2, va (eTBoard p0)), (3, va (eTState p1))] id ?_
       refine ends_exit ?_
       cases H
       exact rse
     ·clear h72
      cases y71 with
      | inl y73 =>
       replace H := ofInl H
       rintro e s ⟨rfl, rfl⟩
       change EndsI _ _ _ _ _ _
       refine seq_in ?_
       refine sn [] [] [(46, dc 4 eTUnit zTUnit p1.Units), (47, cL p1.Units), (48, cI 0)] [] [] (fun t => lI p1.Units (t)) ?_
       refine ends_blk ?_
       obtain ⟨y110, h111, H⟩ := oB H
       refine tl [] [(2, pk 2), (3, pk 3), (46, dc 4 eTUnit zTUnit p1.Units), (47, cL p1.Units), (48, cI 0)] [(2, va (eTBoard p0)), (3, va (eTState p1))] id ?_
       refine loop_in (fun (x : Int) => lit [(2, pk 2), (3, pk 3), (46, dc 4 eTUnit zTUnit p1.Units), (47, cL p1.Units), (48, cI x)] [(2, va (eTBoard p0)), (3, va (eTState p1))]) (orJ (fun (z : Unit) => At (.exit 2) (lit [] [])) (fun (z : Bool) => At .ret (lit [(4, cB z)] []))) h111 ?_ ?_
       ·clear H h111
        intro x98 y0 H
        refine sn [] [] [(49, cB (decide (x98 < (p1.Units.length : Int))))] [] [] id ?_
        refine seq_in ?_
        rcases oC H with ⟨c100, H⟩ | ⟨c100, H⟩
        ·refine it c100 ?_
         refine sk ?_
         refine seq_in ?_
         refine ends_blk ?_
         obtain ⟨v101, h102, H⟩ := oB H
         refine sn [.cs (eTUnit v101)] [] [(8, pk 8)] [] [(8, va (eTUnit v101))] (a2 eTUnit h102) ?_
         rcases oC H with ⟨c103, H⟩ | ⟨c103, H⟩
         ·obtain ⟨v104, h105, H⟩ := oB H
          rcases oC H with ⟨c106, H⟩ | ⟨c106, H⟩
          ·refine xn (rg 7 true ([.res (dc 1 eI zI v104)] ++ rg 17 true [])) [] [(78, cB true)] [] [] (fun t => aG 7 c103 (aI (s_sAt_ok p1 v101.At (W (1 - v101.Side)) v104 h105) (aG 2 rN (aG 3 c103 (aG 11 c106 (aI c103 (aI c106 (aI c103 (t))))))))) ?_
           refine it rT ?_
           refine so [] [] [(4, cB false)] [] id ?_
           refine ends_ret ?_
           cases H
           exact rsr
          ·obtain ⟨v107, h108, H⟩ := oB H
           refine xn (rg 7 true ([.res (dc 1 eI zI v104)] ++ rg 3 true (rg 6 false ([.res (dc 1 eI zI v107)] ++ rg 5 false [.g true, .g false, .g true])))) [] [(78, cB (decide ((v107.length : Int) > p0.Rules.Stack)))] [] [] (fun t => aG 7 c103 (aI (s_sAt_ok p1 v101.At (W (1 - v101.Side)) v104 h105) (aG 2 rN (aG 3 c103 (aG 6 c106 (aI (s_sAt_ok p1 v101.At v101.Side v107 h108) (aG 2 rN (aG 5 c106 (aI c103 (aI c106 (aI c103 (t)))))))))))) ?_
           rcases oC H with ⟨c109, H⟩ | ⟨c109, H⟩
           ·refine it c109 ?_
            refine so [] [] [(4, cB false)] [] id ?_
            refine ends_ret ?_
            cases H
            exact rsr
           ·refine jf c109 ?_
            refine sk ?_
            refine oo [] [] [(2, pk 2), (3, pk 3), (46, dc 4 eTUnit zTUnit p1.Units), (47, cL p1.Units), (48, cI (W (x98 + 1)))] [(2, va (eTBoard p0)), (3, va (eTState p1))] id ?_
            cases H
            exact rr
         ·refine xn (rg 12 false []) [] [(78, cB false)] [] [] (fun t => aG 12 c103 (t)) ?_
          refine jf rF ?_
          refine sk ?_
          refine oo [] [] [(2, pk 2), (3, pk 3), (46, dc 4 eTUnit zTUnit p1.Units), (47, cL p1.Units), (48, cI (W (x98 + 1)))] [(2, va (eTBoard p0)), (3, va (eTState p1))] id ?_
          cases H
          exact rr
        ·refine jf c100 ?_
         refine tl [] [] [] id ?_
         refine ends_exit ?_
         cases H
         exact rse
       ·clear h111
        cases y110 with
        | inl y112 =>
         replace H := ofInl H
         rintro e s ⟨rfl, rfl⟩
         change EndsI _ _ _ _ _ _
         refine so [] [] [(4, cB true)] [] id ?_
         cases H
         exact er
        | inr y113 =>
         replace H := ofInr H
         rintro e s ⟨rfl, rfl⟩
         cases H
         exact qr
      | inr y74 =>
       replace H := ofInr H
       rintro e s ⟨rfl, rfl⟩
       cases H
       exact qr
def s_uHas_ir : S :=
 (sq [o 3 (.box 12 (.t 0)), o 4 (.box 3 (.t 1)), o 6 (.mv bF)]
 (sq [o 7 (.load 12 true (.t 3)), o 8 (.load 3 true (.t 4)), o 9 (.call 48 [.t 7, .t 8]), om 10 9, oh 11 (.mv (.t 2)) 10, oh 12 (.fad 2 (.t 4)) 10, oh 13 (.load 1 false (.t 12)) 10, oh 14 (.len (.t 13)) 10, oh 15 (.bin .sub (.t 14) (iv 1)) 10, oh 16 (.call 26 [.t 11, .v (.int .i64 0), .t 15]) 10, o 17 (.pick (.t 10) (.t 16) bF), om 6 17]
 .ret))
noncomputable def X.s_uHas (p0 : TBoard) (p1 : TState) (p2 : Int) : Option Bool :=
 ((X.s_sGood p0 p1).bind fun v1 => (bif v1 then ((X.s_l1In p2 0 (W ((p1.Units.length : Int) - 1))).bind fun v4 => some v4) else some false))
theorem s_uHas_ok (p0 : TBoard) (p1 : TState) (p2 : Int) (r : Bool) (H : X.s_uHas p0 p1 p2 = some r) : FK 24 [.agg (eTBoard p0), .agg (eTState p1), cI p2] (cB r) := by
 unfold X.s_uHas at H
 refine fi Tryz.f24 s_uHas_ir [(6, cB r)] [] glL Tryz.func24 ?_
 refine sn [] [] [(3, pk 3), (4, pk 4)] [] [(3, va (eTBoard p0)), (4, va (eTState p1))] id ?_
 obtain ⟨v1, h2, H⟩ := oB H
 rcases oC H with ⟨c3, H⟩ | ⟨c3, H⟩
 ·obtain ⟨v4, h5, H⟩ := oB H
  refine so ([.res (cB v1)] ++ rg 6 true [.res (cB v4), .g true]) [] [(6, cB v4)] [] (fun t => aI (s_sGood_ok p0 p1 v1 h2) (aG 4 c3 (lI p1.Units (aG 2 c3 (aI (s_l1In_ok p2 0 (W ((p1.Units.length : Int) - 1)) v4 h5) (aI c3 (t))))))) ?_
  cases H
  exact er
 ·refine so ([.res (cB v1)] ++ rg 7 false []) [] [(6, cB false)] [] (fun t => aI (s_sGood_ok p0 p1 v1 h2) (aG 7 c3 (t))) ?_
  cases H
  exact er
def s_l1Has_ir : S :=
 (sq [o 4 (.mv bF)]
 (.seq (sq [om 7 0, o 8 (.len (.t 7)), o 9 (.mv (iv 0))]
 (.blk 0 (.loop (sq [o 10 (.bin .lss (.t 9) (.t 8))]
   (.seq (.ite (.t 10) .skip
   (.exit 0))
   (.seq (.blk 1 (sq [o 11 (.iad 1 (.t 7) (.t 9)), ol 12 11, om 6 12]
    (sq [om 13 6, om 14 1, o 15 (.bin .eql (.t 13) (.t 14))]
    (.ite (.t 15) (sq [o 4 (.mv bT)]
     .ret)
    .skip))))
   (.ops [o 16 (.bin .add (.t 9) (iv 1)), om 9 16])))))))
 (sq [o 4 (.mv bF)]
 .ret)))
noncomputable def X.s_l1Has (p0 : (List Int)) (p1 : Int) : Option Bool :=
 ((loop (fun (x12 : Int) => ((bif (decide (x12 < (p0.length : Int))) then ((at' zI p0 x12).bind fun v15 => (bif (v15 == p1) then some (Sum.inr (Sum.inr true)) else some (Sum.inl (W (x12 + 1))))) else some (Sum.inr (Sum.inl ()))) : Option (Int ⊕ (Unit ⊕ Bool)))) 0).bind fun y18 => (Sum.elim (fun (y20 : Unit) => some false) (fun (y21 : Bool) => some y21) y18))
theorem s_l1Has_ok (p0 : (List Int)) (p1 : Int) (r : Bool) (H : X.s_l1Has p0 p1 = some r) : FK 38 [.c (dat 1 eI zI p0), cI p1] (cB r) := by
 unfold X.s_l1Has at H
 refine fi Tryz.f38 s_l1Has_ir [(4, cB r)] [] glL Tryz.func38 ?_
 refine sn [] [] [] [] [] id ?_
 refine seq_in ?_
 refine sn [] [] [(7, dc 1 eI zI p0), (8, cL p0), (9, cI 0)] [] [] (fun t => lI p0 (t)) ?_
 refine ends_blk ?_
 obtain ⟨y18, h19, H⟩ := oB H
 refine tl [] [(1, cI p1), (7, dc 1 eI zI p0), (8, cL p0), (9, cI 0)] [] id ?_
 refine loop_in (fun (x : Int) => lit [(1, cI p1), (7, dc 1 eI zI p0), (8, cL p0), (9, cI x)] []) (orJ (fun (z : Unit) => At (.exit 0) (lit [] [])) (fun (z : Bool) => At .ret (lit [(4, cB z)] []))) h19 ?_ ?_
 ·clear H h19
  intro x12 y0 H
  refine sn [] [] [(10, cB (decide (x12 < (p0.length : Int))))] [] [] id ?_
  refine seq_in ?_
  rcases oC H with ⟨c14, H⟩ | ⟨c14, H⟩
  ·refine it c14 ?_
   refine sk ?_
   refine seq_in ?_
   refine ends_blk ?_
   obtain ⟨v15, h16, H⟩ := oB H
   refine sn [.cs (eI v15)] [] [(6, cI v15)] [] [] (a2 eI h16) ?_
   refine sn [] [] [(15, cB (v15 == p1))] [] [] id ?_
   rcases oC H with ⟨c17, H⟩ | ⟨c17, H⟩
   ·refine it c17 ?_
    refine so [] [] [(4, cB true)] [] id ?_
    refine ends_ret ?_
    cases H
    exact rsr
   ·refine jf c17 ?_
    refine sk ?_
    refine oo [] [] [(1, cI p1), (7, dc 1 eI zI p0), (8, cL p0), (9, cI (W (x12 + 1)))] [] id ?_
    cases H
    exact rr
  ·refine jf c14 ?_
   refine tl [] [] [] id ?_
   refine ends_exit ?_
   cases H
   exact rse
 ·clear h19
  cases y18 with
  | inl y20 =>
   replace H := ofInl H
   rintro e s ⟨rfl, rfl⟩
   change EndsI _ _ _ _ _ _
   refine so [] [] [(4, cB false)] [] id ?_
   cases H
   exact er
  | inr y21 =>
   replace H := ofInr H
   rintro e s ⟨rfl, rfl⟩
   cases H
   exact qr
def s_mEdge_ir : S :=
 (sq [o 3 (.box 5 (.t 0)), o 6 (.mv (iv 0))]
 (.seq (sq [om 7 2, o 8 (.bin .lss (.t 7) (iv 3))]
 (.ite (.t 8) (sq [om 9 1, o 10 (.bin .mul (iv 3) (.t 9)), om 11 2, o 12 (.bin .add (.t 10) (.t 11)), om 6 12]
  .ret)
 .skip))
 (sq [o 13 (.load 5 true (.t 3)), om 14 1, om 15 2, o 16 (.call 60 [.t 13, .t 14, .t 15]), o 17 (.bin .mul (iv 3) (.t 16)), om 18 2, o 19 (.bin .add (.t 17) (.t 18)), o 20 (.bin .sub (.t 19) (iv 3)), om 6 20]
 .ret)))
noncomputable def X.s_mEdge (p0 : TMap) (p1 : Int) (p2 : Int) : Option Int :=
 (bif (decide (p2 < 3)) then some (W ((W (3 * p1)) + p2)) else ((X.s_mNext p0 p1 p2).bind fun v3 => some (W ((W ((W (3 * v3)) + p2)) - 3))))
theorem s_mEdge_ok (p0 : TMap) (p1 : Int) (p2 : Int) (r : Int) (H : X.s_mEdge p0 p1 p2 = some r) : FK 133 [.agg (eTMap p0), cI p1, cI p2] (cI r) := by
 unfold X.s_mEdge at H
 refine fi Tryz.f133 s_mEdge_ir [(6, cI r)] [] glL Tryz.func133 ?_
 refine sn [] [] [(3, pk 3)] [] [(3, va (eTMap p0))] id ?_
 refine seq_in ?_
 refine sn [] [] [(8, cB (decide (p2 < 3)))] [] [] id ?_
 rcases oC H with ⟨c2, H⟩ | ⟨c2, H⟩
 ·refine it c2 ?_
  refine so [] [] [(6, cI (W ((W (3 * p1)) + p2)))] [] id ?_
  cases H
  exact er
 ·refine jf c2 ?_
  refine sk ?_
  obtain ⟨v3, h4, H⟩ := oB H
  refine so [.res (cI v3)] [] [(6, cI (W ((W ((W (3 * v3)) + p2)) - 3)))] [] (aI (s_mNext_ok p0 p1 p2 v3 h4)) ?_
  cases H
  exact er
def s_mRoad_ir : S :=
 (sq [o 3 (.box 5 (.t 0)), o 6 (.mv bF)]
 (.seq (.drw [(0, 2), (1, 2), (0, 3), (1, 3), (2, 3), (0, 4), (1, 4), (2, 4), (3, 4), (0, 5), (1, 5)] [oa 7 4 3, ol 8 7, o 9 (.load 5 true (.t 3)), om 10 1, om 11 2, o 12 (.call 133 [.t 9, .t 10, .t 11]), o 13 (.call 38 [.t 8, .t 12]), om 6 13])
 .ret))
noncomputable def X.s_mRoad (p0 : TMap) (p1 : Int) (p2 : Int) : Option Bool :=
 ((X.s_mEdge p0 p1 p2).bind fun v1 => ((X.s_l1Has p0.Roads v1).bind fun v3 => some v3))
theorem s_mRoad_ok (p0 : TMap) (p1 : Int) (p2 : Int) (r : Bool) (H : X.s_mRoad p0 p1 p2 = some r) : FK 99 [.agg (eTMap p0), cI p1, cI p2] (cB r) := by
 unfold X.s_mRoad at H
 refine fi Tryz.f99 s_mRoad_ir [(6, cB r)] [] glL Tryz.func99 ?_
 refine sn [] [] [(3, pk 3)] [] [(3, va (eTMap p0))] id ?_
 obtain ⟨v1, h2, H⟩ := oB H
 obtain ⟨v3, h4, H⟩ := oB H
 refine sx [.res (cI v1), .res (cB v3)] [] [(6, cB v3)] [] (fun t => aI (s_mEdge_ok p0 p1 p2 v1 h2) (aI trivial (aI rN (aI (s_l1Has_ok p0.Roads v1 v3 h4) (aI trivial (aI rN (t))))))) ?_
 cases H
 exact er
def s_csWeather_ir : S :=
 (sq [o 4 (.mv (iv 0))]
 (.seq (sq [om 5 1]
 (.ite (.t 5) (sq [om 6 0, o 7 (.bin .quo (.t 6) (iv 2)), om 4 7]
  .ret)
 .skip))
 (sq [om 8 0, om 4 8]
 .ret)))
noncomputable def X.s_csWeather (p0 : Int) (p1 : Bool) : Option Int :=
 (bif p1 then some (W (Int.tdiv p0 2)) else some p0)
theorem s_csWeather_ok (p0 : Int) (p1 : Bool) (r : Int) (H : X.s_csWeather p0 p1 = some r) : FK 100 [cI p0, cB p1] (cI r) := by
 unfold X.s_csWeather at H
 refine fi Tryz.f100 s_csWeather_ir [(4, cI r)] [] glL Tryz.func100 ?_
 refine sn [] [] [] [] [] id ?_
 refine seq_in ?_
 refine sn [] [] [(5, cB p1)] [] [] id ?_
 rcases oC H with ⟨c1, H⟩ | ⟨c1, H⟩
 ·refine it c1 ?_
  refine so [] [] [(4, cI (W (Int.tdiv p0 2)))] [] (aI (by decide : (2 : Int) ≠ 0)) ?_
  cases H
  exact er
 ·refine jf c1 ?_
  refine sk ?_
  refine so [] [] [(4, cI p0)] [] id ?_
  cases H
  exact er
def s_mRiver_ir : S :=
 (sq [o 3 (.box 5 (.t 0)), o 6 (.mv bF)]
 (.seq (.drw [(0, 2), (1, 2), (0, 3), (1, 3), (2, 3), (0, 4), (1, 4), (2, 4), (3, 4), (0, 5), (1, 5)] [oa 7 3 3, ol 8 7, o 9 (.load 5 true (.t 3)), om 10 1, om 11 2, o 12 (.call 133 [.t 9, .t 10, .t 11]), o 13 (.call 38 [.t 8, .t 12]), om 6 13])
 .ret))
noncomputable def X.s_mRiver (p0 : TMap) (p1 : Int) (p2 : Int) : Option Bool :=
 ((X.s_mEdge p0 p1 p2).bind fun v1 => ((X.s_l1Has p0.Rivers v1).bind fun v3 => some v3))
theorem s_mRiver_ok (p0 : TMap) (p1 : Int) (p2 : Int) (r : Bool) (H : X.s_mRiver p0 p1 p2 = some r) : FK 101 [.agg (eTMap p0), cI p1, cI p2] (cB r) := by
 unfold X.s_mRiver at H
 refine fi Tryz.f101 s_mRiver_ir [(6, cB r)] [] glL Tryz.func101 ?_
 refine sn [] [] [(3, pk 3)] [] [(3, va (eTMap p0))] id ?_
 obtain ⟨v1, h2, H⟩ := oB H
 obtain ⟨v3, h4, H⟩ := oB H
 refine sx [.res (cI v1), .res (cB v3)] [] [(6, cB v3)] [] (fun t => aI (s_mEdge_ok p0 p1 p2 v1 h2) (aI trivial (aI rN (aI (s_l1Has_ok p0.Rivers v1 v3 h4) (aI trivial (aI rN (t))))))) ?_
 cases H
 exact er
def s_cStep_ir : S :=
 (sq [o 5 (.box 12 (.t 0)), o 10 (.mv (iv 0))]
 (sq [oa 13 7 5, o 14 (.load 5 true (.t 13)), om 15 2, om 16 3, o 17 (.call 60 [.t 14, .t 15, .t 16]), om 11 17]
 (.seq (sq [om 18 11, o 19 (.bin .lss (.t 18) (iv 0)), om 20 19, og 21 (.load 12 true (.t 5)) 20, og 22 (.mv (.t 1)) 20, og 23 (.mv (.t 11)) 20, og 24 (.call 98 [.t 21, .t 22, .t 23]) 20, og 25 (.bin .eql (.t 24) (iv 0)) 20, o 26 (.pick (.t 20) bT (.t 25))]
 (.ite (.t 26) (sq [o 10 (.mv (iv 0))]
  .ret)
 .skip))
 (.seq (sq [oa 27 7 5, o 28 (.load 5 true (.t 27)), om 29 2, om 30 3, o 31 (.call 99 [.t 28, .t 29, .t 30])]
 (.ite (.t 31) (.seq (.drw [(0, 3), (1, 3), (2, 3), (0, 4), (1, 4), (2, 4)] [oa 32 0 5, oa 33 4 32, ol 34 33, om 35 4, o 36 (.call 100 [.t 35, .v (.bool true)]), o 37 (.bin .add (.t 34) (.t 36)), om 10 37])
  .ret)
 .skip))
 (sq [o 38 (.load 12 true (.t 5)), om 39 1, om 40 11, o 41 (.call 98 [.t 38, .t 39, .t 40]), om 42 4, o 43 (.call 100 [.t 42, .v (.bool false)]), o 44 (.bin .add (.t 41) (.t 43)), om 12 44]
 (.seq (sq [oa 45 7 5, o 46 (.load 5 true (.t 45)), om 47 2, om 48 3, o 49 (.call 101 [.t 46, .t 47, .t 48])]
 (.ite (.t 49) (.ops [om 50 12, oa 51 0 5, oa 52 3 51, ol 53 52, o 54 (.bin .add (.t 50) (.t 53)), om 12 54])
 .skip))
 (sq [om 55 12, om 10 55]
 .ret)))))))
noncomputable def X.s_cStep (p0 : TBoard) (p1 : Int) (p2 : Int) (p3 : Int) (p4 : Int) : Option Int :=
 ((X.s_mNext p0.Map p2 p3).bind fun v1 => (bif (decide (v1 < 0)) then some 0 else ((X.s_bCost p0 p1 v1).bind fun v8 => (bif (v8 == 0) then some 0 else ((X.s_mRoad p0.Map p2 p3).bind fun v16 => (bif v16 then ((X.s_csWeather p4 true).bind fun v19 => some (W (p0.Rules.Road + v19))) else ((X.s_bCost p0 p1 v1).bind fun v21 => ((X.s_csWeather p4 false).bind fun v23 => ((X.s_mRiver p0.Map p2 p3).bind fun v25 => (bif v25 then some (W ((W (v21 + v23)) + p0.Rules.River)) else some (W (v21 + v23))))))))))))
theorem s_cStep_ok (p0 : TBoard) (p1 : Int) (p2 : Int) (p3 : Int) (p4 : Int) (r : Int) (H : X.s_cStep p0 p1 p2 p3 p4 = some r) : FK 59 [.agg (eTBoard p0), cI p1, cI p2, cI p3, cI p4] (cI r) := by
 unfold X.s_cStep at H
 refine fi Tryz.f59 s_cStep_ir [(10, cI r)] [] glL Tryz.func59 ?_
 refine sn [] [] [(5, pk 5)] [] [(5, va (eTBoard p0))] id ?_
 obtain ⟨v1, h2, H⟩ := oB H
 refine sn [.res (cI v1)] [] [(11, cI v1)] [] [] (aI (s_mNext_ok p0.Map p2 p3 v1 h2)) ?_
 refine seq_in ?_
 rcases oC H with ⟨c7, H⟩ | ⟨c7, H⟩
 ·refine sn (rg 6 true []) [] [(26, cB true)] [] [] (fun t => aG 6 c7 (t)) ?_
  refine it rT ?_
  refine so [] [] [(10, cI 0)] [] id ?_
  cases H
  exact er
 ·obtain ⟨v8, h9, H⟩ := oB H
  refine sn (rg 4 false ([.res (cI v8)] ++ rg 2 false [])) [] [(26, cB (v8 == 0))] [] [] (fun t => aG 4 c7 (aI (s_bCost_ok p0 p1 v1 v8 h9) (aG 2 c7 (t)))) ?_
  rcases oC H with ⟨c10, H⟩ | ⟨c10, H⟩
  ·refine it c10 ?_
   refine so [] [] [(10, cI 0)] [] id ?_
   cases H
   exact er
  ·refine jf c10 ?_
   refine sk ?_
   refine seq_in ?_
   obtain ⟨v16, h17, H⟩ := oB H
   refine sn [.res (cB v16)] [] [(31, cB v16)] [] [] (aI (s_mRoad_ok p0.Map p2 p3 v16 h17)) ?_
   rcases oC H with ⟨c18, H⟩ | ⟨c18, H⟩
   ·refine it c18 ?_
    obtain ⟨v19, h20, H⟩ := oB H
    refine sx [.res (cI v19)] [] [(10, cI (W (p0.Rules.Road + v19)))] [] (fun t => aI (s_csWeather_ok p4 true v19 h20) (aI trivial (aI rN (t)))) ?_
    cases H
    exact er
   ·refine jf c18 ?_
    refine sk ?_
    obtain ⟨v21, h22, H⟩ := oB H
    obtain ⟨v23, h24, H⟩ := oB H
    refine sn [.res (cI v21), .res (cI v23)] [] [(12, cI (W (v21 + v23)))] [] [] (fun t => aI (s_bCost_ok p0 p1 v1 v21 h22) (aI (s_csWeather_ok p4 false v23 h24) (t))) ?_
    refine seq_in ?_
    obtain ⟨v25, h26, H⟩ := oB H
    refine sn [.res (cB v25)] [] [(49, cB v25)] [] [] (aI (s_mRiver_ok p0.Map p2 p3 v25 h26)) ?_
    rcases oC H with ⟨c27, H⟩ | ⟨c27, H⟩
    ·refine it c27 ?_
     refine oo [] [] [(12, cI (W ((W (v21 + v23)) + p0.Rules.River)))] [] id ?_
     change EndsI _ _ _ _ _ _
     refine so [] [] [(10, cI (W ((W (v21 + v23)) + p0.Rules.River)))] [] id ?_
     cases H
     exact er
    ·refine jf c27 ?_
     refine sk ?_
     refine so [] [] [(10, cI (W (v21 + v23)))] [] id ?_
     cases H
     exact er
def s_pFrom_ir : S :=
 (sq [o 5 (.box 12 (.t 0)), o 10 (.mv (.v (.nil)))]
 (sq [oa 21 7 5, o 22 (.load 5 true (.t 21)), o 23 (.call 58 [.t 22]), o 24 (.msl 1 8 [.int .i64 0] (.t 23)), om 11 24]
 (sq [om 25 11, o 26 (.len (.t 25)), o 27 (.msl 1 1 [.bool false] (.t 26)), om 12 27]
 (.seq (sq [om 28 11, o 29 (.len (.t 28)), o 30 (.mv (iv 0))]
 (.blk 0 (.loop (sq [o 31 (.bin .lss (.t 30) (.t 29))]
   (.seq (.ite (.t 31) .skip
   (.exit 0))
   (.seq (.blk 1 (sq [om 32 30, om 13 32]
    (.ops [om 33 11, om 34 13, o 35 (.iad 1 (.t 33) (.t 34)), ⟨none, .store 1 (.t 35) (.v (.int .i64 (-1))), none⟩])))
   (.ops [o 36 (.bin .add (.t 30) (iv 1)), om 30 36])))))))
 (sq [om 37 11, om 38 3, o 39 (.iad 1 (.t 37) (.t 38)), ⟨none, .store 1 (.t 39) (iv 0), none⟩]
 (.blk 2 (.loop (.blk 3 (sq [o 14 (.mv (.v (.int .i64 (-1))))]
    (.seq (sq [om 40 11, o 41 (.len (.t 40)), o 42 (.mv (iv 0))]
    (.blk 4 (.loop (sq [o 43 (.bin .lss (.t 42) (.t 41))]
      (.seq (.ite (.t 43) .skip
      (.exit 4))
      (.seq (.blk 5 (sq [om 44 42, o 45 (.iad 1 (.t 40) (.t 42)), ol 46 45, om 15 44, om 16 46]
       (sq [om 47 16, o 48 (.bin .geq (.t 47) (iv 0)), om 49 48, oh 50 (.mv (.t 12)) 49, oh 51 (.mv (.t 15)) 49, oh 52 (.iad 1 (.t 50) (.t 51)) 49, oh 53 (.load 1 false (.t 52)) 49, oh 54 (.not (.t 53)) 49, o 55 (.pick (.t 49) (.t 54) bF), om 56 55, oh 57 (.mv (.t 14)) 56, oh 58 (.bin .lss (.t 57) (iv 0)) 56, oh 59 (.mv (.t 58)) 56, og 60 (.mv (.t 16)) 59, og 61 (.mv (.t 11)) 59, og 62 (.mv (.t 14)) 59, og 63 (.iad 1 (.t 61) (.t 62)) 59, og 64 (.load 1 false (.t 63)) 59, og 65 (.bin .lss (.t 60) (.t 64)) 59, oh 66 (.pick (.t 59) bT (.t 65)) 56, o 67 (.pick (.t 56) (.t 66) bF)]
       (.ite (.t 67) (.ops [om 68 15, om 14 68])
       .skip))))
      (.ops [o 69 (.bin .add (.t 42) (iv 1)), om 42 69])))))))
    (.seq (sq [om 70 14, o 71 (.bin .lss (.t 70) (iv 0))]
    (.ite (.t 71) (sq [om 72 11, om 10 72]
     .ret)
    .skip))
    (sq [om 73 12, om 74 14, o 75 (.iad 1 (.t 73) (.t 74)), ⟨none, .store 1 (.t 75) bT, none⟩]
    (sq [o 17 (.mv (iv 0))]
    (.blk 6 (.loop (.seq (sq [om 76 17, o 77 (.bin .lss (.t 76) (iv 6))]
      (.ite (.t 77) .skip
      (.exit 6)))
      (.seq (.blk 7 (sq [o 80 (.load 12 true (.t 5)), om 81 1, om 82 14, om 83 17, om 84 2, o 85 (.call 59 [.t 80, .t 81, .t 82, .t 83, .t 84]), om 18 85]
       (.seq (sq [om 86 18, o 87 (.bin .eql (.t 86) (iv 0))]
       (.ite (.t 87) (.exit 7)
       .skip))
       (sq [oa 88 7 5, o 89 (.load 5 true (.t 88)), om 90 14, om 91 17, o 92 (.call 60 [.t 89, .t 90, .t 91]), om 19 92]
       (sq [om 93 11, om 94 14, o 95 (.iad 1 (.t 93) (.t 94)), ol 96 95, om 97 18, o 98 (.bin .add (.t 96) (.t 97)), om 20 98]
       (sq [om 99 4, om 100 19, o 101 (.call 38 [.t 99, .t 100]), o 102 (.not (.t 101)), om 103 102, oh 104 (.mv (.t 11)) 103, oh 105 (.mv (.t 19)) 103, oh 106 (.iad 1 (.t 104) (.t 105)) 103, oh 107 (.load 1 false (.t 106)) 103, oh 108 (.bin .lss (.t 107) (iv 0)) 103, oh 109 (.mv (.t 108)) 103, og 110 (.mv (.t 20)) 109, og 111 (.mv (.t 11)) 109, og 112 (.mv (.t 19)) 109, og 113 (.iad 1 (.t 111) (.t 112)) 109, og 114 (.load 1 false (.t 113)) 109, og 115 (.bin .lss (.t 110) (.t 114)) 109, oh 116 (.pick (.t 109) bT (.t 115)) 103, o 117 (.pick (.t 103) (.t 116) bF)]
       (.ite (.t 117) (.ops [om 118 11, om 119 19, om 120 20, o 121 (.iad 1 (.t 118) (.t 119)), os 1 121 120])
       .skip)))))))
      (.ops [om 78 17, o 79 (.bin .add (.t 78) (iv 1)), om 17 79]))))))))))))))))))
noncomputable def X.s_pFrom (p0 : TBoard) (p1 : Int) (p2 : Int) (p3 : Int) (p4 : (List Int)) : Option (List Int) :=
 ((X.s_mSize p0.Map).bind fun v1 => (if 0 ≤ v1 ∧ v1.toNat ≤ LIM then (if 0 ≤ ((List.replicate v1.toNat zI).length : Int) ∧ ((List.replicate v1.toNat zI).length : Int).toNat ≤ LIM then ((loop (fun (x25 : (Int × (List Int))) => ((bif (decide (x25.1 < ((List.replicate v1.toNat zI).length : Int))) then (if 0 ≤ x25.1 ∧ x25.1 < (x25.2.length : Int) then some (Sum.inl ((W (x25.1 + 1)), (x25.2.set x25.1.toNat (-1)))) else none) else some (Sum.inr x25.2)) : Option ((Int × (List Int)) ⊕ (List Int)))) (0, (List.replicate v1.toNat zI))).bind fun y29 => (if 0 ≤ p3 ∧ p3 < (y29.length : Int) then ((loop (fun (x261 : ((List Int) × (List Bool))) => (((loop (fun (x312 : (Int × Int)) => ((bif (decide (x312.2 < (x261.1.length : Int))) then (if 0 ≤ x312.2 ∧ x312.2 < (x261.1.length : Int) then (bif (decide ((x261.1.getD x312.2.toNat zI) ≥ 0)) then (if 0 ≤ x312.2 ∧ x312.2 < (x261.2.length : Int) then (bif (!(x261.2.getD x312.2.toNat zB)) then (bif (decide (x312.1 < 0)) then some (Sum.inl (x312.2, (W (x312.2 + 1)))) else (if 0 ≤ x312.1 ∧ x312.1 < (x261.1.length : Int) then (bif (decide ((x261.1.getD x312.2.toNat zI) < (x261.1.getD x312.1.toNat zI))) then some (Sum.inl (x312.2, (W (x312.2 + 1)))) else some (Sum.inl (x312.1, (W (x312.2 + 1))))) else none)) else some (Sum.inl (x312.1, (W (x312.2 + 1))))) else none) else some (Sum.inl (x312.1, (W (x312.2 + 1))))) else none) else some (Sum.inr x312.1)) : Option ((Int × Int) ⊕ Int))) (-1, 0)).bind fun y322 => (bif (decide (y322 < 0)) then some (Sum.inr x261.1) else (if 0 ≤ y322 ∧ y322 < (x261.2.length : Int) then ((loop (fun (x358 : (Int × (List Int))) => ((bif (decide (x358.1 < 6)) then ((X.s_cStep p0 p1 y322 x358.1 p2).bind fun v361 => (bif (v361 == 0) then some (Sum.inl ((W (x358.1 + 1)), x358.2)) else ((X.s_mNext p0.Map y322 x358.1).bind fun v365 => (if 0 ≤ y322 ∧ y322 < (x358.2.length : Int) then ((X.s_l1Has p4 v365).bind fun v368 => (bif (!v368) then (if 0 ≤ v365 ∧ v365 < (x358.2.length : Int) then (bif (decide ((x358.2.getD v365.toNat zI) < 0)) then some (Sum.inl ((W (x358.1 + 1)), (x358.2.set v365.toNat (W ((x358.2.getD y322.toNat zI) + v361))))) else (bif (decide ((W ((x358.2.getD y322.toNat zI) + v361)) < (x358.2.getD v365.toNat zI))) then some (Sum.inl ((W (x358.1 + 1)), (x358.2.set v365.toNat (W ((x358.2.getD y322.toNat zI) + v361))))) else some (Sum.inl ((W (x358.1 + 1)), x358.2)))) else none) else some (Sum.inl ((W (x358.1 + 1)), x358.2)))) else none)))) else some (Sum.inr (x358.2, (x261.2.set y322.toNat true)))) : Option ((Int × (List Int)) ⊕ ((List Int) × (List Bool))))) (0, x261.1)).bind fun y374 => some (Sum.inl (y374.1, y374.2))) else none))) : Option (((List Int) × (List Bool)) ⊕ (List Int)))) ((y29.set p3.toNat 0), (List.replicate ((List.replicate v1.toNat zI).length : Int).toNat zB))).bind fun y376 => some y376) else none)) else none) else none))
theorem s_pFrom_ok (p0 : TBoard) (p1 : Int) (p2 : Int) (p3 : Int) (p4 : (List Int)) (r : (List Int)) (H : X.s_pFrom p0 p1 p2 p3 p4 = some r) : FK 25 [.agg (eTBoard p0), cI p1, cI p2, cI p3, .c (dat 1 eI zI p4)] (.c (dat 1 eI zI r)) := by
 unfold X.s_pFrom at H
 refine fi Tryz.f25 s_pFrom_ir [(10, dc 1 eI zI r)] [] glL Tryz.func25 ?_
 refine sn [] [] [(5, pk 5)] [] [(5, va (eTBoard p0))] id ?_
 obtain ⟨v1, h2, H⟩ := oB H
 obtain ⟨g3, H⟩ := oI H
 refine sn [.res (cI v1), fh eI zI (List.replicate v1.toNat zI)] [] [(11, ow 24 1 (List.replicate v1.toNat zI))] [] [(24, ar 1 eI zI (List.replicate v1.toNat zI))] (fun t => aI (s_mSize_ok p0.Map v1 h2) (aI (And.intro g3.1 (And.intro (List.length_replicate (n := v1.toNat) (a := zI)).symm (Nat.le_trans (Nat.le_of_eq List.length_replicate) g3.2 : (List.replicate v1.toNat zI).length ≤ LIM))) (aI (fF_rep eI zI zI v1.toNat) (t)))) ?_
 obtain ⟨g4, H⟩ := oI H
 refine sn [fh eB zB (List.replicate ((List.replicate v1.toNat zI).length : Int).toNat zB)] [] [(12, ow 27 1 (List.replicate ((List.replicate v1.toNat zI).length : Int).toNat zB))] [] [(27, ar 1 eB zB (List.replicate ((List.replicate v1.toNat zI).length : Int).toNat zB))] (fun t => (fun (_ : (List.replicate v1.toNat zI).length ≤ maxLen) => aI (And.intro g4.1 (And.intro (List.length_replicate (n := ((List.replicate v1.toNat zI).length : Int).toNat) (a := zB)).symm (Nat.le_trans (Nat.le_of_eq List.length_replicate) g4.2 : (List.replicate ((List.replicate v1.toNat zI).length : Int).toNat zB).length ≤ LIM))) (aI (fF_rep eB zB zB ((List.replicate v1.toNat zI).length : Int).toNat) (t)))) ?_
 refine seq_in ?_
 refine sn [] [] [(29, cL (List.replicate v1.toNat zI)), (30, cI 0)] [] [] (fun t => (fun (_ : (List.replicate v1.toNat zI).length ≤ maxLen) => t)) ?_
 refine ends_blk ?_
 obtain ⟨y29, h30, H⟩ := oB H
 refine tl [] [(1, cI p1), (2, cI p2), (3, cI p3), (4, dc 1 eI zI p4), (5, pk 5), (11, ow 24 1 (List.replicate v1.toNat zI)), (12, ow 27 1 (List.replicate ((List.replicate v1.toNat zI).length : Int).toNat zB)), (29, cL (List.replicate v1.toNat zI)), (30, cI 0)] [(5, va (eTBoard p0)), (24, ar 1 eI zI (List.replicate v1.toNat zI)), (27, ar 1 eB zB (List.replicate ((List.replicate v1.toNat zI).length : Int).toNat zB))] id ?_
 refine loop_in (fun (x : (Int × (List Int))) => lit [(1, cI p1), (2, cI p2), (3, cI p3), (4, dc 1 eI zI p4), (5, pk 5), (11, ow 24 1 x.2), (12, ow 27 1 (List.replicate ((List.replicate v1.toNat zI).length : Int).toNat zB)), (29, cL (List.replicate v1.toNat zI)), (30, cI x.1)] [(5, va (eTBoard p0)), (24, ar 1 eI zI x.2), (27, ar 1 eB zB (List.replicate ((List.replicate v1.toNat zI).length : Int).toNat zB))]) (fun (z : (List Int)) => At (.exit 0) (lit [(1, cI p1), (2, cI p2), (3, cI p3), (4, dc 1 eI zI p4), (5, pk 5), (11, ow 24 1 z), (12, ow 27 1 (List.replicate ((List.replicate v1.toNat zI).length : Int).toNat zB))] [(5, va (eTBoard p0)), (24, ar 1 eI zI z), (27, ar 1 eB zB (List.replicate ((List.replicate v1.toNat zI).length : Int).toNat zB))])) h30 ?_ ?_
 ·clear H h30
  intro x25 y0 H
  refine sn [] [] [(31, cB (decide (x25.1 < ((List.replicate v1.toNat zI).length : Int))))] [] [] id ?_
  refine seq_in ?_
  rcases oC H with ⟨c27, H⟩ | ⟨c27, H⟩
  ·refine it c27 ?_
   refine sk ?_
   refine seq_in ?_
   refine ends_blk ?_
   refine sn [] [] [(13, cI x25.1)] [] [] id ?_
   obtain ⟨g28, H⟩ := oI H
   refine oo [.no, .fn 0 (fF eI zI (x25.2.set x25.1.toNat (-1)))] [] [(1, cI p1), (2, cI p2), (3, cI p3), (4, dc 1 eI zI p4), (5, pk 5), (11, ow 24 1 x25.2), (12, ow 27 1 (List.replicate ((List.replicate v1.toNat zI).length : Int).toNat zB)), (29, cL (List.replicate v1.toNat zI)), (30, cI x25.1)] [(5, va (eTBoard p0)), (24, .arr 1 x25.2.length (fF eI zI (x25.2.set x25.1.toNat (-1))) false), (27, ar 1 eB zB (List.replicate ((List.replicate v1.toNat zI).length : Int).toNat zB))] (fun t => aI g28 (aI rT (aI (nat_lt g28) (aI (by decide : 0 + 1 ≤ 1) (aI (fF_set eI zI x25.2 x25.1.toNat (-1) (nat_lt g28) x25.2.length) (t)))))) ?_
   change EndsI _ _ _ _ _ _
   refine oo [] [.rel 11 ((x25.2.set x25.1.toNat (-1)).length), .rep 24 ((x25.2.set x25.1.toNat (-1)).length) (fF eI zI (x25.2.set x25.1.toNat (-1)))] [(1, cI p1), (2, cI p2), (3, cI p3), (4, dc 1 eI zI p4), (5, pk 5), (11, ow 24 1 (x25.2.set x25.1.toNat (-1))), (12, ow 27 1 (List.replicate ((List.replicate v1.toNat zI).length : Int).toNat zB)), (29, cL (List.replicate v1.toNat zI)), (30, cI (W (x25.1 + 1)))] [(5, va (eTBoard p0)), (24, ar 1 eI zI (x25.2.set x25.1.toNat (-1))), (27, ar 1 eB zB (List.replicate ((List.replicate v1.toNat zI).length : Int).toNat zB))] (fun t => aI (by simp : x25.2.length = (x25.2.set x25.1.toNat (-1)).length) (aI (Nat.le_of_eq (by simp : (x25.2.set x25.1.toNat (-1)).length = x25.2.length)) (aI (fun _ _ => rfl : ∀ i, i < (x25.2.set x25.1.toNat (-1)).length → (fF eI zI (x25.2.set x25.1.toNat (-1))) i = (fF eI zI (x25.2.set x25.1.toNat (-1))) i) (t)))) ?_
   cases H
   exact rr
  ·refine jf c27 ?_
   refine tl [] [(1, cI p1), (2, cI p2), (3, cI p3), (4, dc 1 eI zI p4), (5, pk 5), (11, ow 24 1 x25.2), (12, ow 27 1 (List.replicate ((List.replicate v1.toNat zI).length : Int).toNat zB))] [(5, va (eTBoard p0)), (24, ar 1 eI zI x25.2), (27, ar 1 eB zB (List.replicate ((List.replicate v1.toNat zI).length : Int).toNat zB))] id ?_
   refine ends_exit ?_
   cases H
   exact rse
 ·clear h30
  rintro e s ⟨rfl, rfl⟩
  change EndsI _ _ _ _ _ _
  obtain ⟨g31, H⟩ := oI H
  refine sn [.no, .fn 0 (fF eI zI (y29.set p3.toNat 0))] [] [] [24] [(24, .arr 1 y29.length (fF eI zI (y29.set p3.toNat 0)) false)] (fun t => aI g31 (aI rT (aI (nat_lt g31) (aI (by decide : 0 + 1 ≤ 1) (aI (fF_set eI zI y29 p3.toNat 0 (nat_lt g31) y29.length) (t)))))) ?_
  refine ends_blk ?_
  obtain ⟨y376, h377, H⟩ := oB H
  refine tl [.rel 11 ((y29.set p3.toNat 0).length), .rep 24 ((y29.set p3.toNat 0).length) (fF eI zI (y29.set p3.toNat 0))] [(1, cI p1), (2, cI p2), (4, dc 1 eI zI p4), (5, pk 5), (11, ow 24 1 (y29.set p3.toNat 0)), (12, ow 27 1 (List.replicate ((List.replicate v1.toNat zI).length : Int).toNat zB))] [(5, va (eTBoard p0)), (24, ar 1 eI zI (y29.set p3.toNat 0)), (27, ar 1 eB zB (List.replicate ((List.replicate v1.toNat zI).length : Int).toNat zB))] (fun t => aI (by simp : y29.length = (y29.set p3.toNat 0).length) (aI (Nat.le_of_eq (by simp : (y29.set p3.toNat 0).length = y29.length)) (aI (fun _ _ => rfl : ∀ i, i < (y29.set p3.toNat 0).length → (fF eI zI (y29.set p3.toNat 0)) i = (fF eI zI (y29.set p3.toNat 0)) i) (t)))) ?_
  refine loop_in (fun (x : ((List Int) × (List Bool))) => lit [(1, cI p1), (2, cI p2), (4, dc 1 eI zI p4), (5, pk 5), (11, ow 24 1 x.1), (12, ow 27 1 x.2)] [(5, va (eTBoard p0)), (24, ar 1 eI zI x.1), (27, ar 1 eB zB x.2)]) (fun (z : (List Int)) => At .ret (lit [(10, dc 1 eI zI z)] [])) h377 ?_ ?_
  ·clear H h377
   intro x261 y0 H
   refine ends_blk ?_
   refine sn [] [] [(14, cI (-1))] [] [] id ?_
   refine seq_in ?_
   refine sn [] [] [(40, ow 24 1 x261.1), (41, cL x261.1), (42, cI 0)] [] [] (fun t => lI x261.1 (t)) ?_
   refine ends_blk ?_
   obtain ⟨y322, h323, H⟩ := oB H
   refine tl [] [(1, cI p1), (2, cI p2), (4, dc 1 eI zI p4), (5, pk 5), (11, ow 24 1 x261.1), (12, ow 27 1 x261.2), (14, cI (-1)), (40, ow 24 1 x261.1), (41, cL x261.1), (42, cI 0)] [(5, va (eTBoard p0)), (24, ar 1 eI zI x261.1), (27, ar 1 eB zB x261.2)] id ?_
   refine loop_in (fun (x : (Int × Int)) => lit [(1, cI p1), (2, cI p2), (4, dc 1 eI zI p4), (5, pk 5), (11, ow 24 1 x261.1), (12, ow 27 1 x261.2), (14, cI x.1), (40, ow 24 1 x261.1), (41, cL x261.1), (42, cI x.2)] [(5, va (eTBoard p0)), (24, ar 1 eI zI x261.1), (27, ar 1 eB zB x261.2)]) (fun (z : Int) => At (.exit 4) (lit [(1, cI p1), (2, cI p2), (4, dc 1 eI zI p4), (5, pk 5), (11, ow 24 1 x261.1), (12, ow 27 1 x261.2), (14, cI z)] [(5, va (eTBoard p0)), (24, ar 1 eI zI x261.1), (27, ar 1 eB zB x261.2)])) h323 ?_ ?_
   ·clear H h323
    intro x312 y0 H
    refine sn [] [] [(43, cB (decide (x312.2 < (x261.1.length : Int))))] [] [] id ?_
    refine seq_in ?_
    rcases oC H with ⟨c314, H⟩ | ⟨c314, H⟩
    ·refine it c314 ?_
     refine sk ?_
     refine seq_in ?_
     refine ends_blk ?_
     obtain ⟨g315, H⟩ := oI H
     refine sn [.no] [] [(15, cI x312.2), (16, cI (x261.1.getD x312.2.toNat zI))] [] [] (fun t => aI g315 (aI (nat_lt g315) (t))) ?_
     rcases oC H with ⟨c316, H⟩ | ⟨c316, H⟩
     ·obtain ⟨g317, H⟩ := oI H
      rcases oC H with ⟨c318, H⟩ | ⟨c318, H⟩
      ·rcases oC H with ⟨c319, H⟩ | ⟨c319, H⟩
       ·refine sn (rg 3 true ([.no] ++ rg 15 true [])) [] [(67, cB true)] [] [] (fun t => aG 3 c316 (aI g317 (aI c316 (aI (nat_lt g317) (aG 2 c316 (aG 3 c318 (aG 6 c319 (aI c318 (aI c319 (aI c318 (t))))))))))) ?_
        refine it rT ?_
        refine oo [] [] [(1, cI p1), (2, cI p2), (4, dc 1 eI zI p4), (5, pk 5), (11, ow 24 1 x261.1), (12, ow 27 1 x261.2), (14, cI x312.2), (40, ow 24 1 x261.1), (41, cL x261.1), (42, cI x312.2)] [(5, va (eTBoard p0)), (24, ar 1 eI zI x261.1), (27, ar 1 eB zB x261.2)] id ?_
        change EndsI _ _ _ _ _ _
        refine oo [] [] [(1, cI p1), (2, cI p2), (4, dc 1 eI zI p4), (5, pk 5), (11, ow 24 1 x261.1), (12, ow 27 1 x261.2), (14, cI x312.2), (40, ow 24 1 x261.1), (41, cL x261.1), (42, cI (W (x312.2 + 1)))] [(5, va (eTBoard p0)), (24, ar 1 eI zI x261.1), (27, ar 1 eB zB x261.2)] id ?_
        cases H
        exact rr
       ·obtain ⟨g320, H⟩ := oI H
        refine sn (rg 3 true ([.no] ++ rg 6 true (rg 4 false ([.no] ++ rg 2 false [.g true, .g false, .g true])))) [] [(67, cB (decide ((x261.1.getD x312.2.toNat zI) < (x261.1.getD x312.1.toNat zI))))] [] [] (fun t => aG 3 c316 (aI g317 (aI c316 (aI (nat_lt g317) (aG 2 c316 (aG 3 c318 (aG 4 c319 (aI g320 (aI c319 (aI (nat_lt g320) (aI c319 (aI c318 (aI c319 (aI c318 (t))))))))))))))) ?_
        rcases oC H with ⟨c321, H⟩ | ⟨c321, H⟩
        ·refine it c321 ?_
         refine oo [] [] [(1, cI p1), (2, cI p2), (4, dc 1 eI zI p4), (5, pk 5), (11, ow 24 1 x261.1), (12, ow 27 1 x261.2), (14, cI x312.2), (40, ow 24 1 x261.1), (41, cL x261.1), (42, cI x312.2)] [(5, va (eTBoard p0)), (24, ar 1 eI zI x261.1), (27, ar 1 eB zB x261.2)] id ?_
         change EndsI _ _ _ _ _ _
         refine oo [] [] [(1, cI p1), (2, cI p2), (4, dc 1 eI zI p4), (5, pk 5), (11, ow 24 1 x261.1), (12, ow 27 1 x261.2), (14, cI x312.2), (40, ow 24 1 x261.1), (41, cL x261.1), (42, cI (W (x312.2 + 1)))] [(5, va (eTBoard p0)), (24, ar 1 eI zI x261.1), (27, ar 1 eB zB x261.2)] id ?_
         cases H
         exact rr
        ·refine jf c321 ?_
         refine sk ?_
         refine oo [] [] [(1, cI p1), (2, cI p2), (4, dc 1 eI zI p4), (5, pk 5), (11, ow 24 1 x261.1), (12, ow 27 1 x261.2), (14, cI x312.1), (40, ow 24 1 x261.1), (41, cL x261.1), (42, cI (W (x312.2 + 1)))] [(5, va (eTBoard p0)), (24, ar 1 eI zI x261.1), (27, ar 1 eB zB x261.2)] id ?_
         cases H
         exact rr
      ·refine sn (rg 3 true ([.no] ++ rg 3 true (rg 5 false []))) [] [(67, cB false)] [] [] (fun t => aG 3 c316 (aI g317 (aI c316 (aI (nat_lt g317) (aG 2 c316 (aG 5 c318 (t))))))) ?_
       refine jf rF ?_
       refine sk ?_
       refine oo [] [] [(1, cI p1), (2, cI p2), (4, dc 1 eI zI p4), (5, pk 5), (11, ow 24 1 x261.1), (12, ow 27 1 x261.2), (14, cI x312.1), (40, ow 24 1 x261.1), (41, cL x261.1), (42, cI (W (x312.2 + 1)))] [(5, va (eTBoard p0)), (24, ar 1 eI zI x261.1), (27, ar 1 eB zB x261.2)] id ?_
       cases H
       exact rr
     ·refine sn (rg 11 false []) [] [(67, cB false)] [] [] (fun t => aG 6 c316 (aG 5 rF (t))) ?_
      refine jf rF ?_
      refine sk ?_
      refine oo [] [] [(1, cI p1), (2, cI p2), (4, dc 1 eI zI p4), (5, pk 5), (11, ow 24 1 x261.1), (12, ow 27 1 x261.2), (14, cI x312.1), (40, ow 24 1 x261.1), (41, cL x261.1), (42, cI (W (x312.2 + 1)))] [(5, va (eTBoard p0)), (24, ar 1 eI zI x261.1), (27, ar 1 eB zB x261.2)] id ?_
      cases H
      exact rr
    ·refine jf c314 ?_
     refine tl [] [(1, cI p1), (2, cI p2), (4, dc 1 eI zI p4), (5, pk 5), (11, ow 24 1 x261.1), (12, ow 27 1 x261.2), (14, cI x312.1)] [(5, va (eTBoard p0)), (24, ar 1 eI zI x261.1), (27, ar 1 eB zB x261.2)] id ?_
     refine ends_exit ?_
     cases H
     exact rse
   ·clear h323
    rintro e s ⟨rfl, rfl⟩
    change EndsI _ _ _ _ _ _
    refine seq_in ?_
    refine sn [] [] [(71, cB (decide (y322 < 0)))] [] [] id ?_
    rcases oC H with ⟨c325, H⟩ | ⟨c325, H⟩
    ·refine it c325 ?_
     refine sn [] [] [(10, ow 24 1 x261.1)] [] [] id ?_
     refine tl [.frz 10] [(10, dc 1 eI zI x261.1)] [] (aI (Nat.le_refl x261.1.length)) ?_
     refine ends_ret ?_
     cases H
     exact rsr
    ·refine jf c325 ?_
     refine sk ?_
     obtain ⟨g326, H⟩ := oI H
     refine sn [.no, .fn 0 (fF eB zB (x261.2.set y322.toNat true))] [] [] [27] [(27, .arr 1 x261.2.length (fF eB zB (x261.2.set y322.toNat true)) false)] (fun t => aI g326 (aI rT (aI (nat_lt g326) (aI (by decide : 0 + 1 ≤ 1) (aI (fF_set eB zB x261.2 y322.toNat true (nat_lt g326) x261.2.length) (t)))))) ?_
     refine sn [] [] [(17, cI 0)] [] [] id ?_
     refine ends_blk ?_
     obtain ⟨y374, h375, H⟩ := oB H
     refine tl [.rel 12 ((x261.2.set y322.toNat true).length), .rep 27 ((x261.2.set y322.toNat true).length) (fF eB zB (x261.2.set y322.toNat true))] [(1, cI p1), (2, cI p2), (4, dc 1 eI zI p4), (5, pk 5), (11, ow 24 1 x261.1), (12, ow 27 1 (x261.2.set y322.toNat true)), (14, cI y322), (17, cI 0)] [(5, va (eTBoard p0)), (24, ar 1 eI zI x261.1), (27, ar 1 eB zB (x261.2.set y322.toNat true))] (fun t => aI (by simp : x261.2.length = (x261.2.set y322.toNat true).length) (aI (Nat.le_of_eq (by simp : (x261.2.set y322.toNat true).length = x261.2.length)) (aI (fun _ _ => rfl : ∀ i, i < (x261.2.set y322.toNat true).length → (fF eB zB (x261.2.set y322.toNat true)) i = (fF eB zB (x261.2.set y322.toNat true)) i) (t)))) ?_
     refine loop_in (fun (x : (Int × (List Int))) => lit [(1, cI p1), (2, cI p2), (4, dc 1 eI zI p4), (5, pk 5), (11, ow 24 1 x.2), (12, ow 27 1 (x261.2.set y322.toNat true)), (14, cI y322), (17, cI x.1)] [(5, va (eTBoard p0)), (24, ar 1 eI zI x.2), (27, ar 1 eB zB (x261.2.set y322.toNat true))]) (fun (z : ((List Int) × (List Bool))) => At (.exit 6) (lit [(1, cI p1), (2, cI p2), (4, dc 1 eI zI p4), (5, pk 5), (11, ow 24 1 z.1), (12, ow 27 1 z.2)] [(5, va (eTBoard p0)), (24, ar 1 eI zI z.1), (27, ar 1 eB zB z.2)])) h375 ?_ ?_
     ·clear H h375
      intro x358 y0 H
      refine seq_in ?_
      refine sn [] [] [(77, cB (decide (x358.1 < 6)))] [] [] id ?_
      rcases oC H with ⟨c360, H⟩ | ⟨c360, H⟩
      ·refine it c360 ?_
       refine sk ?_
       refine seq_in ?_
       refine ends_blk ?_
       obtain ⟨v361, h362, H⟩ := oB H
       refine sn [.res (cI v361)] [] [(18, cI v361)] [] [] (aI (s_cStep_ok p0 p1 y322 x358.1 p2 v361 h362)) ?_
       refine seq_in ?_
       refine sn [] [] [(87, cB (v361 == 0))] [] [] id ?_
       rcases oC H with ⟨c364, H⟩ | ⟨c364, H⟩
       ·refine it c364 ?_
        refine ends_exit ?_
        change EndsI _ _ _ _ _ _
        refine oo [] [] [(1, cI p1), (2, cI p2), (4, dc 1 eI zI p4), (5, pk 5), (11, ow 24 1 x358.2), (12, ow 27 1 (x261.2.set y322.toNat true)), (14, cI y322), (17, cI (W (x358.1 + 1)))] [(5, va (eTBoard p0)), (24, ar 1 eI zI x358.2), (27, ar 1 eB zB (x261.2.set y322.toNat true))] id ?_
        cases H
        exact rr
       ·refine jf c364 ?_
        refine sk ?_
        obtain ⟨v365, h366, H⟩ := oB H
        refine sn [.res (cI v365)] [] [(19, cI v365)] [] [] (aI (s_mNext_ok p0.Map y322 x358.1 v365 h366)) ?_
        obtain ⟨g367, H⟩ := oI H
        refine sn [.no] [] [(20, cI (W ((x358.2.getD y322.toNat zI) + v361)))] [] [] (fun t => aI g367 (aI (nat_lt g367) (t))) ?_
        obtain ⟨v368, h369, H⟩ := oB H
        rcases oC H with ⟨c370, H⟩ | ⟨c370, H⟩
        ·obtain ⟨g371, H⟩ := oI H
         rcases oC H with ⟨c372, H⟩ | ⟨c372, H⟩
         ·refine sn ([.res (cB v368)] ++ rg 3 true ([.no] ++ rg 12 true [])) [] [(117, cB true)] [] [] (fun t => aI (s_l1Has_ok p4 v365 v368 h369) (aG 3 c370 (aI g371 (aI c370 (aI (nat_lt g371) (aG 2 c370 (aG 6 c372 (aI c370 (aI c372 (aI c370 (t))))))))))) ?_
          refine it rT ?_
          refine oo [.no, .fn 0 (fF eI zI (x358.2.set v365.toNat (W ((x358.2.getD y322.toNat zI) + v361))))] [] [(1, cI p1), (2, cI p2), (4, dc 1 eI zI p4), (5, pk 5), (11, ow 24 1 x358.2), (12, ow 27 1 (x261.2.set y322.toNat true)), (14, cI y322), (17, cI x358.1)] [(5, va (eTBoard p0)), (24, .arr 1 x358.2.length (fF eI zI (x358.2.set v365.toNat (W ((x358.2.getD y322.toNat zI) + v361)))) false), (27, ar 1 eB zB (x261.2.set y322.toNat true))] (fun t => aI g371 (aI rT (aI (nat_lt g371) (aI (by decide : 0 + 1 ≤ 1) (aI (fF_set eI zI x358.2 v365.toNat (W ((x358.2.getD y322.toNat zI) + v361)) (nat_lt g371) x358.2.length) (t)))))) ?_
          change EndsI _ _ _ _ _ _
          refine oo [] [.rel 11 ((x358.2.set v365.toNat (W ((x358.2.getD y322.toNat zI) + v361))).length), .rep 24 ((x358.2.set v365.toNat (W ((x358.2.getD y322.toNat zI) + v361))).length) (fF eI zI (x358.2.set v365.toNat (W ((x358.2.getD y322.toNat zI) + v361))))] [(1, cI p1), (2, cI p2), (4, dc 1 eI zI p4), (5, pk 5), (11, ow 24 1 (x358.2.set v365.toNat (W ((x358.2.getD y322.toNat zI) + v361)))), (12, ow 27 1 (x261.2.set y322.toNat true)), (14, cI y322), (17, cI (W (x358.1 + 1)))] [(5, va (eTBoard p0)), (24, ar 1 eI zI (x358.2.set v365.toNat (W ((x358.2.getD y322.toNat zI) + v361)))), (27, ar 1 eB zB (x261.2.set y322.toNat true))] (fun t => aI (by simp : x358.2.length = (x358.2.set v365.toNat (W ((x358.2.getD y322.toNat zI) + v361))).length) (aI (Nat.le_of_eq (by simp : (x358.2.set v365.toNat (W ((x358.2.getD y322.toNat zI) + v361))).length = x358.2.length)) (aI (fun _ _ => rfl : ∀ i, i < (x358.2.set v365.toNat (W ((x358.2.getD y322.toNat zI) + v361))).length → (fF eI zI (x358.2.set v365.toNat (W ((x358.2.getD y322.toNat zI) + v361)))) i = (fF eI zI (x358.2.set v365.toNat (W ((x358.2.getD y322.toNat zI) + v361)))) i) (t)))) ?_
          cases H
          exact rr
         ·refine sn ([.res (cB v368)] ++ rg 3 true ([.no] ++ rg 3 true (rg 4 false ([.no] ++ rg 2 false [.g true, .g false, .g true])))) [] [(117, cB (decide ((W ((x358.2.getD y322.toNat zI) + v361)) < (x358.2.getD v365.toNat zI))))] [] [] (fun t => aI (s_l1Has_ok p4 v365 v368 h369) (aG 3 c370 (aI g371 (aI c370 (aI (nat_lt g371) (aG 2 c370 (aG 4 c372 (aI g371 (aI c372 (aI (nat_lt g371) (aI c372 (aI c370 (aI c372 (aI c370 (t))))))))))))))) ?_
          rcases oC H with ⟨c373, H⟩ | ⟨c373, H⟩
          ·refine it c373 ?_
           refine oo [.no, .fn 0 (fF eI zI (x358.2.set v365.toNat (W ((x358.2.getD y322.toNat zI) + v361))))] [] [(1, cI p1), (2, cI p2), (4, dc 1 eI zI p4), (5, pk 5), (11, ow 24 1 x358.2), (12, ow 27 1 (x261.2.set y322.toNat true)), (14, cI y322), (17, cI x358.1)] [(5, va (eTBoard p0)), (24, .arr 1 x358.2.length (fF eI zI (x358.2.set v365.toNat (W ((x358.2.getD y322.toNat zI) + v361)))) false), (27, ar 1 eB zB (x261.2.set y322.toNat true))] (fun t => aI g371 (aI rT (aI (nat_lt g371) (aI (by decide : 0 + 1 ≤ 1) (aI (fF_set eI zI x358.2 v365.toNat (W ((x358.2.getD y322.toNat zI) + v361)) (nat_lt g371) x358.2.length) (t)))))) ?_
           change EndsI _ _ _ _ _ _
           refine oo [] [.rel 11 ((x358.2.set v365.toNat (W ((x358.2.getD y322.toNat zI) + v361))).length), .rep 24 ((x358.2.set v365.toNat (W ((x358.2.getD y322.toNat zI) + v361))).length) (fF eI zI (x358.2.set v365.toNat (W ((x358.2.getD y322.toNat zI) + v361))))] [(1, cI p1), (2, cI p2), (4, dc 1 eI zI p4), (5, pk 5), (11, ow 24 1 (x358.2.set v365.toNat (W ((x358.2.getD y322.toNat zI) + v361)))), (12, ow 27 1 (x261.2.set y322.toNat true)), (14, cI y322), (17, cI (W (x358.1 + 1)))] [(5, va (eTBoard p0)), (24, ar 1 eI zI (x358.2.set v365.toNat (W ((x358.2.getD y322.toNat zI) + v361)))), (27, ar 1 eB zB (x261.2.set y322.toNat true))] (fun t => aI (by simp : x358.2.length = (x358.2.set v365.toNat (W ((x358.2.getD y322.toNat zI) + v361))).length) (aI (Nat.le_of_eq (by simp : (x358.2.set v365.toNat (W ((x358.2.getD y322.toNat zI) + v361))).length = x358.2.length)) (aI (fun _ _ => rfl : ∀ i, i < (x358.2.set v365.toNat (W ((x358.2.getD y322.toNat zI) + v361))).length → (fF eI zI (x358.2.set v365.toNat (W ((x358.2.getD y322.toNat zI) + v361)))) i = (fF eI zI (x358.2.set v365.toNat (W ((x358.2.getD y322.toNat zI) + v361)))) i) (t)))) ?_
           cases H
           exact rr
          ·refine jf c373 ?_
           refine sk ?_
           refine oo [] [] [(1, cI p1), (2, cI p2), (4, dc 1 eI zI p4), (5, pk 5), (11, ow 24 1 x358.2), (12, ow 27 1 (x261.2.set y322.toNat true)), (14, cI y322), (17, cI (W (x358.1 + 1)))] [(5, va (eTBoard p0)), (24, ar 1 eI zI x358.2), (27, ar 1 eB zB (x261.2.set y322.toNat true))] id ?_
           cases H
           exact rr
        ·refine sn ([.res (cB v368)] ++ rg 8 false []) [] [(117, cB false)] [] [] (fun t => aI (s_l1Has_ok p4 v365 v368 h369) (aG 8 c370 (t))) ?_
         refine jf rF ?_
         refine sk ?_
         refine oo [] [] [(1, cI p1), (2, cI p2), (4, dc 1 eI zI p4), (5, pk 5), (11, ow 24 1 x358.2), (12, ow 27 1 (x261.2.set y322.toNat true)), (14, cI y322), (17, cI (W (x358.1 + 1)))] [(5, va (eTBoard p0)), (24, ar 1 eI zI x358.2), (27, ar 1 eB zB (x261.2.set y322.toNat true))] id ?_
         cases H
         exact rr
      ·refine jf c360 ?_
       refine tl [] [(1, cI p1), (2, cI p2), (4, dc 1 eI zI p4), (5, pk 5), (11, ow 24 1 x358.2), (12, ow 27 1 (x261.2.set y322.toNat true))] [(5, va (eTBoard p0)), (24, ar 1 eI zI x358.2), (27, ar 1 eB zB (x261.2.set y322.toNat true))] id ?_
       refine ends_exit ?_
       cases H
       exact rse
     ·clear h375
      rintro e s ⟨rfl, rfl⟩
      cases H
      exact rr
  ·clear h377
   rintro e s ⟨rfl, rfl⟩
   cases H
   exact qr
def s_MobilityOf_ir : S :=
 (sq [o 3 (.box 12 (.t 0)), o 4 (.box 3 (.t 1)), o 6 (.mv (iv 0)), o 7 (.mv bF)]
 (.seq (sq [o 12 (.load 12 true (.t 3)), o 13 (.load 3 true (.t 4)), om 14 2, o 15 (.call 24 [.t 12, .t 13, .t 14]), o 16 (.not (.t 15))]
 (.ite (.t 16) (sq [o 6 (.mv (iv 0)), o 7 (.mv bF)]
  .ret)
 .skip))
 (sq [oa 17 2 4, ol 18 17, om 19 2, o 20 (.iad 4 (.t 18) (.t 19)), o 21 (.load 4 true (.t 20)), o 8 (.alloc [.int .i64 0, .int .i64 0, .int .i64 0, .int .i64 0]), os 4 8 21]
 (.seq (sq [oa 22 2 8, ol 23 22, o 24 (.bin .lss (.t 23) (iv 0))]
 (.ite (.t 24) (sq [o 6 (.mv (iv 0)), o 7 (.mv bT)]
  .ret)
 .skip))
 (sq [o 9 (.mv (.v (.int .i64 (-1))))]
 (.seq (sq [o 25 (.load 12 true (.t 3)), oa 26 1 8, ol 27 26, oa 28 1 4, ol 29 28, oa 30 2 8, ol 31 30, o 32 (.call 25 [.t 25, .t 27, .t 29, .t 31, .v (.nil)]), o 33 (.len (.t 32)), o 34 (.mv (iv 0))]
 (.blk 0 (.loop (sq [o 35 (.bin .lss (.t 34) (.t 33))]
   (.seq (.ite (.t 35) .skip
   (.exit 0))
   (.seq (.blk 1 (sq [o 36 (.iad 1 (.t 32) (.t 34)), ol 37 36, om 11 37]
    (sq [om 38 11, oa 39 0 3, oa 40 1 39, ol 41 40, oa 42 1 8, ol 43 42, o 44 (.iad 6 (.t 41) (.t 43)), oa 45 2 44, ol 46 45, o 47 (.call 26 [.t 38, .v (.int .i64 0), .t 46])]
    (.ite (.t 47) (.ops [om 48 9, o 49 (.bin .add (.t 48) (iv 1)), om 9 49])
    .skip))))
   (.ops [o 50 (.bin .add (.t 34) (iv 1)), om 34 50])))))))
 (sq [om 51 9, om 6 51, o 7 (.mv bT)]
 .ret)))))))
noncomputable def X.s_MobilityOf (p0 : TBoard) (p1 : TState) (p2 : Int) : Option (Int × Bool) :=
 ((X.s_uHas p0 p1 p2).bind fun v4 => (bif (!v4) then some (0, false) else ((at' zTUnit p1.Units p2).bind fun v7 => (bif (decide (v7.At < 0)) then some (0, true) else ((X.s_pFrom p0 v7.Kind p1.Weather v7.At ([] : List Int)).bind fun v11 => ((loop (fun (x32 : (Int × Int)) => ((bif (decide (x32.2 < (v11.length : Int))) then ((at' zI v11 x32.2).bind fun v35 => ((at' zTKind p0.Rules.Kinds v7.Kind).bind fun v37 => ((X.s_l1In v35 0 v37.Moves).bind fun v39 => (bif v39 then some (Sum.inl ((W (x32.1 + 1)), (W (x32.2 + 1)))) else some (Sum.inl (x32.1, (W (x32.2 + 1)))))))) else some (Sum.inr x32.1)) : Option ((Int × Int) ⊕ Int))) (-1, 0)).bind fun y42 => some (y42, true)))))))
theorem s_MobilityOf_ok (p0 : TBoard) (p1 : TState) (p2 : Int) (r : (Int × Bool)) (H : X.s_MobilityOf p0 p1 p2 = some r) : FK 8 [.agg (eTBoard p0), .agg (eTState p1), cI p2] (.tup [(false, [.int .i64 r.1]), (false, [.bool r.2])]) := by
 unfold X.s_MobilityOf at H
 refine fi Tryz.f8 s_MobilityOf_ir [(6, cI r.1), (7, cB r.2)] [] glL Tryz.func8 ?_
 refine sn [] [] [(3, pk 3), (4, pk 4)] [] [(3, va (eTBoard p0)), (4, va (eTState p1))] id ?_
 refine seq_in ?_
 obtain ⟨v4, h5, H⟩ := oB H
 refine sn [.res (cB v4)] [] [(16, cB (!v4))] [] [] (aI (s_uHas_ok p0 p1 p2 v4 h5)) ?_
 rcases oC H with ⟨c6, H⟩ | ⟨c6, H⟩
 ·refine it c6 ?_
  refine so [] [] [(6, cI 0), (7, cB false)] [] id ?_
  cases H
  exact er
 ·refine jf c6 ?_
  refine sk ?_
  obtain ⟨v7, h8, H⟩ := oB H
  refine sn [.cs (eTUnit v7)] [] [(8, pk 8)] [] [(8, va (eTUnit v7))] (a2 eTUnit h8) ?_
  refine seq_in ?_
  refine sn [] [] [(24, cB (decide (v7.At < 0)))] [] [] id ?_
  rcases oC H with ⟨c10, H⟩ | ⟨c10, H⟩
  ·refine it c10 ?_
   refine so [] [] [(6, cI 0), (7, cB true)] [] id ?_
   cases H
   exact er
  ·refine jf c10 ?_
   refine sk ?_
   refine sn [] [] [(9, cI (-1))] [] [] id ?_
   refine seq_in ?_
   obtain ⟨v11, h12, H⟩ := oB H
   refine sn [.res (dc 1 eI zI v11)] [] [(32, dc 1 eI zI v11), (33, cL v11), (34, cI 0)] [] [] (fun t => aI (FnOk.le2 (xs := [.agg (eTBoard p0), cI v7.Kind, cI p1.Weather, cI v7.At, .c (.nil)]) (s_pFrom_ok p0 v7.Kind p1.Weather v7.At ([] : List Int) v11 h12) ⟨LeD.refl _, LeD.refl _, LeD.refl _, LeD.refl _, LeD.nil 1 (fF eI zI ([] : List Int)), trivial⟩) (lI v11 (t))) ?_
   refine ends_blk ?_
   obtain ⟨y42, h43, H⟩ := oB H
   refine tl [] [(3, pk 3), (8, pk 8), (9, cI (-1)), (32, dc 1 eI zI v11), (33, cL v11), (34, cI 0)] [(3, va (eTBoard p0)), (8, va (eTUnit v7))] id ?_
   refine loop_in (fun (x : (Int × Int)) => lit [(3, pk 3), (8, pk 8), (9, cI x.1), (32, dc 1 eI zI v11), (33, cL v11), (34, cI x.2)] [(3, va (eTBoard p0)), (8, va (eTUnit v7))]) (fun (z : Int) => At (.exit 0) (lit [(9, cI z)] [])) h43 ?_ ?_
   ·clear H h43
    intro x32 y0 H
    refine sn [] [] [(35, cB (decide (x32.2 < (v11.length : Int))))] [] [] id ?_
    refine seq_in ?_
    rcases oC H with ⟨c34, H⟩ | ⟨c34, H⟩
    ·refine it c34 ?_
     refine sk ?_
     refine seq_in ?_
     refine ends_blk ?_
     obtain ⟨v35, h36, H⟩ := oB H
     refine sn [.cs (eI v35)] [] [(11, cI v35)] [] [] (a2 eI h36) ?_
     obtain ⟨v37, h38, H⟩ := oB H
     obtain ⟨v39, h40, H⟩ := oB H
     refine sn [.cs (eTKind v37), .res (cB v39)] [] [(47, cB v39)] [] [] (fun t => (a2 eTKind h38 (aI (s_l1In_ok v35 0 v37.Moves v39 h40) (t)))) ?_
     rcases oC H with ⟨c41, H⟩ | ⟨c41, H⟩
     ·refine it c41 ?_
      refine oo [] [] [(3, pk 3), (8, pk 8), (9, cI (W (x32.1 + 1))), (32, dc 1 eI zI v11), (33, cL v11), (34, cI x32.2)] [(3, va (eTBoard p0)), (8, va (eTUnit v7))] id ?_
      change EndsI _ _ _ _ _ _
      refine oo [] [] [(3, pk 3), (8, pk 8), (9, cI (W (x32.1 + 1))), (32, dc 1 eI zI v11), (33, cL v11), (34, cI (W (x32.2 + 1)))] [(3, va (eTBoard p0)), (8, va (eTUnit v7))] id ?_
      cases H
      exact rr
     ·refine jf c41 ?_
      refine sk ?_
      refine oo [] [] [(3, pk 3), (8, pk 8), (9, cI x32.1), (32, dc 1 eI zI v11), (33, cL v11), (34, cI (W (x32.2 + 1)))] [(3, va (eTBoard p0)), (8, va (eTUnit v7))] id ?_
      cases H
      exact rr
    ·refine jf c34 ?_
     refine tl [] [(9, cI x32.1)] [] id ?_
     refine ends_exit ?_
     cases H
     exact rse
   ·clear h43
    rintro e s ⟨rfl, rfl⟩
    change EndsI _ _ _ _ _ _
    refine so [] [] [(6, cI y42), (7, cB true)] [] id ?_
    cases H
    exact er
def l_toIntS_ir : S :=
 (sq [o 2 (.mv (.v (.nil)))]
 (sq [om 5 0, o 6 (.len (.t 5)), o 7 (.msl 1 8 [.int .i64 0] (.t 6)), om 3 7]
 (.seq (sq [o 4 (.mv (iv 0))]
 (.blk 0 (.loop (.seq (sq [om 8 4, om 9 0, o 10 (.len (.t 9)), o 11 (.bin .lss (.t 8) (.t 10))]
   (.ite (.t 11) .skip
   (.exit 0)))
   (.seq (.blk 1 (.ops [om 14 3, om 15 4, om 16 0, om 17 4, o 18 (.iad 1 (.t 16) (.t 17)), ol 19 18, o 20 (.iad 1 (.t 14) (.t 15)), os 1 20 19]))
   (.ops [om 12 4, o 13 (.bin .add (.t 12) (iv 1)), om 4 13]))))))
 (sq [om 21 3, om 2 21]
 .ret))))
noncomputable def X.l_toIntS (p0 : (List Int)) : Option (List Int) :=
 (if 0 ≤ (p0.length : Int) ∧ (p0.length : Int).toNat ≤ LIM then ((loop (fun (x13 : (Int × (List Int))) => ((bif (decide (x13.1 < (p0.length : Int))) then ((at' zI p0 x13.1).bind fun v16 => (if 0 ≤ x13.1 ∧ x13.1 < (x13.2.length : Int) then some (Sum.inl ((W (x13.1 + 1)), (x13.2.set x13.1.toNat v16))) else none)) else some (Sum.inr x13.2)) : Option ((Int × (List Int)) ⊕ (List Int)))) (0, (List.replicate (p0.length : Int).toNat zI))).bind fun y19 => some y19) else none)
theorem l_toIntS_ok (p0 : (List Int)) (r : (List Int)) (H : X.l_toIntS p0 = some r) : FK 63 [.c (dat 1 eI zI p0)] (.c (dat 1 eI zI r)) := by
 unfold X.l_toIntS at H
 refine fi Tryz.f63 l_toIntS_ir [(2, dc 1 eI zI r)] [] glL Tryz.func63 ?_
 refine sn [] [] [] [] [] id ?_
 obtain ⟨g1, H⟩ := oI H
 refine sn [fh eI zI (List.replicate (p0.length : Int).toNat zI)] [] [(3, ow 7 1 (List.replicate (p0.length : Int).toNat zI))] [] [(7, ar 1 eI zI (List.replicate (p0.length : Int).toNat zI))] (fun t => lI p0 (aI (And.intro g1.1 (And.intro (List.length_replicate (n := (p0.length : Int).toNat) (a := zI)).symm (Nat.le_trans (Nat.le_of_eq List.length_replicate) g1.2 : (List.replicate (p0.length : Int).toNat zI).length ≤ LIM))) (aI (fF_rep eI zI zI (p0.length : Int).toNat) (t)))) ?_
 refine seq_in ?_
 refine sn [] [] [(4, cI 0)] [] [] id ?_
 refine ends_blk ?_
 obtain ⟨y19, h20, H⟩ := oB H
 refine tl [] [(0, dc 1 eI zI p0), (3, ow 7 1 (List.replicate (p0.length : Int).toNat zI)), (4, cI 0)] [(7, ar 1 eI zI (List.replicate (p0.length : Int).toNat zI))] id ?_
 refine loop_in (fun (x : (Int × (List Int))) => lit [(0, dc 1 eI zI p0), (3, ow 7 1 x.2), (4, cI x.1)] [(7, ar 1 eI zI x.2)]) (fun (z : (List Int)) => At (.exit 0) (lit [(3, ow 7 1 z)] [(7, ar 1 eI zI z)])) h20 ?_ ?_
 ·clear H h20
  intro x13 y0 H
  refine seq_in ?_
  refine sn [] [] [(11, cB (decide (x13.1 < (p0.length : Int))))] [] [] (fun t => lI p0 (t)) ?_
  rcases oC H with ⟨c15, H⟩ | ⟨c15, H⟩
  ·refine it c15 ?_
   refine sk ?_
   refine seq_in ?_
   refine ends_blk ?_
   obtain ⟨v16, h17, H⟩ := oB H
   obtain ⟨g18, H⟩ := oI H
   refine oo [.cs (eI v16), .no, .fn 0 (fF eI zI (x13.2.set x13.1.toNat v16))] [] [(0, dc 1 eI zI p0), (3, ow 7 1 x13.2), (4, cI x13.1)] [(7, .arr 1 x13.2.length (fF eI zI (x13.2.set x13.1.toNat v16)) false)] (fun t => (a2 eI h17 (aI g18 (aI rT (aI (nat_lt g18) (aI (by decide : 0 + 1 ≤ 1) (aI (fF_set eI zI x13.2 x13.1.toNat v16 (nat_lt g18) x13.2.length) (t)))))))) ?_
   change EndsI _ _ _ _ _ _
   refine oo [] [.rel 3 ((x13.2.set x13.1.toNat v16).length), .rep 7 ((x13.2.set x13.1.toNat v16).length) (fF eI zI (x13.2.set x13.1.toNat v16))] [(0, dc 1 eI zI p0), (3, ow 7 1 (x13.2.set x13.1.toNat v16)), (4, cI (W (x13.1 + 1)))] [(7, ar 1 eI zI (x13.2.set x13.1.toNat v16))] (fun t => aI (by simp : x13.2.length = (x13.2.set x13.1.toNat v16).length) (aI (Nat.le_of_eq (by simp : (x13.2.set x13.1.toNat v16).length = x13.2.length)) (aI (fun _ _ => rfl : ∀ i, i < (x13.2.set x13.1.toNat v16).length → (fF eI zI (x13.2.set x13.1.toNat v16)) i = (fF eI zI (x13.2.set x13.1.toNat v16)) i) (t)))) ?_
   cases H
   exact rr
  ·refine jf c15 ?_
   refine tl [] [(3, ow 7 1 x13.2)] [(7, ar 1 eI zI x13.2)] id ?_
   refine ends_exit ?_
   cases H
   exact rse
 ·clear h20
  rintro e s ⟨rfl, rfl⟩
  change EndsI _ _ _ _ _ _
  refine sn [] [] [(2, ow 7 1 y19)] [] [] id ?_
  refine tl [.frz 2] [(2, dc 1 eI zI y19)] [] (aI (Nat.le_refl y19.length)) ?_
  cases H
  exact er
def l_toTerrain_ir : S :=
 (sq [o 1 (.box 5 (.t 0)), o 2 (.alloc [.str [], .nil, .int .i64 0, .int .i64 0, .bool false])]
 (sq [o 3 (.alloc [.str [], .nil, .int .i64 0, .int .i64 0, .bool false])]
 (sq [oa 4 0 1, ol 5 4, oa 6 0 3, os 1 6 5]
 (sq [oa 7 1 1, ol 8 7, o 9 (.call 63 [.t 8]), oa 10 1 3, os 1 10 9]
 (sq [oa 11 2 1, ol 12 11, oa 13 2 3, os 1 13 12]
 (sq [oa 14 3 1, ol 15 14, oa 16 3 3, os 1 16 15]
 (sq [oa 17 4 1, ol 18 17, oa 19 4 3, os 1 19 18]
 (sq [o 20 (.load 5 true (.t 3)), os 5 2 20]
 .ret))))))))
noncomputable def X.l_toTerrain (p0 : TTerrain) : Option TTerrain :=
 ((X.l_toIntS p0.Cost).bind fun v1 => some (TTerrain.mk p0.Name v1 p0.Shift p0.Height p0.Blocks))
theorem l_toTerrain_ok (p0 : TTerrain) (r : TTerrain) (H : X.l_toTerrain p0 = some r) : FK 105 [.agg (eTTerrain p0)] (.agg (eTTerrain r)) := by
 unfold X.l_toTerrain at H
 refine fi Tryz.f105 l_toTerrain_ir [(2, pk 2)] [(2, va (eTTerrain r))] glL Tryz.func105 ?_
 refine so [] [] [(1, pk 1), (2, pk 2)] [(1, va (eTTerrain p0)), (2, .var [.str [], .nil, jI 0, jI 0, .bool false] false)] id ?_
 refine sn [] [] [(3, pk 3)] [] [(3, .var [.str [], .nil, jI 0, jI 0, .bool false] false)] id ?_
 refine sn [] [] [] [3] [(3, .var [.str p0.Name, .nil, jI 0, jI 0, .bool false] false)] id ?_
 obtain ⟨v1, h2, H⟩ := oB H
 refine sn [.res (dc 1 eI zI v1)] [] [] [3] [(3, .var [.str p0.Name, dat 1 eI zI v1, jI 0, jI 0, .bool false] false)] (aI (l_toIntS_ok p0.Cost v1 h2)) ?_
 refine sn [] [] [] [3] [(3, .var [.str p0.Name, dat 1 eI zI v1, jI p0.Shift, jI 0, .bool false] false)] id ?_
 refine sn [] [] [] [3] [(3, .var [.str p0.Name, dat 1 eI zI v1, jI p0.Shift, jI p0.Height, .bool false] false)] id ?_
 refine sn [] [] [] [3] [(3, .var [.str p0.Name, dat 1 eI zI v1, jI p0.Shift, jI p0.Height, .bool p0.Blocks] false)] id ?_
 refine sn [] [] [] [1, 2] [(2, .var [.str p0.Name, dat 1 eI zI v1, jI p0.Shift, jI p0.Height, .bool p0.Blocks] false)] id ?_
 refine tl [] [(2, pk 2)] [(2, .var [.str p0.Name, dat 1 eI zI v1, jI p0.Shift, jI p0.Height, .bool p0.Blocks] false)] id ?_
 cases H
 exact er
def l_toTerrainS_ir : S :=
 (sq [o 2 (.mv (.v (.nil)))]
 (sq [om 5 0, o 6 (.len (.t 5)), o 7 (.msl 5 64 [.str [], .nil, .int .i64 0, .int .i64 0, .bool false] (.t 6)), om 3 7]
 (.seq (sq [o 4 (.mv (iv 0))]
 (.blk 0 (.loop (.seq (sq [om 8 4, om 9 0, o 10 (.len (.t 9)), o 11 (.bin .lss (.t 8) (.t 10))]
   (.ite (.t 11) .skip
   (.exit 0)))
   (.seq (.blk 1 (.ops [om 14 3, om 15 4, om 16 0, om 17 4, o 18 (.iad 5 (.t 16) (.t 17)), o 19 (.load 5 true (.t 18)), o 20 (.call 105 [.t 19]), o 21 (.iad 5 (.t 14) (.t 15)), os 5 21 20]))
   (.ops [om 12 4, o 13 (.bin .add (.t 12) (iv 1)), om 4 13]))))))
 (sq [om 22 3, om 2 22]
 .ret))))
noncomputable def X.l_toTerrainS (p0 : (List TTerrain)) : Option (List TTerrain) :=
 (if 0 ≤ (p0.length : Int) ∧ (p0.length : Int).toNat ≤ LIM then ((loop (fun (x21 : (Int × (List TTerrain))) => ((bif (decide (x21.1 < (p0.length : Int))) then ((at' zTTerrain p0 x21.1).bind fun v24 => ((X.l_toTerrain v24).bind fun v26 => (if 0 ≤ x21.1 ∧ x21.1 < (x21.2.length : Int) then ((some (x21.2.set x21.1.toNat v26)).bind fun l29 => some (Sum.inl ((W (x21.1 + 1)), l29))) else none))) else some (Sum.inr x21.2)) : Option ((Int × (List TTerrain)) ⊕ (List TTerrain)))) (0, (List.replicate (p0.length : Int).toNat zTTerrain))).bind fun y31 => some y31) else none)
theorem l_toTerrainS_ok (p0 : (List TTerrain)) (r : (List TTerrain)) (H : X.l_toTerrainS p0 = some r) : FK 61 [.c (dat 5 eTTerrain zTTerrain p0)] (.c (dat 5 eTTerrain zTTerrain r)) := by
 unfold X.l_toTerrainS at H
 refine fi Tryz.f61 l_toTerrainS_ir [(2, dc 5 eTTerrain zTTerrain r)] [] glL Tryz.func61 ?_
 refine sn [] [] [] [] [] id ?_
 obtain ⟨g1, H⟩ := oI H
 refine sn [.fn (List.replicate (p0.length : Int).toNat zTTerrain).length (fun _ => [.str [], .nil, jI 0, jI 0, .bool false])] [.rpw 7 (fF eTTerrain zTTerrain (List.replicate (p0.length : Int).toNat zTTerrain))] [(3, ow 7 5 (List.replicate (p0.length : Int).toNat zTTerrain))] [] [(7, ar 5 eTTerrain zTTerrain (List.replicate (p0.length : Int).toNat zTTerrain))] (fun t => lI p0 (aI (And.intro g1.1 (And.intro (List.length_replicate (n := (p0.length : Int).toNat) (a := zTTerrain)).symm (Nat.le_trans (Nat.le_of_eq List.length_replicate) g1.2 : (List.replicate (p0.length : Int).toNat zTTerrain).length ≤ LIM))) (aI (fun _ _ => rfl : ∀ i, i < (List.replicate (p0.length : Int).toNat zTTerrain).length → (fun (_ : Nat) => ([.str [], .nil, jI 0, jI 0, .bool false] : List AC)) i = [.str [], .nil, jI 0, jI 0, .bool false]) (aI (fun i hi => (fF_rep eTTerrain zTTerrain zTTerrain (p0.length : Int).toNat i hi) ▸ nTTerrain : ∀ i, i < (List.replicate (p0.length : Int).toNat zTTerrain).length → LeR ((fun (_ : Nat) => ([.str [], .nil, jI 0, jI 0, .bool false] : List AC)) i) ((fF eTTerrain zTTerrain (List.replicate (p0.length : Int).toNat zTTerrain)) i)) (t))))) ?_
 refine seq_in ?_
 refine sn [] [] [(4, cI 0)] [] [] id ?_
 refine ends_blk ?_
 obtain ⟨y31, h32, H⟩ := oB H
 refine tl [] [(0, dc 5 eTTerrain zTTerrain p0), (3, ow 7 5 (List.replicate (p0.length : Int).toNat zTTerrain)), (4, cI 0)] [(7, ar 5 eTTerrain zTTerrain (List.replicate (p0.length : Int).toNat zTTerrain))] id ?_
 refine loop_in (fun (x : (Int × (List TTerrain))) => lit [(0, dc 5 eTTerrain zTTerrain p0), (3, ow 7 5 x.2), (4, cI x.1)] [(7, ar 5 eTTerrain zTTerrain x.2)]) (fun (z : (List TTerrain)) => At (.exit 0) (lit [(3, ow 7 5 z)] [(7, ar 5 eTTerrain zTTerrain z)])) h32 ?_ ?_
 ·clear H h32
  intro x21 y0 H
  refine seq_in ?_
  refine sn [] [] [(11, cB (decide (x21.1 < (p0.length : Int))))] [] [] (fun t => lI p0 (t)) ?_
  rcases oC H with ⟨c23, H⟩ | ⟨c23, H⟩
  ·refine it c23 ?_
   refine sk ?_
   refine seq_in ?_
   refine ends_blk ?_
   obtain ⟨v24, h25, H⟩ := oB H
   obtain ⟨v26, h27, H⟩ := oB H
   obtain ⟨g28, H⟩ := oI H
   obtain ⟨l29, h30, H⟩ := oB H
   refine oo [.cs (eTTerrain v24), .res (.agg (eTTerrain v26)), .no, .fn 0 (fF eTTerrain zTTerrain l29)] [] [(0, dc 5 eTTerrain zTTerrain p0), (3, ow 7 5 x21.2), (4, cI x21.1)] [(7, .arr 5 x21.2.length (fF eTTerrain zTTerrain l29) false)] (fun t => (a2 eTTerrain h25 (aI (l_toTerrain_ok v24 v26 h27) (aI g28 (aI rT (aI (nat_lt g28) (aI (by decide : 0 + 5 ≤ 5) (aI (fF_setN eTTerrain zTTerrain h30 (nat_lt g28) x21.2.length) (t))))))))) ?_
   change EndsI _ _ _ _ _ _
   refine oo [] [.rel 3 l29.length, .rep 7 l29.length (fF eTTerrain zTTerrain l29)] [(0, dc 5 eTTerrain zTTerrain p0), (3, ow 7 5 l29), (4, cI (W (x21.1 + 1)))] [(7, ar 5 eTTerrain zTTerrain l29)] (fun t => aI (by simp [lenN h30] : x21.2.length = l29.length) (aI (Nat.le_of_eq (by simp [lenN h30] : l29.length = x21.2.length)) (aI (fun _ _ => rfl : ∀ i, i < l29.length → (fF eTTerrain zTTerrain l29) i = (fF eTTerrain zTTerrain l29) i) (t)))) ?_
   cases H
   exact rr
  ·refine jf c23 ?_
   refine tl [] [(3, ow 7 5 x21.2)] [(7, ar 5 eTTerrain zTTerrain x21.2)] id ?_
   refine ends_exit ?_
   cases H
   exact rse
 ·clear h32
  rintro e s ⟨rfl, rfl⟩
  change EndsI _ _ _ _ _ _
  refine sn [] [] [(2, ow 7 5 y31)] [] [] id ?_
  refine tl [.frz 2] [(2, dc 5 eTTerrain zTTerrain y31)] [] (aI (Nat.le_refl y31.length)) ?_
  cases H
  exact er
def l_toKind_ir : S :=
 (sq [o 1 (.box 6 (.t 0)), o 2 (.alloc [.str [], .int .i64 0, .int .i64 0, .int .i64 0, .bool false, .int .i64 0])]
 (sq [o 3 (.alloc [.str [], .int .i64 0, .int .i64 0, .int .i64 0, .bool false, .int .i64 0])]
 (sq [oa 4 0 1, ol 5 4, oa 6 0 3, os 1 6 5]
 (sq [oa 7 1 1, ol 8 7, oa 9 1 3, os 1 9 8]
 (sq [oa 10 2 1, ol 11 10, oa 12 2 3, os 1 12 11]
 (sq [oa 13 3 1, ol 14 13, oa 15 3 3, os 1 15 14]
 (sq [oa 16 4 1, ol 17 16, oa 18 4 3, os 1 18 17]
 (sq [oa 19 5 1, ol 20 19, oa 21 5 3, os 1 21 20]
 (sq [o 22 (.load 6 true (.t 3)), os 6 2 22]
 .ret)))))))))
noncomputable def X.l_toKind (p0 : TKind) : Option TKind :=
 some p0
theorem l_toKind_ok (p0 : TKind) (r : TKind) (H : X.l_toKind p0 = some r) : FK 106 [.agg (eTKind p0)] (.agg (eTKind r)) := by
 unfold X.l_toKind at H
 refine fi Tryz.f106 l_toKind_ir [(2, pk 2)] [(2, va (eTKind r))] glL Tryz.func106 ?_
 refine so [] [] [(1, pk 1), (2, pk 2)] [(1, va (eTKind p0)), (2, .var [.str [], jI 0, jI 0, jI 0, .bool false, jI 0] false)] id ?_
 refine sn [] [] [(3, pk 3)] [] [(3, .var [.str [], jI 0, jI 0, jI 0, .bool false, jI 0] false)] id ?_
 refine sn [] [] [] [3] [(3, .var [.str p0.Name, jI 0, jI 0, jI 0, .bool false, jI 0] false)] id ?_
 refine sn [] [] [] [3] [(3, .var [.str p0.Name, jI p0.Strength, jI 0, jI 0, .bool false, jI 0] false)] id ?_
 refine sn [] [] [] [3] [(3, .var [.str p0.Name, jI p0.Strength, jI p0.Moves, jI 0, .bool false, jI 0] false)] id ?_
 refine sn [] [] [] [3] [(3, .var [.str p0.Name, jI p0.Strength, jI p0.Moves, jI p0.Steps, .bool false, jI 0] false)] id ?_
 refine sn [] [] [] [3] [(3, .var [.str p0.Name, jI p0.Strength, jI p0.Moves, jI p0.Steps, .bool p0.Zone, jI 0] false)] id ?_
 refine sn [] [] [] [3] [(3, va (eTKind p0))] id ?_
 refine sn [] [] [] [1, 2] [(2, va (eTKind p0))] id ?_
 refine tl [] [(2, pk 2)] [(2, va (eTKind p0))] id ?_
 cases H
 exact er
def l_toKindS_ir : S :=
 (sq [o 2 (.mv (.v (.nil)))]
 (sq [om 5 0, o 6 (.len (.t 5)), o 7 (.msl 6 56 [.str [], .int .i64 0, .int .i64 0, .int .i64 0, .bool false, .int .i64 0] (.t 6)), om 3 7]
 (.seq (sq [o 4 (.mv (iv 0))]
 (.blk 0 (.loop (.seq (sq [om 8 4, om 9 0, o 10 (.len (.t 9)), o 11 (.bin .lss (.t 8) (.t 10))]
   (.ite (.t 11) .skip
   (.exit 0)))
   (.seq (.blk 1 (.ops [om 14 3, om 15 4, om 16 0, om 17 4, o 18 (.iad 6 (.t 16) (.t 17)), o 19 (.load 6 true (.t 18)), o 20 (.call 106 [.t 19]), o 21 (.iad 6 (.t 14) (.t 15)), os 6 21 20]))
   (.ops [om 12 4, o 13 (.bin .add (.t 12) (iv 1)), om 4 13]))))))
 (sq [om 22 3, om 2 22]
 .ret))))
noncomputable def X.l_toKindS (p0 : (List TKind)) : Option (List TKind) :=
 (if 0 ≤ (p0.length : Int) ∧ (p0.length : Int).toNat ≤ LIM then ((loop (fun (x21 : (Int × (List TKind))) => ((bif (decide (x21.1 < (p0.length : Int))) then ((at' zTKind p0 x21.1).bind fun v24 => ((X.l_toKind v24).bind fun v26 => (if 0 ≤ x21.1 ∧ x21.1 < (x21.2.length : Int) then ((some (x21.2.set x21.1.toNat v26)).bind fun l29 => some (Sum.inl ((W (x21.1 + 1)), l29))) else none))) else some (Sum.inr x21.2)) : Option ((Int × (List TKind)) ⊕ (List TKind)))) (0, (List.replicate (p0.length : Int).toNat zTKind))).bind fun y31 => some y31) else none)
theorem l_toKindS_ok (p0 : (List TKind)) (r : (List TKind)) (H : X.l_toKindS p0 = some r) : FK 62 [.c (dat 6 eTKind zTKind p0)] (.c (dat 6 eTKind zTKind r)) := by
 unfold X.l_toKindS at H
 refine fi Tryz.f62 l_toKindS_ir [(2, dc 6 eTKind zTKind r)] [] glL Tryz.func62 ?_
 refine sn [] [] [] [] [] id ?_
 obtain ⟨g1, H⟩ := oI H
 refine sn [fh eTKind zTKind (List.replicate (p0.length : Int).toNat zTKind)] [] [(3, ow 7 6 (List.replicate (p0.length : Int).toNat zTKind))] [] [(7, ar 6 eTKind zTKind (List.replicate (p0.length : Int).toNat zTKind))] (fun t => lI p0 (aI (And.intro g1.1 (And.intro (List.length_replicate (n := (p0.length : Int).toNat) (a := zTKind)).symm (Nat.le_trans (Nat.le_of_eq List.length_replicate) g1.2 : (List.replicate (p0.length : Int).toNat zTKind).length ≤ LIM))) (aI (fF_rep eTKind zTKind zTKind (p0.length : Int).toNat) (t)))) ?_
 refine seq_in ?_
 refine sn [] [] [(4, cI 0)] [] [] id ?_
 refine ends_blk ?_
 obtain ⟨y31, h32, H⟩ := oB H
 refine tl [] [(0, dc 6 eTKind zTKind p0), (3, ow 7 6 (List.replicate (p0.length : Int).toNat zTKind)), (4, cI 0)] [(7, ar 6 eTKind zTKind (List.replicate (p0.length : Int).toNat zTKind))] id ?_
 refine loop_in (fun (x : (Int × (List TKind))) => lit [(0, dc 6 eTKind zTKind p0), (3, ow 7 6 x.2), (4, cI x.1)] [(7, ar 6 eTKind zTKind x.2)]) (fun (z : (List TKind)) => At (.exit 0) (lit [(3, ow 7 6 z)] [(7, ar 6 eTKind zTKind z)])) h32 ?_ ?_
 ·clear H h32
  intro x21 y0 H
  refine seq_in ?_
  refine sn [] [] [(11, cB (decide (x21.1 < (p0.length : Int))))] [] [] (fun t => lI p0 (t)) ?_
  rcases oC H with ⟨c23, H⟩ | ⟨c23, H⟩
  ·refine it c23 ?_
   refine sk ?_
   refine seq_in ?_
   refine ends_blk ?_
   obtain ⟨v24, h25, H⟩ := oB H
   obtain ⟨v26, h27, H⟩ := oB H
   obtain ⟨g28, H⟩ := oI H
   obtain ⟨l29, h30, H⟩ := oB H
   refine oo [.cs (eTKind v24), .res (.agg (eTKind v26)), .no, .fn 0 (fF eTKind zTKind l29)] [] [(0, dc 6 eTKind zTKind p0), (3, ow 7 6 x21.2), (4, cI x21.1)] [(7, .arr 6 x21.2.length (fF eTKind zTKind l29) false)] (fun t => (a2 eTKind h25 (aI (l_toKind_ok v24 v26 h27) (aI g28 (aI rT (aI (nat_lt g28) (aI (by decide : 0 + 6 ≤ 6) (aI (fF_setN eTKind zTKind h30 (nat_lt g28) x21.2.length) (t))))))))) ?_
   change EndsI _ _ _ _ _ _
   refine oo [] [.rel 3 l29.length, .rep 7 l29.length (fF eTKind zTKind l29)] [(0, dc 6 eTKind zTKind p0), (3, ow 7 6 l29), (4, cI (W (x21.1 + 1)))] [(7, ar 6 eTKind zTKind l29)] (fun t => aI (by simp [lenN h30] : x21.2.length = l29.length) (aI (Nat.le_of_eq (by simp [lenN h30] : l29.length = x21.2.length)) (aI (fun _ _ => rfl : ∀ i, i < l29.length → (fF eTKind zTKind l29) i = (fF eTKind zTKind l29) i) (t)))) ?_
   cases H
   exact rr
  ·refine jf c23 ?_
   refine tl [] [(3, ow 7 6 x21.2)] [(7, ar 6 eTKind zTKind x21.2)] id ?_
   refine ends_exit ?_
   cases H
   exact rse
 ·clear h32
  rintro e s ⟨rfl, rfl⟩
  change EndsI _ _ _ _ _ _
  refine sn [] [] [(2, ow 7 6 y31)] [] [] id ?_
  refine tl [.frz 2] [(2, dc 6 eTKind zTKind y31)] [] (aI (Nat.le_refl y31.length)) ?_
  cases H
  exact er
def l_toRules_ir : S :=
 (sq [o 1 (.box 7 (.t 0)), o 2 (.alloc [.nil, .nil, .int .i64 0, .int .i64 0, .int .i64 0, .int .i64 0, .int .i64 0])]
 (sq [o 3 (.alloc [.nil, .nil, .int .i64 0, .int .i64 0, .int .i64 0, .int .i64 0, .int .i64 0])]
 (sq [oa 4 0 1, ol 5 4, o 6 (.call 61 [.t 5]), oa 7 0 3, os 1 7 6]
 (sq [oa 8 1 1, ol 9 8, o 10 (.call 62 [.t 9]), oa 11 1 3, os 1 11 10]
 (sq [oa 12 2 1, ol 13 12, oa 14 2 3, os 1 14 13]
 (sq [oa 15 3 1, ol 16 15, oa 17 3 3, os 1 17 16]
 (sq [oa 18 4 1, ol 19 18, oa 20 4 3, os 1 20 19]
 (sq [oa 21 5 1, ol 22 21, oa 23 5 3, os 1 23 22]
 (sq [oa 24 6 1, ol 25 24, oa 26 6 3, os 1 26 25]
 (sq [o 27 (.load 7 true (.t 3)), os 7 2 27]
 .ret))))))))))
noncomputable def X.l_toRules (p0 : TRules) : Option TRules :=
 ((X.l_toTerrainS p0.Terrains).bind fun v1 => ((X.l_toKindS p0.Kinds).bind fun v3 => some (TRules.mk v1 v3 p0.Stack p0.River p0.Road p0.Supply p0.Turns)))
theorem l_toRules_ok (p0 : TRules) (r : TRules) (H : X.l_toRules p0 = some r) : FK 27 [.agg (eTRules p0)] (.agg (eTRules r)) := by
 unfold X.l_toRules at H
 refine fi Tryz.f27 l_toRules_ir [(2, pk 2)] [(2, va (eTRules r))] glL Tryz.func27 ?_
 refine so [] [] [(1, pk 1), (2, pk 2)] [(1, va (eTRules p0)), (2, .var [.nil, .nil, jI 0, jI 0, jI 0, jI 0, jI 0] false)] id ?_
 refine sn [] [] [(3, pk 3)] [] [(3, .var [.nil, .nil, jI 0, jI 0, jI 0, jI 0, jI 0] false)] id ?_
 obtain ⟨v1, h2, H⟩ := oB H
 refine sn [.res (dc 5 eTTerrain zTTerrain v1)] [] [] [3] [(3, .var [dat 5 eTTerrain zTTerrain v1, .nil, jI 0, jI 0, jI 0, jI 0, jI 0] false)] (aI (l_toTerrainS_ok p0.Terrains v1 h2)) ?_
 obtain ⟨v3, h4, H⟩ := oB H
 refine sn [.res (dc 6 eTKind zTKind v3)] [] [] [3] [(3, .var [dat 5 eTTerrain zTTerrain v1, dat 6 eTKind zTKind v3, jI 0, jI 0, jI 0, jI 0, jI 0] false)] (aI (l_toKindS_ok p0.Kinds v3 h4)) ?_
 refine sn [] [] [] [3] [(3, .var [dat 5 eTTerrain zTTerrain v1, dat 6 eTKind zTKind v3, jI p0.Stack, jI 0, jI 0, jI 0, jI 0] false)] id ?_
 refine sn [] [] [] [3] [(3, .var [dat 5 eTTerrain zTTerrain v1, dat 6 eTKind zTKind v3, jI p0.Stack, jI p0.River, jI 0, jI 0, jI 0] false)] id ?_
 refine sn [] [] [] [3] [(3, .var [dat 5 eTTerrain zTTerrain v1, dat 6 eTKind zTKind v3, jI p0.Stack, jI p0.River, jI p0.Road, jI 0, jI 0] false)] id ?_
 refine sn [] [] [] [3] [(3, .var [dat 5 eTTerrain zTTerrain v1, dat 6 eTKind zTKind v3, jI p0.Stack, jI p0.River, jI p0.Road, jI p0.Supply, jI 0] false)] id ?_
 refine sn [] [] [] [3] [(3, .var [dat 5 eTTerrain zTTerrain v1, dat 6 eTKind zTKind v3, jI p0.Stack, jI p0.River, jI p0.Road, jI p0.Supply, jI p0.Turns] false)] id ?_
 refine so [] [] [(2, pk 2)] [(2, .var [dat 5 eTTerrain zTTerrain v1, dat 6 eTKind zTKind v3, jI p0.Stack, jI p0.River, jI p0.Road, jI p0.Supply, jI p0.Turns] false)] id ?_
 cases H
 exact er
def l_toMap_ir : S :=
 (sq [o 1 (.box 5 (.t 0)), o 2 (.alloc [.int .i64 0, .int .i64 0, .nil, .nil, .nil])]
 (sq [o 3 (.alloc [.int .i64 0, .int .i64 0, .nil, .nil, .nil])]
 (sq [oa 4 0 1, ol 5 4, oa 6 0 3, os 1 6 5]
 (sq [oa 7 1 1, ol 8 7, oa 9 1 3, os 1 9 8]
 (sq [oa 10 2 1, ol 11 10, o 12 (.call 63 [.t 11]), oa 13 2 3, os 1 13 12]
 (sq [oa 14 3 1, ol 15 14, o 16 (.call 63 [.t 15]), oa 17 3 3, os 1 17 16]
 (sq [oa 18 4 1, ol 19 18, o 20 (.call 63 [.t 19]), oa 21 4 3, os 1 21 20]
 (sq [o 22 (.load 5 true (.t 3)), os 5 2 22]
 .ret))))))))
noncomputable def X.l_toMap (p0 : TMap) : Option TMap :=
 ((X.l_toIntS p0.Terrain).bind fun v1 => ((X.l_toIntS p0.Rivers).bind fun v3 => ((X.l_toIntS p0.Roads).bind fun v5 => some (TMap.mk p0.Width p0.Height v1 v3 v5))))
theorem l_toMap_ok (p0 : TMap) (r : TMap) (H : X.l_toMap p0 = some r) : FK 28 [.agg (eTMap p0)] (.agg (eTMap r)) := by
 unfold X.l_toMap at H
 refine fi Tryz.f28 l_toMap_ir [(2, pk 2)] [(2, va (eTMap r))] glL Tryz.func28 ?_
 refine so [] [] [(1, pk 1), (2, pk 2)] [(1, va (eTMap p0)), (2, .var [jI 0, jI 0, .nil, .nil, .nil] false)] id ?_
 refine sn [] [] [(3, pk 3)] [] [(3, .var [jI 0, jI 0, .nil, .nil, .nil] false)] id ?_
 refine sn [] [] [] [3] [(3, .var [jI p0.Width, jI 0, .nil, .nil, .nil] false)] id ?_
 refine sn [] [] [] [3] [(3, .var [jI p0.Width, jI p0.Height, .nil, .nil, .nil] false)] id ?_
 obtain ⟨v1, h2, H⟩ := oB H
 refine sn [.res (dc 1 eI zI v1)] [] [] [3] [(3, .var [jI p0.Width, jI p0.Height, dat 1 eI zI v1, .nil, .nil] false)] (aI (l_toIntS_ok p0.Terrain v1 h2)) ?_
 obtain ⟨v3, h4, H⟩ := oB H
 refine sn [.res (dc 1 eI zI v3)] [] [] [3] [(3, .var [jI p0.Width, jI p0.Height, dat 1 eI zI v1, dat 1 eI zI v3, .nil] false)] (aI (l_toIntS_ok p0.Rivers v3 h4)) ?_
 obtain ⟨v5, h6, H⟩ := oB H
 refine sn [.res (dc 1 eI zI v5)] [] [] [3] [(3, .var [jI p0.Width, jI p0.Height, dat 1 eI zI v1, dat 1 eI zI v3, dat 1 eI zI v5] false)] (aI (l_toIntS_ok p0.Roads v5 h6)) ?_
 refine sn [] [] [] [1, 2] [(2, .var [jI p0.Width, jI p0.Height, dat 1 eI zI v1, dat 1 eI zI v3, dat 1 eI zI v5] false)] id ?_
 refine tl [] [(2, pk 2)] [(2, .var [jI p0.Width, jI p0.Height, dat 1 eI zI v1, dat 1 eI zI v3, dat 1 eI zI v5] false)] id ?_
 cases H
 exact er
def l_toBoard_ir : S :=
 (sq [o 1 (.box 12 (.t 0)), o 2 (.alloc [.nil, .nil, .int .i64 0, .int .i64 0, .int .i64 0, .int .i64 0, .int .i64 0, .int .i64 0, .int .i64 0, .nil, .nil, .nil])]
 (sq [o 3 (.alloc [.nil, .nil, .int .i64 0, .int .i64 0, .int .i64 0, .int .i64 0, .int .i64 0, .int .i64 0, .int .i64 0, .nil, .nil, .nil])]
 (sq [oa 4 0 1, o 5 (.load 7 true (.t 4)), o 6 (.call 27 [.t 5]), oa 7 0 3, os 7 7 6]
 (sq [oa 8 7 1, o 9 (.load 5 true (.t 8)), o 10 (.call 28 [.t 9]), oa 11 7 3, os 5 11 10]
 (sq [o 12 (.load 12 true (.t 3)), os 12 2 12]
 .ret)))))
noncomputable def X.l_toBoard (p0 : TBoard) : Option TBoard :=
 ((X.l_toRules p0.Rules).bind fun v1 => ((X.l_toMap p0.Map).bind fun v3 => some (TBoard.mk v1 v3)))
theorem l_toBoard_ok (p0 : TBoard) (r : TBoard) (H : X.l_toBoard p0 = some r) : FK 9 [.agg (eTBoard p0)] (.agg (eTBoard r)) := by
 unfold X.l_toBoard at H
 refine fi Tryz.f9 l_toBoard_ir [(2, pk 2)] [(2, va (eTBoard r))] glL Tryz.func9 ?_
 refine so [] [] [(1, pk 1), (2, pk 2)] [(1, va (eTBoard p0)), (2, .var [.nil, .nil, jI 0, jI 0, jI 0, jI 0, jI 0, jI 0, jI 0, .nil, .nil, .nil] false)] id ?_
 refine sn [] [] [(3, pk 3)] [] [(3, .var [.nil, .nil, jI 0, jI 0, jI 0, jI 0, jI 0, jI 0, jI 0, .nil, .nil, .nil] false)] id ?_
 obtain ⟨v1, h2, H⟩ := oB H
 refine sn [.res (.agg (eTRules v1))] [] [] [3] [(3, .var [dat 5 eTTerrain zTTerrain v1.Terrains, dat 6 eTKind zTKind v1.Kinds, jI v1.Stack, jI v1.River, jI v1.Road, jI v1.Supply, jI v1.Turns, jI 0, jI 0, .nil, .nil, .nil] false)] (aI (l_toRules_ok p0.Rules v1 h2)) ?_
 obtain ⟨v3, h4, H⟩ := oB H
 refine sn [.res (.agg (eTMap v3))] [] [] [3] [(3, .var [dat 5 eTTerrain zTTerrain v1.Terrains, dat 6 eTKind zTKind v1.Kinds, jI v1.Stack, jI v1.River, jI v1.Road, jI v1.Supply, jI v1.Turns, jI v3.Width, jI v3.Height, dat 1 eI zI v3.Terrain, dat 1 eI zI v3.Rivers, dat 1 eI zI v3.Roads] false)] (aI (l_toMap_ok p0.Map v3 h4)) ?_
 refine sn [] [] [] [1, 2] [(2, .var [dat 5 eTTerrain zTTerrain v1.Terrains, dat 6 eTKind zTKind v1.Kinds, jI v1.Stack, jI v1.River, jI v1.Road, jI v1.Supply, jI v1.Turns, jI v3.Width, jI v3.Height, dat 1 eI zI v3.Terrain, dat 1 eI zI v3.Rivers, dat 1 eI zI v3.Roads] false)] id ?_
 refine tl [] [(2, pk 2)] [(2, .var [dat 5 eTTerrain zTTerrain v1.Terrains, dat 6 eTKind zTKind v1.Kinds, jI v1.Stack, jI v1.River, jI v1.Road, jI v1.Supply, jI v1.Turns, jI v3.Width, jI v3.Height, dat 1 eI zI v3.Terrain, dat 1 eI zI v3.Rivers, dat 1 eI zI v3.Roads] false)] id ?_
 cases H
 exact er
def l_toUnit_ir : S :=
 (sq [o 1 (.box 4 (.t 0)), o 2 (.alloc [.int .i64 0, .int .i64 0, .int .i64 0, .int .i64 0])]
 (sq [o 3 (.alloc [.int .i64 0, .int .i64 0, .int .i64 0, .int .i64 0])]
 (sq [oa 4 0 1, ol 5 4, oa 6 0 3, os 1 6 5]
 (sq [oa 7 1 1, ol 8 7, oa 9 1 3, os 1 9 8]
 (sq [oa 10 2 1, ol 11 10, oa 12 2 3, os 1 12 11]
 (sq [oa 13 3 1, ol 14 13, oa 15 3 3, os 1 15 14]
 (sq [o 16 (.load 4 true (.t 3)), os 4 2 16]
 .ret)))))))
noncomputable def X.l_toUnit (p0 : TUnit) : Option TUnit :=
 some p0
theorem l_toUnit_ok (p0 : TUnit) (r : TUnit) (H : X.l_toUnit p0 = some r) : FK 64 [.agg (eTUnit p0)] (.agg (eTUnit r)) := by
 unfold X.l_toUnit at H
 refine fi Tryz.f64 l_toUnit_ir [(2, pk 2)] [(2, va (eTUnit r))] glL Tryz.func64 ?_
 refine so [] [] [(1, pk 1), (2, pk 2)] [(1, va (eTUnit p0)), (2, .var [jI 0, jI 0, jI 0, jI 0] false)] id ?_
 refine sn [] [] [(3, pk 3)] [] [(3, .var [jI 0, jI 0, jI 0, jI 0] false)] id ?_
 refine sn [] [] [] [3] [(3, .var [jI p0.Side, jI 0, jI 0, jI 0] false)] id ?_
 refine sn [] [] [] [3] [(3, .var [jI p0.Side, jI p0.Kind, jI 0, jI 0] false)] id ?_
 refine sn [] [] [] [3] [(3, .var [jI p0.Side, jI p0.Kind, jI p0.At, jI 0] false)] id ?_
 refine sn [] [] [] [3] [(3, va (eTUnit p0))] id ?_
 refine sn [] [] [] [1, 2] [(2, va (eTUnit p0))] id ?_
 refine tl [] [(2, pk 2)] [(2, va (eTUnit p0))] id ?_
 cases H
 exact er
def l_toUnitS_ir : S :=
 (sq [o 2 (.mv (.v (.nil)))]
 (sq [om 5 0, o 6 (.len (.t 5)), o 7 (.msl 4 32 [.int .i64 0, .int .i64 0, .int .i64 0, .int .i64 0] (.t 6)), om 3 7]
 (.seq (sq [o 4 (.mv (iv 0))]
 (.blk 0 (.loop (.seq (sq [om 8 4, om 9 0, o 10 (.len (.t 9)), o 11 (.bin .lss (.t 8) (.t 10))]
   (.ite (.t 11) .skip
   (.exit 0)))
   (.seq (.blk 1 (.ops [om 14 3, om 15 4, om 16 0, om 17 4, o 18 (.iad 4 (.t 16) (.t 17)), o 19 (.load 4 true (.t 18)), o 20 (.call 64 [.t 19]), o 21 (.iad 4 (.t 14) (.t 15)), os 4 21 20]))
   (.ops [om 12 4, o 13 (.bin .add (.t 12) (iv 1)), om 4 13]))))))
 (sq [om 22 3, om 2 22]
 .ret))))
noncomputable def X.l_toUnitS (p0 : (List TUnit)) : Option (List TUnit) :=
 (if 0 ≤ (p0.length : Int) ∧ (p0.length : Int).toNat ≤ LIM then ((loop (fun (x21 : (Int × (List TUnit))) => ((bif (decide (x21.1 < (p0.length : Int))) then ((at' zTUnit p0 x21.1).bind fun v24 => ((X.l_toUnit v24).bind fun v26 => (if 0 ≤ x21.1 ∧ x21.1 < (x21.2.length : Int) then ((some (x21.2.set x21.1.toNat v26)).bind fun l29 => some (Sum.inl ((W (x21.1 + 1)), l29))) else none))) else some (Sum.inr x21.2)) : Option ((Int × (List TUnit)) ⊕ (List TUnit)))) (0, (List.replicate (p0.length : Int).toNat zTUnit))).bind fun y31 => some y31) else none)
theorem l_toUnitS_ok (p0 : (List TUnit)) (r : (List TUnit)) (H : X.l_toUnitS p0 = some r) : FK 29 [.c (dat 4 eTUnit zTUnit p0)] (.c (dat 4 eTUnit zTUnit r)) := by
 unfold X.l_toUnitS at H
 refine fi Tryz.f29 l_toUnitS_ir [(2, dc 4 eTUnit zTUnit r)] [] glL Tryz.func29 ?_
 refine sn [] [] [] [] [] id ?_
 obtain ⟨g1, H⟩ := oI H
 refine sn [fh eTUnit zTUnit (List.replicate (p0.length : Int).toNat zTUnit)] [] [(3, ow 7 4 (List.replicate (p0.length : Int).toNat zTUnit))] [] [(7, ar 4 eTUnit zTUnit (List.replicate (p0.length : Int).toNat zTUnit))] (fun t => lI p0 (aI (And.intro g1.1 (And.intro (List.length_replicate (n := (p0.length : Int).toNat) (a := zTUnit)).symm (Nat.le_trans (Nat.le_of_eq List.length_replicate) g1.2 : (List.replicate (p0.length : Int).toNat zTUnit).length ≤ LIM))) (aI (fF_rep eTUnit zTUnit zTUnit (p0.length : Int).toNat) (t)))) ?_
 refine seq_in ?_
 refine sn [] [] [(4, cI 0)] [] [] id ?_
 refine ends_blk ?_
 obtain ⟨y31, h32, H⟩ := oB H
 refine tl [] [(0, dc 4 eTUnit zTUnit p0), (3, ow 7 4 (List.replicate (p0.length : Int).toNat zTUnit)), (4, cI 0)] [(7, ar 4 eTUnit zTUnit (List.replicate (p0.length : Int).toNat zTUnit))] id ?_
 refine loop_in (fun (x : (Int × (List TUnit))) => lit [(0, dc 4 eTUnit zTUnit p0), (3, ow 7 4 x.2), (4, cI x.1)] [(7, ar 4 eTUnit zTUnit x.2)]) (fun (z : (List TUnit)) => At (.exit 0) (lit [(3, ow 7 4 z)] [(7, ar 4 eTUnit zTUnit z)])) h32 ?_ ?_
 ·clear H h32
  intro x21 y0 H
  refine seq_in ?_
  refine sn [] [] [(11, cB (decide (x21.1 < (p0.length : Int))))] [] [] (fun t => lI p0 (t)) ?_
  rcases oC H with ⟨c23, H⟩ | ⟨c23, H⟩
  ·refine it c23 ?_
   refine sk ?_
   refine seq_in ?_
   refine ends_blk ?_
   obtain ⟨v24, h25, H⟩ := oB H
   obtain ⟨v26, h27, H⟩ := oB H
   obtain ⟨g28, H⟩ := oI H
   obtain ⟨l29, h30, H⟩ := oB H
   refine oo [.cs (eTUnit v24), .res (.agg (eTUnit v26)), .no, .fn 0 (fF eTUnit zTUnit l29)] [] [(0, dc 4 eTUnit zTUnit p0), (3, ow 7 4 x21.2), (4, cI x21.1)] [(7, .arr 4 x21.2.length (fF eTUnit zTUnit l29) false)] (fun t => (a2 eTUnit h25 (aI (l_toUnit_ok v24 v26 h27) (aI g28 (aI rT (aI (nat_lt g28) (aI (by decide : 0 + 4 ≤ 4) (aI (fF_setN eTUnit zTUnit h30 (nat_lt g28) x21.2.length) (t))))))))) ?_
   change EndsI _ _ _ _ _ _
   refine oo [] [.rel 3 l29.length, .rep 7 l29.length (fF eTUnit zTUnit l29)] [(0, dc 4 eTUnit zTUnit p0), (3, ow 7 4 l29), (4, cI (W (x21.1 + 1)))] [(7, ar 4 eTUnit zTUnit l29)] (fun t => aI (by simp [lenN h30] : x21.2.length = l29.length) (aI (Nat.le_of_eq (by simp [lenN h30] : l29.length = x21.2.length)) (aI (fun _ _ => rfl : ∀ i, i < l29.length → (fF eTUnit zTUnit l29) i = (fF eTUnit zTUnit l29) i) (t)))) ?_
   cases H
   exact rr
  ·refine jf c23 ?_
   refine tl [] [(3, ow 7 4 x21.2)] [(7, ar 4 eTUnit zTUnit x21.2)] id ?_
   refine ends_exit ?_
   cases H
   exact rse
 ·clear h32
  rintro e s ⟨rfl, rfl⟩
  change EndsI _ _ _ _ _ _
  refine sn [] [] [(2, ow 7 4 y31)] [] [] id ?_
  refine tl [.frz 2] [(2, dc 4 eTUnit zTUnit y31)] [] (aI (Nat.le_refl y31.length)) ?_
  cases H
  exact er
def l_toState_ir : S :=
 (sq [o 1 (.box 3 (.t 0)), o 2 (.alloc [.int .i64 0, .int .i64 0, .nil])]
 (sq [o 3 (.alloc [.int .i64 0, .int .i64 0, .nil])]
 (sq [oa 4 0 1, ol 5 4, oa 6 0 3, os 1 6 5]
 (sq [oa 7 1 1, ol 8 7, oa 9 1 3, os 1 9 8]
 (sq [oa 10 2 1, ol 11 10, o 12 (.call 29 [.t 11]), oa 13 2 3, os 1 13 12]
 (sq [o 14 (.load 3 true (.t 3)), os 3 2 14]
 .ret))))))
noncomputable def X.l_toState (p0 : TState) : Option TState :=
 ((X.l_toUnitS p0.Units).bind fun v1 => some (TState.mk p0.Turn p0.Weather v1))
theorem l_toState_ok (p0 : TState) (r : TState) (H : X.l_toState p0 = some r) : FK 10 [.agg (eTState p0)] (.agg (eTState r)) := by
 unfold X.l_toState at H
 refine fi Tryz.f10 l_toState_ir [(2, pk 2)] [(2, va (eTState r))] glL Tryz.func10 ?_
 refine so [] [] [(1, pk 1), (2, pk 2)] [(1, va (eTState p0)), (2, .var [jI 0, jI 0, .nil] false)] id ?_
 refine sn [] [] [(3, pk 3)] [] [(3, .var [jI 0, jI 0, .nil] false)] id ?_
 refine sn [] [] [] [3] [(3, .var [jI p0.Turn, jI 0, .nil] false)] id ?_
 refine sn [] [] [] [3] [(3, .var [jI p0.Turn, jI p0.Weather, .nil] false)] id ?_
 obtain ⟨v1, h2, H⟩ := oB H
 refine sn [.res (dc 4 eTUnit zTUnit v1)] [] [] [3] [(3, .var [jI p0.Turn, jI p0.Weather, dat 4 eTUnit zTUnit v1] false)] (aI (l_toUnitS_ok p0.Units v1 h2)) ?_
 refine sn [] [] [] [1, 2] [(2, .var [jI p0.Turn, jI p0.Weather, dat 4 eTUnit zTUnit v1] false)] id ?_
 refine tl [] [(2, pk 2)] [(2, .var [jI p0.Turn, jI p0.Weather, dat 4 eTUnit zTUnit v1] false)] id ?_
 cases H
 exact er
def i_inRange_ir : S :=
 (sq [o 6 (.mv bF)]
 (sq [om 7 1, om 8 0, o 9 (.bin .leq (.t 7) (.t 8)), om 10 9, oh 11 (.mv (.t 0)) 10, oh 12 (.mv (.t 2)) 10, oh 13 (.bin .leq (.t 11) (.t 12)) 10, o 14 (.pick (.t 10) (.t 13) bF), om 6 14]
 .ret))
noncomputable def X.i_inRange (p0 : Int) (p1 : Int) (p2 : Int) : Option Bool :=
 (bif (decide (p1 ≤ p0)) then some (decide (p0 ≤ p2)) else some false)
theorem i_inRange_ok (p0 : Int) (p1 : Int) (p2 : Int) (r : Bool) (H : X.i_inRange p0 p1 p2 = some r) : FK 69 [cI p0, cI p1, cI p2] (cB r) := by
 unfold X.i_inRange at H
 refine fi Tryz.f69 i_inRange_ir [(6, cB r)] [] glL Tryz.func69 ?_
 refine sn [] [] [] [] [] id ?_
 rcases oC H with ⟨c1, H⟩ | ⟨c1, H⟩
 ·refine so (rg 4 true []) [] [(6, cB (decide (p0 ≤ p2)))] [] (fun t => aG 4 c1 (t)) ?_
  cases H
  exact er
 ·refine so (rg 4 false []) [] [(6, cB false)] [] (fun t => aG 4 c1 (t)) ?_
  cases H
  exact er
def i_isIndex_ir : S :=
 (sq [o 4 (.mv bF)]
 (sq [om 5 0, om 6 1, o 7 (.bin .sub (.t 6) (iv 1)), o 8 (.call 69 [.t 5, .v (.int .i64 0), .t 7]), om 4 8]
 .ret))
noncomputable def X.i_isIndex (p0 : Int) (p1 : Int) : Option Bool :=
 ((X.i_inRange p0 0 (W (p1 - 1))).bind fun v1 => some v1)
theorem i_isIndex_ok (p0 : Int) (p1 : Int) (r : Bool) (H : X.i_isIndex p0 p1 = some r) : FK 40 [cI p0, cI p1] (cB r) := by
 unfold X.i_isIndex at H
 refine fi Tryz.f40 i_isIndex_ir [(4, cB r)] [] glL Tryz.func40 ?_
 refine sn [] [] [] [] [] id ?_
 obtain ⟨v1, h2, H⟩ := oB H
 refine so [.res (cB v1)] [] [(4, cB v1)] [] (aI (i_inRange_ok p0 0 (W (p1 - 1)) v1 h2)) ?_
 cases H
 exact er
def i_sizeOf_ir : S :=
 (sq [o 1 (.box 12 (.t 0)), o 2 (.mv (iv 0))]
 (sq [oa 3 7 1, oa 4 2 3, ol 5 4, o 6 (.len (.t 5)), om 2 6]
 .ret))
noncomputable def X.i_sizeOf (p0 : TBoard) : Option Int :=
 some (p0.Map.Terrain.length : Int)
theorem i_sizeOf_ok (p0 : TBoard) (r : Int) (H : X.i_sizeOf p0 = some r) : FK 41 [.agg (eTBoard p0)] (cI r) := by
 unfold X.i_sizeOf at H
 refine fi Tryz.f41 i_sizeOf_ir [(2, cI r)] [] glL Tryz.func41 ?_
 refine so [] [] [(1, pk 1)] [(1, va (eTBoard p0))] id ?_
 refine so [] [] [(2, cL p0.Map.Terrain)] [] (fun t => lI p0.Map.Terrain (t)) ?_
 cases H
 exact er
def i_isSide_ir : S :=
 (sq [o 2 (.mv bF)]
 (sq [om 3 0, o 4 (.call 69 [.t 3, .v (.int .i64 0), .v (.int .i64 1)]), om 2 4]
 .ret))
noncomputable def X.i_isSide (p0 : Int) : Option Bool :=
 ((X.i_inRange p0 0 1).bind fun v1 => some v1)
theorem i_isSide_ok (p0 : Int) (r : Bool) (H : X.i_isSide p0 = some r) : FK 89 [cI p0] (cB r) := by
 unfold X.i_isSide at H
 refine fi Tryz.f89 i_isSide_ir [(2, cB r)] [] glL Tryz.func89 ?_
 refine sn [] [] [] [] [] id ?_
 obtain ⟨v1, h2, H⟩ := oB H
 refine so [.res (cB v1)] [] [(2, cB v1)] [] (aI (i_inRange_ok p0 0 1 v1 h2)) ?_
 cases H
 exact er
def i_terrainAt_ir : S :=
 (sq [o 2 (.box 12 (.t 0)), o 4 (.alloc [.str [], .nil, .int .i64 0, .int .i64 0, .bool false])]
 (.seq (.drw [(0, 3), (1, 3), (2, 3), (0, 4), (1, 4), (2, 4), (0, 5), (1, 5), (2, 5), (0, 6), (1, 6), (2, 6), (3, 6), (4, 6), (5, 6), (0, 7), (1, 7), (2, 7), (0, 8), (1, 8), (2, 8)] [oa 5 0 2, oa 6 0 5, ol 7 6, oa 8 7 2, oa 9 2 8, ol 10 9, om 11 1, o 12 (.iad 1 (.t 10) (.t 11)), ol 13 12, o 14 (.iad 5 (.t 7) (.t 13)), o 15 (.load 5 true (.t 14)), os 5 4 15])
 .ret))
noncomputable def X.i_terrainAt (p0 : TBoard) (p1 : Int) : Option TTerrain :=
 ((at' zI p0.Map.Terrain p1).bind fun v1 => ((at' zTTerrain p0.Rules.Terrains v1).bind fun v3 => some v3))
theorem i_terrainAt_ok (p0 : TBoard) (p1 : Int) (r : TTerrain) (H : X.i_terrainAt p0 p1 = some r) : FK 154 [.agg (eTBoard p0), cI p1] (.agg (eTTerrain r)) := by
 unfold X.i_terrainAt at H
 refine fi Tryz.f154 i_terrainAt_ir [(4, pk 4)] [(4, va (eTTerrain r))] glL Tryz.func154 ?_
 refine sn [] [] [(2, pk 2), (4, pk 4)] [] [(2, va (eTBoard p0)), (4, .var [.str [], .nil, jI 0, jI 0, .bool false] false)] id ?_
 obtain ⟨v1, h2, H⟩ := oB H
 obtain ⟨v3, h4, H⟩ := oB H
 refine xn [.cs (eI v1), .cs (eTTerrain v3)] [] [] [4] [(4, va (eTTerrain v3))] (fun t => (a2 eI h2 (aI rN ((a2 eTTerrain h4 (aI rN (t))))))) ?_
 refine tl [] [(4, pk 4)] [(4, va (eTTerrain v3))] id ?_
 cases H
 exact er
def i_enterCost_ir : S :=
 (sq [o 3 (.box 12 (.t 0)), o 6 (.mv (iv 0))]
 (sq [o 7 (.load 12 true (.t 3)), om 8 2, o 9 (.call 154 [.t 7, .t 8]), o 10 (.fld 1 1 false (.t 9)), om 11 1, o 12 (.iad 1 (.t 10) (.t 11)), ol 13 12, om 6 13]
 .ret))
noncomputable def X.i_enterCost (p0 : TBoard) (p1 : Int) (p2 : Int) : Option Int :=
 ((X.i_terrainAt p0 p2).bind fun v1 => ((at' zI v1.Cost p1).bind fun v3 => some v3))
theorem i_enterCost_ok (p0 : TBoard) (p1 : Int) (p2 : Int) (r : Int) (H : X.i_enterCost p0 p1 p2 = some r) : FK 127 [.agg (eTBoard p0), cI p1, cI p2] (cI r) := by
 unfold X.i_enterCost at H
 refine fi Tryz.f127 i_enterCost_ir [(6, cI r)] [] glL Tryz.func127 ?_
 refine sn [] [] [(3, pk 3)] [] [(3, va (eTBoard p0))] id ?_
 obtain ⟨v1, h2, H⟩ := oB H
 obtain ⟨v3, h4, H⟩ := oB H
 refine so [.res (.agg (eTTerrain v1)), .cs (eI v3)] [] [(6, cI v3)] [] (fun t => aI (i_terrainAt_ok p0 p2 v1 h2) ((a2 eI h4 (t)))) ?_
 cases H
 exact er
def i_goodUnit_ir : S :=
 (sq [o 2 (.box 12 (.t 0)), o 3 (.box 4 (.t 1)), o 4 (.mv bF)]
 (.seq (.seq (.drw [(5, 7), (6, 7), (5, 8), (6, 8), (5, 9), (6, 9), (5, 10), (6, 10), (15, 17), (16, 17), (15, 18), (16, 18), (15, 19), (16, 19), (15, 20), (16, 20), (17, 20), (18, 20), (19, 20), (15, 21), (16, 21), (17, 21), (18, 21), (19, 21), (15, 22), (16, 22), (15, 23), (16, 23), (15, 24), (16, 24)] [oa 5 0 3, ol 6 5, o 7 (.call 89 [.t 6]), o 8 (.not (.t 7)), om 9 8, og 10 (.fad 1 (.t 3)) 9, og 11 (.load 1 false (.t 10)) 9, og 12 (.fad 0 (.t 2)) 9, og 13 (.fad 1 (.t 12)) 9, og 14 (.load 1 false (.t 13)) 9, og 15 (.len (.t 14)) 9, og 16 (.call 40 [.t 11, .t 15]) 9, og 17 (.not (.t 16)) 9, o 18 (.pick (.t 9) bT (.t 17)), om 19 18, og 20 (.fad 3 (.t 3)) 19, og 21 (.load 1 false (.t 20)) 19, og 22 (.fad 0 (.t 2)) 19, og 23 (.fad 1 (.t 22)) 19, og 24 (.load 1 false (.t 23)) 19, og 25 (.fad 1 (.t 3)) 19, og 26 (.load 1 false (.t 25)) 19, og 27 (.iad 6 (.t 24) (.t 26)) 19, og 28 (.fad 3 (.t 27)) 19, og 29 (.load 1 false (.t 28)) 19, og 30 (.call 69 [.t 21, .v (.int .i64 0), .t 29]) 19, og 31 (.not (.t 30)) 19, o 32 (.pick (.t 19) bT (.t 31))])
 (.ite (.t 32) (sq [o 4 (.mv bF)]
  .ret)
 .skip))
 (.seq (sq [oa 33 2 3, ol 34 33, o 35 (.bin .eql (.t 34) (.v (.int .i64 (-1))))]
 (.ite (.t 35) (sq [o 4 (.mv bT)]
  .ret)
 .skip))
 (.seq (.drw [(4, 6), (5, 6), (4, 7), (5, 7), (11, 12), (11, 13), (11, 14), (12, 14), (13, 14), (11, 15), (12, 15), (13, 15)] [oa 36 3 3, ol 37 36, o 38 (.bin .gtr (.t 37) (iv 0)), om 39 38, oh 40 (.fad 2 (.t 3)) 39, oh 41 (.load 1 false (.t 40)) 39, oh 42 (.load 12 true (.t 2)) 39, oh 43 (.call 41 [.t 42]) 39, oh 44 (.call 40 [.t 41, .t 43]) 39, o 45 (.pick (.t 39) (.t 44) bF), om 46 45, oh 47 (.load 12 true (.t 2)) 46, oh 48 (.fad 1 (.t 3)) 46, oh 49 (.load 1 false (.t 48)) 46, oh 50 (.fad 2 (.t 3)) 46, oh 51 (.load 1 false (.t 50)) 46, oh 52 (.call 127 [.t 47, .t 49, .t 51]) 46, oh 53 (.bin .neq (.t 52) (iv 0)) 46, o 54 (.pick (.t 46) (.t 53) bF), om 4 54])
 .ret))))
noncomputable def X.i_goodUnit (p0 : TBoard) (p1 : TUnit) : Option Bool :=
 ((X.i_isSide p1.Side).bind fun v12 => (bif (!v12) then some false else ((X.i_isIndex p1.Kind (p0.Rules.Kinds.length : Int)).bind fun v15 => (bif (!v15) then some false else ((at' zTKind p0.Rules.Kinds p1.Kind).bind fun v18 => ((X.i_inRange p1.Steps 0 v18.Steps).bind fun v20 => (bif (!v20) then some false else (bif (p1.At == (-1)) then some true else (bif (decide (p1.Steps > 0)) then ((X.i_sizeOf p0).bind fun v26 => ((X.i_isIndex p1.At v26).bind fun v28 => (bif v28 then ((X.i_enterCost p0 p1.Kind p1.At).bind fun v31 => some (v31 != 0)) else some false))) else some false)))))))))
theorem i_goodUnit_ok (p0 : TBoard) (p1 : TUnit) (r : Bool) (H : X.i_goodUnit p0 p1 = some r) : FK 90 [.agg (eTBoard p0), .agg (eTUnit p1)] (cB r) := by
 unfold X.i_goodUnit at H
 refine fi Tryz.f90 i_goodUnit_ir [(4, cB r)] [] glL Tryz.func90 ?_
 refine so [] [] [(2, pk 2), (3, pk 3)] [(2, va (eTBoard p0)), (3, va (eTUnit p1))] id ?_
 refine seq_in ?_
 obtain ⟨v12, h13, H⟩ := oB H
 rcases oC H with ⟨c14, H⟩ | ⟨c14, H⟩
 ·refine xn ([.res (cB v12)] ++ rg 22 true []) [] [(32, cB true)] [] [] (fun t => aI (i_isSide_ok p1.Side v12 h13) (aI trivial (aI rN (aG 9 c14 (aG 13 rT (t)))))) ?_
  refine it rT ?_
  refine so [] [] [(4, cB false)] [] id ?_
  cases H
  exact er
 ·obtain ⟨v15, h16, H⟩ := oB H
  rcases oC H with ⟨c17, H⟩ | ⟨c17, H⟩
  ·refine xn ([.res (cB v12)] ++ rg 7 false ([.res (cB v15)] ++ rg 2 false (rg 13 true []))) [] [(32, cB true)] [] [] (fun t => aI (i_isSide_ok p1.Side v12 h13) (aI trivial (aI rN (aG 7 c14 (aI (i_isIndex_ok p1.Kind (p0.Rules.Kinds.length : Int) v15 h16) (aI trivial (aI rN (aG 2 c14 (aG 13 c17 (t)))))))))) ?_
   refine it rT ?_
   refine so [] [] [(4, cB false)] [] id ?_
   cases H
   exact er
  ·obtain ⟨v18, h19, H⟩ := oB H
   obtain ⟨v20, h21, H⟩ := oB H
   refine xn ([.res (cB v12)] ++ rg 7 false ([.res (cB v15)] ++ rg 10 false ([.cs (eTKind v18)] ++ rg 3 false ([.res (cB v20)] ++ rg 2 false [])))) [] [(32, cB (!v20))] [] [] (fun t => aI (i_isSide_ok p1.Side v12 h13) (aI trivial (aI rN (aG 7 c14 (aI (i_isIndex_ok p1.Kind (p0.Rules.Kinds.length : Int) v15 h16) (aI trivial (aI rN (aG 2 c14 (aG 8 c17 ((a2 eTKind h19 (aG 2 c17 (aI rN (aI c17 (aI (i_inRange_ok p1.Steps 0 v18.Steps v20 h21) (aI trivial (aI rN (aG 2 c17 (t))))))))))))))))))) ?_
   rcases oC H with ⟨c22, H⟩ | ⟨c22, H⟩
   ·refine it c22 ?_
    refine so [] [] [(4, cB false)] [] id ?_
    cases H
    exact er
   ·refine jf c22 ?_
    refine sk ?_
    refine seq_in ?_
    refine sn [] [] [(35, cB (p1.At == (-1)))] [] [] id ?_
    rcases oC H with ⟨c24, H⟩ | ⟨c24, H⟩
    ·refine it c24 ?_
     refine so [] [] [(4, cB true)] [] id ?_
     cases H
     exact er
    ·refine jf c24 ?_
     refine sk ?_
     rcases oC H with ⟨c25, H⟩ | ⟨c25, H⟩
     ·obtain ⟨v26, h27, H⟩ := oB H
      obtain ⟨v28, h29, H⟩ := oB H
      rcases oC H with ⟨c30, H⟩ | ⟨c30, H⟩
      ·obtain ⟨v31, h32, H⟩ := oB H
       refine sx (rg 4 true ([.res (cI v26), .g true, .res (cB v28)] ++ rg 7 true ([.res (cI v31)] ++ rg 2 true []))) [] [(4, cB (v31 != 0))] [] (fun t => aG 4 c25 (aI (i_sizeOf_ok p0 v26 h27) (aI trivial (aI rN (aI c25 (aI (i_isIndex_ok p1.At v26 v28 h29) (aI trivial (aI rN (aI c25 (aG 6 c30 (aI (i_enterCost_ok p0 p1.Kind p1.At v31 h32) (aI trivial (aI rN (aG 2 c30 (t))))))))))))))) ?_
       cases H
       exact er
      ·refine sx (rg 4 true ([.res (cI v26), .g true, .res (cB v28), .g true] ++ rg 8 false [])) [] [(4, cB false)] [] (fun t => aG 4 c25 (aI (i_sizeOf_ok p0 v26 h27) (aI trivial (aI rN (aI c25 (aI (i_isIndex_ok p1.At v26 v28 h29) (aI trivial (aI rN (aI c25 (aG 8 c30 (t))))))))))) ?_
       cases H
       exact er
     ·refine sx (rg 14 false []) [] [(4, cB false)] [] (fun t => aG 6 c25 (aG 8 rF (t))) ?_
      cases H
      exact er
def i_goodState_ir : S :=
 (sq [o 2 (.box 12 (.t 0)), o 3 (.box 3 (.t 1)), o 4 (.mv bF)]
 (.seq (sq [oa 8 0 3, ol 9 8, oa 10 0 2, oa 11 6 10, ol 12 11, o 13 (.call 69 [.t 9, .v (.int .i64 0), .t 12]), o 14 (.not (.t 13)), om 15 14, og 16 (.fad 1 (.t 3)) 15, og 17 (.load 1 false (.t 16)) 15, og 18 (.call 69 [.t 17, .v (.int .i64 0), .v (.int .i64 2)]) 15, og 19 (.not (.t 18)) 15, o 20 (.pick (.t 15) bT (.t 19)), om 21 20, og 22 (.fad 2 (.t 3)) 21, og 23 (.load 1 false (.t 22)) 21, og 24 (.len (.t 23)) 21, og 25 (.bin .gtr (.t 24) (iv 12)) 21, o 26 (.pick (.t 21) bT (.t 25))]
 (.ite (.t 26) (sq [o 4 (.mv bF)]
  .ret)
 .skip))
 (sq [o 27 (.load 12 true (.t 2)), o 28 (.call 41 [.t 27]), o 29 (.msl 2 16 [.int .i64 0, .int .i64 0] (.t 28)), om 5 29]
 (.seq (sq [oa 30 2 3, ol 31 30, o 32 (.len (.t 31)), o 33 (.mv (iv 0))]
 (.blk 0 (.loop (sq [o 34 (.bin .lss (.t 33) (.t 32))]
   (.seq (.ite (.t 34) .skip
   (.exit 0))
   (.seq (.blk 1 (sq [o 35 (.iad 4 (.t 31) (.t 33)), o 36 (.load 4 true (.t 35)), o 7 (.alloc [.int .i64 0, .int .i64 0, .int .i64 0, .int .i64 0]), os 4 7 36]
    (.seq (sq [o 37 (.load 12 true (.t 2)), o 38 (.load 4 true (.t 7)), o 39 (.call 90 [.t 37, .t 38]), o 40 (.not (.t 39))]
    (.ite (.t 40) (sq [o 4 (.mv bF)]
     .ret)
    .skip))
    (.seq (sq [oa 41 2 7, ol 42 41, o 43 (.bin .lss (.t 42) (iv 0))]
    (.ite (.t 43) (.exit 1)
    .skip))
    (.seq (.drw [(0, 1), (0, 2), (0, 3), (1, 3), (2, 3), (0, 4), (1, 4), (2, 4), (3, 5), (4, 5), (3, 9), (4, 9), (5, 9), (6, 9), (7, 9), (8, 9)] [om 44 5, oa 45 2 7, ol 46 45, oa 47 0 7, ol 48 47, o 49 (.iad 2 (.t 44) (.t 46)), o 50 (.iar 2 1 (.t 49) (.t 48)), ol 51 50, o 52 (.bin .add (.t 51) (iv 1)), o 53 (.iad 2 (.t 44) (.t 46)), o 54 (.iar 2 1 (.t 53) (.t 48)), os 1 54 52])
    (.seq (.drw [(0, 1), (0, 2), (0, 3), (1, 3), (2, 3), (0, 4), (1, 4), (2, 4), (0, 5), (1, 5), (2, 5), (3, 6), (4, 6), (5, 6), (11, 12), (11, 13), (11, 14), (12, 14), (13, 14), (11, 15), (12, 15), (13, 15), (14, 16), (15, 16), (11, 19), (12, 19), (13, 19), (14, 19), (15, 19), (16, 19), (17, 19), (18, 19), (11, 20), (12, 20), (13, 20), (14, 20), (15, 20), (16, 20), (17, 20), (18, 20), (11, 21), (12, 21), (13, 21), (14, 21), (15, 21), (16, 21), (17, 21), (18, 21)] [om 55 5, oa 56 2 7, ol 57 56, oa 58 0 7, ol 59 58, o 60 (.bin .sub (iv 1) (.t 59)), o 61 (.iad 2 (.t 55) (.t 57)), o 62 (.iar 2 1 (.t 61) (.t 60)), ol 63 62, o 64 (.bin .gtr (.t 63) (iv 0)), om 65 64, og 66 (.mv (.t 5)) 65, og 67 (.fad 2 (.t 7)) 65, og 68 (.load 1 false (.t 67)) 65, og 69 (.fad 0 (.t 7)) 65, og 70 (.load 1 false (.t 69)) 65, og 71 (.iad 2 (.t 66) (.t 68)) 65, og 72 (.iar 2 1 (.t 71) (.t 70)) 65, og 73 (.load 1 false (.t 72)) 65, og 74 (.fad 0 (.t 2)) 65, og 75 (.fad 2 (.t 74)) 65, og 76 (.load 1 false (.t 75)) 65, og 77 (.bin .gtr (.t 73) (.t 76)) 65, o 78 (.pick (.t 65) bT (.t 77))])
    (.ite (.t 78) (sq [o 4 (.mv bF)]
     .ret)
    .skip)))))))
   (.ops [o 79 (.bin .add (.t 33) (iv 1)), om 33 79])))))))
 (sq [o 4 (.mv bT)]
 .ret)))))
noncomputable def X.i_goodState (p0 : TBoard) (p1 : TState) : Option Bool :=
 ((X.i_inRange p1.Turn 0 p0.Rules.Turns).bind fun v8 => (bif (!v8) then some false else ((X.i_inRange p1.Weather 0 2).bind fun v11 => (bif (!v11) then some false else (bif (decide ((p1.Units.length : Int) > 12)) then some false else ((X.i_sizeOf p0).bind fun v15 => (if 0 ≤ v15 ∧ v15.toNat ≤ LIM then ((loop (fun (x93 : (Int × (List A2_I))) => ((bif (decide (x93.1 < (p1.Units.length : Int))) then ((at' zTUnit p1.Units x93.1).bind fun v96 => ((X.i_goodUnit p0 v96).bind fun v101 => (bif (!v101) then some (Sum.inr (Sum.inr false)) else (bif (decide (v96.At < 0)) then some (Sum.inl ((W (x93.1 + 1)), x93.2)) else (if 0 ≤ v96.At ∧ v96.At < (x93.2.length : Int) then (if v96.Side = ((0 : Nat) : Int) then ((some (x93.2.set v96.At.toNat (A2_I.mk (W ((x93.2.getD v96.At.toNat zA2_I).a0 + 1)) ((x93.2.getD v96.At.toNat zA2_I).a1)))).bind fun l108 => (if (W (1 - v96.Side)) = ((0 : Nat) : Int) then (bif (decide ((l108.getD v96.At.toNat zA2_I).a0 > 0)) then some (Sum.inr (Sum.inr false)) else (bif (decide ((l108.getD v96.At.toNat zA2_I).a0 > p0.Rules.Stack)) then some (Sum.inr (Sum.inr false)) else some (Sum.inl ((W (x93.1 + 1)), l108)))) else (if (W (1 - v96.Side)) = ((1 : Nat) : Int) then (bif (decide ((l108.getD v96.At.toNat zA2_I).a1 > 0)) then some (Sum.inr (Sum.inr false)) else (bif (decide ((l108.getD v96.At.toNat zA2_I).a0 > p0.Rules.Stack)) then some (Sum.inr (Sum.inr false)) else some (Sum.inl ((W (x93.1 + 1)), l108)))) else none))) else (if v96.Side = ((1 : Nat) : Int) then ((some (x93.2.set v96.At.toNat (A2_I.mk ((x93.2.getD v96.At.toNat zA2_I).a0) (W ((x93.2.getD v96.At.toNat zA2_I).a1 + 1))))).bind fun l119 => (if (W (1 - v96.Side)) = ((0 : Nat) : Int) then (bif (decide ((l119.getD v96.At.toNat zA2_I).a0 > 0)) then some (Sum.inr (Sum.inr false)) else (bif (decide ((l119.getD v96.At.toNat zA2_I).a1 > p0.Rules.Stack)) then some (Sum.inr (Sum.inr false)) else some (Sum.inl ((W (x93.1 + 1)), l119)))) else (if (W (1 - v96.Side)) = ((1 : Nat) : Int) then (bif (decide ((l119.getD v96.At.toNat zA2_I).a1 > 0)) then some (Sum.inr (Sum.inr false)) else (bif (decide ((l119.getD v96.At.toNat zA2_I).a1 > p0.Rules.Stack)) then some (Sum.inr (Sum.inr false)) else some (Sum.inl ((W (x93.1 + 1)), l119)))) else none))) else none)) else none))))) else some (Sum.inr (Sum.inl ()))) : Option ((Int × (List A2_I)) ⊕ (Unit ⊕ Bool)))) (0, (List.replicate v15.toNat zA2_I))).bind fun y131 => (Sum.elim (fun (y133 : Unit) => some true) (fun (y134 : Bool) => some y134) y131)) else none)))))))
theorem i_goodState_ok (p0 : TBoard) (p1 : TState) (r : Bool) (H : X.i_goodState p0 p1 = some r) : FK 52 [.agg (eTBoard p0), .agg (eTState p1)] (cB r) := by
 unfold X.i_goodState at H
 refine fi Tryz.f52 i_goodState_ir [(4, cB r)] [] glL Tryz.func52 ?_
 refine so [] [] [(2, pk 2), (3, pk 3)] [(2, va (eTBoard p0)), (3, va (eTState p1))] id ?_
 refine seq_in ?_
 obtain ⟨v8, h9, H⟩ := oB H
 rcases oC H with ⟨c10, H⟩ | ⟨c10, H⟩
 ·refine sn ([.res (cB v8)] ++ rg 10 true []) [] [(26, cB true)] [] [] (fun t => aI (i_inRange_ok p1.Turn 0 p0.Rules.Turns v8 h9) (aG 5 c10 (aG 5 rT (t)))) ?_
  refine it rT ?_
  refine so [] [] [(4, cB false)] [] id ?_
  cases H
  exact er
 ·obtain ⟨v11, h12, H⟩ := oB H
  rcases oC H with ⟨c13, H⟩ | ⟨c13, H⟩
  ·refine sn ([.res (cB v8)] ++ rg 3 false ([.res (cB v11)] ++ rg 2 false (rg 5 true []))) [] [(26, cB true)] [] [] (fun t => aI (i_inRange_ok p1.Turn 0 p0.Rules.Turns v8 h9) (aG 3 c10 (aI (i_inRange_ok p1.Weather 0 2 v11 h12) (aG 2 c10 (aG 5 c13 (t)))))) ?_
   refine it rT ?_
   refine so [] [] [(4, cB false)] [] id ?_
   cases H
   exact er
  ·refine sn ([.res (cB v8)] ++ rg 3 false ([.res (cB v11)] ++ rg 7 false [])) [] [(26, cB (decide ((p1.Units.length : Int) > 12)))] [] [] (fun t => aI (i_inRange_ok p1.Turn 0 p0.Rules.Turns v8 h9) (aG 3 c10 (aI (i_inRange_ok p1.Weather 0 2 v11 h12) (aG 2 c10 (aG 3 c13 (lI p1.Units (aG 2 c13 (t)))))))) ?_
   rcases oC H with ⟨c14, H⟩ | ⟨c14, H⟩
   ·refine it c14 ?_
    refine so [] [] [(4, cB false)] [] id ?_
    cases H
    exact er
   ·refine jf c14 ?_
    refine sk ?_
    obtain ⟨v15, h16, H⟩ := oB H
    obtain ⟨g17, H⟩ := oI H
    refine sn [.res (cI v15), fh eA2_I zA2_I (List.replicate v15.toNat zA2_I)] [] [(5, ow 29 2 (List.replicate v15.toNat zA2_I))] [] [(29, ar 2 eA2_I zA2_I (List.replicate v15.toNat zA2_I))] (fun t => aI (i_sizeOf_ok p0 v15 h16) (aI (And.intro g17.1 (And.intro (List.length_replicate (n := v15.toNat) (a := zA2_I)).symm (Nat.le_trans (Nat.le_of_eq List.length_replicate) g17.2 : (List.replicate v15.toNat zA2_I).length ≤ LIM))) (aI (fF_rep eA2_I zA2_I zA2_I v15.toNat) (t)))) ?_
    refine seq_in ?_
    refine sn [] [] [(31, dc 4 eTUnit zTUnit p1.Units), (32, cL p1.Units), (33, cI 0)] [] [] (fun t => lI p1.Units (t)) ?_
    refine ends_blk ?_
    obtain ⟨y131, h132, H⟩ := oB H
    refine tl [] [(2, pk 2), (5, ow 29 2 (List.replicate v15.toNat zA2_I)), (31, dc 4 eTUnit zTUnit p1.Units), (32, cL p1.Units), (33, cI 0)] [(2, va (eTBoard p0)), (29, ar 2 eA2_I zA2_I (List.replicate v15.toNat zA2_I))] id ?_
    refine loop_in (fun (x : (Int × (List A2_I))) => lit [(2, pk 2), (5, ow 29 2 x.2), (31, dc 4 eTUnit zTUnit p1.Units), (32, cL p1.Units), (33, cI x.1)] [(2, va (eTBoard p0)), (29, ar 2 eA2_I zA2_I x.2)]) (orJ (fun (z : Unit) => At (.exit 0) (lit [] [])) (fun (z : Bool) => At .ret (lit [(4, cB z)] []))) h132 ?_ ?_
    ·clear H h132
     intro x93 y0 H
     refine sn [] [] [(34, cB (decide (x93.1 < (p1.Units.length : Int))))] [] [] id ?_
     refine seq_in ?_
     rcases oC H with ⟨c95, H⟩ | ⟨c95, H⟩
     ·refine it c95 ?_
      refine sk ?_
      refine seq_in ?_
      refine ends_blk ?_
      obtain ⟨v96, h97, H⟩ := oB H
      refine sn [.cs (eTUnit v96)] [] [(7, pk 7)] [] [(7, va (eTUnit v96))] (a2 eTUnit h97) ?_
      refine seq_in ?_
      obtain ⟨v101, h102, H⟩ := oB H
      refine sn [.res (cB v101)] [] [(40, cB (!v101))] [] [] (aI (i_goodUnit_ok p0 v96 v101 h102)) ?_
      rcases oC H with ⟨c103, H⟩ | ⟨c103, H⟩
      ·refine it c103 ?_
       refine so [] [] [(4, cB false)] [] id ?_
       refine ends_ret ?_
       cases H
       exact rsr
      ·refine jf c103 ?_
       refine sk ?_
       refine seq_in ?_
       refine sn [] [] [(43, cB (decide (v96.At < 0)))] [] [] id ?_
       rcases oC H with ⟨c105, H⟩ | ⟨c105, H⟩
       ·refine it c105 ?_
        refine ends_exit ?_
        change EndsI _ _ _ _ _ _
        refine oo [] [] [(2, pk 2), (5, ow 29 2 x93.2), (31, dc 4 eTUnit zTUnit p1.Units), (32, cL p1.Units), (33, cI (W (x93.1 + 1)))] [(2, va (eTBoard p0)), (29, ar 2 eA2_I zA2_I x93.2)] id ?_
        cases H
        exact rr
       ·refine jf c105 ?_
        refine sk ?_
        obtain ⟨g106, H⟩ := oI H
        rcases ofIte H with ⟨c107, H⟩ | ⟨c130, H⟩
        ·obtain ⟨l108, h109, H⟩ := oB H
         refine xn [.no, .nat 0, .no, .nat 0, .fn 0 (fF eA2_I zA2_I l108)] [] [] [29] [(29, .arr 2 x93.2.length (fF eA2_I zA2_I l108) false)] (fun t => aI g106 (aI (And.intro c107 (by decide : 0 < 2)) (aI (nat_lt g106) (aI rN (aI g106 (aI (And.intro c107 (by decide : 0 < 2)) (aI rT (aI (nat_lt g106) (aI (by decide : 0 + 1 ≤ 2) (aI (fF_setN eA2_I zA2_I h109 (nat_lt g106) x93.2.length) (t))))))))))) ?_
         rcases ofIte H with ⟨c110, H⟩ | ⟨c117, H⟩
         ·rcases oC H with ⟨c111, H⟩ | ⟨c111, H⟩
          ·refine xn ([.no, .nat 0] ++ rg 13 true []) [] [(78, cB true)] [] [] (fun t => aI g106 (aI (And.intro c110 (by decide : 0 < 2)) (aI (nat_lt g106) (aI rN (aG 13 c111 (t)))))) ?_
           refine it rT ?_
           refine so [] [] [(4, cB false)] [] id ?_
           refine ends_ret ?_
           cases H
           exact rsr
          ·refine xn ([.no, .nat 0] ++ rg 6 false ([.no, .g false, .nat 0] ++ rg 6 false [])) [] [(78, cB (decide ((l108.getD v96.At.toNat zA2_I).a0 > p0.Rules.Stack)))] [] [] (fun t => aI g106 (aI (And.intro c110 (by decide : 0 < 2)) (aI (nat_lt g106) (aI rN (aG 6 c111 (aI g106 (aI c111 (aI (And.intro c107 (by decide : 0 < 2)) (aI c111 (aI (nat_lt g106) (aI rN (aG 5 c111 (t))))))))))))) ?_
           rcases oC H with ⟨c112, H⟩ | ⟨c112, H⟩
           ·refine it c112 ?_
            refine so [] [] [(4, cB false)] [] id ?_
            refine ends_ret ?_
            cases H
            exact rsr
           ·refine jf c112 ?_
            refine sk ?_
            refine oo [] [.rel 5 l108.length, .rep 29 l108.length (fF eA2_I zA2_I l108)] [(2, pk 2), (5, ow 29 2 l108), (31, dc 4 eTUnit zTUnit p1.Units), (32, cL p1.Units), (33, cI (W (x93.1 + 1)))] [(2, va (eTBoard p0)), (29, ar 2 eA2_I zA2_I l108)] (fun t => aI (by simp [lenN h109] : x93.2.length = l108.length) (aI (Nat.le_of_eq (by simp [lenN h109] : l108.length = x93.2.length)) (aI (fun _ _ => rfl : ∀ i, i < l108.length → (fF eA2_I zA2_I l108) i = (fF eA2_I zA2_I l108) i) (t)))) ?_
            cases H
            exact rr
         ·rcases ofIte H with ⟨c113, H⟩ | ⟨c116, H⟩
          ·rcases oC H with ⟨c114, H⟩ | ⟨c114, H⟩
           ·refine xn ([.no, .nat 1] ++ rg 13 true []) [] [(78, cB true)] [] [] (fun t => aI g106 (aI (And.intro c113 (by decide : 1 < 2)) (aI (nat_lt g106) (aI rN (aG 13 c114 (t)))))) ?_
            refine it rT ?_
            refine so [] [] [(4, cB false)] [] id ?_
            refine ends_ret ?_
            cases H
            exact rsr
           ·refine xn ([.no, .nat 1] ++ rg 6 false ([.no, .g false, .nat 0] ++ rg 6 false [])) [] [(78, cB (decide ((l108.getD v96.At.toNat zA2_I).a0 > p0.Rules.Stack)))] [] [] (fun t => aI g106 (aI (And.intro c113 (by decide : 1 < 2)) (aI (nat_lt g106) (aI rN (aG 6 c114 (aI g106 (aI c114 (aI (And.intro c107 (by decide : 0 < 2)) (aI c114 (aI (nat_lt g106) (aI rN (aG 5 c114 (t))))))))))))) ?_
            rcases oC H with ⟨c115, H⟩ | ⟨c115, H⟩
            ·refine it c115 ?_
             refine so [] [] [(4, cB false)] [] id ?_
             refine ends_ret ?_
             cases H
             exact rsr
            ·refine jf c115 ?_
             refine sk ?_
             refine oo [] [.rel 5 l108.length, .rep 29 l108.length (fF eA2_I zA2_I l108)] [(2, pk 2), (5, ow 29 2 l108), (31, dc 4 eTUnit zTUnit p1.Units), (32, cL p1.Units), (33, cI (W (x93.1 + 1)))] [(2, va (eTBoard p0)), (29, ar 2 eA2_I zA2_I l108)] (fun t => aI (by simp [lenN h109] : x93.2.length = l108.length) (aI (Nat.le_of_eq (by simp [lenN h109] : l108.length = x93.2.length)) (aI (fun _ _ => rfl : ∀ i, i < l108.length → (fF eA2_I zA2_I l108) i = (fF eA2_I zA2_I l108) i) (t)))) ?_
             cases H
             exact rr
          ·cases H
        ·rcases ofIte H with ⟨c118, H⟩ | ⟨c129, H⟩
         ·obtain ⟨l119, h120, H⟩ := oB H
          refine xn [.no, .nat 1, .no, .nat 1, .fn 0 (fF eA2_I zA2_I l119)] [] [] [29] [(29, .arr 2 x93.2.length (fF eA2_I zA2_I l119) false)] (fun t => aI g106 (aI (And.intro c118 (by decide : 1 < 2)) (aI (nat_lt g106) (aI rN (aI g106 (aI (And.intro c118 (by decide : 1 < 2)) (aI rT (aI (nat_lt g106) (aI (by decide : 1 + 1 ≤ 2) (aI (fF_setN eA2_I zA2_I h120 (nat_lt g106) x93.2.length) (t))))))))))) ?_
          rcases ofIte H with ⟨c121, H⟩ | ⟨c128, H⟩
          ·rcases oC H with ⟨c122, H⟩ | ⟨c122, H⟩
           ·refine xn ([.no, .nat 0] ++ rg 13 true []) [] [(78, cB true)] [] [] (fun t => aI g106 (aI (And.intro c121 (by decide : 0 < 2)) (aI (nat_lt g106) (aI rN (aG 13 c122 (t)))))) ?_
            refine it rT ?_
            refine so [] [] [(4, cB false)] [] id ?_
            refine ends_ret ?_
            cases H
            exact rsr
           ·refine xn ([.no, .nat 0] ++ rg 6 false ([.no, .g false, .nat 1] ++ rg 6 false [])) [] [(78, cB (decide ((l119.getD v96.At.toNat zA2_I).a1 > p0.Rules.Stack)))] [] [] (fun t => aI g106 (aI (And.intro c121 (by decide : 0 < 2)) (aI (nat_lt g106) (aI rN (aG 6 c122 (aI g106 (aI c122 (aI (And.intro c118 (by decide : 1 < 2)) (aI c122 (aI (nat_lt g106) (aI rN (aG 5 c122 (t))))))))))))) ?_
            rcases oC H with ⟨c123, H⟩ | ⟨c123, H⟩
            ·refine it c123 ?_
             refine so [] [] [(4, cB false)] [] id ?_
             refine ends_ret ?_
             cases H
             exact rsr
            ·refine jf c123 ?_
             refine sk ?_
             refine oo [] [.rel 5 l119.length, .rep 29 l119.length (fF eA2_I zA2_I l119)] [(2, pk 2), (5, ow 29 2 l119), (31, dc 4 eTUnit zTUnit p1.Units), (32, cL p1.Units), (33, cI (W (x93.1 + 1)))] [(2, va (eTBoard p0)), (29, ar 2 eA2_I zA2_I l119)] (fun t => aI (by simp [lenN h120] : x93.2.length = l119.length) (aI (Nat.le_of_eq (by simp [lenN h120] : l119.length = x93.2.length)) (aI (fun _ _ => rfl : ∀ i, i < l119.length → (fF eA2_I zA2_I l119) i = (fF eA2_I zA2_I l119) i) (t)))) ?_
             cases H
             exact rr
          ·rcases ofIte H with ⟨c124, H⟩ | ⟨c127, H⟩
           ·rcases oC H with ⟨c125, H⟩ | ⟨c125, H⟩
            ·refine xn ([.no, .nat 1] ++ rg 13 true []) [] [(78, cB true)] [] [] (fun t => aI g106 (aI (And.intro c124 (by decide : 1 < 2)) (aI (nat_lt g106) (aI rN (aG 13 c125 (t)))))) ?_
             refine it rT ?_
             refine so [] [] [(4, cB false)] [] id ?_
             refine ends_ret ?_
             cases H
             exact rsr
            ·refine xn ([.no, .nat 1] ++ rg 6 false ([.no, .g false, .nat 1] ++ rg 6 false [])) [] [(78, cB (decide ((l119.getD v96.At.toNat zA2_I).a1 > p0.Rules.Stack)))] [] [] (fun t => aI g106 (aI (And.intro c124 (by decide : 1 < 2)) (aI (nat_lt g106) (aI rN (aG 6 c125 (aI g106 (aI c125 (aI (And.intro c118 (by decide : 1 < 2)) (aI c125 (aI (nat_lt g106) (aI rN (aG 5 c125 (t))))))))))))) ?_
             rcases oC H with ⟨c126, H⟩ | ⟨c126, H⟩
             ·refine it c126 ?_
              refine so [] [] [(4, cB false)] [] id ?_
              refine ends_ret ?_
              cases H
              exact rsr
             ·refine jf c126 ?_
              refine sk ?_
              refine oo [] [.rel 5 l119.length, .rep 29 l119.length (fF eA2_I zA2_I l119)] [(2, pk 2), (5, ow 29 2 l119), (31, dc 4 eTUnit zTUnit p1.Units), (32, cL p1.Units), (33, cI (W (x93.1 + 1)))] [(2, va (eTBoard p0)), (29, ar 2 eA2_I zA2_I l119)] (fun t => aI (by simp [lenN h120] : x93.2.length = l119.length) (aI (Nat.le_of_eq (by simp [lenN h120] : l119.length = x93.2.length)) (aI (fun _ _ => rfl : ∀ i, i < l119.length → (fF eA2_I zA2_I l119) i = (fF eA2_I zA2_I l119) i) (t)))) ?_
              cases H
              exact rr
           ·cases H
         ·cases H
     ·refine jf c95 ?_
      refine tl [] [] [] id ?_
      refine ends_exit ?_
      cases H
      exact rse
    ·clear h132
     cases y131 with
     | inl y133 =>
      replace H := ofInl H
      rintro e s ⟨rfl, rfl⟩
      change EndsI _ _ _ _ _ _
      refine so [] [] [(4, cB true)] [] id ?_
      cases H
      exact er
     | inr y134 =>
      replace H := ofInr H
      rintro e s ⟨rfl, rfl⟩
      cases H
      exact qr
def g_IndexFunc_int_ir : S :=
 (sq [o 4 (.mv (iv 0))]
 (.seq (sq [om 6 0, o 7 (.len (.t 6)), o 8 (.mv (iv 0))]
 (.blk 0 (.loop (sq [o 9 (.bin .lss (.t 8) (.t 7))]
   (.seq (.ite (.t 9) .skip
   (.exit 0))
   (.seq (.blk 1 (sq [om 10 8, om 5 10]
    (sq [om 11 1, om 12 0, om 13 5, o 14 (.iad 1 (.t 12) (.t 13)), ol 15 14, o 16 (.cald (.t 11) [.t 15])]
    (.ite (.t 16) (sq [om 17 5, om 4 17]
     .ret)
    .skip))))
   (.ops [o 18 (.bin .add (.t 8) (iv 1)), om 8 18])))))))
 (sq [o 4 (.mv (.v (.int .i64 (-1))))]
 .ret)))
noncomputable def X.g_IndexFunc_int (p0 : (List Int)) (f1 : Int → Option Bool) : Option Int :=
 ((loop (fun (x16 : Int) => ((bif (decide (x16 < (p0.length : Int))) then ((at' zI p0 x16).bind fun v19 => ((f1 v19).bind fun v21 => (bif v21 then some (Sum.inr (Sum.inr x16)) else some (Sum.inl (W (x16 + 1)))))) else some (Sum.inr (Sum.inl ()))) : Option (Int ⊕ (Unit ⊕ Int)))) 0).bind fun y24 => (Sum.elim (fun (y26 : Unit) => some (-1)) (fun (y27 : Int) => some y27) y24))
theorem g_IndexFunc_int_c0_ok (p0 : (List Int)) (cf1 : FuncId) (f1 : Int → Option Bool) (hf1 : ∀ q0 r, f1 q0 = some r → FK cf1 [cI q0] (cB r)) (r : Int) (H : X.g_IndexFunc_int p0 f1 = some r) : FK 173 [.c (dat 1 eI zI p0), .c (.clo cf1 [])] (cI r) := by
 unfold X.g_IndexFunc_int at H
 refine fi Tryz.f173 g_IndexFunc_int_ir [(4, cI r)] [] glL Tryz.func173 ?_
 refine sn [] [] [] [] [] id ?_
 refine seq_in ?_
 refine sn [] [] [(7, cL p0), (8, cI 0)] [] [] (fun t => lI p0 (t)) ?_
 refine ends_blk ?_
 obtain ⟨y24, h25, H⟩ := oB H
 refine tl [] [(0, dc 1 eI zI p0), (1, .c (.clo cf1 [])), (7, cL p0), (8, cI 0)] [] id ?_
 refine loop_in (fun (x : Int) => lit [(0, dc 1 eI zI p0), (1, .c (.clo cf1 [])), (7, cL p0), (8, cI x)] []) (orJ (fun (z : Unit) => At (.exit 0) (lit [] [])) (fun (z : Int) => At .ret (lit [(4, cI z)] []))) h25 ?_ ?_
 ·clear H h25
  intro x16 y0 H
  refine sn [] [] [(9, cB (decide (x16 < (p0.length : Int))))] [] [] id ?_
  refine seq_in ?_
  rcases oC H with ⟨c18, H⟩ | ⟨c18, H⟩
  ·refine it c18 ?_
   refine sk ?_
   refine seq_in ?_
   refine ends_blk ?_
   refine sn [] [] [(5, cI x16)] [] [] id ?_
   obtain ⟨v19, h20, H⟩ := oB H
   obtain ⟨v21, h22, H⟩ := oB H
   refine sn [.cs (eI v19), .res (cB v21)] [] [(16, cB v21)] [] [] (fun t => (a2 eI h20 (aI (hf1 v19 v21 h22) (t)))) ?_
   rcases oC H with ⟨c23, H⟩ | ⟨c23, H⟩
   ·refine it c23 ?_
    refine so [] [] [(4, cI x16)] [] id ?_
    refine ends_ret ?_
    cases H
    exact rsr
   ·refine jf c23 ?_
    refine sk ?_
    refine oo [] [] [(0, dc 1 eI zI p0), (1, .c (.clo cf1 [])), (7, cL p0), (8, cI (W (x16 + 1)))] [] id ?_
    cases H
    exact rr
  ·refine jf c18 ?_
   refine tl [] [] [] id ?_
   refine ends_exit ?_
   cases H
   exact rse
 ·clear h25
  cases y24 with
  | inl y26 =>
   replace H := ofInl H
   rintro e s ⟨rfl, rfl⟩
   change EndsI _ _ _ _ _ _
   refine so [] [] [(4, cI (-1))] [] id ?_
   cases H
   exact er
  | inr y27 =>
   replace H := ofInr H
   rintro e s ⟨rfl, rfl⟩
   cases H
   exact qr
def g_ContainsFunc_int_ir : S :=
 (sq [o 4 (.mv bF)]
 (sq [om 5 0, om 6 1, o 7 (.call 173 [.t 5, .t 6]), o 8 (.bin .geq (.t 7) (iv 0)), om 4 8]
 .ret))
noncomputable def X.g_ContainsFunc_int (p0 : (List Int)) (f1 : Int → Option Bool) : Option Bool :=
 ((X.g_IndexFunc_int p0 f1).bind fun v1 => some (decide (v1 ≥ 0)))
theorem g_ContainsFunc_int_c0_ok (p0 : (List Int)) (cf1 : FuncId) (f1 : Int → Option Bool) (hf1 : ∀ q0 r, f1 q0 = some r → FK cf1 [cI q0] (cB r)) (r : Bool) (H : X.g_ContainsFunc_int p0 f1 = some r) : FK 136 [.c (dat 1 eI zI p0), .c (.clo cf1 [])] (cB r) := by
 unfold X.g_ContainsFunc_int at H
 refine fi Tryz.f136 g_ContainsFunc_int_ir [(4, cB r)] [] glL Tryz.func136 ?_
 refine sn [] [] [] [] [] id ?_
 obtain ⟨v1, h2, H⟩ := oB H
 refine so [.res (cI v1)] [] [(4, cB (decide (v1 ≥ 0)))] [] (aI (g_IndexFunc_int_c0_ok p0 (cf1) f1 hf1 v1 h2)) ?_
 cases H
 exact er
def i_isName_ir : S :=
 (sq [o 2 (.mv bF)]
 (.seq (sq [o 3 (.mv (iv 0))]
 (.blk 0 (.loop (.seq (sq [om 4 3, om 5 0, o 6 (.lens (.t 5)), o 7 (.bin .lss (.t 4) (.t 6))]
   (.ite (.t 7) .skip
   (.exit 0)))
   (.seq (.blk 1 (sq [om 10 0, om 11 3, o 12 (.ixs (.t 10) (.t 11)), o 13 (.bin .lss (.t 12) (.v (.int .u8 97))), om 14 13, og 15 (.mv (.t 0)) 14, og 16 (.mv (.t 3)) 14, og 17 (.ixs (.t 15) (.t 16)) 14, og 18 (.bin .gtr (.t 17) (.v (.int .u8 122))) 14, o 19 (.pick (.t 14) bT (.t 18))]
    (.ite (.t 19) (sq [o 2 (.mv bF)]
     .ret)
    .skip)))
   (.ops [om 8 3, o 9 (.bin .add (.t 8) (iv 1)), om 3 9]))))))
 (sq [om 20 0, o 21 (.lens (.t 20)), o 22 (.call 69 [.t 21, .v (.int .i64 1), .v (.int .i64 8)]), om 2 22]
 .ret)))
noncomputable def X.i_isName (p0 : (List UInt8)) : Option Bool :=
 ((loop (fun (x14 : Int) => ((bif (decide (x14 < (p0.length : Int))) then (if 0 ≤ x14 ∧ x14 < (p0.length : Int) then (bif (decide ((((p0.getD x14.toNat 0).toNat : Nat) : Int) < 97)) then some (Sum.inr (Sum.inr false)) else (if 0 ≤ x14 ∧ x14 < (p0.length : Int) then (bif (decide ((((p0.getD x14.toNat 0).toNat : Nat) : Int) > 122)) then some (Sum.inr (Sum.inr false)) else some (Sum.inl (W (x14 + 1)))) else none)) else none) else some (Sum.inr (Sum.inl ()))) : Option (Int ⊕ (Unit ⊕ Bool)))) 0).bind fun y21 => (Sum.elim (fun (y23 : Unit) => ((X.i_inRange (p0.length : Int) 1 8).bind fun v25 => some v25)) (fun (y24 : Bool) => some y24) y21))
theorem i_isName_ok (p0 : (List UInt8)) (r : Bool) (H : X.i_isName p0 = some r) : FK 187 [.c (.str p0)] (cB r) := by
 unfold X.i_isName at H
 refine fi Tryz.f187 i_isName_ir [(2, cB r)] [] glL Tryz.func187 ?_
 refine sn [] [] [] [] [] id ?_
 refine seq_in ?_
 refine sn [] [] [(3, cI 0)] [] [] id ?_
 refine ends_blk ?_
 obtain ⟨y21, h22, H⟩ := oB H
 refine tl [] [(0, .c (.str p0)), (3, cI 0)] [] id ?_
 refine loop_in (fun (x : Int) => lit [(0, .c (.str p0)), (3, cI x)] []) (orJ (fun (z : Unit) => At (.exit 0) (lit [(0, .c (.str p0))] [])) (fun (z : Bool) => At .ret (lit [(2, cB z)] []))) h22 ?_ ?_
 ·clear H h22
  intro x14 y0 H
  refine seq_in ?_
  refine sn [] [] [(7, cB (decide (x14 < (p0.length : Int))))] [] [] id ?_
  rcases oC H with ⟨c16, H⟩ | ⟨c16, H⟩
  ·refine it c16 ?_
   refine sk ?_
   refine seq_in ?_
   refine ends_blk ?_
   obtain ⟨g17, H⟩ := oI H
   rcases oC H with ⟨c18, H⟩ | ⟨c18, H⟩
   ·refine sn (rg 5 true []) [] [(19, cB true)] [] [] (fun t => aI g17 (aG 5 c18 (t))) ?_
    refine it rT ?_
    refine so [] [] [(2, cB false)] [] id ?_
    refine ends_ret ?_
    cases H
    exact rsr
   ·obtain ⟨g19, H⟩ := oI H
    refine sn (rg 5 false []) [] [(19, cB (decide ((((p0.getD x14.toNat 0).toNat : Nat) : Int) > 122)))] [] [] (fun t => aI g17 (aG 3 c18 (aI g19 (aG 2 c18 (t))))) ?_
    rcases oC H with ⟨c20, H⟩ | ⟨c20, H⟩
    ·refine it c20 ?_
     refine so [] [] [(2, cB false)] [] id ?_
     refine ends_ret ?_
     cases H
     exact rsr
    ·refine jf c20 ?_
     refine sk ?_
     refine oo [] [] [(0, .c (.str p0)), (3, cI (W (x14 + 1)))] [] id ?_
     cases H
     exact rr
  ·refine jf c16 ?_
   refine tl [] [(0, .c (.str p0))] [] id ?_
   refine ends_exit ?_
   cases H
   exact rse
 ·clear h22
  cases y21 with
  | inl y23 =>
   replace H := ofInl H
   rintro e s ⟨rfl, rfl⟩
   change EndsI _ _ _ _ _ _
   obtain ⟨v25, h26, H⟩ := oB H
   refine so [.res (cB v25)] [] [(2, cB v25)] [] (aI (i_inRange_ok (p0.length : Int) 1 8 v25 h26)) ?_
   cases H
   exact er
  | inr y24 =>
   replace H := ofInr H
   rintro e s ⟨rfl, rfl⟩
   cases H
   exact qr
def i_goodTerrain_1_ir : S :=
 (sq [o 2 (.mv bF)]
 (sq [om 3 0, o 4 (.call 69 [.t 3, .v (.int .i64 0), .v (.int .i64 9)]), o 5 (.not (.t 4)), om 2 5]
 .ret))
noncomputable def X.i_goodTerrain_1 (p0 : Int) : Option Bool :=
 ((X.i_inRange p0 0 9).bind fun v1 => some (!v1))
theorem i_goodTerrain_1_ok (p0 : Int) (r : Bool) (H : X.i_goodTerrain_1 p0 = some r) : FK 188 [cI p0] (cB r) := by
 unfold X.i_goodTerrain_1 at H
 refine fi Tryz.f188 i_goodTerrain_1_ir [(2, cB r)] [] glL Tryz.func188 ?_
 refine sn [] [] [] [] [] id ?_
 obtain ⟨v1, h2, H⟩ := oB H
 refine so [.res (cB v1)] [] [(2, cB (!v1))] [] (aI (i_inRange_ok p0 0 9 v1 h2)) ?_
 cases H
 exact er
def i_goodTerrain_ir : S :=
 (sq [o 2 (.box 5 (.t 0)), o 4 (.mv bF)]
 (.seq (sq [oa 5 0 2, ol 6 5, o 7 (.call 187 [.t 6]), o 8 (.not (.t 7)), om 9 8, og 10 (.fad 1 (.t 2)) 9, og 11 (.load 1 false (.t 10)) 9, og 12 (.len (.t 11)) 9, og 13 (.mv (.t 1)) 9, og 14 (.bin .neq (.t 12) (.t 13)) 9, o 15 (.pick (.t 9) bT (.t 14)), om 16 15, og 17 (.fad 2 (.t 2)) 16, og 18 (.load 1 false (.t 17)) 16, og 19 (.call 69 [.t 18, .v (.int .i64 (-3)), .v (.int .i64 3)]) 16, og 20 (.not (.t 19)) 16, o 21 (.pick (.t 16) bT (.t 20)), om 22 21, og 23 (.fad 3 (.t 2)) 22, og 24 (.load 1 false (.t 23)) 22, og 25 (.call 69 [.t 24, .v (.int .i64 0), .v (.int .i64 3)]) 22, og 26 (.not (.t 25)) 22, o 27 (.pick (.t 22) bT (.t 26))]
 (.ite (.t 27) (sq [o 4 (.mv bF)]
  .ret)
 .skip))
 (sq [oa 28 1 2, ol 29 28, o 30 (.call 136 [.t 29, .f 188]), o 31 (.not (.t 30)), om 4 31]
 .ret)))
noncomputable def X.i_goodTerrain (p0 : TTerrain) (p1 : Int) : Option Bool :=
 ((X.i_isName p0.Name).bind fun v1 => (bif (!v1) then some false else (bif ((p0.Cost.length : Int) != p1) then some false else ((X.i_inRange p0.Shift (-3) 3).bind fun v5 => (bif (!v5) then some false else ((X.i_inRange p0.Height 0 3).bind fun v8 => (bif (!v8) then some false else ((X.g_ContainsFunc_int p0.Cost (fun q0 => X.i_goodTerrain_1 q0)).bind fun v11 => some (!v11)))))))))
theorem i_goodTerrain_ok (p0 : TTerrain) (p1 : Int) (r : Bool) (H : X.i_goodTerrain p0 p1 = some r) : FK 167 [.agg (eTTerrain p0), cI p1] (cB r) := by
 unfold X.i_goodTerrain at H
 refine fi Tryz.f167 i_goodTerrain_ir [(4, cB r)] [] glL Tryz.func167 ?_
 refine sn [] [] [(2, pk 2)] [] [(2, va (eTTerrain p0))] id ?_
 refine seq_in ?_
 obtain ⟨v1, h2, H⟩ := oB H
 rcases oC H with ⟨c3, H⟩ | ⟨c3, H⟩
 ·refine sn ([.res (cB v1)] ++ rg 16 true []) [] [(27, cB true)] [] [] (fun t => aI (i_isName_ok p0.Name v1 h2) (aG 6 c3 (aG 10 rT (t)))) ?_
  refine it rT ?_
  refine so [] [] [(4, cB false)] [] id ?_
  cases H
  exact er
 ·rcases oC H with ⟨c4, H⟩ | ⟨c4, H⟩
  ·refine sn ([.res (cB v1)] ++ rg 6 false (rg 10 true [])) [] [(27, cB true)] [] [] (fun t => aI (i_isName_ok p0.Name v1 h2) (aG 3 c3 (lI p0.Cost (aG 3 c3 (aG 5 c4 (aG 5 rT (t))))))) ?_
   refine it rT ?_
   refine so [] [] [(4, cB false)] [] id ?_
   cases H
   exact er
  ·obtain ⟨v5, h6, H⟩ := oB H
   rcases oC H with ⟨c7, H⟩ | ⟨c7, H⟩
   ·refine sn ([.res (cB v1)] ++ rg 9 false ([.res (cB v5)] ++ rg 2 false (rg 5 true []))) [] [(27, cB true)] [] [] (fun t => aI (i_isName_ok p0.Name v1 h2) (aG 3 c3 (lI p0.Cost (aG 3 c3 (aG 3 c4 (aI (i_inRange_ok p0.Shift (-3) 3 v5 h6) (aG 2 c4 (aG 5 c7 (t))))))))) ?_
    refine it rT ?_
    refine so [] [] [(4, cB false)] [] id ?_
    cases H
    exact er
   ·obtain ⟨v8, h9, H⟩ := oB H
    refine sn ([.res (cB v1)] ++ rg 9 false ([.res (cB v5)] ++ rg 5 false ([.res (cB v8)] ++ rg 2 false []))) [] [(27, cB (!v8))] [] [] (fun t => aI (i_isName_ok p0.Name v1 h2) (aG 3 c3 (lI p0.Cost (aG 3 c3 (aG 3 c4 (aI (i_inRange_ok p0.Shift (-3) 3 v5 h6) (aG 2 c4 (aG 3 c7 (aI (i_inRange_ok p0.Height 0 3 v8 h9) (aG 2 c7 (t))))))))))) ?_
    rcases oC H with ⟨c10, H⟩ | ⟨c10, H⟩
    ·refine it c10 ?_
     refine so [] [] [(4, cB false)] [] id ?_
     cases H
     exact er
    ·refine jf c10 ?_
     refine sk ?_
     obtain ⟨v11, h12, H⟩ := oB H
     refine so [.res (cB v11)] [] [(4, cB (!v11))] [] (aI (g_ContainsFunc_int_c0_ok p0.Cost (188) (fun q0 => X.i_goodTerrain_1 q0) (fun q0 r h => i_goodTerrain_1_ok q0 r h) v11 h12)) ?_
     cases H
     exact er
def g_IndexFunc_Terrain_ir : S :=
 (sq [o 4 (.mv (iv 0))]
 (.seq (sq [om 6 0, o 7 (.len (.t 6)), o 8 (.mv (iv 0))]
 (.blk 0 (.loop (sq [o 9 (.bin .lss (.t 8) (.t 7))]
   (.seq (.ite (.t 9) .skip
   (.exit 0))
   (.seq (.blk 1 (sq [om 10 8, om 5 10]
    (sq [om 11 1, om 12 0, om 13 5, o 14 (.iad 5 (.t 12) (.t 13)), o 15 (.load 5 true (.t 14)), o 16 (.cald (.t 11) [.t 15])]
    (.ite (.t 16) (sq [om 17 5, om 4 17]
     .ret)
    .skip))))
   (.ops [o 18 (.bin .add (.t 8) (iv 1)), om 8 18])))))))
 (sq [o 4 (.mv (.v (.int .i64 (-1))))]
 .ret)))
noncomputable def X.g_IndexFunc_Terrain (p0 : (List TTerrain)) (f1 : TTerrain → Option Bool) : Option Int :=
 ((loop (fun (x16 : Int) => ((bif (decide (x16 < (p0.length : Int))) then ((at' zTTerrain p0 x16).bind fun v19 => ((f1 v19).bind fun v21 => (bif v21 then some (Sum.inr (Sum.inr x16)) else some (Sum.inl (W (x16 + 1)))))) else some (Sum.inr (Sum.inl ()))) : Option (Int ⊕ (Unit ⊕ Int)))) 0).bind fun y24 => (Sum.elim (fun (y26 : Unit) => some (-1)) (fun (y27 : Int) => some y27) y24))
theorem g_IndexFunc_Terrain_c1_ok (p0 : (List TTerrain)) (cf1 : FuncId) (cs1_0 : List AC) (f1 : TTerrain → Option Bool) (hf1 : ∀ q0 r, f1 q0 = some r → FK cf1 [.agg (eTTerrain q0), .c (.pd cs1_0 0)] (cB r)) (r : Int) (H : X.g_IndexFunc_Terrain p0 f1 = some r) : FK 189 [.c (dat 5 eTTerrain zTTerrain p0), .c (.clo cf1 [.pd cs1_0 0])] (cI r) := by
 unfold X.g_IndexFunc_Terrain at H
 refine fi Tryz.f189 g_IndexFunc_Terrain_ir [(4, cI r)] [] glL Tryz.func189 ?_
 refine sn [] [] [] [] [] id ?_
 refine seq_in ?_
 refine sn [] [] [(7, cL p0), (8, cI 0)] [] [] (fun t => lI p0 (t)) ?_
 refine ends_blk ?_
 obtain ⟨y24, h25, H⟩ := oB H
 refine tl [] [(0, dc 5 eTTerrain zTTerrain p0), (1, .c (.clo cf1 [.pd cs1_0 0])), (7, cL p0), (8, cI 0)] [] id ?_
 refine loop_in (fun (x : Int) => lit [(0, dc 5 eTTerrain zTTerrain p0), (1, .c (.clo cf1 [.pd cs1_0 0])), (7, cL p0), (8, cI x)] []) (orJ (fun (z : Unit) => At (.exit 0) (lit [] [])) (fun (z : Int) => At .ret (lit [(4, cI z)] []))) h25 ?_ ?_
 ·clear H h25
  intro x16 y0 H
  refine sn [] [] [(9, cB (decide (x16 < (p0.length : Int))))] [] [] id ?_
  refine seq_in ?_
  rcases oC H with ⟨c18, H⟩ | ⟨c18, H⟩
  ·refine it c18 ?_
   refine sk ?_
   refine seq_in ?_
   refine ends_blk ?_
   refine sn [] [] [(5, cI x16)] [] [] id ?_
   obtain ⟨v19, h20, H⟩ := oB H
   obtain ⟨v21, h22, H⟩ := oB H
   refine sn [.cs (eTTerrain v19), .res (cB v21)] [] [(16, cB v21)] [] [] (fun t => (a2 eTTerrain h20 (aI (hf1 v19 v21 h22) (t)))) ?_
   rcases oC H with ⟨c23, H⟩ | ⟨c23, H⟩
   ·refine it c23 ?_
    refine so [] [] [(4, cI x16)] [] id ?_
    refine ends_ret ?_
    cases H
    exact rsr
   ·refine jf c23 ?_
    refine sk ?_
    refine oo [] [] [(0, dc 5 eTTerrain zTTerrain p0), (1, .c (.clo cf1 [.pd cs1_0 0])), (7, cL p0), (8, cI (W (x16 + 1)))] [] id ?_
    cases H
    exact rr
  ·refine jf c18 ?_
   refine tl [] [] [] id ?_
   refine ends_exit ?_
   cases H
   exact rse
 ·clear h25
  cases y24 with
  | inl y26 =>
   replace H := ofInl H
   rintro e s ⟨rfl, rfl⟩
   change EndsI _ _ _ _ _ _
   refine so [] [] [(4, cI (-1))] [] id ?_
   cases H
   exact er
  | inr y27 =>
   replace H := ofInr H
   rintro e s ⟨rfl, rfl⟩
   cases H
   exact qr
def i_terrainIndex_1_ir : S :=
 (sq [o 2 (.box 5 (.t 0)), o 3 (.mv bF)]
 (sq [oa 4 0 2, ol 5 4, ol 6 1, o 7 (.bin .eql (.t 5) (.t 6)), om 3 7]
 .ret))
noncomputable def X.i_terrainIndex_1 (p0 : TTerrain) (p1 : (List UInt8)) : Option Bool :=
 some (p0.Name == p1)
theorem i_terrainIndex_1_ok (p0 : TTerrain) (p1 : (List UInt8)) (r : Bool) (H : X.i_terrainIndex_1 p0 p1 = some r) : FK 190 [.agg (eTTerrain p0), .c (.pd (eS p1) 0)] (cB r) := by
 unfold X.i_terrainIndex_1 at H
 refine fi Tryz.f190 i_terrainIndex_1_ir [(3, cB r)] [] glL Tryz.func190 ?_
 refine sn [] [] [(2, pk 2)] [] [(2, va (eTTerrain p0))] id ?_
 refine so [] [] [(3, cB (p0.Name == p1))] [] id ?_
 cases H
 exact er
def i_terrainIndex_ir : S :=
 (sq [o 3 (.box 1 (.t 1)), o 4 (.mv (iv 0))]
 (sq [om 5 0, o 6 (.clo 190 [.t 3]), o 7 (.call 189 [.t 5, .t 6]), om 4 7]
 .ret))
noncomputable def X.i_terrainIndex (p0 : (List TTerrain)) (p1 : (List UInt8)) : Option Int :=
 ((X.g_IndexFunc_Terrain p0 (fun q0 => X.i_terrainIndex_1 q0 p1)).bind fun v1 => some v1)
theorem i_terrainIndex_ok (p0 : (List TTerrain)) (p1 : (List UInt8)) (r : Int) (H : X.i_terrainIndex p0 p1 = some r) : FK 168 [.c (dat 5 eTTerrain zTTerrain p0), .c (.str p1)] (cI r) := by
 unfold X.i_terrainIndex at H
 refine fi Tryz.f168 i_terrainIndex_ir [(4, cI r)] [] glL Tryz.func168 ?_
 refine sn [] [] [(3, pk 3)] [] [(3, .var [.str p1] false)] id ?_
 obtain ⟨v1, h2, H⟩ := oB H
 refine so [.res (cI v1)] [] [(4, cI v1)] [] (aI (g_IndexFunc_Terrain_c1_ok p0 (190) (eS p1) (fun q0 => X.i_terrainIndex_1 q0 p1) (fun q0 r h => i_terrainIndex_1_ok q0 p1 r h) v1 h2)) ?_
 cases H
 exact er
def i_goodKind_ir : S :=
 (sq [o 1 (.box 6 (.t 0)), o 2 (.mv bF)]
 (sq [oa 3 0 1, ol 4 3, o 5 (.call 187 [.t 4]), om 6 5, oh 7 (.fad 1 (.t 1)) 6, oh 8 (.load 1 false (.t 7)) 6, oh 9 (.call 69 [.t 8, .v (.int .i64 1), .v (.int .i64 9)]) 6, o 10 (.pick (.t 6) (.t 9) bF), om 11 10, oh 12 (.fad 2 (.t 1)) 11, oh 13 (.load 1 false (.t 12)) 11, oh 14 (.call 69 [.t 13, .v (.int .i64 0), .v (.int .i64 9)]) 11, o 15 (.pick (.t 11) (.t 14) bF), om 16 15, oh 17 (.fad 3 (.t 1)) 16, oh 18 (.load 1 false (.t 17)) 16, oh 19 (.call 69 [.t 18, .v (.int .i64 1), .v (.int .i64 4)]) 16, o 20 (.pick (.t 16) (.t 19) bF), om 21 20, oh 22 (.fad 5 (.t 1)) 21, oh 23 (.load 1 false (.t 22)) 21, oh 24 (.call 69 [.t 23, .v (.int .i64 0), .v (.int .i64 4)]) 21, o 25 (.pick (.t 21) (.t 24) bF), om 2 25]
 .ret))
noncomputable def X.i_goodKind (p0 : TKind) : Option Bool :=
 ((X.i_isName p0.Name).bind fun v1 => (bif v1 then ((X.i_inRange p0.Strength 1 9).bind fun v4 => (bif v4 then ((X.i_inRange p0.Moves 0 9).bind fun v7 => (bif v7 then ((X.i_inRange p0.Steps 1 4).bind fun v10 => (bif v10 then ((X.i_inRange p0.View 0 4).bind fun v13 => some v13) else some false)) else some false)) else some false)) else some false))
theorem i_goodKind_ok (p0 : TKind) (r : Bool) (H : X.i_goodKind p0 = some r) : FK 169 [.agg (eTKind p0)] (cB r) := by
 unfold X.i_goodKind at H
 refine fi Tryz.f169 i_goodKind_ir [(2, cB r)] [] glL Tryz.func169 ?_
 refine so [] [] [(1, pk 1)] [(1, va (eTKind p0))] id ?_
 obtain ⟨v1, h2, H⟩ := oB H
 rcases oC H with ⟨c3, H⟩ | ⟨c3, H⟩
 ·obtain ⟨v4, h5, H⟩ := oB H
  rcases oC H with ⟨c6, H⟩ | ⟨c6, H⟩
  ·obtain ⟨v7, h8, H⟩ := oB H
   rcases oC H with ⟨c9, H⟩ | ⟨c9, H⟩
   ·obtain ⟨v10, h11, H⟩ := oB H
    rcases oC H with ⟨c12, H⟩ | ⟨c12, H⟩
    ·obtain ⟨v13, h14, H⟩ := oB H
     refine so ([.res (cB v1)] ++ rg 3 true ([.res (cB v4)] ++ rg 4 true ([.res (cB v7)] ++ rg 4 true ([.res (cB v10)] ++ rg 4 true [.res (cB v13), .g true])))) [] [(2, cB v13)] [] (fun t => aI (i_isName_ok p0.Name v1 h2) (aG 3 c3 (aI (i_inRange_ok p0.Strength 1 9 v4 h5) (aI c3 (aG 3 c6 (aI (i_inRange_ok p0.Moves 0 9 v7 h8) (aI c6 (aG 3 c9 (aI (i_inRange_ok p0.Steps 1 4 v10 h11) (aI c9 (aG 3 c12 (aI (i_inRange_ok p0.View 0 4 v13 h14) (aI c12 (t)))))))))))))) ?_
     cases H
     exact er
    ·refine so ([.res (cB v1)] ++ rg 3 true ([.res (cB v4)] ++ rg 4 true ([.res (cB v7)] ++ rg 4 true ([.res (cB v10), .g true] ++ rg 4 false [])))) [] [(2, cB false)] [] (fun t => aI (i_isName_ok p0.Name v1 h2) (aG 3 c3 (aI (i_inRange_ok p0.Strength 1 9 v4 h5) (aI c3 (aG 3 c6 (aI (i_inRange_ok p0.Moves 0 9 v7 h8) (aI c6 (aG 3 c9 (aI (i_inRange_ok p0.Steps 1 4 v10 h11) (aI c9 (aG 4 c12 (t)))))))))))) ?_
     cases H
     exact er
   ·refine so ([.res (cB v1)] ++ rg 3 true ([.res (cB v4)] ++ rg 4 true ([.res (cB v7), .g true] ++ rg 8 false []))) [] [(2, cB false)] [] (fun t => aI (i_isName_ok p0.Name v1 h2) (aG 3 c3 (aI (i_inRange_ok p0.Strength 1 9 v4 h5) (aI c3 (aG 3 c6 (aI (i_inRange_ok p0.Moves 0 9 v7 h8) (aI c6 (aG 4 c9 (aG 4 rF (t)))))))))) ?_
    cases H
    exact er
  ·refine so ([.res (cB v1)] ++ rg 3 true ([.res (cB v4), .g true] ++ rg 12 false [])) [] [(2, cB false)] [] (fun t => aI (i_isName_ok p0.Name v1 h2) (aG 3 c3 (aI (i_inRange_ok p0.Strength 1 9 v4 h5) (aI c3 (aG 4 c6 (aG 8 rF (t))))))) ?_
   cases H
   exact er
 ·refine so ([.res (cB v1)] ++ rg 16 false []) [] [(2, cB false)] [] (fun t => aI (i_isName_ok p0.Name v1 h2) (aG 4 c3 (aG 12 rF (t)))) ?_
  cases H
  exact er
def g_IndexFunc_Kind_ir : S :=
 (sq [o 4 (.mv (iv 0))]
 (.seq (sq [om 6 0, o 7 (.len (.t 6)), o 8 (.mv (iv 0))]
 (.blk 0 (.loop (sq [o 9 (.bin .lss (.t 8) (.t 7))]
   (.seq (.ite (.t 9) .skip
   (.exit 0))
   (.seq (.blk 1 (sq [om 10 8, om 5 10]
    (sq [om 11 1, om 12 0, om 13 5, o 14 (.iad 6 (.t 12) (.t 13)), o 15 (.load 6 true (.t 14)), o 16 (.cald (.t 11) [.t 15])]
    (.ite (.t 16) (sq [om 17 5, om 4 17]
     .ret)
    .skip))))
   (.ops [o 18 (.bin .add (.t 8) (iv 1)), om 8 18])))))))
 (sq [o 4 (.mv (.v (.int .i64 (-1))))]
 .ret)))
noncomputable def X.g_IndexFunc_Kind (p0 : (List TKind)) (f1 : TKind → Option Bool) : Option Int :=
 ((loop (fun (x16 : Int) => ((bif (decide (x16 < (p0.length : Int))) then ((at' zTKind p0 x16).bind fun v19 => ((f1 v19).bind fun v21 => (bif v21 then some (Sum.inr (Sum.inr x16)) else some (Sum.inl (W (x16 + 1)))))) else some (Sum.inr (Sum.inl ()))) : Option (Int ⊕ (Unit ⊕ Int)))) 0).bind fun y24 => (Sum.elim (fun (y26 : Unit) => some (-1)) (fun (y27 : Int) => some y27) y24))
theorem g_IndexFunc_Kind_c1_ok (p0 : (List TKind)) (cf1 : FuncId) (cs1_0 : List AC) (f1 : TKind → Option Bool) (hf1 : ∀ q0 r, f1 q0 = some r → FK cf1 [.agg (eTKind q0), .c (.pd cs1_0 0)] (cB r)) (r : Int) (H : X.g_IndexFunc_Kind p0 f1 = some r) : FK 191 [.c (dat 6 eTKind zTKind p0), .c (.clo cf1 [.pd cs1_0 0])] (cI r) := by
 unfold X.g_IndexFunc_Kind at H
 refine fi Tryz.f191 g_IndexFunc_Kind_ir [(4, cI r)] [] glL Tryz.func191 ?_
 refine sn [] [] [] [] [] id ?_
 refine seq_in ?_
 refine sn [] [] [(7, cL p0), (8, cI 0)] [] [] (fun t => lI p0 (t)) ?_
 refine ends_blk ?_
 obtain ⟨y24, h25, H⟩ := oB H
 refine tl [] [(0, dc 6 eTKind zTKind p0), (1, .c (.clo cf1 [.pd cs1_0 0])), (7, cL p0), (8, cI 0)] [] id ?_
 refine loop_in (fun (x : Int) => lit [(0, dc 6 eTKind zTKind p0), (1, .c (.clo cf1 [.pd cs1_0 0])), (7, cL p0), (8, cI x)] []) (orJ (fun (z : Unit) => At (.exit 0) (lit [] [])) (fun (z : Int) => At .ret (lit [(4, cI z)] []))) h25 ?_ ?_
 ·clear H h25
  intro x16 y0 H
  refine sn [] [] [(9, cB (decide (x16 < (p0.length : Int))))] [] [] id ?_
  refine seq_in ?_
  rcases oC H with ⟨c18, H⟩ | ⟨c18, H⟩
  ·refine it c18 ?_
   refine sk ?_
   refine seq_in ?_
   refine ends_blk ?_
   refine sn [] [] [(5, cI x16)] [] [] id ?_
   obtain ⟨v19, h20, H⟩ := oB H
   obtain ⟨v21, h22, H⟩ := oB H
   refine sn [.cs (eTKind v19), .res (cB v21)] [] [(16, cB v21)] [] [] (fun t => (a2 eTKind h20 (aI (hf1 v19 v21 h22) (t)))) ?_
   rcases oC H with ⟨c23, H⟩ | ⟨c23, H⟩
   ·refine it c23 ?_
    refine so [] [] [(4, cI x16)] [] id ?_
    refine ends_ret ?_
    cases H
    exact rsr
   ·refine jf c23 ?_
    refine sk ?_
    refine oo [] [] [(0, dc 6 eTKind zTKind p0), (1, .c (.clo cf1 [.pd cs1_0 0])), (7, cL p0), (8, cI (W (x16 + 1)))] [] id ?_
    cases H
    exact rr
  ·refine jf c18 ?_
   refine tl [] [] [] id ?_
   refine ends_exit ?_
   cases H
   exact rse
 ·clear h25
  cases y24 with
  | inl y26 =>
   replace H := ofInl H
   rintro e s ⟨rfl, rfl⟩
   change EndsI _ _ _ _ _ _
   refine so [] [] [(4, cI (-1))] [] id ?_
   cases H
   exact er
  | inr y27 =>
   replace H := ofInr H
   rintro e s ⟨rfl, rfl⟩
   cases H
   exact qr
def i_kindIndex_1_ir : S :=
 (sq [o 2 (.box 6 (.t 0)), o 3 (.mv bF)]
 (sq [oa 4 0 2, ol 5 4, ol 6 1, o 7 (.bin .eql (.t 5) (.t 6)), om 3 7]
 .ret))
noncomputable def X.i_kindIndex_1 (p0 : TKind) (p1 : (List UInt8)) : Option Bool :=
 some (p0.Name == p1)
theorem i_kindIndex_1_ok (p0 : TKind) (p1 : (List UInt8)) (r : Bool) (H : X.i_kindIndex_1 p0 p1 = some r) : FK 192 [.agg (eTKind p0), .c (.pd (eS p1) 0)] (cB r) := by
 unfold X.i_kindIndex_1 at H
 refine fi Tryz.f192 i_kindIndex_1_ir [(3, cB r)] [] glL Tryz.func192 ?_
 refine sn [] [] [(2, pk 2)] [] [(2, va (eTKind p0))] id ?_
 refine so [] [] [(3, cB (p0.Name == p1))] [] id ?_
 cases H
 exact er
def i_kindIndex_ir : S :=
 (sq [o 3 (.box 1 (.t 1)), o 4 (.mv (iv 0))]
 (sq [om 5 0, o 6 (.clo 192 [.t 3]), o 7 (.call 191 [.t 5, .t 6]), om 4 7]
 .ret))
noncomputable def X.i_kindIndex (p0 : (List TKind)) (p1 : (List UInt8)) : Option Int :=
 ((X.g_IndexFunc_Kind p0 (fun q0 => X.i_kindIndex_1 q0 p1)).bind fun v1 => some v1)
theorem i_kindIndex_ok (p0 : (List TKind)) (p1 : (List UInt8)) (r : Int) (H : X.i_kindIndex p0 p1 = some r) : FK 170 [.c (dat 6 eTKind zTKind p0), .c (.str p1)] (cI r) := by
 unfold X.i_kindIndex at H
 refine fi Tryz.f170 i_kindIndex_ir [(4, cI r)] [] glL Tryz.func170 ?_
 refine sn [] [] [(3, pk 3)] [] [(3, .var [.str p1] false)] id ?_
 obtain ⟨v1, h2, H⟩ := oB H
 refine so [.res (cI v1)] [] [(4, cI v1)] [] (aI (g_IndexFunc_Kind_c1_ok p0 (192) (eS p1) (fun q0 => X.i_kindIndex_1 q0 p1) (fun q0 r h => i_kindIndex_1_ok q0 p1 r h) v1 h2)) ?_
 cases H
 exact er
def i_IsRules_ir : S :=
 (sq [o 1 (.box 7 (.t 0)), o 2 (.mv bF)]
 (.seq (sq [oa 7 0 1, ol 8 7, o 9 (.len (.t 8)), o 10 (.call 69 [.t 9, .v (.int .i64 1), .v (.int .i64 6)]), o 11 (.not (.t 10)), om 12 11, og 13 (.fad 1 (.t 1)) 12, og 14 (.load 1 false (.t 13)) 12, og 15 (.len (.t 14)) 12, og 16 (.call 69 [.t 15, .v (.int .i64 1), .v (.int .i64 4)]) 12, og 17 (.not (.t 16)) 12, o 18 (.pick (.t 12) bT (.t 17))]
 (.ite (.t 18) (sq [o 2 (.mv bF)]
  .ret)
 .skip))
 (.seq (sq [oa 19 0 1, ol 20 19, o 21 (.len (.t 20)), o 22 (.mv (iv 0))]
 (.blk 0 (.loop (sq [o 23 (.bin .lss (.t 22) (.t 21))]
   (.seq (.ite (.t 23) .skip
   (.exit 0))
   (.seq (.blk 1 (sq [om 24 22, o 25 (.iad 5 (.t 20) (.t 22)), o 26 (.load 5 true (.t 25)), o 4 (.alloc [.str [], .nil, .int .i64 0, .int .i64 0, .bool false]), om 3 24, os 5 4 26]
    (sq [o 27 (.load 5 true (.t 4)), oa 28 1 1, ol 29 28, o 30 (.len (.t 29)), o 31 (.call 167 [.t 27, .t 30]), o 32 (.not (.t 31)), om 33 32, og 34 (.fad 0 (.t 1)) 33, og 35 (.load 1 false (.t 34)) 33, og 36 (.fad 0 (.t 4)) 33, og 37 (.load 1 false (.t 36)) 33, og 38 (.call 168 [.t 35, .t 37]) 33, og 39 (.mv (.t 3)) 33, og 40 (.bin .neq (.t 38) (.t 39)) 33, o 41 (.pick (.t 33) bT (.t 40))]
    (.ite (.t 41) (sq [o 2 (.mv bF)]
     .ret)
    .skip))))
   (.ops [o 42 (.bin .add (.t 22) (iv 1)), om 22 42])))))))
 (.seq (sq [oa 43 1 1, ol 44 43, o 45 (.len (.t 44)), o 46 (.mv (iv 0))]
 (.blk 2 (.loop (sq [o 47 (.bin .lss (.t 46) (.t 45))]
   (.seq (.ite (.t 47) .skip
   (.exit 2))
   (.seq (.blk 3 (sq [om 48 46, o 49 (.iad 6 (.t 44) (.t 46)), o 50 (.load 6 true (.t 49)), o 6 (.alloc [.str [], .int .i64 0, .int .i64 0, .int .i64 0, .bool false, .int .i64 0]), om 5 48, os 6 6 50]
    (sq [o 51 (.load 6 true (.t 6)), o 52 (.call 169 [.t 51]), o 53 (.not (.t 52)), om 54 53, og 55 (.fad 1 (.t 1)) 54, og 56 (.load 1 false (.t 55)) 54, og 57 (.fad 0 (.t 6)) 54, og 58 (.load 1 false (.t 57)) 54, og 59 (.call 170 [.t 56, .t 58]) 54, og 60 (.mv (.t 5)) 54, og 61 (.bin .neq (.t 59) (.t 60)) 54, o 62 (.pick (.t 54) bT (.t 61))]
    (.ite (.t 62) (sq [o 2 (.mv bF)]
     .ret)
    .skip))))
   (.ops [o 63 (.bin .add (.t 46) (iv 1)), om 46 63])))))))
 (sq [oa 64 2 1, ol 65 64, o 66 (.call 69 [.t 65, .v (.int .i64 1), .v (.int .i64 4)]), om 67 66, oh 68 (.fad 3 (.t 1)) 67, oh 69 (.load 1 false (.t 68)) 67, oh 70 (.call 69 [.t 69, .v (.int .i64 0), .v (.int .i64 9)]) 67, o 71 (.pick (.t 67) (.t 70) bF), om 72 71, oh 73 (.fad 4 (.t 1)) 72, oh 74 (.load 1 false (.t 73)) 72, oh 75 (.call 69 [.t 74, .v (.int .i64 1), .v (.int .i64 9)]) 72, o 76 (.pick (.t 72) (.t 75) bF), om 77 76, oh 78 (.fad 5 (.t 1)) 77, oh 79 (.load 1 false (.t 78)) 77, oh 80 (.call 69 [.t 79, .v (.int .i64 0), .v (.int .i64 20)]) 77, o 81 (.pick (.t 77) (.t 80) bF), om 82 81, oh 83 (.fad 6 (.t 1)) 82, oh 84 (.load 1 false (.t 83)) 82, oh 85 (.call 69 [.t 84, .v (.int .i64 1), .v (.int .i64 30)]) 82, o 86 (.pick (.t 82) (.t 85) bF), om 2 86]
 .ret)))))
noncomputable def X.i_IsRules (p0 : TRules) : Option Bool :=
 ((X.i_inRange (p0.Terrains.length : Int) 1 6).bind fun v7 => (bif (!v7) then some false else ((X.i_inRange (p0.Kinds.length : Int) 1 4).bind fun v10 => (bif (!v10) then some false else ((loop (fun (x70 : Int) => ((bif (decide (x70 < (p0.Terrains.length : Int))) then ((at' zTTerrain p0.Terrains x70).bind fun v73 => ((X.i_goodTerrain v73 (p0.Kinds.length : Int)).bind fun v75 => (bif (!v75) then some (Sum.inr (Sum.inr false)) else ((X.i_terrainIndex p0.Terrains v73.Name).bind fun v78 => (bif (v78 != x70) then some (Sum.inr (Sum.inr false)) else some (Sum.inl (W (x70 + 1)))))))) else some (Sum.inr (Sum.inl ()))) : Option (Int ⊕ (Unit ⊕ Bool)))) 0).bind fun y81 => (Sum.elim (fun (y83 : Unit) => ((loop (fun (x142 : Int) => ((bif (decide (x142 < (p0.Kinds.length : Int))) then ((at' zTKind p0.Kinds x142).bind fun v145 => ((X.i_goodKind v145).bind fun v147 => (bif (!v147) then some (Sum.inr (Sum.inr false)) else ((X.i_kindIndex p0.Kinds v145.Name).bind fun v150 => (bif (v150 != x142) then some (Sum.inr (Sum.inr false)) else some (Sum.inl (W (x142 + 1)))))))) else some (Sum.inr (Sum.inl ()))) : Option (Int ⊕ (Unit ⊕ Bool)))) 0).bind fun y153 => (Sum.elim (fun (y155 : Unit) => ((X.i_inRange p0.Stack 1 4).bind fun v157 => (bif v157 then ((X.i_inRange p0.River 0 9).bind fun v160 => (bif v160 then ((X.i_inRange p0.Road 1 9).bind fun v163 => (bif v163 then ((X.i_inRange p0.Supply 0 20).bind fun v166 => (bif v166 then ((X.i_inRange p0.Turns 1 30).bind fun v169 => some v169) else some false)) else some false)) else some false)) else some false))) (fun (y156 : Bool) => some y156) y153))) (fun (y84 : Bool) => some y84) y81))))))
theorem i_IsRules_ok (p0 : TRules) (r : Bool) (H : X.i_IsRules p0 = some r) : FK 134 [.agg (eTRules p0)] (cB r) := by
 unfold X.i_IsRules at H
 refine fi Tryz.f134 i_IsRules_ir [(2, cB r)] [] glL Tryz.func134 ?_
 refine so [] [] [(1, pk 1)] [(1, va (eTRules p0))] id ?_
 refine seq_in ?_
 obtain ⟨v7, h8, H⟩ := oB H
 rcases oC H with ⟨c9, H⟩ | ⟨c9, H⟩
 ·refine sn ([.res (cB v7)] ++ rg 6 true []) [] [(18, cB true)] [] [] (fun t => lI p0.Terrains (aI (i_inRange_ok (p0.Terrains.length : Int) 1 6 v7 h8) (aG 6 c9 (t)))) ?_
  refine it rT ?_
  refine so [] [] [(2, cB false)] [] id ?_
  cases H
  exact er
 ·obtain ⟨v10, h11, H⟩ := oB H
  refine sn ([.res (cB v7)] ++ rg 4 false ([.res (cB v10)] ++ rg 2 false [])) [] [(18, cB (!v10))] [] [] (fun t => lI p0.Terrains (aI (i_inRange_ok (p0.Terrains.length : Int) 1 6 v7 h8) (aG 3 c9 (lI p0.Kinds (aI c9 (aI (i_inRange_ok (p0.Kinds.length : Int) 1 4 v10 h11) (aG 2 c9 (t)))))))) ?_
  rcases oC H with ⟨c12, H⟩ | ⟨c12, H⟩
  ·refine it c12 ?_
   refine so [] [] [(2, cB false)] [] id ?_
   cases H
   exact er
  ·refine jf c12 ?_
   refine sk ?_
   refine seq_in ?_
   refine sn [] [] [(20, dc 5 eTTerrain zTTerrain p0.Terrains), (21, cL p0.Terrains), (22, cI 0)] [] [] (fun t => lI p0.Terrains (t)) ?_
   refine ends_blk ?_
   obtain ⟨y81, h82, H⟩ := oB H
   refine tl [] [(1, pk 1), (20, dc 5 eTTerrain zTTerrain p0.Terrains), (21, cL p0.Terrains), (22, cI 0)] [(1, va (eTRules p0))] id ?_
   refine loop_in (fun (x : Int) => lit [(1, pk 1), (20, dc 5 eTTerrain zTTerrain p0.Terrains), (21, cL p0.Terrains), (22, cI x)] [(1, va (eTRules p0))]) (orJ (fun (z : Unit) => At (.exit 0) (lit [(1, pk 1)] [(1, va (eTRules p0))])) (fun (z : Bool) => At .ret (lit [(2, cB z)] []))) h82 ?_ ?_
   ·clear H h82
    intro x70 y0 H
    refine sn [] [] [(23, cB (decide (x70 < (p0.Terrains.length : Int))))] [] [] id ?_
    refine seq_in ?_
    rcases oC H with ⟨c72, H⟩ | ⟨c72, H⟩
    ·refine it c72 ?_
     refine sk ?_
     refine seq_in ?_
     refine ends_blk ?_
     obtain ⟨v73, h74, H⟩ := oB H
     refine sn [.cs (eTTerrain v73)] [] [(3, cI x70), (4, pk 4)] [] [(4, va (eTTerrain v73))] (a2 eTTerrain h74) ?_
     obtain ⟨v75, h76, H⟩ := oB H
     rcases oC H with ⟨c77, H⟩ | ⟨c77, H⟩
     ·refine sn ([.res (cB v75)] ++ rg 8 true []) [] [(41, cB true)] [] [] (fun t => lI p0.Kinds (aI (i_goodTerrain_ok v73 (p0.Kinds.length : Int) v75 h76) (aG 8 c77 (t)))) ?_
      refine it rT ?_
      refine so [] [] [(2, cB false)] [] id ?_
      refine ends_ret ?_
      cases H
      exact rsr
     ·obtain ⟨v78, h79, H⟩ := oB H
      refine sn ([.res (cB v75)] ++ rg 5 false ([.res (cI v78)] ++ rg 3 false [])) [] [(41, cB (v78 != x70))] [] [] (fun t => lI p0.Kinds (aI (i_goodTerrain_ok v73 (p0.Kinds.length : Int) v75 h76) (aG 5 c77 (aI (i_terrainIndex_ok p0.Terrains v73.Name v78 h79) (aG 3 c77 (t)))))) ?_
      rcases oC H with ⟨c80, H⟩ | ⟨c80, H⟩
      ·refine it c80 ?_
       refine so [] [] [(2, cB false)] [] id ?_
       refine ends_ret ?_
       cases H
       exact rsr
      ·refine jf c80 ?_
       refine sk ?_
       refine oo [] [] [(1, pk 1), (20, dc 5 eTTerrain zTTerrain p0.Terrains), (21, cL p0.Terrains), (22, cI (W (x70 + 1)))] [(1, va (eTRules p0))] id ?_
       cases H
       exact rr
    ·refine jf c72 ?_
     refine tl [] [(1, pk 1)] [(1, va (eTRules p0))] id ?_
     refine ends_exit ?_
     cases H
     exact rse
   ·clear h82
    cases y81 with
    | inl y83 =>
     replace H := ofInl H
     rintro e s ⟨rfl, rfl⟩
     change EndsI _ _ _ _ _ _
     refine seq_in ?_
     refine sn [] [] [(44, dc 6 eTKind zTKind p0.Kinds), (45, cL p0.Kinds), (46, cI 0)] [] [] (fun t => lI p0.Kinds (t)) ?_
     refine ends_blk ?_
     obtain ⟨y153, h154, H⟩ := oB H
     refine tl [] [(1, pk 1), (44, dc 6 eTKind zTKind p0.Kinds), (45, cL p0.Kinds), (46, cI 0)] [(1, va (eTRules p0))] id ?_
     refine loop_in (fun (x : Int) => lit [(1, pk 1), (44, dc 6 eTKind zTKind p0.Kinds), (45, cL p0.Kinds), (46, cI x)] [(1, va (eTRules p0))]) (orJ (fun (z : Unit) => At (.exit 2) (lit [(1, pk 1)] [(1, va (eTRules p0))])) (fun (z : Bool) => At .ret (lit [(2, cB z)] []))) h154 ?_ ?_
     ·clear H h154
      intro x142 y0 H
      refine sn [] [] [(47, cB (decide (x142 < (p0.Kinds.length : Int))))] [] [] id ?_
      refine seq_in ?_
      rcases oC H with ⟨c144, H⟩ | ⟨c144, H⟩
      ·refine it c144 ?_
       refine sk ?_
       refine seq_in ?_
       refine ends_blk ?_
       obtain ⟨v145, h146, H⟩ := oB H
       refine sn [.cs (eTKind v145)] [] [(5, cI x142), (6, pk 6)] [] [(6, va (eTKind v145))] (a2 eTKind h146) ?_
       obtain ⟨v147, h148, H⟩ := oB H
       rcases oC H with ⟨c149, H⟩ | ⟨c149, H⟩
       ·refine sn ([.res (cB v147)] ++ rg 8 true []) [] [(62, cB true)] [] [] (fun t => aI (i_goodKind_ok v145 v147 h148) (aG 8 c149 (t))) ?_
        refine it rT ?_
        refine so [] [] [(2, cB false)] [] id ?_
        refine ends_ret ?_
        cases H
        exact rsr
       ·obtain ⟨v150, h151, H⟩ := oB H
        refine sn ([.res (cB v147)] ++ rg 5 false ([.res (cI v150)] ++ rg 3 false [])) [] [(62, cB (v150 != x142))] [] [] (fun t => aI (i_goodKind_ok v145 v147 h148) (aG 5 c149 (aI (i_kindIndex_ok p0.Kinds v145.Name v150 h151) (aG 3 c149 (t))))) ?_
        rcases oC H with ⟨c152, H⟩ | ⟨c152, H⟩
        ·refine it c152 ?_
         refine so [] [] [(2, cB false)] [] id ?_
         refine ends_ret ?_
         cases H
         exact rsr
        ·refine jf c152 ?_
         refine sk ?_
         refine oo [] [] [(1, pk 1), (44, dc 6 eTKind zTKind p0.Kinds), (45, cL p0.Kinds), (46, cI (W (x142 + 1)))] [(1, va (eTRules p0))] id ?_
         cases H
         exact rr
      ·refine jf c144 ?_
       refine tl [] [(1, pk 1)] [(1, va (eTRules p0))] id ?_
       refine ends_exit ?_
       cases H
       exact rse
     ·clear h154
      cases y153 with
      | inl y155 =>
       replace H := ofInl H
       rintro e s ⟨rfl, rfl⟩
       change EndsI _ _ _ _ _ _
       obtain ⟨v157, h158, H⟩ := oB H
       rcases oC H with ⟨c159, H⟩ | ⟨c159, H⟩
       ·obtain ⟨v160, h161, H⟩ := oB H
        rcases oC H with ⟨c162, H⟩ | ⟨c162, H⟩
        ·obtain ⟨v163, h164, H⟩ := oB H
         rcases oC H with ⟨c165, H⟩ | ⟨c165, H⟩
         ·obtain ⟨v166, h167, H⟩ := oB H
          rcases oC H with ⟨c168, H⟩ | ⟨c168, H⟩
          ·obtain ⟨v169, h170, H⟩ := oB H
           refine so ([.res (cB v157)] ++ rg 3 true ([.res (cB v160)] ++ rg 4 true ([.res (cB v163)] ++ rg 4 true ([.res (cB v166)] ++ rg 4 true [.res (cB v169), .g true])))) [] [(2, cB v169)] [] (fun t => aI (i_inRange_ok p0.Stack 1 4 v157 h158) (aG 3 c159 (aI (i_inRange_ok p0.River 0 9 v160 h161) (aI c159 (aG 3 c162 (aI (i_inRange_ok p0.Road 1 9 v163 h164) (aI c162 (aG 3 c165 (aI (i_inRange_ok p0.Supply 0 20 v166 h167) (aI c165 (aG 3 c168 (aI (i_inRange_ok p0.Turns 1 30 v169 h170) (aI c168 (t)))))))))))))) ?_
           cases H
           exact er
          ·refine so ([.res (cB v157)] ++ rg 3 true ([.res (cB v160)] ++ rg 4 true ([.res (cB v163)] ++ rg 4 true ([.res (cB v166), .g true] ++ rg 4 false [])))) [] [(2, cB false)] [] (fun t => aI (i_inRange_ok p0.Stack 1 4 v157 h158) (aG 3 c159 (aI (i_inRange_ok p0.River 0 9 v160 h161) (aI c159 (aG 3 c162 (aI (i_inRange_ok p0.Road 1 9 v163 h164) (aI c162 (aG 3 c165 (aI (i_inRange_ok p0.Supply 0 20 v166 h167) (aI c165 (aG 4 c168 (t)))))))))))) ?_
           cases H
           exact er
         ·refine so ([.res (cB v157)] ++ rg 3 true ([.res (cB v160)] ++ rg 4 true ([.res (cB v163), .g true] ++ rg 8 false []))) [] [(2, cB false)] [] (fun t => aI (i_inRange_ok p0.Stack 1 4 v157 h158) (aG 3 c159 (aI (i_inRange_ok p0.River 0 9 v160 h161) (aI c159 (aG 3 c162 (aI (i_inRange_ok p0.Road 1 9 v163 h164) (aI c162 (aG 4 c165 (aG 4 rF (t)))))))))) ?_
          cases H
          exact er
        ·refine so ([.res (cB v157)] ++ rg 3 true ([.res (cB v160), .g true] ++ rg 12 false [])) [] [(2, cB false)] [] (fun t => aI (i_inRange_ok p0.Stack 1 4 v157 h158) (aG 3 c159 (aI (i_inRange_ok p0.River 0 9 v160 h161) (aI c159 (aG 4 c162 (aG 8 rF (t))))))) ?_
         cases H
         exact er
       ·refine so ([.res (cB v157)] ++ rg 16 false []) [] [(2, cB false)] [] (fun t => aI (i_inRange_ok p0.Stack 1 4 v157 h158) (aG 4 c159 (aG 12 rF (t)))) ?_
        cases H
        exact er
      | inr y156 =>
       replace H := ofInr H
       rintro e s ⟨rfl, rfl⟩
       cases H
       exact qr
    | inr y84 =>
     replace H := ofInr H
     rintro e s ⟨rfl, rfl⟩
     cases H
     exact qr
def i_increasing_ir : S :=
 (sq [o 2 (.mv bF)]
 (.seq (sq [o 3 (.mv (iv 1))]
 (.blk 0 (.loop (.seq (sq [om 4 3, om 5 0, o 6 (.len (.t 5)), o 7 (.bin .lss (.t 4) (.t 6))]
   (.ite (.t 7) .skip
   (.exit 0)))
   (.seq (.blk 1 (.seq (.drw [(0, 1), (0, 2), (0, 5), (1, 5), (2, 5), (3, 5), (4, 5), (0, 6), (1, 6), (2, 6), (3, 6), (4, 6), (5, 6), (0, 7), (1, 7), (2, 7), (3, 7), (4, 7), (0, 8), (1, 8), (2, 8), (3, 8), (4, 8)] [om 10 0, om 11 3, o 12 (.bin .sub (.t 11) (iv 1)), o 13 (.iad 1 (.t 10) (.t 12)), ol 14 13, om 15 0, om 16 3, o 17 (.iad 1 (.t 15) (.t 16)), ol 18 17, o 19 (.bin .geq (.t 14) (.t 18))])
    (.ite (.t 19) (sq [o 2 (.mv bF)]
     .ret)
    .skip)))
   (.ops [om 8 3, o 9 (.bin .add (.t 8) (iv 1)), om 3 9]))))))
 (sq [o 2 (.mv bT)]
 .ret)))
noncomputable def X.i_increasing (p0 : (List Int)) : Option Bool :=
 ((loop (fun (x16 : Int) => ((bif (decide (x16 < (p0.length : Int))) then ((at' zI p0 (W (x16 - 1))).bind fun v19 => ((at' zI p0 x16).bind fun v21 => (bif (decide (v19 ≥ v21)) then some (Sum.inr (Sum.inr false)) else some (Sum.inl (W (x16 + 1)))))) else some (Sum.inr (Sum.inl ()))) : Option (Int ⊕ (Unit ⊕ Bool)))) 1).bind fun y24 => (Sum.elim (fun (y26 : Unit) => some true) (fun (y27 : Bool) => some y27) y24))
theorem i_increasing_ok (p0 : (List Int)) (r : Bool) (H : X.i_increasing p0 = some r) : FK 171 [.c (dat 1 eI zI p0)] (cB r) := by
 unfold X.i_increasing at H
 refine fi Tryz.f171 i_increasing_ir [(2, cB r)] [] glL Tryz.func171 ?_
 refine sn [] [] [] [] [] id ?_
 refine seq_in ?_
 refine sn [] [] [(3, cI 1)] [] [] id ?_
 refine ends_blk ?_
 obtain ⟨y24, h25, H⟩ := oB H
 refine tl [] [(0, dc 1 eI zI p0), (3, cI 1)] [] id ?_
 refine loop_in (fun (x : Int) => lit [(0, dc 1 eI zI p0), (3, cI x)] []) (orJ (fun (z : Unit) => At (.exit 0) (lit [] [])) (fun (z : Bool) => At .ret (lit [(2, cB z)] []))) h25 ?_ ?_
 ·clear H h25
  intro x16 y0 H
  refine seq_in ?_
  refine sn [] [] [(7, cB (decide (x16 < (p0.length : Int))))] [] [] (fun t => lI p0 (t)) ?_
  rcases oC H with ⟨c18, H⟩ | ⟨c18, H⟩
  ·refine it c18 ?_
   refine sk ?_
   refine seq_in ?_
   refine ends_blk ?_
   obtain ⟨v19, h20, H⟩ := oB H
   obtain ⟨v21, h22, H⟩ := oB H
   refine xn [.cs (eI v19), .cs (eI v21)] [] [(19, cB (decide (v19 ≥ v21)))] [] [] (fun t => (a2 eI h20 (aI rN ((a2 eI h22 (aI rN (t))))))) ?_
   rcases oC H with ⟨c23, H⟩ | ⟨c23, H⟩
   ·refine it c23 ?_
    refine so [] [] [(2, cB false)] [] id ?_
    refine ends_ret ?_
    cases H
    exact rsr
   ·refine jf c23 ?_
    refine sk ?_
    refine oo [] [] [(0, dc 1 eI zI p0), (3, cI (W (x16 + 1)))] [] id ?_
    cases H
    exact rr
  ·refine jf c18 ?_
   refine tl [] [] [] id ?_
   refine ends_exit ?_
   cases H
   exact rse
 ·clear h25
  cases y24 with
  | inl y26 =>
   replace H := ofInl H
   rintro e s ⟨rfl, rfl⟩
   change EndsI _ _ _ _ _ _
   refine so [] [] [(2, cB true)] [] id ?_
   cases H
   exact er
  | inr y27 =>
   replace H := ofInr H
   rintro e s ⟨rfl, rfl⟩
   cases H
   exact qr
def i_indexOf_ir : S :=
 (sq [o 2 (.box 5 (.t 0)), o 3 (.box 2 (.t 1)), o 4 (.mv (iv 0))]
 (.seq (sq [oa 5 0 3, ol 6 5, oa 7 0 2, ol 8 7, o 9 (.call 40 [.t 6, .t 8]), o 10 (.not (.t 9)), om 11 10, og 12 (.fad 1 (.t 3)) 11, og 13 (.load 1 false (.t 12)) 11, og 14 (.fad 1 (.t 2)) 11, og 15 (.load 1 false (.t 14)) 11, og 16 (.call 40 [.t 13, .t 15]) 11, og 17 (.not (.t 16)) 11, o 18 (.pick (.t 11) bT (.t 17))]
 (.ite (.t 18) (sq [o 4 (.mv (.v (.int .i64 (-1))))]
  .ret)
 .skip))
 (sq [oa 19 1 3, ol 20 19, oa 21 0 2, ol 22 21, o 23 (.bin .mul (.t 20) (.t 22)), oa 24 0 3, ol 25 24, o 26 (.bin .add (.t 23) (.t 25)), om 4 26]
 .ret)))
noncomputable def X.i_indexOf (p0 : TMap) (p1 : THex) : Option Int :=
 ((X.i_isIndex p1.Q p0.Width).bind fun v7 => (bif (!v7) then some (-1) else ((X.i_isIndex p1.R p0.Height).bind fun v10 => (bif (!v10) then some (-1) else some (W ((W (p1.R * p0.Width)) + p1.Q))))))
theorem i_indexOf_ok (p0 : TMap) (p1 : THex) (r : Int) (H : X.i_indexOf p0 p1 = some r) : FK 140 [.agg (eTMap p0), .agg (eTHex p1)] (cI r) := by
 unfold X.i_indexOf at H
 refine fi Tryz.f140 i_indexOf_ir [(4, cI r)] [] glL Tryz.func140 ?_
 refine so [] [] [(2, pk 2), (3, pk 3)] [(2, va (eTMap p0)), (3, va (eTHex p1))] id ?_
 refine seq_in ?_
 obtain ⟨v7, h8, H⟩ := oB H
 rcases oC H with ⟨c9, H⟩ | ⟨c9, H⟩
 ·refine sn ([.res (cB v7)] ++ rg 7 true []) [] [(18, cB true)] [] [] (fun t => aI (i_isIndex_ok p1.Q p0.Width v7 h8) (aG 7 c9 (t))) ?_
  refine it rT ?_
  refine so [] [] [(4, cI (-1))] [] id ?_
  cases H
  exact er
 ·obtain ⟨v10, h11, H⟩ := oB H
  refine sn ([.res (cB v7)] ++ rg 5 false ([.res (cB v10)] ++ rg 2 false [])) [] [(18, cB (!v10))] [] [] (fun t => aI (i_isIndex_ok p1.Q p0.Width v7 h8) (aG 5 c9 (aI (i_isIndex_ok p1.R p0.Height v10 h11) (aG 2 c9 (t))))) ?_
  rcases oC H with ⟨c12, H⟩ | ⟨c12, H⟩
  ·refine it c12 ?_
   refine so [] [] [(4, cI (-1))] [] id ?_
   cases H
   exact er
  ·refine jf c12 ?_
   refine sk ?_
   refine so [] [] [(4, cI (W ((W (p1.R * p0.Width)) + p1.Q)))] [] id ?_
   cases H
   exact er
def i_stepBy_ir : S :=
 (sq [o 3 (.box 2 (.t 0)), o 6 (.alloc [.int .i64 0, .int .i64 0])]
 (.seq (.drw [(0, 2), (1, 2), (0, 3), (1, 3), (2, 3), (0, 4), (1, 4), (2, 4), (0, 5), (1, 5), (2, 5), (0, 6), (1, 6), (2, 6), (0, 7), (1, 7), (0, 9), (1, 9), (2, 9), (3, 9), (4, 9), (5, 9), (6, 9), (7, 9), (8, 9), (0, 10), (1, 10), (2, 10), (3, 10), (4, 10), (5, 10), (6, 10), (7, 10), (8, 10), (0, 11), (1, 11), (2, 11), (3, 11), (4, 11), (5, 11), (6, 11), (7, 11), (8, 11), (9, 11), (10, 11), (0, 12), (1, 12), (2, 12), (3, 12), (4, 12), (5, 12), (6, 12), (7, 12), (8, 12), (9, 12), (10, 12), (11, 12), (0, 13), (1, 13), (2, 13), (3, 13), (4, 13), (5, 13), (6, 13), (7, 13), (8, 13), (9, 13), (10, 13), (11, 13), (0, 14), (1, 14), (2, 14), (3, 14), (4, 14), (5, 14), (6, 14), (7, 14), (8, 14), (9, 14), (10, 14), (11, 14), (0, 15), (1, 15), (2, 15), (3, 15), (4, 15), (5, 15), (6, 15), (7, 15), (8, 15), (9, 15), (10, 15), (11, 15), (0, 16), (1, 16), (2, 16), (3, 16), (4, 16), (5, 16), (6, 16), (7, 16), (8, 16), (9, 16), (10, 16), (0, 17), (1, 17), (2, 17), (3, 17), (4, 17), (5, 17), (6, 17), (7, 17), (8, 17)] [oa 7 0 3, ol 8 7, om 9 2, om 10 1, o 11 (.iar 6 2 (.g 0) (.t 10)), oa 12 0 11, ol 13 12, o 14 (.bin .mul (.t 9) (.t 13)), o 15 (.bin .add (.t 8) (.t 14)), oa 16 1 3, ol 17 16, om 18 2, om 19 1, o 20 (.iar 6 2 (.g 0) (.t 19)), oa 21 1 20, ol 22 21, o 23 (.bin .mul (.t 18) (.t 22)), o 24 (.bin .add (.t 17) (.t 23)), o 25 (.build [.int .i64 0, .int .i64 0] [(0, 1, .t 15), (1, 1, .t 24)]), os 2 6 25])
 .ret))
noncomputable def X.i_stepBy (p0 : THex) (p1 : Int) (p2 : Int) : Option THex :=
 ((at' zTHex dirs p1).bind fun v1 => some (THex.mk (W (p0.Q + (W (p2 * v1.Q)))) (W (p0.R + (W (p2 * v1.R))))))
theorem i_stepBy_ok (p0 : THex) (p1 : Int) (p2 : Int) (r : THex) (H : X.i_stepBy p0 p1 p2 = some r) : FK 141 [.agg (eTHex p0), cI p1, cI p2] (.agg (eTHex r)) := by
 unfold X.i_stepBy at H
 refine fi Tryz.f141 i_stepBy_ir [(6, pk 6)] [(6, va (eTHex r))] glL Tryz.func141 ?_
 refine sn [] [] [(3, pk 3), (6, pk 6)] [] [(3, va (eTHex p0)), (6, .var [jI 0, jI 0] false)] id ?_
 obtain ⟨v1, h2, H⟩ := oB H
 refine xn [.cs (eTHex v1), .cs (eTHex v1)] [] [] [6] [(6, .var [jI (W (p0.Q + (W (p2 * v1.Q)))), jI (W (p0.R + (W (p2 * v1.R))))] false)] (fun t => aI (at_lt h2) (aI (dirs_at h2) (aI rN (aI (at_lt h2) (aI (dirs_at h2) (aI rN (t))))))) ?_
 refine tl [] [(6, pk 6)] [(6, .var [jI (W (p0.Q + (W (p2 * v1.Q)))), jI (W (p0.R + (W (p2 * v1.R))))] false)] id ?_
 cases H
 exact er
def i_hexOf_ir : S :=
 (sq [o 2 (.box 5 (.t 0)), o 4 (.alloc [.int .i64 0, .int .i64 0])]
 (.seq (.drw [(0, 1), (0, 2), (0, 4), (1, 4), (2, 4), (3, 4), (0, 5), (1, 5), (2, 5), (3, 5), (4, 5), (0, 6), (1, 6), (2, 6), (3, 6), (4, 6), (0, 7), (1, 7), (2, 7), (3, 7)] [om 5 1, oa 6 0 2, ol 7 6, o 8 (.bin .rem (.t 5) (.t 7)), om 9 1, oa 10 0 2, ol 11 10, o 12 (.bin .quo (.t 9) (.t 11)), o 13 (.build [.int .i64 0, .int .i64 0] [(0, 1, .t 8), (1, 1, .t 12)]), os 2 4 13])
 .ret))
noncomputable def X.i_hexOf (p0 : TMap) (p1 : Int) : Option THex :=
 (if p0.Width ≠ 0 then (if p0.Width ≠ 0 then some (THex.mk (Int.tmod p1 p0.Width) (W (Int.tdiv p1 p0.Width))) else none) else none)
theorem i_hexOf_ok (p0 : TMap) (p1 : Int) (r : THex) (H : X.i_hexOf p0 p1 = some r) : FK 142 [.agg (eTMap p0), cI p1] (.agg (eTHex r)) := by
 unfold X.i_hexOf at H
 refine fi Tryz.f142 i_hexOf_ir [(4, pk 4)] [(4, va (eTHex r))] glL Tryz.func142 ?_
 refine sn [] [] [(2, pk 2), (4, pk 4)] [] [(2, va (eTMap p0)), (4, .var [jI 0, jI 0] false)] id ?_
 obtain ⟨g1, H⟩ := oI H
 obtain ⟨g2, H⟩ := oI H
 refine xn [] [] [] [4] [(4, .var [jI (Int.tmod p1 p0.Width), jI (W (Int.tdiv p1 p0.Width))] false)] (fun t => aI g1 (aI g2 (t))) ?_
 refine tl [] [(4, pk 4)] [(4, .var [jI (Int.tmod p1 p0.Width), jI (W (Int.tdiv p1 p0.Width))] false)] id ?_
 cases H
 exact er
def i_nextTo_ir : S :=
 (sq [o 3 (.box 5 (.t 0)), o 6 (.mv (iv 0))]
 (.seq (.drw [(0, 1), (0, 2), (1, 2), (0, 3), (0, 4), (1, 4), (2, 4), (3, 4), (0, 5)] [o 7 (.load 5 true (.t 3)), o 8 (.load 5 true (.t 3)), om 9 1, o 10 (.call 142 [.t 8, .t 9]), om 11 2, o 12 (.call 141 [.t 10, .t 11, .v (.int .i64 1)]), o 13 (.call 140 [.t 7, .t 12]), om 6 13])
 .ret))
noncomputable def X.i_nextTo (p0 : TMap) (p1 : Int) (p2 : Int) : Option Int :=
 ((X.i_hexOf p0 p1).bind fun v1 => ((X.i_stepBy v1 p2 1).bind fun v3 => ((X.i_indexOf p0 v3).bind fun v5 => some v5)))
theorem i_nextTo_ok (p0 : TMap) (p1 : Int) (p2 : Int) (r : Int) (H : X.i_nextTo p0 p1 p2 = some r) : FK 109 [.agg (eTMap p0), cI p1, cI p2] (cI r) := by
 unfold X.i_nextTo at H
 refine fi Tryz.f109 i_nextTo_ir [(6, cI r)] [] glL Tryz.func109 ?_
 refine sn [] [] [(3, pk 3)] [] [(3, va (eTMap p0))] id ?_
 obtain ⟨v1, h2, H⟩ := oB H
 obtain ⟨v3, h4, H⟩ := oB H
 obtain ⟨v5, h6, H⟩ := oB H
 refine sx [.res (.agg (eTHex v1)), .res (.agg (eTHex v3)), .res (cI v5)] [] [(6, cI v5)] [] (fun t => aI (i_hexOf_ok p0 p1 v1 h2) (aI trivial (aI rN (aI (i_stepBy_ok v1 p2 1 v3 h4) (aI trivial (aI rN (aI (i_indexOf_ok p0 v3 v5 h6) (aI trivial (aI rN (t)))))))))) ?_
 cases H
 exact er
def i_isEdge_ir : S :=
 (sq [o 2 (.box 5 (.t 0)), o 4 (.mv bF)]
 (sq [om 5 1, oa 6 0 2, ol 7 6, o 8 (.bin .mul (iv 3) (.t 7)), oa 9 1 2, ol 10 9, o 11 (.bin .mul (.t 8) (.t 10)), o 12 (.bin .sub (.t 11) (iv 1)), o 13 (.call 69 [.t 5, .v (.int .i64 0), .t 12]), om 14 13, oh 15 (.load 5 true (.t 2)) 14, oh 16 (.mv (.t 1)) 14, oh 17 (.bin .quo (.t 16) (iv 3)) 14, oh 18 (.mv (.t 1)) 14, oh 19 (.bin .rem (.t 18) (iv 3)) 14, oh 20 (.call 109 [.t 15, .t 17, .t 19]) 14, oh 21 (.bin .geq (.t 20) (iv 0)) 14, o 22 (.pick (.t 14) (.t 21) bF), om 4 22]
 .ret))
noncomputable def X.i_isEdge (p0 : TMap) (p1 : Int) : Option Bool :=
 ((X.i_inRange p1 0 (W ((W ((W (3 * p0.Width)) * p0.Height)) - 1))).bind fun v1 => (bif v1 then ((X.i_nextTo p0 (W (Int.tdiv p1 3)) (Int.tmod p1 3)).bind fun v4 => some (decide (v4 ≥ 0))) else some false))
theorem i_isEdge_ok (p0 : TMap) (p1 : Int) (r : Bool) (H : X.i_isEdge p0 p1 = some r) : FK 172 [.agg (eTMap p0), cI p1] (cB r) := by
 unfold X.i_isEdge at H
 refine fi Tryz.f172 i_isEdge_ir [(4, cB r)] [] glL Tryz.func172 ?_
 refine sn [] [] [(2, pk 2)] [] [(2, va (eTMap p0))] id ?_
 obtain ⟨v1, h2, H⟩ := oB H
 rcases oC H with ⟨c3, H⟩ | ⟨c3, H⟩
 ·obtain ⟨v4, h5, H⟩ := oB H
  refine so ([.res (cB v1)] ++ rg 6 true ([.res (cI v4)] ++ rg 2 true [])) [] [(4, cB (decide (v4 ≥ 0)))] [] (fun t => aI (i_inRange_ok p1 0 (W ((W ((W (3 * p0.Width)) * p0.Height)) - 1)) v1 h2) (aG 3 c3 (aI (by decide : (3 : Int) ≠ 0) (aG 2 c3 (aI (by decide : (3 : Int) ≠ 0) (aI c3 (aI (i_nextTo_ok p0 (W (Int.tdiv p1 3)) (Int.tmod p1 3) v4 h5) (aG 2 c3 (t))))))))) ?_
  cases H
  exact er
 ·refine so ([.res (cB v1)] ++ rg 8 false []) [] [(4, cB false)] [] (fun t => aI (i_inRange_ok p1 0 (W ((W ((W (3 * p0.Width)) * p0.Height)) - 1)) v1 h2) (aG 8 c3 (t))) ?_
  cases H
  exact er
end Go.Proofs.YtgfgmjefikefeaaGreatDoor.X0
