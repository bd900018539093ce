/- What each function that FnUnseenMoves reaches computes; no condition. -/
import Derived.Test.YtjlabdoeiphegaaGreatDoorProg
import Derived.Test.YtjlabdoeiphegaaGreatDoorAmCore3
import Derived.Shelf.Strings.OnBuilder
set_option linter.unusedVariables false
set_option linter.unusedSimpArgs false
set_option maxRecDepth 100000
namespace Go.Proofs.YtjlabdoeiphegaaGreatDoor.X0
open Go Go.RowKit Go.Proofs.YtjlabdoeiphegaaGreatDoor.Ab Go.Proofs

def lays156_ren : Go.Shelf.Ren := ⟨fun | 156 => 156 | 165 => 199 | 166 => 200 | 169 => 201 | 240 => 235 | 241 => 236 | 276 => 257 | 277 => 258 | n => n, fun | 31 => 78 | 9 => 9 | 3 => 3 | 4 => 4 | 0 => 0 | 20 => 20 | 72 => 219 | 76 => 128 | 70 => 217 | 37 => 164 | 75 => 127 | 127 => 254 | 164 => 276 | 5 => 5 | 80 => 221 | n => n, fun | n => n⟩
theorem lays156 : Go.Proofs.Lays.n156 Tryz.prog lays156_ren := {
 mixed := by kernel_rfl
 f156 := Tryz.func156.trans (congrArg some (by kernel_rfl))
 f165 := Tryz.func199.trans (congrArg some (by kernel_rfl))
 f166 := Tryz.func200.trans (congrArg some (by kernel_rfl))
 f169 := Tryz.func201.trans (congrArg some (by kernel_rfl))
 f240 := Tryz.func235.trans (congrArg some (by kernel_rfl))
 f241 := Tryz.func236.trans (congrArg some (by kernel_rfl))
 f276 := Tryz.func257.trans (congrArg some (by kernel_rfl))
 f277 := Tryz.func258.trans (congrArg some (by kernel_rfl))
 t0 := Tryz.underlying0
 a0 := Tryz.isAgg0
 z0 := Tryz.sizeOf0
 v0 := Tryz.zeroValue0
 t3 := Tryz.underlying3
 a3 := Tryz.isAgg3
 z3 := Tryz.sizeOf3
 v3 := Tryz.zeroValue3
 t4 := Tryz.underlying4
 a4 := Tryz.isAgg4
 z4 := Tryz.sizeOf4
 v4 := Tryz.zeroValue4
 t9 := Tryz.underlying9
 a9 := Tryz.isAgg9
 z9 := Tryz.sizeOf9
 v9 := Tryz.zeroValue9
 t20 := Tryz.underlying20
 a20 := Tryz.isAgg20
 z20 := Tryz.sizeOf20
 v20 := Tryz.zeroValue20
 t31 := Tryz.underlying78
 a31 := Tryz.isAgg78
 z31 := Tryz.sizeOf78
 v31 := Tryz.zeroValue78
 t37 := Tryz.underlying164
 a37 := Tryz.isAgg164
 z37 := Tryz.sizeOf164
 v37 := Tryz.zeroValue164
 t70 := Tryz.underlying217
 a70 := Tryz.isAgg217
 z70 := Tryz.sizeOf217
 v70 := Tryz.zeroValue217
 t72 := Tryz.underlying219
 a72 := Tryz.isAgg219
 z72 := Tryz.sizeOf219
 v72 := Tryz.zeroValue219
 t75 := Tryz.underlying127
 a75 := Tryz.isAgg127
 z75 := Tryz.sizeOf127
 v75 := Tryz.zeroValue127
 t76 := Tryz.underlying128
 a76 := Tryz.isAgg128
 z76 := Tryz.sizeOf128
 v76 := Tryz.zeroValue128
 t127 := Tryz.underlying254
 a127 := Tryz.isAgg254
 z127 := Tryz.sizeOf254
 v127 := Tryz.zeroValue254
 t164 := Tryz.underlying276
 a164 := Tryz.isAgg276
 z164 := Tryz.sizeOf276
 v164 := Tryz.zeroValue276 }
theorem bldX156 : Builder.Extra Tryz.prog lays156_ren := {
 sizeBuilder := by kernel_rfl
 liesBuilder := by kernel_rfl
 t5 := Tryz.underlying5
 a5 := Tryz.isAgg5
 z5 := Tryz.sizeOf5
 v5 := Tryz.zeroValue5
 infoByte := by kernel_rfl
 cellsByte := by kernel_rfl
 sizeByte := by kernel_rfl
 neB5 := by decide }
def zI : Int := 0
def zB : Bool := false
def zS : List UInt8 := []
def eI (x : Int) : List AC := [.int .i64 x]
def eU (x : Int) : List AC := [.int .u8 x]
def eB (x : Bool) : List AC := [.bool x]
def eS (x : List UInt8) : List AC := [.str x]
def zLI : List Int := []
def eLI (xs : List Int) : List AC := [dat 1 eI zI xs]
theorem nLI : LeR [.nil] (eLI zLI) := And.intro (LeC.nil 1 _) trivial
structure TTerrain where
 Name : (List UInt8)
 Cost : (List Int)
 Shift : Int
 Height : Int
 Blocks : Bool
def zTTerrain : TTerrain := ⟨zS, zLI, zI, zI, zB⟩
def eTTerrain (x : TTerrain) : List AC := [.str x.Name, dat 1 eI zI x.Cost, .int .i64 x.Shift, .int .i64 x.Height, .bool x.Blocks]
theorem nTTerrain : LeR [.str [], .nil, .int .i64 0, .int .i64 0, .bool false] (eTTerrain zTTerrain) := And.intro (LeC.refl _) (And.intro (LeC.nil 1 _) (And.intro (LeC.refl _) (And.intro (LeC.refl _) (And.intro (LeC.refl _) (trivial)))))
def zLTTerrain : List TTerrain := []
def eLTTerrain (xs : List TTerrain) : List AC := [dat 5 eTTerrain zTTerrain xs]
theorem nLTTerrain : LeR [.nil] (eLTTerrain zLTTerrain) := And.intro (LeC.nil 5 _) trivial
structure TKind where
 Name : (List UInt8)
 Strength : Int
 Moves : Int
 Steps : Int
 Zone : Bool
 View : Int
def zTKind : TKind := ⟨zS, zI, zI, zI, zB, zI⟩
def eTKind (x : TKind) : List AC := [.str x.Name, .int .i64 x.Strength, .int .i64 x.Moves, .int .i64 x.Steps, .bool x.Zone, .int .i64 x.View]
def zLTKind : List TKind := []
def eLTKind (xs : List TKind) : List AC := [dat 6 eTKind zTKind xs]
theorem nLTKind : LeR [.nil] (eLTKind zLTKind) := And.intro (LeC.nil 6 _) trivial
structure TRules where
 Terrains : (List TTerrain)
 Kinds : (List TKind)
 Stack : Int
 River : Int
 Road : Int
 Supply : Int
 Turns : Int
def zTRules : TRules := ⟨zLTTerrain, zLTKind, zI, zI, zI, zI, zI⟩
def eTRules (x : TRules) : List AC := [dat 5 eTTerrain zTTerrain x.Terrains, dat 6 eTKind zTKind x.Kinds, .int .i64 x.Stack, .int .i64 x.River, .int .i64 x.Road, .int .i64 x.Supply, .int .i64 x.Turns]
theorem nTRules : LeR [.nil, .nil, .int .i64 0, .int .i64 0, .int .i64 0, .int .i64 0, .int .i64 0] (eTRules zTRules) := And.intro (LeC.nil 5 _) (And.intro (LeC.nil 6 _) (And.intro (LeC.refl _) (And.intro (LeC.refl _) (And.intro (LeC.refl _) (And.intro (LeC.refl _) (And.intro (LeC.refl _) (trivial)))))))
structure TMap where
 Width : Int
 Height : Int
 Terrain : (List Int)
 Rivers : (List Int)
 Roads : (List Int)
def zTMap : TMap := ⟨zI, zI, zLI, zLI, zLI⟩
def eTMap (x : TMap) : List AC := [.int .i64 x.Width, .int .i64 x.Height, dat 1 eI zI x.Terrain, dat 1 eI zI x.Rivers, dat 1 eI zI x.Roads]
theorem nTMap : LeR [.int .i64 0, .int .i64 0, .nil, .nil, .nil] (eTMap zTMap) := And.intro (LeC.refl _) (And.intro (LeC.refl _) (And.intro (LeC.nil 1 _) (And.intro (LeC.nil 1 _) (And.intro (LeC.nil 1 _) (trivial)))))
structure TBoard where
 Rules : TRules
 Map : TMap
def zTBoard : TBoard := ⟨zTRules, zTMap⟩
def eTBoard (x : TBoard) : List AC := [dat 5 eTTerrain zTTerrain x.Rules.Terrains, dat 6 eTKind zTKind x.Rules.Kinds, .int .i64 x.Rules.Stack, .int .i64 x.Rules.River, .int .i64 x.Rules.Road, .int .i64 x.Rules.Supply, .int .i64 x.Rules.Turns, .int .i64 x.Map.Width, .int .i64 x.Map.Height, dat 1 eI zI x.Map.Terrain, dat 1 eI zI x.Map.Rivers, dat 1 eI zI x.Map.Roads]
theorem nTBoard : LeR [.nil, .nil, .int .i64 0, .int .i64 0, .int .i64 0, .int .i64 0, .int .i64 0, .int .i64 0, .int .i64 0, .nil, .nil, .nil] (eTBoard zTBoard) := And.intro (LeC.nil 5 _) (And.intro (LeC.nil 6 _) (And.intro (LeC.refl _) (And.intro (LeC.refl _) (And.intro (LeC.refl _) (And.intro (LeC.refl _) (And.intro (LeC.refl _) (And.intro (LeC.refl _) (And.intro (LeC.refl _) (And.intro (LeC.nil 1 _) (And.intro (LeC.nil 1 _) (And.intro (LeC.nil 1 _) (trivial))))))))))))
structure TUnit where
 Side : Int
 Kind : Int
 At : Int
 Steps : Int
def zTUnit : TUnit := ⟨zI, zI, zI, zI⟩
def eTUnit (x : TUnit) : List AC := [.int .i64 x.Side, .int .i64 x.Kind, .int .i64 x.At, .int .i64 x.Steps]
def zLTUnit : List TUnit := []
def eLTUnit (xs : List TUnit) : List AC := [dat 4 eTUnit zTUnit xs]
theorem nLTUnit : LeR [.nil] (eLTUnit zLTUnit) := And.intro (LeC.nil 4 _) trivial
structure TState where
 Turn : Int
 Weather : Int
 Units : (List TUnit)
def zTState : TState := ⟨zI, zI, zLTUnit⟩
def eTState (x : TState) : List AC := [.int .i64 x.Turn, .int .i64 x.Weather, dat 4 eTUnit zTUnit x.Units]
theorem nTState : LeR [.int .i64 0, .int .i64 0, .nil] (eTState zTState) := And.intro (LeC.refl _) (And.intro (LeC.refl _) (And.intro (LeC.nil 4 _) (trivial)))
structure TView where
 Side : Int
 Turn : Int
 Weather : Int
 Seen : (List Int)
 Own : (List TUnit)
 Enemies : (List TUnit)
def zTView : TView := ⟨zI, zI, zI, zLI, zLTUnit, zLTUnit⟩
def eTView (x : TView) : List AC := [.int .i64 x.Side, .int .i64 x.Turn, .int .i64 x.Weather, dat 1 eI zI x.Seen, dat 4 eTUnit zTUnit x.Own, dat 4 eTUnit zTUnit x.Enemies]
theorem nTView : LeR [.int .i64 0, .int .i64 0, .int .i64 0, .nil, .nil, .nil] (eTView zTView) := And.intro (LeC.refl _) (And.intro (LeC.refl _) (And.intro (LeC.refl _) (And.intro (LeC.nil 1 _) (And.intro (LeC.nil 4 _) (And.intro (LeC.nil 4 _) (trivial))))))
structure THex where
 Q : Int
 R : Int
def zTHex : THex := ⟨zI, zI⟩
def eTHex (x : THex) : List AC := [.int .i64 x.Q, .int .i64 x.R]
structure A2_I where
 a0 : Int
 a1 : Int
def zA2_I : A2_I := ⟨zI, zI⟩
def eA2_I (x : A2_I) : List AC := [.int .i64 x.a0, .int .i64 x.a1]
def zLB : List Bool := []
def eLB (xs : List Bool) : List AC := [dat 1 eB zB xs]
theorem nLB : LeR [.nil] (eLB zLB) := And.intro (LeC.nil 1 _) trivial
def zLLI : List (List Int) := []
def eLLI (xs : List (List Int)) : List AC := [dat 1 eLI zLI xs]
theorem nLLI : LeR [.nil] (eLLI zLLI) := And.intro (LeC.nil 1 _) trivial
def zLTHex : List THex := []
def eLTHex (xs : List THex) : List AC := [dat 2 eTHex zTHex xs]
theorem nLTHex : LeR [.nil] (eLTHex zLTHex) := And.intro (LeC.nil 2 _) trivial
def zLLTHex : List (List THex) := []
def eLLTHex (xs : List (List THex)) : List AC := [dat 1 eLTHex zLTHex xs]
theorem nLLTHex : LeR [.nil] (eLLTHex zLLTHex) := And.intro (LeC.nil 1 _) trivial
structure A24_I where
 a0 : Int
 a1 : Int
 a2 : Int
 a3 : Int
 a4 : Int
 a5 : Int
 a6 : Int
 a7 : Int
 a8 : Int
 a9 : Int
 a10 : Int
 a11 : Int
 a12 : Int
 a13 : Int
 a14 : Int
 a15 : Int
 a16 : Int
 a17 : Int
 a18 : Int
 a19 : Int
 a20 : Int
 a21 : Int
 a22 : Int
 a23 : Int
def zA24_I : A24_I := ⟨zI, zI, zI, zI, zI, zI, zI, zI, zI, zI, zI, zI, zI, zI, zI, zI, zI, zI, zI, zI, zI, zI, zI, zI⟩
def eA24_I (x : A24_I) : List AC := [.int .u8 x.a0, .int .u8 x.a1, .int .u8 x.a2, .int .u8 x.a3, .int .u8 x.a4, .int .u8 x.a5, .int .u8 x.a6, .int .u8 x.a7, .int .u8 x.a8, .int .u8 x.a9, .int .u8 x.a10, .int .u8 x.a11, .int .u8 x.a12, .int .u8 x.a13, .int .u8 x.a14, .int .u8 x.a15, .int .u8 x.a16, .int .u8 x.a17, .int .u8 x.a18, .int .u8 x.a19, .int .u8 x.a20, .int .u8 x.a21, .int .u8 x.a22, .int .u8 x.a23]
def dirs : List THex := [⟨1, 0⟩, ⟨1, -1⟩, ⟨0, -1⟩, ⟨-1, 0⟩, ⟨-1, 1⟩, ⟨0, 1⟩]
def gl : Nat → Option (List AC) := fun g => match g with | 6 => some (dirs.flatMap eTHex) | _ => none
theorem dirs_at {i : Int} {v : THex} (h : at' zTHex dirs i = some v) : ((dirs.flatMap eTHex).drop (0 + i.toNat * 2)).take 2 = eTHex v := arr_at (fun _ => rfl) h
theorem glL : gl LAW = none := rfl
theorem glTs : ∀ g cs, gl g = some cs → glT gl g = some cs := glT_sub glL
theorem glTn : glT gl LAW ≠ none := by simp [glT]
abbrev FK := FnOk Tryz.prog gl
def i_inRange_ir : S :=
 (sq [o 6 (.mv bF)]
 (sq [om 7 1, om 8 0, o 9 (.bin .leq (.t 7) (.t 8)), om 10 9, oh 11 (.mv (.t 0)) 10, oh 12 (.mv (.t 2)) 10, oh 13 (.bin .leq (.t 11) (.t 12)) 10, o 14 (.pick (.t 10) (.t 13) bF), om 6 14]
 .ret))
noncomputable def X.i_inRange (p0 : Int) (p1 : Int) (p2 : Int) : Option Bool :=
 (bif (decide (p1 ≤ p0)) then some (decide (p0 ≤ p2)) else some false)
theorem i_inRange_ok (p0 : Int) (p1 : Int) (p2 : Int) (r : Bool) (H : X.i_inRange p0 p1 p2 = some r) : FK 59 [cI p0, cI p1, cI p2] (cB r) := by
 unfold X.i_inRange at H
 refine fi Tryz.f59 i_inRange_ir [(6, cB r)] [] glL Tryz.func59 ?_
 refine sn [] [] [] [] [] id ?_
 rcases oC H with ⟨c1, H⟩ | ⟨c1, H⟩
 ·refine so (rg 4 true []) [] [(6, cB (decide (p0 ≤ p2)))] [] (fun t => aG 4 c1 (t)) ?_
  cases H
  exact er
 ·refine so (rg 4 false []) [] [(6, cB false)] [] (fun t => aG 4 c1 (t)) ?_
  cases H
  exact er
def i_isSide_ir : S :=
 (sq [o 2 (.mv bF)]
 (sq [om 3 0, o 4 (.call 59 [.t 3, .v (.int .i64 0), .v (.int .i64 1)]), om 2 4]
 .ret))
noncomputable def X.i_isSide (p0 : Int) : Option Bool :=
 ((X.i_inRange p0 0 1).bind fun v1 => some v1)
theorem i_isSide_ok (p0 : Int) (r : Bool) (H : X.i_isSide p0 = some r) : FK 98 [cI p0] (cB r) := by
 unfold X.i_isSide at H
 refine fi Tryz.f98 i_isSide_ir [(2, cB r)] [] glL Tryz.func98 ?_
 refine sn [] [] [] [] [] id ?_
 obtain ⟨v1, h2, H⟩ := oB H
 refine so [.res (cB v1)] [] [(2, cB v1)] [] (aI (i_inRange_ok p0 0 1 v1 h2)) ?_
 cases H
 exact er
def g_IndexFunc_Kind_ir : S :=
 (sq [o 4 (.mv (iv 0))]
 (.seq (sq [om 6 0, o 7 (.len (.t 6)), o 8 (.mv (iv 0))]
 (.blk 0 (.loop (sq [o 9 (.bin .lss (.t 8) (.t 7))]
   (.seq (.ite (.t 9) .skip
   (.exit 0))
   (.seq (.blk 1 (sq [om 10 8, om 5 10]
    (sq [om 11 1, om 12 0, om 13 5, o 14 (.iad 6 (.t 12) (.t 13)), o 15 (.load 6 true (.t 14)), o 16 (.cald (.t 11) [.t 15])]
    (.ite (.t 16) (sq [om 17 5, om 4 17]
     .ret)
    .skip))))
   (.ops [o 18 (.bin .add (.t 8) (iv 1)), om 8 18])))))))
 (sq [o 4 (.mv (.v (.int .i64 (-1))))]
 .ret)))
noncomputable def X.g_IndexFunc_Kind (p0 : (List TKind)) (f1 : TKind → Option Bool) : Option Int :=
 ((loop (fun (x16 : Int) => ((bif (decide (x16 < (p0.length : Int))) then ((at' zTKind p0 x16).bind fun v19 => ((f1 v19).bind fun v21 => (bif v21 then some (Sum.inr (Sum.inr x16)) else some (Sum.inl (W (x16 + 1)))))) else some (Sum.inr (Sum.inl ()))) : Option (Int ⊕ (Unit ⊕ Int)))) 0).bind fun y24 => (Sum.elim (fun (y26 : Unit) => some (-1)) (fun (y27 : Int) => some y27) y24))
theorem g_IndexFunc_Kind_c1_ok (p0 : (List TKind)) (cf1 : FuncId) (cs1_0 : List AC) (f1 : TKind → Option Bool) (hf1 : ∀ q0 r, f1 q0 = some r → FK cf1 [.agg (eTKind q0), .c (.pd cs1_0 0)] (cB r)) (r : Int) (H : X.g_IndexFunc_Kind p0 f1 = some r) : FK 151 [.c (dat 6 eTKind zTKind p0), .c (.clo cf1 [.pd cs1_0 0])] (cI r) := by
 unfold X.g_IndexFunc_Kind at H
 refine fi Tryz.f151 g_IndexFunc_Kind_ir [(4, cI r)] [] glL Tryz.func151 ?_
 refine sn [] [] [] [] [] id ?_
 refine seq_in ?_
 refine sn [] [] [(7, cL p0), (8, cI 0)] [] [] (fun t => lI p0 (t)) ?_
 refine ends_blk ?_
 obtain ⟨y24, h25, H⟩ := oB H
 refine tl [] [(0, dc 6 eTKind zTKind p0), (1, .c (.clo cf1 [.pd cs1_0 0])), (7, cL p0), (8, cI 0)] [] id ?_
 refine loop_in (fun (x : Int) => lit [(0, dc 6 eTKind zTKind p0), (1, .c (.clo cf1 [.pd cs1_0 0])), (7, cL p0), (8, cI x)] []) (orJ (fun (z : Unit) => At (.exit 0) (lit [] [])) (fun (z : Int) => At .ret (lit [(4, cI z)] []))) h25 ?_ ?_
 ·clear H h25
  intro x16 y0 H
  refine sn [] [] [(9, cB (decide (x16 < (p0.length : Int))))] [] [] id ?_
  refine seq_in ?_
  rcases oC H with ⟨c18, H⟩ | ⟨c18, H⟩
  ·refine it c18 ?_
   refine sk ?_
   refine seq_in ?_
   refine ends_blk ?_
   refine sn [] [] [(5, cI x16)] [] [] id ?_
   obtain ⟨v19, h20, H⟩ := oB H
   obtain ⟨v21, h22, H⟩ := oB H
   refine sn [.cs (eTKind v19), .res (cB v21)] [] [(16, cB v21)] [] [] (fun t => (a2 eTKind h20 (aI (hf1 v19 v21 h22) (t)))) ?_
   rcases oC H with ⟨c23, H⟩ | ⟨c23, H⟩
   ·refine it c23 ?_
    refine so [] [] [(4, cI x16)] [] id ?_
    refine ends_ret ?_
    cases H
    exact rsr
   ·refine jf c23 ?_
    refine sk ?_
    refine oo [] [] [(0, dc 6 eTKind zTKind p0), (1, .c (.clo cf1 [.pd cs1_0 0])), (7, cL p0), (8, cI (W (x16 + 1)))] [] id ?_
    cases H
    exact rr
  ·refine jf c18 ?_
   refine tl [] [] [] id ?_
   refine ends_exit ?_
   cases H
   exact rse
 ·clear h25
  cases y24 with
  | inl y26 =>
   replace H := ofInl H
   rintro e s ⟨rfl, rfl⟩
   change EndsI _ _ _ _ _ _
   refine so [] [] [(4, cI (-1))] [] id ?_
   cases H
   exact er
  | inr y27 =>
   replace H := ofInr H
   rintro e s ⟨rfl, rfl⟩
   cases H
   exact qr
def i_kindIndex_1_ir : S :=
 (sq [o 2 (.box 6 (.t 0)), o 3 (.mv bF)]
 (sq [oa 4 0 2, ol 5 4, ol 6 1, o 7 (.bin .eql (.t 5) (.t 6)), om 3 7]
 .ret))
noncomputable def X.i_kindIndex_1 (p0 : TKind) (p1 : (List UInt8)) : Option Bool :=
 some (p0.Name == p1)
theorem i_kindIndex_1_ok (p0 : TKind) (p1 : (List UInt8)) (r : Bool) (H : X.i_kindIndex_1 p0 p1 = some r) : FK 152 [.agg (eTKind p0), .c (.pd (eS p1) 0)] (cB r) := by
 unfold X.i_kindIndex_1 at H
 refine fi Tryz.f152 i_kindIndex_1_ir [(3, cB r)] [] glL Tryz.func152 ?_
 refine sn [] [] [(2, pk 2)] [] [(2, va (eTKind p0))] id ?_
 refine so [] [] [(3, cB (p0.Name == p1))] [] id ?_
 cases H
 exact er
def i_kindIndex_ir : S :=
 (sq [o 3 (.box 1 (.t 1)), o 4 (.mv (iv 0))]
 (sq [om 5 0, o 6 (.clo 152 [.t 3]), o 7 (.call 151 [.t 5, .t 6]), om 4 7]
 .ret))
noncomputable def X.i_kindIndex (p0 : (List TKind)) (p1 : (List UInt8)) : Option Int :=
 ((X.g_IndexFunc_Kind p0 (fun q0 => X.i_kindIndex_1 q0 p1)).bind fun v1 => some v1)
theorem i_kindIndex_ok (p0 : (List TKind)) (p1 : (List UInt8)) (r : Int) (H : X.i_kindIndex p0 p1 = some r) : FK 96 [.c (dat 6 eTKind zTKind p0), .c (.str p1)] (cI r) := by
 unfold X.i_kindIndex at H
 refine fi Tryz.f96 i_kindIndex_ir [(4, cI r)] [] glL Tryz.func96 ?_
 refine sn [] [] [(3, pk 3)] [] [(3, .var [.str p1] false)] id ?_
 obtain ⟨v1, h2, H⟩ := oB H
 refine so [.res (cI v1)] [] [(4, cI v1)] [] (aI (g_IndexFunc_Kind_c1_ok p0 (152) (eS p1) (fun q0 => X.i_kindIndex_1 q0 p1) (fun q0 r h => i_kindIndex_1_ok q0 p1 r h) v1 h2)) ?_
 cases H
 exact er
def g_IndexFunc_int_ir : S :=
 (sq [o 4 (.mv (iv 0))]
 (.seq (sq [om 6 0, o 7 (.len (.t 6)), o 8 (.mv (iv 0))]
 (.blk 0 (.loop (sq [o 9 (.bin .lss (.t 8) (.t 7))]
   (.seq (.ite (.t 9) .skip
   (.exit 0))
   (.seq (.blk 1 (sq [om 10 8, om 5 10]
    (sq [om 11 1, om 12 0, om 13 5, o 14 (.iad 1 (.t 12) (.t 13)), ol 15 14, o 16 (.cald (.t 11) [.t 15])]
    (.ite (.t 16) (sq [om 17 5, om 4 17]
     .ret)
    .skip))))
   (.ops [o 18 (.bin .add (.t 8) (iv 1)), om 8 18])))))))
 (sq [o 4 (.mv (.v (.int .i64 (-1))))]
 .ret)))
noncomputable def X.g_IndexFunc_int (p0 : (List Int)) (f1 : Int → Option Bool) : Option Int :=
 ((loop (fun (x16 : Int) => ((bif (decide (x16 < (p0.length : Int))) then ((at' zI p0 x16).bind fun v19 => ((f1 v19).bind fun v21 => (bif v21 then some (Sum.inr (Sum.inr x16)) else some (Sum.inl (W (x16 + 1)))))) else some (Sum.inr (Sum.inl ()))) : Option (Int ⊕ (Unit ⊕ Int)))) 0).bind fun y24 => (Sum.elim (fun (y26 : Unit) => some (-1)) (fun (y27 : Int) => some y27) y24))
theorem g_IndexFunc_int_c0_ok (p0 : (List Int)) (cf1 : FuncId) (f1 : Int → Option Bool) (hf1 : ∀ q0 r, f1 q0 = some r → FK cf1 [cI q0] (cB r)) (r : Int) (H : X.g_IndexFunc_int p0 f1 = some r) : FK 147 [.c (dat 1 eI zI p0), .c (.clo cf1 [])] (cI r) := by
 unfold X.g_IndexFunc_int at H
 refine fi Tryz.f147 g_IndexFunc_int_ir [(4, cI r)] [] glL Tryz.func147 ?_
 refine sn [] [] [] [] [] id ?_
 refine seq_in ?_
 refine sn [] [] [(7, cL p0), (8, cI 0)] [] [] (fun t => lI p0 (t)) ?_
 refine ends_blk ?_
 obtain ⟨y24, h25, H⟩ := oB H
 refine tl [] [(0, dc 1 eI zI p0), (1, .c (.clo cf1 [])), (7, cL p0), (8, cI 0)] [] id ?_
 refine loop_in (fun (x : Int) => lit [(0, dc 1 eI zI p0), (1, .c (.clo cf1 [])), (7, cL p0), (8, cI x)] []) (orJ (fun (z : Unit) => At (.exit 0) (lit [] [])) (fun (z : Int) => At .ret (lit [(4, cI z)] []))) h25 ?_ ?_
 ·clear H h25
  intro x16 y0 H
  refine sn [] [] [(9, cB (decide (x16 < (p0.length : Int))))] [] [] id ?_
  refine seq_in ?_
  rcases oC H with ⟨c18, H⟩ | ⟨c18, H⟩
  ·refine it c18 ?_
   refine sk ?_
   refine seq_in ?_
   refine ends_blk ?_
   refine sn [] [] [(5, cI x16)] [] [] id ?_
   obtain ⟨v19, h20, H⟩ := oB H
   obtain ⟨v21, h22, H⟩ := oB H
   refine sn [.cs (eI v19), .res (cB v21)] [] [(16, cB v21)] [] [] (fun t => (a2 eI h20 (aI (hf1 v19 v21 h22) (t)))) ?_
   rcases oC H with ⟨c23, H⟩ | ⟨c23, H⟩
   ·refine it c23 ?_
    refine so [] [] [(4, cI x16)] [] id ?_
    refine ends_ret ?_
    cases H
    exact rsr
   ·refine jf c23 ?_
    refine sk ?_
    refine oo [] [] [(0, dc 1 eI zI p0), (1, .c (.clo cf1 [])), (7, cL p0), (8, cI (W (x16 + 1)))] [] id ?_
    cases H
    exact rr
  ·refine jf c18 ?_
   refine tl [] [] [] id ?_
   refine ends_exit ?_
   cases H
   exact rse
 ·clear h25
  cases y24 with
  | inl y26 =>
   replace H := ofInl H
   rintro e s ⟨rfl, rfl⟩
   change EndsI _ _ _ _ _ _
   refine so [] [] [(4, cI (-1))] [] id ?_
   cases H
   exact er
  | inr y27 =>
   replace H := ofInr H
   rintro e s ⟨rfl, rfl⟩
   cases H
   exact qr
def g_ContainsFunc_int_ir : S :=
 (sq [o 4 (.mv bF)]
 (sq [om 5 0, om 6 1, o 7 (.call 147 [.t 5, .t 6]), o 8 (.bin .geq (.t 7) (iv 0)), om 4 8]
 .ret))
noncomputable def X.g_ContainsFunc_int (p0 : (List Int)) (f1 : Int → Option Bool) : Option Bool :=
 ((X.g_IndexFunc_int p0 f1).bind fun v1 => some (decide (v1 ≥ 0)))
theorem g_ContainsFunc_int_c0_ok (p0 : (List Int)) (cf1 : FuncId) (f1 : Int → Option Bool) (hf1 : ∀ q0 r, f1 q0 = some r → FK cf1 [cI q0] (cB r)) (r : Bool) (H : X.g_ContainsFunc_int p0 f1 = some r) : FK 92 [.c (dat 1 eI zI p0), .c (.clo cf1 [])] (cB r) := by
 unfold X.g_ContainsFunc_int at H
 refine fi Tryz.f92 g_ContainsFunc_int_ir [(4, cB r)] [] glL Tryz.func92 ?_
 refine sn [] [] [] [] [] id ?_
 obtain ⟨v1, h2, H⟩ := oB H
 refine so [.res (cI v1)] [] [(4, cB (decide (v1 ≥ 0)))] [] (aI (g_IndexFunc_int_c0_ok p0 (cf1) f1 hf1 v1 h2)) ?_
 cases H
 exact er
def i_isName_ir : S :=
 (sq [o 2 (.mv bF)]
 (.seq (sq [o 3 (.mv (iv 0))]
 (.blk 0 (.loop (.seq (sq [om 4 3, om 5 0, o 6 (.lens (.t 5)), o 7 (.bin .lss (.t 4) (.t 6))]
   (.ite (.t 7) .skip
   (.exit 0)))
   (.seq (.blk 1 (sq [om 10 0, om 11 3, o 12 (.ixs (.t 10) (.t 11)), o 13 (.bin .lss (.t 12) (.v (.int .u8 97))), om 14 13, og 15 (.mv (.t 0)) 14, og 16 (.mv (.t 3)) 14, og 17 (.ixs (.t 15) (.t 16)) 14, og 18 (.bin .gtr (.t 17) (.v (.int .u8 122))) 14, o 19 (.pick (.t 14) bT (.t 18))]
    (.ite (.t 19) (sq [o 2 (.mv bF)]
     .ret)
    .skip)))
   (.ops [om 8 3, o 9 (.bin .add (.t 8) (iv 1)), om 3 9]))))))
 (sq [om 20 0, o 21 (.lens (.t 20)), o 22 (.call 59 [.t 21, .v (.int .i64 1), .v (.int .i64 8)]), om 2 22]
 .ret)))
noncomputable def X.i_isName (p0 : (List UInt8)) : Option Bool :=
 ((loop (fun (x14 : Int) => ((bif (decide (x14 < (p0.length : Int))) then (if 0 ≤ x14 ∧ x14 < (p0.length : Int) then (bif (decide ((((p0.getD x14.toNat 0).toNat : Nat) : Int) < 97)) then some (Sum.inr (Sum.inr false)) else (if 0 ≤ x14 ∧ x14 < (p0.length : Int) then (bif (decide ((((p0.getD x14.toNat 0).toNat : Nat) : Int) > 122)) then some (Sum.inr (Sum.inr false)) else some (Sum.inl (W (x14 + 1)))) else none)) else none) else some (Sum.inr (Sum.inl ()))) : Option (Int ⊕ (Unit ⊕ Bool)))) 0).bind fun y21 => (Sum.elim (fun (y23 : Unit) => ((X.i_inRange (p0.length : Int) 1 8).bind fun v25 => some v25)) (fun (y24 : Bool) => some y24) y21))
theorem i_isName_ok (p0 : (List UInt8)) (r : Bool) (H : X.i_isName p0 = some r) : FK 180 [.c (.str p0)] (cB r) := by
 unfold X.i_isName at H
 refine fi Tryz.f180 i_isName_ir [(2, cB r)] [] glL Tryz.func180 ?_
 refine sn [] [] [] [] [] id ?_
 refine seq_in ?_
 refine sn [] [] [(3, cI 0)] [] [] id ?_
 refine ends_blk ?_
 obtain ⟨y21, h22, H⟩ := oB H
 refine tl [] [(0, .c (.str p0)), (3, cI 0)] [] id ?_
 refine loop_in (fun (x : Int) => lit [(0, .c (.str p0)), (3, cI x)] []) (orJ (fun (z : Unit) => At (.exit 0) (lit [(0, .c (.str p0))] [])) (fun (z : Bool) => At .ret (lit [(2, cB z)] []))) h22 ?_ ?_
 ·clear H h22
  intro x14 y0 H
  refine seq_in ?_
  refine sn [] [] [(7, cB (decide (x14 < (p0.length : Int))))] [] [] id ?_
  rcases oC H with ⟨c16, H⟩ | ⟨c16, H⟩
  ·refine it c16 ?_
   refine sk ?_
   refine seq_in ?_
   refine ends_blk ?_
   obtain ⟨g17, H⟩ := oI H
   rcases oC H with ⟨c18, H⟩ | ⟨c18, H⟩
   ·refine sn (rg 5 true []) [] [(19, cB true)] [] [] (fun t => aI g17 (aG 5 c18 (t))) ?_
    refine it rT ?_
    refine so [] [] [(2, cB false)] [] id ?_
    refine ends_ret ?_
    cases H
    exact rsr
   ·obtain ⟨g19, H⟩ := oI H
    refine sn (rg 5 false []) [] [(19, cB (decide ((((p0.getD x14.toNat 0).toNat : Nat) : Int) > 122)))] [] [] (fun t => aI g17 (aG 3 c18 (aI g19 (aG 2 c18 (t))))) ?_
    rcases oC H with ⟨c20, H⟩ | ⟨c20, H⟩
    ·refine it c20 ?_
     refine so [] [] [(2, cB false)] [] id ?_
     refine ends_ret ?_
     cases H
     exact rsr
    ·refine jf c20 ?_
     refine sk ?_
     refine oo [] [] [(0, .c (.str p0)), (3, cI (W (x14 + 1)))] [] id ?_
     cases H
     exact rr
  ·refine jf c16 ?_
   refine tl [] [(0, .c (.str p0))] [] id ?_
   refine ends_exit ?_
   cases H
   exact rse
 ·clear h22
  cases y21 with
  | inl y23 =>
   replace H := ofInl H
   rintro e s ⟨rfl, rfl⟩
   change EndsI _ _ _ _ _ _
   obtain ⟨v25, h26, H⟩ := oB H
   refine so [.res (cB v25)] [] [(2, cB v25)] [] (aI (i_inRange_ok (p0.length : Int) 1 8 v25 h26)) ?_
   cases H
   exact er
  | inr y24 =>
   replace H := ofInr H
   rintro e s ⟨rfl, rfl⟩
   cases H
   exact qr
def i_goodTerrain_1_ir : S :=
 (sq [o 2 (.mv bF)]
 (sq [om 3 0, o 4 (.call 59 [.t 3, .v (.int .i64 0), .v (.int .i64 9)]), o 5 (.not (.t 4)), om 2 5]
 .ret))
noncomputable def X.i_goodTerrain_1 (p0 : Int) : Option Bool :=
 ((X.i_inRange p0 0 9).bind fun v1 => some (!v1))
theorem i_goodTerrain_1_ok (p0 : Int) (r : Bool) (H : X.i_goodTerrain_1 p0 = some r) : FK 181 [cI p0] (cB r) := by
 unfold X.i_goodTerrain_1 at H
 refine fi Tryz.f181 i_goodTerrain_1_ir [(2, cB r)] [] glL Tryz.func181 ?_
 refine sn [] [] [] [] [] id ?_
 obtain ⟨v1, h2, H⟩ := oB H
 refine so [.res (cB v1)] [] [(2, cB (!v1))] [] (aI (i_inRange_ok p0 0 9 v1 h2)) ?_
 cases H
 exact er
def i_goodTerrain_ir : S :=
 (sq [o 2 (.box 5 (.t 0)), o 4 (.mv bF)]
 (.seq (sq [oa 5 0 2, ol 6 5, o 7 (.call 180 [.t 6]), o 8 (.not (.t 7)), om 9 8, og 10 (.fad 1 (.t 2)) 9, og 11 (.load 1 false (.t 10)) 9, og 12 (.len (.t 11)) 9, og 13 (.mv (.t 1)) 9, og 14 (.bin .neq (.t 12) (.t 13)) 9, o 15 (.pick (.t 9) bT (.t 14)), om 16 15, og 17 (.fad 2 (.t 2)) 16, og 18 (.load 1 false (.t 17)) 16, og 19 (.call 59 [.t 18, .v (.int .i64 (-3)), .v (.int .i64 3)]) 16, og 20 (.not (.t 19)) 16, o 21 (.pick (.t 16) bT (.t 20)), om 22 21, og 23 (.fad 3 (.t 2)) 22, og 24 (.load 1 false (.t 23)) 22, og 25 (.call 59 [.t 24, .v (.int .i64 0), .v (.int .i64 3)]) 22, og 26 (.not (.t 25)) 22, o 27 (.pick (.t 22) bT (.t 26))]
 (.ite (.t 27) (sq [o 4 (.mv bF)]
  .ret)
 .skip))
 (sq [oa 28 1 2, ol 29 28, o 30 (.call 92 [.t 29, .f 181]), o 31 (.not (.t 30)), om 4 31]
 .ret)))
noncomputable def X.i_goodTerrain (p0 : TTerrain) (p1 : Int) : Option Bool :=
 ((X.i_isName p0.Name).bind fun v1 => (bif (!v1) then some false else (bif ((p0.Cost.length : Int) != p1) then some false else ((X.i_inRange p0.Shift (-3) 3).bind fun v5 => (bif (!v5) then some false else ((X.i_inRange p0.Height 0 3).bind fun v8 => (bif (!v8) then some false else ((X.g_ContainsFunc_int p0.Cost (fun q0 => X.i_goodTerrain_1 q0)).bind fun v11 => some (!v11)))))))))
theorem i_goodTerrain_ok (p0 : TTerrain) (p1 : Int) (r : Bool) (H : X.i_goodTerrain p0 p1 = some r) : FK 143 [.agg (eTTerrain p0), cI p1] (cB r) := by
 unfold X.i_goodTerrain at H
 refine fi Tryz.f143 i_goodTerrain_ir [(4, cB r)] [] glL Tryz.func143 ?_
 refine sn [] [] [(2, pk 2)] [] [(2, va (eTTerrain p0))] id ?_
 refine seq_in ?_
 obtain ⟨v1, h2, H⟩ := oB H
 rcases oC H with ⟨c3, H⟩ | ⟨c3, H⟩
 ·refine sn ([.res (cB v1)] ++ rg 16 true []) [] [(27, cB true)] [] [] (fun t => aI (i_isName_ok p0.Name v1 h2) (aG 6 c3 (aG 10 rT (t)))) ?_
  refine it rT ?_
  refine so [] [] [(4, cB false)] [] id ?_
  cases H
  exact er
 ·rcases oC H with ⟨c4, H⟩ | ⟨c4, H⟩
  ·refine sn ([.res (cB v1)] ++ rg 6 false (rg 10 true [])) [] [(27, cB true)] [] [] (fun t => aI (i_isName_ok p0.Name v1 h2) (aG 3 c3 (lI p0.Cost (aG 3 c3 (aG 5 c4 (aG 5 rT (t))))))) ?_
   refine it rT ?_
   refine so [] [] [(4, cB false)] [] id ?_
   cases H
   exact er
  ·obtain ⟨v5, h6, H⟩ := oB H
   rcases oC H with ⟨c7, H⟩ | ⟨c7, H⟩
   ·refine sn ([.res (cB v1)] ++ rg 9 false ([.res (cB v5)] ++ rg 2 false (rg 5 true []))) [] [(27, cB true)] [] [] (fun t => aI (i_isName_ok p0.Name v1 h2) (aG 3 c3 (lI p0.Cost (aG 3 c3 (aG 3 c4 (aI (i_inRange_ok p0.Shift (-3) 3 v5 h6) (aG 2 c4 (aG 5 c7 (t))))))))) ?_
    refine it rT ?_
    refine so [] [] [(4, cB false)] [] id ?_
    cases H
    exact er
   ·obtain ⟨v8, h9, H⟩ := oB H
    refine sn ([.res (cB v1)] ++ rg 9 false ([.res (cB v5)] ++ rg 5 false ([.res (cB v8)] ++ rg 2 false []))) [] [(27, cB (!v8))] [] [] (fun t => aI (i_isName_ok p0.Name v1 h2) (aG 3 c3 (lI p0.Cost (aG 3 c3 (aG 3 c4 (aI (i_inRange_ok p0.Shift (-3) 3 v5 h6) (aG 2 c4 (aG 3 c7 (aI (i_inRange_ok p0.Height 0 3 v8 h9) (aG 2 c7 (t))))))))))) ?_
    rcases oC H with ⟨c10, H⟩ | ⟨c10, H⟩
    ·refine it c10 ?_
     refine so [] [] [(4, cB false)] [] id ?_
     cases H
     exact er
    ·refine jf c10 ?_
     refine sk ?_
     obtain ⟨v11, h12, H⟩ := oB H
     refine so [.res (cB v11)] [] [(4, cB (!v11))] [] (aI (g_ContainsFunc_int_c0_ok p0.Cost (181) (fun q0 => X.i_goodTerrain_1 q0) (fun q0 r h => i_goodTerrain_1_ok q0 r h) v11 h12)) ?_
     cases H
     exact er
def g_IndexFunc_Terrain_ir : S :=
 (sq [o 4 (.mv (iv 0))]
 (.seq (sq [om 6 0, o 7 (.len (.t 6)), o 8 (.mv (iv 0))]
 (.blk 0 (.loop (sq [o 9 (.bin .lss (.t 8) (.t 7))]
   (.seq (.ite (.t 9) .skip
   (.exit 0))
   (.seq (.blk 1 (sq [om 10 8, om 5 10]
    (sq [om 11 1, om 12 0, om 13 5, o 14 (.iad 5 (.t 12) (.t 13)), o 15 (.load 5 true (.t 14)), o 16 (.cald (.t 11) [.t 15])]
    (.ite (.t 16) (sq [om 17 5, om 4 17]
     .ret)
    .skip))))
   (.ops [o 18 (.bin .add (.t 8) (iv 1)), om 8 18])))))))
 (sq [o 4 (.mv (.v (.int .i64 (-1))))]
 .ret)))
noncomputable def X.g_IndexFunc_Terrain (p0 : (List TTerrain)) (f1 : TTerrain → Option Bool) : Option Int :=
 ((loop (fun (x16 : Int) => ((bif (decide (x16 < (p0.length : Int))) then ((at' zTTerrain p0 x16).bind fun v19 => ((f1 v19).bind fun v21 => (bif v21 then some (Sum.inr (Sum.inr x16)) else some (Sum.inl (W (x16 + 1)))))) else some (Sum.inr (Sum.inl ()))) : Option (Int ⊕ (Unit ⊕ Int)))) 0).bind fun y24 => (Sum.elim (fun (y26 : Unit) => some (-1)) (fun (y27 : Int) => some y27) y24))
theorem g_IndexFunc_Terrain_c1_ok (p0 : (List TTerrain)) (cf1 : FuncId) (cs1_0 : List AC) (f1 : TTerrain → Option Bool) (hf1 : ∀ q0 r, f1 q0 = some r → FK cf1 [.agg (eTTerrain q0), .c (.pd cs1_0 0)] (cB r)) (r : Int) (H : X.g_IndexFunc_Terrain p0 f1 = some r) : FK 182 [.c (dat 5 eTTerrain zTTerrain p0), .c (.clo cf1 [.pd cs1_0 0])] (cI r) := by
 unfold X.g_IndexFunc_Terrain at H
 refine fi Tryz.f182 g_IndexFunc_Terrain_ir [(4, cI r)] [] glL Tryz.func182 ?_
 refine sn [] [] [] [] [] id ?_
 refine seq_in ?_
 refine sn [] [] [(7, cL p0), (8, cI 0)] [] [] (fun t => lI p0 (t)) ?_
 refine ends_blk ?_
 obtain ⟨y24, h25, H⟩ := oB H
 refine tl [] [(0, dc 5 eTTerrain zTTerrain p0), (1, .c (.clo cf1 [.pd cs1_0 0])), (7, cL p0), (8, cI 0)] [] id ?_
 refine loop_in (fun (x : Int) => lit [(0, dc 5 eTTerrain zTTerrain p0), (1, .c (.clo cf1 [.pd cs1_0 0])), (7, cL p0), (8, cI x)] []) (orJ (fun (z : Unit) => At (.exit 0) (lit [] [])) (fun (z : Int) => At .ret (lit [(4, cI z)] []))) h25 ?_ ?_
 ·clear H h25
  intro x16 y0 H
  refine sn [] [] [(9, cB (decide (x16 < (p0.length : Int))))] [] [] id ?_
  refine seq_in ?_
  rcases oC H with ⟨c18, H⟩ | ⟨c18, H⟩
  ·refine it c18 ?_
   refine sk ?_
   refine seq_in ?_
   refine ends_blk ?_
   refine sn [] [] [(5, cI x16)] [] [] id ?_
   obtain ⟨v19, h20, H⟩ := oB H
   obtain ⟨v21, h22, H⟩ := oB H
   refine sn [.cs (eTTerrain v19), .res (cB v21)] [] [(16, cB v21)] [] [] (fun t => (a2 eTTerrain h20 (aI (hf1 v19 v21 h22) (t)))) ?_
   rcases oC H with ⟨c23, H⟩ | ⟨c23, H⟩
   ·refine it c23 ?_
    refine so [] [] [(4, cI x16)] [] id ?_
    refine ends_ret ?_
    cases H
    exact rsr
   ·refine jf c23 ?_
    refine sk ?_
    refine oo [] [] [(0, dc 5 eTTerrain zTTerrain p0), (1, .c (.clo cf1 [.pd cs1_0 0])), (7, cL p0), (8, cI (W (x16 + 1)))] [] id ?_
    cases H
    exact rr
  ·refine jf c18 ?_
   refine tl [] [] [] id ?_
   refine ends_exit ?_
   cases H
   exact rse
 ·clear h25
  cases y24 with
  | inl y26 =>
   replace H := ofInl H
   rintro e s ⟨rfl, rfl⟩
   change EndsI _ _ _ _ _ _
   refine so [] [] [(4, cI (-1))] [] id ?_
   cases H
   exact er
  | inr y27 =>
   replace H := ofInr H
   rintro e s ⟨rfl, rfl⟩
   cases H
   exact qr
def i_terrainIndex_1_ir : S :=
 (sq [o 2 (.box 5 (.t 0)), o 3 (.mv bF)]
 (sq [oa 4 0 2, ol 5 4, ol 6 1, o 7 (.bin .eql (.t 5) (.t 6)), om 3 7]
 .ret))
noncomputable def X.i_terrainIndex_1 (p0 : TTerrain) (p1 : (List UInt8)) : Option Bool :=
 some (p0.Name == p1)
theorem i_terrainIndex_1_ok (p0 : TTerrain) (p1 : (List UInt8)) (r : Bool) (H : X.i_terrainIndex_1 p0 p1 = some r) : FK 183 [.agg (eTTerrain p0), .c (.pd (eS p1) 0)] (cB r) := by
 unfold X.i_terrainIndex_1 at H
 refine fi Tryz.f183 i_terrainIndex_1_ir [(3, cB r)] [] glL Tryz.func183 ?_
 refine sn [] [] [(2, pk 2)] [] [(2, va (eTTerrain p0))] id ?_
 refine so [] [] [(3, cB (p0.Name == p1))] [] id ?_
 cases H
 exact er
def i_terrainIndex_ir : S :=
 (sq [o 3 (.box 1 (.t 1)), o 4 (.mv (iv 0))]
 (sq [om 5 0, o 6 (.clo 183 [.t 3]), o 7 (.call 182 [.t 5, .t 6]), om 4 7]
 .ret))
noncomputable def X.i_terrainIndex (p0 : (List TTerrain)) (p1 : (List UInt8)) : Option Int :=
 ((X.g_IndexFunc_Terrain p0 (fun q0 => X.i_terrainIndex_1 q0 p1)).bind fun v1 => some v1)
theorem i_terrainIndex_ok (p0 : (List TTerrain)) (p1 : (List UInt8)) (r : Int) (H : X.i_terrainIndex p0 p1 = some r) : FK 144 [.c (dat 5 eTTerrain zTTerrain p0), .c (.str p1)] (cI r) := by
 unfold X.i_terrainIndex at H
 refine fi Tryz.f144 i_terrainIndex_ir [(4, cI r)] [] glL Tryz.func144 ?_
 refine sn [] [] [(3, pk 3)] [] [(3, .var [.str p1] false)] id ?_
 obtain ⟨v1, h2, H⟩ := oB H
 refine so [.res (cI v1)] [] [(4, cI v1)] [] (aI (g_IndexFunc_Terrain_c1_ok p0 (183) (eS p1) (fun q0 => X.i_terrainIndex_1 q0 p1) (fun q0 r h => i_terrainIndex_1_ok q0 p1 r h) v1 h2)) ?_
 cases H
 exact er
def i_goodKind_ir : S :=
 (sq [o 1 (.box 6 (.t 0)), o 2 (.mv bF)]
 (sq [oa 3 0 1, ol 4 3, o 5 (.call 180 [.t 4]), om 6 5, oh 7 (.fad 1 (.t 1)) 6, oh 8 (.load 1 false (.t 7)) 6, oh 9 (.call 59 [.t 8, .v (.int .i64 1), .v (.int .i64 9)]) 6, o 10 (.pick (.t 6) (.t 9) bF), om 11 10, oh 12 (.fad 2 (.t 1)) 11, oh 13 (.load 1 false (.t 12)) 11, oh 14 (.call 59 [.t 13, .v (.int .i64 0), .v (.int .i64 9)]) 11, o 15 (.pick (.t 11) (.t 14) bF), om 16 15, oh 17 (.fad 3 (.t 1)) 16, oh 18 (.load 1 false (.t 17)) 16, oh 19 (.call 59 [.t 18, .v (.int .i64 1), .v (.int .i64 4)]) 16, o 20 (.pick (.t 16) (.t 19) bF), om 21 20, oh 22 (.fad 5 (.t 1)) 21, oh 23 (.load 1 false (.t 22)) 21, oh 24 (.call 59 [.t 23, .v (.int .i64 0), .v (.int .i64 4)]) 21, o 25 (.pick (.t 21) (.t 24) bF), om 2 25]
 .ret))
noncomputable def X.i_goodKind (p0 : TKind) : Option Bool :=
 ((X.i_isName p0.Name).bind fun v1 => (bif v1 then ((X.i_inRange p0.Strength 1 9).bind fun v4 => (bif v4 then ((X.i_inRange p0.Moves 0 9).bind fun v7 => (bif v7 then ((X.i_inRange p0.Steps 1 4).bind fun v10 => (bif v10 then ((X.i_inRange p0.View 0 4).bind fun v13 => some v13) else some false)) else some false)) else some false)) else some false))
theorem i_goodKind_ok (p0 : TKind) (r : Bool) (H : X.i_goodKind p0 = some r) : FK 145 [.agg (eTKind p0)] (cB r) := by
 unfold X.i_goodKind at H
 refine fi Tryz.f145 i_goodKind_ir [(2, cB r)] [] glL Tryz.func145 ?_
 refine so [] [] [(1, pk 1)] [(1, va (eTKind p0))] id ?_
 obtain ⟨v1, h2, H⟩ := oB H
 rcases oC H with ⟨c3, H⟩ | ⟨c3, H⟩
 ·obtain ⟨v4, h5, H⟩ := oB H
  rcases oC H with ⟨c6, H⟩ | ⟨c6, H⟩
  ·obtain ⟨v7, h8, H⟩ := oB H
   rcases oC H with ⟨c9, H⟩ | ⟨c9, H⟩
   ·obtain ⟨v10, h11, H⟩ := oB H
    rcases oC H with ⟨c12, H⟩ | ⟨c12, H⟩
    ·obtain ⟨v13, h14, H⟩ := oB H
     refine so ([.res (cB v1)] ++ rg 3 true ([.res (cB v4)] ++ rg 4 true ([.res (cB v7)] ++ rg 4 true ([.res (cB v10)] ++ rg 4 true [.res (cB v13), .g true])))) [] [(2, cB v13)] [] (fun t => aI (i_isName_ok p0.Name v1 h2) (aG 3 c3 (aI (i_inRange_ok p0.Strength 1 9 v4 h5) (aI c3 (aG 3 c6 (aI (i_inRange_ok p0.Moves 0 9 v7 h8) (aI c6 (aG 3 c9 (aI (i_inRange_ok p0.Steps 1 4 v10 h11) (aI c9 (aG 3 c12 (aI (i_inRange_ok p0.View 0 4 v13 h14) (aI c12 (t)))))))))))))) ?_
     cases H
     exact er
    ·refine so ([.res (cB v1)] ++ rg 3 true ([.res (cB v4)] ++ rg 4 true ([.res (cB v7)] ++ rg 4 true ([.res (cB v10), .g true] ++ rg 4 false [])))) [] [(2, cB false)] [] (fun t => aI (i_isName_ok p0.Name v1 h2) (aG 3 c3 (aI (i_inRange_ok p0.Strength 1 9 v4 h5) (aI c3 (aG 3 c6 (aI (i_inRange_ok p0.Moves 0 9 v7 h8) (aI c6 (aG 3 c9 (aI (i_inRange_ok p0.Steps 1 4 v10 h11) (aI c9 (aG 4 c12 (t)))))))))))) ?_
     cases H
     exact er
   ·refine so ([.res (cB v1)] ++ rg 3 true ([.res (cB v4)] ++ rg 4 true ([.res (cB v7), .g true] ++ rg 8 false []))) [] [(2, cB false)] [] (fun t => aI (i_isName_ok p0.Name v1 h2) (aG 3 c3 (aI (i_inRange_ok p0.Strength 1 9 v4 h5) (aI c3 (aG 3 c6 (aI (i_inRange_ok p0.Moves 0 9 v7 h8) (aI c6 (aG 4 c9 (aG 4 rF (t)))))))))) ?_
    cases H
    exact er
  ·refine so ([.res (cB v1)] ++ rg 3 true ([.res (cB v4), .g true] ++ rg 12 false [])) [] [(2, cB false)] [] (fun t => aI (i_isName_ok p0.Name v1 h2) (aG 3 c3 (aI (i_inRange_ok p0.Strength 1 9 v4 h5) (aI c3 (aG 4 c6 (aG 8 rF (t))))))) ?_
   cases H
   exact er
 ·refine so ([.res (cB v1)] ++ rg 16 false []) [] [(2, cB false)] [] (fun t => aI (i_isName_ok p0.Name v1 h2) (aG 4 c3 (aG 12 rF (t)))) ?_
  cases H
  exact er
def i_IsRules_ir : S :=
 (sq [o 1 (.box 7 (.t 0)), o 2 (.mv bF)]
 (.seq (sq [oa 7 0 1, ol 8 7, o 9 (.len (.t 8)), o 10 (.call 59 [.t 9, .v (.int .i64 1), .v (.int .i64 6)]), o 11 (.not (.t 10)), om 12 11, og 13 (.fad 1 (.t 1)) 12, og 14 (.load 1 false (.t 13)) 12, og 15 (.len (.t 14)) 12, og 16 (.call 59 [.t 15, .v (.int .i64 1), .v (.int .i64 4)]) 12, og 17 (.not (.t 16)) 12, o 18 (.pick (.t 12) bT (.t 17))]
 (.ite (.t 18) (sq [o 2 (.mv bF)]
  .ret)
 .skip))
 (.seq (sq [oa 19 0 1, ol 20 19, o 21 (.len (.t 20)), o 22 (.mv (iv 0))]
 (.blk 0 (.loop (sq [o 23 (.bin .lss (.t 22) (.t 21))]
   (.seq (.ite (.t 23) .skip
   (.exit 0))
   (.seq (.blk 1 (sq [om 24 22, o 25 (.iad 5 (.t 20) (.t 22)), o 26 (.load 5 true (.t 25)), o 4 (.alloc [.str [], .nil, .int .i64 0, .int .i64 0, .bool false]), om 3 24, os 5 4 26]
    (sq [o 27 (.load 5 true (.t 4)), oa 28 1 1, ol 29 28, o 30 (.len (.t 29)), o 31 (.call 143 [.t 27, .t 30]), o 32 (.not (.t 31)), om 33 32, og 34 (.fad 0 (.t 1)) 33, og 35 (.load 1 false (.t 34)) 33, og 36 (.fad 0 (.t 4)) 33, og 37 (.load 1 false (.t 36)) 33, og 38 (.call 144 [.t 35, .t 37]) 33, og 39 (.mv (.t 3)) 33, og 40 (.bin .neq (.t 38) (.t 39)) 33, o 41 (.pick (.t 33) bT (.t 40))]
    (.ite (.t 41) (sq [o 2 (.mv bF)]
     .ret)
    .skip))))
   (.ops [o 42 (.bin .add (.t 22) (iv 1)), om 22 42])))))))
 (.seq (sq [oa 43 1 1, ol 44 43, o 45 (.len (.t 44)), o 46 (.mv (iv 0))]
 (.blk 2 (.loop (sq [o 47 (.bin .lss (.t 46) (.t 45))]
   (.seq (.ite (.t 47) .skip
   (.exit 2))
   (.seq (.blk 3 (sq [om 48 46, o 49 (.iad 6 (.t 44) (.t 46)), o 50 (.load 6 true (.t 49)), o 6 (.alloc [.str [], .int .i64 0, .int .i64 0, .int .i64 0, .bool false, .int .i64 0]), om 5 48, os 6 6 50]
    (sq [o 51 (.load 6 true (.t 6)), o 52 (.call 145 [.t 51]), o 53 (.not (.t 52)), om 54 53, og 55 (.fad 1 (.t 1)) 54, og 56 (.load 1 false (.t 55)) 54, og 57 (.fad 0 (.t 6)) 54, og 58 (.load 1 false (.t 57)) 54, og 59 (.call 96 [.t 56, .t 58]) 54, og 60 (.mv (.t 5)) 54, og 61 (.bin .neq (.t 59) (.t 60)) 54, o 62 (.pick (.t 54) bT (.t 61))]
    (.ite (.t 62) (sq [o 2 (.mv bF)]
     .ret)
    .skip))))
   (.ops [o 63 (.bin .add (.t 46) (iv 1)), om 46 63])))))))
 (sq [oa 64 2 1, ol 65 64, o 66 (.call 59 [.t 65, .v (.int .i64 1), .v (.int .i64 4)]), om 67 66, oh 68 (.fad 3 (.t 1)) 67, oh 69 (.load 1 false (.t 68)) 67, oh 70 (.call 59 [.t 69, .v (.int .i64 0), .v (.int .i64 9)]) 67, o 71 (.pick (.t 67) (.t 70) bF), om 72 71, oh 73 (.fad 4 (.t 1)) 72, oh 74 (.load 1 false (.t 73)) 72, oh 75 (.call 59 [.t 74, .v (.int .i64 1), .v (.int .i64 9)]) 72, o 76 (.pick (.t 72) (.t 75) bF), om 77 76, oh 78 (.fad 5 (.t 1)) 77, oh 79 (.load 1 false (.t 78)) 77, oh 80 (.call 59 [.t 79, .v (.int .i64 0), .v (.int .i64 20)]) 77, o 81 (.pick (.t 77) (.t 80) bF), om 82 81, oh 83 (.fad 6 (.t 1)) 82, oh 84 (.load 1 false (.t 83)) 82, oh 85 (.call 59 [.t 84, .v (.int .i64 1), .v (.int .i64 30)]) 82, o 86 (.pick (.t 82) (.t 85) bF), om 2 86]
 .ret)))))
noncomputable def X.i_IsRules (p0 : TRules) : Option Bool :=
 ((X.i_inRange (p0.Terrains.length : Int) 1 6).bind fun v7 => (bif (!v7) then some false else ((X.i_inRange (p0.Kinds.length : Int) 1 4).bind fun v10 => (bif (!v10) then some false else ((loop (fun (x70 : Int) => ((bif (decide (x70 < (p0.Terrains.length : Int))) then ((at' zTTerrain p0.Terrains x70).bind fun v73 => ((X.i_goodTerrain v73 (p0.Kinds.length : Int)).bind fun v75 => (bif (!v75) then some (Sum.inr (Sum.inr false)) else ((X.i_terrainIndex p0.Terrains v73.Name).bind fun v78 => (bif (v78 != x70) then some (Sum.inr (Sum.inr false)) else some (Sum.inl (W (x70 + 1)))))))) else some (Sum.inr (Sum.inl ()))) : Option (Int ⊕ (Unit ⊕ Bool)))) 0).bind fun y81 => (Sum.elim (fun (y83 : Unit) => ((loop (fun (x142 : Int) => ((bif (decide (x142 < (p0.Kinds.length : Int))) then ((at' zTKind p0.Kinds x142).bind fun v145 => ((X.i_goodKind v145).bind fun v147 => (bif (!v147) then some (Sum.inr (Sum.inr false)) else ((X.i_kindIndex p0.Kinds v145.Name).bind fun v150 => (bif (v150 != x142) then some (Sum.inr (Sum.inr false)) else some (Sum.inl (W (x142 + 1)))))))) else some (Sum.inr (Sum.inl ()))) : Option (Int ⊕ (Unit ⊕ Bool)))) 0).bind fun y153 => (Sum.elim (fun (y155 : Unit) => ((X.i_inRange p0.Stack 1 4).bind fun v157 => (bif v157 then ((X.i_inRange p0.River 0 9).bind fun v160 => (bif v160 then ((X.i_inRange p0.Road 1 9).bind fun v163 => (bif v163 then ((X.i_inRange p0.Supply 0 20).bind fun v166 => (bif v166 then ((X.i_inRange p0.Turns 1 30).bind fun v169 => some v169) else some false)) else some false)) else some false)) else some false))) (fun (y156 : Bool) => some y156) y153))) (fun (y84 : Bool) => some y84) y81))))))
theorem i_IsRules_ok (p0 : TRules) (r : Bool) (H : X.i_IsRules p0 = some r) : FK 90 [.agg (eTRules p0)] (cB r) := by
 unfold X.i_IsRules at H
 refine fi Tryz.f90 i_IsRules_ir [(2, cB r)] [] glL Tryz.func90 ?_
 refine so [] [] [(1, pk 1)] [(1, va (eTRules p0))] id ?_
 refine seq_in ?_
 obtain ⟨v7, h8, H⟩ := oB H
 rcases oC H with ⟨c9, H⟩ | ⟨c9, H⟩
 ·refine sn ([.res (cB v7)] ++ rg 6 true []) [] [(18, cB true)] [] [] (fun t => lI p0.Terrains (aI (i_inRange_ok (p0.Terrains.length : Int) 1 6 v7 h8) (aG 6 c9 (t)))) ?_
  refine it rT ?_
  refine so [] [] [(2, cB false)] [] id ?_
  cases H
  exact er
 ·obtain ⟨v10, h11, H⟩ := oB H
  refine sn ([.res (cB v7)] ++ rg 4 false ([.res (cB v10)] ++ rg 2 false [])) [] [(18, cB (!v10))] [] [] (fun t => lI p0.Terrains (aI (i_inRange_ok (p0.Terrains.length : Int) 1 6 v7 h8) (aG 3 c9 (lI p0.Kinds (aI c9 (aI (i_inRange_ok (p0.Kinds.length : Int) 1 4 v10 h11) (aG 2 c9 (t)))))))) ?_
  rcases oC H with ⟨c12, H⟩ | ⟨c12, H⟩
  ·refine it c12 ?_
   refine so [] [] [(2, cB false)] [] id ?_
   cases H
   exact er
  ·refine jf c12 ?_
   refine sk ?_
   refine seq_in ?_
   refine sn [] [] [(20, dc 5 eTTerrain zTTerrain p0.Terrains), (21, cL p0.Terrains), (22, cI 0)] [] [] (fun t => lI p0.Terrains (t)) ?_
   refine ends_blk ?_
   obtain ⟨y81, h82, H⟩ := oB H
   refine tl [] [(1, pk 1), (20, dc 5 eTTerrain zTTerrain p0.Terrains), (21, cL p0.Terrains), (22, cI 0)] [(1, va (eTRules p0))] id ?_
   refine loop_in (fun (x : Int) => lit [(1, pk 1), (20, dc 5 eTTerrain zTTerrain p0.Terrains), (21, cL p0.Terrains), (22, cI x)] [(1, va (eTRules p0))]) (orJ (fun (z : Unit) => At (.exit 0) (lit [(1, pk 1)] [(1, va (eTRules p0))])) (fun (z : Bool) => At .ret (lit [(2, cB z)] []))) h82 ?_ ?_
   ·clear H h82
    intro x70 y0 H
    refine sn [] [] [(23, cB (decide (x70 < (p0.Terrains.length : Int))))] [] [] id ?_
    refine seq_in ?_
    rcases oC H with ⟨c72, H⟩ | ⟨c72, H⟩
    ·refine it c72 ?_
     refine sk ?_
     refine seq_in ?_
     refine ends_blk ?_
     obtain ⟨v73, h74, H⟩ := oB H
     refine sn [.cs (eTTerrain v73)] [] [(3, cI x70), (4, pk 4)] [] [(4, va (eTTerrain v73))] (a2 eTTerrain h74) ?_
     obtain ⟨v75, h76, H⟩ := oB H
     rcases oC H with ⟨c77, H⟩ | ⟨c77, H⟩
     ·refine sn ([.res (cB v75)] ++ rg 8 true []) [] [(41, cB true)] [] [] (fun t => lI p0.Kinds (aI (i_goodTerrain_ok v73 (p0.Kinds.length : Int) v75 h76) (aG 8 c77 (t)))) ?_
      refine it rT ?_
      refine so [] [] [(2, cB false)] [] id ?_
      refine ends_ret ?_
      cases H
      exact rsr
     ·obtain ⟨v78, h79, H⟩ := oB H
      refine sn ([.res (cB v75)] ++ rg 5 false ([.res (cI v78)] ++ rg 3 false [])) [] [(41, cB (v78 != x70))] [] [] (fun t => lI p0.Kinds (aI (i_goodTerrain_ok v73 (p0.Kinds.length : Int) v75 h76) (aG 5 c77 (aI (i_terrainIndex_ok p0.Terrains v73.Name v78 h79) (aG 3 c77 (t)))))) ?_
      rcases oC H with ⟨c80, H⟩ | ⟨c80, H⟩
      ·refine it c80 ?_
       refine so [] [] [(2, cB false)] [] id ?_
       refine ends_ret ?_
       cases H
       exact rsr
      ·refine jf c80 ?_
       refine sk ?_
       refine oo [] [] [(1, pk 1), (20, dc 5 eTTerrain zTTerrain p0.Terrains), (21, cL p0.Terrains), (22, cI (W (x70 + 1)))] [(1, va (eTRules p0))] id ?_
       cases H
       exact rr
    ·refine jf c72 ?_
     refine tl [] [(1, pk 1)] [(1, va (eTRules p0))] id ?_
     refine ends_exit ?_
     cases H
     exact rse
   ·clear h82
    cases y81 with
    | inl y83 =>
     replace H := ofInl H
     rintro e s ⟨rfl, rfl⟩
     change EndsI _ _ _ _ _ _
     refine seq_in ?_
     refine sn [] [] [(44, dc 6 eTKind zTKind p0.Kinds), (45, cL p0.Kinds), (46, cI 0)] [] [] (fun t => lI p0.Kinds (t)) ?_
     refine ends_blk ?_
     obtain ⟨y153, h154, H⟩ := oB H
     refine tl [] [(1, pk 1), (44, dc 6 eTKind zTKind p0.Kinds), (45, cL p0.Kinds), (46, cI 0)] [(1, va (eTRules p0))] id ?_
     refine loop_in (fun (x : Int) => lit [(1, pk 1), (44, dc 6 eTKind zTKind p0.Kinds), (45, cL p0.Kinds), (46, cI x)] [(1, va (eTRules p0))]) (orJ (fun (z : Unit) => At (.exit 2) (lit [(1, pk 1)] [(1, va (eTRules p0))])) (fun (z : Bool) => At .ret (lit [(2, cB z)] []))) h154 ?_ ?_
     ·clear H h154
      intro x142 y0 H
      refine sn [] [] [(47, cB (decide (x142 < (p0.Kinds.length : Int))))] [] [] id ?_
      refine seq_in ?_
      rcases oC H with ⟨c144, H⟩ | ⟨c144, H⟩
      ·refine it c144 ?_
       refine sk ?_
       refine seq_in ?_
       refine ends_blk ?_
       obtain ⟨v145, h146, H⟩ := oB H
       refine sn [.cs (eTKind v145)] [] [(5, cI x142), (6, pk 6)] [] [(6, va (eTKind v145))] (a2 eTKind h146) ?_
       obtain ⟨v147, h148, H⟩ := oB H
       rcases oC H with ⟨c149, H⟩ | ⟨c149, H⟩
       ·refine sn ([.res (cB v147)] ++ rg 8 true []) [] [(62, cB true)] [] [] (fun t => aI (i_goodKind_ok v145 v147 h148) (aG 8 c149 (t))) ?_
        refine it rT ?_
        refine so [] [] [(2, cB false)] [] id ?_
        refine ends_ret ?_
        cases H
        exact rsr
       ·obtain ⟨v150, h151, H⟩ := oB H
        refine sn ([.res (cB v147)] ++ rg 5 false ([.res (cI v150)] ++ rg 3 false [])) [] [(62, cB (v150 != x142))] [] [] (fun t => aI (i_goodKind_ok v145 v147 h148) (aG 5 c149 (aI (i_kindIndex_ok p0.Kinds v145.Name v150 h151) (aG 3 c149 (t))))) ?_
        rcases oC H with ⟨c152, H⟩ | ⟨c152, H⟩
        ·refine it c152 ?_
         refine so [] [] [(2, cB false)] [] id ?_
         refine ends_ret ?_
         cases H
         exact rsr
        ·refine jf c152 ?_
         refine sk ?_
         refine oo [] [] [(1, pk 1), (44, dc 6 eTKind zTKind p0.Kinds), (45, cL p0.Kinds), (46, cI (W (x142 + 1)))] [(1, va (eTRules p0))] id ?_
         cases H
         exact rr
      ·refine jf c144 ?_
       refine tl [] [(1, pk 1)] [(1, va (eTRules p0))] id ?_
       refine ends_exit ?_
       cases H
       exact rse
     ·clear h154
      cases y153 with
      | inl y155 =>
       replace H := ofInl H
       rintro e s ⟨rfl, rfl⟩
       change EndsI _ _ _ _ _ _
       obtain ⟨v157, h158, H⟩ := oB H
       rcases oC H with ⟨c159, H⟩ | ⟨c159, H⟩
       ·obtain ⟨v160, h161, H⟩ := oB H
        rcases oC H with ⟨c162, H⟩ | ⟨c162, H⟩
        ·obtain ⟨v163, h164, H⟩ := oB H
         rcases oC H with ⟨c165, H⟩ | ⟨c165, H⟩
         ·obtain ⟨v166, h167, H⟩ := oB H
          rcases oC H with ⟨c168, H⟩ | ⟨c168, H⟩
          ·obtain ⟨v169, h170, H⟩ := oB H
           refine so ([.res (cB v157)] ++ rg 3 true ([.res (cB v160)] ++ rg 4 true ([.res (cB v163)] ++ rg 4 true ([.res (cB v166)] ++ rg 4 true [.res (cB v169), .g true])))) [] [(2, cB v169)] [] (fun t => aI (i_inRange_ok p0.Stack 1 4 v157 h158) (aG 3 c159 (aI (i_inRange_ok p0.River 0 9 v160 h161) (aI c159 (aG 3 c162 (aI (i_inRange_ok p0.Road 1 9 v163 h164) (aI c162 (aG 3 c165 (aI (i_inRange_ok p0.Supply 0 20 v166 h167) (aI c165 (aG 3 c168 (aI (i_inRange_ok p0.Turns 1 30 v169 h170) (aI c168 (t)))))))))))))) ?_
           cases H
           exact er
          ·refine so ([.res (cB v157)] ++ rg 3 true ([.res (cB v160)] ++ rg 4 true ([.res (cB v163)] ++ rg 4 true ([.res (cB v166), .g true] ++ rg 4 false [])))) [] [(2, cB false)] [] (fun t => aI (i_inRange_ok p0.Stack 1 4 v157 h158) (aG 3 c159 (aI (i_inRange_ok p0.River 0 9 v160 h161) (aI c159 (aG 3 c162 (aI (i_inRange_ok p0.Road 1 9 v163 h164) (aI c162 (aG 3 c165 (aI (i_inRange_ok p0.Supply 0 20 v166 h167) (aI c165 (aG 4 c168 (t)))))))))))) ?_
           cases H
           exact er
         ·refine so ([.res (cB v157)] ++ rg 3 true ([.res (cB v160)] ++ rg 4 true ([.res (cB v163), .g true] ++ rg 8 false []))) [] [(2, cB false)] [] (fun t => aI (i_inRange_ok p0.Stack 1 4 v157 h158) (aG 3 c159 (aI (i_inRange_ok p0.River 0 9 v160 h161) (aI c159 (aG 3 c162 (aI (i_inRange_ok p0.Road 1 9 v163 h164) (aI c162 (aG 4 c165 (aG 4 rF (t)))))))))) ?_
          cases H
          exact er
        ·refine so ([.res (cB v157)] ++ rg 3 true ([.res (cB v160), .g true] ++ rg 12 false [])) [] [(2, cB false)] [] (fun t => aI (i_inRange_ok p0.Stack 1 4 v157 h158) (aG 3 c159 (aI (i_inRange_ok p0.River 0 9 v160 h161) (aI c159 (aG 4 c162 (aG 8 rF (t))))))) ?_
         cases H
         exact er
       ·refine so ([.res (cB v157)] ++ rg 16 false []) [] [(2, cB false)] [] (fun t => aI (i_inRange_ok p0.Stack 1 4 v157 h158) (aG 4 c159 (aG 12 rF (t)))) ?_
        cases H
        exact er
      | inr y156 =>
       replace H := ofInr H
       rintro e s ⟨rfl, rfl⟩
       cases H
       exact qr
    | inr y84 =>
     replace H := ofInr H
     rintro e s ⟨rfl, rfl⟩
     cases H
     exact qr
def i_increasing_ir : S :=
 (sq [o 2 (.mv bF)]
 (.seq (sq [o 3 (.mv (iv 1))]
 (.blk 0 (.loop (.seq (sq [om 4 3, om 5 0, o 6 (.len (.t 5)), o 7 (.bin .lss (.t 4) (.t 6))]
   (.ite (.t 7) .skip
   (.exit 0)))
   (.seq (.blk 1 (.seq (.drw [(0, 1), (0, 2), (0, 5), (1, 5), (2, 5), (3, 5), (4, 5), (0, 6), (1, 6), (2, 6), (3, 6), (4, 6), (5, 6), (0, 7), (1, 7), (2, 7), (3, 7), (4, 7), (0, 8), (1, 8), (2, 8), (3, 8), (4, 8)] [om 10 0, om 11 3, o 12 (.bin .sub (.t 11) (iv 1)), o 13 (.iad 1 (.t 10) (.t 12)), ol 14 13, om 15 0, om 16 3, o 17 (.iad 1 (.t 15) (.t 16)), ol 18 17, o 19 (.bin .geq (.t 14) (.t 18))])
    (.ite (.t 19) (sq [o 2 (.mv bF)]
     .ret)
    .skip)))
   (.ops [om 8 3, o 9 (.bin .add (.t 8) (iv 1)), om 3 9]))))))
 (sq [o 2 (.mv bT)]
 .ret)))
noncomputable def X.i_increasing (p0 : (List Int)) : Option Bool :=
 ((loop (fun (x16 : Int) => ((bif (decide (x16 < (p0.length : Int))) then ((at' zI p0 (W (x16 - 1))).bind fun v19 => ((at' zI p0 x16).bind fun v21 => (bif (decide (v19 ≥ v21)) then some (Sum.inr (Sum.inr false)) else some (Sum.inl (W (x16 + 1)))))) else some (Sum.inr (Sum.inl ()))) : Option (Int ⊕ (Unit ⊕ Bool)))) 1).bind fun y24 => (Sum.elim (fun (y26 : Unit) => some true) (fun (y27 : Bool) => some y27) y24))
theorem i_increasing_ok (p0 : (List Int)) (r : Bool) (H : X.i_increasing p0 = some r) : FK 100 [.c (dat 1 eI zI p0)] (cB r) := by
 unfold X.i_increasing at H
 refine fi Tryz.f100 i_increasing_ir [(2, cB r)] [] glL Tryz.func100 ?_
 refine sn [] [] [] [] [] id ?_
 refine seq_in ?_
 refine sn [] [] [(3, cI 1)] [] [] id ?_
 refine ends_blk ?_
 obtain ⟨y24, h25, H⟩ := oB H
 refine tl [] [(0, dc 1 eI zI p0), (3, cI 1)] [] id ?_
 refine loop_in (fun (x : Int) => lit [(0, dc 1 eI zI p0), (3, cI x)] []) (orJ (fun (z : Unit) => At (.exit 0) (lit [] [])) (fun (z : Bool) => At .ret (lit [(2, cB z)] []))) h25 ?_ ?_
 ·clear H h25
  intro x16 y0 H
  refine seq_in ?_
  refine sn [] [] [(7, cB (decide (x16 < (p0.length : Int))))] [] [] (fun t => lI p0 (t)) ?_
  rcases oC H with ⟨c18, H⟩ | ⟨c18, H⟩
  ·refine it c18 ?_
   refine sk ?_
   refine seq_in ?_
   refine ends_blk ?_
   obtain ⟨v19, h20, H⟩ := oB H
   obtain ⟨v21, h22, H⟩ := oB H
   refine xn [.cs (eI v19), .cs (eI v21)] [] [(19, cB (decide (v19 ≥ v21)))] [] [] (fun t => (a2 eI h20 (aI rN ((a2 eI h22 (aI rN (t))))))) ?_
   rcases oC H with ⟨c23, H⟩ | ⟨c23, H⟩
   ·refine it c23 ?_
    refine so [] [] [(2, cB false)] [] id ?_
    refine ends_ret ?_
    cases H
    exact rsr
   ·refine jf c23 ?_
    refine sk ?_
    refine oo [] [] [(0, dc 1 eI zI p0), (3, cI (W (x16 + 1)))] [] id ?_
    cases H
    exact rr
  ·refine jf c18 ?_
   refine tl [] [] [] id ?_
   refine ends_exit ?_
   cases H
   exact rse
 ·clear h25
  cases y24 with
  | inl y26 =>
   replace H := ofInl H
   rintro e s ⟨rfl, rfl⟩
   change EndsI _ _ _ _ _ _
   refine so [] [] [(2, cB true)] [] id ?_
   cases H
   exact er
  | inr y27 =>
   replace H := ofInr H
   rintro e s ⟨rfl, rfl⟩
   cases H
   exact qr
def i_isIndex_ir : S :=
 (sq [o 4 (.mv bF)]
 (sq [om 5 0, om 6 1, o 7 (.bin .sub (.t 6) (iv 1)), o 8 (.call 59 [.t 5, .v (.int .i64 0), .t 7]), om 4 8]
 .ret))
noncomputable def X.i_isIndex (p0 : Int) (p1 : Int) : Option Bool :=
 ((X.i_inRange p0 0 (W (p1 - 1))).bind fun v1 => some v1)
theorem i_isIndex_ok (p0 : Int) (p1 : Int) (r : Bool) (H : X.i_isIndex p0 p1 = some r) : FK 102 [cI p0, cI p1] (cB r) := by
 unfold X.i_isIndex at H
 refine fi Tryz.f102 i_isIndex_ir [(4, cB r)] [] glL Tryz.func102 ?_
 refine sn [] [] [] [] [] id ?_
 obtain ⟨v1, h2, H⟩ := oB H
 refine so [.res (cB v1)] [] [(4, cB v1)] [] (aI (i_inRange_ok p0 0 (W (p1 - 1)) v1 h2)) ?_
 cases H
 exact er
def i_indexOf_ir : S :=
 (sq [o 2 (.box 5 (.t 0)), o 3 (.box 2 (.t 1)), o 4 (.mv (iv 0))]
 (.seq (sq [oa 5 0 3, ol 6 5, oa 7 0 2, ol 8 7, o 9 (.call 102 [.t 6, .t 8]), o 10 (.not (.t 9)), om 11 10, og 12 (.fad 1 (.t 3)) 11, og 13 (.load 1 false (.t 12)) 11, og 14 (.fad 1 (.t 2)) 11, og 15 (.load 1 false (.t 14)) 11, og 16 (.call 102 [.t 13, .t 15]) 11, og 17 (.not (.t 16)) 11, o 18 (.pick (.t 11) bT (.t 17))]
 (.ite (.t 18) (sq [o 4 (.mv (.v (.int .i64 (-1))))]
  .ret)
 .skip))
 (sq [oa 19 1 3, ol 20 19, oa 21 0 2, ol 22 21, o 23 (.bin .mul (.t 20) (.t 22)), oa 24 0 3, ol 25 24, o 26 (.bin .add (.t 23) (.t 25)), om 4 26]
 .ret)))
noncomputable def X.i_indexOf (p0 : TMap) (p1 : THex) : Option Int :=
 ((X.i_isIndex p1.Q p0.Width).bind fun v7 => (bif (!v7) then some (-1) else ((X.i_isIndex p1.R p0.Height).bind fun v10 => (bif (!v10) then some (-1) else some (W ((W (p1.R * p0.Width)) + p1.Q))))))
theorem i_indexOf_ok (p0 : TMap) (p1 : THex) (r : Int) (H : X.i_indexOf p0 p1 = some r) : FK 223 [.agg (eTMap p0), .agg (eTHex p1)] (cI r) := by
 unfold X.i_indexOf at H
 refine fi Tryz.f223 i_indexOf_ir [(4, cI r)] [] glL Tryz.func223 ?_
 refine so [] [] [(2, pk 2), (3, pk 3)] [(2, va (eTMap p0)), (3, va (eTHex p1))] id ?_
 refine seq_in ?_
 obtain ⟨v7, h8, H⟩ := oB H
 rcases oC H with ⟨c9, H⟩ | ⟨c9, H⟩
 ·refine sn ([.res (cB v7)] ++ rg 7 true []) [] [(18, cB true)] [] [] (fun t => aI (i_isIndex_ok p1.Q p0.Width v7 h8) (aG 7 c9 (t))) ?_
  refine it rT ?_
  refine so [] [] [(4, cI (-1))] [] id ?_
  cases H
  exact er
 ·obtain ⟨v10, h11, H⟩ := oB H
  refine sn ([.res (cB v7)] ++ rg 5 false ([.res (cB v10)] ++ rg 2 false [])) [] [(18, cB (!v10))] [] [] (fun t => aI (i_isIndex_ok p1.Q p0.Width v7 h8) (aG 5 c9 (aI (i_isIndex_ok p1.R p0.Height v10 h11) (aG 2 c9 (t))))) ?_
  rcases oC H with ⟨c12, H⟩ | ⟨c12, H⟩
  ·refine it c12 ?_
   refine so [] [] [(4, cI (-1))] [] id ?_
   cases H
   exact er
  ·refine jf c12 ?_
   refine sk ?_
   refine so [] [] [(4, cI (W ((W (p1.R * p0.Width)) + p1.Q)))] [] id ?_
   cases H
   exact er
def i_stepBy_ir : S :=
 (sq [o 3 (.box 2 (.t 0)), o 6 (.alloc [.int .i64 0, .int .i64 0])]
 (.seq (.drw [(0, 2), (1, 2), (0, 3), (1, 3), (2, 3), (0, 4), (1, 4), (2, 4), (0, 5), (1, 5), (2, 5), (0, 6), (1, 6), (2, 6), (0, 7), (1, 7), (0, 9), (1, 9), (2, 9), (3, 9), (4, 9), (5, 9), (6, 9), (7, 9), (8, 9), (0, 10), (1, 10), (2, 10), (3, 10), (4, 10), (5, 10), (6, 10), (7, 10), (8, 10), (0, 11), (1, 11), (2, 11), (3, 11), (4, 11), (5, 11), (6, 11), (7, 11), (8, 11), (9, 11), (10, 11), (0, 12), (1, 12), (2, 12), (3, 12), (4, 12), (5, 12), (6, 12), (7, 12), (8, 12), (9, 12), (10, 12), (11, 12), (0, 13), (1, 13), (2, 13), (3, 13), (4, 13), (5, 13), (6, 13), (7, 13), (8, 13), (9, 13), (10, 13), (11, 13), (0, 14), (1, 14), (2, 14), (3, 14), (4, 14), (5, 14), (6, 14), (7, 14), (8, 14), (9, 14), (10, 14), (11, 14), (0, 15), (1, 15), (2, 15), (3, 15), (4, 15), (5, 15), (6, 15), (7, 15), (8, 15), (9, 15), (10, 15), (11, 15), (0, 16), (1, 16), (2, 16), (3, 16), (4, 16), (5, 16), (6, 16), (7, 16), (8, 16), (9, 16), (10, 16), (0, 17), (1, 17), (2, 17), (3, 17), (4, 17), (5, 17), (6, 17), (7, 17), (8, 17)] [oa 7 0 3, ol 8 7, om 9 2, om 10 1, o 11 (.iar 6 2 (.g 6) (.t 10)), oa 12 0 11, ol 13 12, o 14 (.bin .mul (.t 9) (.t 13)), o 15 (.bin .add (.t 8) (.t 14)), oa 16 1 3, ol 17 16, om 18 2, om 19 1, o 20 (.iar 6 2 (.g 6) (.t 19)), oa 21 1 20, ol 22 21, o 23 (.bin .mul (.t 18) (.t 22)), o 24 (.bin .add (.t 17) (.t 23)), o 25 (.build [.int .i64 0, .int .i64 0] [(0, 1, .t 15), (1, 1, .t 24)]), os 2 6 25])
 .ret))
noncomputable def X.i_stepBy (p0 : THex) (p1 : Int) (p2 : Int) : Option THex :=
 ((at' zTHex dirs p1).bind fun v1 => some (THex.mk (W (p0.Q + (W (p2 * v1.Q)))) (W (p0.R + (W (p2 * v1.R))))))
theorem i_stepBy_ok (p0 : THex) (p1 : Int) (p2 : Int) (r : THex) (H : X.i_stepBy p0 p1 p2 = some r) : FK 224 [.agg (eTHex p0), cI p1, cI p2] (.agg (eTHex r)) := by
 unfold X.i_stepBy at H
 refine fi Tryz.f224 i_stepBy_ir [(6, pk 6)] [(6, va (eTHex r))] glL Tryz.func224 ?_
 refine sn [] [] [(3, pk 3), (6, pk 6)] [] [(3, va (eTHex p0)), (6, .var [jI 0, jI 0] false)] id ?_
 obtain ⟨v1, h2, H⟩ := oB H
 refine xn [.cs (eTHex v1), .cs (eTHex v1)] [] [] [6] [(6, .var [jI (W (p0.Q + (W (p2 * v1.Q)))), jI (W (p0.R + (W (p2 * v1.R))))] false)] (fun t => aI (at_lt h2) (aI (dirs_at h2) (aI rN (aI (at_lt h2) (aI (dirs_at h2) (aI rN (t))))))) ?_
 refine tl [] [(6, pk 6)] [(6, .var [jI (W (p0.Q + (W (p2 * v1.Q)))), jI (W (p0.R + (W (p2 * v1.R))))] false)] id ?_
 cases H
 exact er
def i_hexOf_ir : S :=
 (sq [o 2 (.box 5 (.t 0)), o 4 (.alloc [.int .i64 0, .int .i64 0])]
 (.seq (.drw [(0, 1), (0, 2), (0, 4), (1, 4), (2, 4), (3, 4), (0, 5), (1, 5), (2, 5), (3, 5), (4, 5), (0, 6), (1, 6), (2, 6), (3, 6), (4, 6), (0, 7), (1, 7), (2, 7), (3, 7)] [om 5 1, oa 6 0 2, ol 7 6, o 8 (.bin .rem (.t 5) (.t 7)), om 9 1, oa 10 0 2, ol 11 10, o 12 (.bin .quo (.t 9) (.t 11)), o 13 (.build [.int .i64 0, .int .i64 0] [(0, 1, .t 8), (1, 1, .t 12)]), os 2 4 13])
 .ret))
noncomputable def X.i_hexOf (p0 : TMap) (p1 : Int) : Option THex :=
 (if p0.Width ≠ 0 then (if p0.Width ≠ 0 then some (THex.mk (Int.tmod p1 p0.Width) (W (Int.tdiv p1 p0.Width))) else none) else none)
theorem i_hexOf_ok (p0 : TMap) (p1 : Int) (r : THex) (H : X.i_hexOf p0 p1 = some r) : FK 225 [.agg (eTMap p0), cI p1] (.agg (eTHex r)) := by
 unfold X.i_hexOf at H
 refine fi Tryz.f225 i_hexOf_ir [(4, pk 4)] [(4, va (eTHex r))] glL Tryz.func225 ?_
 refine sn [] [] [(2, pk 2), (4, pk 4)] [] [(2, va (eTMap p0)), (4, .var [jI 0, jI 0] false)] id ?_
 obtain ⟨g1, H⟩ := oI H
 obtain ⟨g2, H⟩ := oI H
 refine xn [] [] [] [4] [(4, .var [jI (Int.tmod p1 p0.Width), jI (W (Int.tdiv p1 p0.Width))] false)] (fun t => aI g1 (aI g2 (t))) ?_
 refine tl [] [(4, pk 4)] [(4, .var [jI (Int.tmod p1 p0.Width), jI (W (Int.tdiv p1 p0.Width))] false)] id ?_
 cases H
 exact er
def i_nextTo_ir : S :=
 (sq [o 3 (.box 5 (.t 0)), o 6 (.mv (iv 0))]
 (.seq (.drw [(0, 1), (0, 2), (1, 2), (0, 3), (0, 4), (1, 4), (2, 4), (3, 4), (0, 5)] [o 7 (.load 5 true (.t 3)), o 8 (.load 5 true (.t 3)), om 9 1, o 10 (.call 225 [.t 8, .t 9]), om 11 2, o 12 (.call 224 [.t 10, .t 11, .v (.int .i64 1)]), o 13 (.call 223 [.t 7, .t 12]), om 6 13])
 .ret))
noncomputable def X.i_nextTo (p0 : TMap) (p1 : Int) (p2 : Int) : Option Int :=
 ((X.i_hexOf p0 p1).bind fun v1 => ((X.i_stepBy v1 p2 1).bind fun v3 => ((X.i_indexOf p0 v3).bind fun v5 => some v5)))
theorem i_nextTo_ok (p0 : TMap) (p1 : Int) (p2 : Int) (r : Int) (H : X.i_nextTo p0 p1 p2 = some r) : FK 184 [.agg (eTMap p0), cI p1, cI p2] (cI r) := by
 unfold X.i_nextTo at H
 refine fi Tryz.f184 i_nextTo_ir [(6, cI r)] [] glL Tryz.func184 ?_
 refine sn [] [] [(3, pk 3)] [] [(3, va (eTMap p0))] id ?_
 obtain ⟨v1, h2, H⟩ := oB H
 obtain ⟨v3, h4, H⟩ := oB H
 obtain ⟨v5, h6, H⟩ := oB H
 refine sx [.res (.agg (eTHex v1)), .res (.agg (eTHex v3)), .res (cI v5)] [] [(6, cI v5)] [] (fun t => aI (i_hexOf_ok p0 p1 v1 h2) (aI trivial (aI rN (aI (i_stepBy_ok v1 p2 1 v3 h4) (aI trivial (aI rN (aI (i_indexOf_ok p0 v3 v5 h6) (aI trivial (aI rN (t)))))))))) ?_
 cases H
 exact er
def i_isEdge_ir : S :=
 (sq [o 2 (.box 5 (.t 0)), o 4 (.mv bF)]
 (sq [om 5 1, oa 6 0 2, ol 7 6, o 8 (.bin .mul (iv 3) (.t 7)), oa 9 1 2, ol 10 9, o 11 (.bin .mul (.t 8) (.t 10)), o 12 (.bin .sub (.t 11) (iv 1)), o 13 (.call 59 [.t 5, .v (.int .i64 0), .t 12]), om 14 13, oh 15 (.load 5 true (.t 2)) 14, oh 16 (.mv (.t 1)) 14, oh 17 (.bin .quo (.t 16) (iv 3)) 14, oh 18 (.mv (.t 1)) 14, oh 19 (.bin .rem (.t 18) (iv 3)) 14, oh 20 (.call 184 [.t 15, .t 17, .t 19]) 14, oh 21 (.bin .geq (.t 20) (iv 0)) 14, o 22 (.pick (.t 14) (.t 21) bF), om 4 22]
 .ret))
noncomputable def X.i_isEdge (p0 : TMap) (p1 : Int) : Option Bool :=
 ((X.i_inRange p1 0 (W ((W ((W (3 * p0.Width)) * p0.Height)) - 1))).bind fun v1 => (bif v1 then ((X.i_nextTo p0 (W (Int.tdiv p1 3)) (Int.tmod p1 3)).bind fun v4 => some (decide (v4 ≥ 0))) else some false))
theorem i_isEdge_ok (p0 : TMap) (p1 : Int) (r : Bool) (H : X.i_isEdge p0 p1 = some r) : FK 146 [.agg (eTMap p0), cI p1] (cB r) := by
 unfold X.i_isEdge at H
 refine fi Tryz.f146 i_isEdge_ir [(4, cB r)] [] glL Tryz.func146 ?_
 refine sn [] [] [(2, pk 2)] [] [(2, va (eTMap p0))] id ?_
 obtain ⟨v1, h2, H⟩ := oB H
 rcases oC H with ⟨c3, H⟩ | ⟨c3, H⟩
 ·obtain ⟨v4, h5, H⟩ := oB H
  refine so ([.res (cB v1)] ++ rg 6 true ([.res (cI v4)] ++ rg 2 true [])) [] [(4, cB (decide (v4 ≥ 0)))] [] (fun t => aI (i_inRange_ok p1 0 (W ((W ((W (3 * p0.Width)) * p0.Height)) - 1)) v1 h2) (aG 3 c3 (aI (by decide : (3 : Int) ≠ 0) (aG 2 c3 (aI (by decide : (3 : Int) ≠ 0) (aI c3 (aI (i_nextTo_ok p0 (W (Int.tdiv p1 3)) (Int.tmod p1 3) v4 h5) (aG 2 c3 (t))))))))) ?_
  cases H
  exact er
 ·refine so ([.res (cB v1)] ++ rg 8 false []) [] [(4, cB false)] [] (fun t => aI (i_inRange_ok p1 0 (W ((W ((W (3 * p0.Width)) * p0.Height)) - 1)) v1 h2) (aG 8 c3 (t))) ?_
  cases H
  exact er
def i_IsMap_ir : S :=
 (sq [o 1 (.box 5 (.t 0)), o 2 (.mv bF)]
 (.seq (sq [oa 9 0 1, ol 10 9, o 11 (.call 59 [.t 10, .v (.int .i64 1), .v (.int .i64 10)]), o 12 (.not (.t 11)), om 13 12, og 14 (.fad 1 (.t 1)) 13, og 15 (.load 1 false (.t 14)) 13, og 16 (.call 59 [.t 15, .v (.int .i64 1), .v (.int .i64 10)]) 13, og 17 (.not (.t 16)) 13, o 18 (.pick (.t 13) bT (.t 17)), om 19 18, og 20 (.fad 2 (.t 1)) 19, og 21 (.load 1 false (.t 20)) 19, og 22 (.len (.t 21)) 19, og 23 (.fad 0 (.t 1)) 19, og 24 (.load 1 false (.t 23)) 19, og 25 (.fad 1 (.t 1)) 19, og 26 (.load 1 false (.t 25)) 19, og 27 (.bin .mul (.t 24) (.t 26)) 19, og 28 (.bin .neq (.t 22) (.t 27)) 19, o 29 (.pick (.t 19) bT (.t 28))]
 (.ite (.t 29) (sq [o 2 (.mv bF)]
  .ret)
 .skip))
 (.seq (sq [oa 30 2 1, ol 31 30, o 32 (.len (.t 31)), o 33 (.mv (iv 0))]
 (.blk 0 (.loop (sq [o 34 (.bin .lss (.t 33) (.t 32))]
   (.seq (.ite (.t 34) .skip
   (.exit 0))
   (.seq (.blk 1 (sq [o 35 (.iad 1 (.t 31) (.t 33)), ol 36 35, om 4 36]
    (sq [om 37 4, o 38 (.call 102 [.t 37, .v (.int .i64 6)]), o 39 (.not (.t 38))]
    (.ite (.t 39) (sq [o 2 (.mv bF)]
     .ret)
    .skip))))
   (.ops [o 40 (.bin .add (.t 33) (iv 1)), om 33 40])))))))
 (.seq (sq [oa 41 3 1, ol 42 41, oa 43 4 1, ol 44 43, o 45 (.bsl 1 [.t 42, .t 44]), o 46 (.len (.t 45)), o 47 (.mv (iv 0))]
 (.blk 2 (.loop (sq [o 48 (.bin .lss (.t 47) (.t 46))]
   (.seq (.ite (.t 48) .skip
   (.exit 2))
   (.seq (.blk 3 (sq [o 49 (.iad 1 (.t 45) (.t 47)), ol 50 49, om 6 50]
    (.seq (sq [om 51 6, o 52 (.call 100 [.t 51]), o 53 (.not (.t 52))]
    (.ite (.t 53) (sq [o 2 (.mv bF)]
     .ret)
    .skip))
    (sq [om 54 6, o 55 (.len (.t 54)), o 56 (.mv (iv 0))]
    (.blk 4 (.loop (sq [o 57 (.bin .lss (.t 56) (.t 55))]
      (.seq (.ite (.t 57) .skip
      (.exit 4))
      (.seq (.blk 5 (sq [o 58 (.iad 1 (.t 54) (.t 56)), ol 59 58, om 8 59]
       (sq [o 60 (.load 5 true (.t 1)), om 61 8, o 62 (.call 146 [.t 60, .t 61]), o 63 (.not (.t 62))]
       (.ite (.t 63) (sq [o 2 (.mv bF)]
        .ret)
       .skip))))
      (.ops [o 64 (.bin .add (.t 56) (iv 1)), om 56 64]))))))))))
   (.ops [o 65 (.bin .add (.t 47) (iv 1)), om 47 65])))))))
 (sq [o 2 (.mv bT)]
 .ret)))))
noncomputable def X.i_IsMap (p0 : TMap) : Option Bool :=
 ((X.i_inRange p0.Width 1 10).bind fun v8 => (bif (!v8) then some false else ((X.i_inRange p0.Height 1 10).bind fun v11 => (bif (!v11) then some false else (bif ((p0.Terrain.length : Int) != (W (p0.Width * p0.Height))) then some false else ((loop (fun (x57 : Int) => ((bif (decide (x57 < (p0.Terrain.length : Int))) then ((at' zI p0.Terrain x57).bind fun v60 => ((X.i_isIndex v60 6).bind fun v62 => (bif (!v62) then some (Sum.inr (Sum.inr false)) else some (Sum.inl (W (x57 + 1)))))) else some (Sum.inr (Sum.inl ()))) : Option (Int ⊕ (Unit ⊕ Bool)))) 0).bind fun y65 => (Sum.elim (fun (y67 : Unit) => ((loop (fun (x142 : Int) => ((bif (decide (x142 < (([p0.Rivers, p0.Roads] : List (List Int)).length : Int))) then (if 0 ≤ x142 ∧ x142 < (([p0.Rivers, p0.Roads] : List (List Int)).length : Int) then ((X.i_increasing (([p0.Rivers, p0.Roads] : List (List Int)).getD x142.toNat zLI)).bind fun v149 => (bif (!v149) then some (Sum.inr (Sum.inr false)) else ((loop (fun (x167 : Int) => ((bif (decide (x167 < ((([p0.Rivers, p0.Roads] : List (List Int)).getD x142.toNat zLI).length : Int))) then ((at' zI (([p0.Rivers, p0.Roads] : List (List Int)).getD x142.toNat zLI) x167).bind fun v170 => ((X.i_isEdge p0 v170).bind fun v172 => (bif (!v172) then some (Sum.inr (Sum.inr false)) else some (Sum.inl (W (x167 + 1)))))) else some (Sum.inr (Sum.inl ()))) : Option (Int ⊕ (Unit ⊕ Bool)))) 0).bind fun y175 => (Sum.elim (fun (y177 : Unit) => some (Sum.inl (W (x142 + 1)))) (fun (y178 : Bool) => some (Sum.inr (Sum.inr y178))) y175)))) else none) else some (Sum.inr (Sum.inl ()))) : Option (Int ⊕ (Unit ⊕ Bool)))) 0).bind fun y179 => (Sum.elim (fun (y181 : Unit) => some true) (fun (y182 : Bool) => some y182) y179))) (fun (y68 : Bool) => some y68) y65)))))))
theorem i_IsMap_ok (p0 : TMap) (r : Bool) (H : X.i_IsMap p0 = some r) : FK 91 [.agg (eTMap p0)] (cB r) := by
 unfold X.i_IsMap at H
 refine fi Tryz.f91 i_IsMap_ir [(2, cB r)] [] glL Tryz.func91 ?_
 refine so [] [] [(1, pk 1)] [(1, va (eTMap p0))] id ?_
 refine seq_in ?_
 obtain ⟨v8, h9, H⟩ := oB H
 rcases oC H with ⟨c10, H⟩ | ⟨c10, H⟩
 ·refine sn ([.res (cB v8)] ++ rg 15 true []) [] [(29, cB true)] [] [] (fun t => aI (i_inRange_ok p0.Width 1 10 v8 h9) (aG 5 c10 (aG 10 rT (t)))) ?_
  refine it rT ?_
  refine so [] [] [(2, cB false)] [] id ?_
  cases H
  exact er
 ·obtain ⟨v11, h12, H⟩ := oB H
  rcases oC H with ⟨c13, H⟩ | ⟨c13, H⟩
  ·refine sn ([.res (cB v8)] ++ rg 3 false ([.res (cB v11)] ++ rg 2 false (rg 10 true []))) [] [(29, cB true)] [] [] (fun t => aI (i_inRange_ok p0.Width 1 10 v8 h9) (aG 3 c10 (aI (i_inRange_ok p0.Height 1 10 v11 h12) (aG 2 c10 (aG 10 c13 (t)))))) ?_
   refine it rT ?_
   refine so [] [] [(2, cB false)] [] id ?_
   cases H
   exact er
  ·refine sn ([.res (cB v8)] ++ rg 3 false ([.res (cB v11)] ++ rg 12 false [])) [] [(29, cB ((p0.Terrain.length : Int) != (W (p0.Width * p0.Height))))] [] [] (fun t => aI (i_inRange_ok p0.Width 1 10 v8 h9) (aG 3 c10 (aI (i_inRange_ok p0.Height 1 10 v11 h12) (aG 2 c10 (aG 3 c13 (lI p0.Terrain (aG 7 c13 (t)))))))) ?_
   rcases oC H with ⟨c14, H⟩ | ⟨c14, H⟩
   ·refine it c14 ?_
    refine so [] [] [(2, cB false)] [] id ?_
    cases H
    exact er
   ·refine jf c14 ?_
    refine sk ?_
    refine seq_in ?_
    refine sn [] [] [(31, dc 1 eI zI p0.Terrain), (32, cL p0.Terrain), (33, cI 0)] [] [] (fun t => lI p0.Terrain (t)) ?_
    refine ends_blk ?_
    obtain ⟨y65, h66, H⟩ := oB H
    refine tl [] [(1, pk 1), (31, dc 1 eI zI p0.Terrain), (32, cL p0.Terrain), (33, cI 0)] [(1, va (eTMap p0))] id ?_
    refine loop_in (fun (x : Int) => lit [(1, pk 1), (31, dc 1 eI zI p0.Terrain), (32, cL p0.Terrain), (33, cI x)] [(1, va (eTMap p0))]) (orJ (fun (z : Unit) => At (.exit 0) (lit [(1, pk 1)] [(1, va (eTMap p0))])) (fun (z : Bool) => At .ret (lit [(2, cB z)] []))) h66 ?_ ?_
    ·clear H h66
     intro x57 y0 H
     refine sn [] [] [(34, cB (decide (x57 < (p0.Terrain.length : Int))))] [] [] id ?_
     refine seq_in ?_
     rcases oC H with ⟨c59, H⟩ | ⟨c59, H⟩
     ·refine it c59 ?_
      refine sk ?_
      refine seq_in ?_
      refine ends_blk ?_
      obtain ⟨v60, h61, H⟩ := oB H
      refine sn [.cs (eI v60)] [] [(4, cI v60)] [] [] (a2 eI h61) ?_
      obtain ⟨v62, h63, H⟩ := oB H
      refine sn [.res (cB v62)] [] [(39, cB (!v62))] [] [] (aI (i_isIndex_ok v60 6 v62 h63)) ?_
      rcases oC H with ⟨c64, H⟩ | ⟨c64, H⟩
      ·refine it c64 ?_
       refine so [] [] [(2, cB false)] [] id ?_
       refine ends_ret ?_
       cases H
       exact rsr
      ·refine jf c64 ?_
       refine sk ?_
       refine oo [] [] [(1, pk 1), (31, dc 1 eI zI p0.Terrain), (32, cL p0.Terrain), (33, cI (W (x57 + 1)))] [(1, va (eTMap p0))] id ?_
       cases H
       exact rr
     ·refine jf c59 ?_
      refine tl [] [(1, pk 1)] [(1, va (eTMap p0))] id ?_
      refine ends_exit ?_
      cases H
      exact rse
    ·clear h66
     cases y65 with
     | inl y67 =>
      replace H := ofInl H
      rintro e s ⟨rfl, rfl⟩
      change EndsI _ _ _ _ _ _
      refine seq_in ?_
      refine sn [fh eLI zLI ([p0.Rivers, p0.Roads] : List (List Int))] [] [(45, ow 45 1 ([p0.Rivers, p0.Roads] : List (List Int))), (46, cL ([p0.Rivers, p0.Roads] : List (List Int))), (47, cI 0)] [] [(45, ar 1 eLI zLI ([p0.Rivers, p0.Roads] : List (List Int)))] (fun t => aI (rfl : ([p0.Rivers, p0.Roads] : List (List Int)).length = 2) (aI (fF_lit eLI zLI ([p0.Rivers, p0.Roads] : List (List Int))) ((fun (_ : ([p0.Rivers, p0.Roads] : List (List Int)).length ≤ maxLen) => t)))) ?_
      refine ends_blk ?_
      obtain ⟨y179, h180, H⟩ := oB H
      refine tl [] [(1, pk 1), (45, ow 45 1 ([p0.Rivers, p0.Roads] : List (List Int))), (46, cL ([p0.Rivers, p0.Roads] : List (List Int))), (47, cI 0)] [(1, va (eTMap p0)), (45, ar 1 eLI zLI ([p0.Rivers, p0.Roads] : List (List Int)))] id ?_
      refine loop_in (fun (x : Int) => lit [(1, pk 1), (45, ow 45 1 ([p0.Rivers, p0.Roads] : List (List Int))), (46, cL ([p0.Rivers, p0.Roads] : List (List Int))), (47, cI x)] [(1, va (eTMap p0)), (45, ar 1 eLI zLI ([p0.Rivers, p0.Roads] : List (List Int)))]) (orJ (fun (z : Unit) => At (.exit 2) (lit [] [])) (fun (z : Bool) => At .ret (lit [(2, cB z)] []))) h180 ?_ ?_
      ·clear H h180
       intro x142 y0 H
       refine sn [] [] [(48, cB (decide (x142 < (([p0.Rivers, p0.Roads] : List (List Int)).length : Int))))] [] [] id ?_
       refine seq_in ?_
       rcases oC H with ⟨c144, H⟩ | ⟨c144, H⟩
       ·refine it c144 ?_
        refine sk ?_
        refine seq_in ?_
        refine ends_blk ?_
        obtain ⟨g145, H⟩ := oI H
        refine sn [.no] [] [(6, .c (dat 1 eI zI (([p0.Rivers, p0.Roads] : List (List Int)).getD x142.toNat zLI)))] [] [] (fun t => aI g145 (aI (nat_lt g145) (t))) ?_
        refine seq_in ?_
        obtain ⟨v149, h150, H⟩ := oB H
        refine sn [.res (cB v149)] [] [(53, cB (!v149))] [] [] (aI (i_increasing_ok (([p0.Rivers, p0.Roads] : List (List Int)).getD x142.toNat zLI) v149 h150)) ?_
        rcases oC H with ⟨c151, H⟩ | ⟨c151, H⟩
        ·refine it c151 ?_
         refine so [] [] [(2, cB false)] [] id ?_
         refine ends_ret ?_
         cases H
         exact rsr
        ·refine jf c151 ?_
         refine sk ?_
         refine sn [] [] [(54, .c (dat 1 eI zI (([p0.Rivers, p0.Roads] : List (List Int)).getD x142.toNat zLI))), (55, cL (([p0.Rivers, p0.Roads] : List (List Int)).getD x142.toNat zLI)), (56, cI 0)] [] [] (fun t => (fun (_ : (([p0.Rivers, p0.Roads] : List (List Int)).getD x142.toNat zLI).length ≤ maxLen) => t)) ?_
         refine ends_blk ?_
         obtain ⟨y175, h176, H⟩ := oB H
         refine tl [] [(1, pk 1), (45, ow 45 1 ([p0.Rivers, p0.Roads] : List (List Int))), (46, cL ([p0.Rivers, p0.Roads] : List (List Int))), (47, cI x142), (54, .c (dat 1 eI zI (([p0.Rivers, p0.Roads] : List (List Int)).getD x142.toNat zLI))), (55, cL (([p0.Rivers, p0.Roads] : List (List Int)).getD x142.toNat zLI)), (56, cI 0)] [(1, va (eTMap p0)), (45, ar 1 eLI zLI ([p0.Rivers, p0.Roads] : List (List Int)))] id ?_
         refine loop_in (fun (x : Int) => lit [(1, pk 1), (45, ow 45 1 ([p0.Rivers, p0.Roads] : List (List Int))), (46, cL ([p0.Rivers, p0.Roads] : List (List Int))), (47, cI x142), (54, .c (dat 1 eI zI (([p0.Rivers, p0.Roads] : List (List Int)).getD x142.toNat zLI))), (55, cL (([p0.Rivers, p0.Roads] : List (List Int)).getD x142.toNat zLI)), (56, cI x)] [(1, va (eTMap p0)), (45, ar 1 eLI zLI ([p0.Rivers, p0.Roads] : List (List Int)))]) (orJ (fun (z : Unit) => At (.exit 4) (lit [(1, pk 1), (45, ow 45 1 ([p0.Rivers, p0.Roads] : List (List Int))), (46, cL ([p0.Rivers, p0.Roads] : List (List Int))), (47, cI x142)] [(1, va (eTMap p0)), (45, ar 1 eLI zLI ([p0.Rivers, p0.Roads] : List (List Int)))])) (fun (z : Bool) => At .ret (lit [(2, cB z)] []))) h176 ?_ ?_
         ·clear H h176
          intro x167 y0 H
          refine sn [] [] [(57, cB (decide (x167 < ((([p0.Rivers, p0.Roads] : List (List Int)).getD x142.toNat zLI).length : Int))))] [] [] id ?_
          refine seq_in ?_
          rcases oC H with ⟨c169, H⟩ | ⟨c169, H⟩
          ·refine it c169 ?_
           refine sk ?_
           refine seq_in ?_
           refine ends_blk ?_
           obtain ⟨v170, h171, H⟩ := oB H
           refine sn [.cs (eI v170)] [] [(8, cI v170)] [] [] (a2 eI h171) ?_
           obtain ⟨v172, h173, H⟩ := oB H
           refine sn [.res (cB v172)] [] [(63, cB (!v172))] [] [] (aI (i_isEdge_ok p0 v170 v172 h173)) ?_
           rcases oC H with ⟨c174, H⟩ | ⟨c174, H⟩
           ·refine it c174 ?_
            refine so [] [] [(2, cB false)] [] id ?_
            refine ends_ret ?_
            cases H
            exact rsr
           ·refine jf c174 ?_
            refine sk ?_
            refine oo [] [] [(1, pk 1), (45, ow 45 1 ([p0.Rivers, p0.Roads] : List (List Int))), (46, cL ([p0.Rivers, p0.Roads] : List (List Int))), (47, cI x142), (54, .c (dat 1 eI zI (([p0.Rivers, p0.Roads] : List (List Int)).getD x142.toNat zLI))), (55, cL (([p0.Rivers, p0.Roads] : List (List Int)).getD x142.toNat zLI)), (56, cI (W (x167 + 1)))] [(1, va (eTMap p0)), (45, ar 1 eLI zLI ([p0.Rivers, p0.Roads] : List (List Int)))] id ?_
            cases H
            exact rr
          ·refine jf c169 ?_
           refine tl [] [(1, pk 1), (45, ow 45 1 ([p0.Rivers, p0.Roads] : List (List Int))), (46, cL ([p0.Rivers, p0.Roads] : List (List Int))), (47, cI x142)] [(1, va (eTMap p0)), (45, ar 1 eLI zLI ([p0.Rivers, p0.Roads] : List (List Int)))] id ?_
           refine ends_exit ?_
           cases H
           exact rse
         ·clear h176
          cases y175 with
          | inl y177 =>
           replace H := ofInl H
           rintro e s ⟨rfl, rfl⟩
           change EndsI _ _ _ _ _ _
           refine oo [] [] [(1, pk 1), (45, ow 45 1 ([p0.Rivers, p0.Roads] : List (List Int))), (46, cL ([p0.Rivers, p0.Roads] : List (List Int))), (47, cI (W (x142 + 1)))] [(1, va (eTMap p0)), (45, ar 1 eLI zLI ([p0.Rivers, p0.Roads] : List (List Int)))] id ?_
           cases H
           exact rr
          | inr y178 =>
           replace H := ofInr H
           rintro e s ⟨rfl, rfl⟩
           cases H
           exact rsr
       ·refine jf c144 ?_
        refine tl [] [] [] id ?_
        refine ends_exit ?_
        cases H
        exact rse
      ·clear h180
       cases y179 with
       | inl y181 =>
        replace H := ofInl H
        rintro e s ⟨rfl, rfl⟩
        change EndsI _ _ _ _ _ _
        refine so [] [] [(2, cB true)] [] id ?_
        cases H
        exact er
       | inr y182 =>
        replace H := ofInr H
        rintro e s ⟨rfl, rfl⟩
        cases H
        exact qr
     | inr y68 =>
      replace H := ofInr H
      rintro e s ⟨rfl, rfl⟩
      cases H
      exact qr
theorem g_IndexFunc_int_c1_ok (p0 : (List Int)) (cf1 : FuncId) (cs1_0 : List AC) (f1 : Int → Option Bool) (hf1 : ∀ q0 r, f1 q0 = some r → FK cf1 [cI q0, .c (.pd cs1_0 0)] (cB r)) (r : Int) (H : X.g_IndexFunc_int p0 f1 = some r) : FK 147 [.c (dat 1 eI zI p0), .c (.clo cf1 [.pd cs1_0 0])] (cI r) := by
 unfold X.g_IndexFunc_int at H
 refine fi Tryz.f147 g_IndexFunc_int_ir [(4, cI r)] [] glL Tryz.func147 ?_
 refine sn [] [] [] [] [] id ?_
 refine seq_in ?_
 refine sn [] [] [(7, cL p0), (8, cI 0)] [] [] (fun t => lI p0 (t)) ?_
 refine ends_blk ?_
 obtain ⟨y24, h25, H⟩ := oB H
 refine tl [] [(0, dc 1 eI zI p0), (1, .c (.clo cf1 [.pd cs1_0 0])), (7, cL p0), (8, cI 0)] [] id ?_
 refine loop_in (fun (x : Int) => lit [(0, dc 1 eI zI p0), (1, .c (.clo cf1 [.pd cs1_0 0])), (7, cL p0), (8, cI x)] []) (orJ (fun (z : Unit) => At (.exit 0) (lit [] [])) (fun (z : Int) => At .ret (lit [(4, cI z)] []))) h25 ?_ ?_
 ·clear H h25
  intro x16 y0 H
  refine sn [] [] [(9, cB (decide (x16 < (p0.length : Int))))] [] [] id ?_
  refine seq_in ?_
  rcases oC H with ⟨c18, H⟩ | ⟨c18, H⟩
  ·refine it c18 ?_
   refine sk ?_
   refine seq_in ?_
   refine ends_blk ?_
   refine sn [] [] [(5, cI x16)] [] [] id ?_
   obtain ⟨v19, h20, H⟩ := oB H
   obtain ⟨v21, h22, H⟩ := oB H
   refine sn [.cs (eI v19), .res (cB v21)] [] [(16, cB v21)] [] [] (fun t => (a2 eI h20 (aI (hf1 v19 v21 h22) (t)))) ?_
   rcases oC H with ⟨c23, H⟩ | ⟨c23, H⟩
   ·refine it c23 ?_
    refine so [] [] [(4, cI x16)] [] id ?_
    refine ends_ret ?_
    cases H
    exact rsr
   ·refine jf c23 ?_
    refine sk ?_
    refine oo [] [] [(0, dc 1 eI zI p0), (1, .c (.clo cf1 [.pd cs1_0 0])), (7, cL p0), (8, cI (W (x16 + 1)))] [] id ?_
    cases H
    exact rr
  ·refine jf c18 ?_
   refine tl [] [] [] id ?_
   refine ends_exit ?_
   cases H
   exact rse
 ·clear h25
  cases y24 with
  | inl y26 =>
   replace H := ofInl H
   rintro e s ⟨rfl, rfl⟩
   change EndsI _ _ _ _ _ _
   refine so [] [] [(4, cI (-1))] [] id ?_
   cases H
   exact er
  | inr y27 =>
   replace H := ofInr H
   rintro e s ⟨rfl, rfl⟩
   cases H
   exact qr
theorem g_ContainsFunc_int_c1_ok (p0 : (List Int)) (cf1 : FuncId) (cs1_0 : List AC) (f1 : Int → Option Bool) (hf1 : ∀ q0 r, f1 q0 = some r → FK cf1 [cI q0, .c (.pd cs1_0 0)] (cB r)) (r : Bool) (H : X.g_ContainsFunc_int p0 f1 = some r) : FK 92 [.c (dat 1 eI zI p0), .c (.clo cf1 [.pd cs1_0 0])] (cB r) := by
 unfold X.g_ContainsFunc_int at H
 refine fi Tryz.f92 g_ContainsFunc_int_ir [(4, cB r)] [] glL Tryz.func92 ?_
 refine sn [] [] [] [] [] id ?_
 obtain ⟨v1, h2, H⟩ := oB H
 refine so [.res (cI v1)] [] [(4, cB (decide (v1 ≥ 0)))] [] (aI (g_IndexFunc_int_c1_ok p0 (cf1) (cs1_0) f1 hf1 v1 h2)) ?_
 cases H
 exact er
def i_IsBoard_1_ir : S :=
 (sq [o 3 (.mv bF)]
 (sq [om 4 0, oa 5 0 1, oa 6 0 5, ol 7 6, o 8 (.len (.t 7)), o 9 (.bin .geq (.t 4) (.t 8)), om 3 9]
 .ret))
noncomputable def X.i_IsBoard_1 (p0 : Int) (p1 : TBoard) : Option Bool :=
 some (decide (p0 ≥ (p1.Rules.Terrains.length : Int)))
theorem i_IsBoard_1_ok (p0 : Int) (p1 : TBoard) (r : Bool) (H : X.i_IsBoard_1 p0 p1 = some r) : FK 93 [cI p0, .c (.pd (eTBoard p1) 0)] (cB r) := by
 unfold X.i_IsBoard_1 at H
 refine fi Tryz.f93 i_IsBoard_1_ir [(3, cB r)] [] glL Tryz.func93 ?_
 refine sn [] [] [] [] [] id ?_
 refine so [] [] [(3, cB (decide (p0 ≥ (p1.Rules.Terrains.length : Int))))] [] (fun t => lI p1.Rules.Terrains (t)) ?_
 cases H
 exact er
def i_IsBoard_ir : S :=
 (sq [o 1 (.box 12 (.t 0)), o 2 (.mv bF)]
 (.seq (sq [oa 3 0 1, o 4 (.load 7 true (.t 3)), o 5 (.call 90 [.t 4]), o 6 (.not (.t 5)), om 7 6, og 8 (.fad 7 (.t 1)) 7, og 9 (.load 5 true (.t 8)) 7, og 10 (.call 91 [.t 9]) 7, og 11 (.not (.t 10)) 7, o 12 (.pick (.t 7) bT (.t 11))]
 (.ite (.t 12) (sq [o 2 (.mv bF)]
  .ret)
 .skip))
 (sq [oa 13 7 1, oa 14 2 13, ol 15 14, o 16 (.clo 93 [.t 1]), o 17 (.call 92 [.t 15, .t 16]), o 18 (.not (.t 17)), om 2 18]
 .ret)))
noncomputable def X.i_IsBoard (p0 : TBoard) : Option Bool :=
 ((X.i_IsRules p0.Rules).bind fun v7 => (bif (!v7) then some false else ((X.i_IsMap p0.Map).bind fun v10 => (bif (!v10) then some false else ((X.g_ContainsFunc_int p0.Map.Terrain (fun q0 => X.i_IsBoard_1 q0 p0)).bind fun v13 => some (!v13))))))
theorem i_IsBoard_ok (p0 : TBoard) (r : Bool) (H : X.i_IsBoard p0 = some r) : FK 37 [.agg (eTBoard p0)] (cB r) := by
 unfold X.i_IsBoard at H
 refine fi Tryz.f37 i_IsBoard_ir [(2, cB r)] [] glL Tryz.func37 ?_
 refine so [] [] [(1, pk 1)] [(1, va (eTBoard p0))] id ?_
 refine seq_in ?_
 obtain ⟨v7, h8, H⟩ := oB H
 rcases oC H with ⟨c9, H⟩ | ⟨c9, H⟩
 ·refine sn ([.res (cB v7)] ++ rg 5 true []) [] [(12, cB true)] [] [] (fun t => aI (i_IsRules_ok p0.Rules v7 h8) (aG 5 c9 (t))) ?_
  refine it rT ?_
  refine so [] [] [(2, cB false)] [] id ?_
  cases H
  exact er
 ·obtain ⟨v10, h11, H⟩ := oB H
  refine sn ([.res (cB v7)] ++ rg 3 false ([.res (cB v10)] ++ rg 2 false [])) [] [(12, cB (!v10))] [] [] (fun t => aI (i_IsRules_ok p0.Rules v7 h8) (aG 3 c9 (aI (i_IsMap_ok p0.Map v10 h11) (aG 2 c9 (t))))) ?_
  rcases oC H with ⟨c12, H⟩ | ⟨c12, H⟩
  ·refine it c12 ?_
   refine so [] [] [(2, cB false)] [] id ?_
   cases H
   exact er
  ·refine jf c12 ?_
   refine sk ?_
   obtain ⟨v13, h14, H⟩ := oB H
   refine so [.res (cB v13)] [] [(2, cB (!v13))] [] (aI (g_ContainsFunc_int_c1_ok p0.Map.Terrain (93) (eTBoard p0) (fun q0 => X.i_IsBoard_1 q0 p0) (fun q0 r h => i_IsBoard_1_ok q0 p0 r h) v13 h14)) ?_
   cases H
   exact er
def i_sizeOf_ir : S :=
 (sq [o 1 (.box 12 (.t 0)), o 2 (.mv (iv 0))]
 (sq [oa 3 7 1, oa 4 2 3, ol 5 4, o 6 (.len (.t 5)), om 2 6]
 .ret))
noncomputable def X.i_sizeOf (p0 : TBoard) : Option Int :=
 some (p0.Map.Terrain.length : Int)
theorem i_sizeOf_ok (p0 : TBoard) (r : Int) (H : X.i_sizeOf p0 = some r) : FK 103 [.agg (eTBoard p0)] (cI r) := by
 unfold X.i_sizeOf at H
 refine fi Tryz.f103 i_sizeOf_ir [(2, cI r)] [] glL Tryz.func103 ?_
 refine so [] [] [(1, pk 1)] [(1, va (eTBoard p0))] id ?_
 refine so [] [] [(2, cL p0.Map.Terrain)] [] (fun t => lI p0.Map.Terrain (t)) ?_
 cases H
 exact er
def i_terrainAt_ir : S :=
 (sq [o 2 (.box 12 (.t 0)), o 4 (.alloc [.str [], .nil, .int .i64 0, .int .i64 0, .bool false])]
 (.seq (.drw [(0, 3), (1, 3), (2, 3), (0, 4), (1, 4), (2, 4), (0, 5), (1, 5), (2, 5), (0, 6), (1, 6), (2, 6), (3, 6), (4, 6), (5, 6), (0, 7), (1, 7), (2, 7), (0, 8), (1, 8), (2, 8)] [oa 5 0 2, oa 6 0 5, ol 7 6, oa 8 7 2, oa 9 2 8, ol 10 9, om 11 1, o 12 (.iad 1 (.t 10) (.t 11)), ol 13 12, o 14 (.iad 5 (.t 7) (.t 13)), o 15 (.load 5 true (.t 14)), os 5 4 15])
 .ret))
noncomputable def X.i_terrainAt (p0 : TBoard) (p1 : Int) : Option TTerrain :=
 ((at' zI p0.Map.Terrain p1).bind fun v1 => ((at' zTTerrain p0.Rules.Terrains v1).bind fun v3 => some v3))
theorem i_terrainAt_ok (p0 : TBoard) (p1 : Int) (r : TTerrain) (H : X.i_terrainAt p0 p1 = some r) : FK 198 [.agg (eTBoard p0), cI p1] (.agg (eTTerrain r)) := by
 unfold X.i_terrainAt at H
 refine fi Tryz.f198 i_terrainAt_ir [(4, pk 4)] [(4, va (eTTerrain r))] glL Tryz.func198 ?_
 refine sn [] [] [(2, pk 2), (4, pk 4)] [] [(2, va (eTBoard p0)), (4, .var [.str [], .nil, jI 0, jI 0, .bool false] false)] id ?_
 obtain ⟨v1, h2, H⟩ := oB H
 obtain ⟨v3, h4, H⟩ := oB H
 refine xn [.cs (eI v1), .cs (eTTerrain v3)] [] [] [4] [(4, va (eTTerrain v3))] (fun t => (a2 eI h2 (aI rN ((a2 eTTerrain h4 (aI rN (t))))))) ?_
 refine tl [] [(4, pk 4)] [(4, va (eTTerrain v3))] id ?_
 cases H
 exact er
def i_enterCost_ir : S :=
 (sq [o 3 (.box 12 (.t 0)), o 6 (.mv (iv 0))]
 (sq [o 7 (.load 12 true (.t 3)), om 8 2, o 9 (.call 198 [.t 7, .t 8]), o 10 (.fld 1 1 false (.t 9)), om 11 1, o 12 (.iad 1 (.t 10) (.t 11)), ol 13 12, om 6 13]
 .ret))
noncomputable def X.i_enterCost (p0 : TBoard) (p1 : Int) (p2 : Int) : Option Int :=
 ((X.i_terrainAt p0 p2).bind fun v1 => ((at' zI v1.Cost p1).bind fun v3 => some v3))
theorem i_enterCost_ok (p0 : TBoard) (p1 : Int) (p2 : Int) (r : Int) (H : X.i_enterCost p0 p1 p2 = some r) : FK 154 [.agg (eTBoard p0), cI p1, cI p2] (cI r) := by
 unfold X.i_enterCost at H
 refine fi Tryz.f154 i_enterCost_ir [(6, cI r)] [] glL Tryz.func154 ?_
 refine sn [] [] [(3, pk 3)] [] [(3, va (eTBoard p0))] id ?_
 obtain ⟨v1, h2, H⟩ := oB H
 obtain ⟨v3, h4, H⟩ := oB H
 refine so [.res (.agg (eTTerrain v1)), .cs (eI v3)] [] [(6, cI v3)] [] (fun t => aI (i_terrainAt_ok p0 p2 v1 h2) ((a2 eI h4 (t)))) ?_
 cases H
 exact er
def i_goodUnit_ir : S :=
 (sq [o 2 (.box 12 (.t 0)), o 3 (.box 4 (.t 1)), o 4 (.mv bF)]
 (.seq (.seq (.drw [(5, 7), (6, 7), (5, 8), (6, 8), (5, 9), (6, 9), (5, 10), (6, 10), (15, 17), (16, 17), (15, 18), (16, 18), (15, 19), (16, 19), (15, 20), (16, 20), (17, 20), (18, 20), (19, 20), (15, 21), (16, 21), (17, 21), (18, 21), (19, 21), (15, 22), (16, 22), (15, 23), (16, 23), (15, 24), (16, 24)] [oa 5 0 3, ol 6 5, o 7 (.call 98 [.t 6]), o 8 (.not (.t 7)), om 9 8, og 10 (.fad 1 (.t 3)) 9, og 11 (.load 1 false (.t 10)) 9, og 12 (.fad 0 (.t 2)) 9, og 13 (.fad 1 (.t 12)) 9, og 14 (.load 1 false (.t 13)) 9, og 15 (.len (.t 14)) 9, og 16 (.call 102 [.t 11, .t 15]) 9, og 17 (.not (.t 16)) 9, o 18 (.pick (.t 9) bT (.t 17)), om 19 18, og 20 (.fad 3 (.t 3)) 19, og 21 (.load 1 false (.t 20)) 19, og 22 (.fad 0 (.t 2)) 19, og 23 (.fad 1 (.t 22)) 19, og 24 (.load 1 false (.t 23)) 19, og 25 (.fad 1 (.t 3)) 19, og 26 (.load 1 false (.t 25)) 19, og 27 (.iad 6 (.t 24) (.t 26)) 19, og 28 (.fad 3 (.t 27)) 19, og 29 (.load 1 false (.t 28)) 19, og 30 (.call 59 [.t 21, .v (.int .i64 0), .t 29]) 19, og 31 (.not (.t 30)) 19, o 32 (.pick (.t 19) bT (.t 31))])
 (.ite (.t 32) (sq [o 4 (.mv bF)]
  .ret)
 .skip))
 (.seq (sq [oa 33 2 3, ol 34 33, o 35 (.bin .eql (.t 34) (.v (.int .i64 (-1))))]
 (.ite (.t 35) (sq [o 4 (.mv bT)]
  .ret)
 .skip))
 (.seq (.drw [(4, 6), (5, 6), (4, 7), (5, 7), (11, 12), (11, 13), (11, 14), (12, 14), (13, 14), (11, 15), (12, 15), (13, 15)] [oa 36 3 3, ol 37 36, o 38 (.bin .gtr (.t 37) (iv 0)), om 39 38, oh 40 (.fad 2 (.t 3)) 39, oh 41 (.load 1 false (.t 40)) 39, oh 42 (.load 12 true (.t 2)) 39, oh 43 (.call 103 [.t 42]) 39, oh 44 (.call 102 [.t 41, .t 43]) 39, o 45 (.pick (.t 39) (.t 44) bF), om 46 45, oh 47 (.load 12 true (.t 2)) 46, oh 48 (.fad 1 (.t 3)) 46, oh 49 (.load 1 false (.t 48)) 46, oh 50 (.fad 2 (.t 3)) 46, oh 51 (.load 1 false (.t 50)) 46, oh 52 (.call 154 [.t 47, .t 49, .t 51]) 46, oh 53 (.bin .neq (.t 52) (iv 0)) 46, o 54 (.pick (.t 46) (.t 53) bF), om 4 54])
 .ret))))
noncomputable def X.i_goodUnit (p0 : TBoard) (p1 : TUnit) : Option Bool :=
 ((X.i_isSide p1.Side).bind fun v12 => (bif (!v12) then some false else ((X.i_isIndex p1.Kind (p0.Rules.Kinds.length : Int)).bind fun v15 => (bif (!v15) then some false else ((at' zTKind p0.Rules.Kinds p1.Kind).bind fun v18 => ((X.i_inRange p1.Steps 0 v18.Steps).bind fun v20 => (bif (!v20) then some false else (bif (p1.At == (-1)) then some true else (bif (decide (p1.Steps > 0)) then ((X.i_sizeOf p0).bind fun v26 => ((X.i_isIndex p1.At v26).bind fun v28 => (bif v28 then ((X.i_enterCost p0 p1.Kind p1.At).bind fun v31 => some (v31 != 0)) else some false))) else some false)))))))))
theorem i_goodUnit_ok (p0 : TBoard) (p1 : TUnit) (r : Bool) (H : X.i_goodUnit p0 p1 = some r) : FK 104 [.agg (eTBoard p0), .agg (eTUnit p1)] (cB r) := by
 unfold X.i_goodUnit at H
 refine fi Tryz.f104 i_goodUnit_ir [(4, cB r)] [] glL Tryz.func104 ?_
 refine so [] [] [(2, pk 2), (3, pk 3)] [(2, va (eTBoard p0)), (3, va (eTUnit p1))] id ?_
 refine seq_in ?_
 obtain ⟨v12, h13, H⟩ := oB H
 rcases oC H with ⟨c14, H⟩ | ⟨c14, H⟩
 ·refine xn ([.res (cB v12)] ++ rg 22 true []) [] [(32, cB true)] [] [] (fun t => aI (i_isSide_ok p1.Side v12 h13) (aI trivial (aI rN (aG 9 c14 (aG 13 rT (t)))))) ?_
  refine it rT ?_
  refine so [] [] [(4, cB false)] [] id ?_
  cases H
  exact er
 ·obtain ⟨v15, h16, H⟩ := oB H
  rcases oC H with ⟨c17, H⟩ | ⟨c17, H⟩
  ·refine xn ([.res (cB v12)] ++ rg 7 false ([.res (cB v15)] ++ rg 2 false (rg 13 true []))) [] [(32, cB true)] [] [] (fun t => aI (i_isSide_ok p1.Side v12 h13) (aI trivial (aI rN (aG 7 c14 (aI (i_isIndex_ok p1.Kind (p0.Rules.Kinds.length : Int) v15 h16) (aI trivial (aI rN (aG 2 c14 (aG 13 c17 (t)))))))))) ?_
   refine it rT ?_
   refine so [] [] [(4, cB false)] [] id ?_
   cases H
   exact er
  ·obtain ⟨v18, h19, H⟩ := oB H
   obtain ⟨v20, h21, H⟩ := oB H
   refine xn ([.res (cB v12)] ++ rg 7 false ([.res (cB v15)] ++ rg 10 false ([.cs (eTKind v18)] ++ rg 3 false ([.res (cB v20)] ++ rg 2 false [])))) [] [(32, cB (!v20))] [] [] (fun t => aI (i_isSide_ok p1.Side v12 h13) (aI trivial (aI rN (aG 7 c14 (aI (i_isIndex_ok p1.Kind (p0.Rules.Kinds.length : Int) v15 h16) (aI trivial (aI rN (aG 2 c14 (aG 8 c17 ((a2 eTKind h19 (aG 2 c17 (aI rN (aI c17 (aI (i_inRange_ok p1.Steps 0 v18.Steps v20 h21) (aI trivial (aI rN (aG 2 c17 (t))))))))))))))))))) ?_
   rcases oC H with ⟨c22, H⟩ | ⟨c22, H⟩
   ·refine it c22 ?_
    refine so [] [] [(4, cB false)] [] id ?_
    cases H
    exact er
   ·refine jf c22 ?_
    refine sk ?_
    refine seq_in ?_
    refine sn [] [] [(35, cB (p1.At == (-1)))] [] [] id ?_
    rcases oC H with ⟨c24, H⟩ | ⟨c24, H⟩
    ·refine it c24 ?_
     refine so [] [] [(4, cB true)] [] id ?_
     cases H
     exact er
    ·refine jf c24 ?_
     refine sk ?_
     rcases oC H with ⟨c25, H⟩ | ⟨c25, H⟩
     ·obtain ⟨v26, h27, H⟩ := oB H
      obtain ⟨v28, h29, H⟩ := oB H
      rcases oC H with ⟨c30, H⟩ | ⟨c30, H⟩
      ·obtain ⟨v31, h32, H⟩ := oB H
       refine sx (rg 4 true ([.res (cI v26), .g true, .res (cB v28)] ++ rg 7 true ([.res (cI v31)] ++ rg 2 true []))) [] [(4, cB (v31 != 0))] [] (fun t => aG 4 c25 (aI (i_sizeOf_ok p0 v26 h27) (aI trivial (aI rN (aI c25 (aI (i_isIndex_ok p1.At v26 v28 h29) (aI trivial (aI rN (aI c25 (aG 6 c30 (aI (i_enterCost_ok p0 p1.Kind p1.At v31 h32) (aI trivial (aI rN (aG 2 c30 (t))))))))))))))) ?_
       cases H
       exact er
      ·refine sx (rg 4 true ([.res (cI v26), .g true, .res (cB v28), .g true] ++ rg 8 false [])) [] [(4, cB false)] [] (fun t => aG 4 c25 (aI (i_sizeOf_ok p0 v26 h27) (aI trivial (aI rN (aI c25 (aI (i_isIndex_ok p1.At v26 v28 h29) (aI trivial (aI rN (aI c25 (aG 8 c30 (t))))))))))) ?_
       cases H
       exact er
     ·refine sx (rg 14 false []) [] [(4, cB false)] [] (fun t => aG 6 c25 (aG 8 rF (t))) ?_
      cases H
      exact er
def i_goodState_ir : S :=
 (sq [o 2 (.box 12 (.t 0)), o 3 (.box 3 (.t 1)), o 4 (.mv bF)]
 (.seq (sq [oa 8 0 3, ol 9 8, oa 10 0 2, oa 11 6 10, ol 12 11, o 13 (.call 59 [.t 9, .v (.int .i64 0), .t 12]), o 14 (.not (.t 13)), om 15 14, og 16 (.fad 1 (.t 3)) 15, og 17 (.load 1 false (.t 16)) 15, og 18 (.call 59 [.t 17, .v (.int .i64 0), .v (.int .i64 2)]) 15, og 19 (.not (.t 18)) 15, o 20 (.pick (.t 15) bT (.t 19)), om 21 20, og 22 (.fad 2 (.t 3)) 21, og 23 (.load 1 false (.t 22)) 21, og 24 (.len (.t 23)) 21, og 25 (.bin .gtr (.t 24) (iv 12)) 21, o 26 (.pick (.t 21) bT (.t 25))]
 (.ite (.t 26) (sq [o 4 (.mv bF)]
  .ret)
 .skip))
 (sq [o 27 (.load 12 true (.t 2)), o 28 (.call 103 [.t 27]), o 29 (.msl 2 16 [.int .i64 0, .int .i64 0] (.t 28)), om 5 29]
 (.seq (sq [oa 30 2 3, ol 31 30, o 32 (.len (.t 31)), o 33 (.mv (iv 0))]
 (.blk 0 (.loop (sq [o 34 (.bin .lss (.t 33) (.t 32))]
   (.seq (.ite (.t 34) .skip
   (.exit 0))
   (.seq (.blk 1 (sq [o 35 (.iad 4 (.t 31) (.t 33)), o 36 (.load 4 true (.t 35)), o 7 (.alloc [.int .i64 0, .int .i64 0, .int .i64 0, .int .i64 0]), os 4 7 36]
    (.seq (sq [o 37 (.load 12 true (.t 2)), o 38 (.load 4 true (.t 7)), o 39 (.call 104 [.t 37, .t 38]), o 40 (.not (.t 39))]
    (.ite (.t 40) (sq [o 4 (.mv bF)]
     .ret)
    .skip))
    (.seq (sq [oa 41 2 7, ol 42 41, o 43 (.bin .lss (.t 42) (iv 0))]
    (.ite (.t 43) (.exit 1)
    .skip))
    (.seq (.drw [(0, 1), (0, 2), (0, 3), (1, 3), (2, 3), (0, 4), (1, 4), (2, 4), (3, 5), (4, 5), (3, 9), (4, 9), (5, 9), (6, 9), (7, 9), (8, 9)] [om 44 5, oa 45 2 7, ol 46 45, oa 47 0 7, ol 48 47, o 49 (.iad 2 (.t 44) (.t 46)), o 50 (.iar 2 1 (.t 49) (.t 48)), ol 51 50, o 52 (.bin .add (.t 51) (iv 1)), o 53 (.iad 2 (.t 44) (.t 46)), o 54 (.iar 2 1 (.t 53) (.t 48)), os 1 54 52])
    (.seq (.drw [(0, 1), (0, 2), (0, 3), (1, 3), (2, 3), (0, 4), (1, 4), (2, 4), (0, 5), (1, 5), (2, 5), (3, 6), (4, 6), (5, 6), (11, 12), (11, 13), (11, 14), (12, 14), (13, 14), (11, 15), (12, 15), (13, 15), (14, 16), (15, 16), (11, 19), (12, 19), (13, 19), (14, 19), (15, 19), (16, 19), (17, 19), (18, 19), (11, 20), (12, 20), (13, 20), (14, 20), (15, 20), (16, 20), (17, 20), (18, 20), (11, 21), (12, 21), (13, 21), (14, 21), (15, 21), (16, 21), (17, 21), (18, 21)] [om 55 5, oa 56 2 7, ol 57 56, oa 58 0 7, ol 59 58, o 60 (.bin .sub (iv 1) (.t 59)), o 61 (.iad 2 (.t 55) (.t 57)), o 62 (.iar 2 1 (.t 61) (.t 60)), ol 63 62, o 64 (.bin .gtr (.t 63) (iv 0)), om 65 64, og 66 (.mv (.t 5)) 65, og 67 (.fad 2 (.t 7)) 65, og 68 (.load 1 false (.t 67)) 65, og 69 (.fad 0 (.t 7)) 65, og 70 (.load 1 false (.t 69)) 65, og 71 (.iad 2 (.t 66) (.t 68)) 65, og 72 (.iar 2 1 (.t 71) (.t 70)) 65, og 73 (.load 1 false (.t 72)) 65, og 74 (.fad 0 (.t 2)) 65, og 75 (.fad 2 (.t 74)) 65, og 76 (.load 1 false (.t 75)) 65, og 77 (.bin .gtr (.t 73) (.t 76)) 65, o 78 (.pick (.t 65) bT (.t 77))])
    (.ite (.t 78) (sq [o 4 (.mv bF)]
     .ret)
    .skip)))))))
   (.ops [o 79 (.bin .add (.t 33) (iv 1)), om 33 79])))))))
 (sq [o 4 (.mv bT)]
 .ret)))))
noncomputable def X.i_goodState (p0 : TBoard) (p1 : TState) : Option Bool :=
 ((X.i_inRange p1.Turn 0 p0.Rules.Turns).bind fun v8 => (bif (!v8) then some false else ((X.i_inRange p1.Weather 0 2).bind fun v11 => (bif (!v11) then some false else (bif (decide ((p1.Units.length : Int) > 12)) then some false else ((X.i_sizeOf p0).bind fun v15 => (if 0 ≤ v15 ∧ v15.toNat ≤ LIM then ((loop (fun (x93 : (Int × (List A2_I))) => ((bif (decide (x93.1 < (p1.Units.length : Int))) then ((at' zTUnit p1.Units x93.1).bind fun v96 => ((X.i_goodUnit p0 v96).bind fun v101 => (bif (!v101) then some (Sum.inr (Sum.inr false)) else (bif (decide (v96.At < 0)) then some (Sum.inl ((W (x93.1 + 1)), x93.2)) else (if 0 ≤ v96.At ∧ v96.At < (x93.2.length : Int) then (if v96.Side = ((0 : Nat) : Int) then ((some (x93.2.set v96.At.toNat (A2_I.mk (W ((x93.2.getD v96.At.toNat zA2_I).a0 + 1)) ((x93.2.getD v96.At.toNat zA2_I).a1)))).bind fun l108 => (if (W (1 - v96.Side)) = ((0 : Nat) : Int) then (bif (decide ((l108.getD v96.At.toNat zA2_I).a0 > 0)) then some (Sum.inr (Sum.inr false)) else (bif (decide ((l108.getD v96.At.toNat zA2_I).a0 > p0.Rules.Stack)) then some (Sum.inr (Sum.inr false)) else some (Sum.inl ((W (x93.1 + 1)), l108)))) else (if (W (1 - v96.Side)) = ((1 : Nat) : Int) then (bif (decide ((l108.getD v96.At.toNat zA2_I).a1 > 0)) then some (Sum.inr (Sum.inr false)) else (bif (decide ((l108.getD v96.At.toNat zA2_I).a0 > p0.Rules.Stack)) then some (Sum.inr (Sum.inr false)) else some (Sum.inl ((W (x93.1 + 1)), l108)))) else none))) else (if v96.Side = ((1 : Nat) : Int) then ((some (x93.2.set v96.At.toNat (A2_I.mk ((x93.2.getD v96.At.toNat zA2_I).a0) (W ((x93.2.getD v96.At.toNat zA2_I).a1 + 1))))).bind fun l119 => (if (W (1 - v96.Side)) = ((0 : Nat) : Int) then (bif (decide ((l119.getD v96.At.toNat zA2_I).a0 > 0)) then some (Sum.inr (Sum.inr false)) else (bif (decide ((l119.getD v96.At.toNat zA2_I).a1 > p0.Rules.Stack)) then some (Sum.inr (Sum.inr false)) else some (Sum.inl ((W (x93.1 + 1)), l119)))) else (if (W (1 - v96.Side)) = ((1 : Nat) : Int) then (bif (decide ((l119.getD v96.At.toNat zA2_I).a1 > 0)) then some (Sum.inr (Sum.inr false)) else (bif (decide ((l119.getD v96.At.toNat zA2_I).a1 > p0.Rules.Stack)) then some (Sum.inr (Sum.inr false)) else some (Sum.inl ((W (x93.1 + 1)), l119)))) else none))) else none)) else none))))) else some (Sum.inr (Sum.inl ()))) : Option ((Int × (List A2_I)) ⊕ (Unit ⊕ Bool)))) (0, (List.replicate v15.toNat zA2_I))).bind fun y131 => (Sum.elim (fun (y133 : Unit) => some true) (fun (y134 : Bool) => some y134) y131)) else none)))))))
theorem i_goodState_ok (p0 : TBoard) (p1 : TState) (r : Bool) (H : X.i_goodState p0 p1 = some r) : FK 62 [.agg (eTBoard p0), .agg (eTState p1)] (cB r) := by
 unfold X.i_goodState at H
 refine fi Tryz.f62 i_goodState_ir [(4, cB r)] [] glL Tryz.func62 ?_
 refine so [] [] [(2, pk 2), (3, pk 3)] [(2, va (eTBoard p0)), (3, va (eTState p1))] id ?_
 refine seq_in ?_
 obtain ⟨v8, h9, H⟩ := oB H
 rcases oC H with ⟨c10, H⟩ | ⟨c10, H⟩
 ·refine sn ([.res (cB v8)] ++ rg 10 true []) [] [(26, cB true)] [] [] (fun t => aI (i_inRange_ok p1.Turn 0 p0.Rules.Turns v8 h9) (aG 5 c10 (aG 5 rT (t)))) ?_
  refine it rT ?_
  refine so [] [] [(4, cB false)] [] id ?_
  cases H
  exact er
 ·obtain ⟨v11, h12, H⟩ := oB H
  rcases oC H with ⟨c13, H⟩ | ⟨c13, H⟩
  ·refine sn ([.res (cB v8)] ++ rg 3 false ([.res (cB v11)] ++ rg 2 false (rg 5 true []))) [] [(26, cB true)] [] [] (fun t => aI (i_inRange_ok p1.Turn 0 p0.Rules.Turns v8 h9) (aG 3 c10 (aI (i_inRange_ok p1.Weather 0 2 v11 h12) (aG 2 c10 (aG 5 c13 (t)))))) ?_
   refine it rT ?_
   refine so [] [] [(4, cB false)] [] id ?_
   cases H
   exact er
  ·refine sn ([.res (cB v8)] ++ rg 3 false ([.res (cB v11)] ++ rg 7 false [])) [] [(26, cB (decide ((p1.Units.length : Int) > 12)))] [] [] (fun t => aI (i_inRange_ok p1.Turn 0 p0.Rules.Turns v8 h9) (aG 3 c10 (aI (i_inRange_ok p1.Weather 0 2 v11 h12) (aG 2 c10 (aG 3 c13 (lI p1.Units (aG 2 c13 (t)))))))) ?_
   rcases oC H with ⟨c14, H⟩ | ⟨c14, H⟩
   ·refine it c14 ?_
    refine so [] [] [(4, cB false)] [] id ?_
    cases H
    exact er
   ·refine jf c14 ?_
    refine sk ?_
    obtain ⟨v15, h16, H⟩ := oB H
    obtain ⟨g17, H⟩ := oI H
    refine sn [.res (cI v15), fh eA2_I zA2_I (List.replicate v15.toNat zA2_I)] [] [(5, ow 29 2 (List.replicate v15.toNat zA2_I))] [] [(29, ar 2 eA2_I zA2_I (List.replicate v15.toNat zA2_I))] (fun t => aI (i_sizeOf_ok p0 v15 h16) (aI (And.intro g17.1 (And.intro (List.length_replicate (n := v15.toNat) (a := zA2_I)).symm (Nat.le_trans (Nat.le_of_eq List.length_replicate) g17.2 : (List.replicate v15.toNat zA2_I).length ≤ LIM))) (aI (fF_rep eA2_I zA2_I zA2_I v15.toNat) (t)))) ?_
    refine seq_in ?_
    refine sn [] [] [(31, dc 4 eTUnit zTUnit p1.Units), (32, cL p1.Units), (33, cI 0)] [] [] (fun t => lI p1.Units (t)) ?_
    refine ends_blk ?_
    obtain ⟨y131, h132, H⟩ := oB H
    refine tl [] [(2, pk 2), (5, ow 29 2 (List.replicate v15.toNat zA2_I)), (31, dc 4 eTUnit zTUnit p1.Units), (32, cL p1.Units), (33, cI 0)] [(2, va (eTBoard p0)), (29, ar 2 eA2_I zA2_I (List.replicate v15.toNat zA2_I))] id ?_
    refine loop_in (fun (x : (Int × (List A2_I))) => lit [(2, pk 2), (5, ow 29 2 x.2), (31, dc 4 eTUnit zTUnit p1.Units), (32, cL p1.Units), (33, cI x.1)] [(2, va (eTBoard p0)), (29, ar 2 eA2_I zA2_I x.2)]) (orJ (fun (z : Unit) => At (.exit 0) (lit [] [])) (fun (z : Bool) => At .ret (lit [(4, cB z)] []))) h132 ?_ ?_
    ·clear H h132
     intro x93 y0 H
     refine sn [] [] [(34, cB (decide (x93.1 < (p1.Units.length : Int))))] [] [] id ?_
     refine seq_in ?_
     rcases oC H with ⟨c95, H⟩ | ⟨c95, H⟩
     ·refine it c95 ?_
      refine sk ?_
      refine seq_in ?_
      refine ends_blk ?_
      obtain ⟨v96, h97, H⟩ := oB H
      refine sn [.cs (eTUnit v96)] [] [(7, pk 7)] [] [(7, va (eTUnit v96))] (a2 eTUnit h97) ?_
      refine seq_in ?_
      obtain ⟨v101, h102, H⟩ := oB H
      refine sn [.res (cB v101)] [] [(40, cB (!v101))] [] [] (aI (i_goodUnit_ok p0 v96 v101 h102)) ?_
      rcases oC H with ⟨c103, H⟩ | ⟨c103, H⟩
      ·refine it c103 ?_
       refine so [] [] [(4, cB false)] [] id ?_
       refine ends_ret ?_
       cases H
       exact rsr
      ·refine jf c103 ?_
       refine sk ?_
       refine seq_in ?_
       refine sn [] [] [(43, cB (decide (v96.At < 0)))] [] [] id ?_
       rcases oC H with ⟨c105, H⟩ | ⟨c105, H⟩
       ·refine it c105 ?_
        refine ends_exit ?_
        change EndsI _ _ _ _ _ _
        refine oo [] [] [(2, pk 2), (5, ow 29 2 x93.2), (31, dc 4 eTUnit zTUnit p1.Units), (32, cL p1.Units), (33, cI (W (x93.1 + 1)))] [(2, va (eTBoard p0)), (29, ar 2 eA2_I zA2_I x93.2)] id ?_
        cases H
        exact rr
       ·refine jf c105 ?_
        refine sk ?_
        obtain ⟨g106, H⟩ := oI H
        rcases ofIte H with ⟨c107, H⟩ | ⟨c130, H⟩
        ·obtain ⟨l108, h109, H⟩ := oB H
         refine xn [.no, .nat 0, .no, .nat 0, .fn 0 (fF eA2_I zA2_I l108)] [] [] [29] [(29, .arr 2 x93.2.length (fF eA2_I zA2_I l108) false)] (fun t => aI g106 (aI (And.intro c107 (by decide : 0 < 2)) (aI (nat_lt g106) (aI rN (aI g106 (aI (And.intro c107 (by decide : 0 < 2)) (aI rT (aI (nat_lt g106) (aI (by decide : 0 + 1 ≤ 2) (aI (fF_setN eA2_I zA2_I h109 (nat_lt g106) x93.2.length) (t))))))))))) ?_
         rcases ofIte H with ⟨c110, H⟩ | ⟨c117, H⟩
         ·rcases oC H with ⟨c111, H⟩ | ⟨c111, H⟩
          ·refine xn ([.no, .nat 0] ++ rg 13 true []) [] [(78, cB true)] [] [] (fun t => aI g106 (aI (And.intro c110 (by decide : 0 < 2)) (aI (nat_lt g106) (aI rN (aG 13 c111 (t)))))) ?_
           refine it rT ?_
           refine so [] [] [(4, cB false)] [] id ?_
           refine ends_ret ?_
           cases H
           exact rsr
          ·refine xn ([.no, .nat 0] ++ rg 6 false ([.no, .g false, .nat 0] ++ rg 6 false [])) [] [(78, cB (decide ((l108.getD v96.At.toNat zA2_I).a0 > p0.Rules.Stack)))] [] [] (fun t => aI g106 (aI (And.intro c110 (by decide : 0 < 2)) (aI (nat_lt g106) (aI rN (aG 6 c111 (aI g106 (aI c111 (aI (And.intro c107 (by decide : 0 < 2)) (aI c111 (aI (nat_lt g106) (aI rN (aG 5 c111 (t))))))))))))) ?_
           rcases oC H with ⟨c112, H⟩ | ⟨c112, H⟩
           ·refine it c112 ?_
            refine so [] [] [(4, cB false)] [] id ?_
            refine ends_ret ?_
            cases H
            exact rsr
           ·refine jf c112 ?_
            refine sk ?_
            refine oo [] [.rel 5 l108.length, .rep 29 l108.length (fF eA2_I zA2_I l108)] [(2, pk 2), (5, ow 29 2 l108), (31, dc 4 eTUnit zTUnit p1.Units), (32, cL p1.Units), (33, cI (W (x93.1 + 1)))] [(2, va (eTBoard p0)), (29, ar 2 eA2_I zA2_I l108)] (fun t => aI (by simp [lenN h109] : x93.2.length = l108.length) (aI (Nat.le_of_eq (by simp [lenN h109] : l108.length = x93.2.length)) (aI (fun _ _ => rfl : ∀ i, i < l108.length → (fF eA2_I zA2_I l108) i = (fF eA2_I zA2_I l108) i) (t)))) ?_
            cases H
            exact rr
         ·rcases ofIte H with ⟨c113, H⟩ | ⟨c116, H⟩
          ·rcases oC H with ⟨c114, H⟩ | ⟨c114, H⟩
           ·refine xn ([.no, .nat 1] ++ rg 13 true []) [] [(78, cB true)] [] [] (fun t => aI g106 (aI (And.intro c113 (by decide : 1 < 2)) (aI (nat_lt g106) (aI rN (aG 13 c114 (t)))))) ?_
            refine it rT ?_
            refine so [] [] [(4, cB false)] [] id ?_
            refine ends_ret ?_
            cases H
            exact rsr
           ·refine xn ([.no, .nat 1] ++ rg 6 false ([.no, .g false, .nat 0] ++ rg 6 false [])) [] [(78, cB (decide ((l108.getD v96.At.toNat zA2_I).a0 > p0.Rules.Stack)))] [] [] (fun t => aI g106 (aI (And.intro c113 (by decide : 1 < 2)) (aI (nat_lt g106) (aI rN (aG 6 c114 (aI g106 (aI c114 (aI (And.intro c107 (by decide : 0 < 2)) (aI c114 (aI (nat_lt g106) (aI rN (aG 5 c114 (t))))))))))))) ?_
            rcases oC H with ⟨c115, H⟩ | ⟨c115, H⟩
            ·refine it c115 ?_
             refine so [] [] [(4, cB false)] [] id ?_
             refine ends_ret ?_
             cases H
             exact rsr
            ·refine jf c115 ?_
             refine sk ?_
             refine oo [] [.rel 5 l108.length, .rep 29 l108.length (fF eA2_I zA2_I l108)] [(2, pk 2), (5, ow 29 2 l108), (31, dc 4 eTUnit zTUnit p1.Units), (32, cL p1.Units), (33, cI (W (x93.1 + 1)))] [(2, va (eTBoard p0)), (29, ar 2 eA2_I zA2_I l108)] (fun t => aI (by simp [lenN h109] : x93.2.length = l108.length) (aI (Nat.le_of_eq (by simp [lenN h109] : l108.length = x93.2.length)) (aI (fun _ _ => rfl : ∀ i, i < l108.length → (fF eA2_I zA2_I l108) i = (fF eA2_I zA2_I l108) i) (t)))) ?_
             cases H
             exact rr
          ·cases H
        ·rcases ofIte H with ⟨c118, H⟩ | ⟨c129, H⟩
         ·obtain ⟨l119, h120, H⟩ := oB H
          refine xn [.no, .nat 1, .no, .nat 1, .fn 0 (fF eA2_I zA2_I l119)] [] [] [29] [(29, .arr 2 x93.2.length (fF eA2_I zA2_I l119) false)] (fun t => aI g106 (aI (And.intro c118 (by decide : 1 < 2)) (aI (nat_lt g106) (aI rN (aI g106 (aI (And.intro c118 (by decide : 1 < 2)) (aI rT (aI (nat_lt g106) (aI (by decide : 1 + 1 ≤ 2) (aI (fF_setN eA2_I zA2_I h120 (nat_lt g106) x93.2.length) (t))))))))))) ?_
          rcases ofIte H with ⟨c121, H⟩ | ⟨c128, H⟩
          ·rcases oC H with ⟨c122, H⟩ | ⟨c122, H⟩
           ·refine xn ([.no, .nat 0] ++ rg 13 true []) [] [(78, cB true)] [] [] (fun t => aI g106 (aI (And.intro c121 (by decide : 0 < 2)) (aI (nat_lt g106) (aI rN (aG 13 c122 (t)))))) ?_
            refine it rT ?_
            refine so [] [] [(4, cB false)] [] id ?_
            refine ends_ret ?_
            cases H
            exact rsr
           ·refine xn ([.no, .nat 0] ++ rg 6 false ([.no, .g false, .nat 1] ++ rg 6 false [])) [] [(78, cB (decide ((l119.getD v96.At.toNat zA2_I).a1 > p0.Rules.Stack)))] [] [] (fun t => aI g106 (aI (And.intro c121 (by decide : 0 < 2)) (aI (nat_lt g106) (aI rN (aG 6 c122 (aI g106 (aI c122 (aI (And.intro c118 (by decide : 1 < 2)) (aI c122 (aI (nat_lt g106) (aI rN (aG 5 c122 (t))))))))))))) ?_
            rcases oC H with ⟨c123, H⟩ | ⟨c123, H⟩
            ·refine it c123 ?_
             refine so [] [] [(4, cB false)] [] id ?_
             refine ends_ret ?_
             cases H
             exact rsr
            ·refine jf c123 ?_
             refine sk ?_
             refine oo [] [.rel 5 l119.length, .rep 29 l119.length (fF eA2_I zA2_I l119)] [(2, pk 2), (5, ow 29 2 l119), (31, dc 4 eTUnit zTUnit p1.Units), (32, cL p1.Units), (33, cI (W (x93.1 + 1)))] [(2, va (eTBoard p0)), (29, ar 2 eA2_I zA2_I l119)] (fun t => aI (by simp [lenN h120] : x93.2.length = l119.length) (aI (Nat.le_of_eq (by simp [lenN h120] : l119.length = x93.2.length)) (aI (fun _ _ => rfl : ∀ i, i < l119.length → (fF eA2_I zA2_I l119) i = (fF eA2_I zA2_I l119) i) (t)))) ?_
             cases H
             exact rr
          ·rcases ofIte H with ⟨c124, H⟩ | ⟨c127, H⟩
           ·rcases oC H with ⟨c125, H⟩ | ⟨c125, H⟩
            ·refine xn ([.no, .nat 1] ++ rg 13 true []) [] [(78, cB true)] [] [] (fun t => aI g106 (aI (And.intro c124 (by decide : 1 < 2)) (aI (nat_lt g106) (aI rN (aG 13 c125 (t)))))) ?_
             refine it rT ?_
             refine so [] [] [(4, cB false)] [] id ?_
             refine ends_ret ?_
             cases H
             exact rsr
            ·refine xn ([.no, .nat 1] ++ rg 6 false ([.no, .g false, .nat 1] ++ rg 6 false [])) [] [(78, cB (decide ((l119.getD v96.At.toNat zA2_I).a1 > p0.Rules.Stack)))] [] [] (fun t => aI g106 (aI (And.intro c124 (by decide : 1 < 2)) (aI (nat_lt g106) (aI rN (aG 6 c125 (aI g106 (aI c125 (aI (And.intro c118 (by decide : 1 < 2)) (aI c125 (aI (nat_lt g106) (aI rN (aG 5 c125 (t))))))))))))) ?_
             rcases oC H with ⟨c126, H⟩ | ⟨c126, H⟩
             ·refine it c126 ?_
              refine so [] [] [(4, cB false)] [] id ?_
              refine ends_ret ?_
              cases H
              exact rsr
             ·refine jf c126 ?_
              refine sk ?_
              refine oo [] [.rel 5 l119.length, .rep 29 l119.length (fF eA2_I zA2_I l119)] [(2, pk 2), (5, ow 29 2 l119), (31, dc 4 eTUnit zTUnit p1.Units), (32, cL p1.Units), (33, cI (W (x93.1 + 1)))] [(2, va (eTBoard p0)), (29, ar 2 eA2_I zA2_I l119)] (fun t => aI (by simp [lenN h120] : x93.2.length = l119.length) (aI (Nat.le_of_eq (by simp [lenN h120] : l119.length = x93.2.length)) (aI (fun _ _ => rfl : ∀ i, i < l119.length → (fF eA2_I zA2_I l119) i = (fF eA2_I zA2_I l119) i) (t)))) ?_
              cases H
              exact rr
           ·cases H
         ·cases H
     ·refine jf c95 ?_
      refine tl [] [] [] id ?_
      refine ends_exit ?_
      cases H
      exact rse
    ·clear h132
     cases y131 with
     | inl y133 =>
      replace H := ofInl H
      rintro e s ⟨rfl, rfl⟩
      change EndsI _ _ _ _ _ _
      refine so [] [] [(4, cB true)] [] id ?_
      cases H
      exact er
     | inr y134 =>
      replace H := ofInr H
      rintro e s ⟨rfl, rfl⟩
      cases H
      exact qr
def i_fits_ir : S :=
 (sq [o 2 (.box 12 (.t 0)), o 3 (.box 3 (.t 1)), o 4 (.mv bF)]
 (sq [o 5 (.load 12 true (.t 2)), o 6 (.call 37 [.t 5]), om 7 6, oh 8 (.load 12 true (.t 2)) 7, oh 9 (.load 3 true (.t 3)) 7, oh 10 (.call 62 [.t 8, .t 9]) 7, o 11 (.pick (.t 7) (.t 10) bF), om 4 11]
 .ret))
noncomputable def X.i_fits (p0 : TBoard) (p1 : TState) : Option Bool :=
 ((X.i_IsBoard p0).bind fun v1 => (bif v1 then ((X.i_goodState p0 p1).bind fun v4 => some v4) else some false))
theorem i_fits_ok (p0 : TBoard) (p1 : TState) (r : Bool) (H : X.i_fits p0 p1 = some r) : FK 119 [.agg (eTBoard p0), .agg (eTState p1)] (cB r) := by
 unfold X.i_fits at H
 refine fi Tryz.f119 i_fits_ir [(4, cB r)] [] glL Tryz.func119 ?_
 refine so [] [] [(2, pk 2), (3, pk 3)] [(2, va (eTBoard p0)), (3, va (eTState p1))] id ?_
 obtain ⟨v1, h2, H⟩ := oB H
 rcases oC H with ⟨c3, H⟩ | ⟨c3, H⟩
 ·obtain ⟨v4, h5, H⟩ := oB H
  refine so ([.res (cB v1)] ++ rg 3 true [.res (cB v4), .g true]) [] [(4, cB v4)] [] (fun t => aI (i_IsBoard_ok p0 v1 h2) (aG 3 c3 (aI (i_goodState_ok p0 p1 v4 h5) (aI c3 (t))))) ?_
  cases H
  exact er
 ·refine so ([.res (cB v1)] ++ rg 4 false []) [] [(4, cB false)] [] (fun t => aI (i_IsBoard_ok p0 v1 h2) (aG 4 c3 (t))) ?_
  cases H
  exact er
def i_isLook_ir : S :=
 (sq [o 3 (.box 12 (.t 0)), o 4 (.box 3 (.t 1)), o 6 (.mv bF)]
 (sq [o 7 (.load 12 true (.t 3)), o 8 (.load 3 true (.t 4)), o 9 (.call 119 [.t 7, .t 8]), om 10 9, oh 11 (.mv (.t 2)) 10, oh 12 (.call 98 [.t 11]) 10, o 13 (.pick (.t 10) (.t 12) bF), om 6 13]
 .ret))
noncomputable def X.i_isLook (p0 : TBoard) (p1 : TState) (p2 : Int) : Option Bool :=
 ((X.i_fits p0 p1).bind fun v1 => (bif v1 then ((X.i_isSide p2).bind fun v4 => some v4) else some false))
theorem i_isLook_ok (p0 : TBoard) (p1 : TState) (p2 : Int) (r : Bool) (H : X.i_isLook p0 p1 p2 = some r) : FK 61 [.agg (eTBoard p0), .agg (eTState p1), cI p2] (cB r) := by
 unfold X.i_isLook at H
 refine fi Tryz.f61 i_isLook_ir [(6, cB r)] [] glL Tryz.func61 ?_
 refine sn [] [] [(3, pk 3), (4, pk 4)] [] [(3, va (eTBoard p0)), (4, va (eTState p1))] id ?_
 obtain ⟨v1, h2, H⟩ := oB H
 rcases oC H with ⟨c3, H⟩ | ⟨c3, H⟩
 ·obtain ⟨v4, h5, H⟩ := oB H
  refine so ([.res (cB v1)] ++ rg 2 true [.res (cB v4), .g true]) [] [(6, cB v4)] [] (fun t => aI (i_fits_ok p0 p1 v1 h2) (aG 2 c3 (aI (i_isSide_ok p2 v4 h5) (aI c3 (t))))) ?_
  cases H
  exact er
 ·refine so ([.res (cB v1)] ++ rg 3 false []) [] [(6, cB false)] [] (fun t => aI (i_fits_ok p0 p1 v1 h2) (aG 3 c3 (t))) ?_
  cases H
  exact er
def g_Equal_int_ir : S :=
 (sq [o 4 (.mv bF)]
 (.seq (sq [om 6 0, o 7 (.len (.t 6)), om 8 1, o 9 (.len (.t 8)), o 10 (.bin .neq (.t 7) (.t 9))]
 (.ite (.t 10) (sq [o 4 (.mv bF)]
  .ret)
 .skip))
 (.seq (sq [om 11 0, o 12 (.len (.t 11)), o 13 (.mv (iv 0))]
 (.blk 0 (.loop (sq [o 14 (.bin .lss (.t 13) (.t 12))]
   (.seq (.ite (.t 14) .skip
   (.exit 0))
   (.seq (.blk 1 (sq [om 15 13, om 5 15]
    (.seq (.drw [(0, 1), (0, 4), (1, 4), (2, 4), (3, 4), (0, 5), (1, 5), (2, 5), (3, 5), (4, 5), (0, 6), (1, 6), (2, 6), (3, 6), (0, 7), (1, 7), (2, 7), (3, 7)] [om 16 0, om 17 5, o 18 (.iad 1 (.t 16) (.t 17)), ol 19 18, om 20 1, om 21 5, o 22 (.iad 1 (.t 20) (.t 21)), ol 23 22, o 24 (.bin .neq (.t 19) (.t 23))])
    (.ite (.t 24) (sq [o 4 (.mv bF)]
     .ret)
    .skip))))
   (.ops [o 25 (.bin .add (.t 13) (iv 1)), om 13 25])))))))
 (sq [o 4 (.mv bT)]
 .ret))))
noncomputable def X.g_Equal_int (p0 : (List Int)) (p1 : (List Int)) : Option Bool :=
 (bif ((p0.length : Int) != (p1.length : Int)) then some false else ((loop (fun (x18 : Int) => ((bif (decide (x18 < (p0.length : Int))) then ((at' zI p0 x18).bind fun v21 => ((at' zI p1 x18).bind fun v23 => (bif (v21 != v23) then some (Sum.inr (Sum.inr false)) else some (Sum.inl (W (x18 + 1)))))) else some (Sum.inr (Sum.inl ()))) : Option (Int ⊕ (Unit ⊕ Bool)))) 0).bind fun y26 => (Sum.elim (fun (y28 : Unit) => some true) (fun (y29 : Bool) => some y29) y26)))
theorem g_Equal_int_ok (p0 : (List Int)) (p1 : (List Int)) (r : Bool) (H : X.g_Equal_int p0 p1 = some r) : FK 124 [.c (dat 1 eI zI p0), .c (dat 1 eI zI p1)] (cB r) := by
 unfold X.g_Equal_int at H
 refine fi Tryz.f124 g_Equal_int_ir [(4, cB r)] [] glL Tryz.func124 ?_
 refine sn [] [] [] [] [] id ?_
 refine seq_in ?_
 refine sn [] [] [(10, cB ((p0.length : Int) != (p1.length : Int)))] [] [] (fun t => lI p0 (lI p1 (t))) ?_
 rcases oC H with ⟨c2, H⟩ | ⟨c2, H⟩
 ·refine it c2 ?_
  refine so [] [] [(4, cB false)] [] id ?_
  cases H
  exact er
 ·refine jf c2 ?_
  refine sk ?_
  refine seq_in ?_
  refine sn [] [] [(12, cL p0), (13, cI 0)] [] [] (fun t => lI p0 (t)) ?_
  refine ends_blk ?_
  obtain ⟨y26, h27, H⟩ := oB H
  refine tl [] [(0, dc 1 eI zI p0), (1, dc 1 eI zI p1), (12, cL p0), (13, cI 0)] [] id ?_
  refine loop_in (fun (x : Int) => lit [(0, dc 1 eI zI p0), (1, dc 1 eI zI p1), (12, cL p0), (13, cI x)] []) (orJ (fun (z : Unit) => At (.exit 0) (lit [] [])) (fun (z : Bool) => At .ret (lit [(4, cB z)] []))) h27 ?_ ?_
  ·clear H h27
   intro x18 y0 H
   refine sn [] [] [(14, cB (decide (x18 < (p0.length : Int))))] [] [] id ?_
   refine seq_in ?_
   rcases oC H with ⟨c20, H⟩ | ⟨c20, H⟩
   ·refine it c20 ?_
    refine sk ?_
    refine seq_in ?_
    refine ends_blk ?_
    refine sn [] [] [(5, cI x18)] [] [] id ?_
    obtain ⟨v21, h22, H⟩ := oB H
    obtain ⟨v23, h24, H⟩ := oB H
    refine xn [.cs (eI v21), .cs (eI v23)] [] [(24, cB (v21 != v23))] [] [] (fun t => (a2 eI h22 (aI rN ((a2 eI h24 (aI rN (t))))))) ?_
    rcases oC H with ⟨c25, H⟩ | ⟨c25, H⟩
    ·refine it c25 ?_
     refine so [] [] [(4, cB false)] [] id ?_
     refine ends_ret ?_
     cases H
     exact rsr
    ·refine jf c25 ?_
     refine sk ?_
     refine oo [] [] [(0, dc 1 eI zI p0), (1, dc 1 eI zI p1), (12, cL p0), (13, cI (W (x18 + 1)))] [] id ?_
     cases H
     exact rr
   ·refine jf c20 ?_
    refine tl [] [] [] id ?_
    refine ends_exit ?_
    cases H
    exact rse
  ·clear h27
   cases y26 with
   | inl y28 =>
    replace H := ofInl H
    rintro e s ⟨rfl, rfl⟩
    change EndsI _ _ _ _ _ _
    refine so [] [] [(4, cB true)] [] id ?_
    cases H
    exact er
   | inr y29 =>
    replace H := ofInr H
    rintro e s ⟨rfl, rfl⟩
    cases H
    exact qr
def g_Equal_Unit_ir : S :=
 (sq [o 4 (.mv bF)]
 (.seq (sq [om 6 0, o 7 (.len (.t 6)), om 8 1, o 9 (.len (.t 8)), o 10 (.bin .neq (.t 7) (.t 9))]
 (.ite (.t 10) (sq [o 4 (.mv bF)]
  .ret)
 .skip))
 (.seq (sq [om 11 0, o 12 (.len (.t 11)), o 13 (.mv (iv 0))]
 (.blk 0 (.loop (sq [o 14 (.bin .lss (.t 13) (.t 12))]
   (.seq (.ite (.t 14) .skip
   (.exit 0))
   (.seq (.blk 1 (sq [om 15 13, om 5 15]
    (.seq (.drw [(0, 1), (0, 4), (1, 4), (2, 4), (3, 4), (0, 5), (1, 5), (2, 5), (3, 5), (4, 5), (0, 6), (1, 6), (2, 6), (3, 6), (0, 7), (1, 7), (2, 7), (3, 7)] [om 16 0, om 17 5, o 18 (.iad 4 (.t 16) (.t 17)), o 19 (.load 4 true (.t 18)), om 20 1, om 21 5, o 22 (.iad 4 (.t 20) (.t 21)), o 23 (.load 4 true (.t 22)), o 24 (.eqa true [1, 1, 1, 1] (.t 19) (.t 23))])
    (.ite (.t 24) (sq [o 4 (.mv bF)]
     .ret)
    .skip))))
   (.ops [o 25 (.bin .add (.t 13) (iv 1)), om 13 25])))))))
 (sq [o 4 (.mv bT)]
 .ret))))
noncomputable def X.g_Equal_Unit (p0 : (List TUnit)) (p1 : (List TUnit)) : Option Bool :=
 (bif ((p0.length : Int) != (p1.length : Int)) then some false else ((loop (fun (x18 : Int) => ((bif (decide (x18 < (p0.length : Int))) then ((at' zTUnit p0 x18).bind fun v21 => ((at' zTUnit p1 x18).bind fun v23 => (bif (!((v21.Side == v23.Side) && ((v21.Kind == v23.Kind) && ((v21.At == v23.At) && ((v21.Steps == v23.Steps) && true))))) then some (Sum.inr (Sum.inr false)) else some (Sum.inl (W (x18 + 1)))))) else some (Sum.inr (Sum.inl ()))) : Option (Int ⊕ (Unit ⊕ Bool)))) 0).bind fun y26 => (Sum.elim (fun (y28 : Unit) => some true) (fun (y29 : Bool) => some y29) y26)))
theorem g_Equal_Unit_ok (p0 : (List TUnit)) (p1 : (List TUnit)) (r : Bool) (H : X.g_Equal_Unit p0 p1 = some r) : FK 125 [.c (dat 4 eTUnit zTUnit p0), .c (dat 4 eTUnit zTUnit p1)] (cB r) := by
 unfold X.g_Equal_Unit at H
 refine fi Tryz.f125 g_Equal_Unit_ir [(4, cB r)] [] glL Tryz.func125 ?_
 refine sn [] [] [] [] [] id ?_
 refine seq_in ?_
 refine sn [] [] [(10, cB ((p0.length : Int) != (p1.length : Int)))] [] [] (fun t => lI p0 (lI p1 (t))) ?_
 rcases oC H with ⟨c2, H⟩ | ⟨c2, H⟩
 ·refine it c2 ?_
  refine so [] [] [(4, cB false)] [] id ?_
  cases H
  exact er
 ·refine jf c2 ?_
  refine sk ?_
  refine seq_in ?_
  refine sn [] [] [(12, cL p0), (13, cI 0)] [] [] (fun t => lI p0 (t)) ?_
  refine ends_blk ?_
  obtain ⟨y26, h27, H⟩ := oB H
  refine tl [] [(0, dc 4 eTUnit zTUnit p0), (1, dc 4 eTUnit zTUnit p1), (12, cL p0), (13, cI 0)] [] id ?_
  refine loop_in (fun (x : Int) => lit [(0, dc 4 eTUnit zTUnit p0), (1, dc 4 eTUnit zTUnit p1), (12, cL p0), (13, cI x)] []) (orJ (fun (z : Unit) => At (.exit 0) (lit [] [])) (fun (z : Bool) => At .ret (lit [(4, cB z)] []))) h27 ?_ ?_
  ·clear H h27
   intro x18 y0 H
   refine sn [] [] [(14, cB (decide (x18 < (p0.length : Int))))] [] [] id ?_
   refine seq_in ?_
   rcases oC H with ⟨c20, H⟩ | ⟨c20, H⟩
   ·refine it c20 ?_
    refine sk ?_
    refine seq_in ?_
    refine ends_blk ?_
    refine sn [] [] [(5, cI x18)] [] [] id ?_
    obtain ⟨v21, h22, H⟩ := oB H
    obtain ⟨v23, h24, H⟩ := oB H
    refine xn [.cs (eTUnit v21), .cs (eTUnit v23)] [] [(24, cB (!((v21.Side == v23.Side) && ((v21.Kind == v23.Kind) && ((v21.At == v23.At) && ((v21.Steps == v23.Steps) && true))))))] [] [] (fun t => (a2 eTUnit h22 (aI rN ((a2 eTUnit h24 (aI rN (t))))))) ?_
    rcases oC H with ⟨c25, H⟩ | ⟨c25, H⟩
    ·refine it c25 ?_
     refine so [] [] [(4, cB false)] [] id ?_
     refine ends_ret ?_
     cases H
     exact rsr
    ·refine jf c25 ?_
     refine sk ?_
     refine oo [] [] [(0, dc 4 eTUnit zTUnit p0), (1, dc 4 eTUnit zTUnit p1), (12, cL p0), (13, cI (W (x18 + 1)))] [] id ?_
     cases H
     exact rr
   ·refine jf c20 ?_
    refine tl [] [] [] id ?_
    refine ends_exit ?_
    cases H
    exact rse
  ·clear h27
   cases y26 with
   | inl y28 =>
    replace H := ofInl H
    rintro e s ⟨rfl, rfl⟩
    change EndsI _ _ _ _ _ _
    refine so [] [] [(4, cB true)] [] id ?_
    cases H
    exact er
   | inr y29 =>
    replace H := ofInr H
    rintro e s ⟨rfl, rfl⟩
    cases H
    exact qr
def i_SameView_ir : S :=
 (sq [o 2 (.box 6 (.t 0)), o 3 (.box 6 (.t 1)), o 4 (.mv bF)]
 (sq [oa 5 0 2, ol 6 5, oa 7 0 3, ol 8 7, o 9 (.bin .eql (.t 6) (.t 8)), om 10 9, oh 11 (.fad 1 (.t 2)) 10, oh 12 (.load 1 false (.t 11)) 10, oh 13 (.fad 1 (.t 3)) 10, oh 14 (.load 1 false (.t 13)) 10, oh 15 (.bin .eql (.t 12) (.t 14)) 10, o 16 (.pick (.t 10) (.t 15) bF), om 17 16, oh 18 (.fad 2 (.t 2)) 17, oh 19 (.load 1 false (.t 18)) 17, oh 20 (.fad 2 (.t 3)) 17, oh 21 (.load 1 false (.t 20)) 17, oh 22 (.bin .eql (.t 19) (.t 21)) 17, o 23 (.pick (.t 17) (.t 22) bF), om 24 23, oh 25 (.fad 3 (.t 2)) 24, oh 26 (.load 1 false (.t 25)) 24, oh 27 (.fad 3 (.t 3)) 24, oh 28 (.load 1 false (.t 27)) 24, oh 29 (.call 124 [.t 26, .t 28]) 24, o 30 (.pick (.t 24) (.t 29) bF), om 31 30, oh 32 (.fad 4 (.t 2)) 31, oh 33 (.load 1 false (.t 32)) 31, oh 34 (.fad 4 (.t 3)) 31, oh 35 (.load 1 false (.t 34)) 31, oh 36 (.call 125 [.t 33, .t 35]) 31, o 37 (.pick (.t 31) (.t 36) bF), om 38 37, oh 39 (.fad 5 (.t 2)) 38, oh 40 (.load 1 false (.t 39)) 38, oh 41 (.fad 5 (.t 3)) 38, oh 42 (.load 1 false (.t 41)) 38, oh 43 (.call 125 [.t 40, .t 42]) 38, o 44 (.pick (.t 38) (.t 43) bF), om 4 44]
 .ret))
noncomputable def X.i_SameView (p0 : TView) (p1 : TView) : Option Bool :=
 (bif (p0.Side == p1.Side) then (bif (p0.Turn == p1.Turn) then (bif (p0.Weather == p1.Weather) then ((X.g_Equal_int p0.Seen p1.Seen).bind fun v4 => (bif v4 then ((X.g_Equal_Unit p0.Own p1.Own).bind fun v7 => (bif v7 then ((X.g_Equal_Unit p0.Enemies p1.Enemies).bind fun v10 => some v10) else some false)) else some false)) else some false) else some false) else some false)
theorem i_SameView_ok (p0 : TView) (p1 : TView) (r : Bool) (H : X.i_SameView p0 p1 = some r) : FK 63 [.agg (eTView p0), .agg (eTView p1)] (cB r) := by
 unfold X.i_SameView at H
 refine fi Tryz.f63 i_SameView_ir [(4, cB r)] [] glL Tryz.func63 ?_
 refine so [] [] [(2, pk 2), (3, pk 3)] [(2, va (eTView p0)), (3, va (eTView p1))] id ?_
 rcases oC H with ⟨c1, H⟩ | ⟨c1, H⟩
 ·rcases oC H with ⟨c2, H⟩ | ⟨c2, H⟩
  ·rcases oC H with ⟨c3, H⟩ | ⟨c3, H⟩
   ·obtain ⟨v4, h5, H⟩ := oB H
    rcases oC H with ⟨c6, H⟩ | ⟨c6, H⟩
    ·obtain ⟨v7, h8, H⟩ := oB H
     rcases oC H with ⟨c9, H⟩ | ⟨c9, H⟩
     ·obtain ⟨v10, h11, H⟩ := oB H
      refine so (rg 17 true ([.res (cB v4)] ++ rg 6 true ([.res (cB v7)] ++ rg 6 true [.res (cB v10), .g true]))) [] [(4, cB v10)] [] (fun t => aG 6 c1 (aG 6 c2 (aG 5 c3 (aI (g_Equal_int_ok p0.Seen p1.Seen v4 h5) (aI c3 (aG 5 c6 (aI (g_Equal_Unit_ok p0.Own p1.Own v7 h8) (aI c6 (aG 5 c9 (aI (g_Equal_Unit_ok p0.Enemies p1.Enemies v10 h11) (aI c9 (t)))))))))))) ?_
      cases H
      exact er
     ·refine so (rg 17 true ([.res (cB v4)] ++ rg 6 true ([.res (cB v7), .g true] ++ rg 6 false []))) [] [(4, cB false)] [] (fun t => aG 6 c1 (aG 6 c2 (aG 5 c3 (aI (g_Equal_int_ok p0.Seen p1.Seen v4 h5) (aI c3 (aG 5 c6 (aI (g_Equal_Unit_ok p0.Own p1.Own v7 h8) (aI c6 (aG 6 c9 (t)))))))))) ?_
      cases H
      exact er
    ·refine so (rg 17 true ([.res (cB v4), .g true] ++ rg 12 false [])) [] [(4, cB false)] [] (fun t => aG 6 c1 (aG 6 c2 (aG 5 c3 (aI (g_Equal_int_ok p0.Seen p1.Seen v4 h5) (aI c3 (aG 6 c6 (aG 6 rF (t)))))))) ?_
     cases H
     exact er
   ·refine so (rg 12 true (rg 18 false [])) [] [(4, cB false)] [] (fun t => aG 6 c1 (aG 6 c2 (aG 6 c3 (aG 12 rF (t))))) ?_
    cases H
    exact er
  ·refine so (rg 6 true (rg 24 false [])) [] [(4, cB false)] [] (fun t => aG 6 c1 (aG 6 c2 (aG 18 rF (t)))) ?_
   cases H
   exact er
 ·refine so (rg 30 false []) [] [(4, cB false)] [] (fun t => aG 6 c1 (aG 24 rF (t))) ?_
  cases H
  exact er
def g_Index_int_ir : S :=
 (sq [o 4 (.mv (iv 0))]
 (.seq (sq [om 6 0, o 7 (.len (.t 6)), o 8 (.mv (iv 0))]
 (.blk 0 (.loop (sq [o 9 (.bin .lss (.t 8) (.t 7))]
   (.seq (.ite (.t 9) .skip
   (.exit 0))
   (.seq (.blk 1 (sq [om 10 8, om 5 10]
    (sq [om 11 1, om 12 0, om 13 5, o 14 (.iad 1 (.t 12) (.t 13)), ol 15 14, o 16 (.bin .eql (.t 11) (.t 15))]
    (.ite (.t 16) (sq [om 17 5, om 4 17]
     .ret)
    .skip))))
   (.ops [o 18 (.bin .add (.t 8) (iv 1)), om 8 18])))))))
 (sq [o 4 (.mv (.v (.int .i64 (-1))))]
 .ret)))
noncomputable def X.g_Index_int (p0 : (List Int)) (p1 : Int) : Option Int :=
 ((loop (fun (x12 : Int) => ((bif (decide (x12 < (p0.length : Int))) then ((at' zI p0 x12).bind fun v15 => (bif (p1 == v15) then some (Sum.inr (Sum.inr x12)) else some (Sum.inl (W (x12 + 1))))) else some (Sum.inr (Sum.inl ()))) : Option (Int ⊕ (Unit ⊕ Int)))) 0).bind fun y18 => (Sum.elim (fun (y20 : Unit) => some (-1)) (fun (y21 : Int) => some y21) y18))
theorem g_Index_int_ok (p0 : (List Int)) (p1 : Int) (r : Int) (H : X.g_Index_int p0 p1 = some r) : FK 155 [.c (dat 1 eI zI p0), cI p1] (cI r) := by
 unfold X.g_Index_int at H
 refine fi Tryz.f155 g_Index_int_ir [(4, cI r)] [] glL Tryz.func155 ?_
 refine sn [] [] [] [] [] id ?_
 refine seq_in ?_
 refine sn [] [] [(7, cL p0), (8, cI 0)] [] [] (fun t => lI p0 (t)) ?_
 refine ends_blk ?_
 obtain ⟨y18, h19, H⟩ := oB H
 refine tl [] [(0, dc 1 eI zI p0), (1, cI p1), (7, cL p0), (8, cI 0)] [] id ?_
 refine loop_in (fun (x : Int) => lit [(0, dc 1 eI zI p0), (1, cI p1), (7, cL p0), (8, cI x)] []) (orJ (fun (z : Unit) => At (.exit 0) (lit [] [])) (fun (z : Int) => At .ret (lit [(4, cI z)] []))) h19 ?_ ?_
 ·clear H h19
  intro x12 y0 H
  refine sn [] [] [(9, cB (decide (x12 < (p0.length : Int))))] [] [] id ?_
  refine seq_in ?_
  rcases oC H with ⟨c14, H⟩ | ⟨c14, H⟩
  ·refine it c14 ?_
   refine sk ?_
   refine seq_in ?_
   refine ends_blk ?_
   refine sn [] [] [(5, cI x12)] [] [] id ?_
   obtain ⟨v15, h16, H⟩ := oB H
   refine sn [.cs (eI v15)] [] [(16, cB (p1 == v15))] [] [] (a2 eI h16) ?_
   rcases oC H with ⟨c17, H⟩ | ⟨c17, H⟩
   ·refine it c17 ?_
    refine so [] [] [(4, cI x12)] [] id ?_
    refine ends_ret ?_
    cases H
    exact rsr
   ·refine jf c17 ?_
    refine sk ?_
    refine oo [] [] [(0, dc 1 eI zI p0), (1, cI p1), (7, cL p0), (8, cI (W (x12 + 1)))] [] id ?_
    cases H
    exact rr
  ·refine jf c14 ?_
   refine tl [] [] [] id ?_
   refine ends_exit ?_
   cases H
   exact rse
 ·clear h19
  cases y18 with
  | inl y20 =>
   replace H := ofInl H
   rintro e s ⟨rfl, rfl⟩
   change EndsI _ _ _ _ _ _
   refine so [] [] [(4, cI (-1))] [] id ?_
   cases H
   exact er
  | inr y21 =>
   replace H := ofInr H
   rintro e s ⟨rfl, rfl⟩
   cases H
   exact qr
def g_Contains_int_ir : S :=
 (sq [o 4 (.mv bF)]
 (sq [om 5 0, om 6 1, o 7 (.call 155 [.t 5, .t 6]), o 8 (.bin .geq (.t 7) (iv 0)), om 4 8]
 .ret))
noncomputable def X.g_Contains_int (p0 : (List Int)) (p1 : Int) : Option Bool :=
 ((X.g_Index_int p0 p1).bind fun v1 => some (decide (v1 ≥ 0)))
theorem g_Contains_int_ok (p0 : (List Int)) (p1 : Int) (r : Bool) (H : X.g_Contains_int p0 p1 = some r) : FK 105 [.c (dat 1 eI zI p0), cI p1] (cB r) := by
 unfold X.g_Contains_int at H
 refine fi Tryz.f105 g_Contains_int_ir [(4, cB r)] [] glL Tryz.func105 ?_
 refine sn [] [] [] [] [] id ?_
 obtain ⟨v1, h2, H⟩ := oB H
 refine so [.res (cI v1)] [] [(4, cB (decide (v1 ≥ 0)))] [] (aI (g_Index_int_ok p0 p1 v1 h2)) ?_
 cases H
 exact er
def i_compareUnits_ir : S :=
 (sq [o 2 (.box 4 (.t 0)), o 3 (.box 4 (.t 1)), o 4 (.mv (iv 0))]
 (.seq (sq [oa 5 2 2, ol 6 5, oa 7 2 3, ol 8 7, o 9 (.bin .neq (.t 6) (.t 8))]
 (.ite (.t 9) (sq [oa 10 2 2, ol 11 10, oa 12 2 3, ol 13 12, o 14 (.bin .sub (.t 11) (.t 13)), om 4 14]
  .ret)
 .skip))
 (.seq (sq [oa 15 1 2, ol 16 15, oa 17 1 3, ol 18 17, o 19 (.bin .neq (.t 16) (.t 18))]
 (.ite (.t 19) (sq [oa 20 1 2, ol 21 20, oa 22 1 3, ol 23 22, o 24 (.bin .sub (.t 21) (.t 23)), om 4 24]
  .ret)
 .skip))
 (sq [oa 25 3 2, ol 26 25, oa 27 3 3, ol 28 27, o 29 (.bin .sub (.t 26) (.t 28)), om 4 29]
 .ret))))
noncomputable def X.i_compareUnits (p0 : TUnit) (p1 : TUnit) : Option Int :=
 (bif (p0.At != p1.At) then some (W (p0.At - p1.At)) else (bif (p0.Kind != p1.Kind) then some (W (p0.Kind - p1.Kind)) else some (W (p0.Steps - p1.Steps))))
theorem i_compareUnits_ok (p0 : TUnit) (p1 : TUnit) (r : Int) (H : X.i_compareUnits p0 p1 = some r) : FK 107 [.agg (eTUnit p0), .agg (eTUnit p1)] (cI r) := by
 unfold X.i_compareUnits at H
 refine fi Tryz.f107 i_compareUnits_ir [(4, cI r)] [] glL Tryz.func107 ?_
 refine so [] [] [(2, pk 2), (3, pk 3)] [(2, va (eTUnit p0)), (3, va (eTUnit p1))] id ?_
 refine seq_in ?_
 refine sn [] [] [(9, cB (p0.At != p1.At))] [] [] id ?_
 rcases oC H with ⟨c2, H⟩ | ⟨c2, H⟩
 ·refine it c2 ?_
  refine so [] [] [(4, cI (W (p0.At - p1.At)))] [] id ?_
  cases H
  exact er
 ·refine jf c2 ?_
  refine sk ?_
  refine seq_in ?_
  refine sn [] [] [(19, cB (p0.Kind != p1.Kind))] [] [] id ?_
  rcases oC H with ⟨c3, H⟩ | ⟨c3, H⟩
  ·refine it c3 ?_
   refine so [] [] [(4, cI (W (p0.Kind - p1.Kind)))] [] id ?_
   cases H
   exact er
  ·refine jf c3 ?_
   refine sk ?_
   refine so [] [] [(4, cI (W (p0.Steps - p1.Steps)))] [] id ?_
   cases H
   exact er
def i_unitsOf_ir : S :=
 (sq [o 2 (.box 3 (.t 0)), o 4 (.mv (.v (.nil)))]
 (sq [o 8 (.bsl 1 []), om 5 8]
 (.seq (sq [oa 9 2 2, ol 10 9, o 11 (.len (.t 10)), o 12 (.mv (iv 0))]
 (.blk 0 (.loop (sq [o 13 (.bin .lss (.t 12) (.t 11))]
   (.seq (.ite (.t 13) .skip
   (.exit 0))
   (.seq (.blk 1 (sq [om 14 12, o 15 (.iad 4 (.t 10) (.t 12)), o 16 (.load 4 true (.t 15)), o 7 (.alloc [.int .i64 0, .int .i64 0, .int .i64 0, .int .i64 0]), om 6 14, os 4 7 16]
    (sq [oa 17 0 7, ol 18 17, om 19 1, o 20 (.bin .eql (.t 18) (.t 19)), om 21 20, oh 22 (.fad 2 (.t 7)) 21, oh 23 (.load 1 false (.t 22)) 21, oh 24 (.bin .geq (.t 23) (iv 0)) 21, o 25 (.pick (.t 21) (.t 24) bF)]
    (.ite (.t 25) (.ops [om 26 5, om 27 6, o 28 (.bsl 1 [.t 27]), o 29 (.app 1 8 (.t 26) (.t 28)), om 5 29])
    .skip))))
   (.ops [o 30 (.bin .add (.t 12) (iv 1)), om 12 30])))))))
 (sq [om 31 5, om 4 31]
 .ret))))
noncomputable def X.i_unitsOf (p0 : TState) (p1 : Int) : Option (List Int) :=
 ((loop (fun (x16 : (Int × (List Int))) => ((bif (decide (x16.1 < (p0.Units.length : Int))) then ((at' zTUnit p0.Units x16.1).bind fun v19 => (bif (v19.Side == p1) then (bif (decide (v19.At ≥ 0)) then (if (x16.2 ++ ([x16.1] : List Int)).length ≤ LIM then some (Sum.inl ((W (x16.1 + 1)), (x16.2 ++ ([x16.1] : List Int)))) else none) else some (Sum.inl ((W (x16.1 + 1)), x16.2))) else some (Sum.inl ((W (x16.1 + 1)), x16.2)))) else some (Sum.inr x16.2)) : Option ((Int × (List Int)) ⊕ (List Int)))) (0, ([] : List Int))).bind fun y24 => some y24)
theorem i_unitsOf_ok (p0 : TState) (p1 : Int) (r : (List Int)) (H : X.i_unitsOf p0 p1 = some r) : FK 208 [.agg (eTState p0), cI p1] (.c (dat 1 eI zI r)) := by
 unfold X.i_unitsOf at H
 refine fi Tryz.f208 i_unitsOf_ir [(4, dc 1 eI zI r)] [] glL Tryz.func208 ?_
 refine sn [] [] [(2, pk 2)] [] [(2, va (eTState p0))] id ?_
 refine sn [fh eI zI ([] : List Int)] [] [(5, ow 8 1 ([] : List Int))] [] [(8, ar 1 eI zI ([] : List Int))] (fun t => aI (rfl : ([] : List Int).length = 0) (aI (fF_lit eI zI ([] : List Int)) (t))) ?_
 refine seq_in ?_
 refine sn [] [] [(10, dc 4 eTUnit zTUnit p0.Units), (11, cL p0.Units), (12, cI 0)] [] [] (fun t => lI p0.Units (t)) ?_
 refine ends_blk ?_
 obtain ⟨y24, h25, H⟩ := oB H
 refine tl [.ren 8 1001] [(1, cI p1), (5, ow 1001 1 ([] : List Int)), (10, dc 4 eTUnit zTUnit p0.Units), (11, cL p0.Units), (12, cI 0)] [(1001, ar 1 eI zI ([] : List Int))] id ?_
 refine loop_in (fun (x : (Int × (List Int))) => lit [(1, cI p1), (5, ow 1001 1 x.2), (10, dc 4 eTUnit zTUnit p0.Units), (11, cL p0.Units), (12, cI x.1)] [(1001, ar 1 eI zI x.2)]) (fun (z : (List Int)) => At (.exit 0) (lit [(5, ow 1001 1 z)] [(1001, ar 1 eI zI z)])) h25 ?_ ?_
 ·clear H h25
  intro x16 y0 H
  refine sn [] [] [(13, cB (decide (x16.1 < (p0.Units.length : Int))))] [] [] id ?_
  refine seq_in ?_
  rcases oC H with ⟨c18, H⟩ | ⟨c18, H⟩
  ·refine it c18 ?_
   refine sk ?_
   refine seq_in ?_
   refine ends_blk ?_
   obtain ⟨v19, h20, H⟩ := oB H
   refine sn [.cs (eTUnit v19)] [] [(6, cI x16.1), (7, pk 7)] [] [(7, va (eTUnit v19))] (a2 eTUnit h20) ?_
   rcases oC H with ⟨c21, H⟩ | ⟨c21, H⟩
   ·refine sn (rg 4 true []) [] [(25, cB (decide (v19.At ≥ 0)))] [] [] (fun t => aG 4 c21 (t)) ?_
    rcases oC H with ⟨c22, H⟩ | ⟨c22, H⟩
    ·refine it c22 ?_
     obtain ⟨g23, H⟩ := oI H
     refine oo [fh eI zI ([x16.1] : List Int), fh eI zI (x16.2 ++ ([x16.1] : List Int))] [] [(1, cI p1), (5, ow 29 1 (x16.2 ++ ([x16.1] : List Int))), (10, dc 4 eTUnit zTUnit p0.Units), (11, cL p0.Units), (12, cI x16.1)] [(29, ar 1 eI zI (x16.2 ++ ([x16.1] : List Int)))] (fun t => aI (rfl : ([x16.1] : List Int).length = 1) (aI (fF_lit eI zI ([x16.1] : List Int)) (aI (And.intro (Nat.le_refl x16.2.length) (And.intro (@List.length_append _ x16.2 ([x16.1] : List Int)) g23)) (aI (fF_appL eI zI x16.2 ([x16.1] : List Int)) (aI (fF_appR eI zI x16.2 ([x16.1] : List Int)) (t)))))) ?_
     change EndsI _ _ _ _ _ _
     refine oo [] [.ren 29 1001] [(1, cI p1), (5, ow 1001 1 (x16.2 ++ ([x16.1] : List Int))), (10, dc 4 eTUnit zTUnit p0.Units), (11, cL p0.Units), (12, cI (W (x16.1 + 1)))] [(1001, ar 1 eI zI (x16.2 ++ ([x16.1] : List Int)))] id ?_
     cases H
     exact rr
    ·refine jf c22 ?_
     refine sk ?_
     refine oo [] [] [(1, cI p1), (5, ow 1001 1 x16.2), (10, dc 4 eTUnit zTUnit p0.Units), (11, cL p0.Units), (12, cI (W (x16.1 + 1)))] [(1001, ar 1 eI zI x16.2)] id ?_
     cases H
     exact rr
   ·refine sn (rg 4 false []) [] [(25, cB false)] [] [] (fun t => aG 4 c21 (t)) ?_
    refine jf rF ?_
    refine sk ?_
    refine oo [] [] [(1, cI p1), (5, ow 1001 1 x16.2), (10, dc 4 eTUnit zTUnit p0.Units), (11, cL p0.Units), (12, cI (W (x16.1 + 1)))] [(1001, ar 1 eI zI x16.2)] id ?_
    cases H
    exact rr
  ·refine jf c18 ?_
   refine tl [] [(5, ow 1001 1 x16.2)] [(1001, ar 1 eI zI x16.2)] id ?_
   refine ends_exit ?_
   cases H
   exact rse
 ·clear h25
  rintro e s ⟨rfl, rfl⟩
  change EndsI _ _ _ _ _ _
  refine sn [] [] [(4, ow 1001 1 y24)] [] [] id ?_
  refine tl [.frz 4] [(4, dc 1 eI zI y24)] [] (aI (Nat.le_refl y24.length)) ?_
  cases H
  exact er
def i_absOf_ir : S :=
 (sq [o 2 (.mv (iv 0))]
 (.seq (sq [om 3 0, o 4 (.bin .lss (.t 3) (iv 0))]
 (.ite (.t 4) (sq [om 5 0, o 6 (.neg (.t 5)), om 2 6]
  .ret)
 .skip))
 (sq [om 7 0, om 2 7]
 .ret)))
noncomputable def X.i_absOf (p0 : Int) : Option Int :=
 (bif (decide (p0 < 0)) then some (W (0 - p0)) else some p0)
theorem i_absOf_ok (p0 : Int) (r : Int) (H : X.i_absOf p0 = some r) : FK 264 [cI p0] (cI r) := by
 unfold X.i_absOf at H
 refine fi Tryz.f264 i_absOf_ir [(2, cI r)] [] glL Tryz.func264 ?_
 refine sn [] [] [] [] [] id ?_
 refine seq_in ?_
 refine sn [] [] [(4, cB (decide (p0 < 0)))] [] [] id ?_
 rcases oC H with ⟨c1, H⟩ | ⟨c1, H⟩
 ·refine it c1 ?_
  refine so [] [] [(2, cI (W (0 - p0)))] [] id ?_
  cases H
  exact er
 ·refine jf c1 ?_
  refine sk ?_
  refine so [] [] [(2, cI p0)] [] id ?_
  cases H
  exact er
def i_distance_ir : S :=
 (sq [o 2 (.box 2 (.t 0)), o 3 (.box 2 (.t 1)), o 4 (.mv (iv 0))]
 (.seq (.drw [(0, 2), (1, 2), (0, 3), (1, 3), (0, 5), (1, 5), (2, 5), (3, 5), (4, 5), (0, 6), (1, 6), (2, 6), (3, 6), (4, 6), (0, 7), (1, 7), (2, 7), (3, 7), (4, 7), (5, 7), (6, 7), (0, 8), (1, 8), (2, 8), (3, 8), (4, 8), (5, 8), (6, 8), (0, 9), (1, 9), (2, 9), (3, 9), (4, 9), (5, 10), (6, 10), (7, 10), (8, 10), (9, 10)] [oa 7 0 3, ol 8 7, oa 9 0 2, ol 10 9, o 11 (.bin .sub (.t 8) (.t 10)), oa 12 1 3, ol 13 12, oa 14 1 2, ol 15 14, o 16 (.bin .sub (.t 13) (.t 15)), om 5 11, om 6 16])
 (sq [om 17 5, o 18 (.call 264 [.t 17]), om 19 6, o 20 (.call 264 [.t 19]), o 21 (.bin .add (.t 18) (.t 20)), om 22 5, om 23 6, o 24 (.bin .add (.t 22) (.t 23)), o 25 (.call 264 [.t 24]), o 26 (.bin .add (.t 21) (.t 25)), o 27 (.bin .quo (.t 26) (iv 2)), om 4 27]
 .ret)))
noncomputable def X.i_distance (p0 : THex) (p1 : THex) : Option Int :=
 ((X.i_absOf (W (p1.Q - p0.Q))).bind fun v1 => ((X.i_absOf (W (p1.R - p0.R))).bind fun v3 => ((X.i_absOf (W ((W (p1.Q - p0.Q)) + (W (p1.R - p0.R))))).bind fun v5 => some (W (Int.tdiv (W ((W (v1 + v3)) + v5)) 2)))))
theorem i_distance_ok (p0 : THex) (p1 : THex) (r : Int) (H : X.i_distance p0 p1 = some r) : FK 244 [.agg (eTHex p0), .agg (eTHex p1)] (cI r) := by
 unfold X.i_distance at H
 refine fi Tryz.f244 i_distance_ir [(4, cI r)] [] glL Tryz.func244 ?_
 refine so [] [] [(2, pk 2), (3, pk 3)] [(2, va (eTHex p0)), (3, va (eTHex p1))] id ?_
 refine sx [] [] [(5, cI (W (p1.Q - p0.Q))), (6, cI (W (p1.R - p0.R)))] [] id ?_
 obtain ⟨v1, h2, H⟩ := oB H
 obtain ⟨v3, h4, H⟩ := oB H
 obtain ⟨v5, h6, H⟩ := oB H
 refine so [.res (cI v1), .res (cI v3), .res (cI v5)] [] [(4, cI (W (Int.tdiv (W ((W (v1 + v3)) + v5)) 2)))] [] (fun t => aI (i_absOf_ok (W (p1.Q - p0.Q)) v1 h2) (aI (i_absOf_ok (W (p1.R - p0.R)) v3 h4) (aI (i_absOf_ok (W ((W (p1.Q - p0.Q)) + (W (p1.R - p0.R)))) v5 h6) (aI (by decide : (2 : Int) ≠ 0) (t))))) ?_
 cases H
 exact er
def i_floorDiv_ir : S :=
 (sq [o 4 (.mv (iv 0))]
 (sq [om 6 0, om 7 1, o 8 (.bin .quo (.t 6) (.t 7)), om 5 8]
 (.seq (sq [om 9 0, om 10 1, o 11 (.bin .rem (.t 9) (.t 10)), o 12 (.bin .lss (.t 11) (iv 0))]
 (.ite (.t 12) (.ops [om 13 5, o 14 (.bin .sub (.t 13) (iv 1)), om 5 14])
 .skip))
 (sq [om 15 5, om 4 15]
 .ret))))
noncomputable def X.i_floorDiv (p0 : Int) (p1 : Int) : Option Int :=
 (if p1 ≠ 0 then (if p1 ≠ 0 then (bif (decide ((Int.tmod p0 p1) < 0)) then some (W ((W (Int.tdiv p0 p1)) - 1)) else some (W (Int.tdiv p0 p1))) else none) else none)
theorem i_floorDiv_ok (p0 : Int) (p1 : Int) (r : Int) (H : X.i_floorDiv p0 p1 = some r) : FK 290 [cI p0, cI p1] (cI r) := by
 unfold X.i_floorDiv at H
 refine fi Tryz.f290 i_floorDiv_ir [(4, cI r)] [] glL Tryz.func290 ?_
 refine sn [] [] [] [] [] id ?_
 obtain ⟨g1, H⟩ := oI H
 refine sn [] [] [(5, cI (W (Int.tdiv p0 p1)))] [] [] (fun t => aI g1 (t)) ?_
 refine seq_in ?_
 obtain ⟨g2, H⟩ := oI H
 refine sn [] [] [(12, cB (decide ((Int.tmod p0 p1) < 0)))] [] [] (fun t => aI g2 (t)) ?_
 rcases oC H with ⟨c3, H⟩ | ⟨c3, H⟩
 ·refine it c3 ?_
  refine oo [] [] [(5, cI (W ((W (Int.tdiv p0 p1)) - 1)))] [] id ?_
  change EndsI _ _ _ _ _ _
  refine so [] [] [(4, cI (W ((W (Int.tdiv p0 p1)) - 1)))] [] id ?_
  cases H
  exact er
 ·refine jf c3 ?_
  refine sk ?_
  refine so [] [] [(4, cI (W (Int.tdiv p0 p1)))] [] id ?_
  cases H
  exact er
def i_nearestTo_ir : S :=
 (sq [o 6 (.mv (.v (.nil)))]
 (sq [o 14 (.bsl 2 []), om 7 14, o 8 (.mv (.v (.int .i64 (-1))))]
 (.seq (sq [om 15 0, om 16 2, o 17 (.call 290 [.t 15, .t 16]), o 18 (.bin .sub (.t 17) (iv 1)), om 9 18]
 (.blk 0 (.loop (.seq (sq [om 19 9, om 20 0, om 21 2, o 22 (.call 290 [.t 20, .t 21]), o 23 (.bin .add (.t 22) (iv 2)), o 24 (.bin .leq (.t 19) (.t 23))]
   (.ite (.t 24) .skip
   (.exit 0)))
   (.seq (.blk 1 (sq [om 27 1, om 28 2, o 29 (.call 290 [.t 27, .t 28]), o 30 (.bin .sub (.t 29) (iv 1)), om 10 30]
    (.blk 2 (.loop (.seq (sq [om 31 10, om 32 1, om 33 2, o 34 (.call 290 [.t 32, .t 33]), o 35 (.bin .add (.t 34) (iv 2)), o 36 (.bin .leq (.t 31) (.t 35))]
      (.ite (.t 36) .skip
      (.exit 2)))
      (.seq (.blk 3 (sq [om 39 2, om 40 9, o 41 (.bin .mul (.t 39) (.t 40)), om 42 0, o 43 (.bin .sub (.t 41) (.t 42)), om 44 2, om 45 10, o 46 (.bin .mul (.t 44) (.t 45)), om 47 1, o 48 (.bin .sub (.t 46) (.t 47)), om 11 43, om 12 48]
       (sq [om 49 11, om 50 11, o 51 (.bin .mul (.t 49) (.t 50)), om 52 11, om 53 12, o 54 (.bin .mul (.t 52) (.t 53)), o 55 (.bin .add (.t 51) (.t 54)), om 56 12, om 57 12, o 58 (.bin .mul (.t 56) (.t 57)), o 59 (.bin .add (.t 55) (.t 58)), om 13 59]
       (.seq (sq [om 60 8, o 61 (.bin .lss (.t 60) (iv 0)), om 62 61, og 63 (.mv (.t 13)) 62, og 64 (.mv (.t 8)) 62, og 65 (.bin .lss (.t 63) (.t 64)) 62, o 66 (.pick (.t 62) bT (.t 65))]
       (.ite (.t 66) (.ops [om 67 7, o 68 (.slc 2 (.t 67) none (some (iv 0))), om 69 13, om 7 68, om 8 69])
       .skip))
       (sq [om 70 13, om 71 8, o 72 (.bin .eql (.t 70) (.t 71))]
       (.ite (.t 72) (.ops [om 73 7, om 74 9, om 75 10, o 76 (.build [.int .i64 0, .int .i64 0] [(0, 1, .t 74), (1, 1, .t 75)]), o 77 (.bsl 2 [.t 76]), o 78 (.app 2 16 (.t 73) (.t 77)), om 7 78])
       .skip))))))
      (.ops [om 37 10, o 38 (.bin .add (.t 37) (iv 1)), om 10 38])))))))
   (.ops [om 25 9, o 26 (.bin .add (.t 25) (iv 1)), om 9 26]))))))
 (sq [om 79 7, om 6 79]
 .ret))))
noncomputable def X.i_nearestTo (p0 : Int) (p1 : Int) (p2 : Int) : Option (List THex) :=
 ((X.i_floorDiv p0 p2).bind fun v1 => ((loop (fun (x136 : (Int × Int × (List THex))) => (((X.i_floorDiv p0 p2).bind fun v140 => (bif (decide (x136.2.1 ≤ (W (v140 + 2)))) then ((X.i_floorDiv p1 p2).bind fun v143 => ((loop (fun (x182 : (Int × Int × (List THex))) => (((X.i_floorDiv p1 p2).bind fun v186 => (bif (decide (x182.2.1 ≤ (W (v186 + 2)))) then (((bif (decide (x182.1 < 0)) then (if 0 ≤ (0 : Int) ∧ (0 : Int) ≤ (0 : Int) ∧ (0 : Int) ≤ (x182.2.2.length : Int) then some ((W ((W ((W ((W ((W (p2 * x136.2.1)) - p0)) * (W ((W (p2 * x136.2.1)) - p0)))) + (W ((W ((W (p2 * x136.2.1)) - p0)) * (W ((W (p2 * x182.2.1)) - p1)))))) + (W ((W ((W (p2 * x182.2.1)) - p1)) * (W ((W (p2 * x182.2.1)) - p1)))))), (x182.2.2.take (0 : Int).toNat)) else none) else (bif (decide ((W ((W ((W ((W ((W (p2 * x136.2.1)) - p0)) * (W ((W (p2 * x136.2.1)) - p0)))) + (W ((W ((W (p2 * x136.2.1)) - p0)) * (W ((W (p2 * x182.2.1)) - p1)))))) + (W ((W ((W (p2 * x182.2.1)) - p1)) * (W ((W (p2 * x182.2.1)) - p1)))))) < x182.1)) then (if 0 ≤ (0 : Int) ∧ (0 : Int) ≤ (0 : Int) ∧ (0 : Int) ≤ (x182.2.2.length : Int) then some ((W ((W ((W ((W ((W (p2 * x136.2.1)) - p0)) * (W ((W (p2 * x136.2.1)) - p0)))) + (W ((W ((W (p2 * x136.2.1)) - p0)) * (W ((W (p2 * x182.2.1)) - p1)))))) + (W ((W ((W (p2 * x182.2.1)) - p1)) * (W ((W (p2 * x182.2.1)) - p1)))))), (x182.2.2.take (0 : Int).toNat)) else none) else some (x182.1, x182.2.2))) : Option (Int × (List THex))).bind fun y197 => (bif ((W ((W ((W ((W ((W (p2 * x136.2.1)) - p0)) * (W ((W (p2 * x136.2.1)) - p0)))) + (W ((W ((W (p2 * x136.2.1)) - p0)) * (W ((W (p2 * x182.2.1)) - p1)))))) + (W ((W ((W (p2 * x182.2.1)) - p1)) * (W ((W (p2 * x182.2.1)) - p1)))))) == y197.1) then (if (y197.2 ++ ([(THex.mk x136.2.1 x182.2.1)] : List THex)).length ≤ LIM then some (Sum.inl (y197.1, (W (x182.2.1 + 1)), (y197.2 ++ ([(THex.mk x136.2.1 x182.2.1)] : List THex)))) else none) else some (Sum.inl (y197.1, (W (x182.2.1 + 1)), y197.2)))) else some (Sum.inr (x182.1, x182.2.2)))) : Option ((Int × Int × (List THex)) ⊕ (Int × (List THex))))) (x136.1, (W (v143 - 1)), x136.2.2)).bind fun y201 => some (Sum.inl (y201.1, (W (x136.2.1 + 1)), y201.2)))) else some (Sum.inr x136.2.2))) : Option ((Int × Int × (List THex)) ⊕ (List THex)))) (-1, (W (v1 - 1)), ([] : List THex))).bind fun y203 => some y203))
theorem i_nearestTo_ok (p0 : Int) (p1 : Int) (p2 : Int) (r : (List THex)) (H : X.i_nearestTo p0 p1 p2 = some r) : FK 287 [cI p0, cI p1, cI p2] (.c (dat 2 eTHex zTHex r)) := by
 unfold X.i_nearestTo at H
 refine fi Tryz.f287 i_nearestTo_ir [(6, dc 2 eTHex zTHex r)] [] glL Tryz.func287 ?_
 refine sn [] [] [] [] [] id ?_
 refine sn [fh eTHex zTHex ([] : List THex)] [] [(7, ow 14 2 ([] : List THex)), (8, cI (-1))] [] [(14, ar 2 eTHex zTHex ([] : List THex))] (fun t => aI (rfl : ([] : List THex).length = 0) (aI (fF_lit eTHex zTHex ([] : List THex)) (t))) ?_
 refine seq_in ?_
 obtain ⟨v1, h2, H⟩ := oB H
 refine sn [.res (cI v1)] [] [(9, cI (W (v1 - 1)))] [] [] (aI (i_floorDiv_ok p0 p2 v1 h2)) ?_
 refine ends_blk ?_
 obtain ⟨y203, h204, H⟩ := oB H
 refine tl [.ren 14 1002] [(0, cI p0), (1, cI p1), (2, cI p2), (7, ow 1002 2 ([] : List THex)), (8, cI (-1)), (9, cI (W (v1 - 1)))] [(1002, ar 2 eTHex zTHex ([] : List THex))] id ?_
 refine loop_in (fun (x : (Int × Int × (List THex))) => lit [(0, cI p0), (1, cI p1), (2, cI p2), (7, ow 1002 2 x.2.2), (8, cI x.1), (9, cI x.2.1)] [(1002, ar 2 eTHex zTHex x.2.2)]) (fun (z : (List THex)) => At (.exit 0) (lit [(7, ow 1002 2 z)] [(1002, ar 2 eTHex zTHex z)])) h204 ?_ ?_
 ·clear H h204
  intro x136 y0 H
  refine seq_in ?_
  obtain ⟨v140, h141, H⟩ := oB H
  refine sn [.res (cI v140)] [] [(24, cB (decide (x136.2.1 ≤ (W (v140 + 2)))))] [] [] (aI (i_floorDiv_ok p0 p2 v140 h141)) ?_
  rcases oC H with ⟨c142, H⟩ | ⟨c142, H⟩
  ·refine it c142 ?_
   refine sk ?_
   refine seq_in ?_
   refine ends_blk ?_
   obtain ⟨v143, h144, H⟩ := oB H
   refine sn [.res (cI v143)] [] [(10, cI (W (v143 - 1)))] [] [] (aI (i_floorDiv_ok p1 p2 v143 h144)) ?_
   refine ends_blk ?_
   obtain ⟨y201, h202, H⟩ := oB H
   refine tl [] [(0, cI p0), (1, cI p1), (2, cI p2), (7, ow 1002 2 x136.2.2), (8, cI x136.1), (9, cI x136.2.1), (10, cI (W (v143 - 1)))] [(1002, ar 2 eTHex zTHex x136.2.2)] id ?_
   refine loop_in (fun (x : (Int × Int × (List THex))) => lit [(0, cI p0), (1, cI p1), (2, cI p2), (7, ow 1002 2 x.2.2), (8, cI x.1), (9, cI x136.2.1), (10, cI x.2.1)] [(1002, ar 2 eTHex zTHex x.2.2)]) (fun (z : (Int × (List THex))) => At (.exit 2) (lit [(0, cI p0), (1, cI p1), (2, cI p2), (7, ow 1002 2 z.2), (8, cI z.1), (9, cI x136.2.1)] [(1002, ar 2 eTHex zTHex z.2)])) h202 ?_ ?_
   ·clear H h202
    intro x182 y0 H
    refine seq_in ?_
    obtain ⟨v186, h187, H⟩ := oB H
    refine sn [.res (cI v186)] [] [(36, cB (decide (x182.2.1 ≤ (W (v186 + 2)))))] [] [] (aI (i_floorDiv_ok p1 p2 v186 h187)) ?_
    rcases oC H with ⟨c188, H⟩ | ⟨c188, H⟩
    ·refine it c188 ?_
     refine sk ?_
     refine seq_in ?_
     refine ends_blk ?_
     refine sn [] [] [(11, cI (W ((W (p2 * x136.2.1)) - p0))), (12, cI (W ((W (p2 * x182.2.1)) - p1)))] [] [] id ?_
     refine sn [] [] [(13, cI (W ((W ((W ((W ((W (p2 * x136.2.1)) - p0)) * (W ((W (p2 * x136.2.1)) - p0)))) + (W ((W ((W (p2 * x136.2.1)) - p0)) * (W ((W (p2 * x182.2.1)) - p1)))))) + (W ((W ((W (p2 * x182.2.1)) - p1)) * (W ((W (p2 * x182.2.1)) - p1)))))))] [] [] id ?_
     obtain ⟨y197, h198, H⟩ := oB H
     refine seq_in (cut_in (fun (z : (Int × (List THex))) => At .normal (lit [(0, cI p0), (1, cI p1), (2, cI p2), (7, ow 1002 2 z.2), (8, cI z.1), (9, cI x136.2.1), (10, cI x182.2.1), (13, cI (W ((W ((W ((W ((W (p2 * x136.2.1)) - p0)) * (W ((W (p2 * x136.2.1)) - p0)))) + (W ((W ((W (p2 * x136.2.1)) - p0)) * (W ((W (p2 * x182.2.1)) - p1)))))) + (W ((W ((W (p2 * x182.2.1)) - p1)) * (W ((W (p2 * x182.2.1)) - p1)))))))] [(1002, ar 2 eTHex zTHex z.2)])) y197 ?_ ?_)
     ·clear H
      revert h198
      generalize y197 = y0
      intro H
      rcases oC H with ⟨c193, H⟩ | ⟨c193, H⟩
      ·refine sn (rg 4 true []) [] [(66, cB true)] [] [] (fun t => aG 4 c193 (t)) ?_
       refine it rT ?_
       obtain ⟨g194, H⟩ := oI H
       refine oo [.nat (x182.2.2.take (0 : Int).toNat).length] [.rep 1002 (x182.2.2.take (0 : Int).toNat).length (fF eTHex zTHex (x182.2.2.take (0 : Int).toNat))] [(0, cI p0), (1, cI p1), (2, cI p2), (7, ow 1002 2 (x182.2.2.take (0 : Int).toNat)), (8, cI (W ((W ((W ((W ((W (p2 * x136.2.1)) - p0)) * (W ((W (p2 * x136.2.1)) - p0)))) + (W ((W ((W (p2 * x136.2.1)) - p0)) * (W ((W (p2 * x182.2.1)) - p1)))))) + (W ((W ((W (p2 * x182.2.1)) - p1)) * (W ((W (p2 * x182.2.1)) - p1))))))), (9, cI x136.2.1), (10, cI x182.2.1), (13, cI (W ((W ((W ((W ((W (p2 * x136.2.1)) - p0)) * (W ((W (p2 * x136.2.1)) - p0)))) + (W ((W ((W (p2 * x136.2.1)) - p0)) * (W ((W (p2 * x182.2.1)) - p1)))))) + (W ((W ((W (p2 * x182.2.1)) - p1)) * (W ((W (p2 * x182.2.1)) - p1)))))))] [(1002, ar 2 eTHex zTHex (x182.2.2.take (0 : Int).toNat))] (fun t => aI (take_nat x182.2.2 (0 : Int) g194) (aI (take_len x182.2.2 (0 : Int)) (aI (fF_take eTHex zTHex x182.2.2 (0 : Int)) (t)))) ?_
       cases H
       exact rr
      ·refine sn (rg 4 false []) [] [(66, cB (decide ((W ((W ((W ((W ((W (p2 * x136.2.1)) - p0)) * (W ((W (p2 * x136.2.1)) - p0)))) + (W ((W ((W (p2 * x136.2.1)) - p0)) * (W ((W (p2 * x182.2.1)) - p1)))))) + (W ((W ((W (p2 * x182.2.1)) - p1)) * (W ((W (p2 * x182.2.1)) - p1)))))) < x182.1)))] [] [] (fun t => aG 4 c193 (t)) ?_
       rcases oC H with ⟨c195, H⟩ | ⟨c195, H⟩
       ·refine it c195 ?_
        obtain ⟨g196, H⟩ := oI H
        refine oo [.nat (x182.2.2.take (0 : Int).toNat).length] [.rep 1002 (x182.2.2.take (0 : Int).toNat).length (fF eTHex zTHex (x182.2.2.take (0 : Int).toNat))] [(0, cI p0), (1, cI p1), (2, cI p2), (7, ow 1002 2 (x182.2.2.take (0 : Int).toNat)), (8, cI (W ((W ((W ((W ((W (p2 * x136.2.1)) - p0)) * (W ((W (p2 * x136.2.1)) - p0)))) + (W ((W ((W (p2 * x136.2.1)) - p0)) * (W ((W (p2 * x182.2.1)) - p1)))))) + (W ((W ((W (p2 * x182.2.1)) - p1)) * (W ((W (p2 * x182.2.1)) - p1))))))), (9, cI x136.2.1), (10, cI x182.2.1), (13, cI (W ((W ((W ((W ((W (p2 * x136.2.1)) - p0)) * (W ((W (p2 * x136.2.1)) - p0)))) + (W ((W ((W (p2 * x136.2.1)) - p0)) * (W ((W (p2 * x182.2.1)) - p1)))))) + (W ((W ((W (p2 * x182.2.1)) - p1)) * (W ((W (p2 * x182.2.1)) - p1)))))))] [(1002, ar 2 eTHex zTHex (x182.2.2.take (0 : Int).toNat))] (fun t => aI (take_nat x182.2.2 (0 : Int) g196) (aI (take_len x182.2.2 (0 : Int)) (aI (fF_take eTHex zTHex x182.2.2 (0 : Int)) (t)))) ?_
        cases H
        exact rr
       ·refine jf c195 ?_
        refine tl [] [(0, cI p0), (1, cI p1), (2, cI p2), (7, ow 1002 2 x182.2.2), (8, cI x182.1), (9, cI x136.2.1), (10, cI x182.2.1), (13, cI (W ((W ((W ((W ((W (p2 * x136.2.1)) - p0)) * (W ((W (p2 * x136.2.1)) - p0)))) + (W ((W ((W (p2 * x136.2.1)) - p0)) * (W ((W (p2 * x182.2.1)) - p1)))))) + (W ((W ((W (p2 * x182.2.1)) - p1)) * (W ((W (p2 * x182.2.1)) - p1)))))))] [(1002, ar 2 eTHex zTHex x182.2.2)] id ?_
        refine ends_skip ?_
        cases H
        exact rr
     ·clear h198
      rintro e s ⟨rfl, rfl⟩
      change EndsI _ _ _ _ _ _
      refine sn [] [] [(72, cB ((W ((W ((W ((W ((W (p2 * x136.2.1)) - p0)) * (W ((W (p2 * x136.2.1)) - p0)))) + (W ((W ((W (p2 * x136.2.1)) - p0)) * (W ((W (p2 * x182.2.1)) - p1)))))) + (W ((W ((W (p2 * x182.2.1)) - p1)) * (W ((W (p2 * x182.2.1)) - p1)))))) == y197.1))] [] [] id ?_
      rcases oC H with ⟨c199, H⟩ | ⟨c199, H⟩
      ·refine it c199 ?_
       obtain ⟨g200, H⟩ := oI H
       refine oo [fh eTHex zTHex ([(THex.mk x136.2.1 x182.2.1)] : List THex), fh eTHex zTHex (y197.2 ++ ([(THex.mk x136.2.1 x182.2.1)] : List THex))] [] [(0, cI p0), (1, cI p1), (2, cI p2), (7, ow 78 2 (y197.2 ++ ([(THex.mk x136.2.1 x182.2.1)] : List THex))), (8, cI y197.1), (9, cI x136.2.1), (10, cI x182.2.1)] [(78, ar 2 eTHex zTHex (y197.2 ++ ([(THex.mk x136.2.1 x182.2.1)] : List THex)))] (fun t => aI (rfl : ([(THex.mk x136.2.1 x182.2.1)] : List THex).length = 1) (aI (fF_lit eTHex zTHex ([(THex.mk x136.2.1 x182.2.1)] : List THex)) (aI (And.intro (Nat.le_refl y197.2.length) (And.intro (@List.length_append _ y197.2 ([(THex.mk x136.2.1 x182.2.1)] : List THex)) g200)) (aI (fF_appL eTHex zTHex y197.2 ([(THex.mk x136.2.1 x182.2.1)] : List THex)) (aI (fF_appR eTHex zTHex y197.2 ([(THex.mk x136.2.1 x182.2.1)] : List THex)) (t)))))) ?_
       change EndsI _ _ _ _ _ _
       refine oo [] [.ren 78 1002] [(0, cI p0), (1, cI p1), (2, cI p2), (7, ow 1002 2 (y197.2 ++ ([(THex.mk x136.2.1 x182.2.1)] : List THex))), (8, cI y197.1), (9, cI x136.2.1), (10, cI (W (x182.2.1 + 1)))] [(1002, ar 2 eTHex zTHex (y197.2 ++ ([(THex.mk x136.2.1 x182.2.1)] : List THex)))] id ?_
       cases H
       exact rr
      ·refine jf c199 ?_
       refine sk ?_
       refine oo [] [] [(0, cI p0), (1, cI p1), (2, cI p2), (7, ow 1002 2 y197.2), (8, cI y197.1), (9, cI x136.2.1), (10, cI (W (x182.2.1 + 1)))] [(1002, ar 2 eTHex zTHex y197.2)] id ?_
       cases H
       exact rr
    ·refine jf c188 ?_
     refine tl [] [(0, cI p0), (1, cI p1), (2, cI p2), (7, ow 1002 2 x182.2.2), (8, cI x182.1), (9, cI x136.2.1)] [(1002, ar 2 eTHex zTHex x182.2.2)] id ?_
     refine ends_exit ?_
     cases H
     exact rse
   ·clear h202
    rintro e s ⟨rfl, rfl⟩
    change EndsI _ _ _ _ _ _
    refine oo [] [] [(0, cI p0), (1, cI p1), (2, cI p2), (7, ow 1002 2 y201.2), (8, cI y201.1), (9, cI (W (x136.2.1 + 1)))] [(1002, ar 2 eTHex zTHex y201.2)] id ?_
    cases H
    exact rr
  ·refine jf c142 ?_
   refine tl [] [(7, ow 1002 2 x136.2.2)] [(1002, ar 2 eTHex zTHex x136.2.2)] id ?_
   refine ends_exit ?_
   cases H
   exact rse
 ·clear h204
  rintro e s ⟨rfl, rfl⟩
  change EndsI _ _ _ _ _ _
  refine sn [] [] [(6, ow 1002 2 y203)] [] [] id ?_
  refine tl [.frz 6] [(6, dc 2 eTHex zTHex y203)] [] (aI (Nat.le_refl y203.length)) ?_
  cases H
  exact er
def i_lineOf_ir : S :=
 (sq [o 2 (.box 2 (.t 0)), o 3 (.box 2 (.t 1)), o 4 (.mv (.v (.nil)))]
 (sq [o 8 (.load 2 true (.t 2)), o 9 (.load 2 true (.t 3)), o 10 (.call 244 [.t 8, .t 9]), om 5 10]
 (.seq (sq [om 11 5, o 12 (.bin .eql (.t 11) (iv 0))]
 (.ite (.t 12) (sq [o 13 (.load 2 true (.t 2)), o 14 (.bsl 2 [.t 13]), o 15 (.bsl 1 [.t 14]), om 4 15]
  .ret)
 .skip))
 (sq [o 16 (.bsl 1 []), om 6 16]
 (.seq (sq [o 7 (.mv (iv 0))]
 (.blk 0 (.loop (.seq (sq [om 17 7, om 18 5, o 19 (.bin .leq (.t 17) (.t 18))]
   (.ite (.t 19) .skip
   (.exit 0)))
   (.seq (.blk 1 (.ops [om 22 6, oa 23 0 2, ol 24 23, om 25 5, o 26 (.bin .mul (.t 24) (.t 25)), om 27 7, oa 28 0 3, ol 29 28, oa 30 0 2, ol 31 30, o 32 (.bin .sub (.t 29) (.t 31)), o 33 (.bin .mul (.t 27) (.t 32)), o 34 (.bin .add (.t 26) (.t 33)), oa 35 1 2, ol 36 35, om 37 5, o 38 (.bin .mul (.t 36) (.t 37)), om 39 7, oa 40 1 3, ol 41 40, oa 42 1 2, ol 43 42, o 44 (.bin .sub (.t 41) (.t 43)), o 45 (.bin .mul (.t 39) (.t 44)), o 46 (.bin .add (.t 38) (.t 45)), om 47 5, o 48 (.call 287 [.t 34, .t 46, .t 47]), o 49 (.bsl 1 [.t 48]), o 50 (.app 1 24 (.t 22) (.t 49)), om 6 50]))
   (.ops [om 20 7, o 21 (.bin .add (.t 20) (iv 1)), om 7 21]))))))
 (sq [om 51 6, om 4 51]
 .ret))))))
noncomputable def X.i_lineOf (p0 : THex) (p1 : THex) : Option (List (List THex)) :=
 ((X.i_distance p0 p1).bind fun v1 => (bif (v1 == 0) then some ([([p0] : List THex)] : List (List THex)) else ((loop (fun (x16 : (Int × (List (List THex)))) => ((bif (decide (x16.1 ≤ v1)) then ((X.i_nearestTo (W ((W (p0.Q * v1)) + (W (x16.1 * (W (p1.Q - p0.Q)))))) (W ((W (p0.R * v1)) + (W (x16.1 * (W (p1.R - p0.R)))))) v1).bind fun v19 => (if (x16.2 ++ ([v19] : List (List THex))).length ≤ LIM then some (Sum.inl ((W (x16.1 + 1)), (x16.2 ++ ([v19] : List (List THex))))) else none)) else some (Sum.inr x16.2)) : Option ((Int × (List (List THex))) ⊕ (List (List THex))))) (0, ([] : List (List THex)))).bind fun y22 => some y22)))
theorem i_lineOf_ok (p0 : THex) (p1 : THex) (r : (List (List THex))) (H : X.i_lineOf p0 p1 = some r) : FK 283 [.agg (eTHex p0), .agg (eTHex p1)] (.c (dat 1 eLTHex zLTHex r)) := by
 unfold X.i_lineOf at H
 refine fi Tryz.f283 i_lineOf_ir [(4, dc 1 eLTHex zLTHex r)] [] glL Tryz.func283 ?_
 refine so [] [] [(2, pk 2), (3, pk 3)] [(2, va (eTHex p0)), (3, va (eTHex p1))] id ?_
 obtain ⟨v1, h2, H⟩ := oB H
 refine sn [.res (cI v1)] [] [(5, cI v1)] [] [] (aI (i_distance_ok p0 p1 v1 h2)) ?_
 refine seq_in ?_
 refine sn [] [] [(12, cB (v1 == 0))] [] [] id ?_
 rcases oC H with ⟨c4, H⟩ | ⟨c4, H⟩
 ·refine it c4 ?_
  refine so [fh eTHex zTHex ([p0] : List THex), fh eLTHex zLTHex ([([p0] : List THex)] : List (List THex))] [] [(4, ow 15 1 ([([p0] : List THex)] : List (List THex)))] [(15, ar 1 eLTHex zLTHex ([([p0] : List THex)] : List (List THex)))] (fun t => aI (rfl : ([p0] : List THex).length = 1) (aI (fF_lit eTHex zTHex ([p0] : List THex)) (aI (Nat.le_refl (([p0] : List THex).length)) (aI (rfl : ([([p0] : List THex)] : List (List THex)).length = 1) (aI (fF_lit eLTHex zLTHex ([([p0] : List THex)] : List (List THex))) (t)))))) ?_
  refine tl [.frz 4] [(4, .c (dat 1 eLTHex zLTHex ([([p0] : List THex)] : List (List THex))))] [] (aI (Nat.le_refl (([([p0] : List THex)] : List (List THex)).length))) ?_
  cases H
  exact er
 ·refine jf c4 ?_
  refine sk ?_
  refine sn [fh eLTHex zLTHex ([] : List (List THex))] [] [(6, ow 16 1 ([] : List (List THex)))] [] [(16, ar 1 eLTHex zLTHex ([] : List (List THex)))] (fun t => aI (rfl : ([] : List (List THex)).length = 0) (aI (fF_lit eLTHex zLTHex ([] : List (List THex))) (t))) ?_
  refine seq_in ?_
  refine sn [] [] [(7, cI 0)] [] [] id ?_
  refine ends_blk ?_
  obtain ⟨y22, h23, H⟩ := oB H
  refine tl [.ren 16 1001] [(2, pk 2), (3, pk 3), (5, cI v1), (6, ow 1001 1 ([] : List (List THex))), (7, cI 0)] [(2, va (eTHex p0)), (3, va (eTHex p1)), (1001, ar 1 eLTHex zLTHex ([] : List (List THex)))] id ?_
  refine loop_in (fun (x : (Int × (List (List THex)))) => lit [(2, pk 2), (3, pk 3), (5, cI v1), (6, ow 1001 1 x.2), (7, cI x.1)] [(2, va (eTHex p0)), (3, va (eTHex p1)), (1001, ar 1 eLTHex zLTHex x.2)]) (fun (z : (List (List THex))) => At (.exit 0) (lit [(6, ow 1001 1 z)] [(1001, ar 1 eLTHex zLTHex z)])) h23 ?_ ?_
  ·clear H h23
   intro x16 y0 H
   refine seq_in ?_
   refine sn [] [] [(19, cB (decide (x16.1 ≤ v1)))] [] [] id ?_
   rcases oC H with ⟨c18, H⟩ | ⟨c18, H⟩
   ·refine it c18 ?_
    refine sk ?_
    refine seq_in ?_
    refine ends_blk ?_
    obtain ⟨v19, h20, H⟩ := oB H
    obtain ⟨g21, H⟩ := oI H
    refine oo [.res (dc 2 eTHex zTHex v19), fh eLTHex zLTHex ([v19] : List (List THex)), fh eLTHex zLTHex (x16.2 ++ ([v19] : List (List THex)))] [] [(2, pk 2), (3, pk 3), (5, cI v1), (6, ow 50 1 (x16.2 ++ ([v19] : List (List THex)))), (7, cI x16.1)] [(2, va (eTHex p0)), (3, va (eTHex p1)), (50, ar 1 eLTHex zLTHex (x16.2 ++ ([v19] : List (List THex))))] (fun t => aI (i_nearestTo_ok (W ((W (p0.Q * v1)) + (W (x16.1 * (W (p1.Q - p0.Q)))))) (W ((W (p0.R * v1)) + (W (x16.1 * (W (p1.R - p0.R)))))) v1 v19 h20) (aI (rfl : ([v19] : List (List THex)).length = 1) (aI (fF_lit eLTHex zLTHex ([v19] : List (List THex))) (aI (And.intro (Nat.le_refl x16.2.length) (And.intro (@List.length_append _ x16.2 ([v19] : List (List THex))) g21)) (aI (fF_appL eLTHex zLTHex x16.2 ([v19] : List (List THex))) (aI (fF_appR eLTHex zLTHex x16.2 ([v19] : List (List THex))) (t))))))) ?_
    change EndsI _ _ _ _ _ _
    refine oo [] [.ren 50 1001] [(2, pk 2), (3, pk 3), (5, cI v1), (6, ow 1001 1 (x16.2 ++ ([v19] : List (List THex)))), (7, cI (W (x16.1 + 1)))] [(2, va (eTHex p0)), (3, va (eTHex p1)), (1001, ar 1 eLTHex zLTHex (x16.2 ++ ([v19] : List (List THex))))] id ?_
    cases H
    exact rr
   ·refine jf c18 ?_
    refine tl [] [(6, ow 1001 1 x16.2)] [(1001, ar 1 eLTHex zLTHex x16.2)] id ?_
    refine ends_exit ?_
    cases H
    exact rse
  ·clear h23
   rintro e s ⟨rfl, rfl⟩
   change EndsI _ _ _ _ _ _
   refine sn [] [] [(4, ow 1001 1 y22)] [] [] id ?_
   refine tl [.frz 4] [(4, dc 1 eLTHex zLTHex y22)] [] (aI (Nat.le_refl y22.length)) ?_
   cases H
   exact er
def i_sightCells_ir : S :=
 (sq [o 3 (.box 12 (.t 0)), o 6 (.mv (.v (.nil)))]
 (sq [o 13 (.bsl 1 []), om 7 13]
 (.seq (.drw [(0, 2), (1, 2), (0, 4), (1, 4), (2, 4), (3, 4), (0, 5), (1, 5), (2, 5), (3, 5), (0, 6), (1, 6), (2, 6), (3, 6), (4, 6), (5, 6)] [oa 14 7 3, o 15 (.load 5 true (.t 14)), om 16 1, o 17 (.call 225 [.t 15, .t 16]), oa 18 7 3, o 19 (.load 5 true (.t 18)), om 20 2, o 21 (.call 225 [.t 19, .t 20]), o 22 (.call 283 [.t 17, .t 21]), om 8 22])
 (.seq (sq [o 9 (.mv (iv 1))]
 (.blk 0 (.loop (.seq (sq [om 23 9, o 24 (.bin .add (.t 23) (iv 1)), om 25 8, o 26 (.len (.t 25)), o 27 (.bin .lss (.t 24) (.t 26))]
   (.ite (.t 27) .skip
   (.exit 0)))
   (.seq (.blk 1 (sq [o 30 (.bsl 1 []), om 10 30]
    (.seq (sq [om 31 8, om 32 9, o 33 (.iad 1 (.t 31) (.t 32)), ol 34 33, o 35 (.len (.t 34)), o 36 (.mv (iv 0))]
    (.blk 2 (.loop (sq [o 37 (.bin .lss (.t 36) (.t 35))]
      (.seq (.ite (.t 37) .skip
      (.exit 2))
      (.seq (.blk 3 (sq [o 38 (.iad 2 (.t 34) (.t 36)), o 39 (.load 2 true (.t 38)), o 12 (.alloc [.int .i64 0, .int .i64 0]), os 2 12 39]
       (.ops [om 40 10, oa 41 7 3, o 42 (.load 5 true (.t 41)), o 43 (.load 2 true (.t 12)), o 44 (.call 223 [.t 42, .t 43]), o 45 (.bsl 1 [.t 44]), o 46 (.app 1 8 (.t 40) (.t 45)), om 10 46])))
      (.ops [o 47 (.bin .add (.t 36) (iv 1)), om 36 47])))))))
    (.ops [om 48 7, om 49 10, o 50 (.bsl 1 [.t 49]), o 51 (.app 1 24 (.t 48) (.t 50)), om 7 51]))))
   (.ops [om 28 9, o 29 (.bin .add (.t 28) (iv 1)), om 9 29]))))))
 (sq [om 52 7, om 6 52]
 .ret)))))
noncomputable def X.i_sightCells (p0 : TBoard) (p1 : Int) (p2 : Int) : Option (List (List Int)) :=
 ((X.i_hexOf p0.Map p1).bind fun v1 => ((X.i_hexOf p0.Map p2).bind fun v3 => ((X.i_lineOf v1 v3).bind fun v5 => ((loop (fun (x68 : (Int × (List (List Int)))) => ((bif (decide ((W (x68.1 + 1)) < (v5.length : Int))) then ((at' zLTHex v5 x68.1).bind fun v71 => ((loop (fun (x88 : (Int × (List (List Int)) × (List Int))) => ((bif (decide (x88.1 < (v71.length : Int))) then ((at' zTHex v71 x88.1).bind fun v91 => ((X.i_indexOf p0.Map v91).bind fun v93 => (if (x88.2.2 ++ ([v93] : List Int)).length ≤ LIM then some (Sum.inl ((W (x88.1 + 1)), x88.2.1, (x88.2.2 ++ ([v93] : List Int)))) else none))) else some (Sum.inr (x88.2.1, x88.2.2))) : Option ((Int × (List (List Int)) × (List Int)) ⊕ ((List (List Int)) × (List Int))))) (0, x68.2, ([] : List Int))).bind fun y96 => (if (y96.1 ++ ([y96.2] : List (List Int))).length ≤ LIM then some (Sum.inl ((W (x68.1 + 1)), (y96.1 ++ ([y96.2] : List (List Int))))) else none))) else some (Sum.inr x68.2)) : Option ((Int × (List (List Int))) ⊕ (List (List Int))))) (1, ([] : List (List Int)))).bind fun y99 => some y99))))
theorem i_sightCells_ok (p0 : TBoard) (p1 : Int) (p2 : Int) (r : (List (List Int))) (H : X.i_sightCells p0 p1 p2 = some r) : FK 276 [.agg (eTBoard p0), cI p1, cI p2] (.c (dat 1 eLI zLI r)) := by
 unfold X.i_sightCells at H
 refine fi Tryz.f276 i_sightCells_ir [(6, dc 1 eLI zLI r)] [] glL Tryz.func276 ?_
 refine sn [] [] [(3, pk 3)] [] [(3, va (eTBoard p0))] id ?_
 refine sn [fh eLI zLI ([] : List (List Int))] [] [(7, ow 13 1 ([] : List (List Int)))] [] [(13, ar 1 eLI zLI ([] : List (List Int)))] (fun t => aI (rfl : ([] : List (List Int)).length = 0) (aI (fF_lit eLI zLI ([] : List (List Int))) (t))) ?_
 obtain ⟨v1, h2, H⟩ := oB H
 obtain ⟨v3, h4, H⟩ := oB H
 obtain ⟨v5, h6, H⟩ := oB H
 refine xn [.res (.agg (eTHex v1)), .res (.agg (eTHex v3)), .res (dc 1 eLTHex zLTHex v5)] [] [(8, dc 1 eLTHex zLTHex v5)] [] [] (fun t => aI (i_hexOf_ok p0.Map p1 v1 h2) (aI trivial (aI rN (aI (i_hexOf_ok p0.Map p2 v3 h4) (aI trivial (aI rN (aI (i_lineOf_ok v1 v3 v5 h6) (aG 2 rN (t))))))))) ?_
 refine seq_in ?_
 refine sn [] [] [(9, cI 1)] [] [] id ?_
 refine ends_blk ?_
 obtain ⟨y99, h100, H⟩ := oB H
 refine tl [.ren 13 1002] [(3, pk 3), (7, ow 1002 1 ([] : List (List Int))), (8, dc 1 eLTHex zLTHex v5), (9, cI 1)] [(3, va (eTBoard p0)), (1002, ar 1 eLI zLI ([] : List (List Int)))] id ?_
 refine loop_in (fun (x : (Int × (List (List Int)))) => lit [(3, pk 3), (7, ow 1002 1 x.2), (8, dc 1 eLTHex zLTHex v5), (9, cI x.1)] [(3, va (eTBoard p0)), (1002, ar 1 eLI zLI x.2)]) (fun (z : (List (List Int))) => At (.exit 0) (lit [(7, ow 1002 1 z)] [(1002, ar 1 eLI zLI z)])) h100 ?_ ?_
 ·clear H h100
  intro x68 y0 H
  refine seq_in ?_
  refine sn [] [] [(27, cB (decide ((W (x68.1 + 1)) < (v5.length : Int))))] [] [] (fun t => lI v5 (t)) ?_
  rcases oC H with ⟨c70, H⟩ | ⟨c70, H⟩
  ·refine it c70 ?_
   refine sk ?_
   refine seq_in ?_
   refine ends_blk ?_
   refine sn [fh eI zI ([] : List Int)] [] [(10, ow 30 1 ([] : List Int))] [] [(30, ar 1 eI zI ([] : List Int))] (fun t => aI (rfl : ([] : List Int).length = 0) (aI (fF_lit eI zI ([] : List Int)) (t))) ?_
   refine seq_in ?_
   obtain ⟨v71, h72, H⟩ := oB H
   refine sn [.cs (eLTHex v71)] [] [(34, dc 2 eTHex zTHex v71), (35, cL v71), (36, cI 0)] [] [] (fun t => (a2 eLTHex h72 (lI v71 (t)))) ?_
   refine ends_blk ?_
   obtain ⟨y96, h97, H⟩ := oB H
   refine tl [.ren 30 1004] [(3, pk 3), (7, ow 1002 1 x68.2), (8, dc 1 eLTHex zLTHex v5), (9, cI x68.1), (10, ow 1004 1 ([] : List Int)), (34, dc 2 eTHex zTHex v71), (35, cL v71), (36, cI 0)] [(3, va (eTBoard p0)), (1002, ar 1 eLI zLI x68.2), (1004, ar 1 eI zI ([] : List Int))] id ?_
   refine loop_in (fun (x : (Int × (List (List Int)) × (List Int))) => lit [(3, pk 3), (7, ow 1002 1 x.2.1), (8, dc 1 eLTHex zLTHex v5), (9, cI x68.1), (10, ow 1004 1 x.2.2), (34, dc 2 eTHex zTHex v71), (35, cL v71), (36, cI x.1)] [(3, va (eTBoard p0)), (1002, ar 1 eLI zLI x.2.1), (1004, ar 1 eI zI x.2.2)]) (fun (z : ((List (List Int)) × (List Int))) => At (.exit 2) (lit [(3, pk 3), (7, ow 1002 1 z.1), (8, dc 1 eLTHex zLTHex v5), (9, cI x68.1), (10, ow 1004 1 z.2)] [(3, va (eTBoard p0)), (1002, ar 1 eLI zLI z.1), (1004, ar 1 eI zI z.2)])) h97 ?_ ?_
   ·clear H h97
    intro x88 y0 H
    refine sn [] [] [(37, cB (decide (x88.1 < (v71.length : Int))))] [] [] id ?_
    refine seq_in ?_
    rcases oC H with ⟨c90, H⟩ | ⟨c90, H⟩
    ·refine it c90 ?_
     refine sk ?_
     refine seq_in ?_
     refine ends_blk ?_
     obtain ⟨v91, h92, H⟩ := oB H
     refine sn [.cs (eTHex v91)] [] [(12, pk 12)] [] [(12, va (eTHex v91))] (a2 eTHex h92) ?_
     obtain ⟨v93, h94, H⟩ := oB H
     obtain ⟨g95, H⟩ := oI H
     refine oo [.res (cI v93), fh eI zI ([v93] : List Int), fh eI zI (x88.2.2 ++ ([v93] : List Int))] [] [(3, pk 3), (7, ow 1002 1 x88.2.1), (8, dc 1 eLTHex zLTHex v5), (9, cI x68.1), (10, ow 46 1 (x88.2.2 ++ ([v93] : List Int))), (34, dc 2 eTHex zTHex v71), (35, cL v71), (36, cI x88.1)] [(3, va (eTBoard p0)), (46, ar 1 eI zI (x88.2.2 ++ ([v93] : List Int))), (1002, ar 1 eLI zLI x88.2.1)] (fun t => aI (i_indexOf_ok p0.Map v91 v93 h94) (aI (rfl : ([v93] : List Int).length = 1) (aI (fF_lit eI zI ([v93] : List Int)) (aI (And.intro (Nat.le_refl x88.2.2.length) (And.intro (@List.length_append _ x88.2.2 ([v93] : List Int)) g95)) (aI (fF_appL eI zI x88.2.2 ([v93] : List Int)) (aI (fF_appR eI zI x88.2.2 ([v93] : List Int)) (t))))))) ?_
     change EndsI _ _ _ _ _ _
     refine oo [] [.ren 46 1004] [(3, pk 3), (7, ow 1002 1 x88.2.1), (8, dc 1 eLTHex zLTHex v5), (9, cI x68.1), (10, ow 1004 1 (x88.2.2 ++ ([v93] : List Int))), (34, dc 2 eTHex zTHex v71), (35, cL v71), (36, cI (W (x88.1 + 1)))] [(3, va (eTBoard p0)), (1002, ar 1 eLI zLI x88.2.1), (1004, ar 1 eI zI (x88.2.2 ++ ([v93] : List Int)))] id ?_
     cases H
     exact rr
    ·refine jf c90 ?_
     refine tl [] [(3, pk 3), (7, ow 1002 1 x88.2.1), (8, dc 1 eLTHex zLTHex v5), (9, cI x68.1), (10, ow 1004 1 x88.2.2)] [(3, va (eTBoard p0)), (1002, ar 1 eLI zLI x88.2.1), (1004, ar 1 eI zI x88.2.2)] id ?_
     refine ends_exit ?_
     cases H
     exact rse
   ·clear h97
    rintro e s ⟨rfl, rfl⟩
    change EndsI _ _ _ _ _ _
    obtain ⟨g98, H⟩ := oI H
    refine oo [fh eLI zLI ([y96.2] : List (List Int)), fh eLI zLI (y96.1 ++ ([y96.2] : List (List Int)))] [] [(3, pk 3), (7, ow 51 1 (y96.1 ++ ([y96.2] : List (List Int)))), (8, dc 1 eLTHex zLTHex v5), (9, cI x68.1)] [(3, va (eTBoard p0)), (51, ar 1 eLI zLI (y96.1 ++ ([y96.2] : List (List Int))))] (fun t => aI (Nat.le_refl y96.2.length) (aI (rfl : ([y96.2] : List (List Int)).length = 1) (aI (fF_lit eLI zLI ([y96.2] : List (List Int))) (aI (And.intro (Nat.le_refl y96.1.length) (And.intro (@List.length_append _ y96.1 ([y96.2] : List (List Int))) g98)) (aI (fF_appL eLI zLI y96.1 ([y96.2] : List (List Int))) (aI (fF_appR eLI zLI y96.1 ([y96.2] : List (List Int))) (t))))))) ?_
    change EndsI _ _ _ _ _ _
    refine oo [] [.ren 51 1002] [(3, pk 3), (7, ow 1002 1 (y96.1 ++ ([y96.2] : List (List Int)))), (8, dc 1 eLTHex zLTHex v5), (9, cI (W (x68.1 + 1)))] [(3, va (eTBoard p0)), (1002, ar 1 eLI zLI (y96.1 ++ ([y96.2] : List (List Int))))] id ?_
    cases H
    exact rr
  ·refine jf c70 ?_
   refine tl [] [(7, ow 1002 1 x68.2)] [(1002, ar 1 eLI zLI x68.2)] id ?_
   refine ends_exit ?_
   cases H
   exact rse
 ·clear h100
  rintro e s ⟨rfl, rfl⟩
  change EndsI _ _ _ _ _ _
  refine sn [] [] [(6, ow 1002 1 y99)] [] [] id ?_
  refine tl [.frz 6] [(6, dc 1 eLI zLI y99)] [] (aI (Nat.le_refl y99.length)) ?_
  cases H
  exact er
def i_blocksBetween_ir : S :=
 (sq [o 4 (.box 12 (.t 0)), o 8 (.mv bF)]
 (sq [o 11 (.load 12 true (.t 4)), om 12 3, o 13 (.call 198 [.t 11, .t 12]), o 9 (.alloc [.str [], .nil, .int .i64 0, .int .i64 0, .bool false]), os 5 9 13]
 (sq [oa 14 3 9, ol 15 14, om 10 15]
 (.seq (sq [oa 16 4 9, ol 17 16]
 (.ite (.t 17) (.ops [om 18 10, o 19 (.bin .add (.t 18) (iv 1)), om 10 19])
 .skip))
 (.seq (.drw [(0, 1), (0, 2), (1, 2), (0, 3), (0, 4), (0, 5), (1, 5), (2, 5), (3, 5), (4, 5), (0, 6), (1, 6), (2, 6), (3, 6), (4, 6), (5, 6), (0, 7), (4, 7), (0, 8), (4, 8), (0, 9)] [om 20 10, o 21 (.load 12 true (.t 4)), om 22 1, o 23 (.call 198 [.t 21, .t 22]), o 24 (.fld 3 1 false (.t 23)), o 25 (.load 12 true (.t 4)), om 26 2, o 27 (.call 198 [.t 25, .t 26]), o 28 (.fld 3 1 false (.t 27)), o 29 (.mx true (.t 24) (.t 28)), o 30 (.bin .gtr (.t 20) (.t 29)), om 8 30])
 .ret)))))
noncomputable def X.i_blocksBetween (p0 : TBoard) (p1 : Int) (p2 : Int) (p3 : Int) : Option Bool :=
 ((X.i_terrainAt p0 p3).bind fun v1 => (((bif v1.Blocks then some (W (v1.Height + 1)) else some v1.Height) : Option Int).bind fun y5 => ((X.i_terrainAt p0 p1).bind fun v7 => ((X.i_terrainAt p0 p2).bind fun v9 => some (decide (y5 > (if v9.Height > v7.Height then v9.Height else v7.Height)))))))
theorem i_blocksBetween_ok (p0 : TBoard) (p1 : Int) (p2 : Int) (p3 : Int) (r : Bool) (H : X.i_blocksBetween p0 p1 p2 p3 = some r) : FK 277 [.agg (eTBoard p0), cI p1, cI p2, cI p3] (cB r) := by
 unfold X.i_blocksBetween at H
 refine fi Tryz.f277 i_blocksBetween_ir [(8, cB r)] [] glL Tryz.func277 ?_
 refine sn [] [] [(4, pk 4)] [] [(4, va (eTBoard p0))] id ?_
 obtain ⟨v1, h2, H⟩ := oB H
 refine sn [.res (.agg (eTTerrain v1))] [] [(9, pk 9)] [] [(9, va (eTTerrain v1))] (aI (i_terrainAt_ok p0 p3 v1 h2)) ?_
 refine sn [] [] [(10, cI v1.Height)] [] [] id ?_
 obtain ⟨y5, h6, H⟩ := oB H
 refine seq_in (cut_in (fun (z : Int) => At .normal (lit [(1, cI p1), (2, cI p2), (4, pk 4), (10, cI z)] [(4, va (eTBoard p0))])) y5 ?_ ?_)
 ·clear H
  revert h6
  generalize y5 = y0
  intro H
  refine sn [] [] [(17, cB v1.Blocks)] [] [] id ?_
  rcases oC H with ⟨c4, H⟩ | ⟨c4, H⟩
  ·refine it c4 ?_
   refine oo [] [] [(1, cI p1), (2, cI p2), (4, pk 4), (10, cI (W (v1.Height + 1)))] [(4, va (eTBoard p0))] id ?_
   cases H
   exact rr
  ·refine jf c4 ?_
   refine tl [] [(1, cI p1), (2, cI p2), (4, pk 4), (10, cI v1.Height)] [(4, va (eTBoard p0))] id ?_
   refine ends_skip ?_
   cases H
   exact rr
 ·clear h6
  rintro e s ⟨rfl, rfl⟩
  change EndsI _ _ _ _ _ _
  obtain ⟨v7, h8, H⟩ := oB H
  obtain ⟨v9, h10, H⟩ := oB H
  refine sx [.res (.agg (eTTerrain v7)), .res (.agg (eTTerrain v9))] [] [(8, cB (decide (y5 > (if v9.Height > v7.Height then v9.Height else v7.Height))))] [] (fun t => aI (i_terrainAt_ok p0 p1 v7 h8) (aG 2 rN (aI (i_terrainAt_ok p0 p2 v9 h10) (aG 2 rN (t))))) ?_
  cases H
  exact er
def i_sightOf_ir : S :=
 (sq [o 3 (.box 12 (.t 0)), o 6 (.mv (iv 0)), o 7 (.mv (iv 0))]
 (sq [o 8 (.mv (iv 0))]
 (.seq (sq [o 14 (.load 12 true (.t 3)), om 15 1, om 16 2, o 17 (.call 276 [.t 14, .t 15, .t 16]), o 18 (.len (.t 17)), o 19 (.mv (iv 0))]
 (.blk 0 (.loop (sq [o 20 (.bin .lss (.t 19) (.t 18))]
   (.seq (.ite (.t 20) .skip
   (.exit 0))
   (.seq (.blk 1 (sq [om 21 19, o 22 (.iad 1 (.t 17) (.t 19)), ol 23 22, om 9 21, om 10 23]
    (sq [o 11 (.mv (iv 0))]
    (.seq (sq [om 24 10, o 25 (.len (.t 24)), o 26 (.mv (iv 0))]
    (.blk 2 (.loop (sq [o 27 (.bin .lss (.t 26) (.t 25))]
      (.seq (.ite (.t 27) .skip
      (.exit 2))
      (.seq (.blk 3 (sq [o 28 (.iad 1 (.t 24) (.t 26)), ol 29 28, om 13 29]
       (sq [o 30 (.load 12 true (.t 3)), om 31 1, om 32 2, om 33 13, o 34 (.call 277 [.t 30, .t 31, .t 32, .t 33])]
       (.ite (.t 34) (.ops [om 35 11, o 36 (.bin .add (.t 35) (iv 1)), om 11 36])
       .skip))))
      (.ops [o 37 (.bin .add (.t 26) (iv 1)), om 26 37])))))))
    (.seq (sq [om 38 11, om 39 10, o 40 (.len (.t 39)), o 41 (.bin .eql (.t 38) (.t 40))]
    (.ite (.t 41) (sq [om 42 9, o 6 (.mv (iv 2)), om 7 42]
     .ret)
    .skip))
    (sq [om 43 11, o 44 (.bin .gtr (.t 43) (iv 0))]
    (.ite (.t 44) (.ops [o 8 (.mv (iv 1))])
    .skip)))))))
   (.ops [o 45 (.bin .add (.t 19) (iv 1)), om 19 45])))))))
 (sq [om 46 8, om 6 46, o 7 (.mv (.v (.int .i64 (-1))))]
 .ret))))
noncomputable def X.i_sightOf (p0 : TBoard) (p1 : Int) (p2 : Int) : Option (Int × Int) :=
 ((X.i_sightCells p0 p1 p2).bind fun v1 => ((loop (fun (x116 : (Int × Int)) => ((bif (decide (x116.2 < (v1.length : Int))) then ((at' zLI v1 x116.2).bind fun v119 => ((loop (fun (x161 : (Int × Int)) => ((bif (decide (x161.2 < (v119.length : Int))) then ((at' zI v119 x161.2).bind fun v164 => ((X.i_blocksBetween p0 p1 p2 v164).bind fun v166 => (bif v166 then some (Sum.inl ((W (x161.1 + 1)), (W (x161.2 + 1)))) else some (Sum.inl (x161.1, (W (x161.2 + 1))))))) else some (Sum.inr x161.1)) : Option ((Int × Int) ⊕ Int))) (0, 0)).bind fun y169 => (bif (y169 == (v119.length : Int)) then some (Sum.inr (Sum.inr (2, x116.2))) else (bif (decide (y169 > 0)) then some (Sum.inl (1, (W (x116.2 + 1)))) else some (Sum.inl (x116.1, (W (x116.2 + 1)))))))) else some (Sum.inr (Sum.inl x116.1))) : Option ((Int × Int) ⊕ (Int ⊕ (Int × Int))))) (0, 0)).bind fun y173 => (Sum.elim (fun (y175 : Int) => some (y175, -1)) (fun (y176 : (Int × Int)) => some (y176.1, y176.2)) y173)))
theorem i_sightOf_ok (p0 : TBoard) (p1 : Int) (p2 : Int) (r : (Int × Int)) (H : X.i_sightOf p0 p1 p2 = some r) : FK 270 [.agg (eTBoard p0), cI p1, cI p2] (.tup [(false, [.int .i64 r.1]), (false, [.int .i64 r.2])]) := by
 unfold X.i_sightOf at H
 refine fi Tryz.f270 i_sightOf_ir [(6, cI r.1), (7, cI r.2)] [] glL Tryz.func270 ?_
 refine sn [] [] [(3, pk 3)] [] [(3, va (eTBoard p0))] id ?_
 refine sn [] [] [(8, cI 0)] [] [] id ?_
 refine seq_in ?_
 obtain ⟨v1, h2, H⟩ := oB H
 refine sn [.res (dc 1 eLI zLI v1)] [] [(17, dc 1 eLI zLI v1), (18, cL v1), (19, cI 0)] [] [] (fun t => aI (i_sightCells_ok p0 p1 p2 v1 h2) (lI v1 (t))) ?_
 refine ends_blk ?_
 obtain ⟨y173, h174, H⟩ := oB H
 refine tl [] [(1, cI p1), (2, cI p2), (3, pk 3), (8, cI 0), (17, dc 1 eLI zLI v1), (18, cL v1), (19, cI 0)] [(3, va (eTBoard p0))] id ?_
 refine loop_in (fun (x : (Int × Int)) => lit [(1, cI p1), (2, cI p2), (3, pk 3), (8, cI x.1), (17, dc 1 eLI zLI v1), (18, cL v1), (19, cI x.2)] [(3, va (eTBoard p0))]) (orJ (fun (z : Int) => At (.exit 0) (lit [(8, cI z)] [])) (fun (z : (Int × Int)) => At .ret (lit [(6, cI z.1), (7, cI z.2)] []))) h174 ?_ ?_
 ·clear H h174
  intro x116 y0 H
  refine sn [] [] [(20, cB (decide (x116.2 < (v1.length : Int))))] [] [] id ?_
  refine seq_in ?_
  rcases oC H with ⟨c118, H⟩ | ⟨c118, H⟩
  ·refine it c118 ?_
   refine sk ?_
   refine seq_in ?_
   refine ends_blk ?_
   obtain ⟨v119, h120, H⟩ := oB H
   refine sn [.cs (eLI v119)] [] [(9, cI x116.2), (10, dc 1 eI zI v119)] [] [] (a2 eLI h120) ?_
   refine sn [] [] [(11, cI 0)] [] [] id ?_
   refine seq_in ?_
   refine sn [] [] [(24, dc 1 eI zI v119), (25, cL v119), (26, cI 0)] [] [] (fun t => lI v119 (t)) ?_
   refine ends_blk ?_
   obtain ⟨y169, h170, H⟩ := oB H
   refine tl [] [(1, cI p1), (2, cI p2), (3, pk 3), (8, cI x116.1), (9, cI x116.2), (10, dc 1 eI zI v119), (11, cI 0), (17, dc 1 eLI zLI v1), (18, cL v1), (19, cI x116.2), (24, dc 1 eI zI v119), (25, cL v119), (26, cI 0)] [(3, va (eTBoard p0))] id ?_
   refine loop_in (fun (x : (Int × Int)) => lit [(1, cI p1), (2, cI p2), (3, pk 3), (8, cI x116.1), (9, cI x116.2), (10, dc 1 eI zI v119), (11, cI x.1), (17, dc 1 eLI zLI v1), (18, cL v1), (19, cI x116.2), (24, dc 1 eI zI v119), (25, cL v119), (26, cI x.2)] [(3, va (eTBoard p0))]) (fun (z : Int) => At (.exit 2) (lit [(1, cI p1), (2, cI p2), (3, pk 3), (8, cI x116.1), (9, cI x116.2), (10, dc 1 eI zI v119), (11, cI z), (17, dc 1 eLI zLI v1), (18, cL v1), (19, cI x116.2)] [(3, va (eTBoard p0))])) h170 ?_ ?_
   ·clear H h170
    intro x161 y0 H
    refine sn [] [] [(27, cB (decide (x161.2 < (v119.length : Int))))] [] [] id ?_
    refine seq_in ?_
    rcases oC H with ⟨c163, H⟩ | ⟨c163, H⟩
    ·refine it c163 ?_
     refine sk ?_
     refine seq_in ?_
     refine ends_blk ?_
     obtain ⟨v164, h165, H⟩ := oB H
     refine sn [.cs (eI v164)] [] [(13, cI v164)] [] [] (a2 eI h165) ?_
     obtain ⟨v166, h167, H⟩ := oB H
     refine sn [.res (cB v166)] [] [(34, cB v166)] [] [] (aI (i_blocksBetween_ok p0 p1 p2 v164 v166 h167)) ?_
     rcases oC H with ⟨c168, H⟩ | ⟨c168, H⟩
     ·refine it c168 ?_
      refine oo [] [] [(1, cI p1), (2, cI p2), (3, pk 3), (8, cI x116.1), (9, cI x116.2), (10, dc 1 eI zI v119), (11, cI (W (x161.1 + 1))), (17, dc 1 eLI zLI v1), (18, cL v1), (19, cI x116.2), (24, dc 1 eI zI v119), (25, cL v119), (26, cI x161.2)] [(3, va (eTBoard p0))] id ?_
      change EndsI _ _ _ _ _ _
      refine oo [] [] [(1, cI p1), (2, cI p2), (3, pk 3), (8, cI x116.1), (9, cI x116.2), (10, dc 1 eI zI v119), (11, cI (W (x161.1 + 1))), (17, dc 1 eLI zLI v1), (18, cL v1), (19, cI x116.2), (24, dc 1 eI zI v119), (25, cL v119), (26, cI (W (x161.2 + 1)))] [(3, va (eTBoard p0))] id ?_
      cases H
      exact rr
     ·refine jf c168 ?_
      refine sk ?_
      refine oo [] [] [(1, cI p1), (2, cI p2), (3, pk 3), (8, cI x116.1), (9, cI x116.2), (10, dc 1 eI zI v119), (11, cI x161.1), (17, dc 1 eLI zLI v1), (18, cL v1), (19, cI x116.2), (24, dc 1 eI zI v119), (25, cL v119), (26, cI (W (x161.2 + 1)))] [(3, va (eTBoard p0))] id ?_
      cases H
      exact rr
    ·refine jf c163 ?_
     refine tl [] [(1, cI p1), (2, cI p2), (3, pk 3), (8, cI x116.1), (9, cI x116.2), (10, dc 1 eI zI v119), (11, cI x161.1), (17, dc 1 eLI zLI v1), (18, cL v1), (19, cI x116.2)] [(3, va (eTBoard p0))] id ?_
     refine ends_exit ?_
     cases H
     exact rse
   ·clear h170
    rintro e s ⟨rfl, rfl⟩
    change EndsI _ _ _ _ _ _
    refine seq_in ?_
    refine sn [] [] [(41, cB (y169 == (v119.length : Int)))] [] [] (fun t => lI v119 (t)) ?_
    rcases oC H with ⟨c171, H⟩ | ⟨c171, H⟩
    ·refine it c171 ?_
     refine so [] [] [(6, cI 2), (7, cI x116.2)] [] id ?_
     refine ends_ret ?_
     cases H
     exact rsr
    ·refine jf c171 ?_
     refine sk ?_
     refine sn [] [] [(44, cB (decide (y169 > 0)))] [] [] id ?_
     rcases oC H with ⟨c172, H⟩ | ⟨c172, H⟩
     ·refine it c172 ?_
      refine oo [] [] [(1, cI p1), (2, cI p2), (3, pk 3), (8, cI 1), (17, dc 1 eLI zLI v1), (18, cL v1), (19, cI x116.2)] [(3, va (eTBoard p0))] id ?_
      change EndsI _ _ _ _ _ _
      refine oo [] [] [(1, cI p1), (2, cI p2), (3, pk 3), (8, cI 1), (17, dc 1 eLI zLI v1), (18, cL v1), (19, cI (W (x116.2 + 1)))] [(3, va (eTBoard p0))] id ?_
      cases H
      exact rr
     ·refine jf c172 ?_
      refine sk ?_
      refine oo [] [] [(1, cI p1), (2, cI p2), (3, pk 3), (8, cI x116.1), (17, dc 1 eLI zLI v1), (18, cL v1), (19, cI (W (x116.2 + 1)))] [(3, va (eTBoard p0))] id ?_
      cases H
      exact rr
  ·refine jf c118 ?_
   refine tl [] [(8, cI x116.1)] [] id ?_
   refine ends_exit ?_
   cases H
   exact rse
 ·clear h174
  cases y173 with
  | inl y175 =>
   replace H := ofInl H
   rintro e s ⟨rfl, rfl⟩
   change EndsI _ _ _ _ _ _
   refine so [] [] [(6, cI y175), (7, cI (-1))] [] id ?_
   cases H
   exact er
  | inr y176 =>
   replace H := ofInr H
   rintro e s ⟨rfl, rfl⟩
   cases H
   exact qr
def i_inSight_ir : S :=
 (sq [o 4 (.box 12 (.t 0)), o 8 (.mv (.v (.nil)))]
 (sq [o 13 (.bsl 1 []), om 9 13]
 (.seq (sq [oa 14 7 4, oa 15 2 14, ol 16 15, o 17 (.len (.t 16)), o 18 (.mv (iv 0))]
 (.blk 0 (.loop (sq [o 19 (.bin .lss (.t 18) (.t 17))]
   (.seq (.ite (.t 19) .skip
   (.exit 0))
   (.seq (.blk 1 (sq [om 20 18, om 10 20]
    (.seq (.seq (.drw [(0, 2), (1, 2), (0, 4), (1, 4), (2, 4), (3, 4), (0, 5), (1, 5), (2, 5), (3, 5), (0, 6), (1, 6), (2, 6), (3, 6), (4, 6), (5, 6), (0, 9), (1, 9), (2, 9), (3, 9), (4, 9), (5, 9), (6, 9), (7, 9), (8, 9)] [oa 21 7 4, o 22 (.load 5 true (.t 21)), om 23 1, o 24 (.call 225 [.t 22, .t 23]), oa 25 7 4, o 26 (.load 5 true (.t 25)), om 27 10, o 28 (.call 225 [.t 26, .t 27]), o 29 (.call 244 [.t 24, .t 28]), om 30 2, o 31 (.bin .gtr (.t 29) (.t 30))])
    (.ite (.t 31) (.exit 1)
    .skip))
    (sq [o 33 (.load 12 true (.t 4)), om 34 1, om 35 10, o 36 (.call 270 [.t 33, .t 34, .t 35]), om 32 36, o 37 (.ext (.t 32) 0), o 38 (.ext (.t 32) 1), om 11 37, om 12 38]
    (sq [om 39 11, om 40 3, o 41 (.bin .leq (.t 39) (.t 40))]
    (.ite (.t 41) (.ops [om 42 9, om 43 10, o 44 (.bsl 1 [.t 43]), o 45 (.app 1 8 (.t 42) (.t 44)), om 9 45])
    .skip))))))
   (.ops [o 46 (.bin .add (.t 18) (iv 1)), om 18 46])))))))
 (sq [om 47 9, om 8 47]
 .ret))))
noncomputable def X.i_inSight (p0 : TBoard) (p1 : Int) (p2 : Int) (p3 : Int) : Option (List Int) :=
 ((loop (fun (x42 : (Int × (List Int))) => ((bif (decide (x42.1 < (p0.Map.Terrain.length : Int))) then ((X.i_hexOf p0.Map p1).bind fun v52 => ((X.i_hexOf p0.Map x42.1).bind fun v54 => ((X.i_distance v52 v54).bind fun v56 => (bif (decide (v56 > p2)) then some (Sum.inl ((W (x42.1 + 1)), x42.2)) else ((X.i_sightOf p0 p1 x42.1).bind fun v59 => (bif (decide (v59.1 ≤ p3)) then (if (x42.2 ++ ([x42.1] : List Int)).length ≤ LIM then some (Sum.inl ((W (x42.1 + 1)), (x42.2 ++ ([x42.1] : List Int)))) else none) else some (Sum.inl ((W (x42.1 + 1)), x42.2)))))))) else some (Sum.inr x42.2)) : Option ((Int × (List Int)) ⊕ (List Int)))) (0, ([] : List Int))).bind fun y63 => some y63)
theorem i_inSight_ok (p0 : TBoard) (p1 : Int) (p2 : Int) (p3 : Int) (r : (List Int)) (H : X.i_inSight p0 p1 p2 p3 = some r) : FK 265 [.agg (eTBoard p0), cI p1, cI p2, cI p3] (.c (dat 1 eI zI r)) := by
 unfold X.i_inSight at H
 refine fi Tryz.f265 i_inSight_ir [(8, dc 1 eI zI r)] [] glL Tryz.func265 ?_
 refine sn [] [] [(4, pk 4)] [] [(4, va (eTBoard p0))] id ?_
 refine sn [fh eI zI ([] : List Int)] [] [(9, ow 13 1 ([] : List Int))] [] [(13, ar 1 eI zI ([] : List Int))] (fun t => aI (rfl : ([] : List Int).length = 0) (aI (fF_lit eI zI ([] : List Int)) (t))) ?_
 refine seq_in ?_
 refine sn [] [] [(17, cL p0.Map.Terrain), (18, cI 0)] [] [] (fun t => lI p0.Map.Terrain (t)) ?_
 refine ends_blk ?_
 obtain ⟨y63, h64, H⟩ := oB H
 refine tl [.ren 13 1001] [(1, cI p1), (2, cI p2), (3, cI p3), (4, pk 4), (9, ow 1001 1 ([] : List Int)), (17, cL p0.Map.Terrain), (18, cI 0)] [(4, va (eTBoard p0)), (1001, ar 1 eI zI ([] : List Int))] id ?_
 refine loop_in (fun (x : (Int × (List Int))) => lit [(1, cI p1), (2, cI p2), (3, cI p3), (4, pk 4), (9, ow 1001 1 x.2), (17, cL p0.Map.Terrain), (18, cI x.1)] [(4, va (eTBoard p0)), (1001, ar 1 eI zI x.2)]) (fun (z : (List Int)) => At (.exit 0) (lit [(9, ow 1001 1 z)] [(1001, ar 1 eI zI z)])) h64 ?_ ?_
 ·clear H h64
  intro x42 y0 H
  refine sn [] [] [(19, cB (decide (x42.1 < (p0.Map.Terrain.length : Int))))] [] [] id ?_
  refine seq_in ?_
  rcases oC H with ⟨c44, H⟩ | ⟨c44, H⟩
  ·refine it c44 ?_
   refine sk ?_
   refine seq_in ?_
   refine ends_blk ?_
   refine sn [] [] [(10, cI x42.1)] [] [] id ?_
   refine seq_in ?_
   obtain ⟨v52, h53, H⟩ := oB H
   obtain ⟨v54, h55, H⟩ := oB H
   obtain ⟨v56, h57, H⟩ := oB H
   refine xn [.res (.agg (eTHex v52)), .res (.agg (eTHex v54)), .res (cI v56)] [] [(31, cB (decide (v56 > p2)))] [] [] (fun t => aI (i_hexOf_ok p0.Map p1 v52 h53) (aI trivial (aI rN (aI (i_hexOf_ok p0.Map x42.1 v54 h55) (aI trivial (aI rN (aI (i_distance_ok v52 v54 v56 h57) (aI trivial (aI rN (t)))))))))) ?_
   rcases oC H with ⟨c58, H⟩ | ⟨c58, H⟩
   ·refine it c58 ?_
    refine ends_exit ?_
    change EndsI _ _ _ _ _ _
    refine oo [] [] [(1, cI p1), (2, cI p2), (3, cI p3), (4, pk 4), (9, ow 1001 1 x42.2), (17, cL p0.Map.Terrain), (18, cI (W (x42.1 + 1)))] [(4, va (eTBoard p0)), (1001, ar 1 eI zI x42.2)] id ?_
    cases H
    exact rr
   ·refine jf c58 ?_
    refine sk ?_
    obtain ⟨v59, h60, H⟩ := oB H
    refine sn [.res (.tup [(false, [jI v59.1]), (false, [jI v59.2])])] [] [(11, cI v59.1)] [] [] (aI (i_sightOf_ok p0 p1 x42.1 v59 h60)) ?_
    refine sn [] [] [(41, cB (decide (v59.1 ≤ p3)))] [] [] id ?_
    rcases oC H with ⟨c61, H⟩ | ⟨c61, H⟩
    ·refine it c61 ?_
     obtain ⟨g62, H⟩ := oI H
     refine oo [fh eI zI ([x42.1] : List Int), fh eI zI (x42.2 ++ ([x42.1] : List Int))] [] [(1, cI p1), (2, cI p2), (3, cI p3), (4, pk 4), (9, ow 45 1 (x42.2 ++ ([x42.1] : List Int))), (17, cL p0.Map.Terrain), (18, cI x42.1)] [(4, va (eTBoard p0)), (45, ar 1 eI zI (x42.2 ++ ([x42.1] : List Int)))] (fun t => aI (rfl : ([x42.1] : List Int).length = 1) (aI (fF_lit eI zI ([x42.1] : List Int)) (aI (And.intro (Nat.le_refl x42.2.length) (And.intro (@List.length_append _ x42.2 ([x42.1] : List Int)) g62)) (aI (fF_appL eI zI x42.2 ([x42.1] : List Int)) (aI (fF_appR eI zI x42.2 ([x42.1] : List Int)) (t)))))) ?_
     change EndsI _ _ _ _ _ _
     refine oo [] [.ren 45 1001] [(1, cI p1), (2, cI p2), (3, cI p3), (4, pk 4), (9, ow 1001 1 (x42.2 ++ ([x42.1] : List Int))), (17, cL p0.Map.Terrain), (18, cI (W (x42.1 + 1)))] [(4, va (eTBoard p0)), (1001, ar 1 eI zI (x42.2 ++ ([x42.1] : List Int)))] id ?_
     cases H
     exact rr
    ·refine jf c61 ?_
     refine sk ?_
     refine oo [] [] [(1, cI p1), (2, cI p2), (3, cI p3), (4, pk 4), (9, ow 1001 1 x42.2), (17, cL p0.Map.Terrain), (18, cI (W (x42.1 + 1)))] [(4, va (eTBoard p0)), (1001, ar 1 eI zI x42.2)] id ?_
     cases H
     exact rr
  ·refine jf c44 ?_
   refine tl [] [(9, ow 1001 1 x42.2)] [(1001, ar 1 eI zI x42.2)] id ?_
   refine ends_exit ?_
   cases H
   exact rse
 ·clear h64
  rintro e s ⟨rfl, rfl⟩
  change EndsI _ _ _ _ _ _
  refine sn [] [] [(8, ow 1001 1 y63)] [] [] id ?_
  refine tl [.frz 8] [(8, dc 1 eI zI y63)] [] (aI (Nat.le_refl y63.length)) ?_
  cases H
  exact er
def i_seenBy_ir : S :=
 (sq [o 3 (.box 12 (.t 0)), o 6 (.mv (.v (.nil)))]
 (.seq (.drw [(0, 1), (0, 2), (1, 2), (0, 3), (1, 3), (0, 4), (1, 4), (0, 5), (1, 5), (2, 5), (3, 5), (4, 5), (0, 6), (1, 6), (0, 7), (1, 7), (0, 8), (1, 8)] [o 7 (.load 12 true (.t 3)), om 8 2, oa 9 0 3, oa 10 1 9, ol 11 10, om 12 1, o 13 (.iad 6 (.t 11) (.t 12)), oa 14 5 13, ol 15 14, o 16 (.call 265 [.t 7, .t 8, .t 15, .v (.int .i64 1)]), om 6 16])
 .ret))
noncomputable def X.i_seenBy (p0 : TBoard) (p1 : Int) (p2 : Int) : Option (List Int) :=
 ((at' zTKind p0.Rules.Kinds p1).bind fun v1 => ((X.i_inSight p0 p2 v1.View 1).bind fun v3 => some v3))
theorem i_seenBy_ok (p0 : TBoard) (p1 : Int) (p2 : Int) (r : (List Int)) (H : X.i_seenBy p0 p1 p2 = some r) : FK 245 [.agg (eTBoard p0), cI p1, cI p2] (.c (dat 1 eI zI r)) := by
 unfold X.i_seenBy at H
 refine fi Tryz.f245 i_seenBy_ir [(6, dc 1 eI zI r)] [] glL Tryz.func245 ?_
 refine sn [] [] [(3, pk 3)] [] [(3, va (eTBoard p0))] id ?_
 obtain ⟨v1, h2, H⟩ := oB H
 obtain ⟨v3, h4, H⟩ := oB H
 refine sx [.cs (eTKind v1), .res (dc 1 eI zI v3)] [] [(6, dc 1 eI zI v3)] [] (fun t => (a2 eTKind h2 (aI rN (aI (i_inSight_ok p0 p2 v1.View 1 v3 h4) (aG 2 rN (t)))))) ?_
 cases H
 exact er
def i_spots_ir : S :=
 (sq [o 2 (.box 12 (.t 0)), o 3 (.box 4 (.t 1)), o 4 (.mv (.v (.nil)))]
 (sq [o 8 (.load 12 true (.t 2)), o 9 (.call 103 [.t 8]), o 10 (.msl 1 1 [.bool false] (.t 9)), om 5 10]
 (.seq (sq [oa 11 2 3, ol 12 11, o 13 (.bin .geq (.t 12) (iv 0))]
 (.ite (.t 13) (sq [o 14 (.load 12 true (.t 2)), oa 15 1 3, ol 16 15, oa 17 2 3, ol 18 17, o 19 (.call 245 [.t 14, .t 16, .t 18]), o 20 (.len (.t 19)), o 21 (.mv (iv 0))]
  (.blk 0 (.loop (sq [o 22 (.bin .lss (.t 21) (.t 20))]
    (.seq (.ite (.t 22) .skip
    (.exit 0))
    (.seq (.blk 1 (sq [o 23 (.iad 1 (.t 19) (.t 21)), ol 24 23, om 7 24]
     (.ops [om 25 5, om 26 7, o 27 (.iad 1 (.t 25) (.t 26)), ⟨none, .store 1 (.t 27) bT, none⟩])))
    (.ops [o 28 (.bin .add (.t 21) (iv 1)), om 21 28])))))))
 .skip))
 (sq [om 29 5, om 4 29]
 .ret))))
noncomputable def X.i_spots (p0 : TBoard) (p1 : TUnit) : Option (List Bool) :=
 ((X.i_sizeOf p0).bind fun v1 => (if 0 ≤ v1 ∧ v1.toNat ≤ LIM then (bif (decide (p1.At ≥ 0)) then ((X.i_seenBy p0 p1.Kind p1.At).bind fun v5 => ((loop (fun (x18 : (Int × (List Bool))) => ((bif (decide (x18.1 < (v5.length : Int))) then ((at' zI v5 x18.1).bind fun v21 => (if 0 ≤ v21 ∧ v21 < (x18.2.length : Int) then some (Sum.inl ((W (x18.1 + 1)), (x18.2.set v21.toNat true))) else none)) else some (Sum.inr x18.2)) : Option ((Int × (List Bool)) ⊕ (List Bool)))) (0, (List.replicate v1.toNat zB))).bind fun y24 => some y24)) else some (List.replicate v1.toNat zB)) else none))
theorem i_spots_ok (p0 : TBoard) (p1 : TUnit) (r : (List Bool)) (H : X.i_spots p0 p1 = some r) : FK 209 [.agg (eTBoard p0), .agg (eTUnit p1)] (.c (dat 1 eB zB r)) := by
 unfold X.i_spots at H
 refine fi Tryz.f209 i_spots_ir [(4, dc 1 eB zB r)] [] glL Tryz.func209 ?_
 refine so [] [] [(2, pk 2), (3, pk 3)] [(2, va (eTBoard p0)), (3, va (eTUnit p1))] id ?_
 obtain ⟨v1, h2, H⟩ := oB H
 obtain ⟨g3, H⟩ := oI H
 refine sn [.res (cI v1), fh eB zB (List.replicate v1.toNat zB)] [] [(5, ow 10 1 (List.replicate v1.toNat zB))] [] [(10, ar 1 eB zB (List.replicate v1.toNat zB))] (fun t => aI (i_sizeOf_ok p0 v1 h2) (aI (And.intro g3.1 (And.intro (List.length_replicate (n := v1.toNat) (a := zB)).symm (Nat.le_trans (Nat.le_of_eq List.length_replicate) g3.2 : (List.replicate v1.toNat zB).length ≤ LIM))) (aI (fF_rep eB zB zB v1.toNat) (t)))) ?_
 refine seq_in ?_
 refine sn [] [] [(13, cB (decide (p1.At ≥ 0)))] [] [] id ?_
 rcases oC H with ⟨c4, H⟩ | ⟨c4, H⟩
 ·refine it c4 ?_
  obtain ⟨v5, h6, H⟩ := oB H
  refine sn [.res (dc 1 eI zI v5)] [] [(19, dc 1 eI zI v5), (20, cL v5), (21, cI 0)] [] [] (fun t => aI (i_seenBy_ok p0 p1.Kind p1.At v5 h6) (lI v5 (t))) ?_
  refine ends_blk ?_
  obtain ⟨y24, h25, H⟩ := oB H
  refine tl [] [(5, ow 10 1 (List.replicate v1.toNat zB)), (19, dc 1 eI zI v5), (20, cL v5), (21, cI 0)] [(10, ar 1 eB zB (List.replicate v1.toNat zB))] id ?_
  refine loop_in (fun (x : (Int × (List Bool))) => lit [(5, ow 10 1 x.2), (19, dc 1 eI zI v5), (20, cL v5), (21, cI x.1)] [(10, ar 1 eB zB x.2)]) (fun (z : (List Bool)) => At (.exit 0) (lit [(5, ow 10 1 z)] [(10, ar 1 eB zB z)])) h25 ?_ ?_
  ·clear H h25
   intro x18 y0 H
   refine sn [] [] [(22, cB (decide (x18.1 < (v5.length : Int))))] [] [] id ?_
   refine seq_in ?_
   rcases oC H with ⟨c20, H⟩ | ⟨c20, H⟩
   ·refine it c20 ?_
    refine sk ?_
    refine seq_in ?_
    refine ends_blk ?_
    obtain ⟨v21, h22, H⟩ := oB H
    refine sn [.cs (eI v21)] [] [(7, cI v21)] [] [] (a2 eI h22) ?_
    obtain ⟨g23, H⟩ := oI H
    refine oo [.no, .fn 0 (fF eB zB (x18.2.set v21.toNat true))] [] [(5, ow 10 1 x18.2), (19, dc 1 eI zI v5), (20, cL v5), (21, cI x18.1)] [(10, .arr 1 x18.2.length (fF eB zB (x18.2.set v21.toNat true)) false)] (fun t => aI g23 (aI rT (aI (nat_lt g23) (aI (by decide : 0 + 1 ≤ 1) (aI (fF_set eB zB x18.2 v21.toNat true (nat_lt g23) x18.2.length) (t)))))) ?_
    change EndsI _ _ _ _ _ _
    refine oo [] [.rel 5 ((x18.2.set v21.toNat true).length), .rep 10 ((x18.2.set v21.toNat true).length) (fF eB zB (x18.2.set v21.toNat true))] [(5, ow 10 1 (x18.2.set v21.toNat true)), (19, dc 1 eI zI v5), (20, cL v5), (21, cI (W (x18.1 + 1)))] [(10, ar 1 eB zB (x18.2.set v21.toNat true))] (fun t => aI (by simp : x18.2.length = (x18.2.set v21.toNat true).length) (aI (Nat.le_of_eq (by simp : (x18.2.set v21.toNat true).length = x18.2.length)) (aI (fun _ _ => rfl : ∀ i, i < (x18.2.set v21.toNat true).length → (fF eB zB (x18.2.set v21.toNat true)) i = (fF eB zB (x18.2.set v21.toNat true)) i) (t)))) ?_
    cases H
    exact rr
   ·refine jf c20 ?_
    refine tl [] [(5, ow 10 1 x18.2)] [(10, ar 1 eB zB x18.2)] id ?_
    refine ends_exit ?_
    cases H
    exact rse
  ·clear h25
   rintro e s ⟨rfl, rfl⟩
   change EndsI _ _ _ _ _ _
   refine sn [] [] [(4, ow 10 1 y24)] [] [] id ?_
   refine tl [.frz 4] [(4, dc 1 eB zB y24)] [] (aI (Nat.le_refl y24.length)) ?_
   cases H
   exact er
 ·refine jf c4 ?_
  refine sk ?_
  refine sn [] [] [(4, ow 10 1 (List.replicate v1.toNat zB))] [] [] id ?_
  refine tl [.frz 4] [(4, .c (dat 1 eB zB (List.replicate v1.toNat zB)))] [] (aI (Nat.le_refl ((List.replicate v1.toNat zB).length))) ?_
  cases H
  exact er
def i_sees_ir : S :=
 (sq [o 3 (.box 12 (.t 0)), o 4 (.box 3 (.t 1)), o 6 (.mv (.v (.nil)))]
 (sq [o 12 (.load 12 true (.t 3)), o 13 (.call 103 [.t 12]), o 14 (.msl 1 1 [.bool false] (.t 13)), om 7 14]
 (.seq (sq [o 15 (.load 3 true (.t 4)), om 16 2, o 17 (.call 208 [.t 15, .t 16]), o 18 (.len (.t 17)), o 19 (.mv (iv 0))]
 (.blk 0 (.loop (sq [o 20 (.bin .lss (.t 19) (.t 18))]
   (.seq (.ite (.t 20) .skip
   (.exit 0))
   (.seq (.blk 1 (sq [o 21 (.iad 1 (.t 17) (.t 19)), ol 22 21, om 9 22]
    (.seq (.drw [(0, 1), (0, 2), (0, 3), (1, 3), (2, 3), (0, 4), (0, 5), (0, 8), (1, 8), (2, 8), (3, 8), (4, 8), (5, 8), (6, 8), (7, 8)] [o 23 (.load 12 true (.t 3)), oa 24 2 4, ol 25 24, om 26 9, o 27 (.iad 4 (.t 25) (.t 26)), o 28 (.load 4 true (.t 27)), o 29 (.call 209 [.t 23, .t 28]), o 30 (.len (.t 29)), o 31 (.mv (iv 0))])
    (.blk 2 (.loop (sq [o 32 (.bin .lss (.t 31) (.t 30))]
      (.seq (.ite (.t 32) .skip
      (.exit 2))
      (.seq (.blk 3 (sq [om 33 31, o 34 (.iad 1 (.t 29) (.t 31)), ol 35 34, om 10 33, om 11 35]
       (.ops [om 36 7, om 37 10, om 38 7, om 39 10, o 40 (.iad 1 (.t 38) (.t 39)), ol 41 40, om 42 41, og 43 (.mv (.t 11)) 42, o 44 (.pick (.t 42) bT (.t 43)), o 45 (.iad 1 (.t 36) (.t 37)), os 1 45 44])))
      (.ops [o 46 (.bin .add (.t 31) (iv 1)), om 31 46])))))))))
   (.ops [o 47 (.bin .add (.t 19) (iv 1)), om 19 47])))))))
 (sq [om 48 7, om 6 48]
 .ret))))
noncomputable def X.i_sees (p0 : TBoard) (p1 : TState) (p2 : Int) : Option (List Bool) :=
 ((X.i_sizeOf p0).bind fun v1 => (if 0 ≤ v1 ∧ v1.toNat ≤ LIM then ((X.i_unitsOf p1 p2).bind fun v4 => ((loop (fun (x67 : (Int × (List Bool))) => ((bif (decide (x67.1 < (v4.length : Int))) then ((at' zI v4 x67.1).bind fun v70 => ((at' zTUnit p1.Units v70).bind fun v72 => ((X.i_spots p0 v72).bind fun v74 => ((loop (fun (x89 : (Int × (List Bool))) => ((bif (decide (x89.1 < (v74.length : Int))) then ((at' zB v74 x89.1).bind fun v92 => (if 0 ≤ x89.1 ∧ x89.1 < (x89.2.length : Int) then (bif (x89.2.getD x89.1.toNat zB) then some (Sum.inl ((W (x89.1 + 1)), (x89.2.set x89.1.toNat true))) else some (Sum.inl ((W (x89.1 + 1)), (x89.2.set x89.1.toNat v92)))) else none)) else some (Sum.inr x89.2)) : Option ((Int × (List Bool)) ⊕ (List Bool)))) (0, x67.2)).bind fun y96 => some (Sum.inl ((W (x67.1 + 1)), y96)))))) else some (Sum.inr x67.2)) : Option ((Int × (List Bool)) ⊕ (List Bool)))) (0, (List.replicate v1.toNat zB))).bind fun y98 => some y98)) else none))
theorem i_sees_ok (p0 : TBoard) (p1 : TState) (p2 : Int) (r : (List Bool)) (H : X.i_sees p0 p1 p2 = some r) : FK 168 [.agg (eTBoard p0), .agg (eTState p1), cI p2] (.c (dat 1 eB zB r)) := by
 unfold X.i_sees at H
 refine fi Tryz.f168 i_sees_ir [(6, dc 1 eB zB r)] [] glL Tryz.func168 ?_
 refine sn [] [] [(3, pk 3), (4, pk 4)] [] [(3, va (eTBoard p0)), (4, va (eTState p1))] id ?_
 obtain ⟨v1, h2, H⟩ := oB H
 obtain ⟨g3, H⟩ := oI H
 refine sn [.res (cI v1), fh eB zB (List.replicate v1.toNat zB)] [] [(7, ow 14 1 (List.replicate v1.toNat zB))] [] [(14, ar 1 eB zB (List.replicate v1.toNat zB))] (fun t => aI (i_sizeOf_ok p0 v1 h2) (aI (And.intro g3.1 (And.intro (List.length_replicate (n := v1.toNat) (a := zB)).symm (Nat.le_trans (Nat.le_of_eq List.length_replicate) g3.2 : (List.replicate v1.toNat zB).length ≤ LIM))) (aI (fF_rep eB zB zB v1.toNat) (t)))) ?_
 refine seq_in ?_
 obtain ⟨v4, h5, H⟩ := oB H
 refine sn [.res (dc 1 eI zI v4)] [] [(17, dc 1 eI zI v4), (18, cL v4), (19, cI 0)] [] [] (fun t => aI (i_unitsOf_ok p1 p2 v4 h5) (lI v4 (t))) ?_
 refine ends_blk ?_
 obtain ⟨y98, h99, H⟩ := oB H
 refine tl [] [(3, pk 3), (4, pk 4), (7, ow 14 1 (List.replicate v1.toNat zB)), (17, dc 1 eI zI v4), (18, cL v4), (19, cI 0)] [(3, va (eTBoard p0)), (4, va (eTState p1)), (14, ar 1 eB zB (List.replicate v1.toNat zB))] id ?_
 refine loop_in (fun (x : (Int × (List Bool))) => lit [(3, pk 3), (4, pk 4), (7, ow 14 1 x.2), (17, dc 1 eI zI v4), (18, cL v4), (19, cI x.1)] [(3, va (eTBoard p0)), (4, va (eTState p1)), (14, ar 1 eB zB x.2)]) (fun (z : (List Bool)) => At (.exit 0) (lit [(7, ow 14 1 z)] [(14, ar 1 eB zB z)])) h99 ?_ ?_
 ·clear H h99
  intro x67 y0 H
  refine sn [] [] [(20, cB (decide (x67.1 < (v4.length : Int))))] [] [] id ?_
  refine seq_in ?_
  rcases oC H with ⟨c69, H⟩ | ⟨c69, H⟩
  ·refine it c69 ?_
   refine sk ?_
   refine seq_in ?_
   refine ends_blk ?_
   obtain ⟨v70, h71, H⟩ := oB H
   refine sn [.cs (eI v70)] [] [(9, cI v70)] [] [] (a2 eI h71) ?_
   obtain ⟨v72, h73, H⟩ := oB H
   obtain ⟨v74, h75, H⟩ := oB H
   refine xn [.cs (eTUnit v72), .res (dc 1 eB zB v74)] [] [(29, dc 1 eB zB v74), (30, cL v74), (31, cI 0)] [] [] (fun t => (a2 eTUnit h73 (aI rN (aI (i_spots_ok p0 v72 v74 h75) (aG 2 rN (t)))))) ?_
   refine ends_blk ?_
   obtain ⟨y96, h97, H⟩ := oB H
   refine tl [] [(3, pk 3), (4, pk 4), (7, ow 14 1 x67.2), (17, dc 1 eI zI v4), (18, cL v4), (19, cI x67.1), (29, dc 1 eB zB v74), (30, cL v74), (31, cI 0)] [(3, va (eTBoard p0)), (4, va (eTState p1)), (14, ar 1 eB zB x67.2)] id ?_
   refine loop_in (fun (x : (Int × (List Bool))) => lit [(3, pk 3), (4, pk 4), (7, ow 14 1 x.2), (17, dc 1 eI zI v4), (18, cL v4), (19, cI x67.1), (29, dc 1 eB zB v74), (30, cL v74), (31, cI x.1)] [(3, va (eTBoard p0)), (4, va (eTState p1)), (14, ar 1 eB zB x.2)]) (fun (z : (List Bool)) => At (.exit 2) (lit [(3, pk 3), (4, pk 4), (7, ow 14 1 z), (17, dc 1 eI zI v4), (18, cL v4), (19, cI x67.1)] [(3, va (eTBoard p0)), (4, va (eTState p1)), (14, ar 1 eB zB z)])) h97 ?_ ?_
   ·clear H h97
    intro x89 y0 H
    refine sn [] [] [(32, cB (decide (x89.1 < (v74.length : Int))))] [] [] id ?_
    refine seq_in ?_
    rcases oC H with ⟨c91, H⟩ | ⟨c91, H⟩
    ·refine it c91 ?_
     refine sk ?_
     refine seq_in ?_
     refine ends_blk ?_
     obtain ⟨v92, h93, H⟩ := oB H
     refine sn [.cs (eB v92)] [] [(10, cI x89.1), (11, cB v92)] [] [] (a2 eB h93) ?_
     obtain ⟨g94, H⟩ := oI H
     rcases oC H with ⟨c95, H⟩ | ⟨c95, H⟩
     ·refine oo ([.no] ++ rg 2 true [.no, .fn 0 (fF eB zB (x89.2.set x89.1.toNat true))]) [] [(3, pk 3), (4, pk 4), (7, ow 14 1 x89.2), (17, dc 1 eI zI v4), (18, cL v4), (19, cI x67.1), (29, dc 1 eB zB v74), (30, cL v74), (31, cI x89.1)] [(3, va (eTBoard p0)), (4, va (eTState p1)), (14, .arr 1 x89.2.length (fF eB zB (x89.2.set x89.1.toNat true)) false)] (fun t => aI g94 (aI (nat_lt g94) (aG 2 c95 (aI g94 (aI rT (aI (nat_lt g94) (aI (by decide : 0 + 1 ≤ 1) (aI (fF_set eB zB x89.2 x89.1.toNat true (nat_lt g94) x89.2.length) (t))))))))) ?_
      change EndsI _ _ _ _ _ _
      refine oo [] [.rel 7 ((x89.2.set x89.1.toNat true).length), .rep 14 ((x89.2.set x89.1.toNat true).length) (fF eB zB (x89.2.set x89.1.toNat true))] [(3, pk 3), (4, pk 4), (7, ow 14 1 (x89.2.set x89.1.toNat true)), (17, dc 1 eI zI v4), (18, cL v4), (19, cI x67.1), (29, dc 1 eB zB v74), (30, cL v74), (31, cI (W (x89.1 + 1)))] [(3, va (eTBoard p0)), (4, va (eTState p1)), (14, ar 1 eB zB (x89.2.set x89.1.toNat true))] (fun t => aI (by simp : x89.2.length = (x89.2.set x89.1.toNat true).length) (aI (Nat.le_of_eq (by simp : (x89.2.set x89.1.toNat true).length = x89.2.length)) (aI (fun _ _ => rfl : ∀ i, i < (x89.2.set x89.1.toNat true).length → (fF eB zB (x89.2.set x89.1.toNat true)) i = (fF eB zB (x89.2.set x89.1.toNat true)) i) (t)))) ?_
      cases H
      exact rr
     ·refine oo ([.no] ++ rg 2 false [.no, .fn 0 (fF eB zB (x89.2.set x89.1.toNat v92))]) [] [(3, pk 3), (4, pk 4), (7, ow 14 1 x89.2), (17, dc 1 eI zI v4), (18, cL v4), (19, cI x67.1), (29, dc 1 eB zB v74), (30, cL v74), (31, cI x89.1)] [(3, va (eTBoard p0)), (4, va (eTState p1)), (14, .arr 1 x89.2.length (fF eB zB (x89.2.set x89.1.toNat v92)) false)] (fun t => aI g94 (aI (nat_lt g94) (aG 2 c95 (aI g94 (aI rT (aI (nat_lt g94) (aI (by decide : 0 + 1 ≤ 1) (aI (fF_set eB zB x89.2 x89.1.toNat v92 (nat_lt g94) x89.2.length) (t))))))))) ?_
      change EndsI _ _ _ _ _ _
      refine oo [] [.rel 7 ((x89.2.set x89.1.toNat v92).length), .rep 14 ((x89.2.set x89.1.toNat v92).length) (fF eB zB (x89.2.set x89.1.toNat v92))] [(3, pk 3), (4, pk 4), (7, ow 14 1 (x89.2.set x89.1.toNat v92)), (17, dc 1 eI zI v4), (18, cL v4), (19, cI x67.1), (29, dc 1 eB zB v74), (30, cL v74), (31, cI (W (x89.1 + 1)))] [(3, va (eTBoard p0)), (4, va (eTState p1)), (14, ar 1 eB zB (x89.2.set x89.1.toNat v92))] (fun t => aI (by simp : x89.2.length = (x89.2.set x89.1.toNat v92).length) (aI (Nat.le_of_eq (by simp : (x89.2.set x89.1.toNat v92).length = x89.2.length)) (aI (fun _ _ => rfl : ∀ i, i < (x89.2.set x89.1.toNat v92).length → (fF eB zB (x89.2.set x89.1.toNat v92)) i = (fF eB zB (x89.2.set x89.1.toNat v92)) i) (t)))) ?_
      cases H
      exact rr
    ·refine jf c91 ?_
     refine tl [] [(3, pk 3), (4, pk 4), (7, ow 14 1 x89.2), (17, dc 1 eI zI v4), (18, cL v4), (19, cI x67.1)] [(3, va (eTBoard p0)), (4, va (eTState p1)), (14, ar 1 eB zB x89.2)] id ?_
     refine ends_exit ?_
     cases H
     exact rse
   ·clear h97
    rintro e s ⟨rfl, rfl⟩
    change EndsI _ _ _ _ _ _
    refine oo [] [] [(3, pk 3), (4, pk 4), (7, ow 14 1 y96), (17, dc 1 eI zI v4), (18, cL v4), (19, cI (W (x67.1 + 1)))] [(3, va (eTBoard p0)), (4, va (eTState p1)), (14, ar 1 eB zB y96)] id ?_
    cases H
    exact rr
  ·refine jf c69 ?_
   refine tl [] [(7, ow 14 1 x67.2)] [(14, ar 1 eB zB x67.2)] id ?_
   refine ends_exit ?_
   cases H
   exact rse
 ·clear h99
  rintro e s ⟨rfl, rfl⟩
  change EndsI _ _ _ _ _ _
  refine sn [] [] [(6, ow 14 1 y98)] [] [] id ?_
  refine tl [.frz 6] [(6, dc 1 eB zB y98)] [] (aI (Nat.le_refl y98.length)) ?_
  cases H
  exact er
def i_hexesThat_ir : S :=
 (sq [o 2 (.box 12 (.t 0)), o 4 (.mv (.v (.nil)))]
 (sq [o 7 (.bsl 1 []), om 5 7]
 (.seq (sq [oa 8 7 2, oa 9 2 8, ol 10 9, o 11 (.len (.t 10)), o 12 (.mv (iv 0))]
 (.blk 0 (.loop (sq [o 13 (.bin .lss (.t 12) (.t 11))]
   (.seq (.ite (.t 13) .skip
   (.exit 0))
   (.seq (.blk 1 (sq [om 14 12, om 6 14]
    (sq [om 15 1, om 16 6, o 17 (.cald (.t 15) [.t 16])]
    (.ite (.t 17) (.ops [om 18 5, om 19 6, o 20 (.bsl 1 [.t 19]), o 21 (.app 1 8 (.t 18) (.t 20)), om 5 21])
    .skip))))
   (.ops [o 22 (.bin .add (.t 12) (iv 1)), om 12 22])))))))
 (sq [om 23 5, om 4 23]
 .ret))))
noncomputable def X.i_hexesThat (p0 : TBoard) (f1 : Int → Option Bool) : Option (List Int) :=
 ((loop (fun (x14 : (Int × (List Int))) => ((bif (decide (x14.1 < (p0.Map.Terrain.length : Int))) then ((f1 x14.1).bind fun v17 => (bif v17 then (if (x14.2 ++ ([x14.1] : List Int)).length ≤ LIM then some (Sum.inl ((W (x14.1 + 1)), (x14.2 ++ ([x14.1] : List Int)))) else none) else some (Sum.inl ((W (x14.1 + 1)), x14.2)))) else some (Sum.inr x14.2)) : Option ((Int × (List Int)) ⊕ (List Int)))) (0, ([] : List Int))).bind fun y21 => some y21)
theorem i_hexesThat_c1_ok (p0 : TBoard) (cf1 : FuncId) (cs1_0 : List AC) (f1 : Int → Option Bool) (hf1 : ∀ q0 r, f1 q0 = some r → FK cf1 [cI q0, .c (.pd cs1_0 0)] (cB r)) (r : (List Int)) (H : X.i_hexesThat p0 f1 = some r) : FK 169 [.agg (eTBoard p0), .c (.clo cf1 [.pd cs1_0 0])] (.c (dat 1 eI zI r)) := by
 unfold X.i_hexesThat at H
 refine fi Tryz.f169 i_hexesThat_ir [(4, dc 1 eI zI r)] [] glL Tryz.func169 ?_
 refine sn [] [] [(2, pk 2)] [] [(2, va (eTBoard p0))] id ?_
 refine sn [fh eI zI ([] : List Int)] [] [(5, ow 7 1 ([] : List Int))] [] [(7, ar 1 eI zI ([] : List Int))] (fun t => aI (rfl : ([] : List Int).length = 0) (aI (fF_lit eI zI ([] : List Int)) (t))) ?_
 refine seq_in ?_
 refine sn [] [] [(11, cL p0.Map.Terrain), (12, cI 0)] [] [] (fun t => lI p0.Map.Terrain (t)) ?_
 refine ends_blk ?_
 obtain ⟨y21, h22, H⟩ := oB H
 refine tl [.ren 7 1001] [(1, .c (.clo cf1 [.pd cs1_0 0])), (5, ow 1001 1 ([] : List Int)), (11, cL p0.Map.Terrain), (12, cI 0)] [(1001, ar 1 eI zI ([] : List Int))] id ?_
 refine loop_in (fun (x : (Int × (List Int))) => lit [(1, .c (.clo cf1 [.pd cs1_0 0])), (5, ow 1001 1 x.2), (11, cL p0.Map.Terrain), (12, cI x.1)] [(1001, ar 1 eI zI x.2)]) (fun (z : (List Int)) => At (.exit 0) (lit [(5, ow 1001 1 z)] [(1001, ar 1 eI zI z)])) h22 ?_ ?_
 ·clear H h22
  intro x14 y0 H
  refine sn [] [] [(13, cB (decide (x14.1 < (p0.Map.Terrain.length : Int))))] [] [] id ?_
  refine seq_in ?_
  rcases oC H with ⟨c16, H⟩ | ⟨c16, H⟩
  ·refine it c16 ?_
   refine sk ?_
   refine seq_in ?_
   refine ends_blk ?_
   refine sn [] [] [(6, cI x14.1)] [] [] id ?_
   obtain ⟨v17, h18, H⟩ := oB H
   refine sn [.res (cB v17)] [] [(17, cB v17)] [] [] (aI (hf1 x14.1 v17 h18)) ?_
   rcases oC H with ⟨c19, H⟩ | ⟨c19, H⟩
   ·refine it c19 ?_
    obtain ⟨g20, H⟩ := oI H
    refine oo [fh eI zI ([x14.1] : List Int), fh eI zI (x14.2 ++ ([x14.1] : List Int))] [] [(1, .c (.clo cf1 [.pd cs1_0 0])), (5, ow 21 1 (x14.2 ++ ([x14.1] : List Int))), (11, cL p0.Map.Terrain), (12, cI x14.1)] [(21, ar 1 eI zI (x14.2 ++ ([x14.1] : List Int)))] (fun t => aI (rfl : ([x14.1] : List Int).length = 1) (aI (fF_lit eI zI ([x14.1] : List Int)) (aI (And.intro (Nat.le_refl x14.2.length) (And.intro (@List.length_append _ x14.2 ([x14.1] : List Int)) g20)) (aI (fF_appL eI zI x14.2 ([x14.1] : List Int)) (aI (fF_appR eI zI x14.2 ([x14.1] : List Int)) (t)))))) ?_
    change EndsI _ _ _ _ _ _
    refine oo [] [.ren 21 1001] [(1, .c (.clo cf1 [.pd cs1_0 0])), (5, ow 1001 1 (x14.2 ++ ([x14.1] : List Int))), (11, cL p0.Map.Terrain), (12, cI (W (x14.1 + 1)))] [(1001, ar 1 eI zI (x14.2 ++ ([x14.1] : List Int)))] id ?_
    cases H
    exact rr
   ·refine jf c19 ?_
    refine sk ?_
    refine oo [] [] [(1, .c (.clo cf1 [.pd cs1_0 0])), (5, ow 1001 1 x14.2), (11, cL p0.Map.Terrain), (12, cI (W (x14.1 + 1)))] [(1001, ar 1 eI zI x14.2)] id ?_
    cases H
    exact rr
  ·refine jf c16 ?_
   refine tl [] [(5, ow 1001 1 x14.2)] [(1001, ar 1 eI zI x14.2)] id ?_
   refine ends_exit ?_
   cases H
   exact rse
 ·clear h22
  rintro e s ⟨rfl, rfl⟩
  change EndsI _ _ _ _ _ _
  refine sn [] [] [(4, ow 1001 1 y21)] [] [] id ?_
  refine tl [.frz 4] [(4, dc 1 eI zI y21)] [] (aI (Nat.le_refl y21.length)) ?_
  cases H
  exact er
def i_seenHexes_1_ir : S :=
 (sq [o 3 (.mv bF)]
 (sq [ol 4 1, om 5 0, o 6 (.iad 1 (.t 4) (.t 5)), ol 7 6, om 3 7]
 .ret))
noncomputable def X.i_seenHexes_1 (p0 : Int) (p1 : (List Bool)) : Option Bool :=
 ((at' zB p1 p0).bind fun v1 => some v1)
theorem i_seenHexes_1_ok (p0 : Int) (p1 : (List Bool)) (r : Bool) (H : X.i_seenHexes_1 p0 p1 = some r) : FK 170 [cI p0, .c (.pd (eLB p1) 0)] (cB r) := by
 unfold X.i_seenHexes_1 at H
 refine fi Tryz.f170 i_seenHexes_1_ir [(3, cB r)] [] glL Tryz.func170 ?_
 refine sn [] [] [] [] [] id ?_
 obtain ⟨v1, h2, H⟩ := oB H
 refine so [.cs (eB v1)] [] [(3, cB v1)] [] (a2 eB h2) ?_
 cases H
 exact er
def i_seenHexes_ir : S :=
 (sq [o 3 (.box 12 (.t 0)), o 4 (.box 3 (.t 1)), o 6 (.mv (.v (.nil)))]
 (sq [o 8 (.load 12 true (.t 3)), o 9 (.load 3 true (.t 4)), om 10 2, o 11 (.call 168 [.t 8, .t 9, .t 10]), o 7 (.alloc [.nil]), os 1 7 11]
 (sq [o 12 (.load 12 true (.t 3)), o 13 (.clo 170 [.t 7]), o 14 (.call 169 [.t 12, .t 13]), om 6 14]
 .ret)))
noncomputable def X.i_seenHexes (p0 : TBoard) (p1 : TState) (p2 : Int) : Option (List Int) :=
 ((X.i_sees p0 p1 p2).bind fun v1 => ((X.i_hexesThat p0 (fun q0 => X.i_seenHexes_1 q0 v1)).bind fun v3 => some v3))
theorem i_seenHexes_ok (p0 : TBoard) (p1 : TState) (p2 : Int) (r : (List Int)) (H : X.i_seenHexes p0 p1 p2 = some r) : FK 126 [.agg (eTBoard p0), .agg (eTState p1), cI p2] (.c (dat 1 eI zI r)) := by
 unfold X.i_seenHexes at H
 refine fi Tryz.f126 i_seenHexes_ir [(6, dc 1 eI zI r)] [] glL Tryz.func126 ?_
 refine sn [] [] [(3, pk 3), (4, pk 4)] [] [(3, va (eTBoard p0)), (4, va (eTState p1))] id ?_
 obtain ⟨v1, h2, H⟩ := oB H
 refine sn [.res (dc 1 eB zB v1)] [] [(7, pk 7)] [] [(7, .var [dat 1 eB zB v1] false)] (aI (i_sees_ok p0 p1 p2 v1 h2)) ?_
 obtain ⟨v3, h4, H⟩ := oB H
 refine so [.res (dc 1 eI zI v3)] [] [(6, dc 1 eI zI v3)] [] (aI (i_hexesThat_c1_ok p0 (170) (eLB v1) (fun q0 => X.i_seenHexes_1 q0 v1) (fun q0 r h => i_seenHexes_1_ok q0 v1 r h) v3 h4)) ?_
 cases H
 exact er
def g_insertionSortCmpFunc_Unit_ir : S :=
 (sq [om 10 1, o 11 (.bin .add (.t 10) (iv 1)), om 8 11]
 (.blk 0 (.loop (.seq (sq [om 12 8, om 13 2, o 14 (.bin .lss (.t 12) (.t 13))]
   (.ite (.t 14) .skip
   (.exit 0)))
   (.seq (.blk 1 (sq [om 17 8, om 9 17]
    (.blk 2 (.loop (.seq (.seq (.drw [(0, 1), (4, 5), (4, 6), (5, 6), (4, 7), (4, 8), (4, 9), (5, 9), (6, 9), (7, 9), (8, 9), (4, 10), (5, 10), (6, 10), (7, 10), (8, 10), (9, 10), (4, 11), (5, 11), (6, 11), (7, 11), (8, 11), (9, 11), (4, 12), (5, 12), (6, 12), (7, 12), (8, 12), (4, 13), (5, 13), (6, 13), (7, 13), (8, 13)] [om 18 9, om 19 1, o 20 (.bin .gtr (.t 18) (.t 19)), om 21 20, oh 22 (.mv (.t 3)) 21, oh 23 (.mv (.t 0)) 21, oh 24 (.mv (.t 9)) 21, oh 25 (.iad 4 (.t 23) (.t 24)) 21, oh 26 (.load 4 true (.t 25)) 21, oh 27 (.mv (.t 0)) 21, oh 28 (.mv (.t 9)) 21, oh 29 (.bin .sub (.t 28) (iv 1)) 21, oh 30 (.iad 4 (.t 27) (.t 29)) 21, oh 31 (.load 4 true (.t 30)) 21, oh 32 (.cald (.t 22) [.t 26, .t 31]) 21, oh 33 (.bin .lss (.t 32) (iv 0)) 21, o 34 (.pick (.t 21) (.t 33) bF)])
      (.ite (.t 34) .skip
      (.exit 2)))
      (.seq (.blk 3 (.drw [(0, 1), (0, 2), (1, 2), (0, 3), (1, 3), (2, 3), (0, 4), (1, 4), (2, 4), (0, 5), (1, 5), (2, 5), (3, 5), (4, 5), (0, 6), (1, 6), (2, 6), (3, 6), (4, 6), (5, 6), (0, 7), (1, 7), (2, 7), (3, 7), (4, 7), (5, 7), (0, 8), (1, 8), (2, 8), (3, 8), (4, 8), (0, 9), (1, 9), (2, 9), (3, 9), (4, 9), (0, 10), (1, 10), (2, 10), (3, 10), (4, 10), (5, 10), (6, 10), (7, 10), (8, 10), (9, 10), (0, 11), (1, 11), (2, 11), (3, 11), (4, 11), (5, 11), (6, 11), (7, 11), (8, 11), (9, 11), (10, 11), (0, 12), (1, 12), (2, 12), (3, 12), (4, 12), (5, 12), (6, 12), (7, 12), (8, 12), (9, 12), (0, 13), (1, 13), (2, 13), (3, 13), (4, 13), (5, 13), (6, 13), (7, 13), (8, 13), (9, 13), (2, 14), (3, 14), (4, 14), (2, 15), (3, 15), (4, 15)] [om 37 0, om 38 9, om 39 0, om 40 9, o 41 (.bin .sub (.t 40) (iv 1)), om 42 0, om 43 9, o 44 (.bin .sub (.t 43) (iv 1)), o 45 (.iad 4 (.t 42) (.t 44)), o 46 (.load 4 true (.t 45)), om 47 0, om 48 9, o 49 (.iad 4 (.t 47) (.t 48)), o 50 (.load 4 true (.t 49)), o 51 (.iad 4 (.t 37) (.t 38)), os 4 51 46, o 52 (.iad 4 (.t 39) (.t 41)), os 4 52 50]))
      (.ops [om 35 9, o 36 (.bin .sub (.t 35) (iv 1)), om 9 36])))))))
   (.ops [om 15 8, o 16 (.bin .add (.t 15) (iv 1)), om 8 16]))))))
noncomputable def X.g_insertionSortCmpFunc_Unit_Moddf (p0 : (List TUnit)) (p1 : Int) (p2 : Int) (f3 : TUnit → TUnit → Option Int) : Option (List TUnit) :=
 ((loop (fun (x110 : (Int × (List TUnit))) => ((bif (decide (x110.1 < p2)) then ((loop (fun (x146 : (Int × (List TUnit))) => ((bif (decide (x146.1 > p1)) then (if 0 ≤ x146.1 ∧ x146.1 < (x146.2.length : Int) then (if 0 ≤ (W (x146.1 - 1)) ∧ (W (x146.1 - 1)) < (x146.2.length : Int) then ((f3 (x146.2.getD x146.1.toNat zTUnit) (x146.2.getD ((W (x146.1 - 1)).toNat) zTUnit)).bind fun v156 => (bif (decide (v156 < 0)) then ((some (x146.2.set x146.1.toNat (x146.2.getD ((W (x146.1 - 1)).toNat) zTUnit))).bind fun l159 => ((some (l159.set ((W (x146.1 - 1)).toNat) (x146.2.getD x146.1.toNat zTUnit))).bind fun l161 => some (Sum.inl ((W (x146.1 - 1)), l161)))) else some (Sum.inr x146.2))) else none) else none) else some (Sum.inr x146.2)) : Option ((Int × (List TUnit)) ⊕ (List TUnit)))) (x110.1, x110.2)).bind fun y163 => some (Sum.inl ((W (x110.1 + 1)), y163))) else some (Sum.inr x110.2)) : Option ((Int × (List TUnit)) ⊕ (List TUnit)))) ((W (p1 + 1)), p0)).bind fun y165 => some y165)
theorem g_insertionSortCmpFunc_Unit_Moddf_c0_ok (p0 : (List TUnit)) (p1 : Int) (p2 : Int) (cf3 : FuncId) (f3 : TUnit → TUnit → Option Int) (hf3 : ∀ q0 q1 r, f3 q0 q1 = some r → FK cf3 [.agg (eTUnit q0), .agg (eTUnit q1)] (cI r)) (r : (List TUnit)) (H : X.g_insertionSortCmpFunc_Unit_Moddf p0 p1 p2 f3 = some r) : FnMu Tryz.prog gl 210 [.c (.own 1000000 4 0 p0.length), cI p1, cI p2, .c (.clo cf3 [])] [(1000000, .arr 4 p0.length (fF eTUnit zTUnit p0) false)] (.tup []) [(1000000, .arr 4 r.length (fF eTUnit zTUnit r) false)] := by
 unfold X.g_insertionSortCmpFunc_Unit_Moddf at H
 refine fn_mu (fn := Tryz.f210) (ir := g_insertionSortCmpFunc_Unit_ir) (E' := []) (E1 := [(1000000, ar 4 eTUnit zTUnit r)]) glL Tryz.func210 (by kernel_rfl) (by kernel_rfl) (by kernel_rfl) (by kernel_rfl) (by kernel_rfl) ?_
 refine sn [] [] [(8, cI (W (p1 + 1)))] [] [] id ?_
 refine ends_blk ?_
 obtain ⟨y165, h166, H⟩ := oB H
 refine tl [] [(0, ow 1000000 4 p0), (1, cI p1), (2, cI p2), (3, .c (.clo cf3 [])), (8, cI (W (p1 + 1)))] [(1000000, ar 4 eTUnit zTUnit p0)] id ?_
 refine loop_in (fun (x : (Int × (List TUnit))) => lit [(0, ow 1000000 4 x.2), (1, cI p1), (2, cI p2), (3, .c (.clo cf3 [])), (8, cI x.1)] [(1000000, ar 4 eTUnit zTUnit x.2)]) (fun (z : (List TUnit)) => At (.exit 0) (lit [] [(1000000, ar 4 eTUnit zTUnit z)])) h166 ?_ ?_
 ·clear H h166
  intro x110 y0 H
  refine seq_in ?_
  refine sn [] [] [(14, cB (decide (x110.1 < p2)))] [] [] id ?_
  rcases oC H with ⟨c112, H⟩ | ⟨c112, H⟩
  ·refine it c112 ?_
   refine sk ?_
   refine seq_in ?_
   refine ends_blk ?_
   refine sn [] [] [(9, cI x110.1)] [] [] id ?_
   refine ends_blk ?_
   obtain ⟨y163, h164, H⟩ := oB H
   refine tl [] [(0, ow 1000000 4 x110.2), (1, cI p1), (2, cI p2), (3, .c (.clo cf3 [])), (8, cI x110.1), (9, cI x110.1)] [(1000000, ar 4 eTUnit zTUnit x110.2)] id ?_
   refine loop_in (fun (x : (Int × (List TUnit))) => lit [(0, ow 1000000 4 x.2), (1, cI p1), (2, cI p2), (3, .c (.clo cf3 [])), (8, cI x110.1), (9, cI x.1)] [(1000000, ar 4 eTUnit zTUnit x.2)]) (fun (z : (List TUnit)) => At (.exit 2) (lit [(0, ow 1000000 4 z), (1, cI p1), (2, cI p2), (3, .c (.clo cf3 [])), (8, cI x110.1)] [(1000000, ar 4 eTUnit zTUnit z)])) h164 ?_ ?_
   ·clear H h164
    intro x146 y0 H
    refine seq_in ?_
    rcases oC H with ⟨c153, H⟩ | ⟨c153, H⟩
    ·obtain ⟨g154, H⟩ := oI H
     obtain ⟨g155, H⟩ := oI H
     obtain ⟨v156, h157, H⟩ := oB H
     refine xn (rg 4 true ([.no] ++ rg 5 true ([.no] ++ rg 2 true ([.res (cI v156)] ++ rg 2 true [])))) [] [(34, cB (decide (v156 < 0)))] [] [] (fun t => aG 4 c153 (aI g154 (aI c153 (aI (nat_lt g154) (aI rN (aG 4 c153 (aI g155 (aI c153 (aI (nat_lt g155) (aI rN (aI c153 (aI (hf3 (x146.2.getD x146.1.toNat zTUnit) (x146.2.getD ((W (x146.1 - 1)).toNat) zTUnit) v156 h157) (aI trivial (aI rN (aG 2 c153 (t)))))))))))))))) ?_
     rcases oC H with ⟨c158, H⟩ | ⟨c158, H⟩
     ·refine it c158 ?_
      refine sk ?_
      refine seq_in ?_
      refine ends_blk ?_
      obtain ⟨l159, h160, H⟩ := oB H
      obtain ⟨l161, h162, H⟩ := oB H
      refine ox [.no, .no, .no, .fn 0 (fF eTUnit zTUnit l159), .no, .fn 0 (fF eTUnit zTUnit l161)] [] [(0, ow 1000000 4 x146.2), (1, cI p1), (2, cI p2), (3, .c (.clo cf3 [])), (8, cI x110.1), (9, cI x146.1)] [(1000000, .arr 4 x146.2.length (fF eTUnit zTUnit l161) false)] (fun t => aI g155 (aI (nat_lt g155) (aI rN (aI g154 (aI (nat_lt g154) (aI rN (aI g154 (aI rT (aI (nat_lt g154) (aI (by decide : 0 + 4 ≤ 4) (aI (fF_setN eTUnit zTUnit h160 (nat_lt g154) x146.2.length) (aI g155 (aI rT (aI (nat_lt g155) (aI (by decide : 0 + 4 ≤ 4) (aI (fF_setN eTUnit zTUnit h162 (ltN h160 (nat_lt g155)) x146.2.length) (t))))))))))))))))) ?_
      change EndsI _ _ _ _ _ _
      refine oo [] [.rel 0 l161.length, .rep 1000000 l161.length (fF eTUnit zTUnit l161)] [(0, ow 1000000 4 l161), (1, cI p1), (2, cI p2), (3, .c (.clo cf3 [])), (8, cI x110.1), (9, cI (W (x146.1 - 1)))] [(1000000, ar 4 eTUnit zTUnit l161)] (fun t => aI (by simp [lenN h162, lenN h160] : x146.2.length = l161.length) (aI (Nat.le_of_eq (by simp [lenN h162, lenN h160] : l161.length = x146.2.length)) (aI (fun _ _ => rfl : ∀ i, i < l161.length → (fF eTUnit zTUnit l161) i = (fF eTUnit zTUnit l161) i) (t)))) ?_
      cases H
      exact rr
     ·refine jf c158 ?_
      refine tl [] [(0, ow 1000000 4 x146.2), (1, cI p1), (2, cI p2), (3, .c (.clo cf3 [])), (8, cI x110.1)] [(1000000, ar 4 eTUnit zTUnit x146.2)] id ?_
      refine ends_exit ?_
      cases H
      exact rse
    ·refine xn (rg 13 false []) [] [(34, cB false)] [] [] (fun t => aG 13 c153 (t)) ?_
     refine jf rF ?_
     refine tl [] [(0, ow 1000000 4 x146.2), (1, cI p1), (2, cI p2), (3, .c (.clo cf3 [])), (8, cI x110.1)] [(1000000, ar 4 eTUnit zTUnit x146.2)] id ?_
     refine ends_exit ?_
     cases H
     exact rse
   ·clear h164
    rintro e s ⟨rfl, rfl⟩
    change EndsI _ _ _ _ _ _
    refine oo [] [] [(0, ow 1000000 4 y163), (1, cI p1), (2, cI p2), (3, .c (.clo cf3 [])), (8, cI (W (x110.1 + 1)))] [(1000000, ar 4 eTUnit zTUnit y163)] id ?_
    cases H
    exact rr
  ·refine jf c112 ?_
   refine tl [] [] [(1000000, ar 4 eTUnit zTUnit x110.2)] id ?_
   refine ends_exit ?_
   cases H
   exact rse
 ·clear h166
  rintro e s ⟨rfl, rfl⟩
  cases H
  exact qn
def g_pdqsortCmpFunc_Unit_ir : S :=
 (sq [o 10 (.mv bT)]
 (sq [o 11 (.mv bT)]
 (.blk 0 (.loop (.blk 1 (sq [om 21 2, om 22 1, o 23 (.bin .sub (.t 21) (.t 22)), om 12 23]
    (.seq (sq [om 24 12, o 25 (.bin .leq (.t 24) (iv 12))]
    (.ite (.t 25) (sq [om 26 0, om 27 1, om 28 2, om 29 4, o 30 (.call 210 [.t 26, .t 27, .t 28, .t 29])]
     .ret)
    .skip))
    (.seq (sq [om 31 3, o 32 (.bin .eql (.t 31) (iv 0))]
    (.ite (.t 32) (sq [om 33 0, om 34 1, om 35 2, om 36 4, o 37 (.call 211 [.t 33, .t 34, .t 35, .t 36])]
     .ret)
    .skip))
    (.seq (sq [om 38 10, o 39 (.not (.t 38))]
    (.ite (.t 39) (sq [om 40 0, om 41 1, om 42 2, om 43 4, o 44 (.call 212 [.t 40, .t 41, .t 42, .t 43])]
     (.ops [om 45 3, o 46 (.bin .sub (.t 45) (iv 1)), om 3 46]))
    .skip))
    (sq [om 48 0, om 49 1, om 50 2, om 51 4, o 52 (.call 213 [.t 48, .t 49, .t 50, .t 51]), om 47 52, o 53 (.ext (.t 47) 0), o 54 (.ext (.t 47) 1), om 13 53, om 14 54]
    (.seq (sq [om 55 14, o 56 (.bin .eql (.t 55) (iv 2))]
    (.ite (.t 56) (sq [om 57 0, om 58 1, om 59 2, om 60 4, o 61 (.call 214 [.t 57, .t 58, .t 59, .t 60])]
     (sq [om 62 2, o 63 (.bin .sub (.t 62) (iv 1)), om 64 13, om 65 1, o 66 (.bin .sub (.t 64) (.t 65)), o 67 (.bin .sub (.t 63) (.t 66)), om 13 67]
     (.ops [o 14 (.mv (iv 1))])))
    .skip))
    (.seq (sq [om 68 10, om 69 68, oh 70 (.mv (.t 11)) 69, o 71 (.pick (.t 69) (.t 70) bF), om 72 71, oh 73 (.mv (.t 14)) 72, oh 74 (.bin .eql (.t 73) (iv 1)) 72, o 75 (.pick (.t 72) (.t 74) bF)]
    (.ite (.t 75) (sq [om 76 0, om 77 1, om 78 2, om 79 4, o 80 (.call 215 [.t 76, .t 77, .t 78, .t 79])]
     (.ite (.t 80) .ret
     .skip))
    .skip))
    (.seq (.seq (.drw [(3, 4), (3, 5), (4, 5), (3, 6), (4, 6), (3, 7), (3, 8), (3, 9), (4, 9), (5, 9), (6, 9), (7, 9), (8, 9), (3, 10), (4, 10), (5, 10), (6, 10), (7, 10), (8, 10), (9, 10), (3, 11), (4, 11), (5, 11), (6, 11), (7, 11), (8, 11), (3, 12), (4, 12), (5, 12), (6, 12), (7, 12), (8, 12)] [om 81 1, o 82 (.bin .gtr (.t 81) (iv 0)), om 83 82, oh 84 (.mv (.t 4)) 83, oh 85 (.mv (.t 0)) 83, oh 86 (.mv (.t 1)) 83, oh 87 (.bin .sub (.t 86) (iv 1)) 83, oh 88 (.iad 4 (.t 85) (.t 87)) 83, oh 89 (.load 4 true (.t 88)) 83, oh 90 (.mv (.t 0)) 83, oh 91 (.mv (.t 13)) 83, oh 92 (.iad 4 (.t 90) (.t 91)) 83, oh 93 (.load 4 true (.t 92)) 83, oh 94 (.cald (.t 84) [.t 89, .t 93]) 83, oh 95 (.bin .lss (.t 94) (iv 0)) 83, oh 96 (.not (.t 95)) 83, o 97 (.pick (.t 83) (.t 96) bF)])
    (.ite (.t 97) (sq [om 98 0, om 99 1, om 100 2, om 101 13, om 102 4, o 103 (.call 216 [.t 98, .t 99, .t 100, .t 101, .t 102]), om 15 103]
     (sq [om 104 15, om 1 104]
     (.exit 1)))
    .skip))
    (sq [om 106 0, om 107 1, om 108 2, om 109 13, om 110 4, o 111 (.call 217 [.t 106, .t 107, .t 108, .t 109, .t 110]), om 105 111, o 112 (.ext (.t 105) 0), o 113 (.ext (.t 105) 1), om 16 112, om 17 113]
    (sq [om 114 17, om 11 114]
    (sq [om 115 16, om 116 1, o 117 (.bin .sub (.t 115) (.t 116)), om 118 2, om 119 16, o 120 (.bin .sub (.t 118) (.t 119)), om 18 117, om 19 120]
    (sq [om 121 12, o 122 (.bin .quo (.t 121) (iv 8)), om 20 122]
    (sq [om 123 18, om 124 19, o 125 (.bin .lss (.t 123) (.t 124))]
    (.ite (.t 125) (sq [om 126 18, om 127 20, o 128 (.bin .geq (.t 126) (.t 127)), om 10 128]
     (sq [om 129 0, om 130 1, om 131 16, om 132 3, om 133 4, o 134 (.call 171 [.t 129, .t 130, .t 131, .t 132, .t 133])]
     (.ops [om 135 16, o 136 (.bin .add (.t 135) (iv 1)), om 1 136])))
    (sq [om 137 19, om 138 20, o 139 (.bin .geq (.t 137) (.t 138)), om 10 139]
     (sq [om 140 0, om 141 16, o 142 (.bin .add (.t 141) (iv 1)), om 143 2, om 144 3, om 145 4, o 146 (.call 171 [.t 140, .t 142, .t 143, .t 144, .t 145])]
     (.ops [om 147 16, om 2 147]))))))))))))))))))))))
noncomputable def X.g_pdqsortCmpFunc_Unit_Modddf (p0 : (List TUnit)) (p1 : Int) (p2 : Int) (p3 : Int) (f4 : TUnit → TUnit → Option Int) : Option (List TUnit) :=
 ((loop (fun (x12 : Unit) => ((bif (decide ((W (p2 - p1)) ≤ 12)) then ((X.g_insertionSortCmpFunc_Unit_Moddf p0 p1 p2 f4).bind fun v18 => (if v18.length = p0.length then some (Sum.inr v18) else none)) else (bif (p3 == 0) then none else none)) : Option (Unit ⊕ (List TUnit)))) ()).bind fun y23 => some y23)
theorem g_pdqsortCmpFunc_Unit_Modddf_c0_ok (p0 : (List TUnit)) (p1 : Int) (p2 : Int) (p3 : Int) (cf4 : FuncId) (f4 : TUnit → TUnit → Option Int) (hf4 : ∀ q0 q1 r, f4 q0 q1 = some r → FK cf4 [.agg (eTUnit q0), .agg (eTUnit q1)] (cI r)) (r : (List TUnit)) (H : X.g_pdqsortCmpFunc_Unit_Modddf p0 p1 p2 p3 f4 = some r) : FnMu Tryz.prog gl 171 [.c (.own 1000000 4 0 p0.length), cI p1, cI p2, cI p3, .c (.clo cf4 [])] [(1000000, .arr 4 p0.length (fF eTUnit zTUnit p0) false)] (.tup []) [(1000000, .arr 4 r.length (fF eTUnit zTUnit r) false)] := by
 unfold X.g_pdqsortCmpFunc_Unit_Modddf at H
 refine fn_mu (fn := Tryz.f171) (ir := g_pdqsortCmpFunc_Unit_ir) (E' := []) (E1 := [(1000000, ar 4 eTUnit zTUnit r)]) glL Tryz.func171 (by kernel_rfl) (by kernel_rfl) (by kernel_rfl) (by kernel_rfl) (by kernel_rfl) ?_
 refine sn [] [] [(10, cB true)] [] [] id ?_
 refine sn [] [] [(11, cB true)] [] [] id ?_
 refine ends_blk ?_
 obtain ⟨y23, h24, H⟩ := oB H
 refine tl [] [(0, ow 1000000 4 p0), (1, cI p1), (2, cI p2), (3, cI p3), (4, .c (.clo cf4 [])), (10, cB true), (11, cB true)] [(1000000, ar 4 eTUnit zTUnit p0)] id ?_
 refine loop_in (fun (x : Unit) => lit [(0, ow 1000000 4 p0), (1, cI p1), (2, cI p2), (3, cI p3), (4, .c (.clo cf4 [])), (10, cB true), (11, cB true)] [(1000000, ar 4 eTUnit zTUnit p0)]) (fun (z : (List TUnit)) => At .ret (lit [] [(1000000, ar 4 eTUnit zTUnit z)])) h24 ?_ ?_
 ·clear H h24
  intro x12 y0 H
  refine ends_blk ?_
  refine sn [] [] [(12, cI (W (p2 - p1)))] [] [] id ?_
  refine seq_in ?_
  refine sn [] [] [(25, cB (decide ((W (p2 - p1)) ≤ 12)))] [] [] id ?_
  rcases oC H with ⟨c17, H⟩ | ⟨c17, H⟩
  ·refine it c17 ?_
   obtain ⟨v18, h19, H⟩ := oB H
   obtain ⟨g20, H⟩ := oI H
   refine so [.mu [(1000000, 1000000)] [(1000000, 1000000)] (.tup []) [(1000000, ar 4 eTUnit zTUnit v18)]] [.rel 0 v18.length, .rel 26 v18.length] [] [(1000000, ar 4 eTUnit zTUnit v18)] (fun t => aI (g_insertionSortCmpFunc_Unit_Moddf_c0_ok p0 p1 p2 (cf4) f4 hf4 v18 h19) (aG 2 (Eq.symm g20) (t))) ?_
   refine ends_ret ?_
   cases H
   exact rsr
  ·refine jf c17 ?_
   refine sk ?_
   refine seq_in ?_
   refine sn [] [] [(32, cB (p3 == 0))] [] [] id ?_
   rcases oC H with ⟨c22, H⟩ | ⟨c22, H⟩
   ·refine it c22 ?_
    cases H
   ·refine jf c22 ?_
    refine sk ?_
    refine seq_in ?_
    refine sn [] [] [(39, cB false)] [] [] id ?_
    refine jf rF ?_
    refine sk ?_
    cases H
 ·clear h24
  rintro e s ⟨rfl, rfl⟩
  cases H
  exact qr
def x_math_bits_Len64_ir : S :=
 (sq [o 2 (.mv (iv 0))]
 (.seq (sq [om 3 0, o 4 (.bin .geq (.t 3) (.v (.int .u64 4294967296)))]
 (.ite (.t 4) (sq [om 5 0, o 6 (.bin .shr (.t 5) (.v (.int .u64 32))), om 0 6]
  (.ops [o 2 (.mv (iv 32))]))
 .skip))
 (.seq (sq [om 7 0, o 8 (.bin .geq (.t 7) (.v (.int .u64 65536)))]
 (.ite (.t 8) (sq [om 9 0, o 10 (.bin .shr (.t 9) (.v (.int .u64 16))), om 0 10]
  (.ops [om 11 2, o 12 (.bin .add (.t 11) (iv 16)), om 2 12]))
 .skip))
 (.seq (sq [om 13 0, o 14 (.bin .geq (.t 13) (.v (.int .u64 256)))]
 (.ite (.t 14) (sq [om 15 0, o 16 (.bin .shr (.t 15) (.v (.int .u64 8))), om 0 16]
  (.ops [om 17 2, o 18 (.bin .add (.t 17) (iv 8)), om 2 18]))
 .skip))
 (sq [om 19 2, om 20 0, o 21 (.conv .u8 (.t 20)), o 22 (.ixs (.v (.str [0, 1, 2, 2, 3, 3, 3, 3, 4, 4, 4, 4, 4, 4, 4, 4, 5, 5, 5, 5, 5, 5, 5, 5, 5, 5, 5, 5, 5, 5, 5, 5, 6, 6, 6, 6, 6, 6, 6, 6, 6, 6, 6, 6, 6, 6, 6, 6, 6, 6, 6, 6, 6, 6, 6, 6, 6, 6, 6, 6, 6, 6, 6, 6, 7, 7, 7, 7, 7, 7, 7, 7, 7, 7, 7, 7, 7, 7, 7, 7, 7, 7, 7, 7, 7, 7, 7, 7, 7, 7, 7, 7, 7, 7, 7, 7, 7, 7, 7, 7, 7, 7, 7, 7, 7, 7, 7, 7, 7, 7, 7, 7, 7, 7, 7, 7, 7, 7, 7, 7, 7, 7, 7, 7, 7, 7, 7, 7, 8, 8, 8, 8, 8, 8, 8, 8, 8, 8, 8, 8, 8, 8, 8, 8, 8, 8, 8, 8, 8, 8, 8, 8, 8, 8, 8, 8, 8, 8, 8, 8, 8, 8, 8, 8, 8, 8, 8, 8, 8, 8, 8, 8, 8, 8, 8, 8, 8, 8, 8, 8, 8, 8, 8, 8, 8, 8, 8, 8, 8, 8, 8, 8, 8, 8, 8, 8, 8, 8, 8, 8, 8, 8, 8, 8, 8, 8, 8, 8, 8, 8, 8, 8, 8, 8, 8, 8, 8, 8, 8, 8, 8, 8, 8, 8, 8, 8, 8, 8, 8, 8, 8, 8, 8, 8, 8, 8, 8, 8, 8, 8, 8, 8, 8, 8, 8, 8, 8, 8, 8, 8, 8, 8, 8, 8, 8, 8])) (.t 21)), o 23 (.conv .i64 (.t 22)), o 24 (.bin .add (.t 19) (.t 23)), om 2 24]
 .ret)))))
noncomputable def X.x_math_bits_Len64 (p0 : Int) : Option Int :=
 (bif (decide (p0 ≥ 4294967296)) then none else (bif (decide (p0 ≥ 65536)) then none else (bif (decide (p0 ≥ 256)) then none else (if 0 ≤ (IntKind.u8.wrap p0) ∧ (IntKind.u8.wrap p0) < (([0, 1, 2, 2, 3, 3, 3, 3, 4, 4, 4, 4, 4, 4, 4, 4, 5, 5, 5, 5, 5, 5, 5, 5, 5, 5, 5, 5, 5, 5, 5, 5, 6, 6, 6, 6, 6, 6, 6, 6, 6, 6, 6, 6, 6, 6, 6, 6, 6, 6, 6, 6, 6, 6, 6, 6, 6, 6, 6, 6, 6, 6, 6, 6, 7, 7, 7, 7, 7, 7, 7, 7, 7, 7, 7, 7, 7, 7, 7, 7, 7, 7, 7, 7, 7, 7, 7, 7, 7, 7, 7, 7, 7, 7, 7, 7, 7, 7, 7, 7, 7, 7, 7, 7, 7, 7, 7, 7, 7, 7, 7, 7, 7, 7, 7, 7, 7, 7, 7, 7, 7, 7, 7, 7, 7, 7, 7, 7, 8, 8, 8, 8, 8, 8, 8, 8, 8, 8, 8, 8, 8, 8, 8, 8, 8, 8, 8, 8, 8, 8, 8, 8, 8, 8, 8, 8, 8, 8, 8, 8, 8, 8, 8, 8, 8, 8, 8, 8, 8, 8, 8, 8, 8, 8, 8, 8, 8, 8, 8, 8, 8, 8, 8, 8, 8, 8, 8, 8, 8, 8, 8, 8, 8, 8, 8, 8, 8, 8, 8, 8, 8, 8, 8, 8, 8, 8, 8, 8, 8, 8, 8, 8, 8, 8, 8, 8, 8, 8, 8, 8, 8, 8, 8, 8, 8, 8, 8, 8, 8, 8, 8, 8, 8, 8, 8, 8, 8, 8, 8, 8, 8, 8, 8, 8, 8, 8, 8, 8, 8, 8, 8, 8, 8, 8, 8, 8] : List UInt8).length : Int) then some (W (0 + (W (((([0, 1, 2, 2, 3, 3, 3, 3, 4, 4, 4, 4, 4, 4, 4, 4, 5, 5, 5, 5, 5, 5, 5, 5, 5, 5, 5, 5, 5, 5, 5, 5, 6, 6, 6, 6, 6, 6, 6, 6, 6, 6, 6, 6, 6, 6, 6, 6, 6, 6, 6, 6, 6, 6, 6, 6, 6, 6, 6, 6, 6, 6, 6, 6, 7, 7, 7, 7, 7, 7, 7, 7, 7, 7, 7, 7, 7, 7, 7, 7, 7, 7, 7, 7, 7, 7, 7, 7, 7, 7, 7, 7, 7, 7, 7, 7, 7, 7, 7, 7, 7, 7, 7, 7, 7, 7, 7, 7, 7, 7, 7, 7, 7, 7, 7, 7, 7, 7, 7, 7, 7, 7, 7, 7, 7, 7, 7, 7, 8, 8, 8, 8, 8, 8, 8, 8, 8, 8, 8, 8, 8, 8, 8, 8, 8, 8, 8, 8, 8, 8, 8, 8, 8, 8, 8, 8, 8, 8, 8, 8, 8, 8, 8, 8, 8, 8, 8, 8, 8, 8, 8, 8, 8, 8, 8, 8, 8, 8, 8, 8, 8, 8, 8, 8, 8, 8, 8, 8, 8, 8, 8, 8, 8, 8, 8, 8, 8, 8, 8, 8, 8, 8, 8, 8, 8, 8, 8, 8, 8, 8, 8, 8, 8, 8, 8, 8, 8, 8, 8, 8, 8, 8, 8, 8, 8, 8, 8, 8, 8, 8, 8, 8, 8, 8, 8, 8, 8, 8, 8, 8, 8, 8, 8, 8, 8, 8, 8, 8, 8, 8, 8, 8, 8, 8, 8, 8] : List UInt8).getD (IntKind.u8.wrap p0).toNat 0).toNat : Nat) : Int)))) else none))))
theorem x_math_bits_Len64_ok (p0 : Int) (r : Int) (H : X.x_math_bits_Len64 p0 = some r) : FK 219 [.c (.int .u64 p0)] (cI r) := by
 unfold X.x_math_bits_Len64 at H
 refine fi Tryz.f219 x_math_bits_Len64_ir [(2, cI r)] [] glL Tryz.func219 ?_
 refine sn [] [] [(2, cI 0)] [] [] id ?_
 refine seq_in ?_
 refine sn [] [] [(4, cB (decide (p0 ≥ 4294967296)))] [] [] id ?_
 rcases oC H with ⟨c2, H⟩ | ⟨c2, H⟩
 ·refine it c2 ?_
  cases H
 ·refine jf c2 ?_
  refine sk ?_
  refine seq_in ?_
  refine sn [] [] [(8, cB (decide (p0 ≥ 65536)))] [] [] id ?_
  rcases oC H with ⟨c4, H⟩ | ⟨c4, H⟩
  ·refine it c4 ?_
   cases H
  ·refine jf c4 ?_
   refine sk ?_
   refine seq_in ?_
   refine sn [] [] [(14, cB (decide (p0 ≥ 256)))] [] [] id ?_
   rcases oC H with ⟨c6, H⟩ | ⟨c6, H⟩
   ·refine it c6 ?_
    cases H
   ·refine jf c6 ?_
    refine sk ?_
    obtain ⟨g7, H⟩ := oI H
    refine so [] [] [(2, cI (W (0 + (W (((([0, 1, 2, 2, 3, 3, 3, 3, 4, 4, 4, 4, 4, 4, 4, 4, 5, 5, 5, 5, 5, 5, 5, 5, 5, 5, 5, 5, 5, 5, 5, 5, 6, 6, 6, 6, 6, 6, 6, 6, 6, 6, 6, 6, 6, 6, 6, 6, 6, 6, 6, 6, 6, 6, 6, 6, 6, 6, 6, 6, 6, 6, 6, 6, 7, 7, 7, 7, 7, 7, 7, 7, 7, 7, 7, 7, 7, 7, 7, 7, 7, 7, 7, 7, 7, 7, 7, 7, 7, 7, 7, 7, 7, 7, 7, 7, 7, 7, 7, 7, 7, 7, 7, 7, 7, 7, 7, 7, 7, 7, 7, 7, 7, 7, 7, 7, 7, 7, 7, 7, 7, 7, 7, 7, 7, 7, 7, 7, 8, 8, 8, 8, 8, 8, 8, 8, 8, 8, 8, 8, 8, 8, 8, 8, 8, 8, 8, 8, 8, 8, 8, 8, 8, 8, 8, 8, 8, 8, 8, 8, 8, 8, 8, 8, 8, 8, 8, 8, 8, 8, 8, 8, 8, 8, 8, 8, 8, 8, 8, 8, 8, 8, 8, 8, 8, 8, 8, 8, 8, 8, 8, 8, 8, 8, 8, 8, 8, 8, 8, 8, 8, 8, 8, 8, 8, 8, 8, 8, 8, 8, 8, 8, 8, 8, 8, 8, 8, 8, 8, 8, 8, 8, 8, 8, 8, 8, 8, 8, 8, 8, 8, 8, 8, 8, 8, 8, 8, 8, 8, 8, 8, 8, 8, 8, 8, 8, 8, 8, 8, 8, 8, 8, 8, 8, 8, 8] : List UInt8).getD (IntKind.u8.wrap p0).toNat 0).toNat : Nat) : Int)))))] [] (fun t => aI g7 (t)) ?_
    cases H
    exact er
def x_math_bits_Len_ir : S :=
 (sq [o 2 (.mv (iv 0))]
 (.seq (.ite bF (sq [om 3 0, o 4 (.conv .u32 (.t 3)), o 5 (.call 218 [.t 4]), om 2 5]
  .ret)
 .skip)
 (sq [om 6 0, o 7 (.call 219 [.t 6]), om 2 7]
 .ret)))
noncomputable def X.x_math_bits_Len (p0 : Int) : Option Int :=
 ((X.x_math_bits_Len64 p0).bind fun v1 => some v1)
theorem x_math_bits_Len_ok (p0 : Int) (r : Int) (H : X.x_math_bits_Len p0 = some r) : FK 172 [.c (.int .u64 p0)] (cI r) := by
 unfold X.x_math_bits_Len at H
 refine fi Tryz.f172 x_math_bits_Len_ir [(2, cI r)] [] glL Tryz.func172 ?_
 refine sn [] [] [] [] [] id ?_
 refine seq_in ?_
 refine jf rF ?_
 refine sk ?_
 obtain ⟨v1, h2, H⟩ := oB H
 refine so [.res (cI v1)] [] [(2, cI v1)] [] (aI (x_math_bits_Len64_ok p0 v1 h2)) ?_
 cases H
 exact er
def g_SortFunc_Unit_ir : S :=
 (sq [om 5 0, o 6 (.len (.t 5)), om 4 6]
 (.ops [om 7 0, om 8 4, om 9 4, o 10 (.conv .u64 (.t 9)), o 11 (.call 172 [.t 10]), om 12 1, o 13 (.call 171 [.t 7, .v (.int .i64 0), .t 8, .t 11, .t 12])]))
noncomputable def X.g_SortFunc_Unit_Mof (p0 : (List TUnit)) (f1 : TUnit → TUnit → Option Int) : Option (List TUnit) :=
 ((X.x_math_bits_Len (IntKind.u64.wrap (p0.length : Int))).bind fun v1 => ((X.g_pdqsortCmpFunc_Unit_Modddf p0 0 (p0.length : Int) v1 f1).bind fun v3 => (if v3.length = p0.length then some v3 else none)))
theorem g_SortFunc_Unit_Mof_c0_ok (p0 : (List TUnit)) (cf1 : FuncId) (f1 : TUnit → TUnit → Option Int) (hf1 : ∀ q0 q1 r, f1 q0 q1 = some r → FK cf1 [.agg (eTUnit q0), .agg (eTUnit q1)] (cI r)) (r : (List TUnit)) (H : X.g_SortFunc_Unit_Mof p0 f1 = some r) : FnMu Tryz.prog gl 127 [.c (.own 1000000 4 0 p0.length), .c (.clo cf1 [])] [(1000000, .arr 4 p0.length (fF eTUnit zTUnit p0) false)] (.tup []) [(1000000, .arr 4 r.length (fF eTUnit zTUnit r) false)] := by
 unfold X.g_SortFunc_Unit_Mof at H
 refine fn_mu (fn := Tryz.f127) (ir := g_SortFunc_Unit_ir) (E' := []) (E1 := [(1000000, ar 4 eTUnit zTUnit r)]) glL Tryz.func127 (by kernel_rfl) (by kernel_rfl) (by kernel_rfl) (by kernel_rfl) (by kernel_rfl) ?_
 refine sn [] [] [(4, cL p0)] [] [] (fun t => lI p0 (t)) ?_
 obtain ⟨v1, h2, H⟩ := oB H
 obtain ⟨v3, h4, H⟩ := oB H
 obtain ⟨g5, H⟩ := oI H
 refine oo [.res (cI v1), .mu [(1000000, 1000000)] [(1000000, 1000000)] (.tup []) [(1000000, ar 4 eTUnit zTUnit v3)]] [.rel 0 v3.length, .rel 7 v3.length] [] [(1000000, ar 4 eTUnit zTUnit v3)] (fun t => aI (x_math_bits_Len_ok (IntKind.u64.wrap (p0.length : Int)) v1 h2) (aI (g_pdqsortCmpFunc_Unit_Modddf_c0_ok p0 0 (p0.length : Int) v1 (cf1) f1 hf1 v3 h4) (aG 2 (Eq.symm g5) (t)))) ?_
 cases H
 exact qn
def i_viewOf_ir : S :=
 (sq [o 3 (.box 12 (.t 0)), o 4 (.box 3 (.t 1)), o 6 (.alloc [.int .i64 0, .int .i64 0, .int .i64 0, .nil, .nil, .nil])]
 (.seq (.drw [(0, 1), (0, 2), (0, 3), (1, 3), (2, 3), (0, 4), (1, 4), (2, 4), (0, 5), (1, 5), (2, 5), (3, 5), (4, 5), (0, 6), (1, 6), (2, 6), (3, 6), (4, 6), (5, 6), (0, 7), (1, 7), (2, 7), (3, 7), (4, 7), (5, 7), (6, 7), (0, 8), (1, 8), (2, 8), (3, 8), (4, 8), (0, 10), (1, 10), (2, 10), (3, 10), (4, 10), (5, 10), (6, 10), (7, 10), (8, 10), (9, 10)] [om 10 2, oa 11 0 4, ol 12 11, oa 13 1 4, ol 14 13, o 15 (.load 12 true (.t 3)), o 16 (.load 3 true (.t 4)), om 17 2, o 18 (.call 126 [.t 15, .t 16, .t 17]), o 19 (.build [.int .i64 0, .int .i64 0, .int .i64 0, .nil, .nil, .nil] [(0, 1, .t 10), (1, 1, .t 12), (2, 1, .t 14), (3, 1, .t 18)]), o 7 (.alloc [.int .i64 0, .int .i64 0, .int .i64 0, .nil, .nil, .nil]), os 6 7 19])
 (.seq (sq [oa 20 2 4, ol 21 20, o 22 (.len (.t 21)), o 23 (.mv (iv 0))]
 (.blk 0 (.loop (sq [o 24 (.bin .lss (.t 23) (.t 22))]
   (.seq (.ite (.t 24) .skip
   (.exit 0))
   (.seq (.blk 1 (sq [o 25 (.iad 4 (.t 21) (.t 23)), o 26 (.load 4 true (.t 25)), o 9 (.alloc [.int .i64 0, .int .i64 0, .int .i64 0, .int .i64 0]), os 4 9 26]
    (sq [oa 27 0 9, ol 28 27, om 29 2, o 30 (.bin .eql (.t 28) (.t 29))]
    (.ite (.t 30) (.ops [oa 31 4 7, ol 32 31, o 33 (.load 4 true (.t 9)), o 34 (.bsl 4 [.t 33]), o 35 (.app 4 32 (.t 32) (.t 34)), oa 36 4 7, os 1 36 35])
    (sq [oa 37 2 9, ol 38 37, o 39 (.bin .geq (.t 38) (iv 0)), om 40 39, oh 41 (.fad 3 (.t 7)) 40, oh 42 (.load 1 false (.t 41)) 40, oh 43 (.fad 2 (.t 9)) 40, oh 44 (.load 1 false (.t 43)) 40, oh 45 (.call 105 [.t 42, .t 44]) 40, o 46 (.pick (.t 40) (.t 45) bF)]
     (.ite (.t 46) (.ops [oa 47 5 7, ol 48 47, o 49 (.load 4 true (.t 9)), o 50 (.bsl 4 [.t 49]), o 51 (.app 4 32 (.t 48) (.t 50)), oa 52 5 7, os 1 52 51])
     .skip))))))
   (.ops [o 53 (.bin .add (.t 23) (iv 1)), om 23 53])))))))
 (sq [oa 54 5 7, ol 55 54, o 56 (.call 127 [.t 55, .f 107])]
 (sq [o 57 (.load 6 true (.t 7)), os 6 6 57]
 .ret)))))
noncomputable def X.i_viewOf (p0 : TBoard) (p1 : TState) (p2 : Int) : Option TView :=
 ((X.i_seenHexes p0 p1 p2).bind fun v1 => ((loop (fun (x26 : (Int × (List TUnit) × (List TUnit))) => ((bif (decide (x26.1 < (p1.Units.length : Int))) then ((at' zTUnit p1.Units x26.1).bind fun v29 => (bif (v29.Side == p2) then (if (x26.2.1 ++ ([v29] : List TUnit)).length ≤ LIM then some (Sum.inl ((W (x26.1 + 1)), (x26.2.1 ++ ([v29] : List TUnit)), x26.2.2)) else none) else (bif (decide (v29.At ≥ 0)) then ((X.g_Contains_int v1 v29.At).bind fun v34 => (bif v34 then (if (x26.2.2 ++ ([v29] : List TUnit)).length ≤ LIM then some (Sum.inl ((W (x26.1 + 1)), x26.2.1, (x26.2.2 ++ ([v29] : List TUnit)))) else none) else some (Sum.inl ((W (x26.1 + 1)), x26.2.1, x26.2.2)))) else some (Sum.inl ((W (x26.1 + 1)), x26.2.1, x26.2.2))))) else some (Sum.inr (x26.2.1, x26.2.2))) : Option ((Int × (List TUnit) × (List TUnit)) ⊕ ((List TUnit) × (List TUnit))))) (0, ([] : List TUnit), ([] : List TUnit))).bind fun y38 => ((X.g_SortFunc_Unit_Mof y38.2 (fun q0 q1 => X.i_compareUnits q0 q1)).bind fun v40 => (if v40.length = y38.2.length then some (TView.mk p2 p1.Turn p1.Weather v1 y38.1 v40) else none))))
theorem i_viewOf_ok (p0 : TBoard) (p1 : TState) (p2 : Int) (r : TView) (H : X.i_viewOf p0 p1 p2 = some r) : FK 64 [.agg (eTBoard p0), .agg (eTState p1), cI p2] (.agg (eTView r)) := by
 unfold X.i_viewOf at H
 refine fi Tryz.f64 i_viewOf_ir [(6, pk 6)] [(6, va (eTView r))] glL Tryz.func64 ?_
 refine sn [] [] [(3, pk 3), (4, pk 4), (6, pk 6)] [] [(3, va (eTBoard p0)), (4, va (eTState p1)), (6, .var [jI 0, jI 0, jI 0, .nil, .nil, .nil] false)] id ?_
 obtain ⟨v1, h2, H⟩ := oB H
 refine xn [.res (dc 1 eI zI v1)] [] [(7, pk 7)] [] [(7, .var [jI p2, jI p1.Turn, jI p1.Weather, dat 1 eI zI v1, .nil, .nil] false)] (fun t => aI (i_seenHexes_ok p0 p1 p2 v1 h2) (aG 2 rN (t))) ?_
 refine seq_in ?_
 refine sn [] [] [(21, dc 4 eTUnit zTUnit p1.Units), (22, cL p1.Units), (23, cI 0)] [3] [] (fun t => lI p1.Units (t)) ?_
 refine ends_blk ?_
 obtain ⟨y38, h39, H⟩ := oB H
 refine tl [.nloc 7 4 1001 4 (fF eTUnit zTUnit ([] : List TUnit)), .nloc 7 5 1002 4 (fF eTUnit zTUnit ([] : List TUnit))] [(2, cI p2), (6, pk 6), (7, pk 7), (21, dc 4 eTUnit zTUnit p1.Units), (22, cL p1.Units), (23, cI 0)] [(6, .var [jI 0, jI 0, jI 0, .nil, .nil, .nil] false), (7, .var [jI p2, jI p1.Turn, jI p1.Weather, dat 1 eI zI v1, .own 1001 4 0 (([] : List TUnit).length), .own 1002 4 0 (([] : List TUnit).length)] false), (1001, ar 4 eTUnit zTUnit ([] : List TUnit)), (1002, ar 4 eTUnit zTUnit ([] : List TUnit))] (fun t => aG 2 (by decide : 0 < 4) (t)) ?_
 refine loop_in (fun (x : (Int × (List TUnit) × (List TUnit))) => lit [(2, cI p2), (6, pk 6), (7, pk 7), (21, dc 4 eTUnit zTUnit p1.Units), (22, cL p1.Units), (23, cI x.1)] [(6, .var [jI 0, jI 0, jI 0, .nil, .nil, .nil] false), (7, .var [jI p2, jI p1.Turn, jI p1.Weather, dat 1 eI zI v1, .own 1001 4 0 x.2.1.length, .own 1002 4 0 x.2.2.length] false), (1001, ar 4 eTUnit zTUnit x.2.1), (1002, ar 4 eTUnit zTUnit x.2.2)]) (fun (z : ((List TUnit) × (List TUnit))) => At (.exit 0) (lit [(6, pk 6), (7, pk 7)] [(6, .var [jI 0, jI 0, jI 0, .nil, .nil, .nil] false), (7, .var [jI p2, jI p1.Turn, jI p1.Weather, dat 1 eI zI v1, .own 1001 4 0 z.1.length, .own 1002 4 0 z.2.length] false), (1001, ar 4 eTUnit zTUnit z.1), (1002, ar 4 eTUnit zTUnit z.2)])) h39 ?_ ?_
 ·clear H h39
  intro x26 y0 H
  refine sn [] [] [(24, cB (decide (x26.1 < (p1.Units.length : Int))))] [] [] id ?_
  refine seq_in ?_
  rcases oC H with ⟨c28, H⟩ | ⟨c28, H⟩
  ·refine it c28 ?_
   refine sk ?_
   refine seq_in ?_
   refine ends_blk ?_
   obtain ⟨v29, h30, H⟩ := oB H
   refine sn [.cs (eTUnit v29)] [] [(9, pk 9)] [] [(9, va (eTUnit v29))] (a2 eTUnit h30) ?_
   refine sn [] [] [(30, cB (v29.Side == p2))] [] [] id ?_
   rcases oC H with ⟨c31, H⟩ | ⟨c31, H⟩
   ·refine it c31 ?_
    obtain ⟨g32, H⟩ := oI H
    refine oo [fh eTUnit zTUnit ([v29] : List TUnit), fh eTUnit zTUnit (x26.2.1 ++ ([v29] : List TUnit))] [] [(2, cI p2), (6, pk 6), (7, pk 7), (21, dc 4 eTUnit zTUnit p1.Units), (22, cL p1.Units), (23, cI x26.1)] [(6, .var [jI 0, jI 0, jI 0, .nil, .nil, .nil] false), (7, .var [jI p2, jI p1.Turn, jI p1.Weather, dat 1 eI zI v1, .own 35 4 0 ((x26.2.1 ++ ([v29] : List TUnit)).length), .own 1002 4 0 x26.2.2.length] false), (35, ar 4 eTUnit zTUnit (x26.2.1 ++ ([v29] : List TUnit))), (1002, ar 4 eTUnit zTUnit x26.2.2)] (fun t => aI (rfl : ([v29] : List TUnit).length = 1) (aI (fF_lit eTUnit zTUnit ([v29] : List TUnit)) (aI (And.intro (Nat.le_refl x26.2.1.length) (And.intro (@List.length_append _ x26.2.1 ([v29] : List TUnit)) g32)) (aI (fF_appL eTUnit zTUnit x26.2.1 ([v29] : List TUnit)) (aI (fF_appR eTUnit zTUnit x26.2.1 ([v29] : List TUnit)) (t)))))) ?_
    change EndsI _ _ _ _ _ _
    refine oo [] [.ren 35 1001] [(2, cI p2), (6, pk 6), (7, pk 7), (21, dc 4 eTUnit zTUnit p1.Units), (22, cL p1.Units), (23, cI (W (x26.1 + 1)))] [(6, .var [jI 0, jI 0, jI 0, .nil, .nil, .nil] false), (7, .var [jI p2, jI p1.Turn, jI p1.Weather, dat 1 eI zI v1, .own 1001 4 0 ((x26.2.1 ++ ([v29] : List TUnit)).length), .own 1002 4 0 x26.2.2.length] false), (1001, ar 4 eTUnit zTUnit (x26.2.1 ++ ([v29] : List TUnit))), (1002, ar 4 eTUnit zTUnit x26.2.2)] id ?_
    cases H
    exact rr
   ·refine jf c31 ?_
    rcases oC H with ⟨c33, H⟩ | ⟨c33, H⟩
    ·obtain ⟨v34, h35, H⟩ := oB H
     refine sn (rg 5 true [.res (cB v34), .g true]) [] [(46, cB v34)] [] [] (fun t => aG 5 c33 (aI (g_Contains_int_ok v1 v29.At v34 h35) (aI c33 (t)))) ?_
     rcases oC H with ⟨c36, H⟩ | ⟨c36, H⟩
     ·refine it c36 ?_
      obtain ⟨g37, H⟩ := oI H
      refine oo [fh eTUnit zTUnit ([v29] : List TUnit), fh eTUnit zTUnit (x26.2.2 ++ ([v29] : List TUnit))] [] [(2, cI p2), (6, pk 6), (7, pk 7), (21, dc 4 eTUnit zTUnit p1.Units), (22, cL p1.Units), (23, cI x26.1)] [(6, .var [jI 0, jI 0, jI 0, .nil, .nil, .nil] false), (7, .var [jI p2, jI p1.Turn, jI p1.Weather, dat 1 eI zI v1, .own 1001 4 0 x26.2.1.length, .own 51 4 0 ((x26.2.2 ++ ([v29] : List TUnit)).length)] false), (51, ar 4 eTUnit zTUnit (x26.2.2 ++ ([v29] : List TUnit))), (1001, ar 4 eTUnit zTUnit x26.2.1)] (fun t => aI (rfl : ([v29] : List TUnit).length = 1) (aI (fF_lit eTUnit zTUnit ([v29] : List TUnit)) (aI (And.intro (Nat.le_refl x26.2.2.length) (And.intro (@List.length_append _ x26.2.2 ([v29] : List TUnit)) g37)) (aI (fF_appL eTUnit zTUnit x26.2.2 ([v29] : List TUnit)) (aI (fF_appR eTUnit zTUnit x26.2.2 ([v29] : List TUnit)) (t)))))) ?_
      change EndsI _ _ _ _ _ _
      refine oo [] [.ren 51 1002] [(2, cI p2), (6, pk 6), (7, pk 7), (21, dc 4 eTUnit zTUnit p1.Units), (22, cL p1.Units), (23, cI (W (x26.1 + 1)))] [(6, .var [jI 0, jI 0, jI 0, .nil, .nil, .nil] false), (7, .var [jI p2, jI p1.Turn, jI p1.Weather, dat 1 eI zI v1, .own 1001 4 0 x26.2.1.length, .own 1002 4 0 ((x26.2.2 ++ ([v29] : List TUnit)).length)] false), (1001, ar 4 eTUnit zTUnit x26.2.1), (1002, ar 4 eTUnit zTUnit (x26.2.2 ++ ([v29] : List TUnit)))] id ?_
      cases H
      exact rr
     ·refine jf c36 ?_
      refine sk ?_
      refine oo [] [] [(2, cI p2), (6, pk 6), (7, pk 7), (21, dc 4 eTUnit zTUnit p1.Units), (22, cL p1.Units), (23, cI (W (x26.1 + 1)))] [(6, .var [jI 0, jI 0, jI 0, .nil, .nil, .nil] false), (7, .var [jI p2, jI p1.Turn, jI p1.Weather, dat 1 eI zI v1, .own 1001 4 0 x26.2.1.length, .own 1002 4 0 x26.2.2.length] false), (1001, ar 4 eTUnit zTUnit x26.2.1), (1002, ar 4 eTUnit zTUnit x26.2.2)] id ?_
      cases H
      exact rr
    ·refine sn (rg 6 false []) [] [(46, cB false)] [] [] (fun t => aG 6 c33 (t)) ?_
     refine jf rF ?_
     refine sk ?_
     refine oo [] [] [(2, cI p2), (6, pk 6), (7, pk 7), (21, dc 4 eTUnit zTUnit p1.Units), (22, cL p1.Units), (23, cI (W (x26.1 + 1)))] [(6, .var [jI 0, jI 0, jI 0, .nil, .nil, .nil] false), (7, .var [jI p2, jI p1.Turn, jI p1.Weather, dat 1 eI zI v1, .own 1001 4 0 x26.2.1.length, .own 1002 4 0 x26.2.2.length] false), (1001, ar 4 eTUnit zTUnit x26.2.1), (1002, ar 4 eTUnit zTUnit x26.2.2)] id ?_
     cases H
     exact rr
  ·refine jf c28 ?_
   refine tl [] [(6, pk 6), (7, pk 7)] [(6, .var [jI 0, jI 0, jI 0, .nil, .nil, .nil] false), (7, .var [jI p2, jI p1.Turn, jI p1.Weather, dat 1 eI zI v1, .own 1001 4 0 x26.2.1.length, .own 1002 4 0 x26.2.2.length] false), (1001, ar 4 eTUnit zTUnit x26.2.1), (1002, ar 4 eTUnit zTUnit x26.2.2)] id ?_
   refine ends_exit ?_
   cases H
   exact rse
 ·clear h39
  rintro e s ⟨rfl, rfl⟩
  change EndsI _ _ _ _ _ _
  obtain ⟨v40, h41, H⟩ := oB H
  obtain ⟨g42, H⟩ := oI H
  refine sn [.mu [(1002, 1000000)] [(1000000, 1002)] (.tup []) [(1000000, ar 4 eTUnit zTUnit v40)]] [.rel 55 v40.length, .relc 7 5 v40.length] [] [1002, 7] [(7, .var [jI p2, jI p1.Turn, jI p1.Weather, dat 1 eI zI v1, .own 1001 4 0 y38.1.length, .own 1002 4 0 v40.length] false), (1002, ar 4 eTUnit zTUnit v40)] (fun t => aI (g_SortFunc_Unit_Mof_c0_ok y38.2 (107) (fun q0 q1 => X.i_compareUnits q0 q1) (fun q0 q1 r h => i_compareUnits_ok q0 q1 r h) v40 h41) (aG 2 (Eq.symm g42) (t))) ?_
  refine sn [] [] [] [6] [(6, .var [jI p2, jI p1.Turn, jI p1.Weather, dat 1 eI zI v1, .own 1001 4 0 y38.1.length, .own 1002 4 0 v40.length] false)] id ?_
  refine tl [.frc 6 4, .frc 6 5] [(6, pk 6)] [(6, .var [jI p2, jI p1.Turn, jI p1.Weather, dat 1 eI zI v1, dat 4 eTUnit zTUnit y38.1, dat 4 eTUnit zTUnit v40] false)] (fun t => aI (Nat.le_refl y38.1.length) (aI (Nat.le_refl v40.length) (t))) ?_
  cases H
  exact er
def i_LooksAlike_ir : S :=
 (sq [o 4 (.box 12 (.t 0)), o 5 (.box 3 (.t 1)), o 6 (.box 3 (.t 2)), o 8 (.mv bF), o 9 (.mv bF)]
 (.seq (sq [o 10 (.load 12 true (.t 4)), o 11 (.load 3 true (.t 5)), om 12 3, o 13 (.call 61 [.t 10, .t 11, .t 12]), o 14 (.not (.t 13)), om 15 14, og 16 (.load 12 true (.t 4)) 15, og 17 (.load 3 true (.t 6)) 15, og 18 (.call 62 [.t 16, .t 17]) 15, og 19 (.not (.t 18)) 15, o 20 (.pick (.t 15) bT (.t 19))]
 (.ite (.t 20) (sq [o 8 (.mv bF), o 9 (.mv bF)]
  .ret)
 .skip))
 (.seq (.drw [(0, 1), (0, 2), (1, 2), (0, 4), (1, 4), (2, 4), (3, 4), (0, 5), (1, 5), (2, 5), (3, 5), (4, 5), (0, 6), (1, 6), (2, 6), (3, 6), (4, 6), (5, 6)] [o 21 (.load 12 true (.t 4)), o 22 (.load 3 true (.t 5)), om 23 3, o 24 (.call 64 [.t 21, .t 22, .t 23]), o 25 (.load 12 true (.t 4)), o 26 (.load 3 true (.t 6)), om 27 3, o 28 (.call 64 [.t 25, .t 26, .t 27]), o 29 (.call 63 [.t 24, .t 28]), om 8 29, o 9 (.mv bT)])
 .ret)))
noncomputable def X.i_LooksAlike (p0 : TBoard) (p1 : TState) (p2 : TState) (p3 : Int) : Option (Bool × Bool) :=
 ((X.i_isLook p0 p1 p3).bind fun v7 => (bif (!v7) then some (false, false) else ((X.i_goodState p0 p2).bind fun v10 => (bif (!v10) then some (false, false) else ((X.i_viewOf p0 p1 p3).bind fun v13 => ((X.i_viewOf p0 p2 p3).bind fun v15 => ((X.i_SameView v13 v15).bind fun v17 => some (v17, true))))))))
theorem i_LooksAlike_ok (p0 : TBoard) (p1 : TState) (p2 : TState) (p3 : Int) (r : (Bool × Bool)) (H : X.i_LooksAlike p0 p1 p2 p3 = some r) : FK 25 [.agg (eTBoard p0), .agg (eTState p1), .agg (eTState p2), cI p3] (.tup [(false, [.bool r.1]), (false, [.bool r.2])]) := by
 unfold X.i_LooksAlike at H
 refine fi Tryz.f25 i_LooksAlike_ir [(8, cB r.1), (9, cB r.2)] [] glL Tryz.func25 ?_
 refine sn [] [] [(4, pk 4), (5, pk 5), (6, pk 6)] [] [(4, va (eTBoard p0)), (5, va (eTState p1)), (6, va (eTState p2))] id ?_
 refine seq_in ?_
 obtain ⟨v7, h8, H⟩ := oB H
 rcases oC H with ⟨c9, H⟩ | ⟨c9, H⟩
 ·refine sn ([.res (cB v7)] ++ rg 5 true []) [] [(20, cB true)] [] [] (fun t => aI (i_isLook_ok p0 p1 p3 v7 h8) (aG 5 c9 (t))) ?_
  refine it rT ?_
  refine so [] [] [(8, cB false), (9, cB false)] [] id ?_
  cases H
  exact er
 ·obtain ⟨v10, h11, H⟩ := oB H
  refine sn ([.res (cB v7)] ++ rg 3 false ([.res (cB v10)] ++ rg 2 false [])) [] [(20, cB (!v10))] [] [] (fun t => aI (i_isLook_ok p0 p1 p3 v7 h8) (aG 3 c9 (aI (i_goodState_ok p0 p2 v10 h11) (aG 2 c9 (t))))) ?_
  rcases oC H with ⟨c12, H⟩ | ⟨c12, H⟩
  ·refine it c12 ?_
   refine so [] [] [(8, cB false), (9, cB false)] [] id ?_
   cases H
   exact er
  ·refine jf c12 ?_
   refine sk ?_
   obtain ⟨v13, h14, H⟩ := oB H
   obtain ⟨v15, h16, H⟩ := oB H
   obtain ⟨v17, h18, H⟩ := oB H
   refine sx [.res (.agg (eTView v13)), .res (.agg (eTView v15)), .res (cB v17)] [] [(8, cB v17), (9, cB true)] [] (fun t => aI (i_viewOf_ok p0 p1 p3 v13 h14) (aG 2 rN (aI (i_viewOf_ok p0 p2 p3 v15 h16) (aG 2 rN (aI (i_SameView_ok v13 v15 v17 h18) (aI trivial (aI rN (t)))))))) ?_
   cases H
   exact er
def s_l1In_ir : S :=
 (sq [o 6 (.mv bF)]
 (sq [om 7 0, om 8 1, o 9 (.bin .geq (.t 7) (.t 8)), om 10 9, oh 11 (.mv (.t 0)) 10, oh 12 (.mv (.t 2)) 10, oh 13 (.bin .leq (.t 11) (.t 12)) 10, o 14 (.pick (.t 10) (.t 13) bF), om 6 14]
 .ret))
noncomputable def X.s_l1In (p0 : Int) (p1 : Int) (p2 : Int) : Option Bool :=
 (bif (decide (p0 ≥ p1)) then some (decide (p0 ≤ p2)) else some false)
theorem s_l1In_ok (p0 : Int) (p1 : Int) (p2 : Int) (r : Bool) (H : X.s_l1In p0 p1 p2 = some r) : FK 55 [cI p0, cI p1, cI p2] (cB r) := by
 unfold X.s_l1In at H
 refine fi Tryz.f55 s_l1In_ir [(6, cB r)] [] glL Tryz.func55 ?_
 refine sn [] [] [] [] [] id ?_
 rcases oC H with ⟨c1, H⟩ | ⟨c1, H⟩
 ·refine so (rg 4 true []) [] [(6, cB (decide (p0 ≤ p2)))] [] (fun t => aG 4 c1 (t)) ?_
  cases H
  exact er
 ·refine so (rg 4 false []) [] [(6, cB false)] [] (fun t => aG 4 c1 (t)) ?_
  cases H
  exact er
def s_l1All_ir : S :=
 (sq [o 6 (.mv bF)]
 (.seq (sq [om 9 0, o 10 (.len (.t 9)), o 11 (.mv (iv 0))]
 (.blk 0 (.loop (sq [o 12 (.bin .lss (.t 11) (.t 10))]
   (.seq (.ite (.t 12) .skip
   (.exit 0))
   (.seq (.blk 1 (sq [o 13 (.iad 1 (.t 9) (.t 11)), ol 14 13, om 8 14]
    (sq [om 15 8, om 16 1, om 17 2, o 18 (.call 55 [.t 15, .t 16, .t 17]), o 19 (.not (.t 18))]
    (.ite (.t 19) (sq [o 6 (.mv bF)]
     .ret)
    .skip))))
   (.ops [o 20 (.bin .add (.t 11) (iv 1)), om 11 20])))))))
 (sq [o 6 (.mv bT)]
 .ret)))
noncomputable def X.s_l1All (p0 : (List Int)) (p1 : Int) (p2 : Int) : Option Bool :=
 ((loop (fun (x16 : Int) => ((bif (decide (x16 < (p0.length : Int))) then ((at' zI p0 x16).bind fun v19 => ((X.s_l1In v19 p1 p2).bind fun v21 => (bif (!v21) then some (Sum.inr (Sum.inr false)) else some (Sum.inl (W (x16 + 1)))))) else some (Sum.inr (Sum.inl ()))) : Option (Int ⊕ (Unit ⊕ Bool)))) 0).bind fun y24 => (Sum.elim (fun (y26 : Unit) => some true) (fun (y27 : Bool) => some y27) y24))
theorem s_l1All_ok (p0 : (List Int)) (p1 : Int) (p2 : Int) (r : Bool) (H : X.s_l1All p0 p1 p2 = some r) : FK 74 [.c (dat 1 eI zI p0), cI p1, cI p2] (cB r) := by
 unfold X.s_l1All at H
 refine fi Tryz.f74 s_l1All_ir [(6, cB r)] [] glL Tryz.func74 ?_
 refine sn [] [] [] [] [] id ?_
 refine seq_in ?_
 refine sn [] [] [(9, dc 1 eI zI p0), (10, cL p0), (11, cI 0)] [] [] (fun t => lI p0 (t)) ?_
 refine ends_blk ?_
 obtain ⟨y24, h25, H⟩ := oB H
 refine tl [] [(1, cI p1), (2, cI p2), (9, dc 1 eI zI p0), (10, cL p0), (11, cI 0)] [] id ?_
 refine loop_in (fun (x : Int) => lit [(1, cI p1), (2, cI p2), (9, dc 1 eI zI p0), (10, cL p0), (11, cI x)] []) (orJ (fun (z : Unit) => At (.exit 0) (lit [] [])) (fun (z : Bool) => At .ret (lit [(6, cB z)] []))) h25 ?_ ?_
 ·clear H h25
  intro x16 y0 H
  refine sn [] [] [(12, cB (decide (x16 < (p0.length : Int))))] [] [] id ?_
  refine seq_in ?_
  rcases oC H with ⟨c18, H⟩ | ⟨c18, H⟩
  ·refine it c18 ?_
   refine sk ?_
   refine seq_in ?_
   refine ends_blk ?_
   obtain ⟨v19, h20, H⟩ := oB H
   refine sn [.cs (eI v19)] [] [(8, cI v19)] [] [] (a2 eI h20) ?_
   obtain ⟨v21, h22, H⟩ := oB H
   refine sn [.res (cB v21)] [] [(19, cB (!v21))] [] [] (aI (s_l1In_ok v19 p1 p2 v21 h22)) ?_
   rcases oC H with ⟨c23, H⟩ | ⟨c23, H⟩
   ·refine it c23 ?_
    refine so [] [] [(6, cB false)] [] id ?_
    refine ends_ret ?_
    cases H
    exact rsr
   ·refine jf c23 ?_
    refine sk ?_
    refine oo [] [] [(1, cI p1), (2, cI p2), (9, dc 1 eI zI p0), (10, cL p0), (11, cI (W (x16 + 1)))] [] id ?_
    cases H
    exact rr
  ·refine jf c18 ?_
   refine tl [] [] [] id ?_
   refine ends_exit ?_
   cases H
   exact rse
 ·clear h25
  cases y24 with
  | inl y26 =>
   replace H := ofInl H
   rintro e s ⟨rfl, rfl⟩
   change EndsI _ _ _ _ _ _
   refine so [] [] [(6, cB true)] [] id ?_
   cases H
   exact er
  | inr y27 =>
   replace H := ofInr H
   rintro e s ⟨rfl, rfl⟩
   cases H
   exact qr
def s_rKind_ir : S :=
 (sq [o 4 (.mv (iv 0))]
 (.seq (sq [om 7 0, o 8 (.len (.t 7)), o 9 (.mv (iv 0))]
 (.blk 0 (.loop (sq [o 10 (.bin .lss (.t 9) (.t 8))]
   (.seq (.ite (.t 10) .skip
   (.exit 0))
   (.seq (.blk 1 (sq [om 11 9, o 12 (.iad 6 (.t 7) (.t 9)), o 13 (.load 6 true (.t 12)), o 6 (.alloc [.str [], .int .i64 0, .int .i64 0, .int .i64 0, .bool false, .int .i64 0]), om 5 11, os 6 6 13]
    (sq [oa 14 0 6, ol 15 14, om 16 1, o 17 (.bin .eql (.t 15) (.t 16))]
    (.ite (.t 17) (sq [om 18 5, om 4 18]
     .ret)
    .skip))))
   (.ops [o 19 (.bin .add (.t 9) (iv 1)), om 9 19])))))))
 (sq [o 4 (.mv (.v (.int .i64 (-1))))]
 .ret)))
noncomputable def X.s_rKind (p0 : (List TKind)) (p1 : (List UInt8)) : Option Int :=
 ((loop (fun (x12 : Int) => ((bif (decide (x12 < (p0.length : Int))) then ((at' zTKind p0 x12).bind fun v15 => (bif (v15.Name == p1) then some (Sum.inr (Sum.inr x12)) else some (Sum.inl (W (x12 + 1))))) else some (Sum.inr (Sum.inl ()))) : Option (Int ⊕ (Unit ⊕ Int)))) 0).bind fun y18 => (Sum.elim (fun (y20 : Unit) => some (-1)) (fun (y21 : Int) => some y21) y18))
theorem s_rKind_ok (p0 : (List TKind)) (p1 : (List UInt8)) (r : Int) (H : X.s_rKind p0 p1 = some r) : FK 78 [.c (dat 6 eTKind zTKind p0), .c (.str p1)] (cI r) := by
 unfold X.s_rKind at H
 refine fi Tryz.f78 s_rKind_ir [(4, cI r)] [] glL Tryz.func78 ?_
 refine sn [] [] [] [] [] id ?_
 refine seq_in ?_
 refine sn [] [] [(7, dc 6 eTKind zTKind p0), (8, cL p0), (9, cI 0)] [] [] (fun t => lI p0 (t)) ?_
 refine ends_blk ?_
 obtain ⟨y18, h19, H⟩ := oB H
 refine tl [] [(1, .c (.str p1)), (7, dc 6 eTKind zTKind p0), (8, cL p0), (9, cI 0)] [] id ?_
 refine loop_in (fun (x : Int) => lit [(1, .c (.str p1)), (7, dc 6 eTKind zTKind p0), (8, cL p0), (9, cI x)] []) (orJ (fun (z : Unit) => At (.exit 0) (lit [] [])) (fun (z : Int) => At .ret (lit [(4, cI z)] []))) h19 ?_ ?_
 ·clear H h19
  intro x12 y0 H
  refine sn [] [] [(10, cB (decide (x12 < (p0.length : Int))))] [] [] id ?_
  refine seq_in ?_
  rcases oC H with ⟨c14, H⟩ | ⟨c14, H⟩
  ·refine it c14 ?_
   refine sk ?_
   refine seq_in ?_
   refine ends_blk ?_
   obtain ⟨v15, h16, H⟩ := oB H
   refine sn [.cs (eTKind v15)] [] [(5, cI x12), (6, pk 6)] [] [(6, va (eTKind v15))] (a2 eTKind h16) ?_
   refine sn [] [] [(17, cB (v15.Name == p1))] [] [] id ?_
   rcases oC H with ⟨c17, H⟩ | ⟨c17, H⟩
   ·refine it c17 ?_
    refine so [] [] [(4, cI x12)] [] id ?_
    refine ends_ret ?_
    cases H
    exact rsr
   ·refine jf c17 ?_
    refine sk ?_
    refine oo [] [] [(1, .c (.str p1)), (7, dc 6 eTKind zTKind p0), (8, cL p0), (9, cI (W (x12 + 1)))] [] id ?_
    cases H
    exact rr
  ·refine jf c14 ?_
   refine tl [] [] [] id ?_
   refine ends_exit ?_
   cases H
   exact rse
 ·clear h19
  cases y18 with
  | inl y20 =>
   replace H := ofInl H
   rintro e s ⟨rfl, rfl⟩
   change EndsI _ _ _ _ _ _
   refine so [] [] [(4, cI (-1))] [] id ?_
   cases H
   exact er
  | inr y21 =>
   replace H := ofInr H
   rintro e s ⟨rfl, rfl⟩
   cases H
   exact qr
def s_rName_ir : S :=
 (sq [o 2 (.mv bF)]
 (.seq (sq [o 3 (.mv (iv 0))]
 (.blk 0 (.loop (.seq (sq [om 4 3, om 5 0, o 6 (.lens (.t 5)), o 7 (.bin .lss (.t 4) (.t 6))]
   (.ite (.t 7) .skip
   (.exit 0)))
   (.seq (.blk 1 (sq [om 10 0, om 11 3, o 12 (.ixs (.t 10) (.t 11)), o 13 (.bin .lss (.t 12) (.v (.int .u8 97))), om 14 13, og 15 (.mv (.t 0)) 14, og 16 (.mv (.t 3)) 14, og 17 (.ixs (.t 15) (.t 16)) 14, og 18 (.bin .gtr (.t 17) (.v (.int .u8 122))) 14, o 19 (.pick (.t 14) bT (.t 18))]
    (.ite (.t 19) (sq [o 2 (.mv bF)]
     .ret)
    .skip)))
   (.ops [om 8 3, o 9 (.bin .add (.t 8) (iv 1)), om 3 9]))))))
 (sq [om 20 0, o 21 (.lens (.t 20)), o 22 (.call 55 [.t 21, .v (.int .i64 1), .v (.int .i64 8)]), om 2 22]
 .ret)))
noncomputable def X.s_rName (p0 : (List UInt8)) : Option Bool :=
 ((loop (fun (x14 : Int) => ((bif (decide (x14 < (p0.length : Int))) then (if 0 ≤ x14 ∧ x14 < (p0.length : Int) then (bif (decide ((((p0.getD x14.toNat 0).toNat : Nat) : Int) < 97)) then some (Sum.inr (Sum.inr false)) else (if 0 ≤ x14 ∧ x14 < (p0.length : Int) then (bif (decide ((((p0.getD x14.toNat 0).toNat : Nat) : Int) > 122)) then some (Sum.inr (Sum.inr false)) else some (Sum.inl (W (x14 + 1)))) else none)) else none) else some (Sum.inr (Sum.inl ()))) : Option (Int ⊕ (Unit ⊕ Bool)))) 0).bind fun y21 => (Sum.elim (fun (y23 : Unit) => ((X.s_l1In (p0.length : Int) 1 8).bind fun v25 => some v25)) (fun (y24 : Bool) => some y24) y21))
theorem s_rName_ok (p0 : (List UInt8)) (r : Bool) (H : X.s_rName p0 = some r) : FK 135 [.c (.str p0)] (cB r) := by
 unfold X.s_rName at H
 refine fi Tryz.f135 s_rName_ir [(2, cB r)] [] glL Tryz.func135 ?_
 refine sn [] [] [] [] [] id ?_
 refine seq_in ?_
 refine sn [] [] [(3, cI 0)] [] [] id ?_
 refine ends_blk ?_
 obtain ⟨y21, h22, H⟩ := oB H
 refine tl [] [(0, .c (.str p0)), (3, cI 0)] [] id ?_
 refine loop_in (fun (x : Int) => lit [(0, .c (.str p0)), (3, cI x)] []) (orJ (fun (z : Unit) => At (.exit 0) (lit [(0, .c (.str p0))] [])) (fun (z : Bool) => At .ret (lit [(2, cB z)] []))) h22 ?_ ?_
 ·clear H h22
  intro x14 y0 H
  refine seq_in ?_
  refine sn [] [] [(7, cB (decide (x14 < (p0.length : Int))))] [] [] id ?_
  rcases oC H with ⟨c16, H⟩ | ⟨c16, H⟩
  ·refine it c16 ?_
   refine sk ?_
   refine seq_in ?_
   refine ends_blk ?_
   obtain ⟨g17, H⟩ := oI H
   rcases oC H with ⟨c18, H⟩ | ⟨c18, H⟩
   ·refine sn (rg 5 true []) [] [(19, cB true)] [] [] (fun t => aI g17 (aG 5 c18 (t))) ?_
    refine it rT ?_
    refine so [] [] [(2, cB false)] [] id ?_
    refine ends_ret ?_
    cases H
    exact rsr
   ·obtain ⟨g19, H⟩ := oI H
    refine sn (rg 5 false []) [] [(19, cB (decide ((((p0.getD x14.toNat 0).toNat : Nat) : Int) > 122)))] [] [] (fun t => aI g17 (aG 3 c18 (aI g19 (aG 2 c18 (t))))) ?_
    rcases oC H with ⟨c20, H⟩ | ⟨c20, H⟩
    ·refine it c20 ?_
     refine so [] [] [(2, cB false)] [] id ?_
     refine ends_ret ?_
     cases H
     exact rsr
    ·refine jf c20 ?_
     refine sk ?_
     refine oo [] [] [(0, .c (.str p0)), (3, cI (W (x14 + 1)))] [] id ?_
     cases H
     exact rr
  ·refine jf c16 ?_
   refine tl [] [(0, .c (.str p0))] [] id ?_
   refine ends_exit ?_
   cases H
   exact rse
 ·clear h22
  cases y21 with
  | inl y23 =>
   replace H := ofInl H
   rintro e s ⟨rfl, rfl⟩
   change EndsI _ _ _ _ _ _
   obtain ⟨v25, h26, H⟩ := oB H
   refine so [.res (cB v25)] [] [(2, cB v25)] [] (aI (s_l1In_ok (p0.length : Int) 1 8 v25 h26)) ?_
   cases H
   exact er
  | inr y24 =>
   replace H := ofInr H
   rintro e s ⟨rfl, rfl⟩
   cases H
   exact qr
def s_rTerrain_ir : S :=
 (sq [o 4 (.mv (iv 0))]
 (.seq (sq [om 7 0, o 8 (.len (.t 7)), o 9 (.mv (iv 0))]
 (.blk 0 (.loop (sq [o 10 (.bin .lss (.t 9) (.t 8))]
   (.seq (.ite (.t 10) .skip
   (.exit 0))
   (.seq (.blk 1 (sq [om 11 9, o 12 (.iad 5 (.t 7) (.t 9)), o 13 (.load 5 true (.t 12)), o 6 (.alloc [.str [], .nil, .int .i64 0, .int .i64 0, .bool false]), om 5 11, os 5 6 13]
    (sq [oa 14 0 6, ol 15 14, om 16 1, o 17 (.bin .eql (.t 15) (.t 16))]
    (.ite (.t 17) (sq [om 18 5, om 4 18]
     .ret)
    .skip))))
   (.ops [o 19 (.bin .add (.t 9) (iv 1)), om 9 19])))))))
 (sq [o 4 (.mv (.v (.int .i64 (-1))))]
 .ret)))
noncomputable def X.s_rTerrain (p0 : (List TTerrain)) (p1 : (List UInt8)) : Option Int :=
 ((loop (fun (x12 : Int) => ((bif (decide (x12 < (p0.length : Int))) then ((at' zTTerrain p0 x12).bind fun v15 => (bif (v15.Name == p1) then some (Sum.inr (Sum.inr x12)) else some (Sum.inl (W (x12 + 1))))) else some (Sum.inr (Sum.inl ()))) : Option (Int ⊕ (Unit ⊕ Int)))) 0).bind fun y18 => (Sum.elim (fun (y20 : Unit) => some (-1)) (fun (y21 : Int) => some y21) y18))
theorem s_rTerrain_ok (p0 : (List TTerrain)) (p1 : (List UInt8)) (r : Int) (H : X.s_rTerrain p0 p1 = some r) : FK 136 [.c (dat 5 eTTerrain zTTerrain p0), .c (.str p1)] (cI r) := by
 unfold X.s_rTerrain at H
 refine fi Tryz.f136 s_rTerrain_ir [(4, cI r)] [] glL Tryz.func136 ?_
 refine sn [] [] [] [] [] id ?_
 refine seq_in ?_
 refine sn [] [] [(7, dc 5 eTTerrain zTTerrain p0), (8, cL p0), (9, cI 0)] [] [] (fun t => lI p0 (t)) ?_
 refine ends_blk ?_
 obtain ⟨y18, h19, H⟩ := oB H
 refine tl [] [(1, .c (.str p1)), (7, dc 5 eTTerrain zTTerrain p0), (8, cL p0), (9, cI 0)] [] id ?_
 refine loop_in (fun (x : Int) => lit [(1, .c (.str p1)), (7, dc 5 eTTerrain zTTerrain p0), (8, cL p0), (9, cI x)] []) (orJ (fun (z : Unit) => At (.exit 0) (lit [] [])) (fun (z : Int) => At .ret (lit [(4, cI z)] []))) h19 ?_ ?_
 ·clear H h19
  intro x12 y0 H
  refine sn [] [] [(10, cB (decide (x12 < (p0.length : Int))))] [] [] id ?_
  refine seq_in ?_
  rcases oC H with ⟨c14, H⟩ | ⟨c14, H⟩
  ·refine it c14 ?_
   refine sk ?_
   refine seq_in ?_
   refine ends_blk ?_
   obtain ⟨v15, h16, H⟩ := oB H
   refine sn [.cs (eTTerrain v15)] [] [(5, cI x12), (6, pk 6)] [] [(6, va (eTTerrain v15))] (a2 eTTerrain h16) ?_
   refine sn [] [] [(17, cB (v15.Name == p1))] [] [] id ?_
   rcases oC H with ⟨c17, H⟩ | ⟨c17, H⟩
   ·refine it c17 ?_
    refine so [] [] [(4, cI x12)] [] id ?_
    refine ends_ret ?_
    cases H
    exact rsr
   ·refine jf c17 ?_
    refine sk ?_
    refine oo [] [] [(1, .c (.str p1)), (7, dc 5 eTTerrain zTTerrain p0), (8, cL p0), (9, cI (W (x12 + 1)))] [] id ?_
    cases H
    exact rr
  ·refine jf c14 ?_
   refine tl [] [] [] id ?_
   refine ends_exit ?_
   cases H
   exact rse
 ·clear h19
  cases y18 with
  | inl y20 =>
   replace H := ofInl H
   rintro e s ⟨rfl, rfl⟩
   change EndsI _ _ _ _ _ _
   refine so [] [] [(4, cI (-1))] [] id ?_
   cases H
   exact er
  | inr y21 =>
   replace H := ofInr H
   rintro e s ⟨rfl, rfl⟩
   cases H
   exact qr
end Go.Proofs.YtjlabdoeiphegaaGreatDoor.X0
