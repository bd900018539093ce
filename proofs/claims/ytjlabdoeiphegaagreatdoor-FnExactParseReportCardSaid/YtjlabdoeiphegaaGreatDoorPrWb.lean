/- What each function that FnExactParseReport reaches computes; no condition. -/
import Derived.Test.YtjlabdoeiphegaaGreatDoorPrWa
set_option linter.unusedVariables false
set_option linter.unusedSimpArgs false
set_option maxRecDepth 100000
namespace Go.Proofs.YtjlabdoeiphegaaGreatDoor.X0
open Go Go.RowKit Go.Proofs.YtjlabdoeiphegaaGreatDoor.Ab Go.Proofs
variable [GPar]

def i_IsRules_ir : S :=
 (sq [o 1 (.box 7 (.t 0)), o 2 (.mv bF)]
 (.seq (sq [oa 7 0 1, ol 8 7, o 9 (.len (.t 8)), o 10 (.call 59 [.t 9, .v (.int .i64 1), .v (.int .i64 6)]), o 11 (.not (.t 10)), om 12 11, og 13 (.fad 1 (.t 1)) 12, og 14 (.load 1 false (.t 13)) 12, og 15 (.len (.t 14)) 12, og 16 (.call 59 [.t 15, .v (.int .i64 1), .v (.int .i64 4)]) 12, og 17 (.not (.t 16)) 12, o 18 (.pick (.t 12) bT (.t 17))]
 (.ite (.t 18) (sq [o 2 (.mv bF)]
  .ret)
 .skip))
 (.seq (sq [oa 19 0 1, ol 20 19, o 21 (.len (.t 20)), o 22 (.mv (iv 0))]
 (.blk 0 (.loop (sq [o 23 (.bin .lss (.t 22) (.t 21))]
   (.seq (.ite (.t 23) .skip
   (.exit 0))
   (.seq (.blk 1 (sq [om 24 22, o 25 (.iad 5 (.t 20) (.t 22)), o 26 (.load 5 true (.t 25)), o 4 (.alloc [.str [], .nil, .int .i64 0, .int .i64 0, .bool false]), om 3 24, os 5 4 26]
    (sq [o 27 (.load 5 true (.t 4)), oa 28 1 1, ol 29 28, o 30 (.len (.t 29)), o 31 (.call 143 [.t 27, .t 30]), o 32 (.not (.t 31)), om 33 32, og 34 (.fad 0 (.t 1)) 33, og 35 (.load 1 false (.t 34)) 33, og 36 (.fad 0 (.t 4)) 33, og 37 (.load 1 false (.t 36)) 33, og 38 (.call 144 [.t 35, .t 37]) 33, og 39 (.mv (.t 3)) 33, og 40 (.bin .neq (.t 38) (.t 39)) 33, o 41 (.pick (.t 33) bT (.t 40))]
    (.ite (.t 41) (sq [o 2 (.mv bF)]
     .ret)
    .skip))))
   (.ops [o 42 (.bin .add (.t 22) (iv 1)), om 22 42])))))))
 (.seq (sq [oa 43 1 1, ol 44 43, o 45 (.len (.t 44)), o 46 (.mv (iv 0))]
 (.blk 2 (.loop (sq [o 47 (.bin .lss (.t 46) (.t 45))]
   (.seq (.ite (.t 47) .skip
   (.exit 2))
   (.seq (.blk 3 (sq [om 48 46, o 49 (.iad 6 (.t 44) (.t 46)), o 50 (.load 6 true (.t 49)), o 6 (.alloc [.str [], .int .i64 0, .int .i64 0, .int .i64 0, .bool false, .int .i64 0]), om 5 48, os 6 6 50]
    (sq [o 51 (.load 6 true (.t 6)), o 52 (.call 145 [.t 51]), o 53 (.not (.t 52)), om 54 53, og 55 (.fad 1 (.t 1)) 54, og 56 (.load 1 false (.t 55)) 54, og 57 (.fad 0 (.t 6)) 54, og 58 (.load 1 false (.t 57)) 54, og 59 (.call 96 [.t 56, .t 58]) 54, og 60 (.mv (.t 5)) 54, og 61 (.bin .neq (.t 59) (.t 60)) 54, o 62 (.pick (.t 54) bT (.t 61))]
    (.ite (.t 62) (sq [o 2 (.mv bF)]
     .ret)
    .skip))))
   (.ops [o 63 (.bin .add (.t 46) (iv 1)), om 46 63])))))))
 (sq [oa 64 2 1, ol 65 64, o 66 (.call 59 [.t 65, .v (.int .i64 1), .v (.int .i64 4)]), om 67 66, oh 68 (.fad 3 (.t 1)) 67, oh 69 (.load 1 false (.t 68)) 67, oh 70 (.call 59 [.t 69, .v (.int .i64 0), .v (.int .i64 9)]) 67, o 71 (.pick (.t 67) (.t 70) bF), om 72 71, oh 73 (.fad 4 (.t 1)) 72, oh 74 (.load 1 false (.t 73)) 72, oh 75 (.call 59 [.t 74, .v (.int .i64 1), .v (.int .i64 9)]) 72, o 76 (.pick (.t 72) (.t 75) bF), om 77 76, oh 78 (.fad 5 (.t 1)) 77, oh 79 (.load 1 false (.t 78)) 77, oh 80 (.call 59 [.t 79, .v (.int .i64 0), .v (.int .i64 20)]) 77, o 81 (.pick (.t 77) (.t 80) bF), om 82 81, oh 83 (.fad 6 (.t 1)) 82, oh 84 (.load 1 false (.t 83)) 82, oh 85 (.call 59 [.t 84, .v (.int .i64 1), .v (.int .i64 30)]) 82, o 86 (.pick (.t 82) (.t 85) bF), om 2 86]
 .ret)))))
noncomputable def X.i_IsRules (p0 : TRules) : Option Bool :=
 ((X.i_inRange (p0.Terrains.length : Int) 1 6).bind fun v7 => (bif (!v7) then some false else ((X.i_inRange (p0.Kinds.length : Int) 1 4).bind fun v10 => (bif (!v10) then some false else ((loop (fun (x70 : Int) => ((bif (decide (x70 < (p0.Terrains.length : Int))) then ((at' zTTerrain p0.Terrains x70).bind fun v73 => ((X.i_goodTerrain v73 (p0.Kinds.length : Int)).bind fun v75 => (bif (!v75) then some (Sum.inr (Sum.inr false)) else ((X.i_terrainIndex p0.Terrains v73.Name).bind fun v78 => (bif (v78 != x70) then some (Sum.inr (Sum.inr false)) else some (Sum.inl (W (x70 + 1)))))))) else some (Sum.inr (Sum.inl ()))) : Option (Int ⊕ (Unit ⊕ Bool)))) 0).bind fun y81 => (Sum.elim (fun (y83 : Unit) => ((loop (fun (x142 : Int) => ((bif (decide (x142 < (p0.Kinds.length : Int))) then ((at' zTKind p0.Kinds x142).bind fun v145 => ((X.i_goodKind v145).bind fun v147 => (bif (!v147) then some (Sum.inr (Sum.inr false)) else ((X.i_kindIndex p0.Kinds v145.Name).bind fun v150 => (bif (v150 != x142) then some (Sum.inr (Sum.inr false)) else some (Sum.inl (W (x142 + 1)))))))) else some (Sum.inr (Sum.inl ()))) : Option (Int ⊕ (Unit ⊕ Bool)))) 0).bind fun y153 => (Sum.elim (fun (y155 : Unit) => ((X.i_inRange p0.Stack 1 4).bind fun v157 => (bif v157 then ((X.i_inRange p0.River 0 9).bind fun v160 => (bif v160 then ((X.i_inRange p0.Road 1 9).bind fun v163 => (bif v163 then ((X.i_inRange p0.Supply 0 20).bind fun v166 => (bif v166 then ((X.i_inRange p0.Turns 1 30).bind fun v169 => some v169) else some false)) else some false)) else some false)) else some false))) (fun (y156 : Bool) => some y156) y153))) (fun (y84 : Bool) => some y84) y81))))))
theorem i_IsRules_ok (p0 : TRules) (r : Bool) (H : X.i_IsRules p0 = some r) : FK 90 [.agg (eTRules p0)] (cB r) := by
 unfold X.i_IsRules at H
 refine fi Tryz.f90 i_IsRules_ir [(2, cB r)] [] glL Tryz.func90 ?_
 refine so [] [] [(1, pk 1)] [(1, va (eTRules p0))] id ?_
 refine seq_in ?_
 obtain ⟨v7, h8, H⟩ := oB H
 rcases oC H with ⟨c9, H⟩ | ⟨c9, H⟩
 ·refine sn ([.res (cB v7)] ++ rg 6 true []) [] [(18, cB true)] [] [] (fun t => lI p0.Terrains (aI (i_inRange_ok (p0.Terrains.length : Int) 1 6 v7 h8) (aG 6 c9 (t)))) ?_
  refine it rT ?_
  refine so [] [] [(2, cB false)] [] id ?_
  cases H
  exact er
 ·obtain ⟨v10, h11, H⟩ := oB H
  refine sn ([.res (cB v7)] ++ rg 4 false ([.res (cB v10)] ++ rg 2 false [])) [] [(18, cB (!v10))] [] [] (fun t => lI p0.Terrains (aI (i_inRange_ok (p0.Terrains.length : Int) 1 6 v7 h8) (aG 3 c9 (lI p0.Kinds (aI c9 (aI (i_inRange_ok (p0.Kinds.length : Int) 1 4 v10 h11) (aG 2 c9 (t)))))))) ?_
  rcases oC H with ⟨c12, H⟩ | ⟨c12, H⟩
  ·refine it c12 ?_
   refine so [] [] [(2, cB false)] [] id ?_
   cases H
   exact er
  ·refine jf c12 ?_
   refine sk ?_
   refine seq_in ?_
   refine sn [] [] [(20, dc 5 eTTerrain zTTerrain p0.Terrains), (21, cL p0.Terrains), (22, cI 0)] [] [] (fun t => lI p0.Terrains (t)) ?_
   refine ends_blk ?_
   obtain ⟨y81, h82, H⟩ := oB H
   refine tl [] [(1, pk 1), (20, dc 5 eTTerrain zTTerrain p0.Terrains), (21, cL p0.Terrains), (22, cI 0)] [(1, va (eTRules p0))] id ?_
   refine loop_in (fun (x : Int) => lit [(1, pk 1), (20, dc 5 eTTerrain zTTerrain p0.Terrains), (21, cL p0.Terrains), (22, cI x)] [(1, va (eTRules p0))]) (orJ (fun (z : Unit) => At (.exit 0) (lit [(1, pk 1)] [(1, va (eTRules p0))])) (fun (z : Bool) => At .ret (lit [(2, cB z)] []))) h82 ?_ ?_
   ·clear H h82
    intro x70 y0 H
    refine sn [] [] [(23, cB (decide (x70 < (p0.Terrains.length : Int))))] [] [] id ?_
    refine seq_in ?_
    rcases oC H with ⟨c72, H⟩ | ⟨c72, H⟩
    ·refine it c72 ?_
     refine sk ?_
     refine seq_in ?_
     refine ends_blk ?_
     obtain ⟨v73, h74, H⟩ := oB H
     refine sn [.cs (eTTerrain v73)] [] [(3, cI x70), (4, pk 4)] [] [(4, va (eTTerrain v73))] (a2 eTTerrain h74) ?_
     obtain ⟨v75, h76, H⟩ := oB H
     rcases oC H with ⟨c77, H⟩ | ⟨c77, H⟩
     ·refine sn ([.res (cB v75)] ++ rg 8 true []) [] [(41, cB true)] [] [] (fun t => lI p0.Kinds (aI (i_goodTerrain_ok v73 (p0.Kinds.length : Int) v75 h76) (aG 8 c77 (t)))) ?_
      refine it rT ?_
      refine so [] [] [(2, cB false)] [] id ?_
      refine ends_ret ?_
      cases H
      exact rsr
     ·obtain ⟨v78, h79, H⟩ := oB H
      refine sn ([.res (cB v75)] ++ rg 5 false ([.res (cI v78)] ++ rg 3 false [])) [] [(41, cB (v78 != x70))] [] [] (fun t => lI p0.Kinds (aI (i_goodTerrain_ok v73 (p0.Kinds.length : Int) v75 h76) (aG 5 c77 (aI (i_terrainIndex_ok p0.Terrains v73.Name v78 h79) (aG 3 c77 (t)))))) ?_
      rcases oC H with ⟨c80, H⟩ | ⟨c80, H⟩
      ·refine it c80 ?_
       refine so [] [] [(2, cB false)] [] id ?_
       refine ends_ret ?_
       cases H
       exact rsr
      ·refine jf c80 ?_
       refine sk ?_
       refine oo [] [] [(1, pk 1), (20, dc 5 eTTerrain zTTerrain p0.Terrains), (21, cL p0.Terrains), (22, cI (W (x70 + 1)))] [(1, va (eTRules p0))] id ?_
       cases H
       exact rr
    ·refine jf c72 ?_
     refine tl [] [(1, pk 1)] [(1, va (eTRules p0))] id ?_
     refine ends_exit ?_
     cases H
     exact rse
   ·clear h82
    cases y81 with
    | inl y83 =>
     replace H := ofInl H
     rintro e s ⟨rfl, rfl⟩
     change EndsI _ _ _ _ _ _
     refine seq_in ?_
     refine sn [] [] [(44, dc 6 eTKind zTKind p0.Kinds), (45, cL p0.Kinds), (46, cI 0)] [] [] (fun t => lI p0.Kinds (t)) ?_
     refine ends_blk ?_
     obtain ⟨y153, h154, H⟩ := oB H
     refine tl [] [(1, pk 1), (44, dc 6 eTKind zTKind p0.Kinds), (45, cL p0.Kinds), (46, cI 0)] [(1, va (eTRules p0))] id ?_
     refine loop_in (fun (x : Int) => lit [(1, pk 1), (44, dc 6 eTKind zTKind p0.Kinds), (45, cL p0.Kinds), (46, cI x)] [(1, va (eTRules p0))]) (orJ (fun (z : Unit) => At (.exit 2) (lit [(1, pk 1)] [(1, va (eTRules p0))])) (fun (z : Bool) => At .ret (lit [(2, cB z)] []))) h154 ?_ ?_
     ·clear H h154
      intro x142 y0 H
      refine sn [] [] [(47, cB (decide (x142 < (p0.Kinds.length : Int))))] [] [] id ?_
      refine seq_in ?_
      rcases oC H with ⟨c144, H⟩ | ⟨c144, H⟩
      ·refine it c144 ?_
       refine sk ?_
       refine seq_in ?_
       refine ends_blk ?_
       obtain ⟨v145, h146, H⟩ := oB H
       refine sn [.cs (eTKind v145)] [] [(5, cI x142), (6, pk 6)] [] [(6, va (eTKind v145))] (a2 eTKind h146) ?_
       obtain ⟨v147, h148, H⟩ := oB H
       rcases oC H with ⟨c149, H⟩ | ⟨c149, H⟩
       ·refine sn ([.res (cB v147)] ++ rg 8 true []) [] [(62, cB true)] [] [] (fun t => aI (i_goodKind_ok v145 v147 h148) (aG 8 c149 (t))) ?_
        refine it rT ?_
        refine so [] [] [(2, cB false)] [] id ?_
        refine ends_ret ?_
        cases H
        exact rsr
       ·obtain ⟨v150, h151, H⟩ := oB H
        refine sn ([.res (cB v147)] ++ rg 5 false ([.res (cI v150)] ++ rg 3 false [])) [] [(62, cB (v150 != x142))] [] [] (fun t => aI (i_goodKind_ok v145 v147 h148) (aG 5 c149 (aI (i_kindIndex_ok p0.Kinds v145.Name v150 h151) (aG 3 c149 (t))))) ?_
        rcases oC H with ⟨c152, H⟩ | ⟨c152, H⟩
        ·refine it c152 ?_
         refine so [] [] [(2, cB false)] [] id ?_
         refine ends_ret ?_
         cases H
         exact rsr
        ·refine jf c152 ?_
         refine sk ?_
         refine oo [] [] [(1, pk 1), (44, dc 6 eTKind zTKind p0.Kinds), (45, cL p0.Kinds), (46, cI (W (x142 + 1)))] [(1, va (eTRules p0))] id ?_
         cases H
         exact rr
      ·refine jf c144 ?_
       refine tl [] [(1, pk 1)] [(1, va (eTRules p0))] id ?_
       refine ends_exit ?_
       cases H
       exact rse
     ·clear h154
      cases y153 with
      | inl y155 =>
       replace H := ofInl H
       rintro e s ⟨rfl, rfl⟩
       change EndsI _ _ _ _ _ _
       obtain ⟨v157, h158, H⟩ := oB H
       rcases oC H with ⟨c159, H⟩ | ⟨c159, H⟩
       ·obtain ⟨v160, h161, H⟩ := oB H
        rcases oC H with ⟨c162, H⟩ | ⟨c162, H⟩
        ·obtain ⟨v163, h164, H⟩ := oB H
         rcases oC H with ⟨c165, H⟩ | ⟨c165, H⟩
         ·obtain ⟨v166, h167, H⟩ := oB H
          rcases oC H with ⟨c168, H⟩ | ⟨c168, H⟩
          ·obtain ⟨v169, h170, H⟩ := oB H
           refine so ([.res (cB v157)] ++ rg 3 true ([.res (cB v160)] ++ rg 4 true ([.res (cB v163)] ++ rg 4 true ([.res (cB v166)] ++ rg 4 true [.res (cB v169), .g true])))) [] [(2, cB v169)] [] (fun t => aI (i_inRange_ok p0.Stack 1 4 v157 h158) (aG 3 c159 (aI (i_inRange_ok p0.River 0 9 v160 h161) (aI c159 (aG 3 c162 (aI (i_inRange_ok p0.Road 1 9 v163 h164) (aI c162 (aG 3 c165 (aI (i_inRange_ok p0.Supply 0 20 v166 h167) (aI c165 (aG 3 c168 (aI (i_inRange_ok p0.Turns 1 30 v169 h170) (aI c168 (t)))))))))))))) ?_
           cases H
           exact er
          ·refine so ([.res (cB v157)] ++ rg 3 true ([.res (cB v160)] ++ rg 4 true ([.res (cB v163)] ++ rg 4 true ([.res (cB v166), .g true] ++ rg 4 false [])))) [] [(2, cB false)] [] (fun t => aI (i_inRange_ok p0.Stack 1 4 v157 h158) (aG 3 c159 (aI (i_inRange_ok p0.River 0 9 v160 h161) (aI c159 (aG 3 c162 (aI (i_inRange_ok p0.Road 1 9 v163 h164) (aI c162 (aG 3 c165 (aI (i_inRange_ok p0.Supply 0 20 v166 h167) (aI c165 (aG 4 c168 (t)))))))))))) ?_
           cases H
           exact er
         ·refine so ([.res (cB v157)] ++ rg 3 true ([.res (cB v160)] ++ rg 4 true ([.res (cB v163), .g true] ++ rg 8 false []))) [] [(2, cB false)] [] (fun t => aI (i_inRange_ok p0.Stack 1 4 v157 h158) (aG 3 c159 (aI (i_inRange_ok p0.River 0 9 v160 h161) (aI c159 (aG 3 c162 (aI (i_inRange_ok p0.Road 1 9 v163 h164) (aI c162 (aG 4 c165 (aG 4 rF (t)))))))))) ?_
          cases H
          exact er
        ·refine so ([.res (cB v157)] ++ rg 3 true ([.res (cB v160), .g true] ++ rg 12 false [])) [] [(2, cB false)] [] (fun t => aI (i_inRange_ok p0.Stack 1 4 v157 h158) (aG 3 c159 (aI (i_inRange_ok p0.River 0 9 v160 h161) (aI c159 (aG 4 c162 (aG 8 rF (t))))))) ?_
         cases H
         exact er
       ·refine so ([.res (cB v157)] ++ rg 16 false []) [] [(2, cB false)] [] (fun t => aI (i_inRange_ok p0.Stack 1 4 v157 h158) (aG 4 c159 (aG 12 rF (t)))) ?_
        cases H
        exact er
      | inr y156 =>
       replace H := ofInr H
       rintro e s ⟨rfl, rfl⟩
       cases H
       exact qr
    | inr y84 =>
     replace H := ofInr H
     rintro e s ⟨rfl, rfl⟩
     cases H
     exact qr
def i_increasing_ir : S :=
 (sq [o 2 (.mv bF)]
 (.seq (sq [o 3 (.mv (iv 1))]
 (.blk 0 (.loop (.seq (sq [om 4 3, om 5 0, o 6 (.len (.t 5)), o 7 (.bin .lss (.t 4) (.t 6))]
   (.ite (.t 7) .skip
   (.exit 0)))
   (.seq (.blk 1 (.seq (.drw [(0, 1), (0, 2), (0, 5), (1, 5), (2, 5), (3, 5), (4, 5), (0, 6), (1, 6), (2, 6), (3, 6), (4, 6), (5, 6), (0, 7), (1, 7), (2, 7), (3, 7), (4, 7), (0, 8), (1, 8), (2, 8), (3, 8), (4, 8)] [om 10 0, om 11 3, o 12 (.bin .sub (.t 11) (iv 1)), o 13 (.iad 1 (.t 10) (.t 12)), ol 14 13, om 15 0, om 16 3, o 17 (.iad 1 (.t 15) (.t 16)), ol 18 17, o 19 (.bin .geq (.t 14) (.t 18))])
    (.ite (.t 19) (sq [o 2 (.mv bF)]
     .ret)
    .skip)))
   (.ops [om 8 3, o 9 (.bin .add (.t 8) (iv 1)), om 3 9]))))))
 (sq [o 2 (.mv bT)]
 .ret)))
noncomputable def X.i_increasing (p0 : (List Int)) : Option Bool :=
 ((loop (fun (x16 : Int) => ((bif (decide (x16 < (p0.length : Int))) then ((at' zI p0 (W (x16 - 1))).bind fun v19 => ((at' zI p0 x16).bind fun v21 => (bif (decide (v19 ≥ v21)) then some (Sum.inr (Sum.inr false)) else some (Sum.inl (W (x16 + 1)))))) else some (Sum.inr (Sum.inl ()))) : Option (Int ⊕ (Unit ⊕ Bool)))) 1).bind fun y24 => (Sum.elim (fun (y26 : Unit) => some true) (fun (y27 : Bool) => some y27) y24))
theorem i_increasing_ok (p0 : (List Int)) (r : Bool) (H : X.i_increasing p0 = some r) : FK 100 [.c (dat 1 eI zI p0)] (cB r) := by
 unfold X.i_increasing at H
 refine fi Tryz.f100 i_increasing_ir [(2, cB r)] [] glL Tryz.func100 ?_
 refine sn [] [] [] [] [] id ?_
 refine seq_in ?_
 refine sn [] [] [(3, cI 1)] [] [] id ?_
 refine ends_blk ?_
 obtain ⟨y24, h25, H⟩ := oB H
 refine tl [] [(0, dc 1 eI zI p0), (3, cI 1)] [] id ?_
 refine loop_in (fun (x : Int) => lit [(0, dc 1 eI zI p0), (3, cI x)] []) (orJ (fun (z : Unit) => At (.exit 0) (lit [] [])) (fun (z : Bool) => At .ret (lit [(2, cB z)] []))) h25 ?_ ?_
 ·clear H h25
  intro x16 y0 H
  refine seq_in ?_
  refine sn [] [] [(7, cB (decide (x16 < (p0.length : Int))))] [] [] (fun t => lI p0 (t)) ?_
  rcases oC H with ⟨c18, H⟩ | ⟨c18, H⟩
  ·refine it c18 ?_
   refine sk ?_
   refine seq_in ?_
   refine ends_blk ?_
   obtain ⟨v19, h20, H⟩ := oB H
   obtain ⟨v21, h22, H⟩ := oB H
   refine xn [.cs (eI v19), .cs (eI v21)] [] [(19, cB (decide (v19 ≥ v21)))] [] [] (fun t => (a2 eI h20 (aI rN ((a2 eI h22 (aI rN (t))))))) ?_
   rcases oC H with ⟨c23, H⟩ | ⟨c23, H⟩
   ·refine it c23 ?_
    refine so [] [] [(2, cB false)] [] id ?_
    refine ends_ret ?_
    cases H
    exact rsr
   ·refine jf c23 ?_
    refine sk ?_
    refine oo [] [] [(0, dc 1 eI zI p0), (3, cI (W (x16 + 1)))] [] id ?_
    cases H
    exact rr
  ·refine jf c18 ?_
   refine tl [] [] [] id ?_
   refine ends_exit ?_
   cases H
   exact rse
 ·clear h25
  cases y24 with
  | inl y26 =>
   replace H := ofInl H
   rintro e s ⟨rfl, rfl⟩
   change EndsI _ _ _ _ _ _
   refine so [] [] [(2, cB true)] [] id ?_
   cases H
   exact er
  | inr y27 =>
   replace H := ofInr H
   rintro e s ⟨rfl, rfl⟩
   cases H
   exact qr
def i_isIndex_ir : S :=
 (sq [o 4 (.mv bF)]
 (sq [om 5 0, om 6 1, o 7 (.bin .sub (.t 6) (iv 1)), o 8 (.call 59 [.t 5, .v (.int .i64 0), .t 7]), om 4 8]
 .ret))
noncomputable def X.i_isIndex (p0 : Int) (p1 : Int) : Option Bool :=
 ((X.i_inRange p0 0 (W (p1 - 1))).bind fun v1 => some v1)
theorem i_isIndex_ok (p0 : Int) (p1 : Int) (r : Bool) (H : X.i_isIndex p0 p1 = some r) : FK 102 [cI p0, cI p1] (cB r) := by
 unfold X.i_isIndex at H
 refine fi Tryz.f102 i_isIndex_ir [(4, cB r)] [] glL Tryz.func102 ?_
 refine sn [] [] [] [] [] id ?_
 obtain ⟨v1, h2, H⟩ := oB H
 refine so [.res (cB v1)] [] [(4, cB v1)] [] (aI (i_inRange_ok p0 0 (W (p1 - 1)) v1 h2)) ?_
 cases H
 exact er
def i_indexOf_ir : S :=
 (sq [o 2 (.box 5 (.t 0)), o 3 (.box 2 (.t 1)), o 4 (.mv (iv 0))]
 (.seq (sq [oa 5 0 3, ol 6 5, oa 7 0 2, ol 8 7, o 9 (.call 102 [.t 6, .t 8]), o 10 (.not (.t 9)), om 11 10, og 12 (.fad 1 (.t 3)) 11, og 13 (.load 1 false (.t 12)) 11, og 14 (.fad 1 (.t 2)) 11, og 15 (.load 1 false (.t 14)) 11, og 16 (.call 102 [.t 13, .t 15]) 11, og 17 (.not (.t 16)) 11, o 18 (.pick (.t 11) bT (.t 17))]
 (.ite (.t 18) (sq [o 4 (.mv (.v (.int .i64 (-1))))]
  .ret)
 .skip))
 (sq [oa 19 1 3, ol 20 19, oa 21 0 2, ol 22 21, o 23 (.bin .mul (.t 20) (.t 22)), oa 24 0 3, ol 25 24, o 26 (.bin .add (.t 23) (.t 25)), om 4 26]
 .ret)))
noncomputable def X.i_indexOf (p0 : TMap) (p1 : THex) : Option Int :=
 ((X.i_isIndex p1.Q p0.Width).bind fun v7 => (bif (!v7) then some (-1) else ((X.i_isIndex p1.R p0.Height).bind fun v10 => (bif (!v10) then some (-1) else some (W ((W (p1.R * p0.Width)) + p1.Q))))))
theorem i_indexOf_ok (p0 : TMap) (p1 : THex) (r : Int) (H : X.i_indexOf p0 p1 = some r) : FK 223 [.agg (eTMap p0), .agg (eTHex p1)] (cI r) := by
 unfold X.i_indexOf at H
 refine fi Tryz.f223 i_indexOf_ir [(4, cI r)] [] glL Tryz.func223 ?_
 refine so [] [] [(2, pk 2), (3, pk 3)] [(2, va (eTMap p0)), (3, va (eTHex p1))] id ?_
 refine seq_in ?_
 obtain ⟨v7, h8, H⟩ := oB H
 rcases oC H with ⟨c9, H⟩ | ⟨c9, H⟩
 ·refine sn ([.res (cB v7)] ++ rg 7 true []) [] [(18, cB true)] [] [] (fun t => aI (i_isIndex_ok p1.Q p0.Width v7 h8) (aG 7 c9 (t))) ?_
  refine it rT ?_
  refine so [] [] [(4, cI (-1))] [] id ?_
  cases H
  exact er
 ·obtain ⟨v10, h11, H⟩ := oB H
  refine sn ([.res (cB v7)] ++ rg 5 false ([.res (cB v10)] ++ rg 2 false [])) [] [(18, cB (!v10))] [] [] (fun t => aI (i_isIndex_ok p1.Q p0.Width v7 h8) (aG 5 c9 (aI (i_isIndex_ok p1.R p0.Height v10 h11) (aG 2 c9 (t))))) ?_
  rcases oC H with ⟨c12, H⟩ | ⟨c12, H⟩
  ·refine it c12 ?_
   refine so [] [] [(4, cI (-1))] [] id ?_
   cases H
   exact er
  ·refine jf c12 ?_
   refine sk ?_
   refine so [] [] [(4, cI (W ((W (p1.R * p0.Width)) + p1.Q)))] [] id ?_
   cases H
   exact er
def i_stepBy_ir : S :=
 (sq [o 3 (.box 2 (.t 0)), o 6 (.alloc [.int .i64 0, .int .i64 0])]
 (.seq (.drw [(0, 2), (1, 2), (0, 3), (1, 3), (2, 3), (0, 4), (1, 4), (2, 4), (0, 5), (1, 5), (2, 5), (0, 6), (1, 6), (2, 6), (0, 7), (1, 7), (0, 9), (1, 9), (2, 9), (3, 9), (4, 9), (5, 9), (6, 9), (7, 9), (8, 9), (0, 10), (1, 10), (2, 10), (3, 10), (4, 10), (5, 10), (6, 10), (7, 10), (8, 10), (0, 11), (1, 11), (2, 11), (3, 11), (4, 11), (5, 11), (6, 11), (7, 11), (8, 11), (9, 11), (10, 11), (0, 12), (1, 12), (2, 12), (3, 12), (4, 12), (5, 12), (6, 12), (7, 12), (8, 12), (9, 12), (10, 12), (11, 12), (0, 13), (1, 13), (2, 13), (3, 13), (4, 13), (5, 13), (6, 13), (7, 13), (8, 13), (9, 13), (10, 13), (11, 13), (0, 14), (1, 14), (2, 14), (3, 14), (4, 14), (5, 14), (6, 14), (7, 14), (8, 14), (9, 14), (10, 14), (11, 14), (0, 15), (1, 15), (2, 15), (3, 15), (4, 15), (5, 15), (6, 15), (7, 15), (8, 15), (9, 15), (10, 15), (11, 15), (0, 16), (1, 16), (2, 16), (3, 16), (4, 16), (5, 16), (6, 16), (7, 16), (8, 16), (9, 16), (10, 16), (0, 17), (1, 17), (2, 17), (3, 17), (4, 17), (5, 17), (6, 17), (7, 17), (8, 17)] [oa 7 0 3, ol 8 7, om 9 2, om 10 1, o 11 (.iar 6 2 (.g 6) (.t 10)), oa 12 0 11, ol 13 12, o 14 (.bin .mul (.t 9) (.t 13)), o 15 (.bin .add (.t 8) (.t 14)), oa 16 1 3, ol 17 16, om 18 2, om 19 1, o 20 (.iar 6 2 (.g 6) (.t 19)), oa 21 1 20, ol 22 21, o 23 (.bin .mul (.t 18) (.t 22)), o 24 (.bin .add (.t 17) (.t 23)), o 25 (.build [.int .i64 0, .int .i64 0] [(0, 1, .t 15), (1, 1, .t 24)]), os 2 6 25])
 .ret))
noncomputable def X.i_stepBy (p0 : THex) (p1 : Int) (p2 : Int) : Option THex :=
 ((at' zTHex dirs p1).bind fun v1 => some (THex.mk (W (p0.Q + (W (p2 * v1.Q)))) (W (p0.R + (W (p2 * v1.R))))))
theorem i_stepBy_ok (p0 : THex) (p1 : Int) (p2 : Int) (r : THex) (H : X.i_stepBy p0 p1 p2 = some r) : FK 224 [.agg (eTHex p0), cI p1, cI p2] (.agg (eTHex r)) := by
 unfold X.i_stepBy at H
 refine fi Tryz.f224 i_stepBy_ir [(6, pk 6)] [(6, va (eTHex r))] glL Tryz.func224 ?_
 refine sn [] [] [(3, pk 3), (6, pk 6)] [] [(3, va (eTHex p0)), (6, .var [jI 0, jI 0] false)] id ?_
 obtain ⟨v1, h2, H⟩ := oB H
 refine xn [.cs (eTHex v1), .cs (eTHex v1)] [] [] [6] [(6, .var [jI (W (p0.Q + (W (p2 * v1.Q)))), jI (W (p0.R + (W (p2 * v1.R))))] false)] (fun t => aI (at_lt h2) (aI (dirs_at h2) (aI rN (aI (at_lt h2) (aI (dirs_at h2) (aI rN (t))))))) ?_
 refine tl [] [(6, pk 6)] [(6, .var [jI (W (p0.Q + (W (p2 * v1.Q)))), jI (W (p0.R + (W (p2 * v1.R))))] false)] id ?_
 cases H
 exact er
def i_hexOf_ir : S :=
 (sq [o 2 (.box 5 (.t 0)), o 4 (.alloc [.int .i64 0, .int .i64 0])]
 (.seq (.drw [(0, 1), (0, 2), (0, 4), (1, 4), (2, 4), (3, 4), (0, 5), (1, 5), (2, 5), (3, 5), (4, 5), (0, 6), (1, 6), (2, 6), (3, 6), (4, 6), (0, 7), (1, 7), (2, 7), (3, 7)] [om 5 1, oa 6 0 2, ol 7 6, o 8 (.bin .rem (.t 5) (.t 7)), om 9 1, oa 10 0 2, ol 11 10, o 12 (.bin .quo (.t 9) (.t 11)), o 13 (.build [.int .i64 0, .int .i64 0] [(0, 1, .t 8), (1, 1, .t 12)]), os 2 4 13])
 .ret))
noncomputable def X.i_hexOf (p0 : TMap) (p1 : Int) : Option THex :=
 (if p0.Width ≠ 0 then (if p0.Width ≠ 0 then some (THex.mk (Int.tmod p1 p0.Width) (W (Int.tdiv p1 p0.Width))) else none) else none)
theorem i_hexOf_ok (p0 : TMap) (p1 : Int) (r : THex) (H : X.i_hexOf p0 p1 = some r) : FK 225 [.agg (eTMap p0), cI p1] (.agg (eTHex r)) := by
 unfold X.i_hexOf at H
 refine fi Tryz.f225 i_hexOf_ir [(4, pk 4)] [(4, va (eTHex r))] glL Tryz.func225 ?_
 refine sn [] [] [(2, pk 2), (4, pk 4)] [] [(2, va (eTMap p0)), (4, .var [jI 0, jI 0] false)] id ?_
 obtain ⟨g1, H⟩ := oI H
 obtain ⟨g2, H⟩ := oI H
 refine xn [] [] [] [4] [(4, .var [jI (Int.tmod p1 p0.Width), jI (W (Int.tdiv p1 p0.Width))] false)] (fun t => aI g1 (aI g2 (t))) ?_
 refine tl [] [(4, pk 4)] [(4, .var [jI (Int.tmod p1 p0.Width), jI (W (Int.tdiv p1 p0.Width))] false)] id ?_
 cases H
 exact er
def i_nextTo_ir : S :=
 (sq [o 3 (.box 5 (.t 0)), o 6 (.mv (iv 0))]
 (.seq (.drw [(0, 1), (0, 2), (1, 2), (0, 3), (0, 4), (1, 4), (2, 4), (3, 4), (0, 5)] [o 7 (.load 5 true (.t 3)), o 8 (.load 5 true (.t 3)), om 9 1, o 10 (.call 225 [.t 8, .t 9]), om 11 2, o 12 (.call 224 [.t 10, .t 11, .v (.int .i64 1)]), o 13 (.call 223 [.t 7, .t 12]), om 6 13])
 .ret))
noncomputable def X.i_nextTo (p0 : TMap) (p1 : Int) (p2 : Int) : Option Int :=
 ((X.i_hexOf p0 p1).bind fun v1 => ((X.i_stepBy v1 p2 1).bind fun v3 => ((X.i_indexOf p0 v3).bind fun v5 => some v5)))
theorem i_nextTo_ok (p0 : TMap) (p1 : Int) (p2 : Int) (r : Int) (H : X.i_nextTo p0 p1 p2 = some r) : FK 184 [.agg (eTMap p0), cI p1, cI p2] (cI r) := by
 unfold X.i_nextTo at H
 refine fi Tryz.f184 i_nextTo_ir [(6, cI r)] [] glL Tryz.func184 ?_
 refine sn [] [] [(3, pk 3)] [] [(3, va (eTMap p0))] id ?_
 obtain ⟨v1, h2, H⟩ := oB H
 obtain ⟨v3, h4, H⟩ := oB H
 obtain ⟨v5, h6, H⟩ := oB H
 refine sx [.res (.agg (eTHex v1)), .res (.agg (eTHex v3)), .res (cI v5)] [] [(6, cI v5)] [] (fun t => aI (i_hexOf_ok p0 p1 v1 h2) (aI trivial (aI rN (aI (i_stepBy_ok v1 p2 1 v3 h4) (aI trivial (aI rN (aI (i_indexOf_ok p0 v3 v5 h6) (aI trivial (aI rN (t)))))))))) ?_
 cases H
 exact er
def i_isEdge_ir : S :=
 (sq [o 2 (.box 5 (.t 0)), o 4 (.mv bF)]
 (sq [om 5 1, oa 6 0 2, ol 7 6, o 8 (.bin .mul (iv 3) (.t 7)), oa 9 1 2, ol 10 9, o 11 (.bin .mul (.t 8) (.t 10)), o 12 (.bin .sub (.t 11) (iv 1)), o 13 (.call 59 [.t 5, .v (.int .i64 0), .t 12]), om 14 13, oh 15 (.load 5 true (.t 2)) 14, oh 16 (.mv (.t 1)) 14, oh 17 (.bin .quo (.t 16) (iv 3)) 14, oh 18 (.mv (.t 1)) 14, oh 19 (.bin .rem (.t 18) (iv 3)) 14, oh 20 (.call 184 [.t 15, .t 17, .t 19]) 14, oh 21 (.bin .geq (.t 20) (iv 0)) 14, o 22 (.pick (.t 14) (.t 21) bF), om 4 22]
 .ret))
noncomputable def X.i_isEdge (p0 : TMap) (p1 : Int) : Option Bool :=
 ((X.i_inRange p1 0 (W ((W ((W (3 * p0.Width)) * p0.Height)) - 1))).bind fun v1 => (bif v1 then ((X.i_nextTo p0 (W (Int.tdiv p1 3)) (Int.tmod p1 3)).bind fun v4 => some (decide (v4 ≥ 0))) else some false))
theorem i_isEdge_ok (p0 : TMap) (p1 : Int) (r : Bool) (H : X.i_isEdge p0 p1 = some r) : FK 146 [.agg (eTMap p0), cI p1] (cB r) := by
 unfold X.i_isEdge at H
 refine fi Tryz.f146 i_isEdge_ir [(4, cB r)] [] glL Tryz.func146 ?_
 refine sn [] [] [(2, pk 2)] [] [(2, va (eTMap p0))] id ?_
 obtain ⟨v1, h2, H⟩ := oB H
 rcases oC H with ⟨c3, H⟩ | ⟨c3, H⟩
 ·obtain ⟨v4, h5, H⟩ := oB H
  refine so ([.res (cB v1)] ++ rg 6 true ([.res (cI v4)] ++ rg 2 true [])) [] [(4, cB (decide (v4 ≥ 0)))] [] (fun t => aI (i_inRange_ok p1 0 (W ((W ((W (3 * p0.Width)) * p0.Height)) - 1)) v1 h2) (aG 3 c3 (aI (by decide : (3 : Int) ≠ 0) (aG 2 c3 (aI (by decide : (3 : Int) ≠ 0) (aI c3 (aI (i_nextTo_ok p0 (W (Int.tdiv p1 3)) (Int.tmod p1 3) v4 h5) (aG 2 c3 (t))))))))) ?_
  cases H
  exact er
 ·refine so ([.res (cB v1)] ++ rg 8 false []) [] [(4, cB false)] [] (fun t => aI (i_inRange_ok p1 0 (W ((W ((W (3 * p0.Width)) * p0.Height)) - 1)) v1 h2) (aG 8 c3 (t))) ?_
  cases H
  exact er
def i_IsMap_ir : S :=
 (sq [o 1 (.box 5 (.t 0)), o 2 (.mv bF)]
 (.seq (sq [oa 9 0 1, ol 10 9, o 11 (.call 59 [.t 10, .v (.int .i64 1), .v (.int .i64 10)]), o 12 (.not (.t 11)), om 13 12, og 14 (.fad 1 (.t 1)) 13, og 15 (.load 1 false (.t 14)) 13, og 16 (.call 59 [.t 15, .v (.int .i64 1), .v (.int .i64 10)]) 13, og 17 (.not (.t 16)) 13, o 18 (.pick (.t 13) bT (.t 17)), om 19 18, og 20 (.fad 2 (.t 1)) 19, og 21 (.load 1 false (.t 20)) 19, og 22 (.len (.t 21)) 19, og 23 (.fad 0 (.t 1)) 19, og 24 (.load 1 false (.t 23)) 19, og 25 (.fad 1 (.t 1)) 19, og 26 (.load 1 false (.t 25)) 19, og 27 (.bin .mul (.t 24) (.t 26)) 19, og 28 (.bin .neq (.t 22) (.t 27)) 19, o 29 (.pick (.t 19) bT (.t 28))]
 (.ite (.t 29) (sq [o 2 (.mv bF)]
  .ret)
 .skip))
 (.seq (sq [oa 30 2 1, ol 31 30, o 32 (.len (.t 31)), o 33 (.mv (iv 0))]
 (.blk 0 (.loop (sq [o 34 (.bin .lss (.t 33) (.t 32))]
   (.seq (.ite (.t 34) .skip
   (.exit 0))
   (.seq (.blk 1 (sq [o 35 (.iad 1 (.t 31) (.t 33)), ol 36 35, om 4 36]
    (sq [om 37 4, o 38 (.call 102 [.t 37, .v (.int .i64 6)]), o 39 (.not (.t 38))]
    (.ite (.t 39) (sq [o 2 (.mv bF)]
     .ret)
    .skip))))
   (.ops [o 40 (.bin .add (.t 33) (iv 1)), om 33 40])))))))
 (.seq (sq [oa 41 3 1, ol 42 41, oa 43 4 1, ol 44 43, o 45 (.bsl 1 [.t 42, .t 44]), o 46 (.len (.t 45)), o 47 (.mv (iv 0))]
 (.blk 2 (.loop (sq [o 48 (.bin .lss (.t 47) (.t 46))]
   (.seq (.ite (.t 48) .skip
   (.exit 2))
   (.seq (.blk 3 (sq [o 49 (.iad 1 (.t 45) (.t 47)), ol 50 49, om 6 50]
    (.seq (sq [om 51 6, o 52 (.call 100 [.t 51]), o 53 (.not (.t 52))]
    (.ite (.t 53) (sq [o 2 (.mv bF)]
     .ret)
    .skip))
    (sq [om 54 6, o 55 (.len (.t 54)), o 56 (.mv (iv 0))]
    (.blk 4 (.loop (sq [o 57 (.bin .lss (.t 56) (.t 55))]
      (.seq (.ite (.t 57) .skip
      (.exit 4))
      (.seq (.blk 5 (sq [o 58 (.iad 1 (.t 54) (.t 56)), ol 59 58, om 8 59]
       (sq [o 60 (.load 5 true (.t 1)), om 61 8, o 62 (.call 146 [.t 60, .t 61]), o 63 (.not (.t 62))]
       (.ite (.t 63) (sq [o 2 (.mv bF)]
        .ret)
       .skip))))
      (.ops [o 64 (.bin .add (.t 56) (iv 1)), om 56 64]))))))))))
   (.ops [o 65 (.bin .add (.t 47) (iv 1)), om 47 65])))))))
 (sq [o 2 (.mv bT)]
 .ret)))))
noncomputable def X.i_IsMap (p0 : TMap) : Option Bool :=
 ((X.i_inRange p0.Width 1 10).bind fun v8 => (bif (!v8) then some false else ((X.i_inRange p0.Height 1 10).bind fun v11 => (bif (!v11) then some false else (bif ((p0.Terrain.length : Int) != (W (p0.Width * p0.Height))) then some false else ((loop (fun (x57 : Int) => ((bif (decide (x57 < (p0.Terrain.length : Int))) then ((at' zI p0.Terrain x57).bind fun v60 => ((X.i_isIndex v60 6).bind fun v62 => (bif (!v62) then some (Sum.inr (Sum.inr false)) else some (Sum.inl (W (x57 + 1)))))) else some (Sum.inr (Sum.inl ()))) : Option (Int ⊕ (Unit ⊕ Bool)))) 0).bind fun y65 => (Sum.elim (fun (y67 : Unit) => ((loop (fun (x142 : Int) => ((bif (decide (x142 < (([p0.Rivers, p0.Roads] : List (List Int)).length : Int))) then (if 0 ≤ x142 ∧ x142 < (([p0.Rivers, p0.Roads] : List (List Int)).length : Int) then ((X.i_increasing (([p0.Rivers, p0.Roads] : List (List Int)).getD x142.toNat zLI)).bind fun v149 => (bif (!v149) then some (Sum.inr (Sum.inr false)) else ((loop (fun (x167 : Int) => ((bif (decide (x167 < ((([p0.Rivers, p0.Roads] : List (List Int)).getD x142.toNat zLI).length : Int))) then ((at' zI (([p0.Rivers, p0.Roads] : List (List Int)).getD x142.toNat zLI) x167).bind fun v170 => ((X.i_isEdge p0 v170).bind fun v172 => (bif (!v172) then some (Sum.inr (Sum.inr false)) else some (Sum.inl (W (x167 + 1)))))) else some (Sum.inr (Sum.inl ()))) : Option (Int ⊕ (Unit ⊕ Bool)))) 0).bind fun y175 => (Sum.elim (fun (y177 : Unit) => some (Sum.inl (W (x142 + 1)))) (fun (y178 : Bool) => some (Sum.inr (Sum.inr y178))) y175)))) else none) else some (Sum.inr (Sum.inl ()))) : Option (Int ⊕ (Unit ⊕ Bool)))) 0).bind fun y179 => (Sum.elim (fun (y181 : Unit) => some true) (fun (y182 : Bool) => some y182) y179))) (fun (y68 : Bool) => some y68) y65)))))))
theorem i_IsMap_ok (p0 : TMap) (r : Bool) (H : X.i_IsMap p0 = some r) : FK 91 [.agg (eTMap p0)] (cB r) := by
 unfold X.i_IsMap at H
 refine fi Tryz.f91 i_IsMap_ir [(2, cB r)] [] glL Tryz.func91 ?_
 refine so [] [] [(1, pk 1)] [(1, va (eTMap p0))] id ?_
 refine seq_in ?_
 obtain ⟨v8, h9, H⟩ := oB H
 rcases oC H with ⟨c10, H⟩ | ⟨c10, H⟩
 ·refine sn ([.res (cB v8)] ++ rg 15 true []) [] [(29, cB true)] [] [] (fun t => aI (i_inRange_ok p0.Width 1 10 v8 h9) (aG 5 c10 (aG 10 rT (t)))) ?_
  refine it rT ?_
  refine so [] [] [(2, cB false)] [] id ?_
  cases H
  exact er
 ·obtain ⟨v11, h12, H⟩ := oB H
  rcases oC H with ⟨c13, H⟩ | ⟨c13, H⟩
  ·refine sn ([.res (cB v8)] ++ rg 3 false ([.res (cB v11)] ++ rg 2 false (rg 10 true []))) [] [(29, cB true)] [] [] (fun t => aI (i_inRange_ok p0.Width 1 10 v8 h9) (aG 3 c10 (aI (i_inRange_ok p0.Height 1 10 v11 h12) (aG 2 c10 (aG 10 c13 (t)))))) ?_
   refine it rT ?_
   refine so [] [] [(2, cB false)] [] id ?_
   cases H
   exact er
  ·refine sn ([.res (cB v8)] ++ rg 3 false ([.res (cB v11)] ++ rg 12 false [])) [] [(29, cB ((p0.Terrain.length : Int) != (W (p0.Width * p0.Height))))] [] [] (fun t => aI (i_inRange_ok p0.Width 1 10 v8 h9) (aG 3 c10 (aI (i_inRange_ok p0.Height 1 10 v11 h12) (aG 2 c10 (aG 3 c13 (lI p0.Terrain (aG 7 c13 (t)))))))) ?_
   rcases oC H with ⟨c14, H⟩ | ⟨c14, H⟩
   ·refine it c14 ?_
    refine so [] [] [(2, cB false)] [] id ?_
    cases H
    exact er
   ·refine jf c14 ?_
    refine sk ?_
    refine seq_in ?_
    refine sn [] [] [(31, dc 1 eI zI p0.Terrain), (32, cL p0.Terrain), (33, cI 0)] [] [] (fun t => lI p0.Terrain (t)) ?_
    refine ends_blk ?_
    obtain ⟨y65, h66, H⟩ := oB H
    refine tl [] [(1, pk 1), (31, dc 1 eI zI p0.Terrain), (32, cL p0.Terrain), (33, cI 0)] [(1, va (eTMap p0))] id ?_
    refine loop_in (fun (x : Int) => lit [(1, pk 1), (31, dc 1 eI zI p0.Terrain), (32, cL p0.Terrain), (33, cI x)] [(1, va (eTMap p0))]) (orJ (fun (z : Unit) => At (.exit 0) (lit [(1, pk 1)] [(1, va (eTMap p0))])) (fun (z : Bool) => At .ret (lit [(2, cB z)] []))) h66 ?_ ?_
    ·clear H h66
     intro x57 y0 H
     refine sn [] [] [(34, cB (decide (x57 < (p0.Terrain.length : Int))))] [] [] id ?_
     refine seq_in ?_
     rcases oC H with ⟨c59, H⟩ | ⟨c59, H⟩
     ·refine it c59 ?_
      refine sk ?_
      refine seq_in ?_
      refine ends_blk ?_
      obtain ⟨v60, h61, H⟩ := oB H
      refine sn [.cs (eI v60)] [] [(4, cI v60)] [] [] (a2 eI h61) ?_
      obtain ⟨v62, h63, H⟩ := oB H
      refine sn [.res (cB v62)] [] [(39, cB (!v62))] [] [] (aI (i_isIndex_ok v60 6 v62 h63)) ?_
      rcases oC H with ⟨c64, H⟩ | ⟨c64, H⟩
      ·refine it c64 ?_
       refine so [] [] [(2, cB false)] [] id ?_
       refine ends_ret ?_
       cases H
       exact rsr
      ·refine jf c64 ?_
       refine sk ?_
       refine oo [] [] [(1, pk 1), (31, dc 1 eI zI p0.Terrain), (32, cL p0.Terrain), (33, cI (W (x57 + 1)))] [(1, va (eTMap p0))] id ?_
       cases H
       exact rr
     ·refine jf c59 ?_
      refine tl [] [(1, pk 1)] [(1, va (eTMap p0))] id ?_
      refine ends_exit ?_
      cases H
      exact rse
    ·clear h66
     cases y65 with
     | inl y67 =>
      replace H := ofInl H
      rintro e s ⟨rfl, rfl⟩
      change EndsI _ _ _ _ _ _
      refine seq_in ?_
      refine sn [fh eLI zLI ([p0.Rivers, p0.Roads] : List (List Int))] [] [(45, ow 45 1 ([p0.Rivers, p0.Roads] : List (List Int))), (46, cL ([p0.Rivers, p0.Roads] : List (List Int))), (47, cI 0)] [] [(45, ar 1 eLI zLI ([p0.Rivers, p0.Roads] : List (List Int)))] (fun t => aI (rfl : ([p0.Rivers, p0.Roads] : List (List Int)).length = 2) (aI (fF_lit eLI zLI ([p0.Rivers, p0.Roads] : List (List Int))) ((fun (_ : ([p0.Rivers, p0.Roads] : List (List Int)).length ≤ maxLen) => t)))) ?_
      refine ends_blk ?_
      obtain ⟨y179, h180, H⟩ := oB H
      refine tl [] [(1, pk 1), (45, ow 45 1 ([p0.Rivers, p0.Roads] : List (List Int))), (46, cL ([p0.Rivers, p0.Roads] : List (List Int))), (47, cI 0)] [(1, va (eTMap p0)), (45, ar 1 eLI zLI ([p0.Rivers, p0.Roads] : List (List Int)))] id ?_
      refine loop_in (fun (x : Int) => lit [(1, pk 1), (45, ow 45 1 ([p0.Rivers, p0.Roads] : List (List Int))), (46, cL ([p0.Rivers, p0.Roads] : List (List Int))), (47, cI x)] [(1, va (eTMap p0)), (45, ar 1 eLI zLI ([p0.Rivers, p0.Roads] : List (List Int)))]) (orJ (fun (z : Unit) => At (.exit 2) (lit [] [])) (fun (z : Bool) => At .ret (lit [(2, cB z)] []))) h180 ?_ ?_
      ·clear H h180
       intro x142 y0 H
       refine sn [] [] [(48, cB (decide (x142 < (([p0.Rivers, p0.Roads] : List (List Int)).length : Int))))] [] [] id ?_
       refine seq_in ?_
       rcases oC H with ⟨c144, H⟩ | ⟨c144, H⟩
       ·refine it c144 ?_
        refine sk ?_
        refine seq_in ?_
        refine ends_blk ?_
        obtain ⟨g145, H⟩ := oI H
        refine sn [.no] [] [(6, .c (dat 1 eI zI (([p0.Rivers, p0.Roads] : List (List Int)).getD x142.toNat zLI)))] [] [] (fun t => aI g145 (aI (nat_lt g145) (t))) ?_
        refine seq_in ?_
        obtain ⟨v149, h150, H⟩ := oB H
        refine sn [.res (cB v149)] [] [(53, cB (!v149))] [] [] (aI (i_increasing_ok (([p0.Rivers, p0.Roads] : List (List Int)).getD x142.toNat zLI) v149 h150)) ?_
        rcases oC H with ⟨c151, H⟩ | ⟨c151, H⟩
        ·refine it c151 ?_
         refine so [] [] [(2, cB false)] [] id ?_
         refine ends_ret ?_
         cases H
         exact rsr
        ·refine jf c151 ?_
         refine sk ?_
         refine sn [] [] [(54, .c (dat 1 eI zI (([p0.Rivers, p0.Roads] : List (List Int)).getD x142.toNat zLI))), (55, cL (([p0.Rivers, p0.Roads] : List (List Int)).getD x142.toNat zLI)), (56, cI 0)] [] [] (fun t => (fun (_ : (([p0.Rivers, p0.Roads] : List (List Int)).getD x142.toNat zLI).length ≤ maxLen) => t)) ?_
         refine ends_blk ?_
         obtain ⟨y175, h176, H⟩ := oB H
         refine tl [] [(1, pk 1), (45, ow 45 1 ([p0.Rivers, p0.Roads] : List (List Int))), (46, cL ([p0.Rivers, p0.Roads] : List (List Int))), (47, cI x142), (54, .c (dat 1 eI zI (([p0.Rivers, p0.Roads] : List (List Int)).getD x142.toNat zLI))), (55, cL (([p0.Rivers, p0.Roads] : List (List Int)).getD x142.toNat zLI)), (56, cI 0)] [(1, va (eTMap p0)), (45, ar 1 eLI zLI ([p0.Rivers, p0.Roads] : List (List Int)))] id ?_
         refine loop_in (fun (x : Int) => lit [(1, pk 1), (45, ow 45 1 ([p0.Rivers, p0.Roads] : List (List Int))), (46, cL ([p0.Rivers, p0.Roads] : List (List Int))), (47, cI x142), (54, .c (dat 1 eI zI (([p0.Rivers, p0.Roads] : List (List Int)).getD x142.toNat zLI))), (55, cL (([p0.Rivers, p0.Roads] : List (List Int)).getD x142.toNat zLI)), (56, cI x)] [(1, va (eTMap p0)), (45, ar 1 eLI zLI ([p0.Rivers, p0.Roads] : List (List Int)))]) (orJ (fun (z : Unit) => At (.exit 4) (lit [(1, pk 1), (45, ow 45 1 ([p0.Rivers, p0.Roads] : List (List Int))), (46, cL ([p0.Rivers, p0.Roads] : List (List Int))), (47, cI x142)] [(1, va (eTMap p0)), (45, ar 1 eLI zLI ([p0.Rivers, p0.Roads] : List (List Int)))])) (fun (z : Bool) => At .ret (lit [(2, cB z)] []))) h176 ?_ ?_
         ·clear H h176
          intro x167 y0 H
          refine sn [] [] [(57, cB (decide (x167 < ((([p0.Rivers, p0.Roads] : List (List Int)).getD x142.toNat zLI).length : Int))))] [] [] id ?_
          refine seq_in ?_
          rcases oC H with ⟨c169, H⟩ | ⟨c169, H⟩
          ·refine it c169 ?_
           refine sk ?_
           refine seq_in ?_
           refine ends_blk ?_
           obtain ⟨v170, h171, H⟩ := oB H
           refine sn [.cs (eI v170)] [] [(8, cI v170)] [] [] (a2 eI h171) ?_
           obtain ⟨v172, h173, H⟩ := oB H
           refine sn [.res (cB v172)] [] [(63, cB (!v172))] [] [] (aI (i_isEdge_ok p0 v170 v172 h173)) ?_
           rcases oC H with ⟨c174, H⟩ | ⟨c174, H⟩
           ·refine it c174 ?_
            refine so [] [] [(2, cB false)] [] id ?_
            refine ends_ret ?_
            cases H
            exact rsr
           ·refine jf c174 ?_
            refine sk ?_
            refine oo [] [] [(1, pk 1), (45, ow 45 1 ([p0.Rivers, p0.Roads] : List (List Int))), (46, cL ([p0.Rivers, p0.Roads] : List (List Int))), (47, cI x142), (54, .c (dat 1 eI zI (([p0.Rivers, p0.Roads] : List (List Int)).getD x142.toNat zLI))), (55, cL (([p0.Rivers, p0.Roads] : List (List Int)).getD x142.toNat zLI)), (56, cI (W (x167 + 1)))] [(1, va (eTMap p0)), (45, ar 1 eLI zLI ([p0.Rivers, p0.Roads] : List (List Int)))] id ?_
            cases H
            exact rr
          ·refine jf c169 ?_
           refine tl [] [(1, pk 1), (45, ow 45 1 ([p0.Rivers, p0.Roads] : List (List Int))), (46, cL ([p0.Rivers, p0.Roads] : List (List Int))), (47, cI x142)] [(1, va (eTMap p0)), (45, ar 1 eLI zLI ([p0.Rivers, p0.Roads] : List (List Int)))] id ?_
           refine ends_exit ?_
           cases H
           exact rse
         ·clear h176
          cases y175 with
          | inl y177 =>
           replace H := ofInl H
           rintro e s ⟨rfl, rfl⟩
           change EndsI _ _ _ _ _ _
           refine oo [] [] [(1, pk 1), (45, ow 45 1 ([p0.Rivers, p0.Roads] : List (List Int))), (46, cL ([p0.Rivers, p0.Roads] : List (List Int))), (47, cI (W (x142 + 1)))] [(1, va (eTMap p0)), (45, ar 1 eLI zLI ([p0.Rivers, p0.Roads] : List (List Int)))] id ?_
           cases H
           exact rr
          | inr y178 =>
           replace H := ofInr H
           rintro e s ⟨rfl, rfl⟩
           cases H
           exact rsr
       ·refine jf c144 ?_
        refine tl [] [] [] id ?_
        refine ends_exit ?_
        cases H
        exact rse
      ·clear h180
       cases y179 with
       | inl y181 =>
        replace H := ofInl H
        rintro e s ⟨rfl, rfl⟩
        change EndsI _ _ _ _ _ _
        refine so [] [] [(2, cB true)] [] id ?_
        cases H
        exact er
       | inr y182 =>
        replace H := ofInr H
        rintro e s ⟨rfl, rfl⟩
        cases H
        exact qr
     | inr y68 =>
      replace H := ofInr H
      rintro e s ⟨rfl, rfl⟩
      cases H
      exact qr
theorem g_IndexFunc_int_c1_ok (p0 : (List Int)) (cf1 : FuncId) (cs1_0 : List AC) (f1 : Int → Option Bool) (hf1 : ∀ q0 r, f1 q0 = some r → FK cf1 [cI q0, .c (.pd cs1_0 0)] (cB r)) (r : Int) (H : X.g_IndexFunc_int p0 f1 = some r) : FK 147 [.c (dat 1 eI zI p0), .c (.clo cf1 [.pd cs1_0 0])] (cI r) := by
 unfold X.g_IndexFunc_int at H
 refine fi Tryz.f147 g_IndexFunc_int_ir [(4, cI r)] [] glL Tryz.func147 ?_
 refine sn [] [] [] [] [] id ?_
 refine seq_in ?_
 refine sn [] [] [(7, cL p0), (8, cI 0)] [] [] (fun t => lI p0 (t)) ?_
 refine ends_blk ?_
 obtain ⟨y24, h25, H⟩ := oB H
 refine tl [] [(0, dc 1 eI zI p0), (1, .c (.clo cf1 [.pd cs1_0 0])), (7, cL p0), (8, cI 0)] [] id ?_
 refine loop_in (fun (x : Int) => lit [(0, dc 1 eI zI p0), (1, .c (.clo cf1 [.pd cs1_0 0])), (7, cL p0), (8, cI x)] []) (orJ (fun (z : Unit) => At (.exit 0) (lit [] [])) (fun (z : Int) => At .ret (lit [(4, cI z)] []))) h25 ?_ ?_
 ·clear H h25
  intro x16 y0 H
  refine sn [] [] [(9, cB (decide (x16 < (p0.length : Int))))] [] [] id ?_
  refine seq_in ?_
  rcases oC H with ⟨c18, H⟩ | ⟨c18, H⟩
  ·refine it c18 ?_
   refine sk ?_
   refine seq_in ?_
   refine ends_blk ?_
   refine sn [] [] [(5, cI x16)] [] [] id ?_
   obtain ⟨v19, h20, H⟩ := oB H
   obtain ⟨v21, h22, H⟩ := oB H
   refine sn [.cs (eI v19), .res (cB v21)] [] [(16, cB v21)] [] [] (fun t => (a2 eI h20 (aI (hf1 v19 v21 h22) (t)))) ?_
   rcases oC H with ⟨c23, H⟩ | ⟨c23, H⟩
   ·refine it c23 ?_
    refine so [] [] [(4, cI x16)] [] id ?_
    refine ends_ret ?_
    cases H
    exact rsr
   ·refine jf c23 ?_
    refine sk ?_
    refine oo [] [] [(0, dc 1 eI zI p0), (1, .c (.clo cf1 [.pd cs1_0 0])), (7, cL p0), (8, cI (W (x16 + 1)))] [] id ?_
    cases H
    exact rr
  ·refine jf c18 ?_
   refine tl [] [] [] id ?_
   refine ends_exit ?_
   cases H
   exact rse
 ·clear h25
  cases y24 with
  | inl y26 =>
   replace H := ofInl H
   rintro e s ⟨rfl, rfl⟩
   change EndsI _ _ _ _ _ _
   refine so [] [] [(4, cI (-1))] [] id ?_
   cases H
   exact er
  | inr y27 =>
   replace H := ofInr H
   rintro e s ⟨rfl, rfl⟩
   cases H
   exact qr
theorem g_ContainsFunc_int_c1_ok (p0 : (List Int)) (cf1 : FuncId) (cs1_0 : List AC) (f1 : Int → Option Bool) (hf1 : ∀ q0 r, f1 q0 = some r → FK cf1 [cI q0, .c (.pd cs1_0 0)] (cB r)) (r : Bool) (H : X.g_ContainsFunc_int p0 f1 = some r) : FK 92 [.c (dat 1 eI zI p0), .c (.clo cf1 [.pd cs1_0 0])] (cB r) := by
 unfold X.g_ContainsFunc_int at H
 refine fi Tryz.f92 g_ContainsFunc_int_ir [(4, cB r)] [] glL Tryz.func92 ?_
 refine sn [] [] [] [] [] id ?_
 obtain ⟨v1, h2, H⟩ := oB H
 refine so [.res (cI v1)] [] [(4, cB (decide (v1 ≥ 0)))] [] (aI (g_IndexFunc_int_c1_ok p0 (cf1) (cs1_0) f1 hf1 v1 h2)) ?_
 cases H
 exact er
def i_IsBoard_1_ir : S :=
 (sq [o 3 (.mv bF)]
 (sq [om 4 0, oa 5 0 1, oa 6 0 5, ol 7 6, o 8 (.len (.t 7)), o 9 (.bin .geq (.t 4) (.t 8)), om 3 9]
 .ret))
noncomputable def X.i_IsBoard_1 (p0 : Int) (p1 : TBoard) : Option Bool :=
 some (decide (p0 ≥ (p1.Rules.Terrains.length : Int)))
theorem i_IsBoard_1_ok (p0 : Int) (p1 : TBoard) (r : Bool) (H : X.i_IsBoard_1 p0 p1 = some r) : FK 93 [cI p0, .c (.pd (eTBoard p1) 0)] (cB r) := by
 unfold X.i_IsBoard_1 at H
 refine fi Tryz.f93 i_IsBoard_1_ir [(3, cB r)] [] glL Tryz.func93 ?_
 refine sn [] [] [] [] [] id ?_
 refine so [] [] [(3, cB (decide (p0 ≥ (p1.Rules.Terrains.length : Int))))] [] (fun t => lI p1.Rules.Terrains (t)) ?_
 cases H
 exact er
def i_IsBoard_ir : S :=
 (sq [o 1 (.box 12 (.t 0)), o 2 (.mv bF)]
 (.seq (sq [oa 3 0 1, o 4 (.load 7 true (.t 3)), o 5 (.call 90 [.t 4]), o 6 (.not (.t 5)), om 7 6, og 8 (.fad 7 (.t 1)) 7, og 9 (.load 5 true (.t 8)) 7, og 10 (.call 91 [.t 9]) 7, og 11 (.not (.t 10)) 7, o 12 (.pick (.t 7) bT (.t 11))]
 (.ite (.t 12) (sq [o 2 (.mv bF)]
  .ret)
 .skip))
 (sq [oa 13 7 1, oa 14 2 13, ol 15 14, o 16 (.clo 93 [.t 1]), o 17 (.call 92 [.t 15, .t 16]), o 18 (.not (.t 17)), om 2 18]
 .ret)))
noncomputable def X.i_IsBoard (p0 : TBoard) : Option Bool :=
 ((X.i_IsRules p0.Rules).bind fun v7 => (bif (!v7) then some false else ((X.i_IsMap p0.Map).bind fun v10 => (bif (!v10) then some false else ((X.g_ContainsFunc_int p0.Map.Terrain (fun q0 => X.i_IsBoard_1 q0 p0)).bind fun v13 => some (!v13))))))
theorem i_IsBoard_ok (p0 : TBoard) (r : Bool) (H : X.i_IsBoard p0 = some r) : FK 37 [.agg (eTBoard p0)] (cB r) := by
 unfold X.i_IsBoard at H
 refine fi Tryz.f37 i_IsBoard_ir [(2, cB r)] [] glL Tryz.func37 ?_
 refine so [] [] [(1, pk 1)] [(1, va (eTBoard p0))] id ?_
 refine seq_in ?_
 obtain ⟨v7, h8, H⟩ := oB H
 rcases oC H with ⟨c9, H⟩ | ⟨c9, H⟩
 ·refine sn ([.res (cB v7)] ++ rg 5 true []) [] [(12, cB true)] [] [] (fun t => aI (i_IsRules_ok p0.Rules v7 h8) (aG 5 c9 (t))) ?_
  refine it rT ?_
  refine so [] [] [(2, cB false)] [] id ?_
  cases H
  exact er
 ·obtain ⟨v10, h11, H⟩ := oB H
  refine sn ([.res (cB v7)] ++ rg 3 false ([.res (cB v10)] ++ rg 2 false [])) [] [(12, cB (!v10))] [] [] (fun t => aI (i_IsRules_ok p0.Rules v7 h8) (aG 3 c9 (aI (i_IsMap_ok p0.Map v10 h11) (aG 2 c9 (t))))) ?_
  rcases oC H with ⟨c12, H⟩ | ⟨c12, H⟩
  ·refine it c12 ?_
   refine so [] [] [(2, cB false)] [] id ?_
   cases H
   exact er
  ·refine jf c12 ?_
   refine sk ?_
   obtain ⟨v13, h14, H⟩ := oB H
   refine so [.res (cB v13)] [] [(2, cB (!v13))] [] (aI (g_ContainsFunc_int_c1_ok p0.Map.Terrain (93) (eTBoard p0) (fun q0 => X.i_IsBoard_1 q0 p0) (fun q0 r h => i_IsBoard_1_ok q0 p0 r h) v13 h14)) ?_
   cases H
   exact er
noncomputable def X.i_readInt (p0 : List UInt8) : Option (Int × Bool) :=
 (if p0.length ≤ 281474976710656 then some (rdInt p0) else none)
theorem i_readInt_ok (p0 : List UInt8) (r : Int × Bool) (H : X.i_readInt p0 = some r) : FK 38 [.c (.str p0)] (.tup [(false, [.int .i64 r.1]), (false, [.bool r.2])]) := by
 unfold X.i_readInt at H
 obtain ⟨g, H⟩ := oI H
 cases H
 exact rint_fn (by kernel_rfl) (g1 := 1) (g2 := 2) (g3 := 3) (zs := Lib.pow10Tab) (nm := "internal/strconv.uint64pow10") (by decide) (by kernel_rfl) rfl rfl rfl GPar.h1 GPar.h2 (fun s hs h ev w hv hev => readInt_syntax s hs h ev w hv hev) (fun s hs h ev w hv hev => readInt_range s hs h ev w hv hev) (fun s hs v h h10 w => readInt_long s hs v h h10 w) (fun s hs v h h10 w ht b hb => readInt_ok s hs v h h10 w ht b hb) p0 g
def i_readWords_ir : S :=
 (sq [o 4 (.mv (.v (.nil))), o 5 (.mv bF)]
 (sq [om 12 0, o 13 (.call 36 [.t 12, .v (.str [32])]), om 6 13]
 (.seq (sq [om 14 6, o 15 (.iad 1 (.t 14) (iv 0)), ol 16 15, om 17 1, o 18 (.bin .neq (.t 16) (.t 17))]
 (.ite (.t 18) (sq [o 4 (.mv (.v (.nil))), o 5 (.mv bF)]
  .ret)
 .skip))
 (sq [o 19 (.bsl 1 []), om 7 19]
 (.seq (sq [om 20 6, o 21 (.slc 1 (.t 20) (some (iv 1)) none), o 22 (.len (.t 21)), o 23 (.mv (iv 0))]
 (.blk 0 (.loop (sq [o 24 (.bin .lss (.t 23) (.t 22))]
   (.seq (.ite (.t 24) .skip
   (.exit 0))
   (.seq (.blk 1 (sq [o 25 (.iad 1 (.t 21) (.t 23)), ol 26 25, om 9 26]
    (sq [om 28 9, o 29 (.call 38 [.t 28]), om 27 29, o 30 (.ext (.t 27) 0), o 31 (.ext (.t 27) 1), om 10 30, om 11 31]
    (.seq (sq [om 32 11, o 33 (.not (.t 32))]
    (.ite (.t 33) (sq [o 4 (.mv (.v (.nil))), o 5 (.mv bF)]
     .ret)
    .skip))
    (.ops [om 34 7, om 35 10, o 36 (.bsl 1 [.t 35]), o 37 (.app 1 8 (.t 34) (.t 36)), om 7 37])))))
   (.ops [o 38 (.bin .add (.t 23) (iv 1)), om 23 38])))))))
 (sq [om 39 7, om 4 39, o 5 (.mv bT)]
 .ret))))))
noncomputable def X.i_readWords (p0 : (List UInt8)) (p1 : (List UInt8)) : Option ((List Int) × Bool) :=
 ((X.x_strings_Split p0 [32]).bind fun v1 => ((at' zS v1 0).bind fun v6 => (bif (!(v6 == p1)) then some (([] : List Int), false) else (if 0 ≤ (1 : Int) ∧ (1 : Int) ≤ (v1.length : Int) ∧ (v1.length : Int) ≤ (v1.length : Int) then ((loop (fun (x27 : (Int × (List Int))) => ((bif (decide (x27.1 < (((v1.drop (1 : Int).toNat).take ((v1.length : Int).toNat - (1 : Int).toNat)).length : Int))) then ((at' zS ((v1.drop (1 : Int).toNat).take ((v1.length : Int).toNat - (1 : Int).toNat)) x27.1).bind fun v30 => ((X.i_readInt v30).bind fun v32 => (bif (!v32.2) then some (Sum.inr (Sum.inr (false, ([] : List Int)))) else (if (x27.2 ++ ([v32.1] : List Int)).length ≤ LIM then some (Sum.inl ((W (x27.1 + 1)), (x27.2 ++ ([v32.1] : List Int)))) else none)))) else some (Sum.inr (Sum.inl x27.2))) : Option ((Int × (List Int)) ⊕ ((List Int) ⊕ (Bool × (List Int)))))) (0, ([] : List Int))).bind fun y36 => (Sum.elim (fun (y38 : (List Int)) => some (y38, true)) (fun (y39 : (Bool × (List Int))) => some (y39.2, y39.1)) y36)) else none))))
theorem i_readWords_Mdd_ok (p0 : (List UInt8)) (p1 : (List UInt8)) (r : ((List Int) × Bool)) (H : X.i_readWords p0 p1 = some r) : FnMu Tryz.prog gl 39 [.c (.str p0), .c (.str p1)] [] (.tup [(false, [.own 900000 1 0 r.1.length]), (false, [.bool r.2])]) [(900000, .arr 1 r.1.length (fF eI zI r.1) false)] := by
 unfold X.i_readWords at H
 refine fn_mu (fn := Tryz.f39) (ir := i_readWords_ir) (E' := [(4, ow 900000 1 r.1), (5, cB r.2)]) (E1 := [(900000, ar 1 eI zI r.1)]) glL Tryz.func39 (by kernel_rfl) (by kernel_rfl) (by kernel_rfl) (by kernel_rfl) (by kernel_rfl) ?_
 refine sn [] [] [] [] [] id ?_
 obtain ⟨v1, h2, H⟩ := oB H
 refine sn [.res (dc 1 eS zS v1)] [] [(6, dc 1 eS zS v1)] [] [] (aI (x_strings_Split_ok p0 [32] v1 h2)) ?_
 refine seq_in ?_
 obtain ⟨v6, h7, H⟩ := oB H
 refine sn [.cs (eS v6)] [] [(18, cB (!(v6 == p1)))] [] [] (a2 eS h7) ?_
 rcases oC H with ⟨c8, H⟩ | ⟨c8, H⟩
 ·refine it c8 ?_
  refine so [] [] [(4, .c (.nil)), (5, cB false)] [] id ?_
  refine tl [.nlo 4 900000 1 (fF eI zI ([] : List Int))] [(4, ow 900000 1 ([] : List Int)), (5, cB false)] [(900000, ar 1 eI zI ([] : List Int))] (aI (by decide : 0 < 1)) ?_
  cases H
  exact er
 ·refine jf c8 ?_
  refine sk ?_
  refine sn [fh eI zI ([] : List Int)] [] [(7, ow 19 1 ([] : List Int))] [] [(19, ar 1 eI zI ([] : List Int))] (fun t => aI (rfl : ([] : List Int).length = 0) (aI (fF_lit eI zI ([] : List Int)) (t))) ?_
  refine seq_in ?_
  obtain ⟨g9, H⟩ := oI H
  refine sn [fh eS zS ((v1.drop (1 : Int).toNat).take ((v1.length : Int).toNat - (1 : Int).toNat))] [] [(21, .c (dat 1 eS zS ((v1.drop (1 : Int).toNat).take ((v1.length : Int).toNat - (1 : Int).toNat)))), (22, cL ((v1.drop (1 : Int).toNat).take ((v1.length : Int).toNat - (1 : Int).toNat))), (23, cI 0)] [] [] (fun t => aI g9 (aI (len_drop v1 (1 : Int) (v1.length : Int) g9) (aI (fF_drop eS zS v1 (1 : Int) (v1.length : Int) g9) ((fun (_ : ((v1.drop (1 : Int).toNat).take ((v1.length : Int).toNat - (1 : Int).toNat)).length ≤ maxLen) => t))))) ?_
  refine ends_blk ?_
  obtain ⟨y36, h37, H⟩ := oB H
  refine tl [.ren 19 1001] [(7, ow 1001 1 ([] : List Int)), (21, .c (dat 1 eS zS ((v1.drop (1 : Int).toNat).take ((v1.length : Int).toNat - (1 : Int).toNat)))), (22, cL ((v1.drop (1 : Int).toNat).take ((v1.length : Int).toNat - (1 : Int).toNat))), (23, cI 0)] [(1001, ar 1 eI zI ([] : List Int))] id ?_
  refine loop_in (fun (x : (Int × (List Int))) => lit [(7, ow 1001 1 x.2), (21, .c (dat 1 eS zS ((v1.drop (1 : Int).toNat).take ((v1.length : Int).toNat - (1 : Int).toNat)))), (22, cL ((v1.drop (1 : Int).toNat).take ((v1.length : Int).toNat - (1 : Int).toNat))), (23, cI x.1)] [(1001, ar 1 eI zI x.2)]) (orJ (fun (z : (List Int)) => At (.exit 0) (lit [(7, ow 1001 1 z)] [(1001, ar 1 eI zI z)])) (fun (z : (Bool × (List Int))) => At .ret (lit [(4, ow 900000 1 z.2), (5, cB z.1)] [(900000, ar 1 eI zI z.2)]))) h37 ?_ ?_
  ·clear H h37
   intro x27 y0 H
   refine sn [] [] [(24, cB (decide (x27.1 < (((v1.drop (1 : Int).toNat).take ((v1.length : Int).toNat - (1 : Int).toNat)).length : Int))))] [] [] id ?_
   refine seq_in ?_
   rcases oC H with ⟨c29, H⟩ | ⟨c29, H⟩
   ·refine it c29 ?_
    refine sk ?_
    refine seq_in ?_
    refine ends_blk ?_
    obtain ⟨v30, h31, H⟩ := oB H
    refine sn [.cs (eS v30)] [] [(9, .c (.str v30))] [] [] (a2 eS h31) ?_
    obtain ⟨v32, h33, H⟩ := oB H
    refine sn [.res (.tup [(false, [jI v32.1]), (false, [.bool v32.2])])] [] [(10, cI v32.1), (11, cB v32.2)] [] [] (aI (i_readInt_ok v30 v32 h33)) ?_
    refine seq_in ?_
    refine sn [] [] [(33, cB (!v32.2))] [] [] id ?_
    rcases oC H with ⟨c34, H⟩ | ⟨c34, H⟩
    ·refine it c34 ?_
     refine so [] [] [(4, .c (.nil)), (5, cB false)] [] id ?_
     refine tl [.nlo 4 900000 1 (fF eI zI ([] : List Int))] [(4, ow 900000 1 ([] : List Int)), (5, cB false)] [(900000, ar 1 eI zI ([] : List Int))] (aI (by decide : 0 < 1)) ?_
     refine ends_ret ?_
     cases H
     exact rsr
    ·refine jf c34 ?_
     refine sk ?_
     obtain ⟨g35, H⟩ := oI H
     refine oo [fh eI zI ([v32.1] : List Int), fh eI zI (x27.2 ++ ([v32.1] : List Int))] [] [(7, ow 37 1 (x27.2 ++ ([v32.1] : List Int))), (21, .c (dat 1 eS zS ((v1.drop (1 : Int).toNat).take ((v1.length : Int).toNat - (1 : Int).toNat)))), (22, cL ((v1.drop (1 : Int).toNat).take ((v1.length : Int).toNat - (1 : Int).toNat))), (23, cI x27.1)] [(37, ar 1 eI zI (x27.2 ++ ([v32.1] : List Int)))] (fun t => aI (rfl : ([v32.1] : List Int).length = 1) (aI (fF_lit eI zI ([v32.1] : List Int)) (aI (Nat.le_refl (([v32.1] : List Int).length)) (aI (And.intro (Nat.le_refl x27.2.length) (And.intro (@List.length_append _ x27.2 ([v32.1] : List Int)) g35)) (aI (fF_appL eI zI x27.2 ([v32.1] : List Int)) (aI (fF_appR eI zI x27.2 ([v32.1] : List Int)) (t))))))) ?_
     change EndsI _ _ _ _ _ _
     refine oo [] [.ren 37 1001] [(7, ow 1001 1 (x27.2 ++ ([v32.1] : List Int))), (21, .c (dat 1 eS zS ((v1.drop (1 : Int).toNat).take ((v1.length : Int).toNat - (1 : Int).toNat)))), (22, cL ((v1.drop (1 : Int).toNat).take ((v1.length : Int).toNat - (1 : Int).toNat))), (23, cI (W (x27.1 + 1)))] [(1001, ar 1 eI zI (x27.2 ++ ([v32.1] : List Int)))] id ?_
     cases H
     exact rr
   ·refine jf c29 ?_
    refine tl [] [(7, ow 1001 1 x27.2)] [(1001, ar 1 eI zI x27.2)] id ?_
    refine ends_exit ?_
    cases H
    exact rse
  ·clear h37
   cases y36 with
   | inl y38 =>
    replace H := ofInl H
    rintro e s ⟨rfl, rfl⟩
    change EndsI _ _ _ _ _ _
    refine sn [] [] [(4, ow 1001 1 y38), (5, cB true)] [] [] id ?_
    refine tl [.ren 1001 900000] [(4, ow 900000 1 y38), (5, cB true)] [(900000, ar 1 eI zI y38)] id ?_
    cases H
    exact er
   | inr y39 =>
    replace H := ofInr H
    rintro e s ⟨rfl, rfl⟩
    cases H
    exact qr
noncomputable def X.x_strings_Cut (p0 : List UInt8) (p1 : List UInt8) : Option (List UInt8 × List UInt8 × Bool) :=
 (if p0.length < 4294967281 then some (Lib.cut p0 p1) else none)
theorem x_strings_Cut_ok (p0 : List UInt8) (p1 : List UInt8) (r : List UInt8 × List UInt8 × Bool) (H : X.x_strings_Cut p0 p1 = some r) : FK 40 [.c (.str p0), .c (.str p1)] (.tup [(false, [.str r.1]), (false, [.str r.2.1]), (false, [.bool r.2.2])]) := by
 unfold X.x_strings_Cut at H
 obtain ⟨g, H⟩ := oI H
 cases H
 exact cut_fn (by kernel_rfl) (g := 0) rfl (fun s sep m w hs hm => (Any.strings_Cut lays145 s sep m w hs hm).mono fun e w' ⟨he, n, hw⟩ => ⟨he, by subst hw; exact ⟨rfl, rfl, rfl, Nat.le_refl _, fun _ _ => rfl⟩⟩) p0 p1 g
def i_readUnit_ir : S :=
 (sq [o 2 (.box 12 (.t 0)), o 4 (.alloc [.int .i64 0, .int .i64 0, .int .i64 0, .int .i64 0]), o 5 (.mv bF)]
 (sq [om 13 1, o 14 (.call 36 [.t 13, .v (.str [32])]), om 6 14]
 (.seq (sq [om 15 6, o 16 (.len (.t 15)), o 17 (.bin .neq (.t 16) (iv 4))]
 (.ite (.t 17) (sq [o 18 (.build [.int .i64 0, .int .i64 0, .int .i64 0, .int .i64 0] []), os 4 4 18, o 5 (.mv bF)]
  .ret)
 .skip))
 (sq [om 20 6, o 21 (.iad 1 (.t 20) (iv 0)), ol 22 21, o 23 (.call 38 [.t 22]), om 19 23, o 24 (.ext (.t 19) 0), o 25 (.ext (.t 19) 1), om 7 24, om 8 25]
 (sq [om 27 6, o 28 (.iad 1 (.t 27) (iv 3)), ol 29 28, o 30 (.call 38 [.t 29]), om 26 30, o 31 (.ext (.t 26) 0), o 32 (.ext (.t 26) 1), om 9 31, om 10 32]
 (sq [o 11 (.mv (.v (.int .i64 (-1)))), o 12 (.mv bT)]
 (.seq (sq [om 33 6, o 34 (.iad 1 (.t 33) (iv 2)), ol 35 34, o 36 (.bin .neq (.t 35) (.v (.str [45])))]
 (.ite (.t 36) (.ops [om 38 6, o 39 (.iad 1 (.t 38) (iv 2)), ol 40 39, o 41 (.call 38 [.t 40]), om 37 41, o 42 (.ext (.t 37) 0), o 43 (.ext (.t 37) 1), om 11 42, om 12 43])
 .skip))
 (.seq (.drw [(0, 1), (0, 2), (0, 3), (0, 4), (1, 4), (2, 4), (3, 4), (0, 5), (1, 5), (2, 5), (3, 5), (0, 6), (1, 6), (2, 6), (3, 6), (0, 7), (0, 8), (1, 8), (2, 8), (3, 8), (4, 8), (5, 8), (6, 8), (7, 8), (0, 9), (1, 9), (2, 9), (3, 9), (4, 9), (5, 9), (6, 9), (7, 9), (8, 9), (0, 11), (1, 11), (2, 11), (3, 11), (4, 11), (5, 11), (6, 11), (7, 11), (8, 11), (9, 11), (10, 11), (0, 12), (8, 12), (9, 12), (10, 12), (0, 13), (8, 13), (9, 13), (10, 13), (0, 14), (8, 14), (9, 14), (10, 14), (0, 15), (8, 15), (9, 15), (10, 15), (0, 16), (8, 16), (9, 16), (10, 16), (0, 17), (8, 17), (9, 17), (10, 17), (16, 18), (17, 18)] [om 44 7, oa 45 0 2, oa 46 1 45, ol 47 46, om 48 6, o 49 (.iad 1 (.t 48) (iv 1)), ol 50 49, o 51 (.call 96 [.t 47, .t 50]), om 52 11, om 53 9, o 54 (.build [.int .i64 0, .int .i64 0, .int .i64 0, .int .i64 0] [(0, 1, .t 44), (1, 1, .t 51), (2, 1, .t 52), (3, 1, .t 53)]), om 55 8, om 56 55, oh 57 (.mv (.t 10)) 56, o 58 (.pick (.t 56) (.t 57) bF), om 59 58, oh 60 (.mv (.t 12)) 59, o 61 (.pick (.t 59) (.t 60) bF), os 4 4 54, om 5 61])
 .ret))))))))
noncomputable def X.i_readUnit (p0 : TBoard) (p1 : (List UInt8)) : Option (TUnit × Bool) :=
 ((X.x_strings_Split p1 [32]).bind fun v1 => (bif ((v1.length : Int) != 4) then some ((TUnit.mk 0 0 0 0), false) else ((at' zS v1 0).bind fun v5 => ((X.i_readInt v5).bind fun v7 => ((at' zS v1 3).bind fun v9 => ((X.i_readInt v9).bind fun v11 => ((((at' zS v1 2).bind fun v18 => (bif (!(v18 == ([45] : List UInt8))) then ((X.i_readInt v18).bind fun v21 => some (v21.1, v21.2)) else some (-1, true))) : Option (Int × Bool)).bind fun y23 => ((at' zS v1 1).bind fun v25 => ((X.i_kindIndex p0.Rules.Kinds v25).bind fun v27 => (bif v7.2 then (bif v11.2 then some ((TUnit.mk v7.1 v27 y23.1 v11.1), y23.2) else some ((TUnit.mk v7.1 v27 y23.1 v11.1), false)) else some ((TUnit.mk v7.1 v27 y23.1 v11.1), false)))))))))))
theorem i_readUnit_ok (p0 : TBoard) (p1 : (List UInt8)) (r : (TUnit × Bool)) (H : X.i_readUnit p0 p1 = some r) : FK 41 [.agg (eTBoard p0), .c (.str p1)] (.tup [(true, [.int .i64 r.1.Side, .int .i64 r.1.Kind, .int .i64 r.1.At, .int .i64 r.1.Steps]), (false, [.bool r.2])]) := by
 unfold X.i_readUnit at H
 refine fi Tryz.f41 i_readUnit_ir [(4, pk 4), (5, cB r.2)] [(4, va (eTUnit r.1))] glL Tryz.func41 ?_
 refine sn [] [] [(2, pk 2), (4, pk 4)] [] [(2, va (eTBoard p0)), (4, .var [jI 0, jI 0, jI 0, jI 0] false)] id ?_
 obtain ⟨v1, h2, H⟩ := oB H
 refine sn [.res (dc 1 eS zS v1)] [] [(6, dc 1 eS zS v1)] [] [] (aI (x_strings_Split_ok p1 [32] v1 h2)) ?_
 refine seq_in ?_
 refine sn [] [] [(17, cB ((v1.length : Int) != 4))] [] [] (fun t => lI v1 (t)) ?_
 rcases oC H with ⟨c4, H⟩ | ⟨c4, H⟩
 ·refine it c4 ?_
  refine sn [] [] [(5, cB false)] [] [] id ?_
  refine tl [] [(4, pk 4), (5, cB false)] [(4, .var [jI 0, jI 0, jI 0, jI 0] false)] id ?_
  cases H
  exact er
 ·refine jf c4 ?_
  refine sk ?_
  obtain ⟨v5, h6, H⟩ := oB H
  obtain ⟨v7, h8, H⟩ := oB H
  refine sn [.cs (eS v5), .res (.tup [(false, [jI v7.1]), (false, [.bool v7.2])])] [] [(7, cI v7.1), (8, cB v7.2)] [] [] (fun t => (a2 eS h6 (aI (i_readInt_ok v5 v7 h8) (t)))) ?_
  obtain ⟨v9, h10, H⟩ := oB H
  obtain ⟨v11, h12, H⟩ := oB H
  refine sn [.cs (eS v9), .res (.tup [(false, [jI v11.1]), (false, [.bool v11.2])])] [] [(9, cI v11.1), (10, cB v11.2)] [] [] (fun t => (a2 eS h10 (aI (i_readInt_ok v9 v11 h12) (t)))) ?_
  refine sn [] [] [(11, cI (-1)), (12, cB true)] [] [] id ?_
  obtain ⟨y23, h24, H⟩ := oB H
  refine seq_in (cut_in (fun (z : (Int × Bool)) => At .normal (lit [(2, pk 2), (4, pk 4), (6, dc 1 eS zS v1), (7, cI v7.1), (8, cB v7.2), (9, cI v11.1), (10, cB v11.2), (11, cI z.1), (12, cB z.2)] [(2, va (eTBoard p0)), (4, .var [jI 0, jI 0, jI 0, jI 0] false)])) y23 ?_ ?_)
  ·clear H
   revert h24
   generalize y23 = y0
   intro H
   obtain ⟨v18, h19, H⟩ := oB H
   refine sn [.cs (eS v18)] [] [(36, cB (!(v18 == ([45] : List UInt8))))] [] [] (a2 eS h19) ?_
   rcases oC H with ⟨c20, H⟩ | ⟨c20, H⟩
   ·refine it c20 ?_
    obtain ⟨v21, h22, H⟩ := oB H
    refine oo [.cs (eS v18), .res (.tup [(false, [jI v21.1]), (false, [.bool v21.2])])] [] [(2, pk 2), (4, pk 4), (6, dc 1 eS zS v1), (7, cI v7.1), (8, cB v7.2), (9, cI v11.1), (10, cB v11.2), (11, cI v21.1), (12, cB v21.2)] [(2, va (eTBoard p0)), (4, .var [jI 0, jI 0, jI 0, jI 0] false)] (fun t => (a2 eS h19 (aI (i_readInt_ok v18 v21 h22) (t)))) ?_
    cases H
    exact rr
   ·refine jf c20 ?_
    refine tl [] [(2, pk 2), (4, pk 4), (6, dc 1 eS zS v1), (7, cI v7.1), (8, cB v7.2), (9, cI v11.1), (10, cB v11.2), (11, cI (-1)), (12, cB true)] [(2, va (eTBoard p0)), (4, .var [jI 0, jI 0, jI 0, jI 0] false)] id ?_
    refine ends_skip ?_
    cases H
    exact rr
  ·clear h24
   rintro e s ⟨rfl, rfl⟩
   change EndsI _ _ _ _ _ _
   obtain ⟨v25, h26, H⟩ := oB H
   obtain ⟨v27, h28, H⟩ := oB H
   rcases oC H with ⟨c29, H⟩ | ⟨c29, H⟩
   ·rcases oC H with ⟨c30, H⟩ | ⟨c30, H⟩
    ·refine xn ([.cs (eS v25), .res (cI v27)] ++ rg 4 true []) [] [(5, cB y23.2)] [4] [(4, .var [jI v7.1, jI v27, jI y23.1, jI v11.1] false)] (fun t => (a2 eS h26 (aI rN (aI (i_kindIndex_ok p0.Rules.Kinds v25 v27 h28) (aI trivial (aI rN (aG 2 c29 (aG 2 c30 (t))))))))) ?_
     refine tl [] [(4, pk 4), (5, cB y23.2)] [(4, .var [jI v7.1, jI v27, jI y23.1, jI v11.1] false)] id ?_
     cases H
     exact er
    ·refine xn ([.cs (eS v25), .res (cI v27)] ++ rg 2 true (rg 2 false [])) [] [(5, cB false)] [4] [(4, .var [jI v7.1, jI v27, jI y23.1, jI v11.1] false)] (fun t => (a2 eS h26 (aI rN (aI (i_kindIndex_ok p0.Rules.Kinds v25 v27 h28) (aI trivial (aI rN (aG 2 c29 (aG 2 c30 (t))))))))) ?_
     refine tl [] [(4, pk 4), (5, cB false)] [(4, .var [jI v7.1, jI v27, jI y23.1, jI v11.1] false)] id ?_
     cases H
     exact er
   ·refine xn ([.cs (eS v25), .res (cI v27)] ++ rg 4 false []) [] [(5, cB false)] [4] [(4, .var [jI v7.1, jI v27, jI y23.1, jI v11.1] false)] (fun t => (a2 eS h26 (aI rN (aI (i_kindIndex_ok p0.Rules.Kinds v25 v27 h28) (aI trivial (aI rN (aG 2 c29 (aG 2 rF (t))))))))) ?_
    refine tl [] [(4, pk 4), (5, cB false)] [(4, .var [jI v7.1, jI v27, jI y23.1, jI v11.1] false)] id ?_
    cases H
    exact er
noncomputable def X.x_strconv_Itoa (p0 : Int) : Option (List UInt8) :=
 (if -9223372036854775808 ≤ p0 ∧ p0 ≤ 9223372036854775807 then some (Lib.itoa p0) else none)
theorem x_strconv_Itoa_ok (p0 : Int) (r : List UInt8) (H : X.x_strconv_Itoa p0 = some r) : FK 42 [cI p0] (.c (.str r)) := by
 unfold X.x_strconv_Itoa at H
 obtain ⟨g, H⟩ := oI H
 cases H
 exact itoa_fn (by kernel_rfl) (g := 3) (zs := Lib.pow10Tab) (nm := "internal/strconv.uint64pow10") (by decide) (by kernel_rfl) rfl (fun n w h0 h1 ht => (Any.strconv_Itoa laysM171 n h0 h1 w ht).mono fun e w' ⟨he, k, os, hw⟩ => ⟨he, by subst hw; exact grow_bel w k os⟩) p0 g
def i_isSide_ir : S :=
 (sq [o 2 (.mv bF)]
 (sq [om 3 0, o 4 (.call 59 [.t 3, .v (.int .i64 0), .v (.int .i64 1)]), om 2 4]
 .ret))
noncomputable def X.i_isSide (p0 : Int) : Option Bool :=
 ((X.i_inRange p0 0 1).bind fun v1 => some v1)
theorem i_isSide_ok (p0 : Int) (r : Bool) (H : X.i_isSide p0 = some r) : FK 98 [cI p0] (cB r) := by
 unfold X.i_isSide at H
 refine fi Tryz.f98 i_isSide_ir [(2, cB r)] [] glL Tryz.func98 ?_
 refine sn [] [] [] [] [] id ?_
 obtain ⟨v1, h2, H⟩ := oB H
 refine so [.res (cB v1)] [] [(2, cB v1)] [] (aI (i_inRange_ok p0 0 1 v1 h2)) ?_
 cases H
 exact er
def i_isWeather_ir : S :=
 (sq [o 2 (.mv bF)]
 (sq [om 3 0, o 4 (.call 59 [.t 3, .v (.int .i64 0), .v (.int .i64 2)]), om 2 4]
 .ret))
noncomputable def X.i_isWeather (p0 : Int) : Option Bool :=
 ((X.i_inRange p0 0 2).bind fun v1 => some v1)
theorem i_isWeather_ok (p0 : Int) (r : Bool) (H : X.i_isWeather p0 = some r) : FK 99 [cI p0] (cB r) := by
 unfold X.i_isWeather at H
 refine fi Tryz.f99 i_isWeather_ir [(2, cB r)] [] glL Tryz.func99 ?_
 refine sn [] [] [] [] [] id ?_
 obtain ⟨v1, h2, H⟩ := oB H
 refine so [.res (cB v1)] [] [(2, cB v1)] [] (aI (i_inRange_ok p0 0 2 v1 h2)) ?_
 cases H
 exact er
def i_sizeOf_ir : S :=
 (sq [o 1 (.box 12 (.t 0)), o 2 (.mv (iv 0))]
 (sq [oa 3 7 1, oa 4 2 3, ol 5 4, o 6 (.len (.t 5)), om 2 6]
 .ret))
noncomputable def X.i_sizeOf (p0 : TBoard) : Option Int :=
 some (p0.Map.Terrain.length : Int)
theorem i_sizeOf_ok (p0 : TBoard) (r : Int) (H : X.i_sizeOf p0 = some r) : FK 103 [.agg (eTBoard p0)] (cI r) := by
 unfold X.i_sizeOf at H
 refine fi Tryz.f103 i_sizeOf_ir [(2, cI r)] [] glL Tryz.func103 ?_
 refine so [] [] [(1, pk 1)] [(1, va (eTBoard p0))] id ?_
 refine so [] [] [(2, cL p0.Map.Terrain)] [] (fun t => lI p0.Map.Terrain (t)) ?_
 cases H
 exact er
def i_goodView_1_ir : S :=
 (sq [o 3 (.mv bF)]
 (sq [om 4 0, o 5 (.load 12 true (.t 1)), o 6 (.call 103 [.t 5]), o 7 (.call 102 [.t 4, .t 6]), o 8 (.not (.t 7)), om 3 8]
 .ret))
noncomputable def X.i_goodView_1 (p0 : Int) (p1 : TBoard) : Option Bool :=
 ((X.i_sizeOf p1).bind fun v1 => ((X.i_isIndex p0 v1).bind fun v3 => some (!v3)))
theorem i_goodView_1_ok (p0 : Int) (p1 : TBoard) (r : Bool) (H : X.i_goodView_1 p0 p1 = some r) : FK 101 [cI p0, .c (.pd (eTBoard p1) 0)] (cB r) := by
 unfold X.i_goodView_1 at H
 refine fi Tryz.f101 i_goodView_1_ir [(3, cB r)] [] glL Tryz.func101 ?_
 refine sn [] [] [] [] [] id ?_
 obtain ⟨v1, h2, H⟩ := oB H
 obtain ⟨v3, h4, H⟩ := oB H
 refine so [.res (cI v1), .res (cB v3)] [] [(3, cB (!v3))] [] (fun t => aI (i_sizeOf_ok p1 v1 h2) (aI (i_isIndex_ok p0 v1 v3 h4) (t))) ?_
 cases H
 exact er
def i_terrainAt_ir : S :=
 (sq [o 2 (.box 12 (.t 0)), o 4 (.alloc [.str [], .nil, .int .i64 0, .int .i64 0, .bool false])]
 (.seq (.drw [(0, 3), (1, 3), (2, 3), (0, 4), (1, 4), (2, 4), (0, 5), (1, 5), (2, 5), (0, 6), (1, 6), (2, 6), (3, 6), (4, 6), (5, 6), (0, 7), (1, 7), (2, 7), (0, 8), (1, 8), (2, 8)] [oa 5 0 2, oa 6 0 5, ol 7 6, oa 8 7 2, oa 9 2 8, ol 10 9, om 11 1, o 12 (.iad 1 (.t 10) (.t 11)), ol 13 12, o 14 (.iad 5 (.t 7) (.t 13)), o 15 (.load 5 true (.t 14)), os 5 4 15])
 .ret))
noncomputable def X.i_terrainAt (p0 : TBoard) (p1 : Int) : Option TTerrain :=
 ((at' zI p0.Map.Terrain p1).bind fun v1 => ((at' zTTerrain p0.Rules.Terrains v1).bind fun v3 => some v3))
theorem i_terrainAt_ok (p0 : TBoard) (p1 : Int) (r : TTerrain) (H : X.i_terrainAt p0 p1 = some r) : FK 198 [.agg (eTBoard p0), cI p1] (.agg (eTTerrain r)) := by
 unfold X.i_terrainAt at H
 refine fi Tryz.f198 i_terrainAt_ir [(4, pk 4)] [(4, va (eTTerrain r))] glL Tryz.func198 ?_
 refine sn [] [] [(2, pk 2), (4, pk 4)] [] [(2, va (eTBoard p0)), (4, .var [.str [], .nil, jI 0, jI 0, .bool false] false)] id ?_
 obtain ⟨v1, h2, H⟩ := oB H
 obtain ⟨v3, h4, H⟩ := oB H
 refine xn [.cs (eI v1), .cs (eTTerrain v3)] [] [] [4] [(4, va (eTTerrain v3))] (fun t => (a2 eI h2 (aI rN ((a2 eTTerrain h4 (aI rN (t))))))) ?_
 refine tl [] [(4, pk 4)] [(4, va (eTTerrain v3))] id ?_
 cases H
 exact er
def i_enterCost_ir : S :=
 (sq [o 3 (.box 12 (.t 0)), o 6 (.mv (iv 0))]
 (sq [o 7 (.load 12 true (.t 3)), om 8 2, o 9 (.call 198 [.t 7, .t 8]), o 10 (.fld 1 1 false (.t 9)), om 11 1, o 12 (.iad 1 (.t 10) (.t 11)), ol 13 12, om 6 13]
 .ret))
noncomputable def X.i_enterCost (p0 : TBoard) (p1 : Int) (p2 : Int) : Option Int :=
 ((X.i_terrainAt p0 p2).bind fun v1 => ((at' zI v1.Cost p1).bind fun v3 => some v3))
theorem i_enterCost_ok (p0 : TBoard) (p1 : Int) (p2 : Int) (r : Int) (H : X.i_enterCost p0 p1 p2 = some r) : FK 154 [.agg (eTBoard p0), cI p1, cI p2] (cI r) := by
 unfold X.i_enterCost at H
 refine fi Tryz.f154 i_enterCost_ir [(6, cI r)] [] glL Tryz.func154 ?_
 refine sn [] [] [(3, pk 3)] [] [(3, va (eTBoard p0))] id ?_
 obtain ⟨v1, h2, H⟩ := oB H
 obtain ⟨v3, h4, H⟩ := oB H
 refine so [.res (.agg (eTTerrain v1)), .cs (eI v3)] [] [(6, cI v3)] [] (fun t => aI (i_terrainAt_ok p0 p2 v1 h2) ((a2 eI h4 (t)))) ?_
 cases H
 exact er
def i_goodUnit_ir : S :=
 (sq [o 2 (.box 12 (.t 0)), o 3 (.box 4 (.t 1)), o 4 (.mv bF)]
 (.seq (.seq (.drw [(5, 7), (6, 7), (5, 8), (6, 8), (5, 9), (6, 9), (5, 10), (6, 10), (15, 17), (16, 17), (15, 18), (16, 18), (15, 19), (16, 19), (15, 20), (16, 20), (17, 20), (18, 20), (19, 20), (15, 21), (16, 21), (17, 21), (18, 21), (19, 21), (15, 22), (16, 22), (15, 23), (16, 23), (15, 24), (16, 24)] [oa 5 0 3, ol 6 5, o 7 (.call 98 [.t 6]), o 8 (.not (.t 7)), om 9 8, og 10 (.fad 1 (.t 3)) 9, og 11 (.load 1 false (.t 10)) 9, og 12 (.fad 0 (.t 2)) 9, og 13 (.fad 1 (.t 12)) 9, og 14 (.load 1 false (.t 13)) 9, og 15 (.len (.t 14)) 9, og 16 (.call 102 [.t 11, .t 15]) 9, og 17 (.not (.t 16)) 9, o 18 (.pick (.t 9) bT (.t 17)), om 19 18, og 20 (.fad 3 (.t 3)) 19, og 21 (.load 1 false (.t 20)) 19, og 22 (.fad 0 (.t 2)) 19, og 23 (.fad 1 (.t 22)) 19, og 24 (.load 1 false (.t 23)) 19, og 25 (.fad 1 (.t 3)) 19, og 26 (.load 1 false (.t 25)) 19, og 27 (.iad 6 (.t 24) (.t 26)) 19, og 28 (.fad 3 (.t 27)) 19, og 29 (.load 1 false (.t 28)) 19, og 30 (.call 59 [.t 21, .v (.int .i64 0), .t 29]) 19, og 31 (.not (.t 30)) 19, o 32 (.pick (.t 19) bT (.t 31))])
 (.ite (.t 32) (sq [o 4 (.mv bF)]
  .ret)
 .skip))
 (.seq (sq [oa 33 2 3, ol 34 33, o 35 (.bin .eql (.t 34) (.v (.int .i64 (-1))))]
 (.ite (.t 35) (sq [o 4 (.mv bT)]
  .ret)
 .skip))
 (.seq (.drw [(4, 6), (5, 6), (4, 7), (5, 7), (11, 12), (11, 13), (11, 14), (12, 14), (13, 14), (11, 15), (12, 15), (13, 15)] [oa 36 3 3, ol 37 36, o 38 (.bin .gtr (.t 37) (iv 0)), om 39 38, oh 40 (.fad 2 (.t 3)) 39, oh 41 (.load 1 false (.t 40)) 39, oh 42 (.load 12 true (.t 2)) 39, oh 43 (.call 103 [.t 42]) 39, oh 44 (.call 102 [.t 41, .t 43]) 39, o 45 (.pick (.t 39) (.t 44) bF), om 46 45, oh 47 (.load 12 true (.t 2)) 46, oh 48 (.fad 1 (.t 3)) 46, oh 49 (.load 1 false (.t 48)) 46, oh 50 (.fad 2 (.t 3)) 46, oh 51 (.load 1 false (.t 50)) 46, oh 52 (.call 154 [.t 47, .t 49, .t 51]) 46, oh 53 (.bin .neq (.t 52) (iv 0)) 46, o 54 (.pick (.t 46) (.t 53) bF), om 4 54])
 .ret))))
noncomputable def X.i_goodUnit (p0 : TBoard) (p1 : TUnit) : Option Bool :=
 ((X.i_isSide p1.Side).bind fun v12 => (bif (!v12) then some false else ((X.i_isIndex p1.Kind (p0.Rules.Kinds.length : Int)).bind fun v15 => (bif (!v15) then some false else ((at' zTKind p0.Rules.Kinds p1.Kind).bind fun v18 => ((X.i_inRange p1.Steps 0 v18.Steps).bind fun v20 => (bif (!v20) then some false else (bif (p1.At == (-1)) then some true else (bif (decide (p1.Steps > 0)) then ((X.i_sizeOf p0).bind fun v26 => ((X.i_isIndex p1.At v26).bind fun v28 => (bif v28 then ((X.i_enterCost p0 p1.Kind p1.At).bind fun v31 => some (v31 != 0)) else some false))) else some false)))))))))
theorem i_goodUnit_ok (p0 : TBoard) (p1 : TUnit) (r : Bool) (H : X.i_goodUnit p0 p1 = some r) : FK 104 [.agg (eTBoard p0), .agg (eTUnit p1)] (cB r) := by
 unfold X.i_goodUnit at H
 refine fi Tryz.f104 i_goodUnit_ir [(4, cB r)] [] glL Tryz.func104 ?_
 refine so [] [] [(2, pk 2), (3, pk 3)] [(2, va (eTBoard p0)), (3, va (eTUnit p1))] id ?_
 refine seq_in ?_
 obtain ⟨v12, h13, H⟩ := oB H
 rcases oC H with ⟨c14, H⟩ | ⟨c14, H⟩
 ·refine xn ([.res (cB v12)] ++ rg 22 true []) [] [(32, cB true)] [] [] (fun t => aI (i_isSide_ok p1.Side v12 h13) (aI trivial (aI rN (aG 9 c14 (aG 13 rT (t)))))) ?_
  refine it rT ?_
  refine so [] [] [(4, cB false)] [] id ?_
  cases H
  exact er
 ·obtain ⟨v15, h16, H⟩ := oB H
  rcases oC H with ⟨c17, H⟩ | ⟨c17, H⟩
  ·refine xn ([.res (cB v12)] ++ rg 7 false ([.res (cB v15)] ++ rg 2 false (rg 13 true []))) [] [(32, cB true)] [] [] (fun t => aI (i_isSide_ok p1.Side v12 h13) (aI trivial (aI rN (aG 7 c14 (aI (i_isIndex_ok p1.Kind (p0.Rules.Kinds.length : Int) v15 h16) (aI trivial (aI rN (aG 2 c14 (aG 13 c17 (t)))))))))) ?_
   refine it rT ?_
   refine so [] [] [(4, cB false)] [] id ?_
   cases H
   exact er
  ·obtain ⟨v18, h19, H⟩ := oB H
   obtain ⟨v20, h21, H⟩ := oB H
   refine xn ([.res (cB v12)] ++ rg 7 false ([.res (cB v15)] ++ rg 10 false ([.cs (eTKind v18)] ++ rg 3 false ([.res (cB v20)] ++ rg 2 false [])))) [] [(32, cB (!v20))] [] [] (fun t => aI (i_isSide_ok p1.Side v12 h13) (aI trivial (aI rN (aG 7 c14 (aI (i_isIndex_ok p1.Kind (p0.Rules.Kinds.length : Int) v15 h16) (aI trivial (aI rN (aG 2 c14 (aG 8 c17 ((a2 eTKind h19 (aG 2 c17 (aI rN (aI c17 (aI (i_inRange_ok p1.Steps 0 v18.Steps v20 h21) (aI trivial (aI rN (aG 2 c17 (t))))))))))))))))))) ?_
   rcases oC H with ⟨c22, H⟩ | ⟨c22, H⟩
   ·refine it c22 ?_
    refine so [] [] [(4, cB false)] [] id ?_
    cases H
    exact er
   ·refine jf c22 ?_
    refine sk ?_
    refine seq_in ?_
    refine sn [] [] [(35, cB (p1.At == (-1)))] [] [] id ?_
    rcases oC H with ⟨c24, H⟩ | ⟨c24, H⟩
    ·refine it c24 ?_
     refine so [] [] [(4, cB true)] [] id ?_
     cases H
     exact er
    ·refine jf c24 ?_
     refine sk ?_
     rcases oC H with ⟨c25, H⟩ | ⟨c25, H⟩
     ·obtain ⟨v26, h27, H⟩ := oB H
      obtain ⟨v28, h29, H⟩ := oB H
      rcases oC H with ⟨c30, H⟩ | ⟨c30, H⟩
      ·obtain ⟨v31, h32, H⟩ := oB H
       refine sx (rg 4 true ([.res (cI v26), .g true, .res (cB v28)] ++ rg 7 true ([.res (cI v31)] ++ rg 2 true []))) [] [(4, cB (v31 != 0))] [] (fun t => aG 4 c25 (aI (i_sizeOf_ok p0 v26 h27) (aI trivial (aI rN (aI c25 (aI (i_isIndex_ok p1.At v26 v28 h29) (aI trivial (aI rN (aI c25 (aG 6 c30 (aI (i_enterCost_ok p0 p1.Kind p1.At v31 h32) (aI trivial (aI rN (aG 2 c30 (t))))))))))))))) ?_
       cases H
       exact er
      ·refine sx (rg 4 true ([.res (cI v26), .g true, .res (cB v28), .g true] ++ rg 8 false [])) [] [(4, cB false)] [] (fun t => aG 4 c25 (aI (i_sizeOf_ok p0 v26 h27) (aI trivial (aI rN (aI c25 (aI (i_isIndex_ok p1.At v26 v28 h29) (aI trivial (aI rN (aI c25 (aG 8 c30 (t))))))))))) ?_
       cases H
       exact er
     ·refine sx (rg 14 false []) [] [(4, cB false)] [] (fun t => aG 6 c25 (aG 8 rF (t))) ?_
      cases H
      exact er
def g_Index_int_ir : S :=
 (sq [o 4 (.mv (iv 0))]
 (.seq (sq [om 6 0, o 7 (.len (.t 6)), o 8 (.mv (iv 0))]
 (.blk 0 (.loop (sq [o 9 (.bin .lss (.t 8) (.t 7))]
   (.seq (.ite (.t 9) .skip
   (.exit 0))
   (.seq (.blk 1 (sq [om 10 8, om 5 10]
    (sq [om 11 1, om 12 0, om 13 5, o 14 (.iad 1 (.t 12) (.t 13)), ol 15 14, o 16 (.bin .eql (.t 11) (.t 15))]
    (.ite (.t 16) (sq [om 17 5, om 4 17]
     .ret)
    .skip))))
   (.ops [o 18 (.bin .add (.t 8) (iv 1)), om 8 18])))))))
 (sq [o 4 (.mv (.v (.int .i64 (-1))))]
 .ret)))
noncomputable def X.g_Index_int (p0 : (List Int)) (p1 : Int) : Option Int :=
 ((loop (fun (x12 : Int) => ((bif (decide (x12 < (p0.length : Int))) then ((at' zI p0 x12).bind fun v15 => (bif (p1 == v15) then some (Sum.inr (Sum.inr x12)) else some (Sum.inl (W (x12 + 1))))) else some (Sum.inr (Sum.inl ()))) : Option (Int ⊕ (Unit ⊕ Int)))) 0).bind fun y18 => (Sum.elim (fun (y20 : Unit) => some (-1)) (fun (y21 : Int) => some y21) y18))
theorem g_Index_int_ok (p0 : (List Int)) (p1 : Int) (r : Int) (H : X.g_Index_int p0 p1 = some r) : FK 155 [.c (dat 1 eI zI p0), cI p1] (cI r) := by
 unfold X.g_Index_int at H
 refine fi Tryz.f155 g_Index_int_ir [(4, cI r)] [] glL Tryz.func155 ?_
 refine sn [] [] [] [] [] id ?_
 refine seq_in ?_
 refine sn [] [] [(7, cL p0), (8, cI 0)] [] [] (fun t => lI p0 (t)) ?_
 refine ends_blk ?_
 obtain ⟨y18, h19, H⟩ := oB H
 refine tl [] [(0, dc 1 eI zI p0), (1, cI p1), (7, cL p0), (8, cI 0)] [] id ?_
 refine loop_in (fun (x : Int) => lit [(0, dc 1 eI zI p0), (1, cI p1), (7, cL p0), (8, cI x)] []) (orJ (fun (z : Unit) => At (.exit 0) (lit [] [])) (fun (z : Int) => At .ret (lit [(4, cI z)] []))) h19 ?_ ?_
 ·clear H h19
  intro x12 y0 H
  refine sn [] [] [(9, cB (decide (x12 < (p0.length : Int))))] [] [] id ?_
  refine seq_in ?_
  rcases oC H with ⟨c14, H⟩ | ⟨c14, H⟩
  ·refine it c14 ?_
   refine sk ?_
   refine seq_in ?_
   refine ends_blk ?_
   refine sn [] [] [(5, cI x12)] [] [] id ?_
   obtain ⟨v15, h16, H⟩ := oB H
   refine sn [.cs (eI v15)] [] [(16, cB (p1 == v15))] [] [] (a2 eI h16) ?_
   rcases oC H with ⟨c17, H⟩ | ⟨c17, H⟩
   ·refine it c17 ?_
    refine so [] [] [(4, cI x12)] [] id ?_
    refine ends_ret ?_
    cases H
    exact rsr
   ·refine jf c17 ?_
    refine sk ?_
    refine oo [] [] [(0, dc 1 eI zI p0), (1, cI p1), (7, cL p0), (8, cI (W (x12 + 1)))] [] id ?_
    cases H
    exact rr
  ·refine jf c14 ?_
   refine tl [] [] [] id ?_
   refine ends_exit ?_
   cases H
   exact rse
 ·clear h19
  cases y18 with
  | inl y20 =>
   replace H := ofInl H
   rintro e s ⟨rfl, rfl⟩
   change EndsI _ _ _ _ _ _
   refine so [] [] [(4, cI (-1))] [] id ?_
   cases H
   exact er
  | inr y21 =>
   replace H := ofInr H
   rintro e s ⟨rfl, rfl⟩
   cases H
   exact qr
def g_Contains_int_ir : S :=
 (sq [o 4 (.mv bF)]
 (sq [om 5 0, om 6 1, o 7 (.call 155 [.t 5, .t 6]), o 8 (.bin .geq (.t 7) (iv 0)), om 4 8]
 .ret))
noncomputable def X.g_Contains_int (p0 : (List Int)) (p1 : Int) : Option Bool :=
 ((X.g_Index_int p0 p1).bind fun v1 => some (decide (v1 ≥ 0)))
theorem g_Contains_int_ok (p0 : (List Int)) (p1 : Int) (r : Bool) (H : X.g_Contains_int p0 p1 = some r) : FK 105 [.c (dat 1 eI zI p0), cI p1] (cB r) := by
 unfold X.g_Contains_int at H
 refine fi Tryz.f105 g_Contains_int_ir [(4, cB r)] [] glL Tryz.func105 ?_
 refine sn [] [] [] [] [] id ?_
 obtain ⟨v1, h2, H⟩ := oB H
 refine so [.res (cI v1)] [] [(4, cB (decide (v1 ≥ 0)))] [] (aI (g_Index_int_ok p0 p1 v1 h2)) ?_
 cases H
 exact er
def g_IsSortedFunc_Unit_ir : S :=
 (sq [o 4 (.mv bF)]
 (.seq (sq [om 6 0, o 7 (.len (.t 6)), o 8 (.bin .sub (.t 7) (iv 1)), om 5 8]
 (.blk 0 (.loop (.seq (sq [om 9 5, o 10 (.bin .gtr (.t 9) (iv 0))]
   (.ite (.t 10) .skip
   (.exit 0)))
   (.seq (.blk 1 (.seq (.drw [(0, 1), (0, 2), (1, 2), (0, 3), (0, 4), (0, 5), (1, 5), (2, 5), (3, 5), (4, 5), (0, 6), (1, 6), (2, 6), (3, 6), (4, 6), (5, 6), (0, 7), (1, 7), (2, 7), (3, 7), (4, 7), (5, 7), (0, 8), (1, 8), (2, 8), (3, 8), (4, 8), (0, 9), (1, 9), (2, 9), (3, 9), (4, 9)] [om 13 1, om 14 0, om 15 5, o 16 (.iad 4 (.t 14) (.t 15)), o 17 (.load 4 true (.t 16)), om 18 0, om 19 5, o 20 (.bin .sub (.t 19) (iv 1)), o 21 (.iad 4 (.t 18) (.t 20)), o 22 (.load 4 true (.t 21)), o 23 (.cald (.t 13) [.t 17, .t 22]), o 24 (.bin .lss (.t 23) (iv 0))])
    (.ite (.t 24) (sq [o 4 (.mv bF)]
     .ret)
    .skip)))
   (.ops [om 11 5, o 12 (.bin .sub (.t 11) (iv 1)), om 5 12]))))))
 (sq [o 4 (.mv bT)]
 .ret)))
noncomputable def X.g_IsSortedFunc_Unit (p0 : (List TUnit)) (f1 : TUnit → TUnit → Option Int) : Option Bool :=
 ((loop (fun (x20 : Int) => ((bif (decide (x20 > 0)) then ((at' zTUnit p0 x20).bind fun v23 => ((at' zTUnit p0 (W (x20 - 1))).bind fun v25 => ((f1 v23 v25).bind fun v27 => (bif (decide (v27 < 0)) then some (Sum.inr (Sum.inr false)) else some (Sum.inl (W (x20 - 1))))))) else some (Sum.inr (Sum.inl ()))) : Option (Int ⊕ (Unit ⊕ Bool)))) (W ((p0.length : Int) - 1))).bind fun y30 => (Sum.elim (fun (y32 : Unit) => some true) (fun (y33 : Bool) => some y33) y30))
theorem g_IsSortedFunc_Unit_c0_ok (p0 : (List TUnit)) (cf1 : FuncId) (f1 : TUnit → TUnit → Option Int) (hf1 : ∀ q0 q1 r, f1 q0 q1 = some r → FK cf1 [.agg (eTUnit q0), .agg (eTUnit q1)] (cI r)) (r : Bool) (H : X.g_IsSortedFunc_Unit p0 f1 = some r) : FK 106 [.c (dat 4 eTUnit zTUnit p0), .c (.clo cf1 [])] (cB r) := by
 unfold X.g_IsSortedFunc_Unit at H
 refine fi Tryz.f106 g_IsSortedFunc_Unit_ir [(4, cB r)] [] glL Tryz.func106 ?_
 refine sn [] [] [] [] [] id ?_
 refine seq_in ?_
 refine sn [] [] [(5, cI (W ((p0.length : Int) - 1)))] [] [] (fun t => lI p0 (t)) ?_
 refine ends_blk ?_
 obtain ⟨y30, h31, H⟩ := oB H
 refine tl [] [(0, dc 4 eTUnit zTUnit p0), (1, .c (.clo cf1 [])), (5, cI (W ((p0.length : Int) - 1)))] [] id ?_
 refine loop_in (fun (x : Int) => lit [(0, dc 4 eTUnit zTUnit p0), (1, .c (.clo cf1 [])), (5, cI x)] []) (orJ (fun (z : Unit) => At (.exit 0) (lit [] [])) (fun (z : Bool) => At .ret (lit [(4, cB z)] []))) h31 ?_ ?_
 ·clear H h31
  intro x20 y0 H
  refine seq_in ?_
  refine sn [] [] [(10, cB (decide (x20 > 0)))] [] [] id ?_
  rcases oC H with ⟨c22, H⟩ | ⟨c22, H⟩
  ·refine it c22 ?_
   refine sk ?_
   refine seq_in ?_
   refine ends_blk ?_
   obtain ⟨v23, h24, H⟩ := oB H
   obtain ⟨v25, h26, H⟩ := oB H
   obtain ⟨v27, h28, H⟩ := oB H
   refine xn [.cs (eTUnit v23), .cs (eTUnit v25), .res (cI v27)] [] [(24, cB (decide (v27 < 0)))] [] [] (fun t => (a2 eTUnit h24 (aI rN ((a2 eTUnit h26 (aI rN (aI (hf1 v23 v25 v27 h28) (aI trivial (aI rN (t)))))))))) ?_
   rcases oC H with ⟨c29, H⟩ | ⟨c29, H⟩
   ·refine it c29 ?_
    refine so [] [] [(4, cB false)] [] id ?_
    refine ends_ret ?_
    cases H
    exact rsr
   ·refine jf c29 ?_
    refine sk ?_
    refine oo [] [] [(0, dc 4 eTUnit zTUnit p0), (1, .c (.clo cf1 [])), (5, cI (W (x20 - 1)))] [] id ?_
    cases H
    exact rr
  ·refine jf c22 ?_
   refine tl [] [] [] id ?_
   refine ends_exit ?_
   cases H
   exact rse
 ·clear h31
  cases y30 with
  | inl y32 =>
   replace H := ofInl H
   rintro e s ⟨rfl, rfl⟩
   change EndsI _ _ _ _ _ _
   refine so [] [] [(4, cB true)] [] id ?_
   cases H
   exact er
  | inr y33 =>
   replace H := ofInr H
   rintro e s ⟨rfl, rfl⟩
   cases H
   exact qr
def i_compareUnits_ir : S :=
 (sq [o 2 (.box 4 (.t 0)), o 3 (.box 4 (.t 1)), o 4 (.mv (iv 0))]
 (.seq (sq [oa 5 2 2, ol 6 5, oa 7 2 3, ol 8 7, o 9 (.bin .neq (.t 6) (.t 8))]
 (.ite (.t 9) (sq [oa 10 2 2, ol 11 10, oa 12 2 3, ol 13 12, o 14 (.bin .sub (.t 11) (.t 13)), om 4 14]
  .ret)
 .skip))
 (.seq (sq [oa 15 1 2, ol 16 15, oa 17 1 3, ol 18 17, o 19 (.bin .neq (.t 16) (.t 18))]
 (.ite (.t 19) (sq [oa 20 1 2, ol 21 20, oa 22 1 3, ol 23 22, o 24 (.bin .sub (.t 21) (.t 23)), om 4 24]
  .ret)
 .skip))
 (sq [oa 25 3 2, ol 26 25, oa 27 3 3, ol 28 27, o 29 (.bin .sub (.t 26) (.t 28)), om 4 29]
 .ret))))
noncomputable def X.i_compareUnits (p0 : TUnit) (p1 : TUnit) : Option Int :=
 (bif (p0.At != p1.At) then some (W (p0.At - p1.At)) else (bif (p0.Kind != p1.Kind) then some (W (p0.Kind - p1.Kind)) else some (W (p0.Steps - p1.Steps))))
theorem i_compareUnits_ok (p0 : TUnit) (p1 : TUnit) (r : Int) (H : X.i_compareUnits p0 p1 = some r) : FK 107 [.agg (eTUnit p0), .agg (eTUnit p1)] (cI r) := by
 unfold X.i_compareUnits at H
 refine fi Tryz.f107 i_compareUnits_ir [(4, cI r)] [] glL Tryz.func107 ?_
 refine so [] [] [(2, pk 2), (3, pk 3)] [(2, va (eTUnit p0)), (3, va (eTUnit p1))] id ?_
 refine seq_in ?_
 refine sn [] [] [(9, cB (p0.At != p1.At))] [] [] id ?_
 rcases oC H with ⟨c2, H⟩ | ⟨c2, H⟩
 ·refine it c2 ?_
  refine so [] [] [(4, cI (W (p0.At - p1.At)))] [] id ?_
  cases H
  exact er
 ·refine jf c2 ?_
  refine sk ?_
  refine seq_in ?_
  refine sn [] [] [(19, cB (p0.Kind != p1.Kind))] [] [] id ?_
  rcases oC H with ⟨c3, H⟩ | ⟨c3, H⟩
  ·refine it c3 ?_
   refine so [] [] [(4, cI (W (p0.Kind - p1.Kind)))] [] id ?_
   cases H
   exact er
  ·refine jf c3 ?_
   refine sk ?_
   refine so [] [] [(4, cI (W (p0.Steps - p1.Steps)))] [] id ?_
   cases H
   exact er
def i_goodView_ir : S :=
 (sq [o 2 (.box 12 (.t 0)), o 3 (.box 6 (.t 1)), o 4 (.mv bF)]
 (.seq (sq [oa 9 0 3, ol 10 9, o 11 (.call 98 [.t 10]), o 12 (.not (.t 11)), om 13 12, og 14 (.fad 1 (.t 3)) 13, og 15 (.load 1 false (.t 14)) 13, og 16 (.fad 0 (.t 2)) 13, og 17 (.fad 6 (.t 16)) 13, og 18 (.load 1 false (.t 17)) 13, og 19 (.call 59 [.t 15, .v (.int .i64 0), .t 18]) 13, og 20 (.not (.t 19)) 13, o 21 (.pick (.t 13) bT (.t 20)), om 22 21, og 23 (.fad 2 (.t 3)) 22, og 24 (.load 1 false (.t 23)) 22, og 25 (.call 99 [.t 24]) 22, og 26 (.not (.t 25)) 22, o 27 (.pick (.t 22) bT (.t 26)), om 28 27, og 29 (.fad 3 (.t 3)) 28, og 30 (.load 1 false (.t 29)) 28, og 31 (.call 100 [.t 30]) 28, og 32 (.not (.t 31)) 28, o 33 (.pick (.t 28) bT (.t 32)), om 34 33, og 35 (.fad 4 (.t 3)) 34, og 36 (.load 1 false (.t 35)) 34, og 37 (.len (.t 36)) 34, og 38 (.bin .gtr (.t 37) (iv 12)) 34, o 39 (.pick (.t 34) bT (.t 38)), om 40 39, og 41 (.fad 5 (.t 3)) 40, og 42 (.load 1 false (.t 41)) 40, og 43 (.len (.t 42)) 40, og 44 (.bin .gtr (.t 43) (iv 12)) 40, o 45 (.pick (.t 40) bT (.t 44))]
 (.ite (.t 45) (sq [o 4 (.mv bF)]
  .ret)
 .skip))
 (.seq (sq [oa 46 3 3, ol 47 46, o 48 (.clo 101 [.t 2]), o 49 (.call 92 [.t 47, .t 48])]
 (.ite (.t 49) (sq [o 4 (.mv bF)]
  .ret)
 .skip))
 (.seq (sq [oa 50 4 3, ol 51 50, o 52 (.len (.t 51)), o 53 (.mv (iv 0))]
 (.blk 0 (.loop (sq [o 54 (.bin .lss (.t 53) (.t 52))]
   (.seq (.ite (.t 54) .skip
   (.exit 0))
   (.seq (.blk 1 (sq [o 55 (.iad 4 (.t 51) (.t 53)), o 56 (.load 4 true (.t 55)), o 6 (.alloc [.int .i64 0, .int .i64 0, .int .i64 0, .int .i64 0]), os 4 6 56]
    (sq [o 57 (.load 12 true (.t 2)), o 58 (.load 4 true (.t 6)), o 59 (.call 104 [.t 57, .t 58]), o 60 (.not (.t 59)), om 61 60, og 62 (.fad 0 (.t 6)) 61, og 63 (.load 1 false (.t 62)) 61, og 64 (.fad 0 (.t 3)) 61, og 65 (.load 1 false (.t 64)) 61, og 66 (.bin .neq (.t 63) (.t 65)) 61, o 67 (.pick (.t 61) bT (.t 66))]
    (.ite (.t 67) (sq [o 4 (.mv bF)]
     .ret)
    .skip))))
   (.ops [o 68 (.bin .add (.t 53) (iv 1)), om 53 68])))))))
 (.seq (sq [oa 69 5 3, ol 70 69, o 71 (.len (.t 70)), o 72 (.mv (iv 0))]
 (.blk 2 (.loop (sq [o 73 (.bin .lss (.t 72) (.t 71))]
   (.seq (.ite (.t 73) .skip
   (.exit 2))
   (.seq (.blk 3 (sq [o 74 (.iad 4 (.t 70) (.t 72)), o 75 (.load 4 true (.t 74)), o 8 (.alloc [.int .i64 0, .int .i64 0, .int .i64 0, .int .i64 0]), os 4 8 75]
    (sq [o 76 (.load 12 true (.t 2)), o 77 (.load 4 true (.t 8)), o 78 (.call 104 [.t 76, .t 77]), o 79 (.not (.t 78)), om 80 79, og 81 (.fad 0 (.t 8)) 80, og 82 (.load 1 false (.t 81)) 80, og 83 (.fad 0 (.t 3)) 80, og 84 (.load 1 false (.t 83)) 80, og 85 (.bin .eql (.t 82) (.t 84)) 80, o 86 (.pick (.t 80) bT (.t 85)), om 87 86, og 88 (.fad 3 (.t 3)) 87, og 89 (.load 1 false (.t 88)) 87, og 90 (.fad 2 (.t 8)) 87, og 91 (.load 1 false (.t 90)) 87, og 92 (.call 105 [.t 89, .t 91]) 87, og 93 (.not (.t 92)) 87, o 94 (.pick (.t 87) bT (.t 93))]
    (.ite (.t 94) (sq [o 4 (.mv bF)]
     .ret)
    .skip))))
   (.ops [o 95 (.bin .add (.t 72) (iv 1)), om 72 95])))))))
 (sq [oa 96 5 3, ol 97 96, o 98 (.call 106 [.t 97, .f 107]), om 4 98]
 .ret))))))
noncomputable def X.i_goodView (p0 : TBoard) (p1 : TView) : Option Bool :=
 ((X.i_isSide p1.Side).bind fun v15 => (bif (!v15) then some false else ((X.i_inRange p1.Turn 0 p0.Rules.Turns).bind fun v18 => (bif (!v18) then some false else ((X.i_isWeather p1.Weather).bind fun v21 => (bif (!v21) then some false else ((X.i_increasing p1.Seen).bind fun v24 => (bif (!v24) then some false else (bif (decide ((p1.Own.length : Int) > 12)) then some false else (bif (decide ((p1.Enemies.length : Int) > 12)) then some false else ((X.g_ContainsFunc_int p1.Seen (fun q0 => X.i_goodView_1 q0 p0)).bind fun v32 => (bif v32 then some false else ((loop (fun (x82 : Int) => ((bif (decide (x82 < (p1.Own.length : Int))) then ((at' zTUnit p1.Own x82).bind fun v85 => ((X.i_goodUnit p0 v85).bind fun v87 => (bif (!v87) then some (Sum.inr (Sum.inr false)) else (bif (v85.Side != p1.Side) then some (Sum.inr (Sum.inr false)) else some (Sum.inl (W (x82 + 1))))))) else some (Sum.inr (Sum.inl ()))) : Option (Int ⊕ (Unit ⊕ Bool)))) 0).bind fun y91 => (Sum.elim (fun (y93 : Unit) => ((loop (fun (x118 : Int) => ((bif (decide (x118 < (p1.Enemies.length : Int))) then ((at' zTUnit p1.Enemies x118).bind fun v121 => ((X.i_goodUnit p0 v121).bind fun v123 => (bif (!v123) then some (Sum.inr (Sum.inr false)) else (bif (v121.Side == p1.Side) then some (Sum.inr (Sum.inr false)) else ((X.g_Contains_int p1.Seen v121.At).bind fun v127 => (bif (!v127) then some (Sum.inr (Sum.inr false)) else some (Sum.inl (W (x118 + 1))))))))) else some (Sum.inr (Sum.inl ()))) : Option (Int ⊕ (Unit ⊕ Bool)))) 0).bind fun y130 => (Sum.elim (fun (y132 : Unit) => ((X.g_IsSortedFunc_Unit p1.Enemies (fun q0 q1 => X.i_compareUnits q0 q1)).bind fun v134 => some v134)) (fun (y133 : Bool) => some y133) y130))) (fun (y94 : Bool) => some y94) y91))))))))))))))
theorem i_goodView_ok (p0 : TBoard) (p1 : TView) (r : Bool) (H : X.i_goodView p0 p1 = some r) : FK 43 [.agg (eTBoard p0), .agg (eTView p1)] (cB r) := by
 unfold X.i_goodView at H
 refine fi Tryz.f43 i_goodView_ir [(4, cB r)] [] glL Tryz.func43 ?_
 refine so [] [] [(2, pk 2), (3, pk 3)] [(2, va (eTBoard p0)), (3, va (eTView p1))] id ?_
 refine seq_in ?_
 obtain ⟨v15, h16, H⟩ := oB H
 rcases oC H with ⟨c17, H⟩ | ⟨c17, H⟩
 ·refine sn ([.res (cB v15)] ++ rg 28 true []) [] [(45, cB true)] [] [] (fun t => aI (i_isSide_ok p1.Side v15 h16) (aG 8 c17 (aG 20 rT (t)))) ?_
  refine it rT ?_
  refine so [] [] [(4, cB false)] [] id ?_
  cases H
  exact er
 ·obtain ⟨v18, h19, H⟩ := oB H
  rcases oC H with ⟨c20, H⟩ | ⟨c20, H⟩
  ·refine sn ([.res (cB v15)] ++ rg 6 false ([.res (cB v18)] ++ rg 2 false (rg 20 true []))) [] [(45, cB true)] [] [] (fun t => aI (i_isSide_ok p1.Side v15 h16) (aG 6 c17 (aI (i_inRange_ok p1.Turn 0 p0.Rules.Turns v18 h19) (aG 2 c17 (aG 5 c20 (aG 15 rT (t))))))) ?_
   refine it rT ?_
   refine so [] [] [(4, cB false)] [] id ?_
   cases H
   exact er
  ·obtain ⟨v21, h22, H⟩ := oB H
   rcases oC H with ⟨c23, H⟩ | ⟨c23, H⟩
   ·refine sn ([.res (cB v15)] ++ rg 6 false ([.res (cB v18)] ++ rg 5 false ([.res (cB v21)] ++ rg 2 false (rg 15 true [])))) [] [(45, cB true)] [] [] (fun t => aI (i_isSide_ok p1.Side v15 h16) (aG 6 c17 (aI (i_inRange_ok p1.Turn 0 p0.Rules.Turns v18 h19) (aG 2 c17 (aG 3 c20 (aI (i_isWeather_ok p1.Weather v21 h22) (aG 2 c20 (aG 5 c23 (aG 10 rT (t)))))))))) ?_
    refine it rT ?_
    refine so [] [] [(4, cB false)] [] id ?_
    cases H
    exact er
   ·obtain ⟨v24, h25, H⟩ := oB H
    rcases oC H with ⟨c26, H⟩ | ⟨c26, H⟩
    ·refine sn ([.res (cB v15)] ++ rg 6 false ([.res (cB v18)] ++ rg 5 false ([.res (cB v21)] ++ rg 5 false ([.res (cB v24)] ++ rg 2 false (rg 10 true []))))) [] [(45, cB true)] [] [] (fun t => aI (i_isSide_ok p1.Side v15 h16) (aG 6 c17 (aI (i_inRange_ok p1.Turn 0 p0.Rules.Turns v18 h19) (aG 2 c17 (aG 3 c20 (aI (i_isWeather_ok p1.Weather v21 h22) (aG 2 c20 (aG 3 c23 (aI (i_increasing_ok p1.Seen v24 h25) (aG 2 c23 (aG 5 c26 (aG 5 rT (t))))))))))))) ?_
     refine it rT ?_
     refine so [] [] [(4, cB false)] [] id ?_
     cases H
     exact er
    ·rcases oC H with ⟨c27, H⟩ | ⟨c27, H⟩
     ·refine sn ([.res (cB v15)] ++ rg 6 false ([.res (cB v18)] ++ rg 5 false ([.res (cB v21)] ++ rg 5 false ([.res (cB v24)] ++ rg 7 false (rg 5 true []))))) [] [(45, cB true)] [] [] (fun t => aI (i_isSide_ok p1.Side v15 h16) (aG 6 c17 (aI (i_inRange_ok p1.Turn 0 p0.Rules.Turns v18 h19) (aG 2 c17 (aG 3 c20 (aI (i_isWeather_ok p1.Weather v21 h22) (aG 2 c20 (aG 3 c23 (aI (i_increasing_ok p1.Seen v24 h25) (aG 2 c23 (aG 3 c26 (lI p1.Own (aG 2 c26 (aG 5 c27 (t))))))))))))))) ?_
      refine it rT ?_
      refine so [] [] [(4, cB false)] [] id ?_
      cases H
      exact er
     ·refine sn ([.res (cB v15)] ++ rg 6 false ([.res (cB v18)] ++ rg 5 false ([.res (cB v21)] ++ rg 5 false ([.res (cB v24)] ++ rg 12 false [])))) [] [(45, cB (decide ((p1.Enemies.length : Int) > 12)))] [] [] (fun t => aI (i_isSide_ok p1.Side v15 h16) (aG 6 c17 (aI (i_inRange_ok p1.Turn 0 p0.Rules.Turns v18 h19) (aG 2 c17 (aG 3 c20 (aI (i_isWeather_ok p1.Weather v21 h22) (aG 2 c20 (aG 3 c23 (aI (i_increasing_ok p1.Seen v24 h25) (aG 2 c23 (aG 3 c26 (lI p1.Own (aG 2 c26 (aG 3 c27 (lI p1.Enemies (aG 2 c27 (t))))))))))))))))) ?_
      rcases oC H with ⟨c28, H⟩ | ⟨c28, H⟩
      ·refine it c28 ?_
       refine so [] [] [(4, cB false)] [] id ?_
       cases H
       exact er
      ·refine jf c28 ?_
       refine sk ?_
       refine seq_in ?_
       obtain ⟨v32, h33, H⟩ := oB H
       refine sn [.res (cB v32)] [] [(49, cB v32)] [] [] (aI (g_ContainsFunc_int_c1_ok p1.Seen (101) (eTBoard p0) (fun q0 => X.i_goodView_1 q0 p0) (fun q0 r h => i_goodView_1_ok q0 p0 r h) v32 h33)) ?_
       rcases oC H with ⟨c34, H⟩ | ⟨c34, H⟩
       ·refine it c34 ?_
        refine so [] [] [(4, cB false)] [] id ?_
        cases H
        exact er
       ·refine jf c34 ?_
        refine sk ?_
        refine seq_in ?_
        refine sn [] [] [(51, dc 4 eTUnit zTUnit p1.Own), (52, cL p1.Own), (53, cI 0)] [] [] (fun t => lI p1.Own (t)) ?_
        refine ends_blk ?_
        obtain ⟨y91, h92, H⟩ := oB H
        refine tl [] [(2, pk 2), (3, pk 3), (51, dc 4 eTUnit zTUnit p1.Own), (52, cL p1.Own), (53, cI 0)] [(2, va (eTBoard p0)), (3, va (eTView p1))] id ?_
        refine loop_in (fun (x : Int) => lit [(2, pk 2), (3, pk 3), (51, dc 4 eTUnit zTUnit p1.Own), (52, cL p1.Own), (53, cI x)] [(2, va (eTBoard p0)), (3, va (eTView p1))]) (orJ (fun (z : Unit) => At (.exit 0) (lit [(2, pk 2), (3, pk 3)] [(2, va (eTBoard p0)), (3, va (eTView p1))])) (fun (z : Bool) => At .ret (lit [(4, cB z)] []))) h92 ?_ ?_
        ·clear H h92
         intro x82 y0 H
         refine sn [] [] [(54, cB (decide (x82 < (p1.Own.length : Int))))] [] [] id ?_
         refine seq_in ?_
         rcases oC H with ⟨c84, H⟩ | ⟨c84, H⟩
         ·refine it c84 ?_
          refine sk ?_
          refine seq_in ?_
          refine ends_blk ?_
          obtain ⟨v85, h86, H⟩ := oB H
          refine sn [.cs (eTUnit v85)] [] [(6, pk 6)] [] [(6, va (eTUnit v85))] (a2 eTUnit h86) ?_
          obtain ⟨v87, h88, H⟩ := oB H
          rcases oC H with ⟨c89, H⟩ | ⟨c89, H⟩
          ·refine sn ([.res (cB v87)] ++ rg 6 true []) [] [(67, cB true)] [] [] (fun t => aI (i_goodUnit_ok p0 v85 v87 h88) (aG 6 c89 (t))) ?_
           refine it rT ?_
           refine so [] [] [(4, cB false)] [] id ?_
           refine ends_ret ?_
           cases H
           exact rsr
          ·refine sn ([.res (cB v87)] ++ rg 6 false []) [] [(67, cB (v85.Side != p1.Side))] [] [] (fun t => aI (i_goodUnit_ok p0 v85 v87 h88) (aG 6 c89 (t))) ?_
           rcases oC H with ⟨c90, H⟩ | ⟨c90, H⟩
           ·refine it c90 ?_
            refine so [] [] [(4, cB false)] [] id ?_
            refine ends_ret ?_
            cases H
            exact rsr
           ·refine jf c90 ?_
            refine sk ?_
            refine oo [] [] [(2, pk 2), (3, pk 3), (51, dc 4 eTUnit zTUnit p1.Own), (52, cL p1.Own), (53, cI (W (x82 + 1)))] [(2, va (eTBoard p0)), (3, va (eTView p1))] id ?_
            cases H
            exact rr
         ·refine jf c84 ?_
          refine tl [] [(2, pk 2), (3, pk 3)] [(2, va (eTBoard p0)), (3, va (eTView p1))] id ?_
          refine ends_exit ?_
          cases H
          exact rse
        ·clear h92
         cases y91 with
         | inl y93 =>
          replace H := ofInl H
          rintro e s ⟨rfl, rfl⟩
          change EndsI _ _ _ _ _ _
          refine seq_in ?_
          refine sn [] [] [(70, dc 4 eTUnit zTUnit p1.Enemies), (71, cL p1.Enemies), (72, cI 0)] [] [] (fun t => lI p1.Enemies (t)) ?_
          refine ends_blk ?_
          obtain ⟨y130, h131, H⟩ := oB H
          refine tl [] [(2, pk 2), (3, pk 3), (70, dc 4 eTUnit zTUnit p1.Enemies), (71, cL p1.Enemies), (72, cI 0)] [(2, va (eTBoard p0)), (3, va (eTView p1))] id ?_
          refine loop_in (fun (x : Int) => lit [(2, pk 2), (3, pk 3), (70, dc 4 eTUnit zTUnit p1.Enemies), (71, cL p1.Enemies), (72, cI x)] [(2, va (eTBoard p0)), (3, va (eTView p1))]) (orJ (fun (z : Unit) => At (.exit 2) (lit [(3, pk 3)] [(3, va (eTView p1))])) (fun (z : Bool) => At .ret (lit [(4, cB z)] []))) h131 ?_ ?_
          ·clear H h131
           intro x118 y0 H
           refine sn [] [] [(73, cB (decide (x118 < (p1.Enemies.length : Int))))] [] [] id ?_
           refine seq_in ?_
           rcases oC H with ⟨c120, H⟩ | ⟨c120, H⟩
           ·refine it c120 ?_
            refine sk ?_
            refine seq_in ?_
            refine ends_blk ?_
            obtain ⟨v121, h122, H⟩ := oB H
            refine sn [.cs (eTUnit v121)] [] [(8, pk 8)] [] [(8, va (eTUnit v121))] (a2 eTUnit h122) ?_
            obtain ⟨v123, h124, H⟩ := oB H
            rcases oC H with ⟨c125, H⟩ | ⟨c125, H⟩
            ·refine sn ([.res (cB v123)] ++ rg 13 true []) [] [(94, cB true)] [] [] (fun t => aI (i_goodUnit_ok p0 v121 v123 h124) (aG 6 c125 (aG 7 rT (t)))) ?_
             refine it rT ?_
             refine so [] [] [(4, cB false)] [] id ?_
             refine ends_ret ?_
             cases H
             exact rsr
            ·rcases oC H with ⟨c126, H⟩ | ⟨c126, H⟩
             ·refine sn ([.res (cB v123)] ++ rg 6 false (rg 7 true [])) [] [(94, cB true)] [] [] (fun t => aI (i_goodUnit_ok p0 v121 v123 h124) (aG 6 c125 (aG 7 c126 (t)))) ?_
              refine it rT ?_
              refine so [] [] [(4, cB false)] [] id ?_
              refine ends_ret ?_
              cases H
              exact rsr
             ·obtain ⟨v127, h128, H⟩ := oB H
              refine sn ([.res (cB v123)] ++ rg 11 false ([.res (cB v127)] ++ rg 2 false [])) [] [(94, cB (!v127))] [] [] (fun t => aI (i_goodUnit_ok p0 v121 v123 h124) (aG 6 c125 (aG 5 c126 (aI (g_Contains_int_ok p1.Seen v121.At v127 h128) (aG 2 c126 (t)))))) ?_
              rcases oC H with ⟨c129, H⟩ | ⟨c129, H⟩
              ·refine it c129 ?_
               refine so [] [] [(4, cB false)] [] id ?_
               refine ends_ret ?_
               cases H
               exact rsr
              ·refine jf c129 ?_
               refine sk ?_
               refine oo [] [] [(2, pk 2), (3, pk 3), (70, dc 4 eTUnit zTUnit p1.Enemies), (71, cL p1.Enemies), (72, cI (W (x118 + 1)))] [(2, va (eTBoard p0)), (3, va (eTView p1))] id ?_
               cases H
               exact rr
           ·refine jf c120 ?_
            refine tl [] [(3, pk 3)] [(3, va (eTView p1))] id ?_
            refine ends_exit ?_
            cases H
            exact rse
          ·clear h131
           cases y130 with
           | inl y132 =>
            replace H := ofInl H
            rintro e s ⟨rfl, rfl⟩
            change EndsI _ _ _ _ _ _
            obtain ⟨v134, h135, H⟩ := oB H
            refine so [.res (cB v134)] [] [(4, cB v134)] [] (aI (g_IsSortedFunc_Unit_c0_ok p1.Enemies (107) (fun q0 q1 => X.i_compareUnits q0 q1) (fun q0 q1 r h => i_compareUnits_ok q0 q1 r h) v134 h135)) ?_
            cases H
            exact er
           | inr y133 =>
            replace H := ofInr H
            rintro e s ⟨rfl, rfl⟩
            cases H
            exact qr
         | inr y94 =>
          replace H := ofInr H
          rintro e s ⟨rfl, rfl⟩
          cases H
          exact qr
noncomputable def X.x_strings_Join (p0 : List (List UInt8)) (p1 : List UInt8) : Option (List UInt8) :=
 if p0.length ≤ 140737488355328 ∧ (p1.intercalate p0).length ≤ 140737488355328 then some (p1.intercalate p0) else none
theorem x_strings_Join_ok (p0 : List (List UInt8)) (p1 : List UInt8) (r : List UInt8) (H : X.x_strings_Join p0 p1 = some r) : FK 156 [.c (dat 1 eS zS p0), .c (.str p1)] (.c (.str r)) :=
 join_fn (by kernel_rfl) (Any.strings_Join_none lays156 bldX156) (fun bk o c xs sep w h1 h2 h3 h4 h5 => Any.strings_Join lays156 bldX156 bk o c xs sep w h1 h2 h3 h4 h5) (fun _ => rfl) p0 p1 r H
def i_wordsText_ir : S :=
 (sq [o 4 (.mv (.v (.str [])))]
 (sq [om 8 0, o 9 (.bsl 1 [.t 8]), om 5 9]
 (.seq (sq [om 10 1, o 11 (.len (.t 10)), o 12 (.mv (iv 0))]
 (.blk 0 (.loop (sq [o 13 (.bin .lss (.t 12) (.t 11))]
   (.seq (.ite (.t 13) .skip
   (.exit 0))
   (.seq (.blk 1 (sq [o 14 (.iad 1 (.t 10) (.t 12)), ol 15 14, om 7 15]
    (.ops [om 16 5, om 17 7, o 18 (.call 42 [.t 17]), o 19 (.bsl 1 [.t 18]), o 20 (.app 1 16 (.t 16) (.t 19)), om 5 20])))
   (.ops [o 21 (.bin .add (.t 12) (iv 1)), om 12 21])))))))
 (sq [om 22 5, o 23 (.call 156 [.t 22, .v (.str [32])]), om 4 23]
 .ret))))
noncomputable def X.i_wordsText (p0 : (List UInt8)) (p1 : (List Int)) : Option (List UInt8) :=
 ((loop (fun (x16 : (Int × (List (List UInt8)))) => ((bif (decide (x16.1 < (p1.length : Int))) then ((at' zI p1 x16.1).bind fun v19 => ((X.x_strconv_Itoa v19).bind fun v21 => (if (x16.2 ++ ([v21] : List (List UInt8))).length ≤ LIM then some (Sum.inl ((W (x16.1 + 1)), (x16.2 ++ ([v21] : List (List UInt8))))) else none))) else some (Sum.inr x16.2)) : Option ((Int × (List (List UInt8))) ⊕ (List (List UInt8))))) (0, ([p0] : List (List UInt8)))).bind fun y24 => ((X.x_strings_Join y24 [32]).bind fun v26 => some v26))
theorem i_wordsText_ok (p0 : (List UInt8)) (p1 : (List Int)) (r : (List UInt8)) (H : X.i_wordsText p0 p1 = some r) : FK 108 [.c (.str p0), .c (dat 1 eI zI p1)] (.c (.str r)) := by
 unfold X.i_wordsText at H
 refine fi Tryz.f108 i_wordsText_ir [(4, .c (.str r))] [] glL Tryz.func108 ?_
 refine sn [] [] [] [] [] id ?_
 refine sn [fh eS zS ([p0] : List (List UInt8))] [] [(5, ow 9 1 ([p0] : List (List UInt8)))] [] [(9, ar 1 eS zS ([p0] : List (List UInt8)))] (fun t => aI (rfl : ([p0] : List (List UInt8)).length = 1) (aI (fF_lit eS zS ([p0] : List (List UInt8))) (t))) ?_
 refine seq_in ?_
 refine sn [] [] [(10, dc 1 eI zI p1), (11, cL p1), (12, cI 0)] [] [] (fun t => lI p1 (t)) ?_
 refine ends_blk ?_
 obtain ⟨y24, h25, H⟩ := oB H
 refine tl [.ren 9 1001] [(5, ow 1001 1 ([p0] : List (List UInt8))), (10, dc 1 eI zI p1), (11, cL p1), (12, cI 0)] [(1001, ar 1 eS zS ([p0] : List (List UInt8)))] id ?_
 refine loop_in (fun (x : (Int × (List (List UInt8)))) => lit [(5, ow 1001 1 x.2), (10, dc 1 eI zI p1), (11, cL p1), (12, cI x.1)] [(1001, ar 1 eS zS x.2)]) (fun (z : (List (List UInt8))) => At (.exit 0) (lit [(5, ow 1001 1 z)] [(1001, ar 1 eS zS z)])) h25 ?_ ?_
 ·clear H h25
  intro x16 y0 H
  refine sn [] [] [(13, cB (decide (x16.1 < (p1.length : Int))))] [] [] id ?_
  refine seq_in ?_
  rcases oC H with ⟨c18, H⟩ | ⟨c18, H⟩
  ·refine it c18 ?_
   refine sk ?_
   refine seq_in ?_
   refine ends_blk ?_
   obtain ⟨v19, h20, H⟩ := oB H
   refine sn [.cs (eI v19)] [] [(7, cI v19)] [] [] (a2 eI h20) ?_
   obtain ⟨v21, h22, H⟩ := oB H
   obtain ⟨g23, H⟩ := oI H
   refine oo [.res (.c (.str v21)), fh eS zS ([v21] : List (List UInt8)), fh eS zS (x16.2 ++ ([v21] : List (List UInt8)))] [] [(5, ow 20 1 (x16.2 ++ ([v21] : List (List UInt8)))), (10, dc 1 eI zI p1), (11, cL p1), (12, cI x16.1)] [(20, ar 1 eS zS (x16.2 ++ ([v21] : List (List UInt8))))] (fun t => aI (x_strconv_Itoa_ok v19 v21 h22) (aI (rfl : ([v21] : List (List UInt8)).length = 1) (aI (fF_lit eS zS ([v21] : List (List UInt8))) (aI (Nat.le_refl (([v21] : List (List UInt8)).length)) (aI (And.intro (Nat.le_refl x16.2.length) (And.intro (@List.length_append _ x16.2 ([v21] : List (List UInt8))) g23)) (aI (fF_appL eS zS x16.2 ([v21] : List (List UInt8))) (aI (fF_appR eS zS x16.2 ([v21] : List (List UInt8))) (t)))))))) ?_
   change EndsI _ _ _ _ _ _
   refine oo [] [.ren 20 1001] [(5, ow 1001 1 (x16.2 ++ ([v21] : List (List UInt8)))), (10, dc 1 eI zI p1), (11, cL p1), (12, cI (W (x16.1 + 1)))] [(1001, ar 1 eS zS (x16.2 ++ ([v21] : List (List UInt8))))] id ?_
   cases H
   exact rr
  ·refine jf c18 ?_
   refine tl [] [(5, ow 1001 1 x16.2)] [(1001, ar 1 eS zS x16.2)] id ?_
   refine ends_exit ?_
   cases H
   exact rse
 ·clear h25
  rintro e s ⟨rfl, rfl⟩
  change EndsI _ _ _ _ _ _
  obtain ⟨v26, h27, H⟩ := oB H
  refine so [.res (.c (.str v26))] [] [(4, .c (.str v26))] [] (fun t => aI (Nat.le_refl y24.length) (aI (x_strings_Join_ok y24 [32] v26 h27) (t))) ?_
  cases H
  exact er
def i_placeText_ir : S :=
 (sq [o 2 (.mv (.v (.str [])))]
 (.seq (sq [om 3 0, o 4 (.bin .lss (.t 3) (iv 0))]
 (.ite (.t 4) (sq [o 2 (.mv (.v (.str [45])))]
  .ret)
 .skip))
 (sq [om 5 0, o 6 (.call 42 [.t 5]), om 2 6]
 .ret)))
noncomputable def X.i_placeText (p0 : Int) : Option (List UInt8) :=
 (bif (decide (p0 < 0)) then some [45] else ((X.x_strconv_Itoa p0).bind fun v2 => some v2))
theorem i_placeText_ok (p0 : Int) (r : (List UInt8)) (H : X.i_placeText p0 = some r) : FK 110 [cI p0] (.c (.str r)) := by
 unfold X.i_placeText at H
 refine fi Tryz.f110 i_placeText_ir [(2, .c (.str r))] [] glL Tryz.func110 ?_
 refine sn [] [] [] [] [] id ?_
 refine seq_in ?_
 refine sn [] [] [(4, cB (decide (p0 < 0)))] [] [] id ?_
 rcases oC H with ⟨c1, H⟩ | ⟨c1, H⟩
 ·refine it c1 ?_
  refine so [] [] [(2, .c (.str [45]))] [] id ?_
  cases H
  exact er
 ·refine jf c1 ?_
  refine sk ?_
  obtain ⟨v2, h3, H⟩ := oB H
  refine so [.res (.c (.str v2))] [] [(2, .c (.str v2))] [] (aI (x_strconv_Itoa_ok p0 v2 h3)) ?_
  cases H
  exact er
def i_reportText_1_ir : S :=
 (sq [o 4 (.box 4 (.t 1)), o 5 (.mv (.v (.str [])))]
 (.seq (.drw [(0, 2), (1, 2), (0, 3), (1, 3), (0, 4), (1, 4), (0, 5), (1, 5), (2, 5), (3, 5), (4, 5), (0, 6), (1, 6), (2, 6), (3, 6), (4, 6), (0, 7), (1, 7), (0, 8), (1, 8), (0, 9), (1, 9), (0, 12), (1, 12), (2, 12), (3, 12), (4, 12), (5, 12), (6, 12), (7, 12), (8, 12), (9, 12), (10, 12), (11, 12), (0, 13), (1, 13), (2, 13), (3, 13), (4, 13), (5, 13), (6, 13), (7, 13), (8, 13), (9, 13), (10, 13), (11, 13), (0, 14), (1, 14), (2, 14), (3, 14), (4, 14), (5, 14), (6, 14), (7, 14), (8, 14), (9, 14), (10, 14), (11, 14), (0, 17), (1, 17), (2, 17), (3, 17), (4, 17), (5, 17), (6, 17), (7, 17), (8, 17), (9, 17), (10, 17), (11, 17), (12, 17), (13, 17), (14, 17), (15, 17), (16, 17), (0, 18), (1, 18), (2, 18), (3, 18), (4, 18), (5, 18), (6, 18), (7, 18), (8, 18), (9, 18), (10, 18), (11, 18), (12, 18), (13, 18), (14, 18), (15, 18), (16, 18), (0, 19), (1, 19), (2, 19), (3, 19), (4, 19), (5, 19), (6, 19), (7, 19), (8, 19), (9, 19), (10, 19), (11, 19), (15, 19), (16, 19)] [om 6 0, o 7 (.bin .add (.t 6) (.v (.str [32]))), oa 8 0 2, oa 9 1 8, ol 10 9, oa 11 1 4, ol 12 11, o 13 (.iad 6 (.t 10) (.t 12)), oa 14 0 13, ol 15 14, o 16 (.bin .add (.t 7) (.t 15)), o 17 (.bin .add (.t 16) (.v (.str [32]))), oa 18 2 4, ol 19 18, o 20 (.call 110 [.t 19]), o 21 (.bin .add (.t 17) (.t 20)), o 22 (.bin .add (.t 21) (.v (.str [32]))), oa 23 3 4, ol 24 23, o 25 (.call 42 [.t 24]), o 26 (.bin .add (.t 22) (.t 25)), o 27 (.bin .add (.t 26) (.v (.str [10]))), om 5 27])
 .ret))
noncomputable def X.i_reportText_1 (p0 : (List UInt8)) (p1 : TUnit) (p2 : TBoard) : Option (List UInt8) :=
 (if p0.length + ([32] : List UInt8).length ≤ maxLen then ((at' zTKind p2.Rules.Kinds p1.Kind).bind fun v2 => (if (p0 ++ ([32] : List UInt8)).length + v2.Name.length ≤ maxLen then (if ((p0 ++ ([32] : List UInt8)) ++ v2.Name).length + ([32] : List UInt8).length ≤ maxLen then ((X.i_placeText p1.At).bind fun v6 => (if (((p0 ++ ([32] : List UInt8)) ++ v2.Name) ++ ([32] : List UInt8)).length + v6.length ≤ maxLen then (if ((((p0 ++ ([32] : List UInt8)) ++ v2.Name) ++ ([32] : List UInt8)) ++ v6).length + ([32] : List UInt8).length ≤ maxLen then ((X.x_strconv_Itoa p1.Steps).bind fun v10 => (if (((((p0 ++ ([32] : List UInt8)) ++ v2.Name) ++ ([32] : List UInt8)) ++ v6) ++ ([32] : List UInt8)).length + v10.length ≤ maxLen then (if ((((((p0 ++ ([32] : List UInt8)) ++ v2.Name) ++ ([32] : List UInt8)) ++ v6) ++ ([32] : List UInt8)) ++ v10).length + ([10] : List UInt8).length ≤ maxLen then some (((((((p0 ++ ([32] : List UInt8)) ++ v2.Name) ++ ([32] : List UInt8)) ++ v6) ++ ([32] : List UInt8)) ++ v10) ++ ([10] : List UInt8)) else none) else none)) else none) else none)) else none) else none)) else none)
theorem i_reportText_1_ok (p0 : (List UInt8)) (p1 : TUnit) (p2 : TBoard) (r : (List UInt8)) (H : X.i_reportText_1 p0 p1 p2 = some r) : FK 109 [.c (.str p0), .agg (eTUnit p1), .c (.pd (eTBoard p2) 0)] (.c (.str r)) := by
 unfold X.i_reportText_1 at H
 refine fi Tryz.f109 i_reportText_1_ir [(5, .c (.str r))] [] glL Tryz.func109 ?_
 refine sn [] [] [(4, pk 4)] [] [(4, va (eTUnit p1))] id ?_
 obtain ⟨g1, H⟩ := oI H
 obtain ⟨v2, h3, H⟩ := oB H
 obtain ⟨g4, H⟩ := oI H
 obtain ⟨g5, H⟩ := oI H
 obtain ⟨v6, h7, H⟩ := oB H
 obtain ⟨g8, H⟩ := oI H
 obtain ⟨g9, H⟩ := oI H
 obtain ⟨v10, h11, H⟩ := oB H
 obtain ⟨g12, H⟩ := oI H
 obtain ⟨g13, H⟩ := oI H
 refine sx [.cs (eTKind v2), .res (.c (.str v6)), .res (.c (.str v10))] [] [(5, .c (.str (((((((p0 ++ ([32] : List UInt8)) ++ v2.Name) ++ ([32] : List UInt8)) ++ v6) ++ ([32] : List UInt8)) ++ v10) ++ ([10] : List UInt8))))] [] (fun t => aI g1 (aI rN ((a2 eTKind h3 (aI rN (aI g4 (aI g5 (aI (i_placeText_ok p1.At v6 h7) (aI trivial (aI rN (aI g8 (aI g9 (aI (x_strconv_Itoa_ok p1.Steps v10 h11) (aI trivial (aI rN (aI g12 (aI g13 (t)))))))))))))))))) ?_
 cases H
 exact er
def i_reportText_ir : S :=
 (sq [o 2 (.box 12 (.t 0)), o 3 (.box 6 (.t 1)), o 4 (.mv (.v (.str [])))]
 (.seq (.drw [(0, 5), (1, 5), (2, 5), (3, 5), (4, 5), (0, 6), (1, 6), (2, 6), (3, 6), (4, 6), (0, 7), (1, 7), (2, 7), (3, 7), (4, 7), (4, 8), (0, 11), (1, 11), (2, 11), (3, 11), (4, 11), (5, 11), (6, 11), (7, 11), (8, 11), (9, 11), (10, 11), (0, 12), (1, 12), (2, 12), (3, 12), (4, 12), (5, 12), (6, 12), (7, 12), (8, 12), (9, 12), (10, 12), (0, 13), (1, 13), (2, 13), (3, 13), (4, 13), (5, 13), (6, 13), (7, 13), (8, 13), (9, 13), (10, 13), (4, 14), (9, 14), (10, 14), (0, 17), (1, 17), (2, 17), (3, 17), (4, 17), (5, 17), (6, 17), (7, 17), (8, 17), (9, 17), (10, 17), (11, 17), (12, 17), (13, 17), (14, 17), (15, 17), (16, 17), (0, 18), (1, 18), (2, 18), (3, 18), (4, 18), (5, 18), (6, 18), (7, 18), (8, 18), (9, 18), (10, 18), (11, 18), (12, 18), (13, 18), (14, 18), (15, 18), (16, 18), (4, 19), (9, 19), (10, 19), (15, 19), (16, 19)] [oa 11 0 3, ol 12 11, o 13 (.bsl 1 [.t 12]), o 14 (.call 108 [.v (.str [115, 105, 100, 101]), .t 13]), o 15 (.bin .add (.t 14) (.v (.str [32]))), oa 16 1 3, ol 17 16, o 18 (.bsl 1 [.t 17]), o 19 (.call 108 [.v (.str [116, 117, 114, 110]), .t 18]), o 20 (.bin .add (.t 15) (.t 19)), o 21 (.bin .add (.t 20) (.v (.str [32]))), oa 22 2 3, ol 23 22, o 24 (.bsl 1 [.t 23]), o 25 (.call 108 [.v (.str [119, 101, 97, 116, 104, 101, 114]), .t 24]), o 26 (.bin .add (.t 21) (.t 25)), o 27 (.bin .add (.t 26) (.v (.str [10]))), oa 28 3 3, ol 29 28, o 30 (.call 108 [.v (.str [115, 101, 101, 110]), .t 29]), o 31 (.bin .add (.t 27) (.t 30)), o 32 (.bin .add (.t 31) (.v (.str [10]))), om 5 32])
 (sq [o 33 (.clo 109 [.t 2]), om 6 33]
 (.seq (sq [oa 34 4 3, ol 35 34, o 36 (.len (.t 35)), o 37 (.mv (iv 0))]
 (.blk 0 (.loop (sq [o 38 (.bin .lss (.t 37) (.t 36))]
   (.seq (.ite (.t 38) .skip
   (.exit 0))
   (.seq (.blk 1 (sq [o 39 (.iad 4 (.t 35) (.t 37)), o 40 (.load 4 true (.t 39)), o 8 (.alloc [.int .i64 0, .int .i64 0, .int .i64 0, .int .i64 0]), os 4 8 40]
    (.ops [om 41 5, om 42 6, o 43 (.load 4 true (.t 8)), o 44 (.cald (.t 42) [.v (.str [111, 119, 110]), .t 43]), o 45 (.bin .add (.t 41) (.t 44)), om 5 45])))
   (.ops [o 46 (.bin .add (.t 37) (iv 1)), om 37 46])))))))
 (.seq (sq [oa 47 5 3, ol 48 47, o 49 (.len (.t 48)), o 50 (.mv (iv 0))]
 (.blk 2 (.loop (sq [o 51 (.bin .lss (.t 50) (.t 49))]
   (.seq (.ite (.t 51) .skip
   (.exit 2))
   (.seq (.blk 3 (sq [o 52 (.iad 4 (.t 48) (.t 50)), o 53 (.load 4 true (.t 52)), o 10 (.alloc [.int .i64 0, .int .i64 0, .int .i64 0, .int .i64 0]), os 4 10 53]
    (.ops [om 54 5, om 55 6, o 56 (.load 4 true (.t 10)), o 57 (.cald (.t 55) [.v (.str [101, 110, 101, 109, 121]), .t 56]), o 58 (.bin .add (.t 54) (.t 57)), om 5 58])))
   (.ops [o 59 (.bin .add (.t 50) (iv 1)), om 50 59])))))))
 (sq [om 60 5, om 4 60]
 .ret))))))
noncomputable def X.i_reportText (p0 : TBoard) (p1 : TView) : Option (List UInt8) :=
 ((X.i_wordsText [115, 105, 100, 101] ([p1.Side] : List Int)).bind fun v1 => (if v1.length + ([32] : List UInt8).length ≤ maxLen then ((X.i_wordsText [116, 117, 114, 110] ([p1.Turn] : List Int)).bind fun v4 => (if (v1 ++ ([32] : List UInt8)).length + v4.length ≤ maxLen then (if ((v1 ++ ([32] : List UInt8)) ++ v4).length + ([32] : List UInt8).length ≤ maxLen then ((X.i_wordsText [119, 101, 97, 116, 104, 101, 114] ([p1.Weather] : List Int)).bind fun v8 => (if (((v1 ++ ([32] : List UInt8)) ++ v4) ++ ([32] : List UInt8)).length + v8.length ≤ maxLen then (if ((((v1 ++ ([32] : List UInt8)) ++ v4) ++ ([32] : List UInt8)) ++ v8).length + ([10] : List UInt8).length ≤ maxLen then ((X.i_wordsText [115, 101, 101, 110] p1.Seen).bind fun v12 => (if (((((v1 ++ ([32] : List UInt8)) ++ v4) ++ ([32] : List UInt8)) ++ v8) ++ ([10] : List UInt8)).length + v12.length ≤ maxLen then (if ((((((v1 ++ ([32] : List UInt8)) ++ v4) ++ ([32] : List UInt8)) ++ v8) ++ ([10] : List UInt8)) ++ v12).length + ([10] : List UInt8).length ≤ maxLen then ((loop (fun (x56 : ((List UInt8) × Int)) => ((bif (decide (x56.2 < (p1.Own.length : Int))) then ((at' zTUnit p1.Own x56.2).bind fun v59 => ((X.i_reportText_1 [111, 119, 110] v59 p0).bind fun v61 => (if x56.1.length + v61.length ≤ maxLen then some (Sum.inl ((x56.1 ++ v61), (W (x56.2 + 1)))) else none))) else some (Sum.inr x56.1)) : Option (((List UInt8) × Int) ⊕ (List UInt8)))) ((((((((v1 ++ ([32] : List UInt8)) ++ v4) ++ ([32] : List UInt8)) ++ v8) ++ ([10] : List UInt8)) ++ v12) ++ ([10] : List UInt8)), 0)).bind fun y64 => ((loop (fun (x81 : ((List UInt8) × Int)) => ((bif (decide (x81.2 < (p1.Enemies.length : Int))) then ((at' zTUnit p1.Enemies x81.2).bind fun v84 => ((X.i_reportText_1 [101, 110, 101, 109, 121] v84 p0).bind fun v86 => (if x81.1.length + v86.length ≤ maxLen then some (Sum.inl ((x81.1 ++ v86), (W (x81.2 + 1)))) else none))) else some (Sum.inr x81.1)) : Option (((List UInt8) × Int) ⊕ (List UInt8)))) (y64, 0)).bind fun y89 => some y89)) else none) else none)) else none) else none)) else none) else none)) else none))
theorem i_reportText_ok (p0 : TBoard) (p1 : TView) (r : (List UInt8)) (H : X.i_reportText p0 p1 = some r) : FK 44 [.agg (eTBoard p0), .agg (eTView p1)] (.c (.str r)) := by
 unfold X.i_reportText at H
 refine fi Tryz.f44 i_reportText_ir [(4, .c (.str r))] [] glL Tryz.func44 ?_
 refine so [] [] [(2, pk 2), (3, pk 3)] [(2, va (eTBoard p0)), (3, va (eTView p1))] id ?_
 obtain ⟨v1, h2, H⟩ := oB H
 obtain ⟨g3, H⟩ := oI H
 obtain ⟨v4, h5, H⟩ := oB H
 obtain ⟨g6, H⟩ := oI H
 obtain ⟨g7, H⟩ := oI H
 obtain ⟨v8, h9, H⟩ := oB H
 obtain ⟨g10, H⟩ := oI H
 obtain ⟨g11, H⟩ := oI H
 obtain ⟨v12, h13, H⟩ := oB H
 obtain ⟨g14, H⟩ := oI H
 obtain ⟨g15, H⟩ := oI H
 refine xn [fh eI zI ([p1.Side] : List Int), .res (.c (.str v1)), fh eI zI ([p1.Turn] : List Int), .res (.c (.str v4)), fh eI zI ([p1.Weather] : List Int), .res (.c (.str v8)), .res (.c (.str v12))] [] [(5, .c (.str (((((((v1 ++ ([32] : List UInt8)) ++ v4) ++ ([32] : List UInt8)) ++ v8) ++ ([10] : List UInt8)) ++ v12) ++ ([10] : List UInt8))))] [] [] (fun t => aI (rfl : ([p1.Side] : List Int).length = 1) (aI rT (aI (fF_lit eI zI ([p1.Side] : List Int)) (aI (i_wordsText_ok [115, 105, 100, 101] ([p1.Side] : List Int) v1 h2) (aI trivial (aI rN (aI g3 (aI (rfl : ([p1.Turn] : List Int).length = 1) (aI rT (aI (fF_lit eI zI ([p1.Turn] : List Int)) (aI (i_wordsText_ok [116, 117, 114, 110] ([p1.Turn] : List Int) v4 h5) (aI trivial (aI rN (aI g6 (aI g7 (aI (rfl : ([p1.Weather] : List Int).length = 1) (aI rT (aI (fF_lit eI zI ([p1.Weather] : List Int)) (aI (i_wordsText_ok [119, 101, 97, 116, 104, 101, 114] ([p1.Weather] : List Int) v8 h9) (aI trivial (aI rN (aI g10 (aI g11 (aI (i_wordsText_ok [115, 101, 101, 110] p1.Seen v12 h13) (aI trivial (aI rN (aI g14 (aI g15 (t))))))))))))))))))))))))))))) ?_
 refine sn [] [] [(6, .c (.clo 109 [.pk 2 0]))] [] [] id ?_
 refine seq_in ?_
 refine sn [] [] [(35, dc 4 eTUnit zTUnit p1.Own), (36, cL p1.Own), (37, cI 0)] [] [] (fun t => lI p1.Own (t)) ?_
 refine ends_blk ?_
 obtain ⟨y64, h65, H⟩ := oB H
 refine tl [] [(3, pk 3), (5, .c (.str (((((((v1 ++ ([32] : List UInt8)) ++ v4) ++ ([32] : List UInt8)) ++ v8) ++ ([10] : List UInt8)) ++ v12) ++ ([10] : List UInt8)))), (6, .c (.clo 109 [.pk 2 0])), (35, dc 4 eTUnit zTUnit p1.Own), (36, cL p1.Own), (37, cI 0)] [(2, va (eTBoard p0)), (3, va (eTView p1))] id ?_
 refine loop_in (fun (x : ((List UInt8) × Int)) => lit [(3, pk 3), (5, .c (.str x.1)), (6, .c (.clo 109 [.pk 2 0])), (35, dc 4 eTUnit zTUnit p1.Own), (36, cL p1.Own), (37, cI x.2)] [(2, va (eTBoard p0)), (3, va (eTView p1))]) (fun (z : (List UInt8)) => At (.exit 0) (lit [(3, pk 3), (5, .c (.str z)), (6, .c (.clo 109 [.pk 2 0]))] [(2, va (eTBoard p0)), (3, va (eTView p1))])) h65 ?_ ?_
 ·clear H h65
  intro x56 y0 H
  refine sn [] [] [(38, cB (decide (x56.2 < (p1.Own.length : Int))))] [] [] id ?_
  refine seq_in ?_
  rcases oC H with ⟨c58, H⟩ | ⟨c58, H⟩
  ·refine it c58 ?_
   refine sk ?_
   refine seq_in ?_
   refine ends_blk ?_
   obtain ⟨v59, h60, H⟩ := oB H
   refine sn [.cs (eTUnit v59)] [] [(8, pk 8)] [] [(8, va (eTUnit v59))] (a2 eTUnit h60) ?_
   obtain ⟨v61, h62, H⟩ := oB H
   obtain ⟨g63, H⟩ := oI H
   refine oo [.res (.c (.str v61))] [] [(3, pk 3), (5, .c (.str (x56.1 ++ v61))), (6, .c (.clo 109 [.pk 2 0])), (35, dc 4 eTUnit zTUnit p1.Own), (36, cL p1.Own), (37, cI x56.2)] [(2, va (eTBoard p0)), (3, va (eTView p1))] (fun t => aI (i_reportText_1_ok [111, 119, 110] v59 p0 v61 h62) (aI g63 (t))) ?_
   change EndsI _ _ _ _ _ _
   refine oo [] [] [(3, pk 3), (5, .c (.str (x56.1 ++ v61))), (6, .c (.clo 109 [.pk 2 0])), (35, dc 4 eTUnit zTUnit p1.Own), (36, cL p1.Own), (37, cI (W (x56.2 + 1)))] [(2, va (eTBoard p0)), (3, va (eTView p1))] id ?_
   cases H
   exact rr
  ·refine jf c58 ?_
   refine tl [] [(3, pk 3), (5, .c (.str x56.1)), (6, .c (.clo 109 [.pk 2 0]))] [(2, va (eTBoard p0)), (3, va (eTView p1))] id ?_
   refine ends_exit ?_
   cases H
   exact rse
 ·clear h65
  rintro e s ⟨rfl, rfl⟩
  change EndsI _ _ _ _ _ _
  refine seq_in ?_
  refine sn [] [] [(48, dc 4 eTUnit zTUnit p1.Enemies), (49, cL p1.Enemies), (50, cI 0)] [] [] (fun t => lI p1.Enemies (t)) ?_
  refine ends_blk ?_
  obtain ⟨y89, h90, H⟩ := oB H
  refine tl [] [(5, .c (.str y64)), (6, .c (.clo 109 [.pk 2 0])), (48, dc 4 eTUnit zTUnit p1.Enemies), (49, cL p1.Enemies), (50, cI 0)] [(2, va (eTBoard p0))] id ?_
  refine loop_in (fun (x : ((List UInt8) × Int)) => lit [(5, .c (.str x.1)), (6, .c (.clo 109 [.pk 2 0])), (48, dc 4 eTUnit zTUnit p1.Enemies), (49, cL p1.Enemies), (50, cI x.2)] [(2, va (eTBoard p0))]) (fun (z : (List UInt8)) => At (.exit 2) (lit [(5, .c (.str z))] [])) h90 ?_ ?_
  ·clear H h90
   intro x81 y0 H
   refine sn [] [] [(51, cB (decide (x81.2 < (p1.Enemies.length : Int))))] [] [] id ?_
   refine seq_in ?_
   rcases oC H with ⟨c83, H⟩ | ⟨c83, H⟩
   ·refine it c83 ?_
    refine sk ?_
    refine seq_in ?_
    refine ends_blk ?_
    obtain ⟨v84, h85, H⟩ := oB H
    refine sn [.cs (eTUnit v84)] [] [(10, pk 10)] [] [(10, va (eTUnit v84))] (a2 eTUnit h85) ?_
    obtain ⟨v86, h87, H⟩ := oB H
    obtain ⟨g88, H⟩ := oI H
    refine oo [.res (.c (.str v86))] [] [(5, .c (.str (x81.1 ++ v86))), (6, .c (.clo 109 [.pk 2 0])), (48, dc 4 eTUnit zTUnit p1.Enemies), (49, cL p1.Enemies), (50, cI x81.2)] [(2, va (eTBoard p0))] (fun t => aI (i_reportText_1_ok [101, 110, 101, 109, 121] v84 p0 v86 h87) (aI g88 (t))) ?_
    change EndsI _ _ _ _ _ _
    refine oo [] [] [(5, .c (.str (x81.1 ++ v86))), (6, .c (.clo 109 [.pk 2 0])), (48, dc 4 eTUnit zTUnit p1.Enemies), (49, cL p1.Enemies), (50, cI (W (x81.2 + 1)))] [(2, va (eTBoard p0))] id ?_
    cases H
    exact rr
   ·refine jf c83 ?_
    refine tl [] [(5, .c (.str x81.1))] [] id ?_
    refine ends_exit ?_
    cases H
    exact rse
  ·clear h90
   rintro e s ⟨rfl, rfl⟩
   change EndsI _ _ _ _ _ _
   refine so [] [] [(4, .c (.str y89))] [] id ?_
   cases H
   exact er
def i_ParseReport_ir : S :=
 (sq [o 2 (.box 12 (.t 0)), o 4 (.alloc [.int .i64 0, .int .i64 0, .int .i64 0, .nil, .nil, .nil]), o 5 (.mv bF)]
 (sq [om 25 1, o 26 (.call 36 [.t 25, .v (.str [10])]), om 6 26]
 (sq [om 27 6, o 28 (.iad 1 (.t 27) (iv 0)), ol 29 28, o 30 (.call 36 [.t 29, .v (.str [32])]), om 7 30]
 (.seq (sq [o 31 (.load 12 true (.t 2)), o 32 (.call 37 [.t 31]), o 33 (.not (.t 32)), om 34 33, og 35 (.mv (.t 6)) 34, og 36 (.len (.t 35)) 34, og 37 (.bin .lss (.t 36) (iv 3)) 34, o 38 (.pick (.t 34) bT (.t 37)), om 39 38, og 40 (.mv (.t 7)) 39, og 41 (.len (.t 40)) 39, og 42 (.bin .neq (.t 41) (iv 6)) 39, o 43 (.pick (.t 39) bT (.t 42))]
 (.ite (.t 43) (sq [o 44 (.build [.int .i64 0, .int .i64 0, .int .i64 0, .nil, .nil, .nil] []), os 6 4 44, o 5 (.mv bF)]
  .ret)
 .skip))
 (sq [om 46 7, o 47 (.iad 1 (.t 46) (iv 1)), ol 48 47, o 49 (.call 38 [.t 48]), om 45 49, o 50 (.ext (.t 45) 0), o 51 (.ext (.t 45) 1), om 8 50, om 9 51]
 (sq [om 53 7, o 54 (.iad 1 (.t 53) (iv 3)), ol 55 54, o 56 (.call 38 [.t 55]), om 52 56, o 57 (.ext (.t 52) 0), o 58 (.ext (.t 52) 1), om 10 57, om 11 58]
 (sq [om 60 7, o 61 (.iad 1 (.t 60) (iv 5)), ol 62 61, o 63 (.call 38 [.t 62]), om 59 63, o 64 (.ext (.t 59) 0), o 65 (.ext (.t 59) 1), om 12 64, om 13 65]
 (sq [om 67 6, o 68 (.iad 1 (.t 67) (iv 1)), ol 69 68, o 70 (.call 39 [.t 69, .v (.str [115, 101, 101, 110])]), om 66 70, o 71 (.ext (.t 66) 0), o 72 (.ext (.t 66) 1), om 14 71, om 15 72]
 (.seq (sq [om 73 9, o 74 (.not (.t 73)), om 75 74, og 76 (.mv (.t 11)) 75, og 77 (.not (.t 76)) 75, o 78 (.pick (.t 75) bT (.t 77)), om 79 78, og 80 (.mv (.t 13)) 79, og 81 (.not (.t 80)) 79, o 82 (.pick (.t 79) bT (.t 81)), om 83 82, og 84 (.mv (.t 15)) 83, og 85 (.not (.t 84)) 83, o 86 (.pick (.t 83) bT (.t 85))]
 (.ite (.t 86) (sq [o 87 (.build [.int .i64 0, .int .i64 0, .int .i64 0, .nil, .nil, .nil] []), os 6 4 87, o 5 (.mv bF)]
  .ret)
 .skip))
 (sq [om 88 8, om 89 10, om 90 12, om 91 14, o 92 (.build [.int .i64 0, .int .i64 0, .int .i64 0, .nil, .nil, .nil] [(0, 1, .t 88), (1, 1, .t 89), (2, 1, .t 90), (3, 1, .t 91)]), o 16 (.alloc [.int .i64 0, .int .i64 0, .int .i64 0, .nil, .nil, .nil]), os 6 16 92]
 (.seq (sq [om 93 6, om 94 6, o 95 (.len (.t 94)), o 96 (.bin .sub (.t 95) (iv 1)), o 97 (.slc 1 (.t 93) (some (iv 2)) (some (.t 96))), o 98 (.len (.t 97)), o 99 (.mv (iv 0))]
 (.blk 0 (.loop (sq [o 100 (.bin .lss (.t 99) (.t 98))]
   (.seq (.ite (.t 100) .skip
   (.exit 0))
   (.seq (.blk 1 (sq [o 101 (.iad 1 (.t 97) (.t 99)), ol 102 101, om 18 102]
    (sq [om 104 18, o 105 (.call 40 [.t 104, .v (.str [32])]), om 103 105, o 106 (.ext (.t 103) 0), o 107 (.ext (.t 103) 1), o 108 (.ext (.t 103) 2), om 19 106, om 20 107, om 21 108]
    (sq [om 109 8, om 22 109]
    (.seq (sq [om 110 19, o 111 (.bin .eql (.t 110) (.v (.str [101, 110, 101, 109, 121])))]
    (.ite (.t 111) (.ops [om 112 8, o 113 (.bin .sub (iv 1) (.t 112)), om 22 113])
    .skip))
    (.seq (.drw [(0, 1), (0, 2), (0, 3), (0, 4), (1, 4), (2, 4), (3, 4), (0, 5), (8, 9), (0, 10), (1, 10), (2, 10), (3, 10), (4, 10), (5, 10), (6, 10), (7, 10), (8, 10), (9, 10), (9, 11)] [o 115 (.load 12 true (.t 2)), om 116 22, o 117 (.call 42 [.t 116]), o 118 (.bin .add (.t 117) (.v (.str [32]))), om 119 20, o 120 (.bin .add (.t 118) (.t 119)), o 121 (.call 41 [.t 115, .t 120]), om 114 121, o 122 (.ext (.t 114) 0), o 123 (.ext (.t 114) 1), o 23 (.alloc [.int .i64 0, .int .i64 0, .int .i64 0, .int .i64 0]), os 4 23 122, om 24 123])
    (.seq (sq [om 124 24, o 125 (.not (.t 124))]
    (.ite (.t 125) (sq [o 126 (.build [.int .i64 0, .int .i64 0, .int .i64 0, .nil, .nil, .nil] []), os 6 4 126, o 5 (.mv bF)]
     .ret)
    .skip))
    (sq [om 127 19, o 128 (.bin .eql (.t 127) (.v (.str [101, 110, 101, 109, 121])))]
    (.ite (.t 128) (.ops [oa 129 5 16, ol 130 129, o 131 (.load 4 true (.t 23)), o 132 (.bsl 4 [.t 131]), o 133 (.app 4 32 (.t 130) (.t 132)), oa 134 5 16, os 1 134 133])
    (.ops [oa 135 4 16, ol 136 135, o 137 (.load 4 true (.t 23)), o 138 (.bsl 4 [.t 137]), o 139 (.app 4 32 (.t 136) (.t 138)), oa 140 4 16, os 1 140 139]))))))))))
   (.ops [o 141 (.bin .add (.t 99) (iv 1)), om 99 141])))))))
 (.seq (sq [o 142 (.load 12 true (.t 2)), o 143 (.load 6 true (.t 16)), o 144 (.call 43 [.t 142, .t 143]), o 145 (.not (.t 144)), om 146 145, og 147 (.load 12 true (.t 2)) 146, og 148 (.load 6 true (.t 16)) 146, og 149 (.call 44 [.t 147, .t 148]) 146, og 150 (.mv (.t 1)) 146, og 151 (.bin .neq (.t 149) (.t 150)) 146, o 152 (.pick (.t 146) bT (.t 151))]
 (.ite (.t 152) (sq [o 153 (.build [.int .i64 0, .int .i64 0, .int .i64 0, .nil, .nil, .nil] []), os 6 4 153, o 5 (.mv bF)]
  .ret)
 .skip))
 (sq [o 154 (.load 6 true (.t 16)), os 6 4 154, o 5 (.mv bT)]
 .ret)))))))))))))
noncomputable def X.i_ParseReport (p0 : TBoard) (p1 : (List UInt8)) : Option (TView × Bool) :=
 ((X.x_strings_Split p1 [10]).bind fun v1 => ((at' zS v1 0).bind fun v3 => ((X.x_strings_Split v3 [32]).bind fun v5 => ((X.i_IsBoard p0).bind fun v12 => (bif (!v12) then some ((TView.mk 0 0 0 ([] : List Int) ([] : List TUnit) ([] : List TUnit)), false) else (bif (decide ((v1.length : Int) < 3)) then some ((TView.mk 0 0 0 ([] : List Int) ([] : List TUnit) ([] : List TUnit)), false) else (bif ((v5.length : Int) != 6) then some ((TView.mk 0 0 0 ([] : List Int) ([] : List TUnit) ([] : List TUnit)), false) else ((at' zS v5 1).bind fun v17 => ((X.i_readInt v17).bind fun v19 => ((at' zS v5 3).bind fun v21 => ((X.i_readInt v21).bind fun v23 => ((at' zS v5 5).bind fun v25 => ((X.i_readInt v25).bind fun v27 => ((at' zS v1 1).bind fun v29 => ((X.i_readWords v29 [115, 101, 101, 110]).bind fun v31 => (bif (!v19.2) then some ((TView.mk 0 0 0 ([] : List Int) ([] : List TUnit) ([] : List TUnit)), false) else (bif (!v23.2) then some ((TView.mk 0 0 0 ([] : List Int) ([] : List TUnit) ([] : List TUnit)), false) else (bif (!v27.2) then some ((TView.mk 0 0 0 ([] : List Int) ([] : List TUnit) ([] : List TUnit)), false) else (bif (!v31.2) then some ((TView.mk 0 0 0 ([] : List Int) ([] : List TUnit) ([] : List TUnit)), false) else (if 0 ≤ (2 : Int) ∧ (2 : Int) ≤ (W ((v1.length : Int) - 1)) ∧ (W ((v1.length : Int) - 1)) ≤ (v1.length : Int) then ((loop (fun (x155 : (Int × (List Int) × (List TUnit) × (List TUnit))) => ((bif (decide (x155.1 < (((v1.drop (2 : Int).toNat).take ((W ((v1.length : Int) - 1)).toNat - (2 : Int).toNat)).length : Int))) then ((at' zS ((v1.drop (2 : Int).toNat).take ((W ((v1.length : Int) - 1)).toNat - (2 : Int).toNat)) x155.1).bind fun v158 => ((X.x_strings_Cut v158 [32]).bind fun v160 => (((bif (v160.1 == ([101, 110, 101, 109, 121] : List UInt8)) then some (W (1 - v19.1)) else some v19.1) : Option Int).bind fun y164 => ((X.x_strconv_Itoa y164).bind fun v166 => (if v166.length + ([32] : List UInt8).length ≤ maxLen then (if (v166 ++ ([32] : List UInt8)).length + v160.2.1.length ≤ maxLen then ((X.i_readUnit p0 ((v166 ++ ([32] : List UInt8)) ++ v160.2.1)).bind fun v170 => (bif (!v170.2) then some (Sum.inr (Sum.inr (false, 0, 0, 0, ([] : List Int), ([] : List TUnit), ([] : List TUnit)))) else (bif (v160.1 == ([101, 110, 101, 109, 121] : List UInt8)) then (if (x155.2.2.2 ++ ([v170.1] : List TUnit)).length ≤ LIM then some (Sum.inl ((W (x155.1 + 1)), x155.2.1, x155.2.2.1, (x155.2.2.2 ++ ([v170.1] : List TUnit)))) else none) else (if (x155.2.2.1 ++ ([v170.1] : List TUnit)).length ≤ LIM then some (Sum.inl ((W (x155.1 + 1)), x155.2.1, (x155.2.2.1 ++ ([v170.1] : List TUnit)), x155.2.2.2)) else none)))) else none) else none))))) else some (Sum.inr (Sum.inl (x155.2.1, x155.2.2.1, x155.2.2.2)))) : Option ((Int × (List Int) × (List TUnit) × (List TUnit)) ⊕ (((List Int) × (List TUnit) × (List TUnit)) ⊕ (Bool × Int × Int × Int × (List Int) × (List TUnit) × (List TUnit)))))) (0, v31.1, ([] : List TUnit), ([] : List TUnit))).bind fun y177 => (Sum.elim (fun (y179 : ((List Int) × (List TUnit) × (List TUnit))) => ((X.i_goodView p0 (TView.mk v19.1 v23.1 v27.1 y179.1 y179.2.1 y179.2.2)).bind fun v181 => (bif (!v181) then some ((TView.mk 0 0 0 ([] : List Int) ([] : List TUnit) ([] : List TUnit)), false) else ((X.i_reportText p0 (TView.mk v19.1 v23.1 v27.1 y179.1 y179.2.1 y179.2.2)).bind fun v184 => (bif (!(v184 == p1)) then some ((TView.mk 0 0 0 ([] : List Int) ([] : List TUnit) ([] : List TUnit)), false) else some ((TView.mk v19.1 v23.1 v27.1 y179.1 y179.2.1 y179.2.2), true)))))) (fun (y180 : (Bool × Int × Int × Int × (List Int) × (List TUnit) × (List TUnit))) => some ((TView.mk y180.2.1 y180.2.2.1 y180.2.2.2.1 y180.2.2.2.2.1 y180.2.2.2.2.2.1 y180.2.2.2.2.2.2), y180.1)) y177)) else none))))))))))))))))))))
theorem i_ParseReport_ok (p0 : TBoard) (p1 : (List UInt8)) (r : (TView × Bool)) (H : X.i_ParseReport p0 p1 = some r) : FK 9 [.agg (eTBoard p0), .c (.str p1)] (.tup [(true, [.int .i64 r.1.Side, .int .i64 r.1.Turn, .int .i64 r.1.Weather, dat 1 eI zI r.1.Seen, dat 4 eTUnit zTUnit r.1.Own, dat 4 eTUnit zTUnit r.1.Enemies]), (false, [.bool r.2])]) := by
 unfold X.i_ParseReport at H
 refine fi Tryz.f9 i_ParseReport_ir [(4, pk 4), (5, cB r.2)] [(4, va (eTView r.1))] glL Tryz.func9 ?_
 refine sn [] [] [(2, pk 2), (4, pk 4)] [] [(2, va (eTBoard p0)), (4, .var [jI 0, jI 0, jI 0, .nil, .nil, .nil] false)] id ?_
 obtain ⟨v1, h2, H⟩ := oB H
 refine sn [.res (dc 1 eS zS v1)] [] [(6, dc 1 eS zS v1)] [] [] (aI (x_strings_Split_ok p1 [10] v1 h2)) ?_
 obtain ⟨v3, h4, H⟩ := oB H
 obtain ⟨v5, h6, H⟩ := oB H
 refine sn [.cs (eS v3), .res (dc 1 eS zS v5)] [] [(7, dc 1 eS zS v5)] [] [] (fun t => (a2 eS h4 (aI (x_strings_Split_ok v3 [32] v5 h6) (t)))) ?_
 refine seq_in ?_
 obtain ⟨v12, h13, H⟩ := oB H
 rcases oC H with ⟨c14, H⟩ | ⟨c14, H⟩
 ·refine sn ([.res (cB v12)] ++ rg 8 true []) [] [(43, cB true)] [] [] (fun t => aI (i_IsBoard_ok p0 v12 h13) (aG 4 c14 (aG 4 rT (t)))) ?_
  refine it rT ?_
  refine sn [] [] [(5, cB false)] [] [] id ?_
  refine tl [.nldc 4 3 1 (fF eI zI ([] : List Int)), .nldc 4 4 4 (fF eTUnit zTUnit ([] : List TUnit)), .nldc 4 5 4 (fF eTUnit zTUnit ([] : List TUnit))] [(4, pk 4), (5, cB false)] [(4, .var [jI 0, jI 0, jI 0, dat 1 eI zI ([] : List Int), dat 4 eTUnit zTUnit ([] : List TUnit), dat 4 eTUnit zTUnit ([] : List TUnit)] false)] id ?_
  cases H
  exact er
 ·rcases oC H with ⟨c15, H⟩ | ⟨c15, H⟩
  ·refine sn ([.res (cB v12)] ++ rg 4 false (rg 4 true [])) [] [(43, cB true)] [] [] (fun t => aI (i_IsBoard_ok p0 v12 h13) (aG 2 c14 (lI v1 (aG 2 c14 (aG 4 c15 (t)))))) ?_
   refine it rT ?_
   refine sn [] [] [(5, cB false)] [] [] id ?_
   refine tl [.nldc 4 3 1 (fF eI zI ([] : List Int)), .nldc 4 4 4 (fF eTUnit zTUnit ([] : List TUnit)), .nldc 4 5 4 (fF eTUnit zTUnit ([] : List TUnit))] [(4, pk 4), (5, cB false)] [(4, .var [jI 0, jI 0, jI 0, dat 1 eI zI ([] : List Int), dat 4 eTUnit zTUnit ([] : List TUnit), dat 4 eTUnit zTUnit ([] : List TUnit)] false)] id ?_
   cases H
   exact er
  ·refine sn ([.res (cB v12)] ++ rg 8 false []) [] [(43, cB ((v5.length : Int) != 6))] [] [] (fun t => aI (i_IsBoard_ok p0 v12 h13) (aG 2 c14 (lI v1 (aG 2 c14 (aG 2 c15 (lI v5 (aG 2 c15 (t)))))))) ?_
   rcases oC H with ⟨c16, H⟩ | ⟨c16, H⟩
   ·refine it c16 ?_
    refine sn [] [] [(5, cB false)] [] [] id ?_
    refine tl [.nldc 4 3 1 (fF eI zI ([] : List Int)), .nldc 4 4 4 (fF eTUnit zTUnit ([] : List TUnit)), .nldc 4 5 4 (fF eTUnit zTUnit ([] : List TUnit))] [(4, pk 4), (5, cB false)] [(4, .var [jI 0, jI 0, jI 0, dat 1 eI zI ([] : List Int), dat 4 eTUnit zTUnit ([] : List TUnit), dat 4 eTUnit zTUnit ([] : List TUnit)] false)] id ?_
    cases H
    exact er
   ·refine jf c16 ?_
    refine sk ?_
    obtain ⟨v17, h18, H⟩ := oB H
    obtain ⟨v19, h20, H⟩ := oB H
    refine sn [.cs (eS v17), .res (.tup [(false, [jI v19.1]), (false, [.bool v19.2])])] [] [(8, cI v19.1), (9, cB v19.2)] [] [] (fun t => (a2 eS h18 (aI (i_readInt_ok v17 v19 h20) (t)))) ?_
    obtain ⟨v21, h22, H⟩ := oB H
    obtain ⟨v23, h24, H⟩ := oB H
    refine sn [.cs (eS v21), .res (.tup [(false, [jI v23.1]), (false, [.bool v23.2])])] [] [(10, cI v23.1), (11, cB v23.2)] [] [] (fun t => (a2 eS h22 (aI (i_readInt_ok v21 v23 h24) (t)))) ?_
    obtain ⟨v25, h26, H⟩ := oB H
    obtain ⟨v27, h28, H⟩ := oB H
    refine sn [.cs (eS v25), .res (.tup [(false, [jI v27.1]), (false, [.bool v27.2])])] [] [(12, cI v27.1), (13, cB v27.2)] [] [] (fun t => (a2 eS h26 (aI (i_readInt_ok v25 v27 h28) (t)))) ?_
    obtain ⟨v29, h30, H⟩ := oB H
    obtain ⟨v31, h32, H⟩ := oB H
    refine sn [.cs (eS v29), .mu [] [(900000, 1001)] (.tup [(false, [.own 900000 1 0 v31.1.length]), (false, [.bool v31.2])]) [(900000, ar 1 eI zI v31.1)]] [] [(14, ow 1001 1 v31.1), (15, cB v31.2)] [] [(1001, ar 1 eI zI v31.1)] (fun t => (a2 eS h30 (aI (i_readWords_Mdd_ok v29 [115, 101, 101, 110] v31 h32) (t)))) ?_
    refine seq_in ?_
    rcases oC H with ⟨c37, H⟩ | ⟨c37, H⟩
    ·refine so (rg 9 true []) [] [(1, .c (.str p1)), (2, pk 2), (4, pk 4), (6, dc 1 eS zS v1), (8, cI v19.1), (10, cI v23.1), (12, cI v27.1), (14, ow 1001 1 v31.1), (86, cB true)] [(2, va (eTBoard p0)), (4, .var [jI 0, jI 0, jI 0, .nil, .nil, .nil] false), (1001, ar 1 eI zI v31.1)] (fun t => aG 3 c37 (aG 6 rT (t))) ?_
     refine it rT ?_
     refine sn [] [] [(5, cB false)] [] [] id ?_
     refine tl [.nldc 4 3 1 (fF eI zI ([] : List Int)), .nldc 4 4 4 (fF eTUnit zTUnit ([] : List TUnit)), .nldc 4 5 4 (fF eTUnit zTUnit ([] : List TUnit))] [(4, pk 4), (5, cB false)] [(4, .var [jI 0, jI 0, jI 0, dat 1 eI zI ([] : List Int), dat 4 eTUnit zTUnit ([] : List TUnit), dat 4 eTUnit zTUnit ([] : List TUnit)] false)] id ?_
     cases H
     exact er
    ·rcases oC H with ⟨c38, H⟩ | ⟨c38, H⟩
     ·refine so (rg 3 false (rg 6 true [])) [] [(1, .c (.str p1)), (2, pk 2), (4, pk 4), (6, dc 1 eS zS v1), (8, cI v19.1), (10, cI v23.1), (12, cI v27.1), (14, ow 1001 1 v31.1), (86, cB true)] [(2, va (eTBoard p0)), (4, .var [jI 0, jI 0, jI 0, .nil, .nil, .nil] false), (1001, ar 1 eI zI v31.1)] (fun t => aG 3 c37 (aG 3 c38 (aG 3 rT (t)))) ?_
      refine it rT ?_
      refine sn [] [] [(5, cB false)] [] [] id ?_
      refine tl [.nldc 4 3 1 (fF eI zI ([] : List Int)), .nldc 4 4 4 (fF eTUnit zTUnit ([] : List TUnit)), .nldc 4 5 4 (fF eTUnit zTUnit ([] : List TUnit))] [(4, pk 4), (5, cB false)] [(4, .var [jI 0, jI 0, jI 0, dat 1 eI zI ([] : List Int), dat 4 eTUnit zTUnit ([] : List TUnit), dat 4 eTUnit zTUnit ([] : List TUnit)] false)] id ?_
      cases H
      exact er
     ·rcases oC H with ⟨c39, H⟩ | ⟨c39, H⟩
      ·refine so (rg 6 false (rg 3 true [])) [] [(1, .c (.str p1)), (2, pk 2), (4, pk 4), (6, dc 1 eS zS v1), (8, cI v19.1), (10, cI v23.1), (12, cI v27.1), (14, ow 1001 1 v31.1), (86, cB true)] [(2, va (eTBoard p0)), (4, .var [jI 0, jI 0, jI 0, .nil, .nil, .nil] false), (1001, ar 1 eI zI v31.1)] (fun t => aG 3 c37 (aG 3 c38 (aG 3 c39 (t)))) ?_
       refine it rT ?_
       refine sn [] [] [(5, cB false)] [] [] id ?_
       refine tl [.nldc 4 3 1 (fF eI zI ([] : List Int)), .nldc 4 4 4 (fF eTUnit zTUnit ([] : List TUnit)), .nldc 4 5 4 (fF eTUnit zTUnit ([] : List TUnit))] [(4, pk 4), (5, cB false)] [(4, .var [jI 0, jI 0, jI 0, dat 1 eI zI ([] : List Int), dat 4 eTUnit zTUnit ([] : List TUnit), dat 4 eTUnit zTUnit ([] : List TUnit)] false)] id ?_
       cases H
       exact er
      ·refine so (rg 9 false []) [] [(1, .c (.str p1)), (2, pk 2), (4, pk 4), (6, dc 1 eS zS v1), (8, cI v19.1), (10, cI v23.1), (12, cI v27.1), (14, ow 1001 1 v31.1), (86, cB (!v31.2))] [(2, va (eTBoard p0)), (4, .var [jI 0, jI 0, jI 0, .nil, .nil, .nil] false), (1001, ar 1 eI zI v31.1)] (fun t => aG 3 c37 (aG 3 c38 (aG 3 c39 (t)))) ?_
       rcases oC H with ⟨c40, H⟩ | ⟨c40, H⟩
       ·refine it c40 ?_
        refine sn [] [] [(5, cB false)] [] [] id ?_
        refine tl [.nldc 4 3 1 (fF eI zI ([] : List Int)), .nldc 4 4 4 (fF eTUnit zTUnit ([] : List TUnit)), .nldc 4 5 4 (fF eTUnit zTUnit ([] : List TUnit))] [(4, pk 4), (5, cB false)] [(4, .var [jI 0, jI 0, jI 0, dat 1 eI zI ([] : List Int), dat 4 eTUnit zTUnit ([] : List TUnit), dat 4 eTUnit zTUnit ([] : List TUnit)] false)] id ?_
        cases H
        exact er
       ·refine jf c40 ?_
        refine sk ?_
        refine sn [] [] [(16, pk 16)] [] [(16, .var [jI v19.1, jI v23.1, jI v27.1, .own 1001 1 0 v31.1.length, .nil, .nil] false)] id ?_
        refine seq_in ?_
        obtain ⟨g111, H⟩ := oI H
        refine sn [fh eS zS ((v1.drop (2 : Int).toNat).take ((W ((v1.length : Int) - 1)).toNat - (2 : Int).toNat))] [] [(97, .c (dat 1 eS zS ((v1.drop (2 : Int).toNat).take ((W ((v1.length : Int) - 1)).toNat - (2 : Int).toNat)))), (98, cL ((v1.drop (2 : Int).toNat).take ((W ((v1.length : Int) - 1)).toNat - (2 : Int).toNat))), (99, cI 0)] [] [] (fun t => lI v1 (aI g111 (aI (len_drop v1 (2 : Int) (W ((v1.length : Int) - 1)) g111) (aI (fF_drop eS zS v1 (2 : Int) (W ((v1.length : Int) - 1)) g111) ((fun (_ : ((v1.drop (2 : Int).toNat).take ((W ((v1.length : Int) - 1)).toNat - (2 : Int).toNat)).length ≤ maxLen) => t)))))) ?_
        refine ends_blk ?_
        obtain ⟨y177, h178, H⟩ := oB H
        refine tl [.nloc 16 4 1004 4 (fF eTUnit zTUnit ([] : List TUnit)), .nloc 16 5 1005 4 (fF eTUnit zTUnit ([] : List TUnit))] [(1, .c (.str p1)), (2, pk 2), (4, pk 4), (8, cI v19.1), (16, pk 16), (97, .c (dat 1 eS zS ((v1.drop (2 : Int).toNat).take ((W ((v1.length : Int) - 1)).toNat - (2 : Int).toNat)))), (98, cL ((v1.drop (2 : Int).toNat).take ((W ((v1.length : Int) - 1)).toNat - (2 : Int).toNat))), (99, cI 0)] [(2, va (eTBoard p0)), (4, .var [jI 0, jI 0, jI 0, .nil, .nil, .nil] false), (16, .var [jI v19.1, jI v23.1, jI v27.1, .own 1001 1 0 v31.1.length, .own 1004 4 0 (([] : List TUnit).length), .own 1005 4 0 (([] : List TUnit).length)] false), (1001, ar 1 eI zI v31.1), (1004, ar 4 eTUnit zTUnit ([] : List TUnit)), (1005, ar 4 eTUnit zTUnit ([] : List TUnit))] (fun t => aG 2 (by decide : 0 < 4) (t)) ?_
        refine loop_in (fun (x : (Int × (List Int) × (List TUnit) × (List TUnit))) => lit [(1, .c (.str p1)), (2, pk 2), (4, pk 4), (8, cI v19.1), (16, pk 16), (97, .c (dat 1 eS zS ((v1.drop (2 : Int).toNat).take ((W ((v1.length : Int) - 1)).toNat - (2 : Int).toNat)))), (98, cL ((v1.drop (2 : Int).toNat).take ((W ((v1.length : Int) - 1)).toNat - (2 : Int).toNat))), (99, cI x.1)] [(2, va (eTBoard p0)), (4, .var [jI 0, jI 0, jI 0, .nil, .nil, .nil] false), (16, .var [jI v19.1, jI v23.1, jI v27.1, .own 1001 1 0 x.2.1.length, .own 1004 4 0 x.2.2.1.length, .own 1005 4 0 x.2.2.2.length] false), (1001, ar 1 eI zI x.2.1), (1004, ar 4 eTUnit zTUnit x.2.2.1), (1005, ar 4 eTUnit zTUnit x.2.2.2)]) (orJ (fun (z : ((List Int) × (List TUnit) × (List TUnit))) => At (.exit 0) (lit [(1, .c (.str p1)), (2, pk 2), (4, pk 4), (16, pk 16)] [(2, va (eTBoard p0)), (4, .var [jI 0, jI 0, jI 0, .nil, .nil, .nil] false), (16, .var [jI v19.1, jI v23.1, jI v27.1, .own 1001 1 0 z.1.length, .own 1004 4 0 z.2.1.length, .own 1005 4 0 z.2.2.length] false), (1001, ar 1 eI zI z.1), (1004, ar 4 eTUnit zTUnit z.2.1), (1005, ar 4 eTUnit zTUnit z.2.2)])) (fun (z : (Bool × Int × Int × Int × (List Int) × (List TUnit) × (List TUnit))) => At .ret (lit [(4, pk 4), (5, cB z.1)] [(4, .var [jI z.2.1, jI z.2.2.1, jI z.2.2.2.1, dat 1 eI zI z.2.2.2.2.1, dat 4 eTUnit zTUnit z.2.2.2.2.2.1, dat 4 eTUnit zTUnit z.2.2.2.2.2.2] false)]))) h178 ?_ ?_
        ·clear H h178
         intro x155 y0 H
         refine sn [] [] [(100, cB (decide (x155.1 < (((v1.drop (2 : Int).toNat).take ((W ((v1.length : Int) - 1)).toNat - (2 : Int).toNat)).length : Int))))] [] [] id ?_
         refine seq_in ?_
         rcases oC H with ⟨c157, H⟩ | ⟨c157, H⟩
         ·refine it c157 ?_
          refine sk ?_
          refine seq_in ?_
          refine ends_blk ?_
          obtain ⟨v158, h159, H⟩ := oB H
          refine sn [.cs (eS v158)] [] [(18, .c (.str v158))] [] [] (a2 eS h159) ?_
          obtain ⟨v160, h161, H⟩ := oB H
          refine sn [.res (.tup [(false, [.str v160.1]), (false, [.str v160.2.1]), (false, [.bool v160.2.2])])] [] [(19, .c (.str v160.1)), (20, .c (.str v160.2.1))] [] [] (aI (x_strings_Cut_ok v158 [32] v160 h161)) ?_
          refine sn [] [] [(22, cI v19.1)] [] [] id ?_
          obtain ⟨y164, h165, H⟩ := oB H
          refine seq_in (cut_in (fun (z : Int) => At .normal (lit [(1, .c (.str p1)), (2, pk 2), (4, pk 4), (8, cI v19.1), (16, pk 16), (19, .c (.str v160.1)), (20, .c (.str v160.2.1)), (22, cI z), (97, .c (dat 1 eS zS ((v1.drop (2 : Int).toNat).take ((W ((v1.length : Int) - 1)).toNat - (2 : Int).toNat)))), (98, cL ((v1.drop (2 : Int).toNat).take ((W ((v1.length : Int) - 1)).toNat - (2 : Int).toNat))), (99, cI x155.1)] [(2, va (eTBoard p0)), (4, .var [jI 0, jI 0, jI 0, .nil, .nil, .nil] false), (16, .var [jI v19.1, jI v23.1, jI v27.1, .own 1001 1 0 x155.2.1.length, .own 1004 4 0 x155.2.2.1.length, .own 1005 4 0 x155.2.2.2.length] false), (1001, ar 1 eI zI x155.2.1), (1004, ar 4 eTUnit zTUnit x155.2.2.1), (1005, ar 4 eTUnit zTUnit x155.2.2.2)])) y164 ?_ ?_)
          ·clear H
           revert h165
           generalize y164 = y0
           intro H
           refine sn [] [] [(111, cB (v160.1 == ([101, 110, 101, 109, 121] : List UInt8)))] [] [] id ?_
           rcases oC H with ⟨c163, H⟩ | ⟨c163, H⟩
           ·refine it c163 ?_
            refine oo [] [] [(1, .c (.str p1)), (2, pk 2), (4, pk 4), (8, cI v19.1), (16, pk 16), (19, .c (.str v160.1)), (20, .c (.str v160.2.1)), (22, cI (W (1 - v19.1))), (97, .c (dat 1 eS zS ((v1.drop (2 : Int).toNat).take ((W ((v1.length : Int) - 1)).toNat - (2 : Int).toNat)))), (98, cL ((v1.drop (2 : Int).toNat).take ((W ((v1.length : Int) - 1)).toNat - (2 : Int).toNat))), (99, cI x155.1)] [(2, va (eTBoard p0)), (4, .var [jI 0, jI 0, jI 0, .nil, .nil, .nil] false), (16, .var [jI v19.1, jI v23.1, jI v27.1, .own 1001 1 0 x155.2.1.length, .own 1004 4 0 x155.2.2.1.length, .own 1005 4 0 x155.2.2.2.length] false), (1001, ar 1 eI zI x155.2.1), (1004, ar 4 eTUnit zTUnit x155.2.2.1), (1005, ar 4 eTUnit zTUnit x155.2.2.2)] id ?_
            cases H
            exact rr
           ·refine jf c163 ?_
            refine tl [] [(1, .c (.str p1)), (2, pk 2), (4, pk 4), (8, cI v19.1), (16, pk 16), (19, .c (.str v160.1)), (20, .c (.str v160.2.1)), (22, cI v19.1), (97, .c (dat 1 eS zS ((v1.drop (2 : Int).toNat).take ((W ((v1.length : Int) - 1)).toNat - (2 : Int).toNat)))), (98, cL ((v1.drop (2 : Int).toNat).take ((W ((v1.length : Int) - 1)).toNat - (2 : Int).toNat))), (99, cI x155.1)] [(2, va (eTBoard p0)), (4, .var [jI 0, jI 0, jI 0, .nil, .nil, .nil] false), (16, .var [jI v19.1, jI v23.1, jI v27.1, .own 1001 1 0 x155.2.1.length, .own 1004 4 0 x155.2.2.1.length, .own 1005 4 0 x155.2.2.2.length] false), (1001, ar 1 eI zI x155.2.1), (1004, ar 4 eTUnit zTUnit x155.2.2.1), (1005, ar 4 eTUnit zTUnit x155.2.2.2)] id ?_
            refine ends_skip ?_
            cases H
            exact rr
          ·clear h165
           rintro e s ⟨rfl, rfl⟩
           change EndsI _ _ _ _ _ _
           obtain ⟨v166, h167, H⟩ := oB H
           obtain ⟨g168, H⟩ := oI H
           obtain ⟨g169, H⟩ := oI H
           obtain ⟨v170, h171, H⟩ := oB H
           refine xn [.res (.c (.str v166)), .res (.tup [(true, [jI v170.1.Side, jI v170.1.Kind, jI v170.1.At, jI v170.1.Steps]), (false, [.bool v170.2])])] [] [(23, pk 23), (24, cB v170.2)] [] [(23, va (eTUnit v170.1))] (fun t => aI (x_strconv_Itoa_ok y164 v166 h167) (aI trivial (aI rN (aI g168 (aI g169 (aI (i_readUnit_ok p0 ((v166 ++ ([32] : List UInt8)) ++ v160.2.1) v170 h171) (aI trivial (aI rN (t))))))))) ?_
           refine seq_in ?_
           refine sn [] [] [(125, cB (!v170.2))] [] [] id ?_
           rcases oC H with ⟨c173, H⟩ | ⟨c173, H⟩
           ·refine it c173 ?_
            refine sn [] [] [(5, cB false)] [] [] id ?_
            refine tl [.nldc 4 3 1 (fF eI zI ([] : List Int)), .nldc 4 4 4 (fF eTUnit zTUnit ([] : List TUnit)), .nldc 4 5 4 (fF eTUnit zTUnit ([] : List TUnit))] [(4, pk 4), (5, cB false)] [(4, .var [jI 0, jI 0, jI 0, dat 1 eI zI ([] : List Int), dat 4 eTUnit zTUnit ([] : List TUnit), dat 4 eTUnit zTUnit ([] : List TUnit)] false)] id ?_
            refine ends_ret ?_
            cases H
            exact rsr
           ·refine jf c173 ?_
            refine sk ?_
            refine sn [] [] [(128, cB (v160.1 == ([101, 110, 101, 109, 121] : List UInt8)))] [] [] id ?_
            rcases oC H with ⟨c174, H⟩ | ⟨c174, H⟩
            ·refine it c174 ?_
             obtain ⟨g175, H⟩ := oI H
             refine oo [fh eTUnit zTUnit ([v170.1] : List TUnit), fh eTUnit zTUnit (x155.2.2.2 ++ ([v170.1] : List TUnit))] [] [(1, .c (.str p1)), (2, pk 2), (4, pk 4), (8, cI v19.1), (16, pk 16), (97, .c (dat 1 eS zS ((v1.drop (2 : Int).toNat).take ((W ((v1.length : Int) - 1)).toNat - (2 : Int).toNat)))), (98, cL ((v1.drop (2 : Int).toNat).take ((W ((v1.length : Int) - 1)).toNat - (2 : Int).toNat))), (99, cI x155.1)] [(2, va (eTBoard p0)), (4, .var [jI 0, jI 0, jI 0, .nil, .nil, .nil] false), (16, .var [jI v19.1, jI v23.1, jI v27.1, .own 1001 1 0 x155.2.1.length, .own 1004 4 0 x155.2.2.1.length, .own 133 4 0 ((x155.2.2.2 ++ ([v170.1] : List TUnit)).length)] false), (133, ar 4 eTUnit zTUnit (x155.2.2.2 ++ ([v170.1] : List TUnit))), (1001, ar 1 eI zI x155.2.1), (1004, ar 4 eTUnit zTUnit x155.2.2.1)] (fun t => aI (rfl : ([v170.1] : List TUnit).length = 1) (aI (fF_lit eTUnit zTUnit ([v170.1] : List TUnit)) (aI (Nat.le_refl (([v170.1] : List TUnit).length)) (aI (And.intro (Nat.le_refl x155.2.2.2.length) (And.intro (@List.length_append _ x155.2.2.2 ([v170.1] : List TUnit)) g175)) (aI (fF_appL eTUnit zTUnit x155.2.2.2 ([v170.1] : List TUnit)) (aI (fF_appR eTUnit zTUnit x155.2.2.2 ([v170.1] : List TUnit)) (t))))))) ?_
             change EndsI _ _ _ _ _ _
             refine oo [] [.ren 133 1005] [(1, .c (.str p1)), (2, pk 2), (4, pk 4), (8, cI v19.1), (16, pk 16), (97, .c (dat 1 eS zS ((v1.drop (2 : Int).toNat).take ((W ((v1.length : Int) - 1)).toNat - (2 : Int).toNat)))), (98, cL ((v1.drop (2 : Int).toNat).take ((W ((v1.length : Int) - 1)).toNat - (2 : Int).toNat))), (99, cI (W (x155.1 + 1)))] [(2, va (eTBoard p0)), (4, .var [jI 0, jI 0, jI 0, .nil, .nil, .nil] false), (16, .var [jI v19.1, jI v23.1, jI v27.1, .own 1001 1 0 x155.2.1.length, .own 1004 4 0 x155.2.2.1.length, .own 1005 4 0 ((x155.2.2.2 ++ ([v170.1] : List TUnit)).length)] false), (1001, ar 1 eI zI x155.2.1), (1004, ar 4 eTUnit zTUnit x155.2.2.1), (1005, ar 4 eTUnit zTUnit (x155.2.2.2 ++ ([v170.1] : List TUnit)))] id ?_
             cases H
             exact rr
            ·refine jf c174 ?_
             obtain ⟨g176, H⟩ := oI H
             refine oo [fh eTUnit zTUnit ([v170.1] : List TUnit), fh eTUnit zTUnit (x155.2.2.1 ++ ([v170.1] : List TUnit))] [] [(1, .c (.str p1)), (2, pk 2), (4, pk 4), (8, cI v19.1), (16, pk 16), (97, .c (dat 1 eS zS ((v1.drop (2 : Int).toNat).take ((W ((v1.length : Int) - 1)).toNat - (2 : Int).toNat)))), (98, cL ((v1.drop (2 : Int).toNat).take ((W ((v1.length : Int) - 1)).toNat - (2 : Int).toNat))), (99, cI x155.1)] [(2, va (eTBoard p0)), (4, .var [jI 0, jI 0, jI 0, .nil, .nil, .nil] false), (16, .var [jI v19.1, jI v23.1, jI v27.1, .own 1001 1 0 x155.2.1.length, .own 139 4 0 ((x155.2.2.1 ++ ([v170.1] : List TUnit)).length), .own 1005 4 0 x155.2.2.2.length] false), (139, ar 4 eTUnit zTUnit (x155.2.2.1 ++ ([v170.1] : List TUnit))), (1001, ar 1 eI zI x155.2.1), (1005, ar 4 eTUnit zTUnit x155.2.2.2)] (fun t => aI (rfl : ([v170.1] : List TUnit).length = 1) (aI (fF_lit eTUnit zTUnit ([v170.1] : List TUnit)) (aI (Nat.le_refl (([v170.1] : List TUnit).length)) (aI (And.intro (Nat.le_refl x155.2.2.1.length) (And.intro (@List.length_append _ x155.2.2.1 ([v170.1] : List TUnit)) g176)) (aI (fF_appL eTUnit zTUnit x155.2.2.1 ([v170.1] : List TUnit)) (aI (fF_appR eTUnit zTUnit x155.2.2.1 ([v170.1] : List TUnit)) (t))))))) ?_
             change EndsI _ _ _ _ _ _
             refine oo [] [.ren 139 1004] [(1, .c (.str p1)), (2, pk 2), (4, pk 4), (8, cI v19.1), (16, pk 16), (97, .c (dat 1 eS zS ((v1.drop (2 : Int).toNat).take ((W ((v1.length : Int) - 1)).toNat - (2 : Int).toNat)))), (98, cL ((v1.drop (2 : Int).toNat).take ((W ((v1.length : Int) - 1)).toNat - (2 : Int).toNat))), (99, cI (W (x155.1 + 1)))] [(2, va (eTBoard p0)), (4, .var [jI 0, jI 0, jI 0, .nil, .nil, .nil] false), (16, .var [jI v19.1, jI v23.1, jI v27.1, .own 1001 1 0 x155.2.1.length, .own 1004 4 0 ((x155.2.2.1 ++ ([v170.1] : List TUnit)).length), .own 1005 4 0 x155.2.2.2.length] false), (1001, ar 1 eI zI x155.2.1), (1004, ar 4 eTUnit zTUnit (x155.2.2.1 ++ ([v170.1] : List TUnit))), (1005, ar 4 eTUnit zTUnit x155.2.2.2)] id ?_
             cases H
             exact rr
         ·refine jf c157 ?_
          refine tl [] [(1, .c (.str p1)), (2, pk 2), (4, pk 4), (16, pk 16)] [(2, va (eTBoard p0)), (4, .var [jI 0, jI 0, jI 0, .nil, .nil, .nil] false), (16, .var [jI v19.1, jI v23.1, jI v27.1, .own 1001 1 0 x155.2.1.length, .own 1004 4 0 x155.2.2.1.length, .own 1005 4 0 x155.2.2.2.length] false), (1001, ar 1 eI zI x155.2.1), (1004, ar 4 eTUnit zTUnit x155.2.2.1), (1005, ar 4 eTUnit zTUnit x155.2.2.2)] id ?_
          refine ends_exit ?_
          cases H
          exact rse
        ·clear h178
         cases y177 with
         | inl y179 =>
          replace H := ofInl H
          rintro e s ⟨rfl, rfl⟩
          change EndsI _ _ _ _ _ _
          refine seq_in ?_
          obtain ⟨v181, h182, H⟩ := oB H
          rcases oC H with ⟨c183, H⟩ | ⟨c183, H⟩
          ·refine sn ([.res (cB v181)] ++ rg 6 true []) [] [(152, cB true)] [] [] (fun t => aI (Nat.le_refl y179.1.length) (aI (Nat.le_refl y179.2.1.length) (aI (Nat.le_refl y179.2.2.length) (aI (i_goodView_ok p0 (TView.mk v19.1 v23.1 v27.1 y179.1 y179.2.1 y179.2.2) v181 h182) (aG 6 c183 (t)))))) ?_
           refine it rT ?_
           refine sn [] [] [(5, cB false)] [2] [] id ?_
           refine tl [.nldc 4 3 1 (fF eI zI ([] : List Int)), .nldc 4 4 4 (fF eTUnit zTUnit ([] : List TUnit)), .nldc 4 5 4 (fF eTUnit zTUnit ([] : List TUnit))] [(4, pk 4), (5, cB false)] [(4, .var [jI 0, jI 0, jI 0, dat 1 eI zI ([] : List Int), dat 4 eTUnit zTUnit ([] : List TUnit), dat 4 eTUnit zTUnit ([] : List TUnit)] false)] id ?_
           cases H
           exact er
          ·obtain ⟨v184, h185, H⟩ := oB H
           refine sn ([.res (cB v181)] ++ rg 3 false ([.res (.c (.str v184))] ++ rg 3 false [])) [] [(152, cB (!(v184 == p1)))] [] [] (fun t => aI (Nat.le_refl y179.1.length) (aI (Nat.le_refl y179.2.1.length) (aI (Nat.le_refl y179.2.2.length) (aI (i_goodView_ok p0 (TView.mk v19.1 v23.1 v27.1 y179.1 y179.2.1 y179.2.2) v181 h182) (aG 3 c183 (aI (Nat.le_refl y179.1.length) (aI (Nat.le_refl y179.2.1.length) (aI (Nat.le_refl y179.2.2.length) (aI (i_reportText_ok p0 (TView.mk v19.1 v23.1 v27.1 y179.1 y179.2.1 y179.2.2) v184 h185) (aG 3 c183 (t))))))))))) ?_
           rcases oC H with ⟨c186, H⟩ | ⟨c186, H⟩
           ·refine it c186 ?_
            refine sn [] [] [(5, cB false)] [2] [] id ?_
            refine tl [.nldc 4 3 1 (fF eI zI ([] : List Int)), .nldc 4 4 4 (fF eTUnit zTUnit ([] : List TUnit)), .nldc 4 5 4 (fF eTUnit zTUnit ([] : List TUnit))] [(4, pk 4), (5, cB false)] [(4, .var [jI 0, jI 0, jI 0, dat 1 eI zI ([] : List Int), dat 4 eTUnit zTUnit ([] : List TUnit), dat 4 eTUnit zTUnit ([] : List TUnit)] false)] id ?_
            cases H
            exact er
           ·refine jf c186 ?_
            refine sk ?_
            refine sn [] [] [(5, cB true)] [2, 4] [(4, .var [jI v19.1, jI v23.1, jI v27.1, .own 1001 1 0 y179.1.length, .own 1004 4 0 y179.2.1.length, .own 1005 4 0 y179.2.2.length] false)] id ?_
            refine tl [.frc 4 3, .frc 4 4, .frc 4 5] [(4, pk 4), (5, cB true)] [(4, .var [jI v19.1, jI v23.1, jI v27.1, dat 1 eI zI y179.1, dat 4 eTUnit zTUnit y179.2.1, dat 4 eTUnit zTUnit y179.2.2] false)] (fun t => aI (Nat.le_refl y179.1.length) (aI (Nat.le_refl y179.2.1.length) (aI (Nat.le_refl y179.2.2.length) (t)))) ?_
            cases H
            exact er
         | inr y180 =>
          replace H := ofInr H
          rintro e s ⟨rfl, rfl⟩
          cases H
          exact qr
theorem i_ParseReport_Mdd_ok (p0 : TBoard) (p1 : (List UInt8)) (r : (TView × Bool)) (H : X.i_ParseReport p0 p1 = some r) : FnMu Tryz.prog gl 9 [.agg (eTBoard p0), .c (.str p1)] [] (.tup [(true, [.int .i64 r.1.Side, .int .i64 r.1.Turn, .int .i64 r.1.Weather, .own 900000 1 0 r.1.Seen.length, .own 900001 4 0 r.1.Own.length, .own 900002 4 0 r.1.Enemies.length]), (false, [.bool r.2])]) [(4, .var (wTView 900000 900001 900002 r.1) false), (900000, .arr 1 r.1.Seen.length (fF eI zI r.1.Seen) false), (900001, .arr 4 r.1.Own.length (fF eTUnit zTUnit r.1.Own) false), (900002, .arr 4 r.1.Enemies.length (fF eTUnit zTUnit r.1.Enemies) false)] := by
 unfold X.i_ParseReport at H
 refine fn_mu (fn := Tryz.f9) (ir := i_ParseReport_ir) (E' := [(4, pk 4), (5, cB r.2)]) (E1 := [(4, va (wTView 900000 900001 900002 r.1)), (900000, ar 1 eI zI r.1.Seen), (900001, ar 4 eTUnit zTUnit r.1.Own), (900002, ar 4 eTUnit zTUnit r.1.Enemies)]) glL Tryz.func9 (by kernel_rfl) (by kernel_rfl) (by kernel_rfl) (by kernel_rfl) (by kernel_rfl) ?_
 refine sn [] [] [(2, pk 2), (4, pk 4)] [] [(2, va (eTBoard p0)), (4, .var [jI 0, jI 0, jI 0, .nil, .nil, .nil] false)] id ?_
 obtain ⟨v1, h2, H⟩ := oB H
 refine sn [.res (dc 1 eS zS v1)] [] [(6, dc 1 eS zS v1)] [] [] (aI (x_strings_Split_ok p1 [10] v1 h2)) ?_
 obtain ⟨v3, h4, H⟩ := oB H
 obtain ⟨v5, h6, H⟩ := oB H
 refine sn [.cs (eS v3), .res (dc 1 eS zS v5)] [] [(7, dc 1 eS zS v5)] [] [] (fun t => (a2 eS h4 (aI (x_strings_Split_ok v3 [32] v5 h6) (t)))) ?_
 refine seq_in ?_
 obtain ⟨v12, h13, H⟩ := oB H
 rcases oC H with ⟨c14, H⟩ | ⟨c14, H⟩
 ·refine sn ([.res (cB v12)] ++ rg 8 true []) [] [(43, cB true)] [] [] (fun t => aI (i_IsBoard_ok p0 v12 h13) (aG 4 c14 (aG 4 rT (t)))) ?_
  refine it rT ?_
  refine sn [] [] [(5, cB false)] [] [] id ?_
  refine tl [.nloc 4 3 900000 1 (fF eI zI ([] : List Int)), .nloc 4 4 900001 4 (fF eTUnit zTUnit ([] : List TUnit)), .nloc 4 5 900002 4 (fF eTUnit zTUnit ([] : List TUnit))] [(4, pk 4), (5, cB false)] [(4, .var [jI 0, jI 0, jI 0, .own 900000 1 0 (([] : List Int).length), .own 900001 4 0 (([] : List TUnit).length), .own 900002 4 0 (([] : List TUnit).length)] false), (900000, ar 1 eI zI ([] : List Int)), (900001, ar 4 eTUnit zTUnit ([] : List TUnit)), (900002, ar 4 eTUnit zTUnit ([] : List TUnit))] (fun t => aI (by decide : 0 < 1) (aG 2 (by decide : 0 < 4) (t))) ?_
  cases H
  exact er
 ·rcases oC H with ⟨c15, H⟩ | ⟨c15, H⟩
  ·refine sn ([.res (cB v12)] ++ rg 4 false (rg 4 true [])) [] [(43, cB true)] [] [] (fun t => aI (i_IsBoard_ok p0 v12 h13) (aG 2 c14 (lI v1 (aG 2 c14 (aG 4 c15 (t)))))) ?_
   refine it rT ?_
   refine sn [] [] [(5, cB false)] [] [] id ?_
   refine tl [.nloc 4 3 900000 1 (fF eI zI ([] : List Int)), .nloc 4 4 900001 4 (fF eTUnit zTUnit ([] : List TUnit)), .nloc 4 5 900002 4 (fF eTUnit zTUnit ([] : List TUnit))] [(4, pk 4), (5, cB false)] [(4, .var [jI 0, jI 0, jI 0, .own 900000 1 0 (([] : List Int).length), .own 900001 4 0 (([] : List TUnit).length), .own 900002 4 0 (([] : List TUnit).length)] false), (900000, ar 1 eI zI ([] : List Int)), (900001, ar 4 eTUnit zTUnit ([] : List TUnit)), (900002, ar 4 eTUnit zTUnit ([] : List TUnit))] (fun t => aI (by decide : 0 < 1) (aG 2 (by decide : 0 < 4) (t))) ?_
   cases H
   exact er
  ·refine sn ([.res (cB v12)] ++ rg 8 false []) [] [(43, cB ((v5.length : Int) != 6))] [] [] (fun t => aI (i_IsBoard_ok p0 v12 h13) (aG 2 c14 (lI v1 (aG 2 c14 (aG 2 c15 (lI v5 (aG 2 c15 (t)))))))) ?_
   rcases oC H with ⟨c16, H⟩ | ⟨c16, H⟩
   ·refine it c16 ?_
    refine sn [] [] [(5, cB false)] [] [] id ?_
    refine tl [.nloc 4 3 900000 1 (fF eI zI ([] : List Int)), .nloc 4 4 900001 4 (fF eTUnit zTUnit ([] : List TUnit)), .nloc 4 5 900002 4 (fF eTUnit zTUnit ([] : List TUnit))] [(4, pk 4), (5, cB false)] [(4, .var [jI 0, jI 0, jI 0, .own 900000 1 0 (([] : List Int).length), .own 900001 4 0 (([] : List TUnit).length), .own 900002 4 0 (([] : List TUnit).length)] false), (900000, ar 1 eI zI ([] : List Int)), (900001, ar 4 eTUnit zTUnit ([] : List TUnit)), (900002, ar 4 eTUnit zTUnit ([] : List TUnit))] (fun t => aI (by decide : 0 < 1) (aG 2 (by decide : 0 < 4) (t))) ?_
    cases H
    exact er
   ·refine jf c16 ?_
    refine sk ?_
    obtain ⟨v17, h18, H⟩ := oB H
    obtain ⟨v19, h20, H⟩ := oB H
    refine sn [.cs (eS v17), .res (.tup [(false, [jI v19.1]), (false, [.bool v19.2])])] [] [(8, cI v19.1), (9, cB v19.2)] [] [] (fun t => (a2 eS h18 (aI (i_readInt_ok v17 v19 h20) (t)))) ?_
    obtain ⟨v21, h22, H⟩ := oB H
    obtain ⟨v23, h24, H⟩ := oB H
    refine sn [.cs (eS v21), .res (.tup [(false, [jI v23.1]), (false, [.bool v23.2])])] [] [(10, cI v23.1), (11, cB v23.2)] [] [] (fun t => (a2 eS h22 (aI (i_readInt_ok v21 v23 h24) (t)))) ?_
    obtain ⟨v25, h26, H⟩ := oB H
    obtain ⟨v27, h28, H⟩ := oB H
    refine sn [.cs (eS v25), .res (.tup [(false, [jI v27.1]), (false, [.bool v27.2])])] [] [(12, cI v27.1), (13, cB v27.2)] [] [] (fun t => (a2 eS h26 (aI (i_readInt_ok v25 v27 h28) (t)))) ?_
    obtain ⟨v29, h30, H⟩ := oB H
    obtain ⟨v31, h32, H⟩ := oB H
    refine sn [.cs (eS v29), .mu [] [(900000, 1001)] (.tup [(false, [.own 900000 1 0 v31.1.length]), (false, [.bool v31.2])]) [(900000, ar 1 eI zI v31.1)]] [] [(14, ow 1001 1 v31.1), (15, cB v31.2)] [] [(1001, ar 1 eI zI v31.1)] (fun t => (a2 eS h30 (aI (i_readWords_Mdd_ok v29 [115, 101, 101, 110] v31 h32) (t)))) ?_
    refine seq_in ?_
    rcases oC H with ⟨c37, H⟩ | ⟨c37, H⟩
    ·refine so (rg 9 true []) [] [(1, .c (.str p1)), (2, pk 2), (4, pk 4), (6, dc 1 eS zS v1), (8, cI v19.1), (10, cI v23.1), (12, cI v27.1), (14, ow 1001 1 v31.1), (86, cB true)] [(2, va (eTBoard p0)), (4, .var [jI 0, jI 0, jI 0, .nil, .nil, .nil] false), (1001, ar 1 eI zI v31.1)] (fun t => aG 3 c37 (aG 6 rT (t))) ?_
     refine it rT ?_
     refine sn [] [] [(5, cB false)] [] [] id ?_
     refine tl [.nloc 4 3 900000 1 (fF eI zI ([] : List Int)), .nloc 4 4 900001 4 (fF eTUnit zTUnit ([] : List TUnit)), .nloc 4 5 900002 4 (fF eTUnit zTUnit ([] : List TUnit))] [(4, pk 4), (5, cB false)] [(4, .var [jI 0, jI 0, jI 0, .own 900000 1 0 (([] : List Int).length), .own 900001 4 0 (([] : List TUnit).length), .own 900002 4 0 (([] : List TUnit).length)] false), (900000, ar 1 eI zI ([] : List Int)), (900001, ar 4 eTUnit zTUnit ([] : List TUnit)), (900002, ar 4 eTUnit zTUnit ([] : List TUnit))] (fun t => aI (by decide : 0 < 1) (aG 2 (by decide : 0 < 4) (t))) ?_
     cases H
     exact er
    ·rcases oC H with ⟨c38, H⟩ | ⟨c38, H⟩
     ·refine so (rg 3 false (rg 6 true [])) [] [(1, .c (.str p1)), (2, pk 2), (4, pk 4), (6, dc 1 eS zS v1), (8, cI v19.1), (10, cI v23.1), (12, cI v27.1), (14, ow 1001 1 v31.1), (86, cB true)] [(2, va (eTBoard p0)), (4, .var [jI 0, jI 0, jI 0, .nil, .nil, .nil] false), (1001, ar 1 eI zI v31.1)] (fun t => aG 3 c37 (aG 3 c38 (aG 3 rT (t)))) ?_
      refine it rT ?_
      refine sn [] [] [(5, cB false)] [] [] id ?_
      refine tl [.nloc 4 3 900000 1 (fF eI zI ([] : List Int)), .nloc 4 4 900001 4 (fF eTUnit zTUnit ([] : List TUnit)), .nloc 4 5 900002 4 (fF eTUnit zTUnit ([] : List TUnit))] [(4, pk 4), (5, cB false)] [(4, .var [jI 0, jI 0, jI 0, .own 900000 1 0 (([] : List Int).length), .own 900001 4 0 (([] : List TUnit).length), .own 900002 4 0 (([] : List TUnit).length)] false), (900000, ar 1 eI zI ([] : List Int)), (900001, ar 4 eTUnit zTUnit ([] : List TUnit)), (900002, ar 4 eTUnit zTUnit ([] : List TUnit))] (fun t => aI (by decide : 0 < 1) (aG 2 (by decide : 0 < 4) (t))) ?_
      cases H
      exact er
     ·rcases oC H with ⟨c39, H⟩ | ⟨c39, H⟩
      ·refine so (rg 6 false (rg 3 true [])) [] [(1, .c (.str p1)), (2, pk 2), (4, pk 4), (6, dc 1 eS zS v1), (8, cI v19.1), (10, cI v23.1), (12, cI v27.1), (14, ow 1001 1 v31.1), (86, cB true)] [(2, va (eTBoard p0)), (4, .var [jI 0, jI 0, jI 0, .nil, .nil, .nil] false), (1001, ar 1 eI zI v31.1)] (fun t => aG 3 c37 (aG 3 c38 (aG 3 c39 (t)))) ?_
       refine it rT ?_
       refine sn [] [] [(5, cB false)] [] [] id ?_
       refine tl [.nloc 4 3 900000 1 (fF eI zI ([] : List Int)), .nloc 4 4 900001 4 (fF eTUnit zTUnit ([] : List TUnit)), .nloc 4 5 900002 4 (fF eTUnit zTUnit ([] : List TUnit))] [(4, pk 4), (5, cB false)] [(4, .var [jI 0, jI 0, jI 0, .own 900000 1 0 (([] : List Int).length), .own 900001 4 0 (([] : List TUnit).length), .own 900002 4 0 (([] : List TUnit).length)] false), (900000, ar 1 eI zI ([] : List Int)), (900001, ar 4 eTUnit zTUnit ([] : List TUnit)), (900002, ar 4 eTUnit zTUnit ([] : List TUnit))] (fun t => aI (by decide : 0 < 1) (aG 2 (by decide : 0 < 4) (t))) ?_
       cases H
       exact er
      ·refine so (rg 9 false []) [] [(1, .c (.str p1)), (2, pk 2), (4, pk 4), (6, dc 1 eS zS v1), (8, cI v19.1), (10, cI v23.1), (12, cI v27.1), (14, ow 1001 1 v31.1), (86, cB (!v31.2))] [(2, va (eTBoard p0)), (4, .var [jI 0, jI 0, jI 0, .nil, .nil, .nil] false), (1001, ar 1 eI zI v31.1)] (fun t => aG 3 c37 (aG 3 c38 (aG 3 c39 (t)))) ?_
       rcases oC H with ⟨c40, H⟩ | ⟨c40, H⟩
       ·refine it c40 ?_
        refine sn [] [] [(5, cB false)] [] [] id ?_
        refine tl [.nloc 4 3 900000 1 (fF eI zI ([] : List Int)), .nloc 4 4 900001 4 (fF eTUnit zTUnit ([] : List TUnit)), .nloc 4 5 900002 4 (fF eTUnit zTUnit ([] : List TUnit))] [(4, pk 4), (5, cB false)] [(4, .var [jI 0, jI 0, jI 0, .own 900000 1 0 (([] : List Int).length), .own 900001 4 0 (([] : List TUnit).length), .own 900002 4 0 (([] : List TUnit).length)] false), (900000, ar 1 eI zI ([] : List Int)), (900001, ar 4 eTUnit zTUnit ([] : List TUnit)), (900002, ar 4 eTUnit zTUnit ([] : List TUnit))] (fun t => aI (by decide : 0 < 1) (aG 2 (by decide : 0 < 4) (t))) ?_
        cases H
        exact er
       ·refine jf c40 ?_
        refine sk ?_
        refine sn [] [] [(16, pk 16)] [] [(16, .var [jI v19.1, jI v23.1, jI v27.1, .own 1001 1 0 v31.1.length, .nil, .nil] false)] id ?_
        refine seq_in ?_
        obtain ⟨g111, H⟩ := oI H
        refine sn [fh eS zS ((v1.drop (2 : Int).toNat).take ((W ((v1.length : Int) - 1)).toNat - (2 : Int).toNat))] [] [(97, .c (dat 1 eS zS ((v1.drop (2 : Int).toNat).take ((W ((v1.length : Int) - 1)).toNat - (2 : Int).toNat)))), (98, cL ((v1.drop (2 : Int).toNat).take ((W ((v1.length : Int) - 1)).toNat - (2 : Int).toNat))), (99, cI 0)] [] [] (fun t => lI v1 (aI g111 (aI (len_drop v1 (2 : Int) (W ((v1.length : Int) - 1)) g111) (aI (fF_drop eS zS v1 (2 : Int) (W ((v1.length : Int) - 1)) g111) ((fun (_ : ((v1.drop (2 : Int).toNat).take ((W ((v1.length : Int) - 1)).toNat - (2 : Int).toNat)).length ≤ maxLen) => t)))))) ?_
        refine ends_blk ?_
        obtain ⟨y177, h178, H⟩ := oB H
        refine tl [.nloc 16 4 1004 4 (fF eTUnit zTUnit ([] : List TUnit)), .nloc 16 5 1005 4 (fF eTUnit zTUnit ([] : List TUnit))] [(1, .c (.str p1)), (2, pk 2), (4, pk 4), (8, cI v19.1), (16, pk 16), (97, .c (dat 1 eS zS ((v1.drop (2 : Int).toNat).take ((W ((v1.length : Int) - 1)).toNat - (2 : Int).toNat)))), (98, cL ((v1.drop (2 : Int).toNat).take ((W ((v1.length : Int) - 1)).toNat - (2 : Int).toNat))), (99, cI 0)] [(2, va (eTBoard p0)), (4, .var [jI 0, jI 0, jI 0, .nil, .nil, .nil] false), (16, .var [jI v19.1, jI v23.1, jI v27.1, .own 1001 1 0 v31.1.length, .own 1004 4 0 (([] : List TUnit).length), .own 1005 4 0 (([] : List TUnit).length)] false), (1001, ar 1 eI zI v31.1), (1004, ar 4 eTUnit zTUnit ([] : List TUnit)), (1005, ar 4 eTUnit zTUnit ([] : List TUnit))] (fun t => aG 2 (by decide : 0 < 4) (t)) ?_
        refine loop_in (fun (x : (Int × (List Int) × (List TUnit) × (List TUnit))) => lit [(1, .c (.str p1)), (2, pk 2), (4, pk 4), (8, cI v19.1), (16, pk 16), (97, .c (dat 1 eS zS ((v1.drop (2 : Int).toNat).take ((W ((v1.length : Int) - 1)).toNat - (2 : Int).toNat)))), (98, cL ((v1.drop (2 : Int).toNat).take ((W ((v1.length : Int) - 1)).toNat - (2 : Int).toNat))), (99, cI x.1)] [(2, va (eTBoard p0)), (4, .var [jI 0, jI 0, jI 0, .nil, .nil, .nil] false), (16, .var [jI v19.1, jI v23.1, jI v27.1, .own 1001 1 0 x.2.1.length, .own 1004 4 0 x.2.2.1.length, .own 1005 4 0 x.2.2.2.length] false), (1001, ar 1 eI zI x.2.1), (1004, ar 4 eTUnit zTUnit x.2.2.1), (1005, ar 4 eTUnit zTUnit x.2.2.2)]) (orJ (fun (z : ((List Int) × (List TUnit) × (List TUnit))) => At (.exit 0) (lit [(1, .c (.str p1)), (2, pk 2), (4, pk 4), (16, pk 16)] [(2, va (eTBoard p0)), (4, .var [jI 0, jI 0, jI 0, .nil, .nil, .nil] false), (16, .var [jI v19.1, jI v23.1, jI v27.1, .own 1001 1 0 z.1.length, .own 1004 4 0 z.2.1.length, .own 1005 4 0 z.2.2.length] false), (1001, ar 1 eI zI z.1), (1004, ar 4 eTUnit zTUnit z.2.1), (1005, ar 4 eTUnit zTUnit z.2.2)])) (fun (z : (Bool × Int × Int × Int × (List Int) × (List TUnit) × (List TUnit))) => At .ret (lit [(4, pk 4), (5, cB z.1)] [(4, .var [jI z.2.1, jI z.2.2.1, jI z.2.2.2.1, .own 900000 1 0 z.2.2.2.2.1.length, .own 900001 4 0 z.2.2.2.2.2.1.length, .own 900002 4 0 z.2.2.2.2.2.2.length] false), (900000, ar 1 eI zI z.2.2.2.2.1), (900001, ar 4 eTUnit zTUnit z.2.2.2.2.2.1), (900002, ar 4 eTUnit zTUnit z.2.2.2.2.2.2)]))) h178 ?_ ?_
        ·clear H h178
         intro x155 y0 H
         refine sn [] [] [(100, cB (decide (x155.1 < (((v1.drop (2 : Int).toNat).take ((W ((v1.length : Int) - 1)).toNat - (2 : Int).toNat)).length : Int))))] [] [] id ?_
         refine seq_in ?_
         rcases oC H with ⟨c157, H⟩ | ⟨c157, H⟩
         ·refine it c157 ?_
          refine sk ?_
          refine seq_in ?_
          refine ends_blk ?_
          obtain ⟨v158, h159, H⟩ := oB H
          refine sn [.cs (eS v158)] [] [(18, .c (.str v158))] [] [] (a2 eS h159) ?_
          obtain ⟨v160, h161, H⟩ := oB H
          refine sn [.res (.tup [(false, [.str v160.1]), (false, [.str v160.2.1]), (false, [.bool v160.2.2])])] [] [(19, .c (.str v160.1)), (20, .c (.str v160.2.1))] [] [] (aI (x_strings_Cut_ok v158 [32] v160 h161)) ?_
          refine sn [] [] [(22, cI v19.1)] [] [] id ?_
          obtain ⟨y164, h165, H⟩ := oB H
          refine seq_in (cut_in (fun (z : Int) => At .normal (lit [(1, .c (.str p1)), (2, pk 2), (4, pk 4), (8, cI v19.1), (16, pk 16), (19, .c (.str v160.1)), (20, .c (.str v160.2.1)), (22, cI z), (97, .c (dat 1 eS zS ((v1.drop (2 : Int).toNat).take ((W ((v1.length : Int) - 1)).toNat - (2 : Int).toNat)))), (98, cL ((v1.drop (2 : Int).toNat).take ((W ((v1.length : Int) - 1)).toNat - (2 : Int).toNat))), (99, cI x155.1)] [(2, va (eTBoard p0)), (4, .var [jI 0, jI 0, jI 0, .nil, .nil, .nil] false), (16, .var [jI v19.1, jI v23.1, jI v27.1, .own 1001 1 0 x155.2.1.length, .own 1004 4 0 x155.2.2.1.length, .own 1005 4 0 x155.2.2.2.length] false), (1001, ar 1 eI zI x155.2.1), (1004, ar 4 eTUnit zTUnit x155.2.2.1), (1005, ar 4 eTUnit zTUnit x155.2.2.2)])) y164 ?_ ?_)
          ·clear H
           revert h165
           generalize y164 = y0
           intro H
           refine sn [] [] [(111, cB (v160.1 == ([101, 110, 101, 109, 121] : List UInt8)))] [] [] id ?_
           rcases oC H with ⟨c163, H⟩ | ⟨c163, H⟩
           ·refine it c163 ?_
            refine oo [] [] [(1, .c (.str p1)), (2, pk 2), (4, pk 4), (8, cI v19.1), (16, pk 16), (19, .c (.str v160.1)), (20, .c (.str v160.2.1)), (22, cI (W (1 - v19.1))), (97, .c (dat 1 eS zS ((v1.drop (2 : Int).toNat).take ((W ((v1.length : Int) - 1)).toNat - (2 : Int).toNat)))), (98, cL ((v1.drop (2 : Int).toNat).take ((W ((v1.length : Int) - 1)).toNat - (2 : Int).toNat))), (99, cI x155.1)] [(2, va (eTBoard p0)), (4, .var [jI 0, jI 0, jI 0, .nil, .nil, .nil] false), (16, .var [jI v19.1, jI v23.1, jI v27.1, .own 1001 1 0 x155.2.1.length, .own 1004 4 0 x155.2.2.1.length, .own 1005 4 0 x155.2.2.2.length] false), (1001, ar 1 eI zI x155.2.1), (1004, ar 4 eTUnit zTUnit x155.2.2.1), (1005, ar 4 eTUnit zTUnit x155.2.2.2)] id ?_
            cases H
            exact rr
           ·refine jf c163 ?_
            refine tl [] [(1, .c (.str p1)), (2, pk 2), (4, pk 4), (8, cI v19.1), (16, pk 16), (19, .c (.str v160.1)), (20, .c (.str v160.2.1)), (22, cI v19.1), (97, .c (dat 1 eS zS ((v1.drop (2 : Int).toNat).take ((W ((v1.length : Int) - 1)).toNat - (2 : Int).toNat)))), (98, cL ((v1.drop (2 : Int).toNat).take ((W ((v1.length : Int) - 1)).toNat - (2 : Int).toNat))), (99, cI x155.1)] [(2, va (eTBoard p0)), (4, .var [jI 0, jI 0, jI 0, .nil, .nil, .nil] false), (16, .var [jI v19.1, jI v23.1, jI v27.1, .own 1001 1 0 x155.2.1.length, .own 1004 4 0 x155.2.2.1.length, .own 1005 4 0 x155.2.2.2.length] false), (1001, ar 1 eI zI x155.2.1), (1004, ar 4 eTUnit zTUnit x155.2.2.1), (1005, ar 4 eTUnit zTUnit x155.2.2.2)] id ?_
            refine ends_skip ?_
            cases H
            exact rr
          ·clear h165
           rintro e s ⟨rfl, rfl⟩
           change EndsI _ _ _ _ _ _
           obtain ⟨v166, h167, H⟩ := oB H
           obtain ⟨g168, H⟩ := oI H
           obtain ⟨g169, H⟩ := oI H
           obtain ⟨v170, h171, H⟩ := oB H
           refine xn [.res (.c (.str v166)), .res (.tup [(true, [jI v170.1.Side, jI v170.1.Kind, jI v170.1.At, jI v170.1.Steps]), (false, [.bool v170.2])])] [] [(23, pk 23), (24, cB v170.2)] [] [(23, va (eTUnit v170.1))] (fun t => aI (x_strconv_Itoa_ok y164 v166 h167) (aI trivial (aI rN (aI g168 (aI g169 (aI (i_readUnit_ok p0 ((v166 ++ ([32] : List UInt8)) ++ v160.2.1) v170 h171) (aI trivial (aI rN (t))))))))) ?_
           refine seq_in ?_
           refine sn [] [] [(125, cB (!v170.2))] [] [] id ?_
           rcases oC H with ⟨c173, H⟩ | ⟨c173, H⟩
           ·refine it c173 ?_
            refine sn [] [] [(5, cB false)] [] [] id ?_
            refine tl [.nloc 4 3 900000 1 (fF eI zI ([] : List Int)), .nloc 4 4 900001 4 (fF eTUnit zTUnit ([] : List TUnit)), .nloc 4 5 900002 4 (fF eTUnit zTUnit ([] : List TUnit))] [(4, pk 4), (5, cB false)] [(4, .var [jI 0, jI 0, jI 0, .own 900000 1 0 (([] : List Int).length), .own 900001 4 0 (([] : List TUnit).length), .own 900002 4 0 (([] : List TUnit).length)] false), (900000, ar 1 eI zI ([] : List Int)), (900001, ar 4 eTUnit zTUnit ([] : List TUnit)), (900002, ar 4 eTUnit zTUnit ([] : List TUnit))] (fun t => aI (by decide : 0 < 1) (aG 2 (by decide : 0 < 4) (t))) ?_
            refine ends_ret ?_
            cases H
            exact rsr
           ·refine jf c173 ?_
            refine sk ?_
            refine sn [] [] [(128, cB (v160.1 == ([101, 110, 101, 109, 121] : List UInt8)))] [] [] id ?_
            rcases oC H with ⟨c174, H⟩ | ⟨c174, H⟩
            ·refine it c174 ?_
             obtain ⟨g175, H⟩ := oI H
             refine oo [fh eTUnit zTUnit ([v170.1] : List TUnit), fh eTUnit zTUnit (x155.2.2.2 ++ ([v170.1] : List TUnit))] [] [(1, .c (.str p1)), (2, pk 2), (4, pk 4), (8, cI v19.1), (16, pk 16), (97, .c (dat 1 eS zS ((v1.drop (2 : Int).toNat).take ((W ((v1.length : Int) - 1)).toNat - (2 : Int).toNat)))), (98, cL ((v1.drop (2 : Int).toNat).take ((W ((v1.length : Int) - 1)).toNat - (2 : Int).toNat))), (99, cI x155.1)] [(2, va (eTBoard p0)), (4, .var [jI 0, jI 0, jI 0, .nil, .nil, .nil] false), (16, .var [jI v19.1, jI v23.1, jI v27.1, .own 1001 1 0 x155.2.1.length, .own 1004 4 0 x155.2.2.1.length, .own 133 4 0 ((x155.2.2.2 ++ ([v170.1] : List TUnit)).length)] false), (133, ar 4 eTUnit zTUnit (x155.2.2.2 ++ ([v170.1] : List TUnit))), (1001, ar 1 eI zI x155.2.1), (1004, ar 4 eTUnit zTUnit x155.2.2.1)] (fun t => aI (rfl : ([v170.1] : List TUnit).length = 1) (aI (fF_lit eTUnit zTUnit ([v170.1] : List TUnit)) (aI (Nat.le_refl (([v170.1] : List TUnit).length)) (aI (And.intro (Nat.le_refl x155.2.2.2.length) (And.intro (@List.length_append _ x155.2.2.2 ([v170.1] : List TUnit)) g175)) (aI (fF_appL eTUnit zTUnit x155.2.2.2 ([v170.1] : List TUnit)) (aI (fF_appR eTUnit zTUnit x155.2.2.2 ([v170.1] : List TUnit)) (t))))))) ?_
             change EndsI _ _ _ _ _ _
             refine oo [] [.ren 133 1005] [(1, .c (.str p1)), (2, pk 2), (4, pk 4), (8, cI v19.1), (16, pk 16), (97, .c (dat 1 eS zS ((v1.drop (2 : Int).toNat).take ((W ((v1.length : Int) - 1)).toNat - (2 : Int).toNat)))), (98, cL ((v1.drop (2 : Int).toNat).take ((W ((v1.length : Int) - 1)).toNat - (2 : Int).toNat))), (99, cI (W (x155.1 + 1)))] [(2, va (eTBoard p0)), (4, .var [jI 0, jI 0, jI 0, .nil, .nil, .nil] false), (16, .var [jI v19.1, jI v23.1, jI v27.1, .own 1001 1 0 x155.2.1.length, .own 1004 4 0 x155.2.2.1.length, .own 1005 4 0 ((x155.2.2.2 ++ ([v170.1] : List TUnit)).length)] false), (1001, ar 1 eI zI x155.2.1), (1004, ar 4 eTUnit zTUnit x155.2.2.1), (1005, ar 4 eTUnit zTUnit (x155.2.2.2 ++ ([v170.1] : List TUnit)))] id ?_
             cases H
             exact rr
            ·refine jf c174 ?_
             obtain ⟨g176, H⟩ := oI H
             refine oo [fh eTUnit zTUnit ([v170.1] : List TUnit), fh eTUnit zTUnit (x155.2.2.1 ++ ([v170.1] : List TUnit))] [] [(1, .c (.str p1)), (2, pk 2), (4, pk 4), (8, cI v19.1), (16, pk 16), (97, .c (dat 1 eS zS ((v1.drop (2 : Int).toNat).take ((W ((v1.length : Int) - 1)).toNat - (2 : Int).toNat)))), (98, cL ((v1.drop (2 : Int).toNat).take ((W ((v1.length : Int) - 1)).toNat - (2 : Int).toNat))), (99, cI x155.1)] [(2, va (eTBoard p0)), (4, .var [jI 0, jI 0, jI 0, .nil, .nil, .nil] false), (16, .var [jI v19.1, jI v23.1, jI v27.1, .own 1001 1 0 x155.2.1.length, .own 139 4 0 ((x155.2.2.1 ++ ([v170.1] : List TUnit)).length), .own 1005 4 0 x155.2.2.2.length] false), (139, ar 4 eTUnit zTUnit (x155.2.2.1 ++ ([v170.1] : List TUnit))), (1001, ar 1 eI zI x155.2.1), (1005, ar 4 eTUnit zTUnit x155.2.2.2)] (fun t => aI (rfl : ([v170.1] : List TUnit).length = 1) (aI (fF_lit eTUnit zTUnit ([v170.1] : List TUnit)) (aI (Nat.le_refl (([v170.1] : List TUnit).length)) (aI (And.intro (Nat.le_refl x155.2.2.1.length) (And.intro (@List.length_append _ x155.2.2.1 ([v170.1] : List TUnit)) g176)) (aI (fF_appL eTUnit zTUnit x155.2.2.1 ([v170.1] : List TUnit)) (aI (fF_appR eTUnit zTUnit x155.2.2.1 ([v170.1] : List TUnit)) (t))))))) ?_
             change EndsI _ _ _ _ _ _
             refine oo [] [.ren 139 1004] [(1, .c (.str p1)), (2, pk 2), (4, pk 4), (8, cI v19.1), (16, pk 16), (97, .c (dat 1 eS zS ((v1.drop (2 : Int).toNat).take ((W ((v1.length : Int) - 1)).toNat - (2 : Int).toNat)))), (98, cL ((v1.drop (2 : Int).toNat).take ((W ((v1.length : Int) - 1)).toNat - (2 : Int).toNat))), (99, cI (W (x155.1 + 1)))] [(2, va (eTBoard p0)), (4, .var [jI 0, jI 0, jI 0, .nil, .nil, .nil] false), (16, .var [jI v19.1, jI v23.1, jI v27.1, .own 1001 1 0 x155.2.1.length, .own 1004 4 0 ((x155.2.2.1 ++ ([v170.1] : List TUnit)).length), .own 1005 4 0 x155.2.2.2.length] false), (1001, ar 1 eI zI x155.2.1), (1004, ar 4 eTUnit zTUnit (x155.2.2.1 ++ ([v170.1] : List TUnit))), (1005, ar 4 eTUnit zTUnit x155.2.2.2)] id ?_
             cases H
             exact rr
         ·refine jf c157 ?_
          refine tl [] [(1, .c (.str p1)), (2, pk 2), (4, pk 4), (16, pk 16)] [(2, va (eTBoard p0)), (4, .var [jI 0, jI 0, jI 0, .nil, .nil, .nil] false), (16, .var [jI v19.1, jI v23.1, jI v27.1, .own 1001 1 0 x155.2.1.length, .own 1004 4 0 x155.2.2.1.length, .own 1005 4 0 x155.2.2.2.length] false), (1001, ar 1 eI zI x155.2.1), (1004, ar 4 eTUnit zTUnit x155.2.2.1), (1005, ar 4 eTUnit zTUnit x155.2.2.2)] id ?_
          refine ends_exit ?_
          cases H
          exact rse
        ·clear h178
         cases y177 with
         | inl y179 =>
          replace H := ofInl H
          rintro e s ⟨rfl, rfl⟩
          change EndsI _ _ _ _ _ _
          refine seq_in ?_
          obtain ⟨v181, h182, H⟩ := oB H
          rcases oC H with ⟨c183, H⟩ | ⟨c183, H⟩
          ·refine sn ([.res (cB v181)] ++ rg 6 true []) [] [(152, cB true)] [] [] (fun t => aI (Nat.le_refl y179.1.length) (aI (Nat.le_refl y179.2.1.length) (aI (Nat.le_refl y179.2.2.length) (aI (i_goodView_ok p0 (TView.mk v19.1 v23.1 v27.1 y179.1 y179.2.1 y179.2.2) v181 h182) (aG 6 c183 (t)))))) ?_
           refine it rT ?_
           refine sn [] [] [(5, cB false)] [2] [] id ?_
           refine tl [.nloc 4 3 900000 1 (fF eI zI ([] : List Int)), .nloc 4 4 900001 4 (fF eTUnit zTUnit ([] : List TUnit)), .nloc 4 5 900002 4 (fF eTUnit zTUnit ([] : List TUnit))] [(4, pk 4), (5, cB false)] [(4, .var [jI 0, jI 0, jI 0, .own 900000 1 0 (([] : List Int).length), .own 900001 4 0 (([] : List TUnit).length), .own 900002 4 0 (([] : List TUnit).length)] false), (900000, ar 1 eI zI ([] : List Int)), (900001, ar 4 eTUnit zTUnit ([] : List TUnit)), (900002, ar 4 eTUnit zTUnit ([] : List TUnit))] (fun t => aI (by decide : 0 < 1) (aG 2 (by decide : 0 < 4) (t))) ?_
           cases H
           exact er
          ·obtain ⟨v184, h185, H⟩ := oB H
           refine sn ([.res (cB v181)] ++ rg 3 false ([.res (.c (.str v184))] ++ rg 3 false [])) [] [(152, cB (!(v184 == p1)))] [] [] (fun t => aI (Nat.le_refl y179.1.length) (aI (Nat.le_refl y179.2.1.length) (aI (Nat.le_refl y179.2.2.length) (aI (i_goodView_ok p0 (TView.mk v19.1 v23.1 v27.1 y179.1 y179.2.1 y179.2.2) v181 h182) (aG 3 c183 (aI (Nat.le_refl y179.1.length) (aI (Nat.le_refl y179.2.1.length) (aI (Nat.le_refl y179.2.2.length) (aI (i_reportText_ok p0 (TView.mk v19.1 v23.1 v27.1 y179.1 y179.2.1 y179.2.2) v184 h185) (aG 3 c183 (t))))))))))) ?_
           rcases oC H with ⟨c186, H⟩ | ⟨c186, H⟩
           ·refine it c186 ?_
            refine sn [] [] [(5, cB false)] [2] [] id ?_
            refine tl [.nloc 4 3 900000 1 (fF eI zI ([] : List Int)), .nloc 4 4 900001 4 (fF eTUnit zTUnit ([] : List TUnit)), .nloc 4 5 900002 4 (fF eTUnit zTUnit ([] : List TUnit))] [(4, pk 4), (5, cB false)] [(4, .var [jI 0, jI 0, jI 0, .own 900000 1 0 (([] : List Int).length), .own 900001 4 0 (([] : List TUnit).length), .own 900002 4 0 (([] : List TUnit).length)] false), (900000, ar 1 eI zI ([] : List Int)), (900001, ar 4 eTUnit zTUnit ([] : List TUnit)), (900002, ar 4 eTUnit zTUnit ([] : List TUnit))] (fun t => aI (by decide : 0 < 1) (aG 2 (by decide : 0 < 4) (t))) ?_
            cases H
            exact er
           ·refine jf c186 ?_
            refine sk ?_
            refine sn [] [] [(5, cB true)] [2, 4] [(4, .var [jI v19.1, jI v23.1, jI v27.1, .own 1001 1 0 y179.1.length, .own 1004 4 0 y179.2.1.length, .own 1005 4 0 y179.2.2.length] false)] id ?_
            refine tl [.ren 1001 900000, .ren 1004 900001, .ren 1005 900002] [(4, pk 4), (5, cB true)] [(4, .var [jI v19.1, jI v23.1, jI v27.1, .own 900000 1 0 y179.1.length, .own 900001 4 0 y179.2.1.length, .own 900002 4 0 y179.2.2.length] false), (900000, ar 1 eI zI y179.1), (900001, ar 4 eTUnit zTUnit y179.2.1), (900002, ar 4 eTUnit zTUnit y179.2.2)] id ?_
            cases H
            exact er
         | inr y180 =>
          replace H := ofInr H
          rintro e s ⟨rfl, rfl⟩
          cases H
          exact qr
def l_eqIntS_ir : S :=
 (sq [o 4 (.mv bF)]
 (.seq (sq [om 6 0, o 7 (.len (.t 6)), om 8 1, o 9 (.len (.t 8)), o 10 (.bin .neq (.t 7) (.t 9))]
 (.ite (.t 10) (sq [o 4 (.mv bF)]
  .ret)
 .skip))
 (.seq (sq [o 5 (.mv (iv 0))]
 (.blk 0 (.loop (.seq (sq [om 11 5, om 12 0, o 13 (.len (.t 12)), o 14 (.bin .lss (.t 11) (.t 13))]
   (.ite (.t 14) .skip
   (.exit 0)))
   (.seq (.blk 1 (.seq (.drw [(0, 1), (0, 4), (1, 4), (2, 4), (3, 4), (0, 5), (1, 5), (2, 5), (3, 5), (4, 5), (0, 6), (1, 6), (2, 6), (3, 6), (0, 7), (1, 7), (2, 7), (3, 7)] [om 17 0, om 18 5, o 19 (.iad 1 (.t 17) (.t 18)), ol 20 19, om 21 1, om 22 5, o 23 (.iad 1 (.t 21) (.t 22)), ol 24 23, o 25 (.bin .neq (.t 20) (.t 24))])
    (.ite (.t 25) (sq [o 4 (.mv bF)]
     .ret)
    .skip)))
   (.ops [om 15 5, o 16 (.bin .add (.t 15) (iv 1)), om 5 16]))))))
 (sq [o 4 (.mv bT)]
 .ret))))
noncomputable def X.l_eqIntS (p0 : (List Int)) (p1 : (List Int)) : Option Bool :=
 (bif ((p0.length : Int) != (p1.length : Int)) then some false else ((loop (fun (x18 : Int) => ((bif (decide (x18 < (p0.length : Int))) then ((at' zI p0 x18).bind fun v21 => ((at' zI p1 x18).bind fun v23 => (bif (v21 != v23) then some (Sum.inr (Sum.inr false)) else some (Sum.inl (W (x18 + 1)))))) else some (Sum.inr (Sum.inl ()))) : Option (Int ⊕ (Unit ⊕ Bool)))) 0).bind fun y26 => (Sum.elim (fun (y28 : Unit) => some true) (fun (y29 : Bool) => some y29) y26)))
theorem l_eqIntS_ok (p0 : (List Int)) (p1 : (List Int)) (r : Bool) (H : X.l_eqIntS p0 p1 = some r) : FK 21 [.c (dat 1 eI zI p0), .c (dat 1 eI zI p1)] (cB r) := by
 unfold X.l_eqIntS at H
 refine fi Tryz.f21 l_eqIntS_ir [(4, cB r)] [] glL Tryz.func21 ?_
 refine sn [] [] [] [] [] id ?_
 refine seq_in ?_
 refine sn [] [] [(10, cB ((p0.length : Int) != (p1.length : Int)))] [] [] (fun t => lI p0 (lI p1 (t))) ?_
 rcases oC H with ⟨c2, H⟩ | ⟨c2, H⟩
 ·refine it c2 ?_
  refine so [] [] [(4, cB false)] [] id ?_
  cases H
  exact er
 ·refine jf c2 ?_
  refine sk ?_
  refine seq_in ?_
  refine sn [] [] [(5, cI 0)] [] [] id ?_
  refine ends_blk ?_
  obtain ⟨y26, h27, H⟩ := oB H
  refine tl [] [(0, dc 1 eI zI p0), (1, dc 1 eI zI p1), (5, cI 0)] [] id ?_
  refine loop_in (fun (x : Int) => lit [(0, dc 1 eI zI p0), (1, dc 1 eI zI p1), (5, cI x)] []) (orJ (fun (z : Unit) => At (.exit 0) (lit [] [])) (fun (z : Bool) => At .ret (lit [(4, cB z)] []))) h27 ?_ ?_
  ·clear H h27
   intro x18 y0 H
   refine seq_in ?_
   refine sn [] [] [(14, cB (decide (x18 < (p0.length : Int))))] [] [] (fun t => lI p0 (t)) ?_
   rcases oC H with ⟨c20, H⟩ | ⟨c20, H⟩
   ·refine it c20 ?_
    refine sk ?_
    refine seq_in ?_
    refine ends_blk ?_
    obtain ⟨v21, h22, H⟩ := oB H
    obtain ⟨v23, h24, H⟩ := oB H
    refine xn [.cs (eI v21), .cs (eI v23)] [] [(25, cB (v21 != v23))] [] [] (fun t => (a2 eI h22 (aI rN ((a2 eI h24 (aI rN (t))))))) ?_
    rcases oC H with ⟨c25, H⟩ | ⟨c25, H⟩
    ·refine it c25 ?_
     refine so [] [] [(4, cB false)] [] id ?_
     refine ends_ret ?_
     cases H
     exact rsr
    ·refine jf c25 ?_
     refine sk ?_
     refine oo [] [] [(0, dc 1 eI zI p0), (1, dc 1 eI zI p1), (5, cI (W (x18 + 1)))] [] id ?_
     cases H
     exact rr
   ·refine jf c20 ?_
    refine tl [] [] [] id ?_
    refine ends_exit ?_
    cases H
    exact rse
  ·clear h27
   cases y26 with
   | inl y28 =>
    replace H := ofInl H
    rintro e s ⟨rfl, rfl⟩
    change EndsI _ _ _ _ _ _
    refine so [] [] [(4, cB true)] [] id ?_
    cases H
    exact er
   | inr y29 =>
    replace H := ofInr H
    rintro e s ⟨rfl, rfl⟩
    cases H
    exact qr
def l_eqUnit_ir : S :=
 (sq [o 2 (.box 4 (.t 0)), o 3 (.box 4 (.t 1)), o 4 (.mv bF)]
 (.seq (sq [oa 5 0 2, ol 6 5, oa 7 0 3, ol 8 7, o 9 (.bin .neq (.t 6) (.t 8))]
 (.ite (.t 9) (sq [o 4 (.mv bF)]
  .ret)
 .skip))
 (.seq (sq [oa 10 1 2, ol 11 10, oa 12 1 3, ol 13 12, o 14 (.bin .neq (.t 11) (.t 13))]
 (.ite (.t 14) (sq [o 4 (.mv bF)]
  .ret)
 .skip))
 (.seq (sq [oa 15 2 2, ol 16 15, oa 17 2 3, ol 18 17, o 19 (.bin .neq (.t 16) (.t 18))]
 (.ite (.t 19) (sq [o 4 (.mv bF)]
  .ret)
 .skip))
 (.seq (sq [oa 20 3 2, ol 21 20, oa 22 3 3, ol 23 22, o 24 (.bin .neq (.t 21) (.t 23))]
 (.ite (.t 24) (sq [o 4 (.mv bF)]
  .ret)
 .skip))
 (sq [o 4 (.mv bT)]
 .ret))))))
noncomputable def X.l_eqUnit (p0 : TUnit) (p1 : TUnit) : Option Bool :=
 (bif (p0.Side != p1.Side) then some false else (bif (p0.Kind != p1.Kind) then some false else (bif (p0.At != p1.At) then some false else (bif (p0.Steps != p1.Steps) then some false else some true))))
theorem l_eqUnit_ok (p0 : TUnit) (p1 : TUnit) (r : Bool) (H : X.l_eqUnit p0 p1 = some r) : FK 111 [.agg (eTUnit p0), .agg (eTUnit p1)] (cB r) := by
 unfold X.l_eqUnit at H
 refine fi Tryz.f111 l_eqUnit_ir [(4, cB r)] [] glL Tryz.func111 ?_
 refine so [] [] [(2, pk 2), (3, pk 3)] [(2, va (eTUnit p0)), (3, va (eTUnit p1))] id ?_
 refine seq_in ?_
 refine sn [] [] [(9, cB (p0.Side != p1.Side))] [] [] id ?_
 rcases oC H with ⟨c2, H⟩ | ⟨c2, H⟩
 ·refine it c2 ?_
  refine so [] [] [(4, cB false)] [] id ?_
  cases H
  exact er
 ·refine jf c2 ?_
  refine sk ?_
  refine seq_in ?_
  refine sn [] [] [(14, cB (p0.Kind != p1.Kind))] [] [] id ?_
  rcases oC H with ⟨c4, H⟩ | ⟨c4, H⟩
  ·refine it c4 ?_
   refine so [] [] [(4, cB false)] [] id ?_
   cases H
   exact er
  ·refine jf c4 ?_
   refine sk ?_
   refine seq_in ?_
   refine sn [] [] [(19, cB (p0.At != p1.At))] [] [] id ?_
   rcases oC H with ⟨c6, H⟩ | ⟨c6, H⟩
   ·refine it c6 ?_
    refine so [] [] [(4, cB false)] [] id ?_
    cases H
    exact er
   ·refine jf c6 ?_
    refine sk ?_
    refine seq_in ?_
    refine so [] [] [(24, cB (p0.Steps != p1.Steps))] [] id ?_
    rcases oC H with ⟨c7, H⟩ | ⟨c7, H⟩
    ·refine it c7 ?_
     refine so [] [] [(4, cB false)] [] id ?_
     cases H
     exact er
    ·refine jf c7 ?_
     refine sk ?_
     refine so [] [] [(4, cB true)] [] id ?_
     cases H
     exact er
def l_eqUnitS_ir : S :=
 (sq [o 4 (.mv bF)]
 (.seq (sq [om 6 0, o 7 (.len (.t 6)), om 8 1, o 9 (.len (.t 8)), o 10 (.bin .neq (.t 7) (.t 9))]
 (.ite (.t 10) (sq [o 4 (.mv bF)]
  .ret)
 .skip))
 (.seq (sq [o 5 (.mv (iv 0))]
 (.blk 0 (.loop (.seq (sq [om 11 5, om 12 0, o 13 (.len (.t 12)), o 14 (.bin .lss (.t 11) (.t 13))]
   (.ite (.t 14) .skip
   (.exit 0)))
   (.seq (.blk 1 (.seq (.drw [(0, 1), (0, 4), (1, 4), (2, 4), (3, 4), (0, 5), (1, 5), (2, 5), (3, 5), (4, 5), (0, 6), (1, 6), (2, 6), (3, 6), (0, 7), (1, 7), (2, 7), (3, 7)] [om 17 0, om 18 5, o 19 (.iad 4 (.t 17) (.t 18)), o 20 (.load 4 true (.t 19)), om 21 1, om 22 5, o 23 (.iad 4 (.t 21) (.t 22)), o 24 (.load 4 true (.t 23)), o 25 (.call 111 [.t 20, .t 24]), o 26 (.not (.t 25))])
    (.ite (.t 26) (sq [o 4 (.mv bF)]
     .ret)
    .skip)))
   (.ops [om 15 5, o 16 (.bin .add (.t 15) (iv 1)), om 5 16]))))))
 (sq [o 4 (.mv bT)]
 .ret))))
noncomputable def X.l_eqUnitS (p0 : (List TUnit)) (p1 : (List TUnit)) : Option Bool :=
 (bif ((p0.length : Int) != (p1.length : Int)) then some false else ((loop (fun (x22 : Int) => ((bif (decide (x22 < (p0.length : Int))) then ((at' zTUnit p0 x22).bind fun v25 => ((at' zTUnit p1 x22).bind fun v27 => ((X.l_eqUnit v25 v27).bind fun v29 => (bif (!v29) then some (Sum.inr (Sum.inr false)) else some (Sum.inl (W (x22 + 1))))))) else some (Sum.inr (Sum.inl ()))) : Option (Int ⊕ (Unit ⊕ Bool)))) 0).bind fun y32 => (Sum.elim (fun (y34 : Unit) => some true) (fun (y35 : Bool) => some y35) y32)))
theorem l_eqUnitS_ok (p0 : (List TUnit)) (p1 : (List TUnit)) (r : Bool) (H : X.l_eqUnitS p0 p1 = some r) : FK 45 [.c (dat 4 eTUnit zTUnit p0), .c (dat 4 eTUnit zTUnit p1)] (cB r) := by
 unfold X.l_eqUnitS at H
 refine fi Tryz.f45 l_eqUnitS_ir [(4, cB r)] [] glL Tryz.func45 ?_
 refine sn [] [] [] [] [] id ?_
 refine seq_in ?_
 refine sn [] [] [(10, cB ((p0.length : Int) != (p1.length : Int)))] [] [] (fun t => lI p0 (lI p1 (t))) ?_
 rcases oC H with ⟨c2, H⟩ | ⟨c2, H⟩
 ·refine it c2 ?_
  refine so [] [] [(4, cB false)] [] id ?_
  cases H
  exact er
 ·refine jf c2 ?_
  refine sk ?_
  refine seq_in ?_
  refine sn [] [] [(5, cI 0)] [] [] id ?_
  refine ends_blk ?_
  obtain ⟨y32, h33, H⟩ := oB H
  refine tl [] [(0, dc 4 eTUnit zTUnit p0), (1, dc 4 eTUnit zTUnit p1), (5, cI 0)] [] id ?_
  refine loop_in (fun (x : Int) => lit [(0, dc 4 eTUnit zTUnit p0), (1, dc 4 eTUnit zTUnit p1), (5, cI x)] []) (orJ (fun (z : Unit) => At (.exit 0) (lit [] [])) (fun (z : Bool) => At .ret (lit [(4, cB z)] []))) h33 ?_ ?_
  ·clear H h33
   intro x22 y0 H
   refine seq_in ?_
   refine sn [] [] [(14, cB (decide (x22 < (p0.length : Int))))] [] [] (fun t => lI p0 (t)) ?_
   rcases oC H with ⟨c24, H⟩ | ⟨c24, H⟩
   ·refine it c24 ?_
    refine sk ?_
    refine seq_in ?_
    refine ends_blk ?_
    obtain ⟨v25, h26, H⟩ := oB H
    obtain ⟨v27, h28, H⟩ := oB H
    obtain ⟨v29, h30, H⟩ := oB H
    refine xn [.cs (eTUnit v25), .cs (eTUnit v27), .res (cB v29)] [] [(26, cB (!v29))] [] [] (fun t => (a2 eTUnit h26 (aI rN ((a2 eTUnit h28 (aI rN (aI (l_eqUnit_ok v25 v27 v29 h30) (aI trivial (aI rN (t)))))))))) ?_
    rcases oC H with ⟨c31, H⟩ | ⟨c31, H⟩
    ·refine it c31 ?_
     refine so [] [] [(4, cB false)] [] id ?_
     refine ends_ret ?_
     cases H
     exact rsr
    ·refine jf c31 ?_
     refine sk ?_
     refine oo [] [] [(0, dc 4 eTUnit zTUnit p0), (1, dc 4 eTUnit zTUnit p1), (5, cI (W (x22 + 1)))] [] id ?_
     cases H
     exact rr
   ·refine jf c24 ?_
    refine tl [] [] [] id ?_
    refine ends_exit ?_
    cases H
    exact rse
  ·clear h33
   cases y32 with
   | inl y34 =>
    replace H := ofInl H
    rintro e s ⟨rfl, rfl⟩
    change EndsI _ _ _ _ _ _
    refine so [] [] [(4, cB true)] [] id ?_
    cases H
    exact er
   | inr y35 =>
    replace H := ofInr H
    rintro e s ⟨rfl, rfl⟩
    cases H
    exact qr
def l_eqView_ir : S :=
 (sq [o 2 (.box 6 (.t 0)), o 3 (.box 6 (.t 1)), o 4 (.mv bF)]
 (.seq (sq [oa 5 0 2, ol 6 5, oa 7 0 3, ol 8 7, o 9 (.bin .neq (.t 6) (.t 8))]
 (.ite (.t 9) (sq [o 4 (.mv bF)]
  .ret)
 .skip))
 (.seq (sq [oa 10 1 2, ol 11 10, oa 12 1 3, ol 13 12, o 14 (.bin .neq (.t 11) (.t 13))]
 (.ite (.t 14) (sq [o 4 (.mv bF)]
  .ret)
 .skip))
 (.seq (sq [oa 15 2 2, ol 16 15, oa 17 2 3, ol 18 17, o 19 (.bin .neq (.t 16) (.t 18))]
 (.ite (.t 19) (sq [o 4 (.mv bF)]
  .ret)
 .skip))
 (.seq (sq [oa 20 3 2, ol 21 20, oa 22 3 3, ol 23 22, o 24 (.call 21 [.t 21, .t 23]), o 25 (.not (.t 24))]
 (.ite (.t 25) (sq [o 4 (.mv bF)]
  .ret)
 .skip))
 (.seq (sq [oa 26 4 2, ol 27 26, oa 28 4 3, ol 29 28, o 30 (.call 45 [.t 27, .t 29]), o 31 (.not (.t 30))]
 (.ite (.t 31) (sq [o 4 (.mv bF)]
  .ret)
 .skip))
 (.seq (sq [oa 32 5 2, ol 33 32, oa 34 5 3, ol 35 34, o 36 (.call 45 [.t 33, .t 35]), o 37 (.not (.t 36))]
 (.ite (.t 37) (sq [o 4 (.mv bF)]
  .ret)
 .skip))
 (sq [o 4 (.mv bT)]
 .ret))))))))
noncomputable def X.l_eqView (p0 : TView) (p1 : TView) : Option Bool :=
 (bif (p0.Side != p1.Side) then some false else (bif (p0.Turn != p1.Turn) then some false else (bif (p0.Weather != p1.Weather) then some false else ((X.l_eqIntS p0.Seen p1.Seen).bind fun v10 => (bif (!v10) then some false else ((X.l_eqUnitS p0.Own p1.Own).bind fun v16 => (bif (!v16) then some false else ((X.l_eqUnitS p0.Enemies p1.Enemies).bind fun v19 => (bif (!v19) then some false else some true)))))))))
theorem l_eqView_ok (p0 : TView) (p1 : TView) (r : Bool) (H : X.l_eqView p0 p1 = some r) : FK 10 [.agg (eTView p0), .agg (eTView p1)] (cB r) := by
 unfold X.l_eqView at H
 refine fi Tryz.f10 l_eqView_ir [(4, cB r)] [] glL Tryz.func10 ?_
 refine so [] [] [(2, pk 2), (3, pk 3)] [(2, va (eTView p0)), (3, va (eTView p1))] id ?_
 refine seq_in ?_
 refine sn [] [] [(9, cB (p0.Side != p1.Side))] [] [] id ?_
 rcases oC H with ⟨c2, H⟩ | ⟨c2, H⟩
 ·refine it c2 ?_
  refine so [] [] [(4, cB false)] [] id ?_
  cases H
  exact er
 ·refine jf c2 ?_
  refine sk ?_
  refine seq_in ?_
  refine sn [] [] [(14, cB (p0.Turn != p1.Turn))] [] [] id ?_
  rcases oC H with ⟨c4, H⟩ | ⟨c4, H⟩
  ·refine it c4 ?_
   refine so [] [] [(4, cB false)] [] id ?_
   cases H
   exact er
  ·refine jf c4 ?_
   refine sk ?_
   refine seq_in ?_
   refine sn [] [] [(19, cB (p0.Weather != p1.Weather))] [] [] id ?_
   rcases oC H with ⟨c6, H⟩ | ⟨c6, H⟩
   ·refine it c6 ?_
    refine so [] [] [(4, cB false)] [] id ?_
    cases H
    exact er
   ·refine jf c6 ?_
    refine sk ?_
    refine seq_in ?_
    obtain ⟨v10, h11, H⟩ := oB H
    refine sn [.res (cB v10)] [] [(25, cB (!v10))] [] [] (aI (l_eqIntS_ok p0.Seen p1.Seen v10 h11)) ?_
    rcases oC H with ⟨c12, H⟩ | ⟨c12, H⟩
    ·refine it c12 ?_
     refine so [] [] [(4, cB false)] [] id ?_
     cases H
     exact er
    ·refine jf c12 ?_
     refine sk ?_
     refine seq_in ?_
     obtain ⟨v16, h17, H⟩ := oB H
     refine sn [.res (cB v16)] [] [(31, cB (!v16))] [] [] (aI (l_eqUnitS_ok p0.Own p1.Own v16 h17)) ?_
     rcases oC H with ⟨c18, H⟩ | ⟨c18, H⟩
     ·refine it c18 ?_
      refine so [] [] [(4, cB false)] [] id ?_
      cases H
      exact er
     ·refine jf c18 ?_
      refine sk ?_
      refine seq_in ?_
      obtain ⟨v19, h20, H⟩ := oB H
      refine so [.res (cB v19)] [] [(37, cB (!v19))] [] (aI (l_eqUnitS_ok p0.Enemies p1.Enemies v19 h20)) ?_
      rcases oC H with ⟨c21, H⟩ | ⟨c21, H⟩
      ·refine it c21 ?_
       refine so [] [] [(4, cB false)] [] id ?_
       cases H
       exact er
      ·refine jf c21 ?_
       refine sk ?_
       refine so [] [] [(4, cB true)] [] id ?_
       cases H
       exact er
def l_eqTerrain_ir : S :=
 (sq [o 2 (.box 5 (.t 0)), o 3 (.box 5 (.t 1)), o 4 (.mv bF)]
 (.seq (sq [oa 5 0 2, ol 6 5, oa 7 0 3, ol 8 7, o 9 (.bin .neq (.t 6) (.t 8))]
 (.ite (.t 9) (sq [o 4 (.mv bF)]
  .ret)
 .skip))
 (.seq (sq [oa 10 1 2, ol 11 10, oa 12 1 3, ol 13 12, o 14 (.call 21 [.t 11, .t 13]), o 15 (.not (.t 14))]
 (.ite (.t 15) (sq [o 4 (.mv bF)]
  .ret)
 .skip))
 (.seq (sq [oa 16 2 2, ol 17 16, oa 18 2 3, ol 19 18, o 20 (.bin .neq (.t 17) (.t 19))]
 (.ite (.t 20) (sq [o 4 (.mv bF)]
  .ret)
 .skip))
 (.seq (sq [oa 21 3 2, ol 22 21, oa 23 3 3, ol 24 23, o 25 (.bin .neq (.t 22) (.t 24))]
 (.ite (.t 25) (sq [o 4 (.mv bF)]
  .ret)
 .skip))
 (.seq (sq [oa 26 4 2, ol 27 26, oa 28 4 3, ol 29 28, o 30 (.bqe true (.t 27) (.t 29))]
 (.ite (.t 30) (sq [o 4 (.mv bF)]
  .ret)
 .skip))
 (sq [o 4 (.mv bT)]
 .ret)))))))
noncomputable def X.l_eqTerrain (p0 : TTerrain) (p1 : TTerrain) : Option Bool :=
 (bif (!(p0.Name == p1.Name)) then some false else ((X.l_eqIntS p0.Cost p1.Cost).bind fun v6 => (bif (!v6) then some false else (bif (p0.Shift != p1.Shift) then some false else (bif (p0.Height != p1.Height) then some false else (bif (!(p0.Blocks == p1.Blocks)) then some false else some true))))))
theorem l_eqTerrain_ok (p0 : TTerrain) (p1 : TTerrain) (r : Bool) (H : X.l_eqTerrain p0 p1 = some r) : FK 157 [.agg (eTTerrain p0), .agg (eTTerrain p1)] (cB r) := by
 unfold X.l_eqTerrain at H
 refine fi Tryz.f157 l_eqTerrain_ir [(4, cB r)] [] glL Tryz.func157 ?_
 refine so [] [] [(2, pk 2), (3, pk 3)] [(2, va (eTTerrain p0)), (3, va (eTTerrain p1))] id ?_
 refine seq_in ?_
 refine sn [] [] [(9, cB (!(p0.Name == p1.Name)))] [] [] id ?_
 rcases oC H with ⟨c2, H⟩ | ⟨c2, H⟩
 ·refine it c2 ?_
  refine so [] [] [(4, cB false)] [] id ?_
  cases H
  exact er
 ·refine jf c2 ?_
  refine sk ?_
  refine seq_in ?_
  obtain ⟨v6, h7, H⟩ := oB H
  refine sn [.res (cB v6)] [] [(15, cB (!v6))] [] [] (aI (l_eqIntS_ok p0.Cost p1.Cost v6 h7)) ?_
  rcases oC H with ⟨c8, H⟩ | ⟨c8, H⟩
  ·refine it c8 ?_
   refine so [] [] [(4, cB false)] [] id ?_
   cases H
   exact er
  ·refine jf c8 ?_
   refine sk ?_
   refine seq_in ?_
   refine sn [] [] [(20, cB (p0.Shift != p1.Shift))] [] [] id ?_
   rcases oC H with ⟨c10, H⟩ | ⟨c10, H⟩
   ·refine it c10 ?_
    refine so [] [] [(4, cB false)] [] id ?_
    cases H
    exact er
   ·refine jf c10 ?_
    refine sk ?_
    refine seq_in ?_
    refine sn [] [] [(25, cB (p0.Height != p1.Height))] [] [] id ?_
    rcases oC H with ⟨c12, H⟩ | ⟨c12, H⟩
    ·refine it c12 ?_
     refine so [] [] [(4, cB false)] [] id ?_
     cases H
     exact er
    ·refine jf c12 ?_
     refine sk ?_
     refine seq_in ?_
     refine so [] [] [(30, cB (!(p0.Blocks == p1.Blocks)))] [] id ?_
     rcases oC H with ⟨c13, H⟩ | ⟨c13, H⟩
     ·refine it c13 ?_
      refine so [] [] [(4, cB false)] [] id ?_
      cases H
      exact er
     ·refine jf c13 ?_
      refine sk ?_
      refine so [] [] [(4, cB true)] [] id ?_
      cases H
      exact er
def l_eqTerrainS_ir : S :=
 (sq [o 4 (.mv bF)]
 (.seq (sq [om 6 0, o 7 (.len (.t 6)), om 8 1, o 9 (.len (.t 8)), o 10 (.bin .neq (.t 7) (.t 9))]
 (.ite (.t 10) (sq [o 4 (.mv bF)]
  .ret)
 .skip))
 (.seq (sq [o 5 (.mv (iv 0))]
 (.blk 0 (.loop (.seq (sq [om 11 5, om 12 0, o 13 (.len (.t 12)), o 14 (.bin .lss (.t 11) (.t 13))]
   (.ite (.t 14) .skip
   (.exit 0)))
   (.seq (.blk 1 (.seq (.drw [(0, 1), (0, 4), (1, 4), (2, 4), (3, 4), (0, 5), (1, 5), (2, 5), (3, 5), (4, 5), (0, 6), (1, 6), (2, 6), (3, 6), (0, 7), (1, 7), (2, 7), (3, 7)] [om 17 0, om 18 5, o 19 (.iad 5 (.t 17) (.t 18)), o 20 (.load 5 true (.t 19)), om 21 1, om 22 5, o 23 (.iad 5 (.t 21) (.t 22)), o 24 (.load 5 true (.t 23)), o 25 (.call 157 [.t 20, .t 24]), o 26 (.not (.t 25))])
    (.ite (.t 26) (sq [o 4 (.mv bF)]
     .ret)
    .skip)))
   (.ops [om 15 5, o 16 (.bin .add (.t 15) (iv 1)), om 5 16]))))))
 (sq [o 4 (.mv bT)]
 .ret))))
noncomputable def X.l_eqTerrainS (p0 : (List TTerrain)) (p1 : (List TTerrain)) : Option Bool :=
 (bif ((p0.length : Int) != (p1.length : Int)) then some false else ((loop (fun (x22 : Int) => ((bif (decide (x22 < (p0.length : Int))) then ((at' zTTerrain p0 x22).bind fun v25 => ((at' zTTerrain p1 x22).bind fun v27 => ((X.l_eqTerrain v25 v27).bind fun v29 => (bif (!v29) then some (Sum.inr (Sum.inr false)) else some (Sum.inl (W (x22 + 1))))))) else some (Sum.inr (Sum.inl ()))) : Option (Int ⊕ (Unit ⊕ Bool)))) 0).bind fun y32 => (Sum.elim (fun (y34 : Unit) => some true) (fun (y35 : Bool) => some y35) y32)))
theorem l_eqTerrainS_ok (p0 : (List TTerrain)) (p1 : (List TTerrain)) (r : Bool) (H : X.l_eqTerrainS p0 p1 = some r) : FK 112 [.c (dat 5 eTTerrain zTTerrain p0), .c (dat 5 eTTerrain zTTerrain p1)] (cB r) := by
 unfold X.l_eqTerrainS at H
 refine fi Tryz.f112 l_eqTerrainS_ir [(4, cB r)] [] glL Tryz.func112 ?_
 refine sn [] [] [] [] [] id ?_
 refine seq_in ?_
 refine sn [] [] [(10, cB ((p0.length : Int) != (p1.length : Int)))] [] [] (fun t => lI p0 (lI p1 (t))) ?_
 rcases oC H with ⟨c2, H⟩ | ⟨c2, H⟩
 ·refine it c2 ?_
  refine so [] [] [(4, cB false)] [] id ?_
  cases H
  exact er
 ·refine jf c2 ?_
  refine sk ?_
  refine seq_in ?_
  refine sn [] [] [(5, cI 0)] [] [] id ?_
  refine ends_blk ?_
  obtain ⟨y32, h33, H⟩ := oB H
  refine tl [] [(0, dc 5 eTTerrain zTTerrain p0), (1, dc 5 eTTerrain zTTerrain p1), (5, cI 0)] [] id ?_
  refine loop_in (fun (x : Int) => lit [(0, dc 5 eTTerrain zTTerrain p0), (1, dc 5 eTTerrain zTTerrain p1), (5, cI x)] []) (orJ (fun (z : Unit) => At (.exit 0) (lit [] [])) (fun (z : Bool) => At .ret (lit [(4, cB z)] []))) h33 ?_ ?_
  ·clear H h33
   intro x22 y0 H
   refine seq_in ?_
   refine sn [] [] [(14, cB (decide (x22 < (p0.length : Int))))] [] [] (fun t => lI p0 (t)) ?_
   rcases oC H with ⟨c24, H⟩ | ⟨c24, H⟩
   ·refine it c24 ?_
    refine sk ?_
    refine seq_in ?_
    refine ends_blk ?_
    obtain ⟨v25, h26, H⟩ := oB H
    obtain ⟨v27, h28, H⟩ := oB H
    obtain ⟨v29, h30, H⟩ := oB H
    refine xn [.cs (eTTerrain v25), .cs (eTTerrain v27), .res (cB v29)] [] [(26, cB (!v29))] [] [] (fun t => (a2 eTTerrain h26 (aI rN ((a2 eTTerrain h28 (aI rN (aI (l_eqTerrain_ok v25 v27 v29 h30) (aI trivial (aI rN (t)))))))))) ?_
    rcases oC H with ⟨c31, H⟩ | ⟨c31, H⟩
    ·refine it c31 ?_
     refine so [] [] [(4, cB false)] [] id ?_
     refine ends_ret ?_
     cases H
     exact rsr
    ·refine jf c31 ?_
     refine sk ?_
     refine oo [] [] [(0, dc 5 eTTerrain zTTerrain p0), (1, dc 5 eTTerrain zTTerrain p1), (5, cI (W (x22 + 1)))] [] id ?_
     cases H
     exact rr
   ·refine jf c24 ?_
    refine tl [] [] [] id ?_
    refine ends_exit ?_
    cases H
    exact rse
  ·clear h33
   cases y32 with
   | inl y34 =>
    replace H := ofInl H
    rintro e s ⟨rfl, rfl⟩
    change EndsI _ _ _ _ _ _
    refine so [] [] [(4, cB true)] [] id ?_
    cases H
    exact er
   | inr y35 =>
    replace H := ofInr H
    rintro e s ⟨rfl, rfl⟩
    cases H
    exact qr
def l_eqKind_ir : S :=
 (sq [o 2 (.box 6 (.t 0)), o 3 (.box 6 (.t 1)), o 4 (.mv bF)]
 (.seq (sq [oa 5 0 2, ol 6 5, oa 7 0 3, ol 8 7, o 9 (.bin .neq (.t 6) (.t 8))]
 (.ite (.t 9) (sq [o 4 (.mv bF)]
  .ret)
 .skip))
 (.seq (sq [oa 10 1 2, ol 11 10, oa 12 1 3, ol 13 12, o 14 (.bin .neq (.t 11) (.t 13))]
 (.ite (.t 14) (sq [o 4 (.mv bF)]
  .ret)
 .skip))
 (.seq (sq [oa 15 2 2, ol 16 15, oa 17 2 3, ol 18 17, o 19 (.bin .neq (.t 16) (.t 18))]
 (.ite (.t 19) (sq [o 4 (.mv bF)]
  .ret)
 .skip))
 (.seq (sq [oa 20 3 2, ol 21 20, oa 22 3 3, ol 23 22, o 24 (.bin .neq (.t 21) (.t 23))]
 (.ite (.t 24) (sq [o 4 (.mv bF)]
  .ret)
 .skip))
 (.seq (sq [oa 25 4 2, ol 26 25, oa 27 4 3, ol 28 27, o 29 (.bqe true (.t 26) (.t 28))]
 (.ite (.t 29) (sq [o 4 (.mv bF)]
  .ret)
 .skip))
 (.seq (sq [oa 30 5 2, ol 31 30, oa 32 5 3, ol 33 32, o 34 (.bin .neq (.t 31) (.t 33))]
 (.ite (.t 34) (sq [o 4 (.mv bF)]
  .ret)
 .skip))
 (sq [o 4 (.mv bT)]
 .ret))))))))
noncomputable def X.l_eqKind (p0 : TKind) (p1 : TKind) : Option Bool :=
 (bif (!(p0.Name == p1.Name)) then some false else (bif (p0.Strength != p1.Strength) then some false else (bif (p0.Moves != p1.Moves) then some false else (bif (p0.Steps != p1.Steps) then some false else (bif (!(p0.Zone == p1.Zone)) then some false else (bif (p0.View != p1.View) then some false else some true))))))
theorem l_eqKind_ok (p0 : TKind) (p1 : TKind) (r : Bool) (H : X.l_eqKind p0 p1 = some r) : FK 158 [.agg (eTKind p0), .agg (eTKind p1)] (cB r) := by
 unfold X.l_eqKind at H
 refine fi Tryz.f158 l_eqKind_ir [(4, cB r)] [] glL Tryz.func158 ?_
 refine so [] [] [(2, pk 2), (3, pk 3)] [(2, va (eTKind p0)), (3, va (eTKind p1))] id ?_
 refine seq_in ?_
 refine sn [] [] [(9, cB (!(p0.Name == p1.Name)))] [] [] id ?_
 rcases oC H with ⟨c2, H⟩ | ⟨c2, H⟩
 ·refine it c2 ?_
  refine so [] [] [(4, cB false)] [] id ?_
  cases H
  exact er
 ·refine jf c2 ?_
  refine sk ?_
  refine seq_in ?_
  refine sn [] [] [(14, cB (p0.Strength != p1.Strength))] [] [] id ?_
  rcases oC H with ⟨c4, H⟩ | ⟨c4, H⟩
  ·refine it c4 ?_
   refine so [] [] [(4, cB false)] [] id ?_
   cases H
   exact er
  ·refine jf c4 ?_
   refine sk ?_
   refine seq_in ?_
   refine sn [] [] [(19, cB (p0.Moves != p1.Moves))] [] [] id ?_
   rcases oC H with ⟨c6, H⟩ | ⟨c6, H⟩
   ·refine it c6 ?_
    refine so [] [] [(4, cB false)] [] id ?_
    cases H
    exact er
   ·refine jf c6 ?_
    refine sk ?_
    refine seq_in ?_
    refine sn [] [] [(24, cB (p0.Steps != p1.Steps))] [] [] id ?_
    rcases oC H with ⟨c8, H⟩ | ⟨c8, H⟩
    ·refine it c8 ?_
     refine so [] [] [(4, cB false)] [] id ?_
     cases H
     exact er
    ·refine jf c8 ?_
     refine sk ?_
     refine seq_in ?_
     refine sn [] [] [(29, cB (!(p0.Zone == p1.Zone)))] [] [] id ?_
     rcases oC H with ⟨c10, H⟩ | ⟨c10, H⟩
     ·refine it c10 ?_
      refine so [] [] [(4, cB false)] [] id ?_
      cases H
      exact er
     ·refine jf c10 ?_
      refine sk ?_
      refine seq_in ?_
      refine so [] [] [(34, cB (p0.View != p1.View))] [] id ?_
      rcases oC H with ⟨c11, H⟩ | ⟨c11, H⟩
      ·refine it c11 ?_
       refine so [] [] [(4, cB false)] [] id ?_
       cases H
       exact er
      ·refine jf c11 ?_
       refine sk ?_
       refine so [] [] [(4, cB true)] [] id ?_
       cases H
       exact er
def l_eqKindS_ir : S :=
 (sq [o 4 (.mv bF)]
 (.seq (sq [om 6 0, o 7 (.len (.t 6)), om 8 1, o 9 (.len (.t 8)), o 10 (.bin .neq (.t 7) (.t 9))]
 (.ite (.t 10) (sq [o 4 (.mv bF)]
  .ret)
 .skip))
 (.seq (sq [o 5 (.mv (iv 0))]
 (.blk 0 (.loop (.seq (sq [om 11 5, om 12 0, o 13 (.len (.t 12)), o 14 (.bin .lss (.t 11) (.t 13))]
   (.ite (.t 14) .skip
   (.exit 0)))
   (.seq (.blk 1 (.seq (.drw [(0, 1), (0, 4), (1, 4), (2, 4), (3, 4), (0, 5), (1, 5), (2, 5), (3, 5), (4, 5), (0, 6), (1, 6), (2, 6), (3, 6), (0, 7), (1, 7), (2, 7), (3, 7)] [om 17 0, om 18 5, o 19 (.iad 6 (.t 17) (.t 18)), o 20 (.load 6 true (.t 19)), om 21 1, om 22 5, o 23 (.iad 6 (.t 21) (.t 22)), o 24 (.load 6 true (.t 23)), o 25 (.call 158 [.t 20, .t 24]), o 26 (.not (.t 25))])
    (.ite (.t 26) (sq [o 4 (.mv bF)]
     .ret)
    .skip)))
   (.ops [om 15 5, o 16 (.bin .add (.t 15) (iv 1)), om 5 16]))))))
 (sq [o 4 (.mv bT)]
 .ret))))
noncomputable def X.l_eqKindS (p0 : (List TKind)) (p1 : (List TKind)) : Option Bool :=
 (bif ((p0.length : Int) != (p1.length : Int)) then some false else ((loop (fun (x22 : Int) => ((bif (decide (x22 < (p0.length : Int))) then ((at' zTKind p0 x22).bind fun v25 => ((at' zTKind p1 x22).bind fun v27 => ((X.l_eqKind v25 v27).bind fun v29 => (bif (!v29) then some (Sum.inr (Sum.inr false)) else some (Sum.inl (W (x22 + 1))))))) else some (Sum.inr (Sum.inl ()))) : Option (Int ⊕ (Unit ⊕ Bool)))) 0).bind fun y32 => (Sum.elim (fun (y34 : Unit) => some true) (fun (y35 : Bool) => some y35) y32)))
theorem l_eqKindS_ok (p0 : (List TKind)) (p1 : (List TKind)) (r : Bool) (H : X.l_eqKindS p0 p1 = some r) : FK 113 [.c (dat 6 eTKind zTKind p0), .c (dat 6 eTKind zTKind p1)] (cB r) := by
 unfold X.l_eqKindS at H
 refine fi Tryz.f113 l_eqKindS_ir [(4, cB r)] [] glL Tryz.func113 ?_
 refine sn [] [] [] [] [] id ?_
 refine seq_in ?_
 refine sn [] [] [(10, cB ((p0.length : Int) != (p1.length : Int)))] [] [] (fun t => lI p0 (lI p1 (t))) ?_
 rcases oC H with ⟨c2, H⟩ | ⟨c2, H⟩
 ·refine it c2 ?_
  refine so [] [] [(4, cB false)] [] id ?_
  cases H
  exact er
 ·refine jf c2 ?_
  refine sk ?_
  refine seq_in ?_
  refine sn [] [] [(5, cI 0)] [] [] id ?_
  refine ends_blk ?_
  obtain ⟨y32, h33, H⟩ := oB H
  refine tl [] [(0, dc 6 eTKind zTKind p0), (1, dc 6 eTKind zTKind p1), (5, cI 0)] [] id ?_
  refine loop_in (fun (x : Int) => lit [(0, dc 6 eTKind zTKind p0), (1, dc 6 eTKind zTKind p1), (5, cI x)] []) (orJ (fun (z : Unit) => At (.exit 0) (lit [] [])) (fun (z : Bool) => At .ret (lit [(4, cB z)] []))) h33 ?_ ?_
  ·clear H h33
   intro x22 y0 H
   refine seq_in ?_
   refine sn [] [] [(14, cB (decide (x22 < (p0.length : Int))))] [] [] (fun t => lI p0 (t)) ?_
   rcases oC H with ⟨c24, H⟩ | ⟨c24, H⟩
   ·refine it c24 ?_
    refine sk ?_
    refine seq_in ?_
    refine ends_blk ?_
    obtain ⟨v25, h26, H⟩ := oB H
    obtain ⟨v27, h28, H⟩ := oB H
    obtain ⟨v29, h30, H⟩ := oB H
    refine xn [.cs (eTKind v25), .cs (eTKind v27), .res (cB v29)] [] [(26, cB (!v29))] [] [] (fun t => (a2 eTKind h26 (aI rN ((a2 eTKind h28 (aI rN (aI (l_eqKind_ok v25 v27 v29 h30) (aI trivial (aI rN (t)))))))))) ?_
    rcases oC H with ⟨c31, H⟩ | ⟨c31, H⟩
    ·refine it c31 ?_
     refine so [] [] [(4, cB false)] [] id ?_
     refine ends_ret ?_
     cases H
     exact rsr
    ·refine jf c31 ?_
     refine sk ?_
     refine oo [] [] [(0, dc 6 eTKind zTKind p0), (1, dc 6 eTKind zTKind p1), (5, cI (W (x22 + 1)))] [] id ?_
     cases H
     exact rr
   ·refine jf c24 ?_
    refine tl [] [] [] id ?_
    refine ends_exit ?_
    cases H
    exact rse
  ·clear h33
   cases y32 with
   | inl y34 =>
    replace H := ofInl H
    rintro e s ⟨rfl, rfl⟩
    change EndsI _ _ _ _ _ _
    refine so [] [] [(4, cB true)] [] id ?_
    cases H
    exact er
   | inr y35 =>
    replace H := ofInr H
    rintro e s ⟨rfl, rfl⟩
    cases H
    exact qr
def l_eqRules_ir : S :=
 (sq [o 2 (.box 7 (.t 0)), o 3 (.box 7 (.t 1)), o 4 (.mv bF)]
 (.seq (sq [oa 5 0 2, ol 6 5, oa 7 0 3, ol 8 7, o 9 (.call 112 [.t 6, .t 8]), o 10 (.not (.t 9))]
 (.ite (.t 10) (sq [o 4 (.mv bF)]
  .ret)
 .skip))
 (.seq (sq [oa 11 1 2, ol 12 11, oa 13 1 3, ol 14 13, o 15 (.call 113 [.t 12, .t 14]), o 16 (.not (.t 15))]
 (.ite (.t 16) (sq [o 4 (.mv bF)]
  .ret)
 .skip))
 (.seq (sq [oa 17 2 2, ol 18 17, oa 19 2 3, ol 20 19, o 21 (.bin .neq (.t 18) (.t 20))]
 (.ite (.t 21) (sq [o 4 (.mv bF)]
  .ret)
 .skip))
 (.seq (sq [oa 22 3 2, ol 23 22, oa 24 3 3, ol 25 24, o 26 (.bin .neq (.t 23) (.t 25))]
 (.ite (.t 26) (sq [o 4 (.mv bF)]
  .ret)
 .skip))
 (.seq (sq [oa 27 4 2, ol 28 27, oa 29 4 3, ol 30 29, o 31 (.bin .neq (.t 28) (.t 30))]
 (.ite (.t 31) (sq [o 4 (.mv bF)]
  .ret)
 .skip))
 (.seq (sq [oa 32 5 2, ol 33 32, oa 34 5 3, ol 35 34, o 36 (.bin .neq (.t 33) (.t 35))]
 (.ite (.t 36) (sq [o 4 (.mv bF)]
  .ret)
 .skip))
 (.seq (sq [oa 37 6 2, ol 38 37, oa 39 6 3, ol 40 39, o 41 (.bin .neq (.t 38) (.t 40))]
 (.ite (.t 41) (sq [o 4 (.mv bF)]
  .ret)
 .skip))
 (sq [o 4 (.mv bT)]
 .ret)))))))))
noncomputable def X.l_eqRules (p0 : TRules) (p1 : TRules) : Option Bool :=
 ((X.l_eqTerrainS p0.Terrains p1.Terrains).bind fun v4 => (bif (!v4) then some false else ((X.l_eqKindS p0.Kinds p1.Kinds).bind fun v10 => (bif (!v10) then some false else (bif (p0.Stack != p1.Stack) then some false else (bif (p0.River != p1.River) then some false else (bif (p0.Road != p1.Road) then some false else (bif (p0.Supply != p1.Supply) then some false else (bif (p0.Turns != p1.Turns) then some false else some true)))))))))
theorem l_eqRules_ok (p0 : TRules) (p1 : TRules) (r : Bool) (H : X.l_eqRules p0 p1 = some r) : FK 46 [.agg (eTRules p0), .agg (eTRules p1)] (cB r) := by
 unfold X.l_eqRules at H
 refine fi Tryz.f46 l_eqRules_ir [(4, cB r)] [] glL Tryz.func46 ?_
 refine so [] [] [(2, pk 2), (3, pk 3)] [(2, va (eTRules p0)), (3, va (eTRules p1))] id ?_
 refine seq_in ?_
 obtain ⟨v4, h5, H⟩ := oB H
 refine sn [.res (cB v4)] [] [(10, cB (!v4))] [] [] (aI (l_eqTerrainS_ok p0.Terrains p1.Terrains v4 h5)) ?_
 rcases oC H with ⟨c6, H⟩ | ⟨c6, H⟩
 ·refine it c6 ?_
  refine so [] [] [(4, cB false)] [] id ?_
  cases H
  exact er
 ·refine jf c6 ?_
  refine sk ?_
  refine seq_in ?_
  obtain ⟨v10, h11, H⟩ := oB H
  refine sn [.res (cB v10)] [] [(16, cB (!v10))] [] [] (aI (l_eqKindS_ok p0.Kinds p1.Kinds v10 h11)) ?_
  rcases oC H with ⟨c12, H⟩ | ⟨c12, H⟩
  ·refine it c12 ?_
   refine so [] [] [(4, cB false)] [] id ?_
   cases H
   exact er
  ·refine jf c12 ?_
   refine sk ?_
   refine seq_in ?_
   refine sn [] [] [(21, cB (p0.Stack != p1.Stack))] [] [] id ?_
   rcases oC H with ⟨c14, H⟩ | ⟨c14, H⟩
   ·refine it c14 ?_
    refine so [] [] [(4, cB false)] [] id ?_
    cases H
    exact er
   ·refine jf c14 ?_
    refine sk ?_
    refine seq_in ?_
    refine sn [] [] [(26, cB (p0.River != p1.River))] [] [] id ?_
    rcases oC H with ⟨c16, H⟩ | ⟨c16, H⟩
    ·refine it c16 ?_
     refine so [] [] [(4, cB false)] [] id ?_
     cases H
     exact er
    ·refine jf c16 ?_
     refine sk ?_
     refine seq_in ?_
     refine sn [] [] [(31, cB (p0.Road != p1.Road))] [] [] id ?_
     rcases oC H with ⟨c18, H⟩ | ⟨c18, H⟩
     ·refine it c18 ?_
      refine so [] [] [(4, cB false)] [] id ?_
      cases H
      exact er
     ·refine jf c18 ?_
      refine sk ?_
      refine seq_in ?_
      refine sn [] [] [(36, cB (p0.Supply != p1.Supply))] [] [] id ?_
      rcases oC H with ⟨c20, H⟩ | ⟨c20, H⟩
      ·refine it c20 ?_
       refine so [] [] [(4, cB false)] [] id ?_
       cases H
       exact er
      ·refine jf c20 ?_
       refine sk ?_
       refine seq_in ?_
       refine so [] [] [(41, cB (p0.Turns != p1.Turns))] [] id ?_
       rcases oC H with ⟨c21, H⟩ | ⟨c21, H⟩
       ·refine it c21 ?_
        refine so [] [] [(4, cB false)] [] id ?_
        cases H
        exact er
       ·refine jf c21 ?_
        refine sk ?_
        refine so [] [] [(4, cB true)] [] id ?_
        cases H
        exact er
def l_eqMap_ir : S :=
 (sq [o 2 (.box 5 (.t 0)), o 3 (.box 5 (.t 1)), o 4 (.mv bF)]
 (.seq (sq [oa 5 0 2, ol 6 5, oa 7 0 3, ol 8 7, o 9 (.bin .neq (.t 6) (.t 8))]
 (.ite (.t 9) (sq [o 4 (.mv bF)]
  .ret)
 .skip))
 (.seq (sq [oa 10 1 2, ol 11 10, oa 12 1 3, ol 13 12, o 14 (.bin .neq (.t 11) (.t 13))]
 (.ite (.t 14) (sq [o 4 (.mv bF)]
  .ret)
 .skip))
 (.seq (sq [oa 15 2 2, ol 16 15, oa 17 2 3, ol 18 17, o 19 (.call 21 [.t 16, .t 18]), o 20 (.not (.t 19))]
 (.ite (.t 20) (sq [o 4 (.mv bF)]
  .ret)
 .skip))
 (.seq (sq [oa 21 3 2, ol 22 21, oa 23 3 3, ol 24 23, o 25 (.call 21 [.t 22, .t 24]), o 26 (.not (.t 25))]
 (.ite (.t 26) (sq [o 4 (.mv bF)]
  .ret)
 .skip))
 (.seq (sq [oa 27 4 2, ol 28 27, oa 29 4 3, ol 30 29, o 31 (.call 21 [.t 28, .t 30]), o 32 (.not (.t 31))]
 (.ite (.t 32) (sq [o 4 (.mv bF)]
  .ret)
 .skip))
 (sq [o 4 (.mv bT)]
 .ret)))))))
noncomputable def X.l_eqMap (p0 : TMap) (p1 : TMap) : Option Bool :=
 (bif (p0.Width != p1.Width) then some false else (bif (p0.Height != p1.Height) then some false else ((X.l_eqIntS p0.Terrain p1.Terrain).bind fun v8 => (bif (!v8) then some false else ((X.l_eqIntS p0.Rivers p1.Rivers).bind fun v14 => (bif (!v14) then some false else ((X.l_eqIntS p0.Roads p1.Roads).bind fun v17 => (bif (!v17) then some false else some true))))))))
theorem l_eqMap_ok (p0 : TMap) (p1 : TMap) (r : Bool) (H : X.l_eqMap p0 p1 = some r) : FK 47 [.agg (eTMap p0), .agg (eTMap p1)] (cB r) := by
 unfold X.l_eqMap at H
 refine fi Tryz.f47 l_eqMap_ir [(4, cB r)] [] glL Tryz.func47 ?_
 refine so [] [] [(2, pk 2), (3, pk 3)] [(2, va (eTMap p0)), (3, va (eTMap p1))] id ?_
 refine seq_in ?_
 refine sn [] [] [(9, cB (p0.Width != p1.Width))] [] [] id ?_
 rcases oC H with ⟨c2, H⟩ | ⟨c2, H⟩
 ·refine it c2 ?_
  refine so [] [] [(4, cB false)] [] id ?_
  cases H
  exact er
 ·refine jf c2 ?_
  refine sk ?_
  refine seq_in ?_
  refine sn [] [] [(14, cB (p0.Height != p1.Height))] [] [] id ?_
  rcases oC H with ⟨c4, H⟩ | ⟨c4, H⟩
  ·refine it c4 ?_
   refine so [] [] [(4, cB false)] [] id ?_
   cases H
   exact er
  ·refine jf c4 ?_
   refine sk ?_
   refine seq_in ?_
   obtain ⟨v8, h9, H⟩ := oB H
   refine sn [.res (cB v8)] [] [(20, cB (!v8))] [] [] (aI (l_eqIntS_ok p0.Terrain p1.Terrain v8 h9)) ?_
   rcases oC H with ⟨c10, H⟩ | ⟨c10, H⟩
   ·refine it c10 ?_
    refine so [] [] [(4, cB false)] [] id ?_
    cases H
    exact er
   ·refine jf c10 ?_
    refine sk ?_
    refine seq_in ?_
    obtain ⟨v14, h15, H⟩ := oB H
    refine sn [.res (cB v14)] [] [(26, cB (!v14))] [] [] (aI (l_eqIntS_ok p0.Rivers p1.Rivers v14 h15)) ?_
    rcases oC H with ⟨c16, H⟩ | ⟨c16, H⟩
    ·refine it c16 ?_
     refine so [] [] [(4, cB false)] [] id ?_
     cases H
     exact er
    ·refine jf c16 ?_
     refine sk ?_
     refine seq_in ?_
     obtain ⟨v17, h18, H⟩ := oB H
     refine so [.res (cB v17)] [] [(32, cB (!v17))] [] (aI (l_eqIntS_ok p0.Roads p1.Roads v17 h18)) ?_
     rcases oC H with ⟨c19, H⟩ | ⟨c19, H⟩
     ·refine it c19 ?_
      refine so [] [] [(4, cB false)] [] id ?_
      cases H
      exact er
     ·refine jf c19 ?_
      refine sk ?_
      refine so [] [] [(4, cB true)] [] id ?_
      cases H
      exact er
def l_eqBoard_ir : S :=
 (sq [o 2 (.box 12 (.t 0)), o 3 (.box 12 (.t 1)), o 4 (.mv bF)]
 (.seq (sq [oa 5 0 2, o 6 (.load 7 true (.t 5)), oa 7 0 3, o 8 (.load 7 true (.t 7)), o 9 (.call 46 [.t 6, .t 8]), o 10 (.not (.t 9))]
 (.ite (.t 10) (sq [o 4 (.mv bF)]
  .ret)
 .skip))
 (.seq (sq [oa 11 7 2, o 12 (.load 5 true (.t 11)), oa 13 7 3, o 14 (.load 5 true (.t 13)), o 15 (.call 47 [.t 12, .t 14]), o 16 (.not (.t 15))]
 (.ite (.t 16) (sq [o 4 (.mv bF)]
  .ret)
 .skip))
 (sq [o 4 (.mv bT)]
 .ret))))
noncomputable def X.l_eqBoard (p0 : TBoard) (p1 : TBoard) : Option Bool :=
 ((X.l_eqRules p0.Rules p1.Rules).bind fun v4 => (bif (!v4) then some false else ((X.l_eqMap p0.Map p1.Map).bind fun v7 => (bif (!v7) then some false else some true))))
theorem l_eqBoard_ok (p0 : TBoard) (p1 : TBoard) (r : Bool) (H : X.l_eqBoard p0 p1 = some r) : FK 11 [.agg (eTBoard p0), .agg (eTBoard p1)] (cB r) := by
 unfold X.l_eqBoard at H
 refine fi Tryz.f11 l_eqBoard_ir [(4, cB r)] [] glL Tryz.func11 ?_
 refine so [] [] [(2, pk 2), (3, pk 3)] [(2, va (eTBoard p0)), (3, va (eTBoard p1))] id ?_
 refine seq_in ?_
 obtain ⟨v4, h5, H⟩ := oB H
 refine sn [.res (cB v4)] [] [(10, cB (!v4))] [] [] (aI (l_eqRules_ok p0.Rules p1.Rules v4 h5)) ?_
 rcases oC H with ⟨c6, H⟩ | ⟨c6, H⟩
 ·refine it c6 ?_
  refine so [] [] [(4, cB false)] [] id ?_
  cases H
  exact er
 ·refine jf c6 ?_
  refine sk ?_
  refine seq_in ?_
  obtain ⟨v7, h8, H⟩ := oB H
  refine so [.res (cB v7)] [] [(16, cB (!v7))] [] (aI (l_eqMap_ok p0.Map p1.Map v7 h8)) ?_
  rcases oC H with ⟨c9, H⟩ | ⟨c9, H⟩
  ·refine it c9 ?_
   refine so [] [] [(4, cB false)] [] id ?_
   cases H
   exact er
  ·refine jf c9 ?_
   refine sk ?_
   refine so [] [] [(4, cB true)] [] id ?_
   cases H
   exact er
def l_markIntS_ir : S :=
 (sq [o 4 (.mv (iv 0))]
 (.seq (sq [o 5 (.mv (iv 0))]
 (.blk 0 (.loop (.seq (sq [om 6 5, om 7 0, o 8 (.len (.t 7)), o 9 (.bin .lss (.t 6) (.t 8))]
   (.ite (.t 9) .skip
   (.exit 0)))
   (.seq (.blk 1 (sq [om 12 0, om 13 5, om 14 1, o 15 (.iad 1 (.t 12) (.t 13)), os 1 15 14]
    (.ops [om 16 1, o 17 (.bin .add (.t 16) (iv 1)), om 1 17])))
   (.ops [om 10 5, o 11 (.bin .add (.t 10) (iv 1)), om 5 11]))))))
 (sq [om 18 1, om 4 18]
 .ret)))
noncomputable def X.l_markIntS_L (p0 : (List Int)) (p1 : Int) : Option Int :=
 ((loop (fun (x10 : (Int × Int)) => ((bif (decide (x10.2 < (p0.length : Int))) then ((at' zI p0 x10.2).bind fun v13 => some (Sum.inl ((W (x10.1 + 1)), (W (x10.2 + 1))))) else some (Sum.inr x10.1)) : Option ((Int × Int) ⊕ Int))) (p1, 0)).bind fun y15 => some y15)
theorem l_markIntS_L_ok (p0 : (List Int)) (p1 : Int) (r : Int) (H : X.l_markIntS_L p0 p1 = some r) : FK 23 [.c (.lv (dat 1 eI zI p0)), cI p1] (cI r) := by
 unfold X.l_markIntS_L at H
 refine fi Tryz.f23 l_markIntS_ir [(4, cI r)] [] glL Tryz.func23 ?_
 refine sn [] [] [] [] [] id ?_
 refine seq_in ?_
 refine sn [] [] [(5, cI 0)] [] [] id ?_
 refine ends_blk ?_
 obtain ⟨y15, h16, H⟩ := oB H
 refine tl [] [(0, .c (.lv (dat 1 eI zI p0))), (1, cI p1), (5, cI 0)] [] id ?_
 refine loop_in (fun (x : (Int × Int)) => lit [(0, .c (.lv (dat 1 eI zI p0))), (1, cI x.1), (5, cI x.2)] []) (fun (z : Int) => At (.exit 0) (lit [(1, cI z)] [])) h16 ?_ ?_
 ·clear H h16
  intro x10 y0 H
  refine seq_in ?_
  refine sn [] [] [(9, cB (decide (x10.2 < (p0.length : Int))))] [] [] (fun t => lI p0 (t)) ?_
  rcases oC H with ⟨c12, H⟩ | ⟨c12, H⟩
  ·refine it c12 ?_
   refine sk ?_
   refine seq_in ?_
   refine ends_blk ?_
   obtain ⟨v13, h14, H⟩ := oB H
   refine sn [.cs (eI v13)] [] [] [] [] (fun t => (a2 eI h14 (aI rT (t)))) ?_
   refine oo [] [] [(0, .c (.lv (dat 1 eI zI p0))), (1, cI (W (x10.1 + 1))), (5, cI x10.2)] [] id ?_
   change EndsI _ _ _ _ _ _
   refine oo [] [] [(0, .c (.lv (dat 1 eI zI p0))), (1, cI (W (x10.1 + 1))), (5, cI (W (x10.2 + 1)))] [] id ?_
   cases H
   exact rr
  ·refine jf c12 ?_
   refine tl [] [(1, cI x10.1)] [] id ?_
   refine ends_exit ?_
   cases H
   exact rse
 ·clear h16
  rintro e s ⟨rfl, rfl⟩
  change EndsI _ _ _ _ _ _
  refine so [] [] [(4, cI y15)] [] id ?_
  cases H
  exact er
def l_markText_ir : S :=
 (sq [o 2 (.mv (.v (.str [])))]
 (.seq (sq [om 4 0, o 5 (.bin .leq (.t 4) (iv 0))]
 (.ite (.t 5) (sq [o 2 (.mv (.v (.str [109, 48])))]
  .ret)
 .skip))
 (sq [o 3 (.mv (.v (.str [])))]
 (.seq (.blk 0 (.loop (.seq (sq [om 6 0, o 7 (.bin .gtr (.t 6) (iv 0))]
   (.ite (.t 7) .skip
   (.exit 0)))
   (.blk 1 (sq [om 8 0, o 9 (.bin .rem (.t 8) (iv 10)), o 10 (.bin .add (iv 48) (.t 9)), o 11 (.conv .u8 (.t 10)), o 12 (.bsl 1 [.t 11]), o 13 (.b2s (.t 12)), om 14 3, o 15 (.bin .add (.t 13) (.t 14)), om 3 15]
    (.ops [om 16 0, o 17 (.bin .quo (.t 16) (iv 10)), om 0 17]))))))
 (sq [om 18 3, o 19 (.bin .add (.v (.str [109])) (.t 18)), om 2 19]
 .ret)))))
noncomputable def X.l_markText (p0 : Int) : Option (List UInt8) :=
 (bif (decide (p0 ≤ 0)) then some [109, 48] else ((loop (fun (x12 : (Int × (List UInt8))) => ((bif (decide (x12.1 > 0)) then (if ([(IntKind.u8.wrap (W (48 + (Int.tmod x12.1 10))))] : List Int).all inU8 = true then (if (bytesOf ([(IntKind.u8.wrap (W (48 + (Int.tmod x12.1 10))))] : List Int)).length + x12.2.length ≤ maxLen then some (Sum.inl ((W (Int.tdiv x12.1 10)), ((bytesOf ([(IntKind.u8.wrap (W (48 + (Int.tmod x12.1 10))))] : List Int)) ++ x12.2))) else none) else none) else some (Sum.inr x12.2)) : Option ((Int × (List UInt8)) ⊕ (List UInt8)))) (p0, [])).bind fun y17 => (if ([109] : List UInt8).length + y17.length ≤ maxLen then some (([109] : List UInt8) ++ y17) else none)))
theorem l_markText_ok (p0 : Int) (r : (List UInt8)) (H : X.l_markText p0 = some r) : FK 159 [cI p0] (.c (.str r)) := by
 unfold X.l_markText at H
 refine fi Tryz.f159 l_markText_ir [(2, .c (.str r))] [] glL Tryz.func159 ?_
 refine sn [] [] [] [] [] id ?_
 refine seq_in ?_
 refine sn [] [] [(5, cB (decide (p0 ≤ 0)))] [] [] id ?_
 rcases oC H with ⟨c2, H⟩ | ⟨c2, H⟩
 ·refine it c2 ?_
  refine so [] [] [(2, .c (.str [109, 48]))] [] id ?_
  cases H
  exact er
 ·refine jf c2 ?_
  refine sk ?_
  refine sn [] [] [(3, .c (.str []))] [] [] id ?_
  refine seq_in ?_
  refine ends_blk ?_
  obtain ⟨y17, h18, H⟩ := oB H
  refine tl [] [(0, cI p0), (3, .c (.str []))] [] id ?_
  refine loop_in (fun (x : (Int × (List UInt8))) => lit [(0, cI x.1), (3, .c (.str x.2))] []) (fun (z : (List UInt8)) => At (.exit 0) (lit [(3, .c (.str z))] [])) h18 ?_ ?_
  ·clear H h18
   intro x12 y0 H
   refine seq_in ?_
   refine sn [] [] [(7, cB (decide (x12.1 > 0)))] [] [] id ?_
   rcases oC H with ⟨c14, H⟩ | ⟨c14, H⟩
   ·refine it c14 ?_
    refine sk ?_
    refine ends_blk ?_
    obtain ⟨g15, H⟩ := oI H
    obtain ⟨g16, H⟩ := oI H
    refine so [fh eU zI ([(IntKind.u8.wrap (W (48 + (Int.tmod x12.1 10))))] : List Int), .str (bytesOf ([(IntKind.u8.wrap (W (48 + (Int.tmod x12.1 10))))] : List Int))] [] [(0, cI x12.1), (3, .c (.str ((bytesOf ([(IntKind.u8.wrap (W (48 + (Int.tmod x12.1 10))))] : List Int)) ++ x12.2)))] [] (fun t => aI (by decide : (10 : Int) ≠ 0) (aI (rfl : ([(IntKind.u8.wrap (W (48 + (Int.tmod x12.1 10))))] : List Int).length = 1) (aI (fF_lit eU zI ([(IntKind.u8.wrap (W (48 + (Int.tmod x12.1 10))))] : List Int)) (aI (Nat.le_refl (([(IntKind.u8.wrap (W (48 + (Int.tmod x12.1 10))))] : List Int).length)) (aI (bytesOf_len ([(IntKind.u8.wrap (W (48 + (Int.tmod x12.1 10))))] : List Int)) (aI (bytesOf_at ([(IntKind.u8.wrap (W (48 + (Int.tmod x12.1 10))))] : List Int) g15) (aI g16 (t)))))))) ?_
    refine oo [] [] [(0, cI (W (Int.tdiv x12.1 10))), (3, .c (.str ((bytesOf ([(IntKind.u8.wrap (W (48 + (Int.tmod x12.1 10))))] : List Int)) ++ x12.2)))] [] (aI (by decide : (10 : Int) ≠ 0)) ?_
    cases H
    exact rr
   ·refine jf c14 ?_
    refine tl [] [(3, .c (.str x12.2))] [] id ?_
    refine ends_exit ?_
    cases H
    exact rse
  ·clear h18
   rintro e s ⟨rfl, rfl⟩
   change EndsI _ _ _ _ _ _
   obtain ⟨g19, H⟩ := oI H
   refine so [] [] [(2, .c (.str (([109] : List UInt8) ++ y17)))] [] (fun t => aI g19 (t)) ?_
   cases H
   exact er
def l_markTerrainS_ir : S :=
 (sq [o 4 (.mv (iv 0))]
 (.seq (sq [o 5 (.mv (iv 0))]
 (.blk 0 (.loop (.seq (sq [om 6 5, om 7 0, o 8 (.len (.t 7)), o 9 (.bin .lss (.t 6) (.t 8))]
   (.ite (.t 9) .skip
   (.exit 0)))
   (.seq (.blk 1 (sq [om 12 0, om 13 5, om 14 1, o 15 (.call 159 [.t 14]), o 16 (.iad 5 (.t 12) (.t 13)), oa 17 0 16, os 1 17 15]
    (sq [om 18 1, o 19 (.bin .add (.t 18) (iv 1)), om 1 19]
    (sq [om 20 0, om 21 5, o 22 (.iad 5 (.t 20) (.t 21)), oa 23 1 22, ol 24 23, om 25 1, o 26 (.call 23 [.t 24, .t 25]), om 1 26]
    (sq [om 27 0, om 28 5, om 29 1, o 30 (.iad 5 (.t 27) (.t 28)), oa 31 2 30, os 1 31 29]
    (sq [om 32 1, o 33 (.bin .add (.t 32) (iv 1)), om 1 33]
    (sq [om 34 0, om 35 5, om 36 1, o 37 (.iad 5 (.t 34) (.t 35)), oa 38 3 37, os 1 38 36]
    (sq [om 39 1, o 40 (.bin .add (.t 39) (iv 1)), om 1 40]
    (sq [om 41 0, om 42 5, om 43 1, o 44 (.bin .rem (.t 43) (iv 3)), o 45 (.bin .eql (.t 44) (iv 0)), o 46 (.iad 5 (.t 41) (.t 42)), oa 47 4 46, os 1 47 45]
    (.ops [om 48 1, o 49 (.bin .add (.t 48) (iv 1)), om 1 49]))))))))))
   (.ops [om 10 5, o 11 (.bin .add (.t 10) (iv 1)), om 5 11]))))))
 (sq [om 50 1, om 4 50]
 .ret)))
noncomputable def X.l_markTerrainS_L (p0 : (List TTerrain)) (p1 : Int) : Option Int :=
 ((loop (fun (x18 : (Int × Int)) => ((bif (decide (x18.2 < (p0.length : Int))) then ((X.l_markText x18.1).bind fun v21 => ((at' zTTerrain p0 x18.2).bind fun v23 => ((X.l_markIntS_L v23.Cost (W (x18.1 + 1))).bind fun v25 => some (Sum.inl ((W ((W ((W (v25 + 1)) + 1)) + 1)), (W (x18.2 + 1))))))) else some (Sum.inr x18.1)) : Option ((Int × Int) ⊕ Int))) (p1, 0)).bind fun y27 => some y27)
theorem l_markTerrainS_L_ok (p0 : (List TTerrain)) (p1 : Int) (r : Int) (H : X.l_markTerrainS_L p0 p1 = some r) : FK 114 [.c (.lv (dat 5 eTTerrain zTTerrain p0)), cI p1] (cI r) := by
 unfold X.l_markTerrainS_L at H
 refine fi Tryz.f114 l_markTerrainS_ir [(4, cI r)] [] glL Tryz.func114 ?_
 refine sn [] [] [] [] [] id ?_
 refine seq_in ?_
 refine sn [] [] [(5, cI 0)] [] [] id ?_
 refine ends_blk ?_
 obtain ⟨y27, h28, H⟩ := oB H
 refine tl [] [(0, .c (.lv (dat 5 eTTerrain zTTerrain p0))), (1, cI p1), (5, cI 0)] [] id ?_
 refine loop_in (fun (x : (Int × Int)) => lit [(0, .c (.lv (dat 5 eTTerrain zTTerrain p0))), (1, cI x.1), (5, cI x.2)] []) (fun (z : Int) => At (.exit 0) (lit [(1, cI z)] [])) h28 ?_ ?_
 ·clear H h28
  intro x18 y0 H
  refine seq_in ?_
  refine sn [] [] [(9, cB (decide (x18.2 < (p0.length : Int))))] [] [] (fun t => lI p0 (t)) ?_
  rcases oC H with ⟨c20, H⟩ | ⟨c20, H⟩
  ·refine it c20 ?_
   refine sk ?_
   refine seq_in ?_
   refine ends_blk ?_
   obtain ⟨v21, h22, H⟩ := oB H
   obtain ⟨v23, h24, H⟩ := oB H
   refine sn [.res (.c (.str v21)), .cs (eTTerrain v23)] [] [] [] [] (fun t => aI (l_markText_ok x18.1 v21 h22) ((a2 eTTerrain h24 (aI rT (t))))) ?_
   refine so [] [] [(0, .c (.lv (dat 5 eTTerrain zTTerrain p0))), (1, cI (W (x18.1 + 1))), (5, cI x18.2)] [] id ?_
   obtain ⟨v25, h26, H⟩ := oB H
   refine so [.cs (eTTerrain v23), .res (cI v25)] [] [(0, .c (.lv (dat 5 eTTerrain zTTerrain p0))), (1, cI v25), (5, cI x18.2)] [] (fun t => (a2 eTTerrain h24 (aI (l_markIntS_L_ok v23.Cost (W (x18.1 + 1)) v25 h26) (t)))) ?_
   refine sn [.cs (eTTerrain v23)] [] [] [] [] (fun t => (a2 eTTerrain h24 (aI rT (t)))) ?_
   refine so [] [] [(0, .c (.lv (dat 5 eTTerrain zTTerrain p0))), (1, cI (W (v25 + 1))), (5, cI x18.2)] [] id ?_
   refine sn [.cs (eTTerrain v23)] [] [] [] [] (fun t => (a2 eTTerrain h24 (aI rT (t)))) ?_
   refine so [] [] [(0, .c (.lv (dat 5 eTTerrain zTTerrain p0))), (1, cI (W ((W (v25 + 1)) + 1))), (5, cI x18.2)] [] id ?_
   refine sn [.cs (eTTerrain v23)] [] [] [] [] (fun t => aI (by decide : (3 : Int) ≠ 0) ((a2 eTTerrain h24 (aI rT (t))))) ?_
   refine oo [] [] [(0, .c (.lv (dat 5 eTTerrain zTTerrain p0))), (1, cI (W ((W ((W (v25 + 1)) + 1)) + 1))), (5, cI x18.2)] [] id ?_
   change EndsI _ _ _ _ _ _
   refine oo [] [] [(0, .c (.lv (dat 5 eTTerrain zTTerrain p0))), (1, cI (W ((W ((W (v25 + 1)) + 1)) + 1))), (5, cI (W (x18.2 + 1)))] [] id ?_
   cases H
   exact rr
  ·refine jf c20 ?_
   refine tl [] [(1, cI x18.1)] [] id ?_
   refine ends_exit ?_
   cases H
   exact rse
 ·clear h28
  rintro e s ⟨rfl, rfl⟩
  change EndsI _ _ _ _ _ _
  refine so [] [] [(4, cI y27)] [] id ?_
  cases H
  exact er
def l_markKindS_ir : S :=
 (sq [o 4 (.mv (iv 0))]
 (.seq (sq [o 5 (.mv (iv 0))]
 (.blk 0 (.loop (.seq (sq [om 6 5, om 7 0, o 8 (.len (.t 7)), o 9 (.bin .lss (.t 6) (.t 8))]
   (.ite (.t 9) .skip
   (.exit 0)))
   (.seq (.blk 1 (sq [om 12 0, om 13 5, om 14 1, o 15 (.call 159 [.t 14]), o 16 (.iad 6 (.t 12) (.t 13)), oa 17 0 16, os 1 17 15]
    (sq [om 18 1, o 19 (.bin .add (.t 18) (iv 1)), om 1 19]
    (sq [om 20 0, om 21 5, om 22 1, o 23 (.iad 6 (.t 20) (.t 21)), oa 24 1 23, os 1 24 22]
    (sq [om 25 1, o 26 (.bin .add (.t 25) (iv 1)), om 1 26]
    (sq [om 27 0, om 28 5, om 29 1, o 30 (.iad 6 (.t 27) (.t 28)), oa 31 2 30, os 1 31 29]
    (sq [om 32 1, o 33 (.bin .add (.t 32) (iv 1)), om 1 33]
    (sq [om 34 0, om 35 5, om 36 1, o 37 (.iad 6 (.t 34) (.t 35)), oa 38 3 37, os 1 38 36]
    (sq [om 39 1, o 40 (.bin .add (.t 39) (iv 1)), om 1 40]
    (sq [om 41 0, om 42 5, om 43 1, o 44 (.bin .rem (.t 43) (iv 3)), o 45 (.bin .eql (.t 44) (iv 0)), o 46 (.iad 6 (.t 41) (.t 42)), oa 47 4 46, os 1 47 45]
    (sq [om 48 1, o 49 (.bin .add (.t 48) (iv 1)), om 1 49]
    (sq [om 50 0, om 51 5, om 52 1, o 53 (.iad 6 (.t 50) (.t 51)), oa 54 5 53, os 1 54 52]
    (.ops [om 55 1, o 56 (.bin .add (.t 55) (iv 1)), om 1 56])))))))))))))
   (.ops [om 10 5, o 11 (.bin .add (.t 10) (iv 1)), om 5 11]))))))
 (sq [om 57 1, om 4 57]
 .ret)))
noncomputable def X.l_markKindS_L (p0 : (List TKind)) (p1 : Int) : Option Int :=
 ((loop (fun (x14 : (Int × Int)) => ((bif (decide (x14.2 < (p0.length : Int))) then ((X.l_markText x14.1).bind fun v17 => ((at' zTKind p0 x14.2).bind fun v19 => some (Sum.inl ((W ((W ((W ((W ((W ((W (x14.1 + 1)) + 1)) + 1)) + 1)) + 1)) + 1)), (W (x14.2 + 1)))))) else some (Sum.inr x14.1)) : Option ((Int × Int) ⊕ Int))) (p1, 0)).bind fun y21 => some y21)
theorem l_markKindS_L_ok (p0 : (List TKind)) (p1 : Int) (r : Int) (H : X.l_markKindS_L p0 p1 = some r) : FK 115 [.c (.lv (dat 6 eTKind zTKind p0)), cI p1] (cI r) := by
 unfold X.l_markKindS_L at H
 refine fi Tryz.f115 l_markKindS_ir [(4, cI r)] [] glL Tryz.func115 ?_
 refine sn [] [] [] [] [] id ?_
 refine seq_in ?_
 refine sn [] [] [(5, cI 0)] [] [] id ?_
 refine ends_blk ?_
 obtain ⟨y21, h22, H⟩ := oB H
 refine tl [] [(0, .c (.lv (dat 6 eTKind zTKind p0))), (1, cI p1), (5, cI 0)] [] id ?_
 refine loop_in (fun (x : (Int × Int)) => lit [(0, .c (.lv (dat 6 eTKind zTKind p0))), (1, cI x.1), (5, cI x.2)] []) (fun (z : Int) => At (.exit 0) (lit [(1, cI z)] [])) h22 ?_ ?_
 ·clear H h22
  intro x14 y0 H
  refine seq_in ?_
  refine sn [] [] [(9, cB (decide (x14.2 < (p0.length : Int))))] [] [] (fun t => lI p0 (t)) ?_
  rcases oC H with ⟨c16, H⟩ | ⟨c16, H⟩
  ·refine it c16 ?_
   refine sk ?_
   refine seq_in ?_
   refine ends_blk ?_
   obtain ⟨v17, h18, H⟩ := oB H
   obtain ⟨v19, h20, H⟩ := oB H
   refine sn [.res (.c (.str v17)), .cs (eTKind v19)] [] [] [] [] (fun t => aI (l_markText_ok x14.1 v17 h18) ((a2 eTKind h20 (aI rT (t))))) ?_
   refine so [] [] [(0, .c (.lv (dat 6 eTKind zTKind p0))), (1, cI (W (x14.1 + 1))), (5, cI x14.2)] [] id ?_
   refine sn [.cs (eTKind v19)] [] [] [] [] (fun t => (a2 eTKind h20 (aI rT (t)))) ?_
   refine so [] [] [(0, .c (.lv (dat 6 eTKind zTKind p0))), (1, cI (W ((W (x14.1 + 1)) + 1))), (5, cI x14.2)] [] id ?_
   refine sn [.cs (eTKind v19)] [] [] [] [] (fun t => (a2 eTKind h20 (aI rT (t)))) ?_
   refine so [] [] [(0, .c (.lv (dat 6 eTKind zTKind p0))), (1, cI (W ((W ((W (x14.1 + 1)) + 1)) + 1))), (5, cI x14.2)] [] id ?_
   refine sn [.cs (eTKind v19)] [] [] [] [] (fun t => (a2 eTKind h20 (aI rT (t)))) ?_
   refine so [] [] [(0, .c (.lv (dat 6 eTKind zTKind p0))), (1, cI (W ((W ((W ((W (x14.1 + 1)) + 1)) + 1)) + 1))), (5, cI x14.2)] [] id ?_
   refine sn [.cs (eTKind v19)] [] [] [] [] (fun t => aI (by decide : (3 : Int) ≠ 0) ((a2 eTKind h20 (aI rT (t))))) ?_
   refine so [] [] [(0, .c (.lv (dat 6 eTKind zTKind p0))), (1, cI (W ((W ((W ((W ((W (x14.1 + 1)) + 1)) + 1)) + 1)) + 1))), (5, cI x14.2)] [] id ?_
   refine sn [.cs (eTKind v19)] [] [] [] [] (fun t => (a2 eTKind h20 (aI rT (t)))) ?_
   refine oo [] [] [(0, .c (.lv (dat 6 eTKind zTKind p0))), (1, cI (W ((W ((W ((W ((W ((W (x14.1 + 1)) + 1)) + 1)) + 1)) + 1)) + 1))), (5, cI x14.2)] [] id ?_
   change EndsI _ _ _ _ _ _
   refine oo [] [] [(0, .c (.lv (dat 6 eTKind zTKind p0))), (1, cI (W ((W ((W ((W ((W ((W (x14.1 + 1)) + 1)) + 1)) + 1)) + 1)) + 1))), (5, cI (W (x14.2 + 1)))] [] id ?_
   cases H
   exact rr
  ·refine jf c16 ?_
   refine tl [] [(1, cI x14.1)] [] id ?_
   refine ends_exit ?_
   cases H
   exact rse
 ·clear h22
  rintro e s ⟨rfl, rfl⟩
  change EndsI _ _ _ _ _ _
  refine so [] [] [(4, cI y21)] [] id ?_
  cases H
  exact er
def l_markRules_ir : S :=
 (sq [o 2 (.box 7 (.t 0)), o 4 (.mv (iv 0))]
 (sq [oa 5 0 2, ol 6 5, om 7 1, o 8 (.call 114 [.t 6, .t 7]), om 1 8]
 (sq [oa 9 1 2, ol 10 9, om 11 1, o 12 (.call 115 [.t 10, .t 11]), om 1 12]
 (sq [om 13 1, om 4 13]
 .ret))))
noncomputable def X.l_markRules_L (p0 : TRules) (p1 : Int) : Option Int :=
 ((X.l_markTerrainS_L p0.Terrains p1).bind fun v1 => ((X.l_markKindS_L p0.Kinds v1).bind fun v3 => some v3))
theorem l_markRules_L_ok (p0 : TRules) (p1 : Int) (r : Int) (H : X.l_markRules_L p0 p1 = some r) : FK 48 [.agg (lTRules p0), cI p1] (cI r) := by
 unfold X.l_markRules_L at H
 refine fi Tryz.f48 l_markRules_ir [(4, cI r)] [] glL Tryz.func48 ?_
 refine sn [] [] [(2, pk 2)] [] [(2, va (lTRules p0))] id ?_
 obtain ⟨v1, h2, H⟩ := oB H
 refine so [.res (cI v1)] [] [(1, cI v1), (2, pk 2)] [(2, va (lTRules p0))] (aI (l_markTerrainS_L_ok p0.Terrains p1 v1 h2)) ?_
 obtain ⟨v3, h4, H⟩ := oB H
 refine so [.res (cI v3)] [] [(1, cI v3)] [] (aI (l_markKindS_L_ok p0.Kinds v1 v3 h4)) ?_
 refine so [] [] [(4, cI v3)] [] id ?_
 cases H
 exact er
def l_markMap_ir : S :=
 (sq [o 2 (.box 5 (.t 0)), o 4 (.mv (iv 0))]
 (sq [oa 5 2 2, ol 6 5, om 7 1, o 8 (.call 23 [.t 6, .t 7]), om 1 8]
 (sq [oa 9 3 2, ol 10 9, om 11 1, o 12 (.call 23 [.t 10, .t 11]), om 1 12]
 (sq [oa 13 4 2, ol 14 13, om 15 1, o 16 (.call 23 [.t 14, .t 15]), om 1 16]
 (sq [om 17 1, om 4 17]
 .ret)))))
noncomputable def X.l_markMap_L (p0 : TMap) (p1 : Int) : Option Int :=
 ((X.l_markIntS_L p0.Terrain p1).bind fun v1 => ((X.l_markIntS_L p0.Rivers v1).bind fun v3 => ((X.l_markIntS_L p0.Roads v3).bind fun v5 => some v5)))
theorem l_markMap_L_ok (p0 : TMap) (p1 : Int) (r : Int) (H : X.l_markMap_L p0 p1 = some r) : FK 49 [.agg (lTMap p0), cI p1] (cI r) := by
 unfold X.l_markMap_L at H
 refine fi Tryz.f49 l_markMap_ir [(4, cI r)] [] glL Tryz.func49 ?_
 refine sn [] [] [(2, pk 2)] [] [(2, va (lTMap p0))] id ?_
 obtain ⟨v1, h2, H⟩ := oB H
 refine so [.res (cI v1)] [] [(1, cI v1), (2, pk 2)] [(2, va (lTMap p0))] (aI (l_markIntS_L_ok p0.Terrain p1 v1 h2)) ?_
 obtain ⟨v3, h4, H⟩ := oB H
 refine so [.res (cI v3)] [] [(1, cI v3), (2, pk 2)] [(2, va (lTMap p0))] (aI (l_markIntS_L_ok p0.Rivers v1 v3 h4)) ?_
 obtain ⟨v5, h6, H⟩ := oB H
 refine so [.res (cI v5)] [] [(1, cI v5)] [] (aI (l_markIntS_L_ok p0.Roads v3 v5 h6)) ?_
 refine so [] [] [(4, cI v5)] [] id ?_
 cases H
 exact er
def l_markBoard_ir : S :=
 (sq [o 2 (.box 12 (.t 0)), o 4 (.mv (iv 0))]
 (sq [oa 5 0 2, o 6 (.load 7 true (.t 5)), om 7 1, o 8 (.call 48 [.t 6, .t 7]), om 1 8]
 (sq [oa 9 7 2, o 10 (.load 5 true (.t 9)), om 11 1, o 12 (.call 49 [.t 10, .t 11]), om 1 12]
 (sq [om 13 1, om 4 13]
 .ret))))
noncomputable def X.l_markBoard_L (p0 : TBoard) (p1 : Int) : Option Int :=
 ((X.l_markRules_L p0.Rules p1).bind fun v1 => ((X.l_markMap_L p0.Map v1).bind fun v3 => some v3))
theorem l_markBoard_L_ok (p0 : TBoard) (p1 : Int) (r : Int) (H : X.l_markBoard_L p0 p1 = some r) : FK 12 [.agg (lTBoard p0), cI p1] (cI r) := by
 unfold X.l_markBoard_L at H
 refine fi Tryz.f12 l_markBoard_ir [(4, cI r)] [] glL Tryz.func12 ?_
 refine sn [] [] [(2, pk 2)] [] [(2, va (lTBoard p0))] id ?_
 obtain ⟨v1, h2, H⟩ := oB H
 refine so [.res (cI v1)] [] [(1, cI v1), (2, pk 2)] [(2, va (lTBoard p0))] (aI (l_markRules_L_ok p0.Rules p1 v1 h2)) ?_
 obtain ⟨v3, h4, H⟩ := oB H
 refine so [.res (cI v3)] [] [(1, cI v3)] [] (aI (l_markMap_L_ok p0.Map v1 v3 h4)) ?_
 refine so [] [] [(4, cI v3)] [] id ?_
 cases H
 exact er
noncomputable def X.l_markIntS_Mod (p0 : (List Int)) (p1 : Int) : Option (Int × (List Int)) :=
 ((loop (fun (x8 : (Int × Int × (List Int))) => ((bif (decide (x8.2.1 < (x8.2.2.length : Int))) then (if 0 ≤ x8.2.1 ∧ x8.2.1 < (x8.2.2.length : Int) then some (Sum.inl ((W (x8.1 + 1)), (W (x8.2.1 + 1)), (x8.2.2.set x8.2.1.toNat x8.1))) else none) else some (Sum.inr (x8.1, x8.2.2))) : Option ((Int × Int × (List Int)) ⊕ (Int × (List Int))))) (p1, 0, p0)).bind fun y12 => some (y12.1, y12.2))
theorem l_markIntS_Mod_ok (p0 : (List Int)) (p1 : Int) (r : (Int × (List Int))) (H : X.l_markIntS_Mod p0 p1 = some r) : FnMu Tryz.prog gl 23 [.c (.own 1000000 1 0 p0.length), cI p1] [(1000000, .arr 1 p0.length (fF eI zI p0) false)] (cI r.1) [(1000000, .arr 1 r.2.length (fF eI zI r.2) false)] := by
 unfold X.l_markIntS_Mod at H
 refine fn_mu (fn := Tryz.f23) (ir := l_markIntS_ir) (E' := [(4, cI r.1)]) (E1 := [(1000000, ar 1 eI zI r.2)]) glL Tryz.func23 (by kernel_rfl) (by kernel_rfl) (by kernel_rfl) (by kernel_rfl) (by kernel_rfl) ?_
 refine sn [] [] [] [] [] id ?_
 refine seq_in ?_
 refine sn [] [] [(5, cI 0)] [] [] id ?_
 refine ends_blk ?_
 obtain ⟨y12, h13, H⟩ := oB H
 refine tl [] [(0, ow 1000000 1 p0), (1, cI p1), (5, cI 0)] [(1000000, ar 1 eI zI p0)] id ?_
 refine loop_in (fun (x : (Int × Int × (List Int))) => lit [(0, ow 1000000 1 x.2.2), (1, cI x.1), (5, cI x.2.1)] [(1000000, ar 1 eI zI x.2.2)]) (fun (z : (Int × (List Int))) => At (.exit 0) (lit [(1, cI z.1)] [(1000000, ar 1 eI zI z.2)])) h13 ?_ ?_
 ·clear H h13
  intro x8 y0 H
  refine seq_in ?_
  refine sn [] [] [(9, cB (decide (x8.2.1 < (x8.2.2.length : Int))))] [] [] (fun t => lI x8.2.2 (t)) ?_
  rcases oC H with ⟨c10, H⟩ | ⟨c10, H⟩
  ·refine it c10 ?_
   refine sk ?_
   refine seq_in ?_
   refine ends_blk ?_
   obtain ⟨g11, H⟩ := oI H
   refine sn [.no, .fn 0 (fF eI zI (x8.2.2.set x8.2.1.toNat x8.1))] [] [] [1000000] [(1000000, .arr 1 x8.2.2.length (fF eI zI (x8.2.2.set x8.2.1.toNat x8.1)) false)] (fun t => aI g11 (aI rT (aI (nat_lt g11) (aI (by decide : 0 + 1 ≤ 1) (aI (fF_set eI zI x8.2.2 x8.2.1.toNat x8.1 (nat_lt g11) x8.2.2.length) (t)))))) ?_
   refine oo [] [] [(0, ow 1000000 1 x8.2.2), (1, cI (W (x8.1 + 1))), (5, cI x8.2.1)] [(1000000, .arr 1 x8.2.2.length (fF eI zI (x8.2.2.set x8.2.1.toNat x8.1)) false)] id ?_
   change EndsI _ _ _ _ _ _
   refine oo [] [.rel 0 ((x8.2.2.set x8.2.1.toNat x8.1).length), .rep 1000000 ((x8.2.2.set x8.2.1.toNat x8.1).length) (fF eI zI (x8.2.2.set x8.2.1.toNat x8.1))] [(0, ow 1000000 1 (x8.2.2.set x8.2.1.toNat x8.1)), (1, cI (W (x8.1 + 1))), (5, cI (W (x8.2.1 + 1)))] [(1000000, ar 1 eI zI (x8.2.2.set x8.2.1.toNat x8.1))] (fun t => aI (by simp : x8.2.2.length = (x8.2.2.set x8.2.1.toNat x8.1).length) (aI (Nat.le_of_eq (by simp : (x8.2.2.set x8.2.1.toNat x8.1).length = x8.2.2.length)) (aI (fun _ _ => rfl : ∀ i, i < (x8.2.2.set x8.2.1.toNat x8.1).length → (fF eI zI (x8.2.2.set x8.2.1.toNat x8.1)) i = (fF eI zI (x8.2.2.set x8.2.1.toNat x8.1)) i) (t)))) ?_
   cases H
   exact rr
  ·refine jf c10 ?_
   refine tl [] [(1, cI x8.1)] [(1000000, ar 1 eI zI x8.2.2)] id ?_
   refine ends_exit ?_
   cases H
   exact rse
 ·clear h13
  rintro e s ⟨rfl, rfl⟩
  change EndsI _ _ _ _ _ _
  refine sn [] [] [(4, cI y12.1)] [] [] id ?_
  refine tl [] [(4, cI y12.1)] [(1000000, ar 1 eI zI y12.2)] id ?_
  cases H
  exact er
def l_markUnitS_ir : S :=
 (sq [o 4 (.mv (iv 0))]
 (.seq (sq [o 5 (.mv (iv 0))]
 (.blk 0 (.loop (.seq (sq [om 6 5, om 7 0, o 8 (.len (.t 7)), o 9 (.bin .lss (.t 6) (.t 8))]
   (.ite (.t 9) .skip
   (.exit 0)))
   (.seq (.blk 1 (sq [om 12 0, om 13 5, om 14 1, o 15 (.iad 4 (.t 12) (.t 13)), oa 16 0 15, os 1 16 14]
    (sq [om 17 1, o 18 (.bin .add (.t 17) (iv 1)), om 1 18]
    (sq [om 19 0, om 20 5, om 21 1, o 22 (.iad 4 (.t 19) (.t 20)), oa 23 1 22, os 1 23 21]
    (sq [om 24 1, o 25 (.bin .add (.t 24) (iv 1)), om 1 25]
    (sq [om 26 0, om 27 5, om 28 1, o 29 (.iad 4 (.t 26) (.t 27)), oa 30 2 29, os 1 30 28]
    (sq [om 31 1, o 32 (.bin .add (.t 31) (iv 1)), om 1 32]
    (sq [om 33 0, om 34 5, om 35 1, o 36 (.iad 4 (.t 33) (.t 34)), oa 37 3 36, os 1 37 35]
    (.ops [om 38 1, o 39 (.bin .add (.t 38) (iv 1)), om 1 39])))))))))
   (.ops [om 10 5, o 11 (.bin .add (.t 10) (iv 1)), om 5 11]))))))
 (sq [om 40 1, om 4 40]
 .ret)))
noncomputable def X.l_markUnitS_Mod (p0 : (List TUnit)) (p1 : Int) : Option (Int × (List TUnit)) :=
 ((loop (fun (x24 : (Int × Int × (List TUnit))) => ((bif (decide (x24.2.1 < (x24.2.2.length : Int))) then (if 0 ≤ x24.2.1 ∧ x24.2.1 < (x24.2.2.length : Int) then ((some (x24.2.2.set x24.2.1.toNat (TUnit.mk x24.1 ((x24.2.2.getD x24.2.1.toNat zTUnit).Kind) ((x24.2.2.getD x24.2.1.toNat zTUnit).At) ((x24.2.2.getD x24.2.1.toNat zTUnit).Steps)))).bind fun l28 => ((some (l28.set x24.2.1.toNat (TUnit.mk ((l28.getD x24.2.1.toNat zTUnit).Side) (W (x24.1 + 1)) ((l28.getD x24.2.1.toNat zTUnit).At) ((l28.getD x24.2.1.toNat zTUnit).Steps)))).bind fun l30 => ((some (l30.set x24.2.1.toNat (TUnit.mk ((l30.getD x24.2.1.toNat zTUnit).Side) ((l30.getD x24.2.1.toNat zTUnit).Kind) (W ((W (x24.1 + 1)) + 1)) ((l30.getD x24.2.1.toNat zTUnit).Steps)))).bind fun l32 => ((some (l32.set x24.2.1.toNat (TUnit.mk ((l32.getD x24.2.1.toNat zTUnit).Side) ((l32.getD x24.2.1.toNat zTUnit).Kind) ((l32.getD x24.2.1.toNat zTUnit).At) (W ((W ((W (x24.1 + 1)) + 1)) + 1))))).bind fun l34 => some (Sum.inl ((W ((W ((W ((W (x24.1 + 1)) + 1)) + 1)) + 1)), (W (x24.2.1 + 1)), l34)))))) else none) else some (Sum.inr (x24.1, x24.2.2))) : Option ((Int × Int × (List TUnit)) ⊕ (Int × (List TUnit))))) (p1, 0, p0)).bind fun y36 => some (y36.1, y36.2))
theorem l_markUnitS_Mod_ok (p0 : (List TUnit)) (p1 : Int) (r : (Int × (List TUnit))) (H : X.l_markUnitS_Mod p0 p1 = some r) : FnMu Tryz.prog gl 50 [.c (.own 1000000 4 0 p0.length), cI p1] [(1000000, .arr 4 p0.length (fF eTUnit zTUnit p0) false)] (cI r.1) [(1000000, .arr 4 r.2.length (fF eTUnit zTUnit r.2) false)] := by
 unfold X.l_markUnitS_Mod at H
 refine fn_mu (fn := Tryz.f50) (ir := l_markUnitS_ir) (E' := [(4, cI r.1)]) (E1 := [(1000000, ar 4 eTUnit zTUnit r.2)]) glL Tryz.func50 (by kernel_rfl) (by kernel_rfl) (by kernel_rfl) (by kernel_rfl) (by kernel_rfl) ?_
 refine sn [] [] [] [] [] id ?_
 refine seq_in ?_
 refine sn [] [] [(5, cI 0)] [] [] id ?_
 refine ends_blk ?_
 obtain ⟨y36, h37, H⟩ := oB H
 refine tl [] [(0, ow 1000000 4 p0), (1, cI p1), (5, cI 0)] [(1000000, ar 4 eTUnit zTUnit p0)] id ?_
 refine loop_in (fun (x : (Int × Int × (List TUnit))) => lit [(0, ow 1000000 4 x.2.2), (1, cI x.1), (5, cI x.2.1)] [(1000000, ar 4 eTUnit zTUnit x.2.2)]) (fun (z : (Int × (List TUnit))) => At (.exit 0) (lit [(1, cI z.1)] [(1000000, ar 4 eTUnit zTUnit z.2)])) h37 ?_ ?_
 ·clear H h37
  intro x24 y0 H
  refine seq_in ?_
  refine sn [] [] [(9, cB (decide (x24.2.1 < (x24.2.2.length : Int))))] [] [] (fun t => lI x24.2.2 (t)) ?_
  rcases oC H with ⟨c26, H⟩ | ⟨c26, H⟩
  ·refine it c26 ?_
   refine sk ?_
   refine seq_in ?_
   refine ends_blk ?_
   obtain ⟨g27, H⟩ := oI H
   obtain ⟨l28, h29, H⟩ := oB H
   refine sn [.no, .fn 0 (fF eTUnit zTUnit l28)] [] [] [1000000] [(1000000, .arr 4 x24.2.2.length (fF eTUnit zTUnit l28) false)] (fun t => aI g27 (aI rT (aI (nat_lt g27) (aI (by decide : 0 + 1 ≤ 4) (aI (fF_setN eTUnit zTUnit h29 (nat_lt g27) x24.2.2.length) (t)))))) ?_
   refine so [] [] [(0, ow 1000000 4 x24.2.2), (1, cI (W (x24.1 + 1))), (5, cI x24.2.1)] [(1000000, .arr 4 x24.2.2.length (fF eTUnit zTUnit l28) false)] id ?_
   obtain ⟨l30, h31, H⟩ := oB H
   refine sn [.no, .fn 0 (fF eTUnit zTUnit l30)] [] [] [1000000] [(1000000, .arr 4 x24.2.2.length (fF eTUnit zTUnit l30) false)] (fun t => aI g27 (aI rT (aI (nat_lt g27) (aI (by decide : 1 + 1 ≤ 4) (aI (fF_setN eTUnit zTUnit h31 (ltN h29 (nat_lt g27)) x24.2.2.length) (t)))))) ?_
   refine so [] [] [(0, ow 1000000 4 x24.2.2), (1, cI (W ((W (x24.1 + 1)) + 1))), (5, cI x24.2.1)] [(1000000, .arr 4 x24.2.2.length (fF eTUnit zTUnit l30) false)] id ?_
   obtain ⟨l32, h33, H⟩ := oB H
   refine sn [.no, .fn 0 (fF eTUnit zTUnit l32)] [] [] [1000000] [(1000000, .arr 4 x24.2.2.length (fF eTUnit zTUnit l32) false)] (fun t => aI g27 (aI rT (aI (nat_lt g27) (aI (by decide : 2 + 1 ≤ 4) (aI (fF_setN eTUnit zTUnit h33 (ltN h31 (ltN h29 (nat_lt g27))) x24.2.2.length) (t)))))) ?_
   refine so [] [] [(0, ow 1000000 4 x24.2.2), (1, cI (W ((W ((W (x24.1 + 1)) + 1)) + 1))), (5, cI x24.2.1)] [(1000000, .arr 4 x24.2.2.length (fF eTUnit zTUnit l32) false)] id ?_
   obtain ⟨l34, h35, H⟩ := oB H
   refine sn [.no, .fn 0 (fF eTUnit zTUnit l34)] [] [] [1000000] [(1000000, .arr 4 x24.2.2.length (fF eTUnit zTUnit l34) false)] (fun t => aI g27 (aI rT (aI (nat_lt g27) (aI (by decide : 3 + 1 ≤ 4) (aI (fF_setN eTUnit zTUnit h35 (ltN h33 (ltN h31 (ltN h29 (nat_lt g27)))) x24.2.2.length) (t)))))) ?_
   refine oo [] [] [(0, ow 1000000 4 x24.2.2), (1, cI (W ((W ((W ((W (x24.1 + 1)) + 1)) + 1)) + 1))), (5, cI x24.2.1)] [(1000000, .arr 4 x24.2.2.length (fF eTUnit zTUnit l34) false)] id ?_
   change EndsI _ _ _ _ _ _
   refine oo [] [.rel 0 l34.length, .rep 1000000 l34.length (fF eTUnit zTUnit l34)] [(0, ow 1000000 4 l34), (1, cI (W ((W ((W ((W (x24.1 + 1)) + 1)) + 1)) + 1))), (5, cI (W (x24.2.1 + 1)))] [(1000000, ar 4 eTUnit zTUnit l34)] (fun t => aI (by simp [lenN h35, lenN h33, lenN h31, lenN h29] : x24.2.2.length = l34.length) (aI (Nat.le_of_eq (by simp [lenN h35, lenN h33, lenN h31, lenN h29] : l34.length = x24.2.2.length)) (aI (fun _ _ => rfl : ∀ i, i < l34.length → (fF eTUnit zTUnit l34) i = (fF eTUnit zTUnit l34) i) (t)))) ?_
   cases H
   exact rr
  ·refine jf c26 ?_
   refine tl [] [(1, cI x24.1)] [(1000000, ar 4 eTUnit zTUnit x24.2.2)] id ?_
   refine ends_exit ?_
   cases H
   exact rse
 ·clear h37
  rintro e s ⟨rfl, rfl⟩
  change EndsI _ _ _ _ _ _
  refine sn [] [] [(4, cI y36.1)] [] [] id ?_
  refine tl [] [(4, cI y36.1)] [(1000000, ar 4 eTUnit zTUnit y36.2)] id ?_
  cases H
  exact er
def l_markView_ir : S :=
 (sq [o 2 (.box 6 (.t 0)), o 4 (.mv (iv 0))]
 (sq [oa 5 3 2, ol 6 5, om 7 1, o 8 (.call 23 [.t 6, .t 7]), om 1 8]
 (sq [oa 9 4 2, ol 10 9, om 11 1, o 12 (.call 50 [.t 10, .t 11]), om 1 12]
 (sq [oa 13 5 2, ol 14 13, om 15 1, o 16 (.call 50 [.t 14, .t 15]), om 1 16]
 (sq [om 17 1, om 4 17]
 .ret)))))
noncomputable def X.l_markView_Mod (p0 : TView) (p1 : Int) : Option (Int × TView) :=
 ((X.l_markIntS_Mod p0.Seen p1).bind fun v1 => (if v1.2.length = p0.Seen.length then ((X.l_markUnitS_Mod p0.Own v1.1).bind fun v4 => (if v4.2.length = p0.Own.length then ((X.l_markUnitS_Mod p0.Enemies v4.1).bind fun v7 => (if v7.2.length = p0.Enemies.length then some (v7.1, (TView.mk p0.Side p0.Turn p0.Weather v1.2 v4.2 v7.2)) else none)) else none)) else none))
theorem l_markView_Mod_ok (p0 : TView) (p1 : Int) (r : (Int × TView)) (H : X.l_markView_Mod p0 p1 = some r) : FnMu Tryz.prog gl 13 [.agg (wTView 1000000 1000001 1000002 p0), cI p1] [(1000000, .arr 1 p0.Seen.length (fF eI zI p0.Seen) false), (1000001, .arr 4 p0.Own.length (fF eTUnit zTUnit p0.Own) false), (1000002, .arr 4 p0.Enemies.length (fF eTUnit zTUnit p0.Enemies) false)] (cI r.1) [(1000000, .arr 1 r.2.Seen.length (fF eI zI r.2.Seen) false), (1000001, .arr 4 r.2.Own.length (fF eTUnit zTUnit r.2.Own) false), (1000002, .arr 4 r.2.Enemies.length (fF eTUnit zTUnit r.2.Enemies) false)] := by
 unfold X.l_markView_Mod at H
 refine fn_mu (fn := Tryz.f13) (ir := l_markView_ir) (E' := [(4, cI r.1)]) (E1 := [(1000000, ar 1 eI zI r.2.Seen), (1000001, ar 4 eTUnit zTUnit r.2.Own), (1000002, ar 4 eTUnit zTUnit r.2.Enemies)]) glL Tryz.func13 (by kernel_rfl) (by kernel_rfl) (by kernel_rfl) (by kernel_rfl) (by kernel_rfl) ?_
 refine sn [] [] [(2, pk 2)] [] [(2, va (wTView 1000000 1000001 1000002 p0))] id ?_
 obtain ⟨v1, h2, H⟩ := oB H
 obtain ⟨g3, H⟩ := oI H
 refine so [.mu [(1000000, 1000000)] [(1000000, 1000000)] (cI v1.1) [(1000000, ar 1 eI zI v1.2)]] [.rel 6 v1.2.length, .relc 2 3 v1.2.length] [(1, cI v1.1), (2, pk 2)] [(2, .var [jI p0.Side, jI p0.Turn, jI p0.Weather, .own 1000000 1 0 v1.2.length, .own 1000001 4 0 p0.Own.length, .own 1000002 4 0 p0.Enemies.length] false), (1000000, ar 1 eI zI v1.2), (1000001, ar 4 eTUnit zTUnit p0.Own), (1000002, ar 4 eTUnit zTUnit p0.Enemies)] (fun t => aI (l_markIntS_Mod_ok p0.Seen p1 v1 h2) (aG 2 (Eq.symm g3) (t))) ?_
 obtain ⟨v4, h5, H⟩ := oB H
 obtain ⟨g6, H⟩ := oI H
 refine so [.mu [(1000001, 1000000)] [(1000000, 1000001)] (cI v4.1) [(1000000, ar 4 eTUnit zTUnit v4.2)]] [.rel 10 v4.2.length, .relc 2 4 v4.2.length] [(1, cI v4.1), (2, pk 2)] [(2, .var [jI p0.Side, jI p0.Turn, jI p0.Weather, .own 1000000 1 0 v1.2.length, .own 1000001 4 0 v4.2.length, .own 1000002 4 0 p0.Enemies.length] false), (1000000, ar 1 eI zI v1.2), (1000001, ar 4 eTUnit zTUnit v4.2), (1000002, ar 4 eTUnit zTUnit p0.Enemies)] (fun t => aI (l_markUnitS_Mod_ok p0.Own v1.1 v4 h5) (aG 2 (Eq.symm g6) (t))) ?_
 obtain ⟨v7, h8, H⟩ := oB H
 obtain ⟨g9, H⟩ := oI H
 refine so [.mu [(1000002, 1000000)] [(1000000, 1000002)] (cI v7.1) [(1000000, ar 4 eTUnit zTUnit v7.2)]] [.rel 14 v7.2.length, .relc 2 5 v7.2.length] [(1, cI v7.1)] [(1000000, ar 1 eI zI v1.2), (1000001, ar 4 eTUnit zTUnit v4.2), (1000002, ar 4 eTUnit zTUnit v7.2)] (fun t => aI (l_markUnitS_Mod_ok p0.Enemies v4.1 v7 h8) (aG 2 (Eq.symm g9) (t))) ?_
 refine sn [] [] [(4, cI v7.1)] [] [] id ?_
 refine tl [] [(4, cI v7.1)] [(1000000, ar 1 eI zI v1.2), (1000001, ar 4 eTUnit zTUnit v4.2), (1000002, ar 4 eTUnit zTUnit v7.2)] id ?_
 cases H
 exact er
def l_heldIntS_ir : S :=
 (sq [o 4 (.mv (iv 0))]
 (.seq (sq [o 5 (.mv (iv 0))]
 (.blk 0 (.loop (.seq (sq [om 6 5, om 7 0, o 8 (.len (.t 7)), o 9 (.bin .lss (.t 6) (.t 8))]
   (.ite (.t 9) .skip
   (.exit 0)))
   (.seq (.blk 1 (.seq (sq [om 12 0, om 13 5, o 14 (.iad 1 (.t 12) (.t 13)), ol 15 14, om 16 1, o 17 (.bin .neq (.t 15) (.t 16))]
    (.ite (.t 17) (sq [o 4 (.mv (.v (.int .i64 (-1))))]
     .ret)
    .skip))
    (.ops [om 18 1, o 19 (.bin .add (.t 18) (iv 1)), om 1 19])))
   (.ops [om 10 5, o 11 (.bin .add (.t 10) (iv 1)), om 5 11]))))))
 (sq [om 20 1, om 4 20]
 .ret)))
noncomputable def X.l_heldIntS (p0 : (List Int)) (p1 : Int) : Option Int :=
 ((loop (fun (x12 : (Int × Int)) => ((bif (decide (x12.2 < (p0.length : Int))) then ((at' zI p0 x12.2).bind fun v15 => (bif (v15 != x12.1) then some (Sum.inr (Sum.inr (-1))) else some (Sum.inl ((W (x12.1 + 1)), (W (x12.2 + 1)))))) else some (Sum.inr (Sum.inl x12.1))) : Option ((Int × Int) ⊕ (Int ⊕ Int)))) (p1, 0)).bind fun y18 => (Sum.elim (fun (y20 : Int) => some y20) (fun (y21 : Int) => some y21) y18))
theorem l_heldIntS_ok (p0 : (List Int)) (p1 : Int) (r : Int) (H : X.l_heldIntS p0 p1 = some r) : FK 51 [.c (dat 1 eI zI p0), cI p1] (cI r) := by
 unfold X.l_heldIntS at H
 refine fi Tryz.f51 l_heldIntS_ir [(4, cI r)] [] glL Tryz.func51 ?_
 refine sn [] [] [] [] [] id ?_
 refine seq_in ?_
 refine sn [] [] [(5, cI 0)] [] [] id ?_
 refine ends_blk ?_
 obtain ⟨y18, h19, H⟩ := oB H
 refine tl [] [(0, dc 1 eI zI p0), (1, cI p1), (5, cI 0)] [] id ?_
 refine loop_in (fun (x : (Int × Int)) => lit [(0, dc 1 eI zI p0), (1, cI x.1), (5, cI x.2)] []) (orJ (fun (z : Int) => At (.exit 0) (lit [(1, cI z)] [])) (fun (z : Int) => At .ret (lit [(4, cI z)] []))) h19 ?_ ?_
 ·clear H h19
  intro x12 y0 H
  refine seq_in ?_
  refine sn [] [] [(9, cB (decide (x12.2 < (p0.length : Int))))] [] [] (fun t => lI p0 (t)) ?_
  rcases oC H with ⟨c14, H⟩ | ⟨c14, H⟩
  ·refine it c14 ?_
   refine sk ?_
   refine seq_in ?_
   refine ends_blk ?_
   refine seq_in ?_
   obtain ⟨v15, h16, H⟩ := oB H
   refine sn [.cs (eI v15)] [] [(17, cB (v15 != x12.1))] [] [] (a2 eI h16) ?_
   rcases oC H with ⟨c17, H⟩ | ⟨c17, H⟩
   ·refine it c17 ?_
    refine so [] [] [(4, cI (-1))] [] id ?_
    refine ends_ret ?_
    cases H
    exact rsr
   ·refine jf c17 ?_
    refine sk ?_
    refine oo [] [] [(0, dc 1 eI zI p0), (1, cI (W (x12.1 + 1))), (5, cI x12.2)] [] id ?_
    change EndsI _ _ _ _ _ _
    refine oo [] [] [(0, dc 1 eI zI p0), (1, cI (W (x12.1 + 1))), (5, cI (W (x12.2 + 1)))] [] id ?_
    cases H
    exact rr
  ·refine jf c14 ?_
   refine tl [] [(1, cI x12.1)] [] id ?_
   refine ends_exit ?_
   cases H
   exact rse
 ·clear h19
  cases y18 with
  | inl y20 =>
   replace H := ofInl H
   rintro e s ⟨rfl, rfl⟩
   change EndsI _ _ _ _ _ _
   refine so [] [] [(4, cI y20)] [] id ?_
   cases H
   exact er
  | inr y21 =>
   replace H := ofInr H
   rintro e s ⟨rfl, rfl⟩
   cases H
   exact qr
def l_heldUnitS_ir : S :=
 (sq [o 4 (.mv (iv 0))]
 (.seq (sq [o 5 (.mv (iv 0))]
 (.blk 0 (.loop (.seq (sq [om 6 5, om 7 0, o 8 (.len (.t 7)), o 9 (.bin .lss (.t 6) (.t 8))]
   (.ite (.t 9) .skip
   (.exit 0)))
   (.seq (.blk 1 (.seq (sq [om 12 0, om 13 5, o 14 (.iad 4 (.t 12) (.t 13)), oa 15 0 14, ol 16 15, om 17 1, o 18 (.bin .neq (.t 16) (.t 17))]
    (.ite (.t 18) (sq [o 4 (.mv (.v (.int .i64 (-1))))]
     .ret)
    .skip))
    (sq [om 19 1, o 20 (.bin .add (.t 19) (iv 1)), om 1 20]
    (.seq (sq [om 21 0, om 22 5, o 23 (.iad 4 (.t 21) (.t 22)), oa 24 1 23, ol 25 24, om 26 1, o 27 (.bin .neq (.t 25) (.t 26))]
    (.ite (.t 27) (sq [o 4 (.mv (.v (.int .i64 (-1))))]
     .ret)
    .skip))
    (sq [om 28 1, o 29 (.bin .add (.t 28) (iv 1)), om 1 29]
    (.seq (sq [om 30 0, om 31 5, o 32 (.iad 4 (.t 30) (.t 31)), oa 33 2 32, ol 34 33, om 35 1, o 36 (.bin .neq (.t 34) (.t 35))]
    (.ite (.t 36) (sq [o 4 (.mv (.v (.int .i64 (-1))))]
     .ret)
    .skip))
    (sq [om 37 1, o 38 (.bin .add (.t 37) (iv 1)), om 1 38]
    (.seq (sq [om 39 0, om 40 5, o 41 (.iad 4 (.t 39) (.t 40)), oa 42 3 41, ol 43 42, om 44 1, o 45 (.bin .neq (.t 43) (.t 44))]
    (.ite (.t 45) (sq [o 4 (.mv (.v (.int .i64 (-1))))]
     .ret)
    .skip))
    (.ops [om 46 1, o 47 (.bin .add (.t 46) (iv 1)), om 1 47])))))))))
   (.ops [om 10 5, o 11 (.bin .add (.t 10) (iv 1)), om 5 11]))))))
 (sq [om 48 1, om 4 48]
 .ret)))
noncomputable def X.l_heldUnitS (p0 : (List TUnit)) (p1 : Int) : Option Int :=
 ((loop (fun (x28 : (Int × Int)) => ((bif (decide (x28.2 < (p0.length : Int))) then ((at' zTUnit p0 x28.2).bind fun v34 => (bif (v34.Side != x28.1) then some (Sum.inr (Sum.inr (-1))) else (bif (v34.Kind != (W (x28.1 + 1))) then some (Sum.inr (Sum.inr (-1))) else (bif (v34.At != (W ((W (x28.1 + 1)) + 1))) then some (Sum.inr (Sum.inr (-1))) else (bif (v34.Steps != (W ((W ((W (x28.1 + 1)) + 1)) + 1))) then some (Sum.inr (Sum.inr (-1))) else some (Sum.inl ((W ((W ((W ((W (x28.1 + 1)) + 1)) + 1)) + 1)), (W (x28.2 + 1))))))))) else some (Sum.inr (Sum.inl x28.1))) : Option ((Int × Int) ⊕ (Int ⊕ Int)))) (p1, 0)).bind fun y42 => (Sum.elim (fun (y44 : Int) => some y44) (fun (y45 : Int) => some y45) y42))
theorem l_heldUnitS_ok (p0 : (List TUnit)) (p1 : Int) (r : Int) (H : X.l_heldUnitS p0 p1 = some r) : FK 52 [.c (dat 4 eTUnit zTUnit p0), cI p1] (cI r) := by
 unfold X.l_heldUnitS at H
 refine fi Tryz.f52 l_heldUnitS_ir [(4, cI r)] [] glL Tryz.func52 ?_
 refine sn [] [] [] [] [] id ?_
 refine seq_in ?_
 refine sn [] [] [(5, cI 0)] [] [] id ?_
 refine ends_blk ?_
 obtain ⟨y42, h43, H⟩ := oB H
 refine tl [] [(0, dc 4 eTUnit zTUnit p0), (1, cI p1), (5, cI 0)] [] id ?_
 refine loop_in (fun (x : (Int × Int)) => lit [(0, dc 4 eTUnit zTUnit p0), (1, cI x.1), (5, cI x.2)] []) (orJ (fun (z : Int) => At (.exit 0) (lit [(1, cI z)] [])) (fun (z : Int) => At .ret (lit [(4, cI z)] []))) h43 ?_ ?_
 ·clear H h43
  intro x28 y0 H
  refine seq_in ?_
  refine sn [] [] [(9, cB (decide (x28.2 < (p0.length : Int))))] [] [] (fun t => lI p0 (t)) ?_
  rcases oC H with ⟨c30, H⟩ | ⟨c30, H⟩
  ·refine it c30 ?_
   refine sk ?_
   refine seq_in ?_
   refine ends_blk ?_
   refine seq_in ?_
   obtain ⟨v34, h35, H⟩ := oB H
   refine sn [.cs (eTUnit v34)] [] [(18, cB (v34.Side != x28.1))] [] [] (a2 eTUnit h35) ?_
   rcases oC H with ⟨c36, H⟩ | ⟨c36, H⟩
   ·refine it c36 ?_
    refine so [] [] [(4, cI (-1))] [] id ?_
    refine ends_ret ?_
    cases H
    exact rsr
   ·refine jf c36 ?_
    refine sk ?_
    refine so [] [] [(0, dc 4 eTUnit zTUnit p0), (1, cI (W (x28.1 + 1))), (5, cI x28.2)] [] id ?_
    refine seq_in ?_
    refine sn [.cs (eTUnit v34)] [] [(27, cB (v34.Kind != (W (x28.1 + 1))))] [] [] (a2 eTUnit h35) ?_
    rcases oC H with ⟨c38, H⟩ | ⟨c38, H⟩
    ·refine it c38 ?_
     refine so [] [] [(4, cI (-1))] [] id ?_
     refine ends_ret ?_
     cases H
     exact rsr
    ·refine jf c38 ?_
     refine sk ?_
     refine so [] [] [(0, dc 4 eTUnit zTUnit p0), (1, cI (W ((W (x28.1 + 1)) + 1))), (5, cI x28.2)] [] id ?_
     refine seq_in ?_
     refine sn [.cs (eTUnit v34)] [] [(36, cB (v34.At != (W ((W (x28.1 + 1)) + 1))))] [] [] (a2 eTUnit h35) ?_
     rcases oC H with ⟨c40, H⟩ | ⟨c40, H⟩
     ·refine it c40 ?_
      refine so [] [] [(4, cI (-1))] [] id ?_
      refine ends_ret ?_
      cases H
      exact rsr
     ·refine jf c40 ?_
      refine sk ?_
      refine so [] [] [(0, dc 4 eTUnit zTUnit p0), (1, cI (W ((W ((W (x28.1 + 1)) + 1)) + 1))), (5, cI x28.2)] [] id ?_
      refine seq_in ?_
      refine sn [.cs (eTUnit v34)] [] [(45, cB (v34.Steps != (W ((W ((W (x28.1 + 1)) + 1)) + 1))))] [] [] (a2 eTUnit h35) ?_
      rcases oC H with ⟨c41, H⟩ | ⟨c41, H⟩
      ·refine it c41 ?_
       refine so [] [] [(4, cI (-1))] [] id ?_
       refine ends_ret ?_
       cases H
       exact rsr
      ·refine jf c41 ?_
       refine sk ?_
       refine oo [] [] [(0, dc 4 eTUnit zTUnit p0), (1, cI (W ((W ((W ((W (x28.1 + 1)) + 1)) + 1)) + 1))), (5, cI x28.2)] [] id ?_
       change EndsI _ _ _ _ _ _
       refine oo [] [] [(0, dc 4 eTUnit zTUnit p0), (1, cI (W ((W ((W ((W (x28.1 + 1)) + 1)) + 1)) + 1))), (5, cI (W (x28.2 + 1)))] [] id ?_
       cases H
       exact rr
  ·refine jf c30 ?_
   refine tl [] [(1, cI x28.1)] [] id ?_
   refine ends_exit ?_
   cases H
   exact rse
 ·clear h43
  cases y42 with
  | inl y44 =>
   replace H := ofInl H
   rintro e s ⟨rfl, rfl⟩
   change EndsI _ _ _ _ _ _
   refine so [] [] [(4, cI y44)] [] id ?_
   cases H
   exact er
  | inr y45 =>
   replace H := ofInr H
   rintro e s ⟨rfl, rfl⟩
   cases H
   exact qr
def l_heldView_ir : S :=
 (sq [o 2 (.box 6 (.t 0)), o 4 (.mv (iv 0))]
 (sq [oa 5 3 2, ol 6 5, om 7 1, o 8 (.call 51 [.t 6, .t 7]), om 1 8]
 (.seq (sq [om 9 1, o 10 (.bin .lss (.t 9) (iv 0))]
 (.ite (.t 10) (sq [o 4 (.mv (.v (.int .i64 (-1))))]
  .ret)
 .skip))
 (sq [oa 11 4 2, ol 12 11, om 13 1, o 14 (.call 52 [.t 12, .t 13]), om 1 14]
 (.seq (sq [om 15 1, o 16 (.bin .lss (.t 15) (iv 0))]
 (.ite (.t 16) (sq [o 4 (.mv (.v (.int .i64 (-1))))]
  .ret)
 .skip))
 (sq [oa 17 5 2, ol 18 17, om 19 1, o 20 (.call 52 [.t 18, .t 19]), om 1 20]
 (.seq (sq [om 21 1, o 22 (.bin .lss (.t 21) (iv 0))]
 (.ite (.t 22) (sq [o 4 (.mv (.v (.int .i64 (-1))))]
  .ret)
 .skip))
 (sq [om 23 1, om 4 23]
 .ret))))))))
noncomputable def X.l_heldView (p0 : TView) (p1 : Int) : Option Int :=
 ((X.l_heldIntS p0.Seen p1).bind fun v1 => (bif (decide (v1 < 0)) then some (-1) else ((X.l_heldUnitS p0.Own v1).bind fun v5 => (bif (decide (v5 < 0)) then some (-1) else ((X.l_heldUnitS p0.Enemies v5).bind fun v9 => (bif (decide (v9 < 0)) then some (-1) else some v9))))))
theorem l_heldView_ok (p0 : TView) (p1 : Int) (r : Int) (H : X.l_heldView p0 p1 = some r) : FK 14 [.agg (eTView p0), cI p1] (cI r) := by
 unfold X.l_heldView at H
 refine fi Tryz.f14 l_heldView_ir [(4, cI r)] [] glL Tryz.func14 ?_
 refine sn [] [] [(2, pk 2)] [] [(2, va (eTView p0))] id ?_
 obtain ⟨v1, h2, H⟩ := oB H
 refine so [.res (cI v1)] [] [(1, cI v1), (2, pk 2)] [(2, va (eTView p0))] (aI (l_heldIntS_ok p0.Seen p1 v1 h2)) ?_
 refine seq_in ?_
 refine sn [] [] [(10, cB (decide (v1 < 0)))] [] [] id ?_
 rcases oC H with ⟨c4, H⟩ | ⟨c4, H⟩
 ·refine it c4 ?_
  refine so [] [] [(4, cI (-1))] [] id ?_
  cases H
  exact er
 ·refine jf c4 ?_
  refine sk ?_
  obtain ⟨v5, h6, H⟩ := oB H
  refine so [.res (cI v5)] [] [(1, cI v5), (2, pk 2)] [(2, va (eTView p0))] (aI (l_heldUnitS_ok p0.Own v1 v5 h6)) ?_
  refine seq_in ?_
  refine sn [] [] [(16, cB (decide (v5 < 0)))] [] [] id ?_
  rcases oC H with ⟨c8, H⟩ | ⟨c8, H⟩
  ·refine it c8 ?_
   refine so [] [] [(4, cI (-1))] [] id ?_
   cases H
   exact er
  ·refine jf c8 ?_
   refine sk ?_
   obtain ⟨v9, h10, H⟩ := oB H
   refine so [.res (cI v9)] [] [(1, cI v9)] [] (aI (l_heldUnitS_ok p0.Enemies v5 v9 h10)) ?_
   refine seq_in ?_
   refine sn [] [] [(22, cB (decide (v9 < 0)))] [] [] id ?_
   rcases oC H with ⟨c11, H⟩ | ⟨c11, H⟩
   ·refine it c11 ?_
    refine so [] [] [(4, cI (-1))] [] id ?_
    cases H
    exact er
   ·refine jf c11 ?_
    refine sk ?_
    refine so [] [] [(4, cI v9)] [] id ?_
    cases H
    exact er
end Go.Proofs.YtjlabdoeiphegaaGreatDoor.X0
