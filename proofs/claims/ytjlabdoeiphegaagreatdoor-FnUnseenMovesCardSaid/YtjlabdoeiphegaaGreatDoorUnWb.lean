/- What each function that FnUnseenMoves reaches computes; no condition. -/
import Derived.Test.YtjlabdoeiphegaaGreatDoorUnWa
set_option linter.unusedVariables false
set_option linter.unusedSimpArgs false
set_option maxRecDepth 100000
namespace Go.Proofs.YtjlabdoeiphegaaGreatDoor.X0
open Go Go.RowKit Go.Proofs.YtjlabdoeiphegaaGreatDoor.Ab Go.Proofs

def s_rGood_ir : S :=
 (sq [o 1 (.box 7 (.t 0)), o 2 (.mv bF)]
 (.seq (sq [oa 7 0 1, ol 8 7, o 9 (.len (.t 8)), o 10 (.call 55 [.t 9, .v (.int .i64 1), .v (.int .i64 6)]), o 11 (.not (.t 10)), om 12 11, og 13 (.fad 1 (.t 1)) 12, og 14 (.load 1 false (.t 13)) 12, og 15 (.len (.t 14)) 12, og 16 (.call 55 [.t 15, .v (.int .i64 1), .v (.int .i64 4)]) 12, og 17 (.not (.t 16)) 12, o 18 (.pick (.t 12) bT (.t 17))]
 (.ite (.t 18) (sq [o 2 (.mv bF)]
  .ret)
 .skip))
 (.seq (sq [oa 19 0 1, ol 20 19, o 21 (.len (.t 20)), o 22 (.mv (iv 0))]
 (.blk 0 (.loop (sq [o 23 (.bin .lss (.t 22) (.t 21))]
   (.seq (.ite (.t 23) .skip
   (.exit 0))
   (.seq (.blk 1 (sq [om 24 22, o 25 (.iad 5 (.t 20) (.t 22)), o 26 (.load 5 true (.t 25)), o 4 (.alloc [.str [], .nil, .int .i64 0, .int .i64 0, .bool false]), om 3 24, os 5 4 26]
    (sq [oa 27 0 4, ol 28 27, o 29 (.call 135 [.t 28]), o 30 (.not (.t 29)), om 31 30, og 32 (.fad 0 (.t 1)) 31, og 33 (.load 1 false (.t 32)) 31, og 34 (.fad 0 (.t 4)) 31, og 35 (.load 1 false (.t 34)) 31, og 36 (.call 136 [.t 33, .t 35]) 31, og 37 (.mv (.t 3)) 31, og 38 (.bin .neq (.t 36) (.t 37)) 31, o 39 (.pick (.t 31) bT (.t 38)), om 40 39, og 41 (.fad 1 (.t 4)) 40, og 42 (.load 1 false (.t 41)) 40, og 43 (.len (.t 42)) 40, og 44 (.fad 1 (.t 1)) 40, og 45 (.load 1 false (.t 44)) 40, og 46 (.len (.t 45)) 40, og 47 (.bin .neq (.t 43) (.t 46)) 40, o 48 (.pick (.t 40) bT (.t 47)), om 49 48, og 50 (.fad 1 (.t 4)) 49, og 51 (.load 1 false (.t 50)) 49, og 52 (.call 74 [.t 51, .v (.int .i64 0), .v (.int .i64 9)]) 49, og 53 (.not (.t 52)) 49, o 54 (.pick (.t 49) bT (.t 53)), om 55 54, og 56 (.fad 2 (.t 4)) 55, og 57 (.load 1 false (.t 56)) 55, og 58 (.call 55 [.t 57, .v (.int .i64 (-3)), .v (.int .i64 3)]) 55, og 59 (.not (.t 58)) 55, o 60 (.pick (.t 55) bT (.t 59)), om 61 60, og 62 (.fad 3 (.t 4)) 61, og 63 (.load 1 false (.t 62)) 61, og 64 (.call 55 [.t 63, .v (.int .i64 0), .v (.int .i64 3)]) 61, og 65 (.not (.t 64)) 61, o 66 (.pick (.t 61) bT (.t 65))]
    (.ite (.t 66) (sq [o 2 (.mv bF)]
     .ret)
    .skip))))
   (.ops [o 67 (.bin .add (.t 22) (iv 1)), om 22 67])))))))
 (.seq (sq [oa 68 1 1, ol 69 68, o 70 (.len (.t 69)), o 71 (.mv (iv 0))]
 (.blk 2 (.loop (sq [o 72 (.bin .lss (.t 71) (.t 70))]
   (.seq (.ite (.t 72) .skip
   (.exit 2))
   (.seq (.blk 3 (sq [om 73 71, o 74 (.iad 6 (.t 69) (.t 71)), o 75 (.load 6 true (.t 74)), o 6 (.alloc [.str [], .int .i64 0, .int .i64 0, .int .i64 0, .bool false, .int .i64 0]), om 5 73, os 6 6 75]
    (sq [oa 76 0 6, ol 77 76, o 78 (.call 135 [.t 77]), o 79 (.not (.t 78)), om 80 79, og 81 (.fad 1 (.t 1)) 80, og 82 (.load 1 false (.t 81)) 80, og 83 (.fad 0 (.t 6)) 80, og 84 (.load 1 false (.t 83)) 80, og 85 (.call 78 [.t 82, .t 84]) 80, og 86 (.mv (.t 5)) 80, og 87 (.bin .neq (.t 85) (.t 86)) 80, o 88 (.pick (.t 80) bT (.t 87)), om 89 88, og 90 (.fad 1 (.t 6)) 89, og 91 (.load 1 false (.t 90)) 89, og 92 (.call 55 [.t 91, .v (.int .i64 1), .v (.int .i64 9)]) 89, og 93 (.not (.t 92)) 89, o 94 (.pick (.t 89) bT (.t 93)), om 95 94, og 96 (.fad 2 (.t 6)) 95, og 97 (.load 1 false (.t 96)) 95, og 98 (.call 55 [.t 97, .v (.int .i64 0), .v (.int .i64 9)]) 95, og 99 (.not (.t 98)) 95, o 100 (.pick (.t 95) bT (.t 99)), om 101 100, og 102 (.fad 3 (.t 6)) 101, og 103 (.load 1 false (.t 102)) 101, og 104 (.call 55 [.t 103, .v (.int .i64 1), .v (.int .i64 4)]) 101, og 105 (.not (.t 104)) 101, o 106 (.pick (.t 101) bT (.t 105)), om 107 106, og 108 (.fad 5 (.t 6)) 107, og 109 (.load 1 false (.t 108)) 107, og 110 (.call 55 [.t 109, .v (.int .i64 0), .v (.int .i64 4)]) 107, og 111 (.not (.t 110)) 107, o 112 (.pick (.t 107) bT (.t 111))]
    (.ite (.t 112) (sq [o 2 (.mv bF)]
     .ret)
    .skip))))
   (.ops [o 113 (.bin .add (.t 71) (iv 1)), om 71 113])))))))
 (sq [oa 114 2 1, ol 115 114, o 116 (.call 55 [.t 115, .v (.int .i64 1), .v (.int .i64 4)]), om 117 116, oh 118 (.fad 3 (.t 1)) 117, oh 119 (.load 1 false (.t 118)) 117, oh 120 (.call 55 [.t 119, .v (.int .i64 0), .v (.int .i64 9)]) 117, o 121 (.pick (.t 117) (.t 120) bF), om 122 121, oh 123 (.fad 4 (.t 1)) 122, oh 124 (.load 1 false (.t 123)) 122, oh 125 (.call 55 [.t 124, .v (.int .i64 1), .v (.int .i64 9)]) 122, o 126 (.pick (.t 122) (.t 125) bF), om 127 126, oh 128 (.fad 5 (.t 1)) 127, oh 129 (.load 1 false (.t 128)) 127, oh 130 (.call 55 [.t 129, .v (.int .i64 0), .v (.int .i64 20)]) 127, o 131 (.pick (.t 127) (.t 130) bF), om 132 131, oh 133 (.fad 6 (.t 1)) 132, oh 134 (.load 1 false (.t 133)) 132, oh 135 (.call 55 [.t 134, .v (.int .i64 1), .v (.int .i64 30)]) 132, o 136 (.pick (.t 132) (.t 135) bF), om 2 136]
 .ret)))))
noncomputable def X.s_rGood (p0 : TRules) : Option Bool :=
 ((X.s_l1In (p0.Terrains.length : Int) 1 6).bind fun v7 => (bif (!v7) then some false else ((X.s_l1In (p0.Kinds.length : Int) 1 4).bind fun v10 => (bif (!v10) then some false else ((loop (fun (x120 : Int) => ((bif (decide (x120 < (p0.Terrains.length : Int))) then ((at' zTTerrain p0.Terrains x120).bind fun v123 => ((X.s_rName v123.Name).bind fun v125 => (bif (!v125) then some (Sum.inr (Sum.inr false)) else ((X.s_rTerrain p0.Terrains v123.Name).bind fun v128 => (bif (v128 != x120) then some (Sum.inr (Sum.inr false)) else (bif ((v123.Cost.length : Int) != (p0.Kinds.length : Int)) then some (Sum.inr (Sum.inr false)) else ((X.s_l1All v123.Cost 0 9).bind fun v132 => (bif (!v132) then some (Sum.inr (Sum.inr false)) else ((X.s_l1In v123.Shift (-3) 3).bind fun v135 => (bif (!v135) then some (Sum.inr (Sum.inr false)) else ((X.s_l1In v123.Height 0 3).bind fun v138 => (bif (!v138) then some (Sum.inr (Sum.inr false)) else some (Sum.inl (W (x120 + 1))))))))))))))) else some (Sum.inr (Sum.inl ()))) : Option (Int ⊕ (Unit ⊕ Bool)))) 0).bind fun y141 => (Sum.elim (fun (y143 : Unit) => ((loop (fun (x262 : Int) => ((bif (decide (x262 < (p0.Kinds.length : Int))) then ((at' zTKind p0.Kinds x262).bind fun v265 => ((X.s_rName v265.Name).bind fun v267 => (bif (!v267) then some (Sum.inr (Sum.inr false)) else ((X.s_rKind p0.Kinds v265.Name).bind fun v270 => (bif (v270 != x262) then some (Sum.inr (Sum.inr false)) else ((X.s_l1In v265.Strength 1 9).bind fun v273 => (bif (!v273) then some (Sum.inr (Sum.inr false)) else ((X.s_l1In v265.Moves 0 9).bind fun v276 => (bif (!v276) then some (Sum.inr (Sum.inr false)) else ((X.s_l1In v265.Steps 1 4).bind fun v279 => (bif (!v279) then some (Sum.inr (Sum.inr false)) else ((X.s_l1In v265.View 0 4).bind fun v282 => (bif (!v282) then some (Sum.inr (Sum.inr false)) else some (Sum.inl (W (x262 + 1)))))))))))))))) else some (Sum.inr (Sum.inl ()))) : Option (Int ⊕ (Unit ⊕ Bool)))) 0).bind fun y285 => (Sum.elim (fun (y287 : Unit) => ((X.s_l1In p0.Stack 1 4).bind fun v289 => (bif v289 then ((X.s_l1In p0.River 0 9).bind fun v292 => (bif v292 then ((X.s_l1In p0.Road 1 9).bind fun v295 => (bif v295 then ((X.s_l1In p0.Supply 0 20).bind fun v298 => (bif v298 then ((X.s_l1In p0.Turns 1 30).bind fun v301 => some v301) else some false)) else some false)) else some false)) else some false))) (fun (y288 : Bool) => some y288) y285))) (fun (y144 : Bool) => some y144) y141))))))
theorem s_rGood_ok (p0 : TRules) (r : Bool) (H : X.s_rGood p0 = some r) : FK 72 [.agg (eTRules p0)] (cB r) := by
 unfold X.s_rGood at H
 refine fi Tryz.f72 s_rGood_ir [(2, cB r)] [] glL Tryz.func72 ?_
 refine so [] [] [(1, pk 1)] [(1, va (eTRules p0))] id ?_
 refine seq_in ?_
 obtain ⟨v7, h8, H⟩ := oB H
 rcases oC H with ⟨c9, H⟩ | ⟨c9, H⟩
 ·refine sn ([.res (cB v7)] ++ rg 6 true []) [] [(18, cB true)] [] [] (fun t => lI p0.Terrains (aI (s_l1In_ok (p0.Terrains.length : Int) 1 6 v7 h8) (aG 6 c9 (t)))) ?_
  refine it rT ?_
  refine so [] [] [(2, cB false)] [] id ?_
  cases H
  exact er
 ·obtain ⟨v10, h11, H⟩ := oB H
  refine sn ([.res (cB v7)] ++ rg 4 false ([.res (cB v10)] ++ rg 2 false [])) [] [(18, cB (!v10))] [] [] (fun t => lI p0.Terrains (aI (s_l1In_ok (p0.Terrains.length : Int) 1 6 v7 h8) (aG 3 c9 (lI p0.Kinds (aI c9 (aI (s_l1In_ok (p0.Kinds.length : Int) 1 4 v10 h11) (aG 2 c9 (t)))))))) ?_
  rcases oC H with ⟨c12, H⟩ | ⟨c12, H⟩
  ·refine it c12 ?_
   refine so [] [] [(2, cB false)] [] id ?_
   cases H
   exact er
  ·refine jf c12 ?_
   refine sk ?_
   refine seq_in ?_
   refine sn [] [] [(20, dc 5 eTTerrain zTTerrain p0.Terrains), (21, cL p0.Terrains), (22, cI 0)] [] [] (fun t => lI p0.Terrains (t)) ?_
   refine ends_blk ?_
   obtain ⟨y141, h142, H⟩ := oB H
   refine tl [] [(1, pk 1), (20, dc 5 eTTerrain zTTerrain p0.Terrains), (21, cL p0.Terrains), (22, cI 0)] [(1, va (eTRules p0))] id ?_
   refine loop_in (fun (x : Int) => lit [(1, pk 1), (20, dc 5 eTTerrain zTTerrain p0.Terrains), (21, cL p0.Terrains), (22, cI x)] [(1, va (eTRules p0))]) (orJ (fun (z : Unit) => At (.exit 0) (lit [(1, pk 1)] [(1, va (eTRules p0))])) (fun (z : Bool) => At .ret (lit [(2, cB z)] []))) h142 ?_ ?_
   ·clear H h142
    intro x120 y0 H
    refine sn [] [] [(23, cB (decide (x120 < (p0.Terrains.length : Int))))] [] [] id ?_
    refine seq_in ?_
    rcases oC H with ⟨c122, H⟩ | ⟨c122, H⟩
    ·refine it c122 ?_
     refine sk ?_
     refine seq_in ?_
     refine ends_blk ?_
     obtain ⟨v123, h124, H⟩ := oB H
     refine sn [.cs (eTTerrain v123)] [] [(3, cI x120), (4, pk 4)] [] [(4, va (eTTerrain v123))] (a2 eTTerrain h124) ?_
     obtain ⟨v125, h126, H⟩ := oB H
     rcases oC H with ⟨c127, H⟩ | ⟨c127, H⟩
     ·refine sn ([.res (cB v125)] ++ rg 31 true []) [] [(66, cB true)] [] [] (fun t => aI (s_rName_ok v123.Name v125 h126) (aG 8 c127 (aG 23 rT (t)))) ?_
      refine it rT ?_
      refine so [] [] [(2, cB false)] [] id ?_
      refine ends_ret ?_
      cases H
      exact rsr
     ·obtain ⟨v128, h129, H⟩ := oB H
      rcases oC H with ⟨c130, H⟩ | ⟨c130, H⟩
      ·refine sn ([.res (cB v125)] ++ rg 5 false ([.res (cI v128)] ++ rg 3 false (rg 23 true []))) [] [(66, cB true)] [] [] (fun t => aI (s_rName_ok v123.Name v125 h126) (aG 5 c127 (aI (s_rTerrain_ok p0.Terrains v123.Name v128 h129) (aG 3 c127 (aG 8 c130 (aG 15 rT (t))))))) ?_
       refine it rT ?_
       refine so [] [] [(2, cB false)] [] id ?_
       refine ends_ret ?_
       cases H
       exact rsr
      ·rcases oC H with ⟨c131, H⟩ | ⟨c131, H⟩
       ·refine sn ([.res (cB v125)] ++ rg 5 false ([.res (cI v128)] ++ rg 11 false (rg 15 true []))) [] [(66, cB true)] [] [] (fun t => aI (s_rName_ok v123.Name v125 h126) (aG 5 c127 (aI (s_rTerrain_ok p0.Terrains v123.Name v128 h129) (aG 3 c127 (aG 3 c130 (lI v123.Cost (aG 3 c130 (lI p0.Kinds (aG 2 c130 (aG 5 c131 (aG 10 rT (t)))))))))))) ?_
        refine it rT ?_
        refine so [] [] [(2, cB false)] [] id ?_
        refine ends_ret ?_
        cases H
        exact rsr
       ·obtain ⟨v132, h133, H⟩ := oB H
        rcases oC H with ⟨c134, H⟩ | ⟨c134, H⟩
        ·refine sn ([.res (cB v125)] ++ rg 5 false ([.res (cI v128)] ++ rg 14 false ([.res (cB v132)] ++ rg 2 false (rg 10 true [])))) [] [(66, cB true)] [] [] (fun t => aI (s_rName_ok v123.Name v125 h126) (aG 5 c127 (aI (s_rTerrain_ok p0.Terrains v123.Name v128 h129) (aG 3 c127 (aG 3 c130 (lI v123.Cost (aG 3 c130 (lI p0.Kinds (aG 2 c130 (aG 3 c131 (aI (s_l1All_ok v123.Cost 0 9 v132 h133) (aG 2 c131 (aG 5 c134 (aG 5 rT (t))))))))))))))) ?_
         refine it rT ?_
         refine so [] [] [(2, cB false)] [] id ?_
         refine ends_ret ?_
         cases H
         exact rsr
        ·obtain ⟨v135, h136, H⟩ := oB H
         rcases oC H with ⟨c137, H⟩ | ⟨c137, H⟩
         ·refine sn ([.res (cB v125)] ++ rg 5 false ([.res (cI v128)] ++ rg 14 false ([.res (cB v132)] ++ rg 5 false ([.res (cB v135)] ++ rg 2 false (rg 5 true []))))) [] [(66, cB true)] [] [] (fun t => aI (s_rName_ok v123.Name v125 h126) (aG 5 c127 (aI (s_rTerrain_ok p0.Terrains v123.Name v128 h129) (aG 3 c127 (aG 3 c130 (lI v123.Cost (aG 3 c130 (lI p0.Kinds (aG 2 c130 (aG 3 c131 (aI (s_l1All_ok v123.Cost 0 9 v132 h133) (aG 2 c131 (aG 3 c134 (aI (s_l1In_ok v123.Shift (-3) 3 v135 h136) (aG 2 c134 (aG 5 c137 (t))))))))))))))))) ?_
          refine it rT ?_
          refine so [] [] [(2, cB false)] [] id ?_
          refine ends_ret ?_
          cases H
          exact rsr
         ·obtain ⟨v138, h139, H⟩ := oB H
          refine sn ([.res (cB v125)] ++ rg 5 false ([.res (cI v128)] ++ rg 14 false ([.res (cB v132)] ++ rg 5 false ([.res (cB v135)] ++ rg 5 false ([.res (cB v138)] ++ rg 2 false []))))) [] [(66, cB (!v138))] [] [] (fun t => aI (s_rName_ok v123.Name v125 h126) (aG 5 c127 (aI (s_rTerrain_ok p0.Terrains v123.Name v128 h129) (aG 3 c127 (aG 3 c130 (lI v123.Cost (aG 3 c130 (lI p0.Kinds (aG 2 c130 (aG 3 c131 (aI (s_l1All_ok v123.Cost 0 9 v132 h133) (aG 2 c131 (aG 3 c134 (aI (s_l1In_ok v123.Shift (-3) 3 v135 h136) (aG 2 c134 (aG 3 c137 (aI (s_l1In_ok v123.Height 0 3 v138 h139) (aG 2 c137 (t))))))))))))))))))) ?_
          rcases oC H with ⟨c140, H⟩ | ⟨c140, H⟩
          ·refine it c140 ?_
           refine so [] [] [(2, cB false)] [] id ?_
           refine ends_ret ?_
           cases H
           exact rsr
          ·refine jf c140 ?_
           refine sk ?_
           refine oo [] [] [(1, pk 1), (20, dc 5 eTTerrain zTTerrain p0.Terrains), (21, cL p0.Terrains), (22, cI (W (x120 + 1)))] [(1, va (eTRules p0))] id ?_
           cases H
           exact rr
    ·refine jf c122 ?_
     refine tl [] [(1, pk 1)] [(1, va (eTRules p0))] id ?_
     refine ends_exit ?_
     cases H
     exact rse
   ·clear h142
    cases y141 with
    | inl y143 =>
     replace H := ofInl H
     rintro e s ⟨rfl, rfl⟩
     change EndsI _ _ _ _ _ _
     refine seq_in ?_
     refine sn [] [] [(69, dc 6 eTKind zTKind p0.Kinds), (70, cL p0.Kinds), (71, cI 0)] [] [] (fun t => lI p0.Kinds (t)) ?_
     refine ends_blk ?_
     obtain ⟨y285, h286, H⟩ := oB H
     refine tl [] [(1, pk 1), (69, dc 6 eTKind zTKind p0.Kinds), (70, cL p0.Kinds), (71, cI 0)] [(1, va (eTRules p0))] id ?_
     refine loop_in (fun (x : Int) => lit [(1, pk 1), (69, dc 6 eTKind zTKind p0.Kinds), (70, cL p0.Kinds), (71, cI x)] [(1, va (eTRules p0))]) (orJ (fun (z : Unit) => At (.exit 2) (lit [(1, pk 1)] [(1, va (eTRules p0))])) (fun (z : Bool) => At .ret (lit [(2, cB z)] []))) h286 ?_ ?_
     ·clear H h286
      intro x262 y0 H
      refine sn [] [] [(72, cB (decide (x262 < (p0.Kinds.length : Int))))] [] [] id ?_
      refine seq_in ?_
      rcases oC H with ⟨c264, H⟩ | ⟨c264, H⟩
      ·refine it c264 ?_
       refine sk ?_
       refine seq_in ?_
       refine ends_blk ?_
       obtain ⟨v265, h266, H⟩ := oB H
       refine sn [.cs (eTKind v265)] [] [(5, cI x262), (6, pk 6)] [] [(6, va (eTKind v265))] (a2 eTKind h266) ?_
       obtain ⟨v267, h268, H⟩ := oB H
       rcases oC H with ⟨c269, H⟩ | ⟨c269, H⟩
       ·refine sn ([.res (cB v267)] ++ rg 28 true []) [] [(112, cB true)] [] [] (fun t => aI (s_rName_ok v265.Name v267 h268) (aG 8 c269 (aG 20 rT (t)))) ?_
        refine it rT ?_
        refine so [] [] [(2, cB false)] [] id ?_
        refine ends_ret ?_
        cases H
        exact rsr
       ·obtain ⟨v270, h271, H⟩ := oB H
        rcases oC H with ⟨c272, H⟩ | ⟨c272, H⟩
        ·refine sn ([.res (cB v267)] ++ rg 5 false ([.res (cI v270)] ++ rg 3 false (rg 20 true []))) [] [(112, cB true)] [] [] (fun t => aI (s_rName_ok v265.Name v267 h268) (aG 5 c269 (aI (s_rKind_ok p0.Kinds v265.Name v270 h271) (aG 3 c269 (aG 5 c272 (aG 15 rT (t))))))) ?_
         refine it rT ?_
         refine so [] [] [(2, cB false)] [] id ?_
         refine ends_ret ?_
         cases H
         exact rsr
        ·obtain ⟨v273, h274, H⟩ := oB H
         rcases oC H with ⟨c275, H⟩ | ⟨c275, H⟩
         ·refine sn ([.res (cB v267)] ++ rg 5 false ([.res (cI v270)] ++ rg 6 false ([.res (cB v273)] ++ rg 2 false (rg 15 true [])))) [] [(112, cB true)] [] [] (fun t => aI (s_rName_ok v265.Name v267 h268) (aG 5 c269 (aI (s_rKind_ok p0.Kinds v265.Name v270 h271) (aG 3 c269 (aG 3 c272 (aI (s_l1In_ok v265.Strength 1 9 v273 h274) (aG 2 c272 (aG 5 c275 (aG 10 rT (t)))))))))) ?_
          refine it rT ?_
          refine so [] [] [(2, cB false)] [] id ?_
          refine ends_ret ?_
          cases H
          exact rsr
         ·obtain ⟨v276, h277, H⟩ := oB H
          rcases oC H with ⟨c278, H⟩ | ⟨c278, H⟩
          ·refine sn ([.res (cB v267)] ++ rg 5 false ([.res (cI v270)] ++ rg 6 false ([.res (cB v273)] ++ rg 5 false ([.res (cB v276)] ++ rg 2 false (rg 10 true []))))) [] [(112, cB true)] [] [] (fun t => aI (s_rName_ok v265.Name v267 h268) (aG 5 c269 (aI (s_rKind_ok p0.Kinds v265.Name v270 h271) (aG 3 c269 (aG 3 c272 (aI (s_l1In_ok v265.Strength 1 9 v273 h274) (aG 2 c272 (aG 3 c275 (aI (s_l1In_ok v265.Moves 0 9 v276 h277) (aG 2 c275 (aG 5 c278 (aG 5 rT (t))))))))))))) ?_
           refine it rT ?_
           refine so [] [] [(2, cB false)] [] id ?_
           refine ends_ret ?_
           cases H
           exact rsr
          ·obtain ⟨v279, h280, H⟩ := oB H
           rcases oC H with ⟨c281, H⟩ | ⟨c281, H⟩
           ·refine sn ([.res (cB v267)] ++ rg 5 false ([.res (cI v270)] ++ rg 6 false ([.res (cB v273)] ++ rg 5 false ([.res (cB v276)] ++ rg 5 false ([.res (cB v279)] ++ rg 2 false (rg 5 true [])))))) [] [(112, cB true)] [] [] (fun t => aI (s_rName_ok v265.Name v267 h268) (aG 5 c269 (aI (s_rKind_ok p0.Kinds v265.Name v270 h271) (aG 3 c269 (aG 3 c272 (aI (s_l1In_ok v265.Strength 1 9 v273 h274) (aG 2 c272 (aG 3 c275 (aI (s_l1In_ok v265.Moves 0 9 v276 h277) (aG 2 c275 (aG 3 c278 (aI (s_l1In_ok v265.Steps 1 4 v279 h280) (aG 2 c278 (aG 5 c281 (t))))))))))))))) ?_
            refine it rT ?_
            refine so [] [] [(2, cB false)] [] id ?_
            refine ends_ret ?_
            cases H
            exact rsr
           ·obtain ⟨v282, h283, H⟩ := oB H
            refine sn ([.res (cB v267)] ++ rg 5 false ([.res (cI v270)] ++ rg 6 false ([.res (cB v273)] ++ rg 5 false ([.res (cB v276)] ++ rg 5 false ([.res (cB v279)] ++ rg 5 false ([.res (cB v282)] ++ rg 2 false [])))))) [] [(112, cB (!v282))] [] [] (fun t => aI (s_rName_ok v265.Name v267 h268) (aG 5 c269 (aI (s_rKind_ok p0.Kinds v265.Name v270 h271) (aG 3 c269 (aG 3 c272 (aI (s_l1In_ok v265.Strength 1 9 v273 h274) (aG 2 c272 (aG 3 c275 (aI (s_l1In_ok v265.Moves 0 9 v276 h277) (aG 2 c275 (aG 3 c278 (aI (s_l1In_ok v265.Steps 1 4 v279 h280) (aG 2 c278 (aG 3 c281 (aI (s_l1In_ok v265.View 0 4 v282 h283) (aG 2 c281 (t))))))))))))))))) ?_
            rcases oC H with ⟨c284, H⟩ | ⟨c284, H⟩
            ·refine it c284 ?_
             refine so [] [] [(2, cB false)] [] id ?_
             refine ends_ret ?_
             cases H
             exact rsr
            ·refine jf c284 ?_
             refine sk ?_
             refine oo [] [] [(1, pk 1), (69, dc 6 eTKind zTKind p0.Kinds), (70, cL p0.Kinds), (71, cI (W (x262 + 1)))] [(1, va (eTRules p0))] id ?_
             cases H
             exact rr
      ·refine jf c264 ?_
       refine tl [] [(1, pk 1)] [(1, va (eTRules p0))] id ?_
       refine ends_exit ?_
       cases H
       exact rse
     ·clear h286
      cases y285 with
      | inl y287 =>
       replace H := ofInl H
       rintro e s ⟨rfl, rfl⟩
       change EndsI _ _ _ _ _ _
       obtain ⟨v289, h290, H⟩ := oB H
       rcases oC H with ⟨c291, H⟩ | ⟨c291, H⟩
       ·obtain ⟨v292, h293, H⟩ := oB H
        rcases oC H with ⟨c294, H⟩ | ⟨c294, H⟩
        ·obtain ⟨v295, h296, H⟩ := oB H
         rcases oC H with ⟨c297, H⟩ | ⟨c297, H⟩
         ·obtain ⟨v298, h299, H⟩ := oB H
          rcases oC H with ⟨c300, H⟩ | ⟨c300, H⟩
          ·obtain ⟨v301, h302, H⟩ := oB H
           refine so ([.res (cB v289)] ++ rg 3 true ([.res (cB v292)] ++ rg 4 true ([.res (cB v295)] ++ rg 4 true ([.res (cB v298)] ++ rg 4 true [.res (cB v301), .g true])))) [] [(2, cB v301)] [] (fun t => aI (s_l1In_ok p0.Stack 1 4 v289 h290) (aG 3 c291 (aI (s_l1In_ok p0.River 0 9 v292 h293) (aI c291 (aG 3 c294 (aI (s_l1In_ok p0.Road 1 9 v295 h296) (aI c294 (aG 3 c297 (aI (s_l1In_ok p0.Supply 0 20 v298 h299) (aI c297 (aG 3 c300 (aI (s_l1In_ok p0.Turns 1 30 v301 h302) (aI c300 (t)))))))))))))) ?_
           cases H
           exact er
          ·refine so ([.res (cB v289)] ++ rg 3 true ([.res (cB v292)] ++ rg 4 true ([.res (cB v295)] ++ rg 4 true ([.res (cB v298), .g true] ++ rg 4 false [])))) [] [(2, cB false)] [] (fun t => aI (s_l1In_ok p0.Stack 1 4 v289 h290) (aG 3 c291 (aI (s_l1In_ok p0.River 0 9 v292 h293) (aI c291 (aG 3 c294 (aI (s_l1In_ok p0.Road 1 9 v295 h296) (aI c294 (aG 3 c297 (aI (s_l1In_ok p0.Supply 0 20 v298 h299) (aI c297 (aG 4 c300 (t)))))))))))) ?_
           cases H
           exact er
         ·refine so ([.res (cB v289)] ++ rg 3 true ([.res (cB v292)] ++ rg 4 true ([.res (cB v295), .g true] ++ rg 8 false []))) [] [(2, cB false)] [] (fun t => aI (s_l1In_ok p0.Stack 1 4 v289 h290) (aG 3 c291 (aI (s_l1In_ok p0.River 0 9 v292 h293) (aI c291 (aG 3 c294 (aI (s_l1In_ok p0.Road 1 9 v295 h296) (aI c294 (aG 4 c297 (aG 4 rF (t)))))))))) ?_
          cases H
          exact er
        ·refine so ([.res (cB v289)] ++ rg 3 true ([.res (cB v292), .g true] ++ rg 12 false [])) [] [(2, cB false)] [] (fun t => aI (s_l1In_ok p0.Stack 1 4 v289 h290) (aG 3 c291 (aI (s_l1In_ok p0.River 0 9 v292 h293) (aI c291 (aG 4 c294 (aG 8 rF (t))))))) ?_
         cases H
         exact er
       ·refine so ([.res (cB v289)] ++ rg 16 false []) [] [(2, cB false)] [] (fun t => aI (s_l1In_ok p0.Stack 1 4 v289 h290) (aG 4 c291 (aG 12 rF (t)))) ?_
        cases H
        exact er
      | inr y288 =>
       replace H := ofInr H
       rintro e s ⟨rfl, rfl⟩
       cases H
       exact qr
    | inr y144 =>
     replace H := ofInr H
     rintro e s ⟨rfl, rfl⟩
     cases H
     exact qr
def s_mSize_ir : S :=
 (sq [o 1 (.box 5 (.t 0)), o 2 (.mv (iv 0))]
 (sq [oa 3 0 1, ol 4 3, oa 5 1 1, ol 6 5, o 7 (.bin .mul (.t 4) (.t 6)), om 2 7]
 .ret))
noncomputable def X.s_mSize (p0 : TMap) : Option Int :=
 some (W (p0.Width * p0.Height))
theorem s_mSize_ok (p0 : TMap) (r : Int) (H : X.s_mSize p0 = some r) : FK 80 [.agg (eTMap p0)] (cI r) := by
 unfold X.s_mSize at H
 refine fi Tryz.f80 s_mSize_ir [(2, cI r)] [] glL Tryz.func80 ?_
 refine so [] [] [(1, pk 1)] [(1, va (eTMap p0))] id ?_
 refine so [] [] [(2, cI (W (p0.Width * p0.Height)))] [] id ?_
 cases H
 exact er
def s_l1Rising_ir : S :=
 (sq [o 6 (.mv bF)]
 (.seq (sq [om 9 0, o 10 (.len (.t 9)), o 11 (.mv (iv 0))]
 (.blk 0 (.loop (sq [o 12 (.bin .lss (.t 11) (.t 10))]
   (.seq (.ite (.t 12) .skip
   (.exit 0))
   (.seq (.blk 1 (sq [om 13 11, o 14 (.iad 1 (.t 9) (.t 11)), ol 15 14, om 7 13, om 8 15]
    (sq [om 16 8, om 17 1, om 18 2, o 19 (.call 55 [.t 16, .t 17, .t 18]), o 20 (.not (.t 19)), om 21 20, og 22 (.mv (.t 7)) 21, og 23 (.bin .gtr (.t 22) (iv 0)) 21, og 24 (.mv (.t 23)) 21, oh 25 (.mv (.t 0)) 24, oh 26 (.mv (.t 7)) 24, oh 27 (.bin .sub (.t 26) (iv 1)) 24, oh 28 (.iad 1 (.t 25) (.t 27)) 24, oh 29 (.load 1 false (.t 28)) 24, oh 30 (.mv (.t 8)) 24, oh 31 (.bin .geq (.t 29) (.t 30)) 24, og 32 (.pick (.t 24) (.t 31) bF) 21, o 33 (.pick (.t 21) bT (.t 32))]
    (.ite (.t 33) (sq [o 6 (.mv bF)]
     .ret)
    .skip))))
   (.ops [o 34 (.bin .add (.t 11) (iv 1)), om 11 34])))))))
 (sq [o 6 (.mv bT)]
 .ret)))
noncomputable def X.s_l1Rising (p0 : (List Int)) (p1 : Int) (p2 : Int) : Option Bool :=
 ((loop (fun (x24 : Int) => ((bif (decide (x24 < (p0.length : Int))) then ((at' zI p0 x24).bind fun v27 => ((X.s_l1In v27 p1 p2).bind fun v29 => (bif (!v29) then some (Sum.inr (Sum.inr false)) else (bif (decide (x24 > 0)) then ((at' zI p0 (W (x24 - 1))).bind fun v33 => (bif (decide (v33 ≥ v27)) then some (Sum.inr (Sum.inr false)) else some (Sum.inl (W (x24 + 1))))) else some (Sum.inl (W (x24 + 1))))))) else some (Sum.inr (Sum.inl ()))) : Option (Int ⊕ (Unit ⊕ Bool)))) 0).bind fun y36 => (Sum.elim (fun (y38 : Unit) => some true) (fun (y39 : Bool) => some y39) y36))
theorem s_l1Rising_ok (p0 : (List Int)) (p1 : Int) (p2 : Int) (r : Bool) (H : X.s_l1Rising p0 p1 p2 = some r) : FK 79 [.c (dat 1 eI zI p0), cI p1, cI p2] (cB r) := by
 unfold X.s_l1Rising at H
 refine fi Tryz.f79 s_l1Rising_ir [(6, cB r)] [] glL Tryz.func79 ?_
 refine sn [] [] [] [] [] id ?_
 refine seq_in ?_
 refine sn [] [] [(9, dc 1 eI zI p0), (10, cL p0), (11, cI 0)] [] [] (fun t => lI p0 (t)) ?_
 refine ends_blk ?_
 obtain ⟨y36, h37, H⟩ := oB H
 refine tl [] [(0, dc 1 eI zI p0), (1, cI p1), (2, cI p2), (9, dc 1 eI zI p0), (10, cL p0), (11, cI 0)] [] id ?_
 refine loop_in (fun (x : Int) => lit [(0, dc 1 eI zI p0), (1, cI p1), (2, cI p2), (9, dc 1 eI zI p0), (10, cL p0), (11, cI x)] []) (orJ (fun (z : Unit) => At (.exit 0) (lit [] [])) (fun (z : Bool) => At .ret (lit [(6, cB z)] []))) h37 ?_ ?_
 ·clear H h37
  intro x24 y0 H
  refine sn [] [] [(12, cB (decide (x24 < (p0.length : Int))))] [] [] id ?_
  refine seq_in ?_
  rcases oC H with ⟨c26, H⟩ | ⟨c26, H⟩
  ·refine it c26 ?_
   refine sk ?_
   refine seq_in ?_
   refine ends_blk ?_
   obtain ⟨v27, h28, H⟩ := oB H
   refine sn [.cs (eI v27)] [] [(7, cI x24), (8, cI v27)] [] [] (a2 eI h28) ?_
   obtain ⟨v29, h30, H⟩ := oB H
   rcases oC H with ⟨c31, H⟩ | ⟨c31, H⟩
   ·refine sn ([.res (cB v29)] ++ rg 5 true []) [] [(33, cB true)] [] [] (fun t => aI (s_l1In_ok v27 p1 p2 v29 h30) (aG 5 c31 (t))) ?_
    refine it rT ?_
    refine so [] [] [(6, cB false)] [] id ?_
    refine ends_ret ?_
    cases H
    exact rsr
   ·rcases oC H with ⟨c32, H⟩ | ⟨c32, H⟩
    ·obtain ⟨v33, h34, H⟩ := oB H
     refine sn ([.res (cB v29)] ++ rg 3 false (rg 4 true ([.cs (eI v33)] ++ rg 3 true [.g false, .g true, .g false]))) [] [(33, cB (decide (v33 ≥ v27)))] [] [] (fun t => aI (s_l1In_ok v27 p1 p2 v29 h30) (aG 3 c31 (aG 4 c32 ((a2 eI h34 (aG 3 c32 (aI c31 (aI c32 (aI c31 (t)))))))))) ?_
     rcases oC H with ⟨c35, H⟩ | ⟨c35, H⟩
     ·refine it c35 ?_
      refine so [] [] [(6, cB false)] [] id ?_
      refine ends_ret ?_
      cases H
      exact rsr
     ·refine jf c35 ?_
      refine sk ?_
      refine oo [] [] [(0, dc 1 eI zI p0), (1, cI p1), (2, cI p2), (9, dc 1 eI zI p0), (10, cL p0), (11, cI (W (x24 + 1)))] [] id ?_
      cases H
      exact rr
    ·refine sn ([.res (cB v29)] ++ rg 13 false []) [] [(33, cB false)] [] [] (fun t => aI (s_l1In_ok v27 p1 p2 v29 h30) (aG 3 c31 (aG 7 c32 (aI c31 (aI c32 (aI c31 (t))))))) ?_
     refine jf rF ?_
     refine sk ?_
     refine oo [] [] [(0, dc 1 eI zI p0), (1, cI p1), (2, cI p2), (9, dc 1 eI zI p0), (10, cL p0), (11, cI (W (x24 + 1)))] [] id ?_
     cases H
     exact rr
  ·refine jf c26 ?_
   refine tl [] [] [] id ?_
   refine ends_exit ?_
   cases H
   exact rse
 ·clear h37
  cases y36 with
  | inl y38 =>
   replace H := ofInl H
   rintro e s ⟨rfl, rfl⟩
   change EndsI _ _ _ _ _ _
   refine so [] [] [(6, cB true)] [] id ?_
   cases H
   exact er
  | inr y39 =>
   replace H := ofInr H
   rintro e s ⟨rfl, rfl⟩
   cases H
   exact qr
def s_mIndex_ir : S :=
 (sq [o 2 (.box 5 (.t 0)), o 3 (.box 2 (.t 1)), o 4 (.mv (iv 0))]
 (.seq (sq [oa 5 0 3, ol 6 5, oa 7 0 2, ol 8 7, o 9 (.bin .sub (.t 8) (iv 1)), o 10 (.call 55 [.t 6, .v (.int .i64 0), .t 9]), o 11 (.not (.t 10)), om 12 11, og 13 (.fad 1 (.t 3)) 12, og 14 (.load 1 false (.t 13)) 12, og 15 (.fad 1 (.t 2)) 12, og 16 (.load 1 false (.t 15)) 12, og 17 (.bin .sub (.t 16) (iv 1)) 12, og 18 (.call 55 [.t 14, .v (.int .i64 0), .t 17]) 12, og 19 (.not (.t 18)) 12, o 20 (.pick (.t 12) bT (.t 19))]
 (.ite (.t 20) (sq [o 4 (.mv (.v (.int .i64 (-1))))]
  .ret)
 .skip))
 (sq [oa 21 1 3, ol 22 21, oa 23 0 2, ol 24 23, o 25 (.bin .mul (.t 22) (.t 24)), oa 26 0 3, ol 27 26, o 28 (.bin .add (.t 25) (.t 27)), om 4 28]
 .ret)))
noncomputable def X.s_mIndex (p0 : TMap) (p1 : THex) : Option Int :=
 ((X.s_l1In p1.Q 0 (W (p0.Width - 1))).bind fun v7 => (bif (!v7) then some (-1) else ((X.s_l1In p1.R 0 (W (p0.Height - 1))).bind fun v10 => (bif (!v10) then some (-1) else some (W ((W (p1.R * p0.Width)) + p1.Q))))))
theorem s_mIndex_ok (p0 : TMap) (p1 : THex) (r : Int) (H : X.s_mIndex p0 p1 = some r) : FK 204 [.agg (eTMap p0), .agg (eTHex p1)] (cI r) := by
 unfold X.s_mIndex at H
 refine fi Tryz.f204 s_mIndex_ir [(4, cI r)] [] glL Tryz.func204 ?_
 refine so [] [] [(2, pk 2), (3, pk 3)] [(2, va (eTMap p0)), (3, va (eTHex p1))] id ?_
 refine seq_in ?_
 obtain ⟨v7, h8, H⟩ := oB H
 rcases oC H with ⟨c9, H⟩ | ⟨c9, H⟩
 ·refine sn ([.res (cB v7)] ++ rg 8 true []) [] [(20, cB true)] [] [] (fun t => aI (s_l1In_ok p1.Q 0 (W (p0.Width - 1)) v7 h8) (aG 8 c9 (t))) ?_
  refine it rT ?_
  refine so [] [] [(4, cI (-1))] [] id ?_
  cases H
  exact er
 ·obtain ⟨v10, h11, H⟩ := oB H
  refine sn ([.res (cB v7)] ++ rg 6 false ([.res (cB v10)] ++ rg 2 false [])) [] [(20, cB (!v10))] [] [] (fun t => aI (s_l1In_ok p1.Q 0 (W (p0.Width - 1)) v7 h8) (aG 6 c9 (aI (s_l1In_ok p1.R 0 (W (p0.Height - 1)) v10 h11) (aG 2 c9 (t))))) ?_
  rcases oC H with ⟨c12, H⟩ | ⟨c12, H⟩
  ·refine it c12 ?_
   refine so [] [] [(4, cI (-1))] [] id ?_
   cases H
   exact er
  ·refine jf c12 ?_
   refine sk ?_
   refine so [] [] [(4, cI (W ((W (p1.R * p0.Width)) + p1.Q)))] [] id ?_
   cases H
   exact er
def s_hStep_ir : S :=
 (sq [o 2 (.box 2 (.t 0)), o 4 (.alloc [.int .i64 0, .int .i64 0])]
 (.seq (.drw [(0, 2), (1, 2), (0, 3), (1, 3), (2, 3), (0, 4), (1, 4), (0, 5), (1, 5), (0, 7), (1, 7), (2, 7), (3, 7), (4, 7), (5, 7), (6, 7), (0, 8), (1, 8), (2, 8), (3, 8), (4, 8), (5, 8), (6, 8), (0, 9), (1, 9), (2, 9), (3, 9), (4, 9), (5, 9), (6, 9), (7, 9), (8, 9), (0, 10), (1, 10), (2, 10), (3, 10), (4, 10), (5, 10), (6, 10), (7, 10), (8, 10), (9, 10), (0, 11), (1, 11), (2, 11), (3, 11), (4, 11), (5, 11), (6, 11), (7, 11), (8, 11), (0, 12), (1, 12), (2, 12), (3, 12), (4, 12), (5, 12), (6, 12), (7, 12), (8, 12), (0, 13), (1, 13), (2, 13), (3, 13), (4, 13), (5, 13), (6, 13)] [oa 5 0 2, ol 6 5, o 7 (.bsl 1 [.v (.int .i64 1), .v (.int .i64 1), .v (.int .i64 0), .v (.int .i64 (-1)), .v (.int .i64 (-1)), .v (.int .i64 0)]), om 8 1, o 9 (.iad 1 (.t 7) (.t 8)), ol 10 9, o 11 (.bin .add (.t 6) (.t 10)), oa 12 1 2, ol 13 12, o 14 (.bsl 1 [.v (.int .i64 0), .v (.int .i64 (-1)), .v (.int .i64 (-1)), .v (.int .i64 0), .v (.int .i64 1), .v (.int .i64 1)]), om 15 1, o 16 (.iad 1 (.t 14) (.t 15)), ol 17 16, o 18 (.bin .add (.t 13) (.t 17)), o 19 (.build [.int .i64 0, .int .i64 0] [(0, 1, .t 11), (1, 1, .t 18)]), os 2 4 19])
 .ret))
noncomputable def X.s_hStep (p0 : THex) (p1 : Int) : Option THex :=
 (if 0 ≤ p1 ∧ p1 < (([1, 1, 0, -1, -1, 0] : List Int).length : Int) then (if 0 ≤ p1 ∧ p1 < (([0, -1, -1, 0, 1, 1] : List Int).length : Int) then some (THex.mk (W (p0.Q + (([1, 1, 0, -1, -1, 0] : List Int).getD p1.toNat zI))) (W (p0.R + (([0, -1, -1, 0, 1, 1] : List Int).getD p1.toNat zI)))) else none) else none)
theorem s_hStep_ok (p0 : THex) (p1 : Int) (r : THex) (H : X.s_hStep p0 p1 = some r) : FK 205 [.agg (eTHex p0), cI p1] (.agg (eTHex r)) := by
 unfold X.s_hStep at H
 refine fi Tryz.f205 s_hStep_ir [(4, pk 4)] [(4, va (eTHex r))] glL Tryz.func205 ?_
 refine sn [] [] [(2, pk 2), (4, pk 4)] [] [(2, va (eTHex p0)), (4, .var [jI 0, jI 0] false)] id ?_
 obtain ⟨g1, H⟩ := oI H
 obtain ⟨g2, H⟩ := oI H
 refine xn [.no, fh eI zI ([1, 1, 0, -1, -1, 0] : List Int), .no, .no, fh eI zI ([0, -1, -1, 0, 1, 1] : List Int), .no] [] [] [4] [(4, .var [jI (W (p0.Q + (([1, 1, 0, -1, -1, 0] : List Int).getD p1.toNat zI))), jI (W (p0.R + (([0, -1, -1, 0, 1, 1] : List Int).getD p1.toNat zI)))] false)] (fun t => aI (rfl : ([1, 1, 0, -1, -1, 0] : List Int).length = 6) (aI rT (aI (fF_lit eI zI ([1, 1, 0, -1, -1, 0] : List Int)) (aI g1 (aI (nat_lt g1) (aI rN (aI (rfl : ([0, -1, -1, 0, 1, 1] : List Int).length = 6) (aI rT (aI (fF_lit eI zI ([0, -1, -1, 0, 1, 1] : List Int)) (aI g2 (aI (nat_lt g2) (aI rN (t))))))))))))) ?_
 refine tl [] [(4, pk 4)] [(4, .var [jI (W (p0.Q + (([1, 1, 0, -1, -1, 0] : List Int).getD p1.toNat zI))), jI (W (p0.R + (([0, -1, -1, 0, 1, 1] : List Int).getD p1.toNat zI)))] false)] id ?_
 cases H
 exact er
def s_mHex_ir : S :=
 (sq [o 2 (.box 5 (.t 0)), o 4 (.alloc [.int .i64 0, .int .i64 0])]
 (.seq (.drw [(0, 1), (0, 2), (0, 4), (1, 4), (2, 4), (3, 4), (0, 5), (1, 5), (2, 5), (3, 5), (4, 5), (0, 6), (1, 6), (2, 6), (3, 6), (4, 6), (0, 7), (1, 7), (2, 7), (3, 7)] [om 5 1, oa 6 0 2, ol 7 6, o 8 (.bin .rem (.t 5) (.t 7)), om 9 1, oa 10 0 2, ol 11 10, o 12 (.bin .quo (.t 9) (.t 11)), o 13 (.build [.int .i64 0, .int .i64 0] [(0, 1, .t 8), (1, 1, .t 12)]), os 2 4 13])
 .ret))
noncomputable def X.s_mHex (p0 : TMap) (p1 : Int) : Option THex :=
 (if p0.Width ≠ 0 then (if p0.Width ≠ 0 then some (THex.mk (Int.tmod p1 p0.Width) (W (Int.tdiv p1 p0.Width))) else none) else none)
theorem s_mHex_ok (p0 : TMap) (p1 : Int) (r : THex) (H : X.s_mHex p0 p1 = some r) : FK 206 [.agg (eTMap p0), cI p1] (.agg (eTHex r)) := by
 unfold X.s_mHex at H
 refine fi Tryz.f206 s_mHex_ir [(4, pk 4)] [(4, va (eTHex r))] glL Tryz.func206 ?_
 refine sn [] [] [(2, pk 2), (4, pk 4)] [] [(2, va (eTMap p0)), (4, .var [jI 0, jI 0] false)] id ?_
 obtain ⟨g1, H⟩ := oI H
 obtain ⟨g2, H⟩ := oI H
 refine xn [] [] [] [4] [(4, .var [jI (Int.tmod p1 p0.Width), jI (W (Int.tdiv p1 p0.Width))] false)] (fun t => aI g1 (aI g2 (t))) ?_
 refine tl [] [(4, pk 4)] [(4, .var [jI (Int.tmod p1 p0.Width), jI (W (Int.tdiv p1 p0.Width))] false)] id ?_
 cases H
 exact er
def s_mNext_ir : S :=
 (sq [o 3 (.box 5 (.t 0)), o 6 (.mv (iv 0))]
 (.seq (.drw [(0, 1), (0, 2), (1, 2), (0, 3), (0, 4), (1, 4), (2, 4), (3, 4), (0, 5)] [o 7 (.load 5 true (.t 3)), o 8 (.load 5 true (.t 3)), om 9 1, o 10 (.call 206 [.t 8, .t 9]), om 11 2, o 12 (.call 205 [.t 10, .t 11]), o 13 (.call 204 [.t 7, .t 12]), om 6 13])
 .ret))
noncomputable def X.s_mNext (p0 : TMap) (p1 : Int) (p2 : Int) : Option Int :=
 ((X.s_mHex p0 p1).bind fun v1 => ((X.s_hStep v1 p2).bind fun v3 => ((X.s_mIndex p0 v3).bind fun v5 => some v5)))
theorem s_mNext_ok (p0 : TMap) (p1 : Int) (p2 : Int) (r : Int) (H : X.s_mNext p0 p1 p2 = some r) : FK 162 [.agg (eTMap p0), cI p1, cI p2] (cI r) := by
 unfold X.s_mNext at H
 refine fi Tryz.f162 s_mNext_ir [(6, cI r)] [] glL Tryz.func162 ?_
 refine sn [] [] [(3, pk 3)] [] [(3, va (eTMap p0))] id ?_
 obtain ⟨v1, h2, H⟩ := oB H
 obtain ⟨v3, h4, H⟩ := oB H
 obtain ⟨v5, h6, H⟩ := oB H
 refine sx [.res (.agg (eTHex v1)), .res (.agg (eTHex v3)), .res (cI v5)] [] [(6, cI v5)] [] (fun t => aI (s_mHex_ok p0 p1 v1 h2) (aI trivial (aI rN (aI (s_hStep_ok v1 p2 v3 h4) (aI trivial (aI rN (aI (s_mIndex_ok p0 v3 v5 h6) (aI trivial (aI rN (t)))))))))) ?_
 cases H
 exact er
def s_mEdges_ir : S :=
 (sq [o 2 (.box 5 (.t 0)), o 4 (.mv bF)]
 (.seq (sq [om 7 1, o 8 (.len (.t 7)), o 9 (.mv (iv 0))]
 (.blk 0 (.loop (sq [o 10 (.bin .lss (.t 9) (.t 8))]
   (.seq (.ite (.t 10) .skip
   (.exit 0))
   (.seq (.blk 1 (sq [o 11 (.iad 1 (.t 7) (.t 9)), ol 12 11, om 6 12]
    (sq [om 13 6, o 14 (.load 5 true (.t 2)), o 15 (.call 80 [.t 14]), o 16 (.bin .mul (iv 3) (.t 15)), o 17 (.bin .sub (.t 16) (iv 1)), o 18 (.call 55 [.t 13, .v (.int .i64 0), .t 17]), o 19 (.not (.t 18)), om 20 19, og 21 (.load 5 true (.t 2)) 20, og 22 (.mv (.t 6)) 20, og 23 (.bin .quo (.t 22) (iv 3)) 20, og 24 (.mv (.t 6)) 20, og 25 (.bin .rem (.t 24) (iv 3)) 20, og 26 (.call 162 [.t 21, .t 23, .t 25]) 20, og 27 (.bin .lss (.t 26) (iv 0)) 20, o 28 (.pick (.t 20) bT (.t 27))]
    (.ite (.t 28) (sq [o 4 (.mv bF)]
     .ret)
    .skip))))
   (.ops [o 29 (.bin .add (.t 9) (iv 1)), om 9 29])))))))
 (sq [om 30 1, o 31 (.load 5 true (.t 2)), o 32 (.call 80 [.t 31]), o 33 (.bin .mul (iv 3) (.t 32)), o 34 (.bin .sub (.t 33) (iv 1)), o 35 (.call 79 [.t 30, .v (.int .i64 0), .t 34]), om 4 35]
 .ret)))
noncomputable def X.s_mEdges (p0 : TMap) (p1 : (List Int)) : Option Bool :=
 ((loop (fun (x68 : Int) => ((bif (decide (x68 < (p1.length : Int))) then ((at' zI p1 x68).bind fun v71 => ((X.s_mSize p0).bind fun v73 => ((X.s_l1In v71 0 (W ((W (3 * v73)) - 1))).bind fun v75 => (bif (!v75) then some (Sum.inr (Sum.inr false)) else ((X.s_mNext p0 (W (Int.tdiv v71 3)) (Int.tmod v71 3)).bind fun v78 => (bif (decide (v78 < 0)) then some (Sum.inr (Sum.inr false)) else some (Sum.inl (W (x68 + 1))))))))) else some (Sum.inr (Sum.inl ()))) : Option (Int ⊕ (Unit ⊕ Bool)))) 0).bind fun y81 => (Sum.elim (fun (y83 : Unit) => ((X.s_mSize p0).bind fun v85 => ((X.s_l1Rising p1 0 (W ((W (3 * v85)) - 1))).bind fun v87 => some v87))) (fun (y84 : Bool) => some y84) y81))
theorem s_mEdges_ok (p0 : TMap) (p1 : (List Int)) (r : Bool) (H : X.s_mEdges p0 p1 = some r) : FK 137 [.agg (eTMap p0), .c (dat 1 eI zI p1)] (cB r) := by
 unfold X.s_mEdges at H
 refine fi Tryz.f137 s_mEdges_ir [(4, cB r)] [] glL Tryz.func137 ?_
 refine sn [] [] [(2, pk 2)] [] [(2, va (eTMap p0))] id ?_
 refine seq_in ?_
 refine sn [] [] [(7, dc 1 eI zI p1), (8, cL p1), (9, cI 0)] [] [] (fun t => lI p1 (t)) ?_
 refine ends_blk ?_
 obtain ⟨y81, h82, H⟩ := oB H
 refine tl [] [(1, dc 1 eI zI p1), (2, pk 2), (7, dc 1 eI zI p1), (8, cL p1), (9, cI 0)] [(2, va (eTMap p0))] id ?_
 refine loop_in (fun (x : Int) => lit [(1, dc 1 eI zI p1), (2, pk 2), (7, dc 1 eI zI p1), (8, cL p1), (9, cI x)] [(2, va (eTMap p0))]) (orJ (fun (z : Unit) => At (.exit 0) (lit [(1, dc 1 eI zI p1), (2, pk 2)] [(2, va (eTMap p0))])) (fun (z : Bool) => At .ret (lit [(4, cB z)] []))) h82 ?_ ?_
 ·clear H h82
  intro x68 y0 H
  refine sn [] [] [(10, cB (decide (x68 < (p1.length : Int))))] [] [] id ?_
  refine seq_in ?_
  rcases oC H with ⟨c70, H⟩ | ⟨c70, H⟩
  ·refine it c70 ?_
   refine sk ?_
   refine seq_in ?_
   refine ends_blk ?_
   obtain ⟨v71, h72, H⟩ := oB H
   refine sn [.cs (eI v71)] [] [(6, cI v71)] [] [] (a2 eI h72) ?_
   obtain ⟨v73, h74, H⟩ := oB H
   obtain ⟨v75, h76, H⟩ := oB H
   rcases oC H with ⟨c77, H⟩ | ⟨c77, H⟩
   ·refine sn ([.res (cI v73), .res (cB v75)] ++ rg 8 true []) [] [(28, cB true)] [] [] (fun t => aI (s_mSize_ok p0 v73 h74) (aI (s_l1In_ok v71 0 (W ((W (3 * v73)) - 1)) v75 h76) (aG 8 c77 (t)))) ?_
    refine it rT ?_
    refine so [] [] [(4, cB false)] [] id ?_
    refine ends_ret ?_
    cases H
    exact rsr
   ·obtain ⟨v78, h79, H⟩ := oB H
    refine sn ([.res (cI v73), .res (cB v75)] ++ rg 6 false ([.res (cI v78)] ++ rg 2 false [])) [] [(28, cB (decide (v78 < 0)))] [] [] (fun t => aI (s_mSize_ok p0 v73 h74) (aI (s_l1In_ok v71 0 (W ((W (3 * v73)) - 1)) v75 h76) (aG 3 c77 (aI (by decide : (3 : Int) ≠ 0) (aG 2 c77 (aI (by decide : (3 : Int) ≠ 0) (aI c77 (aI (s_mNext_ok p0 (W (Int.tdiv v71 3)) (Int.tmod v71 3) v78 h79) (aG 2 c77 (t)))))))))) ?_
    rcases oC H with ⟨c80, H⟩ | ⟨c80, H⟩
    ·refine it c80 ?_
     refine so [] [] [(4, cB false)] [] id ?_
     refine ends_ret ?_
     cases H
     exact rsr
    ·refine jf c80 ?_
     refine sk ?_
     refine oo [] [] [(1, dc 1 eI zI p1), (2, pk 2), (7, dc 1 eI zI p1), (8, cL p1), (9, cI (W (x68 + 1)))] [(2, va (eTMap p0))] id ?_
     cases H
     exact rr
  ·refine jf c70 ?_
   refine tl [] [(1, dc 1 eI zI p1), (2, pk 2)] [(2, va (eTMap p0))] id ?_
   refine ends_exit ?_
   cases H
   exact rse
 ·clear h82
  cases y81 with
  | inl y83 =>
   replace H := ofInl H
   rintro e s ⟨rfl, rfl⟩
   change EndsI _ _ _ _ _ _
   obtain ⟨v85, h86, H⟩ := oB H
   obtain ⟨v87, h88, H⟩ := oB H
   refine so [.res (cI v85), .res (cB v87)] [] [(4, cB v87)] [] (fun t => aI (s_mSize_ok p0 v85 h86) (aI (s_l1Rising_ok p1 0 (W ((W (3 * v85)) - 1)) v87 h88) (t))) ?_
   cases H
   exact er
  | inr y84 =>
   replace H := ofInr H
   rintro e s ⟨rfl, rfl⟩
   cases H
   exact qr
def s_mGood_ir : S :=
 (sq [o 1 (.box 5 (.t 0)), o 2 (.mv bF)]
 (.seq (.drw [(9, 12), (10, 12), (11, 12), (9, 13), (10, 13), (11, 13), (22, 23), (22, 24), (28, 29), (28, 30)] [oa 3 0 1, ol 4 3, o 5 (.call 55 [.t 4, .v (.int .i64 1), .v (.int .i64 10)]), om 6 5, oh 7 (.fad 1 (.t 1)) 6, oh 8 (.load 1 false (.t 7)) 6, oh 9 (.call 55 [.t 8, .v (.int .i64 1), .v (.int .i64 10)]) 6, o 10 (.pick (.t 6) (.t 9) bF), om 11 10, oh 12 (.fad 2 (.t 1)) 11, oh 13 (.load 1 false (.t 12)) 11, oh 14 (.len (.t 13)) 11, oh 15 (.load 5 true (.t 1)) 11, oh 16 (.call 80 [.t 15]) 11, oh 17 (.bin .eql (.t 14) (.t 16)) 11, o 18 (.pick (.t 11) (.t 17) bF), om 19 18, oh 20 (.fad 2 (.t 1)) 19, oh 21 (.load 1 false (.t 20)) 19, oh 22 (.call 74 [.t 21, .v (.int .i64 0), .v (.int .i64 5)]) 19, o 23 (.pick (.t 19) (.t 22) bF), om 24 23, oh 25 (.load 5 true (.t 1)) 24, oh 26 (.fad 3 (.t 1)) 24, oh 27 (.load 1 false (.t 26)) 24, oh 28 (.call 137 [.t 25, .t 27]) 24, o 29 (.pick (.t 24) (.t 28) bF), om 30 29, oh 31 (.load 5 true (.t 1)) 30, oh 32 (.fad 4 (.t 1)) 30, oh 33 (.load 1 false (.t 32)) 30, oh 34 (.call 137 [.t 31, .t 33]) 30, o 35 (.pick (.t 30) (.t 34) bF), om 2 35])
 .ret))
noncomputable def X.s_mGood (p0 : TMap) : Option Bool :=
 ((X.s_l1In p0.Width 1 10).bind fun v1 => (bif v1 then ((X.s_l1In p0.Height 1 10).bind fun v4 => (bif v4 then ((X.s_mSize p0).bind fun v7 => (bif ((p0.Terrain.length : Int) == v7) then ((X.s_l1All p0.Terrain 0 5).bind fun v10 => (bif v10 then ((X.s_mEdges p0 p0.Rivers).bind fun v13 => (bif v13 then ((X.s_mEdges p0 p0.Roads).bind fun v16 => some v16) else some false)) else some false)) else some false)) else some false)) else some false))
theorem s_mGood_ok (p0 : TMap) (r : Bool) (H : X.s_mGood p0 = some r) : FK 73 [.agg (eTMap p0)] (cB r) := by
 unfold X.s_mGood at H
 refine fi Tryz.f73 s_mGood_ir [(2, cB r)] [] glL Tryz.func73 ?_
 refine so [] [] [(1, pk 1)] [(1, va (eTMap p0))] id ?_
 obtain ⟨v1, h2, H⟩ := oB H
 rcases oC H with ⟨c3, H⟩ | ⟨c3, H⟩
 ·obtain ⟨v4, h5, H⟩ := oB H
  rcases oC H with ⟨c6, H⟩ | ⟨c6, H⟩
  ·obtain ⟨v7, h8, H⟩ := oB H
   rcases oC H with ⟨c9, H⟩ | ⟨c9, H⟩
   ·obtain ⟨v10, h11, H⟩ := oB H
    rcases oC H with ⟨c12, H⟩ | ⟨c12, H⟩
    ·obtain ⟨v13, h14, H⟩ := oB H
     rcases oC H with ⟨c15, H⟩ | ⟨c15, H⟩
     ·obtain ⟨v16, h17, H⟩ := oB H
      refine sx ([.res (cB v1)] ++ rg 3 true ([.res (cB v4)] ++ rg 6 true ([.res (cI v7)] ++ rg 5 true ([.res (cB v10)] ++ rg 5 true ([.res (cB v13)] ++ rg 5 true [.res (cB v16), .g true]))))) [] [(2, cB v16)] [] (fun t => aI (s_l1In_ok p0.Width 1 10 v1 h2) (aI trivial (aI rN (aG 3 c3 (aI (s_l1In_ok p0.Height 1 10 v4 h5) (aI trivial (aI rN (aI c3 (aG 5 c6 (aI (s_mSize_ok p0 v7 h8) (aI trivial (aI rN (aG 2 c6 (aG 3 c9 (aI (s_l1All_ok p0.Terrain 0 5 v10 h11) (aI trivial (aI rN (aI c9 (aG 4 c12 (aI (s_mEdges_ok p0 p0.Rivers v13 h14) (aI trivial (aI rN (aI c12 (aG 4 c15 (aI (s_mEdges_ok p0 p0.Roads v16 h17) (aI trivial (aI rN (aI c15 (t))))))))))))))))))))))))))))) ?_
      cases H
      exact er
     ·refine sx ([.res (cB v1)] ++ rg 3 true ([.res (cB v4)] ++ rg 6 true ([.res (cI v7)] ++ rg 5 true ([.res (cB v10)] ++ rg 5 true ([.res (cB v13), .g true] ++ rg 5 false []))))) [] [(2, cB false)] [] (fun t => aI (s_l1In_ok p0.Width 1 10 v1 h2) (aI trivial (aI rN (aG 3 c3 (aI (s_l1In_ok p0.Height 1 10 v4 h5) (aI trivial (aI rN (aI c3 (aG 5 c6 (aI (s_mSize_ok p0 v7 h8) (aI trivial (aI rN (aG 2 c6 (aG 3 c9 (aI (s_l1All_ok p0.Terrain 0 5 v10 h11) (aI trivial (aI rN (aI c9 (aG 4 c12 (aI (s_mEdges_ok p0 p0.Rivers v13 h14) (aI trivial (aI rN (aI c12 (aG 5 c15 (t))))))))))))))))))))))))) ?_
      cases H
      exact er
    ·refine sx ([.res (cB v1)] ++ rg 3 true ([.res (cB v4)] ++ rg 6 true ([.res (cI v7)] ++ rg 5 true ([.res (cB v10), .g true] ++ rg 10 false [])))) [] [(2, cB false)] [] (fun t => aI (s_l1In_ok p0.Width 1 10 v1 h2) (aI trivial (aI rN (aG 3 c3 (aI (s_l1In_ok p0.Height 1 10 v4 h5) (aI trivial (aI rN (aI c3 (aG 5 c6 (aI (s_mSize_ok p0 v7 h8) (aI trivial (aI rN (aG 2 c6 (aG 3 c9 (aI (s_l1All_ok p0.Terrain 0 5 v10 h11) (aI trivial (aI rN (aI c9 (aG 5 c12 (aG 5 rF (t))))))))))))))))))))) ?_
     cases H
     exact er
   ·refine sx ([.res (cB v1)] ++ rg 3 true ([.res (cB v4)] ++ rg 6 true ([.res (cI v7)] ++ rg 2 true (rg 14 false [])))) [] [(2, cB false)] [] (fun t => aI (s_l1In_ok p0.Width 1 10 v1 h2) (aI trivial (aI rN (aG 3 c3 (aI (s_l1In_ok p0.Height 1 10 v4 h5) (aI trivial (aI rN (aI c3 (aG 5 c6 (aI (s_mSize_ok p0 v7 h8) (aI trivial (aI rN (aG 2 c6 (aG 4 c9 (aG 10 rF (t)))))))))))))))) ?_
    cases H
    exact er
  ·refine sx ([.res (cB v1)] ++ rg 3 true ([.res (cB v4), .g true] ++ rg 21 false [])) [] [(2, cB false)] [] (fun t => aI (s_l1In_ok p0.Width 1 10 v1 h2) (aI trivial (aI rN (aG 3 c3 (aI (s_l1In_ok p0.Height 1 10 v4 h5) (aI trivial (aI rN (aI c3 (aG 7 c6 (aG 14 rF (t))))))))))) ?_
   cases H
   exact er
 ·refine sx ([.res (cB v1)] ++ rg 25 false []) [] [(2, cB false)] [] (fun t => aI (s_l1In_ok p0.Width 1 10 v1 h2) (aI trivial (aI rN (aG 4 c3 (aG 21 rF (t)))))) ?_
  cases H
  exact er
def s_bGood_ir : S :=
 (sq [o 1 (.box 12 (.t 0)), o 2 (.mv bF)]
 (sq [oa 3 0 1, o 4 (.load 7 true (.t 3)), o 5 (.call 72 [.t 4]), om 6 5, oh 7 (.fad 7 (.t 1)) 6, oh 8 (.load 5 true (.t 7)) 6, oh 9 (.call 73 [.t 8]) 6, o 10 (.pick (.t 6) (.t 9) bF), om 11 10, oh 12 (.fad 7 (.t 1)) 11, oh 13 (.fad 2 (.t 12)) 11, oh 14 (.load 1 false (.t 13)) 11, oh 15 (.fad 0 (.t 1)) 11, oh 16 (.fad 0 (.t 15)) 11, oh 17 (.load 1 false (.t 16)) 11, oh 18 (.len (.t 17)) 11, oh 19 (.bin .sub (.t 18) (iv 1)) 11, oh 20 (.call 74 [.t 14, .v (.int .i64 0), .t 19]) 11, o 21 (.pick (.t 11) (.t 20) bF), om 2 21]
 .ret))
noncomputable def X.s_bGood (p0 : TBoard) : Option Bool :=
 ((X.s_rGood p0.Rules).bind fun v1 => (bif v1 then ((X.s_mGood p0.Map).bind fun v4 => (bif v4 then ((X.s_l1All p0.Map.Terrain 0 (W ((p0.Rules.Terrains.length : Int) - 1))).bind fun v7 => some v7) else some false)) else some false))
theorem s_bGood_ok (p0 : TBoard) (r : Bool) (H : X.s_bGood p0 = some r) : FK 30 [.agg (eTBoard p0)] (cB r) := by
 unfold X.s_bGood at H
 refine fi Tryz.f30 s_bGood_ir [(2, cB r)] [] glL Tryz.func30 ?_
 refine so [] [] [(1, pk 1)] [(1, va (eTBoard p0))] id ?_
 obtain ⟨v1, h2, H⟩ := oB H
 rcases oC H with ⟨c3, H⟩ | ⟨c3, H⟩
 ·obtain ⟨v4, h5, H⟩ := oB H
  rcases oC H with ⟨c6, H⟩ | ⟨c6, H⟩
  ·obtain ⟨v7, h8, H⟩ := oB H
   refine so ([.res (cB v1)] ++ rg 3 true ([.res (cB v4)] ++ rg 10 true [.res (cB v7), .g true])) [] [(2, cB v7)] [] (fun t => aI (s_rGood_ok p0.Rules v1 h2) (aG 3 c3 (aI (s_mGood_ok p0.Map v4 h5) (aI c3 (aG 7 c6 (lI p0.Rules.Terrains (aG 2 c6 (aI (s_l1All_ok p0.Map.Terrain 0 (W ((p0.Rules.Terrains.length : Int) - 1)) v7 h8) (aI c6 (t)))))))))) ?_
   cases H
   exact er
  ·refine so ([.res (cB v1)] ++ rg 3 true ([.res (cB v4), .g true] ++ rg 10 false [])) [] [(2, cB false)] [] (fun t => aI (s_rGood_ok p0.Rules v1 h2) (aG 3 c3 (aI (s_mGood_ok p0.Map v4 h5) (aI c3 (aG 10 c6 (t)))))) ?_
   cases H
   exact er
 ·refine so ([.res (cB v1)] ++ rg 14 false []) [] [(2, cB false)] [] (fun t => aI (s_rGood_ok p0.Rules v1 h2) (aG 4 c3 (aG 10 rF (t)))) ?_
  cases H
  exact er
def s_bTerrain_ir : S :=
 (sq [o 2 (.box 12 (.t 0)), o 4 (.alloc [.str [], .nil, .int .i64 0, .int .i64 0, .bool false])]
 (.seq (.drw [(0, 3), (1, 3), (2, 3), (0, 4), (1, 4), (2, 4), (0, 5), (1, 5), (2, 5), (0, 6), (1, 6), (2, 6), (3, 6), (4, 6), (5, 6), (0, 7), (1, 7), (2, 7), (0, 8), (1, 8), (2, 8)] [oa 5 0 2, oa 6 0 5, ol 7 6, oa 8 7 2, oa 9 2 8, ol 10 9, om 11 1, o 12 (.iad 1 (.t 10) (.t 11)), ol 13 12, o 14 (.iad 5 (.t 7) (.t 13)), o 15 (.load 5 true (.t 14)), os 5 4 15])
 .ret))
noncomputable def X.s_bTerrain (p0 : TBoard) (p1 : Int) : Option TTerrain :=
 ((at' zI p0.Map.Terrain p1).bind fun v1 => ((at' zTTerrain p0.Rules.Terrains v1).bind fun v3 => some v3))
theorem s_bTerrain_ok (p0 : TBoard) (p1 : Int) (r : TTerrain) (H : X.s_bTerrain p0 p1 = some r) : FK 220 [.agg (eTBoard p0), cI p1] (.agg (eTTerrain r)) := by
 unfold X.s_bTerrain at H
 refine fi Tryz.f220 s_bTerrain_ir [(4, pk 4)] [(4, va (eTTerrain r))] glL Tryz.func220 ?_
 refine sn [] [] [(2, pk 2), (4, pk 4)] [] [(2, va (eTBoard p0)), (4, .var [.str [], .nil, jI 0, jI 0, .bool false] false)] id ?_
 obtain ⟨v1, h2, H⟩ := oB H
 obtain ⟨v3, h4, H⟩ := oB H
 refine xn [.cs (eI v1), .cs (eTTerrain v3)] [] [] [4] [(4, va (eTTerrain v3))] (fun t => (a2 eI h2 (aI rN ((a2 eTTerrain h4 (aI rN (t))))))) ?_
 refine tl [] [(4, pk 4)] [(4, va (eTTerrain v3))] id ?_
 cases H
 exact er
def s_bCost_ir : S :=
 (sq [o 3 (.box 12 (.t 0)), o 6 (.mv (iv 0))]
 (sq [o 7 (.load 12 true (.t 3)), om 8 2, o 9 (.call 220 [.t 7, .t 8]), o 10 (.fld 1 1 false (.t 9)), om 11 1, o 12 (.iad 1 (.t 10) (.t 11)), ol 13 12, om 6 13]
 .ret))
noncomputable def X.s_bCost (p0 : TBoard) (p1 : Int) (p2 : Int) : Option Int :=
 ((X.s_bTerrain p0 p2).bind fun v1 => ((at' zI v1.Cost p1).bind fun v3 => some v3))
theorem s_bCost_ok (p0 : TBoard) (p1 : Int) (p2 : Int) (r : Int) (H : X.s_bCost p0 p1 p2 = some r) : FK 173 [.agg (eTBoard p0), cI p1, cI p2] (cI r) := by
 unfold X.s_bCost at H
 refine fi Tryz.f173 s_bCost_ir [(6, cI r)] [] glL Tryz.func173 ?_
 refine sn [] [] [(3, pk 3)] [] [(3, va (eTBoard p0))] id ?_
 obtain ⟨v1, h2, H⟩ := oB H
 obtain ⟨v3, h4, H⟩ := oB H
 refine so [.res (.agg (eTTerrain v1)), .cs (eI v3)] [] [(6, cI v3)] [] (fun t => aI (s_bTerrain_ok p0 p2 v1 h2) ((a2 eI h4 (t)))) ?_
 cases H
 exact er
def s_sUnit_ir : S :=
 (sq [o 2 (.box 12 (.t 0)), o 3 (.box 4 (.t 1)), o 4 (.mv bF)]
 (.seq (.seq (.drw [(5, 7), (6, 7), (5, 8), (6, 8), (5, 9), (6, 9), (5, 10), (6, 10), (5, 11), (6, 11), (16, 18), (17, 18), (16, 19), (17, 19), (16, 20), (17, 20), (16, 21), (17, 21), (18, 21), (19, 21), (20, 21), (16, 22), (17, 22), (18, 22), (19, 22), (20, 22), (16, 23), (17, 23), (16, 24), (17, 24), (16, 25), (17, 25)] [oa 5 0 3, ol 6 5, o 7 (.call 55 [.t 6, .v (.int .i64 0), .v (.int .i64 1)]), o 8 (.not (.t 7)), om 9 8, og 10 (.fad 1 (.t 3)) 9, og 11 (.load 1 false (.t 10)) 9, og 12 (.fad 0 (.t 2)) 9, og 13 (.fad 1 (.t 12)) 9, og 14 (.load 1 false (.t 13)) 9, og 15 (.len (.t 14)) 9, og 16 (.bin .sub (.t 15) (iv 1)) 9, og 17 (.call 55 [.t 11, .v (.int .i64 0), .t 16]) 9, og 18 (.not (.t 17)) 9, o 19 (.pick (.t 9) bT (.t 18)), om 20 19, og 21 (.fad 3 (.t 3)) 20, og 22 (.load 1 false (.t 21)) 20, og 23 (.fad 0 (.t 2)) 20, og 24 (.fad 1 (.t 23)) 20, og 25 (.load 1 false (.t 24)) 20, og 26 (.fad 1 (.t 3)) 20, og 27 (.load 1 false (.t 26)) 20, og 28 (.iad 6 (.t 25) (.t 27)) 20, og 29 (.fad 3 (.t 28)) 20, og 30 (.load 1 false (.t 29)) 20, og 31 (.call 55 [.t 22, .v (.int .i64 0), .t 30]) 20, og 32 (.not (.t 31)) 20, o 33 (.pick (.t 20) bT (.t 32))])
 (.ite (.t 33) (sq [o 4 (.mv bF)]
  .ret)
 .skip))
 (.seq (.drw [(8, 10), (9, 10), (8, 11), (9, 11), (8, 12), (9, 12), (8, 13), (9, 13), (17, 18), (17, 19), (17, 20), (18, 20), (19, 20), (17, 21), (18, 21), (19, 21)] [oa 34 2 3, ol 35 34, o 36 (.bin .eql (.t 35) (.v (.int .i64 (-1)))), om 37 36, og 38 (.fad 3 (.t 3)) 37, og 39 (.load 1 false (.t 38)) 37, og 40 (.bin .gtr (.t 39) (iv 0)) 37, og 41 (.mv (.t 40)) 37, oh 42 (.fad 2 (.t 3)) 41, oh 43 (.load 1 false (.t 42)) 41, oh 44 (.fad 7 (.t 2)) 41, oh 45 (.load 5 true (.t 44)) 41, oh 46 (.call 80 [.t 45]) 41, oh 47 (.bin .sub (.t 46) (iv 1)) 41, oh 48 (.call 55 [.t 43, .v (.int .i64 0), .t 47]) 41, og 49 (.pick (.t 41) (.t 48) bF) 37, og 50 (.mv (.t 49)) 37, oh 51 (.load 12 true (.t 2)) 50, oh 52 (.fad 1 (.t 3)) 50, oh 53 (.load 1 false (.t 52)) 50, oh 54 (.fad 2 (.t 3)) 50, oh 55 (.load 1 false (.t 54)) 50, oh 56 (.call 173 [.t 51, .t 53, .t 55]) 50, oh 57 (.bin .gtr (.t 56) (iv 0)) 50, og 58 (.pick (.t 50) (.t 57) bF) 37, o 59 (.pick (.t 37) bT (.t 58)), om 4 59])
 .ret)))
noncomputable def X.s_sUnit (p0 : TBoard) (p1 : TUnit) : Option Bool :=
 ((X.s_l1In p1.Side 0 1).bind fun v12 => (bif (!v12) then some false else ((X.s_l1In p1.Kind 0 (W ((p0.Rules.Kinds.length : Int) - 1))).bind fun v15 => (bif (!v15) then some false else ((at' zTKind p0.Rules.Kinds p1.Kind).bind fun v18 => ((X.s_l1In p1.Steps 0 v18.Steps).bind fun v20 => (bif (!v20) then some false else (bif (p1.At == (-1)) then some true else (bif (decide (p1.Steps > 0)) then ((X.s_mSize p0.Map).bind fun v25 => ((X.s_l1In p1.At 0 (W (v25 - 1))).bind fun v27 => (bif v27 then ((X.s_bCost p0 p1.Kind p1.At).bind fun v30 => some (decide (v30 > 0))) else some false))) else some false)))))))))
theorem s_sUnit_ok (p0 : TBoard) (p1 : TUnit) (r : Bool) (H : X.s_sUnit p0 p1 = some r) : FK 128 [.agg (eTBoard p0), .agg (eTUnit p1)] (cB r) := by
 unfold X.s_sUnit at H
 refine fi Tryz.f128 s_sUnit_ir [(4, cB r)] [] glL Tryz.func128 ?_
 refine so [] [] [(2, pk 2), (3, pk 3)] [(2, va (eTBoard p0)), (3, va (eTUnit p1))] id ?_
 refine seq_in ?_
 obtain ⟨v12, h13, H⟩ := oB H
 rcases oC H with ⟨c14, H⟩ | ⟨c14, H⟩
 ·refine xn ([.res (cB v12)] ++ rg 23 true []) [] [(33, cB true)] [] [] (fun t => aI (s_l1In_ok p1.Side 0 1 v12 h13) (aI trivial (aI rN (aG 10 c14 (aG 13 rT (t)))))) ?_
  refine it rT ?_
  refine so [] [] [(4, cB false)] [] id ?_
  cases H
  exact er
 ·obtain ⟨v15, h16, H⟩ := oB H
  rcases oC H with ⟨c17, H⟩ | ⟨c17, H⟩
  ·refine xn ([.res (cB v12)] ++ rg 8 false ([.res (cB v15)] ++ rg 2 false (rg 13 true []))) [] [(33, cB true)] [] [] (fun t => aI (s_l1In_ok p1.Side 0 1 v12 h13) (aI trivial (aI rN (aG 8 c14 (aI (s_l1In_ok p1.Kind 0 (W ((p0.Rules.Kinds.length : Int) - 1)) v15 h16) (aI trivial (aI rN (aG 2 c14 (aG 13 c17 (t)))))))))) ?_
   refine it rT ?_
   refine so [] [] [(4, cB false)] [] id ?_
   cases H
   exact er
  ·obtain ⟨v18, h19, H⟩ := oB H
   obtain ⟨v20, h21, H⟩ := oB H
   refine xn ([.res (cB v12)] ++ rg 8 false ([.res (cB v15)] ++ rg 10 false ([.cs (eTKind v18)] ++ rg 3 false ([.res (cB v20)] ++ rg 2 false [])))) [] [(33, cB (!v20))] [] [] (fun t => aI (s_l1In_ok p1.Side 0 1 v12 h13) (aI trivial (aI rN (aG 8 c14 (aI (s_l1In_ok p1.Kind 0 (W ((p0.Rules.Kinds.length : Int) - 1)) v15 h16) (aI trivial (aI rN (aG 2 c14 (aG 8 c17 ((a2 eTKind h19 (aG 2 c17 (aI rN (aI c17 (aI (s_l1In_ok p1.Steps 0 v18.Steps v20 h21) (aI trivial (aI rN (aG 2 c17 (t))))))))))))))))))) ?_
   rcases oC H with ⟨c22, H⟩ | ⟨c22, H⟩
   ·refine it c22 ?_
    refine so [] [] [(4, cB false)] [] id ?_
    cases H
    exact er
   ·refine jf c22 ?_
    refine sk ?_
    rcases oC H with ⟨c23, H⟩ | ⟨c23, H⟩
    ·refine sx (rg 8 true []) [] [(4, cB true)] [] (fun t => aG 8 c23 (t)) ?_
     cases H
     exact er
    ·rcases oC H with ⟨c24, H⟩ | ⟨c24, H⟩
     ·obtain ⟨v25, h26, H⟩ := oB H
      obtain ⟨v27, h28, H⟩ := oB H
      rcases oC H with ⟨c29, H⟩ | ⟨c29, H⟩
      ·obtain ⟨v30, h31, H⟩ := oB H
       refine sx (rg 4 false (rg 5 true ([.res (cI v25)] ++ rg 2 true ([.res (cB v27), .g false, .g true, .g false] ++ rg 6 true [.res (cI v30), .g true, .g false, .g true, .g false])))) [] [(4, cB (decide (v30 > 0)))] [] (fun t => aG 4 c23 (aG 5 c24 (aI (s_mSize_ok p0.Map v25 h26) (aI trivial (aI rN (aG 2 c24 (aI (s_l1In_ok p1.At 0 (W (v25 - 1)) v27 h28) (aI trivial (aI rN (aI c23 (aI c24 (aI c23 (aG 6 c29 (aI (s_bCost_ok p0 p1.Kind p1.At v30 h31) (aI trivial (aI rN (aI c29 (aI c23 (aI c29 (aI c23 (t))))))))))))))))))))) ?_
       cases H
       exact er
      ·refine sx (rg 4 false (rg 5 true ([.res (cI v25)] ++ rg 2 true ([.res (cB v27), .g false, .g true] ++ rg 11 false [])))) [] [(4, cB false)] [] (fun t => aG 4 c23 (aG 5 c24 (aI (s_mSize_ok p0.Map v25 h26) (aI trivial (aI rN (aG 2 c24 (aI (s_l1In_ok p1.At 0 (W (v25 - 1)) v27 h28) (aI trivial (aI rN (aI c23 (aI c24 (aI c23 (aG 7 c29 (aI c23 (aI c29 (aI c23 (t))))))))))))))))) ?_
       cases H
       exact er
     ·refine sx (rg 24 false []) [] [(4, cB false)] [] (fun t => aG 4 c23 (aG 7 c24 (aI c23 (aI c24 (aI c23 (aG 7 rF (aI c23 (aI rF (aI c23 (t)))))))))) ?_
      cases H
      exact er
def s_sAt_ir : S :=
 (sq [o 3 (.box 3 (.t 0)), o 6 (.mv (.v (.nil)))]
 (sq [o 7 (.mv (.v (.nil)))]
 (.seq (sq [oa 10 2 3, ol 11 10, o 12 (.len (.t 11)), o 13 (.mv (iv 0))]
 (.blk 0 (.loop (sq [o 14 (.bin .lss (.t 13) (.t 12))]
   (.seq (.ite (.t 14) .skip
   (.exit 0))
   (.seq (.blk 1 (sq [om 15 13, o 16 (.iad 4 (.t 11) (.t 13)), o 17 (.load 4 true (.t 16)), o 9 (.alloc [.int .i64 0, .int .i64 0, .int .i64 0, .int .i64 0]), om 8 15, os 4 9 17]
    (sq [oa 18 2 9, ol 19 18, om 20 1, o 21 (.bin .eql (.t 19) (.t 20)), om 22 21, oh 23 (.fad 0 (.t 9)) 22, oh 24 (.load 1 false (.t 23)) 22, oh 25 (.mv (.t 2)) 22, oh 26 (.bin .eql (.t 24) (.t 25)) 22, o 27 (.pick (.t 22) (.t 26) bF)]
    (.ite (.t 27) (.ops [om 28 7, om 29 8, o 30 (.bsl 1 [.t 29]), o 31 (.app 1 8 (.t 28) (.t 30)), om 7 31])
    .skip))))
   (.ops [o 32 (.bin .add (.t 13) (iv 1)), om 13 32])))))))
 (sq [om 33 7, om 6 33]
 .ret))))
noncomputable def X.s_sAt (p0 : TState) (p1 : Int) (p2 : Int) : Option (List Int) :=
 ((loop (fun (x16 : (Int × (List Int))) => ((bif (decide (x16.1 < (p0.Units.length : Int))) then ((at' zTUnit p0.Units x16.1).bind fun v19 => (bif (v19.At == p1) then (bif (v19.Side == p2) then (if (x16.2 ++ ([x16.1] : List Int)).length ≤ LIM then some (Sum.inl ((W (x16.1 + 1)), (x16.2 ++ ([x16.1] : List Int)))) else none) else some (Sum.inl ((W (x16.1 + 1)), x16.2))) else some (Sum.inl ((W (x16.1 + 1)), x16.2)))) else some (Sum.inr x16.2)) : Option ((Int × (List Int)) ⊕ (List Int)))) (0, ([] : List Int))).bind fun y24 => some y24)
theorem s_sAt_ok (p0 : TState) (p1 : Int) (p2 : Int) (r : (List Int)) (H : X.s_sAt p0 p1 p2 = some r) : FK 129 [.agg (eTState p0), cI p1, cI p2] (.c (dat 1 eI zI r)) := by
 unfold X.s_sAt at H
 refine fi Tryz.f129 s_sAt_ir [(6, dc 1 eI zI r)] [] glL Tryz.func129 ?_
 refine sn [] [] [(3, pk 3)] [] [(3, va (eTState p0))] id ?_
 refine sn [] [] [(7, .c (.nil))] [] [] id ?_
 refine seq_in ?_
 refine sn [] [] [(11, dc 4 eTUnit zTUnit p0.Units), (12, cL p0.Units), (13, cI 0)] [] [] (fun t => lI p0.Units (t)) ?_
 refine ends_blk ?_
 obtain ⟨y24, h25, H⟩ := oB H
 refine tl [.nlo 7 1001 1 (fF eI zI ([] : List Int))] [(1, cI p1), (2, cI p2), (7, ow 1001 1 ([] : List Int)), (11, dc 4 eTUnit zTUnit p0.Units), (12, cL p0.Units), (13, cI 0)] [(1001, ar 1 eI zI ([] : List Int))] (aI (by decide : 0 < 1)) ?_
 refine loop_in (fun (x : (Int × (List Int))) => lit [(1, cI p1), (2, cI p2), (7, ow 1001 1 x.2), (11, dc 4 eTUnit zTUnit p0.Units), (12, cL p0.Units), (13, cI x.1)] [(1001, ar 1 eI zI x.2)]) (fun (z : (List Int)) => At (.exit 0) (lit [(7, ow 1001 1 z)] [(1001, ar 1 eI zI z)])) h25 ?_ ?_
 ·clear H h25
  intro x16 y0 H
  refine sn [] [] [(14, cB (decide (x16.1 < (p0.Units.length : Int))))] [] [] id ?_
  refine seq_in ?_
  rcases oC H with ⟨c18, H⟩ | ⟨c18, H⟩
  ·refine it c18 ?_
   refine sk ?_
   refine seq_in ?_
   refine ends_blk ?_
   obtain ⟨v19, h20, H⟩ := oB H
   refine sn [.cs (eTUnit v19)] [] [(8, cI x16.1), (9, pk 9)] [] [(9, va (eTUnit v19))] (a2 eTUnit h20) ?_
   rcases oC H with ⟨c21, H⟩ | ⟨c21, H⟩
   ·refine sn (rg 5 true []) [] [(27, cB (v19.Side == p2))] [] [] (fun t => aG 5 c21 (t)) ?_
    rcases oC H with ⟨c22, H⟩ | ⟨c22, H⟩
    ·refine it c22 ?_
     obtain ⟨g23, H⟩ := oI H
     refine oo [fh eI zI ([x16.1] : List Int), fh eI zI (x16.2 ++ ([x16.1] : List Int))] [] [(1, cI p1), (2, cI p2), (7, ow 31 1 (x16.2 ++ ([x16.1] : List Int))), (11, dc 4 eTUnit zTUnit p0.Units), (12, cL p0.Units), (13, cI x16.1)] [(31, ar 1 eI zI (x16.2 ++ ([x16.1] : List Int)))] (fun t => aI (rfl : ([x16.1] : List Int).length = 1) (aI (fF_lit eI zI ([x16.1] : List Int)) (aI (And.intro (Nat.le_refl x16.2.length) (And.intro (@List.length_append _ x16.2 ([x16.1] : List Int)) g23)) (aI (fF_appL eI zI x16.2 ([x16.1] : List Int)) (aI (fF_appR eI zI x16.2 ([x16.1] : List Int)) (t)))))) ?_
     change EndsI _ _ _ _ _ _
     refine oo [] [.ren 31 1001] [(1, cI p1), (2, cI p2), (7, ow 1001 1 (x16.2 ++ ([x16.1] : List Int))), (11, dc 4 eTUnit zTUnit p0.Units), (12, cL p0.Units), (13, cI (W (x16.1 + 1)))] [(1001, ar 1 eI zI (x16.2 ++ ([x16.1] : List Int)))] id ?_
     cases H
     exact rr
    ·refine jf c22 ?_
     refine sk ?_
     refine oo [] [] [(1, cI p1), (2, cI p2), (7, ow 1001 1 x16.2), (11, dc 4 eTUnit zTUnit p0.Units), (12, cL p0.Units), (13, cI (W (x16.1 + 1)))] [(1001, ar 1 eI zI x16.2)] id ?_
     cases H
     exact rr
   ·refine sn (rg 5 false []) [] [(27, cB false)] [] [] (fun t => aG 5 c21 (t)) ?_
    refine jf rF ?_
    refine sk ?_
    refine oo [] [] [(1, cI p1), (2, cI p2), (7, ow 1001 1 x16.2), (11, dc 4 eTUnit zTUnit p0.Units), (12, cL p0.Units), (13, cI (W (x16.1 + 1)))] [(1001, ar 1 eI zI x16.2)] id ?_
    cases H
    exact rr
  ·refine jf c18 ?_
   refine tl [] [(7, ow 1001 1 x16.2)] [(1001, ar 1 eI zI x16.2)] id ?_
   refine ends_exit ?_
   cases H
   exact rse
 ·clear h25
  rintro e s ⟨rfl, rfl⟩
  change EndsI _ _ _ _ _ _
  refine sn [] [] [(6, ow 1001 1 y24)] [] [] id ?_
  refine tl [.frz 6] [(6, dc 1 eI zI y24)] [] (aI (Nat.le_refl y24.length)) ?_
  cases H
  exact er
def s_sGood_ir : S :=
 (sq [o 2 (.box 12 (.t 0)), o 3 (.box 3 (.t 1)), o 4 (.mv bF)]
 (.seq (sq [o 9 (.load 12 true (.t 2)), o 10 (.call 30 [.t 9]), o 11 (.not (.t 10)), om 12 11, og 13 (.fad 0 (.t 3)) 12, og 14 (.load 1 false (.t 13)) 12, og 15 (.fad 0 (.t 2)) 12, og 16 (.fad 6 (.t 15)) 12, og 17 (.load 1 false (.t 16)) 12, og 18 (.call 55 [.t 14, .v (.int .i64 0), .t 17]) 12, og 19 (.not (.t 18)) 12, o 20 (.pick (.t 12) bT (.t 19)), om 21 20, og 22 (.fad 1 (.t 3)) 21, og 23 (.load 1 false (.t 22)) 21, og 24 (.call 55 [.t 23, .v (.int .i64 0), .v (.int .i64 2)]) 21, og 25 (.not (.t 24)) 21, o 26 (.pick (.t 21) bT (.t 25)), om 27 26, og 28 (.fad 2 (.t 3)) 27, og 29 (.load 1 false (.t 28)) 27, og 30 (.len (.t 29)) 27, og 31 (.bin .gtr (.t 30) (iv 12)) 27, o 32 (.pick (.t 27) bT (.t 31))]
 (.ite (.t 32) (sq [o 4 (.mv bF)]
  .ret)
 .skip))
 (.seq (sq [oa 33 2 3, ol 34 33, o 35 (.len (.t 34)), o 36 (.mv (iv 0))]
 (.blk 0 (.loop (sq [o 37 (.bin .lss (.t 36) (.t 35))]
   (.seq (.ite (.t 37) .skip
   (.exit 0))
   (.seq (.blk 1 (sq [o 38 (.iad 4 (.t 34) (.t 36)), o 39 (.load 4 true (.t 38)), o 6 (.alloc [.int .i64 0, .int .i64 0, .int .i64 0, .int .i64 0]), os 4 6 39]
    (sq [o 40 (.load 12 true (.t 2)), o 41 (.load 4 true (.t 6)), o 42 (.call 128 [.t 40, .t 41]), o 43 (.not (.t 42))]
    (.ite (.t 43) (sq [o 4 (.mv bF)]
     .ret)
    .skip))))
   (.ops [o 44 (.bin .add (.t 36) (iv 1)), om 36 44])))))))
 (.seq (sq [oa 45 2 3, ol 46 45, o 47 (.len (.t 46)), o 48 (.mv (iv 0))]
 (.blk 2 (.loop (sq [o 49 (.bin .lss (.t 48) (.t 47))]
   (.seq (.ite (.t 49) .skip
   (.exit 2))
   (.seq (.blk 3 (sq [o 50 (.iad 4 (.t 46) (.t 48)), o 51 (.load 4 true (.t 50)), o 8 (.alloc [.int .i64 0, .int .i64 0, .int .i64 0, .int .i64 0]), os 4 8 51]
    (.seq (.drw [(4, 5), (4, 6), (4, 7), (5, 7), (6, 7), (4, 8), (5, 8), (6, 8), (4, 9), (5, 9), (6, 9), (14, 15), (14, 16), (14, 17), (15, 17), (16, 17), (14, 18), (15, 18), (16, 18), (14, 21), (15, 21), (16, 21), (17, 21), (18, 21), (19, 21), (20, 21), (14, 22), (15, 22), (16, 22), (17, 22), (18, 22), (19, 22), (20, 22), (14, 23), (15, 23), (16, 23), (17, 23), (18, 23), (19, 23), (20, 23)] [oa 52 2 8, ol 53 52, o 54 (.bin .geq (.t 53) (iv 0)), om 55 54, oh 56 (.load 3 true (.t 3)) 55, oh 57 (.fad 2 (.t 8)) 55, oh 58 (.load 1 false (.t 57)) 55, oh 59 (.fad 0 (.t 8)) 55, oh 60 (.load 1 false (.t 59)) 55, oh 61 (.bin .sub (iv 1) (.t 60)) 55, oh 62 (.call 129 [.t 56, .t 58, .t 61]) 55, oh 63 (.len (.t 62)) 55, oh 64 (.bin .gtr (.t 63) (iv 0)) 55, oh 65 (.mv (.t 64)) 55, og 66 (.load 3 true (.t 3)) 65, og 67 (.fad 2 (.t 8)) 65, og 68 (.load 1 false (.t 67)) 65, og 69 (.fad 0 (.t 8)) 65, og 70 (.load 1 false (.t 69)) 65, og 71 (.call 129 [.t 66, .t 68, .t 70]) 65, og 72 (.len (.t 71)) 65, og 73 (.fad 0 (.t 2)) 65, og 74 (.fad 2 (.t 73)) 65, og 75 (.load 1 false (.t 74)) 65, og 76 (.bin .gtr (.t 72) (.t 75)) 65, oh 77 (.pick (.t 65) bT (.t 76)) 55, o 78 (.pick (.t 55) (.t 77) bF)])
    (.ite (.t 78) (sq [o 4 (.mv bF)]
     .ret)
    .skip))))
   (.ops [o 79 (.bin .add (.t 48) (iv 1)), om 48 79])))))))
 (sq [o 4 (.mv bT)]
 .ret)))))
noncomputable def X.s_sGood (p0 : TBoard) (p1 : TState) : Option Bool :=
 ((X.s_bGood p0).bind fun v11 => (bif (!v11) then some false else ((X.s_l1In p1.Turn 0 p0.Rules.Turns).bind fun v14 => (bif (!v14) then some false else ((X.s_l1In p1.Weather 0 2).bind fun v17 => (bif (!v17) then some false else (bif (decide ((p1.Units.length : Int) > 12)) then some false else ((loop (fun (x63 : Int) => ((bif (decide (x63 < (p1.Units.length : Int))) then ((at' zTUnit p1.Units x63).bind fun v66 => ((X.s_sUnit p0 v66).bind fun v68 => (bif (!v68) then some (Sum.inr (Sum.inr false)) else some (Sum.inl (W (x63 + 1)))))) else some (Sum.inr (Sum.inl ()))) : Option (Int ⊕ (Unit ⊕ Bool)))) 0).bind fun y71 => (Sum.elim (fun (y73 : Unit) => ((loop (fun (x98 : Int) => ((bif (decide (x98 < (p1.Units.length : Int))) then ((at' zTUnit p1.Units x98).bind fun v101 => (bif (decide (v101.At ≥ 0)) then ((X.s_sAt p1 v101.At (W (1 - v101.Side))).bind fun v104 => (bif (decide ((v104.length : Int) > 0)) then some (Sum.inr (Sum.inr false)) else ((X.s_sAt p1 v101.At v101.Side).bind fun v107 => (bif (decide ((v107.length : Int) > p0.Rules.Stack)) then some (Sum.inr (Sum.inr false)) else some (Sum.inl (W (x98 + 1))))))) else some (Sum.inl (W (x98 + 1))))) else some (Sum.inr (Sum.inl ()))) : Option (Int ⊕ (Unit ⊕ Bool)))) 0).bind fun y110 => (Sum.elim (fun (y112 : Unit) => some true) (fun (y113 : Bool) => some y113) y110))) (fun (y74 : Bool) => some y74) y71)))))))))
theorem s_sGood_ok (p0 : TBoard) (p1 : TState) (r : Bool) (H : X.s_sGood p0 p1 = some r) : FK 66 [.agg (eTBoard p0), .agg (eTState p1)] (cB r) := by
 unfold X.s_sGood at H
 refine fi Tryz.f66 s_sGood_ir [(4, cB r)] [] glL Tryz.func66 ?_
 refine so [] [] [(2, pk 2), (3, pk 3)] [(2, va (eTBoard p0)), (3, va (eTState p1))] id ?_
 refine seq_in ?_
 obtain ⟨v11, h12, H⟩ := oB H
 rcases oC H with ⟨c13, H⟩ | ⟨c13, H⟩
 ·refine sn ([.res (cB v11)] ++ rg 18 true []) [] [(32, cB true)] [] [] (fun t => aI (s_bGood_ok p0 v11 h12) (aG 8 c13 (aG 10 rT (t)))) ?_
  refine it rT ?_
  refine so [] [] [(4, cB false)] [] id ?_
  cases H
  exact er
 ·obtain ⟨v14, h15, H⟩ := oB H
  rcases oC H with ⟨c16, H⟩ | ⟨c16, H⟩
  ·refine sn ([.res (cB v11)] ++ rg 6 false ([.res (cB v14)] ++ rg 2 false (rg 10 true []))) [] [(32, cB true)] [] [] (fun t => aI (s_bGood_ok p0 v11 h12) (aG 6 c13 (aI (s_l1In_ok p1.Turn 0 p0.Rules.Turns v14 h15) (aG 2 c13 (aG 5 c16 (aG 5 rT (t))))))) ?_
   refine it rT ?_
   refine so [] [] [(4, cB false)] [] id ?_
   cases H
   exact er
  ·obtain ⟨v17, h18, H⟩ := oB H
   rcases oC H with ⟨c19, H⟩ | ⟨c19, H⟩
   ·refine sn ([.res (cB v11)] ++ rg 6 false ([.res (cB v14)] ++ rg 5 false ([.res (cB v17)] ++ rg 2 false (rg 5 true [])))) [] [(32, cB true)] [] [] (fun t => aI (s_bGood_ok p0 v11 h12) (aG 6 c13 (aI (s_l1In_ok p1.Turn 0 p0.Rules.Turns v14 h15) (aG 2 c13 (aG 3 c16 (aI (s_l1In_ok p1.Weather 0 2 v17 h18) (aG 2 c16 (aG 5 c19 (t))))))))) ?_
    refine it rT ?_
    refine so [] [] [(4, cB false)] [] id ?_
    cases H
    exact er
   ·refine sn ([.res (cB v11)] ++ rg 6 false ([.res (cB v14)] ++ rg 5 false ([.res (cB v17)] ++ rg 7 false []))) [] [(32, cB (decide ((p1.Units.length : Int) > 12)))] [] [] (fun t => aI (s_bGood_ok p0 v11 h12) (aG 6 c13 (aI (s_l1In_ok p1.Turn 0 p0.Rules.Turns v14 h15) (aG 2 c13 (aG 3 c16 (aI (s_l1In_ok p1.Weather 0 2 v17 h18) (aG 2 c16 (aG 3 c19 (lI p1.Units (aG 2 c19 (t))))))))))) ?_
    rcases oC H with ⟨c20, H⟩ | ⟨c20, H⟩
    ·refine it c20 ?_
     refine so [] [] [(4, cB false)] [] id ?_
     cases H
     exact er
    ·refine jf c20 ?_
     refine sk ?_
     refine seq_in ?_
     refine sn [] [] [(34, dc 4 eTUnit zTUnit p1.Units), (35, cL p1.Units), (36, cI 0)] [] [] (fun t => lI p1.Units (t)) ?_
     refine ends_blk ?_
     obtain ⟨y71, h72, H⟩ := oB H
     refine tl [] [(2, pk 2), (3, pk 3), (34, dc 4 eTUnit zTUnit p1.Units), (35, cL p1.Units), (36, cI 0)] [(2, va (eTBoard p0)), (3, va (eTState p1))] id ?_
     refine loop_in (fun (x : Int) => lit [(2, pk 2), (3, pk 3), (34, dc 4 eTUnit zTUnit p1.Units), (35, cL p1.Units), (36, cI x)] [(2, va (eTBoard p0)), (3, va (eTState p1))]) (orJ (fun (z : Unit) => At (.exit 0) (lit [(2, pk 2), (3, pk 3)] [(2, va (eTBoard p0)), (3, va (eTState p1))])) (fun (z : Bool) => At .ret (lit [(4, cB z)] []))) h72 ?_ ?_
     ·clear H h72
      intro x63 y0 H
      refine sn [] [] [(37, cB (decide (x63 < (p1.Units.length : Int))))] [] [] id ?_
      refine seq_in ?_
      rcases oC H with ⟨c65, H⟩ | ⟨c65, H⟩
      ·refine it c65 ?_
       refine sk ?_
       refine seq_in ?_
       refine ends_blk ?_
       obtain ⟨v66, h67, H⟩ := oB H
       refine sn [.cs (eTUnit v66)] [] [(6, pk 6)] [] [(6, va (eTUnit v66))] (a2 eTUnit h67) ?_
       obtain ⟨v68, h69, H⟩ := oB H
       refine sn [.res (cB v68)] [] [(43, cB (!v68))] [] [] (aI (s_sUnit_ok p0 v66 v68 h69)) ?_
       rcases oC H with ⟨c70, H⟩ | ⟨c70, H⟩
       ·refine it c70 ?_
        refine so [] [] [(4, cB false)] [] id ?_
        refine ends_ret ?_
        cases H
        exact rsr
       ·refine jf c70 ?_
        refine sk ?_
        refine oo [] [] [(2, pk 2), (3, pk 3), (34, dc 4 eTUnit zTUnit p1.Units), (35, cL p1.Units), (36, cI (W (x63 + 1)))] [(2, va (eTBoard p0)), (3, va (eTState p1))] id ?_
        cases H
        exact rr
      ·refine jf c65 ?_
       refine tl [] [(2, pk 2), (3, pk 3)] [(2, va (eTBoard p0)), (3, va (eTState p1))] id ?_
       refine ends_exit ?_
       cases H
       exact rse
     ·clear h72
      cases y71 with
      | inl y73 =>
       replace H := ofInl H
       rintro e s ⟨rfl, rfl⟩
       change EndsI _ _ _ _ _ _
       refine seq_in ?_
       refine sn [] [] [(46, dc 4 eTUnit zTUnit p1.Units), (47, cL p1.Units), (48, cI 0)] [] [] (fun t => lI p1.Units (t)) ?_
       refine ends_blk ?_
       obtain ⟨y110, h111, H⟩ := oB H
       refine tl [] [(2, pk 2), (3, pk 3), (46, dc 4 eTUnit zTUnit p1.Units), (47, cL p1.Units), (48, cI 0)] [(2, va (eTBoard p0)), (3, va (eTState p1))] id ?_
       refine loop_in (fun (x : Int) => lit [(2, pk 2), (3, pk 3), (46, dc 4 eTUnit zTUnit p1.Units), (47, cL p1.Units), (48, cI x)] [(2, va (eTBoard p0)), (3, va (eTState p1))]) (orJ (fun (z : Unit) => At (.exit 2) (lit [] [])) (fun (z : Bool) => At .ret (lit [(4, cB z)] []))) h111 ?_ ?_
       ·clear H h111
        intro x98 y0 H
        refine sn [] [] [(49, cB (decide (x98 < (p1.Units.length : Int))))] [] [] id ?_
        refine seq_in ?_
        rcases oC H with ⟨c100, H⟩ | ⟨c100, H⟩
        ·refine it c100 ?_
         refine sk ?_
         refine seq_in ?_
         refine ends_blk ?_
         obtain ⟨v101, h102, H⟩ := oB H
         refine sn [.cs (eTUnit v101)] [] [(8, pk 8)] [] [(8, va (eTUnit v101))] (a2 eTUnit h102) ?_
         rcases oC H with ⟨c103, H⟩ | ⟨c103, H⟩
         ·obtain ⟨v104, h105, H⟩ := oB H
          rcases oC H with ⟨c106, H⟩ | ⟨c106, H⟩
          ·refine xn (rg 7 true ([.res (dc 1 eI zI v104)] ++ rg 17 true [])) [] [(78, cB true)] [] [] (fun t => aG 7 c103 (aI (s_sAt_ok p1 v101.At (W (1 - v101.Side)) v104 h105) (aG 2 rN (aG 3 c103 (aG 11 c106 (aI c103 (aI c106 (aI c103 (t))))))))) ?_
           refine it rT ?_
           refine so [] [] [(4, cB false)] [] id ?_
           refine ends_ret ?_
           cases H
           exact rsr
          ·obtain ⟨v107, h108, H⟩ := oB H
           refine xn (rg 7 true ([.res (dc 1 eI zI v104)] ++ rg 3 true (rg 6 false ([.res (dc 1 eI zI v107)] ++ rg 5 false [.g true, .g false, .g true])))) [] [(78, cB (decide ((v107.length : Int) > p0.Rules.Stack)))] [] [] (fun t => aG 7 c103 (aI (s_sAt_ok p1 v101.At (W (1 - v101.Side)) v104 h105) (aG 2 rN (aG 3 c103 (aG 6 c106 (aI (s_sAt_ok p1 v101.At v101.Side v107 h108) (aG 2 rN (aG 5 c106 (aI c103 (aI c106 (aI c103 (t)))))))))))) ?_
           rcases oC H with ⟨c109, H⟩ | ⟨c109, H⟩
           ·refine it c109 ?_
            refine so [] [] [(4, cB false)] [] id ?_
            refine ends_ret ?_
            cases H
            exact rsr
           ·refine jf c109 ?_
            refine sk ?_
            refine oo [] [] [(2, pk 2), (3, pk 3), (46, dc 4 eTUnit zTUnit p1.Units), (47, cL p1.Units), (48, cI (W (x98 + 1)))] [(2, va (eTBoard p0)), (3, va (eTState p1))] id ?_
            cases H
            exact rr
         ·refine xn (rg 12 false []) [] [(78, cB false)] [] [] (fun t => aG 12 c103 (t)) ?_
          refine jf rF ?_
          refine sk ?_
          refine oo [] [] [(2, pk 2), (3, pk 3), (46, dc 4 eTUnit zTUnit p1.Units), (47, cL p1.Units), (48, cI (W (x98 + 1)))] [(2, va (eTBoard p0)), (3, va (eTState p1))] id ?_
          cases H
          exact rr
        ·refine jf c100 ?_
         refine tl [] [] [] id ?_
         refine ends_exit ?_
         cases H
         exact rse
       ·clear h111
        cases y110 with
        | inl y112 =>
         replace H := ofInl H
         rintro e s ⟨rfl, rfl⟩
         change EndsI _ _ _ _ _ _
         refine so [] [] [(4, cB true)] [] id ?_
         cases H
         exact er
        | inr y113 =>
         replace H := ofInr H
         rintro e s ⟨rfl, rfl⟩
         cases H
         exact qr
      | inr y74 =>
       replace H := ofInr H
       rintro e s ⟨rfl, rfl⟩
       cases H
       exact qr
def s_fgSide_ir : S :=
 (sq [o 3 (.box 12 (.t 0)), o 4 (.box 3 (.t 1)), o 6 (.mv bF)]
 (sq [o 7 (.load 12 true (.t 3)), o 8 (.load 3 true (.t 4)), o 9 (.call 66 [.t 7, .t 8]), om 10 9, oh 11 (.mv (.t 2)) 10, oh 12 (.call 55 [.t 11, .v (.int .i64 0), .v (.int .i64 1)]) 10, o 13 (.pick (.t 10) (.t 12) bF), om 6 13]
 .ret))
noncomputable def X.s_fgSide (p0 : TBoard) (p1 : TState) (p2 : Int) : Option Bool :=
 ((X.s_sGood p0 p1).bind fun v1 => (bif v1 then ((X.s_l1In p2 0 1).bind fun v4 => some v4) else some false))
theorem s_fgSide_ok (p0 : TBoard) (p1 : TState) (p2 : Int) (r : Bool) (H : X.s_fgSide p0 p1 p2 = some r) : FK 65 [.agg (eTBoard p0), .agg (eTState p1), cI p2] (cB r) := by
 unfold X.s_fgSide at H
 refine fi Tryz.f65 s_fgSide_ir [(6, cB r)] [] glL Tryz.func65 ?_
 refine sn [] [] [(3, pk 3), (4, pk 4)] [] [(3, va (eTBoard p0)), (4, va (eTState p1))] id ?_
 obtain ⟨v1, h2, H⟩ := oB H
 rcases oC H with ⟨c3, H⟩ | ⟨c3, H⟩
 ·obtain ⟨v4, h5, H⟩ := oB H
  refine so ([.res (cB v1)] ++ rg 2 true [.res (cB v4), .g true]) [] [(6, cB v4)] [] (fun t => aI (s_sGood_ok p0 p1 v1 h2) (aG 2 c3 (aI (s_l1In_ok p2 0 1 v4 h5) (aI c3 (t))))) ?_
  cases H
  exact er
 ·refine so ([.res (cB v1)] ++ rg 3 false []) [] [(6, cB false)] [] (fun t => aI (s_sGood_ok p0 p1 v1 h2) (aG 3 c3 (t))) ?_
  cases H
  exact er
def s_l1Same_ir : S :=
 (sq [o 4 (.mv bF)]
 (.seq (sq [om 6 0, o 7 (.len (.t 6)), om 8 1, o 9 (.len (.t 8)), o 10 (.bin .neq (.t 7) (.t 9))]
 (.ite (.t 10) (sq [o 4 (.mv bF)]
  .ret)
 .skip))
 (.seq (sq [om 11 0, o 12 (.len (.t 11)), o 13 (.mv (iv 0))]
 (.blk 0 (.loop (sq [o 14 (.bin .lss (.t 13) (.t 12))]
   (.seq (.ite (.t 14) .skip
   (.exit 0))
   (.seq (.blk 1 (sq [om 15 13, om 5 15]
    (.seq (.drw [(0, 1), (0, 4), (1, 4), (2, 4), (3, 4), (0, 5), (1, 5), (2, 5), (3, 5), (4, 5), (0, 6), (1, 6), (2, 6), (3, 6), (0, 7), (1, 7), (2, 7), (3, 7)] [om 16 0, om 17 5, o 18 (.iad 1 (.t 16) (.t 17)), ol 19 18, om 20 1, om 21 5, o 22 (.iad 1 (.t 20) (.t 21)), ol 23 22, o 24 (.bin .neq (.t 19) (.t 23))])
    (.ite (.t 24) (sq [o 4 (.mv bF)]
     .ret)
    .skip))))
   (.ops [o 25 (.bin .add (.t 13) (iv 1)), om 13 25])))))))
 (sq [o 4 (.mv bT)]
 .ret))))
noncomputable def X.s_l1Same (p0 : (List Int)) (p1 : (List Int)) : Option Bool :=
 (bif ((p0.length : Int) != (p1.length : Int)) then some false else ((loop (fun (x18 : Int) => ((bif (decide (x18 < (p0.length : Int))) then ((at' zI p0 x18).bind fun v21 => ((at' zI p1 x18).bind fun v23 => (bif (v21 != v23) then some (Sum.inr (Sum.inr false)) else some (Sum.inl (W (x18 + 1)))))) else some (Sum.inr (Sum.inl ()))) : Option (Int ⊕ (Unit ⊕ Bool)))) 0).bind fun y26 => (Sum.elim (fun (y28 : Unit) => some true) (fun (y29 : Bool) => some y29) y26)))
theorem s_l1Same_ok (p0 : (List Int)) (p1 : (List Int)) (r : Bool) (H : X.s_l1Same p0 p1 = some r) : FK 130 [.c (dat 1 eI zI p0), .c (dat 1 eI zI p1)] (cB r) := by
 unfold X.s_l1Same at H
 refine fi Tryz.f130 s_l1Same_ir [(4, cB r)] [] glL Tryz.func130 ?_
 refine sn [] [] [] [] [] id ?_
 refine seq_in ?_
 refine sn [] [] [(10, cB ((p0.length : Int) != (p1.length : Int)))] [] [] (fun t => lI p0 (lI p1 (t))) ?_
 rcases oC H with ⟨c2, H⟩ | ⟨c2, H⟩
 ·refine it c2 ?_
  refine so [] [] [(4, cB false)] [] id ?_
  cases H
  exact er
 ·refine jf c2 ?_
  refine sk ?_
  refine seq_in ?_
  refine sn [] [] [(12, cL p0), (13, cI 0)] [] [] (fun t => lI p0 (t)) ?_
  refine ends_blk ?_
  obtain ⟨y26, h27, H⟩ := oB H
  refine tl [] [(0, dc 1 eI zI p0), (1, dc 1 eI zI p1), (12, cL p0), (13, cI 0)] [] id ?_
  refine loop_in (fun (x : Int) => lit [(0, dc 1 eI zI p0), (1, dc 1 eI zI p1), (12, cL p0), (13, cI x)] []) (orJ (fun (z : Unit) => At (.exit 0) (lit [] [])) (fun (z : Bool) => At .ret (lit [(4, cB z)] []))) h27 ?_ ?_
  ·clear H h27
   intro x18 y0 H
   refine sn [] [] [(14, cB (decide (x18 < (p0.length : Int))))] [] [] id ?_
   refine seq_in ?_
   rcases oC H with ⟨c20, H⟩ | ⟨c20, H⟩
   ·refine it c20 ?_
    refine sk ?_
    refine seq_in ?_
    refine ends_blk ?_
    refine sn [] [] [(5, cI x18)] [] [] id ?_
    obtain ⟨v21, h22, H⟩ := oB H
    obtain ⟨v23, h24, H⟩ := oB H
    refine xn [.cs (eI v21), .cs (eI v23)] [] [(24, cB (v21 != v23))] [] [] (fun t => (a2 eI h22 (aI rN ((a2 eI h24 (aI rN (t))))))) ?_
    rcases oC H with ⟨c25, H⟩ | ⟨c25, H⟩
    ·refine it c25 ?_
     refine so [] [] [(4, cB false)] [] id ?_
     refine ends_ret ?_
     cases H
     exact rsr
    ·refine jf c25 ?_
     refine sk ?_
     refine oo [] [] [(0, dc 1 eI zI p0), (1, dc 1 eI zI p1), (12, cL p0), (13, cI (W (x18 + 1)))] [] id ?_
     cases H
     exact rr
   ·refine jf c20 ?_
    refine tl [] [] [] id ?_
    refine ends_exit ?_
    cases H
    exact rse
  ·clear h27
   cases y26 with
   | inl y28 =>
    replace H := ofInl H
    rintro e s ⟨rfl, rfl⟩
    change EndsI _ _ _ _ _ _
    refine so [] [] [(4, cB true)] [] id ?_
    cases H
    exact er
   | inr y29 =>
    replace H := ofInr H
    rintro e s ⟨rfl, rfl⟩
    cases H
    exact qr
def s_fgUnits_ir : S :=
 (sq [o 4 (.mv bF)]
 (.seq (sq [om 7 0, o 8 (.len (.t 7)), om 9 1, o 10 (.len (.t 9)), o 11 (.bin .neq (.t 8) (.t 10))]
 (.ite (.t 11) (sq [o 4 (.mv bF)]
  .ret)
 .skip))
 (.seq (sq [om 12 0, o 13 (.len (.t 12)), o 14 (.mv (iv 0))]
 (.blk 0 (.loop (sq [o 15 (.bin .lss (.t 14) (.t 13))]
   (.seq (.ite (.t 15) .skip
   (.exit 0))
   (.seq (.blk 1 (sq [om 16 14, o 17 (.iad 4 (.t 12) (.t 14)), o 18 (.load 4 true (.t 17)), o 6 (.alloc [.int .i64 0, .int .i64 0, .int .i64 0, .int .i64 0]), om 5 16, os 4 6 18]
    (.seq (.drw [(0, 1), (0, 2), (1, 2), (0, 3), (0, 4)] [o 19 (.load 4 true (.t 6)), om 20 1, om 21 5, o 22 (.iad 4 (.t 20) (.t 21)), o 23 (.load 4 true (.t 22)), o 24 (.eqa true [1, 1, 1, 1] (.t 19) (.t 23))])
    (.ite (.t 24) (sq [o 4 (.mv bF)]
     .ret)
    .skip))))
   (.ops [o 25 (.bin .add (.t 14) (iv 1)), om 14 25])))))))
 (sq [o 4 (.mv bT)]
 .ret))))
noncomputable def X.s_fgUnits (p0 : (List TUnit)) (p1 : (List TUnit)) : Option Bool :=
 (bif ((p0.length : Int) != (p1.length : Int)) then some false else ((loop (fun (x18 : Int) => ((bif (decide (x18 < (p0.length : Int))) then ((at' zTUnit p0 x18).bind fun v21 => ((at' zTUnit p1 x18).bind fun v23 => (bif (!((v21.Side == v23.Side) && ((v21.Kind == v23.Kind) && ((v21.At == v23.At) && ((v21.Steps == v23.Steps) && true))))) then some (Sum.inr (Sum.inr false)) else some (Sum.inl (W (x18 + 1)))))) else some (Sum.inr (Sum.inl ()))) : Option (Int ⊕ (Unit ⊕ Bool)))) 0).bind fun y26 => (Sum.elim (fun (y28 : Unit) => some true) (fun (y29 : Bool) => some y29) y26)))
theorem s_fgUnits_ok (p0 : (List TUnit)) (p1 : (List TUnit)) (r : Bool) (H : X.s_fgUnits p0 p1 = some r) : FK 131 [.c (dat 4 eTUnit zTUnit p0), .c (dat 4 eTUnit zTUnit p1)] (cB r) := by
 unfold X.s_fgUnits at H
 refine fi Tryz.f131 s_fgUnits_ir [(4, cB r)] [] glL Tryz.func131 ?_
 refine sn [] [] [] [] [] id ?_
 refine seq_in ?_
 refine sn [] [] [(11, cB ((p0.length : Int) != (p1.length : Int)))] [] [] (fun t => lI p0 (lI p1 (t))) ?_
 rcases oC H with ⟨c2, H⟩ | ⟨c2, H⟩
 ·refine it c2 ?_
  refine so [] [] [(4, cB false)] [] id ?_
  cases H
  exact er
 ·refine jf c2 ?_
  refine sk ?_
  refine seq_in ?_
  refine sn [] [] [(12, dc 4 eTUnit zTUnit p0), (13, cL p0), (14, cI 0)] [] [] (fun t => lI p0 (t)) ?_
  refine ends_blk ?_
  obtain ⟨y26, h27, H⟩ := oB H
  refine tl [] [(1, dc 4 eTUnit zTUnit p1), (12, dc 4 eTUnit zTUnit p0), (13, cL p0), (14, cI 0)] [] id ?_
  refine loop_in (fun (x : Int) => lit [(1, dc 4 eTUnit zTUnit p1), (12, dc 4 eTUnit zTUnit p0), (13, cL p0), (14, cI x)] []) (orJ (fun (z : Unit) => At (.exit 0) (lit [] [])) (fun (z : Bool) => At .ret (lit [(4, cB z)] []))) h27 ?_ ?_
  ·clear H h27
   intro x18 y0 H
   refine sn [] [] [(15, cB (decide (x18 < (p0.length : Int))))] [] [] id ?_
   refine seq_in ?_
   rcases oC H with ⟨c20, H⟩ | ⟨c20, H⟩
   ·refine it c20 ?_
    refine sk ?_
    refine seq_in ?_
    refine ends_blk ?_
    obtain ⟨v21, h22, H⟩ := oB H
    refine sn [.cs (eTUnit v21)] [] [(5, cI x18), (6, pk 6)] [] [(6, va (eTUnit v21))] (a2 eTUnit h22) ?_
    obtain ⟨v23, h24, H⟩ := oB H
    refine xn [.cs (eTUnit v23)] [] [(24, cB (!((v21.Side == v23.Side) && ((v21.Kind == v23.Kind) && ((v21.At == v23.At) && ((v21.Steps == v23.Steps) && true))))))] [] [] (fun t => (a2 eTUnit h24 (aI rN (t)))) ?_
    rcases oC H with ⟨c25, H⟩ | ⟨c25, H⟩
    ·refine it c25 ?_
     refine so [] [] [(4, cB false)] [] id ?_
     refine ends_ret ?_
     cases H
     exact rsr
    ·refine jf c25 ?_
     refine sk ?_
     refine oo [] [] [(1, dc 4 eTUnit zTUnit p1), (12, dc 4 eTUnit zTUnit p0), (13, cL p0), (14, cI (W (x18 + 1)))] [] id ?_
     cases H
     exact rr
   ·refine jf c20 ?_
    refine tl [] [] [] id ?_
    refine ends_exit ?_
    cases H
    exact rse
  ·clear h27
   cases y26 with
   | inl y28 =>
    replace H := ofInl H
    rintro e s ⟨rfl, rfl⟩
    change EndsI _ _ _ _ _ _
    refine so [] [] [(4, cB true)] [] id ?_
    cases H
    exact er
   | inr y29 =>
    replace H := ofInr H
    rintro e s ⟨rfl, rfl⟩
    cases H
    exact qr
def s_fgSame_ir : S :=
 (sq [o 2 (.box 6 (.t 0)), o 3 (.box 6 (.t 1)), o 4 (.mv bF)]
 (sq [oa 5 0 2, ol 6 5, oa 7 0 3, ol 8 7, o 9 (.bin .eql (.t 6) (.t 8)), om 10 9, oh 11 (.fad 1 (.t 2)) 10, oh 12 (.load 1 false (.t 11)) 10, oh 13 (.fad 1 (.t 3)) 10, oh 14 (.load 1 false (.t 13)) 10, oh 15 (.bin .eql (.t 12) (.t 14)) 10, o 16 (.pick (.t 10) (.t 15) bF), om 17 16, oh 18 (.fad 2 (.t 2)) 17, oh 19 (.load 1 false (.t 18)) 17, oh 20 (.fad 2 (.t 3)) 17, oh 21 (.load 1 false (.t 20)) 17, oh 22 (.bin .eql (.t 19) (.t 21)) 17, o 23 (.pick (.t 17) (.t 22) bF), om 24 23, oh 25 (.fad 3 (.t 2)) 24, oh 26 (.load 1 false (.t 25)) 24, oh 27 (.fad 3 (.t 3)) 24, oh 28 (.load 1 false (.t 27)) 24, oh 29 (.call 130 [.t 26, .t 28]) 24, o 30 (.pick (.t 24) (.t 29) bF), om 31 30, oh 32 (.fad 4 (.t 2)) 31, oh 33 (.load 1 false (.t 32)) 31, oh 34 (.fad 4 (.t 3)) 31, oh 35 (.load 1 false (.t 34)) 31, oh 36 (.call 131 [.t 33, .t 35]) 31, o 37 (.pick (.t 31) (.t 36) bF), om 38 37, oh 39 (.fad 5 (.t 2)) 38, oh 40 (.load 1 false (.t 39)) 38, oh 41 (.fad 5 (.t 3)) 38, oh 42 (.load 1 false (.t 41)) 38, oh 43 (.call 131 [.t 40, .t 42]) 38, o 44 (.pick (.t 38) (.t 43) bF), om 4 44]
 .ret))
noncomputable def X.s_fgSame (p0 : TView) (p1 : TView) : Option Bool :=
 (bif (p0.Side == p1.Side) then (bif (p0.Turn == p1.Turn) then (bif (p0.Weather == p1.Weather) then ((X.s_l1Same p0.Seen p1.Seen).bind fun v4 => (bif v4 then ((X.s_fgUnits p0.Own p1.Own).bind fun v7 => (bif v7 then ((X.s_fgUnits p0.Enemies p1.Enemies).bind fun v10 => some v10) else some false)) else some false)) else some false) else some false) else some false)
theorem s_fgSame_ok (p0 : TView) (p1 : TView) (r : Bool) (H : X.s_fgSame p0 p1 = some r) : FK 67 [.agg (eTView p0), .agg (eTView p1)] (cB r) := by
 unfold X.s_fgSame at H
 refine fi Tryz.f67 s_fgSame_ir [(4, cB r)] [] glL Tryz.func67 ?_
 refine so [] [] [(2, pk 2), (3, pk 3)] [(2, va (eTView p0)), (3, va (eTView p1))] id ?_
 rcases oC H with ⟨c1, H⟩ | ⟨c1, H⟩
 ·rcases oC H with ⟨c2, H⟩ | ⟨c2, H⟩
  ·rcases oC H with ⟨c3, H⟩ | ⟨c3, H⟩
   ·obtain ⟨v4, h5, H⟩ := oB H
    rcases oC H with ⟨c6, H⟩ | ⟨c6, H⟩
    ·obtain ⟨v7, h8, H⟩ := oB H
     rcases oC H with ⟨c9, H⟩ | ⟨c9, H⟩
     ·obtain ⟨v10, h11, H⟩ := oB H
      refine so (rg 17 true ([.res (cB v4)] ++ rg 6 true ([.res (cB v7)] ++ rg 6 true [.res (cB v10), .g true]))) [] [(4, cB v10)] [] (fun t => aG 6 c1 (aG 6 c2 (aG 5 c3 (aI (s_l1Same_ok p0.Seen p1.Seen v4 h5) (aI c3 (aG 5 c6 (aI (s_fgUnits_ok p0.Own p1.Own v7 h8) (aI c6 (aG 5 c9 (aI (s_fgUnits_ok p0.Enemies p1.Enemies v10 h11) (aI c9 (t)))))))))))) ?_
      cases H
      exact er
     ·refine so (rg 17 true ([.res (cB v4)] ++ rg 6 true ([.res (cB v7), .g true] ++ rg 6 false []))) [] [(4, cB false)] [] (fun t => aG 6 c1 (aG 6 c2 (aG 5 c3 (aI (s_l1Same_ok p0.Seen p1.Seen v4 h5) (aI c3 (aG 5 c6 (aI (s_fgUnits_ok p0.Own p1.Own v7 h8) (aI c6 (aG 6 c9 (t)))))))))) ?_
      cases H
      exact er
    ·refine so (rg 17 true ([.res (cB v4), .g true] ++ rg 12 false [])) [] [(4, cB false)] [] (fun t => aG 6 c1 (aG 6 c2 (aG 5 c3 (aI (s_l1Same_ok p0.Seen p1.Seen v4 h5) (aI c3 (aG 6 c6 (aG 6 rF (t)))))))) ?_
     cases H
     exact er
   ·refine so (rg 12 true (rg 18 false [])) [] [(4, cB false)] [] (fun t => aG 6 c1 (aG 6 c2 (aG 6 c3 (aG 12 rF (t))))) ?_
    cases H
    exact er
  ·refine so (rg 6 true (rg 24 false [])) [] [(4, cB false)] [] (fun t => aG 6 c1 (aG 6 c2 (aG 18 rF (t)))) ?_
   cases H
   exact er
 ·refine so (rg 30 false []) [] [(4, cB false)] [] (fun t => aG 6 c1 (aG 24 rF (t))) ?_
  cases H
  exact er
def s_l1Has_ir : S :=
 (sq [o 4 (.mv bF)]
 (.seq (sq [om 7 0, o 8 (.len (.t 7)), o 9 (.mv (iv 0))]
 (.blk 0 (.loop (sq [o 10 (.bin .lss (.t 9) (.t 8))]
   (.seq (.ite (.t 10) .skip
   (.exit 0))
   (.seq (.blk 1 (sq [o 11 (.iad 1 (.t 7) (.t 9)), ol 12 11, om 6 12]
    (sq [om 13 6, om 14 1, o 15 (.bin .eql (.t 13) (.t 14))]
    (.ite (.t 15) (sq [o 4 (.mv bT)]
     .ret)
    .skip))))
   (.ops [o 16 (.bin .add (.t 9) (iv 1)), om 9 16])))))))
 (sq [o 4 (.mv bF)]
 .ret)))
noncomputable def X.s_l1Has (p0 : (List Int)) (p1 : Int) : Option Bool :=
 ((loop (fun (x12 : Int) => ((bif (decide (x12 < (p0.length : Int))) then ((at' zI p0 x12).bind fun v15 => (bif (v15 == p1) then some (Sum.inr (Sum.inr true)) else some (Sum.inl (W (x12 + 1))))) else some (Sum.inr (Sum.inl ()))) : Option (Int ⊕ (Unit ⊕ Bool)))) 0).bind fun y18 => (Sum.elim (fun (y20 : Unit) => some false) (fun (y21 : Bool) => some y21) y18))
theorem s_l1Has_ok (p0 : (List Int)) (p1 : Int) (r : Bool) (H : X.s_l1Has p0 p1 = some r) : FK 82 [.c (dat 1 eI zI p0), cI p1] (cB r) := by
 unfold X.s_l1Has at H
 refine fi Tryz.f82 s_l1Has_ir [(4, cB r)] [] glL Tryz.func82 ?_
 refine sn [] [] [] [] [] id ?_
 refine seq_in ?_
 refine sn [] [] [(7, dc 1 eI zI p0), (8, cL p0), (9, cI 0)] [] [] (fun t => lI p0 (t)) ?_
 refine ends_blk ?_
 obtain ⟨y18, h19, H⟩ := oB H
 refine tl [] [(1, cI p1), (7, dc 1 eI zI p0), (8, cL p0), (9, cI 0)] [] id ?_
 refine loop_in (fun (x : Int) => lit [(1, cI p1), (7, dc 1 eI zI p0), (8, cL p0), (9, cI x)] []) (orJ (fun (z : Unit) => At (.exit 0) (lit [] [])) (fun (z : Bool) => At .ret (lit [(4, cB z)] []))) h19 ?_ ?_
 ·clear H h19
  intro x12 y0 H
  refine sn [] [] [(10, cB (decide (x12 < (p0.length : Int))))] [] [] id ?_
  refine seq_in ?_
  rcases oC H with ⟨c14, H⟩ | ⟨c14, H⟩
  ·refine it c14 ?_
   refine sk ?_
   refine seq_in ?_
   refine ends_blk ?_
   obtain ⟨v15, h16, H⟩ := oB H
   refine sn [.cs (eI v15)] [] [(6, cI v15)] [] [] (a2 eI h16) ?_
   refine sn [] [] [(15, cB (v15 == p1))] [] [] id ?_
   rcases oC H with ⟨c17, H⟩ | ⟨c17, H⟩
   ·refine it c17 ?_
    refine so [] [] [(4, cB true)] [] id ?_
    refine ends_ret ?_
    cases H
    exact rsr
   ·refine jf c17 ?_
    refine sk ?_
    refine oo [] [] [(1, cI p1), (7, dc 1 eI zI p0), (8, cL p0), (9, cI (W (x12 + 1)))] [] id ?_
    cases H
    exact rr
  ·refine jf c14 ?_
   refine tl [] [] [] id ?_
   refine ends_exit ?_
   cases H
   exact rse
 ·clear h19
  cases y18 with
  | inl y20 =>
   replace H := ofInl H
   rintro e s ⟨rfl, rfl⟩
   change EndsI _ _ _ _ _ _
   refine so [] [] [(4, cB false)] [] id ?_
   cases H
   exact er
  | inr y21 =>
   replace H := ofInr H
   rintro e s ⟨rfl, rfl⟩
   cases H
   exact qr
def s_fgBefore_ir : S :=
 (sq [o 2 (.box 4 (.t 0)), o 3 (.box 4 (.t 1)), o 4 (.mv bF)]
 (.seq (.blk 0 (sq [oa 6 2 2, ol 7 6, oa 8 2 3, ol 9 8, o 10 (.bin .neq (.t 7) (.t 9)), om 5 10]
  (.ite (.t 5) (sq [oa 11 2 2, ol 12 11, oa 13 2 3, ol 14 13, o 15 (.bin .lss (.t 12) (.t 14)), om 4 15]
   .ret)
  (sq [oa 17 1 2, ol 18 17, oa 19 1 3, ol 20 19, o 21 (.bin .neq (.t 18) (.t 20)), om 16 21]
   (.ite (.t 16) (sq [oa 22 1 2, ol 23 22, oa 24 1 3, ol 25 24, o 26 (.bin .lss (.t 23) (.t 25)), om 4 26]
    .ret)
   .skip)))))
 (sq [oa 27 3 2, ol 28 27, oa 29 3 3, ol 30 29, o 31 (.bin .lss (.t 28) (.t 30)), om 4 31]
 .ret)))
noncomputable def X.s_fgBefore (p0 : TUnit) (p1 : TUnit) : Option Bool :=
 (bif (p0.At != p1.At) then some (decide (p0.At < p1.At)) else (bif (p0.Kind != p1.Kind) then some (decide (p0.Kind < p1.Kind)) else some (decide (p0.Steps < p1.Steps))))
theorem s_fgBefore_ok (p0 : TUnit) (p1 : TUnit) (r : Bool) (H : X.s_fgBefore p0 p1 = some r) : FK 83 [.agg (eTUnit p0), .agg (eTUnit p1)] (cB r) := by
 unfold X.s_fgBefore at H
 refine fi Tryz.f83 s_fgBefore_ir [(4, cB r)] [] glL Tryz.func83 ?_
 refine so [] [] [(2, pk 2), (3, pk 3)] [(2, va (eTUnit p0)), (3, va (eTUnit p1))] id ?_
 refine seq_in ?_
 refine ends_blk ?_
 refine sn [] [] [(5, cB (p0.At != p1.At))] [] [] id ?_
 rcases oC H with ⟨c1, H⟩ | ⟨c1, H⟩
 ·refine it c1 ?_
  refine so [] [] [(4, cB (decide (p0.At < p1.At)))] [] id ?_
  cases H
  exact er
 ·refine jf c1 ?_
  refine sn [] [] [(16, cB (p0.Kind != p1.Kind))] [] [] id ?_
  rcases oC H with ⟨c2, H⟩ | ⟨c2, H⟩
  ·refine it c2 ?_
   refine so [] [] [(4, cB (decide (p0.Kind < p1.Kind)))] [] id ?_
   cases H
   exact er
  ·refine jf c2 ?_
   refine sk ?_
   refine so [] [] [(4, cB (decide (p0.Steps < p1.Steps)))] [] id ?_
   cases H
   exact er
def s_sOf_ir : S :=
 (sq [o 2 (.box 3 (.t 0)), o 4 (.mv (.v (.nil)))]
 (sq [o 5 (.mv (.v (.nil)))]
 (.seq (sq [oa 8 2 2, ol 9 8, o 10 (.len (.t 9)), o 11 (.mv (iv 0))]
 (.blk 0 (.loop (sq [o 12 (.bin .lss (.t 11) (.t 10))]
   (.seq (.ite (.t 12) .skip
   (.exit 0))
   (.seq (.blk 1 (sq [om 13 11, o 14 (.iad 4 (.t 9) (.t 11)), o 15 (.load 4 true (.t 14)), o 7 (.alloc [.int .i64 0, .int .i64 0, .int .i64 0, .int .i64 0]), om 6 13, os 4 7 15]
    (sq [oa 16 0 7, ol 17 16, om 18 1, o 19 (.bin .eql (.t 17) (.t 18)), om 20 19, oh 21 (.fad 2 (.t 7)) 20, oh 22 (.load 1 false (.t 21)) 20, oh 23 (.bin .geq (.t 22) (iv 0)) 20, o 24 (.pick (.t 20) (.t 23) bF)]
    (.ite (.t 24) (.ops [om 25 5, om 26 6, o 27 (.bsl 1 [.t 26]), o 28 (.app 1 8 (.t 25) (.t 27)), om 5 28])
    .skip))))
   (.ops [o 29 (.bin .add (.t 11) (iv 1)), om 11 29])))))))
 (sq [om 30 5, om 4 30]
 .ret))))
noncomputable def X.s_sOf (p0 : TState) (p1 : Int) : Option (List Int) :=
 ((loop (fun (x16 : (Int × (List Int))) => ((bif (decide (x16.1 < (p0.Units.length : Int))) then ((at' zTUnit p0.Units x16.1).bind fun v19 => (bif (v19.Side == p1) then (bif (decide (v19.At ≥ 0)) then (if (x16.2 ++ ([x16.1] : List Int)).length ≤ LIM then some (Sum.inl ((W (x16.1 + 1)), (x16.2 ++ ([x16.1] : List Int)))) else none) else some (Sum.inl ((W (x16.1 + 1)), x16.2))) else some (Sum.inl ((W (x16.1 + 1)), x16.2)))) else some (Sum.inr x16.2)) : Option ((Int × (List Int)) ⊕ (List Int)))) (0, ([] : List Int))).bind fun y24 => some y24)
theorem s_sOf_ok (p0 : TState) (p1 : Int) (r : (List Int)) (H : X.s_sOf p0 p1 = some r) : FK 174 [.agg (eTState p0), cI p1] (.c (dat 1 eI zI r)) := by
 unfold X.s_sOf at H
 refine fi Tryz.f174 s_sOf_ir [(4, dc 1 eI zI r)] [] glL Tryz.func174 ?_
 refine sn [] [] [(2, pk 2)] [] [(2, va (eTState p0))] id ?_
 refine sn [] [] [(5, .c (.nil))] [] [] id ?_
 refine seq_in ?_
 refine sn [] [] [(9, dc 4 eTUnit zTUnit p0.Units), (10, cL p0.Units), (11, cI 0)] [] [] (fun t => lI p0.Units (t)) ?_
 refine ends_blk ?_
 obtain ⟨y24, h25, H⟩ := oB H
 refine tl [.nlo 5 1001 1 (fF eI zI ([] : List Int))] [(1, cI p1), (5, ow 1001 1 ([] : List Int)), (9, dc 4 eTUnit zTUnit p0.Units), (10, cL p0.Units), (11, cI 0)] [(1001, ar 1 eI zI ([] : List Int))] (aI (by decide : 0 < 1)) ?_
 refine loop_in (fun (x : (Int × (List Int))) => lit [(1, cI p1), (5, ow 1001 1 x.2), (9, dc 4 eTUnit zTUnit p0.Units), (10, cL p0.Units), (11, cI x.1)] [(1001, ar 1 eI zI x.2)]) (fun (z : (List Int)) => At (.exit 0) (lit [(5, ow 1001 1 z)] [(1001, ar 1 eI zI z)])) h25 ?_ ?_
 ·clear H h25
  intro x16 y0 H
  refine sn [] [] [(12, cB (decide (x16.1 < (p0.Units.length : Int))))] [] [] id ?_
  refine seq_in ?_
  rcases oC H with ⟨c18, H⟩ | ⟨c18, H⟩
  ·refine it c18 ?_
   refine sk ?_
   refine seq_in ?_
   refine ends_blk ?_
   obtain ⟨v19, h20, H⟩ := oB H
   refine sn [.cs (eTUnit v19)] [] [(6, cI x16.1), (7, pk 7)] [] [(7, va (eTUnit v19))] (a2 eTUnit h20) ?_
   rcases oC H with ⟨c21, H⟩ | ⟨c21, H⟩
   ·refine sn (rg 4 true []) [] [(24, cB (decide (v19.At ≥ 0)))] [] [] (fun t => aG 4 c21 (t)) ?_
    rcases oC H with ⟨c22, H⟩ | ⟨c22, H⟩
    ·refine it c22 ?_
     obtain ⟨g23, H⟩ := oI H
     refine oo [fh eI zI ([x16.1] : List Int), fh eI zI (x16.2 ++ ([x16.1] : List Int))] [] [(1, cI p1), (5, ow 28 1 (x16.2 ++ ([x16.1] : List Int))), (9, dc 4 eTUnit zTUnit p0.Units), (10, cL p0.Units), (11, cI x16.1)] [(28, ar 1 eI zI (x16.2 ++ ([x16.1] : List Int)))] (fun t => aI (rfl : ([x16.1] : List Int).length = 1) (aI (fF_lit eI zI ([x16.1] : List Int)) (aI (And.intro (Nat.le_refl x16.2.length) (And.intro (@List.length_append _ x16.2 ([x16.1] : List Int)) g23)) (aI (fF_appL eI zI x16.2 ([x16.1] : List Int)) (aI (fF_appR eI zI x16.2 ([x16.1] : List Int)) (t)))))) ?_
     change EndsI _ _ _ _ _ _
     refine oo [] [.ren 28 1001] [(1, cI p1), (5, ow 1001 1 (x16.2 ++ ([x16.1] : List Int))), (9, dc 4 eTUnit zTUnit p0.Units), (10, cL p0.Units), (11, cI (W (x16.1 + 1)))] [(1001, ar 1 eI zI (x16.2 ++ ([x16.1] : List Int)))] id ?_
     cases H
     exact rr
    ·refine jf c22 ?_
     refine sk ?_
     refine oo [] [] [(1, cI p1), (5, ow 1001 1 x16.2), (9, dc 4 eTUnit zTUnit p0.Units), (10, cL p0.Units), (11, cI (W (x16.1 + 1)))] [(1001, ar 1 eI zI x16.2)] id ?_
     cases H
     exact rr
   ·refine sn (rg 4 false []) [] [(24, cB false)] [] [] (fun t => aG 4 c21 (t)) ?_
    refine jf rF ?_
    refine sk ?_
    refine oo [] [] [(1, cI p1), (5, ow 1001 1 x16.2), (9, dc 4 eTUnit zTUnit p0.Units), (10, cL p0.Units), (11, cI (W (x16.1 + 1)))] [(1001, ar 1 eI zI x16.2)] id ?_
    cases H
    exact rr
  ·refine jf c18 ?_
   refine tl [] [(5, ow 1001 1 x16.2)] [(1001, ar 1 eI zI x16.2)] id ?_
   refine ends_exit ?_
   cases H
   exact rse
 ·clear h25
  rintro e s ⟨rfl, rfl⟩
  change EndsI _ _ _ _ _ _
  refine sn [] [] [(4, ow 1001 1 y24)] [] [] id ?_
  refine tl [.frz 4] [(4, dc 1 eI zI y24)] [] (aI (Nat.le_refl y24.length)) ?_
  cases H
  exact er
def s_bAt_ir : S :=
 (sq [o 3 (.box 12 (.t 0)), o 6 (.mv bF)]
 (sq [o 7 (.load 12 true (.t 3)), o 8 (.call 30 [.t 7]), om 9 8, oh 10 (.mv (.t 1)) 9, oh 11 (.fad 0 (.t 3)) 9, oh 12 (.fad 1 (.t 11)) 9, oh 13 (.load 1 false (.t 12)) 9, oh 14 (.len (.t 13)) 9, oh 15 (.bin .sub (.t 14) (iv 1)) 9, oh 16 (.call 55 [.t 10, .v (.int .i64 0), .t 15]) 9, o 17 (.pick (.t 9) (.t 16) bF), om 18 17, oh 19 (.mv (.t 2)) 18, oh 20 (.fad 7 (.t 3)) 18, oh 21 (.load 5 true (.t 20)) 18, oh 22 (.call 80 [.t 21]) 18, oh 23 (.bin .sub (.t 22) (iv 1)) 18, oh 24 (.call 55 [.t 19, .v (.int .i64 0), .t 23]) 18, o 25 (.pick (.t 18) (.t 24) bF), om 6 25]
 .ret))
noncomputable def X.s_bAt (p0 : TBoard) (p1 : Int) (p2 : Int) : Option Bool :=
 ((X.s_bGood p0).bind fun v1 => (bif v1 then ((X.s_l1In p1 0 (W ((p0.Rules.Kinds.length : Int) - 1))).bind fun v4 => (bif v4 then ((X.s_mSize p0.Map).bind fun v7 => ((X.s_l1In p2 0 (W (v7 - 1))).bind fun v9 => some v9)) else some false)) else some false))
theorem s_bAt_ok (p0 : TBoard) (p1 : Int) (p2 : Int) (r : Bool) (H : X.s_bAt p0 p1 p2 = some r) : FK 251 [.agg (eTBoard p0), cI p1, cI p2] (cB r) := by
 unfold X.s_bAt at H
 refine fi Tryz.f251 s_bAt_ir [(6, cB r)] [] glL Tryz.func251 ?_
 refine sn [] [] [(3, pk 3)] [] [(3, va (eTBoard p0))] id ?_
 obtain ⟨v1, h2, H⟩ := oB H
 rcases oC H with ⟨c3, H⟩ | ⟨c3, H⟩
 ·obtain ⟨v4, h5, H⟩ := oB H
  rcases oC H with ⟨c6, H⟩ | ⟨c6, H⟩
  ·obtain ⟨v7, h8, H⟩ := oB H
   obtain ⟨v9, h10, H⟩ := oB H
   refine so ([.res (cB v1)] ++ rg 7 true ([.res (cB v4)] ++ rg 5 true ([.res (cI v7)] ++ rg 2 true [.res (cB v9), .g true]))) [] [(6, cB v9)] [] (fun t => aI (s_bGood_ok p0 v1 h2) (aG 5 c3 (lI p0.Rules.Kinds (aG 2 c3 (aI (s_l1In_ok p1 0 (W ((p0.Rules.Kinds.length : Int) - 1)) v4 h5) (aI c3 (aG 4 c6 (aI (s_mSize_ok p0.Map v7 h8) (aG 2 c6 (aI (s_l1In_ok p2 0 (W (v7 - 1)) v9 h10) (aI c6 (t)))))))))))) ?_
   cases H
   exact er
  ·refine so ([.res (cB v1)] ++ rg 7 true ([.res (cB v4), .g true] ++ rg 7 false [])) [] [(6, cB false)] [] (fun t => aI (s_bGood_ok p0 v1 h2) (aG 5 c3 (lI p0.Rules.Kinds (aG 2 c3 (aI (s_l1In_ok p1 0 (W ((p0.Rules.Kinds.length : Int) - 1)) v4 h5) (aI c3 (aG 7 c6 (t)))))))) ?_
   cases H
   exact er
 ·refine so ([.res (cB v1)] ++ rg 15 false []) [] [(6, cB false)] [] (fun t => aI (s_bGood_ok p0 v1 h2) (aG 8 c3 (aG 7 rF (t)))) ?_
  cases H
  exact er
def s_l1Most_ir : S :=
 (sq [o 4 (.mv (iv 0))]
 (.seq (sq [om 5 0, om 6 1, o 7 (.bin .gtr (.t 5) (.t 6))]
 (.ite (.t 7) (sq [om 8 0, om 4 8]
  .ret)
 .skip))
 (sq [om 9 1, om 4 9]
 .ret)))
noncomputable def X.s_l1Most (p0 : Int) (p1 : Int) : Option Int :=
 (bif (decide (p0 > p1)) then some p0 else some p1)
theorem s_l1Most_ok (p0 : Int) (p1 : Int) (r : Int) (H : X.s_l1Most p0 p1 = some r) : FK 203 [cI p0, cI p1] (cI r) := by
 unfold X.s_l1Most at H
 refine fi Tryz.f203 s_l1Most_ir [(4, cI r)] [] glL Tryz.func203 ?_
 refine sn [] [] [] [] [] id ?_
 refine seq_in ?_
 refine sn [] [] [(7, cB (decide (p0 > p1)))] [] [] id ?_
 rcases oC H with ⟨c1, H⟩ | ⟨c1, H⟩
 ·refine it c1 ?_
  refine so [] [] [(4, cI p0)] [] id ?_
  cases H
  exact er
 ·refine jf c1 ?_
  refine sk ?_
  refine so [] [] [(4, cI p1)] [] id ?_
  cases H
  exact er
def s_l1Abs_ir : S :=
 (sq [o 2 (.mv (iv 0))]
 (sq [om 3 0, om 4 0, o 5 (.neg (.t 4)), o 6 (.call 203 [.t 3, .t 5]), om 2 6]
 .ret))
noncomputable def X.s_l1Abs (p0 : Int) : Option Int :=
 ((X.s_l1Most p0 (W (0 - p0))).bind fun v1 => some v1)
theorem s_l1Abs_ok (p0 : Int) (r : Int) (H : X.s_l1Abs p0 = some r) : FK 260 [cI p0] (cI r) := by
 unfold X.s_l1Abs at H
 refine fi Tryz.f260 s_l1Abs_ir [(2, cI r)] [] glL Tryz.func260 ?_
 refine sn [] [] [] [] [] id ?_
 obtain ⟨v1, h2, H⟩ := oB H
 refine so [.res (cI v1)] [] [(2, cI v1)] [] (aI (s_l1Most_ok p0 (W (0 - p0)) v1 h2)) ?_
 cases H
 exact er
def s_hDistance_ir : S :=
 (sq [o 2 (.box 2 (.t 0)), o 3 (.box 2 (.t 1)), o 4 (.mv (iv 0))]
 (.seq (.drw [(0, 2), (1, 2), (0, 3), (1, 3), (0, 5), (1, 5), (2, 5), (3, 5), (4, 5), (0, 6), (1, 6), (2, 6), (3, 6), (4, 6), (0, 7), (1, 7), (2, 7), (3, 7), (4, 7), (5, 7), (6, 7), (0, 8), (1, 8), (2, 8), (3, 8), (4, 8), (5, 8), (6, 8), (0, 9), (1, 9), (2, 9), (3, 9), (4, 9), (5, 10), (6, 10), (7, 10), (8, 10), (9, 10)] [oa 7 0 3, ol 8 7, oa 9 0 2, ol 10 9, o 11 (.bin .sub (.t 8) (.t 10)), oa 12 1 3, ol 13 12, oa 14 1 2, ol 15 14, o 16 (.bin .sub (.t 13) (.t 15)), om 5 11, om 6 16])
 (sq [om 17 5, o 18 (.call 260 [.t 17]), om 19 6, o 20 (.call 260 [.t 19]), o 21 (.bin .add (.t 18) (.t 20)), om 22 5, om 23 6, o 24 (.bin .add (.t 22) (.t 23)), o 25 (.call 260 [.t 24]), o 26 (.bin .add (.t 21) (.t 25)), o 27 (.bin .quo (.t 26) (iv 2)), om 4 27]
 .ret)))
noncomputable def X.s_hDistance (p0 : THex) (p1 : THex) : Option Int :=
 ((X.s_l1Abs (W (p1.Q - p0.Q))).bind fun v1 => ((X.s_l1Abs (W (p1.R - p0.R))).bind fun v3 => ((X.s_l1Abs (W ((W (p1.Q - p0.Q)) + (W (p1.R - p0.R))))).bind fun v5 => some (W (Int.tdiv (W ((W (v1 + v3)) + v5)) 2)))))
theorem s_hDistance_ok (p0 : THex) (p1 : THex) (r : Int) (H : X.s_hDistance p0 p1 = some r) : FK 240 [.agg (eTHex p0), .agg (eTHex p1)] (cI r) := by
 unfold X.s_hDistance at H
 refine fi Tryz.f240 s_hDistance_ir [(4, cI r)] [] glL Tryz.func240 ?_
 refine so [] [] [(2, pk 2), (3, pk 3)] [(2, va (eTHex p0)), (3, va (eTHex p1))] id ?_
 refine sx [] [] [(5, cI (W (p1.Q - p0.Q))), (6, cI (W (p1.R - p0.R)))] [] id ?_
 obtain ⟨v1, h2, H⟩ := oB H
 obtain ⟨v3, h4, H⟩ := oB H
 obtain ⟨v5, h6, H⟩ := oB H
 refine so [.res (cI v1), .res (cI v3), .res (cI v5)] [] [(4, cI (W (Int.tdiv (W ((W (v1 + v3)) + v5)) 2)))] [] (fun t => aI (s_l1Abs_ok (W (p1.Q - p0.Q)) v1 h2) (aI (s_l1Abs_ok (W (p1.R - p0.R)) v3 h4) (aI (s_l1Abs_ok (W ((W (p1.Q - p0.Q)) + (W (p1.R - p0.R)))) v5 h6) (aI (by decide : (2 : Int) ≠ 0) (t))))) ?_
 cases H
 exact er
def s_mNear_ir : S :=
 (sq [o 3 (.box 5 (.t 0)), o 6 (.mv (.v (.nil)))]
 (sq [o 7 (.mv (.v (.nil)))]
 (.seq (sq [o 8 (.mv (iv 0))]
 (.blk 0 (.loop (.seq (sq [om 9 8, o 10 (.load 5 true (.t 3)), o 11 (.call 80 [.t 10]), o 12 (.bin .lss (.t 9) (.t 11))]
   (.ite (.t 12) .skip
   (.exit 0)))
   (.seq (.blk 1 (.seq (.drw [(0, 1), (0, 3), (1, 3), (2, 3), (0, 4), (1, 4), (2, 4), (3, 4), (0, 7), (1, 7), (2, 7), (3, 7), (4, 7), (5, 7), (6, 7)] [o 15 (.load 5 true (.t 3)), om 16 1, o 17 (.call 206 [.t 15, .t 16]), o 18 (.load 5 true (.t 3)), om 19 8, o 20 (.call 206 [.t 18, .t 19]), o 21 (.call 240 [.t 17, .t 20]), om 22 2, o 23 (.bin .leq (.t 21) (.t 22))])
    (.ite (.t 23) (.ops [om 24 7, om 25 8, o 26 (.bsl 1 [.t 25]), o 27 (.app 1 8 (.t 24) (.t 26)), om 7 27])
    .skip)))
   (.ops [om 13 8, o 14 (.bin .add (.t 13) (iv 1)), om 8 14]))))))
 (sq [om 28 7, om 6 28]
 .ret))))
noncomputable def X.s_mNear (p0 : TMap) (p1 : Int) (p2 : Int) : Option (List Int) :=
 ((loop (fun (x30 : (Int × (List Int))) => (((X.s_mSize p0).bind fun v34 => (bif (decide (x30.1 < v34)) then ((X.s_mHex p0 p1).bind fun v37 => ((X.s_mHex p0 x30.1).bind fun v39 => ((X.s_hDistance v37 v39).bind fun v41 => (bif (decide (v41 ≤ p2)) then (if (x30.2 ++ ([x30.1] : List Int)).length ≤ LIM then some (Sum.inl ((W (x30.1 + 1)), (x30.2 ++ ([x30.1] : List Int)))) else none) else some (Sum.inl ((W (x30.1 + 1)), x30.2)))))) else some (Sum.inr x30.2))) : Option ((Int × (List Int)) ⊕ (List Int)))) (0, ([] : List Int))).bind fun y45 => some y45)
theorem s_mNear_ok (p0 : TMap) (p1 : Int) (p2 : Int) (r : (List Int)) (H : X.s_mNear p0 p1 p2 = some r) : FK 271 [.agg (eTMap p0), cI p1, cI p2] (.c (dat 1 eI zI r)) := by
 unfold X.s_mNear at H
 refine fi Tryz.f271 s_mNear_ir [(6, dc 1 eI zI r)] [] glL Tryz.func271 ?_
 refine sn [] [] [(3, pk 3)] [] [(3, va (eTMap p0))] id ?_
 refine sn [] [] [(7, .c (.nil))] [] [] id ?_
 refine seq_in ?_
 refine sn [] [] [(8, cI 0)] [] [] id ?_
 refine ends_blk ?_
 obtain ⟨y45, h46, H⟩ := oB H
 refine tl [.nlo 7 1001 1 (fF eI zI ([] : List Int))] [(1, cI p1), (2, cI p2), (3, pk 3), (7, ow 1001 1 ([] : List Int)), (8, cI 0)] [(3, va (eTMap p0)), (1001, ar 1 eI zI ([] : List Int))] (aI (by decide : 0 < 1)) ?_
 refine loop_in (fun (x : (Int × (List Int))) => lit [(1, cI p1), (2, cI p2), (3, pk 3), (7, ow 1001 1 x.2), (8, cI x.1)] [(3, va (eTMap p0)), (1001, ar 1 eI zI x.2)]) (fun (z : (List Int)) => At (.exit 0) (lit [(7, ow 1001 1 z)] [(1001, ar 1 eI zI z)])) h46 ?_ ?_
 ·clear H h46
  intro x30 y0 H
  refine seq_in ?_
  obtain ⟨v34, h35, H⟩ := oB H
  refine sn [.res (cI v34)] [] [(12, cB (decide (x30.1 < v34)))] [] [] (aI (s_mSize_ok p0 v34 h35)) ?_
  rcases oC H with ⟨c36, H⟩ | ⟨c36, H⟩
  ·refine it c36 ?_
   refine sk ?_
   refine seq_in ?_
   refine ends_blk ?_
   obtain ⟨v37, h38, H⟩ := oB H
   obtain ⟨v39, h40, H⟩ := oB H
   obtain ⟨v41, h42, H⟩ := oB H
   refine xn [.res (.agg (eTHex v37)), .res (.agg (eTHex v39)), .res (cI v41)] [] [(23, cB (decide (v41 ≤ p2)))] [] [] (fun t => aI (s_mHex_ok p0 p1 v37 h38) (aI trivial (aI rN (aI (s_mHex_ok p0 x30.1 v39 h40) (aI trivial (aI rN (aI (s_hDistance_ok v37 v39 v41 h42) (aI trivial (aI rN (t)))))))))) ?_
   rcases oC H with ⟨c43, H⟩ | ⟨c43, H⟩
   ·refine it c43 ?_
    obtain ⟨g44, H⟩ := oI H
    refine oo [fh eI zI ([x30.1] : List Int), fh eI zI (x30.2 ++ ([x30.1] : List Int))] [] [(1, cI p1), (2, cI p2), (3, pk 3), (7, ow 27 1 (x30.2 ++ ([x30.1] : List Int))), (8, cI x30.1)] [(3, va (eTMap p0)), (27, ar 1 eI zI (x30.2 ++ ([x30.1] : List Int)))] (fun t => aI (rfl : ([x30.1] : List Int).length = 1) (aI (fF_lit eI zI ([x30.1] : List Int)) (aI (And.intro (Nat.le_refl x30.2.length) (And.intro (@List.length_append _ x30.2 ([x30.1] : List Int)) g44)) (aI (fF_appL eI zI x30.2 ([x30.1] : List Int)) (aI (fF_appR eI zI x30.2 ([x30.1] : List Int)) (t)))))) ?_
    change EndsI _ _ _ _ _ _
    refine oo [] [.ren 27 1001] [(1, cI p1), (2, cI p2), (3, pk 3), (7, ow 1001 1 (x30.2 ++ ([x30.1] : List Int))), (8, cI (W (x30.1 + 1)))] [(3, va (eTMap p0)), (1001, ar 1 eI zI (x30.2 ++ ([x30.1] : List Int)))] id ?_
    cases H
    exact rr
   ·refine jf c43 ?_
    refine sk ?_
    refine oo [] [] [(1, cI p1), (2, cI p2), (3, pk 3), (7, ow 1001 1 x30.2), (8, cI (W (x30.1 + 1)))] [(3, va (eTMap p0)), (1001, ar 1 eI zI x30.2)] id ?_
    cases H
    exact rr
  ·refine jf c36 ?_
   refine tl [] [(7, ow 1001 1 x30.2)] [(1001, ar 1 eI zI x30.2)] id ?_
   refine ends_exit ?_
   cases H
   exact rse
 ·clear h46
  rintro e s ⟨rfl, rfl⟩
  change EndsI _ _ _ _ _ _
  refine sn [] [] [(6, ow 1001 1 y45)] [] [] id ?_
  refine tl [.frz 6] [(6, dc 1 eI zI y45)] [] (aI (Nat.le_refl y45.length)) ?_
  cases H
  exact er
def s_hNear_ir : S :=
 (sq [o 4 (.mv (.v (.nil)))]
 (sq [om 7 0, om 8 1, o 9 (.bin .quo (.t 7) (.t 8)), om 5 9]
 (.seq (sq [om 10 0, om 11 1, o 12 (.bin .rem (.t 10) (.t 11)), o 13 (.bin .lss (.t 12) (iv 0))]
 (.ite (.t 13) (.ops [om 14 5, o 15 (.bin .sub (.t 14) (iv 1)), om 5 15])
 .skip))
 (sq [om 16 0, om 17 5, om 18 1, o 19 (.bin .mul (.t 17) (.t 18)), o 20 (.bin .sub (.t 16) (.t 19)), o 21 (.bin .mul (iv 2) (.t 20)), om 6 21]
 (.seq (.blk 0 (sq [om 23 6, om 24 1, o 25 (.bin .lss (.t 23) (.t 24)), om 22 25]
  (.ite (.t 22) (sq [om 26 5, o 27 (.bsl 1 [.t 26]), om 4 27]
   .ret)
  (sq [om 29 6, om 30 1, o 31 (.bin .gtr (.t 29) (.t 30)), om 28 31]
   (.ite (.t 28) (sq [om 32 5, o 33 (.bin .add (.t 32) (iv 1)), o 34 (.bsl 1 [.t 33]), om 4 34]
    .ret)
   .skip)))))
 (sq [om 35 5, om 36 5, o 37 (.bin .add (.t 36) (iv 1)), o 38 (.bsl 1 [.t 35, .t 37]), om 4 38]
 .ret))))))
noncomputable def X.s_hNear (p0 : Int) (p1 : Int) : Option (List Int) :=
 (if p1 ≠ 0 then (((if p1 ≠ 0 then (bif (decide ((Int.tmod p0 p1) < 0)) then some (W ((W (Int.tdiv p0 p1)) - 1)) else some (W (Int.tdiv p0 p1))) else none) : Option Int).bind fun y6 => (bif (decide ((W (2 * (W (p0 - (W (y6 * p1)))))) < p1)) then some ([y6] : List Int) else (bif (decide ((W (2 * (W (p0 - (W (y6 * p1)))))) > p1)) then some ([(W (y6 + 1))] : List Int) else some ([y6, (W (y6 + 1))] : List Int)))) else none)
theorem s_hNear_ok (p0 : Int) (p1 : Int) (r : (List Int)) (H : X.s_hNear p0 p1 = some r) : FK 291 [cI p0, cI p1] (.c (dat 1 eI zI r)) := by
 unfold X.s_hNear at H
 refine fi Tryz.f291 s_hNear_ir [(4, dc 1 eI zI r)] [] glL Tryz.func291 ?_
 refine sn [] [] [] [] [] id ?_
 obtain ⟨g1, H⟩ := oI H
 refine sn [] [] [(5, cI (W (Int.tdiv p0 p1)))] [] [] (fun t => aI g1 (t)) ?_
 obtain ⟨y6, h7, H⟩ := oB H
 refine seq_in (cut_in (fun (z : Int) => At .normal (lit [(0, cI p0), (1, cI p1), (5, cI z)] [])) y6 ?_ ?_)
 ·clear H
  revert h7
  generalize y6 = y0
  intro H
  obtain ⟨g4, H⟩ := oI H
  refine sn [] [] [(13, cB (decide ((Int.tmod p0 p1) < 0)))] [] [] (fun t => aI g4 (t)) ?_
  rcases oC H with ⟨c5, H⟩ | ⟨c5, H⟩
  ·refine it c5 ?_
   refine oo [] [] [(0, cI p0), (1, cI p1), (5, cI (W ((W (Int.tdiv p0 p1)) - 1)))] [] id ?_
   cases H
   exact rr
  ·refine jf c5 ?_
   refine tl [] [(0, cI p0), (1, cI p1), (5, cI (W (Int.tdiv p0 p1)))] [] id ?_
   refine ends_skip ?_
   cases H
   exact rr
 ·clear h7
  rintro e s ⟨rfl, rfl⟩
  change EndsI _ _ _ _ _ _
  refine sn [] [] [(6, cI (W (2 * (W (p0 - (W (y6 * p1)))))))] [] [] id ?_
  refine seq_in ?_
  refine ends_blk ?_
  refine sn [] [] [(22, cB (decide ((W (2 * (W (p0 - (W (y6 * p1)))))) < p1)))] [] [] id ?_
  rcases oC H with ⟨c8, H⟩ | ⟨c8, H⟩
  ·refine it c8 ?_
   refine so [fh eI zI ([y6] : List Int)] [] [(4, ow 27 1 ([y6] : List Int))] [(27, ar 1 eI zI ([y6] : List Int))] (fun t => aI (rfl : ([y6] : List Int).length = 1) (aI (fF_lit eI zI ([y6] : List Int)) (t))) ?_
   refine tl [.frz 4] [(4, .c (dat 1 eI zI ([y6] : List Int)))] [] (aI (Nat.le_refl (([y6] : List Int).length))) ?_
   cases H
   exact er
  ·refine jf c8 ?_
   refine sn [] [] [(28, cB (decide ((W (2 * (W (p0 - (W (y6 * p1)))))) > p1)))] [] [] id ?_
   rcases oC H with ⟨c9, H⟩ | ⟨c9, H⟩
   ·refine it c9 ?_
    refine so [fh eI zI ([(W (y6 + 1))] : List Int)] [] [(4, ow 34 1 ([(W (y6 + 1))] : List Int))] [(34, ar 1 eI zI ([(W (y6 + 1))] : List Int))] (fun t => aI (rfl : ([(W (y6 + 1))] : List Int).length = 1) (aI (fF_lit eI zI ([(W (y6 + 1))] : List Int)) (t))) ?_
    refine tl [.frz 4] [(4, .c (dat 1 eI zI ([(W (y6 + 1))] : List Int)))] [] (aI (Nat.le_refl (([(W (y6 + 1))] : List Int).length))) ?_
    cases H
    exact er
   ·refine jf c9 ?_
    refine sk ?_
    refine so [fh eI zI ([y6, (W (y6 + 1))] : List Int)] [] [(4, ow 38 1 ([y6, (W (y6 + 1))] : List Int))] [(38, ar 1 eI zI ([y6, (W (y6 + 1))] : List Int))] (fun t => aI (rfl : ([y6, (W (y6 + 1))] : List Int).length = 2) (aI (fF_lit eI zI ([y6, (W (y6 + 1))] : List Int)) (t))) ?_
    refine tl [.frz 4] [(4, .c (dat 1 eI zI ([y6, (W (y6 + 1))] : List Int)))] [] (aI (Nat.le_refl (([y6, (W (y6 + 1))] : List Int).length))) ?_
    cases H
    exact er
def s_hCells_ir : S :=
 (sq [o 4 (.box 2 (.t 0)), o 5 (.box 2 (.t 1)), o 8 (.mv (.v (.nil)))]
 (.seq (.drw [(0, 2), (1, 2), (0, 4), (1, 4), (2, 4), (3, 4), (0, 5), (1, 5), (2, 5), (3, 5), (0, 6), (1, 6), (2, 6), (3, 6), (4, 6), (5, 6), (0, 7), (1, 7), (2, 7), (3, 7), (4, 7), (5, 7), (0, 8), (1, 8), (2, 8), (3, 8), (0, 9), (1, 9), (2, 9), (3, 9), (4, 9), (5, 9), (6, 9), (7, 9), (8, 9), (0, 10), (1, 10), (2, 10), (3, 10), (0, 12), (1, 12), (2, 12), (3, 12), (4, 12), (5, 12), (6, 12), (7, 12), (8, 12), (9, 12), (10, 12), (11, 12), (0, 13), (1, 13), (2, 13), (3, 13), (4, 13), (5, 13), (6, 13), (7, 13), (8, 13), (9, 13), (10, 13), (11, 13), (0, 14), (1, 14), (2, 14), (3, 14), (4, 14), (5, 14), (6, 14), (7, 14), (8, 14), (9, 14), (10, 14), (11, 14), (12, 14), (13, 14), (0, 15), (1, 15), (2, 15), (3, 15), (4, 15), (5, 15), (6, 15), (7, 15), (8, 15), (9, 15), (10, 15), (11, 15), (0, 16), (1, 16), (2, 16), (3, 16), (4, 16), (5, 16), (6, 16), (7, 16), (8, 16), (9, 16), (10, 16), (11, 16), (12, 16), (13, 16), (14, 16), (15, 16), (0, 17), (1, 17), (2, 17), (3, 17), (4, 17), (5, 17), (6, 17), (7, 17), (8, 17), (9, 17), (10, 17), (11, 17), (12, 17), (13, 17), (14, 17), (15, 17), (0, 18), (1, 18), (2, 18), (3, 18), (4, 18), (5, 18), (6, 18), (7, 18), (8, 18), (9, 18), (10, 18), (11, 18), (12, 18), (13, 18), (14, 18), (15, 18), (16, 18), (17, 18), (0, 19), (1, 19), (2, 19), (3, 19), (4, 19), (5, 19), (6, 19), (7, 19), (8, 19), (9, 19), (10, 19), (11, 19), (12, 19), (13, 19), (14, 19), (15, 19), (16, 19), (17, 19), (0, 20), (1, 20), (2, 20), (3, 20), (4, 20), (5, 20), (6, 20), (7, 20), (8, 20), (9, 20), (10, 20), (11, 20), (12, 20), (13, 20), (14, 20), (15, 20), (0, 21), (1, 21), (2, 21), (3, 21), (4, 21), (5, 21), (6, 21), (7, 21), (8, 21), (9, 21), (10, 21), (11, 21), (12, 21), (13, 21), (14, 21), (15, 21), (16, 21), (17, 21), (18, 21), (19, 21), (20, 21), (0, 22), (1, 22), (2, 22), (3, 22), (4, 22), (5, 22), (6, 22), (7, 22), (8, 22), (9, 22), (10, 22), (11, 22), (12, 22), (13, 22), (14, 22), (15, 22), (0, 23), (1, 23), (2, 23), (3, 23), (4, 23), (5, 23), (6, 23), (7, 23), (8, 23), (9, 23), (10, 23), (11, 23), (12, 24), (13, 24), (14, 24), (15, 24), (16, 24), (17, 24), (18, 24), (19, 24), (20, 24), (21, 24), (22, 24), (23, 24)] [oa 16 0 4, ol 17 16, om 18 3, o 19 (.bin .mul (.t 17) (.t 18)), oa 20 0 5, ol 21 20, oa 22 0 4, ol 23 22, o 24 (.bin .sub (.t 21) (.t 23)), om 25 2, o 26 (.bin .mul (.t 24) (.t 25)), o 27 (.bin .add (.t 19) (.t 26)), oa 28 1 4, ol 29 28, om 30 3, o 31 (.bin .mul (.t 29) (.t 30)), oa 32 1 5, ol 33 32, oa 34 1 4, ol 35 34, o 36 (.bin .sub (.t 33) (.t 35)), om 37 2, o 38 (.bin .mul (.t 36) (.t 37)), o 39 (.bin .add (.t 31) (.t 38)), om 9 27, om 10 39])
 (sq [o 11 (.mv (.v (.nil)))]
 (.seq (sq [om 40 9, om 41 3, o 42 (.bin .rem (.t 40) (.t 41)), o 43 (.bin .eql (.t 42) (iv 0))]
 (.ite (.t 43) (.seq (sq [om 44 10, om 45 3, o 46 (.call 291 [.t 44, .t 45]), o 47 (.len (.t 46)), o 48 (.mv (iv 0))]
  (.blk 0 (.loop (sq [o 49 (.bin .lss (.t 48) (.t 47))]
    (.seq (.ite (.t 49) .skip
    (.exit 0))
    (.seq (.blk 1 (sq [o 50 (.iad 1 (.t 46) (.t 48)), ol 51 50, om 13 51]
     (.ops [om 52 11, om 53 9, om 54 3, o 55 (.bin .quo (.t 53) (.t 54)), om 56 13, o 57 (.build [.int .i64 0, .int .i64 0] [(0, 1, .t 55), (1, 1, .t 56)]), o 58 (.bsl 2 [.t 57]), o 59 (.app 2 16 (.t 52) (.t 58)), om 11 59])))
    (.ops [o 60 (.bin .add (.t 48) (iv 1)), om 48 60])))))))
  (sq [om 61 11, om 8 61]
  .ret))
 .skip))
 (.seq (sq [om 62 9, om 63 3, o 64 (.call 291 [.t 62, .t 63]), o 65 (.len (.t 64)), o 66 (.mv (iv 0))]
 (.blk 2 (.loop (sq [o 67 (.bin .lss (.t 66) (.t 65))]
   (.seq (.ite (.t 67) .skip
   (.exit 2))
   (.seq (.blk 3 (sq [o 68 (.iad 1 (.t 64) (.t 66)), ol 69 68, om 15 69]
    (sq [om 70 10, om 71 3, o 72 (.bin .rem (.t 70) (.t 71)), o 73 (.bin .eql (.t 72) (iv 0))]
    (.ite (.t 73) (.ops [om 74 11, om 75 15, om 76 10, om 77 3, o 78 (.bin .quo (.t 76) (.t 77)), o 79 (.build [.int .i64 0, .int .i64 0] [(0, 1, .t 75), (1, 1, .t 78)]), o 80 (.bsl 2 [.t 79]), o 81 (.app 2 16 (.t 74) (.t 80)), om 11 81])
    (.ops [om 82 11, om 83 15, om 84 9, om 85 10, o 86 (.bin .add (.t 84) (.t 85)), om 87 3, o 88 (.bin .quo (.t 86) (.t 87)), om 89 15, o 90 (.bin .sub (.t 88) (.t 89)), o 91 (.build [.int .i64 0, .int .i64 0] [(0, 1, .t 83), (1, 1, .t 90)]), o 92 (.bsl 2 [.t 91]), o 93 (.app 2 16 (.t 82) (.t 92)), om 11 93])))))
   (.ops [o 94 (.bin .add (.t 66) (iv 1)), om 66 94])))))))
 (sq [om 95 11, om 8 95]
 .ret))))))
noncomputable def X.s_hCells (p0 : THex) (p1 : THex) (p2 : Int) (p3 : Int) : Option (List THex) :=
 (if p3 ≠ 0 then (bif ((Int.tmod (W ((W (p0.Q * p3)) + (W ((W (p1.Q - p0.Q)) * p2)))) p3) == 0) then ((X.s_hNear (W ((W (p0.R * p3)) + (W ((W (p1.R - p0.R)) * p2)))) p3).bind fun v29 => ((loop (fun (x44 : (Int × (List THex))) => ((bif (decide (x44.1 < (v29.length : Int))) then ((at' zI v29 x44.1).bind fun v47 => (if p3 ≠ 0 then (if (x44.2 ++ ([(THex.mk (W (Int.tdiv (W ((W (p0.Q * p3)) + (W ((W (p1.Q - p0.Q)) * p2)))) p3)) v47)] : List THex)).length ≤ LIM then some (Sum.inl ((W (x44.1 + 1)), (x44.2 ++ ([(THex.mk (W (Int.tdiv (W ((W (p0.Q * p3)) + (W ((W (p1.Q - p0.Q)) * p2)))) p3)) v47)] : List THex)))) else none) else none)) else some (Sum.inr x44.2)) : Option ((Int × (List THex)) ⊕ (List THex)))) (0, ([] : List THex))).bind fun y51 => some y51)) else ((X.s_hNear (W ((W (p0.Q * p3)) + (W ((W (p1.Q - p0.Q)) * p2)))) p3).bind fun v53 => ((loop (fun (x76 : (Int × (List THex))) => ((bif (decide (x76.1 < (v53.length : Int))) then ((at' zI v53 x76.1).bind fun v79 => (if p3 ≠ 0 then (bif ((Int.tmod (W ((W (p0.R * p3)) + (W ((W (p1.R - p0.R)) * p2)))) p3) == 0) then (if p3 ≠ 0 then (if (x76.2 ++ ([(THex.mk v79 (W (Int.tdiv (W ((W (p0.R * p3)) + (W ((W (p1.R - p0.R)) * p2)))) p3)))] : List THex)).length ≤ LIM then some (Sum.inl ((W (x76.1 + 1)), (x76.2 ++ ([(THex.mk v79 (W (Int.tdiv (W ((W (p0.R * p3)) + (W ((W (p1.R - p0.R)) * p2)))) p3)))] : List THex)))) else none) else none) else (if p3 ≠ 0 then (if (x76.2 ++ ([(THex.mk v79 (W ((W (Int.tdiv (W ((W ((W (p0.Q * p3)) + (W ((W (p1.Q - p0.Q)) * p2)))) + (W ((W (p0.R * p3)) + (W ((W (p1.R - p0.R)) * p2)))))) p3)) - v79)))] : List THex)).length ≤ LIM then some (Sum.inl ((W (x76.1 + 1)), (x76.2 ++ ([(THex.mk v79 (W ((W (Int.tdiv (W ((W ((W (p0.Q * p3)) + (W ((W (p1.Q - p0.Q)) * p2)))) + (W ((W (p0.R * p3)) + (W ((W (p1.R - p0.R)) * p2)))))) p3)) - v79)))] : List THex)))) else none) else none)) else none)) else some (Sum.inr x76.2)) : Option ((Int × (List THex)) ⊕ (List THex)))) (0, ([] : List THex))).bind fun y87 => some y87))) else none)
theorem s_hCells_ok (p0 : THex) (p1 : THex) (p2 : Int) (p3 : Int) (r : (List THex)) (H : X.s_hCells p0 p1 p2 p3 = some r) : FK 288 [.agg (eTHex p0), .agg (eTHex p1), cI p2, cI p3] (.c (dat 2 eTHex zTHex r)) := by
 unfold X.s_hCells at H
 refine fi Tryz.f288 s_hCells_ir [(8, dc 2 eTHex zTHex r)] [] glL Tryz.func288 ?_
 refine sn [] [] [(4, pk 4), (5, pk 5)] [] [(4, va (eTHex p0)), (5, va (eTHex p1))] id ?_
 refine xn [] [] [(9, cI (W ((W (p0.Q * p3)) + (W ((W (p1.Q - p0.Q)) * p2))))), (10, cI (W ((W (p0.R * p3)) + (W ((W (p1.R - p0.R)) * p2)))))] [] [] id ?_
 refine sn [] [] [(11, .c (.nil))] [4, 5] [] id ?_
 refine seq_in ?_
 obtain ⟨g27, H⟩ := oI H
 refine sn [] [] [(43, cB ((Int.tmod (W ((W (p0.Q * p3)) + (W ((W (p1.Q - p0.Q)) * p2)))) p3) == 0))] [] [] (fun t => aI g27 (t)) ?_
 rcases oC H with ⟨c28, H⟩ | ⟨c28, H⟩
 ·refine it c28 ?_
  refine seq_in ?_
  obtain ⟨v29, h30, H⟩ := oB H
  refine sn [.res (dc 1 eI zI v29)] [] [(46, dc 1 eI zI v29), (47, cL v29), (48, cI 0)] [] [] (fun t => aI (s_hNear_ok (W ((W (p0.R * p3)) + (W ((W (p1.R - p0.R)) * p2)))) p3 v29 h30) (lI v29 (t))) ?_
  refine ends_blk ?_
  obtain ⟨y51, h52, H⟩ := oB H
  refine tl [.nlo 11 1002 2 (fF eTHex zTHex ([] : List THex))] [(3, cI p3), (9, cI (W ((W (p0.Q * p3)) + (W ((W (p1.Q - p0.Q)) * p2))))), (11, ow 1002 2 ([] : List THex)), (46, dc 1 eI zI v29), (47, cL v29), (48, cI 0)] [(1002, ar 2 eTHex zTHex ([] : List THex))] (aI (by decide : 0 < 2)) ?_
  refine loop_in (fun (x : (Int × (List THex))) => lit [(3, cI p3), (9, cI (W ((W (p0.Q * p3)) + (W ((W (p1.Q - p0.Q)) * p2))))), (11, ow 1002 2 x.2), (46, dc 1 eI zI v29), (47, cL v29), (48, cI x.1)] [(1002, ar 2 eTHex zTHex x.2)]) (fun (z : (List THex)) => At (.exit 0) (lit [(11, ow 1002 2 z)] [(1002, ar 2 eTHex zTHex z)])) h52 ?_ ?_
  ·clear H h52
   intro x44 y0 H
   refine sn [] [] [(49, cB (decide (x44.1 < (v29.length : Int))))] [] [] id ?_
   refine seq_in ?_
   rcases oC H with ⟨c46, H⟩ | ⟨c46, H⟩
   ·refine it c46 ?_
    refine sk ?_
    refine seq_in ?_
    refine ends_blk ?_
    obtain ⟨v47, h48, H⟩ := oB H
    refine sn [.cs (eI v47)] [] [(13, cI v47)] [] [] (a2 eI h48) ?_
    obtain ⟨g49, H⟩ := oI H
    obtain ⟨g50, H⟩ := oI H
    refine oo [fh eTHex zTHex ([(THex.mk (W (Int.tdiv (W ((W (p0.Q * p3)) + (W ((W (p1.Q - p0.Q)) * p2)))) p3)) v47)] : List THex), fh eTHex zTHex (x44.2 ++ ([(THex.mk (W (Int.tdiv (W ((W (p0.Q * p3)) + (W ((W (p1.Q - p0.Q)) * p2)))) p3)) v47)] : List THex))] [] [(3, cI p3), (9, cI (W ((W (p0.Q * p3)) + (W ((W (p1.Q - p0.Q)) * p2))))), (11, ow 59 2 (x44.2 ++ ([(THex.mk (W (Int.tdiv (W ((W (p0.Q * p3)) + (W ((W (p1.Q - p0.Q)) * p2)))) p3)) v47)] : List THex))), (46, dc 1 eI zI v29), (47, cL v29), (48, cI x44.1)] [(59, ar 2 eTHex zTHex (x44.2 ++ ([(THex.mk (W (Int.tdiv (W ((W (p0.Q * p3)) + (W ((W (p1.Q - p0.Q)) * p2)))) p3)) v47)] : List THex)))] (fun t => aI g49 (aI (rfl : ([(THex.mk (W (Int.tdiv (W ((W (p0.Q * p3)) + (W ((W (p1.Q - p0.Q)) * p2)))) p3)) v47)] : List THex).length = 1) (aI (fF_lit eTHex zTHex ([(THex.mk (W (Int.tdiv (W ((W (p0.Q * p3)) + (W ((W (p1.Q - p0.Q)) * p2)))) p3)) v47)] : List THex)) (aI (And.intro (Nat.le_refl x44.2.length) (And.intro (@List.length_append _ x44.2 ([(THex.mk (W (Int.tdiv (W ((W (p0.Q * p3)) + (W ((W (p1.Q - p0.Q)) * p2)))) p3)) v47)] : List THex)) g50)) (aI (fF_appL eTHex zTHex x44.2 ([(THex.mk (W (Int.tdiv (W ((W (p0.Q * p3)) + (W ((W (p1.Q - p0.Q)) * p2)))) p3)) v47)] : List THex)) (aI (fF_appR eTHex zTHex x44.2 ([(THex.mk (W (Int.tdiv (W ((W (p0.Q * p3)) + (W ((W (p1.Q - p0.Q)) * p2)))) p3)) v47)] : List THex)) (t))))))) ?_
    change EndsI _ _ _ _ _ _
    refine oo [] [.ren 59 1002] [(3, cI p3), (9, cI (W ((W (p0.Q * p3)) + (W ((W (p1.Q - p0.Q)) * p2))))), (11, ow 1002 2 (x44.2 ++ ([(THex.mk (W (Int.tdiv (W ((W (p0.Q * p3)) + (W ((W (p1.Q - p0.Q)) * p2)))) p3)) v47)] : List THex))), (46, dc 1 eI zI v29), (47, cL v29), (48, cI (W (x44.1 + 1)))] [(1002, ar 2 eTHex zTHex (x44.2 ++ ([(THex.mk (W (Int.tdiv (W ((W (p0.Q * p3)) + (W ((W (p1.Q - p0.Q)) * p2)))) p3)) v47)] : List THex)))] id ?_
    cases H
    exact rr
   ·refine jf c46 ?_
    refine tl [] [(11, ow 1002 2 x44.2)] [(1002, ar 2 eTHex zTHex x44.2)] id ?_
    refine ends_exit ?_
    cases H
    exact rse
  ·clear h52
   rintro e s ⟨rfl, rfl⟩
   change EndsI _ _ _ _ _ _
   refine sn [] [] [(8, ow 1002 2 y51)] [] [] id ?_
   refine tl [.frz 8] [(8, dc 2 eTHex zTHex y51)] [] (aI (Nat.le_refl y51.length)) ?_
   cases H
   exact er
 ·refine jf c28 ?_
  refine sk ?_
  refine seq_in ?_
  obtain ⟨v53, h54, H⟩ := oB H
  refine sn [.res (dc 1 eI zI v53)] [] [(64, dc 1 eI zI v53), (65, cL v53), (66, cI 0)] [] [] (fun t => aI (s_hNear_ok (W ((W (p0.Q * p3)) + (W ((W (p1.Q - p0.Q)) * p2)))) p3 v53 h54) (lI v53 (t))) ?_
  refine ends_blk ?_
  obtain ⟨y87, h88, H⟩ := oB H
  refine tl [.nlo 11 1003 2 (fF eTHex zTHex ([] : List THex))] [(3, cI p3), (9, cI (W ((W (p0.Q * p3)) + (W ((W (p1.Q - p0.Q)) * p2))))), (10, cI (W ((W (p0.R * p3)) + (W ((W (p1.R - p0.R)) * p2))))), (11, ow 1003 2 ([] : List THex)), (64, dc 1 eI zI v53), (65, cL v53), (66, cI 0)] [(1003, ar 2 eTHex zTHex ([] : List THex))] (aI (by decide : 0 < 2)) ?_
  refine loop_in (fun (x : (Int × (List THex))) => lit [(3, cI p3), (9, cI (W ((W (p0.Q * p3)) + (W ((W (p1.Q - p0.Q)) * p2))))), (10, cI (W ((W (p0.R * p3)) + (W ((W (p1.R - p0.R)) * p2))))), (11, ow 1003 2 x.2), (64, dc 1 eI zI v53), (65, cL v53), (66, cI x.1)] [(1003, ar 2 eTHex zTHex x.2)]) (fun (z : (List THex)) => At (.exit 2) (lit [(11, ow 1003 2 z)] [(1003, ar 2 eTHex zTHex z)])) h88 ?_ ?_
  ·clear H h88
   intro x76 y0 H
   refine sn [] [] [(67, cB (decide (x76.1 < (v53.length : Int))))] [] [] id ?_
   refine seq_in ?_
   rcases oC H with ⟨c78, H⟩ | ⟨c78, H⟩
   ·refine it c78 ?_
    refine sk ?_
    refine seq_in ?_
    refine ends_blk ?_
    obtain ⟨v79, h80, H⟩ := oB H
    refine sn [.cs (eI v79)] [] [(15, cI v79)] [] [] (a2 eI h80) ?_
    obtain ⟨g81, H⟩ := oI H
    refine sn [] [] [(73, cB ((Int.tmod (W ((W (p0.R * p3)) + (W ((W (p1.R - p0.R)) * p2)))) p3) == 0))] [] [] (fun t => aI g81 (t)) ?_
    rcases oC H with ⟨c82, H⟩ | ⟨c82, H⟩
    ·refine it c82 ?_
     obtain ⟨g83, H⟩ := oI H
     obtain ⟨g84, H⟩ := oI H
     refine oo [fh eTHex zTHex ([(THex.mk v79 (W (Int.tdiv (W ((W (p0.R * p3)) + (W ((W (p1.R - p0.R)) * p2)))) p3)))] : List THex), fh eTHex zTHex (x76.2 ++ ([(THex.mk v79 (W (Int.tdiv (W ((W (p0.R * p3)) + (W ((W (p1.R - p0.R)) * p2)))) p3)))] : List THex))] [] [(3, cI p3), (9, cI (W ((W (p0.Q * p3)) + (W ((W (p1.Q - p0.Q)) * p2))))), (10, cI (W ((W (p0.R * p3)) + (W ((W (p1.R - p0.R)) * p2))))), (11, ow 81 2 (x76.2 ++ ([(THex.mk v79 (W (Int.tdiv (W ((W (p0.R * p3)) + (W ((W (p1.R - p0.R)) * p2)))) p3)))] : List THex))), (64, dc 1 eI zI v53), (65, cL v53), (66, cI x76.1)] [(81, ar 2 eTHex zTHex (x76.2 ++ ([(THex.mk v79 (W (Int.tdiv (W ((W (p0.R * p3)) + (W ((W (p1.R - p0.R)) * p2)))) p3)))] : List THex)))] (fun t => aI g83 (aI (rfl : ([(THex.mk v79 (W (Int.tdiv (W ((W (p0.R * p3)) + (W ((W (p1.R - p0.R)) * p2)))) p3)))] : List THex).length = 1) (aI (fF_lit eTHex zTHex ([(THex.mk v79 (W (Int.tdiv (W ((W (p0.R * p3)) + (W ((W (p1.R - p0.R)) * p2)))) p3)))] : List THex)) (aI (And.intro (Nat.le_refl x76.2.length) (And.intro (@List.length_append _ x76.2 ([(THex.mk v79 (W (Int.tdiv (W ((W (p0.R * p3)) + (W ((W (p1.R - p0.R)) * p2)))) p3)))] : List THex)) g84)) (aI (fF_appL eTHex zTHex x76.2 ([(THex.mk v79 (W (Int.tdiv (W ((W (p0.R * p3)) + (W ((W (p1.R - p0.R)) * p2)))) p3)))] : List THex)) (aI (fF_appR eTHex zTHex x76.2 ([(THex.mk v79 (W (Int.tdiv (W ((W (p0.R * p3)) + (W ((W (p1.R - p0.R)) * p2)))) p3)))] : List THex)) (t))))))) ?_
     change EndsI _ _ _ _ _ _
     refine oo [] [.ren 81 1003] [(3, cI p3), (9, cI (W ((W (p0.Q * p3)) + (W ((W (p1.Q - p0.Q)) * p2))))), (10, cI (W ((W (p0.R * p3)) + (W ((W (p1.R - p0.R)) * p2))))), (11, ow 1003 2 (x76.2 ++ ([(THex.mk v79 (W (Int.tdiv (W ((W (p0.R * p3)) + (W ((W (p1.R - p0.R)) * p2)))) p3)))] : List THex))), (64, dc 1 eI zI v53), (65, cL v53), (66, cI (W (x76.1 + 1)))] [(1003, ar 2 eTHex zTHex (x76.2 ++ ([(THex.mk v79 (W (Int.tdiv (W ((W (p0.R * p3)) + (W ((W (p1.R - p0.R)) * p2)))) p3)))] : List THex)))] id ?_
     cases H
     exact rr
    ·refine jf c82 ?_
     obtain ⟨g85, H⟩ := oI H
     obtain ⟨g86, H⟩ := oI H
     refine oo [fh eTHex zTHex ([(THex.mk v79 (W ((W (Int.tdiv (W ((W ((W (p0.Q * p3)) + (W ((W (p1.Q - p0.Q)) * p2)))) + (W ((W (p0.R * p3)) + (W ((W (p1.R - p0.R)) * p2)))))) p3)) - v79)))] : List THex), fh eTHex zTHex (x76.2 ++ ([(THex.mk v79 (W ((W (Int.tdiv (W ((W ((W (p0.Q * p3)) + (W ((W (p1.Q - p0.Q)) * p2)))) + (W ((W (p0.R * p3)) + (W ((W (p1.R - p0.R)) * p2)))))) p3)) - v79)))] : List THex))] [] [(3, cI p3), (9, cI (W ((W (p0.Q * p3)) + (W ((W (p1.Q - p0.Q)) * p2))))), (10, cI (W ((W (p0.R * p3)) + (W ((W (p1.R - p0.R)) * p2))))), (11, ow 93 2 (x76.2 ++ ([(THex.mk v79 (W ((W (Int.tdiv (W ((W ((W (p0.Q * p3)) + (W ((W (p1.Q - p0.Q)) * p2)))) + (W ((W (p0.R * p3)) + (W ((W (p1.R - p0.R)) * p2)))))) p3)) - v79)))] : List THex))), (64, dc 1 eI zI v53), (65, cL v53), (66, cI x76.1)] [(93, ar 2 eTHex zTHex (x76.2 ++ ([(THex.mk v79 (W ((W (Int.tdiv (W ((W ((W (p0.Q * p3)) + (W ((W (p1.Q - p0.Q)) * p2)))) + (W ((W (p0.R * p3)) + (W ((W (p1.R - p0.R)) * p2)))))) p3)) - v79)))] : List THex)))] (fun t => aI g85 (aI (rfl : ([(THex.mk v79 (W ((W (Int.tdiv (W ((W ((W (p0.Q * p3)) + (W ((W (p1.Q - p0.Q)) * p2)))) + (W ((W (p0.R * p3)) + (W ((W (p1.R - p0.R)) * p2)))))) p3)) - v79)))] : List THex).length = 1) (aI (fF_lit eTHex zTHex ([(THex.mk v79 (W ((W (Int.tdiv (W ((W ((W (p0.Q * p3)) + (W ((W (p1.Q - p0.Q)) * p2)))) + (W ((W (p0.R * p3)) + (W ((W (p1.R - p0.R)) * p2)))))) p3)) - v79)))] : List THex)) (aI (And.intro (Nat.le_refl x76.2.length) (And.intro (@List.length_append _ x76.2 ([(THex.mk v79 (W ((W (Int.tdiv (W ((W ((W (p0.Q * p3)) + (W ((W (p1.Q - p0.Q)) * p2)))) + (W ((W (p0.R * p3)) + (W ((W (p1.R - p0.R)) * p2)))))) p3)) - v79)))] : List THex)) g86)) (aI (fF_appL eTHex zTHex x76.2 ([(THex.mk v79 (W ((W (Int.tdiv (W ((W ((W (p0.Q * p3)) + (W ((W (p1.Q - p0.Q)) * p2)))) + (W ((W (p0.R * p3)) + (W ((W (p1.R - p0.R)) * p2)))))) p3)) - v79)))] : List THex)) (aI (fF_appR eTHex zTHex x76.2 ([(THex.mk v79 (W ((W (Int.tdiv (W ((W ((W (p0.Q * p3)) + (W ((W (p1.Q - p0.Q)) * p2)))) + (W ((W (p0.R * p3)) + (W ((W (p1.R - p0.R)) * p2)))))) p3)) - v79)))] : List THex)) (t))))))) ?_
     change EndsI _ _ _ _ _ _
     refine oo [] [.ren 93 1003] [(3, cI p3), (9, cI (W ((W (p0.Q * p3)) + (W ((W (p1.Q - p0.Q)) * p2))))), (10, cI (W ((W (p0.R * p3)) + (W ((W (p1.R - p0.R)) * p2))))), (11, ow 1003 2 (x76.2 ++ ([(THex.mk v79 (W ((W (Int.tdiv (W ((W ((W (p0.Q * p3)) + (W ((W (p1.Q - p0.Q)) * p2)))) + (W ((W (p0.R * p3)) + (W ((W (p1.R - p0.R)) * p2)))))) p3)) - v79)))] : List THex))), (64, dc 1 eI zI v53), (65, cL v53), (66, cI (W (x76.1 + 1)))] [(1003, ar 2 eTHex zTHex (x76.2 ++ ([(THex.mk v79 (W ((W (Int.tdiv (W ((W ((W (p0.Q * p3)) + (W ((W (p1.Q - p0.Q)) * p2)))) + (W ((W (p0.R * p3)) + (W ((W (p1.R - p0.R)) * p2)))))) p3)) - v79)))] : List THex)))] id ?_
     cases H
     exact rr
   ·refine jf c78 ?_
    refine tl [] [(11, ow 1003 2 x76.2)] [(1003, ar 2 eTHex zTHex x76.2)] id ?_
    refine ends_exit ?_
    cases H
    exact rse
  ·clear h88
   rintro e s ⟨rfl, rfl⟩
   change EndsI _ _ _ _ _ _
   refine sn [] [] [(8, ow 1003 2 y87)] [] [] id ?_
   refine tl [.frz 8] [(8, dc 2 eTHex zTHex y87)] [] (aI (Nat.le_refl y87.length)) ?_
   cases H
   exact er
def s_hLine_ir : S :=
 (sq [o 2 (.box 2 (.t 0)), o 3 (.box 2 (.t 1)), o 4 (.mv (.v (.nil)))]
 (sq [o 8 (.load 2 true (.t 2)), o 9 (.load 2 true (.t 3)), o 10 (.call 240 [.t 8, .t 9]), om 5 10]
 (.seq (sq [om 11 5, o 12 (.bin .eql (.t 11) (iv 0))]
 (.ite (.t 12) (sq [o 13 (.load 2 true (.t 2)), o 14 (.bsl 2 [.t 13]), o 15 (.bsl 1 [.t 14]), om 4 15]
  .ret)
 .skip))
 (sq [o 6 (.mv (.v (.nil)))]
 (.seq (sq [o 7 (.mv (iv 0))]
 (.blk 0 (.loop (.seq (sq [om 16 7, om 17 5, o 18 (.bin .leq (.t 16) (.t 17))]
   (.ite (.t 18) .skip
   (.exit 0)))
   (.seq (.blk 1 (.ops [om 21 6, o 22 (.load 2 true (.t 2)), o 23 (.load 2 true (.t 3)), om 24 7, om 25 5, o 26 (.call 288 [.t 22, .t 23, .t 24, .t 25]), o 27 (.bsl 1 [.t 26]), o 28 (.app 1 24 (.t 21) (.t 27)), om 6 28]))
   (.ops [om 19 7, o 20 (.bin .add (.t 19) (iv 1)), om 7 20]))))))
 (sq [om 29 6, om 4 29]
 .ret))))))
noncomputable def X.s_hLine (p0 : THex) (p1 : THex) : Option (List (List THex)) :=
 ((X.s_hDistance p0 p1).bind fun v1 => (bif (v1 == 0) then some ([([p0] : List THex)] : List (List THex)) else ((loop (fun (x16 : (Int × (List (List THex)))) => ((bif (decide (x16.1 ≤ v1)) then ((X.s_hCells p0 p1 x16.1 v1).bind fun v19 => (if (x16.2 ++ ([v19] : List (List THex))).length ≤ LIM then some (Sum.inl ((W (x16.1 + 1)), (x16.2 ++ ([v19] : List (List THex))))) else none)) else some (Sum.inr x16.2)) : Option ((Int × (List (List THex))) ⊕ (List (List THex))))) (0, ([] : List (List THex)))).bind fun y22 => some y22)))
theorem s_hLine_ok (p0 : THex) (p1 : THex) (r : (List (List THex))) (H : X.s_hLine p0 p1 = some r) : FK 284 [.agg (eTHex p0), .agg (eTHex p1)] (.c (dat 1 eLTHex zLTHex r)) := by
 unfold X.s_hLine at H
 refine fi Tryz.f284 s_hLine_ir [(4, dc 1 eLTHex zLTHex r)] [] glL Tryz.func284 ?_
 refine so [] [] [(2, pk 2), (3, pk 3)] [(2, va (eTHex p0)), (3, va (eTHex p1))] id ?_
 obtain ⟨v1, h2, H⟩ := oB H
 refine sn [.res (cI v1)] [] [(5, cI v1)] [] [] (aI (s_hDistance_ok p0 p1 v1 h2)) ?_
 refine seq_in ?_
 refine sn [] [] [(12, cB (v1 == 0))] [] [] id ?_
 rcases oC H with ⟨c4, H⟩ | ⟨c4, H⟩
 ·refine it c4 ?_
  refine so [fh eTHex zTHex ([p0] : List THex), fh eLTHex zLTHex ([([p0] : List THex)] : List (List THex))] [] [(4, ow 15 1 ([([p0] : List THex)] : List (List THex)))] [(15, ar 1 eLTHex zLTHex ([([p0] : List THex)] : List (List THex)))] (fun t => aI (rfl : ([p0] : List THex).length = 1) (aI (fF_lit eTHex zTHex ([p0] : List THex)) (aI (Nat.le_refl (([p0] : List THex).length)) (aI (rfl : ([([p0] : List THex)] : List (List THex)).length = 1) (aI (fF_lit eLTHex zLTHex ([([p0] : List THex)] : List (List THex))) (t)))))) ?_
  refine tl [.frz 4] [(4, .c (dat 1 eLTHex zLTHex ([([p0] : List THex)] : List (List THex))))] [] (aI (Nat.le_refl (([([p0] : List THex)] : List (List THex)).length))) ?_
  cases H
  exact er
 ·refine jf c4 ?_
  refine sk ?_
  refine sn [] [] [(6, .c (.nil))] [] [] id ?_
  refine seq_in ?_
  refine sn [] [] [(7, cI 0)] [] [] id ?_
  refine ends_blk ?_
  obtain ⟨y22, h23, H⟩ := oB H
  refine tl [.nlo 6 1001 1 (fF eLTHex zLTHex ([] : List (List THex)))] [(2, pk 2), (3, pk 3), (5, cI v1), (6, ow 1001 1 ([] : List (List THex))), (7, cI 0)] [(2, va (eTHex p0)), (3, va (eTHex p1)), (1001, ar 1 eLTHex zLTHex ([] : List (List THex)))] (aI (by decide : 0 < 1)) ?_
  refine loop_in (fun (x : (Int × (List (List THex)))) => lit [(2, pk 2), (3, pk 3), (5, cI v1), (6, ow 1001 1 x.2), (7, cI x.1)] [(2, va (eTHex p0)), (3, va (eTHex p1)), (1001, ar 1 eLTHex zLTHex x.2)]) (fun (z : (List (List THex))) => At (.exit 0) (lit [(6, ow 1001 1 z)] [(1001, ar 1 eLTHex zLTHex z)])) h23 ?_ ?_
  ·clear H h23
   intro x16 y0 H
   refine seq_in ?_
   refine sn [] [] [(18, cB (decide (x16.1 ≤ v1)))] [] [] id ?_
   rcases oC H with ⟨c18, H⟩ | ⟨c18, H⟩
   ·refine it c18 ?_
    refine sk ?_
    refine seq_in ?_
    refine ends_blk ?_
    obtain ⟨v19, h20, H⟩ := oB H
    obtain ⟨g21, H⟩ := oI H
    refine oo [.res (dc 2 eTHex zTHex v19), fh eLTHex zLTHex ([v19] : List (List THex)), fh eLTHex zLTHex (x16.2 ++ ([v19] : List (List THex)))] [] [(2, pk 2), (3, pk 3), (5, cI v1), (6, ow 28 1 (x16.2 ++ ([v19] : List (List THex)))), (7, cI x16.1)] [(2, va (eTHex p0)), (3, va (eTHex p1)), (28, ar 1 eLTHex zLTHex (x16.2 ++ ([v19] : List (List THex))))] (fun t => aI (s_hCells_ok p0 p1 x16.1 v1 v19 h20) (aI (rfl : ([v19] : List (List THex)).length = 1) (aI (fF_lit eLTHex zLTHex ([v19] : List (List THex))) (aI (And.intro (Nat.le_refl x16.2.length) (And.intro (@List.length_append _ x16.2 ([v19] : List (List THex))) g21)) (aI (fF_appL eLTHex zLTHex x16.2 ([v19] : List (List THex))) (aI (fF_appR eLTHex zLTHex x16.2 ([v19] : List (List THex))) (t))))))) ?_
    change EndsI _ _ _ _ _ _
    refine oo [] [.ren 28 1001] [(2, pk 2), (3, pk 3), (5, cI v1), (6, ow 1001 1 (x16.2 ++ ([v19] : List (List THex)))), (7, cI (W (x16.1 + 1)))] [(2, va (eTHex p0)), (3, va (eTHex p1)), (1001, ar 1 eLTHex zLTHex (x16.2 ++ ([v19] : List (List THex))))] id ?_
    cases H
    exact rr
   ·refine jf c18 ?_
    refine tl [] [(6, ow 1001 1 x16.2)] [(1001, ar 1 eLTHex zLTHex x16.2)] id ?_
    refine ends_exit ?_
    cases H
    exact rse
  ·clear h23
   rintro e s ⟨rfl, rfl⟩
   change EndsI _ _ _ _ _ _
   refine sn [] [] [(4, ow 1001 1 y22)] [] [] id ?_
   refine tl [.frz 4] [(4, dc 1 eLTHex zLTHex y22)] [] (aI (Nat.le_refl y22.length)) ?_
   cases H
   exact er
def s_vCells_ir : S :=
 (sq [o 3 (.box 12 (.t 0)), o 6 (.mv (.v (.nil)))]
 (.seq (.drw [(0, 2), (1, 2), (0, 4), (1, 4), (2, 4), (3, 4), (0, 5), (1, 5), (2, 5), (3, 5), (0, 6), (1, 6), (2, 6), (3, 6), (4, 6), (5, 6)] [oa 13 7 3, o 14 (.load 5 true (.t 13)), om 15 1, o 16 (.call 206 [.t 14, .t 15]), oa 17 7 3, o 18 (.load 5 true (.t 17)), om 19 2, o 20 (.call 206 [.t 18, .t 19]), o 21 (.call 284 [.t 16, .t 20]), om 7 21])
 (sq [o 8 (.mv (.v (.nil)))]
 (.seq (sq [o 9 (.mv (iv 1))]
 (.blk 0 (.loop (.seq (sq [om 22 9, om 23 7, o 24 (.len (.t 23)), o 25 (.bin .sub (.t 24) (iv 1)), o 26 (.bin .lss (.t 22) (.t 25))]
   (.ite (.t 26) .skip
   (.exit 0)))
   (.seq (.blk 1 (sq [o 10 (.mv (.v (.nil)))]
    (.seq (sq [om 29 7, om 30 9, o 31 (.iad 1 (.t 29) (.t 30)), ol 32 31, o 33 (.len (.t 32)), o 34 (.mv (iv 0))]
    (.blk 2 (.loop (sq [o 35 (.bin .lss (.t 34) (.t 33))]
      (.seq (.ite (.t 35) .skip
      (.exit 2))
      (.seq (.blk 3 (sq [o 36 (.iad 2 (.t 32) (.t 34)), o 37 (.load 2 true (.t 36)), o 12 (.alloc [.int .i64 0, .int .i64 0]), os 2 12 37]
       (.ops [om 38 10, oa 39 7 3, o 40 (.load 5 true (.t 39)), o 41 (.load 2 true (.t 12)), o 42 (.call 204 [.t 40, .t 41]), o 43 (.bsl 1 [.t 42]), o 44 (.app 1 8 (.t 38) (.t 43)), om 10 44])))
      (.ops [o 45 (.bin .add (.t 34) (iv 1)), om 34 45])))))))
    (.ops [om 46 8, om 47 10, o 48 (.bsl 1 [.t 47]), o 49 (.app 1 24 (.t 46) (.t 48)), om 8 49]))))
   (.ops [om 27 9, o 28 (.bin .add (.t 27) (iv 1)), om 9 28]))))))
 (sq [om 50 8, om 6 50]
 .ret)))))
noncomputable def X.s_vCells (p0 : TBoard) (p1 : Int) (p2 : Int) : Option (List (List Int)) :=
 ((X.s_mHex p0.Map p1).bind fun v1 => ((X.s_mHex p0.Map p2).bind fun v3 => ((X.s_hLine v1 v3).bind fun v5 => ((loop (fun (x68 : (Int × (List (List Int)))) => ((bif (decide (x68.1 < (W ((v5.length : Int) - 1)))) then ((at' zLTHex v5 x68.1).bind fun v71 => ((loop (fun (x88 : (Int × (List (List Int)) × (List Int))) => ((bif (decide (x88.1 < (v71.length : Int))) then ((at' zTHex v71 x88.1).bind fun v91 => ((X.s_mIndex p0.Map v91).bind fun v93 => (if (x88.2.2 ++ ([v93] : List Int)).length ≤ LIM then some (Sum.inl ((W (x88.1 + 1)), x88.2.1, (x88.2.2 ++ ([v93] : List Int)))) else none))) else some (Sum.inr (x88.2.1, x88.2.2))) : Option ((Int × (List (List Int)) × (List Int)) ⊕ ((List (List Int)) × (List Int))))) (0, x68.2, ([] : List Int))).bind fun y96 => (if (y96.1 ++ ([y96.2] : List (List Int))).length ≤ LIM then some (Sum.inl ((W (x68.1 + 1)), (y96.1 ++ ([y96.2] : List (List Int))))) else none))) else some (Sum.inr x68.2)) : Option ((Int × (List (List Int))) ⊕ (List (List Int))))) (1, ([] : List (List Int)))).bind fun y99 => some y99))))
theorem s_vCells_ok (p0 : TBoard) (p1 : Int) (p2 : Int) (r : (List (List Int))) (H : X.s_vCells p0 p1 p2 = some r) : FK 279 [.agg (eTBoard p0), cI p1, cI p2] (.c (dat 1 eLI zLI r)) := by
 unfold X.s_vCells at H
 refine fi Tryz.f279 s_vCells_ir [(6, dc 1 eLI zLI r)] [] glL Tryz.func279 ?_
 refine sn [] [] [(3, pk 3)] [] [(3, va (eTBoard p0))] id ?_
 obtain ⟨v1, h2, H⟩ := oB H
 obtain ⟨v3, h4, H⟩ := oB H
 obtain ⟨v5, h6, H⟩ := oB H
 refine xn [.res (.agg (eTHex v1)), .res (.agg (eTHex v3)), .res (dc 1 eLTHex zLTHex v5)] [] [(7, dc 1 eLTHex zLTHex v5)] [] [] (fun t => aI (s_mHex_ok p0.Map p1 v1 h2) (aI trivial (aI rN (aI (s_mHex_ok p0.Map p2 v3 h4) (aI trivial (aI rN (aI (s_hLine_ok v1 v3 v5 h6) (aG 2 rN (t))))))))) ?_
 refine sn [] [] [(8, .c (.nil))] [] [] id ?_
 refine seq_in ?_
 refine sn [] [] [(9, cI 1)] [] [] id ?_
 refine ends_blk ?_
 obtain ⟨y99, h100, H⟩ := oB H
 refine tl [.nlo 8 1002 1 (fF eLI zLI ([] : List (List Int)))] [(3, pk 3), (7, dc 1 eLTHex zLTHex v5), (8, ow 1002 1 ([] : List (List Int))), (9, cI 1)] [(3, va (eTBoard p0)), (1002, ar 1 eLI zLI ([] : List (List Int)))] (aI (by decide : 0 < 1)) ?_
 refine loop_in (fun (x : (Int × (List (List Int)))) => lit [(3, pk 3), (7, dc 1 eLTHex zLTHex v5), (8, ow 1002 1 x.2), (9, cI x.1)] [(3, va (eTBoard p0)), (1002, ar 1 eLI zLI x.2)]) (fun (z : (List (List Int))) => At (.exit 0) (lit [(8, ow 1002 1 z)] [(1002, ar 1 eLI zLI z)])) h100 ?_ ?_
 ·clear H h100
  intro x68 y0 H
  refine seq_in ?_
  refine sn [] [] [(26, cB (decide (x68.1 < (W ((v5.length : Int) - 1)))))] [] [] (fun t => lI v5 (t)) ?_
  rcases oC H with ⟨c70, H⟩ | ⟨c70, H⟩
  ·refine it c70 ?_
   refine sk ?_
   refine seq_in ?_
   refine ends_blk ?_
   refine sn [] [] [(10, .c (.nil))] [] [] id ?_
   refine seq_in ?_
   obtain ⟨v71, h72, H⟩ := oB H
   refine sn [.cs (eLTHex v71)] [] [(32, dc 2 eTHex zTHex v71), (33, cL v71), (34, cI 0)] [] [] (fun t => (a2 eLTHex h72 (lI v71 (t)))) ?_
   refine ends_blk ?_
   obtain ⟨y96, h97, H⟩ := oB H
   refine tl [.nlo 10 1004 1 (fF eI zI ([] : List Int))] [(3, pk 3), (7, dc 1 eLTHex zLTHex v5), (8, ow 1002 1 x68.2), (9, cI x68.1), (10, ow 1004 1 ([] : List Int)), (32, dc 2 eTHex zTHex v71), (33, cL v71), (34, cI 0)] [(3, va (eTBoard p0)), (1002, ar 1 eLI zLI x68.2), (1004, ar 1 eI zI ([] : List Int))] (aI (by decide : 0 < 1)) ?_
   refine loop_in (fun (x : (Int × (List (List Int)) × (List Int))) => lit [(3, pk 3), (7, dc 1 eLTHex zLTHex v5), (8, ow 1002 1 x.2.1), (9, cI x68.1), (10, ow 1004 1 x.2.2), (32, dc 2 eTHex zTHex v71), (33, cL v71), (34, cI x.1)] [(3, va (eTBoard p0)), (1002, ar 1 eLI zLI x.2.1), (1004, ar 1 eI zI x.2.2)]) (fun (z : ((List (List Int)) × (List Int))) => At (.exit 2) (lit [(3, pk 3), (7, dc 1 eLTHex zLTHex v5), (8, ow 1002 1 z.1), (9, cI x68.1), (10, ow 1004 1 z.2)] [(3, va (eTBoard p0)), (1002, ar 1 eLI zLI z.1), (1004, ar 1 eI zI z.2)])) h97 ?_ ?_
   ·clear H h97
    intro x88 y0 H
    refine sn [] [] [(35, cB (decide (x88.1 < (v71.length : Int))))] [] [] id ?_
    refine seq_in ?_
    rcases oC H with ⟨c90, H⟩ | ⟨c90, H⟩
    ·refine it c90 ?_
     refine sk ?_
     refine seq_in ?_
     refine ends_blk ?_
     obtain ⟨v91, h92, H⟩ := oB H
     refine sn [.cs (eTHex v91)] [] [(12, pk 12)] [] [(12, va (eTHex v91))] (a2 eTHex h92) ?_
     obtain ⟨v93, h94, H⟩ := oB H
     obtain ⟨g95, H⟩ := oI H
     refine oo [.res (cI v93), fh eI zI ([v93] : List Int), fh eI zI (x88.2.2 ++ ([v93] : List Int))] [] [(3, pk 3), (7, dc 1 eLTHex zLTHex v5), (8, ow 1002 1 x88.2.1), (9, cI x68.1), (10, ow 44 1 (x88.2.2 ++ ([v93] : List Int))), (32, dc 2 eTHex zTHex v71), (33, cL v71), (34, cI x88.1)] [(3, va (eTBoard p0)), (44, ar 1 eI zI (x88.2.2 ++ ([v93] : List Int))), (1002, ar 1 eLI zLI x88.2.1)] (fun t => aI (s_mIndex_ok p0.Map v91 v93 h94) (aI (rfl : ([v93] : List Int).length = 1) (aI (fF_lit eI zI ([v93] : List Int)) (aI (And.intro (Nat.le_refl x88.2.2.length) (And.intro (@List.length_append _ x88.2.2 ([v93] : List Int)) g95)) (aI (fF_appL eI zI x88.2.2 ([v93] : List Int)) (aI (fF_appR eI zI x88.2.2 ([v93] : List Int)) (t))))))) ?_
     change EndsI _ _ _ _ _ _
     refine oo [] [.ren 44 1004] [(3, pk 3), (7, dc 1 eLTHex zLTHex v5), (8, ow 1002 1 x88.2.1), (9, cI x68.1), (10, ow 1004 1 (x88.2.2 ++ ([v93] : List Int))), (32, dc 2 eTHex zTHex v71), (33, cL v71), (34, cI (W (x88.1 + 1)))] [(3, va (eTBoard p0)), (1002, ar 1 eLI zLI x88.2.1), (1004, ar 1 eI zI (x88.2.2 ++ ([v93] : List Int)))] id ?_
     cases H
     exact rr
    ·refine jf c90 ?_
     refine tl [] [(3, pk 3), (7, dc 1 eLTHex zLTHex v5), (8, ow 1002 1 x88.2.1), (9, cI x68.1), (10, ow 1004 1 x88.2.2)] [(3, va (eTBoard p0)), (1002, ar 1 eLI zLI x88.2.1), (1004, ar 1 eI zI x88.2.2)] id ?_
     refine ends_exit ?_
     cases H
     exact rse
   ·clear h97
    rintro e s ⟨rfl, rfl⟩
    change EndsI _ _ _ _ _ _
    obtain ⟨g98, H⟩ := oI H
    refine oo [fh eLI zLI ([y96.2] : List (List Int)), fh eLI zLI (y96.1 ++ ([y96.2] : List (List Int)))] [] [(3, pk 3), (7, dc 1 eLTHex zLTHex v5), (8, ow 49 1 (y96.1 ++ ([y96.2] : List (List Int)))), (9, cI x68.1)] [(3, va (eTBoard p0)), (49, ar 1 eLI zLI (y96.1 ++ ([y96.2] : List (List Int))))] (fun t => aI (Nat.le_refl y96.2.length) (aI (rfl : ([y96.2] : List (List Int)).length = 1) (aI (fF_lit eLI zLI ([y96.2] : List (List Int))) (aI (And.intro (Nat.le_refl y96.1.length) (And.intro (@List.length_append _ y96.1 ([y96.2] : List (List Int))) g98)) (aI (fF_appL eLI zLI y96.1 ([y96.2] : List (List Int))) (aI (fF_appR eLI zLI y96.1 ([y96.2] : List (List Int))) (t))))))) ?_
    change EndsI _ _ _ _ _ _
    refine oo [] [.ren 49 1002] [(3, pk 3), (7, dc 1 eLTHex zLTHex v5), (8, ow 1002 1 (y96.1 ++ ([y96.2] : List (List Int)))), (9, cI (W (x68.1 + 1)))] [(3, va (eTBoard p0)), (1002, ar 1 eLI zLI (y96.1 ++ ([y96.2] : List (List Int))))] id ?_
    cases H
    exact rr
  ·refine jf c70 ?_
   refine tl [] [(8, ow 1002 1 x68.2)] [(1002, ar 1 eLI zLI x68.2)] id ?_
   refine ends_exit ?_
   cases H
   exact rse
 ·clear h100
  rintro e s ⟨rfl, rfl⟩
  change EndsI _ _ _ _ _ _
  refine sn [] [] [(6, ow 1002 1 y99)] [] [] id ?_
  refine tl [.frz 6] [(6, dc 1 eLI zLI y99)] [] (aI (Nat.le_refl y99.length)) ?_
  cases H
  exact er
def s_vHeight_ir : S :=
 (sq [o 2 (.box 12 (.t 0)), o 4 (.mv (iv 0))]
 (sq [o 6 (.load 12 true (.t 2)), om 7 1, o 8 (.call 220 [.t 6, .t 7]), o 5 (.alloc [.str [], .nil, .int .i64 0, .int .i64 0, .bool false]), os 5 5 8]
 (.seq (sq [oa 9 4 5, ol 10 9]
 (.ite (.t 10) (sq [oa 11 3 5, ol 12 11, o 13 (.bin .add (.t 12) (iv 1)), om 4 13]
  .ret)
 .skip))
 (sq [oa 14 3 5, ol 15 14, om 4 15]
 .ret))))
noncomputable def X.s_vHeight (p0 : TBoard) (p1 : Int) : Option Int :=
 ((X.s_bTerrain p0 p1).bind fun v1 => (bif v1.Blocks then some (W (v1.Height + 1)) else some v1.Height))
theorem s_vHeight_ok (p0 : TBoard) (p1 : Int) (r : Int) (H : X.s_vHeight p0 p1 = some r) : FK 289 [.agg (eTBoard p0), cI p1] (cI r) := by
 unfold X.s_vHeight at H
 refine fi Tryz.f289 s_vHeight_ir [(4, cI r)] [] glL Tryz.func289 ?_
 refine sn [] [] [(2, pk 2)] [] [(2, va (eTBoard p0))] id ?_
 obtain ⟨v1, h2, H⟩ := oB H
 refine so [.res (.agg (eTTerrain v1))] [] [(5, pk 5)] [(5, va (eTTerrain v1))] (aI (s_bTerrain_ok p0 p1 v1 h2)) ?_
 refine seq_in ?_
 refine sn [] [] [(10, cB v1.Blocks)] [] [] id ?_
 rcases oC H with ⟨c3, H⟩ | ⟨c3, H⟩
 ·refine it c3 ?_
  refine so [] [] [(4, cI (W (v1.Height + 1)))] [] id ?_
  cases H
  exact er
 ·refine jf c3 ?_
  refine sk ?_
  refine so [] [] [(4, cI v1.Height)] [] id ?_
  cases H
  exact er
def s_vBlocks_ir : S :=
 (sq [o 4 (.box 12 (.t 0)), o 8 (.mv bF)]
 (.seq (.drw [(0, 1), (0, 3), (1, 3), (2, 3), (0, 4), (1, 4), (2, 4), (3, 4), (0, 7), (1, 7), (2, 7), (3, 7), (4, 7), (5, 7), (6, 7), (0, 8), (1, 8), (2, 8), (3, 8), (4, 8), (5, 8), (6, 8), (7, 8), (6, 9), (6, 10)] [o 9 (.load 12 true (.t 4)), om 10 3, o 11 (.call 289 [.t 9, .t 10]), o 12 (.load 12 true (.t 4)), om 13 1, o 14 (.call 220 [.t 12, .t 13]), o 15 (.fld 3 1 false (.t 14)), o 16 (.load 12 true (.t 4)), om 17 2, o 18 (.call 220 [.t 16, .t 17]), o 19 (.fld 3 1 false (.t 18)), o 20 (.call 203 [.t 15, .t 19]), o 21 (.bin .gtr (.t 11) (.t 20)), om 8 21])
 .ret))
noncomputable def X.s_vBlocks (p0 : TBoard) (p1 : Int) (p2 : Int) (p3 : Int) : Option Bool :=
 ((X.s_vHeight p0 p3).bind fun v1 => ((X.s_bTerrain p0 p1).bind fun v3 => ((X.s_bTerrain p0 p2).bind fun v5 => ((X.s_l1Most v3.Height v5.Height).bind fun v7 => some (decide (v1 > v7))))))
theorem s_vBlocks_ok (p0 : TBoard) (p1 : Int) (p2 : Int) (p3 : Int) (r : Bool) (H : X.s_vBlocks p0 p1 p2 p3 = some r) : FK 285 [.agg (eTBoard p0), cI p1, cI p2, cI p3] (cB r) := by
 unfold X.s_vBlocks at H
 refine fi Tryz.f285 s_vBlocks_ir [(8, cB r)] [] glL Tryz.func285 ?_
 refine sn [] [] [(4, pk 4)] [] [(4, va (eTBoard p0))] id ?_
 obtain ⟨v1, h2, H⟩ := oB H
 obtain ⟨v3, h4, H⟩ := oB H
 obtain ⟨v5, h6, H⟩ := oB H
 obtain ⟨v7, h8, H⟩ := oB H
 refine sx [.res (cI v1), .res (.agg (eTTerrain v3)), .res (.agg (eTTerrain v5)), .res (cI v7)] [] [(8, cB (decide (v1 > v7)))] [] (fun t => aI (s_vHeight_ok p0 p3 v1 h2) (aI trivial (aI rN (aI (s_bTerrain_ok p0 p1 v3 h4) (aG 2 rN (aI (s_bTerrain_ok p0 p2 v5 h6) (aG 2 rN (aI (s_l1Most_ok v3.Height v5.Height v7 h8) (aI trivial (aI rN (t))))))))))) ?_
 cases H
 exact er
def s_vCount_ir : S :=
 (sq [o 4 (.box 12 (.t 0)), o 8 (.mv (iv 0))]
 (sq [o 9 (.mv (iv 0))]
 (.seq (sq [om 12 3, o 13 (.len (.t 12)), o 14 (.mv (iv 0))]
 (.blk 0 (.loop (sq [o 15 (.bin .lss (.t 14) (.t 13))]
   (.seq (.ite (.t 15) .skip
   (.exit 0))
   (.seq (.blk 1 (sq [o 16 (.iad 1 (.t 12) (.t 14)), ol 17 16, om 11 17]
    (sq [o 18 (.load 12 true (.t 4)), om 19 1, om 20 2, om 21 11, o 22 (.call 285 [.t 18, .t 19, .t 20, .t 21])]
    (.ite (.t 22) (.ops [om 23 9, o 24 (.bin .add (.t 23) (iv 1)), om 9 24])
    .skip))))
   (.ops [o 25 (.bin .add (.t 14) (iv 1)), om 14 25])))))))
 (sq [om 26 9, om 8 26]
 .ret))))
noncomputable def X.s_vCount (p0 : TBoard) (p1 : Int) (p2 : Int) (p3 : (List Int)) : Option Int :=
 ((loop (fun (x16 : (Int × Int)) => ((bif (decide (x16.2 < (p3.length : Int))) then ((at' zI p3 x16.2).bind fun v19 => ((X.s_vBlocks p0 p1 p2 v19).bind fun v21 => (bif v21 then some (Sum.inl ((W (x16.1 + 1)), (W (x16.2 + 1)))) else some (Sum.inl (x16.1, (W (x16.2 + 1))))))) else some (Sum.inr x16.1)) : Option ((Int × Int) ⊕ Int))) (0, 0)).bind fun y24 => some y24)
theorem s_vCount_ok (p0 : TBoard) (p1 : Int) (p2 : Int) (p3 : (List Int)) (r : Int) (H : X.s_vCount p0 p1 p2 p3 = some r) : FK 280 [.agg (eTBoard p0), cI p1, cI p2, .c (dat 1 eI zI p3)] (cI r) := by
 unfold X.s_vCount at H
 refine fi Tryz.f280 s_vCount_ir [(8, cI r)] [] glL Tryz.func280 ?_
 refine sn [] [] [(4, pk 4)] [] [(4, va (eTBoard p0))] id ?_
 refine sn [] [] [(9, cI 0)] [] [] id ?_
 refine seq_in ?_
 refine sn [] [] [(12, dc 1 eI zI p3), (13, cL p3), (14, cI 0)] [] [] (fun t => lI p3 (t)) ?_
 refine ends_blk ?_
 obtain ⟨y24, h25, H⟩ := oB H
 refine tl [] [(1, cI p1), (2, cI p2), (4, pk 4), (9, cI 0), (12, dc 1 eI zI p3), (13, cL p3), (14, cI 0)] [(4, va (eTBoard p0))] id ?_
 refine loop_in (fun (x : (Int × Int)) => lit [(1, cI p1), (2, cI p2), (4, pk 4), (9, cI x.1), (12, dc 1 eI zI p3), (13, cL p3), (14, cI x.2)] [(4, va (eTBoard p0))]) (fun (z : Int) => At (.exit 0) (lit [(9, cI z)] [])) h25 ?_ ?_
 ·clear H h25
  intro x16 y0 H
  refine sn [] [] [(15, cB (decide (x16.2 < (p3.length : Int))))] [] [] id ?_
  refine seq_in ?_
  rcases oC H with ⟨c18, H⟩ | ⟨c18, H⟩
  ·refine it c18 ?_
   refine sk ?_
   refine seq_in ?_
   refine ends_blk ?_
   obtain ⟨v19, h20, H⟩ := oB H
   refine sn [.cs (eI v19)] [] [(11, cI v19)] [] [] (a2 eI h20) ?_
   obtain ⟨v21, h22, H⟩ := oB H
   refine sn [.res (cB v21)] [] [(22, cB v21)] [] [] (aI (s_vBlocks_ok p0 p1 p2 v19 v21 h22)) ?_
   rcases oC H with ⟨c23, H⟩ | ⟨c23, H⟩
   ·refine it c23 ?_
    refine oo [] [] [(1, cI p1), (2, cI p2), (4, pk 4), (9, cI (W (x16.1 + 1))), (12, dc 1 eI zI p3), (13, cL p3), (14, cI x16.2)] [(4, va (eTBoard p0))] id ?_
    change EndsI _ _ _ _ _ _
    refine oo [] [] [(1, cI p1), (2, cI p2), (4, pk 4), (9, cI (W (x16.1 + 1))), (12, dc 1 eI zI p3), (13, cL p3), (14, cI (W (x16.2 + 1)))] [(4, va (eTBoard p0))] id ?_
    cases H
    exact rr
   ·refine jf c23 ?_
    refine sk ?_
    refine oo [] [] [(1, cI p1), (2, cI p2), (4, pk 4), (9, cI x16.1), (12, dc 1 eI zI p3), (13, cL p3), (14, cI (W (x16.2 + 1)))] [(4, va (eTBoard p0))] id ?_
    cases H
    exact rr
  ·refine jf c18 ?_
   refine tl [] [(9, cI x16.1)] [] id ?_
   refine ends_exit ?_
   cases H
   exact rse
 ·clear h25
  rintro e s ⟨rfl, rfl⟩
  change EndsI _ _ _ _ _ _
  refine so [] [] [(8, cI y24)] [] id ?_
  cases H
  exact er
def s_vFirst_ir : S :=
 (sq [o 3 (.box 12 (.t 0)), o 6 (.mv (iv 0))]
 (.seq (sq [o 9 (.load 12 true (.t 3)), om 10 1, om 11 2, o 12 (.call 279 [.t 9, .t 10, .t 11]), o 13 (.len (.t 12)), o 14 (.mv (iv 0))]
 (.blk 0 (.loop (sq [o 15 (.bin .lss (.t 14) (.t 13))]
   (.seq (.ite (.t 15) .skip
   (.exit 0))
   (.seq (.blk 1 (sq [om 16 14, o 17 (.iad 1 (.t 12) (.t 14)), ol 18 17, om 7 16, om 8 18]
    (sq [o 19 (.load 12 true (.t 3)), om 20 1, om 21 2, om 22 8, o 23 (.call 280 [.t 19, .t 20, .t 21, .t 22]), om 24 8, o 25 (.len (.t 24)), o 26 (.bin .eql (.t 23) (.t 25))]
    (.ite (.t 26) (sq [om 27 7, om 6 27]
     .ret)
    .skip))))
   (.ops [o 28 (.bin .add (.t 14) (iv 1)), om 14 28])))))))
 (sq [o 6 (.mv (.v (.int .i64 (-1))))]
 .ret)))
noncomputable def X.s_vFirst (p0 : TBoard) (p1 : Int) (p2 : Int) : Option Int :=
 ((X.s_vCells p0 p1 p2).bind fun v1 => ((loop (fun (x18 : Int) => ((bif (decide (x18 < (v1.length : Int))) then ((at' zLI v1 x18).bind fun v21 => ((X.s_vCount p0 p1 p2 v21).bind fun v23 => (bif (v23 == (v21.length : Int)) then some (Sum.inr (Sum.inr x18)) else some (Sum.inl (W (x18 + 1)))))) else some (Sum.inr (Sum.inl ()))) : Option (Int ⊕ (Unit ⊕ Int)))) 0).bind fun y26 => (Sum.elim (fun (y28 : Unit) => some (-1)) (fun (y29 : Int) => some y29) y26)))
theorem s_vFirst_ok (p0 : TBoard) (p1 : Int) (p2 : Int) (r : Int) (H : X.s_vFirst p0 p1 p2 = some r) : FK 278 [.agg (eTBoard p0), cI p1, cI p2] (cI r) := by
 unfold X.s_vFirst at H
 refine fi Tryz.f278 s_vFirst_ir [(6, cI r)] [] glL Tryz.func278 ?_
 refine sn [] [] [(3, pk 3)] [] [(3, va (eTBoard p0))] id ?_
 refine seq_in ?_
 obtain ⟨v1, h2, H⟩ := oB H
 refine sn [.res (dc 1 eLI zLI v1)] [] [(12, dc 1 eLI zLI v1), (13, cL v1), (14, cI 0)] [] [] (fun t => aI (s_vCells_ok p0 p1 p2 v1 h2) (lI v1 (t))) ?_
 refine ends_blk ?_
 obtain ⟨y26, h27, H⟩ := oB H
 refine tl [] [(1, cI p1), (2, cI p2), (3, pk 3), (12, dc 1 eLI zLI v1), (13, cL v1), (14, cI 0)] [(3, va (eTBoard p0))] id ?_
 refine loop_in (fun (x : Int) => lit [(1, cI p1), (2, cI p2), (3, pk 3), (12, dc 1 eLI zLI v1), (13, cL v1), (14, cI x)] [(3, va (eTBoard p0))]) (orJ (fun (z : Unit) => At (.exit 0) (lit [] [])) (fun (z : Int) => At .ret (lit [(6, cI z)] []))) h27 ?_ ?_
 ·clear H h27
  intro x18 y0 H
  refine sn [] [] [(15, cB (decide (x18 < (v1.length : Int))))] [] [] id ?_
  refine seq_in ?_
  rcases oC H with ⟨c20, H⟩ | ⟨c20, H⟩
  ·refine it c20 ?_
   refine sk ?_
   refine seq_in ?_
   refine ends_blk ?_
   obtain ⟨v21, h22, H⟩ := oB H
   refine sn [.cs (eLI v21)] [] [(7, cI x18), (8, dc 1 eI zI v21)] [] [] (a2 eLI h22) ?_
   obtain ⟨v23, h24, H⟩ := oB H
   refine sn [.res (cI v23)] [] [(26, cB (v23 == (v21.length : Int)))] [] [] (fun t => aI (s_vCount_ok p0 p1 p2 v21 v23 h24) (lI v21 (t))) ?_
   rcases oC H with ⟨c25, H⟩ | ⟨c25, H⟩
   ·refine it c25 ?_
    refine so [] [] [(6, cI x18)] [] id ?_
    refine ends_ret ?_
    cases H
    exact rsr
   ·refine jf c25 ?_
    refine sk ?_
    refine oo [] [] [(1, cI p1), (2, cI p2), (3, pk 3), (12, dc 1 eLI zLI v1), (13, cL v1), (14, cI (W (x18 + 1)))] [(3, va (eTBoard p0))] id ?_
    cases H
    exact rr
  ·refine jf c20 ?_
   refine tl [] [] [] id ?_
   refine ends_exit ?_
   cases H
   exact rse
 ·clear h27
  cases y26 with
  | inl y28 =>
   replace H := ofInl H
   rintro e s ⟨rfl, rfl⟩
   change EndsI _ _ _ _ _ _
   refine so [] [] [(6, cI (-1))] [] id ?_
   cases H
   exact er
  | inr y29 =>
   replace H := ofInr H
   rintro e s ⟨rfl, rfl⟩
   cases H
   exact qr
def s_vCode_ir : S :=
 (sq [o 3 (.box 12 (.t 0)), o 6 (.mv (iv 0))]
 (.seq (sq [o 9 (.load 12 true (.t 3)), om 10 1, om 11 2, o 12 (.call 278 [.t 9, .t 10, .t 11]), o 13 (.bin .geq (.t 12) (iv 0))]
 (.ite (.t 13) (sq [o 6 (.mv (iv 2))]
  .ret)
 .skip))
 (.seq (sq [o 14 (.load 12 true (.t 3)), om 15 1, om 16 2, o 17 (.call 279 [.t 14, .t 15, .t 16]), o 18 (.len (.t 17)), o 19 (.mv (iv 0))]
 (.blk 0 (.loop (sq [o 20 (.bin .lss (.t 19) (.t 18))]
   (.seq (.ite (.t 20) .skip
   (.exit 0))
   (.seq (.blk 1 (sq [o 21 (.iad 1 (.t 17) (.t 19)), ol 22 21, om 8 22]
    (sq [o 23 (.load 12 true (.t 3)), om 24 1, om 25 2, om 26 8, o 27 (.call 280 [.t 23, .t 24, .t 25, .t 26]), o 28 (.bin .gtr (.t 27) (iv 0))]
    (.ite (.t 28) (sq [o 6 (.mv (iv 1))]
     .ret)
    .skip))))
   (.ops [o 29 (.bin .add (.t 19) (iv 1)), om 19 29])))))))
 (sq [o 6 (.mv (iv 0))]
 .ret))))
noncomputable def X.s_vCode (p0 : TBoard) (p1 : Int) (p2 : Int) : Option Int :=
 ((X.s_vFirst p0 p1 p2).bind fun v4 => (bif (decide (v4 ≥ 0)) then some 2 else ((X.s_vCells p0 p1 p2).bind fun v7 => ((loop (fun (x24 : Int) => ((bif (decide (x24 < (v7.length : Int))) then ((at' zLI v7 x24).bind fun v27 => ((X.s_vCount p0 p1 p2 v27).bind fun v29 => (bif (decide (v29 > 0)) then some (Sum.inr (Sum.inr 1)) else some (Sum.inl (W (x24 + 1)))))) else some (Sum.inr (Sum.inl ()))) : Option (Int ⊕ (Unit ⊕ Int)))) 0).bind fun y32 => (Sum.elim (fun (y34 : Unit) => some 0) (fun (y35 : Int) => some y35) y32)))))
theorem s_vCode_ok (p0 : TBoard) (p1 : Int) (p2 : Int) (r : Int) (H : X.s_vCode p0 p1 p2 = some r) : FK 272 [.agg (eTBoard p0), cI p1, cI p2] (cI r) := by
 unfold X.s_vCode at H
 refine fi Tryz.f272 s_vCode_ir [(6, cI r)] [] glL Tryz.func272 ?_
 refine sn [] [] [(3, pk 3)] [] [(3, va (eTBoard p0))] id ?_
 refine seq_in ?_
 obtain ⟨v4, h5, H⟩ := oB H
 refine sn [.res (cI v4)] [] [(13, cB (decide (v4 ≥ 0)))] [] [] (aI (s_vFirst_ok p0 p1 p2 v4 h5)) ?_
 rcases oC H with ⟨c6, H⟩ | ⟨c6, H⟩
 ·refine it c6 ?_
  refine so [] [] [(6, cI 2)] [] id ?_
  cases H
  exact er
 ·refine jf c6 ?_
  refine sk ?_
  refine seq_in ?_
  obtain ⟨v7, h8, H⟩ := oB H
  refine sn [.res (dc 1 eLI zLI v7)] [] [(17, dc 1 eLI zLI v7), (18, cL v7), (19, cI 0)] [] [] (fun t => aI (s_vCells_ok p0 p1 p2 v7 h8) (lI v7 (t))) ?_
  refine ends_blk ?_
  obtain ⟨y32, h33, H⟩ := oB H
  refine tl [] [(1, cI p1), (2, cI p2), (3, pk 3), (17, dc 1 eLI zLI v7), (18, cL v7), (19, cI 0)] [(3, va (eTBoard p0))] id ?_
  refine loop_in (fun (x : Int) => lit [(1, cI p1), (2, cI p2), (3, pk 3), (17, dc 1 eLI zLI v7), (18, cL v7), (19, cI x)] [(3, va (eTBoard p0))]) (orJ (fun (z : Unit) => At (.exit 0) (lit [] [])) (fun (z : Int) => At .ret (lit [(6, cI z)] []))) h33 ?_ ?_
  ·clear H h33
   intro x24 y0 H
   refine sn [] [] [(20, cB (decide (x24 < (v7.length : Int))))] [] [] id ?_
   refine seq_in ?_
   rcases oC H with ⟨c26, H⟩ | ⟨c26, H⟩
   ·refine it c26 ?_
    refine sk ?_
    refine seq_in ?_
    refine ends_blk ?_
    obtain ⟨v27, h28, H⟩ := oB H
    refine sn [.cs (eLI v27)] [] [(8, dc 1 eI zI v27)] [] [] (a2 eLI h28) ?_
    obtain ⟨v29, h30, H⟩ := oB H
    refine sn [.res (cI v29)] [] [(28, cB (decide (v29 > 0)))] [] [] (aI (s_vCount_ok p0 p1 p2 v27 v29 h30)) ?_
    rcases oC H with ⟨c31, H⟩ | ⟨c31, H⟩
    ·refine it c31 ?_
     refine so [] [] [(6, cI 1)] [] id ?_
     refine ends_ret ?_
     cases H
     exact rsr
    ·refine jf c31 ?_
     refine sk ?_
     refine oo [] [] [(1, cI p1), (2, cI p2), (3, pk 3), (17, dc 1 eLI zLI v7), (18, cL v7), (19, cI (W (x24 + 1)))] [(3, va (eTBoard p0))] id ?_
     cases H
     exact rr
   ·refine jf c26 ?_
    refine tl [] [] [] id ?_
    refine ends_exit ?_
    cases H
    exact rse
  ·clear h33
   cases y32 with
   | inl y34 =>
    replace H := ofInl H
    rintro e s ⟨rfl, rfl⟩
    change EndsI _ _ _ _ _ _
    refine so [] [] [(6, cI 0)] [] id ?_
    cases H
    exact er
   | inr y35 =>
    replace H := ofInr H
    rintro e s ⟨rfl, rfl⟩
    cases H
    exact qr
def s_vSeen_ir : S :=
 (sq [o 4 (.box 12 (.t 0)), o 8 (.mv (.v (.nil)))]
 (sq [o 9 (.mv (.v (.nil)))]
 (.seq (sq [oa 12 7 4, o 13 (.load 5 true (.t 12)), om 14 1, om 15 2, o 16 (.call 271 [.t 13, .t 14, .t 15]), o 17 (.len (.t 16)), o 18 (.mv (iv 0))]
 (.blk 0 (.loop (sq [o 19 (.bin .lss (.t 18) (.t 17))]
   (.seq (.ite (.t 19) .skip
   (.exit 0))
   (.seq (.blk 1 (sq [o 20 (.iad 1 (.t 16) (.t 18)), ol 21 20, om 11 21]
    (sq [o 22 (.load 12 true (.t 4)), om 23 1, om 24 11, o 25 (.call 272 [.t 22, .t 23, .t 24]), om 26 3, o 27 (.bin .leq (.t 25) (.t 26))]
    (.ite (.t 27) (.ops [om 28 9, om 29 11, o 30 (.bsl 1 [.t 29]), o 31 (.app 1 8 (.t 28) (.t 30)), om 9 31])
    .skip))))
   (.ops [o 32 (.bin .add (.t 18) (iv 1)), om 18 32])))))))
 (sq [om 33 9, om 8 33]
 .ret))))
noncomputable def X.s_vSeen (p0 : TBoard) (p1 : Int) (p2 : Int) (p3 : Int) : Option (List Int) :=
 ((X.s_mNear p0.Map p1 p2).bind fun v1 => ((loop (fun (x20 : (Int × (List Int))) => ((bif (decide (x20.1 < (v1.length : Int))) then ((at' zI v1 x20.1).bind fun v23 => ((X.s_vCode p0 p1 v23).bind fun v25 => (bif (decide (v25 ≤ p3)) then (if (x20.2 ++ ([v23] : List Int)).length ≤ LIM then some (Sum.inl ((W (x20.1 + 1)), (x20.2 ++ ([v23] : List Int)))) else none) else some (Sum.inl ((W (x20.1 + 1)), x20.2))))) else some (Sum.inr x20.2)) : Option ((Int × (List Int)) ⊕ (List Int)))) (0, ([] : List Int))).bind fun y29 => some y29))
theorem s_vSeen_ok (p0 : TBoard) (p1 : Int) (p2 : Int) (p3 : Int) (r : (List Int)) (H : X.s_vSeen p0 p1 p2 p3 = some r) : FK 267 [.agg (eTBoard p0), cI p1, cI p2, cI p3] (.c (dat 1 eI zI r)) := by
 unfold X.s_vSeen at H
 refine fi Tryz.f267 s_vSeen_ir [(8, dc 1 eI zI r)] [] glL Tryz.func267 ?_
 refine sn [] [] [(4, pk 4)] [] [(4, va (eTBoard p0))] id ?_
 refine sn [] [] [(9, .c (.nil))] [] [] id ?_
 refine seq_in ?_
 obtain ⟨v1, h2, H⟩ := oB H
 refine sn [.res (dc 1 eI zI v1)] [] [(16, dc 1 eI zI v1), (17, cL v1), (18, cI 0)] [] [] (fun t => aI (s_mNear_ok p0.Map p1 p2 v1 h2) (lI v1 (t))) ?_
 refine ends_blk ?_
 obtain ⟨y29, h30, H⟩ := oB H
 refine tl [.nlo 9 1001 1 (fF eI zI ([] : List Int))] [(1, cI p1), (3, cI p3), (4, pk 4), (9, ow 1001 1 ([] : List Int)), (16, dc 1 eI zI v1), (17, cL v1), (18, cI 0)] [(4, va (eTBoard p0)), (1001, ar 1 eI zI ([] : List Int))] (aI (by decide : 0 < 1)) ?_
 refine loop_in (fun (x : (Int × (List Int))) => lit [(1, cI p1), (3, cI p3), (4, pk 4), (9, ow 1001 1 x.2), (16, dc 1 eI zI v1), (17, cL v1), (18, cI x.1)] [(4, va (eTBoard p0)), (1001, ar 1 eI zI x.2)]) (fun (z : (List Int)) => At (.exit 0) (lit [(9, ow 1001 1 z)] [(1001, ar 1 eI zI z)])) h30 ?_ ?_
 ·clear H h30
  intro x20 y0 H
  refine sn [] [] [(19, cB (decide (x20.1 < (v1.length : Int))))] [] [] id ?_
  refine seq_in ?_
  rcases oC H with ⟨c22, H⟩ | ⟨c22, H⟩
  ·refine it c22 ?_
   refine sk ?_
   refine seq_in ?_
   refine ends_blk ?_
   obtain ⟨v23, h24, H⟩ := oB H
   refine sn [.cs (eI v23)] [] [(11, cI v23)] [] [] (a2 eI h24) ?_
   obtain ⟨v25, h26, H⟩ := oB H
   refine sn [.res (cI v25)] [] [(27, cB (decide (v25 ≤ p3)))] [] [] (aI (s_vCode_ok p0 p1 v23 v25 h26)) ?_
   rcases oC H with ⟨c27, H⟩ | ⟨c27, H⟩
   ·refine it c27 ?_
    obtain ⟨g28, H⟩ := oI H
    refine oo [fh eI zI ([v23] : List Int), fh eI zI (x20.2 ++ ([v23] : List Int))] [] [(1, cI p1), (3, cI p3), (4, pk 4), (9, ow 31 1 (x20.2 ++ ([v23] : List Int))), (16, dc 1 eI zI v1), (17, cL v1), (18, cI x20.1)] [(4, va (eTBoard p0)), (31, ar 1 eI zI (x20.2 ++ ([v23] : List Int)))] (fun t => aI (rfl : ([v23] : List Int).length = 1) (aI (fF_lit eI zI ([v23] : List Int)) (aI (And.intro (Nat.le_refl x20.2.length) (And.intro (@List.length_append _ x20.2 ([v23] : List Int)) g28)) (aI (fF_appL eI zI x20.2 ([v23] : List Int)) (aI (fF_appR eI zI x20.2 ([v23] : List Int)) (t)))))) ?_
    change EndsI _ _ _ _ _ _
    refine oo [] [.ren 31 1001] [(1, cI p1), (3, cI p3), (4, pk 4), (9, ow 1001 1 (x20.2 ++ ([v23] : List Int))), (16, dc 1 eI zI v1), (17, cL v1), (18, cI (W (x20.1 + 1)))] [(4, va (eTBoard p0)), (1001, ar 1 eI zI (x20.2 ++ ([v23] : List Int)))] id ?_
    cases H
    exact rr
   ·refine jf c27 ?_
    refine sk ?_
    refine oo [] [] [(1, cI p1), (3, cI p3), (4, pk 4), (9, ow 1001 1 x20.2), (16, dc 1 eI zI v1), (17, cL v1), (18, cI (W (x20.1 + 1)))] [(4, va (eTBoard p0)), (1001, ar 1 eI zI x20.2)] id ?_
    cases H
    exact rr
  ·refine jf c22 ?_
   refine tl [] [(9, ow 1001 1 x20.2)] [(1001, ar 1 eI zI x20.2)] id ?_
   refine ends_exit ?_
   cases H
   exact rse
 ·clear h30
  rintro e s ⟨rfl, rfl⟩
  change EndsI _ _ _ _ _ _
  refine sn [] [] [(8, ow 1001 1 y29)] [] [] id ?_
  refine tl [.frz 8] [(8, dc 1 eI zI y29)] [] (aI (Nat.le_refl y29.length)) ?_
  cases H
  exact er
def s_vBy_ir : S :=
 (sq [o 3 (.box 12 (.t 0)), o 6 (.mv (.v (.nil)))]
 (.seq (.drw [(0, 1), (0, 2), (1, 2), (0, 3), (1, 3), (0, 4), (1, 4), (0, 5), (1, 5), (2, 5), (3, 5), (4, 5), (0, 6), (1, 6), (0, 7), (1, 7), (0, 8), (1, 8)] [o 7 (.load 12 true (.t 3)), om 8 2, oa 9 0 3, oa 10 1 9, ol 11 10, om 12 1, o 13 (.iad 6 (.t 11) (.t 12)), oa 14 5 13, ol 15 14, o 16 (.call 267 [.t 7, .t 8, .t 15, .v (.int .i64 1)]), om 6 16])
 .ret))
noncomputable def X.s_vBy (p0 : TBoard) (p1 : Int) (p2 : Int) : Option (List Int) :=
 ((at' zTKind p0.Rules.Kinds p1).bind fun v1 => ((X.s_vSeen p0 p2 v1.View 1).bind fun v3 => some v3))
theorem s_vBy_ok (p0 : TBoard) (p1 : Int) (p2 : Int) (r : (List Int)) (H : X.s_vBy p0 p1 p2 = some r) : FK 252 [.agg (eTBoard p0), cI p1, cI p2] (.c (dat 1 eI zI r)) := by
 unfold X.s_vBy at H
 refine fi Tryz.f252 s_vBy_ir [(6, dc 1 eI zI r)] [] glL Tryz.func252 ?_
 refine sn [] [] [(3, pk 3)] [] [(3, va (eTBoard p0))] id ?_
 obtain ⟨v1, h2, H⟩ := oB H
 obtain ⟨v3, h4, H⟩ := oB H
 refine sx [.cs (eTKind v1), .res (dc 1 eI zI v3)] [] [(6, dc 1 eI zI v3)] [] (fun t => (a2 eTKind h2 (aI rN (aI (s_vSeen_ok p0 p2 v1.View 1 v3 h4) (aG 2 rN (t)))))) ?_
 cases H
 exact er
def s_SeenBy_ir : S :=
 (sq [o 3 (.box 12 (.t 0)), o 6 (.mv (.v (.nil))), o 7 (.mv bF)]
 (.seq (sq [o 8 (.load 12 true (.t 3)), om 9 1, om 10 2, o 11 (.call 251 [.t 8, .t 9, .t 10]), o 12 (.not (.t 11))]
 (.ite (.t 12) (sq [o 6 (.mv (.v (.nil))), o 7 (.mv bF)]
  .ret)
 .skip))
 (sq [o 13 (.load 12 true (.t 3)), om 14 1, om 15 2, o 16 (.call 252 [.t 13, .t 14, .t 15]), om 6 16, o 7 (.mv bT)]
 .ret)))
noncomputable def X.s_SeenBy (p0 : TBoard) (p1 : Int) (p2 : Int) : Option ((List Int) × Bool) :=
 ((X.s_bAt p0 p1 p2).bind fun v1 => (bif (!v1) then some (([] : List Int), false) else ((X.s_vBy p0 p1 p2).bind fun v4 => some (v4, true))))
theorem s_SeenBy_ok (p0 : TBoard) (p1 : Int) (p2 : Int) (r : ((List Int) × Bool)) (H : X.s_SeenBy p0 p1 p2 = some r) : FK 221 [.agg (eTBoard p0), cI p1, cI p2] (.tup [(false, [dat 1 eI zI r.1]), (false, [.bool r.2])]) := by
 unfold X.s_SeenBy at H
 refine fi Tryz.f221 s_SeenBy_ir [(6, dc 1 eI zI r.1), (7, cB r.2)] [] glL Tryz.func221 ?_
 refine sn [] [] [(3, pk 3)] [] [(3, va (eTBoard p0))] id ?_
 refine seq_in ?_
 obtain ⟨v1, h2, H⟩ := oB H
 refine sn [.res (cB v1)] [] [(12, cB (!v1))] [] [] (aI (s_bAt_ok p0 p1 p2 v1 h2)) ?_
 rcases oC H with ⟨c3, H⟩ | ⟨c3, H⟩
 ·refine it c3 ?_
  refine so [] [] [(6, .c (.nil)), (7, cB false)] [] id ?_
  refine tl [.nld 6 1 (fF eI zI ([] : List Int))] [(6, .c (dat 1 eI zI ([] : List Int))), (7, cB false)] [] id ?_
  cases H
  exact er
 ·refine jf c3 ?_
  refine sk ?_
  obtain ⟨v4, h5, H⟩ := oB H
  refine so [.res (dc 1 eI zI v4)] [] [(6, dc 1 eI zI v4), (7, cB true)] [] (aI (s_vBy_ok p0 p1 p2 v4 h5)) ?_
  cases H
  exact er
def s_fgSpots_ir : S :=
 (sq [o 2 (.box 12 (.t 0)), o 3 (.box 4 (.t 1)), o 4 (.mv (.v (.nil)))]
 (sq [o 8 (.load 12 true (.t 2)), oa 9 1 3, ol 10 9, oa 11 2 3, ol 12 11, o 13 (.call 221 [.t 8, .t 10, .t 12]), om 7 13, o 14 (.ext (.t 7) 0), o 15 (.ext (.t 7) 1), om 5 14, om 6 15]
 (sq [om 16 5, om 4 16]
 .ret)))
noncomputable def X.s_fgSpots (p0 : TBoard) (p1 : TUnit) : Option (List Int) :=
 ((X.s_SeenBy p0 p1.Kind p1.At).bind fun v1 => some v1.1)
theorem s_fgSpots_ok (p0 : TBoard) (p1 : TUnit) (r : (List Int)) (H : X.s_fgSpots p0 p1 = some r) : FK 175 [.agg (eTBoard p0), .agg (eTUnit p1)] (.c (dat 1 eI zI r)) := by
 unfold X.s_fgSpots at H
 refine fi Tryz.f175 s_fgSpots_ir [(4, dc 1 eI zI r)] [] glL Tryz.func175 ?_
 refine so [] [] [(2, pk 2), (3, pk 3)] [(2, va (eTBoard p0)), (3, va (eTUnit p1))] id ?_
 obtain ⟨v1, h2, H⟩ := oB H
 refine so [.res (.tup [(false, [dat 1 eI zI v1.1]), (false, [.bool v1.2])])] [] [(5, dc 1 eI zI v1.1)] [] (aI (s_SeenBy_ok p0 p1.Kind p1.At v1 h2)) ?_
 refine so [] [] [(4, dc 1 eI zI v1.1)] [] id ?_
 cases H
 exact er
def s_l1Put_ir : S :=
 (sq [o 4 (.mv (.v (.nil)))]
 (sq [o 5 (.mv (iv 0))]
 (.seq (.blk 0 (.loop (.seq (sq [om 7 5, om 8 0, o 9 (.len (.t 8)), o 10 (.bin .lss (.t 7) (.t 9)), om 11 10, oh 12 (.mv (.t 0)) 11, oh 13 (.mv (.t 5)) 11, oh 14 (.iad 1 (.t 12) (.t 13)) 11, oh 15 (.load 1 false (.t 14)) 11, oh 16 (.mv (.t 1)) 11, oh 17 (.bin .lss (.t 15) (.t 16)) 11, o 18 (.pick (.t 11) (.t 17) bF)]
   (.ite (.t 18) .skip
   (.exit 0)))
   (.blk 1 (.ops [om 19 5, o 20 (.bin .add (.t 19) (iv 1)), om 5 20])))))
 (.seq (sq [om 21 5, om 22 0, o 23 (.len (.t 22)), o 24 (.bin .lss (.t 21) (.t 23)), om 25 24, oh 26 (.mv (.t 0)) 25, oh 27 (.mv (.t 5)) 25, oh 28 (.iad 1 (.t 26) (.t 27)) 25, oh 29 (.load 1 false (.t 28)) 25, oh 30 (.mv (.t 1)) 25, oh 31 (.bin .eql (.t 29) (.t 30)) 25, o 32 (.pick (.t 25) (.t 31) bF)]
 (.ite (.t 32) (sq [om 33 0, om 4 33]
  .ret)
 .skip))
 (sq [o 34 (.bsl 1 []), om 35 0, om 36 5, o 37 (.slc 1 (.t 35) none (some (.t 36))), o 38 (.app 1 8 (.t 34) (.t 37)), om 6 38]
 (sq [om 39 6, om 40 1, o 41 (.bsl 1 [.t 40]), o 42 (.app 1 8 (.t 39) (.t 41)), om 6 42]
 (sq [om 43 6, om 44 0, om 45 5, o 46 (.slc 1 (.t 44) (some (.t 45)) none), o 47 (.app 1 8 (.t 43) (.t 46)), om 4 47]
 .ret)))))))
noncomputable def X.s_l1Put (p0 : (List Int)) (p1 : Int) : Option (List Int) :=
 ((loop (fun (x26 : Int) => ((bif (decide (x26 < (p0.length : Int))) then ((at' zI p0 x26).bind fun v28 => (bif (decide (v28 < p1)) then some (Sum.inl (W (x26 + 1))) else some (Sum.inr x26))) else some (Sum.inr x26)) : Option (Int ⊕ Int))) 0).bind fun y31 => (((bif (decide (y31 < (p0.length : Int))) then ((at' zI p0 y31).bind fun v38 => (bif (v38 == p1) then some (Sum.inr p0) else some (Sum.inl ()))) else some (Sum.inl ())) : Option (Unit ⊕ (List Int))).bind fun y41 => (Sum.elim (fun (y43 : Unit) => (if 0 ≤ (0 : Int) ∧ (0 : Int) ≤ y31 ∧ y31 ≤ (p0.length : Int) then (if (([] : List Int) ++ ((p0.drop (0 : Int).toNat).take (y31.toNat - (0 : Int).toNat))).length ≤ LIM then (if ((([] : List Int) ++ ((p0.drop (0 : Int).toNat).take (y31.toNat - (0 : Int).toNat))) ++ ([p1] : List Int)).length ≤ LIM then (if 0 ≤ y31 ∧ y31 ≤ (p0.length : Int) ∧ (p0.length : Int) ≤ (p0.length : Int) then (if (((([] : List Int) ++ ((p0.drop (0 : Int).toNat).take (y31.toNat - (0 : Int).toNat))) ++ ([p1] : List Int)) ++ ((p0.drop y31.toNat).take ((p0.length : Int).toNat - y31.toNat))).length ≤ LIM then some (((([] : List Int) ++ ((p0.drop (0 : Int).toNat).take (y31.toNat - (0 : Int).toNat))) ++ ([p1] : List Int)) ++ ((p0.drop y31.toNat).take ((p0.length : Int).toNat - y31.toNat))) else none) else none) else none) else none) else none)) (fun (y44 : (List Int)) => some y44) y41)))
theorem s_l1Put_ok (p0 : (List Int)) (p1 : Int) (r : (List Int)) (H : X.s_l1Put p0 p1 = some r) : FK 176 [.c (dat 1 eI zI p0), cI p1] (.c (dat 1 eI zI r)) := by
 unfold X.s_l1Put at H
 refine fi Tryz.f176 s_l1Put_ir [(4, dc 1 eI zI r)] [] glL Tryz.func176 ?_
 refine sn [] [] [] [] [] id ?_
 refine sn [] [] [(5, cI 0)] [] [] id ?_
 refine seq_in ?_
 refine ends_blk ?_
 obtain ⟨y31, h32, H⟩ := oB H
 refine tl [] [(0, dc 1 eI zI p0), (1, cI p1), (5, cI 0)] [] id ?_
 refine loop_in (fun (x : Int) => lit [(0, dc 1 eI zI p0), (1, cI p1), (5, cI x)] []) (fun (z : Int) => At (.exit 0) (lit [(0, dc 1 eI zI p0), (1, cI p1), (5, cI z)] [])) h32 ?_ ?_
 ·clear H h32
  intro x26 y0 H
  refine seq_in ?_
  rcases oC H with ⟨c27, H⟩ | ⟨c27, H⟩
  ·obtain ⟨v28, h29, H⟩ := oB H
   refine sn (rg 3 true ([.cs (eI v28)] ++ rg 4 true [])) [] [(18, cB (decide (v28 < p1)))] [] [] (fun t => lI p0 (aG 3 c27 ((a2 eI h29 (aG 4 c27 (t)))))) ?_
   rcases oC H with ⟨c30, H⟩ | ⟨c30, H⟩
   ·refine it c30 ?_
    refine sk ?_
    refine ends_blk ?_
    refine oo [] [] [(0, dc 1 eI zI p0), (1, cI p1), (5, cI (W (x26 + 1)))] [] id ?_
    cases H
    exact rr
   ·refine jf c30 ?_
    refine tl [] [(0, dc 1 eI zI p0), (1, cI p1), (5, cI x26)] [] id ?_
    refine ends_exit ?_
    cases H
    exact rse
  ·refine sn (rg 7 false []) [] [(18, cB false)] [] [] (fun t => lI p0 (aG 7 c27 (t))) ?_
   refine jf rF ?_
   refine tl [] [(0, dc 1 eI zI p0), (1, cI p1), (5, cI x26)] [] id ?_
   refine ends_exit ?_
   cases H
   exact rse
 ·clear h32
  rintro e s ⟨rfl, rfl⟩
  change EndsI _ _ _ _ _ _
  obtain ⟨y41, h42, H⟩ := oB H
  refine seq_in (cut_in (orJ (fun (z : Unit) => At .normal (lit [(0, dc 1 eI zI p0), (1, cI p1), (5, cI y31)] [])) (fun (z : (List Int)) => At .ret (lit [(4, dc 1 eI zI z)] []))) y41 ?_ ?_)
  ·clear H
   revert h42
   generalize y41 = y0
   intro H
   rcases oC H with ⟨c37, H⟩ | ⟨c37, H⟩
   ·obtain ⟨v38, h39, H⟩ := oB H
    refine sn (rg 3 true ([.cs (eI v38)] ++ rg 4 true [])) [] [(32, cB (v38 == p1))] [] [] (fun t => lI p0 (aG 3 c37 ((a2 eI h39 (aG 4 c37 (t)))))) ?_
    rcases oC H with ⟨c40, H⟩ | ⟨c40, H⟩
    ·refine it c40 ?_
     refine so [] [] [(4, dc 1 eI zI p0)] [] id ?_
     refine ends_ret ?_
     cases H
     exact rr
    ·refine jf c40 ?_
     refine tl [] [(0, dc 1 eI zI p0), (1, cI p1), (5, cI y31)] [] id ?_
     refine ends_skip ?_
     cases H
     exact rr
   ·refine sn (rg 7 false []) [] [(32, cB false)] [] [] (fun t => lI p0 (aG 7 c37 (t))) ?_
    refine jf rF ?_
    refine tl [] [(0, dc 1 eI zI p0), (1, cI p1), (5, cI y31)] [] id ?_
    refine ends_skip ?_
    cases H
    exact rr
  ·clear h42
   cases y41 with
   | inl y43 =>
    replace H := ofInl H
    rintro e s ⟨rfl, rfl⟩
    change EndsI _ _ _ _ _ _
    obtain ⟨g45, H⟩ := oI H
    obtain ⟨g46, H⟩ := oI H
    refine sn [fh eI zI ([] : List Int), fh eI zI ((p0.drop (0 : Int).toNat).take (y31.toNat - (0 : Int).toNat)), fh eI zI (([] : List Int) ++ ((p0.drop (0 : Int).toNat).take (y31.toNat - (0 : Int).toNat)))] [] [(6, ow 38 1 (([] : List Int) ++ ((p0.drop (0 : Int).toNat).take (y31.toNat - (0 : Int).toNat))))] [] [(38, ar 1 eI zI (([] : List Int) ++ ((p0.drop (0 : Int).toNat).take (y31.toNat - (0 : Int).toNat))))] (fun t => aI (rfl : ([] : List Int).length = 0) (aI (fF_lit eI zI ([] : List Int)) (aI g45 (aI (len_drop p0 (0 : Int) y31 g45) (aI (fF_drop eI zI p0 (0 : Int) y31 g45) (aI (And.intro (Nat.le_refl (([] : List Int).length)) (And.intro (@List.length_append _ ([] : List Int) ((p0.drop (0 : Int).toNat).take (y31.toNat - (0 : Int).toNat))) g46)) (aI (fF_appL eI zI ([] : List Int) ((p0.drop (0 : Int).toNat).take (y31.toNat - (0 : Int).toNat))) (aI (fF_appR eI zI ([] : List Int) ((p0.drop (0 : Int).toNat).take (y31.toNat - (0 : Int).toNat))) (t))))))))) ?_
    obtain ⟨g47, H⟩ := oI H
    refine so [fh eI zI ([p1] : List Int), fh eI zI ((([] : List Int) ++ ((p0.drop (0 : Int).toNat).take (y31.toNat - (0 : Int).toNat))) ++ ([p1] : List Int))] [] [(0, dc 1 eI zI p0), (5, cI y31), (6, ow 42 1 ((([] : List Int) ++ ((p0.drop (0 : Int).toNat).take (y31.toNat - (0 : Int).toNat))) ++ ([p1] : List Int)))] [(42, ar 1 eI zI ((([] : List Int) ++ ((p0.drop (0 : Int).toNat).take (y31.toNat - (0 : Int).toNat))) ++ ([p1] : List Int)))] (fun t => aI (rfl : ([p1] : List Int).length = 1) (aI (fF_lit eI zI ([p1] : List Int)) (aI (And.intro (Nat.le_refl ((([] : List Int) ++ ((p0.drop (0 : Int).toNat).take (y31.toNat - (0 : Int).toNat))).length)) (And.intro (@List.length_append _ (([] : List Int) ++ ((p0.drop (0 : Int).toNat).take (y31.toNat - (0 : Int).toNat))) ([p1] : List Int)) g47)) (aI (fF_appL eI zI (([] : List Int) ++ ((p0.drop (0 : Int).toNat).take (y31.toNat - (0 : Int).toNat))) ([p1] : List Int)) (aI (fF_appR eI zI (([] : List Int) ++ ((p0.drop (0 : Int).toNat).take (y31.toNat - (0 : Int).toNat))) ([p1] : List Int)) (t)))))) ?_
    obtain ⟨g48, H⟩ := oI H
    obtain ⟨g49, H⟩ := oI H
    refine so [fh eI zI ((p0.drop y31.toNat).take ((p0.length : Int).toNat - y31.toNat)), fh eI zI (((([] : List Int) ++ ((p0.drop (0 : Int).toNat).take (y31.toNat - (0 : Int).toNat))) ++ ([p1] : List Int)) ++ ((p0.drop y31.toNat).take ((p0.length : Int).toNat - y31.toNat)))] [] [(4, ow 47 1 (((([] : List Int) ++ ((p0.drop (0 : Int).toNat).take (y31.toNat - (0 : Int).toNat))) ++ ([p1] : List Int)) ++ ((p0.drop y31.toNat).take ((p0.length : Int).toNat - y31.toNat))))] [(47, ar 1 eI zI (((([] : List Int) ++ ((p0.drop (0 : Int).toNat).take (y31.toNat - (0 : Int).toNat))) ++ ([p1] : List Int)) ++ ((p0.drop y31.toNat).take ((p0.length : Int).toNat - y31.toNat))))] (fun t => aI g48 (aI (len_drop p0 y31 (p0.length : Int) g48) (aI (fF_drop eI zI p0 y31 (p0.length : Int) g48) (aI (And.intro (Nat.le_refl (((([] : List Int) ++ ((p0.drop (0 : Int).toNat).take (y31.toNat - (0 : Int).toNat))) ++ ([p1] : List Int)).length)) (And.intro (@List.length_append _ ((([] : List Int) ++ ((p0.drop (0 : Int).toNat).take (y31.toNat - (0 : Int).toNat))) ++ ([p1] : List Int)) ((p0.drop y31.toNat).take ((p0.length : Int).toNat - y31.toNat))) g49)) (aI (fF_appL eI zI ((([] : List Int) ++ ((p0.drop (0 : Int).toNat).take (y31.toNat - (0 : Int).toNat))) ++ ([p1] : List Int)) ((p0.drop y31.toNat).take ((p0.length : Int).toNat - y31.toNat))) (aI (fF_appR eI zI ((([] : List Int) ++ ((p0.drop (0 : Int).toNat).take (y31.toNat - (0 : Int).toNat))) ++ ([p1] : List Int)) ((p0.drop y31.toNat).take ((p0.length : Int).toNat - y31.toNat))) (t))))))) ?_
    refine tl [.frz 4] [(4, .c (dat 1 eI zI (((([] : List Int) ++ ((p0.drop (0 : Int).toNat).take (y31.toNat - (0 : Int).toNat))) ++ ([p1] : List Int)) ++ ((p0.drop y31.toNat).take ((p0.length : Int).toNat - y31.toNat)))))] [] (aI (Nat.le_refl ((((([] : List Int) ++ ((p0.drop (0 : Int).toNat).take (y31.toNat - (0 : Int).toNat))) ++ ([p1] : List Int)) ++ ((p0.drop y31.toNat).take ((p0.length : Int).toNat - y31.toNat))).length))) ?_
    cases H
    exact er
   | inr y44 =>
    replace H := ofInr H
    rintro e s ⟨rfl, rfl⟩
    cases H
    exact qr
def s_fgSeen_ir : S :=
 (sq [o 3 (.box 12 (.t 0)), o 4 (.box 3 (.t 1)), o 6 (.mv (.v (.nil)))]
 (sq [o 7 (.mv (.v (.nil)))]
 (.seq (sq [o 12 (.load 3 true (.t 4)), om 13 2, o 14 (.call 174 [.t 12, .t 13]), o 15 (.len (.t 14)), o 16 (.mv (iv 0))]
 (.blk 0 (.loop (sq [o 17 (.bin .lss (.t 16) (.t 15))]
   (.seq (.ite (.t 17) .skip
   (.exit 0))
   (.seq (.blk 1 (sq [o 18 (.iad 1 (.t 14) (.t 16)), ol 19 18, om 9 19]
    (.seq (.drw [(0, 1), (0, 2), (0, 3), (1, 3), (2, 3), (0, 4), (0, 5), (0, 8), (1, 8), (2, 8), (3, 8), (4, 8), (5, 8), (6, 8), (7, 8)] [o 20 (.load 12 true (.t 3)), oa 21 2 4, ol 22 21, om 23 9, o 24 (.iad 4 (.t 22) (.t 23)), o 25 (.load 4 true (.t 24)), o 26 (.call 175 [.t 20, .t 25]), o 27 (.len (.t 26)), o 28 (.mv (iv 0))])
    (.blk 2 (.loop (sq [o 29 (.bin .lss (.t 28) (.t 27))]
      (.seq (.ite (.t 29) .skip
      (.exit 2))
      (.seq (.blk 3 (sq [o 30 (.iad 1 (.t 26) (.t 28)), ol 31 30, om 11 31]
       (.ops [om 32 7, om 33 11, o 34 (.call 176 [.t 32, .t 33]), om 7 34])))
      (.ops [o 35 (.bin .add (.t 28) (iv 1)), om 28 35])))))))))
   (.ops [o 36 (.bin .add (.t 16) (iv 1)), om 16 36])))))))
 (sq [om 37 7, om 6 37]
 .ret))))
noncomputable def X.s_fgSeen (p0 : TBoard) (p1 : TState) (p2 : Int) : Option (List Int) :=
 ((X.s_sOf p1 p2).bind fun v1 => ((loop (fun (x64 : ((List Int) × Int)) => ((bif (decide (x64.2 < (v1.length : Int))) then ((at' zI v1 x64.2).bind fun v67 => ((at' zTUnit p1.Units v67).bind fun v69 => ((X.s_fgSpots p0 v69).bind fun v71 => ((loop (fun (x86 : ((List Int) × Int)) => ((bif (decide (x86.2 < (v71.length : Int))) then ((at' zI v71 x86.2).bind fun v89 => ((X.s_l1Put x86.1 v89).bind fun v91 => some (Sum.inl (v91, (W (x86.2 + 1)))))) else some (Sum.inr x86.1)) : Option (((List Int) × Int) ⊕ (List Int)))) (x64.1, 0)).bind fun y93 => some (Sum.inl (y93, (W (x64.2 + 1)))))))) else some (Sum.inr x64.1)) : Option (((List Int) × Int) ⊕ (List Int)))) (([] : List Int), 0)).bind fun y95 => some y95))
theorem s_fgSeen_ok (p0 : TBoard) (p1 : TState) (p2 : Int) (r : (List Int)) (H : X.s_fgSeen p0 p1 p2 = some r) : FK 132 [.agg (eTBoard p0), .agg (eTState p1), cI p2] (.c (dat 1 eI zI r)) := by
 unfold X.s_fgSeen at H
 refine fi Tryz.f132 s_fgSeen_ir [(6, dc 1 eI zI r)] [] glL Tryz.func132 ?_
 refine sn [] [] [(3, pk 3), (4, pk 4)] [] [(3, va (eTBoard p0)), (4, va (eTState p1))] id ?_
 refine sn [] [] [(7, .c (.nil))] [] [] id ?_
 refine seq_in ?_
 obtain ⟨v1, h2, H⟩ := oB H
 refine sn [.res (dc 1 eI zI v1)] [] [(14, dc 1 eI zI v1), (15, cL v1), (16, cI 0)] [] [] (fun t => aI (s_sOf_ok p1 p2 v1 h2) (lI v1 (t))) ?_
 refine ends_blk ?_
 obtain ⟨y95, h96, H⟩ := oB H
 refine tl [.nld 7 1 (fF eI zI ([] : List Int))] [(3, pk 3), (4, pk 4), (7, .c (dat 1 eI zI ([] : List Int))), (14, dc 1 eI zI v1), (15, cL v1), (16, cI 0)] [(3, va (eTBoard p0)), (4, va (eTState p1))] id ?_
 refine loop_in (fun (x : ((List Int) × Int)) => lit [(3, pk 3), (4, pk 4), (7, dc 1 eI zI x.1), (14, dc 1 eI zI v1), (15, cL v1), (16, cI x.2)] [(3, va (eTBoard p0)), (4, va (eTState p1))]) (fun (z : (List Int)) => At (.exit 0) (lit [(7, dc 1 eI zI z)] [])) h96 ?_ ?_
 ·clear H h96
  intro x64 y0 H
  refine sn [] [] [(17, cB (decide (x64.2 < (v1.length : Int))))] [] [] id ?_
  refine seq_in ?_
  rcases oC H with ⟨c66, H⟩ | ⟨c66, H⟩
  ·refine it c66 ?_
   refine sk ?_
   refine seq_in ?_
   refine ends_blk ?_
   obtain ⟨v67, h68, H⟩ := oB H
   refine sn [.cs (eI v67)] [] [(9, cI v67)] [] [] (a2 eI h68) ?_
   obtain ⟨v69, h70, H⟩ := oB H
   obtain ⟨v71, h72, H⟩ := oB H
   refine xn [.cs (eTUnit v69), .res (dc 1 eI zI v71)] [] [(26, dc 1 eI zI v71), (27, cL v71), (28, cI 0)] [] [] (fun t => (a2 eTUnit h70 (aI rN (aI (s_fgSpots_ok p0 v69 v71 h72) (aG 2 rN (t)))))) ?_
   refine ends_blk ?_
   obtain ⟨y93, h94, H⟩ := oB H
   refine tl [] [(3, pk 3), (4, pk 4), (7, dc 1 eI zI x64.1), (14, dc 1 eI zI v1), (15, cL v1), (16, cI x64.2), (26, dc 1 eI zI v71), (27, cL v71), (28, cI 0)] [(3, va (eTBoard p0)), (4, va (eTState p1))] id ?_
   refine loop_in (fun (x : ((List Int) × Int)) => lit [(3, pk 3), (4, pk 4), (7, dc 1 eI zI x.1), (14, dc 1 eI zI v1), (15, cL v1), (16, cI x64.2), (26, dc 1 eI zI v71), (27, cL v71), (28, cI x.2)] [(3, va (eTBoard p0)), (4, va (eTState p1))]) (fun (z : (List Int)) => At (.exit 2) (lit [(3, pk 3), (4, pk 4), (7, dc 1 eI zI z), (14, dc 1 eI zI v1), (15, cL v1), (16, cI x64.2)] [(3, va (eTBoard p0)), (4, va (eTState p1))])) h94 ?_ ?_
   ·clear H h94
    intro x86 y0 H
    refine sn [] [] [(29, cB (decide (x86.2 < (v71.length : Int))))] [] [] id ?_
    refine seq_in ?_
    rcases oC H with ⟨c88, H⟩ | ⟨c88, H⟩
    ·refine it c88 ?_
     refine sk ?_
     refine seq_in ?_
     refine ends_blk ?_
     obtain ⟨v89, h90, H⟩ := oB H
     refine sn [.cs (eI v89)] [] [(11, cI v89)] [] [] (a2 eI h90) ?_
     obtain ⟨v91, h92, H⟩ := oB H
     refine oo [.res (dc 1 eI zI v91)] [] [(3, pk 3), (4, pk 4), (7, dc 1 eI zI v91), (14, dc 1 eI zI v1), (15, cL v1), (16, cI x64.2), (26, dc 1 eI zI v71), (27, cL v71), (28, cI x86.2)] [(3, va (eTBoard p0)), (4, va (eTState p1))] (aI (s_l1Put_ok x86.1 v89 v91 h92)) ?_
     change EndsI _ _ _ _ _ _
     refine oo [] [] [(3, pk 3), (4, pk 4), (7, dc 1 eI zI v91), (14, dc 1 eI zI v1), (15, cL v1), (16, cI x64.2), (26, dc 1 eI zI v71), (27, cL v71), (28, cI (W (x86.2 + 1)))] [(3, va (eTBoard p0)), (4, va (eTState p1))] id ?_
     cases H
     exact rr
    ·refine jf c88 ?_
     refine tl [] [(3, pk 3), (4, pk 4), (7, dc 1 eI zI x86.1), (14, dc 1 eI zI v1), (15, cL v1), (16, cI x64.2)] [(3, va (eTBoard p0)), (4, va (eTState p1))] id ?_
     refine ends_exit ?_
     cases H
     exact rse
   ·clear h94
    rintro e s ⟨rfl, rfl⟩
    change EndsI _ _ _ _ _ _
    refine oo [] [] [(3, pk 3), (4, pk 4), (7, dc 1 eI zI y93), (14, dc 1 eI zI v1), (15, cL v1), (16, cI (W (x64.2 + 1)))] [(3, va (eTBoard p0)), (4, va (eTState p1))] id ?_
    cases H
    exact rr
  ·refine jf c66 ?_
   refine tl [] [(7, dc 1 eI zI x64.1)] [] id ?_
   refine ends_exit ?_
   cases H
   exact rse
 ·clear h96
  rintro e s ⟨rfl, rfl⟩
  change EndsI _ _ _ _ _ _
  refine so [] [] [(6, dc 1 eI zI y95)] [] id ?_
  cases H
  exact er
def s_fgView_ir : S :=
 (sq [o 3 (.box 12 (.t 0)), o 4 (.box 3 (.t 1)), o 6 (.alloc [.int .i64 0, .int .i64 0, .int .i64 0, .nil, .nil, .nil])]
 (.seq (.drw [(0, 1), (0, 2), (0, 3), (1, 3), (2, 3), (0, 4), (1, 4), (2, 4), (0, 5), (1, 5), (2, 5), (3, 5), (4, 5), (0, 6), (1, 6), (2, 6), (3, 6), (4, 6), (5, 6), (0, 7), (1, 7), (2, 7), (3, 7), (4, 7), (5, 7), (6, 7), (0, 8), (1, 8), (2, 8), (3, 8), (4, 8), (0, 10), (1, 10), (2, 10), (3, 10), (4, 10), (5, 10), (6, 10), (7, 10), (8, 10), (9, 10)] [om 12 2, oa 13 0 4, ol 14 13, oa 15 1 4, ol 16 15, o 17 (.load 12 true (.t 3)), o 18 (.load 3 true (.t 4)), om 19 2, o 20 (.call 132 [.t 17, .t 18, .t 19]), o 21 (.build [.int .i64 0, .int .i64 0, .int .i64 0, .nil, .nil, .nil] [(0, 1, .t 12), (1, 1, .t 14), (2, 1, .t 16), (3, 1, .t 20)]), o 7 (.alloc [.int .i64 0, .int .i64 0, .int .i64 0, .nil, .nil, .nil]), os 6 7 21])
 (.seq (sq [oa 22 2 4, ol 23 22, o 24 (.len (.t 23)), o 25 (.mv (iv 0))]
 (.blk 0 (.loop (sq [o 26 (.bin .lss (.t 25) (.t 24))]
   (.seq (.ite (.t 26) .skip
   (.exit 0))
   (.seq (.blk 1 (sq [o 27 (.iad 4 (.t 23) (.t 25)), o 28 (.load 4 true (.t 27)), o 9 (.alloc [.int .i64 0, .int .i64 0, .int .i64 0, .int .i64 0]), os 4 9 28]
    (sq [oa 29 0 9, ol 30 29, om 31 2, o 32 (.bin .eql (.t 30) (.t 31))]
    (.ite (.t 32) (.ops [oa 33 4 7, ol 34 33, o 35 (.load 4 true (.t 9)), o 36 (.bsl 4 [.t 35]), o 37 (.app 4 32 (.t 34) (.t 36)), oa 38 4 7, os 1 38 37])
    (sq [oa 39 2 9, ol 40 39, o 41 (.bin .geq (.t 40) (iv 0)), om 42 41, oh 43 (.fad 3 (.t 7)) 42, oh 44 (.load 1 false (.t 43)) 42, oh 45 (.fad 2 (.t 9)) 42, oh 46 (.load 1 false (.t 45)) 42, oh 47 (.call 82 [.t 44, .t 46]) 42, o 48 (.pick (.t 42) (.t 47) bF)]
     (.ite (.t 48) (sq [oa 49 5 7, ol 50 49, o 51 (.load 4 true (.t 9)), o 52 (.bsl 4 [.t 51]), o 53 (.app 4 32 (.t 50) (.t 52)), oa 54 5 7, os 1 54 53]
      (sq [oa 55 5 7, ol 56 55, o 57 (.len (.t 56)), o 58 (.bin .sub (.t 57) (iv 1)), om 10 58]
      (.blk 2 (.loop (.seq (.seq (.drw [(3, 5), (4, 5), (3, 8), (4, 8), (5, 8), (6, 8), (7, 8), (3, 9), (4, 9), (5, 9), (6, 9), (7, 9), (3, 10), (4, 10), (5, 10), (6, 10), (7, 10), (8, 10), (9, 10), (3, 11), (4, 11), (5, 11), (6, 11), (7, 11), (8, 11), (9, 11), (3, 12), (4, 12), (5, 12), (6, 12), (7, 12), (3, 13), (4, 13), (5, 13), (6, 13), (7, 13)] [om 59 10, o 60 (.bin .gtr (.t 59) (iv 0)), om 61 60, oh 62 (.fad 5 (.t 7)) 61, oh 63 (.load 1 false (.t 62)) 61, oh 64 (.mv (.t 10)) 61, oh 65 (.iad 4 (.t 63) (.t 64)) 61, oh 66 (.load 4 true (.t 65)) 61, oh 67 (.fad 5 (.t 7)) 61, oh 68 (.load 1 false (.t 67)) 61, oh 69 (.mv (.t 10)) 61, oh 70 (.bin .sub (.t 69) (iv 1)) 61, oh 71 (.iad 4 (.t 68) (.t 70)) 61, oh 72 (.load 4 true (.t 71)) 61, oh 73 (.call 83 [.t 66, .t 72]) 61, o 74 (.pick (.t 61) (.t 73) bF)])
        (.ite (.t 74) .skip
        (.exit 2)))
        (.seq (.blk 3 (sq [oa 77 5 7, ol 78 77, om 79 10, o 80 (.iad 4 (.t 78) (.t 79)), o 81 (.load 4 true (.t 80)), o 11 (.alloc [.int .i64 0, .int .i64 0, .int .i64 0, .int .i64 0]), os 4 11 81]
         (.seq (.drw [(0, 2), (1, 2), (0, 3), (1, 3), (2, 3), (0, 4), (1, 4), (2, 4), (0, 5), (1, 5), (2, 5), (3, 5), (4, 5), (0, 6), (1, 6), (2, 6), (3, 6), (4, 6), (0, 7), (1, 7), (2, 7), (0, 8), (1, 8), (2, 8)] [oa 82 5 7, ol 83 82, om 84 10, oa 85 5 7, ol 86 85, om 87 10, o 88 (.bin .sub (.t 87) (iv 1)), o 89 (.iad 4 (.t 86) (.t 88)), o 90 (.load 4 true (.t 89)), o 91 (.iad 4 (.t 83) (.t 84)), os 4 91 90])
         (.ops [oa 92 5 7, ol 93 92, om 94 10, o 95 (.bin .sub (.t 94) (iv 1)), o 96 (.load 4 true (.t 11)), o 97 (.iad 4 (.t 93) (.t 95)), os 4 97 96]))))
        (.ops [om 75 10, o 76 (.bin .sub (.t 75) (iv 1)), om 10 76])))))))
     .skip))))))
   (.ops [o 98 (.bin .add (.t 25) (iv 1)), om 25 98])))))))
 (sq [o 99 (.load 6 true (.t 7)), os 6 6 99]
 .ret))))
noncomputable def X.s_fgView (p0 : TBoard) (p1 : TState) (p2 : Int) : Option TView :=
 ((X.s_fgSeen p0 p1 p2).bind fun v1 => ((loop (fun (x130 : (Int × (List TUnit) × (List TUnit))) => ((bif (decide (x130.1 < (p1.Units.length : Int))) then ((at' zTUnit p1.Units x130.1).bind fun v133 => (bif (v133.Side == p2) then (if (x130.2.1 ++ ([v133] : List TUnit)).length ≤ LIM then some (Sum.inl ((W (x130.1 + 1)), (x130.2.1 ++ ([v133] : List TUnit)), x130.2.2)) else none) else (bif (decide (v133.At ≥ 0)) then ((X.s_l1Has v1 v133.At).bind fun v138 => (bif v138 then (if (x130.2.2 ++ ([v133] : List TUnit)).length ≤ LIM then ((loop (fun (x175 : (Int × (List TUnit) × (List TUnit))) => ((bif (decide (x175.1 > 0)) then (if 0 ≤ x175.1 ∧ x175.1 < (x175.2.1.length : Int) then (if 0 ≤ (W (x175.1 - 1)) ∧ (W (x175.1 - 1)) < (x175.2.1.length : Int) then ((X.s_fgBefore (x175.2.1.getD x175.1.toNat zTUnit) (x175.2.1.getD ((W (x175.1 - 1)).toNat) zTUnit)).bind fun v185 => (bif v185 then ((some (x175.2.1.set x175.1.toNat (x175.2.1.getD ((W (x175.1 - 1)).toNat) zTUnit))).bind fun l188 => ((some (l188.set ((W (x175.1 - 1)).toNat) (x175.2.1.getD x175.1.toNat zTUnit))).bind fun l190 => some (Sum.inl ((W (x175.1 - 1)), l190, x175.2.2)))) else some (Sum.inr (x175.2.1, x175.2.2)))) else none) else none) else some (Sum.inr (x175.2.1, x175.2.2))) : Option ((Int × (List TUnit) × (List TUnit)) ⊕ ((List TUnit) × (List TUnit))))) ((W (((x130.2.2 ++ ([v133] : List TUnit)).length : Int) - 1)), (x130.2.2 ++ ([v133] : List TUnit)), x130.2.1)).bind fun y192 => some (Sum.inl ((W (x130.1 + 1)), y192.2, y192.1))) else none) else some (Sum.inl ((W (x130.1 + 1)), x130.2.1, x130.2.2)))) else some (Sum.inl ((W (x130.1 + 1)), x130.2.1, x130.2.2))))) else some (Sum.inr (x130.2.1, x130.2.2))) : Option ((Int × (List TUnit) × (List TUnit)) ⊕ ((List TUnit) × (List TUnit))))) (0, ([] : List TUnit), ([] : List TUnit))).bind fun y194 => some (TView.mk p2 p1.Turn p1.Weather v1 y194.1 y194.2)))
theorem s_fgView_ok (p0 : TBoard) (p1 : TState) (p2 : Int) (r : TView) (H : X.s_fgView p0 p1 p2 = some r) : FK 68 [.agg (eTBoard p0), .agg (eTState p1), cI p2] (.agg (eTView r)) := by
 unfold X.s_fgView at H
 refine fi Tryz.f68 s_fgView_ir [(6, pk 6)] [(6, va (eTView r))] glL Tryz.func68 ?_
 refine sn [] [] [(3, pk 3), (4, pk 4), (6, pk 6)] [] [(3, va (eTBoard p0)), (4, va (eTState p1)), (6, .var [jI 0, jI 0, jI 0, .nil, .nil, .nil] false)] id ?_
 obtain ⟨v1, h2, H⟩ := oB H
 refine xn [.res (dc 1 eI zI v1)] [] [(7, pk 7)] [] [(7, .var [jI p2, jI p1.Turn, jI p1.Weather, dat 1 eI zI v1, .nil, .nil] false)] (fun t => aI (s_fgSeen_ok p0 p1 p2 v1 h2) (aG 2 rN (t))) ?_
 refine seq_in ?_
 refine sn [] [] [(23, dc 4 eTUnit zTUnit p1.Units), (24, cL p1.Units), (25, cI 0)] [3] [] (fun t => lI p1.Units (t)) ?_
 refine ends_blk ?_
 obtain ⟨y194, h195, H⟩ := oB H
 refine tl [.nloc 7 4 1001 4 (fF eTUnit zTUnit ([] : List TUnit)), .nloc 7 5 1002 4 (fF eTUnit zTUnit ([] : List TUnit))] [(2, cI p2), (6, pk 6), (7, pk 7), (23, dc 4 eTUnit zTUnit p1.Units), (24, cL p1.Units), (25, cI 0)] [(6, .var [jI 0, jI 0, jI 0, .nil, .nil, .nil] false), (7, .var [jI p2, jI p1.Turn, jI p1.Weather, dat 1 eI zI v1, .own 1001 4 0 (([] : List TUnit).length), .own 1002 4 0 (([] : List TUnit).length)] false), (1001, ar 4 eTUnit zTUnit ([] : List TUnit)), (1002, ar 4 eTUnit zTUnit ([] : List TUnit))] (fun t => aG 2 (by decide : 0 < 4) (t)) ?_
 refine loop_in (fun (x : (Int × (List TUnit) × (List TUnit))) => lit [(2, cI p2), (6, pk 6), (7, pk 7), (23, dc 4 eTUnit zTUnit p1.Units), (24, cL p1.Units), (25, cI x.1)] [(6, .var [jI 0, jI 0, jI 0, .nil, .nil, .nil] false), (7, .var [jI p2, jI p1.Turn, jI p1.Weather, dat 1 eI zI v1, .own 1001 4 0 x.2.1.length, .own 1002 4 0 x.2.2.length] false), (1001, ar 4 eTUnit zTUnit x.2.1), (1002, ar 4 eTUnit zTUnit x.2.2)]) (fun (z : ((List TUnit) × (List TUnit))) => At (.exit 0) (lit [(6, pk 6), (7, pk 7)] [(6, .var [jI 0, jI 0, jI 0, .nil, .nil, .nil] false), (7, .var [jI p2, jI p1.Turn, jI p1.Weather, dat 1 eI zI v1, .own 1001 4 0 z.1.length, .own 1002 4 0 z.2.length] false), (1001, ar 4 eTUnit zTUnit z.1), (1002, ar 4 eTUnit zTUnit z.2)])) h195 ?_ ?_
 ·clear H h195
  intro x130 y0 H
  refine sn [] [] [(26, cB (decide (x130.1 < (p1.Units.length : Int))))] [] [] id ?_
  refine seq_in ?_
  rcases oC H with ⟨c132, H⟩ | ⟨c132, H⟩
  ·refine it c132 ?_
   refine sk ?_
   refine seq_in ?_
   refine ends_blk ?_
   obtain ⟨v133, h134, H⟩ := oB H
   refine sn [.cs (eTUnit v133)] [] [(9, pk 9)] [] [(9, va (eTUnit v133))] (a2 eTUnit h134) ?_
   refine sn [] [] [(32, cB (v133.Side == p2))] [] [] id ?_
   rcases oC H with ⟨c135, H⟩ | ⟨c135, H⟩
   ·refine it c135 ?_
    obtain ⟨g136, H⟩ := oI H
    refine oo [fh eTUnit zTUnit ([v133] : List TUnit), fh eTUnit zTUnit (x130.2.1 ++ ([v133] : List TUnit))] [] [(2, cI p2), (6, pk 6), (7, pk 7), (23, dc 4 eTUnit zTUnit p1.Units), (24, cL p1.Units), (25, cI x130.1)] [(6, .var [jI 0, jI 0, jI 0, .nil, .nil, .nil] false), (7, .var [jI p2, jI p1.Turn, jI p1.Weather, dat 1 eI zI v1, .own 37 4 0 ((x130.2.1 ++ ([v133] : List TUnit)).length), .own 1002 4 0 x130.2.2.length] false), (37, ar 4 eTUnit zTUnit (x130.2.1 ++ ([v133] : List TUnit))), (1002, ar 4 eTUnit zTUnit x130.2.2)] (fun t => aI (rfl : ([v133] : List TUnit).length = 1) (aI (fF_lit eTUnit zTUnit ([v133] : List TUnit)) (aI (And.intro (Nat.le_refl x130.2.1.length) (And.intro (@List.length_append _ x130.2.1 ([v133] : List TUnit)) g136)) (aI (fF_appL eTUnit zTUnit x130.2.1 ([v133] : List TUnit)) (aI (fF_appR eTUnit zTUnit x130.2.1 ([v133] : List TUnit)) (t)))))) ?_
    change EndsI _ _ _ _ _ _
    refine oo [] [.ren 37 1001] [(2, cI p2), (6, pk 6), (7, pk 7), (23, dc 4 eTUnit zTUnit p1.Units), (24, cL p1.Units), (25, cI (W (x130.1 + 1)))] [(6, .var [jI 0, jI 0, jI 0, .nil, .nil, .nil] false), (7, .var [jI p2, jI p1.Turn, jI p1.Weather, dat 1 eI zI v1, .own 1001 4 0 ((x130.2.1 ++ ([v133] : List TUnit)).length), .own 1002 4 0 x130.2.2.length] false), (1001, ar 4 eTUnit zTUnit (x130.2.1 ++ ([v133] : List TUnit))), (1002, ar 4 eTUnit zTUnit x130.2.2)] id ?_
    cases H
    exact rr
   ·refine jf c135 ?_
    rcases oC H with ⟨c137, H⟩ | ⟨c137, H⟩
    ·obtain ⟨v138, h139, H⟩ := oB H
     refine sn (rg 5 true [.res (cB v138), .g true]) [] [(48, cB v138)] [] [] (fun t => aG 5 c137 (aI (s_l1Has_ok v1 v133.At v138 h139) (aI c137 (t)))) ?_
     rcases oC H with ⟨c140, H⟩ | ⟨c140, H⟩
     ·refine it c140 ?_
      obtain ⟨g141, H⟩ := oI H
      refine sn [fh eTUnit zTUnit ([v133] : List TUnit), fh eTUnit zTUnit (x130.2.2 ++ ([v133] : List TUnit))] [] [] [1002, 7] [(7, .var [jI p2, jI p1.Turn, jI p1.Weather, dat 1 eI zI v1, .own 1001 4 0 x130.2.1.length, .own 53 4 0 ((x130.2.2 ++ ([v133] : List TUnit)).length)] false), (53, ar 4 eTUnit zTUnit (x130.2.2 ++ ([v133] : List TUnit)))] (fun t => aI (rfl : ([v133] : List TUnit).length = 1) (aI (fF_lit eTUnit zTUnit ([v133] : List TUnit)) (aI (And.intro (Nat.le_refl x130.2.2.length) (And.intro (@List.length_append _ x130.2.2 ([v133] : List TUnit)) g141)) (aI (fF_appL eTUnit zTUnit x130.2.2 ([v133] : List TUnit)) (aI (fF_appR eTUnit zTUnit x130.2.2 ([v133] : List TUnit)) (t)))))) ?_
      refine sn [] [] [(10, cI (W (((x130.2.2 ++ ([v133] : List TUnit)).length : Int) - 1)))] [9] [] (fun t => (fun (_ : (x130.2.2 ++ ([v133] : List TUnit)).length ≤ maxLen) => t)) ?_
      refine ends_blk ?_
      obtain ⟨y192, h193, H⟩ := oB H
      refine tl [] [(2, cI p2), (6, pk 6), (7, pk 7), (10, cI (W (((x130.2.2 ++ ([v133] : List TUnit)).length : Int) - 1))), (23, dc 4 eTUnit zTUnit p1.Units), (24, cL p1.Units), (25, cI x130.1)] [(6, .var [jI 0, jI 0, jI 0, .nil, .nil, .nil] false), (7, .var [jI p2, jI p1.Turn, jI p1.Weather, dat 1 eI zI v1, .own 1001 4 0 x130.2.1.length, .own 53 4 0 ((x130.2.2 ++ ([v133] : List TUnit)).length)] false), (53, ar 4 eTUnit zTUnit (x130.2.2 ++ ([v133] : List TUnit))), (1001, ar 4 eTUnit zTUnit x130.2.1)] id ?_
      refine loop_in (fun (x : (Int × (List TUnit) × (List TUnit))) => lit [(2, cI p2), (6, pk 6), (7, pk 7), (10, cI x.1), (23, dc 4 eTUnit zTUnit p1.Units), (24, cL p1.Units), (25, cI x130.1)] [(6, .var [jI 0, jI 0, jI 0, .nil, .nil, .nil] false), (7, .var [jI p2, jI p1.Turn, jI p1.Weather, dat 1 eI zI v1, .own 1001 4 0 x.2.2.length, .own 53 4 0 x.2.1.length] false), (53, ar 4 eTUnit zTUnit x.2.1), (1001, ar 4 eTUnit zTUnit x.2.2)]) (fun (z : ((List TUnit) × (List TUnit))) => At (.exit 2) (lit [(2, cI p2), (6, pk 6), (7, pk 7), (23, dc 4 eTUnit zTUnit p1.Units), (24, cL p1.Units), (25, cI x130.1)] [(6, .var [jI 0, jI 0, jI 0, .nil, .nil, .nil] false), (7, .var [jI p2, jI p1.Turn, jI p1.Weather, dat 1 eI zI v1, .own 1001 4 0 z.2.length, .own 53 4 0 z.1.length] false), (53, ar 4 eTUnit zTUnit z.1), (1001, ar 4 eTUnit zTUnit z.2)])) h193 ?_ ?_
      ·clear H h193
       intro x175 y0 H
       refine seq_in ?_
       rcases oC H with ⟨c182, H⟩ | ⟨c182, H⟩
       ·obtain ⟨g183, H⟩ := oI H
        obtain ⟨g184, H⟩ := oI H
        obtain ⟨v185, h186, H⟩ := oB H
        refine xn (rg 4 true ([.no] ++ rg 6 true ([.no] ++ rg 2 true [.res (cB v185), .g true]))) [] [(74, cB v185)] [] [] (fun t => aG 4 c182 (aI g183 (aI c182 (aI (nat_lt g183) (aI rN (aG 5 c182 (aI g184 (aI c182 (aI (nat_lt g184) (aI rN (aI c182 (aI (s_fgBefore_ok (x175.2.1.getD x175.1.toNat zTUnit) (x175.2.1.getD ((W (x175.1 - 1)).toNat) zTUnit) v185 h186) (aI trivial (aI rN (aI c182 (t)))))))))))))))) ?_
        rcases oC H with ⟨c187, H⟩ | ⟨c187, H⟩
        ·refine it c187 ?_
         refine sk ?_
         refine seq_in ?_
         refine ends_blk ?_
         refine sn [.no] [] [(11, pk 11)] [] [(11, .var [jI ((x175.2.1.getD x175.1.toNat zTUnit).Side), jI ((x175.2.1.getD x175.1.toNat zTUnit).Kind), jI ((x175.2.1.getD x175.1.toNat zTUnit).At), jI ((x175.2.1.getD x175.1.toNat zTUnit).Steps)] false)] (fun t => aI g183 (aI (nat_lt g183) (t))) ?_
         obtain ⟨l188, h189, H⟩ := oB H
         refine xn [.no, .no, .fn 0 (fF eTUnit zTUnit l188)] [] [] [53] [(53, .arr 4 x175.2.1.length (fF eTUnit zTUnit l188) false)] (fun t => aI g184 (aI (nat_lt g184) (aI rN (aI g183 (aI rT (aI (nat_lt g183) (aI (by decide : 0 + 4 ≤ 4) (aI (fF_setN eTUnit zTUnit h189 (nat_lt g183) x175.2.1.length) (t))))))))) ?_
         obtain ⟨l190, h191, H⟩ := oB H
         refine oo [.no, .fn 0 (fF eTUnit zTUnit l190)] [] [(2, cI p2), (6, pk 6), (7, pk 7), (10, cI x175.1), (23, dc 4 eTUnit zTUnit p1.Units), (24, cL p1.Units), (25, cI x130.1)] [(6, .var [jI 0, jI 0, jI 0, .nil, .nil, .nil] false), (7, .var [jI p2, jI p1.Turn, jI p1.Weather, dat 1 eI zI v1, .own 1001 4 0 x175.2.2.length, .own 53 4 0 x175.2.1.length] false), (53, .arr 4 x175.2.1.length (fF eTUnit zTUnit l190) false), (1001, ar 4 eTUnit zTUnit x175.2.2)] (fun t => aI g184 (aI rT (aI (nat_lt g184) (aI (by decide : 0 + 4 ≤ 4) (aI (fF_setN eTUnit zTUnit h191 (ltN h189 (nat_lt g184)) x175.2.1.length) (t)))))) ?_
         change EndsI _ _ _ _ _ _
         refine oo [] [.relc 7 5 l190.length, .rep 53 l190.length (fF eTUnit zTUnit l190)] [(2, cI p2), (6, pk 6), (7, pk 7), (10, cI (W (x175.1 - 1))), (23, dc 4 eTUnit zTUnit p1.Units), (24, cL p1.Units), (25, cI x130.1)] [(6, .var [jI 0, jI 0, jI 0, .nil, .nil, .nil] false), (7, .var [jI p2, jI p1.Turn, jI p1.Weather, dat 1 eI zI v1, .own 1001 4 0 x175.2.2.length, .own 53 4 0 l190.length] false), (53, ar 4 eTUnit zTUnit l190), (1001, ar 4 eTUnit zTUnit x175.2.2)] (fun t => aI (by simp [lenN h191, lenN h189] : x175.2.1.length = l190.length) (aI (Nat.le_of_eq (by simp [lenN h191, lenN h189] : l190.length = x175.2.1.length)) (aI (fun _ _ => rfl : ∀ i, i < l190.length → (fF eTUnit zTUnit l190) i = (fF eTUnit zTUnit l190) i) (t)))) ?_
         cases H
         exact rr
        ·refine jf c187 ?_
         refine tl [] [(2, cI p2), (6, pk 6), (7, pk 7), (23, dc 4 eTUnit zTUnit p1.Units), (24, cL p1.Units), (25, cI x130.1)] [(6, .var [jI 0, jI 0, jI 0, .nil, .nil, .nil] false), (7, .var [jI p2, jI p1.Turn, jI p1.Weather, dat 1 eI zI v1, .own 1001 4 0 x175.2.2.length, .own 53 4 0 x175.2.1.length] false), (53, ar 4 eTUnit zTUnit x175.2.1), (1001, ar 4 eTUnit zTUnit x175.2.2)] id ?_
         refine ends_exit ?_
         cases H
         exact rse
       ·refine xn (rg 13 false []) [] [(74, cB false)] [] [] (fun t => aG 13 c182 (t)) ?_
        refine jf rF ?_
        refine tl [] [(2, cI p2), (6, pk 6), (7, pk 7), (23, dc 4 eTUnit zTUnit p1.Units), (24, cL p1.Units), (25, cI x130.1)] [(6, .var [jI 0, jI 0, jI 0, .nil, .nil, .nil] false), (7, .var [jI p2, jI p1.Turn, jI p1.Weather, dat 1 eI zI v1, .own 1001 4 0 x175.2.2.length, .own 53 4 0 x175.2.1.length] false), (53, ar 4 eTUnit zTUnit x175.2.1), (1001, ar 4 eTUnit zTUnit x175.2.2)] id ?_
        refine ends_exit ?_
        cases H
        exact rse
      ·clear h193
       rintro e s ⟨rfl, rfl⟩
       change EndsI _ _ _ _ _ _
       refine oo [] [.ren 53 1002] [(2, cI p2), (6, pk 6), (7, pk 7), (23, dc 4 eTUnit zTUnit p1.Units), (24, cL p1.Units), (25, cI (W (x130.1 + 1)))] [(6, .var [jI 0, jI 0, jI 0, .nil, .nil, .nil] false), (7, .var [jI p2, jI p1.Turn, jI p1.Weather, dat 1 eI zI v1, .own 1001 4 0 y192.2.length, .own 1002 4 0 y192.1.length] false), (1001, ar 4 eTUnit zTUnit y192.2), (1002, ar 4 eTUnit zTUnit y192.1)] id ?_
       cases H
       exact rr
     ·refine jf c140 ?_
      refine sk ?_
      refine oo [] [] [(2, cI p2), (6, pk 6), (7, pk 7), (23, dc 4 eTUnit zTUnit p1.Units), (24, cL p1.Units), (25, cI (W (x130.1 + 1)))] [(6, .var [jI 0, jI 0, jI 0, .nil, .nil, .nil] false), (7, .var [jI p2, jI p1.Turn, jI p1.Weather, dat 1 eI zI v1, .own 1001 4 0 x130.2.1.length, .own 1002 4 0 x130.2.2.length] false), (1001, ar 4 eTUnit zTUnit x130.2.1), (1002, ar 4 eTUnit zTUnit x130.2.2)] id ?_
      cases H
      exact rr
    ·refine sn (rg 6 false []) [] [(48, cB false)] [] [] (fun t => aG 6 c137 (t)) ?_
     refine jf rF ?_
     refine sk ?_
     refine oo [] [] [(2, cI p2), (6, pk 6), (7, pk 7), (23, dc 4 eTUnit zTUnit p1.Units), (24, cL p1.Units), (25, cI (W (x130.1 + 1)))] [(6, .var [jI 0, jI 0, jI 0, .nil, .nil, .nil] false), (7, .var [jI p2, jI p1.Turn, jI p1.Weather, dat 1 eI zI v1, .own 1001 4 0 x130.2.1.length, .own 1002 4 0 x130.2.2.length] false), (1001, ar 4 eTUnit zTUnit x130.2.1), (1002, ar 4 eTUnit zTUnit x130.2.2)] id ?_
     cases H
     exact rr
  ·refine jf c132 ?_
   refine tl [] [(6, pk 6), (7, pk 7)] [(6, .var [jI 0, jI 0, jI 0, .nil, .nil, .nil] false), (7, .var [jI p2, jI p1.Turn, jI p1.Weather, dat 1 eI zI v1, .own 1001 4 0 x130.2.1.length, .own 1002 4 0 x130.2.2.length] false), (1001, ar 4 eTUnit zTUnit x130.2.1), (1002, ar 4 eTUnit zTUnit x130.2.2)] id ?_
   refine ends_exit ?_
   cases H
   exact rse
 ·clear h195
  rintro e s ⟨rfl, rfl⟩
  change EndsI _ _ _ _ _ _
  refine sn [] [] [] [6] [(6, .var [jI p2, jI p1.Turn, jI p1.Weather, dat 1 eI zI v1, .own 1001 4 0 y194.1.length, .own 1002 4 0 y194.2.length] false)] id ?_
  refine tl [.frc 6 4, .frc 6 5] [(6, pk 6)] [(6, .var [jI p2, jI p1.Turn, jI p1.Weather, dat 1 eI zI v1, dat 4 eTUnit zTUnit y194.1, dat 4 eTUnit zTUnit y194.2] false)] (fun t => aI (Nat.le_refl y194.1.length) (aI (Nat.le_refl y194.2.length) (t))) ?_
  cases H
  exact er
def s_LooksAlike_ir : S :=
 (sq [o 4 (.box 12 (.t 0)), o 5 (.box 3 (.t 1)), o 6 (.box 3 (.t 2)), o 8 (.mv bF), o 9 (.mv bF)]
 (.seq (sq [o 10 (.load 12 true (.t 4)), o 11 (.load 3 true (.t 5)), om 12 3, o 13 (.call 65 [.t 10, .t 11, .t 12]), o 14 (.not (.t 13)), om 15 14, og 16 (.load 12 true (.t 4)) 15, og 17 (.load 3 true (.t 6)) 15, og 18 (.call 66 [.t 16, .t 17]) 15, og 19 (.not (.t 18)) 15, o 20 (.pick (.t 15) bT (.t 19))]
 (.ite (.t 20) (sq [o 8 (.mv bF), o 9 (.mv bF)]
  .ret)
 .skip))
 (.seq (.drw [(0, 1), (0, 2), (1, 2), (0, 4), (1, 4), (2, 4), (3, 4), (0, 5), (1, 5), (2, 5), (3, 5), (4, 5), (0, 6), (1, 6), (2, 6), (3, 6), (4, 6), (5, 6)] [o 21 (.load 12 true (.t 4)), o 22 (.load 3 true (.t 5)), om 23 3, o 24 (.call 68 [.t 21, .t 22, .t 23]), o 25 (.load 12 true (.t 4)), o 26 (.load 3 true (.t 6)), om 27 3, o 28 (.call 68 [.t 25, .t 26, .t 27]), o 29 (.call 67 [.t 24, .t 28]), om 8 29, o 9 (.mv bT)])
 .ret)))
noncomputable def X.s_LooksAlike (p0 : TBoard) (p1 : TState) (p2 : TState) (p3 : Int) : Option (Bool × Bool) :=
 ((X.s_fgSide p0 p1 p3).bind fun v7 => (bif (!v7) then some (false, false) else ((X.s_sGood p0 p2).bind fun v10 => (bif (!v10) then some (false, false) else ((X.s_fgView p0 p1 p3).bind fun v13 => ((X.s_fgView p0 p2 p3).bind fun v15 => ((X.s_fgSame v13 v15).bind fun v17 => some (v17, true))))))))
theorem s_LooksAlike_ok (p0 : TBoard) (p1 : TState) (p2 : TState) (p3 : Int) (r : (Bool × Bool)) (H : X.s_LooksAlike p0 p1 p2 p3 = some r) : FK 26 [.agg (eTBoard p0), .agg (eTState p1), .agg (eTState p2), cI p3] (.tup [(false, [.bool r.1]), (false, [.bool r.2])]) := by
 unfold X.s_LooksAlike at H
 refine fi Tryz.f26 s_LooksAlike_ir [(8, cB r.1), (9, cB r.2)] [] glL Tryz.func26 ?_
 refine sn [] [] [(4, pk 4), (5, pk 5), (6, pk 6)] [] [(4, va (eTBoard p0)), (5, va (eTState p1)), (6, va (eTState p2))] id ?_
 refine seq_in ?_
 obtain ⟨v7, h8, H⟩ := oB H
 rcases oC H with ⟨c9, H⟩ | ⟨c9, H⟩
 ·refine sn ([.res (cB v7)] ++ rg 5 true []) [] [(20, cB true)] [] [] (fun t => aI (s_fgSide_ok p0 p1 p3 v7 h8) (aG 5 c9 (t))) ?_
  refine it rT ?_
  refine so [] [] [(8, cB false), (9, cB false)] [] id ?_
  cases H
  exact er
 ·obtain ⟨v10, h11, H⟩ := oB H
  refine sn ([.res (cB v7)] ++ rg 3 false ([.res (cB v10)] ++ rg 2 false [])) [] [(20, cB (!v10))] [] [] (fun t => aI (s_fgSide_ok p0 p1 p3 v7 h8) (aG 3 c9 (aI (s_sGood_ok p0 p2 v10 h11) (aG 2 c9 (t))))) ?_
  rcases oC H with ⟨c12, H⟩ | ⟨c12, H⟩
  ·refine it c12 ?_
   refine so [] [] [(8, cB false), (9, cB false)] [] id ?_
   cases H
   exact er
  ·refine jf c12 ?_
   refine sk ?_
   obtain ⟨v13, h14, H⟩ := oB H
   obtain ⟨v15, h16, H⟩ := oB H
   obtain ⟨v17, h18, H⟩ := oB H
   refine sx [.res (.agg (eTView v13)), .res (.agg (eTView v15)), .res (cB v17)] [] [(8, cB v17), (9, cB true)] [] (fun t => aI (s_fgView_ok p0 p1 p3 v13 h14) (aG 2 rN (aI (s_fgView_ok p0 p2 p3 v15 h16) (aG 2 rN (aI (s_fgSame_ok v13 v15 v17 h18) (aI trivial (aI rN (t)))))))) ?_
   cases H
   exact er
def x_internal_strconv_small_ir : S :=
 (sq [o 2 (.mv (.v (.str [])))]
 (.seq (sq [om 3 0, o 4 (.bin .lss (.t 3) (iv 10))]
 (.ite (.t 4) (sq [om 5 0, om 6 0, o 7 (.bin .add (.t 6) (iv 1)), o 8 (.sls (.v (.str [48, 49, 50, 51, 52, 53, 54, 55, 56, 57, 97, 98, 99, 100, 101, 102, 103, 104, 105, 106, 107, 108, 109, 110, 111, 112, 113, 114, 115, 116, 117, 118, 119, 120, 121, 122])) (some (.t 5)) (some (.t 7))), om 2 8]
  .ret)
 .skip))
 (sq [om 9 0, o 10 (.bin .mul (.t 9) (iv 2)), om 11 0, o 12 (.bin .mul (.t 11) (iv 2)), o 13 (.bin .add (.t 12) (iv 2)), o 14 (.sls (.v (.str [48, 48, 48, 49, 48, 50, 48, 51, 48, 52, 48, 53, 48, 54, 48, 55, 48, 56, 48, 57, 49, 48, 49, 49, 49, 50, 49, 51, 49, 52, 49, 53, 49, 54, 49, 55, 49, 56, 49, 57, 50, 48, 50, 49, 50, 50, 50, 51, 50, 52, 50, 53, 50, 54, 50, 55, 50, 56, 50, 57, 51, 48, 51, 49, 51, 50, 51, 51, 51, 52, 51, 53, 51, 54, 51, 55, 51, 56, 51, 57, 52, 48, 52, 49, 52, 50, 52, 51, 52, 52, 52, 53, 52, 54, 52, 55, 52, 56, 52, 57, 53, 48, 53, 49, 53, 50, 53, 51, 53, 52, 53, 53, 53, 54, 53, 55, 53, 56, 53, 57, 54, 48, 54, 49, 54, 50, 54, 51, 54, 52, 54, 53, 54, 54, 54, 55, 54, 56, 54, 57, 55, 48, 55, 49, 55, 50, 55, 51, 55, 52, 55, 53, 55, 54, 55, 55, 55, 56, 55, 57, 56, 48, 56, 49, 56, 50, 56, 51, 56, 52, 56, 53, 56, 54, 56, 55, 56, 56, 56, 57, 57, 48, 57, 49, 57, 50, 57, 51, 57, 52, 57, 53, 57, 54, 57, 55, 57, 56, 57, 57])) (some (.t 10)) (some (.t 13))), om 2 14]
 .ret)))
noncomputable def X.x_internal_strconv_small (p0 : Int) : Option (List UInt8) :=
 (bif (decide (p0 < 10)) then (if 0 ≤ p0 ∧ p0 ≤ (W (p0 + 1)) ∧ (W (p0 + 1)) ≤ (([48, 49, 50, 51, 52, 53, 54, 55, 56, 57, 97, 98, 99, 100, 101, 102, 103, 104, 105, 106, 107, 108, 109, 110, 111, 112, 113, 114, 115, 116, 117, 118, 119, 120, 121, 122] : List UInt8).length : Int) then some ((([48, 49, 50, 51, 52, 53, 54, 55, 56, 57, 97, 98, 99, 100, 101, 102, 103, 104, 105, 106, 107, 108, 109, 110, 111, 112, 113, 114, 115, 116, 117, 118, 119, 120, 121, 122] : List UInt8).drop p0.toNat).take ((W (p0 + 1)).toNat - p0.toNat)) else none) else (if 0 ≤ (W (p0 * 2)) ∧ (W (p0 * 2)) ≤ (W ((W (p0 * 2)) + 2)) ∧ (W ((W (p0 * 2)) + 2)) ≤ (([48, 48, 48, 49, 48, 50, 48, 51, 48, 52, 48, 53, 48, 54, 48, 55, 48, 56, 48, 57, 49, 48, 49, 49, 49, 50, 49, 51, 49, 52, 49, 53, 49, 54, 49, 55, 49, 56, 49, 57, 50, 48, 50, 49, 50, 50, 50, 51, 50, 52, 50, 53, 50, 54, 50, 55, 50, 56, 50, 57, 51, 48, 51, 49, 51, 50, 51, 51, 51, 52, 51, 53, 51, 54, 51, 55, 51, 56, 51, 57, 52, 48, 52, 49, 52, 50, 52, 51, 52, 52, 52, 53, 52, 54, 52, 55, 52, 56, 52, 57, 53, 48, 53, 49, 53, 50, 53, 51, 53, 52, 53, 53, 53, 54, 53, 55, 53, 56, 53, 57, 54, 48, 54, 49, 54, 50, 54, 51, 54, 52, 54, 53, 54, 54, 54, 55, 54, 56, 54, 57, 55, 48, 55, 49, 55, 50, 55, 51, 55, 52, 55, 53, 55, 54, 55, 55, 55, 56, 55, 57, 56, 48, 56, 49, 56, 50, 56, 51, 56, 52, 56, 53, 56, 54, 56, 55, 56, 56, 56, 57, 57, 48, 57, 49, 57, 50, 57, 51, 57, 52, 57, 53, 57, 54, 57, 55, 57, 56, 57, 57] : List UInt8).length : Int) then some ((([48, 48, 48, 49, 48, 50, 48, 51, 48, 52, 48, 53, 48, 54, 48, 55, 48, 56, 48, 57, 49, 48, 49, 49, 49, 50, 49, 51, 49, 52, 49, 53, 49, 54, 49, 55, 49, 56, 49, 57, 50, 48, 50, 49, 50, 50, 50, 51, 50, 52, 50, 53, 50, 54, 50, 55, 50, 56, 50, 57, 51, 48, 51, 49, 51, 50, 51, 51, 51, 52, 51, 53, 51, 54, 51, 55, 51, 56, 51, 57, 52, 48, 52, 49, 52, 50, 52, 51, 52, 52, 52, 53, 52, 54, 52, 55, 52, 56, 52, 57, 53, 48, 53, 49, 53, 50, 53, 51, 53, 52, 53, 53, 53, 54, 53, 55, 53, 56, 53, 57, 54, 48, 54, 49, 54, 50, 54, 51, 54, 52, 54, 53, 54, 54, 54, 55, 54, 56, 54, 57, 55, 48, 55, 49, 55, 50, 55, 51, 55, 52, 55, 53, 55, 54, 55, 55, 55, 56, 55, 57, 56, 48, 56, 49, 56, 50, 56, 51, 56, 52, 56, 53, 56, 54, 56, 55, 56, 56, 56, 57, 57, 48, 57, 49, 57, 50, 57, 51, 57, 52, 57, 53, 57, 54, 57, 55, 57, 56, 57, 57] : List UInt8).drop (W (p0 * 2)).toNat).take ((W ((W (p0 * 2)) + 2)).toNat - (W (p0 * 2)).toNat)) else none))
theorem x_internal_strconv_small_ok (p0 : Int) (r : (List UInt8)) (H : X.x_internal_strconv_small p0 = some r) : FK 194 [cI p0] (.c (.str r)) := by
 unfold X.x_internal_strconv_small at H
 refine fi Tryz.f194 x_internal_strconv_small_ir [(2, .c (.str r))] [] glL Tryz.func194 ?_
 refine sn [] [] [] [] [] id ?_
 refine seq_in ?_
 refine sn [] [] [(4, cB (decide (p0 < 10)))] [] [] id ?_
 rcases oC H with ⟨c3, H⟩ | ⟨c3, H⟩
 ·refine it c3 ?_
  obtain ⟨g4, H⟩ := oI H
  refine so [.str ((([48, 49, 50, 51, 52, 53, 54, 55, 56, 57, 97, 98, 99, 100, 101, 102, 103, 104, 105, 106, 107, 108, 109, 110, 111, 112, 113, 114, 115, 116, 117, 118, 119, 120, 121, 122] : List UInt8).drop p0.toNat).take ((W (p0 + 1)).toNat - p0.toNat))] [] [(2, .c (.str ((([48, 49, 50, 51, 52, 53, 54, 55, 56, 57, 97, 98, 99, 100, 101, 102, 103, 104, 105, 106, 107, 108, 109, 110, 111, 112, 113, 114, 115, 116, 117, 118, 119, 120, 121, 122] : List UInt8).drop p0.toNat).take ((W (p0 + 1)).toNat - p0.toNat))))] [] (fun t => aI g4 (aI (rfl : ((([48, 49, 50, 51, 52, 53, 54, 55, 56, 57, 97, 98, 99, 100, 101, 102, 103, 104, 105, 106, 107, 108, 109, 110, 111, 112, 113, 114, 115, 116, 117, 118, 119, 120, 121, 122] : List UInt8).drop p0.toNat).take ((W (p0 + 1)).toNat - p0.toNat)) = ((([48, 49, 50, 51, 52, 53, 54, 55, 56, 57, 97, 98, 99, 100, 101, 102, 103, 104, 105, 106, 107, 108, 109, 110, 111, 112, 113, 114, 115, 116, 117, 118, 119, 120, 121, 122] : List UInt8).drop p0.toNat).take ((W (p0 + 1)).toNat - p0.toNat))) (t))) ?_
  cases H
  exact er
 ·refine jf c3 ?_
  refine sk ?_
  obtain ⟨g5, H⟩ := oI H
  refine so [.str ((([48, 48, 48, 49, 48, 50, 48, 51, 48, 52, 48, 53, 48, 54, 48, 55, 48, 56, 48, 57, 49, 48, 49, 49, 49, 50, 49, 51, 49, 52, 49, 53, 49, 54, 49, 55, 49, 56, 49, 57, 50, 48, 50, 49, 50, 50, 50, 51, 50, 52, 50, 53, 50, 54, 50, 55, 50, 56, 50, 57, 51, 48, 51, 49, 51, 50, 51, 51, 51, 52, 51, 53, 51, 54, 51, 55, 51, 56, 51, 57, 52, 48, 52, 49, 52, 50, 52, 51, 52, 52, 52, 53, 52, 54, 52, 55, 52, 56, 52, 57, 53, 48, 53, 49, 53, 50, 53, 51, 53, 52, 53, 53, 53, 54, 53, 55, 53, 56, 53, 57, 54, 48, 54, 49, 54, 50, 54, 51, 54, 52, 54, 53, 54, 54, 54, 55, 54, 56, 54, 57, 55, 48, 55, 49, 55, 50, 55, 51, 55, 52, 55, 53, 55, 54, 55, 55, 55, 56, 55, 57, 56, 48, 56, 49, 56, 50, 56, 51, 56, 52, 56, 53, 56, 54, 56, 55, 56, 56, 56, 57, 57, 48, 57, 49, 57, 50, 57, 51, 57, 52, 57, 53, 57, 54, 57, 55, 57, 56, 57, 57] : List UInt8).drop (W (p0 * 2)).toNat).take ((W ((W (p0 * 2)) + 2)).toNat - (W (p0 * 2)).toNat))] [] [(2, .c (.str ((([48, 48, 48, 49, 48, 50, 48, 51, 48, 52, 48, 53, 48, 54, 48, 55, 48, 56, 48, 57, 49, 48, 49, 49, 49, 50, 49, 51, 49, 52, 49, 53, 49, 54, 49, 55, 49, 56, 49, 57, 50, 48, 50, 49, 50, 50, 50, 51, 50, 52, 50, 53, 50, 54, 50, 55, 50, 56, 50, 57, 51, 48, 51, 49, 51, 50, 51, 51, 51, 52, 51, 53, 51, 54, 51, 55, 51, 56, 51, 57, 52, 48, 52, 49, 52, 50, 52, 51, 52, 52, 52, 53, 52, 54, 52, 55, 52, 56, 52, 57, 53, 48, 53, 49, 53, 50, 53, 51, 53, 52, 53, 53, 53, 54, 53, 55, 53, 56, 53, 57, 54, 48, 54, 49, 54, 50, 54, 51, 54, 52, 54, 53, 54, 54, 54, 55, 54, 56, 54, 57, 55, 48, 55, 49, 55, 50, 55, 51, 55, 52, 55, 53, 55, 54, 55, 55, 55, 56, 55, 57, 56, 48, 56, 49, 56, 50, 56, 51, 56, 52, 56, 53, 56, 54, 56, 55, 56, 56, 56, 57, 57, 48, 57, 49, 57, 50, 57, 51, 57, 52, 57, 53, 57, 54, 57, 55, 57, 56, 57, 57] : List UInt8).drop (W (p0 * 2)).toNat).take ((W ((W (p0 * 2)) + 2)).toNat - (W (p0 * 2)).toNat))))] [] (fun t => aI g5 (aI (rfl : ((([48, 48, 48, 49, 48, 50, 48, 51, 48, 52, 48, 53, 48, 54, 48, 55, 48, 56, 48, 57, 49, 48, 49, 49, 49, 50, 49, 51, 49, 52, 49, 53, 49, 54, 49, 55, 49, 56, 49, 57, 50, 48, 50, 49, 50, 50, 50, 51, 50, 52, 50, 53, 50, 54, 50, 55, 50, 56, 50, 57, 51, 48, 51, 49, 51, 50, 51, 51, 51, 52, 51, 53, 51, 54, 51, 55, 51, 56, 51, 57, 52, 48, 52, 49, 52, 50, 52, 51, 52, 52, 52, 53, 52, 54, 52, 55, 52, 56, 52, 57, 53, 48, 53, 49, 53, 50, 53, 51, 53, 52, 53, 53, 53, 54, 53, 55, 53, 56, 53, 57, 54, 48, 54, 49, 54, 50, 54, 51, 54, 52, 54, 53, 54, 54, 54, 55, 54, 56, 54, 57, 55, 48, 55, 49, 55, 50, 55, 51, 55, 52, 55, 53, 55, 54, 55, 55, 55, 56, 55, 57, 56, 48, 56, 49, 56, 50, 56, 51, 56, 52, 56, 53, 56, 54, 56, 55, 56, 56, 56, 57, 57, 48, 57, 49, 57, 50, 57, 51, 57, 52, 57, 53, 57, 54, 57, 55, 57, 56, 57, 57] : List UInt8).drop (W (p0 * 2)).toNat).take ((W ((W (p0 * 2)) + 2)).toNat - (W (p0 * 2)).toNat)) = ((([48, 48, 48, 49, 48, 50, 48, 51, 48, 52, 48, 53, 48, 54, 48, 55, 48, 56, 48, 57, 49, 48, 49, 49, 49, 50, 49, 51, 49, 52, 49, 53, 49, 54, 49, 55, 49, 56, 49, 57, 50, 48, 50, 49, 50, 50, 50, 51, 50, 52, 50, 53, 50, 54, 50, 55, 50, 56, 50, 57, 51, 48, 51, 49, 51, 50, 51, 51, 51, 52, 51, 53, 51, 54, 51, 55, 51, 56, 51, 57, 52, 48, 52, 49, 52, 50, 52, 51, 52, 52, 52, 53, 52, 54, 52, 55, 52, 56, 52, 57, 53, 48, 53, 49, 53, 50, 53, 51, 53, 52, 53, 53, 53, 54, 53, 55, 53, 56, 53, 57, 54, 48, 54, 49, 54, 50, 54, 51, 54, 52, 54, 53, 54, 54, 54, 55, 54, 56, 54, 57, 55, 48, 55, 49, 55, 50, 55, 51, 55, 52, 55, 53, 55, 54, 55, 55, 55, 56, 55, 57, 56, 48, 56, 49, 56, 50, 56, 51, 56, 52, 56, 53, 56, 54, 56, 55, 56, 56, 56, 57, 57, 48, 57, 49, 57, 50, 57, 51, 57, 52, 57, 53, 57, 54, 57, 55, 57, 56, 57, 57] : List UInt8).drop (W (p0 * 2)).toNat).take ((W ((W (p0 * 2)) + 2)).toNat - (W (p0 * 2)).toNat))) (t))) ?_
  cases H
  exact er
def x_internal_strconv_FormatInt_ir : S :=
 (sq [o 4 (.mv (.v (.str [])))]
 (.seq (sq [om 10 1, o 11 (.bin .eql (.t 10) (iv 10))]
 (.ite (.t 11) (.seq (sq [om 12 0, o 13 (.bin .leq (iv 0) (.t 12)), om 14 13, oh 15 (.mv (.t 0)) 14, oh 16 (.bin .lss (.t 15) (iv 100)) 14, o 17 (.pick (.t 14) (.t 16) bF)]
  (.ite (.t 17) (sq [om 18 0, o 19 (.call 194 [.t 18]), om 4 19]
   .ret)
  .skip))
  (sq [o 5 (.alloc [.int .u8 0, .int .u8 0, .int .u8 0, .int .u8 0, .int .u8 0, .int .u8 0, .int .u8 0, .int .u8 0, .int .u8 0, .int .u8 0, .int .u8 0, .int .u8 0, .int .u8 0, .int .u8 0, .int .u8 0, .int .u8 0, .int .u8 0, .int .u8 0, .int .u8 0, .int .u8 0, .int .u8 0, .int .u8 0, .int .u8 0, .int .u8 0])]
  (sq [om 20 0, o 21 (.conv .u64 (.t 20)), om 6 21]
  (.seq (sq [om 22 0, o 23 (.bin .lss (.t 22) (iv 0))]
  (.ite (.t 23) (.ops [om 24 6, o 25 (.neg (.t 24)), om 6 25])
  .skip))
  (sq [om 26 6, o 27 (.call 195 [.t 26]), om 7 27]
  (.seq .bad
  (.seq (sq [om 33 0, o 34 (.bin .lss (.t 33) (iv 0))]
  (.ite (.t 34) (sq [o 35 (.iar 24 1 (.t 5) (iv 0)), ⟨none, .store 1 (.t 35) (.v (.int .u8 45)), none⟩]
   (.seq .bad
   .ret))
  .skip))
  (.seq .bad
  .ret))))))))
 .skip))
 (sq [om 45 0, o 46 (.conv .u64 (.t 45)), om 47 1, om 48 0, o 49 (.bin .lss (.t 48) (iv 0)), o 50 (.call 197 [.v (.nil), .t 46, .t 47, .t 49, .v (.bool false)]), om 44 50, o 51 (.ext (.t 44) 0), o 52 (.ext (.t 44) 1), om 8 51, om 9 52]
 (sq [om 53 9, om 4 53]
 .ret))))
noncomputable def X.x_internal_strconv_FormatInt (p0 : Int) (p1 : Int) : Option (List UInt8) :=
 (bif (p1 == 10) then (((bif (decide (0 ≤ p0)) then (bif (decide (p0 < 100)) then ((X.x_internal_strconv_small p0).bind fun v23 => some (Sum.inr v23)) else some (Sum.inl ())) else some (Sum.inl ())) : Option (Unit ⊕ (List UInt8))).bind fun y25 => (Sum.elim (fun (y27 : Unit) => (bif (decide (p0 < 0)) then none else none)) (fun (y28 : (List UInt8)) => some y28) y25)) else none)
theorem x_internal_strconv_FormatInt_ok (p0 : Int) (p1 : Int) (r : (List UInt8)) (H : X.x_internal_strconv_FormatInt p0 p1 = some r) : FK 153 [cI p0, cI p1] (.c (.str r)) := by
 unfold X.x_internal_strconv_FormatInt at H
 refine fi Tryz.f153 x_internal_strconv_FormatInt_ir [(4, .c (.str r))] [] glL Tryz.func153 ?_
 refine sn [] [] [] [] [] id ?_
 refine seq_in ?_
 refine sn [] [] [(11, cB (p1 == 10))] [] [] id ?_
 rcases oC H with ⟨c16, H⟩ | ⟨c16, H⟩
 ·refine it c16 ?_
  obtain ⟨y25, h26, H⟩ := oB H
  refine seq_in (cut_in (orJ (fun (z : Unit) => At .normal (lit [(0, cI p0)] [])) (fun (z : (List UInt8)) => At .ret (lit [(4, .c (.str z))] []))) y25 ?_ ?_)
  ·clear H
   revert h26
   generalize y25 = y0
   intro H
   rcases oC H with ⟨c21, H⟩ | ⟨c21, H⟩
   ·refine sn (rg 3 true []) [] [(17, cB (decide (p0 < 100)))] [] [] (fun t => aG 3 c21 (t)) ?_
    rcases oC H with ⟨c22, H⟩ | ⟨c22, H⟩
    ·refine it c22 ?_
     obtain ⟨v23, h24, H⟩ := oB H
     refine so [.res (.c (.str v23))] [] [(4, .c (.str v23))] [] (aI (x_internal_strconv_small_ok p0 v23 h24)) ?_
     refine ends_ret ?_
     cases H
     exact rr
    ·refine jf c22 ?_
     refine tl [] [(0, cI p0)] [] id ?_
     refine ends_skip ?_
     cases H
     exact rr
   ·refine sn (rg 3 false []) [] [(17, cB false)] [] [] (fun t => aG 3 c21 (t)) ?_
    refine jf rF ?_
    refine tl [] [(0, cI p0)] [] id ?_
    refine ends_skip ?_
    cases H
    exact rr
  ·clear h26
   cases y25 with
   | inl y27 =>
    replace H := ofInl H
    rintro e s ⟨rfl, rfl⟩
    change EndsI _ _ _ _ _ _
    refine sn [] [] [(5, pk 5)] [] [(5, .var [.int .u8 0, .int .u8 0, .int .u8 0, .int .u8 0, .int .u8 0, .int .u8 0, .int .u8 0, .int .u8 0, .int .u8 0, .int .u8 0, .int .u8 0, .int .u8 0, .int .u8 0, .int .u8 0, .int .u8 0, .int .u8 0, .int .u8 0, .int .u8 0, .int .u8 0, .int .u8 0, .int .u8 0, .int .u8 0, .int .u8 0, .int .u8 0] false)] id ?_
    refine sn [] [] [(6, .c (.int .u64 (IntKind.u64.wrap p0)))] [] [] id ?_
    refine seq_in ?_
    refine sn [] [] [(23, cB (decide (p0 < 0)))] [] [] id ?_
    rcases oC H with ⟨c30, H⟩ | ⟨c30, H⟩
    ·refine it c30 ?_
     cases H
    ·refine jf c30 ?_
     refine sk ?_
     cases H
   | inr y28 =>
    replace H := ofInr H
    rintro e s ⟨rfl, rfl⟩
    cases H
    exact qr
 ·refine jf c16 ?_
  refine sk ?_
  cases H
def x_internal_strconv_Itoa_ir : S :=
 (sq [o 2 (.mv (.v (.str [])))]
 (sq [om 3 0, o 4 (.call 153 [.t 3, .v (.int .i64 10)]), om 2 4]
 .ret))
noncomputable def X.x_internal_strconv_Itoa (p0 : Int) : Option (List UInt8) :=
 ((X.x_internal_strconv_FormatInt p0 10).bind fun v1 => some v1)
theorem x_internal_strconv_Itoa_ok (p0 : Int) (r : (List UInt8)) (H : X.x_internal_strconv_Itoa p0 = some r) : FK 97 [cI p0] (.c (.str r)) := by
 unfold X.x_internal_strconv_Itoa at H
 refine fi Tryz.f97 x_internal_strconv_Itoa_ir [(2, .c (.str r))] [] glL Tryz.func97 ?_
 refine sn [] [] [] [] [] id ?_
 obtain ⟨v1, h2, H⟩ := oB H
 refine so [.res (.c (.str v1))] [] [(2, .c (.str v1))] [] (aI (x_internal_strconv_FormatInt_ok p0 10 v1 h2)) ?_
 cases H
 exact er
def x_strconv_Itoa_ir : S :=
 (sq [o 2 (.mv (.v (.str [])))]
 (sq [om 3 0, o 4 (.call 97 [.t 3]), om 2 4]
 .ret))
noncomputable def X.x_strconv_Itoa (p0 : Int) : Option (List UInt8) :=
 ((X.x_internal_strconv_Itoa p0).bind fun v1 => some v1)
theorem x_strconv_Itoa_ok (p0 : Int) (r : (List UInt8)) (H : X.x_strconv_Itoa p0 = some r) : FK 42 [cI p0] (.c (.str r)) := by
 unfold X.x_strconv_Itoa at H
 refine fi Tryz.f42 x_strconv_Itoa_ir [(2, .c (.str r))] [] glL Tryz.func42 ?_
 refine sn [] [] [] [] [] id ?_
 obtain ⟨v1, h2, H⟩ := oB H
 refine so [.res (.c (.str v1))] [] [(2, .c (.str v1))] [] (aI (x_internal_strconv_Itoa_ok p0 v1 h2)) ?_
 cases H
 exact er
noncomputable def X.x_strings_Join (p0 : List (List UInt8)) (p1 : List UInt8) : Option (List UInt8) :=
 if p0.length ≤ 140737488355328 ∧ (p1.intercalate p0).length ≤ 140737488355328 then some (p1.intercalate p0) else none
theorem x_strings_Join_ok (p0 : List (List UInt8)) (p1 : List UInt8) (r : List UInt8) (H : X.x_strings_Join p0 p1 = some r) : FK 156 [.c (dat 1 eS zS p0), .c (.str p1)] (.c (.str r)) :=
 join_fn (by kernel_rfl) (Any.strings_Join_none lays156 bldX156) (fun bk o c xs sep w h1 h2 h3 h4 h5 => Any.strings_Join lays156 bldX156 bk o c xs sep w h1 h2 h3 h4 h5) (fun _ => rfl) p0 p1 r H
def i_wordsText_ir : S :=
 (sq [o 4 (.mv (.v (.str [])))]
 (sq [om 8 0, o 9 (.bsl 1 [.t 8]), om 5 9]
 (.seq (sq [om 10 1, o 11 (.len (.t 10)), o 12 (.mv (iv 0))]
 (.blk 0 (.loop (sq [o 13 (.bin .lss (.t 12) (.t 11))]
   (.seq (.ite (.t 13) .skip
   (.exit 0))
   (.seq (.blk 1 (sq [o 14 (.iad 1 (.t 10) (.t 12)), ol 15 14, om 7 15]
    (.ops [om 16 5, om 17 7, o 18 (.call 42 [.t 17]), o 19 (.bsl 1 [.t 18]), o 20 (.app 1 16 (.t 16) (.t 19)), om 5 20])))
   (.ops [o 21 (.bin .add (.t 12) (iv 1)), om 12 21])))))))
 (sq [om 22 5, o 23 (.call 156 [.t 22, .v (.str [32])]), om 4 23]
 .ret))))
noncomputable def X.i_wordsText (p0 : (List UInt8)) (p1 : (List Int)) : Option (List UInt8) :=
 ((loop (fun (x16 : (Int × (List (List UInt8)))) => ((bif (decide (x16.1 < (p1.length : Int))) then ((at' zI p1 x16.1).bind fun v19 => ((X.x_strconv_Itoa v19).bind fun v21 => (if (x16.2 ++ ([v21] : List (List UInt8))).length ≤ LIM then some (Sum.inl ((W (x16.1 + 1)), (x16.2 ++ ([v21] : List (List UInt8))))) else none))) else some (Sum.inr x16.2)) : Option ((Int × (List (List UInt8))) ⊕ (List (List UInt8))))) (0, ([p0] : List (List UInt8)))).bind fun y24 => ((X.x_strings_Join y24 [32]).bind fun v26 => some v26))
theorem i_wordsText_ok (p0 : (List UInt8)) (p1 : (List Int)) (r : (List UInt8)) (H : X.i_wordsText p0 p1 = some r) : FK 108 [.c (.str p0), .c (dat 1 eI zI p1)] (.c (.str r)) := by
 unfold X.i_wordsText at H
 refine fi Tryz.f108 i_wordsText_ir [(4, .c (.str r))] [] glL Tryz.func108 ?_
 refine sn [] [] [] [] [] id ?_
 refine sn [fh eS zS ([p0] : List (List UInt8))] [] [(5, ow 9 1 ([p0] : List (List UInt8)))] [] [(9, ar 1 eS zS ([p0] : List (List UInt8)))] (fun t => aI (rfl : ([p0] : List (List UInt8)).length = 1) (aI (fF_lit eS zS ([p0] : List (List UInt8))) (t))) ?_
 refine seq_in ?_
 refine sn [] [] [(10, dc 1 eI zI p1), (11, cL p1), (12, cI 0)] [] [] (fun t => lI p1 (t)) ?_
 refine ends_blk ?_
 obtain ⟨y24, h25, H⟩ := oB H
 refine tl [.ren 9 1001] [(5, ow 1001 1 ([p0] : List (List UInt8))), (10, dc 1 eI zI p1), (11, cL p1), (12, cI 0)] [(1001, ar 1 eS zS ([p0] : List (List UInt8)))] id ?_
 refine loop_in (fun (x : (Int × (List (List UInt8)))) => lit [(5, ow 1001 1 x.2), (10, dc 1 eI zI p1), (11, cL p1), (12, cI x.1)] [(1001, ar 1 eS zS x.2)]) (fun (z : (List (List UInt8))) => At (.exit 0) (lit [(5, ow 1001 1 z)] [(1001, ar 1 eS zS z)])) h25 ?_ ?_
 ·clear H h25
  intro x16 y0 H
  refine sn [] [] [(13, cB (decide (x16.1 < (p1.length : Int))))] [] [] id ?_
  refine seq_in ?_
  rcases oC H with ⟨c18, H⟩ | ⟨c18, H⟩
  ·refine it c18 ?_
   refine sk ?_
   refine seq_in ?_
   refine ends_blk ?_
   obtain ⟨v19, h20, H⟩ := oB H
   refine sn [.cs (eI v19)] [] [(7, cI v19)] [] [] (a2 eI h20) ?_
   obtain ⟨v21, h22, H⟩ := oB H
   obtain ⟨g23, H⟩ := oI H
   refine oo [.res (.c (.str v21)), fh eS zS ([v21] : List (List UInt8)), fh eS zS (x16.2 ++ ([v21] : List (List UInt8)))] [] [(5, ow 20 1 (x16.2 ++ ([v21] : List (List UInt8)))), (10, dc 1 eI zI p1), (11, cL p1), (12, cI x16.1)] [(20, ar 1 eS zS (x16.2 ++ ([v21] : List (List UInt8))))] (fun t => aI (x_strconv_Itoa_ok v19 v21 h22) (aI (rfl : ([v21] : List (List UInt8)).length = 1) (aI (fF_lit eS zS ([v21] : List (List UInt8))) (aI (And.intro (Nat.le_refl x16.2.length) (And.intro (@List.length_append _ x16.2 ([v21] : List (List UInt8))) g23)) (aI (fF_appL eS zS x16.2 ([v21] : List (List UInt8))) (aI (fF_appR eS zS x16.2 ([v21] : List (List UInt8))) (t))))))) ?_
   change EndsI _ _ _ _ _ _
   refine oo [] [.ren 20 1001] [(5, ow 1001 1 (x16.2 ++ ([v21] : List (List UInt8)))), (10, dc 1 eI zI p1), (11, cL p1), (12, cI (W (x16.1 + 1)))] [(1001, ar 1 eS zS (x16.2 ++ ([v21] : List (List UInt8))))] id ?_
   cases H
   exact rr
  ·refine jf c18 ?_
   refine tl [] [(5, ow 1001 1 x16.2)] [(1001, ar 1 eS zS x16.2)] id ?_
   refine ends_exit ?_
   cases H
   exact rse
 ·clear h25
  rintro e s ⟨rfl, rfl⟩
  change EndsI _ _ _ _ _ _
  obtain ⟨v26, h27, H⟩ := oB H
  refine so [.res (.c (.str v26))] [] [(4, .c (.str v26))] [] (fun t => aI (Nat.le_refl y24.length) (aI (x_strings_Join_ok y24 [32] v26 h27) (t))) ?_
  cases H
  exact er
def i_placeText_ir : S :=
 (sq [o 2 (.mv (.v (.str [])))]
 (.seq (sq [om 3 0, o 4 (.bin .lss (.t 3) (iv 0))]
 (.ite (.t 4) (sq [o 2 (.mv (.v (.str [45])))]
  .ret)
 .skip))
 (sq [om 5 0, o 6 (.call 42 [.t 5]), om 2 6]
 .ret)))
noncomputable def X.i_placeText (p0 : Int) : Option (List UInt8) :=
 (bif (decide (p0 < 0)) then some [45] else ((X.x_strconv_Itoa p0).bind fun v2 => some v2))
theorem i_placeText_ok (p0 : Int) (r : (List UInt8)) (H : X.i_placeText p0 = some r) : FK 110 [cI p0] (.c (.str r)) := by
 unfold X.i_placeText at H
 refine fi Tryz.f110 i_placeText_ir [(2, .c (.str r))] [] glL Tryz.func110 ?_
 refine sn [] [] [] [] [] id ?_
 refine seq_in ?_
 refine sn [] [] [(4, cB (decide (p0 < 0)))] [] [] id ?_
 rcases oC H with ⟨c1, H⟩ | ⟨c1, H⟩
 ·refine it c1 ?_
  refine so [] [] [(2, .c (.str [45]))] [] id ?_
  cases H
  exact er
 ·refine jf c1 ?_
  refine sk ?_
  obtain ⟨v2, h3, H⟩ := oB H
  refine so [.res (.c (.str v2))] [] [(2, .c (.str v2))] [] (aI (x_strconv_Itoa_ok p0 v2 h3)) ?_
  cases H
  exact er
def i_reportText_1_ir : S :=
 (sq [o 4 (.box 4 (.t 1)), o 5 (.mv (.v (.str [])))]
 (.seq (.drw [(0, 2), (1, 2), (0, 3), (1, 3), (0, 4), (1, 4), (0, 5), (1, 5), (2, 5), (3, 5), (4, 5), (0, 6), (1, 6), (2, 6), (3, 6), (4, 6), (0, 7), (1, 7), (0, 8), (1, 8), (0, 9), (1, 9), (0, 12), (1, 12), (2, 12), (3, 12), (4, 12), (5, 12), (6, 12), (7, 12), (8, 12), (9, 12), (10, 12), (11, 12), (0, 13), (1, 13), (2, 13), (3, 13), (4, 13), (5, 13), (6, 13), (7, 13), (8, 13), (9, 13), (10, 13), (11, 13), (0, 14), (1, 14), (2, 14), (3, 14), (4, 14), (5, 14), (6, 14), (7, 14), (8, 14), (9, 14), (10, 14), (11, 14), (0, 17), (1, 17), (2, 17), (3, 17), (4, 17), (5, 17), (6, 17), (7, 17), (8, 17), (9, 17), (10, 17), (11, 17), (12, 17), (13, 17), (14, 17), (15, 17), (16, 17), (0, 18), (1, 18), (2, 18), (3, 18), (4, 18), (5, 18), (6, 18), (7, 18), (8, 18), (9, 18), (10, 18), (11, 18), (12, 18), (13, 18), (14, 18), (15, 18), (16, 18), (0, 19), (1, 19), (2, 19), (3, 19), (4, 19), (5, 19), (6, 19), (7, 19), (8, 19), (9, 19), (10, 19), (11, 19), (15, 19), (16, 19)] [om 6 0, o 7 (.bin .add (.t 6) (.v (.str [32]))), oa 8 0 2, oa 9 1 8, ol 10 9, oa 11 1 4, ol 12 11, o 13 (.iad 6 (.t 10) (.t 12)), oa 14 0 13, ol 15 14, o 16 (.bin .add (.t 7) (.t 15)), o 17 (.bin .add (.t 16) (.v (.str [32]))), oa 18 2 4, ol 19 18, o 20 (.call 110 [.t 19]), o 21 (.bin .add (.t 17) (.t 20)), o 22 (.bin .add (.t 21) (.v (.str [32]))), oa 23 3 4, ol 24 23, o 25 (.call 42 [.t 24]), o 26 (.bin .add (.t 22) (.t 25)), o 27 (.bin .add (.t 26) (.v (.str [10]))), om 5 27])
 .ret))
noncomputable def X.i_reportText_1 (p0 : (List UInt8)) (p1 : TUnit) (p2 : TBoard) : Option (List UInt8) :=
 (if p0.length + ([32] : List UInt8).length ≤ maxLen then ((at' zTKind p2.Rules.Kinds p1.Kind).bind fun v2 => (if (p0 ++ ([32] : List UInt8)).length + v2.Name.length ≤ maxLen then (if ((p0 ++ ([32] : List UInt8)) ++ v2.Name).length + ([32] : List UInt8).length ≤ maxLen then ((X.i_placeText p1.At).bind fun v6 => (if (((p0 ++ ([32] : List UInt8)) ++ v2.Name) ++ ([32] : List UInt8)).length + v6.length ≤ maxLen then (if ((((p0 ++ ([32] : List UInt8)) ++ v2.Name) ++ ([32] : List UInt8)) ++ v6).length + ([32] : List UInt8).length ≤ maxLen then ((X.x_strconv_Itoa p1.Steps).bind fun v10 => (if (((((p0 ++ ([32] : List UInt8)) ++ v2.Name) ++ ([32] : List UInt8)) ++ v6) ++ ([32] : List UInt8)).length + v10.length ≤ maxLen then (if ((((((p0 ++ ([32] : List UInt8)) ++ v2.Name) ++ ([32] : List UInt8)) ++ v6) ++ ([32] : List UInt8)) ++ v10).length + ([10] : List UInt8).length ≤ maxLen then some (((((((p0 ++ ([32] : List UInt8)) ++ v2.Name) ++ ([32] : List UInt8)) ++ v6) ++ ([32] : List UInt8)) ++ v10) ++ ([10] : List UInt8)) else none) else none)) else none) else none)) else none) else none)) else none)
theorem i_reportText_1_ok (p0 : (List UInt8)) (p1 : TUnit) (p2 : TBoard) (r : (List UInt8)) (H : X.i_reportText_1 p0 p1 p2 = some r) : FK 109 [.c (.str p0), .agg (eTUnit p1), .c (.pd (eTBoard p2) 0)] (.c (.str r)) := by
 unfold X.i_reportText_1 at H
 refine fi Tryz.f109 i_reportText_1_ir [(5, .c (.str r))] [] glL Tryz.func109 ?_
 refine sn [] [] [(4, pk 4)] [] [(4, va (eTUnit p1))] id ?_
 obtain ⟨g1, H⟩ := oI H
 obtain ⟨v2, h3, H⟩ := oB H
 obtain ⟨g4, H⟩ := oI H
 obtain ⟨g5, H⟩ := oI H
 obtain ⟨v6, h7, H⟩ := oB H
 obtain ⟨g8, H⟩ := oI H
 obtain ⟨g9, H⟩ := oI H
 obtain ⟨v10, h11, H⟩ := oB H
 obtain ⟨g12, H⟩ := oI H
 obtain ⟨g13, H⟩ := oI H
 refine sx [.cs (eTKind v2), .res (.c (.str v6)), .res (.c (.str v10))] [] [(5, .c (.str (((((((p0 ++ ([32] : List UInt8)) ++ v2.Name) ++ ([32] : List UInt8)) ++ v6) ++ ([32] : List UInt8)) ++ v10) ++ ([10] : List UInt8))))] [] (fun t => aI g1 (aI rN ((a2 eTKind h3 (aI rN (aI g4 (aI g5 (aI (i_placeText_ok p1.At v6 h7) (aI trivial (aI rN (aI g8 (aI g9 (aI (x_strconv_Itoa_ok p1.Steps v10 h11) (aI trivial (aI rN (aI g12 (aI g13 (t)))))))))))))))))) ?_
 cases H
 exact er
def i_reportText_ir : S :=
 (sq [o 2 (.box 12 (.t 0)), o 3 (.box 6 (.t 1)), o 4 (.mv (.v (.str [])))]
 (.seq (.drw [(0, 5), (1, 5), (2, 5), (3, 5), (4, 5), (0, 6), (1, 6), (2, 6), (3, 6), (4, 6), (0, 7), (1, 7), (2, 7), (3, 7), (4, 7), (4, 8), (0, 11), (1, 11), (2, 11), (3, 11), (4, 11), (5, 11), (6, 11), (7, 11), (8, 11), (9, 11), (10, 11), (0, 12), (1, 12), (2, 12), (3, 12), (4, 12), (5, 12), (6, 12), (7, 12), (8, 12), (9, 12), (10, 12), (0, 13), (1, 13), (2, 13), (3, 13), (4, 13), (5, 13), (6, 13), (7, 13), (8, 13), (9, 13), (10, 13), (4, 14), (9, 14), (10, 14), (0, 17), (1, 17), (2, 17), (3, 17), (4, 17), (5, 17), (6, 17), (7, 17), (8, 17), (9, 17), (10, 17), (11, 17), (12, 17), (13, 17), (14, 17), (15, 17), (16, 17), (0, 18), (1, 18), (2, 18), (3, 18), (4, 18), (5, 18), (6, 18), (7, 18), (8, 18), (9, 18), (10, 18), (11, 18), (12, 18), (13, 18), (14, 18), (15, 18), (16, 18), (4, 19), (9, 19), (10, 19), (15, 19), (16, 19)] [oa 11 0 3, ol 12 11, o 13 (.bsl 1 [.t 12]), o 14 (.call 108 [.v (.str [115, 105, 100, 101]), .t 13]), o 15 (.bin .add (.t 14) (.v (.str [32]))), oa 16 1 3, ol 17 16, o 18 (.bsl 1 [.t 17]), o 19 (.call 108 [.v (.str [116, 117, 114, 110]), .t 18]), o 20 (.bin .add (.t 15) (.t 19)), o 21 (.bin .add (.t 20) (.v (.str [32]))), oa 22 2 3, ol 23 22, o 24 (.bsl 1 [.t 23]), o 25 (.call 108 [.v (.str [119, 101, 97, 116, 104, 101, 114]), .t 24]), o 26 (.bin .add (.t 21) (.t 25)), o 27 (.bin .add (.t 26) (.v (.str [10]))), oa 28 3 3, ol 29 28, o 30 (.call 108 [.v (.str [115, 101, 101, 110]), .t 29]), o 31 (.bin .add (.t 27) (.t 30)), o 32 (.bin .add (.t 31) (.v (.str [10]))), om 5 32])
 (sq [o 33 (.clo 109 [.t 2]), om 6 33]
 (.seq (sq [oa 34 4 3, ol 35 34, o 36 (.len (.t 35)), o 37 (.mv (iv 0))]
 (.blk 0 (.loop (sq [o 38 (.bin .lss (.t 37) (.t 36))]
   (.seq (.ite (.t 38) .skip
   (.exit 0))
   (.seq (.blk 1 (sq [o 39 (.iad 4 (.t 35) (.t 37)), o 40 (.load 4 true (.t 39)), o 8 (.alloc [.int .i64 0, .int .i64 0, .int .i64 0, .int .i64 0]), os 4 8 40]
    (.ops [om 41 5, om 42 6, o 43 (.load 4 true (.t 8)), o 44 (.cald (.t 42) [.v (.str [111, 119, 110]), .t 43]), o 45 (.bin .add (.t 41) (.t 44)), om 5 45])))
   (.ops [o 46 (.bin .add (.t 37) (iv 1)), om 37 46])))))))
 (.seq (sq [oa 47 5 3, ol 48 47, o 49 (.len (.t 48)), o 50 (.mv (iv 0))]
 (.blk 2 (.loop (sq [o 51 (.bin .lss (.t 50) (.t 49))]
   (.seq (.ite (.t 51) .skip
   (.exit 2))
   (.seq (.blk 3 (sq [o 52 (.iad 4 (.t 48) (.t 50)), o 53 (.load 4 true (.t 52)), o 10 (.alloc [.int .i64 0, .int .i64 0, .int .i64 0, .int .i64 0]), os 4 10 53]
    (.ops [om 54 5, om 55 6, o 56 (.load 4 true (.t 10)), o 57 (.cald (.t 55) [.v (.str [101, 110, 101, 109, 121]), .t 56]), o 58 (.bin .add (.t 54) (.t 57)), om 5 58])))
   (.ops [o 59 (.bin .add (.t 50) (iv 1)), om 50 59])))))))
 (sq [om 60 5, om 4 60]
 .ret))))))
noncomputable def X.i_reportText (p0 : TBoard) (p1 : TView) : Option (List UInt8) :=
 ((X.i_wordsText [115, 105, 100, 101] ([p1.Side] : List Int)).bind fun v1 => (if v1.length + ([32] : List UInt8).length ≤ maxLen then ((X.i_wordsText [116, 117, 114, 110] ([p1.Turn] : List Int)).bind fun v4 => (if (v1 ++ ([32] : List UInt8)).length + v4.length ≤ maxLen then (if ((v1 ++ ([32] : List UInt8)) ++ v4).length + ([32] : List UInt8).length ≤ maxLen then ((X.i_wordsText [119, 101, 97, 116, 104, 101, 114] ([p1.Weather] : List Int)).bind fun v8 => (if (((v1 ++ ([32] : List UInt8)) ++ v4) ++ ([32] : List UInt8)).length + v8.length ≤ maxLen then (if ((((v1 ++ ([32] : List UInt8)) ++ v4) ++ ([32] : List UInt8)) ++ v8).length + ([10] : List UInt8).length ≤ maxLen then ((X.i_wordsText [115, 101, 101, 110] p1.Seen).bind fun v12 => (if (((((v1 ++ ([32] : List UInt8)) ++ v4) ++ ([32] : List UInt8)) ++ v8) ++ ([10] : List UInt8)).length + v12.length ≤ maxLen then (if ((((((v1 ++ ([32] : List UInt8)) ++ v4) ++ ([32] : List UInt8)) ++ v8) ++ ([10] : List UInt8)) ++ v12).length + ([10] : List UInt8).length ≤ maxLen then ((loop (fun (x56 : ((List UInt8) × Int)) => ((bif (decide (x56.2 < (p1.Own.length : Int))) then ((at' zTUnit p1.Own x56.2).bind fun v59 => ((X.i_reportText_1 [111, 119, 110] v59 p0).bind fun v61 => (if x56.1.length + v61.length ≤ maxLen then some (Sum.inl ((x56.1 ++ v61), (W (x56.2 + 1)))) else none))) else some (Sum.inr x56.1)) : Option (((List UInt8) × Int) ⊕ (List UInt8)))) ((((((((v1 ++ ([32] : List UInt8)) ++ v4) ++ ([32] : List UInt8)) ++ v8) ++ ([10] : List UInt8)) ++ v12) ++ ([10] : List UInt8)), 0)).bind fun y64 => ((loop (fun (x81 : ((List UInt8) × Int)) => ((bif (decide (x81.2 < (p1.Enemies.length : Int))) then ((at' zTUnit p1.Enemies x81.2).bind fun v84 => ((X.i_reportText_1 [101, 110, 101, 109, 121] v84 p0).bind fun v86 => (if x81.1.length + v86.length ≤ maxLen then some (Sum.inl ((x81.1 ++ v86), (W (x81.2 + 1)))) else none))) else some (Sum.inr x81.1)) : Option (((List UInt8) × Int) ⊕ (List UInt8)))) (y64, 0)).bind fun y89 => some y89)) else none) else none)) else none) else none)) else none) else none)) else none))
theorem i_reportText_ok (p0 : TBoard) (p1 : TView) (r : (List UInt8)) (H : X.i_reportText p0 p1 = some r) : FK 44 [.agg (eTBoard p0), .agg (eTView p1)] (.c (.str r)) := by
 unfold X.i_reportText at H
 refine fi Tryz.f44 i_reportText_ir [(4, .c (.str r))] [] glL Tryz.func44 ?_
 refine so [] [] [(2, pk 2), (3, pk 3)] [(2, va (eTBoard p0)), (3, va (eTView p1))] id ?_
 obtain ⟨v1, h2, H⟩ := oB H
 obtain ⟨g3, H⟩ := oI H
 obtain ⟨v4, h5, H⟩ := oB H
 obtain ⟨g6, H⟩ := oI H
 obtain ⟨g7, H⟩ := oI H
 obtain ⟨v8, h9, H⟩ := oB H
 obtain ⟨g10, H⟩ := oI H
 obtain ⟨g11, H⟩ := oI H
 obtain ⟨v12, h13, H⟩ := oB H
 obtain ⟨g14, H⟩ := oI H
 obtain ⟨g15, H⟩ := oI H
 refine xn [fh eI zI ([p1.Side] : List Int), .res (.c (.str v1)), fh eI zI ([p1.Turn] : List Int), .res (.c (.str v4)), fh eI zI ([p1.Weather] : List Int), .res (.c (.str v8)), .res (.c (.str v12))] [] [(5, .c (.str (((((((v1 ++ ([32] : List UInt8)) ++ v4) ++ ([32] : List UInt8)) ++ v8) ++ ([10] : List UInt8)) ++ v12) ++ ([10] : List UInt8))))] [] [] (fun t => aI (rfl : ([p1.Side] : List Int).length = 1) (aI rT (aI (fF_lit eI zI ([p1.Side] : List Int)) (aI (i_wordsText_ok [115, 105, 100, 101] ([p1.Side] : List Int) v1 h2) (aI trivial (aI rN (aI g3 (aI (rfl : ([p1.Turn] : List Int).length = 1) (aI rT (aI (fF_lit eI zI ([p1.Turn] : List Int)) (aI (i_wordsText_ok [116, 117, 114, 110] ([p1.Turn] : List Int) v4 h5) (aI trivial (aI rN (aI g6 (aI g7 (aI (rfl : ([p1.Weather] : List Int).length = 1) (aI rT (aI (fF_lit eI zI ([p1.Weather] : List Int)) (aI (i_wordsText_ok [119, 101, 97, 116, 104, 101, 114] ([p1.Weather] : List Int) v8 h9) (aI trivial (aI rN (aI g10 (aI g11 (aI (i_wordsText_ok [115, 101, 101, 110] p1.Seen v12 h13) (aI trivial (aI rN (aI g14 (aI g15 (t))))))))))))))))))))))))))))) ?_
 refine sn [] [] [(6, .c (.clo 109 [.pk 2 0]))] [] [] id ?_
 refine seq_in ?_
 refine sn [] [] [(35, dc 4 eTUnit zTUnit p1.Own), (36, cL p1.Own), (37, cI 0)] [] [] (fun t => lI p1.Own (t)) ?_
 refine ends_blk ?_
 obtain ⟨y64, h65, H⟩ := oB H
 refine tl [] [(3, pk 3), (5, .c (.str (((((((v1 ++ ([32] : List UInt8)) ++ v4) ++ ([32] : List UInt8)) ++ v8) ++ ([10] : List UInt8)) ++ v12) ++ ([10] : List UInt8)))), (6, .c (.clo 109 [.pk 2 0])), (35, dc 4 eTUnit zTUnit p1.Own), (36, cL p1.Own), (37, cI 0)] [(2, va (eTBoard p0)), (3, va (eTView p1))] id ?_
 refine loop_in (fun (x : ((List UInt8) × Int)) => lit [(3, pk 3), (5, .c (.str x.1)), (6, .c (.clo 109 [.pk 2 0])), (35, dc 4 eTUnit zTUnit p1.Own), (36, cL p1.Own), (37, cI x.2)] [(2, va (eTBoard p0)), (3, va (eTView p1))]) (fun (z : (List UInt8)) => At (.exit 0) (lit [(3, pk 3), (5, .c (.str z)), (6, .c (.clo 109 [.pk 2 0]))] [(2, va (eTBoard p0)), (3, va (eTView p1))])) h65 ?_ ?_
 ·clear H h65
  intro x56 y0 H
  refine sn [] [] [(38, cB (decide (x56.2 < (p1.Own.length : Int))))] [] [] id ?_
  refine seq_in ?_
  rcases oC H with ⟨c58, H⟩ | ⟨c58, H⟩
  ·refine it c58 ?_
   refine sk ?_
   refine seq_in ?_
   refine ends_blk ?_
   obtain ⟨v59, h60, H⟩ := oB H
   refine sn [.cs (eTUnit v59)] [] [(8, pk 8)] [] [(8, va (eTUnit v59))] (a2 eTUnit h60) ?_
   obtain ⟨v61, h62, H⟩ := oB H
   obtain ⟨g63, H⟩ := oI H
   refine oo [.res (.c (.str v61))] [] [(3, pk 3), (5, .c (.str (x56.1 ++ v61))), (6, .c (.clo 109 [.pk 2 0])), (35, dc 4 eTUnit zTUnit p1.Own), (36, cL p1.Own), (37, cI x56.2)] [(2, va (eTBoard p0)), (3, va (eTView p1))] (fun t => aI (i_reportText_1_ok [111, 119, 110] v59 p0 v61 h62) (aI g63 (t))) ?_
   change EndsI _ _ _ _ _ _
   refine oo [] [] [(3, pk 3), (5, .c (.str (x56.1 ++ v61))), (6, .c (.clo 109 [.pk 2 0])), (35, dc 4 eTUnit zTUnit p1.Own), (36, cL p1.Own), (37, cI (W (x56.2 + 1)))] [(2, va (eTBoard p0)), (3, va (eTView p1))] id ?_
   cases H
   exact rr
  ·refine jf c58 ?_
   refine tl [] [(3, pk 3), (5, .c (.str x56.1)), (6, .c (.clo 109 [.pk 2 0]))] [(2, va (eTBoard p0)), (3, va (eTView p1))] id ?_
   refine ends_exit ?_
   cases H
   exact rse
 ·clear h65
  rintro e s ⟨rfl, rfl⟩
  change EndsI _ _ _ _ _ _
  refine seq_in ?_
  refine sn [] [] [(48, dc 4 eTUnit zTUnit p1.Enemies), (49, cL p1.Enemies), (50, cI 0)] [] [] (fun t => lI p1.Enemies (t)) ?_
  refine ends_blk ?_
  obtain ⟨y89, h90, H⟩ := oB H
  refine tl [] [(5, .c (.str y64)), (6, .c (.clo 109 [.pk 2 0])), (48, dc 4 eTUnit zTUnit p1.Enemies), (49, cL p1.Enemies), (50, cI 0)] [(2, va (eTBoard p0))] id ?_
  refine loop_in (fun (x : ((List UInt8) × Int)) => lit [(5, .c (.str x.1)), (6, .c (.clo 109 [.pk 2 0])), (48, dc 4 eTUnit zTUnit p1.Enemies), (49, cL p1.Enemies), (50, cI x.2)] [(2, va (eTBoard p0))]) (fun (z : (List UInt8)) => At (.exit 2) (lit [(5, .c (.str z))] [])) h90 ?_ ?_
  ·clear H h90
   intro x81 y0 H
   refine sn [] [] [(51, cB (decide (x81.2 < (p1.Enemies.length : Int))))] [] [] id ?_
   refine seq_in ?_
   rcases oC H with ⟨c83, H⟩ | ⟨c83, H⟩
   ·refine it c83 ?_
    refine sk ?_
    refine seq_in ?_
    refine ends_blk ?_
    obtain ⟨v84, h85, H⟩ := oB H
    refine sn [.cs (eTUnit v84)] [] [(10, pk 10)] [] [(10, va (eTUnit v84))] (a2 eTUnit h85) ?_
    obtain ⟨v86, h87, H⟩ := oB H
    obtain ⟨g88, H⟩ := oI H
    refine oo [.res (.c (.str v86))] [] [(5, .c (.str (x81.1 ++ v86))), (6, .c (.clo 109 [.pk 2 0])), (48, dc 4 eTUnit zTUnit p1.Enemies), (49, cL p1.Enemies), (50, cI x81.2)] [(2, va (eTBoard p0))] (fun t => aI (i_reportText_1_ok [101, 110, 101, 109, 121] v84 p0 v86 h87) (aI g88 (t))) ?_
    change EndsI _ _ _ _ _ _
    refine oo [] [] [(5, .c (.str (x81.1 ++ v86))), (6, .c (.clo 109 [.pk 2 0])), (48, dc 4 eTUnit zTUnit p1.Enemies), (49, cL p1.Enemies), (50, cI (W (x81.2 + 1)))] [(2, va (eTBoard p0))] id ?_
    cases H
    exact rr
   ·refine jf c83 ?_
    refine tl [] [(5, .c (.str x81.1))] [] id ?_
    refine ends_exit ?_
    cases H
    exact rse
  ·clear h90
   rintro e s ⟨rfl, rfl⟩
   change EndsI _ _ _ _ _ _
   refine so [] [] [(4, .c (.str y89))] [] id ?_
   cases H
   exact er
def i_ReportOf_ir : S :=
 (sq [o 3 (.box 12 (.t 0)), o 4 (.box 3 (.t 1)), o 6 (.mv (.v (.str []))), o 7 (.mv bF)]
 (.seq (sq [o 8 (.load 12 true (.t 3)), o 9 (.load 3 true (.t 4)), om 10 2, o 11 (.call 61 [.t 8, .t 9, .t 10]), o 12 (.not (.t 11))]
 (.ite (.t 12) (sq [o 6 (.mv (.v (.str []))), o 7 (.mv bF)]
  .ret)
 .skip))
 (.seq (.drw [(0, 1), (0, 2), (1, 2), (0, 3), (1, 3), (2, 3), (0, 4)] [o 13 (.load 12 true (.t 3)), o 14 (.load 12 true (.t 3)), o 15 (.load 3 true (.t 4)), om 16 2, o 17 (.call 64 [.t 14, .t 15, .t 16]), o 18 (.call 44 [.t 13, .t 17]), om 6 18, o 7 (.mv bT)])
 .ret)))
noncomputable def X.i_ReportOf (p0 : TBoard) (p1 : TState) (p2 : Int) : Option ((List UInt8) × Bool) :=
 ((X.i_isLook p0 p1 p2).bind fun v4 => (bif (!v4) then some ([], false) else ((X.i_viewOf p0 p1 p2).bind fun v7 => ((X.i_reportText p0 v7).bind fun v9 => some (v9, true)))))
theorem i_ReportOf_ok (p0 : TBoard) (p1 : TState) (p2 : Int) (r : ((List UInt8) × Bool)) (H : X.i_ReportOf p0 p1 p2 = some r) : FK 27 [.agg (eTBoard p0), .agg (eTState p1), cI p2] (.tup [(false, [.str r.1]), (false, [.bool r.2])]) := by
 unfold X.i_ReportOf at H
 refine fi Tryz.f27 i_ReportOf_ir [(6, .c (.str r.1)), (7, cB r.2)] [] glL Tryz.func27 ?_
 refine sn [] [] [(3, pk 3), (4, pk 4)] [] [(3, va (eTBoard p0)), (4, va (eTState p1))] id ?_
 refine seq_in ?_
 obtain ⟨v4, h5, H⟩ := oB H
 refine sn [.res (cB v4)] [] [(12, cB (!v4))] [] [] (aI (i_isLook_ok p0 p1 p2 v4 h5)) ?_
 rcases oC H with ⟨c6, H⟩ | ⟨c6, H⟩
 ·refine it c6 ?_
  refine so [] [] [(6, .c (.str [])), (7, cB false)] [] id ?_
  cases H
  exact er
 ·refine jf c6 ?_
  refine sk ?_
  obtain ⟨v7, h8, H⟩ := oB H
  obtain ⟨v9, h10, H⟩ := oB H
  refine sx [.res (.agg (eTView v7)), .res (.c (.str v9))] [] [(6, .c (.str v9)), (7, cB true)] [] (fun t => aI (i_viewOf_ok p0 p1 p2 v7 h8) (aG 2 rN (aI (i_reportText_ok p0 v7 v9 h10) (aI trivial (aI rN (t)))))) ?_
  cases H
  exact er
def l_FnUnseenMoves_ir : S :=
 (sq [o 4 (.box 12 (.t 0)), o 5 (.box 3 (.t 1)), o 6 (.box 3 (.t 2)), o 8 (.mv bF)]
 (sq [o 18 (.load 12 true (.t 4)), o 19 (.load 3 true (.t 5)), o 20 (.load 3 true (.t 6)), om 21 3, o 22 (.call 25 [.t 18, .t 19, .t 20, .t 21]), om 17 22, o 23 (.ext (.t 17) 0), o 24 (.ext (.t 17) 1), om 9 23, om 10 24]
 (sq [o 26 (.load 12 true (.t 4)), o 27 (.load 3 true (.t 5)), o 28 (.load 3 true (.t 6)), om 29 3, o 30 (.call 26 [.t 26, .t 27, .t 28, .t 29]), om 25 30, o 31 (.ext (.t 25) 0), o 32 (.ext (.t 25) 1), om 11 31, om 12 32]
 (.seq (sq [om 33 10, om 34 12, o 35 (.bqe true (.t 33) (.t 34)), om 36 35, og 37 (.mv (.t 9)) 36, og 38 (.mv (.t 11)) 36, og 39 (.bqe true (.t 37) (.t 38)) 36, o 40 (.pick (.t 36) bT (.t 39))]
 (.ite (.t 40) (sq [o 8 (.mv bF)]
  .ret)
 .skip))
 (.seq (sq [om 41 10, o 42 (.not (.t 41))]
 (.ite (.t 42) (sq [o 8 (.mv bT)]
  .ret)
 .skip))
 (sq [o 44 (.load 12 true (.t 4)), o 45 (.load 3 true (.t 5)), om 46 3, o 47 (.call 27 [.t 44, .t 45, .t 46]), om 43 47, o 48 (.ext (.t 43) 0), o 49 (.ext (.t 43) 1), om 13 48, om 14 49]
 (sq [o 51 (.load 12 true (.t 4)), o 52 (.load 3 true (.t 6)), om 53 3, o 54 (.call 27 [.t 51, .t 52, .t 53]), om 50 54, o 55 (.ext (.t 50) 0), o 56 (.ext (.t 50) 1), om 15 55, om 16 56]
 (sq [om 57 14, om 58 57, oh 59 (.mv (.t 16)) 58, o 60 (.pick (.t 58) (.t 59) bF), om 61 60, oh 62 (.mv (.t 9)) 61, oh 63 (.mv (.t 13)) 61, oh 64 (.mv (.t 15)) 61, oh 65 (.bin .eql (.t 63) (.t 64)) 61, oh 66 (.bqe false (.t 62) (.t 65)) 61, o 67 (.pick (.t 61) (.t 66) bF), om 8 67]
 .ret))))))))
noncomputable def X.l_FnUnseenMoves (p0 : TBoard) (p1 : TState) (p2 : TState) (p3 : Int) : Option Bool :=
 ((X.i_LooksAlike p0 p1 p2 p3).bind fun v1 => ((X.s_LooksAlike p0 p1 p2 p3).bind fun v3 => (bif (!(v1.2 == v3.2)) then some false else (bif (!(v1.1 == v3.1)) then some false else (bif (!v1.2) then some true else ((X.i_ReportOf p0 p1 p3).bind fun v11 => ((X.i_ReportOf p0 p2 p3).bind fun v13 => (bif v11.2 then (bif v13.2 then some (v1.1 == (v11.1 == v13.1)) else some false) else some false))))))))
theorem l_FnUnseenMoves_ok (p0 : TBoard) (p1 : TState) (p2 : TState) (p3 : Int) (r : Bool) (H : X.l_FnUnseenMoves p0 p1 p2 p3 = some r) : FK 5 [.agg (eTBoard p0), .agg (eTState p1), .agg (eTState p2), cI p3] (cB r) := by
 unfold X.l_FnUnseenMoves at H
 refine fi Tryz.f5 l_FnUnseenMoves_ir [(8, cB r)] [] glL Tryz.func5 ?_
 refine sn [] [] [(4, pk 4), (5, pk 5), (6, pk 6)] [] [(4, va (eTBoard p0)), (5, va (eTState p1)), (6, va (eTState p2))] id ?_
 obtain ⟨v1, h2, H⟩ := oB H
 refine sn [.res (.tup [(false, [.bool v1.1]), (false, [.bool v1.2])])] [] [(9, cB v1.1), (10, cB v1.2)] [] [] (aI (i_LooksAlike_ok p0 p1 p2 p3 v1 h2)) ?_
 obtain ⟨v3, h4, H⟩ := oB H
 refine sn [.res (.tup [(false, [.bool v3.1]), (false, [.bool v3.2])])] [] [(11, cB v3.1), (12, cB v3.2)] [] [] (aI (s_LooksAlike_ok p0 p1 p2 p3 v3 h4)) ?_
 refine seq_in ?_
 rcases oC H with ⟨c7, H⟩ | ⟨c7, H⟩
 ·refine sn (rg 4 true []) [] [(40, cB true)] [] [] (fun t => aG 4 c7 (t)) ?_
  refine it rT ?_
  refine so [] [] [(8, cB false)] [] id ?_
  cases H
  exact er
 ·refine sn (rg 4 false []) [] [(40, cB (!(v1.1 == v3.1)))] [] [] (fun t => aG 4 c7 (t)) ?_
  rcases oC H with ⟨c8, H⟩ | ⟨c8, H⟩
  ·refine it c8 ?_
   refine so [] [] [(8, cB false)] [] id ?_
   cases H
   exact er
  ·refine jf c8 ?_
   refine sk ?_
   refine seq_in ?_
   refine sn [] [] [(42, cB (!v1.2))] [] [] id ?_
   rcases oC H with ⟨c10, H⟩ | ⟨c10, H⟩
   ·refine it c10 ?_
    refine so [] [] [(8, cB true)] [] id ?_
    cases H
    exact er
   ·refine jf c10 ?_
    refine sk ?_
    obtain ⟨v11, h12, H⟩ := oB H
    refine sn [.res (.tup [(false, [.str v11.1]), (false, [.bool v11.2])])] [] [(13, .c (.str v11.1)), (14, cB v11.2)] [] [] (aI (i_ReportOf_ok p0 p1 p3 v11 h12)) ?_
    obtain ⟨v13, h14, H⟩ := oB H
    refine sn [.res (.tup [(false, [.str v13.1]), (false, [.bool v13.2])])] [] [(15, .c (.str v13.1)), (16, cB v13.2)] [5] [] (aI (i_ReportOf_ok p0 p2 p3 v13 h14)) ?_
    rcases oC H with ⟨c15, H⟩ | ⟨c15, H⟩
    ·rcases oC H with ⟨c16, H⟩ | ⟨c16, H⟩
     ·refine so (rg 8 true []) [] [(8, cB (v1.1 == (v11.1 == v13.1)))] [] (fun t => aG 2 c15 (aG 6 c16 (t))) ?_
      cases H
      exact er
     ·refine so (rg 2 true (rg 6 false [])) [] [(8, cB false)] [] (fun t => aG 2 c15 (aG 6 c16 (t))) ?_
      cases H
      exact er
    ·refine so (rg 8 false []) [] [(8, cB false)] [] (fun t => aG 2 c15 (aG 6 rF (t))) ?_
     cases H
     exact er
end Go.Proofs.YtjlabdoeiphegaaGreatDoor.X0
