/- What each function that FnExactReportText reaches computes; no condition. -/
import Derived.Test.YtockjpnbfllmaaaGreatDoorRtWa
set_option linter.unusedVariables false
set_option linter.unusedSimpArgs false
set_option maxRecDepth 100000
namespace Go.Proofs.YtockjpnbfllmaaaGreatDoor.X0
open Go Go.RowKit Go.Proofs.YtockjpnbfllmaaaGreatDoor.Ab Go.Proofs

def i_goodView_ir : S :=
 (sq [o 2 (.box 12 (.t 0)), o 3 (.box 6 (.t 1)), o 4 (.mv bF)]
 (.seq (sq [oa 9 0 3, ol 10 9, o 11 (.call 66 [.t 10]), o 12 (.not (.t 11)), om 13 12, og 14 (.fad 1 (.t 3)) 13, og 15 (.load 1 false (.t 14)) 13, og 16 (.fad 0 (.t 2)) 13, og 17 (.fad 6 (.t 16)) 13, og 18 (.load 1 false (.t 17)) 13, og 19 (.call 85 [.t 15, .v (.int .i64 0), .t 18]) 13, og 20 (.not (.t 19)) 13, o 21 (.pick (.t 13) bT (.t 20)), om 22 21, og 23 (.fad 2 (.t 3)) 22, og 24 (.load 1 false (.t 23)) 22, og 25 (.call 86 [.t 24]) 22, og 26 (.not (.t 25)) 22, o 27 (.pick (.t 22) bT (.t 26)), om 28 27, og 29 (.fad 3 (.t 3)) 28, og 30 (.load 1 false (.t 29)) 28, og 31 (.call 87 [.t 30]) 28, og 32 (.not (.t 31)) 28, o 33 (.pick (.t 28) bT (.t 32)), om 34 33, og 35 (.fad 4 (.t 3)) 34, og 36 (.load 1 false (.t 35)) 34, og 37 (.len (.t 36)) 34, og 38 (.bin .gtr (.t 37) (iv 12)) 34, o 39 (.pick (.t 34) bT (.t 38)), om 40 39, og 41 (.fad 5 (.t 3)) 40, og 42 (.load 1 false (.t 41)) 40, og 43 (.len (.t 42)) 40, og 44 (.bin .gtr (.t 43) (iv 12)) 40, o 45 (.pick (.t 40) bT (.t 44))]
 (.ite (.t 45) (sq [o 4 (.mv bF)]
  .ret)
 .skip))
 (.seq (sq [oa 46 3 3, ol 47 46, o 48 (.clo 88 [.t 2]), o 49 (.call 83 [.t 47, .t 48])]
 (.ite (.t 49) (sq [o 4 (.mv bF)]
  .ret)
 .skip))
 (.seq (sq [oa 50 4 3, ol 51 50, o 52 (.len (.t 51)), o 53 (.mv (iv 0))]
 (.blk 0 (.loop (sq [o 54 (.bin .lss (.t 53) (.t 52))]
   (.seq (.ite (.t 54) .skip
   (.exit 0))
   (.seq (.blk 1 (sq [o 55 (.iad 4 (.t 51) (.t 53)), o 56 (.load 4 true (.t 55)), o 6 (.alloc [.int .i64 0, .int .i64 0, .int .i64 0, .int .i64 0]), os 4 6 56]
    (sq [o 57 (.load 12 true (.t 2)), o 58 (.load 4 true (.t 6)), o 59 (.call 91 [.t 57, .t 58]), o 60 (.not (.t 59)), om 61 60, og 62 (.fad 0 (.t 6)) 61, og 63 (.load 1 false (.t 62)) 61, og 64 (.fad 0 (.t 3)) 61, og 65 (.load 1 false (.t 64)) 61, og 66 (.bin .neq (.t 63) (.t 65)) 61, o 67 (.pick (.t 61) bT (.t 66))]
    (.ite (.t 67) (sq [o 4 (.mv bF)]
     .ret)
    .skip))))
   (.ops [o 68 (.bin .add (.t 53) (iv 1)), om 53 68])))))))
 (.seq (sq [oa 69 5 3, ol 70 69, o 71 (.len (.t 70)), o 72 (.mv (iv 0))]
 (.blk 2 (.loop (sq [o 73 (.bin .lss (.t 72) (.t 71))]
   (.seq (.ite (.t 73) .skip
   (.exit 2))
   (.seq (.blk 3 (sq [o 74 (.iad 4 (.t 70) (.t 72)), o 75 (.load 4 true (.t 74)), o 8 (.alloc [.int .i64 0, .int .i64 0, .int .i64 0, .int .i64 0]), os 4 8 75]
    (sq [o 76 (.load 12 true (.t 2)), o 77 (.load 4 true (.t 8)), o 78 (.call 91 [.t 76, .t 77]), o 79 (.not (.t 78)), om 80 79, og 81 (.fad 0 (.t 8)) 80, og 82 (.load 1 false (.t 81)) 80, og 83 (.fad 0 (.t 3)) 80, og 84 (.load 1 false (.t 83)) 80, og 85 (.bin .eql (.t 82) (.t 84)) 80, o 86 (.pick (.t 80) bT (.t 85)), om 87 86, og 88 (.fad 3 (.t 3)) 87, og 89 (.load 1 false (.t 88)) 87, og 90 (.fad 2 (.t 8)) 87, og 91 (.load 1 false (.t 90)) 87, og 92 (.call 68 [.t 89, .t 91]) 87, og 93 (.not (.t 92)) 87, o 94 (.pick (.t 87) bT (.t 93))]
    (.ite (.t 94) (sq [o 4 (.mv bF)]
     .ret)
    .skip))))
   (.ops [o 95 (.bin .add (.t 72) (iv 1)), om 72 95])))))))
 (sq [oa 96 5 3, ol 97 96, o 98 (.call 92 [.t 97, .f 70]), om 4 98]
 .ret))))))
noncomputable def X.i_goodView (p0 : TBoard) (p1 : TView) : Option Bool :=
 ((X.i_isSide p1.Side).bind fun v15 => (bif (!v15) then some false else ((X.i_inRange p1.Turn 0 p0.Rules.Turns).bind fun v18 => (bif (!v18) then some false else ((X.i_isWeather p1.Weather).bind fun v21 => (bif (!v21) then some false else ((X.i_increasing p1.Seen).bind fun v24 => (bif (!v24) then some false else (bif (decide ((p1.Own.length : Int) > 12)) then some false else (bif (decide ((p1.Enemies.length : Int) > 12)) then some false else ((X.g_ContainsFunc_int p1.Seen (fun q0 => X.i_goodView_1 q0 p0)).bind fun v32 => (bif v32 then some false else ((loop (fun (x82 : Int) => ((bif (decide (x82 < (p1.Own.length : Int))) then ((at' zTUnit p1.Own x82).bind fun v85 => ((X.i_goodUnit p0 v85).bind fun v87 => (bif (!v87) then some (Sum.inr (Sum.inr false)) else (bif (v85.Side != p1.Side) then some (Sum.inr (Sum.inr false)) else some (Sum.inl (W (x82 + 1))))))) else some (Sum.inr (Sum.inl ()))) : Option (Int ⊕ (Unit ⊕ Bool)))) 0).bind fun y91 => (Sum.elim (fun (y93 : Unit) => ((loop (fun (x118 : Int) => ((bif (decide (x118 < (p1.Enemies.length : Int))) then ((at' zTUnit p1.Enemies x118).bind fun v121 => ((X.i_goodUnit p0 v121).bind fun v123 => (bif (!v123) then some (Sum.inr (Sum.inr false)) else (bif (v121.Side == p1.Side) then some (Sum.inr (Sum.inr false)) else ((X.g_Contains_int p1.Seen v121.At).bind fun v127 => (bif (!v127) then some (Sum.inr (Sum.inr false)) else some (Sum.inl (W (x118 + 1))))))))) else some (Sum.inr (Sum.inl ()))) : Option (Int ⊕ (Unit ⊕ Bool)))) 0).bind fun y130 => (Sum.elim (fun (y132 : Unit) => ((X.g_IsSortedFunc_Unit p1.Enemies (fun q0 q1 => X.i_compareUnits q0 q1)).bind fun v134 => some v134)) (fun (y133 : Bool) => some y133) y130))) (fun (y94 : Bool) => some y94) y91))))))))))))))
theorem i_goodView_ok (p0 : TBoard) (p1 : TView) (r : Bool) (H : X.i_goodView p0 p1 = some r) : FK 52 [.agg (eTBoard p0), .agg (eTView p1)] (cB r) := by
 unfold X.i_goodView at H
 refine fi Tryz.f52 i_goodView_ir [(4, cB r)] [] glL Tryz.func52 ?_
 refine so [] [] [(2, pk 2), (3, pk 3)] [(2, va (eTBoard p0)), (3, va (eTView p1))] id ?_
 refine seq_in ?_
 obtain ⟨v15, h16, H⟩ := oB H
 rcases oC H with ⟨c17, H⟩ | ⟨c17, H⟩
 ·refine sn ([.res (cB v15)] ++ rg 28 true []) [] [(45, cB true)] [] [] (fun t => aI (i_isSide_ok p1.Side v15 h16) (aG 8 c17 (aG 20 rT (t)))) ?_
  refine it rT ?_
  refine so [] [] [(4, cB false)] [] id ?_
  cases H
  exact er
 ·obtain ⟨v18, h19, H⟩ := oB H
  rcases oC H with ⟨c20, H⟩ | ⟨c20, H⟩
  ·refine sn ([.res (cB v15)] ++ rg 6 false ([.res (cB v18)] ++ rg 2 false (rg 20 true []))) [] [(45, cB true)] [] [] (fun t => aI (i_isSide_ok p1.Side v15 h16) (aG 6 c17 (aI (i_inRange_ok p1.Turn 0 p0.Rules.Turns v18 h19) (aG 2 c17 (aG 5 c20 (aG 15 rT (t))))))) ?_
   refine it rT ?_
   refine so [] [] [(4, cB false)] [] id ?_
   cases H
   exact er
  ·obtain ⟨v21, h22, H⟩ := oB H
   rcases oC H with ⟨c23, H⟩ | ⟨c23, H⟩
   ·refine sn ([.res (cB v15)] ++ rg 6 false ([.res (cB v18)] ++ rg 5 false ([.res (cB v21)] ++ rg 2 false (rg 15 true [])))) [] [(45, cB true)] [] [] (fun t => aI (i_isSide_ok p1.Side v15 h16) (aG 6 c17 (aI (i_inRange_ok p1.Turn 0 p0.Rules.Turns v18 h19) (aG 2 c17 (aG 3 c20 (aI (i_isWeather_ok p1.Weather v21 h22) (aG 2 c20 (aG 5 c23 (aG 10 rT (t)))))))))) ?_
    refine it rT ?_
    refine so [] [] [(4, cB false)] [] id ?_
    cases H
    exact er
   ·obtain ⟨v24, h25, H⟩ := oB H
    rcases oC H with ⟨c26, H⟩ | ⟨c26, H⟩
    ·refine sn ([.res (cB v15)] ++ rg 6 false ([.res (cB v18)] ++ rg 5 false ([.res (cB v21)] ++ rg 5 false ([.res (cB v24)] ++ rg 2 false (rg 10 true []))))) [] [(45, cB true)] [] [] (fun t => aI (i_isSide_ok p1.Side v15 h16) (aG 6 c17 (aI (i_inRange_ok p1.Turn 0 p0.Rules.Turns v18 h19) (aG 2 c17 (aG 3 c20 (aI (i_isWeather_ok p1.Weather v21 h22) (aG 2 c20 (aG 3 c23 (aI (i_increasing_ok p1.Seen v24 h25) (aG 2 c23 (aG 5 c26 (aG 5 rT (t))))))))))))) ?_
     refine it rT ?_
     refine so [] [] [(4, cB false)] [] id ?_
     cases H
     exact er
    ·rcases oC H with ⟨c27, H⟩ | ⟨c27, H⟩
     ·refine sn ([.res (cB v15)] ++ rg 6 false ([.res (cB v18)] ++ rg 5 false ([.res (cB v21)] ++ rg 5 false ([.res (cB v24)] ++ rg 7 false (rg 5 true []))))) [] [(45, cB true)] [] [] (fun t => aI (i_isSide_ok p1.Side v15 h16) (aG 6 c17 (aI (i_inRange_ok p1.Turn 0 p0.Rules.Turns v18 h19) (aG 2 c17 (aG 3 c20 (aI (i_isWeather_ok p1.Weather v21 h22) (aG 2 c20 (aG 3 c23 (aI (i_increasing_ok p1.Seen v24 h25) (aG 2 c23 (aG 3 c26 (lI p1.Own (aG 2 c26 (aG 5 c27 (t))))))))))))))) ?_
      refine it rT ?_
      refine so [] [] [(4, cB false)] [] id ?_
      cases H
      exact er
     ·refine sn ([.res (cB v15)] ++ rg 6 false ([.res (cB v18)] ++ rg 5 false ([.res (cB v21)] ++ rg 5 false ([.res (cB v24)] ++ rg 12 false [])))) [] [(45, cB (decide ((p1.Enemies.length : Int) > 12)))] [] [] (fun t => aI (i_isSide_ok p1.Side v15 h16) (aG 6 c17 (aI (i_inRange_ok p1.Turn 0 p0.Rules.Turns v18 h19) (aG 2 c17 (aG 3 c20 (aI (i_isWeather_ok p1.Weather v21 h22) (aG 2 c20 (aG 3 c23 (aI (i_increasing_ok p1.Seen v24 h25) (aG 2 c23 (aG 3 c26 (lI p1.Own (aG 2 c26 (aG 3 c27 (lI p1.Enemies (aG 2 c27 (t))))))))))))))))) ?_
      rcases oC H with ⟨c28, H⟩ | ⟨c28, H⟩
      ·refine it c28 ?_
       refine so [] [] [(4, cB false)] [] id ?_
       cases H
       exact er
      ·refine jf c28 ?_
       refine sk ?_
       refine seq_in ?_
       obtain ⟨v32, h33, H⟩ := oB H
       refine sn [.res (cB v32)] [] [(49, cB v32)] [] [] (aI (g_ContainsFunc_int_c1_ok p1.Seen (88) (eTBoard p0) (fun q0 => X.i_goodView_1 q0 p0) (fun q0 r h => i_goodView_1_ok q0 p0 r h) v32 h33)) ?_
       rcases oC H with ⟨c34, H⟩ | ⟨c34, H⟩
       ·refine it c34 ?_
        refine so [] [] [(4, cB false)] [] id ?_
        cases H
        exact er
       ·refine jf c34 ?_
        refine sk ?_
        refine seq_in ?_
        refine sn [] [] [(51, dc 4 eTUnit zTUnit p1.Own), (52, cL p1.Own), (53, cI 0)] [] [] (fun t => lI p1.Own (t)) ?_
        refine ends_blk ?_
        obtain ⟨y91, h92, H⟩ := oB H
        refine tl [] [(2, pk 2), (3, pk 3), (51, dc 4 eTUnit zTUnit p1.Own), (52, cL p1.Own), (53, cI 0)] [(2, va (eTBoard p0)), (3, va (eTView p1))] id ?_
        refine loop_in (fun (x : Int) => lit [(2, pk 2), (3, pk 3), (51, dc 4 eTUnit zTUnit p1.Own), (52, cL p1.Own), (53, cI x)] [(2, va (eTBoard p0)), (3, va (eTView p1))]) (orJ (fun (z : Unit) => At (.exit 0) (lit [(2, pk 2), (3, pk 3)] [(2, va (eTBoard p0)), (3, va (eTView p1))])) (fun (z : Bool) => At .ret (lit [(4, cB z)] []))) h92 ?_ ?_
        ·clear H h92
         intro x82 y0 H
         refine sn [] [] [(54, cB (decide (x82 < (p1.Own.length : Int))))] [] [] id ?_
         refine seq_in ?_
         rcases oC H with ⟨c84, H⟩ | ⟨c84, H⟩
         ·refine it c84 ?_
          refine sk ?_
          refine seq_in ?_
          refine ends_blk ?_
          obtain ⟨v85, h86, H⟩ := oB H
          refine sn [.cs (eTUnit v85)] [] [(6, pk 6)] [] [(6, va (eTUnit v85))] (a2 eTUnit h86) ?_
          obtain ⟨v87, h88, H⟩ := oB H
          rcases oC H with ⟨c89, H⟩ | ⟨c89, H⟩
          ·refine sn ([.res (cB v87)] ++ rg 6 true []) [] [(67, cB true)] [] [] (fun t => aI (i_goodUnit_ok p0 v85 v87 h88) (aG 6 c89 (t))) ?_
           refine it rT ?_
           refine so [] [] [(4, cB false)] [] id ?_
           refine ends_ret ?_
           cases H
           exact rsr
          ·refine sn ([.res (cB v87)] ++ rg 6 false []) [] [(67, cB (v85.Side != p1.Side))] [] [] (fun t => aI (i_goodUnit_ok p0 v85 v87 h88) (aG 6 c89 (t))) ?_
           rcases oC H with ⟨c90, H⟩ | ⟨c90, H⟩
           ·refine it c90 ?_
            refine so [] [] [(4, cB false)] [] id ?_
            refine ends_ret ?_
            cases H
            exact rsr
           ·refine jf c90 ?_
            refine sk ?_
            refine oo [] [] [(2, pk 2), (3, pk 3), (51, dc 4 eTUnit zTUnit p1.Own), (52, cL p1.Own), (53, cI (W (x82 + 1)))] [(2, va (eTBoard p0)), (3, va (eTView p1))] id ?_
            cases H
            exact rr
         ·refine jf c84 ?_
          refine tl [] [(2, pk 2), (3, pk 3)] [(2, va (eTBoard p0)), (3, va (eTView p1))] id ?_
          refine ends_exit ?_
          cases H
          exact rse
        ·clear h92
         cases y91 with
         | inl y93 =>
          replace H := ofInl H
          rintro e s ⟨rfl, rfl⟩
          change EndsI _ _ _ _ _ _
          refine seq_in ?_
          refine sn [] [] [(70, dc 4 eTUnit zTUnit p1.Enemies), (71, cL p1.Enemies), (72, cI 0)] [] [] (fun t => lI p1.Enemies (t)) ?_
          refine ends_blk ?_
          obtain ⟨y130, h131, H⟩ := oB H
          refine tl [] [(2, pk 2), (3, pk 3), (70, dc 4 eTUnit zTUnit p1.Enemies), (71, cL p1.Enemies), (72, cI 0)] [(2, va (eTBoard p0)), (3, va (eTView p1))] id ?_
          refine loop_in (fun (x : Int) => lit [(2, pk 2), (3, pk 3), (70, dc 4 eTUnit zTUnit p1.Enemies), (71, cL p1.Enemies), (72, cI x)] [(2, va (eTBoard p0)), (3, va (eTView p1))]) (orJ (fun (z : Unit) => At (.exit 2) (lit [(3, pk 3)] [(3, va (eTView p1))])) (fun (z : Bool) => At .ret (lit [(4, cB z)] []))) h131 ?_ ?_
          ·clear H h131
           intro x118 y0 H
           refine sn [] [] [(73, cB (decide (x118 < (p1.Enemies.length : Int))))] [] [] id ?_
           refine seq_in ?_
           rcases oC H with ⟨c120, H⟩ | ⟨c120, H⟩
           ·refine it c120 ?_
            refine sk ?_
            refine seq_in ?_
            refine ends_blk ?_
            obtain ⟨v121, h122, H⟩ := oB H
            refine sn [.cs (eTUnit v121)] [] [(8, pk 8)] [] [(8, va (eTUnit v121))] (a2 eTUnit h122) ?_
            obtain ⟨v123, h124, H⟩ := oB H
            rcases oC H with ⟨c125, H⟩ | ⟨c125, H⟩
            ·refine sn ([.res (cB v123)] ++ rg 13 true []) [] [(94, cB true)] [] [] (fun t => aI (i_goodUnit_ok p0 v121 v123 h124) (aG 6 c125 (aG 7 rT (t)))) ?_
             refine it rT ?_
             refine so [] [] [(4, cB false)] [] id ?_
             refine ends_ret ?_
             cases H
             exact rsr
            ·rcases oC H with ⟨c126, H⟩ | ⟨c126, H⟩
             ·refine sn ([.res (cB v123)] ++ rg 6 false (rg 7 true [])) [] [(94, cB true)] [] [] (fun t => aI (i_goodUnit_ok p0 v121 v123 h124) (aG 6 c125 (aG 7 c126 (t)))) ?_
              refine it rT ?_
              refine so [] [] [(4, cB false)] [] id ?_
              refine ends_ret ?_
              cases H
              exact rsr
             ·obtain ⟨v127, h128, H⟩ := oB H
              refine sn ([.res (cB v123)] ++ rg 11 false ([.res (cB v127)] ++ rg 2 false [])) [] [(94, cB (!v127))] [] [] (fun t => aI (i_goodUnit_ok p0 v121 v123 h124) (aG 6 c125 (aG 5 c126 (aI (g_Contains_int_ok p1.Seen v121.At v127 h128) (aG 2 c126 (t)))))) ?_
              rcases oC H with ⟨c129, H⟩ | ⟨c129, H⟩
              ·refine it c129 ?_
               refine so [] [] [(4, cB false)] [] id ?_
               refine ends_ret ?_
               cases H
               exact rsr
              ·refine jf c129 ?_
               refine sk ?_
               refine oo [] [] [(2, pk 2), (3, pk 3), (70, dc 4 eTUnit zTUnit p1.Enemies), (71, cL p1.Enemies), (72, cI (W (x118 + 1)))] [(2, va (eTBoard p0)), (3, va (eTView p1))] id ?_
               cases H
               exact rr
           ·refine jf c120 ?_
            refine tl [] [(3, pk 3)] [(3, va (eTView p1))] id ?_
            refine ends_exit ?_
            cases H
            exact rse
          ·clear h131
           cases y130 with
           | inl y132 =>
            replace H := ofInl H
            rintro e s ⟨rfl, rfl⟩
            change EndsI _ _ _ _ _ _
            obtain ⟨v134, h135, H⟩ := oB H
            refine so [.res (cB v134)] [] [(4, cB v134)] [] (aI (g_IsSortedFunc_Unit_c0_ok p1.Enemies (70) (fun q0 q1 => X.i_compareUnits q0 q1) (fun q0 q1 r h => i_compareUnits_ok q0 q1 r h) v134 h135)) ?_
            cases H
            exact er
           | inr y133 =>
            replace H := ofInr H
            rintro e s ⟨rfl, rfl⟩
            cases H
            exact qr
         | inr y94 =>
          replace H := ofInr H
          rintro e s ⟨rfl, rfl⟩
          cases H
          exact qr
def i_hasView_ir : S :=
 (sq [o 2 (.box 12 (.t 0)), o 3 (.box 6 (.t 1)), o 4 (.mv bF)]
 (sq [o 5 (.load 12 true (.t 2)), o 6 (.call 51 [.t 5]), om 7 6, oh 8 (.load 12 true (.t 2)) 7, oh 9 (.load 6 true (.t 3)) 7, oh 10 (.call 52 [.t 8, .t 9]) 7, o 11 (.pick (.t 7) (.t 10) bF), om 4 11]
 .ret))
noncomputable def X.i_hasView (p0 : TBoard) (p1 : TView) : Option Bool :=
 ((X.i_IsBoard p0).bind fun v1 => (bif v1 then ((X.i_goodView p0 p1).bind fun v4 => some v4) else some false))
theorem i_hasView_ok (p0 : TBoard) (p1 : TView) (r : Bool) (H : X.i_hasView p0 p1 = some r) : FK 31 [.agg (eTBoard p0), .agg (eTView p1)] (cB r) := by
 unfold X.i_hasView at H
 refine fi Tryz.f31 i_hasView_ir [(4, cB r)] [] glL Tryz.func31 ?_
 refine so [] [] [(2, pk 2), (3, pk 3)] [(2, va (eTBoard p0)), (3, va (eTView p1))] id ?_
 obtain ⟨v1, h2, H⟩ := oB H
 rcases oC H with ⟨c3, H⟩ | ⟨c3, H⟩
 ·obtain ⟨v4, h5, H⟩ := oB H
  refine so ([.res (cB v1)] ++ rg 3 true [.res (cB v4), .g true]) [] [(4, cB v4)] [] (fun t => aI (i_IsBoard_ok p0 v1 h2) (aG 3 c3 (aI (i_goodView_ok p0 p1 v4 h5) (aI c3 (t))))) ?_
  cases H
  exact er
 ·refine so ([.res (cB v1)] ++ rg 4 false []) [] [(4, cB false)] [] (fun t => aI (i_IsBoard_ok p0 v1 h2) (aG 4 c3 (t))) ?_
  cases H
  exact er
def x_internal_strconv_small_ir : S :=
 (sq [o 2 (.mv (.v (.str [])))]
 (.seq (sq [om 3 0, o 4 (.bin .lss (.t 3) (iv 10))]
 (.ite (.t 4) (sq [om 5 0, om 6 0, o 7 (.bin .add (.t 6) (iv 1)), o 8 (.sls (.v (.str [48, 49, 50, 51, 52, 53, 54, 55, 56, 57, 97, 98, 99, 100, 101, 102, 103, 104, 105, 106, 107, 108, 109, 110, 111, 112, 113, 114, 115, 116, 117, 118, 119, 120, 121, 122])) (some (.t 5)) (some (.t 7))), om 2 8]
  .ret)
 .skip))
 (sq [om 9 0, o 10 (.bin .mul (.t 9) (iv 2)), om 11 0, o 12 (.bin .mul (.t 11) (iv 2)), o 13 (.bin .add (.t 12) (iv 2)), o 14 (.sls (.v (.str [48, 48, 48, 49, 48, 50, 48, 51, 48, 52, 48, 53, 48, 54, 48, 55, 48, 56, 48, 57, 49, 48, 49, 49, 49, 50, 49, 51, 49, 52, 49, 53, 49, 54, 49, 55, 49, 56, 49, 57, 50, 48, 50, 49, 50, 50, 50, 51, 50, 52, 50, 53, 50, 54, 50, 55, 50, 56, 50, 57, 51, 48, 51, 49, 51, 50, 51, 51, 51, 52, 51, 53, 51, 54, 51, 55, 51, 56, 51, 57, 52, 48, 52, 49, 52, 50, 52, 51, 52, 52, 52, 53, 52, 54, 52, 55, 52, 56, 52, 57, 53, 48, 53, 49, 53, 50, 53, 51, 53, 52, 53, 53, 53, 54, 53, 55, 53, 56, 53, 57, 54, 48, 54, 49, 54, 50, 54, 51, 54, 52, 54, 53, 54, 54, 54, 55, 54, 56, 54, 57, 55, 48, 55, 49, 55, 50, 55, 51, 55, 52, 55, 53, 55, 54, 55, 55, 55, 56, 55, 57, 56, 48, 56, 49, 56, 50, 56, 51, 56, 52, 56, 53, 56, 54, 56, 55, 56, 56, 56, 57, 57, 48, 57, 49, 57, 50, 57, 51, 57, 52, 57, 53, 57, 54, 57, 55, 57, 56, 57, 57])) (some (.t 10)) (some (.t 13))), om 2 14]
 .ret)))
noncomputable def X.x_internal_strconv_small (p0 : Int) : Option (List UInt8) :=
 (bif (decide (p0 < 10)) then (if 0 ≤ p0 ∧ p0 ≤ (W (p0 + 1)) ∧ (W (p0 + 1)) ≤ (([48, 49, 50, 51, 52, 53, 54, 55, 56, 57, 97, 98, 99, 100, 101, 102, 103, 104, 105, 106, 107, 108, 109, 110, 111, 112, 113, 114, 115, 116, 117, 118, 119, 120, 121, 122] : List UInt8).length : Int) then some ((([48, 49, 50, 51, 52, 53, 54, 55, 56, 57, 97, 98, 99, 100, 101, 102, 103, 104, 105, 106, 107, 108, 109, 110, 111, 112, 113, 114, 115, 116, 117, 118, 119, 120, 121, 122] : List UInt8).drop p0.toNat).take ((W (p0 + 1)).toNat - p0.toNat)) else none) else (if 0 ≤ (W (p0 * 2)) ∧ (W (p0 * 2)) ≤ (W ((W (p0 * 2)) + 2)) ∧ (W ((W (p0 * 2)) + 2)) ≤ (([48, 48, 48, 49, 48, 50, 48, 51, 48, 52, 48, 53, 48, 54, 48, 55, 48, 56, 48, 57, 49, 48, 49, 49, 49, 50, 49, 51, 49, 52, 49, 53, 49, 54, 49, 55, 49, 56, 49, 57, 50, 48, 50, 49, 50, 50, 50, 51, 50, 52, 50, 53, 50, 54, 50, 55, 50, 56, 50, 57, 51, 48, 51, 49, 51, 50, 51, 51, 51, 52, 51, 53, 51, 54, 51, 55, 51, 56, 51, 57, 52, 48, 52, 49, 52, 50, 52, 51, 52, 52, 52, 53, 52, 54, 52, 55, 52, 56, 52, 57, 53, 48, 53, 49, 53, 50, 53, 51, 53, 52, 53, 53, 53, 54, 53, 55, 53, 56, 53, 57, 54, 48, 54, 49, 54, 50, 54, 51, 54, 52, 54, 53, 54, 54, 54, 55, 54, 56, 54, 57, 55, 48, 55, 49, 55, 50, 55, 51, 55, 52, 55, 53, 55, 54, 55, 55, 55, 56, 55, 57, 56, 48, 56, 49, 56, 50, 56, 51, 56, 52, 56, 53, 56, 54, 56, 55, 56, 56, 56, 57, 57, 48, 57, 49, 57, 50, 57, 51, 57, 52, 57, 53, 57, 54, 57, 55, 57, 56, 57, 57] : List UInt8).length : Int) then some ((([48, 48, 48, 49, 48, 50, 48, 51, 48, 52, 48, 53, 48, 54, 48, 55, 48, 56, 48, 57, 49, 48, 49, 49, 49, 50, 49, 51, 49, 52, 49, 53, 49, 54, 49, 55, 49, 56, 49, 57, 50, 48, 50, 49, 50, 50, 50, 51, 50, 52, 50, 53, 50, 54, 50, 55, 50, 56, 50, 57, 51, 48, 51, 49, 51, 50, 51, 51, 51, 52, 51, 53, 51, 54, 51, 55, 51, 56, 51, 57, 52, 48, 52, 49, 52, 50, 52, 51, 52, 52, 52, 53, 52, 54, 52, 55, 52, 56, 52, 57, 53, 48, 53, 49, 53, 50, 53, 51, 53, 52, 53, 53, 53, 54, 53, 55, 53, 56, 53, 57, 54, 48, 54, 49, 54, 50, 54, 51, 54, 52, 54, 53, 54, 54, 54, 55, 54, 56, 54, 57, 55, 48, 55, 49, 55, 50, 55, 51, 55, 52, 55, 53, 55, 54, 55, 55, 55, 56, 55, 57, 56, 48, 56, 49, 56, 50, 56, 51, 56, 52, 56, 53, 56, 54, 56, 55, 56, 56, 56, 57, 57, 48, 57, 49, 57, 50, 57, 51, 57, 52, 57, 53, 57, 54, 57, 55, 57, 56, 57, 57] : List UInt8).drop (W (p0 * 2)).toNat).take ((W ((W (p0 * 2)) + 2)).toNat - (W (p0 * 2)).toNat)) else none))
theorem x_internal_strconv_small_ok (p0 : Int) (r : (List UInt8)) (H : X.x_internal_strconv_small p0 = some r) : FK 149 [cI p0] (.c (.str r)) := by
 unfold X.x_internal_strconv_small at H
 refine fi Tryz.f149 x_internal_strconv_small_ir [(2, .c (.str r))] [] glL Tryz.func149 ?_
 refine sn [] [] [] [] [] id ?_
 refine seq_in ?_
 refine sn [] [] [(4, cB (decide (p0 < 10)))] [] [] id ?_
 rcases oC H with ⟨c3, H⟩ | ⟨c3, H⟩
 ·refine it c3 ?_
  obtain ⟨g4, H⟩ := oI H
  refine so [.str ((([48, 49, 50, 51, 52, 53, 54, 55, 56, 57, 97, 98, 99, 100, 101, 102, 103, 104, 105, 106, 107, 108, 109, 110, 111, 112, 113, 114, 115, 116, 117, 118, 119, 120, 121, 122] : List UInt8).drop p0.toNat).take ((W (p0 + 1)).toNat - p0.toNat))] [] [(2, .c (.str ((([48, 49, 50, 51, 52, 53, 54, 55, 56, 57, 97, 98, 99, 100, 101, 102, 103, 104, 105, 106, 107, 108, 109, 110, 111, 112, 113, 114, 115, 116, 117, 118, 119, 120, 121, 122] : List UInt8).drop p0.toNat).take ((W (p0 + 1)).toNat - p0.toNat))))] [] (fun t => aI g4 (aI (rfl : ((([48, 49, 50, 51, 52, 53, 54, 55, 56, 57, 97, 98, 99, 100, 101, 102, 103, 104, 105, 106, 107, 108, 109, 110, 111, 112, 113, 114, 115, 116, 117, 118, 119, 120, 121, 122] : List UInt8).drop p0.toNat).take ((W (p0 + 1)).toNat - p0.toNat)) = ((([48, 49, 50, 51, 52, 53, 54, 55, 56, 57, 97, 98, 99, 100, 101, 102, 103, 104, 105, 106, 107, 108, 109, 110, 111, 112, 113, 114, 115, 116, 117, 118, 119, 120, 121, 122] : List UInt8).drop p0.toNat).take ((W (p0 + 1)).toNat - p0.toNat))) (t))) ?_
  cases H
  exact er
 ·refine jf c3 ?_
  refine sk ?_
  obtain ⟨g5, H⟩ := oI H
  refine so [.str ((([48, 48, 48, 49, 48, 50, 48, 51, 48, 52, 48, 53, 48, 54, 48, 55, 48, 56, 48, 57, 49, 48, 49, 49, 49, 50, 49, 51, 49, 52, 49, 53, 49, 54, 49, 55, 49, 56, 49, 57, 50, 48, 50, 49, 50, 50, 50, 51, 50, 52, 50, 53, 50, 54, 50, 55, 50, 56, 50, 57, 51, 48, 51, 49, 51, 50, 51, 51, 51, 52, 51, 53, 51, 54, 51, 55, 51, 56, 51, 57, 52, 48, 52, 49, 52, 50, 52, 51, 52, 52, 52, 53, 52, 54, 52, 55, 52, 56, 52, 57, 53, 48, 53, 49, 53, 50, 53, 51, 53, 52, 53, 53, 53, 54, 53, 55, 53, 56, 53, 57, 54, 48, 54, 49, 54, 50, 54, 51, 54, 52, 54, 53, 54, 54, 54, 55, 54, 56, 54, 57, 55, 48, 55, 49, 55, 50, 55, 51, 55, 52, 55, 53, 55, 54, 55, 55, 55, 56, 55, 57, 56, 48, 56, 49, 56, 50, 56, 51, 56, 52, 56, 53, 56, 54, 56, 55, 56, 56, 56, 57, 57, 48, 57, 49, 57, 50, 57, 51, 57, 52, 57, 53, 57, 54, 57, 55, 57, 56, 57, 57] : List UInt8).drop (W (p0 * 2)).toNat).take ((W ((W (p0 * 2)) + 2)).toNat - (W (p0 * 2)).toNat))] [] [(2, .c (.str ((([48, 48, 48, 49, 48, 50, 48, 51, 48, 52, 48, 53, 48, 54, 48, 55, 48, 56, 48, 57, 49, 48, 49, 49, 49, 50, 49, 51, 49, 52, 49, 53, 49, 54, 49, 55, 49, 56, 49, 57, 50, 48, 50, 49, 50, 50, 50, 51, 50, 52, 50, 53, 50, 54, 50, 55, 50, 56, 50, 57, 51, 48, 51, 49, 51, 50, 51, 51, 51, 52, 51, 53, 51, 54, 51, 55, 51, 56, 51, 57, 52, 48, 52, 49, 52, 50, 52, 51, 52, 52, 52, 53, 52, 54, 52, 55, 52, 56, 52, 57, 53, 48, 53, 49, 53, 50, 53, 51, 53, 52, 53, 53, 53, 54, 53, 55, 53, 56, 53, 57, 54, 48, 54, 49, 54, 50, 54, 51, 54, 52, 54, 53, 54, 54, 54, 55, 54, 56, 54, 57, 55, 48, 55, 49, 55, 50, 55, 51, 55, 52, 55, 53, 55, 54, 55, 55, 55, 56, 55, 57, 56, 48, 56, 49, 56, 50, 56, 51, 56, 52, 56, 53, 56, 54, 56, 55, 56, 56, 56, 57, 57, 48, 57, 49, 57, 50, 57, 51, 57, 52, 57, 53, 57, 54, 57, 55, 57, 56, 57, 57] : List UInt8).drop (W (p0 * 2)).toNat).take ((W ((W (p0 * 2)) + 2)).toNat - (W (p0 * 2)).toNat))))] [] (fun t => aI g5 (aI (rfl : ((([48, 48, 48, 49, 48, 50, 48, 51, 48, 52, 48, 53, 48, 54, 48, 55, 48, 56, 48, 57, 49, 48, 49, 49, 49, 50, 49, 51, 49, 52, 49, 53, 49, 54, 49, 55, 49, 56, 49, 57, 50, 48, 50, 49, 50, 50, 50, 51, 50, 52, 50, 53, 50, 54, 50, 55, 50, 56, 50, 57, 51, 48, 51, 49, 51, 50, 51, 51, 51, 52, 51, 53, 51, 54, 51, 55, 51, 56, 51, 57, 52, 48, 52, 49, 52, 50, 52, 51, 52, 52, 52, 53, 52, 54, 52, 55, 52, 56, 52, 57, 53, 48, 53, 49, 53, 50, 53, 51, 53, 52, 53, 53, 53, 54, 53, 55, 53, 56, 53, 57, 54, 48, 54, 49, 54, 50, 54, 51, 54, 52, 54, 53, 54, 54, 54, 55, 54, 56, 54, 57, 55, 48, 55, 49, 55, 50, 55, 51, 55, 52, 55, 53, 55, 54, 55, 55, 55, 56, 55, 57, 56, 48, 56, 49, 56, 50, 56, 51, 56, 52, 56, 53, 56, 54, 56, 55, 56, 56, 56, 57, 57, 48, 57, 49, 57, 50, 57, 51, 57, 52, 57, 53, 57, 54, 57, 55, 57, 56, 57, 57] : List UInt8).drop (W (p0 * 2)).toNat).take ((W ((W (p0 * 2)) + 2)).toNat - (W (p0 * 2)).toNat)) = ((([48, 48, 48, 49, 48, 50, 48, 51, 48, 52, 48, 53, 48, 54, 48, 55, 48, 56, 48, 57, 49, 48, 49, 49, 49, 50, 49, 51, 49, 52, 49, 53, 49, 54, 49, 55, 49, 56, 49, 57, 50, 48, 50, 49, 50, 50, 50, 51, 50, 52, 50, 53, 50, 54, 50, 55, 50, 56, 50, 57, 51, 48, 51, 49, 51, 50, 51, 51, 51, 52, 51, 53, 51, 54, 51, 55, 51, 56, 51, 57, 52, 48, 52, 49, 52, 50, 52, 51, 52, 52, 52, 53, 52, 54, 52, 55, 52, 56, 52, 57, 53, 48, 53, 49, 53, 50, 53, 51, 53, 52, 53, 53, 53, 54, 53, 55, 53, 56, 53, 57, 54, 48, 54, 49, 54, 50, 54, 51, 54, 52, 54, 53, 54, 54, 54, 55, 54, 56, 54, 57, 55, 48, 55, 49, 55, 50, 55, 51, 55, 52, 55, 53, 55, 54, 55, 55, 55, 56, 55, 57, 56, 48, 56, 49, 56, 50, 56, 51, 56, 52, 56, 53, 56, 54, 56, 55, 56, 56, 56, 57, 57, 48, 57, 49, 57, 50, 57, 51, 57, 52, 57, 53, 57, 54, 57, 55, 57, 56, 57, 57] : List UInt8).drop (W (p0 * 2)).toNat).take ((W ((W (p0 * 2)) + 2)).toNat - (W (p0 * 2)).toNat))) (t))) ?_
  cases H
  exact er
def x_internal_strconv_FormatInt_ir : S :=
 (sq [o 4 (.mv (.v (.str [])))]
 (.seq (sq [om 10 1, o 11 (.bin .eql (.t 10) (iv 10))]
 (.ite (.t 11) (.seq (sq [om 12 0, o 13 (.bin .leq (iv 0) (.t 12)), om 14 13, oh 15 (.mv (.t 0)) 14, oh 16 (.bin .lss (.t 15) (iv 100)) 14, o 17 (.pick (.t 14) (.t 16) bF)]
  (.ite (.t 17) (sq [om 18 0, o 19 (.call 149 [.t 18]), om 4 19]
   .ret)
  .skip))
  (sq [o 5 (.alloc [.int .u8 0, .int .u8 0, .int .u8 0, .int .u8 0, .int .u8 0, .int .u8 0, .int .u8 0, .int .u8 0, .int .u8 0, .int .u8 0, .int .u8 0, .int .u8 0, .int .u8 0, .int .u8 0, .int .u8 0, .int .u8 0, .int .u8 0, .int .u8 0, .int .u8 0, .int .u8 0, .int .u8 0, .int .u8 0, .int .u8 0, .int .u8 0])]
  (sq [om 20 0, o 21 (.conv .u64 (.t 20)), om 6 21]
  (.seq (sq [om 22 0, o 23 (.bin .lss (.t 22) (iv 0))]
  (.ite (.t 23) (.ops [om 24 6, o 25 (.neg (.t 24)), om 6 25])
  .skip))
  (sq [om 26 6, o 27 (.call 150 [.t 26]), om 7 27]
  (.seq .bad
  (.seq (sq [om 33 0, o 34 (.bin .lss (.t 33) (iv 0))]
  (.ite (.t 34) (sq [o 35 (.iar 24 1 (.t 5) (iv 0)), ⟨none, .store 1 (.t 35) (.v (.int .u8 45)), none⟩]
   (.seq .bad
   .ret))
  .skip))
  (.seq .bad
  .ret))))))))
 .skip))
 (sq [om 45 0, o 46 (.conv .u64 (.t 45)), om 47 1, om 48 0, o 49 (.bin .lss (.t 48) (iv 0)), o 50 (.call 152 [.v (.nil), .t 46, .t 47, .t 49, .v (.bool false)]), om 44 50, o 51 (.ext (.t 44) 0), o 52 (.ext (.t 44) 1), om 8 51, om 9 52]
 (sq [om 53 9, om 4 53]
 .ret))))
noncomputable def X.x_internal_strconv_FormatInt (p0 : Int) (p1 : Int) : Option (List UInt8) :=
 (bif (p1 == 10) then (((bif (decide (0 ≤ p0)) then (bif (decide (p0 < 100)) then ((X.x_internal_strconv_small p0).bind fun v23 => some (Sum.inr v23)) else some (Sum.inl ())) else some (Sum.inl ())) : Option (Unit ⊕ (List UInt8))).bind fun y25 => (Sum.elim (fun (y27 : Unit) => (bif (decide (p0 < 0)) then none else none)) (fun (y28 : (List UInt8)) => some y28) y25)) else none)
theorem x_internal_strconv_FormatInt_ok (p0 : Int) (p1 : Int) (r : (List UInt8)) (H : X.x_internal_strconv_FormatInt p0 p1 = some r) : FK 123 [cI p0, cI p1] (.c (.str r)) := by
 unfold X.x_internal_strconv_FormatInt at H
 refine fi Tryz.f123 x_internal_strconv_FormatInt_ir [(4, .c (.str r))] [] glL Tryz.func123 ?_
 refine sn [] [] [] [] [] id ?_
 refine seq_in ?_
 refine sn [] [] [(11, cB (p1 == 10))] [] [] id ?_
 rcases oC H with ⟨c16, H⟩ | ⟨c16, H⟩
 ·refine it c16 ?_
  obtain ⟨y25, h26, H⟩ := oB H
  refine seq_in (cut_in (orJ (fun (z : Unit) => At .normal (lit [(0, cI p0)] [])) (fun (z : (List UInt8)) => At .ret (lit [(4, .c (.str z))] []))) y25 ?_ ?_)
  ·clear H
   revert h26
   generalize y25 = y0
   intro H
   rcases oC H with ⟨c21, H⟩ | ⟨c21, H⟩
   ·refine sn (rg 3 true []) [] [(17, cB (decide (p0 < 100)))] [] [] (fun t => aG 3 c21 (t)) ?_
    rcases oC H with ⟨c22, H⟩ | ⟨c22, H⟩
    ·refine it c22 ?_
     obtain ⟨v23, h24, H⟩ := oB H
     refine so [.res (.c (.str v23))] [] [(4, .c (.str v23))] [] (aI (x_internal_strconv_small_ok p0 v23 h24)) ?_
     refine ends_ret ?_
     cases H
     exact rr
    ·refine jf c22 ?_
     refine tl [] [(0, cI p0)] [] id ?_
     refine ends_skip ?_
     cases H
     exact rr
   ·refine sn (rg 3 false []) [] [(17, cB false)] [] [] (fun t => aG 3 c21 (t)) ?_
    refine jf rF ?_
    refine tl [] [(0, cI p0)] [] id ?_
    refine ends_skip ?_
    cases H
    exact rr
  ·clear h26
   cases y25 with
   | inl y27 =>
    replace H := ofInl H
    rintro e s ⟨rfl, rfl⟩
    change EndsI _ _ _ _ _ _
    refine sn [] [] [(5, pk 5)] [] [(5, .var [.int .u8 0, .int .u8 0, .int .u8 0, .int .u8 0, .int .u8 0, .int .u8 0, .int .u8 0, .int .u8 0, .int .u8 0, .int .u8 0, .int .u8 0, .int .u8 0, .int .u8 0, .int .u8 0, .int .u8 0, .int .u8 0, .int .u8 0, .int .u8 0, .int .u8 0, .int .u8 0, .int .u8 0, .int .u8 0, .int .u8 0, .int .u8 0] false)] id ?_
    refine sn [] [] [(6, .c (.int .u64 (IntKind.u64.wrap p0)))] [] [] id ?_
    refine seq_in ?_
    refine sn [] [] [(23, cB (decide (p0 < 0)))] [] [] id ?_
    rcases oC H with ⟨c30, H⟩ | ⟨c30, H⟩
    ·refine it c30 ?_
     cases H
    ·refine jf c30 ?_
     refine sk ?_
     cases H
   | inr y28 =>
    replace H := ofInr H
    rintro e s ⟨rfl, rfl⟩
    cases H
    exact qr
 ·refine jf c16 ?_
  refine sk ?_
  cases H
def x_internal_strconv_Itoa_ir : S :=
 (sq [o 2 (.mv (.v (.str [])))]
 (sq [om 3 0, o 4 (.call 123 [.t 3, .v (.int .i64 10)]), om 2 4]
 .ret))
noncomputable def X.x_internal_strconv_Itoa (p0 : Int) : Option (List UInt8) :=
 ((X.x_internal_strconv_FormatInt p0 10).bind fun v1 => some v1)
theorem x_internal_strconv_Itoa_ok (p0 : Int) (r : (List UInt8)) (H : X.x_internal_strconv_Itoa p0 = some r) : FK 94 [cI p0] (.c (.str r)) := by
 unfold X.x_internal_strconv_Itoa at H
 refine fi Tryz.f94 x_internal_strconv_Itoa_ir [(2, .c (.str r))] [] glL Tryz.func94 ?_
 refine sn [] [] [] [] [] id ?_
 obtain ⟨v1, h2, H⟩ := oB H
 refine so [.res (.c (.str v1))] [] [(2, .c (.str v1))] [] (aI (x_internal_strconv_FormatInt_ok p0 10 v1 h2)) ?_
 cases H
 exact er
def x_strconv_Itoa_ir : S :=
 (sq [o 2 (.mv (.v (.str [])))]
 (sq [om 3 0, o 4 (.call 94 [.t 3]), om 2 4]
 .ret))
noncomputable def X.x_strconv_Itoa (p0 : Int) : Option (List UInt8) :=
 ((X.x_internal_strconv_Itoa p0).bind fun v1 => some v1)
theorem x_strconv_Itoa_ok (p0 : Int) (r : (List UInt8)) (H : X.x_strconv_Itoa p0 = some r) : FK 56 [cI p0] (.c (.str r)) := by
 unfold X.x_strconv_Itoa at H
 refine fi Tryz.f56 x_strconv_Itoa_ir [(2, .c (.str r))] [] glL Tryz.func56 ?_
 refine sn [] [] [] [] [] id ?_
 obtain ⟨v1, h2, H⟩ := oB H
 refine so [.res (.c (.str v1))] [] [(2, .c (.str v1))] [] (aI (x_internal_strconv_Itoa_ok p0 v1 h2)) ?_
 cases H
 exact er
noncomputable def X.x_strings_Join (p0 : List (List UInt8)) (p1 : List UInt8) : Option (List UInt8) :=
 if p0.length ≤ 140737488355328 ∧ (p1.intercalate p0).length ≤ 140737488355328 then some (p1.intercalate p0) else none
theorem x_strings_Join_ok (p0 : List (List UInt8)) (p1 : List UInt8) (r : List UInt8) (H : X.x_strings_Join p0 p1 = some r) : FK 93 [.c (dat 1 eS zS p0), .c (.str p1)] (.c (.str r)) :=
 join_fn (by kernel_rfl) (Any.strings_Join_none lays156 bldX156) (fun bk o c xs sep w h1 h2 h3 h4 h5 => Any.strings_Join lays156 bldX156 bk o c xs sep w h1 h2 h3 h4 h5) (fun _ => rfl) p0 p1 r H
def i_wordsText_ir : S :=
 (sq [o 4 (.mv (.v (.str [])))]
 (sq [om 8 0, o 9 (.bsl 1 [.t 8]), om 5 9]
 (.seq (sq [om 10 1, o 11 (.len (.t 10)), o 12 (.mv (iv 0))]
 (.blk 0 (.loop (sq [o 13 (.bin .lss (.t 12) (.t 11))]
   (.seq (.ite (.t 13) .skip
   (.exit 0))
   (.seq (.blk 1 (sq [o 14 (.iad 1 (.t 10) (.t 12)), ol 15 14, om 7 15]
    (.ops [om 16 5, om 17 7, o 18 (.call 56 [.t 17]), o 19 (.bsl 1 [.t 18]), o 20 (.app 1 16 (.t 16) (.t 19)), om 5 20])))
   (.ops [o 21 (.bin .add (.t 12) (iv 1)), om 12 21])))))))
 (sq [om 22 5, o 23 (.call 93 [.t 22, .v (.str [32])]), om 4 23]
 .ret))))
noncomputable def X.i_wordsText (p0 : (List UInt8)) (p1 : (List Int)) : Option (List UInt8) :=
 ((loop (fun (x16 : (Int × (List (List UInt8)))) => ((bif (decide (x16.1 < (p1.length : Int))) then ((at' zI p1 x16.1).bind fun v19 => ((X.x_strconv_Itoa v19).bind fun v21 => (if (x16.2 ++ ([v21] : List (List UInt8))).length ≤ LIM then some (Sum.inl ((W (x16.1 + 1)), (x16.2 ++ ([v21] : List (List UInt8))))) else none))) else some (Sum.inr x16.2)) : Option ((Int × (List (List UInt8))) ⊕ (List (List UInt8))))) (0, ([p0] : List (List UInt8)))).bind fun y24 => ((X.x_strings_Join y24 [32]).bind fun v26 => some v26))
theorem i_wordsText_ok (p0 : (List UInt8)) (p1 : (List Int)) (r : (List UInt8)) (H : X.i_wordsText p0 p1 = some r) : FK 53 [.c (.str p0), .c (dat 1 eI zI p1)] (.c (.str r)) := by
 unfold X.i_wordsText at H
 refine fi Tryz.f53 i_wordsText_ir [(4, .c (.str r))] [] glL Tryz.func53 ?_
 refine sn [] [] [] [] [] id ?_
 refine sn [fh eS zS ([p0] : List (List UInt8))] [] [(5, ow 9 1 ([p0] : List (List UInt8)))] [] [(9, ar 1 eS zS ([p0] : List (List UInt8)))] (fun t => aI (rfl : ([p0] : List (List UInt8)).length = 1) (aI (fF_lit eS zS ([p0] : List (List UInt8))) (t))) ?_
 refine seq_in ?_
 refine sn [] [] [(10, dc 1 eI zI p1), (11, cL p1), (12, cI 0)] [] [] (fun t => lI p1 (t)) ?_
 refine ends_blk ?_
 obtain ⟨y24, h25, H⟩ := oB H
 refine tl [.ren 9 1001] [(5, ow 1001 1 ([p0] : List (List UInt8))), (10, dc 1 eI zI p1), (11, cL p1), (12, cI 0)] [(1001, ar 1 eS zS ([p0] : List (List UInt8)))] id ?_
 refine loop_in (fun (x : (Int × (List (List UInt8)))) => lit [(5, ow 1001 1 x.2), (10, dc 1 eI zI p1), (11, cL p1), (12, cI x.1)] [(1001, ar 1 eS zS x.2)]) (fun (z : (List (List UInt8))) => At (.exit 0) (lit [(5, ow 1001 1 z)] [(1001, ar 1 eS zS z)])) h25 ?_ ?_
 ·clear H h25
  intro x16 y0 H
  refine sn [] [] [(13, cB (decide (x16.1 < (p1.length : Int))))] [] [] id ?_
  refine seq_in ?_
  rcases oC H with ⟨c18, H⟩ | ⟨c18, H⟩
  ·refine it c18 ?_
   refine sk ?_
   refine seq_in ?_
   refine ends_blk ?_
   obtain ⟨v19, h20, H⟩ := oB H
   refine sn [.cs (eI v19)] [] [(7, cI v19)] [] [] (a2 eI h20) ?_
   obtain ⟨v21, h22, H⟩ := oB H
   obtain ⟨g23, H⟩ := oI H
   refine oo [.res (.c (.str v21)), fh eS zS ([v21] : List (List UInt8)), fh eS zS (x16.2 ++ ([v21] : List (List UInt8)))] [] [(5, ow 20 1 (x16.2 ++ ([v21] : List (List UInt8)))), (10, dc 1 eI zI p1), (11, cL p1), (12, cI x16.1)] [(20, ar 1 eS zS (x16.2 ++ ([v21] : List (List UInt8))))] (fun t => aI (x_strconv_Itoa_ok v19 v21 h22) (aI (rfl : ([v21] : List (List UInt8)).length = 1) (aI (fF_lit eS zS ([v21] : List (List UInt8))) (aI (And.intro (Nat.le_refl x16.2.length) (And.intro (@List.length_append _ x16.2 ([v21] : List (List UInt8))) g23)) (aI (fF_appL eS zS x16.2 ([v21] : List (List UInt8))) (aI (fF_appR eS zS x16.2 ([v21] : List (List UInt8))) (t))))))) ?_
   change EndsI _ _ _ _ _ _
   refine oo [] [.ren 20 1001] [(5, ow 1001 1 (x16.2 ++ ([v21] : List (List UInt8)))), (10, dc 1 eI zI p1), (11, cL p1), (12, cI (W (x16.1 + 1)))] [(1001, ar 1 eS zS (x16.2 ++ ([v21] : List (List UInt8))))] id ?_
   cases H
   exact rr
  ·refine jf c18 ?_
   refine tl [] [(5, ow 1001 1 x16.2)] [(1001, ar 1 eS zS x16.2)] id ?_
   refine ends_exit ?_
   cases H
   exact rse
 ·clear h25
  rintro e s ⟨rfl, rfl⟩
  change EndsI _ _ _ _ _ _
  obtain ⟨v26, h27, H⟩ := oB H
  refine so [.res (.c (.str v26))] [] [(4, .c (.str v26))] [] (fun t => aI (Nat.le_refl y24.length) (aI (x_strings_Join_ok y24 [32] v26 h27) (t))) ?_
  cases H
  exact er
def i_placeText_ir : S :=
 (sq [o 2 (.mv (.v (.str [])))]
 (.seq (sq [om 3 0, o 4 (.bin .lss (.t 3) (iv 0))]
 (.ite (.t 4) (sq [o 2 (.mv (.v (.str [45])))]
  .ret)
 .skip))
 (sq [om 5 0, o 6 (.call 56 [.t 5]), om 2 6]
 .ret)))
noncomputable def X.i_placeText (p0 : Int) : Option (List UInt8) :=
 (bif (decide (p0 < 0)) then some [45] else ((X.x_strconv_Itoa p0).bind fun v2 => some v2))
theorem i_placeText_ok (p0 : Int) (r : (List UInt8)) (H : X.i_placeText p0 = some r) : FK 55 [cI p0] (.c (.str r)) := by
 unfold X.i_placeText at H
 refine fi Tryz.f55 i_placeText_ir [(2, .c (.str r))] [] glL Tryz.func55 ?_
 refine sn [] [] [] [] [] id ?_
 refine seq_in ?_
 refine sn [] [] [(4, cB (decide (p0 < 0)))] [] [] id ?_
 rcases oC H with ⟨c1, H⟩ | ⟨c1, H⟩
 ·refine it c1 ?_
  refine so [] [] [(2, .c (.str [45]))] [] id ?_
  cases H
  exact er
 ·refine jf c1 ?_
  refine sk ?_
  obtain ⟨v2, h3, H⟩ := oB H
  refine so [.res (.c (.str v2))] [] [(2, .c (.str v2))] [] (aI (x_strconv_Itoa_ok p0 v2 h3)) ?_
  cases H
  exact er
def i_reportText_1_ir : S :=
 (sq [o 4 (.box 4 (.t 1)), o 5 (.mv (.v (.str [])))]
 (.seq (.drw [(0, 2), (1, 2), (0, 3), (1, 3), (0, 4), (1, 4), (0, 5), (1, 5), (2, 5), (3, 5), (4, 5), (0, 6), (1, 6), (2, 6), (3, 6), (4, 6), (0, 7), (1, 7), (0, 8), (1, 8), (0, 9), (1, 9), (0, 12), (1, 12), (2, 12), (3, 12), (4, 12), (5, 12), (6, 12), (7, 12), (8, 12), (9, 12), (10, 12), (11, 12), (0, 13), (1, 13), (2, 13), (3, 13), (4, 13), (5, 13), (6, 13), (7, 13), (8, 13), (9, 13), (10, 13), (11, 13), (0, 14), (1, 14), (2, 14), (3, 14), (4, 14), (5, 14), (6, 14), (7, 14), (8, 14), (9, 14), (10, 14), (11, 14), (0, 17), (1, 17), (2, 17), (3, 17), (4, 17), (5, 17), (6, 17), (7, 17), (8, 17), (9, 17), (10, 17), (11, 17), (12, 17), (13, 17), (14, 17), (15, 17), (16, 17), (0, 18), (1, 18), (2, 18), (3, 18), (4, 18), (5, 18), (6, 18), (7, 18), (8, 18), (9, 18), (10, 18), (11, 18), (12, 18), (13, 18), (14, 18), (15, 18), (16, 18), (0, 19), (1, 19), (2, 19), (3, 19), (4, 19), (5, 19), (6, 19), (7, 19), (8, 19), (9, 19), (10, 19), (11, 19), (15, 19), (16, 19)] [om 6 0, o 7 (.bin .add (.t 6) (.v (.str [32]))), oa 8 0 2, oa 9 1 8, ol 10 9, oa 11 1 4, ol 12 11, o 13 (.iad 6 (.t 10) (.t 12)), oa 14 0 13, ol 15 14, o 16 (.bin .add (.t 7) (.t 15)), o 17 (.bin .add (.t 16) (.v (.str [32]))), oa 18 2 4, ol 19 18, o 20 (.call 55 [.t 19]), o 21 (.bin .add (.t 17) (.t 20)), o 22 (.bin .add (.t 21) (.v (.str [32]))), oa 23 3 4, ol 24 23, o 25 (.call 56 [.t 24]), o 26 (.bin .add (.t 22) (.t 25)), o 27 (.bin .add (.t 26) (.v (.str [10]))), om 5 27])
 .ret))
noncomputable def X.i_reportText_1 (p0 : (List UInt8)) (p1 : TUnit) (p2 : TBoard) : Option (List UInt8) :=
 (if p0.length + ([32] : List UInt8).length ≤ maxLen then ((at' zTKind p2.Rules.Kinds p1.Kind).bind fun v2 => (if (p0 ++ ([32] : List UInt8)).length + v2.Name.length ≤ maxLen then (if ((p0 ++ ([32] : List UInt8)) ++ v2.Name).length + ([32] : List UInt8).length ≤ maxLen then ((X.i_placeText p1.At).bind fun v6 => (if (((p0 ++ ([32] : List UInt8)) ++ v2.Name) ++ ([32] : List UInt8)).length + v6.length ≤ maxLen then (if ((((p0 ++ ([32] : List UInt8)) ++ v2.Name) ++ ([32] : List UInt8)) ++ v6).length + ([32] : List UInt8).length ≤ maxLen then ((X.x_strconv_Itoa p1.Steps).bind fun v10 => (if (((((p0 ++ ([32] : List UInt8)) ++ v2.Name) ++ ([32] : List UInt8)) ++ v6) ++ ([32] : List UInt8)).length + v10.length ≤ maxLen then (if ((((((p0 ++ ([32] : List UInt8)) ++ v2.Name) ++ ([32] : List UInt8)) ++ v6) ++ ([32] : List UInt8)) ++ v10).length + ([10] : List UInt8).length ≤ maxLen then some (((((((p0 ++ ([32] : List UInt8)) ++ v2.Name) ++ ([32] : List UInt8)) ++ v6) ++ ([32] : List UInt8)) ++ v10) ++ ([10] : List UInt8)) else none) else none)) else none) else none)) else none) else none)) else none)
theorem i_reportText_1_ok (p0 : (List UInt8)) (p1 : TUnit) (p2 : TBoard) (r : (List UInt8)) (H : X.i_reportText_1 p0 p1 p2 = some r) : FK 54 [.c (.str p0), .agg (eTUnit p1), .c (.pd (eTBoard p2) 0)] (.c (.str r)) := by
 unfold X.i_reportText_1 at H
 refine fi Tryz.f54 i_reportText_1_ir [(5, .c (.str r))] [] glL Tryz.func54 ?_
 refine sn [] [] [(4, pk 4)] [] [(4, va (eTUnit p1))] id ?_
 obtain ⟨g1, H⟩ := oI H
 obtain ⟨v2, h3, H⟩ := oB H
 obtain ⟨g4, H⟩ := oI H
 obtain ⟨g5, H⟩ := oI H
 obtain ⟨v6, h7, H⟩ := oB H
 obtain ⟨g8, H⟩ := oI H
 obtain ⟨g9, H⟩ := oI H
 obtain ⟨v10, h11, H⟩ := oB H
 obtain ⟨g12, H⟩ := oI H
 obtain ⟨g13, H⟩ := oI H
 refine sx [.cs (eTKind v2), .res (.c (.str v6)), .res (.c (.str v10))] [] [(5, .c (.str (((((((p0 ++ ([32] : List UInt8)) ++ v2.Name) ++ ([32] : List UInt8)) ++ v6) ++ ([32] : List UInt8)) ++ v10) ++ ([10] : List UInt8))))] [] (fun t => aI g1 (aI rN ((a2 eTKind h3 (aI rN (aI g4 (aI g5 (aI (i_placeText_ok p1.At v6 h7) (aI trivial (aI rN (aI g8 (aI g9 (aI (x_strconv_Itoa_ok p1.Steps v10 h11) (aI trivial (aI rN (aI g12 (aI g13 (t)))))))))))))))))) ?_
 cases H
 exact er
def i_reportText_ir : S :=
 (sq [o 2 (.box 12 (.t 0)), o 3 (.box 6 (.t 1)), o 4 (.mv (.v (.str [])))]
 (.seq (.drw [(0, 5), (1, 5), (2, 5), (3, 5), (4, 5), (0, 6), (1, 6), (2, 6), (3, 6), (4, 6), (0, 7), (1, 7), (2, 7), (3, 7), (4, 7), (4, 8), (0, 11), (1, 11), (2, 11), (3, 11), (4, 11), (5, 11), (6, 11), (7, 11), (8, 11), (9, 11), (10, 11), (0, 12), (1, 12), (2, 12), (3, 12), (4, 12), (5, 12), (6, 12), (7, 12), (8, 12), (9, 12), (10, 12), (0, 13), (1, 13), (2, 13), (3, 13), (4, 13), (5, 13), (6, 13), (7, 13), (8, 13), (9, 13), (10, 13), (4, 14), (9, 14), (10, 14), (0, 17), (1, 17), (2, 17), (3, 17), (4, 17), (5, 17), (6, 17), (7, 17), (8, 17), (9, 17), (10, 17), (11, 17), (12, 17), (13, 17), (14, 17), (15, 17), (16, 17), (0, 18), (1, 18), (2, 18), (3, 18), (4, 18), (5, 18), (6, 18), (7, 18), (8, 18), (9, 18), (10, 18), (11, 18), (12, 18), (13, 18), (14, 18), (15, 18), (16, 18), (4, 19), (9, 19), (10, 19), (15, 19), (16, 19)] [oa 11 0 3, ol 12 11, o 13 (.bsl 1 [.t 12]), o 14 (.call 53 [.v (.str [115, 105, 100, 101]), .t 13]), o 15 (.bin .add (.t 14) (.v (.str [32]))), oa 16 1 3, ol 17 16, o 18 (.bsl 1 [.t 17]), o 19 (.call 53 [.v (.str [116, 117, 114, 110]), .t 18]), o 20 (.bin .add (.t 15) (.t 19)), o 21 (.bin .add (.t 20) (.v (.str [32]))), oa 22 2 3, ol 23 22, o 24 (.bsl 1 [.t 23]), o 25 (.call 53 [.v (.str [119, 101, 97, 116, 104, 101, 114]), .t 24]), o 26 (.bin .add (.t 21) (.t 25)), o 27 (.bin .add (.t 26) (.v (.str [10]))), oa 28 3 3, ol 29 28, o 30 (.call 53 [.v (.str [115, 101, 101, 110]), .t 29]), o 31 (.bin .add (.t 27) (.t 30)), o 32 (.bin .add (.t 31) (.v (.str [10]))), om 5 32])
 (sq [o 33 (.clo 54 [.t 2]), om 6 33]
 (.seq (sq [oa 34 4 3, ol 35 34, o 36 (.len (.t 35)), o 37 (.mv (iv 0))]
 (.blk 0 (.loop (sq [o 38 (.bin .lss (.t 37) (.t 36))]
   (.seq (.ite (.t 38) .skip
   (.exit 0))
   (.seq (.blk 1 (sq [o 39 (.iad 4 (.t 35) (.t 37)), o 40 (.load 4 true (.t 39)), o 8 (.alloc [.int .i64 0, .int .i64 0, .int .i64 0, .int .i64 0]), os 4 8 40]
    (.ops [om 41 5, om 42 6, o 43 (.load 4 true (.t 8)), o 44 (.cald (.t 42) [.v (.str [111, 119, 110]), .t 43]), o 45 (.bin .add (.t 41) (.t 44)), om 5 45])))
   (.ops [o 46 (.bin .add (.t 37) (iv 1)), om 37 46])))))))
 (.seq (sq [oa 47 5 3, ol 48 47, o 49 (.len (.t 48)), o 50 (.mv (iv 0))]
 (.blk 2 (.loop (sq [o 51 (.bin .lss (.t 50) (.t 49))]
   (.seq (.ite (.t 51) .skip
   (.exit 2))
   (.seq (.blk 3 (sq [o 52 (.iad 4 (.t 48) (.t 50)), o 53 (.load 4 true (.t 52)), o 10 (.alloc [.int .i64 0, .int .i64 0, .int .i64 0, .int .i64 0]), os 4 10 53]
    (.ops [om 54 5, om 55 6, o 56 (.load 4 true (.t 10)), o 57 (.cald (.t 55) [.v (.str [101, 110, 101, 109, 121]), .t 56]), o 58 (.bin .add (.t 54) (.t 57)), om 5 58])))
   (.ops [o 59 (.bin .add (.t 50) (iv 1)), om 50 59])))))))
 (sq [om 60 5, om 4 60]
 .ret))))))
noncomputable def X.i_reportText (p0 : TBoard) (p1 : TView) : Option (List UInt8) :=
 ((X.i_wordsText [115, 105, 100, 101] ([p1.Side] : List Int)).bind fun v1 => (if v1.length + ([32] : List UInt8).length ≤ maxLen then ((X.i_wordsText [116, 117, 114, 110] ([p1.Turn] : List Int)).bind fun v4 => (if (v1 ++ ([32] : List UInt8)).length + v4.length ≤ maxLen then (if ((v1 ++ ([32] : List UInt8)) ++ v4).length + ([32] : List UInt8).length ≤ maxLen then ((X.i_wordsText [119, 101, 97, 116, 104, 101, 114] ([p1.Weather] : List Int)).bind fun v8 => (if (((v1 ++ ([32] : List UInt8)) ++ v4) ++ ([32] : List UInt8)).length + v8.length ≤ maxLen then (if ((((v1 ++ ([32] : List UInt8)) ++ v4) ++ ([32] : List UInt8)) ++ v8).length + ([10] : List UInt8).length ≤ maxLen then ((X.i_wordsText [115, 101, 101, 110] p1.Seen).bind fun v12 => (if (((((v1 ++ ([32] : List UInt8)) ++ v4) ++ ([32] : List UInt8)) ++ v8) ++ ([10] : List UInt8)).length + v12.length ≤ maxLen then (if ((((((v1 ++ ([32] : List UInt8)) ++ v4) ++ ([32] : List UInt8)) ++ v8) ++ ([10] : List UInt8)) ++ v12).length + ([10] : List UInt8).length ≤ maxLen then ((loop (fun (x56 : ((List UInt8) × Int)) => ((bif (decide (x56.2 < (p1.Own.length : Int))) then ((at' zTUnit p1.Own x56.2).bind fun v59 => ((X.i_reportText_1 [111, 119, 110] v59 p0).bind fun v61 => (if x56.1.length + v61.length ≤ maxLen then some (Sum.inl ((x56.1 ++ v61), (W (x56.2 + 1)))) else none))) else some (Sum.inr x56.1)) : Option (((List UInt8) × Int) ⊕ (List UInt8)))) ((((((((v1 ++ ([32] : List UInt8)) ++ v4) ++ ([32] : List UInt8)) ++ v8) ++ ([10] : List UInt8)) ++ v12) ++ ([10] : List UInt8)), 0)).bind fun y64 => ((loop (fun (x81 : ((List UInt8) × Int)) => ((bif (decide (x81.2 < (p1.Enemies.length : Int))) then ((at' zTUnit p1.Enemies x81.2).bind fun v84 => ((X.i_reportText_1 [101, 110, 101, 109, 121] v84 p0).bind fun v86 => (if x81.1.length + v86.length ≤ maxLen then some (Sum.inl ((x81.1 ++ v86), (W (x81.2 + 1)))) else none))) else some (Sum.inr x81.1)) : Option (((List UInt8) × Int) ⊕ (List UInt8)))) (y64, 0)).bind fun y89 => some y89)) else none) else none)) else none) else none)) else none) else none)) else none))
theorem i_reportText_ok (p0 : TBoard) (p1 : TView) (r : (List UInt8)) (H : X.i_reportText p0 p1 = some r) : FK 32 [.agg (eTBoard p0), .agg (eTView p1)] (.c (.str r)) := by
 unfold X.i_reportText at H
 refine fi Tryz.f32 i_reportText_ir [(4, .c (.str r))] [] glL Tryz.func32 ?_
 refine so [] [] [(2, pk 2), (3, pk 3)] [(2, va (eTBoard p0)), (3, va (eTView p1))] id ?_
 obtain ⟨v1, h2, H⟩ := oB H
 obtain ⟨g3, H⟩ := oI H
 obtain ⟨v4, h5, H⟩ := oB H
 obtain ⟨g6, H⟩ := oI H
 obtain ⟨g7, H⟩ := oI H
 obtain ⟨v8, h9, H⟩ := oB H
 obtain ⟨g10, H⟩ := oI H
 obtain ⟨g11, H⟩ := oI H
 obtain ⟨v12, h13, H⟩ := oB H
 obtain ⟨g14, H⟩ := oI H
 obtain ⟨g15, H⟩ := oI H
 refine xn [fh eI zI ([p1.Side] : List Int), .res (.c (.str v1)), fh eI zI ([p1.Turn] : List Int), .res (.c (.str v4)), fh eI zI ([p1.Weather] : List Int), .res (.c (.str v8)), .res (.c (.str v12))] [] [(5, .c (.str (((((((v1 ++ ([32] : List UInt8)) ++ v4) ++ ([32] : List UInt8)) ++ v8) ++ ([10] : List UInt8)) ++ v12) ++ ([10] : List UInt8))))] [] [] (fun t => aI (rfl : ([p1.Side] : List Int).length = 1) (aI rT (aI (fF_lit eI zI ([p1.Side] : List Int)) (aI (i_wordsText_ok [115, 105, 100, 101] ([p1.Side] : List Int) v1 h2) (aI trivial (aI rN (aI g3 (aI (rfl : ([p1.Turn] : List Int).length = 1) (aI rT (aI (fF_lit eI zI ([p1.Turn] : List Int)) (aI (i_wordsText_ok [116, 117, 114, 110] ([p1.Turn] : List Int) v4 h5) (aI trivial (aI rN (aI g6 (aI g7 (aI (rfl : ([p1.Weather] : List Int).length = 1) (aI rT (aI (fF_lit eI zI ([p1.Weather] : List Int)) (aI (i_wordsText_ok [119, 101, 97, 116, 104, 101, 114] ([p1.Weather] : List Int) v8 h9) (aI trivial (aI rN (aI g10 (aI g11 (aI (i_wordsText_ok [115, 101, 101, 110] p1.Seen v12 h13) (aI trivial (aI rN (aI g14 (aI g15 (t))))))))))))))))))))))))))))) ?_
 refine sn [] [] [(6, .c (.clo 54 [.pk 2 0]))] [] [] id ?_
 refine seq_in ?_
 refine sn [] [] [(35, dc 4 eTUnit zTUnit p1.Own), (36, cL p1.Own), (37, cI 0)] [] [] (fun t => lI p1.Own (t)) ?_
 refine ends_blk ?_
 obtain ⟨y64, h65, H⟩ := oB H
 refine tl [] [(3, pk 3), (5, .c (.str (((((((v1 ++ ([32] : List UInt8)) ++ v4) ++ ([32] : List UInt8)) ++ v8) ++ ([10] : List UInt8)) ++ v12) ++ ([10] : List UInt8)))), (6, .c (.clo 54 [.pk 2 0])), (35, dc 4 eTUnit zTUnit p1.Own), (36, cL p1.Own), (37, cI 0)] [(2, va (eTBoard p0)), (3, va (eTView p1))] id ?_
 refine loop_in (fun (x : ((List UInt8) × Int)) => lit [(3, pk 3), (5, .c (.str x.1)), (6, .c (.clo 54 [.pk 2 0])), (35, dc 4 eTUnit zTUnit p1.Own), (36, cL p1.Own), (37, cI x.2)] [(2, va (eTBoard p0)), (3, va (eTView p1))]) (fun (z : (List UInt8)) => At (.exit 0) (lit [(3, pk 3), (5, .c (.str z)), (6, .c (.clo 54 [.pk 2 0]))] [(2, va (eTBoard p0)), (3, va (eTView p1))])) h65 ?_ ?_
 ·clear H h65
  intro x56 y0 H
  refine sn [] [] [(38, cB (decide (x56.2 < (p1.Own.length : Int))))] [] [] id ?_
  refine seq_in ?_
  rcases oC H with ⟨c58, H⟩ | ⟨c58, H⟩
  ·refine it c58 ?_
   refine sk ?_
   refine seq_in ?_
   refine ends_blk ?_
   obtain ⟨v59, h60, H⟩ := oB H
   refine sn [.cs (eTUnit v59)] [] [(8, pk 8)] [] [(8, va (eTUnit v59))] (a2 eTUnit h60) ?_
   obtain ⟨v61, h62, H⟩ := oB H
   obtain ⟨g63, H⟩ := oI H
   refine oo [.res (.c (.str v61))] [] [(3, pk 3), (5, .c (.str (x56.1 ++ v61))), (6, .c (.clo 54 [.pk 2 0])), (35, dc 4 eTUnit zTUnit p1.Own), (36, cL p1.Own), (37, cI x56.2)] [(2, va (eTBoard p0)), (3, va (eTView p1))] (fun t => aI (i_reportText_1_ok [111, 119, 110] v59 p0 v61 h62) (aI g63 (t))) ?_
   change EndsI _ _ _ _ _ _
   refine oo [] [] [(3, pk 3), (5, .c (.str (x56.1 ++ v61))), (6, .c (.clo 54 [.pk 2 0])), (35, dc 4 eTUnit zTUnit p1.Own), (36, cL p1.Own), (37, cI (W (x56.2 + 1)))] [(2, va (eTBoard p0)), (3, va (eTView p1))] id ?_
   cases H
   exact rr
  ·refine jf c58 ?_
   refine tl [] [(3, pk 3), (5, .c (.str x56.1)), (6, .c (.clo 54 [.pk 2 0]))] [(2, va (eTBoard p0)), (3, va (eTView p1))] id ?_
   refine ends_exit ?_
   cases H
   exact rse
 ·clear h65
  rintro e s ⟨rfl, rfl⟩
  change EndsI _ _ _ _ _ _
  refine seq_in ?_
  refine sn [] [] [(48, dc 4 eTUnit zTUnit p1.Enemies), (49, cL p1.Enemies), (50, cI 0)] [] [] (fun t => lI p1.Enemies (t)) ?_
  refine ends_blk ?_
  obtain ⟨y89, h90, H⟩ := oB H
  refine tl [] [(5, .c (.str y64)), (6, .c (.clo 54 [.pk 2 0])), (48, dc 4 eTUnit zTUnit p1.Enemies), (49, cL p1.Enemies), (50, cI 0)] [(2, va (eTBoard p0))] id ?_
  refine loop_in (fun (x : ((List UInt8) × Int)) => lit [(5, .c (.str x.1)), (6, .c (.clo 54 [.pk 2 0])), (48, dc 4 eTUnit zTUnit p1.Enemies), (49, cL p1.Enemies), (50, cI x.2)] [(2, va (eTBoard p0))]) (fun (z : (List UInt8)) => At (.exit 2) (lit [(5, .c (.str z))] [])) h90 ?_ ?_
  ·clear H h90
   intro x81 y0 H
   refine sn [] [] [(51, cB (decide (x81.2 < (p1.Enemies.length : Int))))] [] [] id ?_
   refine seq_in ?_
   rcases oC H with ⟨c83, H⟩ | ⟨c83, H⟩
   ·refine it c83 ?_
    refine sk ?_
    refine seq_in ?_
    refine ends_blk ?_
    obtain ⟨v84, h85, H⟩ := oB H
    refine sn [.cs (eTUnit v84)] [] [(10, pk 10)] [] [(10, va (eTUnit v84))] (a2 eTUnit h85) ?_
    obtain ⟨v86, h87, H⟩ := oB H
    obtain ⟨g88, H⟩ := oI H
    refine oo [.res (.c (.str v86))] [] [(5, .c (.str (x81.1 ++ v86))), (6, .c (.clo 54 [.pk 2 0])), (48, dc 4 eTUnit zTUnit p1.Enemies), (49, cL p1.Enemies), (50, cI x81.2)] [(2, va (eTBoard p0))] (fun t => aI (i_reportText_1_ok [101, 110, 101, 109, 121] v84 p0 v86 h87) (aI g88 (t))) ?_
    change EndsI _ _ _ _ _ _
    refine oo [] [] [(5, .c (.str (x81.1 ++ v86))), (6, .c (.clo 54 [.pk 2 0])), (48, dc 4 eTUnit zTUnit p1.Enemies), (49, cL p1.Enemies), (50, cI (W (x81.2 + 1)))] [(2, va (eTBoard p0))] id ?_
    cases H
    exact rr
   ·refine jf c83 ?_
    refine tl [] [(5, .c (.str x81.1))] [] id ?_
    refine ends_exit ?_
    cases H
    exact rse
  ·clear h90
   rintro e s ⟨rfl, rfl⟩
   change EndsI _ _ _ _ _ _
   refine so [] [] [(4, .c (.str y89))] [] id ?_
   cases H
   exact er
def i_ReportText_ir : S :=
 (sq [o 2 (.box 12 (.t 0)), o 3 (.box 6 (.t 1)), o 4 (.mv (.v (.str []))), o 5 (.mv bF)]
 (.seq (sq [o 6 (.load 12 true (.t 2)), o 7 (.load 6 true (.t 3)), o 8 (.call 31 [.t 6, .t 7]), o 9 (.not (.t 8))]
 (.ite (.t 9) (sq [o 4 (.mv (.v (.str []))), o 5 (.mv bF)]
  .ret)
 .skip))
 (sq [o 10 (.load 12 true (.t 2)), o 11 (.load 6 true (.t 3)), o 12 (.call 32 [.t 10, .t 11]), om 4 12, o 5 (.mv bT)]
 .ret)))
noncomputable def X.i_ReportText (p0 : TBoard) (p1 : TView) : Option ((List UInt8) × Bool) :=
 ((X.i_hasView p0 p1).bind fun v1 => (bif (!v1) then some ([], false) else ((X.i_reportText p0 p1).bind fun v4 => some (v4, true))))
theorem i_ReportText_ok (p0 : TBoard) (p1 : TView) (r : ((List UInt8) × Bool)) (H : X.i_ReportText p0 p1 = some r) : FK 11 [.agg (eTBoard p0), .agg (eTView p1)] (.tup [(false, [.str r.1]), (false, [.bool r.2])]) := by
 unfold X.i_ReportText at H
 refine fi Tryz.f11 i_ReportText_ir [(4, .c (.str r.1)), (5, cB r.2)] [] glL Tryz.func11 ?_
 refine so [] [] [(2, pk 2), (3, pk 3)] [(2, va (eTBoard p0)), (3, va (eTView p1))] id ?_
 refine seq_in ?_
 obtain ⟨v1, h2, H⟩ := oB H
 refine sn [.res (cB v1)] [] [(9, cB (!v1))] [] [] (aI (i_hasView_ok p0 p1 v1 h2)) ?_
 rcases oC H with ⟨c3, H⟩ | ⟨c3, H⟩
 ·refine it c3 ?_
  refine so [] [] [(4, .c (.str [])), (5, cB false)] [] id ?_
  cases H
  exact er
 ·refine jf c3 ?_
  refine sk ?_
  obtain ⟨v4, h5, H⟩ := oB H
  refine so [.res (.c (.str v4))] [] [(4, .c (.str v4)), (5, cB true)] [] (aI (i_reportText_ok p0 p1 v4 h5)) ?_
  cases H
  exact er
def l_eqIntS_ir : S :=
 (sq [o 4 (.mv bF)]
 (.seq (sq [om 6 0, o 7 (.len (.t 6)), om 8 1, o 9 (.len (.t 8)), o 10 (.bin .neq (.t 7) (.t 9))]
 (.ite (.t 10) (sq [o 4 (.mv bF)]
  .ret)
 .skip))
 (.seq (sq [o 5 (.mv (iv 0))]
 (.blk 0 (.loop (.seq (sq [om 11 5, om 12 0, o 13 (.len (.t 12)), o 14 (.bin .lss (.t 11) (.t 13))]
   (.ite (.t 14) .skip
   (.exit 0)))
   (.seq (.blk 1 (.seq (.drw [(0, 1), (0, 4), (1, 4), (2, 4), (3, 4), (0, 5), (1, 5), (2, 5), (3, 5), (4, 5), (0, 6), (1, 6), (2, 6), (3, 6), (0, 7), (1, 7), (2, 7), (3, 7)] [om 17 0, om 18 5, o 19 (.iad 1 (.t 17) (.t 18)), ol 20 19, om 21 1, om 22 5, o 23 (.iad 1 (.t 21) (.t 22)), ol 24 23, o 25 (.bin .neq (.t 20) (.t 24))])
    (.ite (.t 25) (sq [o 4 (.mv bF)]
     .ret)
    .skip)))
   (.ops [om 15 5, o 16 (.bin .add (.t 15) (iv 1)), om 5 16]))))))
 (sq [o 4 (.mv bT)]
 .ret))))
noncomputable def X.l_eqIntS (p0 : (List Int)) (p1 : (List Int)) : Option Bool :=
 (bif ((p0.length : Int) != (p1.length : Int)) then some false else ((loop (fun (x18 : Int) => ((bif (decide (x18 < (p0.length : Int))) then ((at' zI p0 x18).bind fun v21 => ((at' zI p1 x18).bind fun v23 => (bif (v21 != v23) then some (Sum.inr (Sum.inr false)) else some (Sum.inl (W (x18 + 1)))))) else some (Sum.inr (Sum.inl ()))) : Option (Int ⊕ (Unit ⊕ Bool)))) 0).bind fun y26 => (Sum.elim (fun (y28 : Unit) => some true) (fun (y29 : Bool) => some y29) y26)))
theorem l_eqIntS_ok (p0 : (List Int)) (p1 : (List Int)) (r : Bool) (H : X.l_eqIntS p0 p1 = some r) : FK 35 [.c (dat 1 eI zI p0), .c (dat 1 eI zI p1)] (cB r) := by
 unfold X.l_eqIntS at H
 refine fi Tryz.f35 l_eqIntS_ir [(4, cB r)] [] glL Tryz.func35 ?_
 refine sn [] [] [] [] [] id ?_
 refine seq_in ?_
 refine sn [] [] [(10, cB ((p0.length : Int) != (p1.length : Int)))] [] [] (fun t => lI p0 (lI p1 (t))) ?_
 rcases oC H with ⟨c2, H⟩ | ⟨c2, H⟩
 ·refine it c2 ?_
  refine so [] [] [(4, cB false)] [] id ?_
  cases H
  exact er
 ·refine jf c2 ?_
  refine sk ?_
  refine seq_in ?_
  refine sn [] [] [(5, cI 0)] [] [] id ?_
  refine ends_blk ?_
  obtain ⟨y26, h27, H⟩ := oB H
  refine tl [] [(0, dc 1 eI zI p0), (1, dc 1 eI zI p1), (5, cI 0)] [] id ?_
  refine loop_in (fun (x : Int) => lit [(0, dc 1 eI zI p0), (1, dc 1 eI zI p1), (5, cI x)] []) (orJ (fun (z : Unit) => At (.exit 0) (lit [] [])) (fun (z : Bool) => At .ret (lit [(4, cB z)] []))) h27 ?_ ?_
  ·clear H h27
   intro x18 y0 H
   refine seq_in ?_
   refine sn [] [] [(14, cB (decide (x18 < (p0.length : Int))))] [] [] (fun t => lI p0 (t)) ?_
   rcases oC H with ⟨c20, H⟩ | ⟨c20, H⟩
   ·refine it c20 ?_
    refine sk ?_
    refine seq_in ?_
    refine ends_blk ?_
    obtain ⟨v21, h22, H⟩ := oB H
    obtain ⟨v23, h24, H⟩ := oB H
    refine xn [.cs (eI v21), .cs (eI v23)] [] [(25, cB (v21 != v23))] [] [] (fun t => (a2 eI h22 (aI rN ((a2 eI h24 (aI rN (t))))))) ?_
    rcases oC H with ⟨c25, H⟩ | ⟨c25, H⟩
    ·refine it c25 ?_
     refine so [] [] [(4, cB false)] [] id ?_
     refine ends_ret ?_
     cases H
     exact rsr
    ·refine jf c25 ?_
     refine sk ?_
     refine oo [] [] [(0, dc 1 eI zI p0), (1, dc 1 eI zI p1), (5, cI (W (x18 + 1)))] [] id ?_
     cases H
     exact rr
   ·refine jf c20 ?_
    refine tl [] [] [] id ?_
    refine ends_exit ?_
    cases H
    exact rse
  ·clear h27
   cases y26 with
   | inl y28 =>
    replace H := ofInl H
    rintro e s ⟨rfl, rfl⟩
    change EndsI _ _ _ _ _ _
    refine so [] [] [(4, cB true)] [] id ?_
    cases H
    exact er
   | inr y29 =>
    replace H := ofInr H
    rintro e s ⟨rfl, rfl⟩
    cases H
    exact qr
def l_eqTerrain_ir : S :=
 (sq [o 2 (.box 5 (.t 0)), o 3 (.box 5 (.t 1)), o 4 (.mv bF)]
 (.seq (sq [oa 5 0 2, ol 6 5, oa 7 0 3, ol 8 7, o 9 (.bin .neq (.t 6) (.t 8))]
 (.ite (.t 9) (sq [o 4 (.mv bF)]
  .ret)
 .skip))
 (.seq (sq [oa 10 1 2, ol 11 10, oa 12 1 3, ol 13 12, o 14 (.call 35 [.t 11, .t 13]), o 15 (.not (.t 14))]
 (.ite (.t 15) (sq [o 4 (.mv bF)]
  .ret)
 .skip))
 (.seq (sq [oa 16 2 2, ol 17 16, oa 18 2 3, ol 19 18, o 20 (.bin .neq (.t 17) (.t 19))]
 (.ite (.t 20) (sq [o 4 (.mv bF)]
  .ret)
 .skip))
 (.seq (sq [oa 21 3 2, ol 22 21, oa 23 3 3, ol 24 23, o 25 (.bin .neq (.t 22) (.t 24))]
 (.ite (.t 25) (sq [o 4 (.mv bF)]
  .ret)
 .skip))
 (.seq (sq [oa 26 4 2, ol 27 26, oa 28 4 3, ol 29 28, o 30 (.bqe true (.t 27) (.t 29))]
 (.ite (.t 30) (sq [o 4 (.mv bF)]
  .ret)
 .skip))
 (sq [o 4 (.mv bT)]
 .ret)))))))
noncomputable def X.l_eqTerrain (p0 : TTerrain) (p1 : TTerrain) : Option Bool :=
 (bif (!(p0.Name == p1.Name)) then some false else ((X.l_eqIntS p0.Cost p1.Cost).bind fun v6 => (bif (!v6) then some false else (bif (p0.Shift != p1.Shift) then some false else (bif (p0.Height != p1.Height) then some false else (bif (!(p0.Blocks == p1.Blocks)) then some false else some true))))))
theorem l_eqTerrain_ok (p0 : TTerrain) (p1 : TTerrain) (r : Bool) (H : X.l_eqTerrain p0 p1 = some r) : FK 95 [.agg (eTTerrain p0), .agg (eTTerrain p1)] (cB r) := by
 unfold X.l_eqTerrain at H
 refine fi Tryz.f95 l_eqTerrain_ir [(4, cB r)] [] glL Tryz.func95 ?_
 refine so [] [] [(2, pk 2), (3, pk 3)] [(2, va (eTTerrain p0)), (3, va (eTTerrain p1))] id ?_
 refine seq_in ?_
 refine sn [] [] [(9, cB (!(p0.Name == p1.Name)))] [] [] id ?_
 rcases oC H with ⟨c2, H⟩ | ⟨c2, H⟩
 ·refine it c2 ?_
  refine so [] [] [(4, cB false)] [] id ?_
  cases H
  exact er
 ·refine jf c2 ?_
  refine sk ?_
  refine seq_in ?_
  obtain ⟨v6, h7, H⟩ := oB H
  refine sn [.res (cB v6)] [] [(15, cB (!v6))] [] [] (aI (l_eqIntS_ok p0.Cost p1.Cost v6 h7)) ?_
  rcases oC H with ⟨c8, H⟩ | ⟨c8, H⟩
  ·refine it c8 ?_
   refine so [] [] [(4, cB false)] [] id ?_
   cases H
   exact er
  ·refine jf c8 ?_
   refine sk ?_
   refine seq_in ?_
   refine sn [] [] [(20, cB (p0.Shift != p1.Shift))] [] [] id ?_
   rcases oC H with ⟨c10, H⟩ | ⟨c10, H⟩
   ·refine it c10 ?_
    refine so [] [] [(4, cB false)] [] id ?_
    cases H
    exact er
   ·refine jf c10 ?_
    refine sk ?_
    refine seq_in ?_
    refine sn [] [] [(25, cB (p0.Height != p1.Height))] [] [] id ?_
    rcases oC H with ⟨c12, H⟩ | ⟨c12, H⟩
    ·refine it c12 ?_
     refine so [] [] [(4, cB false)] [] id ?_
     cases H
     exact er
    ·refine jf c12 ?_
     refine sk ?_
     refine seq_in ?_
     refine so [] [] [(30, cB (!(p0.Blocks == p1.Blocks)))] [] id ?_
     rcases oC H with ⟨c13, H⟩ | ⟨c13, H⟩
     ·refine it c13 ?_
      refine so [] [] [(4, cB false)] [] id ?_
      cases H
      exact er
     ·refine jf c13 ?_
      refine sk ?_
      refine so [] [] [(4, cB true)] [] id ?_
      cases H
      exact er
def l_eqTerrainS_ir : S :=
 (sq [o 4 (.mv bF)]
 (.seq (sq [om 6 0, o 7 (.len (.t 6)), om 8 1, o 9 (.len (.t 8)), o 10 (.bin .neq (.t 7) (.t 9))]
 (.ite (.t 10) (sq [o 4 (.mv bF)]
  .ret)
 .skip))
 (.seq (sq [o 5 (.mv (iv 0))]
 (.blk 0 (.loop (.seq (sq [om 11 5, om 12 0, o 13 (.len (.t 12)), o 14 (.bin .lss (.t 11) (.t 13))]
   (.ite (.t 14) .skip
   (.exit 0)))
   (.seq (.blk 1 (.seq (.drw [(0, 1), (0, 4), (1, 4), (2, 4), (3, 4), (0, 5), (1, 5), (2, 5), (3, 5), (4, 5), (0, 6), (1, 6), (2, 6), (3, 6), (0, 7), (1, 7), (2, 7), (3, 7)] [om 17 0, om 18 5, o 19 (.iad 5 (.t 17) (.t 18)), o 20 (.load 5 true (.t 19)), om 21 1, om 22 5, o 23 (.iad 5 (.t 21) (.t 22)), o 24 (.load 5 true (.t 23)), o 25 (.call 95 [.t 20, .t 24]), o 26 (.not (.t 25))])
    (.ite (.t 26) (sq [o 4 (.mv bF)]
     .ret)
    .skip)))
   (.ops [om 15 5, o 16 (.bin .add (.t 15) (iv 1)), om 5 16]))))))
 (sq [o 4 (.mv bT)]
 .ret))))
noncomputable def X.l_eqTerrainS (p0 : (List TTerrain)) (p1 : (List TTerrain)) : Option Bool :=
 (bif ((p0.length : Int) != (p1.length : Int)) then some false else ((loop (fun (x22 : Int) => ((bif (decide (x22 < (p0.length : Int))) then ((at' zTTerrain p0 x22).bind fun v25 => ((at' zTTerrain p1 x22).bind fun v27 => ((X.l_eqTerrain v25 v27).bind fun v29 => (bif (!v29) then some (Sum.inr (Sum.inr false)) else some (Sum.inl (W (x22 + 1))))))) else some (Sum.inr (Sum.inl ()))) : Option (Int ⊕ (Unit ⊕ Bool)))) 0).bind fun y32 => (Sum.elim (fun (y34 : Unit) => some true) (fun (y35 : Bool) => some y35) y32)))
theorem l_eqTerrainS_ok (p0 : (List TTerrain)) (p1 : (List TTerrain)) (r : Bool) (H : X.l_eqTerrainS p0 p1 = some r) : FK 57 [.c (dat 5 eTTerrain zTTerrain p0), .c (dat 5 eTTerrain zTTerrain p1)] (cB r) := by
 unfold X.l_eqTerrainS at H
 refine fi Tryz.f57 l_eqTerrainS_ir [(4, cB r)] [] glL Tryz.func57 ?_
 refine sn [] [] [] [] [] id ?_
 refine seq_in ?_
 refine sn [] [] [(10, cB ((p0.length : Int) != (p1.length : Int)))] [] [] (fun t => lI p0 (lI p1 (t))) ?_
 rcases oC H with ⟨c2, H⟩ | ⟨c2, H⟩
 ·refine it c2 ?_
  refine so [] [] [(4, cB false)] [] id ?_
  cases H
  exact er
 ·refine jf c2 ?_
  refine sk ?_
  refine seq_in ?_
  refine sn [] [] [(5, cI 0)] [] [] id ?_
  refine ends_blk ?_
  obtain ⟨y32, h33, H⟩ := oB H
  refine tl [] [(0, dc 5 eTTerrain zTTerrain p0), (1, dc 5 eTTerrain zTTerrain p1), (5, cI 0)] [] id ?_
  refine loop_in (fun (x : Int) => lit [(0, dc 5 eTTerrain zTTerrain p0), (1, dc 5 eTTerrain zTTerrain p1), (5, cI x)] []) (orJ (fun (z : Unit) => At (.exit 0) (lit [] [])) (fun (z : Bool) => At .ret (lit [(4, cB z)] []))) h33 ?_ ?_
  ·clear H h33
   intro x22 y0 H
   refine seq_in ?_
   refine sn [] [] [(14, cB (decide (x22 < (p0.length : Int))))] [] [] (fun t => lI p0 (t)) ?_
   rcases oC H with ⟨c24, H⟩ | ⟨c24, H⟩
   ·refine it c24 ?_
    refine sk ?_
    refine seq_in ?_
    refine ends_blk ?_
    obtain ⟨v25, h26, H⟩ := oB H
    obtain ⟨v27, h28, H⟩ := oB H
    obtain ⟨v29, h30, H⟩ := oB H
    refine xn [.cs (eTTerrain v25), .cs (eTTerrain v27), .res (cB v29)] [] [(26, cB (!v29))] [] [] (fun t => (a2 eTTerrain h26 (aI rN ((a2 eTTerrain h28 (aI rN (aI (l_eqTerrain_ok v25 v27 v29 h30) (aI trivial (aI rN (t)))))))))) ?_
    rcases oC H with ⟨c31, H⟩ | ⟨c31, H⟩
    ·refine it c31 ?_
     refine so [] [] [(4, cB false)] [] id ?_
     refine ends_ret ?_
     cases H
     exact rsr
    ·refine jf c31 ?_
     refine sk ?_
     refine oo [] [] [(0, dc 5 eTTerrain zTTerrain p0), (1, dc 5 eTTerrain zTTerrain p1), (5, cI (W (x22 + 1)))] [] id ?_
     cases H
     exact rr
   ·refine jf c24 ?_
    refine tl [] [] [] id ?_
    refine ends_exit ?_
    cases H
    exact rse
  ·clear h33
   cases y32 with
   | inl y34 =>
    replace H := ofInl H
    rintro e s ⟨rfl, rfl⟩
    change EndsI _ _ _ _ _ _
    refine so [] [] [(4, cB true)] [] id ?_
    cases H
    exact er
   | inr y35 =>
    replace H := ofInr H
    rintro e s ⟨rfl, rfl⟩
    cases H
    exact qr
def l_eqKind_ir : S :=
 (sq [o 2 (.box 6 (.t 0)), o 3 (.box 6 (.t 1)), o 4 (.mv bF)]
 (.seq (sq [oa 5 0 2, ol 6 5, oa 7 0 3, ol 8 7, o 9 (.bin .neq (.t 6) (.t 8))]
 (.ite (.t 9) (sq [o 4 (.mv bF)]
  .ret)
 .skip))
 (.seq (sq [oa 10 1 2, ol 11 10, oa 12 1 3, ol 13 12, o 14 (.bin .neq (.t 11) (.t 13))]
 (.ite (.t 14) (sq [o 4 (.mv bF)]
  .ret)
 .skip))
 (.seq (sq [oa 15 2 2, ol 16 15, oa 17 2 3, ol 18 17, o 19 (.bin .neq (.t 16) (.t 18))]
 (.ite (.t 19) (sq [o 4 (.mv bF)]
  .ret)
 .skip))
 (.seq (sq [oa 20 3 2, ol 21 20, oa 22 3 3, ol 23 22, o 24 (.bin .neq (.t 21) (.t 23))]
 (.ite (.t 24) (sq [o 4 (.mv bF)]
  .ret)
 .skip))
 (.seq (sq [oa 25 4 2, ol 26 25, oa 27 4 3, ol 28 27, o 29 (.bqe true (.t 26) (.t 28))]
 (.ite (.t 29) (sq [o 4 (.mv bF)]
  .ret)
 .skip))
 (.seq (sq [oa 30 5 2, ol 31 30, oa 32 5 3, ol 33 32, o 34 (.bin .neq (.t 31) (.t 33))]
 (.ite (.t 34) (sq [o 4 (.mv bF)]
  .ret)
 .skip))
 (sq [o 4 (.mv bT)]
 .ret))))))))
noncomputable def X.l_eqKind (p0 : TKind) (p1 : TKind) : Option Bool :=
 (bif (!(p0.Name == p1.Name)) then some false else (bif (p0.Strength != p1.Strength) then some false else (bif (p0.Moves != p1.Moves) then some false else (bif (p0.Steps != p1.Steps) then some false else (bif (!(p0.Zone == p1.Zone)) then some false else (bif (p0.View != p1.View) then some false else some true))))))
theorem l_eqKind_ok (p0 : TKind) (p1 : TKind) (r : Bool) (H : X.l_eqKind p0 p1 = some r) : FK 96 [.agg (eTKind p0), .agg (eTKind p1)] (cB r) := by
 unfold X.l_eqKind at H
 refine fi Tryz.f96 l_eqKind_ir [(4, cB r)] [] glL Tryz.func96 ?_
 refine so [] [] [(2, pk 2), (3, pk 3)] [(2, va (eTKind p0)), (3, va (eTKind p1))] id ?_
 refine seq_in ?_
 refine sn [] [] [(9, cB (!(p0.Name == p1.Name)))] [] [] id ?_
 rcases oC H with ⟨c2, H⟩ | ⟨c2, H⟩
 ·refine it c2 ?_
  refine so [] [] [(4, cB false)] [] id ?_
  cases H
  exact er
 ·refine jf c2 ?_
  refine sk ?_
  refine seq_in ?_
  refine sn [] [] [(14, cB (p0.Strength != p1.Strength))] [] [] id ?_
  rcases oC H with ⟨c4, H⟩ | ⟨c4, H⟩
  ·refine it c4 ?_
   refine so [] [] [(4, cB false)] [] id ?_
   cases H
   exact er
  ·refine jf c4 ?_
   refine sk ?_
   refine seq_in ?_
   refine sn [] [] [(19, cB (p0.Moves != p1.Moves))] [] [] id ?_
   rcases oC H with ⟨c6, H⟩ | ⟨c6, H⟩
   ·refine it c6 ?_
    refine so [] [] [(4, cB false)] [] id ?_
    cases H
    exact er
   ·refine jf c6 ?_
    refine sk ?_
    refine seq_in ?_
    refine sn [] [] [(24, cB (p0.Steps != p1.Steps))] [] [] id ?_
    rcases oC H with ⟨c8, H⟩ | ⟨c8, H⟩
    ·refine it c8 ?_
     refine so [] [] [(4, cB false)] [] id ?_
     cases H
     exact er
    ·refine jf c8 ?_
     refine sk ?_
     refine seq_in ?_
     refine sn [] [] [(29, cB (!(p0.Zone == p1.Zone)))] [] [] id ?_
     rcases oC H with ⟨c10, H⟩ | ⟨c10, H⟩
     ·refine it c10 ?_
      refine so [] [] [(4, cB false)] [] id ?_
      cases H
      exact er
     ·refine jf c10 ?_
      refine sk ?_
      refine seq_in ?_
      refine so [] [] [(34, cB (p0.View != p1.View))] [] id ?_
      rcases oC H with ⟨c11, H⟩ | ⟨c11, H⟩
      ·refine it c11 ?_
       refine so [] [] [(4, cB false)] [] id ?_
       cases H
       exact er
      ·refine jf c11 ?_
       refine sk ?_
       refine so [] [] [(4, cB true)] [] id ?_
       cases H
       exact er
def l_eqKindS_ir : S :=
 (sq [o 4 (.mv bF)]
 (.seq (sq [om 6 0, o 7 (.len (.t 6)), om 8 1, o 9 (.len (.t 8)), o 10 (.bin .neq (.t 7) (.t 9))]
 (.ite (.t 10) (sq [o 4 (.mv bF)]
  .ret)
 .skip))
 (.seq (sq [o 5 (.mv (iv 0))]
 (.blk 0 (.loop (.seq (sq [om 11 5, om 12 0, o 13 (.len (.t 12)), o 14 (.bin .lss (.t 11) (.t 13))]
   (.ite (.t 14) .skip
   (.exit 0)))
   (.seq (.blk 1 (.seq (.drw [(0, 1), (0, 4), (1, 4), (2, 4), (3, 4), (0, 5), (1, 5), (2, 5), (3, 5), (4, 5), (0, 6), (1, 6), (2, 6), (3, 6), (0, 7), (1, 7), (2, 7), (3, 7)] [om 17 0, om 18 5, o 19 (.iad 6 (.t 17) (.t 18)), o 20 (.load 6 true (.t 19)), om 21 1, om 22 5, o 23 (.iad 6 (.t 21) (.t 22)), o 24 (.load 6 true (.t 23)), o 25 (.call 96 [.t 20, .t 24]), o 26 (.not (.t 25))])
    (.ite (.t 26) (sq [o 4 (.mv bF)]
     .ret)
    .skip)))
   (.ops [om 15 5, o 16 (.bin .add (.t 15) (iv 1)), om 5 16]))))))
 (sq [o 4 (.mv bT)]
 .ret))))
noncomputable def X.l_eqKindS (p0 : (List TKind)) (p1 : (List TKind)) : Option Bool :=
 (bif ((p0.length : Int) != (p1.length : Int)) then some false else ((loop (fun (x22 : Int) => ((bif (decide (x22 < (p0.length : Int))) then ((at' zTKind p0 x22).bind fun v25 => ((at' zTKind p1 x22).bind fun v27 => ((X.l_eqKind v25 v27).bind fun v29 => (bif (!v29) then some (Sum.inr (Sum.inr false)) else some (Sum.inl (W (x22 + 1))))))) else some (Sum.inr (Sum.inl ()))) : Option (Int ⊕ (Unit ⊕ Bool)))) 0).bind fun y32 => (Sum.elim (fun (y34 : Unit) => some true) (fun (y35 : Bool) => some y35) y32)))
theorem l_eqKindS_ok (p0 : (List TKind)) (p1 : (List TKind)) (r : Bool) (H : X.l_eqKindS p0 p1 = some r) : FK 58 [.c (dat 6 eTKind zTKind p0), .c (dat 6 eTKind zTKind p1)] (cB r) := by
 unfold X.l_eqKindS at H
 refine fi Tryz.f58 l_eqKindS_ir [(4, cB r)] [] glL Tryz.func58 ?_
 refine sn [] [] [] [] [] id ?_
 refine seq_in ?_
 refine sn [] [] [(10, cB ((p0.length : Int) != (p1.length : Int)))] [] [] (fun t => lI p0 (lI p1 (t))) ?_
 rcases oC H with ⟨c2, H⟩ | ⟨c2, H⟩
 ·refine it c2 ?_
  refine so [] [] [(4, cB false)] [] id ?_
  cases H
  exact er
 ·refine jf c2 ?_
  refine sk ?_
  refine seq_in ?_
  refine sn [] [] [(5, cI 0)] [] [] id ?_
  refine ends_blk ?_
  obtain ⟨y32, h33, H⟩ := oB H
  refine tl [] [(0, dc 6 eTKind zTKind p0), (1, dc 6 eTKind zTKind p1), (5, cI 0)] [] id ?_
  refine loop_in (fun (x : Int) => lit [(0, dc 6 eTKind zTKind p0), (1, dc 6 eTKind zTKind p1), (5, cI x)] []) (orJ (fun (z : Unit) => At (.exit 0) (lit [] [])) (fun (z : Bool) => At .ret (lit [(4, cB z)] []))) h33 ?_ ?_
  ·clear H h33
   intro x22 y0 H
   refine seq_in ?_
   refine sn [] [] [(14, cB (decide (x22 < (p0.length : Int))))] [] [] (fun t => lI p0 (t)) ?_
   rcases oC H with ⟨c24, H⟩ | ⟨c24, H⟩
   ·refine it c24 ?_
    refine sk ?_
    refine seq_in ?_
    refine ends_blk ?_
    obtain ⟨v25, h26, H⟩ := oB H
    obtain ⟨v27, h28, H⟩ := oB H
    obtain ⟨v29, h30, H⟩ := oB H
    refine xn [.cs (eTKind v25), .cs (eTKind v27), .res (cB v29)] [] [(26, cB (!v29))] [] [] (fun t => (a2 eTKind h26 (aI rN ((a2 eTKind h28 (aI rN (aI (l_eqKind_ok v25 v27 v29 h30) (aI trivial (aI rN (t)))))))))) ?_
    rcases oC H with ⟨c31, H⟩ | ⟨c31, H⟩
    ·refine it c31 ?_
     refine so [] [] [(4, cB false)] [] id ?_
     refine ends_ret ?_
     cases H
     exact rsr
    ·refine jf c31 ?_
     refine sk ?_
     refine oo [] [] [(0, dc 6 eTKind zTKind p0), (1, dc 6 eTKind zTKind p1), (5, cI (W (x22 + 1)))] [] id ?_
     cases H
     exact rr
   ·refine jf c24 ?_
    refine tl [] [] [] id ?_
    refine ends_exit ?_
    cases H
    exact rse
  ·clear h33
   cases y32 with
   | inl y34 =>
    replace H := ofInl H
    rintro e s ⟨rfl, rfl⟩
    change EndsI _ _ _ _ _ _
    refine so [] [] [(4, cB true)] [] id ?_
    cases H
    exact er
   | inr y35 =>
    replace H := ofInr H
    rintro e s ⟨rfl, rfl⟩
    cases H
    exact qr
def l_eqRules_ir : S :=
 (sq [o 2 (.box 7 (.t 0)), o 3 (.box 7 (.t 1)), o 4 (.mv bF)]
 (.seq (sq [oa 5 0 2, ol 6 5, oa 7 0 3, ol 8 7, o 9 (.call 57 [.t 6, .t 8]), o 10 (.not (.t 9))]
 (.ite (.t 10) (sq [o 4 (.mv bF)]
  .ret)
 .skip))
 (.seq (sq [oa 11 1 2, ol 12 11, oa 13 1 3, ol 14 13, o 15 (.call 58 [.t 12, .t 14]), o 16 (.not (.t 15))]
 (.ite (.t 16) (sq [o 4 (.mv bF)]
  .ret)
 .skip))
 (.seq (sq [oa 17 2 2, ol 18 17, oa 19 2 3, ol 20 19, o 21 (.bin .neq (.t 18) (.t 20))]
 (.ite (.t 21) (sq [o 4 (.mv bF)]
  .ret)
 .skip))
 (.seq (sq [oa 22 3 2, ol 23 22, oa 24 3 3, ol 25 24, o 26 (.bin .neq (.t 23) (.t 25))]
 (.ite (.t 26) (sq [o 4 (.mv bF)]
  .ret)
 .skip))
 (.seq (sq [oa 27 4 2, ol 28 27, oa 29 4 3, ol 30 29, o 31 (.bin .neq (.t 28) (.t 30))]
 (.ite (.t 31) (sq [o 4 (.mv bF)]
  .ret)
 .skip))
 (.seq (sq [oa 32 5 2, ol 33 32, oa 34 5 3, ol 35 34, o 36 (.bin .neq (.t 33) (.t 35))]
 (.ite (.t 36) (sq [o 4 (.mv bF)]
  .ret)
 .skip))
 (.seq (sq [oa 37 6 2, ol 38 37, oa 39 6 3, ol 40 39, o 41 (.bin .neq (.t 38) (.t 40))]
 (.ite (.t 41) (sq [o 4 (.mv bF)]
  .ret)
 .skip))
 (sq [o 4 (.mv bT)]
 .ret)))))))))
noncomputable def X.l_eqRules (p0 : TRules) (p1 : TRules) : Option Bool :=
 ((X.l_eqTerrainS p0.Terrains p1.Terrains).bind fun v4 => (bif (!v4) then some false else ((X.l_eqKindS p0.Kinds p1.Kinds).bind fun v10 => (bif (!v10) then some false else (bif (p0.Stack != p1.Stack) then some false else (bif (p0.River != p1.River) then some false else (bif (p0.Road != p1.Road) then some false else (bif (p0.Supply != p1.Supply) then some false else (bif (p0.Turns != p1.Turns) then some false else some true)))))))))
theorem l_eqRules_ok (p0 : TRules) (p1 : TRules) (r : Bool) (H : X.l_eqRules p0 p1 = some r) : FK 33 [.agg (eTRules p0), .agg (eTRules p1)] (cB r) := by
 unfold X.l_eqRules at H
 refine fi Tryz.f33 l_eqRules_ir [(4, cB r)] [] glL Tryz.func33 ?_
 refine so [] [] [(2, pk 2), (3, pk 3)] [(2, va (eTRules p0)), (3, va (eTRules p1))] id ?_
 refine seq_in ?_
 obtain ⟨v4, h5, H⟩ := oB H
 refine sn [.res (cB v4)] [] [(10, cB (!v4))] [] [] (aI (l_eqTerrainS_ok p0.Terrains p1.Terrains v4 h5)) ?_
 rcases oC H with ⟨c6, H⟩ | ⟨c6, H⟩
 ·refine it c6 ?_
  refine so [] [] [(4, cB false)] [] id ?_
  cases H
  exact er
 ·refine jf c6 ?_
  refine sk ?_
  refine seq_in ?_
  obtain ⟨v10, h11, H⟩ := oB H
  refine sn [.res (cB v10)] [] [(16, cB (!v10))] [] [] (aI (l_eqKindS_ok p0.Kinds p1.Kinds v10 h11)) ?_
  rcases oC H with ⟨c12, H⟩ | ⟨c12, H⟩
  ·refine it c12 ?_
   refine so [] [] [(4, cB false)] [] id ?_
   cases H
   exact er
  ·refine jf c12 ?_
   refine sk ?_
   refine seq_in ?_
   refine sn [] [] [(21, cB (p0.Stack != p1.Stack))] [] [] id ?_
   rcases oC H with ⟨c14, H⟩ | ⟨c14, H⟩
   ·refine it c14 ?_
    refine so [] [] [(4, cB false)] [] id ?_
    cases H
    exact er
   ·refine jf c14 ?_
    refine sk ?_
    refine seq_in ?_
    refine sn [] [] [(26, cB (p0.River != p1.River))] [] [] id ?_
    rcases oC H with ⟨c16, H⟩ | ⟨c16, H⟩
    ·refine it c16 ?_
     refine so [] [] [(4, cB false)] [] id ?_
     cases H
     exact er
    ·refine jf c16 ?_
     refine sk ?_
     refine seq_in ?_
     refine sn [] [] [(31, cB (p0.Road != p1.Road))] [] [] id ?_
     rcases oC H with ⟨c18, H⟩ | ⟨c18, H⟩
     ·refine it c18 ?_
      refine so [] [] [(4, cB false)] [] id ?_
      cases H
      exact er
     ·refine jf c18 ?_
      refine sk ?_
      refine seq_in ?_
      refine sn [] [] [(36, cB (p0.Supply != p1.Supply))] [] [] id ?_
      rcases oC H with ⟨c20, H⟩ | ⟨c20, H⟩
      ·refine it c20 ?_
       refine so [] [] [(4, cB false)] [] id ?_
       cases H
       exact er
      ·refine jf c20 ?_
       refine sk ?_
       refine seq_in ?_
       refine so [] [] [(41, cB (p0.Turns != p1.Turns))] [] id ?_
       rcases oC H with ⟨c21, H⟩ | ⟨c21, H⟩
       ·refine it c21 ?_
        refine so [] [] [(4, cB false)] [] id ?_
        cases H
        exact er
       ·refine jf c21 ?_
        refine sk ?_
        refine so [] [] [(4, cB true)] [] id ?_
        cases H
        exact er
def l_eqMap_ir : S :=
 (sq [o 2 (.box 5 (.t 0)), o 3 (.box 5 (.t 1)), o 4 (.mv bF)]
 (.seq (sq [oa 5 0 2, ol 6 5, oa 7 0 3, ol 8 7, o 9 (.bin .neq (.t 6) (.t 8))]
 (.ite (.t 9) (sq [o 4 (.mv bF)]
  .ret)
 .skip))
 (.seq (sq [oa 10 1 2, ol 11 10, oa 12 1 3, ol 13 12, o 14 (.bin .neq (.t 11) (.t 13))]
 (.ite (.t 14) (sq [o 4 (.mv bF)]
  .ret)
 .skip))
 (.seq (sq [oa 15 2 2, ol 16 15, oa 17 2 3, ol 18 17, o 19 (.call 35 [.t 16, .t 18]), o 20 (.not (.t 19))]
 (.ite (.t 20) (sq [o 4 (.mv bF)]
  .ret)
 .skip))
 (.seq (sq [oa 21 3 2, ol 22 21, oa 23 3 3, ol 24 23, o 25 (.call 35 [.t 22, .t 24]), o 26 (.not (.t 25))]
 (.ite (.t 26) (sq [o 4 (.mv bF)]
  .ret)
 .skip))
 (.seq (sq [oa 27 4 2, ol 28 27, oa 29 4 3, ol 30 29, o 31 (.call 35 [.t 28, .t 30]), o 32 (.not (.t 31))]
 (.ite (.t 32) (sq [o 4 (.mv bF)]
  .ret)
 .skip))
 (sq [o 4 (.mv bT)]
 .ret)))))))
noncomputable def X.l_eqMap (p0 : TMap) (p1 : TMap) : Option Bool :=
 (bif (p0.Width != p1.Width) then some false else (bif (p0.Height != p1.Height) then some false else ((X.l_eqIntS p0.Terrain p1.Terrain).bind fun v8 => (bif (!v8) then some false else ((X.l_eqIntS p0.Rivers p1.Rivers).bind fun v14 => (bif (!v14) then some false else ((X.l_eqIntS p0.Roads p1.Roads).bind fun v17 => (bif (!v17) then some false else some true))))))))
theorem l_eqMap_ok (p0 : TMap) (p1 : TMap) (r : Bool) (H : X.l_eqMap p0 p1 = some r) : FK 34 [.agg (eTMap p0), .agg (eTMap p1)] (cB r) := by
 unfold X.l_eqMap at H
 refine fi Tryz.f34 l_eqMap_ir [(4, cB r)] [] glL Tryz.func34 ?_
 refine so [] [] [(2, pk 2), (3, pk 3)] [(2, va (eTMap p0)), (3, va (eTMap p1))] id ?_
 refine seq_in ?_
 refine sn [] [] [(9, cB (p0.Width != p1.Width))] [] [] id ?_
 rcases oC H with ⟨c2, H⟩ | ⟨c2, H⟩
 ·refine it c2 ?_
  refine so [] [] [(4, cB false)] [] id ?_
  cases H
  exact er
 ·refine jf c2 ?_
  refine sk ?_
  refine seq_in ?_
  refine sn [] [] [(14, cB (p0.Height != p1.Height))] [] [] id ?_
  rcases oC H with ⟨c4, H⟩ | ⟨c4, H⟩
  ·refine it c4 ?_
   refine so [] [] [(4, cB false)] [] id ?_
   cases H
   exact er
  ·refine jf c4 ?_
   refine sk ?_
   refine seq_in ?_
   obtain ⟨v8, h9, H⟩ := oB H
   refine sn [.res (cB v8)] [] [(20, cB (!v8))] [] [] (aI (l_eqIntS_ok p0.Terrain p1.Terrain v8 h9)) ?_
   rcases oC H with ⟨c10, H⟩ | ⟨c10, H⟩
   ·refine it c10 ?_
    refine so [] [] [(4, cB false)] [] id ?_
    cases H
    exact er
   ·refine jf c10 ?_
    refine sk ?_
    refine seq_in ?_
    obtain ⟨v14, h15, H⟩ := oB H
    refine sn [.res (cB v14)] [] [(26, cB (!v14))] [] [] (aI (l_eqIntS_ok p0.Rivers p1.Rivers v14 h15)) ?_
    rcases oC H with ⟨c16, H⟩ | ⟨c16, H⟩
    ·refine it c16 ?_
     refine so [] [] [(4, cB false)] [] id ?_
     cases H
     exact er
    ·refine jf c16 ?_
     refine sk ?_
     refine seq_in ?_
     obtain ⟨v17, h18, H⟩ := oB H
     refine so [.res (cB v17)] [] [(32, cB (!v17))] [] (aI (l_eqIntS_ok p0.Roads p1.Roads v17 h18)) ?_
     rcases oC H with ⟨c19, H⟩ | ⟨c19, H⟩
     ·refine it c19 ?_
      refine so [] [] [(4, cB false)] [] id ?_
      cases H
      exact er
     ·refine jf c19 ?_
      refine sk ?_
      refine so [] [] [(4, cB true)] [] id ?_
      cases H
      exact er
def l_eqBoard_ir : S :=
 (sq [o 2 (.box 12 (.t 0)), o 3 (.box 12 (.t 1)), o 4 (.mv bF)]
 (.seq (sq [oa 5 0 2, o 6 (.load 7 true (.t 5)), oa 7 0 3, o 8 (.load 7 true (.t 7)), o 9 (.call 33 [.t 6, .t 8]), o 10 (.not (.t 9))]
 (.ite (.t 10) (sq [o 4 (.mv bF)]
  .ret)
 .skip))
 (.seq (sq [oa 11 7 2, o 12 (.load 5 true (.t 11)), oa 13 7 3, o 14 (.load 5 true (.t 13)), o 15 (.call 34 [.t 12, .t 14]), o 16 (.not (.t 15))]
 (.ite (.t 16) (sq [o 4 (.mv bF)]
  .ret)
 .skip))
 (sq [o 4 (.mv bT)]
 .ret))))
noncomputable def X.l_eqBoard (p0 : TBoard) (p1 : TBoard) : Option Bool :=
 ((X.l_eqRules p0.Rules p1.Rules).bind fun v4 => (bif (!v4) then some false else ((X.l_eqMap p0.Map p1.Map).bind fun v7 => (bif (!v7) then some false else some true))))
theorem l_eqBoard_ok (p0 : TBoard) (p1 : TBoard) (r : Bool) (H : X.l_eqBoard p0 p1 = some r) : FK 12 [.agg (eTBoard p0), .agg (eTBoard p1)] (cB r) := by
 unfold X.l_eqBoard at H
 refine fi Tryz.f12 l_eqBoard_ir [(4, cB r)] [] glL Tryz.func12 ?_
 refine so [] [] [(2, pk 2), (3, pk 3)] [(2, va (eTBoard p0)), (3, va (eTBoard p1))] id ?_
 refine seq_in ?_
 obtain ⟨v4, h5, H⟩ := oB H
 refine sn [.res (cB v4)] [] [(10, cB (!v4))] [] [] (aI (l_eqRules_ok p0.Rules p1.Rules v4 h5)) ?_
 rcases oC H with ⟨c6, H⟩ | ⟨c6, H⟩
 ·refine it c6 ?_
  refine so [] [] [(4, cB false)] [] id ?_
  cases H
  exact er
 ·refine jf c6 ?_
  refine sk ?_
  refine seq_in ?_
  obtain ⟨v7, h8, H⟩ := oB H
  refine so [.res (cB v7)] [] [(16, cB (!v7))] [] (aI (l_eqMap_ok p0.Map p1.Map v7 h8)) ?_
  rcases oC H with ⟨c9, H⟩ | ⟨c9, H⟩
  ·refine it c9 ?_
   refine so [] [] [(4, cB false)] [] id ?_
   cases H
   exact er
  ·refine jf c9 ?_
   refine sk ?_
   refine so [] [] [(4, cB true)] [] id ?_
   cases H
   exact er
def l_eqUnit_ir : S :=
 (sq [o 2 (.box 4 (.t 0)), o 3 (.box 4 (.t 1)), o 4 (.mv bF)]
 (.seq (sq [oa 5 0 2, ol 6 5, oa 7 0 3, ol 8 7, o 9 (.bin .neq (.t 6) (.t 8))]
 (.ite (.t 9) (sq [o 4 (.mv bF)]
  .ret)
 .skip))
 (.seq (sq [oa 10 1 2, ol 11 10, oa 12 1 3, ol 13 12, o 14 (.bin .neq (.t 11) (.t 13))]
 (.ite (.t 14) (sq [o 4 (.mv bF)]
  .ret)
 .skip))
 (.seq (sq [oa 15 2 2, ol 16 15, oa 17 2 3, ol 18 17, o 19 (.bin .neq (.t 16) (.t 18))]
 (.ite (.t 19) (sq [o 4 (.mv bF)]
  .ret)
 .skip))
 (.seq (sq [oa 20 3 2, ol 21 20, oa 22 3 3, ol 23 22, o 24 (.bin .neq (.t 21) (.t 23))]
 (.ite (.t 24) (sq [o 4 (.mv bF)]
  .ret)
 .skip))
 (sq [o 4 (.mv bT)]
 .ret))))))
noncomputable def X.l_eqUnit (p0 : TUnit) (p1 : TUnit) : Option Bool :=
 (bif (p0.Side != p1.Side) then some false else (bif (p0.Kind != p1.Kind) then some false else (bif (p0.At != p1.At) then some false else (bif (p0.Steps != p1.Steps) then some false else some true))))
theorem l_eqUnit_ok (p0 : TUnit) (p1 : TUnit) (r : Bool) (H : X.l_eqUnit p0 p1 = some r) : FK 59 [.agg (eTUnit p0), .agg (eTUnit p1)] (cB r) := by
 unfold X.l_eqUnit at H
 refine fi Tryz.f59 l_eqUnit_ir [(4, cB r)] [] glL Tryz.func59 ?_
 refine so [] [] [(2, pk 2), (3, pk 3)] [(2, va (eTUnit p0)), (3, va (eTUnit p1))] id ?_
 refine seq_in ?_
 refine sn [] [] [(9, cB (p0.Side != p1.Side))] [] [] id ?_
 rcases oC H with ⟨c2, H⟩ | ⟨c2, H⟩
 ·refine it c2 ?_
  refine so [] [] [(4, cB false)] [] id ?_
  cases H
  exact er
 ·refine jf c2 ?_
  refine sk ?_
  refine seq_in ?_
  refine sn [] [] [(14, cB (p0.Kind != p1.Kind))] [] [] id ?_
  rcases oC H with ⟨c4, H⟩ | ⟨c4, H⟩
  ·refine it c4 ?_
   refine so [] [] [(4, cB false)] [] id ?_
   cases H
   exact er
  ·refine jf c4 ?_
   refine sk ?_
   refine seq_in ?_
   refine sn [] [] [(19, cB (p0.At != p1.At))] [] [] id ?_
   rcases oC H with ⟨c6, H⟩ | ⟨c6, H⟩
   ·refine it c6 ?_
    refine so [] [] [(4, cB false)] [] id ?_
    cases H
    exact er
   ·refine jf c6 ?_
    refine sk ?_
    refine seq_in ?_
    refine so [] [] [(24, cB (p0.Steps != p1.Steps))] [] id ?_
    rcases oC H with ⟨c7, H⟩ | ⟨c7, H⟩
    ·refine it c7 ?_
     refine so [] [] [(4, cB false)] [] id ?_
     cases H
     exact er
    ·refine jf c7 ?_
     refine sk ?_
     refine so [] [] [(4, cB true)] [] id ?_
     cases H
     exact er
def l_eqUnitS_ir : S :=
 (sq [o 4 (.mv bF)]
 (.seq (sq [om 6 0, o 7 (.len (.t 6)), om 8 1, o 9 (.len (.t 8)), o 10 (.bin .neq (.t 7) (.t 9))]
 (.ite (.t 10) (sq [o 4 (.mv bF)]
  .ret)
 .skip))
 (.seq (sq [o 5 (.mv (iv 0))]
 (.blk 0 (.loop (.seq (sq [om 11 5, om 12 0, o 13 (.len (.t 12)), o 14 (.bin .lss (.t 11) (.t 13))]
   (.ite (.t 14) .skip
   (.exit 0)))
   (.seq (.blk 1 (.seq (.drw [(0, 1), (0, 4), (1, 4), (2, 4), (3, 4), (0, 5), (1, 5), (2, 5), (3, 5), (4, 5), (0, 6), (1, 6), (2, 6), (3, 6), (0, 7), (1, 7), (2, 7), (3, 7)] [om 17 0, om 18 5, o 19 (.iad 4 (.t 17) (.t 18)), o 20 (.load 4 true (.t 19)), om 21 1, om 22 5, o 23 (.iad 4 (.t 21) (.t 22)), o 24 (.load 4 true (.t 23)), o 25 (.call 59 [.t 20, .t 24]), o 26 (.not (.t 25))])
    (.ite (.t 26) (sq [o 4 (.mv bF)]
     .ret)
    .skip)))
   (.ops [om 15 5, o 16 (.bin .add (.t 15) (iv 1)), om 5 16]))))))
 (sq [o 4 (.mv bT)]
 .ret))))
noncomputable def X.l_eqUnitS (p0 : (List TUnit)) (p1 : (List TUnit)) : Option Bool :=
 (bif ((p0.length : Int) != (p1.length : Int)) then some false else ((loop (fun (x22 : Int) => ((bif (decide (x22 < (p0.length : Int))) then ((at' zTUnit p0 x22).bind fun v25 => ((at' zTUnit p1 x22).bind fun v27 => ((X.l_eqUnit v25 v27).bind fun v29 => (bif (!v29) then some (Sum.inr (Sum.inr false)) else some (Sum.inl (W (x22 + 1))))))) else some (Sum.inr (Sum.inl ()))) : Option (Int ⊕ (Unit ⊕ Bool)))) 0).bind fun y32 => (Sum.elim (fun (y34 : Unit) => some true) (fun (y35 : Bool) => some y35) y32)))
theorem l_eqUnitS_ok (p0 : (List TUnit)) (p1 : (List TUnit)) (r : Bool) (H : X.l_eqUnitS p0 p1 = some r) : FK 36 [.c (dat 4 eTUnit zTUnit p0), .c (dat 4 eTUnit zTUnit p1)] (cB r) := by
 unfold X.l_eqUnitS at H
 refine fi Tryz.f36 l_eqUnitS_ir [(4, cB r)] [] glL Tryz.func36 ?_
 refine sn [] [] [] [] [] id ?_
 refine seq_in ?_
 refine sn [] [] [(10, cB ((p0.length : Int) != (p1.length : Int)))] [] [] (fun t => lI p0 (lI p1 (t))) ?_
 rcases oC H with ⟨c2, H⟩ | ⟨c2, H⟩
 ·refine it c2 ?_
  refine so [] [] [(4, cB false)] [] id ?_
  cases H
  exact er
 ·refine jf c2 ?_
  refine sk ?_
  refine seq_in ?_
  refine sn [] [] [(5, cI 0)] [] [] id ?_
  refine ends_blk ?_
  obtain ⟨y32, h33, H⟩ := oB H
  refine tl [] [(0, dc 4 eTUnit zTUnit p0), (1, dc 4 eTUnit zTUnit p1), (5, cI 0)] [] id ?_
  refine loop_in (fun (x : Int) => lit [(0, dc 4 eTUnit zTUnit p0), (1, dc 4 eTUnit zTUnit p1), (5, cI x)] []) (orJ (fun (z : Unit) => At (.exit 0) (lit [] [])) (fun (z : Bool) => At .ret (lit [(4, cB z)] []))) h33 ?_ ?_
  ·clear H h33
   intro x22 y0 H
   refine seq_in ?_
   refine sn [] [] [(14, cB (decide (x22 < (p0.length : Int))))] [] [] (fun t => lI p0 (t)) ?_
   rcases oC H with ⟨c24, H⟩ | ⟨c24, H⟩
   ·refine it c24 ?_
    refine sk ?_
    refine seq_in ?_
    refine ends_blk ?_
    obtain ⟨v25, h26, H⟩ := oB H
    obtain ⟨v27, h28, H⟩ := oB H
    obtain ⟨v29, h30, H⟩ := oB H
    refine xn [.cs (eTUnit v25), .cs (eTUnit v27), .res (cB v29)] [] [(26, cB (!v29))] [] [] (fun t => (a2 eTUnit h26 (aI rN ((a2 eTUnit h28 (aI rN (aI (l_eqUnit_ok v25 v27 v29 h30) (aI trivial (aI rN (t)))))))))) ?_
    rcases oC H with ⟨c31, H⟩ | ⟨c31, H⟩
    ·refine it c31 ?_
     refine so [] [] [(4, cB false)] [] id ?_
     refine ends_ret ?_
     cases H
     exact rsr
    ·refine jf c31 ?_
     refine sk ?_
     refine oo [] [] [(0, dc 4 eTUnit zTUnit p0), (1, dc 4 eTUnit zTUnit p1), (5, cI (W (x22 + 1)))] [] id ?_
     cases H
     exact rr
   ·refine jf c24 ?_
    refine tl [] [] [] id ?_
    refine ends_exit ?_
    cases H
    exact rse
  ·clear h33
   cases y32 with
   | inl y34 =>
    replace H := ofInl H
    rintro e s ⟨rfl, rfl⟩
    change EndsI _ _ _ _ _ _
    refine so [] [] [(4, cB true)] [] id ?_
    cases H
    exact er
   | inr y35 =>
    replace H := ofInr H
    rintro e s ⟨rfl, rfl⟩
    cases H
    exact qr
def l_eqView_ir : S :=
 (sq [o 2 (.box 6 (.t 0)), o 3 (.box 6 (.t 1)), o 4 (.mv bF)]
 (.seq (sq [oa 5 0 2, ol 6 5, oa 7 0 3, ol 8 7, o 9 (.bin .neq (.t 6) (.t 8))]
 (.ite (.t 9) (sq [o 4 (.mv bF)]
  .ret)
 .skip))
 (.seq (sq [oa 10 1 2, ol 11 10, oa 12 1 3, ol 13 12, o 14 (.bin .neq (.t 11) (.t 13))]
 (.ite (.t 14) (sq [o 4 (.mv bF)]
  .ret)
 .skip))
 (.seq (sq [oa 15 2 2, ol 16 15, oa 17 2 3, ol 18 17, o 19 (.bin .neq (.t 16) (.t 18))]
 (.ite (.t 19) (sq [o 4 (.mv bF)]
  .ret)
 .skip))
 (.seq (sq [oa 20 3 2, ol 21 20, oa 22 3 3, ol 23 22, o 24 (.call 35 [.t 21, .t 23]), o 25 (.not (.t 24))]
 (.ite (.t 25) (sq [o 4 (.mv bF)]
  .ret)
 .skip))
 (.seq (sq [oa 26 4 2, ol 27 26, oa 28 4 3, ol 29 28, o 30 (.call 36 [.t 27, .t 29]), o 31 (.not (.t 30))]
 (.ite (.t 31) (sq [o 4 (.mv bF)]
  .ret)
 .skip))
 (.seq (sq [oa 32 5 2, ol 33 32, oa 34 5 3, ol 35 34, o 36 (.call 36 [.t 33, .t 35]), o 37 (.not (.t 36))]
 (.ite (.t 37) (sq [o 4 (.mv bF)]
  .ret)
 .skip))
 (sq [o 4 (.mv bT)]
 .ret))))))))
noncomputable def X.l_eqView (p0 : TView) (p1 : TView) : Option Bool :=
 (bif (p0.Side != p1.Side) then some false else (bif (p0.Turn != p1.Turn) then some false else (bif (p0.Weather != p1.Weather) then some false else ((X.l_eqIntS p0.Seen p1.Seen).bind fun v10 => (bif (!v10) then some false else ((X.l_eqUnitS p0.Own p1.Own).bind fun v16 => (bif (!v16) then some false else ((X.l_eqUnitS p0.Enemies p1.Enemies).bind fun v19 => (bif (!v19) then some false else some true)))))))))
theorem l_eqView_ok (p0 : TView) (p1 : TView) (r : Bool) (H : X.l_eqView p0 p1 = some r) : FK 13 [.agg (eTView p0), .agg (eTView p1)] (cB r) := by
 unfold X.l_eqView at H
 refine fi Tryz.f13 l_eqView_ir [(4, cB r)] [] glL Tryz.func13 ?_
 refine so [] [] [(2, pk 2), (3, pk 3)] [(2, va (eTView p0)), (3, va (eTView p1))] id ?_
 refine seq_in ?_
 refine sn [] [] [(9, cB (p0.Side != p1.Side))] [] [] id ?_
 rcases oC H with ⟨c2, H⟩ | ⟨c2, H⟩
 ·refine it c2 ?_
  refine so [] [] [(4, cB false)] [] id ?_
  cases H
  exact er
 ·refine jf c2 ?_
  refine sk ?_
  refine seq_in ?_
  refine sn [] [] [(14, cB (p0.Turn != p1.Turn))] [] [] id ?_
  rcases oC H with ⟨c4, H⟩ | ⟨c4, H⟩
  ·refine it c4 ?_
   refine so [] [] [(4, cB false)] [] id ?_
   cases H
   exact er
  ·refine jf c4 ?_
   refine sk ?_
   refine seq_in ?_
   refine sn [] [] [(19, cB (p0.Weather != p1.Weather))] [] [] id ?_
   rcases oC H with ⟨c6, H⟩ | ⟨c6, H⟩
   ·refine it c6 ?_
    refine so [] [] [(4, cB false)] [] id ?_
    cases H
    exact er
   ·refine jf c6 ?_
    refine sk ?_
    refine seq_in ?_
    obtain ⟨v10, h11, H⟩ := oB H
    refine sn [.res (cB v10)] [] [(25, cB (!v10))] [] [] (aI (l_eqIntS_ok p0.Seen p1.Seen v10 h11)) ?_
    rcases oC H with ⟨c12, H⟩ | ⟨c12, H⟩
    ·refine it c12 ?_
     refine so [] [] [(4, cB false)] [] id ?_
     cases H
     exact er
    ·refine jf c12 ?_
     refine sk ?_
     refine seq_in ?_
     obtain ⟨v16, h17, H⟩ := oB H
     refine sn [.res (cB v16)] [] [(31, cB (!v16))] [] [] (aI (l_eqUnitS_ok p0.Own p1.Own v16 h17)) ?_
     rcases oC H with ⟨c18, H⟩ | ⟨c18, H⟩
     ·refine it c18 ?_
      refine so [] [] [(4, cB false)] [] id ?_
      cases H
      exact er
     ·refine jf c18 ?_
      refine sk ?_
      refine seq_in ?_
      obtain ⟨v19, h20, H⟩ := oB H
      refine so [.res (cB v19)] [] [(37, cB (!v19))] [] (aI (l_eqUnitS_ok p0.Enemies p1.Enemies v19 h20)) ?_
      rcases oC H with ⟨c21, H⟩ | ⟨c21, H⟩
      ·refine it c21 ?_
       refine so [] [] [(4, cB false)] [] id ?_
       cases H
       exact er
      ·refine jf c21 ?_
       refine sk ?_
       refine so [] [] [(4, cB true)] [] id ?_
       cases H
       exact er
def l_FnExactReportText_ir : S :=
 (sq [o 2 (.box 12 (.t 0)), o 3 (.box 6 (.t 1)), o 4 (.mv bF)]
 (sq [o 5 (.mv (iv 1048576))]
 (sq [o 12 (.load 12 true (.t 2)), om 13 5, o 14 (.call 6 [.t 12, .t 13]), om 5 14]
 (.seq (sq [om 15 5, o 16 (.bin .lss (.t 15) (iv 0))]
 (.ite (.t 16) (sq [o 4 (.mv bT)]
  .ret)
 .skip))
 (sq [o 17 (.load 6 true (.t 3)), om 18 5, o 19 (.call 7 [.t 17, .t 18]), om 5 19]
 (.seq (sq [om 20 5, o 21 (.bin .lss (.t 20) (iv 0))]
 (.ite (.t 21) (sq [o 4 (.mv bT)]
  .ret)
 .skip))
 (.seq (.drw [(0, 2), (1, 2), (6, 7), (7, 8)] [o 23 (.load 12 true (.t 2)), o 24 (.call 9 [.t 23]), o 25 (.load 6 true (.t 3)), o 26 (.call 10 [.t 25]), o 27 (.call 8 [.t 24, .t 26]), om 22 27, o 28 (.ext (.t 22) 0), o 29 (.ext (.t 22) 1), om 6 28, om 7 29])
 (sq [o 30 (.load 12 true (.t 2)), o 31 (.call 9 [.t 30]), o 8 (.alloc [.nil, .nil, .int .i64 0, .int .i64 0, .int .i64 0, .int .i64 0, .int .i64 0, .int .i64 0, .int .i64 0, .nil, .nil, .nil]), os 12 8 31]
 (sq [o 32 (.load 6 true (.t 3)), o 33 (.call 10 [.t 32]), o 9 (.alloc [.int .i64 0, .int .i64 0, .int .i64 0, .nil, .nil, .nil]), os 6 9 33]
 (sq [o 35 (.load 12 true (.t 8)), o 36 (.load 6 true (.t 9)), o 37 (.call 11 [.t 35, .t 36]), om 34 37, o 38 (.ext (.t 34) 0), o 39 (.ext (.t 34) 1), om 10 38, om 11 39]
 (.seq (sq [om 40 10, om 41 6, o 42 (.bin .neq (.t 40) (.t 41)), om 43 42, og 44 (.mv (.t 11)) 43, og 45 (.mv (.t 7)) 43, og 46 (.bqe true (.t 44) (.t 45)) 43, o 47 (.pick (.t 43) bT (.t 46))]
 (.ite (.t 47) (sq [o 4 (.mv bF)]
  .ret)
 .skip))
 (.seq (.seq (.drw [(0, 1), (0, 2)] [o 48 (.load 12 true (.t 8)), o 49 (.load 12 true (.t 2)), o 50 (.call 9 [.t 49]), o 51 (.call 12 [.t 48, .t 50]), o 52 (.not (.t 51))])
 (.ite (.t 52) (sq [o 4 (.mv bF)]
  .ret)
 .skip))
 (.seq (.seq (.drw [(0, 1), (0, 2)] [o 53 (.load 6 true (.t 9)), o 54 (.load 6 true (.t 3)), o 55 (.call 10 [.t 54]), o 56 (.call 13 [.t 53, .t 55]), o 57 (.not (.t 56))])
 (.ite (.t 57) (sq [o 4 (.mv bF)]
  .ret)
 .skip))
 (sq [o 4 (.mv bT)]
 .ret))))))))))))))
noncomputable def X.l_FnExactReportText (p0 : TBoard) (p1 : TView) : Option Bool :=
 ((X.l_szBoard p0 1048576).bind fun v1 => (bif (decide (v1 < 0)) then some true else ((X.l_szView p1 v1).bind fun v5 => (bif (decide (v5 < 0)) then some true else ((X.l_toBoard p0).bind fun v9 => ((X.l_toView p1).bind fun v11 => ((X.s_ReportText v9 v11).bind fun v13 => ((X.l_toBoard p0).bind fun v15 => ((X.l_toView p1).bind fun v17 => ((X.i_ReportText v15 v17).bind fun v19 => (bif (!(v19.1 == v13.1)) then some false else (bif (!(v19.2 == v13.2)) then some false else ((X.l_toBoard p0).bind fun v30 => ((X.l_eqBoard v15 v30).bind fun v32 => (bif (!v32) then some false else ((X.l_toView p1).bind fun v35 => ((X.l_eqView v17 v35).bind fun v37 => (bif (!v37) then some false else some true))))))))))))))))))
theorem l_FnExactReportText_ok (p0 : TBoard) (p1 : TView) (r : Bool) (H : X.l_FnExactReportText p0 p1 = some r) : FK 3 [.agg (eTBoard p0), .agg (eTView p1)] (cB r) := by
 unfold X.l_FnExactReportText at H
 refine fi Tryz.f3 l_FnExactReportText_ir [(4, cB r)] [] glL Tryz.func3 ?_
 refine so [] [] [(2, pk 2), (3, pk 3)] [(2, va (eTBoard p0)), (3, va (eTView p1))] id ?_
 refine sn [] [] [(5, cI 1048576)] [] [] id ?_
 obtain ⟨v1, h2, H⟩ := oB H
 refine so [.res (cI v1)] [] [(2, pk 2), (3, pk 3), (5, cI v1)] [(2, va (eTBoard p0)), (3, va (eTView p1))] (aI (l_szBoard_ok p0 1048576 v1 h2)) ?_
 refine seq_in ?_
 refine sn [] [] [(16, cB (decide (v1 < 0)))] [] [] id ?_
 rcases oC H with ⟨c4, H⟩ | ⟨c4, H⟩
 ·refine it c4 ?_
  refine so [] [] [(4, cB true)] [] id ?_
  cases H
  exact er
 ·refine jf c4 ?_
  refine sk ?_
  obtain ⟨v5, h6, H⟩ := oB H
  refine so [.res (cI v5)] [] [(2, pk 2), (3, pk 3), (5, cI v5)] [(2, va (eTBoard p0)), (3, va (eTView p1))] (aI (l_szView_ok p1 v1 v5 h6)) ?_
  refine seq_in ?_
  refine sn [] [] [(21, cB (decide (v5 < 0)))] [] [] id ?_
  rcases oC H with ⟨c8, H⟩ | ⟨c8, H⟩
  ·refine it c8 ?_
   refine so [] [] [(4, cB true)] [] id ?_
   cases H
   exact er
  ·refine jf c8 ?_
   refine sk ?_
   obtain ⟨v9, h10, H⟩ := oB H
   obtain ⟨v11, h12, H⟩ := oB H
   obtain ⟨v13, h14, H⟩ := oB H
   refine xn [.res (.agg (eTBoard v9)), .res (.agg (eTView v11)), .res (.tup [(false, [.str v13.1]), (false, [.bool v13.2])])] [] [(6, .c (.str v13.1)), (7, cB v13.2)] [] [] (fun t => aI (l_toBoard_ok p0 v9 h10) (aG 2 rN (aI (l_toView_ok p1 v11 h12) (aG 2 rN (aI (s_ReportText_ok v9 v11 v13 h14) (aI trivial (aI rN (t)))))))) ?_
   obtain ⟨v15, h16, H⟩ := oB H
   refine sn [.res (.agg (eTBoard v15))] [] [(8, pk 8)] [] [(8, va (eTBoard v15))] (aI (l_toBoard_ok p0 v15 h16)) ?_
   obtain ⟨v17, h18, H⟩ := oB H
   refine sn [.res (.agg (eTView v17))] [] [(9, pk 9)] [] [(9, va (eTView v17))] (aI (l_toView_ok p1 v17 h18)) ?_
   obtain ⟨v19, h20, H⟩ := oB H
   refine sn [.res (.tup [(false, [.str v19.1]), (false, [.bool v19.2])])] [] [(10, .c (.str v19.1)), (11, cB v19.2)] [] [] (aI (i_ReportText_ok v15 v17 v19 h20)) ?_
   refine seq_in ?_
   rcases oC H with ⟨c23, H⟩ | ⟨c23, H⟩
   ·refine sn (rg 4 true []) [] [(47, cB true)] [] [] (fun t => aG 4 c23 (t)) ?_
    refine it rT ?_
    refine so [] [] [(4, cB false)] [] id ?_
    cases H
    exact er
   ·refine sn (rg 4 false []) [] [(47, cB (!(v19.2 == v13.2)))] [] [] (fun t => aG 4 c23 (t)) ?_
    rcases oC H with ⟨c24, H⟩ | ⟨c24, H⟩
    ·refine it c24 ?_
     refine so [] [] [(4, cB false)] [] id ?_
     cases H
     exact er
    ·refine jf c24 ?_
     refine sk ?_
     refine seq_in ?_
     obtain ⟨v30, h31, H⟩ := oB H
     obtain ⟨v32, h33, H⟩ := oB H
     refine xn [.res (.agg (eTBoard v30)), .res (cB v32)] [] [(52, cB (!v32))] [] [] (fun t => aI (l_toBoard_ok p0 v30 h31) (aG 2 rN (aI (l_eqBoard_ok v15 v30 v32 h33) (aI trivial (aI rN (t)))))) ?_
     rcases oC H with ⟨c34, H⟩ | ⟨c34, H⟩
     ·refine it c34 ?_
      refine so [] [] [(4, cB false)] [] id ?_
      cases H
      exact er
     ·refine jf c34 ?_
      refine sk ?_
      refine seq_in ?_
      obtain ⟨v35, h36, H⟩ := oB H
      obtain ⟨v37, h38, H⟩ := oB H
      refine sx [.res (.agg (eTView v35)), .res (cB v37)] [] [(57, cB (!v37))] [] (fun t => aI (l_toView_ok p1 v35 h36) (aG 2 rN (aI (l_eqView_ok v17 v35 v37 h38) (aI trivial (aI rN (t)))))) ?_
      rcases oC H with ⟨c39, H⟩ | ⟨c39, H⟩
      ·refine it c39 ?_
       refine so [] [] [(4, cB false)] [] id ?_
       cases H
       exact er
      ·refine jf c39 ?_
       refine sk ?_
       refine so [] [] [(4, cB true)] [] id ?_
       cases H
       exact er
end Go.Proofs.YtockjpnbfllmaaaGreatDoor.X0
