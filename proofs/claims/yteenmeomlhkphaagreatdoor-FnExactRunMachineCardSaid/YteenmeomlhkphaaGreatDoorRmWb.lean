/- What each function that FnExactRunMachine reaches computes; no condition. -/
import Derived.Test.YteenmeomlhkphaaGreatDoorRmWa
set_option linter.unusedVariables false
set_option linter.unusedSimpArgs false
set_option maxRecDepth 100000
namespace Go.Proofs.YteenmeomlhkphaaGreatDoor.X0
open Go Go.RowKit Go.Proofs.YteenmeomlhkphaaGreatDoor.Ab Go.Proofs

def s_sUnit_ir : S :=
 (sq [o 2 (.box 12 (.t 0)), o 3 (.box 4 (.t 1)), o 4 (.mv bF)]
 (.seq (.seq (.drw [(5, 7), (6, 7), (5, 8), (6, 8), (5, 9), (6, 9), (5, 10), (6, 10), (5, 11), (6, 11), (16, 18), (17, 18), (16, 19), (17, 19), (16, 20), (17, 20), (16, 21), (17, 21), (18, 21), (19, 21), (20, 21), (16, 22), (17, 22), (18, 22), (19, 22), (20, 22), (16, 23), (17, 23), (16, 24), (17, 24), (16, 25), (17, 25)] [oa 5 0 3, ol 6 5, o 7 (.call 91 [.t 6, .v (.int .i64 0), .v (.int .i64 1)]), o 8 (.not (.t 7)), om 9 8, og 10 (.fad 1 (.t 3)) 9, og 11 (.load 1 false (.t 10)) 9, og 12 (.fad 0 (.t 2)) 9, og 13 (.fad 1 (.t 12)) 9, og 14 (.load 1 false (.t 13)) 9, og 15 (.len (.t 14)) 9, og 16 (.bin .sub (.t 15) (iv 1)) 9, og 17 (.call 91 [.t 11, .v (.int .i64 0), .t 16]) 9, og 18 (.not (.t 17)) 9, o 19 (.pick (.t 9) bT (.t 18)), om 20 19, og 21 (.fad 3 (.t 3)) 20, og 22 (.load 1 false (.t 21)) 20, og 23 (.fad 0 (.t 2)) 20, og 24 (.fad 1 (.t 23)) 20, og 25 (.load 1 false (.t 24)) 20, og 26 (.fad 1 (.t 3)) 20, og 27 (.load 1 false (.t 26)) 20, og 28 (.iad 6 (.t 25) (.t 27)) 20, og 29 (.fad 3 (.t 28)) 20, og 30 (.load 1 false (.t 29)) 20, og 31 (.call 91 [.t 22, .v (.int .i64 0), .t 30]) 20, og 32 (.not (.t 31)) 20, o 33 (.pick (.t 20) bT (.t 32))])
 (.ite (.t 33) (sq [o 4 (.mv bF)]
  .ret)
 .skip))
 (.seq (.drw [(8, 10), (9, 10), (8, 11), (9, 11), (8, 12), (9, 12), (8, 13), (9, 13), (17, 18), (17, 19), (17, 20), (18, 20), (19, 20), (17, 21), (18, 21), (19, 21)] [oa 34 2 3, ol 35 34, o 36 (.bin .eql (.t 35) (.v (.int .i64 (-1)))), om 37 36, og 38 (.fad 3 (.t 3)) 37, og 39 (.load 1 false (.t 38)) 37, og 40 (.bin .gtr (.t 39) (iv 0)) 37, og 41 (.mv (.t 40)) 37, oh 42 (.fad 2 (.t 3)) 41, oh 43 (.load 1 false (.t 42)) 41, oh 44 (.fad 7 (.t 2)) 41, oh 45 (.load 5 true (.t 44)) 41, oh 46 (.call 130 [.t 45]) 41, oh 47 (.bin .sub (.t 46) (iv 1)) 41, oh 48 (.call 91 [.t 43, .v (.int .i64 0), .t 47]) 41, og 49 (.pick (.t 41) (.t 48) bF) 37, og 50 (.mv (.t 49)) 37, oh 51 (.load 12 true (.t 2)) 50, oh 52 (.fad 1 (.t 3)) 50, oh 53 (.load 1 false (.t 52)) 50, oh 54 (.fad 2 (.t 3)) 50, oh 55 (.load 1 false (.t 54)) 50, oh 56 (.call 248 [.t 51, .t 53, .t 55]) 50, oh 57 (.bin .gtr (.t 56) (iv 0)) 50, og 58 (.pick (.t 50) (.t 57) bF) 37, o 59 (.pick (.t 37) bT (.t 58)), om 4 59])
 .ret)))
noncomputable def X.s_sUnit (p0 : TBoard) (p1 : TUnit) : Option Bool :=
 ((X.s_l1In p1.Side 0 1).bind fun v12 => (bif (!v12) then some false else ((X.s_l1In p1.Kind 0 (W ((p0.Rules.Kinds.length : Int) - 1))).bind fun v15 => (bif (!v15) then some false else ((at' zTKind p0.Rules.Kinds p1.Kind).bind fun v18 => ((X.s_l1In p1.Steps 0 v18.Steps).bind fun v20 => (bif (!v20) then some false else (bif (p1.At == (-1)) then some true else (bif (decide (p1.Steps > 0)) then ((X.s_mSize p0.Map).bind fun v25 => ((X.s_l1In p1.At 0 (W (v25 - 1))).bind fun v27 => (bif v27 then ((X.s_bCost p0 p1.Kind p1.At).bind fun v30 => some (decide (v30 > 0))) else some false))) else some false)))))))))
theorem s_sUnit_ok (p0 : TBoard) (p1 : TUnit) (r : Bool) (H : X.s_sUnit p0 p1 = some r) : FK 198 [.agg (eTBoard p0), .agg (eTUnit p1)] (cB r) := by
 unfold X.s_sUnit at H
 refine fi Tryz.f198 s_sUnit_ir [(4, cB r)] [] glL Tryz.func198 ?_
 refine so [] [] [(2, pk 2), (3, pk 3)] [(2, va (eTBoard p0)), (3, va (eTUnit p1))] id ?_
 refine seq_in ?_
 obtain ⟨v12, h13, H⟩ := oB H
 rcases oC H with ⟨c14, H⟩ | ⟨c14, H⟩
 ·refine xn ([.res (cB v12)] ++ rg 23 true []) [] [(33, cB true)] [] [] (fun t => aI (s_l1In_ok p1.Side 0 1 v12 h13) (aI trivial (aI rN (aG 10 c14 (aG 13 rT (t)))))) ?_
  refine it rT ?_
  refine so [] [] [(4, cB false)] [] id ?_
  cases H
  exact er
 ·obtain ⟨v15, h16, H⟩ := oB H
  rcases oC H with ⟨c17, H⟩ | ⟨c17, H⟩
  ·refine xn ([.res (cB v12)] ++ rg 8 false ([.res (cB v15)] ++ rg 2 false (rg 13 true []))) [] [(33, cB true)] [] [] (fun t => aI (s_l1In_ok p1.Side 0 1 v12 h13) (aI trivial (aI rN (aG 8 c14 (aI (s_l1In_ok p1.Kind 0 (W ((p0.Rules.Kinds.length : Int) - 1)) v15 h16) (aI trivial (aI rN (aG 2 c14 (aG 13 c17 (t)))))))))) ?_
   refine it rT ?_
   refine so [] [] [(4, cB false)] [] id ?_
   cases H
   exact er
  ·obtain ⟨v18, h19, H⟩ := oB H
   obtain ⟨v20, h21, H⟩ := oB H
   refine xn ([.res (cB v12)] ++ rg 8 false ([.res (cB v15)] ++ rg 10 false ([.cs (eTKind v18)] ++ rg 3 false ([.res (cB v20)] ++ rg 2 false [])))) [] [(33, cB (!v20))] [] [] (fun t => aI (s_l1In_ok p1.Side 0 1 v12 h13) (aI trivial (aI rN (aG 8 c14 (aI (s_l1In_ok p1.Kind 0 (W ((p0.Rules.Kinds.length : Int) - 1)) v15 h16) (aI trivial (aI rN (aG 2 c14 (aG 8 c17 ((a2 eTKind h19 (aG 2 c17 (aI rN (aI c17 (aI (s_l1In_ok p1.Steps 0 v18.Steps v20 h21) (aI trivial (aI rN (aG 2 c17 (t))))))))))))))))))) ?_
   rcases oC H with ⟨c22, H⟩ | ⟨c22, H⟩
   ·refine it c22 ?_
    refine so [] [] [(4, cB false)] [] id ?_
    cases H
    exact er
   ·refine jf c22 ?_
    refine sk ?_
    rcases oC H with ⟨c23, H⟩ | ⟨c23, H⟩
    ·refine sx (rg 8 true []) [] [(4, cB true)] [] (fun t => aG 8 c23 (t)) ?_
     cases H
     exact er
    ·rcases oC H with ⟨c24, H⟩ | ⟨c24, H⟩
     ·obtain ⟨v25, h26, H⟩ := oB H
      obtain ⟨v27, h28, H⟩ := oB H
      rcases oC H with ⟨c29, H⟩ | ⟨c29, H⟩
      ·obtain ⟨v30, h31, H⟩ := oB H
       refine sx (rg 4 false (rg 5 true ([.res (cI v25)] ++ rg 2 true ([.res (cB v27), .g false, .g true, .g false] ++ rg 6 true [.res (cI v30), .g true, .g false, .g true, .g false])))) [] [(4, cB (decide (v30 > 0)))] [] (fun t => aG 4 c23 (aG 5 c24 (aI (s_mSize_ok p0.Map v25 h26) (aI trivial (aI rN (aG 2 c24 (aI (s_l1In_ok p1.At 0 (W (v25 - 1)) v27 h28) (aI trivial (aI rN (aI c23 (aI c24 (aI c23 (aG 6 c29 (aI (s_bCost_ok p0 p1.Kind p1.At v30 h31) (aI trivial (aI rN (aI c29 (aI c23 (aI c29 (aI c23 (t))))))))))))))))))))) ?_
       cases H
       exact er
      ·refine sx (rg 4 false (rg 5 true ([.res (cI v25)] ++ rg 2 true ([.res (cB v27), .g false, .g true] ++ rg 11 false [])))) [] [(4, cB false)] [] (fun t => aG 4 c23 (aG 5 c24 (aI (s_mSize_ok p0.Map v25 h26) (aI trivial (aI rN (aG 2 c24 (aI (s_l1In_ok p1.At 0 (W (v25 - 1)) v27 h28) (aI trivial (aI rN (aI c23 (aI c24 (aI c23 (aG 7 c29 (aI c23 (aI c29 (aI c23 (t))))))))))))))))) ?_
       cases H
       exact er
     ·refine sx (rg 24 false []) [] [(4, cB false)] [] (fun t => aG 4 c23 (aG 7 c24 (aI c23 (aI c24 (aI c23 (aG 7 rF (aI c23 (aI rF (aI c23 (t)))))))))) ?_
      cases H
      exact er
def s_sGood_ir : S :=
 (sq [o 2 (.box 12 (.t 0)), o 3 (.box 3 (.t 1)), o 4 (.mv bF)]
 (.seq (sq [o 9 (.load 12 true (.t 2)), o 10 (.call 55 [.t 9]), o 11 (.not (.t 10)), om 12 11, og 13 (.fad 0 (.t 3)) 12, og 14 (.load 1 false (.t 13)) 12, og 15 (.fad 0 (.t 2)) 12, og 16 (.fad 6 (.t 15)) 12, og 17 (.load 1 false (.t 16)) 12, og 18 (.call 91 [.t 14, .v (.int .i64 0), .t 17]) 12, og 19 (.not (.t 18)) 12, o 20 (.pick (.t 12) bT (.t 19)), om 21 20, og 22 (.fad 1 (.t 3)) 21, og 23 (.load 1 false (.t 22)) 21, og 24 (.call 91 [.t 23, .v (.int .i64 0), .v (.int .i64 2)]) 21, og 25 (.not (.t 24)) 21, o 26 (.pick (.t 21) bT (.t 25)), om 27 26, og 28 (.fad 2 (.t 3)) 27, og 29 (.load 1 false (.t 28)) 27, og 30 (.len (.t 29)) 27, og 31 (.bin .gtr (.t 30) (iv 12)) 27, o 32 (.pick (.t 27) bT (.t 31))]
 (.ite (.t 32) (sq [o 4 (.mv bF)]
  .ret)
 .skip))
 (.seq (sq [oa 33 2 3, ol 34 33, o 35 (.len (.t 34)), o 36 (.mv (iv 0))]
 (.blk 0 (.loop (sq [o 37 (.bin .lss (.t 36) (.t 35))]
   (.seq (.ite (.t 37) .skip
   (.exit 0))
   (.seq (.blk 1 (sq [o 38 (.iad 4 (.t 34) (.t 36)), o 39 (.load 4 true (.t 38)), o 6 (.alloc [.int .i64 0, .int .i64 0, .int .i64 0, .int .i64 0]), os 4 6 39]
    (sq [o 40 (.load 12 true (.t 2)), o 41 (.load 4 true (.t 6)), o 42 (.call 198 [.t 40, .t 41]), o 43 (.not (.t 42))]
    (.ite (.t 43) (sq [o 4 (.mv bF)]
     .ret)
    .skip))))
   (.ops [o 44 (.bin .add (.t 36) (iv 1)), om 36 44])))))))
 (.seq (sq [oa 45 2 3, ol 46 45, o 47 (.len (.t 46)), o 48 (.mv (iv 0))]
 (.blk 2 (.loop (sq [o 49 (.bin .lss (.t 48) (.t 47))]
   (.seq (.ite (.t 49) .skip
   (.exit 2))
   (.seq (.blk 3 (sq [o 50 (.iad 4 (.t 46) (.t 48)), o 51 (.load 4 true (.t 50)), o 8 (.alloc [.int .i64 0, .int .i64 0, .int .i64 0, .int .i64 0]), os 4 8 51]
    (.seq (.drw [(4, 5), (4, 6), (4, 7), (5, 7), (6, 7), (4, 8), (5, 8), (6, 8), (4, 9), (5, 9), (6, 9), (14, 15), (14, 16), (14, 17), (15, 17), (16, 17), (14, 18), (15, 18), (16, 18), (14, 21), (15, 21), (16, 21), (17, 21), (18, 21), (19, 21), (20, 21), (14, 22), (15, 22), (16, 22), (17, 22), (18, 22), (19, 22), (20, 22), (14, 23), (15, 23), (16, 23), (17, 23), (18, 23), (19, 23), (20, 23)] [oa 52 2 8, ol 53 52, o 54 (.bin .geq (.t 53) (iv 0)), om 55 54, oh 56 (.load 3 true (.t 3)) 55, oh 57 (.fad 2 (.t 8)) 55, oh 58 (.load 1 false (.t 57)) 55, oh 59 (.fad 0 (.t 8)) 55, oh 60 (.load 1 false (.t 59)) 55, oh 61 (.bin .sub (iv 1) (.t 60)) 55, oh 62 (.call 176 [.t 56, .t 58, .t 61]) 55, oh 63 (.len (.t 62)) 55, oh 64 (.bin .gtr (.t 63) (iv 0)) 55, oh 65 (.mv (.t 64)) 55, og 66 (.load 3 true (.t 3)) 65, og 67 (.fad 2 (.t 8)) 65, og 68 (.load 1 false (.t 67)) 65, og 69 (.fad 0 (.t 8)) 65, og 70 (.load 1 false (.t 69)) 65, og 71 (.call 176 [.t 66, .t 68, .t 70]) 65, og 72 (.len (.t 71)) 65, og 73 (.fad 0 (.t 2)) 65, og 74 (.fad 2 (.t 73)) 65, og 75 (.load 1 false (.t 74)) 65, og 76 (.bin .gtr (.t 72) (.t 75)) 65, oh 77 (.pick (.t 65) bT (.t 76)) 55, o 78 (.pick (.t 55) (.t 77) bF)])
    (.ite (.t 78) (sq [o 4 (.mv bF)]
     .ret)
    .skip))))
   (.ops [o 79 (.bin .add (.t 48) (iv 1)), om 48 79])))))))
 (sq [o 4 (.mv bT)]
 .ret)))))
noncomputable def X.s_sGood (p0 : TBoard) (p1 : TState) : Option Bool :=
 ((X.s_bGood p0).bind fun v11 => (bif (!v11) then some false else ((X.s_l1In p1.Turn 0 p0.Rules.Turns).bind fun v14 => (bif (!v14) then some false else ((X.s_l1In p1.Weather 0 2).bind fun v17 => (bif (!v17) then some false else (bif (decide ((p1.Units.length : Int) > 12)) then some false else ((loop (fun (x63 : Int) => ((bif (decide (x63 < (p1.Units.length : Int))) then ((at' zTUnit p1.Units x63).bind fun v66 => ((X.s_sUnit p0 v66).bind fun v68 => (bif (!v68) then some (Sum.inr (Sum.inr false)) else some (Sum.inl (W (x63 + 1)))))) else some (Sum.inr (Sum.inl ()))) : Option (Int ⊕ (Unit ⊕ Bool)))) 0).bind fun y71 => (Sum.elim (fun (y73 : Unit) => ((loop (fun (x98 : Int) => ((bif (decide (x98 < (p1.Units.length : Int))) then ((at' zTUnit p1.Units x98).bind fun v101 => (bif (decide (v101.At ≥ 0)) then ((X.s_sAt p1 v101.At (W (1 - v101.Side))).bind fun v104 => (bif (decide ((v104.length : Int) > 0)) then some (Sum.inr (Sum.inr false)) else ((X.s_sAt p1 v101.At v101.Side).bind fun v107 => (bif (decide ((v107.length : Int) > p0.Rules.Stack)) then some (Sum.inr (Sum.inr false)) else some (Sum.inl (W (x98 + 1))))))) else some (Sum.inl (W (x98 + 1))))) else some (Sum.inr (Sum.inl ()))) : Option (Int ⊕ (Unit ⊕ Bool)))) 0).bind fun y110 => (Sum.elim (fun (y112 : Unit) => some true) (fun (y113 : Bool) => some y113) y110))) (fun (y74 : Bool) => some y74) y71)))))))))
theorem s_sGood_ok (p0 : TBoard) (p1 : TState) (r : Bool) (H : X.s_sGood p0 p1 = some r) : FK 164 [.agg (eTBoard p0), .agg (eTState p1)] (cB r) := by
 unfold X.s_sGood at H
 refine fi Tryz.f164 s_sGood_ir [(4, cB r)] [] glL Tryz.func164 ?_
 refine so [] [] [(2, pk 2), (3, pk 3)] [(2, va (eTBoard p0)), (3, va (eTState p1))] id ?_
 refine seq_in ?_
 obtain ⟨v11, h12, H⟩ := oB H
 rcases oC H with ⟨c13, H⟩ | ⟨c13, H⟩
 ·refine sn ([.res (cB v11)] ++ rg 18 true []) [] [(32, cB true)] [] [] (fun t => aI (s_bGood_ok p0 v11 h12) (aG 8 c13 (aG 10 rT (t)))) ?_
  refine it rT ?_
  refine so [] [] [(4, cB false)] [] id ?_
  cases H
  exact er
 ·obtain ⟨v14, h15, H⟩ := oB H
  rcases oC H with ⟨c16, H⟩ | ⟨c16, H⟩
  ·refine sn ([.res (cB v11)] ++ rg 6 false ([.res (cB v14)] ++ rg 2 false (rg 10 true []))) [] [(32, cB true)] [] [] (fun t => aI (s_bGood_ok p0 v11 h12) (aG 6 c13 (aI (s_l1In_ok p1.Turn 0 p0.Rules.Turns v14 h15) (aG 2 c13 (aG 5 c16 (aG 5 rT (t))))))) ?_
   refine it rT ?_
   refine so [] [] [(4, cB false)] [] id ?_
   cases H
   exact er
  ·obtain ⟨v17, h18, H⟩ := oB H
   rcases oC H with ⟨c19, H⟩ | ⟨c19, H⟩
   ·refine sn ([.res (cB v11)] ++ rg 6 false ([.res (cB v14)] ++ rg 5 false ([.res (cB v17)] ++ rg 2 false (rg 5 true [])))) [] [(32, cB true)] [] [] (fun t => aI (s_bGood_ok p0 v11 h12) (aG 6 c13 (aI (s_l1In_ok p1.Turn 0 p0.Rules.Turns v14 h15) (aG 2 c13 (aG 3 c16 (aI (s_l1In_ok p1.Weather 0 2 v17 h18) (aG 2 c16 (aG 5 c19 (t))))))))) ?_
    refine it rT ?_
    refine so [] [] [(4, cB false)] [] id ?_
    cases H
    exact er
   ·refine sn ([.res (cB v11)] ++ rg 6 false ([.res (cB v14)] ++ rg 5 false ([.res (cB v17)] ++ rg 7 false []))) [] [(32, cB (decide ((p1.Units.length : Int) > 12)))] [] [] (fun t => aI (s_bGood_ok p0 v11 h12) (aG 6 c13 (aI (s_l1In_ok p1.Turn 0 p0.Rules.Turns v14 h15) (aG 2 c13 (aG 3 c16 (aI (s_l1In_ok p1.Weather 0 2 v17 h18) (aG 2 c16 (aG 3 c19 (lI p1.Units (aG 2 c19 (t))))))))))) ?_
    rcases oC H with ⟨c20, H⟩ | ⟨c20, H⟩
    ·refine it c20 ?_
     refine so [] [] [(4, cB false)] [] id ?_
     cases H
     exact er
    ·refine jf c20 ?_
     refine sk ?_
     refine seq_in ?_
     refine sn [] [] [(34, dc 4 eTUnit zTUnit p1.Units), (35, cL p1.Units), (36, cI 0)] [] [] (fun t => lI p1.Units (t)) ?_
     refine ends_blk ?_
     obtain ⟨y71, h72, H⟩ := oB H
     refine tl [] [(2, pk 2), (3, pk 3), (34, dc 4 eTUnit zTUnit p1.Units), (35, cL p1.Units), (36, cI 0)] [(2, va (eTBoard p0)), (3, va (eTState p1))] id ?_
     refine loop_in (fun (x : Int) => lit [(2, pk 2), (3, pk 3), (34, dc 4 eTUnit zTUnit p1.Units), (35, cL p1.Units), (36, cI x)] [(2, va (eTBoard p0)), (3, va (eTState p1))]) (orJ (fun (z : Unit) => At (.exit 0) (lit [(2, pk 2), (3, pk 3)] [(2, va (eTBoard p0)), (3, va (eTState p1))])) (fun (z : Bool) => At .ret (lit [(4, cB z)] []))) h72 ?_ ?_
     ·clear H h72
      intro x63 y0 H
      refine sn [] [] [(37, cB (decide (x63 < (p1.Units.length : Int))))] [] [] id ?_
      refine seq_in ?_
      rcases oC H with ⟨c65, H⟩ | ⟨c65, H⟩
      ·refine it c65 ?_
       refine sk ?_
       refine seq_in ?_
       refine ends_blk ?_
       obtain ⟨v66, h67, H⟩ := oB H
       refine sn [.cs (eTUnit v66)] [] [(6, pk 6)] [] [(6, va (eTUnit v66))] (a2 eTUnit h67) ?_
       obtain ⟨v68, h69, H⟩ := oB H
       refine sn [.res (cB v68)] [] [(43, cB (!v68))] [] [] (aI (s_sUnit_ok p0 v66 v68 h69)) ?_
       rcases oC H with ⟨c70, H⟩ | ⟨c70, H⟩
       ·refine it c70 ?_
        refine so [] [] [(4, cB false)] [] id ?_
        refine ends_ret ?_
        cases H
        exact rsr
       ·refine jf c70 ?_
        refine sk ?_
        refine oo [] [] [(2, pk 2), (3, pk 3), (34, dc 4 eTUnit zTUnit p1.Units), (35, cL p1.Units), (36, cI (W (x63 + 1)))] [(2, va (eTBoard p0)), (3, va (eTState p1))] id ?_
        cases H
        exact rr
      ·refine jf c65 ?_
       refine tl [] [(2, pk 2), (3, pk 3)] [(2, va (eTBoard p0)), (3, va (eTState p1))] id ?_
       refine ends_exit ?_
       cases H
       exact rse
     ·clear h72
      cases y71 with
      | inl y73 =>
       replace H := ofInl H
       rintro e s ⟨rfl, rfl⟩
       change EndsI _ _ _ _ _ _
       refine seq_in ?_
       refine sn [] [] [(46, dc 4 eTUnit zTUnit p1.Units), (47, cL p1.Units), (48, cI 0)] [] [] (fun t => lI p1.Units (t)) ?_
       refine ends_blk ?_
       obtain ⟨y110, h111, H⟩ := oB H
       refine tl [] [(2, pk 2), (3, pk 3), (46, dc 4 eTUnit zTUnit p1.Units), (47, cL p1.Units), (48, cI 0)] [(2, va (eTBoard p0)), (3, va (eTState p1))] id ?_
       refine loop_in (fun (x : Int) => lit [(2, pk 2), (3, pk 3), (46, dc 4 eTUnit zTUnit p1.Units), (47, cL p1.Units), (48, cI x)] [(2, va (eTBoard p0)), (3, va (eTState p1))]) (orJ (fun (z : Unit) => At (.exit 2) (lit [] [])) (fun (z : Bool) => At .ret (lit [(4, cB z)] []))) h111 ?_ ?_
       ·clear H h111
        intro x98 y0 H
        refine sn [] [] [(49, cB (decide (x98 < (p1.Units.length : Int))))] [] [] id ?_
        refine seq_in ?_
        rcases oC H with ⟨c100, H⟩ | ⟨c100, H⟩
        ·refine it c100 ?_
         refine sk ?_
         refine seq_in ?_
         refine ends_blk ?_
         obtain ⟨v101, h102, H⟩ := oB H
         refine sn [.cs (eTUnit v101)] [] [(8, pk 8)] [] [(8, va (eTUnit v101))] (a2 eTUnit h102) ?_
         rcases oC H with ⟨c103, H⟩ | ⟨c103, H⟩
         ·obtain ⟨v104, h105, H⟩ := oB H
          rcases oC H with ⟨c106, H⟩ | ⟨c106, H⟩
          ·refine xn (rg 7 true ([.res (dc 1 eI zI v104)] ++ rg 17 true [])) [] [(78, cB true)] [] [] (fun t => aG 7 c103 (aI (s_sAt_ok p1 v101.At (W (1 - v101.Side)) v104 h105) (aG 2 rN (aG 3 c103 (aG 11 c106 (aI c103 (aI c106 (aI c103 (t))))))))) ?_
           refine it rT ?_
           refine so [] [] [(4, cB false)] [] id ?_
           refine ends_ret ?_
           cases H
           exact rsr
          ·obtain ⟨v107, h108, H⟩ := oB H
           refine xn (rg 7 true ([.res (dc 1 eI zI v104)] ++ rg 3 true (rg 6 false ([.res (dc 1 eI zI v107)] ++ rg 5 false [.g true, .g false, .g true])))) [] [(78, cB (decide ((v107.length : Int) > p0.Rules.Stack)))] [] [] (fun t => aG 7 c103 (aI (s_sAt_ok p1 v101.At (W (1 - v101.Side)) v104 h105) (aG 2 rN (aG 3 c103 (aG 6 c106 (aI (s_sAt_ok p1 v101.At v101.Side v107 h108) (aG 2 rN (aG 5 c106 (aI c103 (aI c106 (aI c103 (t)))))))))))) ?_
           rcases oC H with ⟨c109, H⟩ | ⟨c109, H⟩
           ·refine it c109 ?_
            refine so [] [] [(4, cB false)] [] id ?_
            refine ends_ret ?_
            cases H
            exact rsr
           ·refine jf c109 ?_
            refine sk ?_
            refine oo [] [] [(2, pk 2), (3, pk 3), (46, dc 4 eTUnit zTUnit p1.Units), (47, cL p1.Units), (48, cI (W (x98 + 1)))] [(2, va (eTBoard p0)), (3, va (eTState p1))] id ?_
            cases H
            exact rr
         ·refine xn (rg 12 false []) [] [(78, cB false)] [] [] (fun t => aG 12 c103 (t)) ?_
          refine jf rF ?_
          refine sk ?_
          refine oo [] [] [(2, pk 2), (3, pk 3), (46, dc 4 eTUnit zTUnit p1.Units), (47, cL p1.Units), (48, cI (W (x98 + 1)))] [(2, va (eTBoard p0)), (3, va (eTState p1))] id ?_
          cases H
          exact rr
        ·refine jf c100 ?_
         refine tl [] [] [] id ?_
         refine ends_exit ?_
         cases H
         exact rse
       ·clear h111
        cases y110 with
        | inl y112 =>
         replace H := ofInl H
         rintro e s ⟨rfl, rfl⟩
         change EndsI _ _ _ _ _ _
         refine so [] [] [(4, cB true)] [] id ?_
         cases H
         exact er
        | inr y113 =>
         replace H := ofInr H
         rintro e s ⟨rfl, rfl⟩
         cases H
         exact qr
      | inr y74 =>
       replace H := ofInr H
       rintro e s ⟨rfl, rfl⟩
       cases H
       exact qr
def s_iGood_ir : S :=
 (sq [o 3 (.box 12 (.t 0)), o 4 (.box 3 (.t 1)), o 6 (.mv bF)]
 (.seq (sq [o 9 (.load 12 true (.t 3)), o 10 (.load 3 true (.t 4)), o 11 (.call 164 [.t 9, .t 10]), o 12 (.not (.t 11)), om 13 12, og 14 (.mv (.t 2)) 13, og 15 (.len (.t 14)) 13, og 16 (.bin .gtr (.t 15) (iv 12)) 13, o 17 (.pick (.t 13) bT (.t 16))]
 (.ite (.t 17) (sq [o 6 (.mv bF)]
  .ret)
 .skip))
 (.seq (sq [om 18 2, o 19 (.len (.t 18)), o 20 (.mv (iv 0))]
 (.blk 0 (.loop (sq [o 21 (.bin .lss (.t 20) (.t 19))]
   (.seq (.ite (.t 21) .skip
   (.exit 0))
   (.seq (.blk 1 (sq [o 22 (.iad 3 (.t 18) (.t 20)), o 23 (.load 3 true (.t 22)), o 8 (.alloc [.int .i64 0, .int .i64 0, .int .i64 0]), os 3 8 23]
    (.seq (.drw [(0, 2), (1, 2), (0, 3), (1, 3), (0, 4), (1, 4), (0, 5), (1, 5), (9, 11), (10, 11), (9, 12), (10, 12), (9, 13), (10, 13), (9, 14), (10, 14)] [oa 24 0 8, ol 25 24, oa 26 2 4, ol 27 26, o 28 (.len (.t 27)), o 29 (.bin .sub (.t 28) (iv 1)), o 30 (.call 91 [.t 25, .v (.int .i64 0), .t 29]), o 31 (.not (.t 30)), om 32 31, og 33 (.fad 1 (.t 8)) 32, og 34 (.load 1 false (.t 33)) 32, og 35 (.fad 7 (.t 3)) 32, og 36 (.load 5 true (.t 35)) 32, og 37 (.call 130 [.t 36]) 32, og 38 (.bin .sub (.t 37) (iv 1)) 32, og 39 (.call 91 [.t 34, .v (.int .i64 0), .t 38]) 32, og 40 (.not (.t 39)) 32, o 41 (.pick (.t 32) bT (.t 40)), om 42 41, og 43 (.fad 2 (.t 8)) 42, og 44 (.load 1 false (.t 43)) 42, og 45 (.call 91 [.t 44, .v (.int .i64 0), .v (.int .i64 1)]) 42, og 46 (.not (.t 45)) 42, o 47 (.pick (.t 42) bT (.t 46))])
    (.ite (.t 47) (sq [o 6 (.mv bF)]
     .ret)
    .skip))))
   (.ops [o 48 (.bin .add (.t 20) (iv 1)), om 20 48])))))))
 (sq [o 6 (.mv bT)]
 .ret))))
noncomputable def X.s_iGood (p0 : TBoard) (p1 : TState) (p2 : (List TReaction)) : Option Bool :=
 ((X.s_sGood p0 p1).bind fun v5 => (bif (!v5) then some false else (bif (decide ((p2.length : Int) > 12)) then some false else ((loop (fun (x40 : Int) => ((bif (decide (x40 < (p2.length : Int))) then ((at' zTReaction p2 x40).bind fun v43 => ((X.s_l1In v43.Unit 0 (W ((p1.Units.length : Int) - 1))).bind fun v45 => (bif (!v45) then some (Sum.inr (Sum.inr false)) else ((X.s_mSize p0.Map).bind fun v48 => ((X.s_l1In v43.Watch 0 (W (v48 - 1))).bind fun v50 => (bif (!v50) then some (Sum.inr (Sum.inr false)) else ((X.s_l1In v43.Kind 0 1).bind fun v53 => (bif (!v53) then some (Sum.inr (Sum.inr false)) else some (Sum.inl (W (x40 + 1))))))))))) else some (Sum.inr (Sum.inl ()))) : Option (Int ⊕ (Unit ⊕ Bool)))) 0).bind fun y56 => (Sum.elim (fun (y58 : Unit) => some true) (fun (y59 : Bool) => some y59) y56)))))
theorem s_iGood_ok (p0 : TBoard) (p1 : TState) (p2 : (List TReaction)) (r : Bool) (H : X.s_iGood p0 p1 p2 = some r) : FK 179 [.agg (eTBoard p0), .agg (eTState p1), .c (dat 3 eTReaction zTReaction p2)] (cB r) := by
 unfold X.s_iGood at H
 refine fi Tryz.f179 s_iGood_ir [(6, cB r)] [] glL Tryz.func179 ?_
 refine sn [] [] [(3, pk 3), (4, pk 4)] [] [(3, va (eTBoard p0)), (4, va (eTState p1))] id ?_
 refine seq_in ?_
 obtain ⟨v5, h6, H⟩ := oB H
 rcases oC H with ⟨c7, H⟩ | ⟨c7, H⟩
 ·refine sn ([.res (cB v5)] ++ rg 4 true []) [] [(17, cB true)] [] [] (fun t => aI (s_sGood_ok p0 p1 v5 h6) (aG 4 c7 (t))) ?_
  refine it rT ?_
  refine so [] [] [(6, cB false)] [] id ?_
  cases H
  exact er
 ·refine sn ([.res (cB v5)] ++ rg 4 false []) [] [(17, cB (decide ((p2.length : Int) > 12)))] [] [] (fun t => aI (s_sGood_ok p0 p1 v5 h6) (aG 2 c7 (lI p2 (aG 2 c7 (t))))) ?_
  rcases oC H with ⟨c8, H⟩ | ⟨c8, H⟩
  ·refine it c8 ?_
   refine so [] [] [(6, cB false)] [] id ?_
   cases H
   exact er
  ·refine jf c8 ?_
   refine sk ?_
   refine seq_in ?_
   refine sn [] [] [(18, dc 3 eTReaction zTReaction p2), (19, cL p2), (20, cI 0)] [] [] (fun t => lI p2 (t)) ?_
   refine ends_blk ?_
   obtain ⟨y56, h57, H⟩ := oB H
   refine tl [] [(3, pk 3), (4, pk 4), (18, dc 3 eTReaction zTReaction p2), (19, cL p2), (20, cI 0)] [(3, va (eTBoard p0)), (4, va (eTState p1))] id ?_
   refine loop_in (fun (x : Int) => lit [(3, pk 3), (4, pk 4), (18, dc 3 eTReaction zTReaction p2), (19, cL p2), (20, cI x)] [(3, va (eTBoard p0)), (4, va (eTState p1))]) (orJ (fun (z : Unit) => At (.exit 0) (lit [] [])) (fun (z : Bool) => At .ret (lit [(6, cB z)] []))) h57 ?_ ?_
   ·clear H h57
    intro x40 y0 H
    refine sn [] [] [(21, cB (decide (x40 < (p2.length : Int))))] [] [] id ?_
    refine seq_in ?_
    rcases oC H with ⟨c42, H⟩ | ⟨c42, H⟩
    ·refine it c42 ?_
     refine sk ?_
     refine seq_in ?_
     refine ends_blk ?_
     obtain ⟨v43, h44, H⟩ := oB H
     refine sn [.cs (eTReaction v43)] [] [(8, pk 8)] [] [(8, va (eTReaction v43))] (a2 eTReaction h44) ?_
     obtain ⟨v45, h46, H⟩ := oB H
     rcases oC H with ⟨c47, H⟩ | ⟨c47, H⟩
     ·refine xn ([.res (cB v45)] ++ rg 14 true []) [] [(47, cB true)] [] [] (fun t => aI (s_l1In_ok v43.Unit 0 (W ((p1.Units.length : Int) - 1)) v45 h46) (aI trivial (aI rN (aG 9 c47 (aG 5 rT (t)))))) ?_
      refine it rT ?_
      refine so [] [] [(6, cB false)] [] id ?_
      refine ends_ret ?_
      cases H
      exact rsr
     ·obtain ⟨v48, h49, H⟩ := oB H
      obtain ⟨v50, h51, H⟩ := oB H
      rcases oC H with ⟨c52, H⟩ | ⟨c52, H⟩
      ·refine xn ([.res (cB v45)] ++ rg 5 false ([.res (cI v48)] ++ rg 2 false ([.res (cB v50)] ++ rg 2 false (rg 5 true [])))) [] [(47, cB true)] [] [] (fun t => aI (s_l1In_ok v43.Unit 0 (W ((p1.Units.length : Int) - 1)) v45 h46) (aI trivial (aI rN (aG 5 c47 (aI (s_mSize_ok p0.Map v48 h49) (aI trivial (aI rN (aG 2 c47 (aI (s_l1In_ok v43.Watch 0 (W (v48 - 1)) v50 h51) (aI trivial (aI rN (aG 2 c47 (aG 5 c52 (t)))))))))))))) ?_
       refine it rT ?_
       refine so [] [] [(6, cB false)] [] id ?_
       refine ends_ret ?_
       cases H
       exact rsr
      ·obtain ⟨v53, h54, H⟩ := oB H
       refine xn ([.res (cB v45)] ++ rg 5 false ([.res (cI v48)] ++ rg 2 false ([.res (cB v50)] ++ rg 5 false ([.res (cB v53)] ++ rg 2 false [])))) [] [(47, cB (!v53))] [] [] (fun t => aI (s_l1In_ok v43.Unit 0 (W ((p1.Units.length : Int) - 1)) v45 h46) (aI trivial (aI rN (aG 5 c47 (aI (s_mSize_ok p0.Map v48 h49) (aI trivial (aI rN (aG 2 c47 (aI (s_l1In_ok v43.Watch 0 (W (v48 - 1)) v50 h51) (aI trivial (aI rN (aG 2 c47 (aG 3 c52 (aI (s_l1In_ok v43.Kind 0 1 v53 h54) (aI trivial (aI rN (aG 2 c52 (t)))))))))))))))))) ?_
       rcases oC H with ⟨c55, H⟩ | ⟨c55, H⟩
       ·refine it c55 ?_
        refine so [] [] [(6, cB false)] [] id ?_
        refine ends_ret ?_
        cases H
        exact rsr
       ·refine jf c55 ?_
        refine sk ?_
        refine oo [] [] [(3, pk 3), (4, pk 4), (18, dc 3 eTReaction zTReaction p2), (19, cL p2), (20, cI (W (x40 + 1)))] [(3, va (eTBoard p0)), (4, va (eTState p1))] id ?_
        cases H
        exact rr
    ·refine jf c42 ?_
     refine tl [] [] [] id ?_
     refine ends_exit ?_
     cases H
     exact rse
   ·clear h57
    cases y56 with
    | inl y58 =>
     replace H := ofInl H
     rintro e s ⟨rfl, rfl⟩
     change EndsI _ _ _ _ _ _
     refine so [] [] [(6, cB true)] [] id ?_
     cases H
     exact er
    | inr y59 =>
     replace H := ofInr H
     rintro e s ⟨rfl, rfl⟩
     cases H
     exact qr
def s_iDifferent_ir : S :=
 (sq [o 4 (.mv bF)]
 (.seq (sq [om 7 0, o 8 (.len (.t 7)), o 9 (.mv (iv 0))]
 (.blk 0 (.loop (sq [o 10 (.bin .lss (.t 9) (.t 8))]
   (.seq (.ite (.t 10) .skip
   (.exit 0))
   (.seq (.blk 1 (sq [om 11 9, o 12 (.iad 1 (.t 7) (.t 9)), ol 13 12, om 5 11, om 6 13]
    (sq [om 14 6, om 15 1, o 16 (.call 91 [.t 14, .v (.int .i64 0), .t 15]), o 17 (.not (.t 16)), om 18 17, og 19 (.mv (.t 0)) 18, og 20 (.mv (.t 5)) 18, og 21 (.slc 1 (.t 19) none (some (.t 20))) 18, og 22 (.mv (.t 6)) 18, og 23 (.call 132 [.t 21, .t 22]) 18, o 24 (.pick (.t 18) bT (.t 23))]
    (.ite (.t 24) (sq [o 4 (.mv bF)]
     .ret)
    .skip))))
   (.ops [o 25 (.bin .add (.t 9) (iv 1)), om 9 25])))))))
 (sq [o 4 (.mv bT)]
 .ret)))
noncomputable def X.s_iDifferent (p0 : (List Int)) (p1 : Int) : Option Bool :=
 ((loop (fun (x24 : Int) => ((bif (decide (x24 < (p0.length : Int))) then ((at' zI p0 x24).bind fun v27 => ((X.s_l1In v27 0 p1).bind fun v29 => (bif (!v29) then some (Sum.inr (Sum.inr false)) else (if 0 ≤ (0 : Int) ∧ (0 : Int) ≤ x24 ∧ x24 ≤ (p0.length : Int) then ((X.s_l1Has ((p0.drop (0 : Int).toNat).take (x24.toNat - (0 : Int).toNat)) v27).bind fun v33 => (bif v33 then some (Sum.inr (Sum.inr false)) else some (Sum.inl (W (x24 + 1))))) else none)))) else some (Sum.inr (Sum.inl ()))) : Option (Int ⊕ (Unit ⊕ Bool)))) 0).bind fun y36 => (Sum.elim (fun (y38 : Unit) => some true) (fun (y39 : Bool) => some y39) y36))
theorem s_iDifferent_ok (p0 : (List Int)) (p1 : Int) (r : Bool) (H : X.s_iDifferent p0 p1 = some r) : FK 180 [.c (dat 1 eI zI p0), cI p1] (cB r) := by
 unfold X.s_iDifferent at H
 refine fi Tryz.f180 s_iDifferent_ir [(4, cB r)] [] glL Tryz.func180 ?_
 refine sn [] [] [] [] [] id ?_
 refine seq_in ?_
 refine sn [] [] [(7, dc 1 eI zI p0), (8, cL p0), (9, cI 0)] [] [] (fun t => lI p0 (t)) ?_
 refine ends_blk ?_
 obtain ⟨y36, h37, H⟩ := oB H
 refine tl [] [(0, dc 1 eI zI p0), (1, cI p1), (7, dc 1 eI zI p0), (8, cL p0), (9, cI 0)] [] id ?_
 refine loop_in (fun (x : Int) => lit [(0, dc 1 eI zI p0), (1, cI p1), (7, dc 1 eI zI p0), (8, cL p0), (9, cI x)] []) (orJ (fun (z : Unit) => At (.exit 0) (lit [] [])) (fun (z : Bool) => At .ret (lit [(4, cB z)] []))) h37 ?_ ?_
 ·clear H h37
  intro x24 y0 H
  refine sn [] [] [(10, cB (decide (x24 < (p0.length : Int))))] [] [] id ?_
  refine seq_in ?_
  rcases oC H with ⟨c26, H⟩ | ⟨c26, H⟩
  ·refine it c26 ?_
   refine sk ?_
   refine seq_in ?_
   refine ends_blk ?_
   obtain ⟨v27, h28, H⟩ := oB H
   refine sn [.cs (eI v27)] [] [(5, cI x24), (6, cI v27)] [] [] (a2 eI h28) ?_
   obtain ⟨v29, h30, H⟩ := oB H
   rcases oC H with ⟨c31, H⟩ | ⟨c31, H⟩
   ·refine sn ([.res (cB v29)] ++ rg 6 true []) [] [(24, cB true)] [] [] (fun t => aI (s_l1In_ok v27 0 p1 v29 h30) (aG 6 c31 (t))) ?_
    refine it rT ?_
    refine so [] [] [(4, cB false)] [] id ?_
    refine ends_ret ?_
    cases H
    exact rsr
   ·obtain ⟨g32, H⟩ := oI H
    obtain ⟨v33, h34, H⟩ := oB H
    refine sn ([.res (cB v29)] ++ rg 3 false ([fh eI zI ((p0.drop (0 : Int).toNat).take (x24.toNat - (0 : Int).toNat))] ++ rg 2 false [.res (cB v33), .g false])) [] [(24, cB v33)] [] [] (fun t => aI (s_l1In_ok v27 0 p1 v29 h30) (aG 3 c31 (aI g32 (aI (len_drop p0 (0 : Int) x24 g32) (aI (fF_drop eI zI p0 (0 : Int) x24 g32) (aG 2 c31 (aI (s_l1Has_ok ((p0.drop (0 : Int).toNat).take (x24.toNat - (0 : Int).toNat)) v27 v33 h34) (aI c31 (t))))))))) ?_
    rcases oC H with ⟨c35, H⟩ | ⟨c35, H⟩
    ·refine it c35 ?_
     refine so [] [] [(4, cB false)] [] id ?_
     refine ends_ret ?_
     cases H
     exact rsr
    ·refine jf c35 ?_
     refine sk ?_
     refine oo [] [] [(0, dc 1 eI zI p0), (1, cI p1), (7, dc 1 eI zI p0), (8, cL p0), (9, cI (W (x24 + 1)))] [] id ?_
     cases H
     exact rr
  ·refine jf c26 ?_
   refine tl [] [] [] id ?_
   refine ends_exit ?_
   cases H
   exact rse
 ·clear h37
  cases y36 with
  | inl y38 =>
   replace H := ofInl H
   rintro e s ⟨rfl, rfl⟩
   change EndsI _ _ _ _ _ _
   refine so [] [] [(4, cB true)] [] id ?_
   cases H
   exact er
  | inr y39 =>
   replace H := ofInr H
   rintro e s ⟨rfl, rfl⟩
   cases H
   exact qr
def s_iEvent_ir : S :=
 (sq [o 3 (.box 12 (.t 0)), o 4 (.box 3 (.t 1)), o 5 (.box 3 (.t 2)), o 6 (.mv bF)]
 (.seq (.drw [(0, 2), (1, 2), (0, 3), (1, 3), (0, 4), (1, 4), (0, 5), (1, 5), (8, 10), (9, 10), (8, 11), (9, 11), (8, 12), (9, 12), (8, 13), (9, 13)] [oa 7 0 5, ol 8 7, oa 9 2 4, ol 10 9, o 11 (.len (.t 10)), o 12 (.bin .sub (.t 11) (iv 1)), o 13 (.call 91 [.t 8, .v (.int .i64 0), .t 12]), om 14 13, oh 15 (.fad 1 (.t 5)) 14, oh 16 (.load 1 false (.t 15)) 14, oh 17 (.fad 7 (.t 3)) 14, oh 18 (.load 5 true (.t 17)) 14, oh 19 (.call 130 [.t 18]) 14, oh 20 (.bin .sub (.t 19) (iv 1)) 14, oh 21 (.call 91 [.t 16, .v (.int .i64 0), .t 20]) 14, o 22 (.pick (.t 14) (.t 21) bF), om 6 22])
 .ret))
noncomputable def X.s_iEvent (p0 : TBoard) (p1 : TState) (p2 : TFrame) : Option Bool :=
 ((X.s_l1In p2.Unit 0 (W ((p1.Units.length : Int) - 1))).bind fun v1 => (bif v1 then ((X.s_mSize p0.Map).bind fun v4 => ((X.s_l1In p2.At 0 (W (v4 - 1))).bind fun v6 => some v6)) else some false))
theorem s_iEvent_ok (p0 : TBoard) (p1 : TState) (p2 : TFrame) (r : Bool) (H : X.s_iEvent p0 p1 p2 = some r) : FK 181 [.agg (eTBoard p0), .agg (eTState p1), .agg (eTFrame p2)] (cB r) := by
 unfold X.s_iEvent at H
 refine fi Tryz.f181 s_iEvent_ir [(6, cB r)] [] glL Tryz.func181 ?_
 refine so [] [] [(3, pk 3), (4, pk 4), (5, pk 5)] [(3, va (eTBoard p0)), (4, va (eTState p1)), (5, va (eTFrame p2))] id ?_
 obtain ⟨v1, h2, H⟩ := oB H
 rcases oC H with ⟨c3, H⟩ | ⟨c3, H⟩
 ·obtain ⟨v4, h5, H⟩ := oB H
  obtain ⟨v6, h7, H⟩ := oB H
  refine sx ([.res (cB v1)] ++ rg 5 true ([.res (cI v4)] ++ rg 2 true [.res (cB v6), .g true])) [] [(6, cB v6)] [] (fun t => aI (s_l1In_ok p2.Unit 0 (W ((p1.Units.length : Int) - 1)) v1 h2) (aI trivial (aI rN (aG 5 c3 (aI (s_mSize_ok p0.Map v4 h5) (aI trivial (aI rN (aG 2 c3 (aI (s_l1In_ok p2.At 0 (W (v4 - 1)) v6 h7) (aI trivial (aI rN (aI c3 (t))))))))))))) ?_
  cases H
  exact er
 ·refine sx ([.res (cB v1)] ++ rg 8 false []) [] [(6, cB false)] [] (fun t => aI (s_l1In_ok p2.Unit 0 (W ((p1.Units.length : Int) - 1)) v1 h2) (aI trivial (aI rN (aG 8 c3 (t))))) ?_
  cases H
  exact er
def s_iMachine_ir : S :=
 (sq [o 3 (.box 12 (.t 0)), o 5 (.box 6 (.t 2)), o 6 (.mv bF)]
 (.seq (sq [o 10 (.load 12 true (.t 3)), oa 11 2 5, o 12 (.load 3 true (.t 11)), om 13 1, o 14 (.call 179 [.t 10, .t 12, .t 13]), o 15 (.not (.t 14)), om 16 15, og 17 (.fad 1 (.t 5)) 16, og 18 (.load 1 false (.t 17)) 16, og 19 (.mv (.t 1)) 16, og 20 (.len (.t 19)) 16, og 21 (.bin .sub (.t 20) (iv 1)) 16, og 22 (.call 180 [.t 18, .t 21]) 16, og 23 (.not (.t 22)) 16, o 24 (.pick (.t 16) bT (.t 23)), om 25 24, og 26 (.fad 0 (.t 5)) 25, og 27 (.load 1 false (.t 26)) 25, og 28 (.len (.t 27)) 25, og 29 (.fad 5 (.t 5)) 25, og 30 (.load 1 false (.t 29)) 25, og 31 (.len (.t 30)) 25, og 32 (.bin .add (.t 28) (.t 31)) 25, og 33 (.fad 1 (.t 5)) 25, og 34 (.load 1 false (.t 33)) 25, og 35 (.len (.t 34)) 25, og 36 (.bin .add (.t 35) (iv 1)) 25, og 37 (.bin .gtr (.t 32) (.t 36)) 25, o 38 (.pick (.t 25) bT (.t 37)), om 39 38, og 40 (.fad 5 (.t 5)) 39, og 41 (.load 1 false (.t 40)) 39, og 42 (.mv (.t 1)) 39, og 43 (.len (.t 42)) 39, og 44 (.bin .sub (.t 43) (iv 1)) 39, og 45 (.call 124 [.t 41, .v (.int .i64 (-1)), .t 44]) 39, og 46 (.not (.t 45)) 39, o 47 (.pick (.t 39) bT (.t 46))]
 (.ite (.t 47) (sq [o 6 (.mv bF)]
  .ret)
 .skip))
 (sq [o 7 (.mv (.v (.nil)))]
 (.seq (sq [oa 48 0 5, ol 49 48, o 50 (.len (.t 49)), o 51 (.mv (iv 0))]
 (.blk 0 (.loop (sq [o 52 (.bin .lss (.t 51) (.t 50))]
   (.seq (.ite (.t 52) .skip
   (.exit 0))
   (.seq (.blk 1 (sq [om 53 51, o 54 (.iad 3 (.t 49) (.t 51)), o 55 (.load 3 true (.t 54)), o 9 (.alloc [.int .i64 0, .int .i64 0, .int .i64 0]), om 8 53, os 3 9 55]
    (.seq (sq [o 56 (.load 12 true (.t 3)), oa 57 2 5, o 58 (.load 3 true (.t 57)), o 59 (.load 3 true (.t 9)), o 60 (.call 181 [.t 56, .t 58, .t 59]), o 61 (.not (.t 60)), om 62 61, og 63 (.mv (.t 8)) 62, og 64 (.bin .eql (.t 63) (iv 0)) 62, og 65 (.mv (.t 64)) 62, oh 66 (.fad 2 (.t 9)) 65, oh 67 (.load 1 false (.t 66)) 65, oh 68 (.bin .neq (.t 67) (.v (.int .i64 (-1)))) 65, og 69 (.pick (.t 65) (.t 68) bF) 62, o 70 (.pick (.t 62) bT (.t 69)), om 71 70, og 72 (.mv (.t 8)) 71, og 73 (.bin .gtr (.t 72) (iv 0)) 71, og 74 (.mv (.t 73)) 71, oh 75 (.fad 1 (.t 5)) 74, oh 76 (.load 1 false (.t 75)) 74, oh 77 (.fad 2 (.t 9)) 74, oh 78 (.load 1 false (.t 77)) 74, oh 79 (.call 132 [.t 76, .t 78]) 74, oh 80 (.not (.t 79)) 74, oh 81 (.mv (.t 80)) 74, og 82 (.mv (.t 7)) 81, og 83 (.fad 2 (.t 9)) 81, og 84 (.load 1 false (.t 83)) 81, og 85 (.call 132 [.t 82, .t 84]) 81, oh 86 (.pick (.t 81) bT (.t 85)) 74, og 87 (.pick (.t 74) (.t 86) bF) 71, o 88 (.pick (.t 71) bT (.t 87))]
    (.ite (.t 88) (sq [o 6 (.mv bF)]
     .ret)
    .skip))
    (.ops [om 89 7, oa 90 2 9, ol 91 90, o 92 (.bsl 1 [.t 91]), o 93 (.app 1 8 (.t 89) (.t 92)), om 7 93]))))
   (.ops [o 94 (.bin .add (.t 51) (iv 1)), om 51 94])))))))
 (sq [o 6 (.mv bT)]
 .ret)))))
noncomputable def X.s_iMachine (p0 : TBoard) (p1 : (List TReaction)) (p2 : TMachine) : Option Bool :=
 ((X.s_iGood p0 p2.State p1).bind fun v11 => (bif (!v11) then some false else ((X.s_iDifferent p2.Used (W ((p1.length : Int) - 1))).bind fun v14 => (bif (!v14) then some false else (bif (decide ((W ((p2.Stack.length : Int) + (p2.Log.length : Int))) > (W ((p2.Used.length : Int) + 1)))) then some false else ((X.s_l1All p2.Log (-1) (W ((p1.length : Int) - 1))).bind fun v18 => (bif (!v18) then some false else ((loop (fun (x76 : (Int × (List Int))) => ((bif (decide (x76.1 < (p2.Stack.length : Int))) then ((at' zTFrame p2.Stack x76.1).bind fun v79 => ((X.s_iEvent p0 p2.State v79).bind fun v81 => (bif (!v81) then some (Sum.inr (Sum.inr false)) else (bif (x76.1 == 0) then (bif (v79.By != (-1)) then some (Sum.inr (Sum.inr false)) else (bif (decide (x76.1 > 0)) then ((X.s_l1Has p2.Used v79.By).bind fun v87 => (bif (!v87) then some (Sum.inr (Sum.inr false)) else ((X.s_l1Has x76.2 v79.By).bind fun v90 => (bif v90 then some (Sum.inr (Sum.inr false)) else (if (x76.2 ++ ([v79.By] : List Int)).length ≤ LIM then some (Sum.inl ((W (x76.1 + 1)), (x76.2 ++ ([v79.By] : List Int)))) else none))))) else (if (x76.2 ++ ([v79.By] : List Int)).length ≤ LIM then some (Sum.inl ((W (x76.1 + 1)), (x76.2 ++ ([v79.By] : List Int)))) else none))) else (bif (decide (x76.1 > 0)) then ((X.s_l1Has p2.Used v79.By).bind fun v96 => (bif (!v96) then some (Sum.inr (Sum.inr false)) else ((X.s_l1Has x76.2 v79.By).bind fun v99 => (bif v99 then some (Sum.inr (Sum.inr false)) else (if (x76.2 ++ ([v79.By] : List Int)).length ≤ LIM then some (Sum.inl ((W (x76.1 + 1)), (x76.2 ++ ([v79.By] : List Int)))) else none))))) else (if (x76.2 ++ ([v79.By] : List Int)).length ≤ LIM then some (Sum.inl ((W (x76.1 + 1)), (x76.2 ++ ([v79.By] : List Int)))) else none)))))) else some (Sum.inr (Sum.inl ()))) : Option ((Int × (List Int)) ⊕ (Unit ⊕ Bool)))) (0, ([] : List Int))).bind fun y104 => (Sum.elim (fun (y106 : Unit) => some true) (fun (y107 : Bool) => some y107) y104)))))))))
theorem s_iMachine_ok (p0 : TBoard) (p1 : (List TReaction)) (p2 : TMachine) (r : Bool) (H : X.s_iMachine p0 p1 p2 = some r) : FK 107 [.agg (eTBoard p0), .c (dat 3 eTReaction zTReaction p1), .agg (eTMachine p2)] (cB r) := by
 unfold X.s_iMachine at H
 refine fi Tryz.f107 s_iMachine_ir [(6, cB r)] [] glL Tryz.func107 ?_
 refine sn [] [] [(3, pk 3), (5, pk 5)] [] [(3, va (eTBoard p0)), (5, va (eTMachine p2))] id ?_
 refine seq_in ?_
 obtain ⟨v11, h12, H⟩ := oB H
 rcases oC H with ⟨c13, H⟩ | ⟨c13, H⟩
 ·refine sn ([.res (cB v11)] ++ rg 29 true []) [] [(47, cB true)] [] [] (fun t => aI (s_iGood_ok p0 p2.State p1 v11 h12) (aG 8 c13 (aG 21 rT (t)))) ?_
  refine it rT ?_
  refine so [] [] [(6, cB false)] [] id ?_
  cases H
  exact er
 ·obtain ⟨v14, h15, H⟩ := oB H
  rcases oC H with ⟨c16, H⟩ | ⟨c16, H⟩
  ·refine sn ([.res (cB v11)] ++ rg 6 false ([.res (cB v14)] ++ rg 2 false (rg 21 true []))) [] [(47, cB true)] [] [] (fun t => aI (s_iGood_ok p0 p2.State p1 v11 h12) (aG 4 c13 (lI p1 (aG 2 c13 (aI (s_iDifferent_ok p2.Used (W ((p1.length : Int) - 1)) v14 h15) (aG 2 c13 (aG 13 c16 (aG 8 rT (t))))))))) ?_
   refine it rT ?_
   refine so [] [] [(6, cB false)] [] id ?_
   cases H
   exact er
  ·rcases oC H with ⟨c17, H⟩ | ⟨c17, H⟩
   ·refine sn ([.res (cB v11)] ++ rg 6 false ([.res (cB v14)] ++ rg 15 false (rg 8 true []))) [] [(47, cB true)] [] [] (fun t => aI (s_iGood_ok p0 p2.State p1 v11 h12) (aG 4 c13 (lI p1 (aG 2 c13 (aI (s_iDifferent_ok p2.Used (W ((p1.length : Int) - 1)) v14 h15) (aG 2 c13 (aG 3 c16 (lI p2.Stack (aG 3 c16 (lI p2.Log (aG 4 c16 (lI p2.Used (aG 3 c16 (aG 8 c17 (t))))))))))))))) ?_
    refine it rT ?_
    refine so [] [] [(6, cB false)] [] id ?_
    cases H
    exact er
   ·obtain ⟨v18, h19, H⟩ := oB H
    refine sn ([.res (cB v11)] ++ rg 6 false ([.res (cB v14)] ++ rg 21 false ([.res (cB v18)] ++ rg 2 false []))) [] [(47, cB (!v18))] [] [] (fun t => aI (s_iGood_ok p0 p2.State p1 v11 h12) (aG 4 c13 (lI p1 (aG 2 c13 (aI (s_iDifferent_ok p2.Used (W ((p1.length : Int) - 1)) v14 h15) (aG 2 c13 (aG 3 c16 (lI p2.Stack (aG 3 c16 (lI p2.Log (aG 4 c16 (lI p2.Used (aG 3 c16 (aG 4 c17 (lI p1 (aG 2 c17 (aI (s_l1All_ok p2.Log (-1) (W ((p1.length : Int) - 1)) v18 h19) (aG 2 c17 (t))))))))))))))))))) ?_
    rcases oC H with ⟨c20, H⟩ | ⟨c20, H⟩
    ·refine it c20 ?_
     refine so [] [] [(6, cB false)] [] id ?_
     cases H
     exact er
    ·refine jf c20 ?_
     refine sk ?_
     refine sn [] [] [(7, .c (.nil))] [] [] id ?_
     refine seq_in ?_
     refine sn [] [] [(49, dc 3 eTFrame zTFrame p2.Stack), (50, cL p2.Stack), (51, cI 0)] [] [] (fun t => lI p2.Stack (t)) ?_
     refine ends_blk ?_
     obtain ⟨y104, h105, H⟩ := oB H
     refine tl [.nlo 7 1001 1 (fF eI zI ([] : List Int))] [(3, pk 3), (5, pk 5), (7, ow 1001 1 ([] : List Int)), (49, dc 3 eTFrame zTFrame p2.Stack), (50, cL p2.Stack), (51, cI 0)] [(3, va (eTBoard p0)), (5, va (eTMachine p2)), (1001, ar 1 eI zI ([] : List Int))] (aI (by decide : 0 < 1)) ?_
     refine loop_in (fun (x : (Int × (List Int))) => lit [(3, pk 3), (5, pk 5), (7, ow 1001 1 x.2), (49, dc 3 eTFrame zTFrame p2.Stack), (50, cL p2.Stack), (51, cI x.1)] [(3, va (eTBoard p0)), (5, va (eTMachine p2)), (1001, ar 1 eI zI x.2)]) (orJ (fun (z : Unit) => At (.exit 0) (lit [] [])) (fun (z : Bool) => At .ret (lit [(6, cB z)] []))) h105 ?_ ?_
     ·clear H h105
      intro x76 y0 H
      refine sn [] [] [(52, cB (decide (x76.1 < (p2.Stack.length : Int))))] [] [] id ?_
      refine seq_in ?_
      rcases oC H with ⟨c78, H⟩ | ⟨c78, H⟩
      ·refine it c78 ?_
       refine sk ?_
       refine seq_in ?_
       refine ends_blk ?_
       obtain ⟨v79, h80, H⟩ := oB H
       refine sn [.cs (eTFrame v79)] [] [(8, cI x76.1), (9, pk 9)] [] [(9, va (eTFrame v79))] (a2 eTFrame h80) ?_
       refine seq_in ?_
       obtain ⟨v81, h82, H⟩ := oB H
       rcases oC H with ⟨c83, H⟩ | ⟨c83, H⟩
       ·refine sn ([.res (cB v81)] ++ rg 10 true []) [] [(88, cB true)] [] [] (fun t => aI (s_iEvent_ok p0 p2.State v79 v81 h82) (aG 5 c83 (aG 5 rT (t)))) ?_
        refine it rT ?_
        refine so [] [] [(6, cB false)] [] id ?_
        refine ends_ret ?_
        cases H
        exact rsr
       ·rcases oC H with ⟨c84, H⟩ | ⟨c84, H⟩
        ·rcases oC H with ⟨c85, H⟩ | ⟨c85, H⟩
         ·refine sn ([.res (cB v81)] ++ rg 3 false (rg 3 true ([.g false, .g true, .g false] ++ rg 5 true []))) [] [(88, cB true)] [] [] (fun t => aI (s_iEvent_ok p0 p2.State v79 v81 h82) (aG 3 c83 (aG 3 c84 (aI c83 (aI c84 (aI c83 (aG 5 c85 (t)))))))) ?_
          refine it rT ?_
          refine so [] [] [(6, cB false)] [] id ?_
          refine ends_ret ?_
          cases H
          exact rsr
         ·rcases oC H with ⟨c86, H⟩ | ⟨c86, H⟩
          ·obtain ⟨v87, h88, H⟩ := oB H
           rcases oC H with ⟨c89, H⟩ | ⟨c89, H⟩
           ·refine sn ([.res (cB v81)] ++ rg 3 false (rg 3 true ([.g false, .g true] ++ rg 4 false (rg 5 true ([.res (cB v87)] ++ rg 8 true [.g false, .g true, .g false]))))) [] [(88, cB true)] [] [] (fun t => aI (s_iEvent_ok p0 p2.State v79 v81 h82) (aG 3 c83 (aG 3 c84 (aI c83 (aI c84 (aI c83 (aG 3 c85 (aG 5 c86 (aI (s_l1Has_ok p2.Used v79.By v87 h88) (aG 2 c86 (aG 4 c89 (aI c86 (aI c89 (aI c85 (aI c86 (aI c85 (t))))))))))))))))) ?_
            refine it rT ?_
            refine so [] [] [(6, cB false)] [] id ?_
            refine ends_ret ?_
            cases H
            exact rsr
           ·obtain ⟨v90, h91, H⟩ := oB H
            refine sn ([.res (cB v81)] ++ rg 3 false (rg 3 true ([.g false, .g true] ++ rg 4 false (rg 5 true ([.res (cB v87)] ++ rg 2 true (rg 4 false ([.res (cB v90), .g true] ++ rg 2 false [.g true, .g false]))))))) [] [(88, cB v90)] [] [] (fun t => aI (s_iEvent_ok p0 p2.State v79 v81 h82) (aG 3 c83 (aG 3 c84 (aI c83 (aI c84 (aI c83 (aG 3 c85 (aG 5 c86 (aI (s_l1Has_ok p2.Used v79.By v87 h88) (aG 2 c86 (aG 4 c89 (aI (Nat.le_refl x76.2.length) (aI (s_l1Has_ok x76.2 v79.By v90 h91) (aI c86 (aI c89 (aI c85 (aI c86 (aI c85 (t))))))))))))))))))) ?_
            rcases oC H with ⟨c92, H⟩ | ⟨c92, H⟩
            ·refine it c92 ?_
             refine so [] [] [(6, cB false)] [] id ?_
             refine ends_ret ?_
             cases H
             exact rsr
            ·refine jf c92 ?_
             refine sk ?_
             obtain ⟨g93, H⟩ := oI H
             refine oo [fh eI zI ([v79.By] : List Int), fh eI zI (x76.2 ++ ([v79.By] : List Int))] [] [(3, pk 3), (5, pk 5), (7, ow 93 1 (x76.2 ++ ([v79.By] : List Int))), (49, dc 3 eTFrame zTFrame p2.Stack), (50, cL p2.Stack), (51, cI x76.1)] [(3, va (eTBoard p0)), (5, va (eTMachine p2)), (93, ar 1 eI zI (x76.2 ++ ([v79.By] : List Int)))] (fun t => aI (rfl : ([v79.By] : List Int).length = 1) (aI (fF_lit eI zI ([v79.By] : List Int)) (aI (And.intro (Nat.le_refl x76.2.length) (And.intro (@List.length_append _ x76.2 ([v79.By] : List Int)) g93)) (aI (fF_appL eI zI x76.2 ([v79.By] : List Int)) (aI (fF_appR eI zI x76.2 ([v79.By] : List Int)) (t)))))) ?_
             change EndsI _ _ _ _ _ _
             refine oo [] [.ren 93 1001] [(3, pk 3), (5, pk 5), (7, ow 1001 1 (x76.2 ++ ([v79.By] : List Int))), (49, dc 3 eTFrame zTFrame p2.Stack), (50, cL p2.Stack), (51, cI (W (x76.1 + 1)))] [(3, va (eTBoard p0)), (5, va (eTMachine p2)), (1001, ar 1 eI zI (x76.2 ++ ([v79.By] : List Int)))] id ?_
             cases H
             exact rr
          ·refine sn ([.res (cB v81)] ++ rg 3 false (rg 3 true ([.g false, .g true] ++ rg 15 false []))) [] [(88, cB false)] [] [] (fun t => aI (s_iEvent_ok p0 p2.State v79 v81 h82) (aG 3 c83 (aG 3 c84 (aI c83 (aI c84 (aI c83 (aG 3 c85 (aG 8 c86 (aI c85 (aI c86 (aI c85 (t)))))))))))) ?_
           refine jf rF ?_
           refine sk ?_
           obtain ⟨g94, H⟩ := oI H
           refine oo [fh eI zI ([v79.By] : List Int), fh eI zI (x76.2 ++ ([v79.By] : List Int))] [] [(3, pk 3), (5, pk 5), (7, ow 93 1 (x76.2 ++ ([v79.By] : List Int))), (49, dc 3 eTFrame zTFrame p2.Stack), (50, cL p2.Stack), (51, cI x76.1)] [(3, va (eTBoard p0)), (5, va (eTMachine p2)), (93, ar 1 eI zI (x76.2 ++ ([v79.By] : List Int)))] (fun t => aI (rfl : ([v79.By] : List Int).length = 1) (aI (fF_lit eI zI ([v79.By] : List Int)) (aI (And.intro (Nat.le_refl x76.2.length) (And.intro (@List.length_append _ x76.2 ([v79.By] : List Int)) g94)) (aI (fF_appL eI zI x76.2 ([v79.By] : List Int)) (aI (fF_appR eI zI x76.2 ([v79.By] : List Int)) (t)))))) ?_
           change EndsI _ _ _ _ _ _
           refine oo [] [.ren 93 1001] [(3, pk 3), (5, pk 5), (7, ow 1001 1 (x76.2 ++ ([v79.By] : List Int))), (49, dc 3 eTFrame zTFrame p2.Stack), (50, cL p2.Stack), (51, cI (W (x76.1 + 1)))] [(3, va (eTBoard p0)), (5, va (eTMachine p2)), (1001, ar 1 eI zI (x76.2 ++ ([v79.By] : List Int)))] id ?_
           cases H
           exact rr
        ·rcases oC H with ⟨c95, H⟩ | ⟨c95, H⟩
         ·obtain ⟨v96, h97, H⟩ := oB H
          rcases oC H with ⟨c98, H⟩ | ⟨c98, H⟩
          ·refine sn ([.res (cB v81)] ++ rg 12 false (rg 5 true ([.res (cB v96)] ++ rg 8 true [.g false, .g true, .g false]))) [] [(88, cB true)] [] [] (fun t => aI (s_iEvent_ok p0 p2.State v79 v81 h82) (aG 3 c83 (aG 3 c84 (aI c83 (aI c84 (aI c83 (aG 3 rF (aG 5 c95 (aI (s_l1Has_ok p2.Used v79.By v96 h97) (aG 2 c95 (aG 4 c98 (aI c95 (aI c98 (aI rF (aI c95 (aI rF (t))))))))))))))))) ?_
           refine it rT ?_
           refine so [] [] [(6, cB false)] [] id ?_
           refine ends_ret ?_
           cases H
           exact rsr
          ·obtain ⟨v99, h100, H⟩ := oB H
           refine sn ([.res (cB v81)] ++ rg 12 false (rg 5 true ([.res (cB v96)] ++ rg 2 true (rg 4 false ([.res (cB v99), .g true] ++ rg 2 false [.g true, .g false]))))) [] [(88, cB v99)] [] [] (fun t => aI (s_iEvent_ok p0 p2.State v79 v81 h82) (aG 3 c83 (aG 3 c84 (aI c83 (aI c84 (aI c83 (aG 3 rF (aG 5 c95 (aI (s_l1Has_ok p2.Used v79.By v96 h97) (aG 2 c95 (aG 4 c98 (aI (Nat.le_refl x76.2.length) (aI (s_l1Has_ok x76.2 v79.By v99 h100) (aI c95 (aI c98 (aI rF (aI c95 (aI rF (t))))))))))))))))))) ?_
           rcases oC H with ⟨c101, H⟩ | ⟨c101, H⟩
           ·refine it c101 ?_
            refine so [] [] [(6, cB false)] [] id ?_
            refine ends_ret ?_
            cases H
            exact rsr
           ·refine jf c101 ?_
            refine sk ?_
            obtain ⟨g102, H⟩ := oI H
            refine oo [fh eI zI ([v79.By] : List Int), fh eI zI (x76.2 ++ ([v79.By] : List Int))] [] [(3, pk 3), (5, pk 5), (7, ow 93 1 (x76.2 ++ ([v79.By] : List Int))), (49, dc 3 eTFrame zTFrame p2.Stack), (50, cL p2.Stack), (51, cI x76.1)] [(3, va (eTBoard p0)), (5, va (eTMachine p2)), (93, ar 1 eI zI (x76.2 ++ ([v79.By] : List Int)))] (fun t => aI (rfl : ([v79.By] : List Int).length = 1) (aI (fF_lit eI zI ([v79.By] : List Int)) (aI (And.intro (Nat.le_refl x76.2.length) (And.intro (@List.length_append _ x76.2 ([v79.By] : List Int)) g102)) (aI (fF_appL eI zI x76.2 ([v79.By] : List Int)) (aI (fF_appR eI zI x76.2 ([v79.By] : List Int)) (t)))))) ?_
            change EndsI _ _ _ _ _ _
            refine oo [] [.ren 93 1001] [(3, pk 3), (5, pk 5), (7, ow 1001 1 (x76.2 ++ ([v79.By] : List Int))), (49, dc 3 eTFrame zTFrame p2.Stack), (50, cL p2.Stack), (51, cI (W (x76.1 + 1)))] [(3, va (eTBoard p0)), (5, va (eTMachine p2)), (1001, ar 1 eI zI (x76.2 ++ ([v79.By] : List Int)))] id ?_
            cases H
            exact rr
         ·refine sn ([.res (cB v81)] ++ rg 23 false []) [] [(88, cB false)] [] [] (fun t => aI (s_iEvent_ok p0 p2.State v79 v81 h82) (aG 3 c83 (aG 3 c84 (aI c83 (aI c84 (aI c83 (aG 3 rF (aG 8 c95 (aI rF (aI c95 (aI rF (t)))))))))))) ?_
          refine jf rF ?_
          refine sk ?_
          obtain ⟨g103, H⟩ := oI H
          refine oo [fh eI zI ([v79.By] : List Int), fh eI zI (x76.2 ++ ([v79.By] : List Int))] [] [(3, pk 3), (5, pk 5), (7, ow 93 1 (x76.2 ++ ([v79.By] : List Int))), (49, dc 3 eTFrame zTFrame p2.Stack), (50, cL p2.Stack), (51, cI x76.1)] [(3, va (eTBoard p0)), (5, va (eTMachine p2)), (93, ar 1 eI zI (x76.2 ++ ([v79.By] : List Int)))] (fun t => aI (rfl : ([v79.By] : List Int).length = 1) (aI (fF_lit eI zI ([v79.By] : List Int)) (aI (And.intro (Nat.le_refl x76.2.length) (And.intro (@List.length_append _ x76.2 ([v79.By] : List Int)) g103)) (aI (fF_appL eI zI x76.2 ([v79.By] : List Int)) (aI (fF_appR eI zI x76.2 ([v79.By] : List Int)) (t)))))) ?_
          change EndsI _ _ _ _ _ _
          refine oo [] [.ren 93 1001] [(3, pk 3), (5, pk 5), (7, ow 1001 1 (x76.2 ++ ([v79.By] : List Int))), (49, dc 3 eTFrame zTFrame p2.Stack), (50, cL p2.Stack), (51, cI (W (x76.1 + 1)))] [(3, va (eTBoard p0)), (5, va (eTMachine p2)), (1001, ar 1 eI zI (x76.2 ++ ([v79.By] : List Int)))] id ?_
          cases H
          exact rr
      ·refine jf c78 ?_
       refine tl [] [] [] id ?_
       refine ends_exit ?_
       cases H
       exact rse
     ·clear h105
      cases y104 with
      | inl y106 =>
       replace H := ofInl H
       rintro e s ⟨rfl, rfl⟩
       change EndsI _ _ _ _ _ _
       refine so [] [] [(6, cB true)] [] id ?_
       cases H
       exact er
      | inr y107 =>
       replace H := ofInr H
       rintro e s ⟨rfl, rfl⟩
       cases H
       exact qr
def s_sOwn_ir : S :=
 (sq [o 1 (.box 3 (.t 0)), o 2 (.alloc [.int .i64 0, .int .i64 0, .nil])]
 (.seq (.drw [(0, 2), (1, 2), (0, 3), (1, 3), (0, 4), (1, 4), (2, 4), (3, 4), (0, 5), (1, 5), (2, 5), (3, 5), (4, 5), (0, 6), (1, 6), (2, 6), (3, 6), (4, 6), (0, 7), (1, 7), (2, 7), (3, 7)] [oa 3 0 1, ol 4 3, oa 5 1 1, ol 6 5, o 7 (.bsl 4 []), oa 8 2 1, ol 9 8, o 10 (.app 4 32 (.t 7) (.t 9)), o 11 (.build [.int .i64 0, .int .i64 0, .nil] [(0, 1, .t 4), (1, 1, .t 6), (2, 1, .t 10)]), os 3 2 11])
 .ret))
noncomputable def X.s_sOwn (p0 : TState) : Option TState :=
 (if (([] : List TUnit) ++ p0.Units).length ≤ LIM then some (TState.mk p0.Turn p0.Weather (([] : List TUnit) ++ p0.Units)) else none)
theorem s_sOwn_Md_ok (p0 : TState) (r : TState) (H : X.s_sOwn p0 = some r) : FnMu Tryz.prog gl 81 [.agg (eTState p0)] [] (.agg [.int .i64 r.Turn, .int .i64 r.Weather, .own 900000 4 0 r.Units.length]) [(2, .var [.int .i64 r.Turn, .int .i64 r.Weather, .own 900000 4 0 r.Units.length] false), (900000, .arr 4 r.Units.length (fF eTUnit zTUnit r.Units) false)] := by
 unfold X.s_sOwn at H
 refine fn_mu (fn := Tryz.f81) (ir := s_sOwn_ir) (E' := [(2, pk 2)]) (E1 := [(2, .var [jI r.Turn, jI r.Weather, .own 900000 4 0 r.Units.length] false), (900000, ar 4 eTUnit zTUnit r.Units)]) glL Tryz.func81 (by kernel_rfl) (by kernel_rfl) (by kernel_rfl) (by kernel_rfl) (by kernel_rfl) ?_
 refine so [] [] [(1, pk 1), (2, pk 2)] [(1, va (eTState p0)), (2, .var [jI 0, jI 0, .nil] false)] id ?_
 obtain ⟨g1, H⟩ := oI H
 refine xn [.no, fh eTUnit zTUnit ([] : List TUnit), fh eTUnit zTUnit (([] : List TUnit) ++ p0.Units)] [] [] [2] [(2, .var [jI p0.Turn, jI p0.Weather, .own 10 4 0 ((([] : List TUnit) ++ p0.Units).length)] false), (10, ar 4 eTUnit zTUnit (([] : List TUnit) ++ p0.Units))] (fun t => aI (rfl : ([] : List TUnit).length = 0) (aI rT (aI (fF_lit eTUnit zTUnit ([] : List TUnit)) (aI (And.intro (Nat.le_refl (([] : List TUnit).length)) (And.intro (@List.length_append _ ([] : List TUnit) p0.Units) g1)) (aI (fF_appL eTUnit zTUnit ([] : List TUnit) p0.Units) (aI (fF_appR eTUnit zTUnit ([] : List TUnit) p0.Units) (t))))))) ?_
 refine tl [.ren 10 900000] [(2, pk 2)] [(2, .var [jI p0.Turn, jI p0.Weather, .own 900000 4 0 ((([] : List TUnit) ++ p0.Units).length)] false), (900000, ar 4 eTUnit zTUnit (([] : List TUnit) ++ p0.Units))] id ?_
 cases H
 exact er
def s_l1Own_ir : S :=
 (sq [o 2 (.mv (.v (.nil)))]
 (sq [o 3 (.bsl 1 []), om 4 0, o 5 (.app 1 8 (.t 3) (.t 4)), om 2 5]
 .ret))
noncomputable def X.s_l1Own (p0 : (List Int)) : Option (List Int) :=
 (if (([] : List Int) ++ p0).length ≤ LIM then some (([] : List Int) ++ p0) else none)
theorem s_l1Own_Md_ok (p0 : (List Int)) (r : (List Int)) (H : X.s_l1Own p0 = some r) : FnMu Tryz.prog gl 174 [.c (dat 1 eI zI p0)] [] (.c (.own 900000 1 0 r.length)) [(900000, .arr 1 r.length (fF eI zI r) false)] := by
 unfold X.s_l1Own at H
 refine fn_mu (fn := Tryz.f174) (ir := s_l1Own_ir) (E' := [(2, ow 900000 1 r)]) (E1 := [(900000, ar 1 eI zI r)]) glL Tryz.func174 (by kernel_rfl) (by kernel_rfl) (by kernel_rfl) (by kernel_rfl) (by kernel_rfl) ?_
 refine sn [] [] [] [] [] id ?_
 obtain ⟨g1, H⟩ := oI H
 refine so [fh eI zI ([] : List Int), fh eI zI (([] : List Int) ++ p0)] [] [(2, ow 5 1 (([] : List Int) ++ p0))] [(5, ar 1 eI zI (([] : List Int) ++ p0))] (fun t => aI (rfl : ([] : List Int).length = 0) (aI (fF_lit eI zI ([] : List Int)) (aI (And.intro (Nat.le_refl (([] : List Int).length)) (And.intro (@List.length_append _ ([] : List Int) p0) g1)) (aI (fF_appL eI zI ([] : List Int) p0) (aI (fF_appR eI zI ([] : List Int) p0) (t)))))) ?_
 refine tl [.ren 5 900000] [(2, ow 900000 1 (([] : List Int) ++ p0))] [(900000, ar 1 eI zI (([] : List Int) ++ p0))] id ?_
 cases H
 exact er
def s_iOwn_ir : S :=
 (sq [o 1 (.box 6 (.t 0)), o 2 (.alloc [.nil, .nil, .int .i64 0, .int .i64 0, .nil, .nil])]
 (.seq (.drw [(0, 1), (0, 2), (0, 4), (1, 4), (2, 4), (3, 4), (0, 5), (1, 5), (2, 5), (3, 5), (0, 7), (1, 7), (2, 7), (3, 7), (4, 7), (5, 7), (6, 7), (0, 8), (1, 8), (2, 8), (3, 8), (4, 8), (5, 8), (6, 8), (0, 10), (1, 10), (2, 10), (3, 10), (4, 10), (5, 10), (6, 10), (7, 10), (8, 10), (9, 10), (0, 11), (1, 11), (2, 11), (3, 11), (4, 11), (5, 11), (6, 11), (7, 11), (8, 11), (9, 11)] [o 3 (.bsl 3 []), oa 4 0 1, ol 5 4, o 6 (.app 3 24 (.t 3) (.t 5)), oa 7 1 1, ol 8 7, o 9 (.call 174 [.t 8]), oa 10 2 1, o 11 (.load 3 true (.t 10)), o 12 (.call 81 [.t 11]), oa 13 5 1, ol 14 13, o 15 (.call 174 [.t 14]), o 16 (.build [.nil, .nil, .int .i64 0, .int .i64 0, .nil, .nil] [(0, 1, .t 6), (1, 1, .t 9), (2, 3, .t 12), (5, 1, .t 15)]), os 6 2 16])
 .ret))
noncomputable def X.s_iOwn (p0 : TMachine) : Option TMachine :=
 (if (([] : List TFrame) ++ p0.Stack).length ≤ LIM then ((X.s_l1Own p0.Used).bind fun v2 => ((X.s_sOwn p0.State).bind fun v4 => ((X.s_l1Own p0.Log).bind fun v6 => some (TMachine.mk (([] : List TFrame) ++ p0.Stack) v2 v4 v6)))) else none)
theorem s_iOwn_Md_ok (p0 : TMachine) (r : TMachine) (H : X.s_iOwn p0 = some r) : FnMu Tryz.prog gl 109 [.agg (eTMachine p0)] [] (.agg (wTMachine 900000 900001 900002 900003 r)) [(2, .var (wTMachine 900000 900001 900002 900003 r) false), (900000, .arr 3 r.Stack.length (fF eTFrame zTFrame r.Stack) false), (900001, .arr 1 r.Used.length (fF eI zI r.Used) false), (900002, .arr 4 r.State.Units.length (fF eTUnit zTUnit r.State.Units) false), (900003, .arr 1 r.Log.length (fF eI zI r.Log) false)] := by
 unfold X.s_iOwn at H
 refine fn_mu (fn := Tryz.f109) (ir := s_iOwn_ir) (E' := [(2, pk 2)]) (E1 := [(2, va (wTMachine 900000 900001 900002 900003 r)), (900000, ar 3 eTFrame zTFrame r.Stack), (900001, ar 1 eI zI r.Used), (900002, ar 4 eTUnit zTUnit r.State.Units), (900003, ar 1 eI zI r.Log)]) glL Tryz.func109 (by kernel_rfl) (by kernel_rfl) (by kernel_rfl) (by kernel_rfl) (by kernel_rfl) ?_
 refine so [] [] [(1, pk 1), (2, pk 2)] [(1, va (eTMachine p0)), (2, .var [.nil, .nil, jI 0, jI 0, .nil, .nil] false)] id ?_
 obtain ⟨g1, H⟩ := oI H
 obtain ⟨v2, h3, H⟩ := oB H
 obtain ⟨v4, h5, H⟩ := oB H
 obtain ⟨v6, h7, H⟩ := oB H
 refine xn [.no, fh eTFrame zTFrame ([] : List TFrame), fh eTFrame zTFrame (([] : List TFrame) ++ p0.Stack), .mu [] [(900000, 1001)] (ow 900000 1 v2) [(900000, ar 1 eI zI v2)], .mu [] [(2, 1002), (900000, 1003)] (.agg [jI v4.Turn, jI v4.Weather, .own 900000 4 0 v4.Units.length]) [(2, .var [jI v4.Turn, jI v4.Weather, .own 900000 4 0 v4.Units.length] false), (900000, ar 4 eTUnit zTUnit v4.Units)], .mu [] [(900000, 1004)] (ow 900000 1 v6) [(900000, ar 1 eI zI v6)]] [] [] [2] [(2, .var [.own 6 3 0 ((([] : List TFrame) ++ p0.Stack).length), .own 1001 1 0 v2.length, jI v4.Turn, jI v4.Weather, .own 1003 4 0 v4.Units.length, .own 1004 1 0 v6.length] false), (6, ar 3 eTFrame zTFrame (([] : List TFrame) ++ p0.Stack)), (1001, ar 1 eI zI v2), (1003, ar 4 eTUnit zTUnit v4.Units), (1004, ar 1 eI zI v6)] (fun t => aI (rfl : ([] : List TFrame).length = 0) (aI rT (aI (fF_lit eTFrame zTFrame ([] : List TFrame)) (aI (And.intro (Nat.le_refl (([] : List TFrame).length)) (And.intro (@List.length_append _ ([] : List TFrame) p0.Stack) g1)) (aI (fF_appL eTFrame zTFrame ([] : List TFrame) p0.Stack) (aI (fF_appR eTFrame zTFrame ([] : List TFrame) p0.Stack) (aI (s_l1Own_Md_ok p0.Used v2 h3) (aI (s_sOwn_Md_ok p0.State v4 h5) (aI (s_l1Own_Md_ok p0.Log v6 h7) (t)))))))))) ?_
 refine tl [.ren 6 900000, .ren 1001 900001, .ren 1003 900002, .ren 1004 900003] [(2, pk 2)] [(2, .var [.own 900000 3 0 ((([] : List TFrame) ++ p0.Stack).length), .own 900001 1 0 v2.length, jI v4.Turn, jI v4.Weather, .own 900002 4 0 v4.Units.length, .own 900003 1 0 v6.length] false), (900000, ar 3 eTFrame zTFrame (([] : List TFrame) ++ p0.Stack)), (900001, ar 1 eI zI v2), (900002, ar 4 eTUnit zTUnit v4.Units), (900003, ar 1 eI zI v6)] id ?_
 cases H
 exact er
def s_l1Most_ir : S :=
 (sq [o 4 (.mv (iv 0))]
 (.seq (sq [om 5 0, om 6 1, o 7 (.bin .gtr (.t 5) (.t 6))]
 (.ite (.t 7) (sq [om 8 0, om 4 8]
  .ret)
 .skip))
 (sq [om 9 1, om 4 9]
 .ret)))
noncomputable def X.s_l1Most (p0 : Int) (p1 : Int) : Option Int :=
 (bif (decide (p0 > p1)) then some p0 else some p1)
theorem s_l1Most_ok (p0 : Int) (p1 : Int) (r : Int) (H : X.s_l1Most p0 p1 = some r) : FK 235 [cI p0, cI p1] (cI r) := by
 unfold X.s_l1Most at H
 refine fi Tryz.f235 s_l1Most_ir [(4, cI r)] [] glL Tryz.func235 ?_
 refine sn [] [] [] [] [] id ?_
 refine seq_in ?_
 refine sn [] [] [(7, cB (decide (p0 > p1)))] [] [] id ?_
 rcases oC H with ⟨c1, H⟩ | ⟨c1, H⟩
 ·refine it c1 ?_
  refine so [] [] [(4, cI p0)] [] id ?_
  cases H
  exact er
 ·refine jf c1 ?_
  refine sk ?_
  refine so [] [] [(4, cI p1)] [] id ?_
  cases H
  exact er
def s_l1Abs_ir : S :=
 (sq [o 2 (.mv (iv 0))]
 (sq [om 3 0, om 4 0, o 5 (.neg (.t 4)), o 6 (.call 235 [.t 3, .t 5]), om 2 6]
 .ret))
noncomputable def X.s_l1Abs (p0 : Int) : Option Int :=
 ((X.s_l1Most p0 (W (0 - p0))).bind fun v1 => some v1)
theorem s_l1Abs_ok (p0 : Int) (r : Int) (H : X.s_l1Abs p0 = some r) : FK 280 [cI p0] (cI r) := by
 unfold X.s_l1Abs at H
 refine fi Tryz.f280 s_l1Abs_ir [(2, cI r)] [] glL Tryz.func280 ?_
 refine sn [] [] [] [] [] id ?_
 obtain ⟨v1, h2, H⟩ := oB H
 refine so [.res (cI v1)] [] [(2, cI v1)] [] (aI (s_l1Most_ok p0 (W (0 - p0)) v1 h2)) ?_
 cases H
 exact er
def s_hDistance_ir : S :=
 (sq [o 2 (.box 2 (.t 0)), o 3 (.box 2 (.t 1)), o 4 (.mv (iv 0))]
 (.seq (.drw [(0, 2), (1, 2), (0, 3), (1, 3), (0, 5), (1, 5), (2, 5), (3, 5), (4, 5), (0, 6), (1, 6), (2, 6), (3, 6), (4, 6), (0, 7), (1, 7), (2, 7), (3, 7), (4, 7), (5, 7), (6, 7), (0, 8), (1, 8), (2, 8), (3, 8), (4, 8), (5, 8), (6, 8), (0, 9), (1, 9), (2, 9), (3, 9), (4, 9), (5, 10), (6, 10), (7, 10), (8, 10), (9, 10)] [oa 7 0 3, ol 8 7, oa 9 0 2, ol 10 9, o 11 (.bin .sub (.t 8) (.t 10)), oa 12 1 3, ol 13 12, oa 14 1 2, ol 15 14, o 16 (.bin .sub (.t 13) (.t 15)), om 5 11, om 6 16])
 (sq [om 17 5, o 18 (.call 280 [.t 17]), om 19 6, o 20 (.call 280 [.t 19]), o 21 (.bin .add (.t 18) (.t 20)), om 22 5, om 23 6, o 24 (.bin .add (.t 22) (.t 23)), o 25 (.call 280 [.t 24]), o 26 (.bin .add (.t 21) (.t 25)), o 27 (.bin .quo (.t 26) (iv 2)), om 4 27]
 .ret)))
noncomputable def X.s_hDistance (p0 : THex) (p1 : THex) : Option Int :=
 ((X.s_l1Abs (W (p1.Q - p0.Q))).bind fun v1 => ((X.s_l1Abs (W (p1.R - p0.R))).bind fun v3 => ((X.s_l1Abs (W ((W (p1.Q - p0.Q)) + (W (p1.R - p0.R))))).bind fun v5 => some (W (Int.tdiv (W ((W (v1 + v3)) + v5)) 2)))))
theorem s_hDistance_ok (p0 : THex) (p1 : THex) (r : Int) (H : X.s_hDistance p0 p1 = some r) : FK 232 [.agg (eTHex p0), .agg (eTHex p1)] (cI r) := by
 unfold X.s_hDistance at H
 refine fi Tryz.f232 s_hDistance_ir [(4, cI r)] [] glL Tryz.func232 ?_
 refine so [] [] [(2, pk 2), (3, pk 3)] [(2, va (eTHex p0)), (3, va (eTHex p1))] id ?_
 refine sx [] [] [(5, cI (W (p1.Q - p0.Q))), (6, cI (W (p1.R - p0.R)))] [] id ?_
 obtain ⟨v1, h2, H⟩ := oB H
 obtain ⟨v3, h4, H⟩ := oB H
 obtain ⟨v5, h6, H⟩ := oB H
 refine so [.res (cI v1), .res (cI v3), .res (cI v5)] [] [(4, cI (W (Int.tdiv (W ((W (v1 + v3)) + v5)) 2)))] [] (fun t => aI (s_l1Abs_ok (W (p1.Q - p0.Q)) v1 h2) (aI (s_l1Abs_ok (W (p1.R - p0.R)) v3 h4) (aI (s_l1Abs_ok (W ((W (p1.Q - p0.Q)) + (W (p1.R - p0.R)))) v5 h6) (aI (by decide : (2 : Int) ≠ 0) (t))))) ?_
 cases H
 exact er
def s_iNext_ir : S :=
 (sq [o 3 (.box 12 (.t 0)), o 5 (.box 6 (.t 2)), o 6 (.mv (iv 0))]
 (.seq (sq [oa 11 0 5, ol 12 11, o 13 (.len (.t 12)), o 14 (.bin .eql (.t 13) (iv 0))]
 (.ite (.t 14) (sq [o 6 (.mv (.v (.int .i64 (-1))))]
  .ret)
 .skip))
 (sq [oa 15 0 5, ol 16 15, oa 17 0 5, ol 18 17, o 19 (.len (.t 18)), o 20 (.bin .sub (.t 19) (iv 1)), o 21 (.iad 3 (.t 16) (.t 20)), o 22 (.load 3 true (.t 21)), o 7 (.alloc [.int .i64 0, .int .i64 0, .int .i64 0]), os 3 7 22]
 (.seq (sq [om 23 1, o 24 (.len (.t 23)), o 25 (.mv (iv 0))]
 (.blk 0 (.loop (sq [o 26 (.bin .lss (.t 25) (.t 24))]
   (.seq (.ite (.t 26) .skip
   (.exit 0))
   (.seq (.blk 1 (sq [om 27 25, o 28 (.iad 3 (.t 23) (.t 25)), o 29 (.load 3 true (.t 28)), o 9 (.alloc [.int .i64 0, .int .i64 0, .int .i64 0]), om 8 27, os 3 9 29]
    (sq [oa 30 2 5, oa 31 2 30, ol 32 31, oa 33 0 9, ol 34 33, o 35 (.iad 4 (.t 32) (.t 34)), o 36 (.load 4 true (.t 35)), o 10 (.alloc [.int .i64 0, .int .i64 0, .int .i64 0, .int .i64 0]), os 4 10 36]
    (.seq (.seq (.drw [(0, 2), (1, 2), (5, 7), (6, 7), (5, 8), (6, 8), (17, 19), (18, 19), (17, 20), (18, 20), (17, 21), (18, 21), (17, 22), (18, 22), (19, 22), (20, 22), (21, 22), (17, 23), (18, 23), (19, 23), (20, 23), (21, 23), (17, 24), (18, 24), (17, 25), (18, 25), (17, 26), (18, 26)] [oa 37 1 5, ol 38 37, om 39 8, o 40 (.call 132 [.t 38, .t 39]), om 41 40, og 42 (.fad 1 (.t 9)) 41, og 43 (.load 1 false (.t 42)) 41, og 44 (.fad 1 (.t 7)) 41, og 45 (.load 1 false (.t 44)) 41, og 46 (.bin .neq (.t 43) (.t 45)) 41, o 47 (.pick (.t 41) bT (.t 46)), om 48 47, og 49 (.fad 2 (.t 10)) 48, og 50 (.load 1 false (.t 49)) 48, og 51 (.bin .lss (.t 50) (iv 0)) 48, o 52 (.pick (.t 48) bT (.t 51)), om 53 52, og 54 (.fad 0 (.t 10)) 53, og 55 (.load 1 false (.t 54)) 53, og 56 (.fad 2 (.t 5)) 53, og 57 (.fad 2 (.t 56)) 53, og 58 (.load 1 false (.t 57)) 53, og 59 (.fad 0 (.t 7)) 53, og 60 (.load 1 false (.t 59)) 53, og 61 (.iad 4 (.t 58) (.t 60)) 53, og 62 (.fad 0 (.t 61)) 53, og 63 (.load 1 false (.t 62)) 53, og 64 (.bin .eql (.t 55) (.t 63)) 53, o 65 (.pick (.t 53) bT (.t 64))])
    (.ite (.t 65) (.exit 1)
    .skip))
    (.seq (.drw [(0, 2), (1, 2), (0, 3), (1, 3), (0, 5), (1, 5), (2, 5), (3, 5), (4, 5), (0, 6), (1, 6), (2, 6), (3, 6), (4, 6), (0, 7), (1, 7), (2, 7), (3, 7), (4, 7), (5, 7), (6, 7), (0, 8), (1, 8), (2, 8), (3, 8), (4, 8), (5, 8), (6, 8), (0, 11), (1, 11), (2, 11), (3, 11), (4, 11), (5, 11), (6, 11), (7, 11), (8, 11), (9, 11), (10, 11), (0, 12), (1, 12), (2, 12), (3, 12), (4, 12), (5, 12), (6, 12), (7, 12), (8, 12), (9, 12), (10, 12), (0, 13), (1, 13), (2, 13), (3, 13), (4, 13), (5, 13), (6, 13), (7, 13), (8, 13), (9, 13), (10, 13), (0, 14), (1, 14), (2, 14), (3, 14), (4, 14), (5, 14), (6, 14), (7, 14), (8, 14), (9, 14), (10, 14), (11, 14), (12, 14), (13, 14), (0, 15), (1, 15), (2, 15), (3, 15), (4, 15), (5, 15), (6, 15), (7, 15), (8, 15), (9, 15), (10, 15), (11, 15), (12, 15), (13, 15), (0, 16), (1, 16), (2, 16), (3, 16), (4, 16), (5, 16), (6, 16), (7, 16), (8, 16), (9, 16), (10, 16), (0, 17), (1, 17), (2, 17), (3, 17), (4, 17), (5, 17), (6, 17), (7, 17), (8, 17), (9, 17), (10, 17), (0, 18), (1, 18), (2, 18), (3, 18), (4, 18), (5, 18), (6, 18), (7, 18), (8, 18), (9, 18), (10, 18)] [oa 66 7 3, o 67 (.load 5 true (.t 66)), oa 68 2 10, ol 69 68, o 70 (.call 233 [.t 67, .t 69]), oa 71 7 3, o 72 (.load 5 true (.t 71)), oa 73 1 7, ol 74 73, o 75 (.call 233 [.t 72, .t 74]), o 76 (.call 232 [.t 70, .t 75]), oa 77 0 3, oa 78 1 77, ol 79 78, oa 80 1 10, ol 81 80, o 82 (.iad 6 (.t 79) (.t 81)), oa 83 5 82, ol 84 83, o 85 (.bin .leq (.t 76) (.t 84))])
    (.ite (.t 85) (sq [om 86 8, om 6 86]
     .ret)
    .skip))))))
   (.ops [o 87 (.bin .add (.t 25) (iv 1)), om 25 87])))))))
 (sq [o 6 (.mv (.v (.int .i64 (-1))))]
 .ret)))))
noncomputable def X.s_iNext (p0 : TBoard) (p1 : (List TReaction)) (p2 : TMachine) : Option Int :=
 (bif ((p2.Stack.length : Int) == 0) then some (-1) else ((at' zTFrame p2.Stack (W ((p2.Stack.length : Int) - 1))).bind fun v3 => ((loop (fun (x68 : Int) => ((bif (decide (x68 < (p1.length : Int))) then ((at' zTReaction p1 x68).bind fun v71 => ((at' zTUnit p2.State.Units v71.Unit).bind fun v73 => ((X.s_l1Has p2.Used x68).bind fun v83 => (bif v83 then some (Sum.inl (W (x68 + 1))) else (bif (v71.Watch != v3.At) then some (Sum.inl (W (x68 + 1))) else (bif (decide (v73.At < 0)) then some (Sum.inl (W (x68 + 1))) else ((at' zTUnit p2.State.Units v3.Unit).bind fun v88 => (bif (v73.Side == v88.Side) then some (Sum.inl (W (x68 + 1))) else ((X.s_mHex p0.Map v73.At).bind fun v91 => ((X.s_mHex p0.Map v3.At).bind fun v93 => ((X.s_hDistance v91 v93).bind fun v95 => ((at' zTKind p0.Rules.Kinds v73.Kind).bind fun v97 => (bif (decide (v95 ≤ v97.View)) then some (Sum.inr (Sum.inr x68)) else some (Sum.inl (W (x68 + 1)))))))))))))))) else some (Sum.inr (Sum.inl ()))) : Option (Int ⊕ (Unit ⊕ Int)))) 0).bind fun y100 => (Sum.elim (fun (y102 : Unit) => some (-1)) (fun (y103 : Int) => some y103) y100))))
theorem s_iNext_ok (p0 : TBoard) (p1 : (List TReaction)) (p2 : TMachine) (r : Int) (H : X.s_iNext p0 p1 p2 = some r) : FK 182 [.agg (eTBoard p0), .c (dat 3 eTReaction zTReaction p1), .agg (eTMachine p2)] (cI r) := by
 unfold X.s_iNext at H
 refine fi Tryz.f182 s_iNext_ir [(6, cI r)] [] glL Tryz.func182 ?_
 refine sn [] [] [(3, pk 3), (5, pk 5)] [] [(3, va (eTBoard p0)), (5, va (eTMachine p2))] id ?_
 refine seq_in ?_
 refine sn [] [] [(14, cB ((p2.Stack.length : Int) == 0))] [] [] (fun t => lI p2.Stack (t)) ?_
 rcases oC H with ⟨c2, H⟩ | ⟨c2, H⟩
 ·refine it c2 ?_
  refine so [] [] [(6, cI (-1))] [] id ?_
  cases H
  exact er
 ·refine jf c2 ?_
  refine sk ?_
  obtain ⟨v3, h4, H⟩ := oB H
  refine sn [.cs (eTFrame v3)] [] [(7, pk 7)] [] [(7, va (eTFrame v3))] (fun t => lI p2.Stack ((a2 eTFrame h4 (t)))) ?_
  refine seq_in ?_
  refine sn [] [] [(23, dc 3 eTReaction zTReaction p1), (24, cL p1), (25, cI 0)] [] [] (fun t => lI p1 (t)) ?_
  refine ends_blk ?_
  obtain ⟨y100, h101, H⟩ := oB H
  refine tl [] [(3, pk 3), (5, pk 5), (7, pk 7), (23, dc 3 eTReaction zTReaction p1), (24, cL p1), (25, cI 0)] [(3, va (eTBoard p0)), (5, va (eTMachine p2)), (7, va (eTFrame v3))] id ?_
  refine loop_in (fun (x : Int) => lit [(3, pk 3), (5, pk 5), (7, pk 7), (23, dc 3 eTReaction zTReaction p1), (24, cL p1), (25, cI x)] [(3, va (eTBoard p0)), (5, va (eTMachine p2)), (7, va (eTFrame v3))]) (orJ (fun (z : Unit) => At (.exit 0) (lit [] [])) (fun (z : Int) => At .ret (lit [(6, cI z)] []))) h101 ?_ ?_
  ·clear H h101
   intro x68 y0 H
   refine sn [] [] [(26, cB (decide (x68 < (p1.length : Int))))] [] [] id ?_
   refine seq_in ?_
   rcases oC H with ⟨c70, H⟩ | ⟨c70, H⟩
   ·refine it c70 ?_
    refine sk ?_
    refine seq_in ?_
    refine ends_blk ?_
    obtain ⟨v71, h72, H⟩ := oB H
    refine sn [.cs (eTReaction v71)] [] [(8, cI x68), (9, pk 9)] [] [(9, va (eTReaction v71))] (a2 eTReaction h72) ?_
    obtain ⟨v73, h74, H⟩ := oB H
    refine sn [.cs (eTUnit v73)] [] [(10, pk 10)] [] [(10, va (eTUnit v73))] (a2 eTUnit h74) ?_
    refine seq_in ?_
    obtain ⟨v83, h84, H⟩ := oB H
    rcases oC H with ⟨c85, H⟩ | ⟨c85, H⟩
    ·refine xn ([.res (cB v83)] ++ rg 22 true []) [] [(65, cB true)] [] [] (fun t => aI (s_l1Has_ok p2.Used x68 v83 h84) (aI trivial (aI rN (aG 6 c85 (aG 16 rT (t)))))) ?_
     refine it rT ?_
     refine ends_exit ?_
     change EndsI _ _ _ _ _ _
     refine oo [] [] [(3, pk 3), (5, pk 5), (7, pk 7), (23, dc 3 eTReaction zTReaction p1), (24, cL p1), (25, cI (W (x68 + 1)))] [(3, va (eTBoard p0)), (5, va (eTMachine p2)), (7, va (eTFrame v3))] id ?_
     cases H
     exact rr
    ·rcases oC H with ⟨c86, H⟩ | ⟨c86, H⟩
     ·refine xn ([.res (cB v83)] ++ rg 6 false (rg 16 true [])) [] [(65, cB true)] [] [] (fun t => aI (s_l1Has_ok p2.Used x68 v83 h84) (aI trivial (aI rN (aG 6 c85 (aG 4 c86 (aG 12 rT (t))))))) ?_
      refine it rT ?_
      refine ends_exit ?_
      change EndsI _ _ _ _ _ _
      refine oo [] [] [(3, pk 3), (5, pk 5), (7, pk 7), (23, dc 3 eTReaction zTReaction p1), (24, cL p1), (25, cI (W (x68 + 1)))] [(3, va (eTBoard p0)), (5, va (eTMachine p2)), (7, va (eTFrame v3))] id ?_
      cases H
      exact rr
     ·rcases oC H with ⟨c87, H⟩ | ⟨c87, H⟩
      ·refine xn ([.res (cB v83)] ++ rg 10 false (rg 12 true [])) [] [(65, cB true)] [] [] (fun t => aI (s_l1Has_ok p2.Used x68 v83 h84) (aI trivial (aI rN (aG 6 c85 (aG 4 c86 (aG 12 c87 (t))))))) ?_
       refine it rT ?_
       refine ends_exit ?_
       change EndsI _ _ _ _ _ _
       refine oo [] [] [(3, pk 3), (5, pk 5), (7, pk 7), (23, dc 3 eTReaction zTReaction p1), (24, cL p1), (25, cI (W (x68 + 1)))] [(3, va (eTBoard p0)), (5, va (eTMachine p2)), (7, va (eTFrame v3))] id ?_
       cases H
       exact rr
      ·obtain ⟨v88, h89, H⟩ := oB H
       refine xn ([.res (cB v83)] ++ rg 18 false ([.cs (eTUnit v88)] ++ rg 4 false [])) [] [(65, cB (v73.Side == v88.Side))] [] [] (fun t => aI (s_l1Has_ok p2.Used x68 v83 h84) (aI trivial (aI rN (aG 6 c85 (aG 4 c86 (aG 8 c87 ((a2 eTUnit h89 (aG 2 c87 (aI rN (aG 2 c87 (t)))))))))))) ?_
       rcases oC H with ⟨c90, H⟩ | ⟨c90, H⟩
       ·refine it c90 ?_
        refine ends_exit ?_
        change EndsI _ _ _ _ _ _
        refine oo [] [] [(3, pk 3), (5, pk 5), (7, pk 7), (23, dc 3 eTReaction zTReaction p1), (24, cL p1), (25, cI (W (x68 + 1)))] [(3, va (eTBoard p0)), (5, va (eTMachine p2)), (7, va (eTFrame v3))] id ?_
        cases H
        exact rr
       ·refine jf c90 ?_
        refine sk ?_
        obtain ⟨v91, h92, H⟩ := oB H
        obtain ⟨v93, h94, H⟩ := oB H
        obtain ⟨v95, h96, H⟩ := oB H
        obtain ⟨v97, h98, H⟩ := oB H
        refine xn [.res (.agg (eTHex v91)), .res (.agg (eTHex v93)), .res (cI v95), .cs (eTKind v97)] [] [(85, cB (decide (v95 ≤ v97.View)))] [9] [] (fun t => aI (s_mHex_ok p0.Map v73.At v91 h92) (aI trivial (aI rN (aI (s_mHex_ok p0.Map v3.At v93 h94) (aI trivial (aI rN (aI (s_hDistance_ok v91 v93 v95 h96) (aI trivial (aI rN ((a2 eTKind h98 (aI rN (t))))))))))))) ?_
        rcases oC H with ⟨c99, H⟩ | ⟨c99, H⟩
        ·refine it c99 ?_
         refine so [] [] [(6, cI x68)] [] id ?_
         refine ends_ret ?_
         cases H
         exact rsr
        ·refine jf c99 ?_
         refine sk ?_
         refine oo [] [] [(3, pk 3), (5, pk 5), (7, pk 7), (23, dc 3 eTReaction zTReaction p1), (24, cL p1), (25, cI (W (x68 + 1)))] [(3, va (eTBoard p0)), (5, va (eTMachine p2)), (7, va (eTFrame v3))] id ?_
         cases H
         exact rr
   ·refine jf c70 ?_
    refine tl [] [] [] id ?_
    refine ends_exit ?_
    cases H
    exact rse
  ·clear h101
   cases y100 with
   | inl y102 =>
    replace H := ofInl H
    rintro e s ⟨rfl, rfl⟩
    change EndsI _ _ _ _ _ _
    refine so [] [] [(6, cI (-1))] [] id ?_
    cases H
    exact er
   | inr y103 =>
    replace H := ofInr H
    rintro e s ⟨rfl, rfl⟩
    cases H
    exact qr
def s_aMost_ir : S :=
 (sq [o 2 (.box 3 (.t 0)), o 4 (.mv (iv 0))]
 (sq [om 8 1, o 9 (.iad 1 (.t 8) (iv 0)), ol 10 9, om 5 10]
 (.seq (sq [om 11 1, o 12 (.len (.t 11)), o 13 (.mv (iv 0))]
 (.blk 0 (.loop (sq [o 14 (.bin .lss (.t 13) (.t 12))]
   (.seq (.ite (.t 14) .skip
   (.exit 0))
   (.seq (.blk 1 (sq [o 15 (.iad 1 (.t 11) (.t 13)), ol 16 15, om 7 16]
    (.seq (.drw [(0, 2), (1, 2), (0, 6), (1, 6), (2, 6), (3, 6), (4, 6), (5, 6), (0, 7), (1, 7), (2, 7), (3, 7), (4, 7), (5, 7), (0, 8), (1, 8), (2, 8), (3, 8), (4, 8), (5, 8), (6, 8), (7, 8), (0, 9), (1, 9), (2, 9), (3, 9), (4, 9), (5, 9), (0, 10), (1, 10), (2, 10), (3, 10), (4, 10), (5, 10), (0, 11), (1, 11), (2, 11), (3, 11), (4, 11), (5, 11)] [oa 17 2 2, ol 18 17, om 19 7, o 20 (.iad 4 (.t 18) (.t 19)), oa 21 3 20, ol 22 21, oa 23 2 2, ol 24 23, om 25 5, o 26 (.iad 4 (.t 24) (.t 25)), oa 27 3 26, ol 28 27, o 29 (.bin .gtr (.t 22) (.t 28))])
    (.ite (.t 29) (.ops [om 30 7, om 5 30])
    .skip))))
   (.ops [o 31 (.bin .add (.t 13) (iv 1)), om 13 31])))))))
 (sq [om 32 5, om 4 32]
 .ret))))
noncomputable def X.s_aMost (p0 : TState) (p1 : (List Int)) : Option Int :=
 ((at' zI p1 0).bind fun v1 => ((loop (fun (x27 : (Int × Int)) => ((bif (decide (x27.2 < (p1.length : Int))) then ((at' zI p1 x27.2).bind fun v30 => ((at' zTUnit p0.Units v30).bind fun v32 => ((at' zTUnit p0.Units x27.1).bind fun v34 => (bif (decide (v32.Steps > v34.Steps)) then some (Sum.inl (v30, (W (x27.2 + 1)))) else some (Sum.inl (x27.1, (W (x27.2 + 1)))))))) else some (Sum.inr x27.1)) : Option ((Int × Int) ⊕ Int))) (v1, 0)).bind fun y37 => some y37))
theorem s_aMost_ok (p0 : TState) (p1 : (List Int)) (r : Int) (H : X.s_aMost p0 p1 = some r) : FK 234 [.agg (eTState p0), .c (dat 1 eI zI p1)] (cI r) := by
 unfold X.s_aMost at H
 refine fi Tryz.f234 s_aMost_ir [(4, cI r)] [] glL Tryz.func234 ?_
 refine sn [] [] [(2, pk 2)] [] [(2, va (eTState p0))] id ?_
 obtain ⟨v1, h2, H⟩ := oB H
 refine sn [.cs (eI v1)] [] [(5, cI v1)] [] [] (a2 eI h2) ?_
 refine seq_in ?_
 refine sn [] [] [(11, dc 1 eI zI p1), (12, cL p1), (13, cI 0)] [] [] (fun t => lI p1 (t)) ?_
 refine ends_blk ?_
 obtain ⟨y37, h38, H⟩ := oB H
 refine tl [] [(2, pk 2), (5, cI v1), (11, dc 1 eI zI p1), (12, cL p1), (13, cI 0)] [(2, va (eTState p0))] id ?_
 refine loop_in (fun (x : (Int × Int)) => lit [(2, pk 2), (5, cI x.1), (11, dc 1 eI zI p1), (12, cL p1), (13, cI x.2)] [(2, va (eTState p0))]) (fun (z : Int) => At (.exit 0) (lit [(5, cI z)] [])) h38 ?_ ?_
 ·clear H h38
  intro x27 y0 H
  refine sn [] [] [(14, cB (decide (x27.2 < (p1.length : Int))))] [] [] id ?_
  refine seq_in ?_
  rcases oC H with ⟨c29, H⟩ | ⟨c29, H⟩
  ·refine it c29 ?_
   refine sk ?_
   refine seq_in ?_
   refine ends_blk ?_
   obtain ⟨v30, h31, H⟩ := oB H
   refine sn [.cs (eI v30)] [] [(7, cI v30)] [] [] (a2 eI h31) ?_
   obtain ⟨v32, h33, H⟩ := oB H
   obtain ⟨v34, h35, H⟩ := oB H
   refine xn [.cs (eTUnit v32), .cs (eTUnit v34)] [] [(29, cB (decide (v32.Steps > v34.Steps)))] [] [] (fun t => (a2 eTUnit h33 (aI rN ((a2 eTUnit h35 (aI rN (t))))))) ?_
   rcases oC H with ⟨c36, H⟩ | ⟨c36, H⟩
   ·refine it c36 ?_
    refine oo [] [] [(2, pk 2), (5, cI v30), (11, dc 1 eI zI p1), (12, cL p1), (13, cI x27.2)] [(2, va (eTState p0))] id ?_
    change EndsI _ _ _ _ _ _
    refine oo [] [] [(2, pk 2), (5, cI v30), (11, dc 1 eI zI p1), (12, cL p1), (13, cI (W (x27.2 + 1)))] [(2, va (eTState p0))] id ?_
    cases H
    exact rr
   ·refine jf c36 ?_
    refine sk ?_
    refine oo [] [] [(2, pk 2), (5, cI x27.1), (11, dc 1 eI zI p1), (12, cL p1), (13, cI (W (x27.2 + 1)))] [(2, va (eTState p0))] id ?_
    cases H
    exact rr
  ·refine jf c29 ?_
   refine tl [] [(5, cI x27.1)] [] id ?_
   refine ends_exit ?_
   cases H
   exact rse
 ·clear h38
  rintro e s ⟨rfl, rfl⟩
  change EndsI _ _ _ _ _ _
  refine so [] [] [(4, cI y37)] [] id ?_
  cases H
  exact er
def s_iTarget_ir : S :=
 (sq [o 2 (.box 3 (.t 0)), o 3 (.box 3 (.t 1)), o 4 (.mv (iv 0))]
 (.seq (.drw [(0, 1), (0, 2), (0, 3), (1, 3), (2, 3), (0, 4), (1, 4), (2, 4), (0, 5), (1, 5), (2, 5), (3, 5), (4, 5), (0, 6), (1, 6), (2, 6), (3, 6), (4, 6), (0, 7), (1, 7), (2, 7), (0, 8), (1, 8), (2, 8), (0, 9), (1, 9), (2, 9), (0, 10), (1, 10), (2, 10)] [o 6 (.load 3 true (.t 2)), oa 7 1 3, ol 8 7, oa 9 2 2, ol 10 9, oa 11 0 3, ol 12 11, o 13 (.iad 4 (.t 10) (.t 12)), oa 14 0 13, ol 15 14, o 16 (.bin .sub (iv 1) (.t 15)), o 17 (.call 176 [.t 6, .t 8, .t 16]), om 5 17])
 (.seq (sq [om 18 5, o 19 (.len (.t 18)), o 20 (.bin .eql (.t 19) (iv 0))]
 (.ite (.t 20) (sq [o 4 (.mv (.v (.int .i64 (-1))))]
  .ret)
 .skip))
 (sq [o 21 (.load 3 true (.t 2)), om 22 5, o 23 (.call 234 [.t 21, .t 22]), om 4 23]
 .ret))))
noncomputable def X.s_iTarget (p0 : TState) (p1 : TFrame) : Option Int :=
 ((at' zTUnit p0.Units p1.Unit).bind fun v1 => ((X.s_sAt p0 p1.At (W (1 - v1.Side))).bind fun v3 => (bif ((v3.length : Int) == 0) then some (-1) else ((X.s_aMost p0 v3).bind fun v6 => some v6))))
theorem s_iTarget_ok (p0 : TState) (p1 : TFrame) (r : Int) (H : X.s_iTarget p0 p1 = some r) : FK 183 [.agg (eTState p0), .agg (eTFrame p1)] (cI r) := by
 unfold X.s_iTarget at H
 refine fi Tryz.f183 s_iTarget_ir [(4, cI r)] [] glL Tryz.func183 ?_
 refine so [] [] [(2, pk 2), (3, pk 3)] [(2, va (eTState p0)), (3, va (eTFrame p1))] id ?_
 obtain ⟨v1, h2, H⟩ := oB H
 obtain ⟨v3, h4, H⟩ := oB H
 refine xn [.cs (eTUnit v1), .res (dc 1 eI zI v3)] [] [(5, dc 1 eI zI v3)] [] [] (fun t => (a2 eTUnit h2 (aI rN (aI (s_sAt_ok p0 p1.At (W (1 - v1.Side)) v3 h4) (aG 2 rN (t)))))) ?_
 refine seq_in ?_
 refine sn [] [] [(20, cB ((v3.length : Int) == 0))] [3] [] (fun t => lI v3 (t)) ?_
 rcases oC H with ⟨c5, H⟩ | ⟨c5, H⟩
 ·refine it c5 ?_
  refine so [] [] [(4, cI (-1))] [] id ?_
  cases H
  exact er
 ·refine jf c5 ?_
  refine sk ?_
  obtain ⟨v6, h7, H⟩ := oB H
  refine so [.res (cI v6)] [] [(4, cI v6)] [] (aI (s_aMost_ok p0 v3 v6 h7)) ?_
  cases H
  exact er
def s_sLose_ir : S :=
 (sq [o 3 (.box 3 (.t 0))]
 (.seq (.drw [(0, 2), (1, 2), (0, 3), (1, 3), (2, 3), (0, 4), (1, 4), (2, 4), (0, 5), (1, 5), (2, 5), (3, 5), (4, 5), (0, 6), (1, 6), (2, 6), (0, 7), (1, 7), (2, 7), (0, 8), (1, 8), (2, 8), (0, 9), (1, 9), (2, 9), (3, 9), (4, 9), (5, 9), (6, 9), (7, 9), (8, 9), (0, 10), (1, 10), (2, 10), (0, 11), (1, 11), (2, 11)] [oa 6 2 3, ol 7 6, om 8 1, oa 9 2 3, ol 10 9, om 11 1, o 12 (.iad 4 (.t 10) (.t 11)), oa 13 3 12, ol 14 13, om 15 2, o 16 (.bin .sub (.t 14) (.t 15)), o 17 (.call 235 [.v (.int .i64 0), .t 16]), o 18 (.iad 4 (.t 7) (.t 8)), oa 19 3 18, os 1 19 17])
 (sq [oa 20 2 3, ol 21 20, om 22 1, o 23 (.iad 4 (.t 21) (.t 22)), oa 24 3 23, ol 25 24, o 26 (.bin .eql (.t 25) (iv 0))]
 (.ite (.t 26) (.ops [oa 27 2 3, ol 28 27, om 29 1, o 30 (.iad 4 (.t 28) (.t 29)), oa 31 2 30, ⟨none, .store 1 (.t 31) (.v (.int .i64 (-1))), none⟩])
 .skip))))
noncomputable def X.s_sLose_Modd (p0 : TState) (p1 : Int) (p2 : Int) : Option TState :=
 (if 0 ≤ p1 ∧ p1 < (p0.Units.length : Int) then ((X.s_l1Most 0 (W ((p0.Units.getD p1.toNat zTUnit).Steps - p2))).bind fun v2 => ((some (p0.Units.set p1.toNat (TUnit.mk ((p0.Units.getD p1.toNat zTUnit).Side) ((p0.Units.getD p1.toNat zTUnit).Kind) ((p0.Units.getD p1.toNat zTUnit).At) v2))).bind fun l4 => (bif ((l4.getD p1.toNat zTUnit).Steps == 0) then ((some (l4.set p1.toNat (TUnit.mk ((l4.getD p1.toNat zTUnit).Side) ((l4.getD p1.toNat zTUnit).Kind) (-1) ((l4.getD p1.toNat zTUnit).Steps)))).bind fun l7 => some (TState.mk p0.Turn p0.Weather l7)) else some (TState.mk p0.Turn p0.Weather l4)))) else none)
theorem s_sLose_Modd_ok (p0 : TState) (p1 : Int) (p2 : Int) (r : TState) (H : X.s_sLose_Modd p0 p1 p2 = some r) : FnMu Tryz.prog gl 184 [.agg [.int .i64 p0.Turn, .int .i64 p0.Weather, .own 1000000 4 0 p0.Units.length], cI p1, cI p2] [(1000000, .arr 4 p0.Units.length (fF eTUnit zTUnit p0.Units) false)] (.tup []) [(1000000, .arr 4 r.Units.length (fF eTUnit zTUnit r.Units) false)] := by
 unfold X.s_sLose_Modd at H
 refine fn_mu (fn := Tryz.f184) (ir := s_sLose_ir) (E' := []) (E1 := [(1000000, ar 4 eTUnit zTUnit r.Units)]) glL Tryz.func184 (by kernel_rfl) (by kernel_rfl) (by kernel_rfl) (by kernel_rfl) (by kernel_rfl) ?_
 refine sn [] [] [(3, pk 3)] [] [(3, .var [jI p0.Turn, jI p0.Weather, .own 1000000 4 0 p0.Units.length] false)] id ?_
 obtain ⟨g1, H⟩ := oI H
 obtain ⟨v2, h3, H⟩ := oB H
 obtain ⟨l4, h5, H⟩ := oB H
 refine xn [.no, .res (cI v2), .no, .fn 0 (fF eTUnit zTUnit l4)] [] [] [1000000] [(1000000, .arr 4 p0.Units.length (fF eTUnit zTUnit l4) false)] (fun t => aI g1 (aI (nat_lt g1) (aI rN (aI (s_l1Most_ok 0 (W ((p0.Units.getD p1.toNat zTUnit).Steps - p2)) v2 h3) (aI trivial (aI rN (aI g1 (aI rT (aI (nat_lt g1) (aI (by decide : 3 + 1 ≤ 4) (aI (fF_setN eTUnit zTUnit h5 (nat_lt g1) p0.Units.length) (t)))))))))))) ?_
 refine sn [.no] [] [(26, cB ((l4.getD p1.toNat zTUnit).Steps == 0))] [] [] (fun t => aI g1 (aI (nat_lt g1) (t))) ?_
 rcases oC H with ⟨c6, H⟩ | ⟨c6, H⟩
 ·refine it c6 ?_
  obtain ⟨l7, h8, H⟩ := oB H
  refine oo [.no, .fn 0 (fF eTUnit zTUnit l7)] [.rep 1000000 l7.length (fF eTUnit zTUnit l7)] [] [(1000000, ar 4 eTUnit zTUnit l7)] (fun t => aI g1 (aI rT (aI (nat_lt g1) (aI (by decide : 2 + 1 ≤ 4) (aI (fF_setN eTUnit zTUnit h8 (ltN h5 (nat_lt g1)) p0.Units.length) (aI (Nat.le_of_eq (by simp [lenN h8, lenN h5] : l7.length = p0.Units.length)) (aI (fun _ _ => rfl : ∀ i, i < l7.length → (fF eTUnit zTUnit l7) i = (fF eTUnit zTUnit l7) i) (t)))))))) ?_
  cases H
  exact qn
 ·refine jf c6 ?_
  refine tl [.rep 1000000 l4.length (fF eTUnit zTUnit l4)] [] [(1000000, ar 4 eTUnit zTUnit l4)] (fun t => aI (Nat.le_of_eq (by simp [lenN h5] : l4.length = p0.Units.length)) (aI (fun _ _ => rfl : ∀ i, i < l4.length → (fF eTUnit zTUnit l4) i = (fF eTUnit zTUnit l4) i) (t))) ?_
  refine ends_skip ?_
  cases H
  exact qn
def s_iStep_ir : S :=
 (sq [o 3 (.box 12 (.t 0)), o 5 (.box 6 (.t 2)), o 6 (.alloc [.nil, .nil, .int .i64 0, .int .i64 0, .nil, .nil])]
 (sq [oa 12 0 5, ol 13 12, o 14 (.len (.t 13)), om 7 14]
 (sq [oa 15 0 5, ol 16 15, om 17 7, o 18 (.bin .sub (.t 17) (iv 1)), o 19 (.iad 3 (.t 16) (.t 18)), o 20 (.load 3 true (.t 19)), o 8 (.alloc [.int .i64 0, .int .i64 0, .int .i64 0]), os 3 8 20]
 (.seq (sq [o 21 (.load 12 true (.t 3)), om 22 1, o 23 (.load 6 true (.t 5)), o 24 (.call 182 [.t 21, .t 22, .t 23]), om 9 24]
 (sq [om 25 9, o 26 (.bin .geq (.t 25) (iv 0))]
 (.ite (.t 26) (sq [oa 27 2 5, oa 28 2 27, ol 29 28, oa 30 0 8, ol 31 30, o 32 (.iad 4 (.t 29) (.t 31)), oa 33 2 32, ol 34 33, om 10 34]
  (.seq (sq [om 35 10, o 36 (.bin .lss (.t 35) (iv 0))]
  (.ite (.t 36) (.ops [oa 37 1 8, ol 38 37, om 10 38])
  .skip))
  (sq [oa 39 1 5, ol 40 39, om 41 9, o 42 (.bsl 1 [.t 41]), o 43 (.app 1 8 (.t 40) (.t 42)), oa 44 1 5, os 1 44 43]
  (.seq (.drw [(0, 2), (1, 2), (0, 3), (1, 3), (2, 3), (0, 4), (1, 4), (0, 5), (1, 5), (0, 6), (1, 6), (0, 7), (1, 7), (2, 7), (3, 7), (4, 7), (5, 7), (6, 7), (0, 8), (1, 8), (2, 8), (3, 8), (4, 8), (5, 8), (6, 8), (7, 8), (0, 9), (1, 9), (0, 10), (1, 10)] [oa 45 0 5, ol 46 45, om 47 1, om 48 9, o 49 (.iad 3 (.t 47) (.t 48)), oa 50 0 49, ol 51 50, om 52 10, om 53 9, o 54 (.build [.int .i64 0, .int .i64 0, .int .i64 0] [(0, 1, .t 51), (1, 1, .t 52), (2, 1, .t 53)]), o 55 (.bsl 3 [.t 54]), o 56 (.app 3 24 (.t 46) (.t 55)), oa 57 0 5, os 1 57 56])
  (sq [o 58 (.load 6 true (.t 5)), os 6 6 58]
  .ret)))))
 .skip)))
 (sq [oa 59 0 5, ol 60 59, om 61 7, o 62 (.bin .sub (.t 61) (iv 1)), o 63 (.slc 3 (.t 60) none (some (.t 62))), oa 64 0 5, os 1 64 63]
 (.seq (sq [oa 65 2 5, oa 66 2 65, ol 67 66, oa 68 0 8, ol 69 68, o 70 (.iad 4 (.t 67) (.t 69)), oa 71 2 70, ol 72 71, o 73 (.bin .lss (.t 72) (iv 0))]
 (.ite (.t 73) (sq [o 74 (.load 6 true (.t 5)), os 6 6 74]
  .ret)
 .skip))
 (sq [oa 75 5 5, ol 76 75, oa 77 2 8, ol 78 77, o 79 (.bsl 1 [.t 78]), o 80 (.app 1 8 (.t 76) (.t 79)), oa 81 5 5, os 1 81 80]
 (.seq (sq [oa 82 2 8, ol 83 82, o 84 (.bin .lss (.t 83) (iv 0))]
 (.ite (.t 84) (sq [o 85 (.load 6 true (.t 5)), os 6 6 85]
  .ret)
 .skip))
 (.seq (sq [om 86 1, oa 87 2 8, ol 88 87, o 89 (.iad 3 (.t 86) (.t 88)), oa 90 2 89, ol 91 90, o 92 (.bin .eql (.t 91) (iv 0))]
 (.ite (.t 92) (.seq (sq [oa 93 2 5, o 94 (.load 3 true (.t 93)), o 95 (.load 3 true (.t 8)), o 96 (.call 183 [.t 94, .t 95]), om 11 96]
  (sq [om 97 11, o 98 (.bin .geq (.t 97) (iv 0))]
  (.ite (.t 98) (.ops [oa 99 2 5, o 100 (.load 3 true (.t 99)), om 101 11, o 102 (.call 184 [.t 100, .t 101, .v (.int .i64 1)])])
  .skip)))
  (sq [o 103 (.load 6 true (.t 5)), os 6 6 103]
  .ret))
 .skip))
 (.seq (sq [om 104 7, o 105 (.bin .gtr (.t 104) (iv 1))]
 (.ite (.t 105) (.ops [oa 106 0 5, ol 107 106, om 108 7, o 109 (.bin .sub (.t 108) (iv 2)), o 110 (.slc 3 (.t 107) none (some (.t 109))), oa 111 0 5, os 1 111 110])
 .skip))
 (sq [o 112 (.load 6 true (.t 5)), os 6 6 112]
 .ret)))))))))))
noncomputable def X.s_iStep_Mddc (p0 : TBoard) (p1 : (List TReaction)) (p2 : TMachine) : Option TMachine :=
 (if 0 ≤ (W ((p2.Stack.length : Int) - 1)) ∧ (W ((p2.Stack.length : Int) - 1)) < (p2.Stack.length : Int) then ((X.s_iNext p0 p1 p2).bind fun v14 => (bif (decide (v14 ≥ 0)) then (if 0 ≤ (p2.Stack.getD ((W ((p2.Stack.length : Int) - 1)).toNat) zTFrame).Unit ∧ (p2.Stack.getD ((W ((p2.Stack.length : Int) - 1)).toNat) zTFrame).Unit < (p2.State.Units.length : Int) then (((bif (decide ((p2.State.Units.getD (((p2.Stack.getD ((W ((p2.Stack.length : Int) - 1)).toNat) zTFrame).Unit).toNat) zTUnit).At < 0)) then some ((p2.Stack.getD ((W ((p2.Stack.length : Int) - 1)).toNat) zTFrame).At) else some ((p2.State.Units.getD (((p2.Stack.getD ((W ((p2.Stack.length : Int) - 1)).toNat) zTFrame).Unit).toNat) zTUnit).At)) : Option Int).bind fun y20 => (if (p2.Used ++ ([v14] : List Int)).length ≤ LIM then ((at' zTReaction p1 v14).bind fun v23 => (if (p2.Stack ++ ([(TFrame.mk v23.Unit y20 v14)] : List TFrame)).length ≤ LIM then some (TMachine.mk (p2.Stack ++ ([(TFrame.mk v23.Unit y20 v14)] : List TFrame)) (p2.Used ++ ([v14] : List Int)) p2.State p2.Log) else none)) else none)) else none) else (if 0 ≤ (0 : Int) ∧ (0 : Int) ≤ (W ((p2.Stack.length : Int) - 1)) ∧ (W ((p2.Stack.length : Int) - 1)) ≤ (p2.Stack.length : Int) then (if 0 ≤ (p2.Stack.getD ((W ((p2.Stack.length : Int) - 1)).toNat) zTFrame).Unit ∧ (p2.Stack.getD ((W ((p2.Stack.length : Int) - 1)).toNat) zTFrame).Unit < (p2.State.Units.length : Int) then (bif (decide ((p2.State.Units.getD (((p2.Stack.getD ((W ((p2.Stack.length : Int) - 1)).toNat) zTFrame).Unit).toNat) zTUnit).At < 0)) then some (TMachine.mk (p2.Stack.take (W ((p2.Stack.length : Int) - 1)).toNat) p2.Used p2.State p2.Log) else (if (p2.Log ++ ([(p2.Stack.getD ((W ((p2.Stack.length : Int) - 1)).toNat) zTFrame).By] : List Int)).length ≤ LIM then (bif (decide ((p2.Stack.getD ((W ((p2.Stack.length : Int) - 1)).toNat) zTFrame).By < 0)) then some (TMachine.mk (p2.Stack.take (W ((p2.Stack.length : Int) - 1)).toNat) p2.Used p2.State (p2.Log ++ ([(p2.Stack.getD ((W ((p2.Stack.length : Int) - 1)).toNat) zTFrame).By] : List Int))) else ((at' zTReaction p1 ((p2.Stack.getD ((W ((p2.Stack.length : Int) - 1)).toNat) zTFrame).By)).bind fun v43 => (bif (v43.Kind == 0) then ((X.s_iTarget p2.State (p2.Stack.getD ((W ((p2.Stack.length : Int) - 1)).toNat) zTFrame)).bind fun v46 => (bif (decide (v46 ≥ 0)) then ((X.s_sLose_Modd p2.State v46 1).bind fun v49 => (if v49.Units.length = p2.State.Units.length then some (TMachine.mk (p2.Stack.take (W ((p2.Stack.length : Int) - 1)).toNat) p2.Used (TState.mk p2.State.Turn p2.State.Weather v49.Units) (p2.Log ++ ([(p2.Stack.getD ((W ((p2.Stack.length : Int) - 1)).toNat) zTFrame).By] : List Int))) else none)) else some (TMachine.mk (p2.Stack.take (W ((p2.Stack.length : Int) - 1)).toNat) p2.Used p2.State (p2.Log ++ ([(p2.Stack.getD ((W ((p2.Stack.length : Int) - 1)).toNat) zTFrame).By] : List Int))))) else (bif (decide ((p2.Stack.length : Int) > 1)) then (if 0 ≤ (0 : Int) ∧ (0 : Int) ≤ (W ((p2.Stack.length : Int) - 2)) ∧ (W ((p2.Stack.length : Int) - 2)) ≤ ((p2.Stack.take (W ((p2.Stack.length : Int) - 1)).toNat).length : Int) then some (TMachine.mk ((p2.Stack.take (W ((p2.Stack.length : Int) - 1)).toNat).take (W ((p2.Stack.length : Int) - 2)).toNat) p2.Used p2.State (p2.Log ++ ([(p2.Stack.getD ((W ((p2.Stack.length : Int) - 1)).toNat) zTFrame).By] : List Int))) else none) else some (TMachine.mk (p2.Stack.take (W ((p2.Stack.length : Int) - 1)).toNat) p2.Used p2.State (p2.Log ++ ([(p2.Stack.getD ((W ((p2.Stack.length : Int) - 1)).toNat) zTFrame).By] : List Int))))))) else none)) else none) else none))) else none)
theorem s_iStep_Mddc_ok (p0 : TBoard) (p1 : (List TReaction)) (p2 : TMachine) (r : TMachine) (H : X.s_iStep_Mddc p0 p1 p2 = some r) : FnMu Tryz.prog gl 108 [.agg (eTBoard p0), .c (dat 3 eTReaction zTReaction p1), .agg (wTMachine 1000000 1000001 1000002 1000003 p2)] [(1000000, .arr 3 p2.Stack.length (fF eTFrame zTFrame p2.Stack) false), (1000001, .arr 1 p2.Used.length (fF eI zI p2.Used) false), (1000002, .arr 4 p2.State.Units.length (fF eTUnit zTUnit p2.State.Units) false), (1000003, .arr 1 p2.Log.length (fF eI zI p2.Log) false)] (.agg (wTMachine 900000 900001 900002 900003 r)) [(6, .var (wTMachine 900000 900001 900002 900003 r) false), (900000, .arr 3 r.Stack.length (fF eTFrame zTFrame r.Stack) false), (900001, .arr 1 r.Used.length (fF eI zI r.Used) false), (900002, .arr 4 r.State.Units.length (fF eTUnit zTUnit r.State.Units) false), (900003, .arr 1 r.Log.length (fF eI zI r.Log) false)] := by
 unfold X.s_iStep_Mddc at H
 refine fn_mu (fn := Tryz.f108) (ir := s_iStep_ir) (E' := [(6, pk 6)]) (E1 := [(6, va (wTMachine 900000 900001 900002 900003 r)), (900000, ar 3 eTFrame zTFrame r.Stack), (900001, ar 1 eI zI r.Used), (900002, ar 4 eTUnit zTUnit r.State.Units), (900003, ar 1 eI zI r.Log)]) glL Tryz.func108 (by kernel_rfl) (by kernel_rfl) (by kernel_rfl) (by kernel_rfl) (by kernel_rfl) ?_
 refine sn [] [] [(3, pk 3), (5, pk 5), (6, pk 6)] [] [(3, va (eTBoard p0)), (5, va (wTMachine 1000000 1000001 1000002 1000003 p2)), (6, .var [.nil, .nil, jI 0, jI 0, .nil, .nil] false)] id ?_
 refine sn [] [] [(7, cL p2.Stack)] [] [] (fun t => lI p2.Stack (t)) ?_
 obtain ⟨g1, H⟩ := oI H
 refine sn [.no] [] [(8, pk 8)] [] [(8, .var [jI ((p2.Stack.getD ((W ((p2.Stack.length : Int) - 1)).toNat) zTFrame).Unit), jI ((p2.Stack.getD ((W ((p2.Stack.length : Int) - 1)).toNat) zTFrame).At), jI ((p2.Stack.getD ((W ((p2.Stack.length : Int) - 1)).toNat) zTFrame).By)] false)] (fun t => aI g1 (aI (nat_lt g1) (t))) ?_
 refine seq_in ?_
 obtain ⟨v14, h15, H⟩ := oB H
 refine sn [.res (cI v14)] [] [(9, cI v14)] [] [] (fun t => aI (Nat.le_refl p2.Stack.length) (aI (Nat.le_refl p2.Used.length) (aI (Nat.le_refl p2.State.Units.length) (aI (Nat.le_refl p2.Log.length) (aI (s_iNext_ok p0 p1 p2 v14 h15) (t)))))) ?_
 refine sn [] [] [(26, cB (decide (v14 ≥ 0)))] [3] [] id ?_
 rcases oC H with ⟨c16, H⟩ | ⟨c16, H⟩
 ·refine it c16 ?_
  obtain ⟨g17, H⟩ := oI H
  refine sn [.no] [] [(10, cI ((p2.State.Units.getD (((p2.Stack.getD ((W ((p2.Stack.length : Int) - 1)).toNat) zTFrame).Unit).toNat) zTUnit).At))] [] [] (fun t => aI g17 (aI (nat_lt g17) (t))) ?_
  obtain ⟨y20, h21, H⟩ := oB H
  refine seq_in (cut_in (fun (z : Int) => At .normal (lit [(1, dc 3 eTReaction zTReaction p1), (5, pk 5), (6, pk 6), (9, cI v14), (10, cI z)] [(5, va (wTMachine 1000000 1000001 1000002 1000003 p2)), (6, .var [.nil, .nil, jI 0, jI 0, .nil, .nil] false), (1000000, ar 3 eTFrame zTFrame p2.Stack), (1000001, ar 1 eI zI p2.Used), (1000002, ar 4 eTUnit zTUnit p2.State.Units), (1000003, ar 1 eI zI p2.Log)])) y20 ?_ ?_)
  ·clear H
   revert h21
   generalize y20 = y0
   intro H
   refine sn [] [] [(36, cB (decide ((p2.State.Units.getD (((p2.Stack.getD ((W ((p2.Stack.length : Int) - 1)).toNat) zTFrame).Unit).toNat) zTUnit).At < 0)))] [] [] id ?_
   rcases oC H with ⟨c19, H⟩ | ⟨c19, H⟩
   ·refine it c19 ?_
    refine oo [] [] [(1, dc 3 eTReaction zTReaction p1), (5, pk 5), (6, pk 6), (9, cI v14), (10, cI ((p2.Stack.getD ((W ((p2.Stack.length : Int) - 1)).toNat) zTFrame).At))] [(5, va (wTMachine 1000000 1000001 1000002 1000003 p2)), (6, .var [.nil, .nil, jI 0, jI 0, .nil, .nil] false), (1000000, ar 3 eTFrame zTFrame p2.Stack), (1000001, ar 1 eI zI p2.Used), (1000002, ar 4 eTUnit zTUnit p2.State.Units), (1000003, ar 1 eI zI p2.Log)] id ?_
    cases H
    exact rr
   ·refine jf c19 ?_
    refine tl [] [(1, dc 3 eTReaction zTReaction p1), (5, pk 5), (6, pk 6), (9, cI v14), (10, cI ((p2.State.Units.getD (((p2.Stack.getD ((W ((p2.Stack.length : Int) - 1)).toNat) zTFrame).Unit).toNat) zTUnit).At))] [(5, va (wTMachine 1000000 1000001 1000002 1000003 p2)), (6, .var [.nil, .nil, jI 0, jI 0, .nil, .nil] false), (1000000, ar 3 eTFrame zTFrame p2.Stack), (1000001, ar 1 eI zI p2.Used), (1000002, ar 4 eTUnit zTUnit p2.State.Units), (1000003, ar 1 eI zI p2.Log)] id ?_
    refine ends_skip ?_
    cases H
    exact rr
  ·clear h21
   rintro e s ⟨rfl, rfl⟩
   change EndsI _ _ _ _ _ _
   obtain ⟨g22, H⟩ := oI H
   refine sn [fh eI zI ([v14] : List Int), fh eI zI (p2.Used ++ ([v14] : List Int))] [] [] [1000001, 5] [(5, .var [.own 1000000 3 0 p2.Stack.length, .own 43 1 0 ((p2.Used ++ ([v14] : List Int)).length), jI p2.State.Turn, jI p2.State.Weather, .own 1000002 4 0 p2.State.Units.length, .own 1000003 1 0 p2.Log.length] false), (43, ar 1 eI zI (p2.Used ++ ([v14] : List Int)))] (fun t => aI (rfl : ([v14] : List Int).length = 1) (aI (fF_lit eI zI ([v14] : List Int)) (aI (And.intro (Nat.le_refl p2.Used.length) (And.intro (@List.length_append _ p2.Used ([v14] : List Int)) g22)) (aI (fF_appL eI zI p2.Used ([v14] : List Int)) (aI (fF_appR eI zI p2.Used ([v14] : List Int)) (t)))))) ?_
   obtain ⟨v23, h24, H⟩ := oB H
   obtain ⟨g25, H⟩ := oI H
   refine xn [.cs (eTReaction v23), .no, fh eTFrame zTFrame ([(TFrame.mk v23.Unit y20 v14)] : List TFrame), fh eTFrame zTFrame (p2.Stack ++ ([(TFrame.mk v23.Unit y20 v14)] : List TFrame))] [] [] [1000000, 5] [(5, .var [.own 56 3 0 ((p2.Stack ++ ([(TFrame.mk v23.Unit y20 v14)] : List TFrame)).length), .own 43 1 0 ((p2.Used ++ ([v14] : List Int)).length), jI p2.State.Turn, jI p2.State.Weather, .own 1000002 4 0 p2.State.Units.length, .own 1000003 1 0 p2.Log.length] false), (56, ar 3 eTFrame zTFrame (p2.Stack ++ ([(TFrame.mk v23.Unit y20 v14)] : List TFrame)))] (fun t => (a2 eTReaction h24 (aI rN (aI (rfl : ([(TFrame.mk v23.Unit y20 v14)] : List TFrame).length = 1) (aI rT (aI (fF_lit eTFrame zTFrame ([(TFrame.mk v23.Unit y20 v14)] : List TFrame)) (aI (And.intro (Nat.le_refl p2.Stack.length) (And.intro (@List.length_append _ p2.Stack ([(TFrame.mk v23.Unit y20 v14)] : List TFrame)) g25)) (aI (fF_appL eTFrame zTFrame p2.Stack ([(TFrame.mk v23.Unit y20 v14)] : List TFrame)) (aI (fF_appR eTFrame zTFrame p2.Stack ([(TFrame.mk v23.Unit y20 v14)] : List TFrame)) (t)))))))))) ?_
   refine sn [] [] [] [6] [(6, .var [.own 56 3 0 ((p2.Stack ++ ([(TFrame.mk v23.Unit y20 v14)] : List TFrame)).length), .own 43 1 0 ((p2.Used ++ ([v14] : List Int)).length), jI p2.State.Turn, jI p2.State.Weather, .own 1000002 4 0 p2.State.Units.length, .own 1000003 1 0 p2.Log.length] false)] id ?_
   refine tl [.ren 56 900000, .ren 43 900001, .ren 1000002 900002, .ren 1000003 900003] [(6, pk 6)] [(6, .var [.own 900000 3 0 ((p2.Stack ++ ([(TFrame.mk v23.Unit y20 v14)] : List TFrame)).length), .own 900001 1 0 ((p2.Used ++ ([v14] : List Int)).length), jI p2.State.Turn, jI p2.State.Weather, .own 900002 4 0 p2.State.Units.length, .own 900003 1 0 p2.Log.length] false), (900000, ar 3 eTFrame zTFrame (p2.Stack ++ ([(TFrame.mk v23.Unit y20 v14)] : List TFrame))), (900001, ar 1 eI zI (p2.Used ++ ([v14] : List Int))), (900002, ar 4 eTUnit zTUnit p2.State.Units), (900003, ar 1 eI zI p2.Log)] id ?_
   cases H
   exact er
 ·refine jf c16 ?_
  refine sk ?_
  obtain ⟨g26, H⟩ := oI H
  refine sn [.nat (p2.Stack.take (W ((p2.Stack.length : Int) - 1)).toNat).length] [.rep 1000000 (p2.Stack.take (W ((p2.Stack.length : Int) - 1)).toNat).length (fF eTFrame zTFrame (p2.Stack.take (W ((p2.Stack.length : Int) - 1)).toNat))] [] [1000000, 5] [(5, .var [.own 1000000 3 0 ((p2.Stack.take (W ((p2.Stack.length : Int) - 1)).toNat).length), .own 1000001 1 0 p2.Used.length, jI p2.State.Turn, jI p2.State.Weather, .own 1000002 4 0 p2.State.Units.length, .own 1000003 1 0 p2.Log.length] false), (1000000, ar 3 eTFrame zTFrame (p2.Stack.take (W ((p2.Stack.length : Int) - 1)).toNat))] (fun t => aI (take_nat p2.Stack (W ((p2.Stack.length : Int) - 1)) g26) (aI (take_len p2.Stack (W ((p2.Stack.length : Int) - 1))) (aI (fF_take eTFrame zTFrame p2.Stack (W ((p2.Stack.length : Int) - 1))) (t)))) ?_
  refine seq_in ?_
  obtain ⟨g29, H⟩ := oI H
  refine sn [.no] [] [(73, cB (decide ((p2.State.Units.getD (((p2.Stack.getD ((W ((p2.Stack.length : Int) - 1)).toNat) zTFrame).Unit).toNat) zTUnit).At < 0)))] [] [] (fun t => aI g29 (aI (nat_lt g29) (t))) ?_
  rcases oC H with ⟨c30, H⟩ | ⟨c30, H⟩
  ·refine it c30 ?_
   refine sn [] [] [] [6] [(6, .var [.own 1000000 3 0 ((p2.Stack.take (W ((p2.Stack.length : Int) - 1)).toNat).length), .own 1000001 1 0 p2.Used.length, jI p2.State.Turn, jI p2.State.Weather, .own 1000002 4 0 p2.State.Units.length, .own 1000003 1 0 p2.Log.length] false)] id ?_
   refine tl [.ren 1000000 900000, .ren 1000001 900001, .ren 1000002 900002, .ren 1000003 900003] [(6, pk 6)] [(6, .var [.own 900000 3 0 ((p2.Stack.take (W ((p2.Stack.length : Int) - 1)).toNat).length), .own 900001 1 0 p2.Used.length, jI p2.State.Turn, jI p2.State.Weather, .own 900002 4 0 p2.State.Units.length, .own 900003 1 0 p2.Log.length] false), (900000, ar 3 eTFrame zTFrame (p2.Stack.take (W ((p2.Stack.length : Int) - 1)).toNat)), (900001, ar 1 eI zI p2.Used), (900002, ar 4 eTUnit zTUnit p2.State.Units), (900003, ar 1 eI zI p2.Log)] id ?_
   cases H
   exact er
  ·refine jf c30 ?_
   refine sk ?_
   obtain ⟨g31, H⟩ := oI H
   refine sn [fh eI zI ([(p2.Stack.getD ((W ((p2.Stack.length : Int) - 1)).toNat) zTFrame).By] : List Int), fh eI zI (p2.Log ++ ([(p2.Stack.getD ((W ((p2.Stack.length : Int) - 1)).toNat) zTFrame).By] : List Int))] [] [] [1000003, 5] [(5, .var [.own 1000000 3 0 ((p2.Stack.take (W ((p2.Stack.length : Int) - 1)).toNat).length), .own 1000001 1 0 p2.Used.length, jI p2.State.Turn, jI p2.State.Weather, .own 1000002 4 0 p2.State.Units.length, .own 80 1 0 ((p2.Log ++ ([(p2.Stack.getD ((W ((p2.Stack.length : Int) - 1)).toNat) zTFrame).By] : List Int)).length)] false), (80, ar 1 eI zI (p2.Log ++ ([(p2.Stack.getD ((W ((p2.Stack.length : Int) - 1)).toNat) zTFrame).By] : List Int)))] (fun t => aI (rfl : ([(p2.Stack.getD ((W ((p2.Stack.length : Int) - 1)).toNat) zTFrame).By] : List Int).length = 1) (aI (fF_lit eI zI ([(p2.Stack.getD ((W ((p2.Stack.length : Int) - 1)).toNat) zTFrame).By] : List Int)) (aI (And.intro (Nat.le_refl p2.Log.length) (And.intro (@List.length_append _ p2.Log ([(p2.Stack.getD ((W ((p2.Stack.length : Int) - 1)).toNat) zTFrame).By] : List Int)) g31)) (aI (fF_appL eI zI p2.Log ([(p2.Stack.getD ((W ((p2.Stack.length : Int) - 1)).toNat) zTFrame).By] : List Int)) (aI (fF_appR eI zI p2.Log ([(p2.Stack.getD ((W ((p2.Stack.length : Int) - 1)).toNat) zTFrame).By] : List Int)) (t)))))) ?_
   refine seq_in ?_
   refine so [] [] [(1, dc 3 eTReaction zTReaction p1), (5, pk 5), (6, pk 6), (7, cL p2.Stack), (8, pk 8), (84, cB (decide ((p2.Stack.getD ((W ((p2.Stack.length : Int) - 1)).toNat) zTFrame).By < 0)))] [(5, .var [.own 1000000 3 0 ((p2.Stack.take (W ((p2.Stack.length : Int) - 1)).toNat).length), .own 1000001 1 0 p2.Used.length, jI p2.State.Turn, jI p2.State.Weather, .own 1000002 4 0 p2.State.Units.length, .own 80 1 0 ((p2.Log ++ ([(p2.Stack.getD ((W ((p2.Stack.length : Int) - 1)).toNat) zTFrame).By] : List Int)).length)] false), (6, .var [.nil, .nil, jI 0, jI 0, .nil, .nil] false), (8, .var [jI ((p2.Stack.getD ((W ((p2.Stack.length : Int) - 1)).toNat) zTFrame).Unit), jI ((p2.Stack.getD ((W ((p2.Stack.length : Int) - 1)).toNat) zTFrame).At), jI ((p2.Stack.getD ((W ((p2.Stack.length : Int) - 1)).toNat) zTFrame).By)] false), (80, ar 1 eI zI (p2.Log ++ ([(p2.Stack.getD ((W ((p2.Stack.length : Int) - 1)).toNat) zTFrame).By] : List Int))), (1000000, ar 3 eTFrame zTFrame (p2.Stack.take (W ((p2.Stack.length : Int) - 1)).toNat)), (1000001, ar 1 eI zI p2.Used), (1000002, ar 4 eTUnit zTUnit p2.State.Units)] id ?_
   rcases oC H with ⟨c33, H⟩ | ⟨c33, H⟩
   ·refine it c33 ?_
    refine sn [] [] [] [6] [(6, .var [.own 1000000 3 0 ((p2.Stack.take (W ((p2.Stack.length : Int) - 1)).toNat).length), .own 1000001 1 0 p2.Used.length, jI p2.State.Turn, jI p2.State.Weather, .own 1000002 4 0 p2.State.Units.length, .own 80 1 0 ((p2.Log ++ ([(p2.Stack.getD ((W ((p2.Stack.length : Int) - 1)).toNat) zTFrame).By] : List Int)).length)] false)] id ?_
    refine tl [.ren 1000000 900000, .ren 1000001 900001, .ren 1000002 900002, .ren 80 900003] [(6, pk 6)] [(6, .var [.own 900000 3 0 ((p2.Stack.take (W ((p2.Stack.length : Int) - 1)).toNat).length), .own 900001 1 0 p2.Used.length, jI p2.State.Turn, jI p2.State.Weather, .own 900002 4 0 p2.State.Units.length, .own 900003 1 0 ((p2.Log ++ ([(p2.Stack.getD ((W ((p2.Stack.length : Int) - 1)).toNat) zTFrame).By] : List Int)).length)] false), (900000, ar 3 eTFrame zTFrame (p2.Stack.take (W ((p2.Stack.length : Int) - 1)).toNat)), (900001, ar 1 eI zI p2.Used), (900002, ar 4 eTUnit zTUnit p2.State.Units), (900003, ar 1 eI zI (p2.Log ++ ([(p2.Stack.getD ((W ((p2.Stack.length : Int) - 1)).toNat) zTFrame).By] : List Int)))] id ?_
    cases H
    exact er
   ·refine jf c33 ?_
    refine sk ?_
    refine seq_in ?_
    obtain ⟨v43, h44, H⟩ := oB H
    refine sn [.cs (eTReaction v43)] [] [(92, cB (v43.Kind == 0))] [] [] (a2 eTReaction h44) ?_
    rcases oC H with ⟨c45, H⟩ | ⟨c45, H⟩
    ·refine it c45 ?_
     refine seq_in ?_
     obtain ⟨v46, h47, H⟩ := oB H
     refine sn [.res (cI v46)] [] [(11, cI v46)] [] [] (fun t => aI (Nat.le_refl p2.State.Units.length) (aI (s_iTarget_ok p2.State (p2.Stack.getD ((W ((p2.Stack.length : Int) - 1)).toNat) zTFrame) v46 h47) (t))) ?_
     refine sn [] [] [(98, cB (decide (v46 ≥ 0)))] [8] [] id ?_
     rcases oC H with ⟨c48, H⟩ | ⟨c48, H⟩
     ·refine it c48 ?_
      obtain ⟨v49, h50, H⟩ := oB H
      obtain ⟨g51, H⟩ := oI H
      refine oo [.mu [(1000002, 1000000)] [(1000000, 1000002)] (.tup []) [(1000000, ar 4 eTUnit zTUnit v49.Units)]] [.agg 100 [jI p2.State.Turn, jI p2.State.Weather, .own 1000002 4 0 v49.Units.length], .relc 5 4 v49.Units.length] [(5, pk 5), (6, pk 6)] [(5, .var [.own 1000000 3 0 ((p2.Stack.take (W ((p2.Stack.length : Int) - 1)).toNat).length), .own 1000001 1 0 p2.Used.length, jI p2.State.Turn, jI p2.State.Weather, .own 1000002 4 0 v49.Units.length, .own 80 1 0 ((p2.Log ++ ([(p2.Stack.getD ((W ((p2.Stack.length : Int) - 1)).toNat) zTFrame).By] : List Int)).length)] false), (6, .var [.nil, .nil, jI 0, jI 0, .nil, .nil] false), (80, ar 1 eI zI (p2.Log ++ ([(p2.Stack.getD ((W ((p2.Stack.length : Int) - 1)).toNat) zTFrame).By] : List Int))), (1000000, ar 3 eTFrame zTFrame (p2.Stack.take (W ((p2.Stack.length : Int) - 1)).toNat)), (1000001, ar 1 eI zI p2.Used), (1000002, ar 4 eTUnit zTUnit v49.Units)] (fun t => aI (s_sLose_Modd_ok p2.State v46 1 v49 h50) (aI (by rw [← g51] : AV.agg [jI p2.State.Turn, jI p2.State.Weather, .own 1000002 4 0 p2.State.Units.length] = AV.agg [jI p2.State.Turn, jI p2.State.Weather, .own 1000002 4 0 v49.Units.length]) (aI (Eq.symm g51) (t)))) ?_
      change EndsI _ _ _ _ _ _
      refine sn [] [] [] [6] [(6, .var [.own 1000000 3 0 ((p2.Stack.take (W ((p2.Stack.length : Int) - 1)).toNat).length), .own 1000001 1 0 p2.Used.length, jI p2.State.Turn, jI p2.State.Weather, .own 1000002 4 0 v49.Units.length, .own 80 1 0 ((p2.Log ++ ([(p2.Stack.getD ((W ((p2.Stack.length : Int) - 1)).toNat) zTFrame).By] : List Int)).length)] false)] id ?_
      refine tl [.ren 1000000 900000, .ren 1000001 900001, .ren 1000002 900002, .ren 80 900003] [(6, pk 6)] [(6, .var [.own 900000 3 0 ((p2.Stack.take (W ((p2.Stack.length : Int) - 1)).toNat).length), .own 900001 1 0 p2.Used.length, jI p2.State.Turn, jI p2.State.Weather, .own 900002 4 0 v49.Units.length, .own 900003 1 0 ((p2.Log ++ ([(p2.Stack.getD ((W ((p2.Stack.length : Int) - 1)).toNat) zTFrame).By] : List Int)).length)] false), (900000, ar 3 eTFrame zTFrame (p2.Stack.take (W ((p2.Stack.length : Int) - 1)).toNat)), (900001, ar 1 eI zI p2.Used), (900002, ar 4 eTUnit zTUnit v49.Units), (900003, ar 1 eI zI (p2.Log ++ ([(p2.Stack.getD ((W ((p2.Stack.length : Int) - 1)).toNat) zTFrame).By] : List Int)))] id ?_
      cases H
      exact er
     ·refine jf c48 ?_
      refine sk ?_
      refine sn [] [] [] [6] [(6, .var [.own 1000000 3 0 ((p2.Stack.take (W ((p2.Stack.length : Int) - 1)).toNat).length), .own 1000001 1 0 p2.Used.length, jI p2.State.Turn, jI p2.State.Weather, .own 1000002 4 0 p2.State.Units.length, .own 80 1 0 ((p2.Log ++ ([(p2.Stack.getD ((W ((p2.Stack.length : Int) - 1)).toNat) zTFrame).By] : List Int)).length)] false)] id ?_
      refine tl [.ren 1000000 900000, .ren 1000001 900001, .ren 1000002 900002, .ren 80 900003] [(6, pk 6)] [(6, .var [.own 900000 3 0 ((p2.Stack.take (W ((p2.Stack.length : Int) - 1)).toNat).length), .own 900001 1 0 p2.Used.length, jI p2.State.Turn, jI p2.State.Weather, .own 900002 4 0 p2.State.Units.length, .own 900003 1 0 ((p2.Log ++ ([(p2.Stack.getD ((W ((p2.Stack.length : Int) - 1)).toNat) zTFrame).By] : List Int)).length)] false), (900000, ar 3 eTFrame zTFrame (p2.Stack.take (W ((p2.Stack.length : Int) - 1)).toNat)), (900001, ar 1 eI zI p2.Used), (900002, ar 4 eTUnit zTUnit p2.State.Units), (900003, ar 1 eI zI (p2.Log ++ ([(p2.Stack.getD ((W ((p2.Stack.length : Int) - 1)).toNat) zTFrame).By] : List Int)))] id ?_
      cases H
      exact er
    ·refine jf c45 ?_
     refine sk ?_
     refine seq_in ?_
     refine sn [] [] [(105, cB (decide ((p2.Stack.length : Int) > 1)))] [] [] id ?_
     rcases oC H with ⟨c52, H⟩ | ⟨c52, H⟩
     ·refine it c52 ?_
      obtain ⟨g53, H⟩ := oI H
      refine oo [.nat ((p2.Stack.take (W ((p2.Stack.length : Int) - 1)).toNat).take (W ((p2.Stack.length : Int) - 2)).toNat).length] [.rep 1000000 ((p2.Stack.take (W ((p2.Stack.length : Int) - 1)).toNat).take (W ((p2.Stack.length : Int) - 2)).toNat).length (fF eTFrame zTFrame ((p2.Stack.take (W ((p2.Stack.length : Int) - 1)).toNat).take (W ((p2.Stack.length : Int) - 2)).toNat))] [(5, pk 5), (6, pk 6)] [(5, .var [.own 1000000 3 0 (((p2.Stack.take (W ((p2.Stack.length : Int) - 1)).toNat).take (W ((p2.Stack.length : Int) - 2)).toNat).length), .own 1000001 1 0 p2.Used.length, jI p2.State.Turn, jI p2.State.Weather, .own 1000002 4 0 p2.State.Units.length, .own 80 1 0 ((p2.Log ++ ([(p2.Stack.getD ((W ((p2.Stack.length : Int) - 1)).toNat) zTFrame).By] : List Int)).length)] false), (6, .var [.nil, .nil, jI 0, jI 0, .nil, .nil] false), (80, ar 1 eI zI (p2.Log ++ ([(p2.Stack.getD ((W ((p2.Stack.length : Int) - 1)).toNat) zTFrame).By] : List Int))), (1000000, ar 3 eTFrame zTFrame ((p2.Stack.take (W ((p2.Stack.length : Int) - 1)).toNat).take (W ((p2.Stack.length : Int) - 2)).toNat)), (1000001, ar 1 eI zI p2.Used), (1000002, ar 4 eTUnit zTUnit p2.State.Units)] (fun t => aI (take_nat (p2.Stack.take (W ((p2.Stack.length : Int) - 1)).toNat) (W ((p2.Stack.length : Int) - 2)) g53) (aI (take_len (p2.Stack.take (W ((p2.Stack.length : Int) - 1)).toNat) (W ((p2.Stack.length : Int) - 2))) (aI (fF_take eTFrame zTFrame (p2.Stack.take (W ((p2.Stack.length : Int) - 1)).toNat) (W ((p2.Stack.length : Int) - 2))) (t)))) ?_
      change EndsI _ _ _ _ _ _
      refine sn [] [] [] [6] [(6, .var [.own 1000000 3 0 (((p2.Stack.take (W ((p2.Stack.length : Int) - 1)).toNat).take (W ((p2.Stack.length : Int) - 2)).toNat).length), .own 1000001 1 0 p2.Used.length, jI p2.State.Turn, jI p2.State.Weather, .own 1000002 4 0 p2.State.Units.length, .own 80 1 0 ((p2.Log ++ ([(p2.Stack.getD ((W ((p2.Stack.length : Int) - 1)).toNat) zTFrame).By] : List Int)).length)] false)] id ?_
      refine tl [.ren 1000000 900000, .ren 1000001 900001, .ren 1000002 900002, .ren 80 900003] [(6, pk 6)] [(6, .var [.own 900000 3 0 (((p2.Stack.take (W ((p2.Stack.length : Int) - 1)).toNat).take (W ((p2.Stack.length : Int) - 2)).toNat).length), .own 900001 1 0 p2.Used.length, jI p2.State.Turn, jI p2.State.Weather, .own 900002 4 0 p2.State.Units.length, .own 900003 1 0 ((p2.Log ++ ([(p2.Stack.getD ((W ((p2.Stack.length : Int) - 1)).toNat) zTFrame).By] : List Int)).length)] false), (900000, ar 3 eTFrame zTFrame ((p2.Stack.take (W ((p2.Stack.length : Int) - 1)).toNat).take (W ((p2.Stack.length : Int) - 2)).toNat)), (900001, ar 1 eI zI p2.Used), (900002, ar 4 eTUnit zTUnit p2.State.Units), (900003, ar 1 eI zI (p2.Log ++ ([(p2.Stack.getD ((W ((p2.Stack.length : Int) - 1)).toNat) zTFrame).By] : List Int)))] id ?_
      cases H
      exact er
     ·refine jf c52 ?_
      refine sk ?_
      refine sn [] [] [] [6, 8] [(6, .var [.own 1000000 3 0 ((p2.Stack.take (W ((p2.Stack.length : Int) - 1)).toNat).length), .own 1000001 1 0 p2.Used.length, jI p2.State.Turn, jI p2.State.Weather, .own 1000002 4 0 p2.State.Units.length, .own 80 1 0 ((p2.Log ++ ([(p2.Stack.getD ((W ((p2.Stack.length : Int) - 1)).toNat) zTFrame).By] : List Int)).length)] false)] id ?_
      refine tl [.ren 1000000 900000, .ren 1000001 900001, .ren 1000002 900002, .ren 80 900003] [(6, pk 6)] [(6, .var [.own 900000 3 0 ((p2.Stack.take (W ((p2.Stack.length : Int) - 1)).toNat).length), .own 900001 1 0 p2.Used.length, jI p2.State.Turn, jI p2.State.Weather, .own 900002 4 0 p2.State.Units.length, .own 900003 1 0 ((p2.Log ++ ([(p2.Stack.getD ((W ((p2.Stack.length : Int) - 1)).toNat) zTFrame).By] : List Int)).length)] false), (900000, ar 3 eTFrame zTFrame (p2.Stack.take (W ((p2.Stack.length : Int) - 1)).toNat)), (900001, ar 1 eI zI p2.Used), (900002, ar 4 eTUnit zTUnit p2.State.Units), (900003, ar 1 eI zI (p2.Log ++ ([(p2.Stack.getD ((W ((p2.Stack.length : Int) - 1)).toNat) zTFrame).By] : List Int)))] id ?_
      cases H
      exact er
def s_iRun_ir : S :=
 (sq [o 3 (.box 12 (.t 0)), o 5 (.box 6 (.t 2)), o 6 (.alloc [.nil, .nil, .int .i64 0, .int .i64 0, .nil, .nil]), o 7 (.mv (iv 0))]
 (sq [o 8 (.mv (iv 0))]
 (.seq (.blk 0 (.loop (.seq (sq [oa 9 0 5, ol 10 9, o 11 (.len (.t 10)), o 12 (.bin .gtr (.t 11) (iv 0))]
   (.ite (.t 12) .skip
   (.exit 0)))
   (.blk 1 (sq [o 13 (.load 12 true (.t 3)), om 14 1, o 15 (.load 6 true (.t 5)), o 16 (.call 108 [.t 13, .t 14, .t 15]), os 6 5 16]
    (.ops [om 17 8, o 18 (.bin .add (.t 17) (iv 1)), om 8 18]))))))
 (sq [o 19 (.load 6 true (.t 5)), om 20 8, os 6 6 19, om 7 20]
 .ret))))
noncomputable def X.s_iRun_Mddc (p0 : TBoard) (p1 : (List TReaction)) (p2 : TMachine) : Option (TMachine × Int) :=
 ((loop (fun (x10 : (Int × Int × Int × (List TFrame) × (List Int) × (List TUnit) × (List Int))) => ((bif (decide ((x10.2.2.2.1.length : Int) > 0)) then ((X.s_iStep_Mddc p0 p1 (TMachine.mk x10.2.2.2.1 x10.2.2.2.2.1 (TState.mk x10.2.1 x10.2.2.1 x10.2.2.2.2.2.1) x10.2.2.2.2.2.2)).bind fun v13 => some (Sum.inl ((W (x10.1 + 1)), v13.State.Turn, v13.State.Weather, v13.Stack, v13.Used, v13.State.Units, v13.Log))) else some (Sum.inr (x10.1, x10.2.1, x10.2.2.1, x10.2.2.2.1, x10.2.2.2.2.1, x10.2.2.2.2.2.1, x10.2.2.2.2.2.2))) : Option ((Int × Int × Int × (List TFrame) × (List Int) × (List TUnit) × (List Int)) ⊕ (Int × Int × Int × (List TFrame) × (List Int) × (List TUnit) × (List Int))))) (0, p2.State.Turn, p2.State.Weather, p2.Stack, p2.Used, p2.State.Units, p2.Log)).bind fun y15 => some ((TMachine.mk y15.2.2.2.1 y15.2.2.2.2.1 (TState.mk y15.2.1 y15.2.2.1 y15.2.2.2.2.2.1) y15.2.2.2.2.2.2), y15.1))
theorem s_iRun_Mddc_ok (p0 : TBoard) (p1 : (List TReaction)) (p2 : TMachine) (r : (TMachine × Int)) (H : X.s_iRun_Mddc p0 p1 p2 = some r) : FnMu Tryz.prog gl 116 [.agg (eTBoard p0), .c (dat 3 eTReaction zTReaction p1), .agg (wTMachine 1000000 1000001 1000002 1000003 p2)] [(1000000, .arr 3 p2.Stack.length (fF eTFrame zTFrame p2.Stack) false), (1000001, .arr 1 p2.Used.length (fF eI zI p2.Used) false), (1000002, .arr 4 p2.State.Units.length (fF eTUnit zTUnit p2.State.Units) false), (1000003, .arr 1 p2.Log.length (fF eI zI p2.Log) false)] (.tup [(true, [.own 900000 3 0 r.1.Stack.length, .own 900001 1 0 r.1.Used.length, .int .i64 r.1.State.Turn, .int .i64 r.1.State.Weather, .own 900002 4 0 r.1.State.Units.length, .own 900003 1 0 r.1.Log.length]), (false, [.int .i64 r.2])]) [(6, .var (wTMachine 900000 900001 900002 900003 r.1) false), (900000, .arr 3 r.1.Stack.length (fF eTFrame zTFrame r.1.Stack) false), (900001, .arr 1 r.1.Used.length (fF eI zI r.1.Used) false), (900002, .arr 4 r.1.State.Units.length (fF eTUnit zTUnit r.1.State.Units) false), (900003, .arr 1 r.1.Log.length (fF eI zI r.1.Log) false)] := by
 unfold X.s_iRun_Mddc at H
 refine fn_mu (fn := Tryz.f116) (ir := s_iRun_ir) (E' := [(6, pk 6), (7, cI r.2)]) (E1 := [(6, va (wTMachine 900000 900001 900002 900003 r.1)), (900000, ar 3 eTFrame zTFrame r.1.Stack), (900001, ar 1 eI zI r.1.Used), (900002, ar 4 eTUnit zTUnit r.1.State.Units), (900003, ar 1 eI zI r.1.Log)]) glL Tryz.func116 (by kernel_rfl) (by kernel_rfl) (by kernel_rfl) (by kernel_rfl) (by kernel_rfl) ?_
 refine sn [] [] [(3, pk 3), (5, pk 5), (6, pk 6)] [] [(3, va (eTBoard p0)), (5, va (wTMachine 1000000 1000001 1000002 1000003 p2)), (6, .var [.nil, .nil, jI 0, jI 0, .nil, .nil] false)] id ?_
 refine sn [] [] [(8, cI 0)] [] [] id ?_
 refine seq_in ?_
 refine ends_blk ?_
 obtain ⟨y15, h16, H⟩ := oB H
 refine tl [.ren 1000000 1006, .ren 1000001 1007, .ren 1000002 1008, .ren 1000003 1009] [(1, dc 3 eTReaction zTReaction p1), (3, pk 3), (5, pk 5), (6, pk 6), (8, cI 0)] [(3, va (eTBoard p0)), (5, va (wTMachine 1006 1007 1008 1009 p2)), (6, .var [.nil, .nil, jI 0, jI 0, .nil, .nil] false), (1006, ar 3 eTFrame zTFrame p2.Stack), (1007, ar 1 eI zI p2.Used), (1008, ar 4 eTUnit zTUnit p2.State.Units), (1009, ar 1 eI zI p2.Log)] id ?_
 refine loop_in (fun (x : (Int × Int × Int × (List TFrame) × (List Int) × (List TUnit) × (List Int))) => lit [(1, dc 3 eTReaction zTReaction p1), (3, pk 3), (5, pk 5), (6, pk 6), (8, cI x.1)] [(3, va (eTBoard p0)), (5, .var [.own 1006 3 0 x.2.2.2.1.length, .own 1007 1 0 x.2.2.2.2.1.length, jI x.2.1, jI x.2.2.1, .own 1008 4 0 x.2.2.2.2.2.1.length, .own 1009 1 0 x.2.2.2.2.2.2.length] false), (6, .var [.nil, .nil, jI 0, jI 0, .nil, .nil] false), (1006, ar 3 eTFrame zTFrame x.2.2.2.1), (1007, ar 1 eI zI x.2.2.2.2.1), (1008, ar 4 eTUnit zTUnit x.2.2.2.2.2.1), (1009, ar 1 eI zI x.2.2.2.2.2.2)]) (fun (z : (Int × Int × Int × (List TFrame) × (List Int) × (List TUnit) × (List Int))) => At (.exit 0) (lit [(5, pk 5), (6, pk 6), (8, cI z.1)] [(5, .var [.own 1006 3 0 z.2.2.2.1.length, .own 1007 1 0 z.2.2.2.2.1.length, jI z.2.1, jI z.2.2.1, .own 1008 4 0 z.2.2.2.2.2.1.length, .own 1009 1 0 z.2.2.2.2.2.2.length] false), (6, .var [.nil, .nil, jI 0, jI 0, .nil, .nil] false), (1006, ar 3 eTFrame zTFrame z.2.2.2.1), (1007, ar 1 eI zI z.2.2.2.2.1), (1008, ar 4 eTUnit zTUnit z.2.2.2.2.2.1), (1009, ar 1 eI zI z.2.2.2.2.2.2)])) h16 ?_ ?_
 ·clear H h16
  intro x10 y0 H
  refine seq_in ?_
  refine sn [] [] [(12, cB (decide ((x10.2.2.2.1.length : Int) > 0)))] [] [] (fun t => lI x10.2.2.2.1 (t)) ?_
  rcases oC H with ⟨c12, H⟩ | ⟨c12, H⟩
  ·refine it c12 ?_
   refine sk ?_
   refine ends_blk ?_
   obtain ⟨v13, h14, H⟩ := oB H
   refine sn [.mu [(1006, 1000000), (1007, 1000001), (1008, 1000002), (1009, 1000003)] [(6, 1015), (900000, 1016), (900001, 1017), (900002, 1018), (900003, 1019)] (.agg (wTMachine 900000 900001 900002 900003 v13)) [(6, va (wTMachine 900000 900001 900002 900003 v13)), (900000, ar 3 eTFrame zTFrame v13.Stack), (900001, ar 1 eI zI v13.Used), (900002, ar 4 eTUnit zTUnit v13.State.Units), (900003, ar 1 eI zI v13.Log)]] [] [] [1006, 1007, 1008, 1009, 5] [(5, va (wTMachine 1016 1017 1018 1019 v13)), (1016, ar 3 eTFrame zTFrame v13.Stack), (1017, ar 1 eI zI v13.Used), (1018, ar 4 eTUnit zTUnit v13.State.Units), (1019, ar 1 eI zI v13.Log)] (aI (s_iStep_Mddc_ok p0 p1 (TMachine.mk x10.2.2.2.1 x10.2.2.2.2.1 (TState.mk x10.2.1 x10.2.2.1 x10.2.2.2.2.2.1) x10.2.2.2.2.2.2) v13 h14)) ?_
   refine oo [] [.ren 1016 1006, .ren 1017 1007, .ren 1018 1008, .ren 1019 1009] [(1, dc 3 eTReaction zTReaction p1), (3, pk 3), (5, pk 5), (6, pk 6), (8, cI (W (x10.1 + 1)))] [(3, va (eTBoard p0)), (5, va (wTMachine 1006 1007 1008 1009 v13)), (6, .var [.nil, .nil, jI 0, jI 0, .nil, .nil] false), (1006, ar 3 eTFrame zTFrame v13.Stack), (1007, ar 1 eI zI v13.Used), (1008, ar 4 eTUnit zTUnit v13.State.Units), (1009, ar 1 eI zI v13.Log)] id ?_
   cases H
   exact rr
  ·refine jf c12 ?_
   refine tl [] [(5, pk 5), (6, pk 6), (8, cI x10.1)] [(5, .var [.own 1006 3 0 x10.2.2.2.1.length, .own 1007 1 0 x10.2.2.2.2.1.length, jI x10.2.1, jI x10.2.2.1, .own 1008 4 0 x10.2.2.2.2.2.1.length, .own 1009 1 0 x10.2.2.2.2.2.2.length] false), (6, .var [.nil, .nil, jI 0, jI 0, .nil, .nil] false), (1006, ar 3 eTFrame zTFrame x10.2.2.2.1), (1007, ar 1 eI zI x10.2.2.2.2.1), (1008, ar 4 eTUnit zTUnit x10.2.2.2.2.2.1), (1009, ar 1 eI zI x10.2.2.2.2.2.2)] id ?_
   refine ends_exit ?_
   cases H
   exact rse
 ·clear h16
  rintro e s ⟨rfl, rfl⟩
  change EndsI _ _ _ _ _ _
  refine sn [] [] [(7, cI y15.1)] [6] [(6, .var [.own 1006 3 0 y15.2.2.2.1.length, .own 1007 1 0 y15.2.2.2.2.1.length, jI y15.2.1, jI y15.2.2.1, .own 1008 4 0 y15.2.2.2.2.2.1.length, .own 1009 1 0 y15.2.2.2.2.2.2.length] false)] id ?_
  refine tl [.ren 1006 900000, .ren 1007 900001, .ren 1008 900002, .ren 1009 900003] [(6, pk 6), (7, cI y15.1)] [(6, .var [.own 900000 3 0 y15.2.2.2.1.length, .own 900001 1 0 y15.2.2.2.2.1.length, jI y15.2.1, jI y15.2.2.1, .own 900002 4 0 y15.2.2.2.2.2.1.length, .own 900003 1 0 y15.2.2.2.2.2.2.length] false), (900000, ar 3 eTFrame zTFrame y15.2.2.2.1), (900001, ar 1 eI zI y15.2.2.2.2.1), (900002, ar 4 eTUnit zTUnit y15.2.2.2.2.2.1), (900003, ar 1 eI zI y15.2.2.2.2.2.2)] id ?_
  cases H
  exact er
def s_RunMachine_ir : S :=
 (sq [o 3 (.box 12 (.t 0)), o 5 (.box 6 (.t 2)), o 6 (.alloc [.nil, .nil, .int .i64 0, .int .i64 0, .nil, .nil]), o 7 (.mv (iv 0)), o 8 (.mv bF)]
 (.seq (sq [o 11 (.load 12 true (.t 3)), om 12 1, o 13 (.load 6 true (.t 5)), o 14 (.call 107 [.t 11, .t 12, .t 13]), o 15 (.not (.t 14))]
 (.ite (.t 15) (sq [o 16 (.build [.nil, .nil, .int .i64 0, .int .i64 0, .nil, .nil] []), os 6 6 16, o 7 (.mv (iv 0)), o 8 (.mv bF)]
  .ret)
 .skip))
 (.seq (.drw [(0, 1), (0, 2), (1, 2), (0, 3), (1, 3), (6, 7), (0, 8), (1, 8), (2, 8), (3, 8), (4, 8), (5, 8), (6, 8), (7, 8), (7, 9)] [o 18 (.load 12 true (.t 3)), om 19 1, o 20 (.load 6 true (.t 5)), o 21 (.call 109 [.t 20]), o 22 (.call 116 [.t 18, .t 19, .t 21]), om 17 22, o 23 (.ext (.t 17) 0), o 24 (.ext (.t 17) 1), o 9 (.alloc [.nil, .nil, .int .i64 0, .int .i64 0, .nil, .nil]), os 6 9 23, om 10 24])
 (sq [o 25 (.load 6 true (.t 9)), om 26 10, os 6 6 25, om 7 26, o 8 (.mv bT)]
 .ret))))
noncomputable def X.s_RunMachine (p0 : TBoard) (p1 : (List TReaction)) (p2 : TMachine) : Option (TMachine × Int × Bool) :=
 ((X.s_iMachine p0 p1 p2).bind fun v4 => (bif (!v4) then some ((TMachine.mk ([] : List TFrame) ([] : List Int) (TState.mk 0 0 ([] : List TUnit)) ([] : List Int)), 0, false) else ((X.s_iOwn p2).bind fun v7 => ((X.s_iRun_Mddc p0 p1 v7).bind fun v9 => some (v9.1, v9.2, true)))))
theorem s_RunMachine_ok (p0 : TBoard) (p1 : (List TReaction)) (p2 : TMachine) (r : (TMachine × Int × Bool)) (H : X.s_RunMachine p0 p1 p2 = some r) : FK 49 [.agg (eTBoard p0), .c (dat 3 eTReaction zTReaction p1), .agg (eTMachine p2)] (.tup [(true, [dat 3 eTFrame zTFrame r.1.Stack, dat 1 eI zI r.1.Used, .int .i64 r.1.State.Turn, .int .i64 r.1.State.Weather, dat 4 eTUnit zTUnit r.1.State.Units, dat 1 eI zI r.1.Log]), (false, [.int .i64 r.2.1]), (false, [.bool r.2.2])]) := by
 unfold X.s_RunMachine at H
 refine fi Tryz.f49 s_RunMachine_ir [(6, pk 6), (7, cI r.2.1), (8, cB r.2.2)] [(6, va (eTMachine r.1))] glL Tryz.func49 ?_
 refine sn [] [] [(3, pk 3), (5, pk 5), (6, pk 6)] [] [(3, va (eTBoard p0)), (5, va (eTMachine p2)), (6, .var [.nil, .nil, jI 0, jI 0, .nil, .nil] false)] id ?_
 refine seq_in ?_
 obtain ⟨v4, h5, H⟩ := oB H
 refine sn [.res (cB v4)] [] [(15, cB (!v4))] [] [] (aI (s_iMachine_ok p0 p1 p2 v4 h5)) ?_
 rcases oC H with ⟨c6, H⟩ | ⟨c6, H⟩
 ·refine it c6 ?_
  refine sn [] [] [(7, cI 0), (8, cB false)] [] [] id ?_
  refine tl [.nldc 6 0 3 (fF eTFrame zTFrame ([] : List TFrame)), .nldc 6 1 1 (fF eI zI ([] : List Int)), .nldc 6 4 4 (fF eTUnit zTUnit ([] : List TUnit)), .nldc 6 5 1 (fF eI zI ([] : List Int))] [(6, pk 6), (7, cI 0), (8, cB false)] [(6, .var [dat 3 eTFrame zTFrame ([] : List TFrame), dat 1 eI zI ([] : List Int), jI 0, jI 0, dat 4 eTUnit zTUnit ([] : List TUnit), dat 1 eI zI ([] : List Int)] false)] id ?_
  cases H
  exact er
 ·refine jf c6 ?_
  refine sk ?_
  obtain ⟨v7, h8, H⟩ := oB H
  obtain ⟨v9, h10, H⟩ := oB H
  refine xn [.mu [] [(2, 1001), (900000, 1002), (900001, 1003), (900002, 1004), (900003, 1005)] (.agg (wTMachine 900000 900001 900002 900003 v7)) [(2, va (wTMachine 900000 900001 900002 900003 v7)), (900000, ar 3 eTFrame zTFrame v7.Stack), (900001, ar 1 eI zI v7.Used), (900002, ar 4 eTUnit zTUnit v7.State.Units), (900003, ar 1 eI zI v7.Log)], .mu [(1002, 1000000), (1003, 1000001), (1004, 1000002), (1005, 1000003)] [(6, 1006), (900000, 1007), (900001, 1008), (900002, 1009), (900003, 1010)] (.tup [(true, [.own 900000 3 0 v9.1.Stack.length, .own 900001 1 0 v9.1.Used.length, jI v9.1.State.Turn, jI v9.1.State.Weather, .own 900002 4 0 v9.1.State.Units.length, .own 900003 1 0 v9.1.Log.length]), (false, [jI v9.2])]) [(6, va (wTMachine 900000 900001 900002 900003 v9.1)), (900000, ar 3 eTFrame zTFrame v9.1.Stack), (900001, ar 1 eI zI v9.1.Used), (900002, ar 4 eTUnit zTUnit v9.1.State.Units), (900003, ar 1 eI zI v9.1.Log)]] [] [(9, pk 9), (10, cI v9.2)] [] [(9, va (wTMachine 1007 1008 1009 1010 v9.1)), (1007, ar 3 eTFrame zTFrame v9.1.Stack), (1008, ar 1 eI zI v9.1.Used), (1009, ar 4 eTUnit zTUnit v9.1.State.Units), (1010, ar 1 eI zI v9.1.Log)] (fun t => aI (s_iOwn_Md_ok p2 v7 h8) (aI (s_iRun_Mddc_ok p0 p1 v7 v9 h10) (t))) ?_
  refine sn [] [] [(7, cI v9.2), (8, cB true)] [3, 5, 6] [(6, va (wTMachine 1007 1008 1009 1010 v9.1))] id ?_
  refine tl [.frc 6 0, .frc 6 1, .frc 6 4, .frc 6 5] [(6, pk 6), (7, cI v9.2), (8, cB true)] [(6, va (eTMachine v9.1))] (fun t => aI (Nat.le_refl v9.1.Stack.length) (aI (Nat.le_refl v9.1.Used.length) (aI (Nat.le_refl v9.1.State.Units.length) (aI (Nat.le_refl v9.1.Log.length) (t))))) ?_
  cases H
  exact er
def i_inRange_ir : S :=
 (sq [o 6 (.mv bF)]
 (sq [om 7 1, om 8 0, o 9 (.bin .leq (.t 7) (.t 8)), om 10 9, oh 11 (.mv (.t 0)) 10, oh 12 (.mv (.t 2)) 10, oh 13 (.bin .leq (.t 11) (.t 12)) 10, o 14 (.pick (.t 10) (.t 13) bF), om 6 14]
 .ret))
noncomputable def X.i_inRange (p0 : Int) (p1 : Int) (p2 : Int) : Option Bool :=
 (bif (decide (p1 ≤ p0)) then some (decide (p0 ≤ p2)) else some false)
theorem i_inRange_ok (p0 : Int) (p1 : Int) (p2 : Int) (r : Bool) (H : X.i_inRange p0 p1 p2 = some r) : FK 94 [cI p0, cI p1, cI p2] (cB r) := by
 unfold X.i_inRange at H
 refine fi Tryz.f94 i_inRange_ir [(6, cB r)] [] glL Tryz.func94 ?_
 refine sn [] [] [] [] [] id ?_
 rcases oC H with ⟨c1, H⟩ | ⟨c1, H⟩
 ·refine so (rg 4 true []) [] [(6, cB (decide (p0 ≤ p2)))] [] (fun t => aG 4 c1 (t)) ?_
  cases H
  exact er
 ·refine so (rg 4 false []) [] [(6, cB false)] [] (fun t => aG 4 c1 (t)) ?_
  cases H
  exact er
def g_IndexFunc_Kind_ir : S :=
 (sq [o 4 (.mv (iv 0))]
 (.seq (sq [om 6 0, o 7 (.len (.t 6)), o 8 (.mv (iv 0))]
 (.blk 0 (.loop (sq [o 9 (.bin .lss (.t 8) (.t 7))]
   (.seq (.ite (.t 9) .skip
   (.exit 0))
   (.seq (.blk 1 (sq [om 10 8, om 5 10]
    (sq [om 11 1, om 12 0, om 13 5, o 14 (.iad 6 (.t 12) (.t 13)), o 15 (.load 6 true (.t 14)), o 16 (.cald (.t 11) [.t 15])]
    (.ite (.t 16) (sq [om 17 5, om 4 17]
     .ret)
    .skip))))
   (.ops [o 18 (.bin .add (.t 8) (iv 1)), om 8 18])))))))
 (sq [o 4 (.mv (.v (.int .i64 (-1))))]
 .ret)))
noncomputable def X.g_IndexFunc_Kind (p0 : (List TKind)) (f1 : TKind → Option Bool) : Option Int :=
 ((loop (fun (x16 : Int) => ((bif (decide (x16 < (p0.length : Int))) then ((at' zTKind p0 x16).bind fun v19 => ((f1 v19).bind fun v21 => (bif v21 then some (Sum.inr (Sum.inr x16)) else some (Sum.inl (W (x16 + 1)))))) else some (Sum.inr (Sum.inl ()))) : Option (Int ⊕ (Unit ⊕ Int)))) 0).bind fun y24 => (Sum.elim (fun (y26 : Unit) => some (-1)) (fun (y27 : Int) => some y27) y24))
theorem g_IndexFunc_Kind_c1_ok (p0 : (List TKind)) (cf1 : FuncId) (cs1_0 : List AC) (f1 : TKind → Option Bool) (hf1 : ∀ q0 r, f1 q0 = some r → FK cf1 [.agg (eTKind q0), .c (.pd cs1_0 0)] (cB r)) (r : Int) (H : X.g_IndexFunc_Kind p0 f1 = some r) : FK 212 [.c (dat 6 eTKind zTKind p0), .c (.clo cf1 [.pd cs1_0 0])] (cI r) := by
 unfold X.g_IndexFunc_Kind at H
 refine fi Tryz.f212 g_IndexFunc_Kind_ir [(4, cI r)] [] glL Tryz.func212 ?_
 refine sn [] [] [] [] [] id ?_
 refine seq_in ?_
 refine sn [] [] [(7, cL p0), (8, cI 0)] [] [] (fun t => lI p0 (t)) ?_
 refine ends_blk ?_
 obtain ⟨y24, h25, H⟩ := oB H
 refine tl [] [(0, dc 6 eTKind zTKind p0), (1, .c (.clo cf1 [.pd cs1_0 0])), (7, cL p0), (8, cI 0)] [] id ?_
 refine loop_in (fun (x : Int) => lit [(0, dc 6 eTKind zTKind p0), (1, .c (.clo cf1 [.pd cs1_0 0])), (7, cL p0), (8, cI x)] []) (orJ (fun (z : Unit) => At (.exit 0) (lit [] [])) (fun (z : Int) => At .ret (lit [(4, cI z)] []))) h25 ?_ ?_
 ·clear H h25
  intro x16 y0 H
  refine sn [] [] [(9, cB (decide (x16 < (p0.length : Int))))] [] [] id ?_
  refine seq_in ?_
  rcases oC H with ⟨c18, H⟩ | ⟨c18, H⟩
  ·refine it c18 ?_
   refine sk ?_
   refine seq_in ?_
   refine ends_blk ?_
   refine sn [] [] [(5, cI x16)] [] [] id ?_
   obtain ⟨v19, h20, H⟩ := oB H
   obtain ⟨v21, h22, H⟩ := oB H
   refine sn [.cs (eTKind v19), .res (cB v21)] [] [(16, cB v21)] [] [] (fun t => (a2 eTKind h20 (aI (hf1 v19 v21 h22) (t)))) ?_
   rcases oC H with ⟨c23, H⟩ | ⟨c23, H⟩
   ·refine it c23 ?_
    refine so [] [] [(4, cI x16)] [] id ?_
    refine ends_ret ?_
    cases H
    exact rsr
   ·refine jf c23 ?_
    refine sk ?_
    refine oo [] [] [(0, dc 6 eTKind zTKind p0), (1, .c (.clo cf1 [.pd cs1_0 0])), (7, cL p0), (8, cI (W (x16 + 1)))] [] id ?_
    cases H
    exact rr
  ·refine jf c18 ?_
   refine tl [] [] [] id ?_
   refine ends_exit ?_
   cases H
   exact rse
 ·clear h25
  cases y24 with
  | inl y26 =>
   replace H := ofInl H
   rintro e s ⟨rfl, rfl⟩
   change EndsI _ _ _ _ _ _
   refine so [] [] [(4, cI (-1))] [] id ?_
   cases H
   exact er
  | inr y27 =>
   replace H := ofInr H
   rintro e s ⟨rfl, rfl⟩
   cases H
   exact qr
def i_kindIndex_1_ir : S :=
 (sq [o 2 (.box 6 (.t 0)), o 3 (.mv bF)]
 (sq [oa 4 0 2, ol 5 4, ol 6 1, o 7 (.bin .eql (.t 5) (.t 6)), om 3 7]
 .ret))
noncomputable def X.i_kindIndex_1 (p0 : TKind) (p1 : (List UInt8)) : Option Bool :=
 some (p0.Name == p1)
theorem i_kindIndex_1_ok (p0 : TKind) (p1 : (List UInt8)) (r : Bool) (H : X.i_kindIndex_1 p0 p1 = some r) : FK 213 [.agg (eTKind p0), .c (.pd (eS p1) 0)] (cB r) := by
 unfold X.i_kindIndex_1 at H
 refine fi Tryz.f213 i_kindIndex_1_ir [(3, cB r)] [] glL Tryz.func213 ?_
 refine sn [] [] [(2, pk 2)] [] [(2, va (eTKind p0))] id ?_
 refine so [] [] [(3, cB (p0.Name == p1))] [] id ?_
 cases H
 exact er
def i_kindIndex_ir : S :=
 (sq [o 3 (.box 1 (.t 1)), o 4 (.mv (iv 0))]
 (sq [om 5 0, o 6 (.clo 213 [.t 3]), o 7 (.call 212 [.t 5, .t 6]), om 4 7]
 .ret))
noncomputable def X.i_kindIndex (p0 : (List TKind)) (p1 : (List UInt8)) : Option Int :=
 ((X.g_IndexFunc_Kind p0 (fun q0 => X.i_kindIndex_1 q0 p1)).bind fun v1 => some v1)
theorem i_kindIndex_ok (p0 : (List TKind)) (p1 : (List UInt8)) (r : Int) (H : X.i_kindIndex p0 p1 = some r) : FK 146 [.c (dat 6 eTKind zTKind p0), .c (.str p1)] (cI r) := by
 unfold X.i_kindIndex at H
 refine fi Tryz.f146 i_kindIndex_ir [(4, cI r)] [] glL Tryz.func146 ?_
 refine sn [] [] [(3, pk 3)] [] [(3, .var [.str p1] false)] id ?_
 obtain ⟨v1, h2, H⟩ := oB H
 refine so [.res (cI v1)] [] [(4, cI v1)] [] (aI (g_IndexFunc_Kind_c1_ok p0 (213) (eS p1) (fun q0 => X.i_kindIndex_1 q0 p1) (fun q0 r h => i_kindIndex_1_ok q0 p1 r h) v1 h2)) ?_
 cases H
 exact er
def g_IndexFunc_int_ir : S :=
 (sq [o 4 (.mv (iv 0))]
 (.seq (sq [om 6 0, o 7 (.len (.t 6)), o 8 (.mv (iv 0))]
 (.blk 0 (.loop (sq [o 9 (.bin .lss (.t 8) (.t 7))]
   (.seq (.ite (.t 9) .skip
   (.exit 0))
   (.seq (.blk 1 (sq [om 10 8, om 5 10]
    (sq [om 11 1, om 12 0, om 13 5, o 14 (.iad 1 (.t 12) (.t 13)), ol 15 14, o 16 (.cald (.t 11) [.t 15])]
    (.ite (.t 16) (sq [om 17 5, om 4 17]
     .ret)
    .skip))))
   (.ops [o 18 (.bin .add (.t 8) (iv 1)), om 8 18])))))))
 (sq [o 4 (.mv (.v (.int .i64 (-1))))]
 .ret)))
noncomputable def X.g_IndexFunc_int (p0 : (List Int)) (f1 : Int → Option Bool) : Option Int :=
 ((loop (fun (x16 : Int) => ((bif (decide (x16 < (p0.length : Int))) then ((at' zI p0 x16).bind fun v19 => ((f1 v19).bind fun v21 => (bif v21 then some (Sum.inr (Sum.inr x16)) else some (Sum.inl (W (x16 + 1)))))) else some (Sum.inr (Sum.inl ()))) : Option (Int ⊕ (Unit ⊕ Int)))) 0).bind fun y24 => (Sum.elim (fun (y26 : Unit) => some (-1)) (fun (y27 : Int) => some y27) y24))
theorem g_IndexFunc_int_c0_ok (p0 : (List Int)) (cf1 : FuncId) (f1 : Int → Option Bool) (hf1 : ∀ q0 r, f1 q0 = some r → FK cf1 [cI q0] (cB r)) (r : Int) (H : X.g_IndexFunc_int p0 f1 = some r) : FK 208 [.c (dat 1 eI zI p0), .c (.clo cf1 [])] (cI r) := by
 unfold X.g_IndexFunc_int at H
 refine fi Tryz.f208 g_IndexFunc_int_ir [(4, cI r)] [] glL Tryz.func208 ?_
 refine sn [] [] [] [] [] id ?_
 refine seq_in ?_
 refine sn [] [] [(7, cL p0), (8, cI 0)] [] [] (fun t => lI p0 (t)) ?_
 refine ends_blk ?_
 obtain ⟨y24, h25, H⟩ := oB H
 refine tl [] [(0, dc 1 eI zI p0), (1, .c (.clo cf1 [])), (7, cL p0), (8, cI 0)] [] id ?_
 refine loop_in (fun (x : Int) => lit [(0, dc 1 eI zI p0), (1, .c (.clo cf1 [])), (7, cL p0), (8, cI x)] []) (orJ (fun (z : Unit) => At (.exit 0) (lit [] [])) (fun (z : Int) => At .ret (lit [(4, cI z)] []))) h25 ?_ ?_
 ·clear H h25
  intro x16 y0 H
  refine sn [] [] [(9, cB (decide (x16 < (p0.length : Int))))] [] [] id ?_
  refine seq_in ?_
  rcases oC H with ⟨c18, H⟩ | ⟨c18, H⟩
  ·refine it c18 ?_
   refine sk ?_
   refine seq_in ?_
   refine ends_blk ?_
   refine sn [] [] [(5, cI x16)] [] [] id ?_
   obtain ⟨v19, h20, H⟩ := oB H
   obtain ⟨v21, h22, H⟩ := oB H
   refine sn [.cs (eI v19), .res (cB v21)] [] [(16, cB v21)] [] [] (fun t => (a2 eI h20 (aI (hf1 v19 v21 h22) (t)))) ?_
   rcases oC H with ⟨c23, H⟩ | ⟨c23, H⟩
   ·refine it c23 ?_
    refine so [] [] [(4, cI x16)] [] id ?_
    refine ends_ret ?_
    cases H
    exact rsr
   ·refine jf c23 ?_
    refine sk ?_
    refine oo [] [] [(0, dc 1 eI zI p0), (1, .c (.clo cf1 [])), (7, cL p0), (8, cI (W (x16 + 1)))] [] id ?_
    cases H
    exact rr
  ·refine jf c18 ?_
   refine tl [] [] [] id ?_
   refine ends_exit ?_
   cases H
   exact rse
 ·clear h25
  cases y24 with
  | inl y26 =>
   replace H := ofInl H
   rintro e s ⟨rfl, rfl⟩
   change EndsI _ _ _ _ _ _
   refine so [] [] [(4, cI (-1))] [] id ?_
   cases H
   exact er
  | inr y27 =>
   replace H := ofInr H
   rintro e s ⟨rfl, rfl⟩
   cases H
   exact qr
def g_ContainsFunc_int_ir : S :=
 (sq [o 4 (.mv bF)]
 (sq [om 5 0, om 6 1, o 7 (.call 208 [.t 5, .t 6]), o 8 (.bin .geq (.t 7) (iv 0)), om 4 8]
 .ret))
noncomputable def X.g_ContainsFunc_int (p0 : (List Int)) (f1 : Int → Option Bool) : Option Bool :=
 ((X.g_IndexFunc_int p0 f1).bind fun v1 => some (decide (v1 ≥ 0)))
theorem g_ContainsFunc_int_c0_ok (p0 : (List Int)) (cf1 : FuncId) (f1 : Int → Option Bool) (hf1 : ∀ q0 r, f1 q0 = some r → FK cf1 [cI q0] (cB r)) (r : Bool) (H : X.g_ContainsFunc_int p0 f1 = some r) : FK 142 [.c (dat 1 eI zI p0), .c (.clo cf1 [])] (cB r) := by
 unfold X.g_ContainsFunc_int at H
 refine fi Tryz.f142 g_ContainsFunc_int_ir [(4, cB r)] [] glL Tryz.func142 ?_
 refine sn [] [] [] [] [] id ?_
 obtain ⟨v1, h2, H⟩ := oB H
 refine so [.res (cI v1)] [] [(4, cB (decide (v1 ≥ 0)))] [] (aI (g_IndexFunc_int_c0_ok p0 (cf1) f1 hf1 v1 h2)) ?_
 cases H
 exact er
def i_isName_ir : S :=
 (sq [o 2 (.mv bF)]
 (.seq (sq [o 3 (.mv (iv 0))]
 (.blk 0 (.loop (.seq (sq [om 4 3, om 5 0, o 6 (.lens (.t 5)), o 7 (.bin .lss (.t 4) (.t 6))]
   (.ite (.t 7) .skip
   (.exit 0)))
   (.seq (.blk 1 (sq [om 10 0, om 11 3, o 12 (.ixs (.t 10) (.t 11)), o 13 (.bin .lss (.t 12) (.v (.int .u8 97))), om 14 13, og 15 (.mv (.t 0)) 14, og 16 (.mv (.t 3)) 14, og 17 (.ixs (.t 15) (.t 16)) 14, og 18 (.bin .gtr (.t 17) (.v (.int .u8 122))) 14, o 19 (.pick (.t 14) bT (.t 18))]
    (.ite (.t 19) (sq [o 2 (.mv bF)]
     .ret)
    .skip)))
   (.ops [om 8 3, o 9 (.bin .add (.t 8) (iv 1)), om 3 9]))))))
 (sq [om 20 0, o 21 (.lens (.t 20)), o 22 (.call 94 [.t 21, .v (.int .i64 1), .v (.int .i64 8)]), om 2 22]
 .ret)))
noncomputable def X.i_isName (p0 : (List UInt8)) : Option Bool :=
 ((loop (fun (x14 : Int) => ((bif (decide (x14 < (p0.length : Int))) then (if 0 ≤ x14 ∧ x14 < (p0.length : Int) then (bif (decide ((((p0.getD x14.toNat 0).toNat : Nat) : Int) < 97)) then some (Sum.inr (Sum.inr false)) else (if 0 ≤ x14 ∧ x14 < (p0.length : Int) then (bif (decide ((((p0.getD x14.toNat 0).toNat : Nat) : Int) > 122)) then some (Sum.inr (Sum.inr false)) else some (Sum.inl (W (x14 + 1)))) else none)) else none) else some (Sum.inr (Sum.inl ()))) : Option (Int ⊕ (Unit ⊕ Bool)))) 0).bind fun y21 => (Sum.elim (fun (y23 : Unit) => ((X.i_inRange (p0.length : Int) 1 8).bind fun v25 => some v25)) (fun (y24 : Bool) => some y24) y21))
theorem i_isName_ok (p0 : (List UInt8)) (r : Bool) (H : X.i_isName p0 = some r) : FK 252 [.c (.str p0)] (cB r) := by
 unfold X.i_isName at H
 refine fi Tryz.f252 i_isName_ir [(2, cB r)] [] glL Tryz.func252 ?_
 refine sn [] [] [] [] [] id ?_
 refine seq_in ?_
 refine sn [] [] [(3, cI 0)] [] [] id ?_
 refine ends_blk ?_
 obtain ⟨y21, h22, H⟩ := oB H
 refine tl [] [(0, .c (.str p0)), (3, cI 0)] [] id ?_
 refine loop_in (fun (x : Int) => lit [(0, .c (.str p0)), (3, cI x)] []) (orJ (fun (z : Unit) => At (.exit 0) (lit [(0, .c (.str p0))] [])) (fun (z : Bool) => At .ret (lit [(2, cB z)] []))) h22 ?_ ?_
 ·clear H h22
  intro x14 y0 H
  refine seq_in ?_
  refine sn [] [] [(7, cB (decide (x14 < (p0.length : Int))))] [] [] id ?_
  rcases oC H with ⟨c16, H⟩ | ⟨c16, H⟩
  ·refine it c16 ?_
   refine sk ?_
   refine seq_in ?_
   refine ends_blk ?_
   obtain ⟨g17, H⟩ := oI H
   rcases oC H with ⟨c18, H⟩ | ⟨c18, H⟩
   ·refine sn (rg 5 true []) [] [(19, cB true)] [] [] (fun t => aI g17 (aG 5 c18 (t))) ?_
    refine it rT ?_
    refine so [] [] [(2, cB false)] [] id ?_
    refine ends_ret ?_
    cases H
    exact rsr
   ·obtain ⟨g19, H⟩ := oI H
    refine sn (rg 5 false []) [] [(19, cB (decide ((((p0.getD x14.toNat 0).toNat : Nat) : Int) > 122)))] [] [] (fun t => aI g17 (aG 3 c18 (aI g19 (aG 2 c18 (t))))) ?_
    rcases oC H with ⟨c20, H⟩ | ⟨c20, H⟩
    ·refine it c20 ?_
     refine so [] [] [(2, cB false)] [] id ?_
     refine ends_ret ?_
     cases H
     exact rsr
    ·refine jf c20 ?_
     refine sk ?_
     refine oo [] [] [(0, .c (.str p0)), (3, cI (W (x14 + 1)))] [] id ?_
     cases H
     exact rr
  ·refine jf c16 ?_
   refine tl [] [(0, .c (.str p0))] [] id ?_
   refine ends_exit ?_
   cases H
   exact rse
 ·clear h22
  cases y21 with
  | inl y23 =>
   replace H := ofInl H
   rintro e s ⟨rfl, rfl⟩
   change EndsI _ _ _ _ _ _
   obtain ⟨v25, h26, H⟩ := oB H
   refine so [.res (cB v25)] [] [(2, cB v25)] [] (aI (i_inRange_ok (p0.length : Int) 1 8 v25 h26)) ?_
   cases H
   exact er
  | inr y24 =>
   replace H := ofInr H
   rintro e s ⟨rfl, rfl⟩
   cases H
   exact qr
def i_goodTerrain_1_ir : S :=
 (sq [o 2 (.mv bF)]
 (sq [om 3 0, o 4 (.call 94 [.t 3, .v (.int .i64 0), .v (.int .i64 9)]), o 5 (.not (.t 4)), om 2 5]
 .ret))
noncomputable def X.i_goodTerrain_1 (p0 : Int) : Option Bool :=
 ((X.i_inRange p0 0 9).bind fun v1 => some (!v1))
theorem i_goodTerrain_1_ok (p0 : Int) (r : Bool) (H : X.i_goodTerrain_1 p0 = some r) : FK 253 [cI p0] (cB r) := by
 unfold X.i_goodTerrain_1 at H
 refine fi Tryz.f253 i_goodTerrain_1_ir [(2, cB r)] [] glL Tryz.func253 ?_
 refine sn [] [] [] [] [] id ?_
 obtain ⟨v1, h2, H⟩ := oB H
 refine so [.res (cB v1)] [] [(2, cB (!v1))] [] (aI (i_inRange_ok p0 0 9 v1 h2)) ?_
 cases H
 exact er
def i_goodTerrain_ir : S :=
 (sq [o 2 (.box 5 (.t 0)), o 4 (.mv bF)]
 (.seq (sq [oa 5 0 2, ol 6 5, o 7 (.call 252 [.t 6]), o 8 (.not (.t 7)), om 9 8, og 10 (.fad 1 (.t 2)) 9, og 11 (.load 1 false (.t 10)) 9, og 12 (.len (.t 11)) 9, og 13 (.mv (.t 1)) 9, og 14 (.bin .neq (.t 12) (.t 13)) 9, o 15 (.pick (.t 9) bT (.t 14)), om 16 15, og 17 (.fad 2 (.t 2)) 16, og 18 (.load 1 false (.t 17)) 16, og 19 (.call 94 [.t 18, .v (.int .i64 (-3)), .v (.int .i64 3)]) 16, og 20 (.not (.t 19)) 16, o 21 (.pick (.t 16) bT (.t 20)), om 22 21, og 23 (.fad 3 (.t 2)) 22, og 24 (.load 1 false (.t 23)) 22, og 25 (.call 94 [.t 24, .v (.int .i64 0), .v (.int .i64 3)]) 22, og 26 (.not (.t 25)) 22, o 27 (.pick (.t 22) bT (.t 26))]
 (.ite (.t 27) (sq [o 4 (.mv bF)]
  .ret)
 .skip))
 (sq [oa 28 1 2, ol 29 28, o 30 (.call 142 [.t 29, .f 253]), o 31 (.not (.t 30)), om 4 31]
 .ret)))
noncomputable def X.i_goodTerrain (p0 : TTerrain) (p1 : Int) : Option Bool :=
 ((X.i_isName p0.Name).bind fun v1 => (bif (!v1) then some false else (bif ((p0.Cost.length : Int) != p1) then some false else ((X.i_inRange p0.Shift (-3) 3).bind fun v5 => (bif (!v5) then some false else ((X.i_inRange p0.Height 0 3).bind fun v8 => (bif (!v8) then some false else ((X.g_ContainsFunc_int p0.Cost (fun q0 => X.i_goodTerrain_1 q0)).bind fun v11 => some (!v11)))))))))
theorem i_goodTerrain_ok (p0 : TTerrain) (p1 : Int) (r : Bool) (H : X.i_goodTerrain p0 p1 = some r) : FK 204 [.agg (eTTerrain p0), cI p1] (cB r) := by
 unfold X.i_goodTerrain at H
 refine fi Tryz.f204 i_goodTerrain_ir [(4, cB r)] [] glL Tryz.func204 ?_
 refine sn [] [] [(2, pk 2)] [] [(2, va (eTTerrain p0))] id ?_
 refine seq_in ?_
 obtain ⟨v1, h2, H⟩ := oB H
 rcases oC H with ⟨c3, H⟩ | ⟨c3, H⟩
 ·refine sn ([.res (cB v1)] ++ rg 16 true []) [] [(27, cB true)] [] [] (fun t => aI (i_isName_ok p0.Name v1 h2) (aG 6 c3 (aG 10 rT (t)))) ?_
  refine it rT ?_
  refine so [] [] [(4, cB false)] [] id ?_
  cases H
  exact er
 ·rcases oC H with ⟨c4, H⟩ | ⟨c4, H⟩
  ·refine sn ([.res (cB v1)] ++ rg 6 false (rg 10 true [])) [] [(27, cB true)] [] [] (fun t => aI (i_isName_ok p0.Name v1 h2) (aG 3 c3 (lI p0.Cost (aG 3 c3 (aG 5 c4 (aG 5 rT (t))))))) ?_
   refine it rT ?_
   refine so [] [] [(4, cB false)] [] id ?_
   cases H
   exact er
  ·obtain ⟨v5, h6, H⟩ := oB H
   rcases oC H with ⟨c7, H⟩ | ⟨c7, H⟩
   ·refine sn ([.res (cB v1)] ++ rg 9 false ([.res (cB v5)] ++ rg 2 false (rg 5 true []))) [] [(27, cB true)] [] [] (fun t => aI (i_isName_ok p0.Name v1 h2) (aG 3 c3 (lI p0.Cost (aG 3 c3 (aG 3 c4 (aI (i_inRange_ok p0.Shift (-3) 3 v5 h6) (aG 2 c4 (aG 5 c7 (t))))))))) ?_
    refine it rT ?_
    refine so [] [] [(4, cB false)] [] id ?_
    cases H
    exact er
   ·obtain ⟨v8, h9, H⟩ := oB H
    refine sn ([.res (cB v1)] ++ rg 9 false ([.res (cB v5)] ++ rg 5 false ([.res (cB v8)] ++ rg 2 false []))) [] [(27, cB (!v8))] [] [] (fun t => aI (i_isName_ok p0.Name v1 h2) (aG 3 c3 (lI p0.Cost (aG 3 c3 (aG 3 c4 (aI (i_inRange_ok p0.Shift (-3) 3 v5 h6) (aG 2 c4 (aG 3 c7 (aI (i_inRange_ok p0.Height 0 3 v8 h9) (aG 2 c7 (t))))))))))) ?_
    rcases oC H with ⟨c10, H⟩ | ⟨c10, H⟩
    ·refine it c10 ?_
     refine so [] [] [(4, cB false)] [] id ?_
     cases H
     exact er
    ·refine jf c10 ?_
     refine sk ?_
     obtain ⟨v11, h12, H⟩ := oB H
     refine so [.res (cB v11)] [] [(4, cB (!v11))] [] (aI (g_ContainsFunc_int_c0_ok p0.Cost (253) (fun q0 => X.i_goodTerrain_1 q0) (fun q0 r h => i_goodTerrain_1_ok q0 r h) v11 h12)) ?_
     cases H
     exact er
def g_IndexFunc_Terrain_ir : S :=
 (sq [o 4 (.mv (iv 0))]
 (.seq (sq [om 6 0, o 7 (.len (.t 6)), o 8 (.mv (iv 0))]
 (.blk 0 (.loop (sq [o 9 (.bin .lss (.t 8) (.t 7))]
   (.seq (.ite (.t 9) .skip
   (.exit 0))
   (.seq (.blk 1 (sq [om 10 8, om 5 10]
    (sq [om 11 1, om 12 0, om 13 5, o 14 (.iad 5 (.t 12) (.t 13)), o 15 (.load 5 true (.t 14)), o 16 (.cald (.t 11) [.t 15])]
    (.ite (.t 16) (sq [om 17 5, om 4 17]
     .ret)
    .skip))))
   (.ops [o 18 (.bin .add (.t 8) (iv 1)), om 8 18])))))))
 (sq [o 4 (.mv (.v (.int .i64 (-1))))]
 .ret)))
noncomputable def X.g_IndexFunc_Terrain (p0 : (List TTerrain)) (f1 : TTerrain → Option Bool) : Option Int :=
 ((loop (fun (x16 : Int) => ((bif (decide (x16 < (p0.length : Int))) then ((at' zTTerrain p0 x16).bind fun v19 => ((f1 v19).bind fun v21 => (bif v21 then some (Sum.inr (Sum.inr x16)) else some (Sum.inl (W (x16 + 1)))))) else some (Sum.inr (Sum.inl ()))) : Option (Int ⊕ (Unit ⊕ Int)))) 0).bind fun y24 => (Sum.elim (fun (y26 : Unit) => some (-1)) (fun (y27 : Int) => some y27) y24))
theorem g_IndexFunc_Terrain_c1_ok (p0 : (List TTerrain)) (cf1 : FuncId) (cs1_0 : List AC) (f1 : TTerrain → Option Bool) (hf1 : ∀ q0 r, f1 q0 = some r → FK cf1 [.agg (eTTerrain q0), .c (.pd cs1_0 0)] (cB r)) (r : Int) (H : X.g_IndexFunc_Terrain p0 f1 = some r) : FK 254 [.c (dat 5 eTTerrain zTTerrain p0), .c (.clo cf1 [.pd cs1_0 0])] (cI r) := by
 unfold X.g_IndexFunc_Terrain at H
 refine fi Tryz.f254 g_IndexFunc_Terrain_ir [(4, cI r)] [] glL Tryz.func254 ?_
 refine sn [] [] [] [] [] id ?_
 refine seq_in ?_
 refine sn [] [] [(7, cL p0), (8, cI 0)] [] [] (fun t => lI p0 (t)) ?_
 refine ends_blk ?_
 obtain ⟨y24, h25, H⟩ := oB H
 refine tl [] [(0, dc 5 eTTerrain zTTerrain p0), (1, .c (.clo cf1 [.pd cs1_0 0])), (7, cL p0), (8, cI 0)] [] id ?_
 refine loop_in (fun (x : Int) => lit [(0, dc 5 eTTerrain zTTerrain p0), (1, .c (.clo cf1 [.pd cs1_0 0])), (7, cL p0), (8, cI x)] []) (orJ (fun (z : Unit) => At (.exit 0) (lit [] [])) (fun (z : Int) => At .ret (lit [(4, cI z)] []))) h25 ?_ ?_
 ·clear H h25
  intro x16 y0 H
  refine sn [] [] [(9, cB (decide (x16 < (p0.length : Int))))] [] [] id ?_
  refine seq_in ?_
  rcases oC H with ⟨c18, H⟩ | ⟨c18, H⟩
  ·refine it c18 ?_
   refine sk ?_
   refine seq_in ?_
   refine ends_blk ?_
   refine sn [] [] [(5, cI x16)] [] [] id ?_
   obtain ⟨v19, h20, H⟩ := oB H
   obtain ⟨v21, h22, H⟩ := oB H
   refine sn [.cs (eTTerrain v19), .res (cB v21)] [] [(16, cB v21)] [] [] (fun t => (a2 eTTerrain h20 (aI (hf1 v19 v21 h22) (t)))) ?_
   rcases oC H with ⟨c23, H⟩ | ⟨c23, H⟩
   ·refine it c23 ?_
    refine so [] [] [(4, cI x16)] [] id ?_
    refine ends_ret ?_
    cases H
    exact rsr
   ·refine jf c23 ?_
    refine sk ?_
    refine oo [] [] [(0, dc 5 eTTerrain zTTerrain p0), (1, .c (.clo cf1 [.pd cs1_0 0])), (7, cL p0), (8, cI (W (x16 + 1)))] [] id ?_
    cases H
    exact rr
  ·refine jf c18 ?_
   refine tl [] [] [] id ?_
   refine ends_exit ?_
   cases H
   exact rse
 ·clear h25
  cases y24 with
  | inl y26 =>
   replace H := ofInl H
   rintro e s ⟨rfl, rfl⟩
   change EndsI _ _ _ _ _ _
   refine so [] [] [(4, cI (-1))] [] id ?_
   cases H
   exact er
  | inr y27 =>
   replace H := ofInr H
   rintro e s ⟨rfl, rfl⟩
   cases H
   exact qr
def i_terrainIndex_1_ir : S :=
 (sq [o 2 (.box 5 (.t 0)), o 3 (.mv bF)]
 (sq [oa 4 0 2, ol 5 4, ol 6 1, o 7 (.bin .eql (.t 5) (.t 6)), om 3 7]
 .ret))
noncomputable def X.i_terrainIndex_1 (p0 : TTerrain) (p1 : (List UInt8)) : Option Bool :=
 some (p0.Name == p1)
theorem i_terrainIndex_1_ok (p0 : TTerrain) (p1 : (List UInt8)) (r : Bool) (H : X.i_terrainIndex_1 p0 p1 = some r) : FK 255 [.agg (eTTerrain p0), .c (.pd (eS p1) 0)] (cB r) := by
 unfold X.i_terrainIndex_1 at H
 refine fi Tryz.f255 i_terrainIndex_1_ir [(3, cB r)] [] glL Tryz.func255 ?_
 refine sn [] [] [(2, pk 2)] [] [(2, va (eTTerrain p0))] id ?_
 refine so [] [] [(3, cB (p0.Name == p1))] [] id ?_
 cases H
 exact er
def i_terrainIndex_ir : S :=
 (sq [o 3 (.box 1 (.t 1)), o 4 (.mv (iv 0))]
 (sq [om 5 0, o 6 (.clo 255 [.t 3]), o 7 (.call 254 [.t 5, .t 6]), om 4 7]
 .ret))
noncomputable def X.i_terrainIndex (p0 : (List TTerrain)) (p1 : (List UInt8)) : Option Int :=
 ((X.g_IndexFunc_Terrain p0 (fun q0 => X.i_terrainIndex_1 q0 p1)).bind fun v1 => some v1)
theorem i_terrainIndex_ok (p0 : (List TTerrain)) (p1 : (List UInt8)) (r : Int) (H : X.i_terrainIndex p0 p1 = some r) : FK 205 [.c (dat 5 eTTerrain zTTerrain p0), .c (.str p1)] (cI r) := by
 unfold X.i_terrainIndex at H
 refine fi Tryz.f205 i_terrainIndex_ir [(4, cI r)] [] glL Tryz.func205 ?_
 refine sn [] [] [(3, pk 3)] [] [(3, .var [.str p1] false)] id ?_
 obtain ⟨v1, h2, H⟩ := oB H
 refine so [.res (cI v1)] [] [(4, cI v1)] [] (aI (g_IndexFunc_Terrain_c1_ok p0 (255) (eS p1) (fun q0 => X.i_terrainIndex_1 q0 p1) (fun q0 r h => i_terrainIndex_1_ok q0 p1 r h) v1 h2)) ?_
 cases H
 exact er
def i_goodKind_ir : S :=
 (sq [o 1 (.box 6 (.t 0)), o 2 (.mv bF)]
 (sq [oa 3 0 1, ol 4 3, o 5 (.call 252 [.t 4]), om 6 5, oh 7 (.fad 1 (.t 1)) 6, oh 8 (.load 1 false (.t 7)) 6, oh 9 (.call 94 [.t 8, .v (.int .i64 1), .v (.int .i64 9)]) 6, o 10 (.pick (.t 6) (.t 9) bF), om 11 10, oh 12 (.fad 2 (.t 1)) 11, oh 13 (.load 1 false (.t 12)) 11, oh 14 (.call 94 [.t 13, .v (.int .i64 0), .v (.int .i64 9)]) 11, o 15 (.pick (.t 11) (.t 14) bF), om 16 15, oh 17 (.fad 3 (.t 1)) 16, oh 18 (.load 1 false (.t 17)) 16, oh 19 (.call 94 [.t 18, .v (.int .i64 1), .v (.int .i64 4)]) 16, o 20 (.pick (.t 16) (.t 19) bF), om 21 20, oh 22 (.fad 5 (.t 1)) 21, oh 23 (.load 1 false (.t 22)) 21, oh 24 (.call 94 [.t 23, .v (.int .i64 0), .v (.int .i64 4)]) 21, o 25 (.pick (.t 21) (.t 24) bF), om 2 25]
 .ret))
noncomputable def X.i_goodKind (p0 : TKind) : Option Bool :=
 ((X.i_isName p0.Name).bind fun v1 => (bif v1 then ((X.i_inRange p0.Strength 1 9).bind fun v4 => (bif v4 then ((X.i_inRange p0.Moves 0 9).bind fun v7 => (bif v7 then ((X.i_inRange p0.Steps 1 4).bind fun v10 => (bif v10 then ((X.i_inRange p0.View 0 4).bind fun v13 => some v13) else some false)) else some false)) else some false)) else some false))
theorem i_goodKind_ok (p0 : TKind) (r : Bool) (H : X.i_goodKind p0 = some r) : FK 206 [.agg (eTKind p0)] (cB r) := by
 unfold X.i_goodKind at H
 refine fi Tryz.f206 i_goodKind_ir [(2, cB r)] [] glL Tryz.func206 ?_
 refine so [] [] [(1, pk 1)] [(1, va (eTKind p0))] id ?_
 obtain ⟨v1, h2, H⟩ := oB H
 rcases oC H with ⟨c3, H⟩ | ⟨c3, H⟩
 ·obtain ⟨v4, h5, H⟩ := oB H
  rcases oC H with ⟨c6, H⟩ | ⟨c6, H⟩
  ·obtain ⟨v7, h8, H⟩ := oB H
   rcases oC H with ⟨c9, H⟩ | ⟨c9, H⟩
   ·obtain ⟨v10, h11, H⟩ := oB H
    rcases oC H with ⟨c12, H⟩ | ⟨c12, H⟩
    ·obtain ⟨v13, h14, H⟩ := oB H
     refine so ([.res (cB v1)] ++ rg 3 true ([.res (cB v4)] ++ rg 4 true ([.res (cB v7)] ++ rg 4 true ([.res (cB v10)] ++ rg 4 true [.res (cB v13), .g true])))) [] [(2, cB v13)] [] (fun t => aI (i_isName_ok p0.Name v1 h2) (aG 3 c3 (aI (i_inRange_ok p0.Strength 1 9 v4 h5) (aI c3 (aG 3 c6 (aI (i_inRange_ok p0.Moves 0 9 v7 h8) (aI c6 (aG 3 c9 (aI (i_inRange_ok p0.Steps 1 4 v10 h11) (aI c9 (aG 3 c12 (aI (i_inRange_ok p0.View 0 4 v13 h14) (aI c12 (t)))))))))))))) ?_
     cases H
     exact er
    ·refine so ([.res (cB v1)] ++ rg 3 true ([.res (cB v4)] ++ rg 4 true ([.res (cB v7)] ++ rg 4 true ([.res (cB v10), .g true] ++ rg 4 false [])))) [] [(2, cB false)] [] (fun t => aI (i_isName_ok p0.Name v1 h2) (aG 3 c3 (aI (i_inRange_ok p0.Strength 1 9 v4 h5) (aI c3 (aG 3 c6 (aI (i_inRange_ok p0.Moves 0 9 v7 h8) (aI c6 (aG 3 c9 (aI (i_inRange_ok p0.Steps 1 4 v10 h11) (aI c9 (aG 4 c12 (t)))))))))))) ?_
     cases H
     exact er
   ·refine so ([.res (cB v1)] ++ rg 3 true ([.res (cB v4)] ++ rg 4 true ([.res (cB v7), .g true] ++ rg 8 false []))) [] [(2, cB false)] [] (fun t => aI (i_isName_ok p0.Name v1 h2) (aG 3 c3 (aI (i_inRange_ok p0.Strength 1 9 v4 h5) (aI c3 (aG 3 c6 (aI (i_inRange_ok p0.Moves 0 9 v7 h8) (aI c6 (aG 4 c9 (aG 4 rF (t)))))))))) ?_
    cases H
    exact er
  ·refine so ([.res (cB v1)] ++ rg 3 true ([.res (cB v4), .g true] ++ rg 12 false [])) [] [(2, cB false)] [] (fun t => aI (i_isName_ok p0.Name v1 h2) (aG 3 c3 (aI (i_inRange_ok p0.Strength 1 9 v4 h5) (aI c3 (aG 4 c6 (aG 8 rF (t))))))) ?_
   cases H
   exact er
 ·refine so ([.res (cB v1)] ++ rg 16 false []) [] [(2, cB false)] [] (fun t => aI (i_isName_ok p0.Name v1 h2) (aG 4 c3 (aG 12 rF (t)))) ?_
  cases H
  exact er
def i_IsRules_ir : S :=
 (sq [o 1 (.box 7 (.t 0)), o 2 (.mv bF)]
 (.seq (sq [oa 7 0 1, ol 8 7, o 9 (.len (.t 8)), o 10 (.call 94 [.t 9, .v (.int .i64 1), .v (.int .i64 6)]), o 11 (.not (.t 10)), om 12 11, og 13 (.fad 1 (.t 1)) 12, og 14 (.load 1 false (.t 13)) 12, og 15 (.len (.t 14)) 12, og 16 (.call 94 [.t 15, .v (.int .i64 1), .v (.int .i64 4)]) 12, og 17 (.not (.t 16)) 12, o 18 (.pick (.t 12) bT (.t 17))]
 (.ite (.t 18) (sq [o 2 (.mv bF)]
  .ret)
 .skip))
 (.seq (sq [oa 19 0 1, ol 20 19, o 21 (.len (.t 20)), o 22 (.mv (iv 0))]
 (.blk 0 (.loop (sq [o 23 (.bin .lss (.t 22) (.t 21))]
   (.seq (.ite (.t 23) .skip
   (.exit 0))
   (.seq (.blk 1 (sq [om 24 22, o 25 (.iad 5 (.t 20) (.t 22)), o 26 (.load 5 true (.t 25)), o 4 (.alloc [.str [], .nil, .int .i64 0, .int .i64 0, .bool false]), om 3 24, os 5 4 26]
    (sq [o 27 (.load 5 true (.t 4)), oa 28 1 1, ol 29 28, o 30 (.len (.t 29)), o 31 (.call 204 [.t 27, .t 30]), o 32 (.not (.t 31)), om 33 32, og 34 (.fad 0 (.t 1)) 33, og 35 (.load 1 false (.t 34)) 33, og 36 (.fad 0 (.t 4)) 33, og 37 (.load 1 false (.t 36)) 33, og 38 (.call 205 [.t 35, .t 37]) 33, og 39 (.mv (.t 3)) 33, og 40 (.bin .neq (.t 38) (.t 39)) 33, o 41 (.pick (.t 33) bT (.t 40))]
    (.ite (.t 41) (sq [o 2 (.mv bF)]
     .ret)
    .skip))))
   (.ops [o 42 (.bin .add (.t 22) (iv 1)), om 22 42])))))))
 (.seq (sq [oa 43 1 1, ol 44 43, o 45 (.len (.t 44)), o 46 (.mv (iv 0))]
 (.blk 2 (.loop (sq [o 47 (.bin .lss (.t 46) (.t 45))]
   (.seq (.ite (.t 47) .skip
   (.exit 2))
   (.seq (.blk 3 (sq [om 48 46, o 49 (.iad 6 (.t 44) (.t 46)), o 50 (.load 6 true (.t 49)), o 6 (.alloc [.str [], .int .i64 0, .int .i64 0, .int .i64 0, .bool false, .int .i64 0]), om 5 48, os 6 6 50]
    (sq [o 51 (.load 6 true (.t 6)), o 52 (.call 206 [.t 51]), o 53 (.not (.t 52)), om 54 53, og 55 (.fad 1 (.t 1)) 54, og 56 (.load 1 false (.t 55)) 54, og 57 (.fad 0 (.t 6)) 54, og 58 (.load 1 false (.t 57)) 54, og 59 (.call 146 [.t 56, .t 58]) 54, og 60 (.mv (.t 5)) 54, og 61 (.bin .neq (.t 59) (.t 60)) 54, o 62 (.pick (.t 54) bT (.t 61))]
    (.ite (.t 62) (sq [o 2 (.mv bF)]
     .ret)
    .skip))))
   (.ops [o 63 (.bin .add (.t 46) (iv 1)), om 46 63])))))))
 (sq [oa 64 2 1, ol 65 64, o 66 (.call 94 [.t 65, .v (.int .i64 1), .v (.int .i64 4)]), om 67 66, oh 68 (.fad 3 (.t 1)) 67, oh 69 (.load 1 false (.t 68)) 67, oh 70 (.call 94 [.t 69, .v (.int .i64 0), .v (.int .i64 9)]) 67, o 71 (.pick (.t 67) (.t 70) bF), om 72 71, oh 73 (.fad 4 (.t 1)) 72, oh 74 (.load 1 false (.t 73)) 72, oh 75 (.call 94 [.t 74, .v (.int .i64 1), .v (.int .i64 9)]) 72, o 76 (.pick (.t 72) (.t 75) bF), om 77 76, oh 78 (.fad 5 (.t 1)) 77, oh 79 (.load 1 false (.t 78)) 77, oh 80 (.call 94 [.t 79, .v (.int .i64 0), .v (.int .i64 20)]) 77, o 81 (.pick (.t 77) (.t 80) bF), om 82 81, oh 83 (.fad 6 (.t 1)) 82, oh 84 (.load 1 false (.t 83)) 82, oh 85 (.call 94 [.t 84, .v (.int .i64 1), .v (.int .i64 30)]) 82, o 86 (.pick (.t 82) (.t 85) bF), om 2 86]
 .ret)))))
noncomputable def X.i_IsRules (p0 : TRules) : Option Bool :=
 ((X.i_inRange (p0.Terrains.length : Int) 1 6).bind fun v7 => (bif (!v7) then some false else ((X.i_inRange (p0.Kinds.length : Int) 1 4).bind fun v10 => (bif (!v10) then some false else ((loop (fun (x70 : Int) => ((bif (decide (x70 < (p0.Terrains.length : Int))) then ((at' zTTerrain p0.Terrains x70).bind fun v73 => ((X.i_goodTerrain v73 (p0.Kinds.length : Int)).bind fun v75 => (bif (!v75) then some (Sum.inr (Sum.inr false)) else ((X.i_terrainIndex p0.Terrains v73.Name).bind fun v78 => (bif (v78 != x70) then some (Sum.inr (Sum.inr false)) else some (Sum.inl (W (x70 + 1)))))))) else some (Sum.inr (Sum.inl ()))) : Option (Int ⊕ (Unit ⊕ Bool)))) 0).bind fun y81 => (Sum.elim (fun (y83 : Unit) => ((loop (fun (x142 : Int) => ((bif (decide (x142 < (p0.Kinds.length : Int))) then ((at' zTKind p0.Kinds x142).bind fun v145 => ((X.i_goodKind v145).bind fun v147 => (bif (!v147) then some (Sum.inr (Sum.inr false)) else ((X.i_kindIndex p0.Kinds v145.Name).bind fun v150 => (bif (v150 != x142) then some (Sum.inr (Sum.inr false)) else some (Sum.inl (W (x142 + 1)))))))) else some (Sum.inr (Sum.inl ()))) : Option (Int ⊕ (Unit ⊕ Bool)))) 0).bind fun y153 => (Sum.elim (fun (y155 : Unit) => ((X.i_inRange p0.Stack 1 4).bind fun v157 => (bif v157 then ((X.i_inRange p0.River 0 9).bind fun v160 => (bif v160 then ((X.i_inRange p0.Road 1 9).bind fun v163 => (bif v163 then ((X.i_inRange p0.Supply 0 20).bind fun v166 => (bif v166 then ((X.i_inRange p0.Turns 1 30).bind fun v169 => some v169) else some false)) else some false)) else some false)) else some false))) (fun (y156 : Bool) => some y156) y153))) (fun (y84 : Bool) => some y84) y81))))))
theorem i_IsRules_ok (p0 : TRules) (r : Bool) (H : X.i_IsRules p0 = some r) : FK 140 [.agg (eTRules p0)] (cB r) := by
 unfold X.i_IsRules at H
 refine fi Tryz.f140 i_IsRules_ir [(2, cB r)] [] glL Tryz.func140 ?_
 refine so [] [] [(1, pk 1)] [(1, va (eTRules p0))] id ?_
 refine seq_in ?_
 obtain ⟨v7, h8, H⟩ := oB H
 rcases oC H with ⟨c9, H⟩ | ⟨c9, H⟩
 ·refine sn ([.res (cB v7)] ++ rg 6 true []) [] [(18, cB true)] [] [] (fun t => lI p0.Terrains (aI (i_inRange_ok (p0.Terrains.length : Int) 1 6 v7 h8) (aG 6 c9 (t)))) ?_
  refine it rT ?_
  refine so [] [] [(2, cB false)] [] id ?_
  cases H
  exact er
 ·obtain ⟨v10, h11, H⟩ := oB H
  refine sn ([.res (cB v7)] ++ rg 4 false ([.res (cB v10)] ++ rg 2 false [])) [] [(18, cB (!v10))] [] [] (fun t => lI p0.Terrains (aI (i_inRange_ok (p0.Terrains.length : Int) 1 6 v7 h8) (aG 3 c9 (lI p0.Kinds (aI c9 (aI (i_inRange_ok (p0.Kinds.length : Int) 1 4 v10 h11) (aG 2 c9 (t)))))))) ?_
  rcases oC H with ⟨c12, H⟩ | ⟨c12, H⟩
  ·refine it c12 ?_
   refine so [] [] [(2, cB false)] [] id ?_
   cases H
   exact er
  ·refine jf c12 ?_
   refine sk ?_
   refine seq_in ?_
   refine sn [] [] [(20, dc 5 eTTerrain zTTerrain p0.Terrains), (21, cL p0.Terrains), (22, cI 0)] [] [] (fun t => lI p0.Terrains (t)) ?_
   refine ends_blk ?_
   obtain ⟨y81, h82, H⟩ := oB H
   refine tl [] [(1, pk 1), (20, dc 5 eTTerrain zTTerrain p0.Terrains), (21, cL p0.Terrains), (22, cI 0)] [(1, va (eTRules p0))] id ?_
   refine loop_in (fun (x : Int) => lit [(1, pk 1), (20, dc 5 eTTerrain zTTerrain p0.Terrains), (21, cL p0.Terrains), (22, cI x)] [(1, va (eTRules p0))]) (orJ (fun (z : Unit) => At (.exit 0) (lit [(1, pk 1)] [(1, va (eTRules p0))])) (fun (z : Bool) => At .ret (lit [(2, cB z)] []))) h82 ?_ ?_
   ·clear H h82
    intro x70 y0 H
    refine sn [] [] [(23, cB (decide (x70 < (p0.Terrains.length : Int))))] [] [] id ?_
    refine seq_in ?_
    rcases oC H with ⟨c72, H⟩ | ⟨c72, H⟩
    ·refine it c72 ?_
     refine sk ?_
     refine seq_in ?_
     refine ends_blk ?_
     obtain ⟨v73, h74, H⟩ := oB H
     refine sn [.cs (eTTerrain v73)] [] [(3, cI x70), (4, pk 4)] [] [(4, va (eTTerrain v73))] (a2 eTTerrain h74) ?_
     obtain ⟨v75, h76, H⟩ := oB H
     rcases oC H with ⟨c77, H⟩ | ⟨c77, H⟩
     ·refine sn ([.res (cB v75)] ++ rg 8 true []) [] [(41, cB true)] [] [] (fun t => lI p0.Kinds (aI (i_goodTerrain_ok v73 (p0.Kinds.length : Int) v75 h76) (aG 8 c77 (t)))) ?_
      refine it rT ?_
      refine so [] [] [(2, cB false)] [] id ?_
      refine ends_ret ?_
      cases H
      exact rsr
     ·obtain ⟨v78, h79, H⟩ := oB H
      refine sn ([.res (cB v75)] ++ rg 5 false ([.res (cI v78)] ++ rg 3 false [])) [] [(41, cB (v78 != x70))] [] [] (fun t => lI p0.Kinds (aI (i_goodTerrain_ok v73 (p0.Kinds.length : Int) v75 h76) (aG 5 c77 (aI (i_terrainIndex_ok p0.Terrains v73.Name v78 h79) (aG 3 c77 (t)))))) ?_
      rcases oC H with ⟨c80, H⟩ | ⟨c80, H⟩
      ·refine it c80 ?_
       refine so [] [] [(2, cB false)] [] id ?_
       refine ends_ret ?_
       cases H
       exact rsr
      ·refine jf c80 ?_
       refine sk ?_
       refine oo [] [] [(1, pk 1), (20, dc 5 eTTerrain zTTerrain p0.Terrains), (21, cL p0.Terrains), (22, cI (W (x70 + 1)))] [(1, va (eTRules p0))] id ?_
       cases H
       exact rr
    ·refine jf c72 ?_
     refine tl [] [(1, pk 1)] [(1, va (eTRules p0))] id ?_
     refine ends_exit ?_
     cases H
     exact rse
   ·clear h82
    cases y81 with
    | inl y83 =>
     replace H := ofInl H
     rintro e s ⟨rfl, rfl⟩
     change EndsI _ _ _ _ _ _
     refine seq_in ?_
     refine sn [] [] [(44, dc 6 eTKind zTKind p0.Kinds), (45, cL p0.Kinds), (46, cI 0)] [] [] (fun t => lI p0.Kinds (t)) ?_
     refine ends_blk ?_
     obtain ⟨y153, h154, H⟩ := oB H
     refine tl [] [(1, pk 1), (44, dc 6 eTKind zTKind p0.Kinds), (45, cL p0.Kinds), (46, cI 0)] [(1, va (eTRules p0))] id ?_
     refine loop_in (fun (x : Int) => lit [(1, pk 1), (44, dc 6 eTKind zTKind p0.Kinds), (45, cL p0.Kinds), (46, cI x)] [(1, va (eTRules p0))]) (orJ (fun (z : Unit) => At (.exit 2) (lit [(1, pk 1)] [(1, va (eTRules p0))])) (fun (z : Bool) => At .ret (lit [(2, cB z)] []))) h154 ?_ ?_
     ·clear H h154
      intro x142 y0 H
      refine sn [] [] [(47, cB (decide (x142 < (p0.Kinds.length : Int))))] [] [] id ?_
      refine seq_in ?_
      rcases oC H with ⟨c144, H⟩ | ⟨c144, H⟩
      ·refine it c144 ?_
       refine sk ?_
       refine seq_in ?_
       refine ends_blk ?_
       obtain ⟨v145, h146, H⟩ := oB H
       refine sn [.cs (eTKind v145)] [] [(5, cI x142), (6, pk 6)] [] [(6, va (eTKind v145))] (a2 eTKind h146) ?_
       obtain ⟨v147, h148, H⟩ := oB H
       rcases oC H with ⟨c149, H⟩ | ⟨c149, H⟩
       ·refine sn ([.res (cB v147)] ++ rg 8 true []) [] [(62, cB true)] [] [] (fun t => aI (i_goodKind_ok v145 v147 h148) (aG 8 c149 (t))) ?_
        refine it rT ?_
        refine so [] [] [(2, cB false)] [] id ?_
        refine ends_ret ?_
        cases H
        exact rsr
       ·obtain ⟨v150, h151, H⟩ := oB H
        refine sn ([.res (cB v147)] ++ rg 5 false ([.res (cI v150)] ++ rg 3 false [])) [] [(62, cB (v150 != x142))] [] [] (fun t => aI (i_goodKind_ok v145 v147 h148) (aG 5 c149 (aI (i_kindIndex_ok p0.Kinds v145.Name v150 h151) (aG 3 c149 (t))))) ?_
        rcases oC H with ⟨c152, H⟩ | ⟨c152, H⟩
        ·refine it c152 ?_
         refine so [] [] [(2, cB false)] [] id ?_
         refine ends_ret ?_
         cases H
         exact rsr
        ·refine jf c152 ?_
         refine sk ?_
         refine oo [] [] [(1, pk 1), (44, dc 6 eTKind zTKind p0.Kinds), (45, cL p0.Kinds), (46, cI (W (x142 + 1)))] [(1, va (eTRules p0))] id ?_
         cases H
         exact rr
      ·refine jf c144 ?_
       refine tl [] [(1, pk 1)] [(1, va (eTRules p0))] id ?_
       refine ends_exit ?_
       cases H
       exact rse
     ·clear h154
      cases y153 with
      | inl y155 =>
       replace H := ofInl H
       rintro e s ⟨rfl, rfl⟩
       change EndsI _ _ _ _ _ _
       obtain ⟨v157, h158, H⟩ := oB H
       rcases oC H with ⟨c159, H⟩ | ⟨c159, H⟩
       ·obtain ⟨v160, h161, H⟩ := oB H
        rcases oC H with ⟨c162, H⟩ | ⟨c162, H⟩
        ·obtain ⟨v163, h164, H⟩ := oB H
         rcases oC H with ⟨c165, H⟩ | ⟨c165, H⟩
         ·obtain ⟨v166, h167, H⟩ := oB H
          rcases oC H with ⟨c168, H⟩ | ⟨c168, H⟩
          ·obtain ⟨v169, h170, H⟩ := oB H
           refine so ([.res (cB v157)] ++ rg 3 true ([.res (cB v160)] ++ rg 4 true ([.res (cB v163)] ++ rg 4 true ([.res (cB v166)] ++ rg 4 true [.res (cB v169), .g true])))) [] [(2, cB v169)] [] (fun t => aI (i_inRange_ok p0.Stack 1 4 v157 h158) (aG 3 c159 (aI (i_inRange_ok p0.River 0 9 v160 h161) (aI c159 (aG 3 c162 (aI (i_inRange_ok p0.Road 1 9 v163 h164) (aI c162 (aG 3 c165 (aI (i_inRange_ok p0.Supply 0 20 v166 h167) (aI c165 (aG 3 c168 (aI (i_inRange_ok p0.Turns 1 30 v169 h170) (aI c168 (t)))))))))))))) ?_
           cases H
           exact er
          ·refine so ([.res (cB v157)] ++ rg 3 true ([.res (cB v160)] ++ rg 4 true ([.res (cB v163)] ++ rg 4 true ([.res (cB v166), .g true] ++ rg 4 false [])))) [] [(2, cB false)] [] (fun t => aI (i_inRange_ok p0.Stack 1 4 v157 h158) (aG 3 c159 (aI (i_inRange_ok p0.River 0 9 v160 h161) (aI c159 (aG 3 c162 (aI (i_inRange_ok p0.Road 1 9 v163 h164) (aI c162 (aG 3 c165 (aI (i_inRange_ok p0.Supply 0 20 v166 h167) (aI c165 (aG 4 c168 (t)))))))))))) ?_
           cases H
           exact er
         ·refine so ([.res (cB v157)] ++ rg 3 true ([.res (cB v160)] ++ rg 4 true ([.res (cB v163), .g true] ++ rg 8 false []))) [] [(2, cB false)] [] (fun t => aI (i_inRange_ok p0.Stack 1 4 v157 h158) (aG 3 c159 (aI (i_inRange_ok p0.River 0 9 v160 h161) (aI c159 (aG 3 c162 (aI (i_inRange_ok p0.Road 1 9 v163 h164) (aI c162 (aG 4 c165 (aG 4 rF (t)))))))))) ?_
          cases H
          exact er
        ·refine so ([.res (cB v157)] ++ rg 3 true ([.res (cB v160), .g true] ++ rg 12 false [])) [] [(2, cB false)] [] (fun t => aI (i_inRange_ok p0.Stack 1 4 v157 h158) (aG 3 c159 (aI (i_inRange_ok p0.River 0 9 v160 h161) (aI c159 (aG 4 c162 (aG 8 rF (t))))))) ?_
         cases H
         exact er
       ·refine so ([.res (cB v157)] ++ rg 16 false []) [] [(2, cB false)] [] (fun t => aI (i_inRange_ok p0.Stack 1 4 v157 h158) (aG 4 c159 (aG 12 rF (t)))) ?_
        cases H
        exact er
      | inr y156 =>
       replace H := ofInr H
       rintro e s ⟨rfl, rfl⟩
       cases H
       exact qr
    | inr y84 =>
     replace H := ofInr H
     rintro e s ⟨rfl, rfl⟩
     cases H
     exact qr
def i_isIndex_ir : S :=
 (sq [o 4 (.mv bF)]
 (sq [om 5 0, om 6 1, o 7 (.bin .sub (.t 6) (iv 1)), o 8 (.call 94 [.t 5, .v (.int .i64 0), .t 7]), om 4 8]
 .ret))
noncomputable def X.i_isIndex (p0 : Int) (p1 : Int) : Option Bool :=
 ((X.i_inRange p0 0 (W (p1 - 1))).bind fun v1 => some v1)
theorem i_isIndex_ok (p0 : Int) (p1 : Int) (r : Bool) (H : X.i_isIndex p0 p1 = some r) : FK 84 [cI p0, cI p1] (cB r) := by
 unfold X.i_isIndex at H
 refine fi Tryz.f84 i_isIndex_ir [(4, cB r)] [] glL Tryz.func84 ?_
 refine sn [] [] [] [] [] id ?_
 obtain ⟨v1, h2, H⟩ := oB H
 refine so [.res (cB v1)] [] [(4, cB v1)] [] (aI (i_inRange_ok p0 0 (W (p1 - 1)) v1 h2)) ?_
 cases H
 exact er
def i_increasing_ir : S :=
 (sq [o 2 (.mv bF)]
 (.seq (sq [o 3 (.mv (iv 1))]
 (.blk 0 (.loop (.seq (sq [om 4 3, om 5 0, o 6 (.len (.t 5)), o 7 (.bin .lss (.t 4) (.t 6))]
   (.ite (.t 7) .skip
   (.exit 0)))
   (.seq (.blk 1 (.seq (.drw [(0, 1), (0, 2), (0, 5), (1, 5), (2, 5), (3, 5), (4, 5), (0, 6), (1, 6), (2, 6), (3, 6), (4, 6), (5, 6), (0, 7), (1, 7), (2, 7), (3, 7), (4, 7), (0, 8), (1, 8), (2, 8), (3, 8), (4, 8)] [om 10 0, om 11 3, o 12 (.bin .sub (.t 11) (iv 1)), o 13 (.iad 1 (.t 10) (.t 12)), ol 14 13, om 15 0, om 16 3, o 17 (.iad 1 (.t 15) (.t 16)), ol 18 17, o 19 (.bin .geq (.t 14) (.t 18))])
    (.ite (.t 19) (sq [o 2 (.mv bF)]
     .ret)
    .skip)))
   (.ops [om 8 3, o 9 (.bin .add (.t 8) (iv 1)), om 3 9]))))))
 (sq [o 2 (.mv bT)]
 .ret)))
noncomputable def X.i_increasing (p0 : (List Int)) : Option Bool :=
 ((loop (fun (x16 : Int) => ((bif (decide (x16 < (p0.length : Int))) then ((at' zI p0 (W (x16 - 1))).bind fun v19 => ((at' zI p0 x16).bind fun v21 => (bif (decide (v19 ≥ v21)) then some (Sum.inr (Sum.inr false)) else some (Sum.inl (W (x16 + 1)))))) else some (Sum.inr (Sum.inl ()))) : Option (Int ⊕ (Unit ⊕ Bool)))) 1).bind fun y24 => (Sum.elim (fun (y26 : Unit) => some true) (fun (y27 : Bool) => some y27) y24))
theorem i_increasing_ok (p0 : (List Int)) (r : Bool) (H : X.i_increasing p0 = some r) : FK 150 [.c (dat 1 eI zI p0)] (cB r) := by
 unfold X.i_increasing at H
 refine fi Tryz.f150 i_increasing_ir [(2, cB r)] [] glL Tryz.func150 ?_
 refine sn [] [] [] [] [] id ?_
 refine seq_in ?_
 refine sn [] [] [(3, cI 1)] [] [] id ?_
 refine ends_blk ?_
 obtain ⟨y24, h25, H⟩ := oB H
 refine tl [] [(0, dc 1 eI zI p0), (3, cI 1)] [] id ?_
 refine loop_in (fun (x : Int) => lit [(0, dc 1 eI zI p0), (3, cI x)] []) (orJ (fun (z : Unit) => At (.exit 0) (lit [] [])) (fun (z : Bool) => At .ret (lit [(2, cB z)] []))) h25 ?_ ?_
 ·clear H h25
  intro x16 y0 H
  refine seq_in ?_
  refine sn [] [] [(7, cB (decide (x16 < (p0.length : Int))))] [] [] (fun t => lI p0 (t)) ?_
  rcases oC H with ⟨c18, H⟩ | ⟨c18, H⟩
  ·refine it c18 ?_
   refine sk ?_
   refine seq_in ?_
   refine ends_blk ?_
   obtain ⟨v19, h20, H⟩ := oB H
   obtain ⟨v21, h22, H⟩ := oB H
   refine xn [.cs (eI v19), .cs (eI v21)] [] [(19, cB (decide (v19 ≥ v21)))] [] [] (fun t => (a2 eI h20 (aI rN ((a2 eI h22 (aI rN (t))))))) ?_
   rcases oC H with ⟨c23, H⟩ | ⟨c23, H⟩
   ·refine it c23 ?_
    refine so [] [] [(2, cB false)] [] id ?_
    refine ends_ret ?_
    cases H
    exact rsr
   ·refine jf c23 ?_
    refine sk ?_
    refine oo [] [] [(0, dc 1 eI zI p0), (3, cI (W (x16 + 1)))] [] id ?_
    cases H
    exact rr
  ·refine jf c18 ?_
   refine tl [] [] [] id ?_
   refine ends_exit ?_
   cases H
   exact rse
 ·clear h25
  cases y24 with
  | inl y26 =>
   replace H := ofInl H
   rintro e s ⟨rfl, rfl⟩
   change EndsI _ _ _ _ _ _
   refine so [] [] [(2, cB true)] [] id ?_
   cases H
   exact er
  | inr y27 =>
   replace H := ofInr H
   rintro e s ⟨rfl, rfl⟩
   cases H
   exact qr
def i_hexOf_ir : S :=
 (sq [o 2 (.box 5 (.t 0)), o 4 (.alloc [.int .i64 0, .int .i64 0])]
 (.seq (.drw [(0, 1), (0, 2), (0, 4), (1, 4), (2, 4), (3, 4), (0, 5), (1, 5), (2, 5), (3, 5), (4, 5), (0, 6), (1, 6), (2, 6), (3, 6), (4, 6), (0, 7), (1, 7), (2, 7), (3, 7)] [om 5 1, oa 6 0 2, ol 7 6, o 8 (.bin .rem (.t 5) (.t 7)), om 9 1, oa 10 0 2, ol 11 10, o 12 (.bin .quo (.t 9) (.t 11)), o 13 (.build [.int .i64 0, .int .i64 0] [(0, 1, .t 8), (1, 1, .t 12)]), os 2 4 13])
 .ret))
noncomputable def X.i_hexOf (p0 : TMap) (p1 : Int) : Option THex :=
 (if p0.Width ≠ 0 then (if p0.Width ≠ 0 then some (THex.mk (Int.tmod p1 p0.Width) (W (Int.tdiv p1 p0.Width))) else none) else none)
theorem i_hexOf_ok (p0 : TMap) (p1 : Int) (r : THex) (H : X.i_hexOf p0 p1 = some r) : FK 242 [.agg (eTMap p0), cI p1] (.agg (eTHex r)) := by
 unfold X.i_hexOf at H
 refine fi Tryz.f242 i_hexOf_ir [(4, pk 4)] [(4, va (eTHex r))] glL Tryz.func242 ?_
 refine sn [] [] [(2, pk 2), (4, pk 4)] [] [(2, va (eTMap p0)), (4, .var [jI 0, jI 0] false)] id ?_
 obtain ⟨g1, H⟩ := oI H
 obtain ⟨g2, H⟩ := oI H
 refine xn [] [] [] [4] [(4, .var [jI (Int.tmod p1 p0.Width), jI (W (Int.tdiv p1 p0.Width))] false)] (fun t => aI g1 (aI g2 (t))) ?_
 refine tl [] [(4, pk 4)] [(4, .var [jI (Int.tmod p1 p0.Width), jI (W (Int.tdiv p1 p0.Width))] false)] id ?_
 cases H
 exact er
def i_indexOf_ir : S :=
 (sq [o 2 (.box 5 (.t 0)), o 3 (.box 2 (.t 1)), o 4 (.mv (iv 0))]
 (.seq (sq [oa 5 0 3, ol 6 5, oa 7 0 2, ol 8 7, o 9 (.call 84 [.t 6, .t 8]), o 10 (.not (.t 9)), om 11 10, og 12 (.fad 1 (.t 3)) 11, og 13 (.load 1 false (.t 12)) 11, og 14 (.fad 1 (.t 2)) 11, og 15 (.load 1 false (.t 14)) 11, og 16 (.call 84 [.t 13, .t 15]) 11, og 17 (.not (.t 16)) 11, o 18 (.pick (.t 11) bT (.t 17))]
 (.ite (.t 18) (sq [o 4 (.mv (.v (.int .i64 (-1))))]
  .ret)
 .skip))
 (sq [oa 19 1 3, ol 20 19, oa 21 0 2, ol 22 21, o 23 (.bin .mul (.t 20) (.t 22)), oa 24 0 3, ol 25 24, o 26 (.bin .add (.t 23) (.t 25)), om 4 26]
 .ret)))
noncomputable def X.i_indexOf (p0 : TMap) (p1 : THex) : Option Int :=
 ((X.i_isIndex p1.Q p0.Width).bind fun v7 => (bif (!v7) then some (-1) else ((X.i_isIndex p1.R p0.Height).bind fun v10 => (bif (!v10) then some (-1) else some (W ((W (p1.R * p0.Width)) + p1.Q))))))
theorem i_indexOf_ok (p0 : TMap) (p1 : THex) (r : Int) (H : X.i_indexOf p0 p1 = some r) : FK 295 [.agg (eTMap p0), .agg (eTHex p1)] (cI r) := by
 unfold X.i_indexOf at H
 refine fi Tryz.f295 i_indexOf_ir [(4, cI r)] [] glL Tryz.func295 ?_
 refine so [] [] [(2, pk 2), (3, pk 3)] [(2, va (eTMap p0)), (3, va (eTHex p1))] id ?_
 refine seq_in ?_
 obtain ⟨v7, h8, H⟩ := oB H
 rcases oC H with ⟨c9, H⟩ | ⟨c9, H⟩
 ·refine sn ([.res (cB v7)] ++ rg 7 true []) [] [(18, cB true)] [] [] (fun t => aI (i_isIndex_ok p1.Q p0.Width v7 h8) (aG 7 c9 (t))) ?_
  refine it rT ?_
  refine so [] [] [(4, cI (-1))] [] id ?_
  cases H
  exact er
 ·obtain ⟨v10, h11, H⟩ := oB H
  refine sn ([.res (cB v7)] ++ rg 5 false ([.res (cB v10)] ++ rg 2 false [])) [] [(18, cB (!v10))] [] [] (fun t => aI (i_isIndex_ok p1.Q p0.Width v7 h8) (aG 5 c9 (aI (i_isIndex_ok p1.R p0.Height v10 h11) (aG 2 c9 (t))))) ?_
  rcases oC H with ⟨c12, H⟩ | ⟨c12, H⟩
  ·refine it c12 ?_
   refine so [] [] [(4, cI (-1))] [] id ?_
   cases H
   exact er
  ·refine jf c12 ?_
   refine sk ?_
   refine so [] [] [(4, cI (W ((W (p1.R * p0.Width)) + p1.Q)))] [] id ?_
   cases H
   exact er
def i_stepBy_ir : S :=
 (sq [o 3 (.box 2 (.t 0)), o 6 (.alloc [.int .i64 0, .int .i64 0])]
 (.seq (.drw [(0, 2), (1, 2), (0, 3), (1, 3), (2, 3), (0, 4), (1, 4), (2, 4), (0, 5), (1, 5), (2, 5), (0, 6), (1, 6), (2, 6), (0, 7), (1, 7), (0, 9), (1, 9), (2, 9), (3, 9), (4, 9), (5, 9), (6, 9), (7, 9), (8, 9), (0, 10), (1, 10), (2, 10), (3, 10), (4, 10), (5, 10), (6, 10), (7, 10), (8, 10), (0, 11), (1, 11), (2, 11), (3, 11), (4, 11), (5, 11), (6, 11), (7, 11), (8, 11), (9, 11), (10, 11), (0, 12), (1, 12), (2, 12), (3, 12), (4, 12), (5, 12), (6, 12), (7, 12), (8, 12), (9, 12), (10, 12), (11, 12), (0, 13), (1, 13), (2, 13), (3, 13), (4, 13), (5, 13), (6, 13), (7, 13), (8, 13), (9, 13), (10, 13), (11, 13), (0, 14), (1, 14), (2, 14), (3, 14), (4, 14), (5, 14), (6, 14), (7, 14), (8, 14), (9, 14), (10, 14), (11, 14), (0, 15), (1, 15), (2, 15), (3, 15), (4, 15), (5, 15), (6, 15), (7, 15), (8, 15), (9, 15), (10, 15), (11, 15), (0, 16), (1, 16), (2, 16), (3, 16), (4, 16), (5, 16), (6, 16), (7, 16), (8, 16), (9, 16), (10, 16), (0, 17), (1, 17), (2, 17), (3, 17), (4, 17), (5, 17), (6, 17), (7, 17), (8, 17)] [oa 7 0 3, ol 8 7, om 9 2, om 10 1, o 11 (.iar 6 2 (.g 6) (.t 10)), oa 12 0 11, ol 13 12, o 14 (.bin .mul (.t 9) (.t 13)), o 15 (.bin .add (.t 8) (.t 14)), oa 16 1 3, ol 17 16, om 18 2, om 19 1, o 20 (.iar 6 2 (.g 6) (.t 19)), oa 21 1 20, ol 22 21, o 23 (.bin .mul (.t 18) (.t 22)), o 24 (.bin .add (.t 17) (.t 23)), o 25 (.build [.int .i64 0, .int .i64 0] [(0, 1, .t 15), (1, 1, .t 24)]), os 2 6 25])
 .ret))
noncomputable def X.i_stepBy (p0 : THex) (p1 : Int) (p2 : Int) : Option THex :=
 ((at' zTHex dirs p1).bind fun v1 => some (THex.mk (W (p0.Q + (W (p2 * v1.Q)))) (W (p0.R + (W (p2 * v1.R))))))
theorem i_stepBy_ok (p0 : THex) (p1 : Int) (p2 : Int) (r : THex) (H : X.i_stepBy p0 p1 p2 = some r) : FK 296 [.agg (eTHex p0), cI p1, cI p2] (.agg (eTHex r)) := by
 unfold X.i_stepBy at H
 refine fi Tryz.f296 i_stepBy_ir [(6, pk 6)] [(6, va (eTHex r))] glL Tryz.func296 ?_
 refine sn [] [] [(3, pk 3), (6, pk 6)] [] [(3, va (eTHex p0)), (6, .var [jI 0, jI 0] false)] id ?_
 obtain ⟨v1, h2, H⟩ := oB H
 refine xn [.cs (eTHex v1), .cs (eTHex v1)] [] [] [6] [(6, .var [jI (W (p0.Q + (W (p2 * v1.Q)))), jI (W (p0.R + (W (p2 * v1.R))))] false)] (fun t => aI (at_lt h2) (aI (dirs_at h2) (aI rN (aI (at_lt h2) (aI (dirs_at h2) (aI rN (t))))))) ?_
 refine tl [] [(6, pk 6)] [(6, .var [jI (W (p0.Q + (W (p2 * v1.Q)))), jI (W (p0.R + (W (p2 * v1.R))))] false)] id ?_
 cases H
 exact er
def i_nextTo_ir : S :=
 (sq [o 3 (.box 5 (.t 0)), o 6 (.mv (iv 0))]
 (.seq (.drw [(0, 1), (0, 2), (1, 2), (0, 3), (0, 4), (1, 4), (2, 4), (3, 4), (0, 5)] [o 7 (.load 5 true (.t 3)), o 8 (.load 5 true (.t 3)), om 9 1, o 10 (.call 242 [.t 8, .t 9]), om 11 2, o 12 (.call 296 [.t 10, .t 11, .v (.int .i64 1)]), o 13 (.call 295 [.t 7, .t 12]), om 6 13])
 .ret))
noncomputable def X.i_nextTo (p0 : TMap) (p1 : Int) (p2 : Int) : Option Int :=
 ((X.i_hexOf p0 p1).bind fun v1 => ((X.i_stepBy v1 p2 1).bind fun v3 => ((X.i_indexOf p0 v3).bind fun v5 => some v5)))
theorem i_nextTo_ok (p0 : TMap) (p1 : Int) (p2 : Int) (r : Int) (H : X.i_nextTo p0 p1 p2 = some r) : FK 256 [.agg (eTMap p0), cI p1, cI p2] (cI r) := by
 unfold X.i_nextTo at H
 refine fi Tryz.f256 i_nextTo_ir [(6, cI r)] [] glL Tryz.func256 ?_
 refine sn [] [] [(3, pk 3)] [] [(3, va (eTMap p0))] id ?_
 obtain ⟨v1, h2, H⟩ := oB H
 obtain ⟨v3, h4, H⟩ := oB H
 obtain ⟨v5, h6, H⟩ := oB H
 refine sx [.res (.agg (eTHex v1)), .res (.agg (eTHex v3)), .res (cI v5)] [] [(6, cI v5)] [] (fun t => aI (i_hexOf_ok p0 p1 v1 h2) (aI trivial (aI rN (aI (i_stepBy_ok v1 p2 1 v3 h4) (aI trivial (aI rN (aI (i_indexOf_ok p0 v3 v5 h6) (aI trivial (aI rN (t)))))))))) ?_
 cases H
 exact er
def i_isEdge_ir : S :=
 (sq [o 2 (.box 5 (.t 0)), o 4 (.mv bF)]
 (sq [om 5 1, oa 6 0 2, ol 7 6, o 8 (.bin .mul (iv 3) (.t 7)), oa 9 1 2, ol 10 9, o 11 (.bin .mul (.t 8) (.t 10)), o 12 (.bin .sub (.t 11) (iv 1)), o 13 (.call 94 [.t 5, .v (.int .i64 0), .t 12]), om 14 13, oh 15 (.load 5 true (.t 2)) 14, oh 16 (.mv (.t 1)) 14, oh 17 (.bin .quo (.t 16) (iv 3)) 14, oh 18 (.mv (.t 1)) 14, oh 19 (.bin .rem (.t 18) (iv 3)) 14, oh 20 (.call 256 [.t 15, .t 17, .t 19]) 14, oh 21 (.bin .geq (.t 20) (iv 0)) 14, o 22 (.pick (.t 14) (.t 21) bF), om 4 22]
 .ret))
noncomputable def X.i_isEdge (p0 : TMap) (p1 : Int) : Option Bool :=
 ((X.i_inRange p1 0 (W ((W ((W (3 * p0.Width)) * p0.Height)) - 1))).bind fun v1 => (bif v1 then ((X.i_nextTo p0 (W (Int.tdiv p1 3)) (Int.tmod p1 3)).bind fun v4 => some (decide (v4 ≥ 0))) else some false))
theorem i_isEdge_ok (p0 : TMap) (p1 : Int) (r : Bool) (H : X.i_isEdge p0 p1 = some r) : FK 207 [.agg (eTMap p0), cI p1] (cB r) := by
 unfold X.i_isEdge at H
 refine fi Tryz.f207 i_isEdge_ir [(4, cB r)] [] glL Tryz.func207 ?_
 refine sn [] [] [(2, pk 2)] [] [(2, va (eTMap p0))] id ?_
 obtain ⟨v1, h2, H⟩ := oB H
 rcases oC H with ⟨c3, H⟩ | ⟨c3, H⟩
 ·obtain ⟨v4, h5, H⟩ := oB H
  refine so ([.res (cB v1)] ++ rg 6 true ([.res (cI v4)] ++ rg 2 true [])) [] [(4, cB (decide (v4 ≥ 0)))] [] (fun t => aI (i_inRange_ok p1 0 (W ((W ((W (3 * p0.Width)) * p0.Height)) - 1)) v1 h2) (aG 3 c3 (aI (by decide : (3 : Int) ≠ 0) (aG 2 c3 (aI (by decide : (3 : Int) ≠ 0) (aI c3 (aI (i_nextTo_ok p0 (W (Int.tdiv p1 3)) (Int.tmod p1 3) v4 h5) (aG 2 c3 (t))))))))) ?_
  cases H
  exact er
 ·refine so ([.res (cB v1)] ++ rg 8 false []) [] [(4, cB false)] [] (fun t => aI (i_inRange_ok p1 0 (W ((W ((W (3 * p0.Width)) * p0.Height)) - 1)) v1 h2) (aG 8 c3 (t))) ?_
  cases H
  exact er
def i_IsMap_ir : S :=
 (sq [o 1 (.box 5 (.t 0)), o 2 (.mv bF)]
 (.seq (sq [oa 9 0 1, ol 10 9, o 11 (.call 94 [.t 10, .v (.int .i64 1), .v (.int .i64 10)]), o 12 (.not (.t 11)), om 13 12, og 14 (.fad 1 (.t 1)) 13, og 15 (.load 1 false (.t 14)) 13, og 16 (.call 94 [.t 15, .v (.int .i64 1), .v (.int .i64 10)]) 13, og 17 (.not (.t 16)) 13, o 18 (.pick (.t 13) bT (.t 17)), om 19 18, og 20 (.fad 2 (.t 1)) 19, og 21 (.load 1 false (.t 20)) 19, og 22 (.len (.t 21)) 19, og 23 (.fad 0 (.t 1)) 19, og 24 (.load 1 false (.t 23)) 19, og 25 (.fad 1 (.t 1)) 19, og 26 (.load 1 false (.t 25)) 19, og 27 (.bin .mul (.t 24) (.t 26)) 19, og 28 (.bin .neq (.t 22) (.t 27)) 19, o 29 (.pick (.t 19) bT (.t 28))]
 (.ite (.t 29) (sq [o 2 (.mv bF)]
  .ret)
 .skip))
 (.seq (sq [oa 30 2 1, ol 31 30, o 32 (.len (.t 31)), o 33 (.mv (iv 0))]
 (.blk 0 (.loop (sq [o 34 (.bin .lss (.t 33) (.t 32))]
   (.seq (.ite (.t 34) .skip
   (.exit 0))
   (.seq (.blk 1 (sq [o 35 (.iad 1 (.t 31) (.t 33)), ol 36 35, om 4 36]
    (sq [om 37 4, o 38 (.call 84 [.t 37, .v (.int .i64 6)]), o 39 (.not (.t 38))]
    (.ite (.t 39) (sq [o 2 (.mv bF)]
     .ret)
    .skip))))
   (.ops [o 40 (.bin .add (.t 33) (iv 1)), om 33 40])))))))
 (.seq (sq [oa 41 3 1, ol 42 41, oa 43 4 1, ol 44 43, o 45 (.bsl 1 [.t 42, .t 44]), o 46 (.len (.t 45)), o 47 (.mv (iv 0))]
 (.blk 2 (.loop (sq [o 48 (.bin .lss (.t 47) (.t 46))]
   (.seq (.ite (.t 48) .skip
   (.exit 2))
   (.seq (.blk 3 (sq [o 49 (.iad 1 (.t 45) (.t 47)), ol 50 49, om 6 50]
    (.seq (sq [om 51 6, o 52 (.call 150 [.t 51]), o 53 (.not (.t 52))]
    (.ite (.t 53) (sq [o 2 (.mv bF)]
     .ret)
    .skip))
    (sq [om 54 6, o 55 (.len (.t 54)), o 56 (.mv (iv 0))]
    (.blk 4 (.loop (sq [o 57 (.bin .lss (.t 56) (.t 55))]
      (.seq (.ite (.t 57) .skip
      (.exit 4))
      (.seq (.blk 5 (sq [o 58 (.iad 1 (.t 54) (.t 56)), ol 59 58, om 8 59]
       (sq [o 60 (.load 5 true (.t 1)), om 61 8, o 62 (.call 207 [.t 60, .t 61]), o 63 (.not (.t 62))]
       (.ite (.t 63) (sq [o 2 (.mv bF)]
        .ret)
       .skip))))
      (.ops [o 64 (.bin .add (.t 56) (iv 1)), om 56 64]))))))))))
   (.ops [o 65 (.bin .add (.t 47) (iv 1)), om 47 65])))))))
 (sq [o 2 (.mv bT)]
 .ret)))))
noncomputable def X.i_IsMap (p0 : TMap) : Option Bool :=
 ((X.i_inRange p0.Width 1 10).bind fun v8 => (bif (!v8) then some false else ((X.i_inRange p0.Height 1 10).bind fun v11 => (bif (!v11) then some false else (bif ((p0.Terrain.length : Int) != (W (p0.Width * p0.Height))) then some false else ((loop (fun (x57 : Int) => ((bif (decide (x57 < (p0.Terrain.length : Int))) then ((at' zI p0.Terrain x57).bind fun v60 => ((X.i_isIndex v60 6).bind fun v62 => (bif (!v62) then some (Sum.inr (Sum.inr false)) else some (Sum.inl (W (x57 + 1)))))) else some (Sum.inr (Sum.inl ()))) : Option (Int ⊕ (Unit ⊕ Bool)))) 0).bind fun y65 => (Sum.elim (fun (y67 : Unit) => ((loop (fun (x142 : Int) => ((bif (decide (x142 < (([p0.Rivers, p0.Roads] : List (List Int)).length : Int))) then (if 0 ≤ x142 ∧ x142 < (([p0.Rivers, p0.Roads] : List (List Int)).length : Int) then ((X.i_increasing (([p0.Rivers, p0.Roads] : List (List Int)).getD x142.toNat zLI)).bind fun v149 => (bif (!v149) then some (Sum.inr (Sum.inr false)) else ((loop (fun (x167 : Int) => ((bif (decide (x167 < ((([p0.Rivers, p0.Roads] : List (List Int)).getD x142.toNat zLI).length : Int))) then ((at' zI (([p0.Rivers, p0.Roads] : List (List Int)).getD x142.toNat zLI) x167).bind fun v170 => ((X.i_isEdge p0 v170).bind fun v172 => (bif (!v172) then some (Sum.inr (Sum.inr false)) else some (Sum.inl (W (x167 + 1)))))) else some (Sum.inr (Sum.inl ()))) : Option (Int ⊕ (Unit ⊕ Bool)))) 0).bind fun y175 => (Sum.elim (fun (y177 : Unit) => some (Sum.inl (W (x142 + 1)))) (fun (y178 : Bool) => some (Sum.inr (Sum.inr y178))) y175)))) else none) else some (Sum.inr (Sum.inl ()))) : Option (Int ⊕ (Unit ⊕ Bool)))) 0).bind fun y179 => (Sum.elim (fun (y181 : Unit) => some true) (fun (y182 : Bool) => some y182) y179))) (fun (y68 : Bool) => some y68) y65)))))))
theorem i_IsMap_ok (p0 : TMap) (r : Bool) (H : X.i_IsMap p0 = some r) : FK 141 [.agg (eTMap p0)] (cB r) := by
 unfold X.i_IsMap at H
 refine fi Tryz.f141 i_IsMap_ir [(2, cB r)] [] glL Tryz.func141 ?_
 refine so [] [] [(1, pk 1)] [(1, va (eTMap p0))] id ?_
 refine seq_in ?_
 obtain ⟨v8, h9, H⟩ := oB H
 rcases oC H with ⟨c10, H⟩ | ⟨c10, H⟩
 ·refine sn ([.res (cB v8)] ++ rg 15 true []) [] [(29, cB true)] [] [] (fun t => aI (i_inRange_ok p0.Width 1 10 v8 h9) (aG 5 c10 (aG 10 rT (t)))) ?_
  refine it rT ?_
  refine so [] [] [(2, cB false)] [] id ?_
  cases H
  exact er
 ·obtain ⟨v11, h12, H⟩ := oB H
  rcases oC H with ⟨c13, H⟩ | ⟨c13, H⟩
  ·refine sn ([.res (cB v8)] ++ rg 3 false ([.res (cB v11)] ++ rg 2 false (rg 10 true []))) [] [(29, cB true)] [] [] (fun t => aI (i_inRange_ok p0.Width 1 10 v8 h9) (aG 3 c10 (aI (i_inRange_ok p0.Height 1 10 v11 h12) (aG 2 c10 (aG 10 c13 (t)))))) ?_
   refine it rT ?_
   refine so [] [] [(2, cB false)] [] id ?_
   cases H
   exact er
  ·refine sn ([.res (cB v8)] ++ rg 3 false ([.res (cB v11)] ++ rg 12 false [])) [] [(29, cB ((p0.Terrain.length : Int) != (W (p0.Width * p0.Height))))] [] [] (fun t => aI (i_inRange_ok p0.Width 1 10 v8 h9) (aG 3 c10 (aI (i_inRange_ok p0.Height 1 10 v11 h12) (aG 2 c10 (aG 3 c13 (lI p0.Terrain (aG 7 c13 (t)))))))) ?_
   rcases oC H with ⟨c14, H⟩ | ⟨c14, H⟩
   ·refine it c14 ?_
    refine so [] [] [(2, cB false)] [] id ?_
    cases H
    exact er
   ·refine jf c14 ?_
    refine sk ?_
    refine seq_in ?_
    refine sn [] [] [(31, dc 1 eI zI p0.Terrain), (32, cL p0.Terrain), (33, cI 0)] [] [] (fun t => lI p0.Terrain (t)) ?_
    refine ends_blk ?_
    obtain ⟨y65, h66, H⟩ := oB H
    refine tl [] [(1, pk 1), (31, dc 1 eI zI p0.Terrain), (32, cL p0.Terrain), (33, cI 0)] [(1, va (eTMap p0))] id ?_
    refine loop_in (fun (x : Int) => lit [(1, pk 1), (31, dc 1 eI zI p0.Terrain), (32, cL p0.Terrain), (33, cI x)] [(1, va (eTMap p0))]) (orJ (fun (z : Unit) => At (.exit 0) (lit [(1, pk 1)] [(1, va (eTMap p0))])) (fun (z : Bool) => At .ret (lit [(2, cB z)] []))) h66 ?_ ?_
    ·clear H h66
     intro x57 y0 H
     refine sn [] [] [(34, cB (decide (x57 < (p0.Terrain.length : Int))))] [] [] id ?_
     refine seq_in ?_
     rcases oC H with ⟨c59, H⟩ | ⟨c59, H⟩
     ·refine it c59 ?_
      refine sk ?_
      refine seq_in ?_
      refine ends_blk ?_
      obtain ⟨v60, h61, H⟩ := oB H
      refine sn [.cs (eI v60)] [] [(4, cI v60)] [] [] (a2 eI h61) ?_
      obtain ⟨v62, h63, H⟩ := oB H
      refine sn [.res (cB v62)] [] [(39, cB (!v62))] [] [] (aI (i_isIndex_ok v60 6 v62 h63)) ?_
      rcases oC H with ⟨c64, H⟩ | ⟨c64, H⟩
      ·refine it c64 ?_
       refine so [] [] [(2, cB false)] [] id ?_
       refine ends_ret ?_
       cases H
       exact rsr
      ·refine jf c64 ?_
       refine sk ?_
       refine oo [] [] [(1, pk 1), (31, dc 1 eI zI p0.Terrain), (32, cL p0.Terrain), (33, cI (W (x57 + 1)))] [(1, va (eTMap p0))] id ?_
       cases H
       exact rr
     ·refine jf c59 ?_
      refine tl [] [(1, pk 1)] [(1, va (eTMap p0))] id ?_
      refine ends_exit ?_
      cases H
      exact rse
    ·clear h66
     cases y65 with
     | inl y67 =>
      replace H := ofInl H
      rintro e s ⟨rfl, rfl⟩
      change EndsI _ _ _ _ _ _
      refine seq_in ?_
      refine sn [fh eLI zLI ([p0.Rivers, p0.Roads] : List (List Int))] [] [(45, ow 45 1 ([p0.Rivers, p0.Roads] : List (List Int))), (46, cL ([p0.Rivers, p0.Roads] : List (List Int))), (47, cI 0)] [] [(45, ar 1 eLI zLI ([p0.Rivers, p0.Roads] : List (List Int)))] (fun t => aI (rfl : ([p0.Rivers, p0.Roads] : List (List Int)).length = 2) (aI (fF_lit eLI zLI ([p0.Rivers, p0.Roads] : List (List Int))) ((fun (_ : ([p0.Rivers, p0.Roads] : List (List Int)).length ≤ maxLen) => t)))) ?_
      refine ends_blk ?_
      obtain ⟨y179, h180, H⟩ := oB H
      refine tl [] [(1, pk 1), (45, ow 45 1 ([p0.Rivers, p0.Roads] : List (List Int))), (46, cL ([p0.Rivers, p0.Roads] : List (List Int))), (47, cI 0)] [(1, va (eTMap p0)), (45, ar 1 eLI zLI ([p0.Rivers, p0.Roads] : List (List Int)))] id ?_
      refine loop_in (fun (x : Int) => lit [(1, pk 1), (45, ow 45 1 ([p0.Rivers, p0.Roads] : List (List Int))), (46, cL ([p0.Rivers, p0.Roads] : List (List Int))), (47, cI x)] [(1, va (eTMap p0)), (45, ar 1 eLI zLI ([p0.Rivers, p0.Roads] : List (List Int)))]) (orJ (fun (z : Unit) => At (.exit 2) (lit [] [])) (fun (z : Bool) => At .ret (lit [(2, cB z)] []))) h180 ?_ ?_
      ·clear H h180
       intro x142 y0 H
       refine sn [] [] [(48, cB (decide (x142 < (([p0.Rivers, p0.Roads] : List (List Int)).length : Int))))] [] [] id ?_
       refine seq_in ?_
       rcases oC H with ⟨c144, H⟩ | ⟨c144, H⟩
       ·refine it c144 ?_
        refine sk ?_
        refine seq_in ?_
        refine ends_blk ?_
        obtain ⟨g145, H⟩ := oI H
        refine sn [.no] [] [(6, .c (dat 1 eI zI (([p0.Rivers, p0.Roads] : List (List Int)).getD x142.toNat zLI)))] [] [] (fun t => aI g145 (aI (nat_lt g145) (t))) ?_
        refine seq_in ?_
        obtain ⟨v149, h150, H⟩ := oB H
        refine sn [.res (cB v149)] [] [(53, cB (!v149))] [] [] (aI (i_increasing_ok (([p0.Rivers, p0.Roads] : List (List Int)).getD x142.toNat zLI) v149 h150)) ?_
        rcases oC H with ⟨c151, H⟩ | ⟨c151, H⟩
        ·refine it c151 ?_
         refine so [] [] [(2, cB false)] [] id ?_
         refine ends_ret ?_
         cases H
         exact rsr
        ·refine jf c151 ?_
         refine sk ?_
         refine sn [] [] [(54, .c (dat 1 eI zI (([p0.Rivers, p0.Roads] : List (List Int)).getD x142.toNat zLI))), (55, cL (([p0.Rivers, p0.Roads] : List (List Int)).getD x142.toNat zLI)), (56, cI 0)] [] [] (fun t => (fun (_ : (([p0.Rivers, p0.Roads] : List (List Int)).getD x142.toNat zLI).length ≤ maxLen) => t)) ?_
         refine ends_blk ?_
         obtain ⟨y175, h176, H⟩ := oB H
         refine tl [] [(1, pk 1), (45, ow 45 1 ([p0.Rivers, p0.Roads] : List (List Int))), (46, cL ([p0.Rivers, p0.Roads] : List (List Int))), (47, cI x142), (54, .c (dat 1 eI zI (([p0.Rivers, p0.Roads] : List (List Int)).getD x142.toNat zLI))), (55, cL (([p0.Rivers, p0.Roads] : List (List Int)).getD x142.toNat zLI)), (56, cI 0)] [(1, va (eTMap p0)), (45, ar 1 eLI zLI ([p0.Rivers, p0.Roads] : List (List Int)))] id ?_
         refine loop_in (fun (x : Int) => lit [(1, pk 1), (45, ow 45 1 ([p0.Rivers, p0.Roads] : List (List Int))), (46, cL ([p0.Rivers, p0.Roads] : List (List Int))), (47, cI x142), (54, .c (dat 1 eI zI (([p0.Rivers, p0.Roads] : List (List Int)).getD x142.toNat zLI))), (55, cL (([p0.Rivers, p0.Roads] : List (List Int)).getD x142.toNat zLI)), (56, cI x)] [(1, va (eTMap p0)), (45, ar 1 eLI zLI ([p0.Rivers, p0.Roads] : List (List Int)))]) (orJ (fun (z : Unit) => At (.exit 4) (lit [(1, pk 1), (45, ow 45 1 ([p0.Rivers, p0.Roads] : List (List Int))), (46, cL ([p0.Rivers, p0.Roads] : List (List Int))), (47, cI x142)] [(1, va (eTMap p0)), (45, ar 1 eLI zLI ([p0.Rivers, p0.Roads] : List (List Int)))])) (fun (z : Bool) => At .ret (lit [(2, cB z)] []))) h176 ?_ ?_
         ·clear H h176
          intro x167 y0 H
          refine sn [] [] [(57, cB (decide (x167 < ((([p0.Rivers, p0.Roads] : List (List Int)).getD x142.toNat zLI).length : Int))))] [] [] id ?_
          refine seq_in ?_
          rcases oC H with ⟨c169, H⟩ | ⟨c169, H⟩
          ·refine it c169 ?_
           refine sk ?_
           refine seq_in ?_
           refine ends_blk ?_
           obtain ⟨v170, h171, H⟩ := oB H
           refine sn [.cs (eI v170)] [] [(8, cI v170)] [] [] (a2 eI h171) ?_
           obtain ⟨v172, h173, H⟩ := oB H
           refine sn [.res (cB v172)] [] [(63, cB (!v172))] [] [] (aI (i_isEdge_ok p0 v170 v172 h173)) ?_
           rcases oC H with ⟨c174, H⟩ | ⟨c174, H⟩
           ·refine it c174 ?_
            refine so [] [] [(2, cB false)] [] id ?_
            refine ends_ret ?_
            cases H
            exact rsr
           ·refine jf c174 ?_
            refine sk ?_
            refine oo [] [] [(1, pk 1), (45, ow 45 1 ([p0.Rivers, p0.Roads] : List (List Int))), (46, cL ([p0.Rivers, p0.Roads] : List (List Int))), (47, cI x142), (54, .c (dat 1 eI zI (([p0.Rivers, p0.Roads] : List (List Int)).getD x142.toNat zLI))), (55, cL (([p0.Rivers, p0.Roads] : List (List Int)).getD x142.toNat zLI)), (56, cI (W (x167 + 1)))] [(1, va (eTMap p0)), (45, ar 1 eLI zLI ([p0.Rivers, p0.Roads] : List (List Int)))] id ?_
            cases H
            exact rr
          ·refine jf c169 ?_
           refine tl [] [(1, pk 1), (45, ow 45 1 ([p0.Rivers, p0.Roads] : List (List Int))), (46, cL ([p0.Rivers, p0.Roads] : List (List Int))), (47, cI x142)] [(1, va (eTMap p0)), (45, ar 1 eLI zLI ([p0.Rivers, p0.Roads] : List (List Int)))] id ?_
           refine ends_exit ?_
           cases H
           exact rse
         ·clear h176
          cases y175 with
          | inl y177 =>
           replace H := ofInl H
           rintro e s ⟨rfl, rfl⟩
           change EndsI _ _ _ _ _ _
           refine oo [] [] [(1, pk 1), (45, ow 45 1 ([p0.Rivers, p0.Roads] : List (List Int))), (46, cL ([p0.Rivers, p0.Roads] : List (List Int))), (47, cI (W (x142 + 1)))] [(1, va (eTMap p0)), (45, ar 1 eLI zLI ([p0.Rivers, p0.Roads] : List (List Int)))] id ?_
           cases H
           exact rr
          | inr y178 =>
           replace H := ofInr H
           rintro e s ⟨rfl, rfl⟩
           cases H
           exact rsr
       ·refine jf c144 ?_
        refine tl [] [] [] id ?_
        refine ends_exit ?_
        cases H
        exact rse
      ·clear h180
       cases y179 with
       | inl y181 =>
        replace H := ofInl H
        rintro e s ⟨rfl, rfl⟩
        change EndsI _ _ _ _ _ _
        refine so [] [] [(2, cB true)] [] id ?_
        cases H
        exact er
       | inr y182 =>
        replace H := ofInr H
        rintro e s ⟨rfl, rfl⟩
        cases H
        exact qr
     | inr y68 =>
      replace H := ofInr H
      rintro e s ⟨rfl, rfl⟩
      cases H
      exact qr
theorem g_IndexFunc_int_c1_ok (p0 : (List Int)) (cf1 : FuncId) (cs1_0 : List AC) (f1 : Int → Option Bool) (hf1 : ∀ q0 r, f1 q0 = some r → FK cf1 [cI q0, .c (.pd cs1_0 0)] (cB r)) (r : Int) (H : X.g_IndexFunc_int p0 f1 = some r) : FK 208 [.c (dat 1 eI zI p0), .c (.clo cf1 [.pd cs1_0 0])] (cI r) := by
 unfold X.g_IndexFunc_int at H
 refine fi Tryz.f208 g_IndexFunc_int_ir [(4, cI r)] [] glL Tryz.func208 ?_
 refine sn [] [] [] [] [] id ?_
 refine seq_in ?_
 refine sn [] [] [(7, cL p0), (8, cI 0)] [] [] (fun t => lI p0 (t)) ?_
 refine ends_blk ?_
 obtain ⟨y24, h25, H⟩ := oB H
 refine tl [] [(0, dc 1 eI zI p0), (1, .c (.clo cf1 [.pd cs1_0 0])), (7, cL p0), (8, cI 0)] [] id ?_
 refine loop_in (fun (x : Int) => lit [(0, dc 1 eI zI p0), (1, .c (.clo cf1 [.pd cs1_0 0])), (7, cL p0), (8, cI x)] []) (orJ (fun (z : Unit) => At (.exit 0) (lit [] [])) (fun (z : Int) => At .ret (lit [(4, cI z)] []))) h25 ?_ ?_
 ·clear H h25
  intro x16 y0 H
  refine sn [] [] [(9, cB (decide (x16 < (p0.length : Int))))] [] [] id ?_
  refine seq_in ?_
  rcases oC H with ⟨c18, H⟩ | ⟨c18, H⟩
  ·refine it c18 ?_
   refine sk ?_
   refine seq_in ?_
   refine ends_blk ?_
   refine sn [] [] [(5, cI x16)] [] [] id ?_
   obtain ⟨v19, h20, H⟩ := oB H
   obtain ⟨v21, h22, H⟩ := oB H
   refine sn [.cs (eI v19), .res (cB v21)] [] [(16, cB v21)] [] [] (fun t => (a2 eI h20 (aI (hf1 v19 v21 h22) (t)))) ?_
   rcases oC H with ⟨c23, H⟩ | ⟨c23, H⟩
   ·refine it c23 ?_
    refine so [] [] [(4, cI x16)] [] id ?_
    refine ends_ret ?_
    cases H
    exact rsr
   ·refine jf c23 ?_
    refine sk ?_
    refine oo [] [] [(0, dc 1 eI zI p0), (1, .c (.clo cf1 [.pd cs1_0 0])), (7, cL p0), (8, cI (W (x16 + 1)))] [] id ?_
    cases H
    exact rr
  ·refine jf c18 ?_
   refine tl [] [] [] id ?_
   refine ends_exit ?_
   cases H
   exact rse
 ·clear h25
  cases y24 with
  | inl y26 =>
   replace H := ofInl H
   rintro e s ⟨rfl, rfl⟩
   change EndsI _ _ _ _ _ _
   refine so [] [] [(4, cI (-1))] [] id ?_
   cases H
   exact er
  | inr y27 =>
   replace H := ofInr H
   rintro e s ⟨rfl, rfl⟩
   cases H
   exact qr
theorem g_ContainsFunc_int_c1_ok (p0 : (List Int)) (cf1 : FuncId) (cs1_0 : List AC) (f1 : Int → Option Bool) (hf1 : ∀ q0 r, f1 q0 = some r → FK cf1 [cI q0, .c (.pd cs1_0 0)] (cB r)) (r : Bool) (H : X.g_ContainsFunc_int p0 f1 = some r) : FK 142 [.c (dat 1 eI zI p0), .c (.clo cf1 [.pd cs1_0 0])] (cB r) := by
 unfold X.g_ContainsFunc_int at H
 refine fi Tryz.f142 g_ContainsFunc_int_ir [(4, cB r)] [] glL Tryz.func142 ?_
 refine sn [] [] [] [] [] id ?_
 obtain ⟨v1, h2, H⟩ := oB H
 refine so [.res (cI v1)] [] [(4, cB (decide (v1 ≥ 0)))] [] (aI (g_IndexFunc_int_c1_ok p0 (cf1) (cs1_0) f1 hf1 v1 h2)) ?_
 cases H
 exact er
def i_IsBoard_1_ir : S :=
 (sq [o 3 (.mv bF)]
 (sq [om 4 0, oa 5 0 1, oa 6 0 5, ol 7 6, o 8 (.len (.t 7)), o 9 (.bin .geq (.t 4) (.t 8)), om 3 9]
 .ret))
noncomputable def X.i_IsBoard_1 (p0 : Int) (p1 : TBoard) : Option Bool :=
 some (decide (p0 ≥ (p1.Rules.Terrains.length : Int)))
theorem i_IsBoard_1_ok (p0 : Int) (p1 : TBoard) (r : Bool) (H : X.i_IsBoard_1 p0 p1 = some r) : FK 143 [cI p0, .c (.pd (eTBoard p1) 0)] (cB r) := by
 unfold X.i_IsBoard_1 at H
 refine fi Tryz.f143 i_IsBoard_1_ir [(3, cB r)] [] glL Tryz.func143 ?_
 refine sn [] [] [] [] [] id ?_
 refine so [] [] [(3, cB (decide (p0 ≥ (p1.Rules.Terrains.length : Int))))] [] (fun t => lI p1.Rules.Terrains (t)) ?_
 cases H
 exact er
def i_IsBoard_ir : S :=
 (sq [o 1 (.box 12 (.t 0)), o 2 (.mv bF)]
 (.seq (sq [oa 3 0 1, o 4 (.load 7 true (.t 3)), o 5 (.call 140 [.t 4]), o 6 (.not (.t 5)), om 7 6, og 8 (.fad 7 (.t 1)) 7, og 9 (.load 5 true (.t 8)) 7, og 10 (.call 141 [.t 9]) 7, og 11 (.not (.t 10)) 7, o 12 (.pick (.t 7) bT (.t 11))]
 (.ite (.t 12) (sq [o 2 (.mv bF)]
  .ret)
 .skip))
 (sq [oa 13 7 1, oa 14 2 13, ol 15 14, o 16 (.clo 143 [.t 1]), o 17 (.call 142 [.t 15, .t 16]), o 18 (.not (.t 17)), om 2 18]
 .ret)))
noncomputable def X.i_IsBoard (p0 : TBoard) : Option Bool :=
 ((X.i_IsRules p0.Rules).bind fun v7 => (bif (!v7) then some false else ((X.i_IsMap p0.Map).bind fun v10 => (bif (!v10) then some false else ((X.g_ContainsFunc_int p0.Map.Terrain (fun q0 => X.i_IsBoard_1 q0 p0)).bind fun v13 => some (!v13))))))
theorem i_IsBoard_ok (p0 : TBoard) (r : Bool) (H : X.i_IsBoard p0 = some r) : FK 62 [.agg (eTBoard p0)] (cB r) := by
 unfold X.i_IsBoard at H
 refine fi Tryz.f62 i_IsBoard_ir [(2, cB r)] [] glL Tryz.func62 ?_
 refine so [] [] [(1, pk 1)] [(1, va (eTBoard p0))] id ?_
 refine seq_in ?_
 obtain ⟨v7, h8, H⟩ := oB H
 rcases oC H with ⟨c9, H⟩ | ⟨c9, H⟩
 ·refine sn ([.res (cB v7)] ++ rg 5 true []) [] [(12, cB true)] [] [] (fun t => aI (i_IsRules_ok p0.Rules v7 h8) (aG 5 c9 (t))) ?_
  refine it rT ?_
  refine so [] [] [(2, cB false)] [] id ?_
  cases H
  exact er
 ·obtain ⟨v10, h11, H⟩ := oB H
  refine sn ([.res (cB v7)] ++ rg 3 false ([.res (cB v10)] ++ rg 2 false [])) [] [(12, cB (!v10))] [] [] (fun t => aI (i_IsRules_ok p0.Rules v7 h8) (aG 3 c9 (aI (i_IsMap_ok p0.Map v10 h11) (aG 2 c9 (t))))) ?_
  rcases oC H with ⟨c12, H⟩ | ⟨c12, H⟩
  ·refine it c12 ?_
   refine so [] [] [(2, cB false)] [] id ?_
   cases H
   exact er
  ·refine jf c12 ?_
   refine sk ?_
   obtain ⟨v13, h14, H⟩ := oB H
   refine so [.res (cB v13)] [] [(2, cB (!v13))] [] (aI (g_ContainsFunc_int_c1_ok p0.Map.Terrain (143) (eTBoard p0) (fun q0 => X.i_IsBoard_1 q0 p0) (fun q0 r h => i_IsBoard_1_ok q0 p0 r h) v13 h14)) ?_
   cases H
   exact er
def i_sizeOf_ir : S :=
 (sq [o 1 (.box 12 (.t 0)), o 2 (.mv (iv 0))]
 (sq [oa 3 7 1, oa 4 2 3, ol 5 4, o 6 (.len (.t 5)), om 2 6]
 .ret))
noncomputable def X.i_sizeOf (p0 : TBoard) : Option Int :=
 some (p0.Map.Terrain.length : Int)
theorem i_sizeOf_ok (p0 : TBoard) (r : Int) (H : X.i_sizeOf p0 = some r) : FK 85 [.agg (eTBoard p0)] (cI r) := by
 unfold X.i_sizeOf at H
 refine fi Tryz.f85 i_sizeOf_ir [(2, cI r)] [] glL Tryz.func85 ?_
 refine so [] [] [(1, pk 1)] [(1, va (eTBoard p0))] id ?_
 refine so [] [] [(2, cL p0.Map.Terrain)] [] (fun t => lI p0.Map.Terrain (t)) ?_
 cases H
 exact er
def i_isSide_ir : S :=
 (sq [o 2 (.mv bF)]
 (sq [om 3 0, o 4 (.call 94 [.t 3, .v (.int .i64 0), .v (.int .i64 1)]), om 2 4]
 .ret))
noncomputable def X.i_isSide (p0 : Int) : Option Bool :=
 ((X.i_inRange p0 0 1).bind fun v1 => some v1)
theorem i_isSide_ok (p0 : Int) (r : Bool) (H : X.i_isSide p0 = some r) : FK 148 [cI p0] (cB r) := by
 unfold X.i_isSide at H
 refine fi Tryz.f148 i_isSide_ir [(2, cB r)] [] glL Tryz.func148 ?_
 refine sn [] [] [] [] [] id ?_
 obtain ⟨v1, h2, H⟩ := oB H
 refine so [.res (cB v1)] [] [(2, cB v1)] [] (aI (i_inRange_ok p0 0 1 v1 h2)) ?_
 cases H
 exact er
def i_terrainAt_ir : S :=
 (sq [o 2 (.box 12 (.t 0)), o 4 (.alloc [.str [], .nil, .int .i64 0, .int .i64 0, .bool false])]
 (.seq (.drw [(0, 3), (1, 3), (2, 3), (0, 4), (1, 4), (2, 4), (0, 5), (1, 5), (2, 5), (0, 6), (1, 6), (2, 6), (3, 6), (4, 6), (5, 6), (0, 7), (1, 7), (2, 7), (0, 8), (1, 8), (2, 8)] [oa 5 0 2, oa 6 0 5, ol 7 6, oa 8 7 2, oa 9 2 8, ol 10 9, om 11 1, o 12 (.iad 1 (.t 10) (.t 11)), ol 13 12, o 14 (.iad 5 (.t 7) (.t 13)), o 15 (.load 5 true (.t 14)), os 5 4 15])
 .ret))
noncomputable def X.i_terrainAt (p0 : TBoard) (p1 : Int) : Option TTerrain :=
 ((at' zI p0.Map.Terrain p1).bind fun v1 => ((at' zTTerrain p0.Rules.Terrains v1).bind fun v3 => some v3))
theorem i_terrainAt_ok (p0 : TBoard) (p1 : Int) (r : TTerrain) (H : X.i_terrainAt p0 p1 = some r) : FK 270 [.agg (eTBoard p0), cI p1] (.agg (eTTerrain r)) := by
 unfold X.i_terrainAt at H
 refine fi Tryz.f270 i_terrainAt_ir [(4, pk 4)] [(4, va (eTTerrain r))] glL Tryz.func270 ?_
 refine sn [] [] [(2, pk 2), (4, pk 4)] [] [(2, va (eTBoard p0)), (4, .var [.str [], .nil, jI 0, jI 0, .bool false] false)] id ?_
 obtain ⟨v1, h2, H⟩ := oB H
 obtain ⟨v3, h4, H⟩ := oB H
 refine xn [.cs (eI v1), .cs (eTTerrain v3)] [] [] [4] [(4, va (eTTerrain v3))] (fun t => (a2 eI h2 (aI rN ((a2 eTTerrain h4 (aI rN (t))))))) ?_
 refine tl [] [(4, pk 4)] [(4, va (eTTerrain v3))] id ?_
 cases H
 exact er
def i_enterCost_ir : S :=
 (sq [o 3 (.box 12 (.t 0)), o 6 (.mv (iv 0))]
 (sq [o 7 (.load 12 true (.t 3)), om 8 2, o 9 (.call 270 [.t 7, .t 8]), o 10 (.fld 1 1 false (.t 9)), om 11 1, o 12 (.iad 1 (.t 10) (.t 11)), ol 13 12, om 6 13]
 .ret))
noncomputable def X.i_enterCost (p0 : TBoard) (p1 : Int) (p2 : Int) : Option Int :=
 ((X.i_terrainAt p0 p2).bind fun v1 => ((at' zI v1.Cost p1).bind fun v3 => some v3))
theorem i_enterCost_ok (p0 : TBoard) (p1 : Int) (p2 : Int) (r : Int) (H : X.i_enterCost p0 p1 p2 = some r) : FK 215 [.agg (eTBoard p0), cI p1, cI p2] (cI r) := by
 unfold X.i_enterCost at H
 refine fi Tryz.f215 i_enterCost_ir [(6, cI r)] [] glL Tryz.func215 ?_
 refine sn [] [] [(3, pk 3)] [] [(3, va (eTBoard p0))] id ?_
 obtain ⟨v1, h2, H⟩ := oB H
 obtain ⟨v3, h4, H⟩ := oB H
 refine so [.res (.agg (eTTerrain v1)), .cs (eI v3)] [] [(6, cI v3)] [] (fun t => aI (i_terrainAt_ok p0 p2 v1 h2) ((a2 eI h4 (t)))) ?_
 cases H
 exact er
def i_goodUnit_ir : S :=
 (sq [o 2 (.box 12 (.t 0)), o 3 (.box 4 (.t 1)), o 4 (.mv bF)]
 (.seq (.seq (.drw [(5, 7), (6, 7), (5, 8), (6, 8), (5, 9), (6, 9), (5, 10), (6, 10), (15, 17), (16, 17), (15, 18), (16, 18), (15, 19), (16, 19), (15, 20), (16, 20), (17, 20), (18, 20), (19, 20), (15, 21), (16, 21), (17, 21), (18, 21), (19, 21), (15, 22), (16, 22), (15, 23), (16, 23), (15, 24), (16, 24)] [oa 5 0 3, ol 6 5, o 7 (.call 148 [.t 6]), o 8 (.not (.t 7)), om 9 8, og 10 (.fad 1 (.t 3)) 9, og 11 (.load 1 false (.t 10)) 9, og 12 (.fad 0 (.t 2)) 9, og 13 (.fad 1 (.t 12)) 9, og 14 (.load 1 false (.t 13)) 9, og 15 (.len (.t 14)) 9, og 16 (.call 84 [.t 11, .t 15]) 9, og 17 (.not (.t 16)) 9, o 18 (.pick (.t 9) bT (.t 17)), om 19 18, og 20 (.fad 3 (.t 3)) 19, og 21 (.load 1 false (.t 20)) 19, og 22 (.fad 0 (.t 2)) 19, og 23 (.fad 1 (.t 22)) 19, og 24 (.load 1 false (.t 23)) 19, og 25 (.fad 1 (.t 3)) 19, og 26 (.load 1 false (.t 25)) 19, og 27 (.iad 6 (.t 24) (.t 26)) 19, og 28 (.fad 3 (.t 27)) 19, og 29 (.load 1 false (.t 28)) 19, og 30 (.call 94 [.t 21, .v (.int .i64 0), .t 29]) 19, og 31 (.not (.t 30)) 19, o 32 (.pick (.t 19) bT (.t 31))])
 (.ite (.t 32) (sq [o 4 (.mv bF)]
  .ret)
 .skip))
 (.seq (sq [oa 33 2 3, ol 34 33, o 35 (.bin .eql (.t 34) (.v (.int .i64 (-1))))]
 (.ite (.t 35) (sq [o 4 (.mv bT)]
  .ret)
 .skip))
 (.seq (.drw [(4, 6), (5, 6), (4, 7), (5, 7), (11, 12), (11, 13), (11, 14), (12, 14), (13, 14), (11, 15), (12, 15), (13, 15)] [oa 36 3 3, ol 37 36, o 38 (.bin .gtr (.t 37) (iv 0)), om 39 38, oh 40 (.fad 2 (.t 3)) 39, oh 41 (.load 1 false (.t 40)) 39, oh 42 (.load 12 true (.t 2)) 39, oh 43 (.call 85 [.t 42]) 39, oh 44 (.call 84 [.t 41, .t 43]) 39, o 45 (.pick (.t 39) (.t 44) bF), om 46 45, oh 47 (.load 12 true (.t 2)) 46, oh 48 (.fad 1 (.t 3)) 46, oh 49 (.load 1 false (.t 48)) 46, oh 50 (.fad 2 (.t 3)) 46, oh 51 (.load 1 false (.t 50)) 46, oh 52 (.call 215 [.t 47, .t 49, .t 51]) 46, oh 53 (.bin .neq (.t 52) (iv 0)) 46, o 54 (.pick (.t 46) (.t 53) bF), om 4 54])
 .ret))))
noncomputable def X.i_goodUnit (p0 : TBoard) (p1 : TUnit) : Option Bool :=
 ((X.i_isSide p1.Side).bind fun v12 => (bif (!v12) then some false else ((X.i_isIndex p1.Kind (p0.Rules.Kinds.length : Int)).bind fun v15 => (bif (!v15) then some false else ((at' zTKind p0.Rules.Kinds p1.Kind).bind fun v18 => ((X.i_inRange p1.Steps 0 v18.Steps).bind fun v20 => (bif (!v20) then some false else (bif (p1.At == (-1)) then some true else (bif (decide (p1.Steps > 0)) then ((X.i_sizeOf p0).bind fun v26 => ((X.i_isIndex p1.At v26).bind fun v28 => (bif v28 then ((X.i_enterCost p0 p1.Kind p1.At).bind fun v31 => some (v31 != 0)) else some false))) else some false)))))))))
theorem i_goodUnit_ok (p0 : TBoard) (p1 : TUnit) (r : Bool) (H : X.i_goodUnit p0 p1 = some r) : FK 152 [.agg (eTBoard p0), .agg (eTUnit p1)] (cB r) := by
 unfold X.i_goodUnit at H
 refine fi Tryz.f152 i_goodUnit_ir [(4, cB r)] [] glL Tryz.func152 ?_
 refine so [] [] [(2, pk 2), (3, pk 3)] [(2, va (eTBoard p0)), (3, va (eTUnit p1))] id ?_
 refine seq_in ?_
 obtain ⟨v12, h13, H⟩ := oB H
 rcases oC H with ⟨c14, H⟩ | ⟨c14, H⟩
 ·refine xn ([.res (cB v12)] ++ rg 22 true []) [] [(32, cB true)] [] [] (fun t => aI (i_isSide_ok p1.Side v12 h13) (aI trivial (aI rN (aG 9 c14 (aG 13 rT (t)))))) ?_
  refine it rT ?_
  refine so [] [] [(4, cB false)] [] id ?_
  cases H
  exact er
 ·obtain ⟨v15, h16, H⟩ := oB H
  rcases oC H with ⟨c17, H⟩ | ⟨c17, H⟩
  ·refine xn ([.res (cB v12)] ++ rg 7 false ([.res (cB v15)] ++ rg 2 false (rg 13 true []))) [] [(32, cB true)] [] [] (fun t => aI (i_isSide_ok p1.Side v12 h13) (aI trivial (aI rN (aG 7 c14 (aI (i_isIndex_ok p1.Kind (p0.Rules.Kinds.length : Int) v15 h16) (aI trivial (aI rN (aG 2 c14 (aG 13 c17 (t)))))))))) ?_
   refine it rT ?_
   refine so [] [] [(4, cB false)] [] id ?_
   cases H
   exact er
  ·obtain ⟨v18, h19, H⟩ := oB H
   obtain ⟨v20, h21, H⟩ := oB H
   refine xn ([.res (cB v12)] ++ rg 7 false ([.res (cB v15)] ++ rg 10 false ([.cs (eTKind v18)] ++ rg 3 false ([.res (cB v20)] ++ rg 2 false [])))) [] [(32, cB (!v20))] [] [] (fun t => aI (i_isSide_ok p1.Side v12 h13) (aI trivial (aI rN (aG 7 c14 (aI (i_isIndex_ok p1.Kind (p0.Rules.Kinds.length : Int) v15 h16) (aI trivial (aI rN (aG 2 c14 (aG 8 c17 ((a2 eTKind h19 (aG 2 c17 (aI rN (aI c17 (aI (i_inRange_ok p1.Steps 0 v18.Steps v20 h21) (aI trivial (aI rN (aG 2 c17 (t))))))))))))))))))) ?_
   rcases oC H with ⟨c22, H⟩ | ⟨c22, H⟩
   ·refine it c22 ?_
    refine so [] [] [(4, cB false)] [] id ?_
    cases H
    exact er
   ·refine jf c22 ?_
    refine sk ?_
    refine seq_in ?_
    refine sn [] [] [(35, cB (p1.At == (-1)))] [] [] id ?_
    rcases oC H with ⟨c24, H⟩ | ⟨c24, H⟩
    ·refine it c24 ?_
     refine so [] [] [(4, cB true)] [] id ?_
     cases H
     exact er
    ·refine jf c24 ?_
     refine sk ?_
     rcases oC H with ⟨c25, H⟩ | ⟨c25, H⟩
     ·obtain ⟨v26, h27, H⟩ := oB H
      obtain ⟨v28, h29, H⟩ := oB H
      rcases oC H with ⟨c30, H⟩ | ⟨c30, H⟩
      ·obtain ⟨v31, h32, H⟩ := oB H
       refine sx (rg 4 true ([.res (cI v26), .g true, .res (cB v28)] ++ rg 7 true ([.res (cI v31)] ++ rg 2 true []))) [] [(4, cB (v31 != 0))] [] (fun t => aG 4 c25 (aI (i_sizeOf_ok p0 v26 h27) (aI trivial (aI rN (aI c25 (aI (i_isIndex_ok p1.At v26 v28 h29) (aI trivial (aI rN (aI c25 (aG 6 c30 (aI (i_enterCost_ok p0 p1.Kind p1.At v31 h32) (aI trivial (aI rN (aG 2 c30 (t))))))))))))))) ?_
       cases H
       exact er
      ·refine sx (rg 4 true ([.res (cI v26), .g true, .res (cB v28), .g true] ++ rg 8 false [])) [] [(4, cB false)] [] (fun t => aG 4 c25 (aI (i_sizeOf_ok p0 v26 h27) (aI trivial (aI rN (aI c25 (aI (i_isIndex_ok p1.At v26 v28 h29) (aI trivial (aI rN (aI c25 (aG 8 c30 (t))))))))))) ?_
       cases H
       exact er
     ·refine sx (rg 14 false []) [] [(4, cB false)] [] (fun t => aG 6 c25 (aG 8 rF (t))) ?_
      cases H
      exact er
def i_goodState_ir : S :=
 (sq [o 2 (.box 12 (.t 0)), o 3 (.box 3 (.t 1)), o 4 (.mv bF)]
 (.seq (sq [oa 8 0 3, ol 9 8, oa 10 0 2, oa 11 6 10, ol 12 11, o 13 (.call 94 [.t 9, .v (.int .i64 0), .t 12]), o 14 (.not (.t 13)), om 15 14, og 16 (.fad 1 (.t 3)) 15, og 17 (.load 1 false (.t 16)) 15, og 18 (.call 94 [.t 17, .v (.int .i64 0), .v (.int .i64 2)]) 15, og 19 (.not (.t 18)) 15, o 20 (.pick (.t 15) bT (.t 19)), om 21 20, og 22 (.fad 2 (.t 3)) 21, og 23 (.load 1 false (.t 22)) 21, og 24 (.len (.t 23)) 21, og 25 (.bin .gtr (.t 24) (iv 12)) 21, o 26 (.pick (.t 21) bT (.t 25))]
 (.ite (.t 26) (sq [o 4 (.mv bF)]
  .ret)
 .skip))
 (sq [o 27 (.load 12 true (.t 2)), o 28 (.call 85 [.t 27]), o 29 (.msl 2 16 [.int .i64 0, .int .i64 0] (.t 28)), om 5 29]
 (.seq (sq [oa 30 2 3, ol 31 30, o 32 (.len (.t 31)), o 33 (.mv (iv 0))]
 (.blk 0 (.loop (sq [o 34 (.bin .lss (.t 33) (.t 32))]
   (.seq (.ite (.t 34) .skip
   (.exit 0))
   (.seq (.blk 1 (sq [o 35 (.iad 4 (.t 31) (.t 33)), o 36 (.load 4 true (.t 35)), o 7 (.alloc [.int .i64 0, .int .i64 0, .int .i64 0, .int .i64 0]), os 4 7 36]
    (.seq (sq [o 37 (.load 12 true (.t 2)), o 38 (.load 4 true (.t 7)), o 39 (.call 152 [.t 37, .t 38]), o 40 (.not (.t 39))]
    (.ite (.t 40) (sq [o 4 (.mv bF)]
     .ret)
    .skip))
    (.seq (sq [oa 41 2 7, ol 42 41, o 43 (.bin .lss (.t 42) (iv 0))]
    (.ite (.t 43) (.exit 1)
    .skip))
    (.seq (.drw [(0, 1), (0, 2), (0, 3), (1, 3), (2, 3), (0, 4), (1, 4), (2, 4), (3, 5), (4, 5), (3, 9), (4, 9), (5, 9), (6, 9), (7, 9), (8, 9)] [om 44 5, oa 45 2 7, ol 46 45, oa 47 0 7, ol 48 47, o 49 (.iad 2 (.t 44) (.t 46)), o 50 (.iar 2 1 (.t 49) (.t 48)), ol 51 50, o 52 (.bin .add (.t 51) (iv 1)), o 53 (.iad 2 (.t 44) (.t 46)), o 54 (.iar 2 1 (.t 53) (.t 48)), os 1 54 52])
    (.seq (.drw [(0, 1), (0, 2), (0, 3), (1, 3), (2, 3), (0, 4), (1, 4), (2, 4), (0, 5), (1, 5), (2, 5), (3, 6), (4, 6), (5, 6), (11, 12), (11, 13), (11, 14), (12, 14), (13, 14), (11, 15), (12, 15), (13, 15), (14, 16), (15, 16), (11, 19), (12, 19), (13, 19), (14, 19), (15, 19), (16, 19), (17, 19), (18, 19), (11, 20), (12, 20), (13, 20), (14, 20), (15, 20), (16, 20), (17, 20), (18, 20), (11, 21), (12, 21), (13, 21), (14, 21), (15, 21), (16, 21), (17, 21), (18, 21)] [om 55 5, oa 56 2 7, ol 57 56, oa 58 0 7, ol 59 58, o 60 (.bin .sub (iv 1) (.t 59)), o 61 (.iad 2 (.t 55) (.t 57)), o 62 (.iar 2 1 (.t 61) (.t 60)), ol 63 62, o 64 (.bin .gtr (.t 63) (iv 0)), om 65 64, og 66 (.mv (.t 5)) 65, og 67 (.fad 2 (.t 7)) 65, og 68 (.load 1 false (.t 67)) 65, og 69 (.fad 0 (.t 7)) 65, og 70 (.load 1 false (.t 69)) 65, og 71 (.iad 2 (.t 66) (.t 68)) 65, og 72 (.iar 2 1 (.t 71) (.t 70)) 65, og 73 (.load 1 false (.t 72)) 65, og 74 (.fad 0 (.t 2)) 65, og 75 (.fad 2 (.t 74)) 65, og 76 (.load 1 false (.t 75)) 65, og 77 (.bin .gtr (.t 73) (.t 76)) 65, o 78 (.pick (.t 65) bT (.t 77))])
    (.ite (.t 78) (sq [o 4 (.mv bF)]
     .ret)
    .skip)))))))
   (.ops [o 79 (.bin .add (.t 33) (iv 1)), om 33 79])))))))
 (sq [o 4 (.mv bT)]
 .ret)))))
noncomputable def X.i_goodState (p0 : TBoard) (p1 : TState) : Option Bool :=
 ((X.i_inRange p1.Turn 0 p0.Rules.Turns).bind fun v8 => (bif (!v8) then some false else ((X.i_inRange p1.Weather 0 2).bind fun v11 => (bif (!v11) then some false else (bif (decide ((p1.Units.length : Int) > 12)) then some false else ((X.i_sizeOf p0).bind fun v15 => (if 0 ≤ v15 ∧ v15.toNat ≤ LIM then ((loop (fun (x93 : (Int × (List A2_I))) => ((bif (decide (x93.1 < (p1.Units.length : Int))) then ((at' zTUnit p1.Units x93.1).bind fun v96 => ((X.i_goodUnit p0 v96).bind fun v101 => (bif (!v101) then some (Sum.inr (Sum.inr false)) else (bif (decide (v96.At < 0)) then some (Sum.inl ((W (x93.1 + 1)), x93.2)) else (if 0 ≤ v96.At ∧ v96.At < (x93.2.length : Int) then (if v96.Side = ((0 : Nat) : Int) then ((some (x93.2.set v96.At.toNat (A2_I.mk (W ((x93.2.getD v96.At.toNat zA2_I).a0 + 1)) ((x93.2.getD v96.At.toNat zA2_I).a1)))).bind fun l108 => (if (W (1 - v96.Side)) = ((0 : Nat) : Int) then (bif (decide ((l108.getD v96.At.toNat zA2_I).a0 > 0)) then some (Sum.inr (Sum.inr false)) else (bif (decide ((l108.getD v96.At.toNat zA2_I).a0 > p0.Rules.Stack)) then some (Sum.inr (Sum.inr false)) else some (Sum.inl ((W (x93.1 + 1)), l108)))) else (if (W (1 - v96.Side)) = ((1 : Nat) : Int) then (bif (decide ((l108.getD v96.At.toNat zA2_I).a1 > 0)) then some (Sum.inr (Sum.inr false)) else (bif (decide ((l108.getD v96.At.toNat zA2_I).a0 > p0.Rules.Stack)) then some (Sum.inr (Sum.inr false)) else some (Sum.inl ((W (x93.1 + 1)), l108)))) else none))) else (if v96.Side = ((1 : Nat) : Int) then ((some (x93.2.set v96.At.toNat (A2_I.mk ((x93.2.getD v96.At.toNat zA2_I).a0) (W ((x93.2.getD v96.At.toNat zA2_I).a1 + 1))))).bind fun l119 => (if (W (1 - v96.Side)) = ((0 : Nat) : Int) then (bif (decide ((l119.getD v96.At.toNat zA2_I).a0 > 0)) then some (Sum.inr (Sum.inr false)) else (bif (decide ((l119.getD v96.At.toNat zA2_I).a1 > p0.Rules.Stack)) then some (Sum.inr (Sum.inr false)) else some (Sum.inl ((W (x93.1 + 1)), l119)))) else (if (W (1 - v96.Side)) = ((1 : Nat) : Int) then (bif (decide ((l119.getD v96.At.toNat zA2_I).a1 > 0)) then some (Sum.inr (Sum.inr false)) else (bif (decide ((l119.getD v96.At.toNat zA2_I).a1 > p0.Rules.Stack)) then some (Sum.inr (Sum.inr false)) else some (Sum.inl ((W (x93.1 + 1)), l119)))) else none))) else none)) else none))))) else some (Sum.inr (Sum.inl ()))) : Option ((Int × (List A2_I)) ⊕ (Unit ⊕ Bool)))) (0, (List.replicate v15.toNat zA2_I))).bind fun y131 => (Sum.elim (fun (y133 : Unit) => some true) (fun (y134 : Bool) => some y134) y131)) else none)))))))
theorem i_goodState_ok (p0 : TBoard) (p1 : TState) (r : Bool) (H : X.i_goodState p0 p1 = some r) : FK 221 [.agg (eTBoard p0), .agg (eTState p1)] (cB r) := by
 unfold X.i_goodState at H
 refine fi Tryz.f221 i_goodState_ir [(4, cB r)] [] glL Tryz.func221 ?_
 refine so [] [] [(2, pk 2), (3, pk 3)] [(2, va (eTBoard p0)), (3, va (eTState p1))] id ?_
 refine seq_in ?_
 obtain ⟨v8, h9, H⟩ := oB H
 rcases oC H with ⟨c10, H⟩ | ⟨c10, H⟩
 ·refine sn ([.res (cB v8)] ++ rg 10 true []) [] [(26, cB true)] [] [] (fun t => aI (i_inRange_ok p1.Turn 0 p0.Rules.Turns v8 h9) (aG 5 c10 (aG 5 rT (t)))) ?_
  refine it rT ?_
  refine so [] [] [(4, cB false)] [] id ?_
  cases H
  exact er
 ·obtain ⟨v11, h12, H⟩ := oB H
  rcases oC H with ⟨c13, H⟩ | ⟨c13, H⟩
  ·refine sn ([.res (cB v8)] ++ rg 3 false ([.res (cB v11)] ++ rg 2 false (rg 5 true []))) [] [(26, cB true)] [] [] (fun t => aI (i_inRange_ok p1.Turn 0 p0.Rules.Turns v8 h9) (aG 3 c10 (aI (i_inRange_ok p1.Weather 0 2 v11 h12) (aG 2 c10 (aG 5 c13 (t)))))) ?_
   refine it rT ?_
   refine so [] [] [(4, cB false)] [] id ?_
   cases H
   exact er
  ·refine sn ([.res (cB v8)] ++ rg 3 false ([.res (cB v11)] ++ rg 7 false [])) [] [(26, cB (decide ((p1.Units.length : Int) > 12)))] [] [] (fun t => aI (i_inRange_ok p1.Turn 0 p0.Rules.Turns v8 h9) (aG 3 c10 (aI (i_inRange_ok p1.Weather 0 2 v11 h12) (aG 2 c10 (aG 3 c13 (lI p1.Units (aG 2 c13 (t)))))))) ?_
   rcases oC H with ⟨c14, H⟩ | ⟨c14, H⟩
   ·refine it c14 ?_
    refine so [] [] [(4, cB false)] [] id ?_
    cases H
    exact er
   ·refine jf c14 ?_
    refine sk ?_
    obtain ⟨v15, h16, H⟩ := oB H
    obtain ⟨g17, H⟩ := oI H
    refine sn [.res (cI v15), fh eA2_I zA2_I (List.replicate v15.toNat zA2_I)] [] [(5, ow 29 2 (List.replicate v15.toNat zA2_I))] [] [(29, ar 2 eA2_I zA2_I (List.replicate v15.toNat zA2_I))] (fun t => aI (i_sizeOf_ok p0 v15 h16) (aI (And.intro g17.1 (And.intro (List.length_replicate (n := v15.toNat) (a := zA2_I)).symm (Nat.le_trans (Nat.le_of_eq List.length_replicate) g17.2 : (List.replicate v15.toNat zA2_I).length ≤ LIM))) (aI (fF_rep eA2_I zA2_I zA2_I v15.toNat) (t)))) ?_
    refine seq_in ?_
    refine sn [] [] [(31, dc 4 eTUnit zTUnit p1.Units), (32, cL p1.Units), (33, cI 0)] [] [] (fun t => lI p1.Units (t)) ?_
    refine ends_blk ?_
    obtain ⟨y131, h132, H⟩ := oB H
    refine tl [] [(2, pk 2), (5, ow 29 2 (List.replicate v15.toNat zA2_I)), (31, dc 4 eTUnit zTUnit p1.Units), (32, cL p1.Units), (33, cI 0)] [(2, va (eTBoard p0)), (29, ar 2 eA2_I zA2_I (List.replicate v15.toNat zA2_I))] id ?_
    refine loop_in (fun (x : (Int × (List A2_I))) => lit [(2, pk 2), (5, ow 29 2 x.2), (31, dc 4 eTUnit zTUnit p1.Units), (32, cL p1.Units), (33, cI x.1)] [(2, va (eTBoard p0)), (29, ar 2 eA2_I zA2_I x.2)]) (orJ (fun (z : Unit) => At (.exit 0) (lit [] [])) (fun (z : Bool) => At .ret (lit [(4, cB z)] []))) h132 ?_ ?_
    ·clear H h132
     intro x93 y0 H
     refine sn [] [] [(34, cB (decide (x93.1 < (p1.Units.length : Int))))] [] [] id ?_
     refine seq_in ?_
     rcases oC H with ⟨c95, H⟩ | ⟨c95, H⟩
     ·refine it c95 ?_
      refine sk ?_
      refine seq_in ?_
      refine ends_blk ?_
      obtain ⟨v96, h97, H⟩ := oB H
      refine sn [.cs (eTUnit v96)] [] [(7, pk 7)] [] [(7, va (eTUnit v96))] (a2 eTUnit h97) ?_
      refine seq_in ?_
      obtain ⟨v101, h102, H⟩ := oB H
      refine sn [.res (cB v101)] [] [(40, cB (!v101))] [] [] (aI (i_goodUnit_ok p0 v96 v101 h102)) ?_
      rcases oC H with ⟨c103, H⟩ | ⟨c103, H⟩
      ·refine it c103 ?_
       refine so [] [] [(4, cB false)] [] id ?_
       refine ends_ret ?_
       cases H
       exact rsr
      ·refine jf c103 ?_
       refine sk ?_
       refine seq_in ?_
       refine sn [] [] [(43, cB (decide (v96.At < 0)))] [] [] id ?_
       rcases oC H with ⟨c105, H⟩ | ⟨c105, H⟩
       ·refine it c105 ?_
        refine ends_exit ?_
        change EndsI _ _ _ _ _ _
        refine oo [] [] [(2, pk 2), (5, ow 29 2 x93.2), (31, dc 4 eTUnit zTUnit p1.Units), (32, cL p1.Units), (33, cI (W (x93.1 + 1)))] [(2, va (eTBoard p0)), (29, ar 2 eA2_I zA2_I x93.2)] id ?_
        cases H
        exact rr
       ·refine jf c105 ?_
        refine sk ?_
        obtain ⟨g106, H⟩ := oI H
        rcases ofIte H with ⟨c107, H⟩ | ⟨c130, H⟩
        ·obtain ⟨l108, h109, H⟩ := oB H
         refine xn [.no, .nat 0, .no, .nat 0, .fn 0 (fF eA2_I zA2_I l108)] [] [] [29] [(29, .arr 2 x93.2.length (fF eA2_I zA2_I l108) false)] (fun t => aI g106 (aI (And.intro c107 (by decide : 0 < 2)) (aI (nat_lt g106) (aI rN (aI g106 (aI (And.intro c107 (by decide : 0 < 2)) (aI rT (aI (nat_lt g106) (aI (by decide : 0 + 1 ≤ 2) (aI (fF_setN eA2_I zA2_I h109 (nat_lt g106) x93.2.length) (t))))))))))) ?_
         rcases ofIte H with ⟨c110, H⟩ | ⟨c117, H⟩
         ·rcases oC H with ⟨c111, H⟩ | ⟨c111, H⟩
          ·refine xn ([.no, .nat 0] ++ rg 13 true []) [] [(78, cB true)] [] [] (fun t => aI g106 (aI (And.intro c110 (by decide : 0 < 2)) (aI (nat_lt g106) (aI rN (aG 13 c111 (t)))))) ?_
           refine it rT ?_
           refine so [] [] [(4, cB false)] [] id ?_
           refine ends_ret ?_
           cases H
           exact rsr
          ·refine xn ([.no, .nat 0] ++ rg 6 false ([.no, .g false, .nat 0] ++ rg 6 false [])) [] [(78, cB (decide ((l108.getD v96.At.toNat zA2_I).a0 > p0.Rules.Stack)))] [] [] (fun t => aI g106 (aI (And.intro c110 (by decide : 0 < 2)) (aI (nat_lt g106) (aI rN (aG 6 c111 (aI g106 (aI c111 (aI (And.intro c107 (by decide : 0 < 2)) (aI c111 (aI (nat_lt g106) (aI rN (aG 5 c111 (t))))))))))))) ?_
           rcases oC H with ⟨c112, H⟩ | ⟨c112, H⟩
           ·refine it c112 ?_
            refine so [] [] [(4, cB false)] [] id ?_
            refine ends_ret ?_
            cases H
            exact rsr
           ·refine jf c112 ?_
            refine sk ?_
            refine oo [] [.rel 5 l108.length, .rep 29 l108.length (fF eA2_I zA2_I l108)] [(2, pk 2), (5, ow 29 2 l108), (31, dc 4 eTUnit zTUnit p1.Units), (32, cL p1.Units), (33, cI (W (x93.1 + 1)))] [(2, va (eTBoard p0)), (29, ar 2 eA2_I zA2_I l108)] (fun t => aI (by simp [lenN h109] : x93.2.length = l108.length) (aI (Nat.le_of_eq (by simp [lenN h109] : l108.length = x93.2.length)) (aI (fun _ _ => rfl : ∀ i, i < l108.length → (fF eA2_I zA2_I l108) i = (fF eA2_I zA2_I l108) i) (t)))) ?_
            cases H
            exact rr
         ·rcases ofIte H with ⟨c113, H⟩ | ⟨c116, H⟩
          ·rcases oC H with ⟨c114, H⟩ | ⟨c114, H⟩
           ·refine xn ([.no, .nat 1] ++ rg 13 true []) [] [(78, cB true)] [] [] (fun t => aI g106 (aI (And.intro c113 (by decide : 1 < 2)) (aI (nat_lt g106) (aI rN (aG 13 c114 (t)))))) ?_
            refine it rT ?_
            refine so [] [] [(4, cB false)] [] id ?_
            refine ends_ret ?_
            cases H
            exact rsr
           ·refine xn ([.no, .nat 1] ++ rg 6 false ([.no, .g false, .nat 0] ++ rg 6 false [])) [] [(78, cB (decide ((l108.getD v96.At.toNat zA2_I).a0 > p0.Rules.Stack)))] [] [] (fun t => aI g106 (aI (And.intro c113 (by decide : 1 < 2)) (aI (nat_lt g106) (aI rN (aG 6 c114 (aI g106 (aI c114 (aI (And.intro c107 (by decide : 0 < 2)) (aI c114 (aI (nat_lt g106) (aI rN (aG 5 c114 (t))))))))))))) ?_
            rcases oC H with ⟨c115, H⟩ | ⟨c115, H⟩
            ·refine it c115 ?_
             refine so [] [] [(4, cB false)] [] id ?_
             refine ends_ret ?_
             cases H
             exact rsr
            ·refine jf c115 ?_
             refine sk ?_
             refine oo [] [.rel 5 l108.length, .rep 29 l108.length (fF eA2_I zA2_I l108)] [(2, pk 2), (5, ow 29 2 l108), (31, dc 4 eTUnit zTUnit p1.Units), (32, cL p1.Units), (33, cI (W (x93.1 + 1)))] [(2, va (eTBoard p0)), (29, ar 2 eA2_I zA2_I l108)] (fun t => aI (by simp [lenN h109] : x93.2.length = l108.length) (aI (Nat.le_of_eq (by simp [lenN h109] : l108.length = x93.2.length)) (aI (fun _ _ => rfl : ∀ i, i < l108.length → (fF eA2_I zA2_I l108) i = (fF eA2_I zA2_I l108) i) (t)))) ?_
             cases H
             exact rr
          ·cases H
        ·rcases ofIte H with ⟨c118, H⟩ | ⟨c129, H⟩
         ·obtain ⟨l119, h120, H⟩ := oB H
          refine xn [.no, .nat 1, .no, .nat 1, .fn 0 (fF eA2_I zA2_I l119)] [] [] [29] [(29, .arr 2 x93.2.length (fF eA2_I zA2_I l119) false)] (fun t => aI g106 (aI (And.intro c118 (by decide : 1 < 2)) (aI (nat_lt g106) (aI rN (aI g106 (aI (And.intro c118 (by decide : 1 < 2)) (aI rT (aI (nat_lt g106) (aI (by decide : 1 + 1 ≤ 2) (aI (fF_setN eA2_I zA2_I h120 (nat_lt g106) x93.2.length) (t))))))))))) ?_
          rcases ofIte H with ⟨c121, H⟩ | ⟨c128, H⟩
          ·rcases oC H with ⟨c122, H⟩ | ⟨c122, H⟩
           ·refine xn ([.no, .nat 0] ++ rg 13 true []) [] [(78, cB true)] [] [] (fun t => aI g106 (aI (And.intro c121 (by decide : 0 < 2)) (aI (nat_lt g106) (aI rN (aG 13 c122 (t)))))) ?_
            refine it rT ?_
            refine so [] [] [(4, cB false)] [] id ?_
            refine ends_ret ?_
            cases H
            exact rsr
           ·refine xn ([.no, .nat 0] ++ rg 6 false ([.no, .g false, .nat 1] ++ rg 6 false [])) [] [(78, cB (decide ((l119.getD v96.At.toNat zA2_I).a1 > p0.Rules.Stack)))] [] [] (fun t => aI g106 (aI (And.intro c121 (by decide : 0 < 2)) (aI (nat_lt g106) (aI rN (aG 6 c122 (aI g106 (aI c122 (aI (And.intro c118 (by decide : 1 < 2)) (aI c122 (aI (nat_lt g106) (aI rN (aG 5 c122 (t))))))))))))) ?_
            rcases oC H with ⟨c123, H⟩ | ⟨c123, H⟩
            ·refine it c123 ?_
             refine so [] [] [(4, cB false)] [] id ?_
             refine ends_ret ?_
             cases H
             exact rsr
            ·refine jf c123 ?_
             refine sk ?_
             refine oo [] [.rel 5 l119.length, .rep 29 l119.length (fF eA2_I zA2_I l119)] [(2, pk 2), (5, ow 29 2 l119), (31, dc 4 eTUnit zTUnit p1.Units), (32, cL p1.Units), (33, cI (W (x93.1 + 1)))] [(2, va (eTBoard p0)), (29, ar 2 eA2_I zA2_I l119)] (fun t => aI (by simp [lenN h120] : x93.2.length = l119.length) (aI (Nat.le_of_eq (by simp [lenN h120] : l119.length = x93.2.length)) (aI (fun _ _ => rfl : ∀ i, i < l119.length → (fF eA2_I zA2_I l119) i = (fF eA2_I zA2_I l119) i) (t)))) ?_
             cases H
             exact rr
          ·rcases ofIte H with ⟨c124, H⟩ | ⟨c127, H⟩
           ·rcases oC H with ⟨c125, H⟩ | ⟨c125, H⟩
            ·refine xn ([.no, .nat 1] ++ rg 13 true []) [] [(78, cB true)] [] [] (fun t => aI g106 (aI (And.intro c124 (by decide : 1 < 2)) (aI (nat_lt g106) (aI rN (aG 13 c125 (t)))))) ?_
             refine it rT ?_
             refine so [] [] [(4, cB false)] [] id ?_
             refine ends_ret ?_
             cases H
             exact rsr
            ·refine xn ([.no, .nat 1] ++ rg 6 false ([.no, .g false, .nat 1] ++ rg 6 false [])) [] [(78, cB (decide ((l119.getD v96.At.toNat zA2_I).a1 > p0.Rules.Stack)))] [] [] (fun t => aI g106 (aI (And.intro c124 (by decide : 1 < 2)) (aI (nat_lt g106) (aI rN (aG 6 c125 (aI g106 (aI c125 (aI (And.intro c118 (by decide : 1 < 2)) (aI c125 (aI (nat_lt g106) (aI rN (aG 5 c125 (t))))))))))))) ?_
             rcases oC H with ⟨c126, H⟩ | ⟨c126, H⟩
             ·refine it c126 ?_
              refine so [] [] [(4, cB false)] [] id ?_
              refine ends_ret ?_
              cases H
              exact rsr
             ·refine jf c126 ?_
              refine sk ?_
              refine oo [] [.rel 5 l119.length, .rep 29 l119.length (fF eA2_I zA2_I l119)] [(2, pk 2), (5, ow 29 2 l119), (31, dc 4 eTUnit zTUnit p1.Units), (32, cL p1.Units), (33, cI (W (x93.1 + 1)))] [(2, va (eTBoard p0)), (29, ar 2 eA2_I zA2_I l119)] (fun t => aI (by simp [lenN h120] : x93.2.length = l119.length) (aI (Nat.le_of_eq (by simp [lenN h120] : l119.length = x93.2.length)) (aI (fun _ _ => rfl : ∀ i, i < l119.length → (fF eA2_I zA2_I l119) i = (fF eA2_I zA2_I l119) i) (t)))) ?_
              cases H
              exact rr
           ·cases H
         ·cases H
     ·refine jf c95 ?_
      refine tl [] [] [] id ?_
      refine ends_exit ?_
      cases H
      exact rse
    ·clear h132
     cases y131 with
     | inl y133 =>
      replace H := ofInl H
      rintro e s ⟨rfl, rfl⟩
      change EndsI _ _ _ _ _ _
      refine so [] [] [(4, cB true)] [] id ?_
      cases H
      exact er
     | inr y134 =>
      replace H := ofInr H
      rintro e s ⟨rfl, rfl⟩
      cases H
      exact qr
def i_goodReactions_ir : S :=
 (sq [o 3 (.box 12 (.t 0)), o 4 (.box 3 (.t 1)), o 6 (.mv bF)]
 (.seq (sq [om 9 2, o 10 (.len (.t 9)), o 11 (.bin .gtr (.t 10) (iv 12))]
 (.ite (.t 11) (sq [o 6 (.mv bF)]
  .ret)
 .skip))
 (.seq (sq [om 12 2, o 13 (.len (.t 12)), o 14 (.mv (iv 0))]
 (.blk 0 (.loop (sq [o 15 (.bin .lss (.t 14) (.t 13))]
   (.seq (.ite (.t 15) .skip
   (.exit 0))
   (.seq (.blk 1 (sq [o 16 (.iad 3 (.t 12) (.t 14)), o 17 (.load 3 true (.t 16)), o 8 (.alloc [.int .i64 0, .int .i64 0, .int .i64 0]), os 3 8 17]
    (.seq (.drw [(0, 2), (1, 2), (0, 3), (1, 3), (0, 4), (1, 4), (8, 10), (9, 10), (8, 11), (9, 11)] [oa 18 0 8, ol 19 18, oa 20 2 4, ol 21 20, o 22 (.len (.t 21)), o 23 (.call 84 [.t 19, .t 22]), o 24 (.not (.t 23)), om 25 24, og 26 (.fad 1 (.t 8)) 25, og 27 (.load 1 false (.t 26)) 25, og 28 (.load 12 true (.t 3)) 25, og 29 (.call 85 [.t 28]) 25, og 30 (.call 84 [.t 27, .t 29]) 25, og 31 (.not (.t 30)) 25, o 32 (.pick (.t 25) bT (.t 31)), om 33 32, og 34 (.fad 2 (.t 8)) 33, og 35 (.load 1 false (.t 34)) 33, og 36 (.call 94 [.t 35, .v (.int .i64 0), .v (.int .i64 1)]) 33, og 37 (.not (.t 36)) 33, o 38 (.pick (.t 33) bT (.t 37))])
    (.ite (.t 38) (sq [o 6 (.mv bF)]
     .ret)
    .skip))))
   (.ops [o 39 (.bin .add (.t 14) (iv 1)), om 14 39])))))))
 (sq [o 6 (.mv bT)]
 .ret))))
noncomputable def X.i_goodReactions (p0 : TBoard) (p1 : TState) (p2 : (List TReaction)) : Option Bool :=
 (bif (decide ((p2.length : Int) > 12)) then some false else ((loop (fun (x34 : Int) => ((bif (decide (x34 < (p2.length : Int))) then ((at' zTReaction p2 x34).bind fun v37 => ((X.i_isIndex v37.Unit (p1.Units.length : Int)).bind fun v39 => (bif (!v39) then some (Sum.inr (Sum.inr false)) else ((X.i_sizeOf p0).bind fun v42 => ((X.i_isIndex v37.Watch v42).bind fun v44 => (bif (!v44) then some (Sum.inr (Sum.inr false)) else ((X.i_inRange v37.Kind 0 1).bind fun v47 => (bif (!v47) then some (Sum.inr (Sum.inr false)) else some (Sum.inl (W (x34 + 1))))))))))) else some (Sum.inr (Sum.inl ()))) : Option (Int ⊕ (Unit ⊕ Bool)))) 0).bind fun y50 => (Sum.elim (fun (y52 : Unit) => some true) (fun (y53 : Bool) => some y53) y50)))
theorem i_goodReactions_ok (p0 : TBoard) (p1 : TState) (p2 : (List TReaction)) (r : Bool) (H : X.i_goodReactions p0 p1 p2 = some r) : FK 236 [.agg (eTBoard p0), .agg (eTState p1), .c (dat 3 eTReaction zTReaction p2)] (cB r) := by
 unfold X.i_goodReactions at H
 refine fi Tryz.f236 i_goodReactions_ir [(6, cB r)] [] glL Tryz.func236 ?_
 refine sn [] [] [(3, pk 3), (4, pk 4)] [] [(3, va (eTBoard p0)), (4, va (eTState p1))] id ?_
 refine seq_in ?_
 refine sn [] [] [(11, cB (decide ((p2.length : Int) > 12)))] [] [] (fun t => lI p2 (t)) ?_
 rcases oC H with ⟨c2, H⟩ | ⟨c2, H⟩
 ·refine it c2 ?_
  refine so [] [] [(6, cB false)] [] id ?_
  cases H
  exact er
 ·refine jf c2 ?_
  refine sk ?_
  refine seq_in ?_
  refine sn [] [] [(12, dc 3 eTReaction zTReaction p2), (13, cL p2), (14, cI 0)] [] [] (fun t => lI p2 (t)) ?_
  refine ends_blk ?_
  obtain ⟨y50, h51, H⟩ := oB H
  refine tl [] [(3, pk 3), (4, pk 4), (12, dc 3 eTReaction zTReaction p2), (13, cL p2), (14, cI 0)] [(3, va (eTBoard p0)), (4, va (eTState p1))] id ?_
  refine loop_in (fun (x : Int) => lit [(3, pk 3), (4, pk 4), (12, dc 3 eTReaction zTReaction p2), (13, cL p2), (14, cI x)] [(3, va (eTBoard p0)), (4, va (eTState p1))]) (orJ (fun (z : Unit) => At (.exit 0) (lit [] [])) (fun (z : Bool) => At .ret (lit [(6, cB z)] []))) h51 ?_ ?_
  ·clear H h51
   intro x34 y0 H
   refine sn [] [] [(15, cB (decide (x34 < (p2.length : Int))))] [] [] id ?_
   refine seq_in ?_
   rcases oC H with ⟨c36, H⟩ | ⟨c36, H⟩
   ·refine it c36 ?_
    refine sk ?_
    refine seq_in ?_
    refine ends_blk ?_
    obtain ⟨v37, h38, H⟩ := oB H
    refine sn [.cs (eTReaction v37)] [] [(8, pk 8)] [] [(8, va (eTReaction v37))] (a2 eTReaction h38) ?_
    obtain ⟨v39, h40, H⟩ := oB H
    rcases oC H with ⟨c41, H⟩ | ⟨c41, H⟩
    ·refine xn ([.res (cB v39)] ++ rg 12 true []) [] [(38, cB true)] [] [] (fun t => aI (i_isIndex_ok v37.Unit (p1.Units.length : Int) v39 h40) (aI trivial (aI rN (aG 7 c41 (aG 5 rT (t)))))) ?_
     refine it rT ?_
     refine so [] [] [(6, cB false)] [] id ?_
     refine ends_ret ?_
     cases H
     exact rsr
    ·obtain ⟨v42, h43, H⟩ := oB H
     obtain ⟨v44, h45, H⟩ := oB H
     rcases oC H with ⟨c46, H⟩ | ⟨c46, H⟩
     ·refine xn ([.res (cB v39)] ++ rg 4 false ([.res (cI v42), .g false, .res (cB v44)] ++ rg 2 false (rg 5 true []))) [] [(38, cB true)] [] [] (fun t => aI (i_isIndex_ok v37.Unit (p1.Units.length : Int) v39 h40) (aI trivial (aI rN (aG 4 c41 (aI (i_sizeOf_ok p0 v42 h43) (aI trivial (aI rN (aI c41 (aI (i_isIndex_ok v37.Watch v42 v44 h45) (aI trivial (aI rN (aG 2 c41 (aG 5 c46 (t)))))))))))))) ?_
      refine it rT ?_
      refine so [] [] [(6, cB false)] [] id ?_
      refine ends_ret ?_
      cases H
      exact rsr
     ·obtain ⟨v47, h48, H⟩ := oB H
      refine xn ([.res (cB v39)] ++ rg 4 false ([.res (cI v42), .g false, .res (cB v44)] ++ rg 5 false ([.res (cB v47)] ++ rg 2 false []))) [] [(38, cB (!v47))] [] [] (fun t => aI (i_isIndex_ok v37.Unit (p1.Units.length : Int) v39 h40) (aI trivial (aI rN (aG 4 c41 (aI (i_sizeOf_ok p0 v42 h43) (aI trivial (aI rN (aI c41 (aI (i_isIndex_ok v37.Watch v42 v44 h45) (aI trivial (aI rN (aG 2 c41 (aG 3 c46 (aI (i_inRange_ok v37.Kind 0 1 v47 h48) (aI trivial (aI rN (aG 2 c46 (t)))))))))))))))))) ?_
      rcases oC H with ⟨c49, H⟩ | ⟨c49, H⟩
      ·refine it c49 ?_
       refine so [] [] [(6, cB false)] [] id ?_
       refine ends_ret ?_
       cases H
       exact rsr
      ·refine jf c49 ?_
       refine sk ?_
       refine oo [] [] [(3, pk 3), (4, pk 4), (12, dc 3 eTReaction zTReaction p2), (13, cL p2), (14, cI (W (x34 + 1)))] [(3, va (eTBoard p0)), (4, va (eTState p1))] id ?_
       cases H
       exact rr
   ·refine jf c36 ?_
    refine tl [] [] [] id ?_
    refine ends_exit ?_
    cases H
    exact rse
  ·clear h51
   cases y50 with
   | inl y52 =>
    replace H := ofInl H
    rintro e s ⟨rfl, rfl⟩
    change EndsI _ _ _ _ _ _
    refine so [] [] [(6, cB true)] [] id ?_
    cases H
    exact er
   | inr y53 =>
    replace H := ofInr H
    rintro e s ⟨rfl, rfl⟩
    cases H
    exact qr
def g_Index_int_ir : S :=
 (sq [o 4 (.mv (iv 0))]
 (.seq (sq [om 6 0, o 7 (.len (.t 6)), o 8 (.mv (iv 0))]
 (.blk 0 (.loop (sq [o 9 (.bin .lss (.t 8) (.t 7))]
   (.seq (.ite (.t 9) .skip
   (.exit 0))
   (.seq (.blk 1 (sq [om 10 8, om 5 10]
    (sq [om 11 1, om 12 0, om 13 5, o 14 (.iad 1 (.t 12) (.t 13)), ol 15 14, o 16 (.bin .eql (.t 11) (.t 15))]
    (.ite (.t 16) (sq [om 17 5, om 4 17]
     .ret)
    .skip))))
   (.ops [o 18 (.bin .add (.t 8) (iv 1)), om 8 18])))))))
 (sq [o 4 (.mv (.v (.int .i64 (-1))))]
 .ret)))
noncomputable def X.g_Index_int (p0 : (List Int)) (p1 : Int) : Option Int :=
 ((loop (fun (x12 : Int) => ((bif (decide (x12 < (p0.length : Int))) then ((at' zI p0 x12).bind fun v15 => (bif (p1 == v15) then some (Sum.inr (Sum.inr x12)) else some (Sum.inl (W (x12 + 1))))) else some (Sum.inr (Sum.inl ()))) : Option (Int ⊕ (Unit ⊕ Int)))) 0).bind fun y18 => (Sum.elim (fun (y20 : Unit) => some (-1)) (fun (y21 : Int) => some y21) y18))
theorem g_Index_int_ok (p0 : (List Int)) (p1 : Int) (r : Int) (H : X.g_Index_int p0 p1 = some r) : FK 216 [.c (dat 1 eI zI p0), cI p1] (cI r) := by
 unfold X.g_Index_int at H
 refine fi Tryz.f216 g_Index_int_ir [(4, cI r)] [] glL Tryz.func216 ?_
 refine sn [] [] [] [] [] id ?_
 refine seq_in ?_
 refine sn [] [] [(7, cL p0), (8, cI 0)] [] [] (fun t => lI p0 (t)) ?_
 refine ends_blk ?_
 obtain ⟨y18, h19, H⟩ := oB H
 refine tl [] [(0, dc 1 eI zI p0), (1, cI p1), (7, cL p0), (8, cI 0)] [] id ?_
 refine loop_in (fun (x : Int) => lit [(0, dc 1 eI zI p0), (1, cI p1), (7, cL p0), (8, cI x)] []) (orJ (fun (z : Unit) => At (.exit 0) (lit [] [])) (fun (z : Int) => At .ret (lit [(4, cI z)] []))) h19 ?_ ?_
 ·clear H h19
  intro x12 y0 H
  refine sn [] [] [(9, cB (decide (x12 < (p0.length : Int))))] [] [] id ?_
  refine seq_in ?_
  rcases oC H with ⟨c14, H⟩ | ⟨c14, H⟩
  ·refine it c14 ?_
   refine sk ?_
   refine seq_in ?_
   refine ends_blk ?_
   refine sn [] [] [(5, cI x12)] [] [] id ?_
   obtain ⟨v15, h16, H⟩ := oB H
   refine sn [.cs (eI v15)] [] [(16, cB (p1 == v15))] [] [] (a2 eI h16) ?_
   rcases oC H with ⟨c17, H⟩ | ⟨c17, H⟩
   ·refine it c17 ?_
    refine so [] [] [(4, cI x12)] [] id ?_
    refine ends_ret ?_
    cases H
    exact rsr
   ·refine jf c17 ?_
    refine sk ?_
    refine oo [] [] [(0, dc 1 eI zI p0), (1, cI p1), (7, cL p0), (8, cI (W (x12 + 1)))] [] id ?_
    cases H
    exact rr
  ·refine jf c14 ?_
   refine tl [] [] [] id ?_
   refine ends_exit ?_
   cases H
   exact rse
 ·clear h19
  cases y18 with
  | inl y20 =>
   replace H := ofInl H
   rintro e s ⟨rfl, rfl⟩
   change EndsI _ _ _ _ _ _
   refine so [] [] [(4, cI (-1))] [] id ?_
   cases H
   exact er
  | inr y21 =>
   replace H := ofInr H
   rintro e s ⟨rfl, rfl⟩
   cases H
   exact qr
def g_Contains_int_ir : S :=
 (sq [o 4 (.mv bF)]
 (sq [om 5 0, om 6 1, o 7 (.call 216 [.t 5, .t 6]), o 8 (.bin .geq (.t 7) (iv 0)), om 4 8]
 .ret))
noncomputable def X.g_Contains_int (p0 : (List Int)) (p1 : Int) : Option Bool :=
 ((X.g_Index_int p0 p1).bind fun v1 => some (decide (v1 ≥ 0)))
theorem g_Contains_int_ok (p0 : (List Int)) (p1 : Int) (r : Bool) (H : X.g_Contains_int p0 p1 = some r) : FK 153 [.c (dat 1 eI zI p0), cI p1] (cB r) := by
 unfold X.g_Contains_int at H
 refine fi Tryz.f153 g_Contains_int_ir [(4, cB r)] [] glL Tryz.func153 ?_
 refine sn [] [] [] [] [] id ?_
 obtain ⟨v1, h2, H⟩ := oB H
 refine so [.res (cI v1)] [] [(4, cB (decide (v1 ≥ 0)))] [] (aI (g_Index_int_ok p0 p1 v1 h2)) ?_
 cases H
 exact er
def i_different_ir : S :=
 (sq [o 2 (.mv bF)]
 (.seq (sq [om 5 0, o 6 (.len (.t 5)), o 7 (.mv (iv 0))]
 (.blk 0 (.loop (sq [o 8 (.bin .lss (.t 7) (.t 6))]
   (.seq (.ite (.t 8) .skip
   (.exit 0))
   (.seq (.blk 1 (sq [om 9 7, o 10 (.iad 1 (.t 5) (.t 7)), ol 11 10, om 3 9, om 4 11]
    (sq [om 12 0, om 13 3, o 14 (.slc 1 (.t 12) none (some (.t 13))), om 15 4, o 16 (.call 153 [.t 14, .t 15])]
    (.ite (.t 16) (sq [o 2 (.mv bF)]
     .ret)
    .skip))))
   (.ops [o 17 (.bin .add (.t 7) (iv 1)), om 7 17])))))))
 (sq [o 2 (.mv bT)]
 .ret)))
noncomputable def X.i_different (p0 : (List Int)) : Option Bool :=
 ((loop (fun (x18 : Int) => ((bif (decide (x18 < (p0.length : Int))) then ((at' zI p0 x18).bind fun v21 => (if 0 ≤ (0 : Int) ∧ (0 : Int) ≤ x18 ∧ x18 ≤ (p0.length : Int) then ((X.g_Contains_int ((p0.drop (0 : Int).toNat).take (x18.toNat - (0 : Int).toNat)) v21).bind fun v24 => (bif v24 then some (Sum.inr (Sum.inr false)) else some (Sum.inl (W (x18 + 1))))) else none)) else some (Sum.inr (Sum.inl ()))) : Option (Int ⊕ (Unit ⊕ Bool)))) 0).bind fun y27 => (Sum.elim (fun (y29 : Unit) => some true) (fun (y30 : Bool) => some y30) y27))
theorem i_different_ok (p0 : (List Int)) (r : Bool) (H : X.i_different p0 = some r) : FK 237 [.c (dat 1 eI zI p0)] (cB r) := by
 unfold X.i_different at H
 refine fi Tryz.f237 i_different_ir [(2, cB r)] [] glL Tryz.func237 ?_
 refine sn [] [] [] [] [] id ?_
 refine seq_in ?_
 refine sn [] [] [(5, dc 1 eI zI p0), (6, cL p0), (7, cI 0)] [] [] (fun t => lI p0 (t)) ?_
 refine ends_blk ?_
 obtain ⟨y27, h28, H⟩ := oB H
 refine tl [] [(0, dc 1 eI zI p0), (5, dc 1 eI zI p0), (6, cL p0), (7, cI 0)] [] id ?_
 refine loop_in (fun (x : Int) => lit [(0, dc 1 eI zI p0), (5, dc 1 eI zI p0), (6, cL p0), (7, cI x)] []) (orJ (fun (z : Unit) => At (.exit 0) (lit [] [])) (fun (z : Bool) => At .ret (lit [(2, cB z)] []))) h28 ?_ ?_
 ·clear H h28
  intro x18 y0 H
  refine sn [] [] [(8, cB (decide (x18 < (p0.length : Int))))] [] [] id ?_
  refine seq_in ?_
  rcases oC H with ⟨c20, H⟩ | ⟨c20, H⟩
  ·refine it c20 ?_
   refine sk ?_
   refine seq_in ?_
   refine ends_blk ?_
   obtain ⟨v21, h22, H⟩ := oB H
   refine sn [.cs (eI v21)] [] [(3, cI x18), (4, cI v21)] [] [] (a2 eI h22) ?_
   obtain ⟨g23, H⟩ := oI H
   obtain ⟨v24, h25, H⟩ := oB H
   refine sn [fh eI zI ((p0.drop (0 : Int).toNat).take (x18.toNat - (0 : Int).toNat)), .res (cB v24)] [] [(16, cB v24)] [] [] (fun t => aI g23 (aI (len_drop p0 (0 : Int) x18 g23) (aI (fF_drop eI zI p0 (0 : Int) x18 g23) (aI (g_Contains_int_ok ((p0.drop (0 : Int).toNat).take (x18.toNat - (0 : Int).toNat)) v21 v24 h25) (t))))) ?_
   rcases oC H with ⟨c26, H⟩ | ⟨c26, H⟩
   ·refine it c26 ?_
    refine so [] [] [(2, cB false)] [] id ?_
    refine ends_ret ?_
    cases H
    exact rsr
   ·refine jf c26 ?_
    refine sk ?_
    refine oo [] [] [(0, dc 1 eI zI p0), (5, dc 1 eI zI p0), (6, cL p0), (7, cI (W (x18 + 1)))] [] id ?_
    cases H
    exact rr
  ·refine jf c20 ?_
   refine tl [] [] [] id ?_
   refine ends_exit ?_
   cases H
   exact rse
 ·clear h28
  cases y27 with
  | inl y29 =>
   replace H := ofInl H
   rintro e s ⟨rfl, rfl⟩
   change EndsI _ _ _ _ _ _
   refine so [] [] [(2, cB true)] [] id ?_
   cases H
   exact er
  | inr y30 =>
   replace H := ofInr H
   rintro e s ⟨rfl, rfl⟩
   cases H
   exact qr
def i_goodMachine_1_ir : S :=
 (sq [o 3 (.mv bF)]
 (sq [om 4 0, ol 5 1, o 6 (.len (.t 5)), o 7 (.call 84 [.t 4, .t 6]), o 8 (.not (.t 7)), om 3 8]
 .ret))
noncomputable def X.i_goodMachine_1 (p0 : Int) (p1 : (List TReaction)) : Option Bool :=
 ((X.i_isIndex p0 (p1.length : Int)).bind fun v1 => some (!v1))
theorem i_goodMachine_1_ok (p0 : Int) (p1 : (List TReaction)) (r : Bool) (H : X.i_goodMachine_1 p0 p1 = some r) : FK 238 [cI p0, .c (.pd (eLTReaction p1) 0)] (cB r) := by
 unfold X.i_goodMachine_1 at H
 refine fi Tryz.f238 i_goodMachine_1_ir [(3, cB r)] [] glL Tryz.func238 ?_
 refine sn [] [] [] [] [] id ?_
 obtain ⟨v1, h2, H⟩ := oB H
 refine so [.res (cB v1)] [] [(3, cB (!v1))] [] (fun t => lI p1 (aI (i_isIndex_ok p0 (p1.length : Int) v1 h2) (t))) ?_
 cases H
 exact er
def i_goodMachine_2_ir : S :=
 (sq [o 3 (.mv bF)]
 (sq [om 4 0, ol 5 1, o 6 (.len (.t 5)), o 7 (.bin .sub (.t 6) (iv 1)), o 8 (.call 94 [.t 4, .v (.int .i64 (-1)), .t 7]), o 9 (.not (.t 8)), om 3 9]
 .ret))
noncomputable def X.i_goodMachine_2 (p0 : Int) (p1 : (List TReaction)) : Option Bool :=
 ((X.i_inRange p0 (-1) (W ((p1.length : Int) - 1))).bind fun v1 => some (!v1))
theorem i_goodMachine_2_ok (p0 : Int) (p1 : (List TReaction)) (r : Bool) (H : X.i_goodMachine_2 p0 p1 = some r) : FK 239 [cI p0, .c (.pd (eLTReaction p1) 0)] (cB r) := by
 unfold X.i_goodMachine_2 at H
 refine fi Tryz.f239 i_goodMachine_2_ir [(3, cB r)] [] glL Tryz.func239 ?_
 refine sn [] [] [] [] [] id ?_
 obtain ⟨v1, h2, H⟩ := oB H
 refine so [.res (cB v1)] [] [(3, cB (!v1))] [] (fun t => lI p1 (aI (i_inRange_ok p0 (-1) (W ((p1.length : Int) - 1)) v1 h2) (t))) ?_
 cases H
 exact er
def i_goodStack_ir : S :=
 (sq [o 2 (.box 12 (.t 0)), o 3 (.box 6 (.t 1)), o 4 (.mv bF)]
 (sq [o 8 (.bsl 1 []), om 5 8]
 (.seq (sq [oa 9 0 3, ol 10 9, o 11 (.len (.t 10)), o 12 (.mv (iv 0))]
 (.blk 0 (.loop (sq [o 13 (.bin .lss (.t 12) (.t 11))]
   (.seq (.ite (.t 13) .skip
   (.exit 0))
   (.seq (.blk 1 (sq [om 14 12, o 15 (.iad 3 (.t 10) (.t 12)), o 16 (.load 3 true (.t 15)), o 7 (.alloc [.int .i64 0, .int .i64 0, .int .i64 0]), om 6 14, os 3 7 16]
    (.seq (.seq (.drw [(0, 2), (1, 2), (0, 3), (1, 3), (0, 4), (1, 4), (0, 5), (1, 5), (9, 11), (10, 11), (9, 12), (10, 12)] [oa 17 0 7, ol 18 17, oa 19 2 3, oa 20 2 19, ol 21 20, o 22 (.len (.t 21)), o 23 (.call 84 [.t 18, .t 22]), o 24 (.not (.t 23)), om 25 24, og 26 (.fad 1 (.t 7)) 25, og 27 (.load 1 false (.t 26)) 25, og 28 (.load 12 true (.t 2)) 25, og 29 (.call 85 [.t 28]) 25, og 30 (.call 84 [.t 27, .t 29]) 25, og 31 (.not (.t 30)) 25, o 32 (.pick (.t 25) bT (.t 31))])
    (.ite (.t 32) (sq [o 4 (.mv bF)]
     .ret)
    .skip))
    (.seq (sq [om 33 6, o 34 (.bin .eql (.t 33) (iv 0))]
    (.ite (.t 34) (.seq (sq [oa 35 2 7, ol 36 35, o 37 (.bin .neq (.t 36) (.v (.int .i64 (-1))))]
     (.ite (.t 37) (sq [o 4 (.mv bF)]
      .ret)
     .skip))
     (.exit 1))
    .skip))
    (.seq (sq [oa 38 1 3, ol 39 38, oa 40 2 7, ol 41 40, o 42 (.call 153 [.t 39, .t 41]), o 43 (.not (.t 42))]
    (.ite (.t 43) (sq [o 4 (.mv bF)]
     .ret)
    .skip))
    (.ops [om 44 5, oa 45 2 7, ol 46 45, o 47 (.bsl 1 [.t 46]), o 48 (.app 1 8 (.t 44) (.t 47)), om 5 48]))))))
   (.ops [o 49 (.bin .add (.t 12) (iv 1)), om 12 49])))))))
 (sq [om 50 5, o 51 (.call 237 [.t 50]), om 4 51]
 .ret))))
noncomputable def X.i_goodStack (p0 : TBoard) (p1 : TMachine) : Option Bool :=
 ((loop (fun (x58 : (Int × (List Int))) => ((bif (decide (x58.1 < (p1.Stack.length : Int))) then ((at' zTFrame p1.Stack x58.1).bind fun v61 => ((X.i_isIndex v61.Unit (p1.State.Units.length : Int)).bind fun v71 => (bif (!v71) then some (Sum.inr (Sum.inr false)) else ((X.i_sizeOf p0).bind fun v74 => ((X.i_isIndex v61.At v74).bind fun v76 => (bif (!v76) then some (Sum.inr (Sum.inr false)) else (bif (x58.1 == 0) then (bif (v61.By != (-1)) then some (Sum.inr (Sum.inr false)) else some (Sum.inl ((W (x58.1 + 1)), x58.2))) else ((X.g_Contains_int p1.Used v61.By).bind fun v83 => (bif (!v83) then some (Sum.inr (Sum.inr false)) else (if (x58.2 ++ ([v61.By] : List Int)).length ≤ LIM then some (Sum.inl ((W (x58.1 + 1)), (x58.2 ++ ([v61.By] : List Int)))) else none)))))))))) else some (Sum.inr (Sum.inl x58.2))) : Option ((Int × (List Int)) ⊕ ((List Int) ⊕ Bool)))) (0, ([] : List Int))).bind fun y87 => (Sum.elim (fun (y89 : (List Int)) => ((X.i_different y89).bind fun v91 => some v91)) (fun (y90 : Bool) => some y90) y87))
theorem i_goodStack_ok (p0 : TBoard) (p1 : TMachine) (r : Bool) (H : X.i_goodStack p0 p1 = some r) : FK 240 [.agg (eTBoard p0), .agg (eTMachine p1)] (cB r) := by
 unfold X.i_goodStack at H
 refine fi Tryz.f240 i_goodStack_ir [(4, cB r)] [] glL Tryz.func240 ?_
 refine so [] [] [(2, pk 2), (3, pk 3)] [(2, va (eTBoard p0)), (3, va (eTMachine p1))] id ?_
 refine sn [fh eI zI ([] : List Int)] [] [(5, ow 8 1 ([] : List Int))] [] [(8, ar 1 eI zI ([] : List Int))] (fun t => aI (rfl : ([] : List Int).length = 0) (aI (fF_lit eI zI ([] : List Int)) (t))) ?_
 refine seq_in ?_
 refine sn [] [] [(10, dc 3 eTFrame zTFrame p1.Stack), (11, cL p1.Stack), (12, cI 0)] [] [] (fun t => lI p1.Stack (t)) ?_
 refine ends_blk ?_
 obtain ⟨y87, h88, H⟩ := oB H
 refine tl [.ren 8 1001] [(2, pk 2), (3, pk 3), (5, ow 1001 1 ([] : List Int)), (10, dc 3 eTFrame zTFrame p1.Stack), (11, cL p1.Stack), (12, cI 0)] [(2, va (eTBoard p0)), (3, va (eTMachine p1)), (1001, ar 1 eI zI ([] : List Int))] id ?_
 refine loop_in (fun (x : (Int × (List Int))) => lit [(2, pk 2), (3, pk 3), (5, ow 1001 1 x.2), (10, dc 3 eTFrame zTFrame p1.Stack), (11, cL p1.Stack), (12, cI x.1)] [(2, va (eTBoard p0)), (3, va (eTMachine p1)), (1001, ar 1 eI zI x.2)]) (orJ (fun (z : (List Int)) => At (.exit 0) (lit [(5, ow 1001 1 z)] [(1001, ar 1 eI zI z)])) (fun (z : Bool) => At .ret (lit [(4, cB z)] []))) h88 ?_ ?_
 ·clear H h88
  intro x58 y0 H
  refine sn [] [] [(13, cB (decide (x58.1 < (p1.Stack.length : Int))))] [] [] id ?_
  refine seq_in ?_
  rcases oC H with ⟨c60, H⟩ | ⟨c60, H⟩
  ·refine it c60 ?_
   refine sk ?_
   refine seq_in ?_
   refine ends_blk ?_
   obtain ⟨v61, h62, H⟩ := oB H
   refine sn [.cs (eTFrame v61)] [] [(6, cI x58.1), (7, pk 7)] [] [(7, va (eTFrame v61))] (a2 eTFrame h62) ?_
   refine seq_in ?_
   obtain ⟨v71, h72, H⟩ := oB H
   rcases oC H with ⟨c73, H⟩ | ⟨c73, H⟩
   ·refine xn ([.res (cB v71)] ++ rg 7 true []) [] [(32, cB true)] [] [] (fun t => aI (i_isIndex_ok v61.Unit (p1.State.Units.length : Int) v71 h72) (aI trivial (aI rN (aG 7 c73 (t))))) ?_
    refine it rT ?_
    refine so [] [] [(4, cB false)] [] id ?_
    refine ends_ret ?_
    cases H
    exact rsr
   ·obtain ⟨v74, h75, H⟩ := oB H
    obtain ⟨v76, h77, H⟩ := oB H
    refine xn ([.res (cB v71)] ++ rg 4 false ([.res (cI v74), .g false, .res (cB v76)] ++ rg 2 false [])) [] [(32, cB (!v76))] [] [] (fun t => aI (i_isIndex_ok v61.Unit (p1.State.Units.length : Int) v71 h72) (aI trivial (aI rN (aG 4 c73 (aI (i_sizeOf_ok p0 v74 h75) (aI trivial (aI rN (aI c73 (aI (i_isIndex_ok v61.At v74 v76 h77) (aI trivial (aI rN (aG 2 c73 (t))))))))))))) ?_
    rcases oC H with ⟨c78, H⟩ | ⟨c78, H⟩
    ·refine it c78 ?_
     refine so [] [] [(4, cB false)] [] id ?_
     refine ends_ret ?_
     cases H
     exact rsr
    ·refine jf c78 ?_
     refine sk ?_
     refine seq_in ?_
     refine sn [] [] [(34, cB (x58.1 == 0))] [] [] id ?_
     rcases oC H with ⟨c81, H⟩ | ⟨c81, H⟩
     ·refine it c81 ?_
      refine seq_in ?_
      refine sn [] [] [(37, cB (v61.By != (-1)))] [] [] id ?_
      rcases oC H with ⟨c82, H⟩ | ⟨c82, H⟩
      ·refine it c82 ?_
       refine so [] [] [(4, cB false)] [] id ?_
       refine ends_ret ?_
       cases H
       exact rsr
      ·refine jf c82 ?_
       refine sk ?_
       refine ends_exit ?_
       change EndsI _ _ _ _ _ _
       refine oo [] [] [(2, pk 2), (3, pk 3), (5, ow 1001 1 x58.2), (10, dc 3 eTFrame zTFrame p1.Stack), (11, cL p1.Stack), (12, cI (W (x58.1 + 1)))] [(2, va (eTBoard p0)), (3, va (eTMachine p1)), (1001, ar 1 eI zI x58.2)] id ?_
       cases H
       exact rr
     ·refine jf c81 ?_
      refine sk ?_
      refine seq_in ?_
      obtain ⟨v83, h84, H⟩ := oB H
      refine sn [.res (cB v83)] [] [(43, cB (!v83))] [] [] (aI (g_Contains_int_ok p1.Used v61.By v83 h84)) ?_
      rcases oC H with ⟨c85, H⟩ | ⟨c85, H⟩
      ·refine it c85 ?_
       refine so [] [] [(4, cB false)] [] id ?_
       refine ends_ret ?_
       cases H
       exact rsr
      ·refine jf c85 ?_
       refine sk ?_
       obtain ⟨g86, H⟩ := oI H
       refine oo [fh eI zI ([v61.By] : List Int), fh eI zI (x58.2 ++ ([v61.By] : List Int))] [] [(2, pk 2), (3, pk 3), (5, ow 48 1 (x58.2 ++ ([v61.By] : List Int))), (10, dc 3 eTFrame zTFrame p1.Stack), (11, cL p1.Stack), (12, cI x58.1)] [(2, va (eTBoard p0)), (3, va (eTMachine p1)), (48, ar 1 eI zI (x58.2 ++ ([v61.By] : List Int)))] (fun t => aI (rfl : ([v61.By] : List Int).length = 1) (aI (fF_lit eI zI ([v61.By] : List Int)) (aI (And.intro (Nat.le_refl x58.2.length) (And.intro (@List.length_append _ x58.2 ([v61.By] : List Int)) g86)) (aI (fF_appL eI zI x58.2 ([v61.By] : List Int)) (aI (fF_appR eI zI x58.2 ([v61.By] : List Int)) (t)))))) ?_
       change EndsI _ _ _ _ _ _
       refine oo [] [.ren 48 1001] [(2, pk 2), (3, pk 3), (5, ow 1001 1 (x58.2 ++ ([v61.By] : List Int))), (10, dc 3 eTFrame zTFrame p1.Stack), (11, cL p1.Stack), (12, cI (W (x58.1 + 1)))] [(2, va (eTBoard p0)), (3, va (eTMachine p1)), (1001, ar 1 eI zI (x58.2 ++ ([v61.By] : List Int)))] id ?_
       cases H
       exact rr
  ·refine jf c60 ?_
   refine tl [] [(5, ow 1001 1 x58.2)] [(1001, ar 1 eI zI x58.2)] id ?_
   refine ends_exit ?_
   cases H
   exact rse
 ·clear h88
  cases y87 with
  | inl y89 =>
   replace H := ofInl H
   rintro e s ⟨rfl, rfl⟩
   change EndsI _ _ _ _ _ _
   obtain ⟨v91, h92, H⟩ := oB H
   refine so [.res (cB v91)] [] [(4, cB v91)] [] (fun t => aI (Nat.le_refl y89.length) (aI (i_different_ok y89 v91 h92) (t))) ?_
   cases H
   exact er
  | inr y90 =>
   replace H := ofInr H
   rintro e s ⟨rfl, rfl⟩
   cases H
   exact qr
def i_goodMachine_ir : S :=
 (sq [o 3 (.box 12 (.t 0)), o 4 (.box 1 (.t 1)), o 5 (.box 6 (.t 2)), o 6 (.mv bF)]
 (.seq (sq [o 7 (.load 12 true (.t 3)), oa 8 2 5, o 9 (.load 3 true (.t 8)), o 10 (.call 221 [.t 7, .t 9]), o 11 (.not (.t 10)), om 12 11, og 13 (.load 12 true (.t 3)) 12, og 14 (.fad 2 (.t 5)) 12, og 15 (.load 3 true (.t 14)) 12, og 16 (.load 1 false (.t 4)) 12, og 17 (.call 236 [.t 13, .t 15, .t 16]) 12, og 18 (.not (.t 17)) 12, o 19 (.pick (.t 12) bT (.t 18)), om 20 19, og 21 (.fad 1 (.t 5)) 20, og 22 (.load 1 false (.t 21)) 20, og 23 (.call 237 [.t 22]) 20, og 24 (.not (.t 23)) 20, o 25 (.pick (.t 20) bT (.t 24))]
 (.ite (.t 25) (sq [o 6 (.mv bF)]
  .ret)
 .skip))
 (.seq (sq [oa 26 1 5, ol 27 26, o 28 (.clo 238 [.t 4]), o 29 (.call 142 [.t 27, .t 28]), om 30 29, og 31 (.fad 5 (.t 5)) 30, og 32 (.load 1 false (.t 31)) 30, og 33 (.clo 239 [.t 4]) 30, og 34 (.call 142 [.t 32, .t 33]) 30, o 35 (.pick (.t 30) bT (.t 34))]
 (.ite (.t 35) (sq [o 6 (.mv bF)]
  .ret)
 .skip))
 (sq [o 36 (.load 12 true (.t 3)), o 37 (.load 6 true (.t 5)), o 38 (.call 240 [.t 36, .t 37]), om 39 38, oh 40 (.fad 0 (.t 5)) 39, oh 41 (.load 1 false (.t 40)) 39, oh 42 (.len (.t 41)) 39, oh 43 (.fad 5 (.t 5)) 39, oh 44 (.load 1 false (.t 43)) 39, oh 45 (.len (.t 44)) 39, oh 46 (.bin .add (.t 42) (.t 45)) 39, oh 47 (.fad 1 (.t 5)) 39, oh 48 (.load 1 false (.t 47)) 39, oh 49 (.len (.t 48)) 39, oh 50 (.bin .add (.t 49) (iv 1)) 39, oh 51 (.bin .leq (.t 46) (.t 50)) 39, o 52 (.pick (.t 39) (.t 51) bF), om 6 52]
 .ret))))
noncomputable def X.i_goodMachine (p0 : TBoard) (p1 : (List TReaction)) (p2 : TMachine) : Option Bool :=
 ((X.i_goodState p0 p2.State).bind fun v10 => (bif (!v10) then some false else ((X.i_goodReactions p0 p2.State p1).bind fun v13 => (bif (!v13) then some false else ((X.i_different p2.Used).bind fun v16 => (bif (!v16) then some false else ((X.g_ContainsFunc_int p2.Used (fun q0 => X.i_goodMachine_1 q0 p1)).bind fun v25 => (bif v25 then some false else ((X.g_ContainsFunc_int p2.Log (fun q0 => X.i_goodMachine_2 q0 p1)).bind fun v28 => (bif v28 then some false else ((X.i_goodStack p0 p2).bind fun v31 => (bif v31 then some (decide ((W ((p2.Stack.length : Int) + (p2.Log.length : Int))) ≤ (W ((p2.Used.length : Int) + 1)))) else some false))))))))))))
theorem i_goodMachine_ok (p0 : TBoard) (p1 : (List TReaction)) (p2 : TMachine) (r : Bool) (H : X.i_goodMachine p0 p1 p2 = some r) : FK 186 [.agg (eTBoard p0), .c (dat 3 eTReaction zTReaction p1), .agg (eTMachine p2)] (cB r) := by
 unfold X.i_goodMachine at H
 refine fi Tryz.f186 i_goodMachine_ir [(6, cB r)] [] glL Tryz.func186 ?_
 refine so [] [] [(3, pk 3), (4, pk 4), (5, pk 5)] [(3, va (eTBoard p0)), (4, .var [dat 3 eTReaction zTReaction p1] false), (5, va (eTMachine p2))] id ?_
 refine seq_in ?_
 obtain ⟨v10, h11, H⟩ := oB H
 rcases oC H with ⟨c12, H⟩ | ⟨c12, H⟩
 ·refine sn ([.res (cB v10)] ++ rg 12 true []) [] [(25, cB true)] [] [] (fun t => aI (i_goodState_ok p0 p2.State v10 h11) (aG 7 c12 (aG 5 rT (t)))) ?_
  refine it rT ?_
  refine so [] [] [(6, cB false)] [] id ?_
  cases H
  exact er
 ·obtain ⟨v13, h14, H⟩ := oB H
  rcases oC H with ⟨c15, H⟩ | ⟨c15, H⟩
  ·refine sn ([.res (cB v10)] ++ rg 5 false ([.res (cB v13)] ++ rg 2 false (rg 5 true []))) [] [(25, cB true)] [] [] (fun t => aI (i_goodState_ok p0 p2.State v10 h11) (aG 5 c12 (aI (i_goodReactions_ok p0 p2.State p1 v13 h14) (aG 2 c12 (aG 5 c15 (t)))))) ?_
   refine it rT ?_
   refine so [] [] [(6, cB false)] [] id ?_
   cases H
   exact er
  ·obtain ⟨v16, h17, H⟩ := oB H
   refine sn ([.res (cB v10)] ++ rg 5 false ([.res (cB v13)] ++ rg 5 false ([.res (cB v16)] ++ rg 2 false []))) [] [(25, cB (!v16))] [] [] (fun t => aI (i_goodState_ok p0 p2.State v10 h11) (aG 5 c12 (aI (i_goodReactions_ok p0 p2.State p1 v13 h14) (aG 2 c12 (aG 3 c15 (aI (i_different_ok p2.Used v16 h17) (aG 2 c15 (t)))))))) ?_
   rcases oC H with ⟨c18, H⟩ | ⟨c18, H⟩
   ·refine it c18 ?_
    refine so [] [] [(6, cB false)] [] id ?_
    cases H
    exact er
   ·refine jf c18 ?_
    refine sk ?_
    refine seq_in ?_
    obtain ⟨v25, h26, H⟩ := oB H
    rcases oC H with ⟨c27, H⟩ | ⟨c27, H⟩
    ·refine sn ([.res (cB v25)] ++ rg 5 true []) [] [(35, cB true)] [] [] (fun t => aI (g_ContainsFunc_int_c1_ok p2.Used (238) (eLTReaction p1) (fun q0 => X.i_goodMachine_1 q0 p1) (fun q0 r h => i_goodMachine_1_ok q0 p1 r h) v25 h26) (aG 5 c27 (t))) ?_
     refine it rT ?_
     refine so [] [] [(6, cB false)] [] id ?_
     cases H
     exact er
    ·obtain ⟨v28, h29, H⟩ := oB H
     refine sn ([.res (cB v25)] ++ rg 4 false [.res (cB v28), .g false]) [] [(35, cB v28)] [] [] (fun t => aI (g_ContainsFunc_int_c1_ok p2.Used (238) (eLTReaction p1) (fun q0 => X.i_goodMachine_1 q0 p1) (fun q0 r h => i_goodMachine_1_ok q0 p1 r h) v25 h26) (aG 4 c27 (aI (g_ContainsFunc_int_c1_ok p2.Log (239) (eLTReaction p1) (fun q0 => X.i_goodMachine_2 q0 p1) (fun q0 r h => i_goodMachine_2_ok q0 p1 r h) v28 h29) (aI c27 (t))))) ?_
     rcases oC H with ⟨c30, H⟩ | ⟨c30, H⟩
     ·refine it c30 ?_
      refine so [] [] [(6, cB false)] [] id ?_
      cases H
      exact er
     ·refine jf c30 ?_
      refine sk ?_
      obtain ⟨v31, h32, H⟩ := oB H
      rcases oC H with ⟨c33, H⟩ | ⟨c33, H⟩
      ·refine so ([.res (cB v31)] ++ rg 13 true []) [] [(6, cB (decide ((W ((p2.Stack.length : Int) + (p2.Log.length : Int))) ≤ (W ((p2.Used.length : Int) + 1)))))] [] (fun t => aI (i_goodStack_ok p0 p2 v31 h32) (aG 3 c33 (lI p2.Stack (aG 3 c33 (lI p2.Log (aG 4 c33 (lI p2.Used (aG 3 c33 (t))))))))) ?_
       cases H
       exact er
      ·refine so ([.res (cB v31)] ++ rg 13 false []) [] [(6, cB false)] [] (fun t => aI (i_goodStack_ok p0 p2 v31 h32) (aG 13 c33 (t))) ?_
       cases H
       exact er
def i_hasMachine_ir : S :=
 (sq [o 3 (.box 12 (.t 0)), o 5 (.box 6 (.t 2)), o 6 (.mv bF)]
 (sq [o 7 (.load 12 true (.t 3)), o 8 (.call 62 [.t 7]), om 9 8, oh 10 (.load 12 true (.t 3)) 9, oh 11 (.mv (.t 1)) 9, oh 12 (.load 6 true (.t 5)) 9, oh 13 (.call 186 [.t 10, .t 11, .t 12]) 9, o 14 (.pick (.t 9) (.t 13) bF), om 6 14]
 .ret))
noncomputable def X.i_hasMachine (p0 : TBoard) (p1 : (List TReaction)) (p2 : TMachine) : Option Bool :=
 ((X.i_IsBoard p0).bind fun v1 => (bif v1 then ((X.i_goodMachine p0 p1 p2).bind fun v4 => some v4) else some false))
theorem i_hasMachine_ok (p0 : TBoard) (p1 : (List TReaction)) (p2 : TMachine) (r : Bool) (H : X.i_hasMachine p0 p1 p2 = some r) : FK 112 [.agg (eTBoard p0), .c (dat 3 eTReaction zTReaction p1), .agg (eTMachine p2)] (cB r) := by
 unfold X.i_hasMachine at H
 refine fi Tryz.f112 i_hasMachine_ir [(6, cB r)] [] glL Tryz.func112 ?_
 refine sn [] [] [(3, pk 3), (5, pk 5)] [] [(3, va (eTBoard p0)), (5, va (eTMachine p2))] id ?_
 obtain ⟨v1, h2, H⟩ := oB H
 rcases oC H with ⟨c3, H⟩ | ⟨c3, H⟩
 ·obtain ⟨v4, h5, H⟩ := oB H
  refine so ([.res (cB v1)] ++ rg 4 true [.res (cB v4), .g true]) [] [(6, cB v4)] [] (fun t => aI (i_IsBoard_ok p0 v1 h2) (aG 4 c3 (aI (i_goodMachine_ok p0 p1 p2 v4 h5) (aI c3 (t))))) ?_
  cases H
  exact er
 ·refine so ([.res (cB v1)] ++ rg 5 false []) [] [(6, cB false)] [] (fun t => aI (i_IsBoard_ok p0 v1 h2) (aG 5 c3 (t))) ?_
  cases H
  exact er
def g_Clone_int_ir : S :=
 (sq [o 2 (.mv (.v (.nil)))]
 (.seq (sq [om 3 0, o 4 (.isn false (.t 3))]
 (.ite (.t 4) (sq [o 2 (.mv (.v (.nil)))]
  .ret)
 .skip))
 (sq [o 5 (.bsl 1 []), om 6 0, o 7 (.app 1 8 (.t 5) (.t 6)), om 2 7]
 .ret)))
noncomputable def X.g_Clone_int (p0 : (List Int)) : Option (List Int) :=
 (if (([] : List Int) ++ p0).length ≤ LIM then some (([] : List Int) ++ p0) else none)
theorem g_Clone_int_Md_ok (p0 : (List Int)) (r : (List Int)) (H : X.g_Clone_int p0 = some r) : FnMu Tryz.prog gl 102 [.c (dat 1 eI zI p0)] [] (.c (.own 900000 1 0 r.length)) [(900000, .arr 1 r.length (fF eI zI r) false)] := by
 unfold X.g_Clone_int at H
 refine fn_mu (fn := Tryz.f102) (ir := g_Clone_int_ir) (E' := [(2, ow 900000 1 r)]) (E1 := [(900000, ar 1 eI zI r)]) glL Tryz.func102 (by kernel_rfl) (by kernel_rfl) (by kernel_rfl) (by kernel_rfl) (by kernel_rfl) ?_
 refine tl [] [(0, dc 1 eI zI p0)] [] id ?_
 refine split_nil (fun h0 => ?_) ?_
 ·obtain rfl := List.eq_nil_of_length_eq_zero h0
  replace H : (some ([] : List Int) : Option (List Int)) = some r := by simpa [LIM] using H
  refine sn [] [] [] [] [] id ?_
  refine seq_in ?_
  refine sn [] [] [(4, cB true)] [] [] id ?_
  refine it rT ?_
  refine so [] [] [(2, .c (.nil))] [] id ?_
  refine tl [.nlo 2 900000 1 (fF eI zI ([] : List Int))] [(2, ow 900000 1 ([] : List Int))] [(900000, ar 1 eI zI ([] : List Int))] (aI (by decide : 0 < 1)) ?_
  cases H
  exact er
 ·refine sn [] [] [] [] [] id ?_
  refine seq_in ?_
  refine sn [] [] [(4, cB false)] [] [] id ?_
  refine jf rF ?_
  refine sk ?_
  obtain ⟨g1, H⟩ := oI H
  refine so [fh eI zI ([] : List Int), fh eI zI (([] : List Int) ++ p0)] [] [(2, ow 7 1 (([] : List Int) ++ p0))] [(7, ar 1 eI zI (([] : List Int) ++ p0))] (fun t => aI (rfl : ([] : List Int).length = 0) (aI (fF_lit eI zI ([] : List Int)) (aI (And.intro (Nat.le_refl (([] : List Int).length)) (And.intro (@List.length_append _ ([] : List Int) p0) g1)) (aI (fF_appL eI zI ([] : List Int) p0) (aI (fF_appR eI zI ([] : List Int) p0) (t)))))) ?_
  refine tl [.ren 7 900000] [(2, ow 900000 1 (([] : List Int) ++ p0))] [(900000, ar 1 eI zI (([] : List Int) ++ p0))] id ?_
  cases H
  exact er
def g_Clone_Unit_ir : S :=
 (sq [o 2 (.mv (.v (.nil)))]
 (.seq (sq [om 3 0, o 4 (.isn false (.t 3))]
 (.ite (.t 4) (sq [o 2 (.mv (.v (.nil)))]
  .ret)
 .skip))
 (sq [o 5 (.bsl 4 []), om 6 0, o 7 (.app 4 32 (.t 5) (.t 6)), om 2 7]
 .ret)))
noncomputable def X.g_Clone_Unit (p0 : (List TUnit)) : Option (List TUnit) :=
 (if (([] : List TUnit) ++ p0).length ≤ LIM then some (([] : List TUnit) ++ p0) else none)
theorem g_Clone_Unit_Md_ok (p0 : (List TUnit)) (r : (List TUnit)) (H : X.g_Clone_Unit p0 = some r) : FnMu Tryz.prog gl 222 [.c (dat 4 eTUnit zTUnit p0)] [] (.c (.own 900000 4 0 r.length)) [(900000, .arr 4 r.length (fF eTUnit zTUnit r) false)] := by
 unfold X.g_Clone_Unit at H
 refine fn_mu (fn := Tryz.f222) (ir := g_Clone_Unit_ir) (E' := [(2, ow 900000 4 r)]) (E1 := [(900000, ar 4 eTUnit zTUnit r)]) glL Tryz.func222 (by kernel_rfl) (by kernel_rfl) (by kernel_rfl) (by kernel_rfl) (by kernel_rfl) ?_
 refine tl [] [(0, dc 4 eTUnit zTUnit p0)] [] id ?_
 refine split_nil (fun h0 => ?_) ?_
 ·obtain rfl := List.eq_nil_of_length_eq_zero h0
  replace H : (some ([] : List TUnit) : Option (List TUnit)) = some r := by simpa [LIM] using H
  refine sn [] [] [] [] [] id ?_
  refine seq_in ?_
  refine sn [] [] [(4, cB true)] [] [] id ?_
  refine it rT ?_
  refine so [] [] [(2, .c (.nil))] [] id ?_
  refine tl [.nlo 2 900000 4 (fF eTUnit zTUnit ([] : List TUnit))] [(2, ow 900000 4 ([] : List TUnit))] [(900000, ar 4 eTUnit zTUnit ([] : List TUnit))] (aI (by decide : 0 < 4)) ?_
  cases H
  exact er
 ·refine sn [] [] [] [] [] id ?_
  refine seq_in ?_
  refine sn [] [] [(4, cB false)] [] [] id ?_
  refine jf rF ?_
  refine sk ?_
  obtain ⟨g1, H⟩ := oI H
  refine so [fh eTUnit zTUnit ([] : List TUnit), fh eTUnit zTUnit (([] : List TUnit) ++ p0)] [] [(2, ow 7 4 (([] : List TUnit) ++ p0))] [(7, ar 4 eTUnit zTUnit (([] : List TUnit) ++ p0))] (fun t => aI (rfl : ([] : List TUnit).length = 0) (aI (fF_lit eTUnit zTUnit ([] : List TUnit)) (aI (And.intro (Nat.le_refl (([] : List TUnit).length)) (And.intro (@List.length_append _ ([] : List TUnit) p0) g1)) (aI (fF_appL eTUnit zTUnit ([] : List TUnit) p0) (aI (fF_appR eTUnit zTUnit ([] : List TUnit) p0) (t)))))) ?_
  refine tl [.ren 7 900000] [(2, ow 900000 4 (([] : List TUnit) ++ p0))] [(900000, ar 4 eTUnit zTUnit (([] : List TUnit) ++ p0))] id ?_
  cases H
  exact er
def i_cloneState_ir : S :=
 (sq [o 1 (.box 3 (.t 0)), o 2 (.alloc [.int .i64 0, .int .i64 0, .nil])]
 (sq [oa 3 2 1, ol 4 3, o 5 (.call 222 [.t 4]), oa 6 2 1, os 1 6 5]
 (sq [o 7 (.load 3 true (.t 1)), os 3 2 7]
 .ret)))
noncomputable def X.i_cloneState (p0 : TState) : Option TState :=
 ((X.g_Clone_Unit p0.Units).bind fun v1 => some (TState.mk p0.Turn p0.Weather v1))
theorem i_cloneState_Md_ok (p0 : TState) (r : TState) (H : X.i_cloneState p0 = some r) : FnMu Tryz.prog gl 167 [.agg (eTState p0)] [] (.agg [.int .i64 r.Turn, .int .i64 r.Weather, .own 900000 4 0 r.Units.length]) [(2, .var [.int .i64 r.Turn, .int .i64 r.Weather, .own 900000 4 0 r.Units.length] false), (900000, .arr 4 r.Units.length (fF eTUnit zTUnit r.Units) false)] := by
 unfold X.i_cloneState at H
 refine fn_mu (fn := Tryz.f167) (ir := i_cloneState_ir) (E' := [(2, pk 2)]) (E1 := [(2, .var [jI r.Turn, jI r.Weather, .own 900000 4 0 r.Units.length] false), (900000, ar 4 eTUnit zTUnit r.Units)]) glL Tryz.func167 (by kernel_rfl) (by kernel_rfl) (by kernel_rfl) (by kernel_rfl) (by kernel_rfl) ?_
 refine so [] [] [(1, pk 1), (2, pk 2)] [(1, va (eTState p0)), (2, .var [jI 0, jI 0, .nil] false)] id ?_
 obtain ⟨v1, h2, H⟩ := oB H
 refine sn [.mu [] [(900000, 1001)] (ow 900000 4 v1) [(900000, ar 4 eTUnit zTUnit v1)]] [] [] [1] [(1, .var [jI p0.Turn, jI p0.Weather, .own 1001 4 0 v1.length] false), (1001, ar 4 eTUnit zTUnit v1)] (aI (g_Clone_Unit_Md_ok p0.Units v1 h2)) ?_
 refine sn [] [] [] [2] [(2, .var [jI p0.Turn, jI p0.Weather, .own 1001 4 0 v1.length] false)] id ?_
 refine tl [.ren 1001 900000] [(2, pk 2)] [(2, .var [jI p0.Turn, jI p0.Weather, .own 900000 4 0 v1.length] false), (900000, ar 4 eTUnit zTUnit v1)] id ?_
 cases H
 exact er
def g_Clone_Frame_ir : S :=
 (sq [o 2 (.mv (.v (.nil)))]
 (.seq (sq [om 3 0, o 4 (.isn false (.t 3))]
 (.ite (.t 4) (sq [o 2 (.mv (.v (.nil)))]
  .ret)
 .skip))
 (sq [o 5 (.bsl 3 []), om 6 0, o 7 (.app 3 24 (.t 5) (.t 6)), om 2 7]
 .ret)))
noncomputable def X.g_Clone_Frame (p0 : (List TFrame)) : Option (List TFrame) :=
 (if (([] : List TFrame) ++ p0).length ≤ LIM then some (([] : List TFrame) ++ p0) else none)
theorem g_Clone_Frame_Md_ok (p0 : (List TFrame)) (r : (List TFrame)) (H : X.g_Clone_Frame p0 = some r) : FnMu Tryz.prog gl 187 [.c (dat 3 eTFrame zTFrame p0)] [] (.c (.own 900000 3 0 r.length)) [(900000, .arr 3 r.length (fF eTFrame zTFrame r) false)] := by
 unfold X.g_Clone_Frame at H
 refine fn_mu (fn := Tryz.f187) (ir := g_Clone_Frame_ir) (E' := [(2, ow 900000 3 r)]) (E1 := [(900000, ar 3 eTFrame zTFrame r)]) glL Tryz.func187 (by kernel_rfl) (by kernel_rfl) (by kernel_rfl) (by kernel_rfl) (by kernel_rfl) ?_
 refine tl [] [(0, dc 3 eTFrame zTFrame p0)] [] id ?_
 refine split_nil (fun h0 => ?_) ?_
 ·obtain rfl := List.eq_nil_of_length_eq_zero h0
  replace H : (some ([] : List TFrame) : Option (List TFrame)) = some r := by simpa [LIM] using H
  refine sn [] [] [] [] [] id ?_
  refine seq_in ?_
  refine sn [] [] [(4, cB true)] [] [] id ?_
  refine it rT ?_
  refine so [] [] [(2, .c (.nil))] [] id ?_
  refine tl [.nlo 2 900000 3 (fF eTFrame zTFrame ([] : List TFrame))] [(2, ow 900000 3 ([] : List TFrame))] [(900000, ar 3 eTFrame zTFrame ([] : List TFrame))] (aI (by decide : 0 < 3)) ?_
  cases H
  exact er
 ·refine sn [] [] [] [] [] id ?_
  refine seq_in ?_
  refine sn [] [] [(4, cB false)] [] [] id ?_
  refine jf rF ?_
  refine sk ?_
  obtain ⟨g1, H⟩ := oI H
  refine so [fh eTFrame zTFrame ([] : List TFrame), fh eTFrame zTFrame (([] : List TFrame) ++ p0)] [] [(2, ow 7 3 (([] : List TFrame) ++ p0))] [(7, ar 3 eTFrame zTFrame (([] : List TFrame) ++ p0))] (fun t => aI (rfl : ([] : List TFrame).length = 0) (aI (fF_lit eTFrame zTFrame ([] : List TFrame)) (aI (And.intro (Nat.le_refl (([] : List TFrame).length)) (And.intro (@List.length_append _ ([] : List TFrame) p0) g1)) (aI (fF_appL eTFrame zTFrame ([] : List TFrame) p0) (aI (fF_appR eTFrame zTFrame ([] : List TFrame) p0) (t)))))) ?_
  refine tl [.ren 7 900000] [(2, ow 900000 3 (([] : List TFrame) ++ p0))] [(900000, ar 3 eTFrame zTFrame (([] : List TFrame) ++ p0))] id ?_
  cases H
  exact er
def i_cloneMachine_ir : S :=
 (sq [o 1 (.box 6 (.t 0)), o 2 (.alloc [.nil, .nil, .int .i64 0, .int .i64 0, .nil, .nil])]
 (.seq (.drw [(0, 3), (1, 3), (2, 3), (0, 4), (1, 4), (2, 4), (0, 6), (1, 6), (2, 6), (3, 6), (4, 6), (5, 6), (0, 7), (1, 7), (2, 7), (3, 7), (4, 7), (5, 7), (0, 9), (1, 9), (2, 9), (3, 9), (4, 9), (5, 9), (6, 9), (7, 9), (8, 9), (0, 10), (1, 10), (2, 10), (3, 10), (4, 10), (5, 10), (6, 10), (7, 10), (8, 10)] [oa 3 0 1, ol 4 3, o 5 (.call 187 [.t 4]), oa 6 1 1, ol 7 6, o 8 (.call 102 [.t 7]), oa 9 2 1, o 10 (.load 3 true (.t 9)), o 11 (.call 167 [.t 10]), oa 12 5 1, ol 13 12, o 14 (.call 102 [.t 13]), o 15 (.build [.nil, .nil, .int .i64 0, .int .i64 0, .nil, .nil] [(0, 1, .t 5), (1, 1, .t 8), (2, 3, .t 11), (5, 1, .t 14)]), os 6 2 15])
 .ret))
noncomputable def X.i_cloneMachine (p0 : TMachine) : Option TMachine :=
 ((X.g_Clone_Frame p0.Stack).bind fun v1 => ((X.g_Clone_int p0.Used).bind fun v3 => ((X.i_cloneState p0.State).bind fun v5 => ((X.g_Clone_int p0.Log).bind fun v7 => some (TMachine.mk v1 v3 v5 v7)))))
theorem i_cloneMachine_Md_ok (p0 : TMachine) (r : TMachine) (H : X.i_cloneMachine p0 = some r) : FnMu Tryz.prog gl 113 [.agg (eTMachine p0)] [] (.agg (wTMachine 900000 900001 900002 900003 r)) [(2, .var (wTMachine 900000 900001 900002 900003 r) false), (900000, .arr 3 r.Stack.length (fF eTFrame zTFrame r.Stack) false), (900001, .arr 1 r.Used.length (fF eI zI r.Used) false), (900002, .arr 4 r.State.Units.length (fF eTUnit zTUnit r.State.Units) false), (900003, .arr 1 r.Log.length (fF eI zI r.Log) false)] := by
 unfold X.i_cloneMachine at H
 refine fn_mu (fn := Tryz.f113) (ir := i_cloneMachine_ir) (E' := [(2, pk 2)]) (E1 := [(2, va (wTMachine 900000 900001 900002 900003 r)), (900000, ar 3 eTFrame zTFrame r.Stack), (900001, ar 1 eI zI r.Used), (900002, ar 4 eTUnit zTUnit r.State.Units), (900003, ar 1 eI zI r.Log)]) glL Tryz.func113 (by kernel_rfl) (by kernel_rfl) (by kernel_rfl) (by kernel_rfl) (by kernel_rfl) ?_
 refine so [] [] [(1, pk 1), (2, pk 2)] [(1, va (eTMachine p0)), (2, .var [.nil, .nil, jI 0, jI 0, .nil, .nil] false)] id ?_
 obtain ⟨v1, h2, H⟩ := oB H
 obtain ⟨v3, h4, H⟩ := oB H
 obtain ⟨v5, h6, H⟩ := oB H
 obtain ⟨v7, h8, H⟩ := oB H
 refine xn [.mu [] [(900000, 1001)] (ow 900000 3 v1) [(900000, ar 3 eTFrame zTFrame v1)], .mu [] [(900000, 1002)] (ow 900000 1 v3) [(900000, ar 1 eI zI v3)], .mu [] [(2, 1003), (900000, 1004)] (.agg [jI v5.Turn, jI v5.Weather, .own 900000 4 0 v5.Units.length]) [(2, .var [jI v5.Turn, jI v5.Weather, .own 900000 4 0 v5.Units.length] false), (900000, ar 4 eTUnit zTUnit v5.Units)], .mu [] [(900000, 1005)] (ow 900000 1 v7) [(900000, ar 1 eI zI v7)]] [] [] [2] [(2, .var [.own 1001 3 0 v1.length, .own 1002 1 0 v3.length, jI v5.Turn, jI v5.Weather, .own 1004 4 0 v5.Units.length, .own 1005 1 0 v7.length] false), (1001, ar 3 eTFrame zTFrame v1), (1002, ar 1 eI zI v3), (1004, ar 4 eTUnit zTUnit v5.Units), (1005, ar 1 eI zI v7)] (fun t => aI (g_Clone_Frame_Md_ok p0.Stack v1 h2) (aI (g_Clone_int_Md_ok p0.Used v3 h4) (aI (i_cloneState_Md_ok p0.State v5 h6) (aI (g_Clone_int_Md_ok p0.Log v7 h8) (t))))) ?_
 refine tl [.ren 1001 900000, .ren 1002 900001, .ren 1004 900002, .ren 1005 900003] [(2, pk 2)] [(2, .var [.own 900000 3 0 v1.length, .own 900001 1 0 v3.length, jI v5.Turn, jI v5.Weather, .own 900002 4 0 v5.Units.length, .own 900003 1 0 v7.length] false), (900000, ar 3 eTFrame zTFrame v1), (900001, ar 1 eI zI v3), (900002, ar 4 eTUnit zTUnit v5.Units), (900003, ar 1 eI zI v7)] id ?_
 cases H
 exact er
def i_absOf_ir : S :=
 (sq [o 2 (.mv (iv 0))]
 (.seq (sq [om 3 0, o 4 (.bin .lss (.t 3) (iv 0))]
 (.ite (.t 4) (sq [om 5 0, o 6 (.neg (.t 5)), om 2 6]
  .ret)
 .skip))
 (sq [om 7 0, om 2 7]
 .ret)))
noncomputable def X.i_absOf (p0 : Int) : Option Int :=
 (bif (decide (p0 < 0)) then some (W (0 - p0)) else some p0)
theorem i_absOf_ok (p0 : Int) (r : Int) (H : X.i_absOf p0 = some r) : FK 281 [cI p0] (cI r) := by
 unfold X.i_absOf at H
 refine fi Tryz.f281 i_absOf_ir [(2, cI r)] [] glL Tryz.func281 ?_
 refine sn [] [] [] [] [] id ?_
 refine seq_in ?_
 refine sn [] [] [(4, cB (decide (p0 < 0)))] [] [] id ?_
 rcases oC H with ⟨c1, H⟩ | ⟨c1, H⟩
 ·refine it c1 ?_
  refine so [] [] [(2, cI (W (0 - p0)))] [] id ?_
  cases H
  exact er
 ·refine jf c1 ?_
  refine sk ?_
  refine so [] [] [(2, cI p0)] [] id ?_
  cases H
  exact er
def i_distance_ir : S :=
 (sq [o 2 (.box 2 (.t 0)), o 3 (.box 2 (.t 1)), o 4 (.mv (iv 0))]
 (.seq (.drw [(0, 2), (1, 2), (0, 3), (1, 3), (0, 5), (1, 5), (2, 5), (3, 5), (4, 5), (0, 6), (1, 6), (2, 6), (3, 6), (4, 6), (0, 7), (1, 7), (2, 7), (3, 7), (4, 7), (5, 7), (6, 7), (0, 8), (1, 8), (2, 8), (3, 8), (4, 8), (5, 8), (6, 8), (0, 9), (1, 9), (2, 9), (3, 9), (4, 9), (5, 10), (6, 10), (7, 10), (8, 10), (9, 10)] [oa 7 0 3, ol 8 7, oa 9 0 2, ol 10 9, o 11 (.bin .sub (.t 8) (.t 10)), oa 12 1 3, ol 13 12, oa 14 1 2, ol 15 14, o 16 (.bin .sub (.t 13) (.t 15)), om 5 11, om 6 16])
 (sq [om 17 5, o 18 (.call 281 [.t 17]), om 19 6, o 20 (.call 281 [.t 19]), o 21 (.bin .add (.t 18) (.t 20)), om 22 5, om 23 6, o 24 (.bin .add (.t 22) (.t 23)), o 25 (.call 281 [.t 24]), o 26 (.bin .add (.t 21) (.t 25)), o 27 (.bin .quo (.t 26) (iv 2)), om 4 27]
 .ret)))
noncomputable def X.i_distance (p0 : THex) (p1 : THex) : Option Int :=
 ((X.i_absOf (W (p1.Q - p0.Q))).bind fun v1 => ((X.i_absOf (W (p1.R - p0.R))).bind fun v3 => ((X.i_absOf (W ((W (p1.Q - p0.Q)) + (W (p1.R - p0.R))))).bind fun v5 => some (W (Int.tdiv (W ((W (v1 + v3)) + v5)) 2)))))
theorem i_distance_ok (p0 : THex) (p1 : THex) (r : Int) (H : X.i_distance p0 p1 = some r) : FK 241 [.agg (eTHex p0), .agg (eTHex p1)] (cI r) := by
 unfold X.i_distance at H
 refine fi Tryz.f241 i_distance_ir [(4, cI r)] [] glL Tryz.func241 ?_
 refine so [] [] [(2, pk 2), (3, pk 3)] [(2, va (eTHex p0)), (3, va (eTHex p1))] id ?_
 refine sx [] [] [(5, cI (W (p1.Q - p0.Q))), (6, cI (W (p1.R - p0.R)))] [] id ?_
 obtain ⟨v1, h2, H⟩ := oB H
 obtain ⟨v3, h4, H⟩ := oB H
 obtain ⟨v5, h6, H⟩ := oB H
 refine so [.res (cI v1), .res (cI v3), .res (cI v5)] [] [(4, cI (W (Int.tdiv (W ((W (v1 + v3)) + v5)) 2)))] [] (fun t => aI (i_absOf_ok (W (p1.Q - p0.Q)) v1 h2) (aI (i_absOf_ok (W (p1.R - p0.R)) v3 h4) (aI (i_absOf_ok (W ((W (p1.Q - p0.Q)) + (W (p1.R - p0.R)))) v5 h6) (aI (by decide : (2 : Int) ≠ 0) (t))))) ?_
 cases H
 exact er
def i_nextReaction_ir : S :=
 (sq [o 3 (.box 12 (.t 0)), o 5 (.box 6 (.t 2)), o 6 (.mv (iv 0))]
 (.seq (sq [oa 11 0 5, ol 12 11, o 13 (.len (.t 12)), o 14 (.bin .eql (.t 13) (iv 0))]
 (.ite (.t 14) (sq [o 6 (.mv (.v (.int .i64 (-1))))]
  .ret)
 .skip))
 (sq [oa 15 0 5, ol 16 15, oa 17 0 5, ol 18 17, o 19 (.len (.t 18)), o 20 (.bin .sub (.t 19) (iv 1)), o 21 (.iad 3 (.t 16) (.t 20)), o 22 (.load 3 true (.t 21)), o 7 (.alloc [.int .i64 0, .int .i64 0, .int .i64 0]), os 3 7 22]
 (.seq (sq [om 23 1, o 24 (.len (.t 23)), o 25 (.mv (iv 0))]
 (.blk 0 (.loop (sq [o 26 (.bin .lss (.t 25) (.t 24))]
   (.seq (.ite (.t 26) .skip
   (.exit 0))
   (.seq (.blk 1 (sq [om 27 25, o 28 (.iad 3 (.t 23) (.t 25)), o 29 (.load 3 true (.t 28)), o 9 (.alloc [.int .i64 0, .int .i64 0, .int .i64 0]), om 8 27, os 3 9 29]
    (sq [oa 30 2 5, oa 31 2 30, ol 32 31, oa 33 0 9, ol 34 33, o 35 (.iad 4 (.t 32) (.t 34)), o 36 (.load 4 true (.t 35)), o 10 (.alloc [.int .i64 0, .int .i64 0, .int .i64 0, .int .i64 0]), os 4 10 36]
    (.seq (.seq (.drw [(0, 2), (1, 2), (5, 8), (6, 8), (7, 8), (5, 9), (6, 9), (7, 9), (5, 13), (6, 13), (7, 13), (8, 13), (9, 13), (10, 13), (11, 13), (12, 13), (5, 14), (6, 14), (7, 14), (8, 14), (9, 14), (10, 14), (11, 14), (12, 14), (18, 20), (19, 20), (18, 21), (19, 21)] [oa 37 1 5, ol 38 37, om 39 8, o 40 (.call 153 [.t 38, .t 39]), om 41 40, og 42 (.fad 2 (.t 5)) 41, og 43 (.fad 2 (.t 42)) 41, og 44 (.load 1 false (.t 43)) 41, og 45 (.fad 0 (.t 7)) 41, og 46 (.load 1 false (.t 45)) 41, og 47 (.iad 4 (.t 44) (.t 46)) 41, og 48 (.fad 0 (.t 47)) 41, og 49 (.load 1 false (.t 48)) 41, og 50 (.fad 0 (.t 10)) 41, og 51 (.load 1 false (.t 50)) 41, og 52 (.bin .eql (.t 49) (.t 51)) 41, o 53 (.pick (.t 41) bT (.t 52)), om 54 53, og 55 (.fad 1 (.t 7)) 54, og 56 (.load 1 false (.t 55)) 54, og 57 (.fad 1 (.t 9)) 54, og 58 (.load 1 false (.t 57)) 54, og 59 (.bin .neq (.t 56) (.t 58)) 54, o 60 (.pick (.t 54) bT (.t 59)), om 61 60, og 62 (.fad 2 (.t 10)) 61, og 63 (.load 1 false (.t 62)) 61, og 64 (.bin .lss (.t 63) (iv 0)) 61, o 65 (.pick (.t 61) bT (.t 64))])
    (.ite (.t 65) (.exit 1)
    .skip))
    (.seq (.drw [(0, 2), (1, 2), (0, 3), (1, 3), (0, 5), (1, 5), (2, 5), (3, 5), (4, 5), (0, 6), (1, 6), (2, 6), (3, 6), (4, 6), (0, 7), (1, 7), (2, 7), (3, 7), (4, 7), (5, 7), (6, 7), (0, 8), (1, 8), (2, 8), (3, 8), (4, 8), (5, 8), (6, 8), (0, 11), (1, 11), (2, 11), (3, 11), (4, 11), (5, 11), (6, 11), (7, 11), (8, 11), (9, 11), (10, 11), (0, 12), (1, 12), (2, 12), (3, 12), (4, 12), (5, 12), (6, 12), (7, 12), (8, 12), (9, 12), (10, 12), (0, 13), (1, 13), (2, 13), (3, 13), (4, 13), (5, 13), (6, 13), (7, 13), (8, 13), (9, 13), (10, 13), (0, 14), (1, 14), (2, 14), (3, 14), (4, 14), (5, 14), (6, 14), (7, 14), (8, 14), (9, 14), (10, 14), (11, 14), (12, 14), (13, 14), (0, 15), (1, 15), (2, 15), (3, 15), (4, 15), (5, 15), (6, 15), (7, 15), (8, 15), (9, 15), (10, 15), (11, 15), (12, 15), (13, 15), (0, 16), (1, 16), (2, 16), (3, 16), (4, 16), (5, 16), (6, 16), (7, 16), (8, 16), (9, 16), (10, 16), (0, 17), (1, 17), (2, 17), (3, 17), (4, 17), (5, 17), (6, 17), (7, 17), (8, 17), (9, 17), (10, 17), (0, 18), (1, 18), (2, 18), (3, 18), (4, 18), (5, 18), (6, 18), (7, 18), (8, 18), (9, 18), (10, 18)] [oa 66 7 3, o 67 (.load 5 true (.t 66)), oa 68 2 10, ol 69 68, o 70 (.call 242 [.t 67, .t 69]), oa 71 7 3, o 72 (.load 5 true (.t 71)), oa 73 1 7, ol 74 73, o 75 (.call 242 [.t 72, .t 74]), o 76 (.call 241 [.t 70, .t 75]), oa 77 0 3, oa 78 1 77, ol 79 78, oa 80 1 10, ol 81 80, o 82 (.iad 6 (.t 79) (.t 81)), oa 83 5 82, ol 84 83, o 85 (.bin .leq (.t 76) (.t 84))])
    (.ite (.t 85) (sq [om 86 8, om 6 86]
     .ret)
    .skip))))))
   (.ops [o 87 (.bin .add (.t 25) (iv 1)), om 25 87])))))))
 (sq [o 6 (.mv (.v (.int .i64 (-1))))]
 .ret)))))
noncomputable def X.i_nextReaction (p0 : TBoard) (p1 : (List TReaction)) (p2 : TMachine) : Option Int :=
 (bif ((p2.Stack.length : Int) == 0) then some (-1) else ((at' zTFrame p2.Stack (W ((p2.Stack.length : Int) - 1))).bind fun v3 => ((loop (fun (x68 : Int) => ((bif (decide (x68 < (p1.length : Int))) then ((at' zTReaction p1 x68).bind fun v71 => ((at' zTUnit p2.State.Units v71.Unit).bind fun v73 => ((X.g_Contains_int p2.Used x68).bind fun v83 => (bif v83 then some (Sum.inl (W (x68 + 1))) else ((at' zTUnit p2.State.Units v3.Unit).bind fun v86 => (bif (v86.Side == v73.Side) then some (Sum.inl (W (x68 + 1))) else (bif (v3.At != v71.Watch) then some (Sum.inl (W (x68 + 1))) else (bif (decide (v73.At < 0)) then some (Sum.inl (W (x68 + 1))) else ((X.i_hexOf p0.Map v73.At).bind fun v91 => ((X.i_hexOf p0.Map v3.At).bind fun v93 => ((X.i_distance v91 v93).bind fun v95 => ((at' zTKind p0.Rules.Kinds v73.Kind).bind fun v97 => (bif (decide (v95 ≤ v97.View)) then some (Sum.inr (Sum.inr x68)) else some (Sum.inl (W (x68 + 1)))))))))))))))) else some (Sum.inr (Sum.inl ()))) : Option (Int ⊕ (Unit ⊕ Int)))) 0).bind fun y100 => (Sum.elim (fun (y102 : Unit) => some (-1)) (fun (y103 : Int) => some y103) y100))))
theorem i_nextReaction_ok (p0 : TBoard) (p1 : (List TReaction)) (p2 : TMachine) (r : Int) (H : X.i_nextReaction p0 p1 p2 = some r) : FK 188 [.agg (eTBoard p0), .c (dat 3 eTReaction zTReaction p1), .agg (eTMachine p2)] (cI r) := by
 unfold X.i_nextReaction at H
 refine fi Tryz.f188 i_nextReaction_ir [(6, cI r)] [] glL Tryz.func188 ?_
 refine sn [] [] [(3, pk 3), (5, pk 5)] [] [(3, va (eTBoard p0)), (5, va (eTMachine p2))] id ?_
 refine seq_in ?_
 refine sn [] [] [(14, cB ((p2.Stack.length : Int) == 0))] [] [] (fun t => lI p2.Stack (t)) ?_
 rcases oC H with ⟨c2, H⟩ | ⟨c2, H⟩
 ·refine it c2 ?_
  refine so [] [] [(6, cI (-1))] [] id ?_
  cases H
  exact er
 ·refine jf c2 ?_
  refine sk ?_
  obtain ⟨v3, h4, H⟩ := oB H
  refine sn [.cs (eTFrame v3)] [] [(7, pk 7)] [] [(7, va (eTFrame v3))] (fun t => lI p2.Stack ((a2 eTFrame h4 (t)))) ?_
  refine seq_in ?_
  refine sn [] [] [(23, dc 3 eTReaction zTReaction p1), (24, cL p1), (25, cI 0)] [] [] (fun t => lI p1 (t)) ?_
  refine ends_blk ?_
  obtain ⟨y100, h101, H⟩ := oB H
  refine tl [] [(3, pk 3), (5, pk 5), (7, pk 7), (23, dc 3 eTReaction zTReaction p1), (24, cL p1), (25, cI 0)] [(3, va (eTBoard p0)), (5, va (eTMachine p2)), (7, va (eTFrame v3))] id ?_
  refine loop_in (fun (x : Int) => lit [(3, pk 3), (5, pk 5), (7, pk 7), (23, dc 3 eTReaction zTReaction p1), (24, cL p1), (25, cI x)] [(3, va (eTBoard p0)), (5, va (eTMachine p2)), (7, va (eTFrame v3))]) (orJ (fun (z : Unit) => At (.exit 0) (lit [] [])) (fun (z : Int) => At .ret (lit [(6, cI z)] []))) h101 ?_ ?_
  ·clear H h101
   intro x68 y0 H
   refine sn [] [] [(26, cB (decide (x68 < (p1.length : Int))))] [] [] id ?_
   refine seq_in ?_
   rcases oC H with ⟨c70, H⟩ | ⟨c70, H⟩
   ·refine it c70 ?_
    refine sk ?_
    refine seq_in ?_
    refine ends_blk ?_
    obtain ⟨v71, h72, H⟩ := oB H
    refine sn [.cs (eTReaction v71)] [] [(8, cI x68), (9, pk 9)] [] [(9, va (eTReaction v71))] (a2 eTReaction h72) ?_
    obtain ⟨v73, h74, H⟩ := oB H
    refine sn [.cs (eTUnit v73)] [] [(10, pk 10)] [] [(10, va (eTUnit v73))] (a2 eTUnit h74) ?_
    refine seq_in ?_
    obtain ⟨v83, h84, H⟩ := oB H
    rcases oC H with ⟨c85, H⟩ | ⟨c85, H⟩
    ·refine xn ([.res (cB v83)] ++ rg 22 true []) [] [(65, cB true)] [] [] (fun t => aI (g_Contains_int_ok p2.Used x68 v83 h84) (aI trivial (aI rN (aG 12 c85 (aG 10 rT (t)))))) ?_
     refine it rT ?_
     refine ends_exit ?_
     change EndsI _ _ _ _ _ _
     refine oo [] [] [(3, pk 3), (5, pk 5), (7, pk 7), (23, dc 3 eTReaction zTReaction p1), (24, cL p1), (25, cI (W (x68 + 1)))] [(3, va (eTBoard p0)), (5, va (eTMachine p2)), (7, va (eTFrame v3))] id ?_
     cases H
     exact rr
    ·obtain ⟨v86, h87, H⟩ := oB H
     rcases oC H with ⟨c88, H⟩ | ⟨c88, H⟩
     ·refine xn ([.res (cB v83)] ++ rg 6 false ([.cs (eTUnit v86)] ++ rg 6 false (rg 10 true []))) [] [(65, cB true)] [] [] (fun t => aI (g_Contains_int_ok p2.Used x68 v83 h84) (aI trivial (aI rN (aG 6 c85 ((a2 eTUnit h87 (aG 2 c85 (aI rN (aG 4 c85 (aG 6 c88 (aG 4 rT (t)))))))))))) ?_
      refine it rT ?_
      refine ends_exit ?_
      change EndsI _ _ _ _ _ _
      refine oo [] [] [(3, pk 3), (5, pk 5), (7, pk 7), (23, dc 3 eTReaction zTReaction p1), (24, cL p1), (25, cI (W (x68 + 1)))] [(3, va (eTBoard p0)), (5, va (eTMachine p2)), (7, va (eTFrame v3))] id ?_
      cases H
      exact rr
     ·rcases oC H with ⟨c89, H⟩ | ⟨c89, H⟩
      ·refine xn ([.res (cB v83)] ++ rg 6 false ([.cs (eTUnit v86)] ++ rg 12 false (rg 4 true []))) [] [(65, cB true)] [] [] (fun t => aI (g_Contains_int_ok p2.Used x68 v83 h84) (aI trivial (aI rN (aG 6 c85 ((a2 eTUnit h87 (aG 2 c85 (aI rN (aG 4 c85 (aG 6 c88 (aG 4 c89 (t)))))))))))) ?_
       refine it rT ?_
       refine ends_exit ?_
       change EndsI _ _ _ _ _ _
       refine oo [] [] [(3, pk 3), (5, pk 5), (7, pk 7), (23, dc 3 eTReaction zTReaction p1), (24, cL p1), (25, cI (W (x68 + 1)))] [(3, va (eTBoard p0)), (5, va (eTMachine p2)), (7, va (eTFrame v3))] id ?_
       cases H
       exact rr
      ·refine xn ([.res (cB v83)] ++ rg 6 false ([.cs (eTUnit v86)] ++ rg 16 false [])) [] [(65, cB (decide (v73.At < 0)))] [] [] (fun t => aI (g_Contains_int_ok p2.Used x68 v83 h84) (aI trivial (aI rN (aG 6 c85 ((a2 eTUnit h87 (aG 2 c85 (aI rN (aG 4 c85 (aG 6 c88 (aG 4 c89 (t)))))))))))) ?_
       rcases oC H with ⟨c90, H⟩ | ⟨c90, H⟩
       ·refine it c90 ?_
        refine ends_exit ?_
        change EndsI _ _ _ _ _ _
        refine oo [] [] [(3, pk 3), (5, pk 5), (7, pk 7), (23, dc 3 eTReaction zTReaction p1), (24, cL p1), (25, cI (W (x68 + 1)))] [(3, va (eTBoard p0)), (5, va (eTMachine p2)), (7, va (eTFrame v3))] id ?_
        cases H
        exact rr
       ·refine jf c90 ?_
        refine sk ?_
        obtain ⟨v91, h92, H⟩ := oB H
        obtain ⟨v93, h94, H⟩ := oB H
        obtain ⟨v95, h96, H⟩ := oB H
        obtain ⟨v97, h98, H⟩ := oB H
        refine xn [.res (.agg (eTHex v91)), .res (.agg (eTHex v93)), .res (cI v95), .cs (eTKind v97)] [] [(85, cB (decide (v95 ≤ v97.View)))] [9] [] (fun t => aI (i_hexOf_ok p0.Map v73.At v91 h92) (aI trivial (aI rN (aI (i_hexOf_ok p0.Map v3.At v93 h94) (aI trivial (aI rN (aI (i_distance_ok v91 v93 v95 h96) (aI trivial (aI rN ((a2 eTKind h98 (aI rN (t))))))))))))) ?_
        rcases oC H with ⟨c99, H⟩ | ⟨c99, H⟩
        ·refine it c99 ?_
         refine so [] [] [(6, cI x68)] [] id ?_
         refine ends_ret ?_
         cases H
         exact rsr
        ·refine jf c99 ?_
         refine sk ?_
         refine oo [] [] [(3, pk 3), (5, pk 5), (7, pk 7), (23, dc 3 eTReaction zTReaction p1), (24, cL p1), (25, cI (W (x68 + 1)))] [(3, va (eTBoard p0)), (5, va (eTMachine p2)), (7, va (eTFrame v3))] id ?_
         cases H
         exact rr
   ·refine jf c70 ?_
    refine tl [] [] [] id ?_
    refine ends_exit ?_
    cases H
    exact rse
  ·clear h101
   cases y100 with
   | inl y102 =>
    replace H := ofInl H
    rintro e s ⟨rfl, rfl⟩
    change EndsI _ _ _ _ _ _
    refine so [] [] [(6, cI (-1))] [] id ?_
    cases H
    exact er
   | inr y103 =>
    replace H := ofInr H
    rintro e s ⟨rfl, rfl⟩
    cases H
    exact qr
end Go.Proofs.YteenmeomlhkphaaGreatDoor.X0
