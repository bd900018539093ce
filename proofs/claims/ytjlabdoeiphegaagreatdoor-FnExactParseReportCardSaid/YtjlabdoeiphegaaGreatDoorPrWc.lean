/- What each function that FnExactParseReport reaches computes; no condition. -/
import Derived.Test.YtjlabdoeiphegaaGreatDoorPrWb
set_option linter.unusedVariables false
set_option linter.unusedSimpArgs false
set_option maxRecDepth 100000
namespace Go.Proofs.YtjlabdoeiphegaaGreatDoor.X0
open Go Go.RowKit Go.Proofs.YtjlabdoeiphegaaGreatDoor.Ab Go.Proofs
variable [GPar]

def l_FnExactParseReport_ir : S :=
 (sq [o 2 (.box 12 (.t 0)), o 4 (.mv bF)]
 (.seq (sq [om 16 1, o 17 (.lens (.t 16)), o 18 (.bin .gtr (.t 17) (iv 1048576))]
 (.ite (.t 18) (sq [o 4 (.mv bT)]
  .ret)
 .skip))
 (sq [o 5 (.mv (iv 1048576))]
 (sq [o 19 (.load 12 true (.t 2)), om 20 5, o 21 (.call 6 [.t 19, .t 20]), om 5 21]
 (.seq (sq [om 22 5, o 23 (.bin .lss (.t 22) (iv 0))]
 (.ite (.t 23) (sq [o 4 (.mv bT)]
  .ret)
 .skip))
 (sq [o 25 (.load 12 true (.t 2)), o 26 (.call 8 [.t 25]), om 27 1, o 28 (.call 7 [.t 26, .t 27]), om 24 28, o 29 (.ext (.t 24) 0), o 30 (.ext (.t 24) 1), o 6 (.alloc [.int .i64 0, .int .i64 0, .int .i64 0, .nil, .nil, .nil]), os 6 6 29, om 7 30]
 (sq [o 31 (.load 12 true (.t 2)), o 32 (.call 8 [.t 31]), o 8 (.alloc [.nil, .nil, .int .i64 0, .int .i64 0, .int .i64 0, .int .i64 0, .int .i64 0, .int .i64 0, .int .i64 0, .nil, .nil, .nil]), os 12 8 32]
 (sq [o 34 (.load 12 true (.t 8)), om 35 1, o 36 (.call 9 [.t 34, .t 35]), om 33 36, o 37 (.ext (.t 33) 0), o 38 (.ext (.t 33) 1), o 9 (.alloc [.int .i64 0, .int .i64 0, .int .i64 0, .nil, .nil, .nil]), os 6 9 37, om 10 38]
 (.seq (sq [o 39 (.load 6 true (.t 9)), o 40 (.load 6 true (.t 6)), o 41 (.call 10 [.t 39, .t 40]), o 42 (.not (.t 41)), om 43 42, og 44 (.mv (.t 10)) 43, og 45 (.mv (.t 7)) 43, og 46 (.bqe true (.t 44) (.t 45)) 43, o 47 (.pick (.t 43) bT (.t 46))]
 (.ite (.t 47) (sq [o 4 (.mv bF)]
  .ret)
 .skip))
 (.seq (.seq (.drw [(0, 1), (0, 2)] [o 48 (.load 12 true (.t 8)), o 49 (.load 12 true (.t 2)), o 50 (.call 8 [.t 49]), o 51 (.call 11 [.t 48, .t 50]), o 52 (.not (.t 51))])
 (.ite (.t 52) (sq [o 4 (.mv bF)]
  .ret)
 .skip))
 (sq [o 11 (.mv (iv 1))]
 (sq [o 53 (.load 12 true (.t 8)), om 54 11, o 55 (.call 12 [.t 53, .t 54]), om 11 55]
 (.seq (sq [om 56 11, o 57 (.bin .lss (.t 56) (iv 0)), om 58 57, og 59 (.load 6 true (.t 9)) 58, og 60 (.load 6 true (.t 6)) 58, og 61 (.call 10 [.t 59, .t 60]) 58, og 62 (.not (.t 61)) 58, o 63 (.pick (.t 58) bT (.t 62)), om 64 63, og 65 (.mv (.t 10)) 64, og 66 (.mv (.t 7)) 64, og 67 (.bqe true (.t 65) (.t 66)) 64, o 68 (.pick (.t 64) bT (.t 67))]
 (.ite (.t 68) (sq [o 4 (.mv bF)]
  .ret)
 .skip))
 (sq [o 12 (.mv (iv 1))]
 (sq [o 69 (.load 6 true (.t 9)), om 70 12, o 71 (.call 13 [.t 69, .t 70]), om 12 71]
 (sq [o 13 (.mv (iv 1))]
 (sq [o 72 (.load 6 true (.t 9)), om 73 13, o 74 (.call 14 [.t 72, .t 73]), om 13 74]
 (.seq (sq [om 75 13, o 76 (.bin .lss (.t 75) (iv 0))]
 (.ite (.t 76) (sq [o 4 (.mv bF)]
  .ret)
 .skip))
 (.seq (sq [om 77 13, om 78 12, o 79 (.bin .neq (.t 77) (.t 78))]
 (.ite (.t 79) (sq [o 4 (.mv bF)]
  .ret)
 .skip))
 (sq [o 81 (.load 12 true (.t 2)), o 82 (.call 8 [.t 81]), om 83 1, o 84 (.call 9 [.t 82, .t 83]), om 80 84, o 85 (.ext (.t 80) 0), o 86 (.ext (.t 80) 1), o 14 (.alloc [.int .i64 0, .int .i64 0, .int .i64 0, .nil, .nil, .nil]), os 6 14 85, om 15 86]
 (.seq (sq [o 87 (.load 6 true (.t 14)), o 88 (.load 6 true (.t 6)), o 89 (.call 10 [.t 87, .t 88]), o 90 (.not (.t 89)), om 91 90, og 92 (.mv (.t 15)) 91, og 93 (.mv (.t 7)) 91, og 94 (.bqe true (.t 92) (.t 93)) 91, o 95 (.pick (.t 91) bT (.t 94))]
 (.ite (.t 95) (sq [o 4 (.mv bF)]
  .ret)
 .skip))
 (sq [o 13 (.mv (iv 1))]
 (sq [o 96 (.load 6 true (.t 9)), om 97 13, o 98 (.call 14 [.t 96, .t 97]), om 13 98]
 (.seq (sq [om 99 13, o 100 (.bin .lss (.t 99) (iv 0))]
 (.ite (.t 100) (sq [o 4 (.mv bF)]
  .ret)
 .skip))
 (.seq (sq [om 101 13, om 102 12, o 103 (.bin .neq (.t 101) (.t 102))]
 (.ite (.t 103) (sq [o 4 (.mv bF)]
  .ret)
 .skip))
 (sq [o 4 (.mv bT)]
 .ret))))))))))))))))))))))))))
noncomputable def X.l_FnExactParseReport (p0 : TBoard) (p1 : (List UInt8)) : Option Bool :=
 (bif (decide ((p1.length : Int) > 1048576)) then some true else ((X.l_szBoard p0 1048576).bind fun v3 => (bif (decide (v3 < 0)) then some true else ((X.l_toBoard p0).bind fun v7 => ((X.s_ParseReport v7 p1).bind fun v9 => ((X.l_toBoard p0).bind fun v11 => ((X.i_ParseReport v11 p1).bind fun v13 => ((X.l_eqView v13.1 v9.1).bind fun v19 => (bif (!v19) then some false else (bif (!(v13.2 == v9.2)) then some false else ((X.l_toBoard p0).bind fun v28 => ((X.l_eqBoard v11 v28).bind fun v30 => (bif (!v30) then some false else ((X.l_markBoard_L v11 1).bind fun v33 => (bif (decide (v33 < 0)) then some false else ((X.l_eqView v13.1 v9.1).bind fun v40 => (bif (!v40) then some false else ((X.l_markView_Mod v13.1 1).bind fun v43 => (if v43.2.Seen.length = v13.1.Seen.length then (if v43.2.Own.length = v13.1.Own.length then (if v43.2.Enemies.length = v13.1.Enemies.length then ((X.l_heldView (TView.mk v13.1.Side v13.1.Turn v13.1.Weather v43.2.Seen v43.2.Own v43.2.Enemies) 1).bind fun v48 => (bif (decide (v48 < 0)) then some false else (bif (v48 != v43.1) then some false else ((X.l_toBoard p0).bind fun v54 => ((X.i_ParseReport v54 p1).bind fun v56 => ((X.l_eqView v56.1 v9.1).bind fun v62 => (bif (!v62) then some false else (bif (!(v56.2 == v9.2)) then some false else ((X.l_heldView (TView.mk v13.1.Side v13.1.Turn v13.1.Weather v43.2.Seen v43.2.Own v43.2.Enemies) 1).bind fun v66 => (bif (decide (v66 < 0)) then some false else (bif (v66 != v43.1) then some false else some true))))))))))) else none) else none) else none)))))))))))))))))))
theorem l_FnExactParseReport_T_ok (p0 : TBoard) (p1 : (List UInt8)) (H : X.l_FnExactParseReport p0 p1 = some true) : LawOk Tryz.prog gl 3 [.agg (eTBoard p0), .c (.str p1)] := by
 unfold X.l_FnExactParseReport at H
 refine lawOk_of (fn := Tryz.f3) (ir := l_FnExactParseReport_ir) (s1 := lit [(4, cB true)] []) Tryz.func3 (by kernel_rfl) (by kernel_rfl) (by kernel_rfl) (by kernel_rfl) ?_
 refine tl [] [(0, .agg (oTBoard p0)), (1, .c (.str p1))] [] id ?_
 refine sn [] [] [(2, pk 2)] [] [(2, va (oTBoard p0))] id ?_
 refine seq_in ?_
 refine sn [] [] [(18, cB (decide ((p1.length : Int) > 1048576)))] [] [] id ?_
 rcases oC H with ⟨c2, H⟩ | ⟨c2, H⟩
 ·refine it c2 ?_
  refine so [] [] [(4, cB true)] [] id ?_
  refine ends_ret ?_
  exact qr
 ·refine jf c2 ?_
  refine sk ?_
  refine sn [] [] [(5, cI 1048576)] [] [] id ?_
  obtain ⟨v3, h4, H⟩ := oB H
  refine so [.res (cI v3)] [] [(1, .c (.str p1)), (2, pk 2), (5, cI v3)] [(2, va (oTBoard p0))] (aI ((FnOk.le2 (xs := [.agg (oTBoard p0), cI 1048576]) (l_szBoard_ok p0 1048576 v3 h4) ⟨LeD.agg (And.intro (LeC.old _) (And.intro (LeC.old _) (And.intro (LeC.refl _) (And.intro (LeC.refl _) (And.intro (LeC.refl _) (And.intro (LeC.refl _) (And.intro (LeC.refl _) (And.intro (LeC.refl _) (And.intro (LeC.refl _) (And.intro (LeC.old _) (And.intro (LeC.old _) (And.intro (LeC.old _) (trivial))))))))))))), LeD.refl _, trivial⟩).up glTs)) ?_
  refine seq_in ?_
  refine sn [] [] [(23, cB (decide (v3 < 0)))] [] [] id ?_
  rcases oC H with ⟨c6, H⟩ | ⟨c6, H⟩
  ·refine it c6 ?_
   refine so [] [] [(4, cB true)] [] id ?_
   refine ends_ret ?_
   exact qr
  ·refine jf c6 ?_
   refine sk ?_
   obtain ⟨v7, h8, H⟩ := oB H
   obtain ⟨v9, h10, H⟩ := oB H
   refine sn [.res (.agg (rTBoard v7)), .res (.tup [(true, [jI v9.1.Side, jI v9.1.Turn, jI v9.1.Weather, dat 1 eI zI v9.1.Seen, dat 4 eTUnit zTUnit v9.1.Own, dat 4 eTUnit zTUnit v9.1.Enemies]), (false, [.bool v9.2])])] [] [(6, pk 6), (7, cB v9.2)] [] [(6, va (eTView v9.1))] (fun t => aI ((FnOk.le2 (xs := [.agg (oTBoard p0)]) (l_toBoard_F_ok p0 v7 h8) ⟨LeD.agg (And.intro (LeC.old _) (And.intro (LeC.old _) (And.intro (LeC.refl _) (And.intro (LeC.refl _) (And.intro (LeC.refl _) (And.intro (LeC.refl _) (And.intro (LeC.refl _) (And.intro (LeC.refl _) (And.intro (LeC.refl _) (And.intro (LeC.old _) (And.intro (LeC.old _) (And.intro (LeC.old _) (trivial))))))))))))), trivial⟩).up glTs) (aI ((FnOk.le2 (xs := [.agg (rTBoard v7), .c (.str p1)]) (s_ParseReport_ok v7 p1 v9 h10) ⟨LeD.agg (And.intro (LeC.fr _) (And.intro (LeC.fr _) (And.intro (LeC.refl _) (And.intro (LeC.refl _) (And.intro (LeC.refl _) (And.intro (LeC.refl _) (And.intro (LeC.refl _) (And.intro (LeC.refl _) (And.intro (LeC.refl _) (And.intro (LeC.fr _) (And.intro (LeC.fr _) (And.intro (LeC.fr _) (trivial))))))))))))), LeD.refl _, trivial⟩).up glTs) (t))) ?_
   refine tl [] [(1, .c (.str p1)), (2, pk 2), (6, pk 6), (7, cB v9.2)] [(2, va (oTBoard p0)), (6, va (eTView v9.1))] id ?_
   refine turn0 (E := [(1, .c (.str p1)), (2, pk 2), (6, pk 6), (7, cB v9.2)]) (E' := [(1, .c (.str p1)), (2, pk 2), (6, pk 6), (7, cB v9.2)]) (H := [(2, va (oTBoard p0)), (6, va (eTView v9.1))]) (H' := [(2, va (oTBoard p0)), (6, va (oTView v9.1))]) glTn glTp (And.intro (And.intro rfl (uS (.str p1) rfl)) (And.intro (And.intro rfl (uS (.pk 2 0) rfl)) (And.intro (And.intro rfl (uS (.pk 6 0) rfl)) (And.intro (And.intro rfl (uS (.bool v9.2) rfl)) trivial)))) (And.intro (And.intro rfl (And.intro (uO (dat 5 eTTerrain zTTerrain p0.Rules.Terrains) (.dat shTTerrain)) (And.intro (uO (dat 6 eTKind zTKind p0.Rules.Kinds) (.dat shTKind)) (And.intro (uS (jI p0.Rules.Stack) rfl) (And.intro (uS (jI p0.Rules.River) rfl) (And.intro (uS (jI p0.Rules.Road) rfl) (And.intro (uS (jI p0.Rules.Supply) rfl) (And.intro (uS (jI p0.Rules.Turns) rfl) (And.intro (uS (jI p0.Map.Width) rfl) (And.intro (uS (jI p0.Map.Height) rfl) (And.intro (uO (dat 1 eI zI p0.Map.Terrain) (.dat shI)) (And.intro (uO (dat 1 eI zI p0.Map.Rivers) (.dat shI)) (And.intro (uO (dat 1 eI zI p0.Map.Roads) (.dat shI)) trivial))))))))))))) (And.intro (And.intro rfl (And.intro (uS (jI v9.1.Side) rfl) (And.intro (uS (jI v9.1.Turn) rfl) (And.intro (uS (jI v9.1.Weather) rfl) (And.intro (uD (dat 1 eI zI v9.1.Seen) rfl (.dat shI)) (And.intro (uD (dat 4 eTUnit zTUnit v9.1.Own) rfl (.dat shTUnit)) (And.intro (uD (dat 4 eTUnit zTUnit v9.1.Enemies) rfl (.dat shTUnit)) trivial))))))) trivial)) ?_
   obtain ⟨v11, h12, H⟩ := oB H
   refine sn [.res (.agg (rTBoard v11))] [] [(8, pk 8)] [] [(8, va (rTBoard v11))] (aI ((FnOk.le2 (xs := [.agg (oTBoard p0)]) (l_toBoard_F_ok p0 v11 h12) ⟨LeD.agg (And.intro (LeC.old _) (And.intro (LeC.old _) (And.intro (LeC.refl _) (And.intro (LeC.refl _) (And.intro (LeC.refl _) (And.intro (LeC.refl _) (And.intro (LeC.refl _) (And.intro (LeC.refl _) (And.intro (LeC.refl _) (And.intro (LeC.old _) (And.intro (LeC.old _) (And.intro (LeC.old _) (trivial))))))))))))), trivial⟩).up glTs)) ?_
   obtain ⟨v13, h14, H⟩ := oB H
   refine sn [.mu [] [(4, 1001), (900000, 1002), (900001, 1003), (900002, 1004)] (.tup [(true, [jI v13.1.Side, jI v13.1.Turn, jI v13.1.Weather, .own 900000 1 0 v13.1.Seen.length, .own 900001 4 0 v13.1.Own.length, .own 900002 4 0 v13.1.Enemies.length]), (false, [.bool v13.2])]) [(4, va (wTView 900000 900001 900002 v13.1)), (900000, ar 1 eI zI v13.1.Seen), (900001, ar 4 eTUnit zTUnit v13.1.Own), (900002, ar 4 eTUnit zTUnit v13.1.Enemies)]] [] [(9, pk 9), (10, cB v13.2)] [] [(9, va (wTView 1002 1003 1004 v13.1)), (1002, ar 1 eI zI v13.1.Seen), (1003, ar 4 eTUnit zTUnit v13.1.Own), (1004, ar 4 eTUnit zTUnit v13.1.Enemies)] (aI ((FnMu.le2 (xs := [.agg (rTBoard v11), .c (.str p1)]) (i_ParseReport_Mdd_ok v11 p1 v13 h14) ⟨LeK.of rfl (LeD.agg (And.intro (LeC.fr _) (And.intro (LeC.fr _) (And.intro (LeC.refl _) (And.intro (LeC.refl _) (And.intro (LeC.refl _) (And.intro (LeC.refl _) (And.intro (LeC.refl _) (And.intro (LeC.refl _) (And.intro (LeC.refl _) (And.intro (LeC.fr _) (And.intro (LeC.fr _) (And.intro (LeC.fr _) (trivial)))))))))))))), LeK.refl _, trivial⟩).up glTs)) ?_
   refine seq_in ?_
   obtain ⟨v19, h20, H⟩ := oB H
   rcases oC H with ⟨c21, H⟩ | ⟨c21, H⟩
   ·refine sn ([.res (cB v19)] ++ rg 4 true []) [] [(47, cB true)] [] [] (fun t => aI (Nat.le_refl v13.1.Seen.length) (aI (Nat.le_refl v13.1.Own.length) (aI (Nat.le_refl v13.1.Enemies.length) (aI ((FnOk.le2 (xs := [.agg (eTView v13.1), .agg (oTView v9.1)]) (l_eqView_ok v13.1 v9.1 v19 h20) ⟨LeD.refl _, LeD.agg (And.intro (LeC.refl _) (And.intro (LeC.refl _) (And.intro (LeC.refl _) (And.intro (LeC.old _) (And.intro (LeC.old _) (And.intro (LeC.old _) (trivial))))))), trivial⟩).up glTs) (aG 4 c21 (t)))))) ?_
    refine it rT ?_
    refine so [] [] [(4, cB false)] [] id ?_
    refine ends_ret ?_
    cases H
   ·refine sn ([.res (cB v19)] ++ rg 4 false []) [] [(47, cB (!(v13.2 == v9.2)))] [] [] (fun t => aI (Nat.le_refl v13.1.Seen.length) (aI (Nat.le_refl v13.1.Own.length) (aI (Nat.le_refl v13.1.Enemies.length) (aI ((FnOk.le2 (xs := [.agg (eTView v13.1), .agg (oTView v9.1)]) (l_eqView_ok v13.1 v9.1 v19 h20) ⟨LeD.refl _, LeD.agg (And.intro (LeC.refl _) (And.intro (LeC.refl _) (And.intro (LeC.refl _) (And.intro (LeC.old _) (And.intro (LeC.old _) (And.intro (LeC.old _) (trivial))))))), trivial⟩).up glTs) (aG 4 c21 (t)))))) ?_
    rcases oC H with ⟨c22, H⟩ | ⟨c22, H⟩
    ·refine it c22 ?_
     refine so [] [] [(4, cB false)] [] id ?_
     refine ends_ret ?_
     cases H
    ·refine jf c22 ?_
     refine sk ?_
     refine seq_in ?_
     obtain ⟨v28, h29, H⟩ := oB H
     obtain ⟨v30, h31, H⟩ := oB H
     refine xn [.res (.agg (rTBoard v28)), .res (cB v30)] [] [(52, cB (!v30))] [] [] (fun t => aI ((FnOk.le2 (xs := [.agg (oTBoard p0)]) (l_toBoard_F_ok p0 v28 h29) ⟨LeD.agg (And.intro (LeC.old _) (And.intro (LeC.old _) (And.intro (LeC.refl _) (And.intro (LeC.refl _) (And.intro (LeC.refl _) (And.intro (LeC.refl _) (And.intro (LeC.refl _) (And.intro (LeC.refl _) (And.intro (LeC.refl _) (And.intro (LeC.old _) (And.intro (LeC.old _) (And.intro (LeC.old _) (trivial))))))))))))), trivial⟩).up glTs) (aG 2 rN (aI ((FnOk.le2 (xs := [.agg (rTBoard v11), .agg (rTBoard v28)]) (l_eqBoard_ok v11 v28 v30 h31) ⟨LeD.agg (And.intro (LeC.fr _) (And.intro (LeC.fr _) (And.intro (LeC.refl _) (And.intro (LeC.refl _) (And.intro (LeC.refl _) (And.intro (LeC.refl _) (And.intro (LeC.refl _) (And.intro (LeC.refl _) (And.intro (LeC.refl _) (And.intro (LeC.fr _) (And.intro (LeC.fr _) (And.intro (LeC.fr _) (trivial))))))))))))), LeD.agg (And.intro (LeC.fr _) (And.intro (LeC.fr _) (And.intro (LeC.refl _) (And.intro (LeC.refl _) (And.intro (LeC.refl _) (And.intro (LeC.refl _) (And.intro (LeC.refl _) (And.intro (LeC.refl _) (And.intro (LeC.refl _) (And.intro (LeC.fr _) (And.intro (LeC.fr _) (And.intro (LeC.fr _) (trivial))))))))))))), trivial⟩).up glTs) (aI trivial (aI rN (t)))))) ?_
     rcases oC H with ⟨c32, H⟩ | ⟨c32, H⟩
     ·refine it c32 ?_
      refine so [] [] [(4, cB false)] [] id ?_
      refine ends_ret ?_
      cases H
     ·refine jf c32 ?_
      refine sk ?_
      refine sn [] [] [(11, cI 1)] [] [] id ?_
      refine tl [] [(1, .c (.str p1)), (2, pk 2), (6, pk 6), (7, cB v9.2), (8, pk 8), (9, pk 9), (10, cB v13.2), (11, cI 1)] [(2, va (oTBoard p0)), (6, va (oTView v9.1)), (8, va (rTBoard v11)), (9, va (wTView 1002 1003 1004 v13.1)), (1002, ar 1 eI zI v13.1.Seen), (1003, ar 4 eTUnit zTUnit v13.1.Own), (1004, ar 4 eTUnit zTUnit v13.1.Enemies)] id ?_
      refine turn (E := [(1, .c (.str p1)), (2, pk 2), (6, pk 6), (7, cB v9.2), (8, pk 8), (9, pk 9), (10, cB v13.2), (11, cI 1)]) (E' := [(1, .c (.str p1)), (2, pk 2), (6, pk 6), (7, cB v9.2), (8, pk 8), (9, pk 9), (10, cB v13.2), (11, cI 1)]) (H := [(2, va (oTBoard p0)), (6, va (oTView v9.1)), (8, va (rTBoard v11)), (9, va (wTView 1002 1003 1004 v13.1)), (1002, ar 1 eI zI v13.1.Seen), (1003, ar 4 eTUnit zTUnit v13.1.Own), (1004, ar 4 eTUnit zTUnit v13.1.Enemies)]) (H' := [(2, va (eTBoard p0)), (6, va (eTView v9.1)), (8, va (lTBoard v11)), (9, va (wTView 1002 1003 1004 v13.1)), (1002, ar 1 eI zI v13.1.Seen), (1003, ar 4 eTUnit zTUnit v13.1.Own), (1004, ar 4 eTUnit zTUnit v13.1.Enemies)]) glTn (And.intro (And.intro rfl (tS (.str p1) rfl)) (And.intro (And.intro rfl (tS (.pk 2 0) rfl)) (And.intro (And.intro rfl (tS (.pk 6 0) rfl)) (And.intro (And.intro rfl (tS (.bool v9.2) rfl)) (And.intro (And.intro rfl (tS (.pk 8 0) rfl)) (And.intro (And.intro rfl (tS (.pk 9 0) rfl)) (And.intro (And.intro rfl (tS (.bool v13.2) rfl)) (And.intro (And.intro rfl (tS (jI 1) rfl)) trivial)))))))) (And.intro (And.intro rfl (And.intro (tO (dat 5 eTTerrain zTTerrain p0.Rules.Terrains)) (And.intro (tO (dat 6 eTKind zTKind p0.Rules.Kinds)) (And.intro (tS (jI p0.Rules.Stack) rfl) (And.intro (tS (jI p0.Rules.River) rfl) (And.intro (tS (jI p0.Rules.Road) rfl) (And.intro (tS (jI p0.Rules.Supply) rfl) (And.intro (tS (jI p0.Rules.Turns) rfl) (And.intro (tS (jI p0.Map.Width) rfl) (And.intro (tS (jI p0.Map.Height) rfl) (And.intro (tO (dat 1 eI zI p0.Map.Terrain)) (And.intro (tO (dat 1 eI zI p0.Map.Rivers)) (And.intro (tO (dat 1 eI zI p0.Map.Roads)) trivial))))))))))))) (And.intro (And.intro rfl (And.intro (tS (jI v9.1.Side) rfl) (And.intro (tS (jI v9.1.Turn) rfl) (And.intro (tS (jI v9.1.Weather) rfl) (And.intro (tO (dat 1 eI zI v9.1.Seen)) (And.intro (tO (dat 4 eTUnit zTUnit v9.1.Own)) (And.intro (tO (dat 4 eTUnit zTUnit v9.1.Enemies)) trivial))))))) (And.intro (And.intro rfl (And.intro (tF (dat 5 eTTerrain zTTerrain v11.Rules.Terrains) rfl (.dat shTTerrain)) (And.intro (tF (dat 6 eTKind zTKind v11.Rules.Kinds) rfl (.dat shTKind)) (And.intro (tS (jI v11.Rules.Stack) rfl) (And.intro (tS (jI v11.Rules.River) rfl) (And.intro (tS (jI v11.Rules.Road) rfl) (And.intro (tS (jI v11.Rules.Supply) rfl) (And.intro (tS (jI v11.Rules.Turns) rfl) (And.intro (tS (jI v11.Map.Width) rfl) (And.intro (tS (jI v11.Map.Height) rfl) (And.intro (tF (dat 1 eI zI v11.Map.Terrain) rfl (.dat shI)) (And.intro (tF (dat 1 eI zI v11.Map.Rivers) rfl (.dat shI)) (And.intro (tF (dat 1 eI zI v11.Map.Roads) rfl (.dat shI)) trivial))))))))))))) (And.intro (And.intro rfl (And.intro (tS (jI v13.1.Side) rfl) (And.intro (tS (jI v13.1.Turn) rfl) (And.intro (tS (jI v13.1.Weather) rfl) (And.intro (tS (.own 1002 1 0 v13.1.Seen.length) rfl) (And.intro (tS (.own 1003 4 0 v13.1.Own.length) rfl) (And.intro (tS (.own 1004 4 0 v13.1.Enemies.length) rfl) trivial))))))) (And.intro (And.intro rfl ⟨rfl, rfl, rfl, fun i _ => rfl⟩) (And.intro (And.intro rfl ⟨rfl, rfl, rfl, fun i _ => rfl⟩) (And.intro (And.intro rfl ⟨rfl, rfl, rfl, fun i _ => rfl⟩) trivial))))))) ?_
      obtain ⟨v33, h34, H⟩ := oB H
      refine so [.res (cI v33)] [] [(1, .c (.str p1)), (2, pk 2), (6, pk 6), (7, cB v9.2), (9, pk 9), (10, cB v13.2), (11, cI v33)] [(2, va (eTBoard p0)), (6, va (eTView v9.1)), (9, va (wTView 1002 1003 1004 v13.1)), (1002, ar 1 eI zI v13.1.Seen), (1003, ar 4 eTUnit zTUnit v13.1.Own), (1004, ar 4 eTUnit zTUnit v13.1.Enemies)] (aI ((l_markBoard_L_ok v11 1 v33 h34).up glTs)) ?_
      refine seq_in ?_
      rcases oC H with ⟨c39, H⟩ | ⟨c39, H⟩
      ·refine sn (rg 9 true []) [] [(68, cB true)] [] [] (fun t => aG 5 c39 (aG 4 rT (t))) ?_
       refine it rT ?_
       refine so [] [] [(4, cB false)] [] id ?_
       refine ends_ret ?_
       cases H
      ·obtain ⟨v40, h41, H⟩ := oB H
       rcases oC H with ⟨c42, H⟩ | ⟨c42, H⟩
       ·refine sn (rg 3 false ([.res (cB v40)] ++ rg 2 false (rg 4 true []))) [] [(68, cB true)] [] [] (fun t => aG 3 c39 (aI (Nat.le_refl v13.1.Seen.length) (aI (Nat.le_refl v13.1.Own.length) (aI (Nat.le_refl v13.1.Enemies.length) (aI ((l_eqView_ok v13.1 v9.1 v40 h41).up glTs) (aG 2 c39 (aG 4 c42 (t)))))))) ?_
        refine it rT ?_
        refine so [] [] [(4, cB false)] [] id ?_
        refine ends_ret ?_
        cases H
       ·refine sn (rg 3 false ([.res (cB v40)] ++ rg 6 false [])) [] [(68, cB (!(v13.2 == v9.2)))] [] [] (fun t => aG 3 c39 (aI (Nat.le_refl v13.1.Seen.length) (aI (Nat.le_refl v13.1.Own.length) (aI (Nat.le_refl v13.1.Enemies.length) (aI ((l_eqView_ok v13.1 v9.1 v40 h41).up glTs) (aG 2 c39 (aG 4 c42 (t)))))))) ?_
        refine jf c22 ?_
        refine sk ?_
        refine sn [] [] [(12, cI 1)] [] [] id ?_
        obtain ⟨v43, h44, H⟩ := oB H
        obtain ⟨g45, H⟩ := oI H
        obtain ⟨g46, H⟩ := oI H
        obtain ⟨g47, H⟩ := oI H
        refine so [.mu [(1002, 1000000), (1003, 1000001), (1004, 1000002)] [(1000000, 1002), (1000001, 1003), (1000002, 1004)] (cI v43.1) [(1000000, ar 1 eI zI v43.2.Seen), (1000001, ar 4 eTUnit zTUnit v43.2.Own), (1000002, ar 4 eTUnit zTUnit v43.2.Enemies)]] [.agg 69 [jI v13.1.Side, jI v13.1.Turn, jI v13.1.Weather, .own 1002 1 0 v43.2.Seen.length, .own 1003 4 0 v43.2.Own.length, .own 1004 4 0 v43.2.Enemies.length], .relc 9 3 v43.2.Seen.length, .relc 9 4 v43.2.Own.length, .relc 9 5 v43.2.Enemies.length] [(1, .c (.str p1)), (2, pk 2), (6, pk 6), (7, cB v9.2), (9, pk 9), (12, cI v43.1)] [(2, va (eTBoard p0)), (6, va (eTView v9.1)), (9, .var [jI v13.1.Side, jI v13.1.Turn, jI v13.1.Weather, .own 1002 1 0 v43.2.Seen.length, .own 1003 4 0 v43.2.Own.length, .own 1004 4 0 v43.2.Enemies.length] false), (1002, ar 1 eI zI v43.2.Seen), (1003, ar 4 eTUnit zTUnit v43.2.Own), (1004, ar 4 eTUnit zTUnit v43.2.Enemies)] (fun t => aI ((l_markView_Mod_ok v13.1 1 v43 h44).up glTs) (aI (by rw [← g45, ← g46, ← g47] : AV.agg [jI v13.1.Side, jI v13.1.Turn, jI v13.1.Weather, .own 1002 1 0 v13.1.Seen.length, .own 1003 4 0 v13.1.Own.length, .own 1004 4 0 v13.1.Enemies.length] = AV.agg [jI v13.1.Side, jI v13.1.Turn, jI v13.1.Weather, .own 1002 1 0 v43.2.Seen.length, .own 1003 4 0 v43.2.Own.length, .own 1004 4 0 v43.2.Enemies.length]) (aI (Eq.symm g45) (aI (Eq.symm g46) (aI (Eq.symm g47) (t)))))) ?_
        refine sn [] [] [(13, cI 1)] [] [] id ?_
        obtain ⟨v48, h49, H⟩ := oB H
        refine so [.res (cI v48)] [] [(1, .c (.str p1)), (2, pk 2), (6, pk 6), (7, cB v9.2), (9, pk 9), (12, cI v43.1), (13, cI v48)] [(2, va (eTBoard p0)), (6, va (eTView v9.1)), (9, .var [jI v13.1.Side, jI v13.1.Turn, jI v13.1.Weather, .own 1002 1 0 v43.2.Seen.length, .own 1003 4 0 v43.2.Own.length, .own 1004 4 0 v43.2.Enemies.length] false), (1002, ar 1 eI zI v43.2.Seen), (1003, ar 4 eTUnit zTUnit v43.2.Own), (1004, ar 4 eTUnit zTUnit v43.2.Enemies)] (fun t => aI (Nat.le_refl v43.2.Seen.length) (aI (Nat.le_refl v43.2.Own.length) (aI (Nat.le_refl v43.2.Enemies.length) (aI ((l_heldView_ok (TView.mk v13.1.Side v13.1.Turn v13.1.Weather v43.2.Seen v43.2.Own v43.2.Enemies) 1 v48 h49).up glTs) (t))))) ?_
        refine seq_in ?_
        refine sn [] [] [(76, cB (decide (v48 < 0)))] [] [] id ?_
        rcases oC H with ⟨c51, H⟩ | ⟨c51, H⟩
        ·refine it c51 ?_
         refine so [] [] [(4, cB false)] [] id ?_
         refine ends_ret ?_
         cases H
        ·refine jf c51 ?_
         refine sk ?_
         refine seq_in ?_
         refine sn [] [] [(79, cB (v48 != v43.1))] [] [] id ?_
         rcases oC H with ⟨c53, H⟩ | ⟨c53, H⟩
         ·refine it c53 ?_
          refine so [] [] [(4, cB false)] [] id ?_
          refine ends_ret ?_
          cases H
         ·refine jf c53 ?_
          refine sk ?_
          obtain ⟨v54, h55, H⟩ := oB H
          obtain ⟨v56, h57, H⟩ := oB H
          refine sn [.res (.agg (rTBoard v54)), .res (.tup [(true, [jI v56.1.Side, jI v56.1.Turn, jI v56.1.Weather, dat 1 eI zI v56.1.Seen, dat 4 eTUnit zTUnit v56.1.Own, dat 4 eTUnit zTUnit v56.1.Enemies]), (false, [.bool v56.2])])] [] [(14, pk 14), (15, cB v56.2)] [] [(14, va (eTView v56.1))] (fun t => aI ((l_toBoard_F_ok p0 v54 h55).up glTs) (aI ((FnOk.le2 (xs := [.agg (rTBoard v54), .c (.str p1)]) (i_ParseReport_ok v54 p1 v56 h57) ⟨LeD.agg (And.intro (LeC.fr _) (And.intro (LeC.fr _) (And.intro (LeC.refl _) (And.intro (LeC.refl _) (And.intro (LeC.refl _) (And.intro (LeC.refl _) (And.intro (LeC.refl _) (And.intro (LeC.refl _) (And.intro (LeC.refl _) (And.intro (LeC.fr _) (And.intro (LeC.fr _) (And.intro (LeC.fr _) (trivial))))))))))))), LeD.refl _, trivial⟩).up glTs) (t))) ?_
          refine seq_in ?_
          obtain ⟨v62, h63, H⟩ := oB H
          rcases oC H with ⟨c64, H⟩ | ⟨c64, H⟩
          ·refine sn ([.res (cB v62)] ++ rg 4 true []) [] [(95, cB true)] [2] [] (fun t => aI ((l_eqView_ok v56.1 v9.1 v62 h63).up glTs) (aG 4 c64 (t))) ?_
           refine it rT ?_
           refine so [] [] [(4, cB false)] [] id ?_
           refine ends_ret ?_
           cases H
          ·refine sn ([.res (cB v62)] ++ rg 4 false []) [] [(95, cB (!(v56.2 == v9.2)))] [2] [] (fun t => aI ((l_eqView_ok v56.1 v9.1 v62 h63).up glTs) (aG 4 c64 (t))) ?_
           rcases oC H with ⟨c65, H⟩ | ⟨c65, H⟩
           ·refine it c65 ?_
            refine so [] [] [(4, cB false)] [] id ?_
            refine ends_ret ?_
            cases H
           ·refine jf c65 ?_
            refine sk ?_
            refine so [] [] [(9, pk 9), (12, cI v43.1), (13, cI 1)] [(9, .var [jI v13.1.Side, jI v13.1.Turn, jI v13.1.Weather, .own 1002 1 0 v43.2.Seen.length, .own 1003 4 0 v43.2.Own.length, .own 1004 4 0 v43.2.Enemies.length] false), (1002, ar 1 eI zI v43.2.Seen), (1003, ar 4 eTUnit zTUnit v43.2.Own), (1004, ar 4 eTUnit zTUnit v43.2.Enemies)] id ?_
            obtain ⟨v66, h67, H⟩ := oB H
            refine so [.res (cI v66)] [] [(12, cI v43.1), (13, cI v66)] [] (fun t => aI (Nat.le_refl v43.2.Seen.length) (aI (Nat.le_refl v43.2.Own.length) (aI (Nat.le_refl v43.2.Enemies.length) (aI ((l_heldView_ok (TView.mk v13.1.Side v13.1.Turn v13.1.Weather v43.2.Seen v43.2.Own v43.2.Enemies) 1 v66 h67).up glTs) (t))))) ?_
            refine seq_in ?_
            refine sn [] [] [(100, cB (decide (v66 < 0)))] [] [] id ?_
            rcases oC H with ⟨c69, H⟩ | ⟨c69, H⟩
            ·refine it c69 ?_
             refine so [] [] [(4, cB false)] [] id ?_
             refine ends_ret ?_
             cases H
            ·refine jf c69 ?_
             refine sk ?_
             refine seq_in ?_
             refine so [] [] [(103, cB (v66 != v43.1))] [] id ?_
             rcases oC H with ⟨c70, H⟩ | ⟨c70, H⟩
             ·refine it c70 ?_
              refine so [] [] [(4, cB false)] [] id ?_
              refine ends_ret ?_
              cases H
             ·refine jf c70 ?_
              refine sk ?_
              refine so [] [] [(4, cB true)] [] id ?_
              refine ends_ret ?_
              exact qr
end Go.Proofs.YtjlabdoeiphegaaGreatDoor.X0
