/- What each function that FnExactLooksAlike reaches computes; no condition. -/
import Derived.Test.YtgfgmjefikefeaaGreatDoorLaWb
set_option linter.unusedVariables false
set_option linter.unusedSimpArgs false
set_option maxRecDepth 100000
namespace Go.Proofs.YtgfgmjefikefeaaGreatDoor.X0
open Go Go.RowKit Go.Proofs.YtgfgmjefikefeaaGreatDoor.Ab Go.Proofs

def l_FnExactLooksAlike_ir : S :=
 (sq [o 4 (.box 12 (.t 0)), o 5 (.box 3 (.t 1)), o 6 (.box 3 (.t 2)), o 8 (.mv bF)]
 (sq [o 9 (.mv (iv 1048576))]
 (sq [o 17 (.load 12 true (.t 4)), om 18 9, o 19 (.call 6 [.t 17, .t 18]), om 9 19]
 (.seq (sq [om 20 9, o 21 (.bin .lss (.t 20) (iv 0))]
 (.ite (.t 21) (sq [o 8 (.mv bT)]
  .ret)
 .skip))
 (sq [o 22 (.load 3 true (.t 5)), om 23 9, o 24 (.call 7 [.t 22, .t 23]), om 9 24]
 (.seq (sq [om 25 9, o 26 (.bin .lss (.t 25) (iv 0))]
 (.ite (.t 26) (sq [o 8 (.mv bT)]
  .ret)
 .skip))
 (sq [o 27 (.load 3 true (.t 6)), om 28 9, o 29 (.call 7 [.t 27, .t 28]), om 9 29]
 (.seq (sq [om 30 9, o 31 (.bin .lss (.t 30) (iv 0))]
 (.ite (.t 31) (sq [o 8 (.mv bT)]
  .ret)
 .skip))
 (.seq (.drw [(0, 2), (1, 2), (0, 4), (1, 4), (2, 4), (3, 4), (0, 6), (1, 6), (2, 6), (3, 6), (4, 6), (5, 6), (9, 10), (10, 11)] [o 33 (.load 12 true (.t 4)), o 34 (.call 9 [.t 33]), o 35 (.load 3 true (.t 5)), o 36 (.call 10 [.t 35]), o 37 (.load 3 true (.t 6)), o 38 (.call 10 [.t 37]), om 39 3, o 40 (.call 19 [.t 34, .t 36, .t 38, .t 39]), om 32 40, o 41 (.ext (.t 32) 0), o 42 (.ext (.t 32) 1), om 10 41, om 11 42])
 (sq [o 43 (.load 12 true (.t 4)), o 44 (.call 9 [.t 43]), o 12 (.alloc [.nil, .nil, .int .i64 0, .int .i64 0, .int .i64 0, .int .i64 0, .int .i64 0, .int .i64 0, .int .i64 0, .nil, .nil, .nil]), os 12 12 44]
 (sq [o 45 (.load 3 true (.t 5)), o 46 (.call 10 [.t 45]), o 13 (.alloc [.int .i64 0, .int .i64 0, .nil]), os 3 13 46]
 (sq [o 47 (.load 3 true (.t 6)), o 48 (.call 10 [.t 47]), o 14 (.alloc [.int .i64 0, .int .i64 0, .nil]), os 3 14 48]
 (sq [o 50 (.load 12 true (.t 12)), o 51 (.load 3 true (.t 13)), o 52 (.load 3 true (.t 14)), om 53 3, o 54 (.call 20 [.t 50, .t 51, .t 52, .t 53]), om 49 54, o 55 (.ext (.t 49) 0), o 56 (.ext (.t 49) 1), om 15 55, om 16 56]
 (.seq (sq [om 57 15, om 58 10, o 59 (.bqe true (.t 57) (.t 58)), om 60 59, og 61 (.mv (.t 16)) 60, og 62 (.mv (.t 11)) 60, og 63 (.bqe true (.t 61) (.t 62)) 60, o 64 (.pick (.t 60) bT (.t 63))]
 (.ite (.t 64) (sq [o 8 (.mv bF)]
  .ret)
 .skip))
 (.seq (.seq (.drw [(0, 1), (0, 2)] [o 65 (.load 12 true (.t 12)), o 66 (.load 12 true (.t 4)), o 67 (.call 9 [.t 66]), o 68 (.call 12 [.t 65, .t 67]), o 69 (.not (.t 68))])
 (.ite (.t 69) (sq [o 8 (.mv bF)]
  .ret)
 .skip))
 (.seq (.seq (.drw [(0, 1), (0, 2)] [o 70 (.load 3 true (.t 13)), o 71 (.load 3 true (.t 5)), o 72 (.call 10 [.t 71]), o 73 (.call 13 [.t 70, .t 72]), o 74 (.not (.t 73))])
 (.ite (.t 74) (sq [o 8 (.mv bF)]
  .ret)
 .skip))
 (.seq (.seq (.drw [(0, 1), (0, 2)] [o 75 (.load 3 true (.t 14)), o 76 (.load 3 true (.t 6)), o 77 (.call 10 [.t 76]), o 78 (.call 13 [.t 75, .t 77]), o 79 (.not (.t 78))])
 (.ite (.t 79) (sq [o 8 (.mv bF)]
  .ret)
 .skip))
 (sq [o 8 (.mv bT)]
 .ret))))))))))))))))))
noncomputable def X.l_FnExactLooksAlike (p0 : TBoard) (p1 : TState) (p2 : TState) (p3 : Int) : Option Bool :=
 ((X.l_szBoard p0 1048576).bind fun v1 => (bif (decide (v1 < 0)) then some true else ((X.l_szState p1 v1).bind fun v5 => (bif (decide (v5 < 0)) then some true else ((X.l_szState p2 v5).bind fun v9 => (bif (decide (v9 < 0)) then some true else ((X.l_toBoard p0).bind fun v13 => ((X.l_toState p1).bind fun v15 => ((X.l_toState p2).bind fun v17 => ((X.s_LooksAlike v13 v15 v17 p3).bind fun v19 => ((X.l_toBoard p0).bind fun v21 => ((X.l_toState p1).bind fun v23 => ((X.l_toState p2).bind fun v25 => ((X.i_LooksAlike v21 v23 v25 p3).bind fun v27 => (bif (!(v27.1 == v19.1)) then some false else (bif (!(v27.2 == v19.2)) then some false else ((X.l_toBoard p0).bind fun v38 => ((X.l_eqBoard v21 v38).bind fun v40 => (bif (!v40) then some false else ((X.l_toState p1).bind fun v48 => ((X.l_eqState v23 v48).bind fun v50 => (bif (!v50) then some false else ((X.l_toState p2).bind fun v53 => ((X.l_eqState v25 v53).bind fun v55 => (bif (!v55) then some false else some true)))))))))))))))))))))))))
theorem l_FnExactLooksAlike_ok (p0 : TBoard) (p1 : TState) (p2 : TState) (p3 : Int) (r : Bool) (H : X.l_FnExactLooksAlike p0 p1 p2 p3 = some r) : FK 5 [.agg (eTBoard p0), .agg (eTState p1), .agg (eTState p2), cI p3] (cB r) := by
 unfold X.l_FnExactLooksAlike at H
 refine fi Tryz.f5 l_FnExactLooksAlike_ir [(8, cB r)] [] glL Tryz.func5 ?_
 refine sn [] [] [(4, pk 4), (5, pk 5), (6, pk 6)] [] [(4, va (eTBoard p0)), (5, va (eTState p1)), (6, va (eTState p2))] id ?_
 refine sn [] [] [(9, cI 1048576)] [] [] id ?_
 obtain ⟨v1, h2, H⟩ := oB H
 refine so [.res (cI v1)] [] [(3, cI p3), (4, pk 4), (5, pk 5), (6, pk 6), (9, cI v1)] [(4, va (eTBoard p0)), (5, va (eTState p1)), (6, va (eTState p2))] (aI (l_szBoard_ok p0 1048576 v1 h2)) ?_
 refine seq_in ?_
 refine sn [] [] [(21, cB (decide (v1 < 0)))] [] [] id ?_
 rcases oC H with ⟨c4, H⟩ | ⟨c4, H⟩
 ·refine it c4 ?_
  refine so [] [] [(8, cB true)] [] id ?_
  cases H
  exact er
 ·refine jf c4 ?_
  refine sk ?_
  obtain ⟨v5, h6, H⟩ := oB H
  refine so [.res (cI v5)] [] [(3, cI p3), (4, pk 4), (5, pk 5), (6, pk 6), (9, cI v5)] [(4, va (eTBoard p0)), (5, va (eTState p1)), (6, va (eTState p2))] (aI (l_szState_ok p1 v1 v5 h6)) ?_
  refine seq_in ?_
  refine sn [] [] [(26, cB (decide (v5 < 0)))] [] [] id ?_
  rcases oC H with ⟨c8, H⟩ | ⟨c8, H⟩
  ·refine it c8 ?_
   refine so [] [] [(8, cB true)] [] id ?_
   cases H
   exact er
  ·refine jf c8 ?_
   refine sk ?_
   obtain ⟨v9, h10, H⟩ := oB H
   refine so [.res (cI v9)] [] [(3, cI p3), (4, pk 4), (5, pk 5), (6, pk 6), (9, cI v9)] [(4, va (eTBoard p0)), (5, va (eTState p1)), (6, va (eTState p2))] (aI (l_szState_ok p2 v5 v9 h10)) ?_
   refine seq_in ?_
   refine sn [] [] [(31, cB (decide (v9 < 0)))] [] [] id ?_
   rcases oC H with ⟨c12, H⟩ | ⟨c12, H⟩
   ·refine it c12 ?_
    refine so [] [] [(8, cB true)] [] id ?_
    cases H
    exact er
   ·refine jf c12 ?_
    refine sk ?_
    obtain ⟨v13, h14, H⟩ := oB H
    obtain ⟨v15, h16, H⟩ := oB H
    obtain ⟨v17, h18, H⟩ := oB H
    obtain ⟨v19, h20, H⟩ := oB H
    refine xn [.res (.agg (eTBoard v13)), .res (.agg (eTState v15)), .res (.agg (eTState v17)), .res (.tup [(false, [.bool v19.1]), (false, [.bool v19.2])])] [] [(10, cB v19.1), (11, cB v19.2)] [] [] (fun t => aI (l_toBoard_ok p0 v13 h14) (aG 2 rN (aI (l_toState_ok p1 v15 h16) (aG 2 rN (aI (l_toState_ok p2 v17 h18) (aG 2 rN (aI (s_LooksAlike_ok v13 v15 v17 p3 v19 h20) (aI trivial (aI rN (t)))))))))) ?_
    obtain ⟨v21, h22, H⟩ := oB H
    refine sn [.res (.agg (eTBoard v21))] [] [(12, pk 12)] [] [(12, va (eTBoard v21))] (aI (l_toBoard_ok p0 v21 h22)) ?_
    obtain ⟨v23, h24, H⟩ := oB H
    refine sn [.res (.agg (eTState v23))] [] [(13, pk 13)] [] [(13, va (eTState v23))] (aI (l_toState_ok p1 v23 h24)) ?_
    obtain ⟨v25, h26, H⟩ := oB H
    refine sn [.res (.agg (eTState v25))] [] [(14, pk 14)] [] [(14, va (eTState v25))] (aI (l_toState_ok p2 v25 h26)) ?_
    obtain ⟨v27, h28, H⟩ := oB H
    refine sn [.res (.tup [(false, [.bool v27.1]), (false, [.bool v27.2])])] [] [(15, cB v27.1), (16, cB v27.2)] [] [] (aI (i_LooksAlike_ok v21 v23 v25 p3 v27 h28)) ?_
    refine seq_in ?_
    rcases oC H with ⟨c31, H⟩ | ⟨c31, H⟩
    ·refine sn (rg 4 true []) [] [(64, cB true)] [] [] (fun t => aG 4 c31 (t)) ?_
     refine it rT ?_
     refine so [] [] [(8, cB false)] [] id ?_
     cases H
     exact er
    ·refine sn (rg 4 false []) [] [(64, cB (!(v27.2 == v19.2)))] [] [] (fun t => aG 4 c31 (t)) ?_
     rcases oC H with ⟨c32, H⟩ | ⟨c32, H⟩
     ·refine it c32 ?_
      refine so [] [] [(8, cB false)] [] id ?_
      cases H
      exact er
     ·refine jf c32 ?_
      refine sk ?_
      refine seq_in ?_
      obtain ⟨v38, h39, H⟩ := oB H
      obtain ⟨v40, h41, H⟩ := oB H
      refine xn [.res (.agg (eTBoard v38)), .res (cB v40)] [] [(69, cB (!v40))] [] [] (fun t => aI (l_toBoard_ok p0 v38 h39) (aG 2 rN (aI (l_eqBoard_ok v21 v38 v40 h41) (aI trivial (aI rN (t)))))) ?_
      rcases oC H with ⟨c42, H⟩ | ⟨c42, H⟩
      ·refine it c42 ?_
       refine so [] [] [(8, cB false)] [] id ?_
       cases H
       exact er
      ·refine jf c42 ?_
       refine sk ?_
       refine seq_in ?_
       obtain ⟨v48, h49, H⟩ := oB H
       obtain ⟨v50, h51, H⟩ := oB H
       refine sx [.res (.agg (eTState v48)), .res (cB v50)] [] [(6, pk 6), (14, pk 14), (74, cB (!v50))] [(6, va (eTState p2)), (14, va (eTState v25))] (fun t => aI (l_toState_ok p1 v48 h49) (aG 2 rN (aI (l_eqState_ok v23 v48 v50 h51) (aI trivial (aI rN (t)))))) ?_
       rcases oC H with ⟨c52, H⟩ | ⟨c52, H⟩
       ·refine it c52 ?_
        refine so [] [] [(8, cB false)] [] id ?_
        cases H
        exact er
       ·refine jf c52 ?_
        refine sk ?_
        refine seq_in ?_
        obtain ⟨v53, h54, H⟩ := oB H
        obtain ⟨v55, h56, H⟩ := oB H
        refine sx [.res (.agg (eTState v53)), .res (cB v55)] [] [(79, cB (!v55))] [] (fun t => aI (l_toState_ok p2 v53 h54) (aG 2 rN (aI (l_eqState_ok v25 v53 v55 h56) (aI trivial (aI rN (t)))))) ?_
        rcases oC H with ⟨c57, H⟩ | ⟨c57, H⟩
        ·refine it c57 ?_
         refine so [] [] [(8, cB false)] [] id ?_
         cases H
         exact er
        ·refine jf c57 ?_
         refine sk ?_
         refine so [] [] [(8, cB true)] [] id ?_
         cases H
         exact er
end Go.Proofs.YtgfgmjefikefeaaGreatDoor.X0
