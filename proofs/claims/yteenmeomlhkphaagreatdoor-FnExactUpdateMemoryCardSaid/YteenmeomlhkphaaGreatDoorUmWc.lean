/- What each function that FnExactUpdateMemory reaches computes; no condition. -/
import Derived.Test.YteenmeomlhkphaaGreatDoorUmWb
set_option linter.unusedVariables false
set_option linter.unusedSimpArgs false
set_option maxRecDepth 100000
namespace Go.Proofs.YteenmeomlhkphaaGreatDoor.X0
open Go Go.RowKit Go.Proofs.YteenmeomlhkphaaGreatDoor.Ab Go.Proofs

def l_heldMemory_ir : S :=
 (sq [o 2 (.box 2 (.t 0)), o 4 (.mv (iv 0))]
 (sq [oa 5 0 2, ol 6 5, om 7 1, o 8 (.call 76 [.t 6, .t 7]), om 1 8]
 (.seq (sq [om 9 1, o 10 (.bin .lss (.t 9) (iv 0))]
 (.ite (.t 10) (sq [o 4 (.mv (.v (.int .i64 (-1))))]
  .ret)
 .skip))
 (sq [oa 11 1 2, ol 12 11, om 13 1, o 14 (.call 76 [.t 12, .t 13]), om 1 14]
 (.seq (sq [om 15 1, o 16 (.bin .lss (.t 15) (iv 0))]
 (.ite (.t 16) (sq [o 4 (.mv (.v (.int .i64 (-1))))]
  .ret)
 .skip))
 (sq [om 17 1, om 4 17]
 .ret))))))
noncomputable def X.l_heldMemory (p0 : TMemory) (p1 : Int) : Option Int :=
 ((X.l_heldIntS p0.Turns p1).bind fun v1 => (bif (decide (v1 < 0)) then some (-1) else ((X.l_heldIntS p0.Counts v1).bind fun v5 => (bif (decide (v5 < 0)) then some (-1) else some v5))))
theorem l_heldMemory_ok (p0 : TMemory) (p1 : Int) (r : Int) (H : X.l_heldMemory p0 p1 = some r) : FK 40 [.agg (eTMemory p0), cI p1] (cI r) := by
 unfold X.l_heldMemory at H
 refine fi Tryz.f40 l_heldMemory_ir [(4, cI r)] [] glL Tryz.func40 ?_
 refine sn [] [] [(2, pk 2)] [] [(2, va (eTMemory p0))] id ?_
 obtain ⟨v1, h2, H⟩ := oB H
 refine so [.res (cI v1)] [] [(1, cI v1), (2, pk 2)] [(2, va (eTMemory p0))] (aI (l_heldIntS_ok p0.Turns p1 v1 h2)) ?_
 refine seq_in ?_
 refine sn [] [] [(10, cB (decide (v1 < 0)))] [] [] id ?_
 rcases oC H with ⟨c4, H⟩ | ⟨c4, H⟩
 ·refine it c4 ?_
  refine so [] [] [(4, cI (-1))] [] id ?_
  cases H
  exact er
 ·refine jf c4 ?_
  refine sk ?_
  obtain ⟨v5, h6, H⟩ := oB H
  refine so [.res (cI v5)] [] [(1, cI v5)] [] (aI (l_heldIntS_ok p0.Counts v1 v5 h6)) ?_
  refine seq_in ?_
  refine sn [] [] [(16, cB (decide (v5 < 0)))] [] [] id ?_
  rcases oC H with ⟨c7, H⟩ | ⟨c7, H⟩
  ·refine it c7 ?_
   refine so [] [] [(4, cI (-1))] [] id ?_
   cases H
   exact er
  ·refine jf c7 ?_
   refine sk ?_
   refine so [] [] [(4, cI v5)] [] id ?_
   cases H
   exact er
def l_FnExactUpdateMemory_ir : S :=
 (sq [o 4 (.box 12 (.t 0)), o 5 (.box 3 (.t 1)), o 7 (.box 2 (.t 3)), o 8 (.mv bF)]
 (sq [o 9 (.mv (iv 1048576))]
 (sq [o 22 (.load 12 true (.t 4)), om 23 9, o 24 (.call 10 [.t 22, .t 23]), om 9 24]
 (.seq (sq [om 25 9, o 26 (.bin .lss (.t 25) (iv 0))]
 (.ite (.t 26) (sq [o 8 (.mv bT)]
  .ret)
 .skip))
 (sq [o 27 (.load 3 true (.t 5)), om 28 9, o 29 (.call 19 [.t 27, .t 28]), om 9 29]
 (.seq (sq [om 30 9, o 31 (.bin .lss (.t 30) (iv 0))]
 (.ite (.t 31) (sq [o 8 (.mv bT)]
  .ret)
 .skip))
 (sq [o 32 (.load 2 true (.t 7)), om 33 9, o 34 (.call 34 [.t 32, .t 33]), om 9 34]
 (.seq (sq [om 35 9, o 36 (.bin .lss (.t 35) (iv 0))]
 (.ite (.t 36) (sq [o 8 (.mv bT)]
  .ret)
 .skip))
 (.seq (.drw [(0, 2), (1, 2), (0, 4), (1, 4), (2, 4), (3, 4), (0, 5), (1, 5), (2, 5), (3, 5), (4, 5), (4, 6), (9, 10), (0, 11), (1, 11), (2, 11), (3, 11), (4, 11), (5, 11), (6, 11), (7, 11), (8, 11), (9, 11), (10, 11), (10, 12)] [o 38 (.load 12 true (.t 4)), o 39 (.call 12 [.t 38]), o 40 (.load 3 true (.t 5)), o 41 (.call 21 [.t 40]), om 42 2, o 43 (.load 2 true (.t 7)), o 44 (.call 36 [.t 43]), o 45 (.call 35 [.t 39, .t 41, .t 42, .t 44]), om 37 45, o 46 (.ext (.t 37) 0), o 47 (.ext (.t 37) 1), o 10 (.alloc [.nil, .nil]), os 2 10 46, om 11 47])
 (sq [o 48 (.load 12 true (.t 4)), o 49 (.call 12 [.t 48]), o 12 (.alloc [.nil, .nil, .int .i64 0, .int .i64 0, .int .i64 0, .int .i64 0, .int .i64 0, .int .i64 0, .int .i64 0, .nil, .nil, .nil]), os 12 12 49]
 (sq [o 50 (.load 3 true (.t 5)), o 51 (.call 21 [.t 50]), o 13 (.alloc [.int .i64 0, .int .i64 0, .nil]), os 3 13 51]
 (sq [o 52 (.load 2 true (.t 7)), o 53 (.call 36 [.t 52]), o 14 (.alloc [.nil, .nil]), os 2 14 53]
 (sq [o 55 (.load 12 true (.t 12)), o 56 (.load 3 true (.t 13)), om 57 2, o 58 (.load 2 true (.t 14)), o 59 (.call 37 [.t 55, .t 56, .t 57, .t 58]), om 54 59, o 60 (.ext (.t 54) 0), o 61 (.ext (.t 54) 1), o 15 (.alloc [.nil, .nil]), os 2 15 60, om 16 61]
 (.seq (sq [o 62 (.load 2 true (.t 15)), o 63 (.load 2 true (.t 10)), o 64 (.call 38 [.t 62, .t 63]), o 65 (.not (.t 64)), om 66 65, og 67 (.mv (.t 16)) 66, og 68 (.mv (.t 11)) 66, og 69 (.bqe true (.t 67) (.t 68)) 66, o 70 (.pick (.t 66) bT (.t 69))]
 (.ite (.t 70) (sq [o 8 (.mv bF)]
  .ret)
 .skip))
 (.seq (.seq (.drw [(0, 1), (0, 2)] [o 71 (.load 12 true (.t 12)), o 72 (.load 12 true (.t 4)), o 73 (.call 12 [.t 72]), o 74 (.call 15 [.t 71, .t 73]), o 75 (.not (.t 74))])
 (.ite (.t 75) (sq [o 8 (.mv bF)]
  .ret)
 .skip))
 (.seq (.seq (.drw [(0, 1), (0, 2)] [o 76 (.load 3 true (.t 13)), o 77 (.load 3 true (.t 5)), o 78 (.call 21 [.t 77]), o 79 (.call 24 [.t 76, .t 78]), o 80 (.not (.t 79))])
 (.ite (.t 80) (sq [o 8 (.mv bF)]
  .ret)
 .skip))
 (.seq (.seq (.drw [(0, 1), (0, 2)] [o 81 (.load 2 true (.t 14)), o 82 (.load 2 true (.t 7)), o 83 (.call 36 [.t 82]), o 84 (.call 38 [.t 81, .t 83]), o 85 (.not (.t 84))])
 (.ite (.t 85) (sq [o 8 (.mv bF)]
  .ret)
 .skip))
 (sq [o 17 (.mv (iv 1))]
 (sq [o 86 (.load 12 true (.t 12)), om 87 17, o 88 (.call 16 [.t 86, .t 87]), om 17 88]
 (sq [o 89 (.load 3 true (.t 13)), om 90 17, o 91 (.call 25 [.t 89, .t 90]), om 17 91]
 (sq [o 92 (.load 2 true (.t 14)), om 93 17, o 94 (.call 39 [.t 92, .t 93]), om 17 94]
 (.seq (sq [om 95 17, o 96 (.bin .lss (.t 95) (iv 0)), om 97 96, og 98 (.load 2 true (.t 15)) 97, og 99 (.load 2 true (.t 10)) 97, og 100 (.call 38 [.t 98, .t 99]) 97, og 101 (.not (.t 100)) 97, o 102 (.pick (.t 97) bT (.t 101)), om 103 102, og 104 (.mv (.t 16)) 103, og 105 (.mv (.t 11)) 103, og 106 (.bqe true (.t 104) (.t 105)) 103, o 107 (.pick (.t 103) bT (.t 106))]
 (.ite (.t 107) (sq [o 8 (.mv bF)]
  .ret)
 .skip))
 (sq [o 18 (.mv (iv 1))]
 (sq [o 108 (.load 2 true (.t 15)), om 109 18, o 110 (.call 39 [.t 108, .t 109]), om 18 110]
 (sq [o 19 (.mv (iv 1))]
 (sq [o 111 (.load 2 true (.t 15)), om 112 19, o 113 (.call 40 [.t 111, .t 112]), om 19 113]
 (.seq (sq [om 114 19, o 115 (.bin .lss (.t 114) (iv 0))]
 (.ite (.t 115) (sq [o 8 (.mv bF)]
  .ret)
 .skip))
 (.seq (sq [om 116 19, om 117 18, o 118 (.bin .neq (.t 116) (.t 117))]
 (.ite (.t 118) (sq [o 8 (.mv bF)]
  .ret)
 .skip))
 (.seq (.drw [(0, 2), (1, 2), (0, 4), (1, 4), (2, 4), (3, 4), (0, 5), (1, 5), (2, 5), (3, 5), (4, 5), (4, 6), (9, 10), (0, 11), (1, 11), (2, 11), (3, 11), (4, 11), (5, 11), (6, 11), (7, 11), (8, 11), (9, 11), (10, 11), (10, 12)] [o 120 (.load 12 true (.t 4)), o 121 (.call 12 [.t 120]), o 122 (.load 3 true (.t 5)), o 123 (.call 21 [.t 122]), om 124 2, o 125 (.load 2 true (.t 7)), o 126 (.call 36 [.t 125]), o 127 (.call 37 [.t 121, .t 123, .t 124, .t 126]), om 119 127, o 128 (.ext (.t 119) 0), o 129 (.ext (.t 119) 1), o 20 (.alloc [.nil, .nil]), os 2 20 128, om 21 129])
 (.seq (sq [o 130 (.load 2 true (.t 20)), o 131 (.load 2 true (.t 10)), o 132 (.call 38 [.t 130, .t 131]), o 133 (.not (.t 132)), om 134 133, og 135 (.mv (.t 21)) 134, og 136 (.mv (.t 11)) 134, og 137 (.bqe true (.t 135) (.t 136)) 134, o 138 (.pick (.t 134) bT (.t 137))]
 (.ite (.t 138) (sq [o 8 (.mv bF)]
  .ret)
 .skip))
 (sq [o 19 (.mv (iv 1))]
 (sq [o 139 (.load 2 true (.t 15)), om 140 19, o 141 (.call 40 [.t 139, .t 140]), om 19 141]
 (.seq (sq [om 142 19, o 143 (.bin .lss (.t 142) (iv 0))]
 (.ite (.t 143) (sq [o 8 (.mv bF)]
  .ret)
 .skip))
 (.seq (sq [om 144 19, om 145 18, o 146 (.bin .neq (.t 144) (.t 145))]
 (.ite (.t 146) (sq [o 8 (.mv bF)]
  .ret)
 .skip))
 (sq [o 8 (.mv bT)]
 .ret)))))))))))))))))))))))))))))))))))
noncomputable def X.l_FnExactUpdateMemory (p0 : TBoard) (p1 : TState) (p2 : Int) (p3 : TMemory) : Option Bool :=
 ((X.l_szBoard p0 1048576).bind fun v1 => (bif (decide (v1 < 0)) then some true else ((X.l_szState p1 v1).bind fun v5 => (bif (decide (v5 < 0)) then some true else ((X.l_szMemory p3 v5).bind fun v9 => (bif (decide (v9 < 0)) then some true else ((X.l_toBoard p0).bind fun v13 => ((X.l_toState p1).bind fun v15 => ((X.l_toMemory p3).bind fun v17 => ((X.s_UpdateMemory v13 v15 p2 v17).bind fun v19 => ((X.l_toBoard p0).bind fun v21 => ((X.l_toState p1).bind fun v23 => ((X.l_toMemory p3).bind fun v25 => ((X.i_UpdateMemory v21 v23 p2 v25).bind fun v27 => ((X.l_eqMemory v27.1 v19.1).bind fun v33 => (bif (!v33) then some false else (bif (!(v27.2 == v19.2)) then some false else ((X.l_toBoard p0).bind fun v42 => ((X.l_eqBoard v21 v42).bind fun v44 => (bif (!v44) then some false else ((X.l_toState p1).bind fun v52 => ((X.l_eqState v23 v52).bind fun v54 => (bif (!v54) then some false else ((X.l_toMemory p3).bind fun v62 => ((X.l_eqMemory v25 v62).bind fun v64 => (bif (!v64) then some false else ((X.l_markBoard_L v21 1).bind fun v67 => ((X.l_markState_L v23 v67).bind fun v69 => ((X.l_markMemory_L v25 v69).bind fun v71 => (bif (decide (v71 < 0)) then some false else ((X.l_eqMemory v27.1 v19.1).bind fun v78 => (bif (!v78) then some false else ((X.l_markMemory_Mod v27.1 1).bind fun v81 => (if v81.2.Turns.length = v27.1.Turns.length then (if v81.2.Counts.length = v27.1.Counts.length then ((X.l_heldMemory v81.2 1).bind fun v85 => (bif (decide (v85 < 0)) then some false else (bif (v85 != v81.1) then some false else ((X.l_toBoard p0).bind fun v91 => ((X.l_toState p1).bind fun v93 => ((X.l_toMemory p3).bind fun v95 => ((X.i_UpdateMemory v91 v93 p2 v95).bind fun v97 => ((X.l_eqMemory v97.1 v19.1).bind fun v103 => (bif (!v103) then some false else (bif (!(v97.2 == v19.2)) then some false else ((X.l_heldMemory v81.2 1).bind fun v107 => (bif (decide (v107 < 0)) then some false else (bif (v107 != v81.1) then some false else some true))))))))))))) else none) else none))))))))))))))))))))))))))))))))))
theorem l_FnExactUpdateMemory_T_ok (p0 : TBoard) (p1 : TState) (p2 : Int) (p3 : TMemory) (H : X.l_FnExactUpdateMemory p0 p1 p2 p3 = some true) : LawOk Tryz.prog gl 6 [.agg (eTBoard p0), .agg (eTState p1), cI p2, .agg (eTMemory p3)] := by
 unfold X.l_FnExactUpdateMemory at H
 refine lawOk_of (fn := Tryz.f6) (ir := l_FnExactUpdateMemory_ir) (s1 := lit [(8, cB true)] []) Tryz.func6 (by kernel_rfl) (by kernel_rfl) (by kernel_rfl) (by kernel_rfl) ?_
 refine tl [] [(0, .agg (oTBoard p0)), (1, .agg (oTState p1)), (2, cI p2), (3, .agg [.old (dat 1 eI zI p3.Turns), .old (dat 1 eI zI p3.Counts)])] [] id ?_
 refine sn [] [] [(4, pk 4), (5, pk 5), (7, pk 7)] [] [(4, va (oTBoard p0)), (5, va (oTState p1)), (7, .var [.old (dat 1 eI zI p3.Turns), .old (dat 1 eI zI p3.Counts)] false)] id ?_
 refine sn [] [] [(9, cI 1048576)] [] [] id ?_
 obtain ⟨v1, h2, H⟩ := oB H
 refine so [.res (cI v1)] [] [(2, cI p2), (4, pk 4), (5, pk 5), (7, pk 7), (9, cI v1)] [(4, va (oTBoard p0)), (5, va (oTState p1)), (7, .var [.old (dat 1 eI zI p3.Turns), .old (dat 1 eI zI p3.Counts)] false)] (aI ((FnOk.le2 (xs := [.agg (oTBoard p0), cI 1048576]) (l_szBoard_ok p0 1048576 v1 h2) ⟨LeD.agg (And.intro (LeC.old _) (And.intro (LeC.old _) (And.intro (LeC.refl _) (And.intro (LeC.refl _) (And.intro (LeC.refl _) (And.intro (LeC.refl _) (And.intro (LeC.refl _) (And.intro (LeC.refl _) (And.intro (LeC.refl _) (And.intro (LeC.old _) (And.intro (LeC.old _) (And.intro (LeC.old _) (trivial))))))))))))), LeD.refl _, trivial⟩).up glTs)) ?_
 refine seq_in ?_
 refine sn [] [] [(26, cB (decide (v1 < 0)))] [] [] id ?_
 rcases oC H with ⟨c4, H⟩ | ⟨c4, H⟩
 ·refine it c4 ?_
  refine so [] [] [(8, cB true)] [] id ?_
  refine ends_ret ?_
  exact qr
 ·refine jf c4 ?_
  refine sk ?_
  obtain ⟨v5, h6, H⟩ := oB H
  refine so [.res (cI v5)] [] [(2, cI p2), (4, pk 4), (5, pk 5), (7, pk 7), (9, cI v5)] [(4, va (oTBoard p0)), (5, va (oTState p1)), (7, .var [.old (dat 1 eI zI p3.Turns), .old (dat 1 eI zI p3.Counts)] false)] (aI ((FnOk.le2 (xs := [.agg (oTState p1), cI v1]) (l_szState_ok p1 v1 v5 h6) ⟨LeD.agg (And.intro (LeC.refl _) (And.intro (LeC.refl _) (And.intro (LeC.old _) (trivial)))), LeD.refl _, trivial⟩).up glTs)) ?_
  refine seq_in ?_
  refine sn [] [] [(31, cB (decide (v5 < 0)))] [] [] id ?_
  rcases oC H with ⟨c8, H⟩ | ⟨c8, H⟩
  ·refine it c8 ?_
   refine so [] [] [(8, cB true)] [] id ?_
   refine ends_ret ?_
   exact qr
  ·refine jf c8 ?_
   refine sk ?_
   obtain ⟨v9, h10, H⟩ := oB H
   refine so [.res (cI v9)] [] [(2, cI p2), (4, pk 4), (5, pk 5), (7, pk 7), (9, cI v9)] [(4, va (oTBoard p0)), (5, va (oTState p1)), (7, .var [.old (dat 1 eI zI p3.Turns), .old (dat 1 eI zI p3.Counts)] false)] (aI ((FnOk.le2 (xs := [.agg [.old (dat 1 eI zI p3.Turns), .old (dat 1 eI zI p3.Counts)], cI v5]) (l_szMemory_ok p3 v5 v9 h10) ⟨LeD.agg (And.intro (LeC.old _) (And.intro (LeC.old _) (trivial))), LeD.refl _, trivial⟩).up glTs)) ?_
   refine seq_in ?_
   refine sn [] [] [(36, cB (decide (v9 < 0)))] [] [] id ?_
   rcases oC H with ⟨c12, H⟩ | ⟨c12, H⟩
   ·refine it c12 ?_
    refine so [] [] [(8, cB true)] [] id ?_
    refine ends_ret ?_
    exact qr
   ·refine jf c12 ?_
    refine sk ?_
    obtain ⟨v13, h14, H⟩ := oB H
    obtain ⟨v15, h16, H⟩ := oB H
    obtain ⟨v17, h18, H⟩ := oB H
    obtain ⟨v19, h20, H⟩ := oB H
    refine xn [.res (.agg (rTBoard v13)), .res (.agg (rTState v15)), .res (.agg [.fr (dat 1 eI zI v17.Turns), .fr (dat 1 eI zI v17.Counts)]), .res (.tup [(true, [dat 1 eI zI v19.1.Turns, dat 1 eI zI v19.1.Counts]), (false, [.bool v19.2])])] [] [(10, pk 10), (11, cB v19.2)] [] [(10, va (eTMemory v19.1))] (fun t => aI ((FnOk.le2 (xs := [.agg (oTBoard p0)]) (l_toBoard_F_ok p0 v13 h14) ⟨LeD.agg (And.intro (LeC.old _) (And.intro (LeC.old _) (And.intro (LeC.refl _) (And.intro (LeC.refl _) (And.intro (LeC.refl _) (And.intro (LeC.refl _) (And.intro (LeC.refl _) (And.intro (LeC.refl _) (And.intro (LeC.refl _) (And.intro (LeC.old _) (And.intro (LeC.old _) (And.intro (LeC.old _) (trivial))))))))))))), trivial⟩).up glTs) (aG 2 rN (aI ((FnOk.le2 (xs := [.agg (oTState p1)]) (l_toState_F_ok p1 v15 h16) ⟨LeD.agg (And.intro (LeC.refl _) (And.intro (LeC.refl _) (And.intro (LeC.old _) (trivial)))), trivial⟩).up glTs) (aG 2 rN (aI ((FnOk.le2 (xs := [.agg [.old (dat 1 eI zI p3.Turns), .old (dat 1 eI zI p3.Counts)]]) (l_toMemory_F_ok p3 v17 h18) ⟨LeD.agg (And.intro (LeC.old _) (And.intro (LeC.old _) (trivial))), trivial⟩).up glTs) (aG 2 rN (aI ((FnOk.le2 (xs := [.agg (rTBoard v13), .agg (rTState v15), cI p2, .agg [.fr (dat 1 eI zI v17.Turns), .fr (dat 1 eI zI v17.Counts)]]) (s_UpdateMemory_ok v13 v15 p2 v17 v19 h20) ⟨LeD.agg (And.intro (LeC.fr _) (And.intro (LeC.fr _) (And.intro (LeC.refl _) (And.intro (LeC.refl _) (And.intro (LeC.refl _) (And.intro (LeC.refl _) (And.intro (LeC.refl _) (And.intro (LeC.refl _) (And.intro (LeC.refl _) (And.intro (LeC.fr _) (And.intro (LeC.fr _) (And.intro (LeC.fr _) (trivial))))))))))))), LeD.agg (And.intro (LeC.refl _) (And.intro (LeC.refl _) (And.intro (LeC.fr _) (trivial)))), LeD.refl _, LeD.agg (And.intro (LeC.fr _) (And.intro (LeC.fr _) (trivial))), trivial⟩).up glTs) (aG 2 rN (t))))))))) ?_
    refine tl [] [(2, cI p2), (4, pk 4), (5, pk 5), (7, pk 7), (10, pk 10), (11, cB v19.2)] [(4, va (oTBoard p0)), (5, va (oTState p1)), (7, .var [.old (dat 1 eI zI p3.Turns), .old (dat 1 eI zI p3.Counts)] false), (10, va (eTMemory v19.1))] id ?_
    refine turn0 (E := [(2, cI p2), (4, pk 4), (5, pk 5), (7, pk 7), (10, pk 10), (11, cB v19.2)]) (E' := [(2, cI p2), (4, pk 4), (5, pk 5), (7, pk 7), (10, pk 10), (11, cB v19.2)]) (H := [(4, va (oTBoard p0)), (5, va (oTState p1)), (7, .var [.old (dat 1 eI zI p3.Turns), .old (dat 1 eI zI p3.Counts)] false), (10, va (eTMemory v19.1))]) (H' := [(4, va (oTBoard p0)), (5, va (oTState p1)), (7, .var [.old (dat 1 eI zI p3.Turns), .old (dat 1 eI zI p3.Counts)] false), (10, .var [.old (dat 1 eI zI v19.1.Turns), .old (dat 1 eI zI v19.1.Counts)] false)]) glTn glTp (And.intro (And.intro rfl (uS (jI p2) rfl)) (And.intro (And.intro rfl (uS (.pk 4 0) rfl)) (And.intro (And.intro rfl (uS (.pk 5 0) rfl)) (And.intro (And.intro rfl (uS (.pk 7 0) rfl)) (And.intro (And.intro rfl (uS (.pk 10 0) rfl)) (And.intro (And.intro rfl (uS (.bool v19.2) rfl)) trivial)))))) (And.intro (And.intro rfl (And.intro (uO (dat 5 eTTerrain zTTerrain p0.Rules.Terrains) (.dat shTTerrain)) (And.intro (uO (dat 6 eTKind zTKind p0.Rules.Kinds) (.dat shTKind)) (And.intro (uS (jI p0.Rules.Stack) rfl) (And.intro (uS (jI p0.Rules.River) rfl) (And.intro (uS (jI p0.Rules.Road) rfl) (And.intro (uS (jI p0.Rules.Supply) rfl) (And.intro (uS (jI p0.Rules.Turns) rfl) (And.intro (uS (jI p0.Map.Width) rfl) (And.intro (uS (jI p0.Map.Height) rfl) (And.intro (uO (dat 1 eI zI p0.Map.Terrain) (.dat shI)) (And.intro (uO (dat 1 eI zI p0.Map.Rivers) (.dat shI)) (And.intro (uO (dat 1 eI zI p0.Map.Roads) (.dat shI)) trivial))))))))))))) (And.intro (And.intro rfl (And.intro (uS (jI p1.Turn) rfl) (And.intro (uS (jI p1.Weather) rfl) (And.intro (uO (dat 4 eTUnit zTUnit p1.Units) (.dat shTUnit)) trivial)))) (And.intro (And.intro rfl (And.intro (uO (dat 1 eI zI p3.Turns) (.dat shI)) (And.intro (uO (dat 1 eI zI p3.Counts) (.dat shI)) trivial))) (And.intro (And.intro rfl (And.intro (uD (dat 1 eI zI v19.1.Turns) rfl (.dat shI)) (And.intro (uD (dat 1 eI zI v19.1.Counts) rfl (.dat shI)) trivial))) trivial)))) ?_
    obtain ⟨v21, h22, H⟩ := oB H
    refine sn [.res (.agg (rTBoard v21))] [] [(12, pk 12)] [] [(12, va (rTBoard v21))] (aI ((FnOk.le2 (xs := [.agg (oTBoard p0)]) (l_toBoard_F_ok p0 v21 h22) ⟨LeD.agg (And.intro (LeC.old _) (And.intro (LeC.old _) (And.intro (LeC.refl _) (And.intro (LeC.refl _) (And.intro (LeC.refl _) (And.intro (LeC.refl _) (And.intro (LeC.refl _) (And.intro (LeC.refl _) (And.intro (LeC.refl _) (And.intro (LeC.old _) (And.intro (LeC.old _) (And.intro (LeC.old _) (trivial))))))))))))), trivial⟩).up glTs)) ?_
    obtain ⟨v23, h24, H⟩ := oB H
    refine sn [.res (.agg (rTState v23))] [] [(13, pk 13)] [] [(13, va (rTState v23))] (aI ((FnOk.le2 (xs := [.agg (oTState p1)]) (l_toState_F_ok p1 v23 h24) ⟨LeD.agg (And.intro (LeC.refl _) (And.intro (LeC.refl _) (And.intro (LeC.old _) (trivial)))), trivial⟩).up glTs)) ?_
    obtain ⟨v25, h26, H⟩ := oB H
    refine sn [.res (.agg [.fr (dat 1 eI zI v25.Turns), .fr (dat 1 eI zI v25.Counts)])] [] [(14, pk 14)] [] [(14, .var [.fr (dat 1 eI zI v25.Turns), .fr (dat 1 eI zI v25.Counts)] false)] (aI ((FnOk.le2 (xs := [.agg [.old (dat 1 eI zI p3.Turns), .old (dat 1 eI zI p3.Counts)]]) (l_toMemory_F_ok p3 v25 h26) ⟨LeD.agg (And.intro (LeC.old _) (And.intro (LeC.old _) (trivial))), trivial⟩).up glTs)) ?_
    obtain ⟨v27, h28, H⟩ := oB H
    refine sn [.mu [] [(8, 1001), (900000, 1002), (900001, 1003)] (.tup [(true, [.own 900000 1 0 v27.1.Turns.length, .own 900001 1 0 v27.1.Counts.length]), (false, [.bool v27.2])]) [(8, .var [.own 900000 1 0 v27.1.Turns.length, .own 900001 1 0 v27.1.Counts.length] false), (900000, ar 1 eI zI v27.1.Turns), (900001, ar 1 eI zI v27.1.Counts)]] [] [(15, pk 15), (16, cB v27.2)] [] [(15, .var [.own 1002 1 0 v27.1.Turns.length, .own 1003 1 0 v27.1.Counts.length] false), (1002, ar 1 eI zI v27.1.Turns), (1003, ar 1 eI zI v27.1.Counts)] (aI ((FnMu.le2 (xs := [.agg (rTBoard v21), .agg (rTState v23), cI p2, .agg [.fr (dat 1 eI zI v25.Turns), .fr (dat 1 eI zI v25.Counts)]]) (i_UpdateMemory_Mdddd_ok v21 v23 p2 v25 v27 h28) ⟨LeK.of rfl (LeD.agg (And.intro (LeC.fr _) (And.intro (LeC.fr _) (And.intro (LeC.refl _) (And.intro (LeC.refl _) (And.intro (LeC.refl _) (And.intro (LeC.refl _) (And.intro (LeC.refl _) (And.intro (LeC.refl _) (And.intro (LeC.refl _) (And.intro (LeC.fr _) (And.intro (LeC.fr _) (And.intro (LeC.fr _) (trivial)))))))))))))), LeK.of rfl (LeD.agg (And.intro (LeC.refl _) (And.intro (LeC.refl _) (And.intro (LeC.fr _) (trivial))))), LeK.refl _, LeK.of rfl (LeD.agg (And.intro (LeC.fr _) (And.intro (LeC.fr _) (trivial)))), trivial⟩).up glTs)) ?_
    refine seq_in ?_
    obtain ⟨v33, h34, H⟩ := oB H
    rcases oC H with ⟨c35, H⟩ | ⟨c35, H⟩
    ·refine sn ([.res (cB v33)] ++ rg 4 true []) [] [(70, cB true)] [] [] (fun t => aI (Nat.le_refl v27.1.Turns.length) (aI (Nat.le_refl v27.1.Counts.length) (aI ((FnOk.le2 (xs := [.agg (eTMemory v27.1), .agg [.old (dat 1 eI zI v19.1.Turns), .old (dat 1 eI zI v19.1.Counts)]]) (l_eqMemory_ok v27.1 v19.1 v33 h34) ⟨LeD.refl _, LeD.agg (And.intro (LeC.old _) (And.intro (LeC.old _) (trivial))), trivial⟩).up glTs) (aG 4 c35 (t))))) ?_
     refine it rT ?_
     refine so [] [] [(8, cB false)] [] id ?_
     refine ends_ret ?_
     cases H
    ·refine sn ([.res (cB v33)] ++ rg 4 false []) [] [(70, cB (!(v27.2 == v19.2)))] [] [] (fun t => aI (Nat.le_refl v27.1.Turns.length) (aI (Nat.le_refl v27.1.Counts.length) (aI ((FnOk.le2 (xs := [.agg (eTMemory v27.1), .agg [.old (dat 1 eI zI v19.1.Turns), .old (dat 1 eI zI v19.1.Counts)]]) (l_eqMemory_ok v27.1 v19.1 v33 h34) ⟨LeD.refl _, LeD.agg (And.intro (LeC.old _) (And.intro (LeC.old _) (trivial))), trivial⟩).up glTs) (aG 4 c35 (t))))) ?_
     rcases oC H with ⟨c36, H⟩ | ⟨c36, H⟩
     ·refine it c36 ?_
      refine so [] [] [(8, cB false)] [] id ?_
      refine ends_ret ?_
      cases H
     ·refine jf c36 ?_
      refine sk ?_
      refine seq_in ?_
      obtain ⟨v42, h43, H⟩ := oB H
      obtain ⟨v44, h45, H⟩ := oB H
      refine xn [.res (.agg (rTBoard v42)), .res (cB v44)] [] [(75, cB (!v44))] [] [] (fun t => aI ((FnOk.le2 (xs := [.agg (oTBoard p0)]) (l_toBoard_F_ok p0 v42 h43) ⟨LeD.agg (And.intro (LeC.old _) (And.intro (LeC.old _) (And.intro (LeC.refl _) (And.intro (LeC.refl _) (And.intro (LeC.refl _) (And.intro (LeC.refl _) (And.intro (LeC.refl _) (And.intro (LeC.refl _) (And.intro (LeC.refl _) (And.intro (LeC.old _) (And.intro (LeC.old _) (And.intro (LeC.old _) (trivial))))))))))))), trivial⟩).up glTs) (aG 2 rN (aI ((FnOk.le2 (xs := [.agg (rTBoard v21), .agg (rTBoard v42)]) (l_eqBoard_ok v21 v42 v44 h45) ⟨LeD.agg (And.intro (LeC.fr _) (And.intro (LeC.fr _) (And.intro (LeC.refl _) (And.intro (LeC.refl _) (And.intro (LeC.refl _) (And.intro (LeC.refl _) (And.intro (LeC.refl _) (And.intro (LeC.refl _) (And.intro (LeC.refl _) (And.intro (LeC.fr _) (And.intro (LeC.fr _) (And.intro (LeC.fr _) (trivial))))))))))))), LeD.agg (And.intro (LeC.fr _) (And.intro (LeC.fr _) (And.intro (LeC.refl _) (And.intro (LeC.refl _) (And.intro (LeC.refl _) (And.intro (LeC.refl _) (And.intro (LeC.refl _) (And.intro (LeC.refl _) (And.intro (LeC.refl _) (And.intro (LeC.fr _) (And.intro (LeC.fr _) (And.intro (LeC.fr _) (trivial))))))))))))), trivial⟩).up glTs) (aI trivial (aI rN (t)))))) ?_
      rcases oC H with ⟨c46, H⟩ | ⟨c46, H⟩
      ·refine it c46 ?_
       refine so [] [] [(8, cB false)] [] id ?_
       refine ends_ret ?_
       cases H
      ·refine jf c46 ?_
       refine sk ?_
       refine seq_in ?_
       obtain ⟨v52, h53, H⟩ := oB H
       obtain ⟨v54, h55, H⟩ := oB H
       refine xn [.res (.agg (rTState v52)), .res (cB v54)] [] [(80, cB (!v54))] [] [] (fun t => aI ((FnOk.le2 (xs := [.agg (oTState p1)]) (l_toState_F_ok p1 v52 h53) ⟨LeD.agg (And.intro (LeC.refl _) (And.intro (LeC.refl _) (And.intro (LeC.old _) (trivial)))), trivial⟩).up glTs) (aG 2 rN (aI ((FnOk.le2 (xs := [.agg (rTState v23), .agg (rTState v52)]) (l_eqState_ok v23 v52 v54 h55) ⟨LeD.agg (And.intro (LeC.refl _) (And.intro (LeC.refl _) (And.intro (LeC.fr _) (trivial)))), LeD.agg (And.intro (LeC.refl _) (And.intro (LeC.refl _) (And.intro (LeC.fr _) (trivial)))), trivial⟩).up glTs) (aI trivial (aI rN (t)))))) ?_
       rcases oC H with ⟨c56, H⟩ | ⟨c56, H⟩
       ·refine it c56 ?_
        refine so [] [] [(8, cB false)] [] id ?_
        refine ends_ret ?_
        cases H
       ·refine jf c56 ?_
        refine sk ?_
        refine seq_in ?_
        obtain ⟨v62, h63, H⟩ := oB H
        obtain ⟨v64, h65, H⟩ := oB H
        refine xn [.res (.agg [.fr (dat 1 eI zI v62.Turns), .fr (dat 1 eI zI v62.Counts)]), .res (cB v64)] [] [(85, cB (!v64))] [] [] (fun t => aI ((FnOk.le2 (xs := [.agg [.old (dat 1 eI zI p3.Turns), .old (dat 1 eI zI p3.Counts)]]) (l_toMemory_F_ok p3 v62 h63) ⟨LeD.agg (And.intro (LeC.old _) (And.intro (LeC.old _) (trivial))), trivial⟩).up glTs) (aG 2 rN (aI ((FnOk.le2 (xs := [.agg [.fr (dat 1 eI zI v25.Turns), .fr (dat 1 eI zI v25.Counts)], .agg [.fr (dat 1 eI zI v62.Turns), .fr (dat 1 eI zI v62.Counts)]]) (l_eqMemory_ok v25 v62 v64 h65) ⟨LeD.agg (And.intro (LeC.fr _) (And.intro (LeC.fr _) (trivial))), LeD.agg (And.intro (LeC.fr _) (And.intro (LeC.fr _) (trivial))), trivial⟩).up glTs) (aI trivial (aI rN (t)))))) ?_
        rcases oC H with ⟨c66, H⟩ | ⟨c66, H⟩
        ·refine it c66 ?_
         refine so [] [] [(8, cB false)] [] id ?_
         refine ends_ret ?_
         cases H
        ·refine jf c66 ?_
         refine sk ?_
         refine so [] [] [(2, cI p2), (4, pk 4), (5, pk 5), (7, pk 7), (10, pk 10), (11, cB v19.2), (12, pk 12), (13, pk 13), (14, pk 14), (15, pk 15), (16, cB v27.2), (17, cI 1)] [(4, va (oTBoard p0)), (5, va (oTState p1)), (7, .var [.old (dat 1 eI zI p3.Turns), .old (dat 1 eI zI p3.Counts)] false), (10, .var [.old (dat 1 eI zI v19.1.Turns), .old (dat 1 eI zI v19.1.Counts)] false), (12, va (rTBoard v21)), (13, va (rTState v23)), (14, .var [.fr (dat 1 eI zI v25.Turns), .fr (dat 1 eI zI v25.Counts)] false), (15, .var [.own 1002 1 0 v27.1.Turns.length, .own 1003 1 0 v27.1.Counts.length] false), (1002, ar 1 eI zI v27.1.Turns), (1003, ar 1 eI zI v27.1.Counts)] id ?_
         refine tl [] [(2, cI p2), (4, pk 4), (5, pk 5), (7, pk 7), (10, pk 10), (11, cB v19.2), (12, pk 12), (13, pk 13), (14, pk 14), (15, pk 15), (16, cB v27.2), (17, cI 1)] [(4, va (oTBoard p0)), (5, va (oTState p1)), (7, .var [.old (dat 1 eI zI p3.Turns), .old (dat 1 eI zI p3.Counts)] false), (10, .var [.old (dat 1 eI zI v19.1.Turns), .old (dat 1 eI zI v19.1.Counts)] false), (12, va (rTBoard v21)), (13, va (rTState v23)), (14, .var [.fr (dat 1 eI zI v25.Turns), .fr (dat 1 eI zI v25.Counts)] false), (15, .var [.own 1002 1 0 v27.1.Turns.length, .own 1003 1 0 v27.1.Counts.length] false), (1002, ar 1 eI zI v27.1.Turns), (1003, ar 1 eI zI v27.1.Counts)] id ?_
         refine turn (E := [(2, cI p2), (4, pk 4), (5, pk 5), (7, pk 7), (10, pk 10), (11, cB v19.2), (12, pk 12), (13, pk 13), (14, pk 14), (15, pk 15), (16, cB v27.2), (17, cI 1)]) (E' := [(2, cI p2), (4, pk 4), (5, pk 5), (7, pk 7), (10, pk 10), (11, cB v19.2), (12, pk 12), (13, pk 13), (14, pk 14), (15, pk 15), (16, cB v27.2), (17, cI 1)]) (H := [(4, va (oTBoard p0)), (5, va (oTState p1)), (7, .var [.old (dat 1 eI zI p3.Turns), .old (dat 1 eI zI p3.Counts)] false), (10, .var [.old (dat 1 eI zI v19.1.Turns), .old (dat 1 eI zI v19.1.Counts)] false), (12, va (rTBoard v21)), (13, va (rTState v23)), (14, .var [.fr (dat 1 eI zI v25.Turns), .fr (dat 1 eI zI v25.Counts)] false), (15, .var [.own 1002 1 0 v27.1.Turns.length, .own 1003 1 0 v27.1.Counts.length] false), (1002, ar 1 eI zI v27.1.Turns), (1003, ar 1 eI zI v27.1.Counts)]) (H' := [(4, va (eTBoard p0)), (5, va (eTState p1)), (7, va (eTMemory p3)), (10, va (eTMemory v19.1)), (12, va (lTBoard v21)), (13, va (lTState v23)), (14, .var [.lv (dat 1 eI zI v25.Turns), .lv (dat 1 eI zI v25.Counts)] false), (15, .var [.own 1002 1 0 v27.1.Turns.length, .own 1003 1 0 v27.1.Counts.length] false), (1002, ar 1 eI zI v27.1.Turns), (1003, ar 1 eI zI v27.1.Counts)]) glTn (And.intro (And.intro rfl (tS (jI p2) rfl)) (And.intro (And.intro rfl (tS (.pk 4 0) rfl)) (And.intro (And.intro rfl (tS (.pk 5 0) rfl)) (And.intro (And.intro rfl (tS (.pk 7 0) rfl)) (And.intro (And.intro rfl (tS (.pk 10 0) rfl)) (And.intro (And.intro rfl (tS (.bool v19.2) rfl)) (And.intro (And.intro rfl (tS (.pk 12 0) rfl)) (And.intro (And.intro rfl (tS (.pk 13 0) rfl)) (And.intro (And.intro rfl (tS (.pk 14 0) rfl)) (And.intro (And.intro rfl (tS (.pk 15 0) rfl)) (And.intro (And.intro rfl (tS (.bool v27.2) rfl)) (And.intro (And.intro rfl (tS (jI 1) rfl)) trivial)))))))))))) (And.intro (And.intro rfl (And.intro (tO (dat 5 eTTerrain zTTerrain p0.Rules.Terrains)) (And.intro (tO (dat 6 eTKind zTKind p0.Rules.Kinds)) (And.intro (tS (jI p0.Rules.Stack) rfl) (And.intro (tS (jI p0.Rules.River) rfl) (And.intro (tS (jI p0.Rules.Road) rfl) (And.intro (tS (jI p0.Rules.Supply) rfl) (And.intro (tS (jI p0.Rules.Turns) rfl) (And.intro (tS (jI p0.Map.Width) rfl) (And.intro (tS (jI p0.Map.Height) rfl) (And.intro (tO (dat 1 eI zI p0.Map.Terrain)) (And.intro (tO (dat 1 eI zI p0.Map.Rivers)) (And.intro (tO (dat 1 eI zI p0.Map.Roads)) trivial))))))))))))) (And.intro (And.intro rfl (And.intro (tS (jI p1.Turn) rfl) (And.intro (tS (jI p1.Weather) rfl) (And.intro (tO (dat 4 eTUnit zTUnit p1.Units)) trivial)))) (And.intro (And.intro rfl (And.intro (tO (dat 1 eI zI p3.Turns)) (And.intro (tO (dat 1 eI zI p3.Counts)) trivial))) (And.intro (And.intro rfl (And.intro (tO (dat 1 eI zI v19.1.Turns)) (And.intro (tO (dat 1 eI zI v19.1.Counts)) trivial))) (And.intro (And.intro rfl (And.intro (tF (dat 5 eTTerrain zTTerrain v21.Rules.Terrains) rfl (.dat shTTerrain)) (And.intro (tF (dat 6 eTKind zTKind v21.Rules.Kinds) rfl (.dat shTKind)) (And.intro (tS (jI v21.Rules.Stack) rfl) (And.intro (tS (jI v21.Rules.River) rfl) (And.intro (tS (jI v21.Rules.Road) rfl) (And.intro (tS (jI v21.Rules.Supply) rfl) (And.intro (tS (jI v21.Rules.Turns) rfl) (And.intro (tS (jI v21.Map.Width) rfl) (And.intro (tS (jI v21.Map.Height) rfl) (And.intro (tF (dat 1 eI zI v21.Map.Terrain) rfl (.dat shI)) (And.intro (tF (dat 1 eI zI v21.Map.Rivers) rfl (.dat shI)) (And.intro (tF (dat 1 eI zI v21.Map.Roads) rfl (.dat shI)) trivial))))))))))))) (And.intro (And.intro rfl (And.intro (tS (jI v23.Turn) rfl) (And.intro (tS (jI v23.Weather) rfl) (And.intro (tF (dat 4 eTUnit zTUnit v23.Units) rfl (.dat shTUnit)) trivial)))) (And.intro (And.intro rfl (And.intro (tF (dat 1 eI zI v25.Turns) rfl (.dat shI)) (And.intro (tF (dat 1 eI zI v25.Counts) rfl (.dat shI)) trivial))) (And.intro (And.intro rfl (And.intro (tS (.own 1002 1 0 v27.1.Turns.length) rfl) (And.intro (tS (.own 1003 1 0 v27.1.Counts.length) rfl) trivial))) (And.intro (And.intro rfl ⟨rfl, rfl, rfl, fun i _ => rfl⟩) (And.intro (And.intro rfl ⟨rfl, rfl, rfl, fun i _ => rfl⟩) trivial)))))))))) ?_
         obtain ⟨v67, h68, H⟩ := oB H
         refine so [.res (cI v67)] [] [(2, cI p2), (4, pk 4), (5, pk 5), (7, pk 7), (10, pk 10), (11, cB v19.2), (13, pk 13), (14, pk 14), (15, pk 15), (16, cB v27.2), (17, cI v67)] [(4, va (eTBoard p0)), (5, va (eTState p1)), (7, va (eTMemory p3)), (10, va (eTMemory v19.1)), (13, va (lTState v23)), (14, .var [.lv (dat 1 eI zI v25.Turns), .lv (dat 1 eI zI v25.Counts)] false), (15, .var [.own 1002 1 0 v27.1.Turns.length, .own 1003 1 0 v27.1.Counts.length] false), (1002, ar 1 eI zI v27.1.Turns), (1003, ar 1 eI zI v27.1.Counts)] (aI ((l_markBoard_L_ok v21 1 v67 h68).up glTs)) ?_
         obtain ⟨v69, h70, H⟩ := oB H
         refine so [.res (cI v69)] [] [(2, cI p2), (4, pk 4), (5, pk 5), (7, pk 7), (10, pk 10), (11, cB v19.2), (14, pk 14), (15, pk 15), (16, cB v27.2), (17, cI v69)] [(4, va (eTBoard p0)), (5, va (eTState p1)), (7, va (eTMemory p3)), (10, va (eTMemory v19.1)), (14, .var [.lv (dat 1 eI zI v25.Turns), .lv (dat 1 eI zI v25.Counts)] false), (15, .var [.own 1002 1 0 v27.1.Turns.length, .own 1003 1 0 v27.1.Counts.length] false), (1002, ar 1 eI zI v27.1.Turns), (1003, ar 1 eI zI v27.1.Counts)] (aI ((l_markState_L_ok v23 v67 v69 h70).up glTs)) ?_
         obtain ⟨v71, h72, H⟩ := oB H
         refine so [.res (cI v71)] [] [(2, cI p2), (4, pk 4), (5, pk 5), (7, pk 7), (10, pk 10), (11, cB v19.2), (15, pk 15), (16, cB v27.2), (17, cI v71)] [(4, va (eTBoard p0)), (5, va (eTState p1)), (7, va (eTMemory p3)), (10, va (eTMemory v19.1)), (15, .var [.own 1002 1 0 v27.1.Turns.length, .own 1003 1 0 v27.1.Counts.length] false), (1002, ar 1 eI zI v27.1.Turns), (1003, ar 1 eI zI v27.1.Counts)] (aI ((l_markMemory_L_ok v25 v69 v71 h72).up glTs)) ?_
         refine seq_in ?_
         rcases oC H with ⟨c77, H⟩ | ⟨c77, H⟩
         ·refine sn (rg 9 true []) [] [(107, cB true)] [] [] (fun t => aG 5 c77 (aG 4 rT (t))) ?_
          refine it rT ?_
          refine so [] [] [(8, cB false)] [] id ?_
          refine ends_ret ?_
          cases H
         ·obtain ⟨v78, h79, H⟩ := oB H
          rcases oC H with ⟨c80, H⟩ | ⟨c80, H⟩
          ·refine sn (rg 3 false ([.res (cB v78)] ++ rg 2 false (rg 4 true []))) [] [(107, cB true)] [] [] (fun t => aG 3 c77 (aI (Nat.le_refl v27.1.Turns.length) (aI (Nat.le_refl v27.1.Counts.length) (aI ((l_eqMemory_ok v27.1 v19.1 v78 h79).up glTs) (aG 2 c77 (aG 4 c80 (t))))))) ?_
           refine it rT ?_
           refine so [] [] [(8, cB false)] [] id ?_
           refine ends_ret ?_
           cases H
          ·refine sn (rg 3 false ([.res (cB v78)] ++ rg 6 false [])) [] [(107, cB (!(v27.2 == v19.2)))] [] [] (fun t => aG 3 c77 (aI (Nat.le_refl v27.1.Turns.length) (aI (Nat.le_refl v27.1.Counts.length) (aI ((l_eqMemory_ok v27.1 v19.1 v78 h79).up glTs) (aG 2 c77 (aG 4 c80 (t))))))) ?_
           refine jf c36 ?_
           refine sk ?_
           refine sn [] [] [(18, cI 1)] [] [] id ?_
           obtain ⟨v81, h82, H⟩ := oB H
           obtain ⟨g83, H⟩ := oI H
           obtain ⟨g84, H⟩ := oI H
           refine so [.mu [(1002, 1000000), (1003, 1000001)] [(1000000, 1002), (1000001, 1003)] (cI v81.1) [(1000000, ar 1 eI zI v81.2.Turns), (1000001, ar 1 eI zI v81.2.Counts)]] [.agg 108 [.own 1002 1 0 v81.2.Turns.length, .own 1003 1 0 v81.2.Counts.length], .relc 15 0 v81.2.Turns.length, .relc 15 1 v81.2.Counts.length] [(2, cI p2), (4, pk 4), (5, pk 5), (7, pk 7), (10, pk 10), (11, cB v19.2), (15, pk 15), (18, cI v81.1)] [(4, va (eTBoard p0)), (5, va (eTState p1)), (7, va (eTMemory p3)), (10, va (eTMemory v19.1)), (15, .var [.own 1002 1 0 v81.2.Turns.length, .own 1003 1 0 v81.2.Counts.length] false), (1002, ar 1 eI zI v81.2.Turns), (1003, ar 1 eI zI v81.2.Counts)] (fun t => aI ((l_markMemory_Mod_ok v27.1 1 v81 h82).up glTs) (aI (by rw [← g83, ← g84] : AV.agg [.own 1002 1 0 v27.1.Turns.length, .own 1003 1 0 v27.1.Counts.length] = AV.agg [.own 1002 1 0 v81.2.Turns.length, .own 1003 1 0 v81.2.Counts.length]) (aI (Eq.symm g83) (aI (Eq.symm g84) (t))))) ?_
           refine sn [] [] [(19, cI 1)] [] [] id ?_
           obtain ⟨v85, h86, H⟩ := oB H
           refine so [.res (cI v85)] [] [(2, cI p2), (4, pk 4), (5, pk 5), (7, pk 7), (10, pk 10), (11, cB v19.2), (15, pk 15), (18, cI v81.1), (19, cI v85)] [(4, va (eTBoard p0)), (5, va (eTState p1)), (7, va (eTMemory p3)), (10, va (eTMemory v19.1)), (15, .var [.own 1002 1 0 v81.2.Turns.length, .own 1003 1 0 v81.2.Counts.length] false), (1002, ar 1 eI zI v81.2.Turns), (1003, ar 1 eI zI v81.2.Counts)] (fun t => aI (Nat.le_refl v81.2.Turns.length) (aI (Nat.le_refl v81.2.Counts.length) (aI ((l_heldMemory_ok v81.2 1 v85 h86).up glTs) (t)))) ?_
           refine seq_in ?_
           refine sn [] [] [(115, cB (decide (v85 < 0)))] [] [] id ?_
           rcases oC H with ⟨c88, H⟩ | ⟨c88, H⟩
           ·refine it c88 ?_
            refine so [] [] [(8, cB false)] [] id ?_
            refine ends_ret ?_
            cases H
           ·refine jf c88 ?_
            refine sk ?_
            refine seq_in ?_
            refine sn [] [] [(118, cB (v85 != v81.1))] [] [] id ?_
            rcases oC H with ⟨c90, H⟩ | ⟨c90, H⟩
            ·refine it c90 ?_
             refine so [] [] [(8, cB false)] [] id ?_
             refine ends_ret ?_
             cases H
            ·refine jf c90 ?_
             refine sk ?_
             obtain ⟨v91, h92, H⟩ := oB H
             obtain ⟨v93, h94, H⟩ := oB H
             obtain ⟨v95, h96, H⟩ := oB H
             obtain ⟨v97, h98, H⟩ := oB H
             refine xn [.res (.agg (rTBoard v91)), .res (.agg (rTState v93)), .res (.agg [.fr (dat 1 eI zI v95.Turns), .fr (dat 1 eI zI v95.Counts)]), .res (.tup [(true, [dat 1 eI zI v97.1.Turns, dat 1 eI zI v97.1.Counts]), (false, [.bool v97.2])])] [] [(20, pk 20), (21, cB v97.2)] [] [(20, va (eTMemory v97.1))] (fun t => aI ((l_toBoard_F_ok p0 v91 h92).up glTs) (aG 2 rN (aI ((l_toState_F_ok p1 v93 h94).up glTs) (aG 2 rN (aI ((l_toMemory_F_ok p3 v95 h96).up glTs) (aG 2 rN (aI ((FnOk.le2 (xs := [.agg (rTBoard v91), .agg (rTState v93), cI p2, .agg [.fr (dat 1 eI zI v95.Turns), .fr (dat 1 eI zI v95.Counts)]]) (i_UpdateMemory_ok v91 v93 p2 v95 v97 h98) ⟨LeD.agg (And.intro (LeC.fr _) (And.intro (LeC.fr _) (And.intro (LeC.refl _) (And.intro (LeC.refl _) (And.intro (LeC.refl _) (And.intro (LeC.refl _) (And.intro (LeC.refl _) (And.intro (LeC.refl _) (And.intro (LeC.refl _) (And.intro (LeC.fr _) (And.intro (LeC.fr _) (And.intro (LeC.fr _) (trivial))))))))))))), LeD.agg (And.intro (LeC.refl _) (And.intro (LeC.refl _) (And.intro (LeC.fr _) (trivial)))), LeD.refl _, LeD.agg (And.intro (LeC.fr _) (And.intro (LeC.fr _) (trivial))), trivial⟩).up glTs) (aG 2 rN (t))))))))) ?_
             refine seq_in ?_
             obtain ⟨v103, h104, H⟩ := oB H
             rcases oC H with ⟨c105, H⟩ | ⟨c105, H⟩
             ·refine sn ([.res (cB v103)] ++ rg 4 true []) [] [(138, cB true)] [4, 5, 7] [] (fun t => aI ((l_eqMemory_ok v97.1 v19.1 v103 h104).up glTs) (aG 4 c105 (t))) ?_
              refine it rT ?_
              refine so [] [] [(8, cB false)] [] id ?_
              refine ends_ret ?_
              cases H
             ·refine sn ([.res (cB v103)] ++ rg 4 false []) [] [(138, cB (!(v97.2 == v19.2)))] [4, 5, 7] [] (fun t => aI ((l_eqMemory_ok v97.1 v19.1 v103 h104).up glTs) (aG 4 c105 (t))) ?_
              rcases oC H with ⟨c106, H⟩ | ⟨c106, H⟩
              ·refine it c106 ?_
               refine so [] [] [(8, cB false)] [] id ?_
               refine ends_ret ?_
               cases H
              ·refine jf c106 ?_
               refine sk ?_
               refine so [] [] [(15, pk 15), (18, cI v81.1), (19, cI 1)] [(15, .var [.own 1002 1 0 v81.2.Turns.length, .own 1003 1 0 v81.2.Counts.length] false), (1002, ar 1 eI zI v81.2.Turns), (1003, ar 1 eI zI v81.2.Counts)] id ?_
               obtain ⟨v107, h108, H⟩ := oB H
               refine so [.res (cI v107)] [] [(18, cI v81.1), (19, cI v107)] [] (fun t => aI (Nat.le_refl v81.2.Turns.length) (aI (Nat.le_refl v81.2.Counts.length) (aI ((l_heldMemory_ok v81.2 1 v107 h108).up glTs) (t)))) ?_
               refine seq_in ?_
               refine sn [] [] [(143, cB (decide (v107 < 0)))] [] [] id ?_
               rcases oC H with ⟨c110, H⟩ | ⟨c110, H⟩
               ·refine it c110 ?_
                refine so [] [] [(8, cB false)] [] id ?_
                refine ends_ret ?_
                cases H
               ·refine jf c110 ?_
                refine sk ?_
                refine seq_in ?_
                refine so [] [] [(146, cB (v107 != v81.1))] [] id ?_
                rcases oC H with ⟨c111, H⟩ | ⟨c111, H⟩
                ·refine it c111 ?_
                 refine so [] [] [(8, cB false)] [] id ?_
                 refine ends_ret ?_
                 cases H
                ·refine jf c111 ?_
                 refine sk ?_
                 refine so [] [] [(8, cB true)] [] id ?_
                 refine ends_ret ?_
                 exact qr
end Go.Proofs.YteenmeomlhkphaaGreatDoor.X0
