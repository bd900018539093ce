/- What each function that FnExactRetreatAll reaches computes; no condition. -/
import Derived.Test.YtjlabdoeiphegaaGreatDoorRaWb
set_option linter.unusedVariables false
set_option linter.unusedSimpArgs false
set_option maxRecDepth 100000
namespace Go.Proofs.YtjlabdoeiphegaaGreatDoor.X0
open Go Go.RowKit Go.Proofs.YtjlabdoeiphegaaGreatDoor.Ab Go.Proofs

def l_FnExactRetreatAll_ir : S :=
 (sq [o 4 (.box 12 (.t 0)), o 5 (.box 3 (.t 1)), o 8 (.mv bF)]
 (.seq (sq [om 25 2, o 26 (.len (.t 25)), o 27 (.bin .gtr (.t 26) (iv 1048576))]
 (.ite (.t 27) (sq [o 8 (.mv bT)]
  .ret)
 .skip))
 (sq [o 9 (.mv (iv 1048576))]
 (sq [o 28 (.load 12 true (.t 4)), om 29 9, o 30 (.call 6 [.t 28, .t 29]), om 9 30]
 (.seq (sq [om 31 9, o 32 (.bin .lss (.t 31) (iv 0))]
 (.ite (.t 32) (sq [o 8 (.mv bT)]
  .ret)
 .skip))
 (sq [o 33 (.load 3 true (.t 5)), om 34 9, o 35 (.call 15 [.t 33, .t 34]), om 9 35]
 (.seq (sq [om 36 9, o 37 (.bin .lss (.t 36) (iv 0))]
 (.ite (.t 37) (sq [o 8 (.mv bT)]
  .ret)
 .skip))
 (.seq (.drw [(0, 2), (1, 2), (0, 4), (1, 4), (2, 4), (3, 4), (0, 6), (1, 6), (2, 6), (3, 6), (4, 6), (5, 6), (9, 10), (9, 11), (10, 11), (0, 12), (1, 12), (2, 12), (3, 12), (4, 12), (5, 12), (6, 12), (7, 12), (8, 12), (9, 12), (10, 12), (11, 12), (10, 13), (11, 13), (11, 14)] [o 39 (.load 12 true (.t 4)), o 40 (.call 8 [.t 39]), o 41 (.load 3 true (.t 5)), o 42 (.call 17 [.t 41]), om 43 2, o 44 (.call 18 [.t 43]), om 45 3, o 46 (.call 16 [.t 40, .t 42, .t 44, .t 45]), om 38 46, o 47 (.ext (.t 38) 0), o 48 (.ext (.t 38) 1), o 49 (.ext (.t 38) 2), o 10 (.alloc [.int .i64 0, .int .i64 0, .nil]), os 3 10 47, om 11 48, om 12 49])
 (sq [o 50 (.load 12 true (.t 4)), o 51 (.call 8 [.t 50]), o 13 (.alloc [.nil, .nil, .int .i64 0, .int .i64 0, .int .i64 0, .int .i64 0, .int .i64 0, .int .i64 0, .int .i64 0, .nil, .nil, .nil]), os 12 13 51]
 (sq [o 52 (.load 3 true (.t 5)), o 53 (.call 17 [.t 52]), o 14 (.alloc [.int .i64 0, .int .i64 0, .nil]), os 3 14 53]
 (sq [om 54 2, o 55 (.call 18 [.t 54]), om 15 55]
 (sq [o 57 (.load 12 true (.t 13)), o 58 (.load 3 true (.t 14)), om 59 15, om 60 3, o 61 (.call 19 [.t 57, .t 58, .t 59, .t 60]), om 56 61, o 62 (.ext (.t 56) 0), o 63 (.ext (.t 56) 1), o 64 (.ext (.t 56) 2), o 16 (.alloc [.int .i64 0, .int .i64 0, .nil]), os 3 16 62, om 17 63, om 18 64]
 (.seq (sq [o 65 (.load 3 true (.t 16)), o 66 (.load 3 true (.t 10)), o 67 (.call 20 [.t 65, .t 66]), o 68 (.not (.t 67)), om 69 68, og 70 (.mv (.t 17)) 69, og 71 (.mv (.t 11)) 69, og 72 (.bin .neq (.t 70) (.t 71)) 69, o 73 (.pick (.t 69) bT (.t 72)), om 74 73, og 75 (.mv (.t 18)) 74, og 76 (.mv (.t 12)) 74, og 77 (.bqe true (.t 75) (.t 76)) 74, o 78 (.pick (.t 74) bT (.t 77))]
 (.ite (.t 78) (sq [o 8 (.mv bF)]
  .ret)
 .skip))
 (.seq (.seq (.drw [(0, 1), (0, 2)] [o 79 (.load 12 true (.t 13)), o 80 (.load 12 true (.t 4)), o 81 (.call 8 [.t 80]), o 82 (.call 11 [.t 79, .t 81]), o 83 (.not (.t 82))])
 (.ite (.t 83) (sq [o 8 (.mv bF)]
  .ret)
 .skip))
 (.seq (.seq (.drw [(0, 1), (0, 2)] [o 84 (.load 3 true (.t 14)), o 85 (.load 3 true (.t 5)), o 86 (.call 17 [.t 85]), o 87 (.call 20 [.t 84, .t 86]), o 88 (.not (.t 87))])
 (.ite (.t 88) (sq [o 8 (.mv bF)]
  .ret)
 .skip))
 (.seq (sq [om 89 15, om 90 2, o 91 (.call 18 [.t 90]), o 92 (.call 21 [.t 89, .t 91]), o 93 (.not (.t 92))]
 (.ite (.t 93) (sq [o 8 (.mv bF)]
  .ret)
 .skip))
 (sq [o 19 (.mv (iv 1))]
 (sq [o 94 (.load 12 true (.t 13)), om 95 19, o 96 (.call 12 [.t 94, .t 95]), om 19 96]
 (sq [o 97 (.load 3 true (.t 14)), om 98 19, o 99 (.call 22 [.t 97, .t 98]), om 19 99]
 (sq [om 100 15, om 101 19, o 102 (.call 23 [.t 100, .t 101]), om 19 102]
 (.seq (sq [om 103 19, o 104 (.bin .lss (.t 103) (iv 0)), om 105 104, og 106 (.load 3 true (.t 16)) 105, og 107 (.load 3 true (.t 10)) 105, og 108 (.call 20 [.t 106, .t 107]) 105, og 109 (.not (.t 108)) 105, o 110 (.pick (.t 105) bT (.t 109)), om 111 110, og 112 (.mv (.t 17)) 111, og 113 (.mv (.t 11)) 111, og 114 (.bin .neq (.t 112) (.t 113)) 111, o 115 (.pick (.t 111) bT (.t 114)), om 116 115, og 117 (.mv (.t 18)) 116, og 118 (.mv (.t 12)) 116, og 119 (.bqe true (.t 117) (.t 118)) 116, o 120 (.pick (.t 116) bT (.t 119))]
 (.ite (.t 120) (sq [o 8 (.mv bF)]
  .ret)
 .skip))
 (sq [o 20 (.mv (iv 1))]
 (sq [o 121 (.load 3 true (.t 16)), om 122 20, o 123 (.call 22 [.t 121, .t 122]), om 20 123]
 (sq [o 21 (.mv (iv 1))]
 (sq [o 124 (.load 3 true (.t 16)), om 125 21, o 126 (.call 24 [.t 124, .t 125]), om 21 126]
 (.seq (sq [om 127 21, o 128 (.bin .lss (.t 127) (iv 0))]
 (.ite (.t 128) (sq [o 8 (.mv bF)]
  .ret)
 .skip))
 (.seq (sq [om 129 21, om 130 20, o 131 (.bin .neq (.t 129) (.t 130))]
 (.ite (.t 131) (sq [o 8 (.mv bF)]
  .ret)
 .skip))
 (.seq (.drw [(0, 2), (1, 2), (0, 4), (1, 4), (2, 4), (3, 4), (0, 6), (1, 6), (2, 6), (3, 6), (4, 6), (5, 6), (9, 10), (9, 11), (10, 11), (0, 12), (1, 12), (2, 12), (3, 12), (4, 12), (5, 12), (6, 12), (7, 12), (8, 12), (9, 12), (10, 12), (11, 12), (10, 13), (11, 13), (11, 14)] [o 133 (.load 12 true (.t 4)), o 134 (.call 8 [.t 133]), o 135 (.load 3 true (.t 5)), o 136 (.call 17 [.t 135]), om 137 2, o 138 (.call 18 [.t 137]), om 139 3, o 140 (.call 19 [.t 134, .t 136, .t 138, .t 139]), om 132 140, o 141 (.ext (.t 132) 0), o 142 (.ext (.t 132) 1), o 143 (.ext (.t 132) 2), o 22 (.alloc [.int .i64 0, .int .i64 0, .nil]), os 3 22 141, om 23 142, om 24 143])
 (.seq (sq [o 144 (.load 3 true (.t 22)), o 145 (.load 3 true (.t 10)), o 146 (.call 20 [.t 144, .t 145]), o 147 (.not (.t 146)), om 148 147, og 149 (.mv (.t 23)) 148, og 150 (.mv (.t 11)) 148, og 151 (.bin .neq (.t 149) (.t 150)) 148, o 152 (.pick (.t 148) bT (.t 151)), om 153 152, og 154 (.mv (.t 24)) 153, og 155 (.mv (.t 12)) 153, og 156 (.bqe true (.t 154) (.t 155)) 153, o 157 (.pick (.t 153) bT (.t 156))]
 (.ite (.t 157) (sq [o 8 (.mv bF)]
  .ret)
 .skip))
 (sq [o 21 (.mv (iv 1))]
 (sq [o 158 (.load 3 true (.t 16)), om 159 21, o 160 (.call 24 [.t 158, .t 159]), om 21 160]
 (.seq (sq [om 161 21, o 162 (.bin .lss (.t 161) (iv 0))]
 (.ite (.t 162) (sq [o 8 (.mv bF)]
  .ret)
 .skip))
 (.seq (sq [om 163 21, om 164 20, o 165 (.bin .neq (.t 163) (.t 164))]
 (.ite (.t 165) (sq [o 8 (.mv bF)]
  .ret)
 .skip))
 (sq [o 8 (.mv bT)]
 .ret))))))))))))))))))))))))))))))))))
noncomputable def X.l_FnExactRetreatAll (p0 : TBoard) (p1 : TState) (p2 : (List Int)) (p3 : Int) : Option Bool :=
 (bif (decide ((p2.length : Int) > 1048576)) then some true else ((X.l_szBoard p0 1048576).bind fun v3 => (bif (decide (v3 < 0)) then some true else ((X.l_szState p1 v3).bind fun v7 => (bif (decide (v7 < 0)) then some true else ((X.l_toBoard p0).bind fun v11 => ((X.l_toState p1).bind fun v13 => ((X.l_toIntS p2).bind fun v15 => ((X.s_RetreatAll v11 v13 v15 p3).bind fun v17 => ((X.l_toBoard p0).bind fun v19 => ((X.l_toState p1).bind fun v21 => ((X.l_toIntS p2).bind fun v23 => ((X.i_RetreatAll v19 v21 v23 p3).bind fun v25 => ((X.l_eqState v25.1 v17.1).bind fun v32 => (bif (!v32) then some false else (bif (v25.2.1 != v17.2.1) then some false else (bif (!(v25.2.2 == v17.2.2)) then some false else ((X.l_toBoard p0).bind fun v42 => ((X.l_eqBoard v19 v42).bind fun v44 => (bif (!v44) then some false else ((X.l_toState p1).bind fun v52 => ((X.l_eqState v21 v52).bind fun v54 => (bif (!v54) then some false else ((X.l_toIntS p2).bind fun v62 => ((X.l_eqIntS v23 v62).bind fun v64 => (bif (!v64) then some false else ((X.l_markBoard_L v19 1).bind fun v67 => ((X.l_markState_L v21 v67).bind fun v69 => ((X.l_markIntS_L v23 v69).bind fun v71 => (bif (decide (v71 < 0)) then some false else ((X.l_eqState v25.1 v17.1).bind fun v78 => (bif (!v78) then some false else ((X.l_markState_Mod v25.1 1).bind fun v81 => (if v81.2.Units.length = v25.1.Units.length then ((X.l_heldState (TState.mk v25.1.Turn v25.1.Weather v81.2.Units) 1).bind fun v84 => (bif (decide (v84 < 0)) then some false else (bif (v84 != v81.1) then some false else ((X.l_toBoard p0).bind fun v90 => ((X.l_toState p1).bind fun v92 => ((X.l_toIntS p2).bind fun v94 => ((X.i_RetreatAll v90 v92 v94 p3).bind fun v96 => ((X.l_eqState v96.1 v17.1).bind fun v103 => (bif (!v103) then some false else (bif (v96.2.1 != v17.2.1) then some false else (bif (!(v96.2.2 == v17.2.2)) then some false else ((X.l_heldState (TState.mk v25.1.Turn v25.1.Weather v81.2.Units) 1).bind fun v108 => (bif (decide (v108 < 0)) then some false else (bif (v108 != v81.1) then some false else some true)))))))))))))) else none))))))))))))))))))))))))))))))))))
theorem l_FnExactRetreatAll_T_ok (p0 : TBoard) (p1 : TState) (p2 : (List Int)) (p3 : Int) (H : X.l_FnExactRetreatAll p0 p1 p2 p3 = some true) : LawOk Tryz.prog gl 4 [.agg (eTBoard p0), .agg (eTState p1), .c (dat 1 eI zI p2), cI p3] := by
 unfold X.l_FnExactRetreatAll at H
 refine lawOk_of (fn := Tryz.f4) (ir := l_FnExactRetreatAll_ir) (s1 := lit [(8, cB true)] []) Tryz.func4 (by kernel_rfl) (by kernel_rfl) (by kernel_rfl) (by kernel_rfl) ?_
 refine tl [] [(0, .agg (oTBoard p0)), (1, .agg (oTState p1)), (2, .c (.old (dat 1 eI zI p2))), (3, cI p3)] [] id ?_
 refine sn [] [] [(4, pk 4), (5, pk 5)] [] [(4, va (oTBoard p0)), (5, va (oTState p1))] id ?_
 refine seq_in ?_
 refine sn [] [] [(27, cB (decide ((p2.length : Int) > 1048576)))] [] [] (fun t => lI p2 (t)) ?_
 rcases oC H with ⟨c2, H⟩ | ⟨c2, H⟩
 ·refine it c2 ?_
  refine so [] [] [(8, cB true)] [] id ?_
  refine ends_ret ?_
  exact qr
 ·refine jf c2 ?_
  refine sk ?_
  refine sn [] [] [(9, cI 1048576)] [] [] id ?_
  obtain ⟨v3, h4, H⟩ := oB H
  refine so [.res (cI v3)] [] [(2, .c (.old (dat 1 eI zI p2))), (3, cI p3), (4, pk 4), (5, pk 5), (9, cI v3)] [(4, va (oTBoard p0)), (5, va (oTState p1))] (aI ((FnOk.le2 (xs := [.agg (oTBoard p0), cI 1048576]) (l_szBoard_ok p0 1048576 v3 h4) ⟨LeD.agg (And.intro (LeC.old _) (And.intro (LeC.old _) (And.intro (LeC.refl _) (And.intro (LeC.refl _) (And.intro (LeC.refl _) (And.intro (LeC.refl _) (And.intro (LeC.refl _) (And.intro (LeC.refl _) (And.intro (LeC.refl _) (And.intro (LeC.old _) (And.intro (LeC.old _) (And.intro (LeC.old _) (trivial))))))))))))), LeD.refl _, trivial⟩).up glTs)) ?_
  refine seq_in ?_
  refine sn [] [] [(32, cB (decide (v3 < 0)))] [] [] id ?_
  rcases oC H with ⟨c6, H⟩ | ⟨c6, H⟩
  ·refine it c6 ?_
   refine so [] [] [(8, cB true)] [] id ?_
   refine ends_ret ?_
   exact qr
  ·refine jf c6 ?_
   refine sk ?_
   obtain ⟨v7, h8, H⟩ := oB H
   refine so [.res (cI v7)] [] [(2, .c (.old (dat 1 eI zI p2))), (3, cI p3), (4, pk 4), (5, pk 5), (9, cI v7)] [(4, va (oTBoard p0)), (5, va (oTState p1))] (aI ((FnOk.le2 (xs := [.agg (oTState p1), cI v3]) (l_szState_ok p1 v3 v7 h8) ⟨LeD.agg (And.intro (LeC.refl _) (And.intro (LeC.refl _) (And.intro (LeC.old _) (trivial)))), LeD.refl _, trivial⟩).up glTs)) ?_
   refine seq_in ?_
   refine sn [] [] [(37, cB (decide (v7 < 0)))] [] [] id ?_
   rcases oC H with ⟨c10, H⟩ | ⟨c10, H⟩
   ·refine it c10 ?_
    refine so [] [] [(8, cB true)] [] id ?_
    refine ends_ret ?_
    exact qr
   ·refine jf c10 ?_
    refine sk ?_
    obtain ⟨v11, h12, H⟩ := oB H
    obtain ⟨v13, h14, H⟩ := oB H
    obtain ⟨v15, h16, H⟩ := oB H
    obtain ⟨v17, h18, H⟩ := oB H
    refine xn [.res (.agg (rTBoard v11)), .res (.agg (rTState v13)), .res (.c (.fr (dat 1 eI zI v15))), .res (.tup [(true, [jI v17.1.Turn, jI v17.1.Weather, dat 4 eTUnit zTUnit v17.1.Units]), (false, [jI v17.2.1]), (false, [.bool v17.2.2])])] [] [(10, pk 10), (11, cI v17.2.1), (12, cB v17.2.2)] [] [(10, va (eTState v17.1))] (fun t => aI ((FnOk.le2 (xs := [.agg (oTBoard p0)]) (l_toBoard_F_ok p0 v11 h12) ⟨LeD.agg (And.intro (LeC.old _) (And.intro (LeC.old _) (And.intro (LeC.refl _) (And.intro (LeC.refl _) (And.intro (LeC.refl _) (And.intro (LeC.refl _) (And.intro (LeC.refl _) (And.intro (LeC.refl _) (And.intro (LeC.refl _) (And.intro (LeC.old _) (And.intro (LeC.old _) (And.intro (LeC.old _) (trivial))))))))))))), trivial⟩).up glTs) (aG 2 rN (aI ((FnOk.le2 (xs := [.agg (oTState p1)]) (l_toState_F_ok p1 v13 h14) ⟨LeD.agg (And.intro (LeC.refl _) (And.intro (LeC.refl _) (And.intro (LeC.old _) (trivial)))), trivial⟩).up glTs) (aG 2 rN (aI ((FnOk.le2 (xs := [.c (.old (dat 1 eI zI p2))]) (l_toIntS_F_ok p2 v15 h16) ⟨LeD.old _, trivial⟩).up glTs) (aG 2 rN (aI ((FnOk.le2 (xs := [.agg (rTBoard v11), .agg (rTState v13), .c (.fr (dat 1 eI zI v15)), cI p3]) (s_RetreatAll_ok v11 v13 v15 p3 v17 h18) ⟨LeD.agg (And.intro (LeC.fr _) (And.intro (LeC.fr _) (And.intro (LeC.refl _) (And.intro (LeC.refl _) (And.intro (LeC.refl _) (And.intro (LeC.refl _) (And.intro (LeC.refl _) (And.intro (LeC.refl _) (And.intro (LeC.refl _) (And.intro (LeC.fr _) (And.intro (LeC.fr _) (And.intro (LeC.fr _) (trivial))))))))))))), LeD.agg (And.intro (LeC.refl _) (And.intro (LeC.refl _) (And.intro (LeC.fr _) (trivial)))), LeD.fr _, LeD.refl _, trivial⟩).up glTs) (aG 2 rN (t))))))))) ?_
    refine tl [] [(2, .c (.old (dat 1 eI zI p2))), (3, cI p3), (4, pk 4), (5, pk 5), (10, pk 10), (11, cI v17.2.1), (12, cB v17.2.2)] [(4, va (oTBoard p0)), (5, va (oTState p1)), (10, va (eTState v17.1))] id ?_
    refine turn0 (E := [(2, .c (.old (dat 1 eI zI p2))), (3, cI p3), (4, pk 4), (5, pk 5), (10, pk 10), (11, cI v17.2.1), (12, cB v17.2.2)]) (E' := [(2, .c (.old (dat 1 eI zI p2))), (3, cI p3), (4, pk 4), (5, pk 5), (10, pk 10), (11, cI v17.2.1), (12, cB v17.2.2)]) (H := [(4, va (oTBoard p0)), (5, va (oTState p1)), (10, va (eTState v17.1))]) (H' := [(4, va (oTBoard p0)), (5, va (oTState p1)), (10, va (oTState v17.1))]) glTn glTp (And.intro (And.intro rfl (uO (dat 1 eI zI p2) (.dat shI))) (And.intro (And.intro rfl (uS (jI p3) rfl)) (And.intro (And.intro rfl (uS (.pk 4 0) rfl)) (And.intro (And.intro rfl (uS (.pk 5 0) rfl)) (And.intro (And.intro rfl (uS (.pk 10 0) rfl)) (And.intro (And.intro rfl (uS (jI v17.2.1) rfl)) (And.intro (And.intro rfl (uS (.bool v17.2.2) rfl)) trivial))))))) (And.intro (And.intro rfl (And.intro (uO (dat 5 eTTerrain zTTerrain p0.Rules.Terrains) (.dat shTTerrain)) (And.intro (uO (dat 6 eTKind zTKind p0.Rules.Kinds) (.dat shTKind)) (And.intro (uS (jI p0.Rules.Stack) rfl) (And.intro (uS (jI p0.Rules.River) rfl) (And.intro (uS (jI p0.Rules.Road) rfl) (And.intro (uS (jI p0.Rules.Supply) rfl) (And.intro (uS (jI p0.Rules.Turns) rfl) (And.intro (uS (jI p0.Map.Width) rfl) (And.intro (uS (jI p0.Map.Height) rfl) (And.intro (uO (dat 1 eI zI p0.Map.Terrain) (.dat shI)) (And.intro (uO (dat 1 eI zI p0.Map.Rivers) (.dat shI)) (And.intro (uO (dat 1 eI zI p0.Map.Roads) (.dat shI)) trivial))))))))))))) (And.intro (And.intro rfl (And.intro (uS (jI p1.Turn) rfl) (And.intro (uS (jI p1.Weather) rfl) (And.intro (uO (dat 4 eTUnit zTUnit p1.Units) (.dat shTUnit)) trivial)))) (And.intro (And.intro rfl (And.intro (uS (jI v17.1.Turn) rfl) (And.intro (uS (jI v17.1.Weather) rfl) (And.intro (uD (dat 4 eTUnit zTUnit v17.1.Units) rfl (.dat shTUnit)) trivial)))) trivial))) ?_
    obtain ⟨v19, h20, H⟩ := oB H
    refine sn [.res (.agg (rTBoard v19))] [] [(13, pk 13)] [] [(13, va (rTBoard v19))] (aI ((FnOk.le2 (xs := [.agg (oTBoard p0)]) (l_toBoard_F_ok p0 v19 h20) ⟨LeD.agg (And.intro (LeC.old _) (And.intro (LeC.old _) (And.intro (LeC.refl _) (And.intro (LeC.refl _) (And.intro (LeC.refl _) (And.intro (LeC.refl _) (And.intro (LeC.refl _) (And.intro (LeC.refl _) (And.intro (LeC.refl _) (And.intro (LeC.old _) (And.intro (LeC.old _) (And.intro (LeC.old _) (trivial))))))))))))), trivial⟩).up glTs)) ?_
    obtain ⟨v21, h22, H⟩ := oB H
    refine sn [.res (.agg (rTState v21))] [] [(14, pk 14)] [] [(14, va (rTState v21))] (aI ((FnOk.le2 (xs := [.agg (oTState p1)]) (l_toState_F_ok p1 v21 h22) ⟨LeD.agg (And.intro (LeC.refl _) (And.intro (LeC.refl _) (And.intro (LeC.old _) (trivial)))), trivial⟩).up glTs)) ?_
    obtain ⟨v23, h24, H⟩ := oB H
    refine sn [.res (.c (.fr (dat 1 eI zI v23)))] [] [(15, .c (.fr (dat 1 eI zI v23)))] [] [] (aI ((FnOk.le2 (xs := [.c (.old (dat 1 eI zI p2))]) (l_toIntS_F_ok p2 v23 h24) ⟨LeD.old _, trivial⟩).up glTs)) ?_
    obtain ⟨v25, h26, H⟩ := oB H
    refine sn [.mu [] [(8, 1001), (900000, 1002)] (.tup [(true, [jI v25.1.Turn, jI v25.1.Weather, .own 900000 4 0 v25.1.Units.length]), (false, [jI v25.2.1]), (false, [.bool v25.2.2])]) [(8, .var [jI v25.1.Turn, jI v25.1.Weather, .own 900000 4 0 v25.1.Units.length] false), (900000, ar 4 eTUnit zTUnit v25.1.Units)]] [] [(16, pk 16), (17, cI v25.2.1), (18, cB v25.2.2)] [] [(16, .var [jI v25.1.Turn, jI v25.1.Weather, .own 1002 4 0 v25.1.Units.length] false), (1002, ar 4 eTUnit zTUnit v25.1.Units)] (aI ((FnMu.le2 (xs := [.agg (rTBoard v19), .agg (rTState v21), .c (.fr (dat 1 eI zI v23)), cI p3]) (i_RetreatAll_Mdddd_ok v19 v21 v23 p3 v25 h26) ⟨LeK.of rfl (LeD.agg (And.intro (LeC.fr _) (And.intro (LeC.fr _) (And.intro (LeC.refl _) (And.intro (LeC.refl _) (And.intro (LeC.refl _) (And.intro (LeC.refl _) (And.intro (LeC.refl _) (And.intro (LeC.refl _) (And.intro (LeC.refl _) (And.intro (LeC.fr _) (And.intro (LeC.fr _) (And.intro (LeC.fr _) (trivial)))))))))))))), LeK.of rfl (LeD.agg (And.intro (LeC.refl _) (And.intro (LeC.refl _) (And.intro (LeC.fr _) (trivial))))), LeK.of rfl (LeD.fr _), LeK.refl _, trivial⟩).up glTs)) ?_
    refine seq_in ?_
    obtain ⟨v32, h33, H⟩ := oB H
    rcases oC H with ⟨c34, H⟩ | ⟨c34, H⟩
    ·refine sn ([.res (cB v32)] ++ rg 8 true []) [] [(78, cB true)] [] [] (fun t => aI (Nat.le_refl v25.1.Units.length) (aI ((FnOk.le2 (xs := [.agg (eTState v25.1), .agg (oTState v17.1)]) (l_eqState_ok v25.1 v17.1 v32 h33) ⟨LeD.refl _, LeD.agg (And.intro (LeC.refl _) (And.intro (LeC.refl _) (And.intro (LeC.old _) (trivial)))), trivial⟩).up glTs) (aG 4 c34 (aG 4 rT (t))))) ?_
     refine it rT ?_
     refine so [] [] [(8, cB false)] [] id ?_
     refine ends_ret ?_
     cases H
    ·rcases oC H with ⟨c35, H⟩ | ⟨c35, H⟩
     ·refine sn ([.res (cB v32)] ++ rg 4 false (rg 4 true [])) [] [(78, cB true)] [] [] (fun t => aI (Nat.le_refl v25.1.Units.length) (aI ((FnOk.le2 (xs := [.agg (eTState v25.1), .agg (oTState v17.1)]) (l_eqState_ok v25.1 v17.1 v32 h33) ⟨LeD.refl _, LeD.agg (And.intro (LeC.refl _) (And.intro (LeC.refl _) (And.intro (LeC.old _) (trivial)))), trivial⟩).up glTs) (aG 4 c34 (aG 4 c35 (t))))) ?_
      refine it rT ?_
      refine so [] [] [(8, cB false)] [] id ?_
      refine ends_ret ?_
      cases H
     ·refine sn ([.res (cB v32)] ++ rg 8 false []) [] [(78, cB (!(v25.2.2 == v17.2.2)))] [] [] (fun t => aI (Nat.le_refl v25.1.Units.length) (aI ((FnOk.le2 (xs := [.agg (eTState v25.1), .agg (oTState v17.1)]) (l_eqState_ok v25.1 v17.1 v32 h33) ⟨LeD.refl _, LeD.agg (And.intro (LeC.refl _) (And.intro (LeC.refl _) (And.intro (LeC.old _) (trivial)))), trivial⟩).up glTs) (aG 4 c34 (aG 4 c35 (t))))) ?_
      rcases oC H with ⟨c36, H⟩ | ⟨c36, H⟩
      ·refine it c36 ?_
       refine so [] [] [(8, cB false)] [] id ?_
       refine ends_ret ?_
       cases H
      ·refine jf c36 ?_
       refine sk ?_
       refine seq_in ?_
       obtain ⟨v42, h43, H⟩ := oB H
       obtain ⟨v44, h45, H⟩ := oB H
       refine xn [.res (.agg (rTBoard v42)), .res (cB v44)] [] [(83, cB (!v44))] [] [] (fun t => aI ((FnOk.le2 (xs := [.agg (oTBoard p0)]) (l_toBoard_F_ok p0 v42 h43) ⟨LeD.agg (And.intro (LeC.old _) (And.intro (LeC.old _) (And.intro (LeC.refl _) (And.intro (LeC.refl _) (And.intro (LeC.refl _) (And.intro (LeC.refl _) (And.intro (LeC.refl _) (And.intro (LeC.refl _) (And.intro (LeC.refl _) (And.intro (LeC.old _) (And.intro (LeC.old _) (And.intro (LeC.old _) (trivial))))))))))))), trivial⟩).up glTs) (aG 2 rN (aI ((FnOk.le2 (xs := [.agg (rTBoard v19), .agg (rTBoard v42)]) (l_eqBoard_ok v19 v42 v44 h45) ⟨LeD.agg (And.intro (LeC.fr _) (And.intro (LeC.fr _) (And.intro (LeC.refl _) (And.intro (LeC.refl _) (And.intro (LeC.refl _) (And.intro (LeC.refl _) (And.intro (LeC.refl _) (And.intro (LeC.refl _) (And.intro (LeC.refl _) (And.intro (LeC.fr _) (And.intro (LeC.fr _) (And.intro (LeC.fr _) (trivial))))))))))))), LeD.agg (And.intro (LeC.fr _) (And.intro (LeC.fr _) (And.intro (LeC.refl _) (And.intro (LeC.refl _) (And.intro (LeC.refl _) (And.intro (LeC.refl _) (And.intro (LeC.refl _) (And.intro (LeC.refl _) (And.intro (LeC.refl _) (And.intro (LeC.fr _) (And.intro (LeC.fr _) (And.intro (LeC.fr _) (trivial))))))))))))), trivial⟩).up glTs) (aI trivial (aI rN (t)))))) ?_
       rcases oC H with ⟨c46, H⟩ | ⟨c46, H⟩
       ·refine it c46 ?_
        refine so [] [] [(8, cB false)] [] id ?_
        refine ends_ret ?_
        cases H
       ·refine jf c46 ?_
        refine sk ?_
        refine seq_in ?_
        obtain ⟨v52, h53, H⟩ := oB H
        obtain ⟨v54, h55, H⟩ := oB H
        refine xn [.res (.agg (rTState v52)), .res (cB v54)] [] [(88, cB (!v54))] [] [] (fun t => aI ((FnOk.le2 (xs := [.agg (oTState p1)]) (l_toState_F_ok p1 v52 h53) ⟨LeD.agg (And.intro (LeC.refl _) (And.intro (LeC.refl _) (And.intro (LeC.old _) (trivial)))), trivial⟩).up glTs) (aG 2 rN (aI ((FnOk.le2 (xs := [.agg (rTState v21), .agg (rTState v52)]) (l_eqState_ok v21 v52 v54 h55) ⟨LeD.agg (And.intro (LeC.refl _) (And.intro (LeC.refl _) (And.intro (LeC.fr _) (trivial)))), LeD.agg (And.intro (LeC.refl _) (And.intro (LeC.refl _) (And.intro (LeC.fr _) (trivial)))), trivial⟩).up glTs) (aI trivial (aI rN (t)))))) ?_
        rcases oC H with ⟨c56, H⟩ | ⟨c56, H⟩
        ·refine it c56 ?_
         refine so [] [] [(8, cB false)] [] id ?_
         refine ends_ret ?_
         cases H
        ·refine jf c56 ?_
         refine sk ?_
         refine seq_in ?_
         obtain ⟨v62, h63, H⟩ := oB H
         obtain ⟨v64, h65, H⟩ := oB H
         refine sn [.res (.c (.fr (dat 1 eI zI v62))), .res (cB v64)] [] [(93, cB (!v64))] [] [] (fun t => aI ((FnOk.le2 (xs := [.c (.old (dat 1 eI zI p2))]) (l_toIntS_F_ok p2 v62 h63) ⟨LeD.old _, trivial⟩).up glTs) (aI ((FnOk.le2 (xs := [.c (.fr (dat 1 eI zI v23)), .c (.fr (dat 1 eI zI v62))]) (l_eqIntS_ok v23 v62 v64 h65) ⟨LeD.fr _, LeD.fr _, trivial⟩).up glTs) (t))) ?_
         rcases oC H with ⟨c66, H⟩ | ⟨c66, H⟩
         ·refine it c66 ?_
          refine so [] [] [(8, cB false)] [] id ?_
          refine ends_ret ?_
          cases H
         ·refine jf c66 ?_
          refine sk ?_
          refine so [] [] [(2, .c (.old (dat 1 eI zI p2))), (3, cI p3), (4, pk 4), (5, pk 5), (10, pk 10), (11, cI v17.2.1), (12, cB v17.2.2), (13, pk 13), (14, pk 14), (15, .c (.fr (dat 1 eI zI v23))), (16, pk 16), (17, cI v25.2.1), (18, cB v25.2.2), (19, cI 1)] [(4, va (oTBoard p0)), (5, va (oTState p1)), (10, va (oTState v17.1)), (13, va (rTBoard v19)), (14, va (rTState v21)), (16, .var [jI v25.1.Turn, jI v25.1.Weather, .own 1002 4 0 v25.1.Units.length] false), (1002, ar 4 eTUnit zTUnit v25.1.Units)] id ?_
          refine tl [] [(2, .c (.old (dat 1 eI zI p2))), (3, cI p3), (4, pk 4), (5, pk 5), (10, pk 10), (11, cI v17.2.1), (12, cB v17.2.2), (13, pk 13), (14, pk 14), (15, .c (.fr (dat 1 eI zI v23))), (16, pk 16), (17, cI v25.2.1), (18, cB v25.2.2), (19, cI 1)] [(4, va (oTBoard p0)), (5, va (oTState p1)), (10, va (oTState v17.1)), (13, va (rTBoard v19)), (14, va (rTState v21)), (16, .var [jI v25.1.Turn, jI v25.1.Weather, .own 1002 4 0 v25.1.Units.length] false), (1002, ar 4 eTUnit zTUnit v25.1.Units)] id ?_
          refine turn (E := [(2, .c (.old (dat 1 eI zI p2))), (3, cI p3), (4, pk 4), (5, pk 5), (10, pk 10), (11, cI v17.2.1), (12, cB v17.2.2), (13, pk 13), (14, pk 14), (15, .c (.fr (dat 1 eI zI v23))), (16, pk 16), (17, cI v25.2.1), (18, cB v25.2.2), (19, cI 1)]) (E' := [(2, dc 1 eI zI p2), (3, cI p3), (4, pk 4), (5, pk 5), (10, pk 10), (11, cI v17.2.1), (12, cB v17.2.2), (13, pk 13), (14, pk 14), (15, .c (.lv (dat 1 eI zI v23))), (16, pk 16), (17, cI v25.2.1), (18, cB v25.2.2), (19, cI 1)]) (H := [(4, va (oTBoard p0)), (5, va (oTState p1)), (10, va (oTState v17.1)), (13, va (rTBoard v19)), (14, va (rTState v21)), (16, .var [jI v25.1.Turn, jI v25.1.Weather, .own 1002 4 0 v25.1.Units.length] false), (1002, ar 4 eTUnit zTUnit v25.1.Units)]) (H' := [(4, va (eTBoard p0)), (5, va (eTState p1)), (10, va (eTState v17.1)), (13, va (lTBoard v19)), (14, va (lTState v21)), (16, .var [jI v25.1.Turn, jI v25.1.Weather, .own 1002 4 0 v25.1.Units.length] false), (1002, ar 4 eTUnit zTUnit v25.1.Units)]) glTn (And.intro (And.intro rfl (tO (dat 1 eI zI p2))) (And.intro (And.intro rfl (tS (jI p3) rfl)) (And.intro (And.intro rfl (tS (.pk 4 0) rfl)) (And.intro (And.intro rfl (tS (.pk 5 0) rfl)) (And.intro (And.intro rfl (tS (.pk 10 0) rfl)) (And.intro (And.intro rfl (tS (jI v17.2.1) rfl)) (And.intro (And.intro rfl (tS (.bool v17.2.2) rfl)) (And.intro (And.intro rfl (tS (.pk 13 0) rfl)) (And.intro (And.intro rfl (tS (.pk 14 0) rfl)) (And.intro (And.intro rfl (tF (dat 1 eI zI v23) rfl (.dat shI))) (And.intro (And.intro rfl (tS (.pk 16 0) rfl)) (And.intro (And.intro rfl (tS (jI v25.2.1) rfl)) (And.intro (And.intro rfl (tS (.bool v25.2.2) rfl)) (And.intro (And.intro rfl (tS (jI 1) rfl)) trivial)))))))))))))) (And.intro (And.intro rfl (And.intro (tO (dat 5 eTTerrain zTTerrain p0.Rules.Terrains)) (And.intro (tO (dat 6 eTKind zTKind p0.Rules.Kinds)) (And.intro (tS (jI p0.Rules.Stack) rfl) (And.intro (tS (jI p0.Rules.River) rfl) (And.intro (tS (jI p0.Rules.Road) rfl) (And.intro (tS (jI p0.Rules.Supply) rfl) (And.intro (tS (jI p0.Rules.Turns) rfl) (And.intro (tS (jI p0.Map.Width) rfl) (And.intro (tS (jI p0.Map.Height) rfl) (And.intro (tO (dat 1 eI zI p0.Map.Terrain)) (And.intro (tO (dat 1 eI zI p0.Map.Rivers)) (And.intro (tO (dat 1 eI zI p0.Map.Roads)) trivial))))))))))))) (And.intro (And.intro rfl (And.intro (tS (jI p1.Turn) rfl) (And.intro (tS (jI p1.Weather) rfl) (And.intro (tO (dat 4 eTUnit zTUnit p1.Units)) trivial)))) (And.intro (And.intro rfl (And.intro (tS (jI v17.1.Turn) rfl) (And.intro (tS (jI v17.1.Weather) rfl) (And.intro (tO (dat 4 eTUnit zTUnit v17.1.Units)) trivial)))) (And.intro (And.intro rfl (And.intro (tF (dat 5 eTTerrain zTTerrain v19.Rules.Terrains) rfl (.dat shTTerrain)) (And.intro (tF (dat 6 eTKind zTKind v19.Rules.Kinds) rfl (.dat shTKind)) (And.intro (tS (jI v19.Rules.Stack) rfl) (And.intro (tS (jI v19.Rules.River) rfl) (And.intro (tS (jI v19.Rules.Road) rfl) (And.intro (tS (jI v19.Rules.Supply) rfl) (And.intro (tS (jI v19.Rules.Turns) rfl) (And.intro (tS (jI v19.Map.Width) rfl) (And.intro (tS (jI v19.Map.Height) rfl) (And.intro (tF (dat 1 eI zI v19.Map.Terrain) rfl (.dat shI)) (And.intro (tF (dat 1 eI zI v19.Map.Rivers) rfl (.dat shI)) (And.intro (tF (dat 1 eI zI v19.Map.Roads) rfl (.dat shI)) trivial))))))))))))) (And.intro (And.intro rfl (And.intro (tS (jI v21.Turn) rfl) (And.intro (tS (jI v21.Weather) rfl) (And.intro (tF (dat 4 eTUnit zTUnit v21.Units) rfl (.dat shTUnit)) trivial)))) (And.intro (And.intro rfl (And.intro (tS (jI v25.1.Turn) rfl) (And.intro (tS (jI v25.1.Weather) rfl) (And.intro (tS (.own 1002 4 0 v25.1.Units.length) rfl) trivial)))) (And.intro (And.intro rfl ⟨rfl, rfl, rfl, fun i _ => rfl⟩) trivial))))))) ?_
          obtain ⟨v67, h68, H⟩ := oB H
          refine so [.res (cI v67)] [] [(2, dc 1 eI zI p2), (3, cI p3), (4, pk 4), (5, pk 5), (10, pk 10), (11, cI v17.2.1), (12, cB v17.2.2), (14, pk 14), (15, .c (.lv (dat 1 eI zI v23))), (16, pk 16), (17, cI v25.2.1), (18, cB v25.2.2), (19, cI v67)] [(4, va (eTBoard p0)), (5, va (eTState p1)), (10, va (eTState v17.1)), (14, va (lTState v21)), (16, .var [jI v25.1.Turn, jI v25.1.Weather, .own 1002 4 0 v25.1.Units.length] false), (1002, ar 4 eTUnit zTUnit v25.1.Units)] (aI ((l_markBoard_L_ok v19 1 v67 h68).up glTs)) ?_
          obtain ⟨v69, h70, H⟩ := oB H
          refine so [.res (cI v69)] [] [(2, dc 1 eI zI p2), (3, cI p3), (4, pk 4), (5, pk 5), (10, pk 10), (11, cI v17.2.1), (12, cB v17.2.2), (15, .c (.lv (dat 1 eI zI v23))), (16, pk 16), (17, cI v25.2.1), (18, cB v25.2.2), (19, cI v69)] [(4, va (eTBoard p0)), (5, va (eTState p1)), (10, va (eTState v17.1)), (16, .var [jI v25.1.Turn, jI v25.1.Weather, .own 1002 4 0 v25.1.Units.length] false), (1002, ar 4 eTUnit zTUnit v25.1.Units)] (aI ((l_markState_L_ok v21 v67 v69 h70).up glTs)) ?_
          obtain ⟨v71, h72, H⟩ := oB H
          refine so [.res (cI v71)] [] [(2, dc 1 eI zI p2), (3, cI p3), (4, pk 4), (5, pk 5), (10, pk 10), (11, cI v17.2.1), (12, cB v17.2.2), (16, pk 16), (17, cI v25.2.1), (18, cB v25.2.2), (19, cI v71)] [(4, va (eTBoard p0)), (5, va (eTState p1)), (10, va (eTState v17.1)), (16, .var [jI v25.1.Turn, jI v25.1.Weather, .own 1002 4 0 v25.1.Units.length] false), (1002, ar 4 eTUnit zTUnit v25.1.Units)] (aI ((l_markIntS_L_ok v23 v69 v71 h72).up glTs)) ?_
          refine seq_in ?_
          rcases oC H with ⟨c77, H⟩ | ⟨c77, H⟩
          ·refine sn (rg 13 true []) [] [(120, cB true)] [] [] (fun t => aG 5 c77 (aG 8 rT (t))) ?_
           refine it rT ?_
           refine so [] [] [(8, cB false)] [] id ?_
           refine ends_ret ?_
           cases H
          ·obtain ⟨v78, h79, H⟩ := oB H
           rcases oC H with ⟨c80, H⟩ | ⟨c80, H⟩
           ·refine sn (rg 3 false ([.res (cB v78)] ++ rg 2 false (rg 8 true []))) [] [(120, cB true)] [] [] (fun t => aG 3 c77 (aI (Nat.le_refl v25.1.Units.length) (aI ((l_eqState_ok v25.1 v17.1 v78 h79).up glTs) (aG 2 c77 (aG 4 c80 (aG 4 rT (t))))))) ?_
            refine it rT ?_
            refine so [] [] [(8, cB false)] [] id ?_
            refine ends_ret ?_
            cases H
           ·refine sn (rg 3 false ([.res (cB v78)] ++ rg 10 false [])) [] [(120, cB (!(v25.2.2 == v17.2.2)))] [] [] (fun t => aG 3 c77 (aI (Nat.le_refl v25.1.Units.length) (aI ((l_eqState_ok v25.1 v17.1 v78 h79).up glTs) (aG 2 c77 (aG 4 c80 (aG 4 c35 (t))))))) ?_
            refine jf c36 ?_
            refine sk ?_
            refine sn [] [] [(20, cI 1)] [] [] id ?_
            obtain ⟨v81, h82, H⟩ := oB H
            obtain ⟨g83, H⟩ := oI H
            refine so [.mu [(1002, 1000000)] [(1000000, 1002)] (cI v81.1) [(1000000, ar 4 eTUnit zTUnit v81.2.Units)]] [.agg 121 [jI v25.1.Turn, jI v25.1.Weather, .own 1002 4 0 v81.2.Units.length], .relc 16 2 v81.2.Units.length] [(2, dc 1 eI zI p2), (3, cI p3), (4, pk 4), (5, pk 5), (10, pk 10), (11, cI v17.2.1), (12, cB v17.2.2), (16, pk 16), (20, cI v81.1)] [(4, va (eTBoard p0)), (5, va (eTState p1)), (10, va (eTState v17.1)), (16, .var [jI v25.1.Turn, jI v25.1.Weather, .own 1002 4 0 v81.2.Units.length] false), (1002, ar 4 eTUnit zTUnit v81.2.Units)] (fun t => aI ((l_markState_Mod_ok v25.1 1 v81 h82).up glTs) (aI (by rw [← g83] : AV.agg [jI v25.1.Turn, jI v25.1.Weather, .own 1002 4 0 v25.1.Units.length] = AV.agg [jI v25.1.Turn, jI v25.1.Weather, .own 1002 4 0 v81.2.Units.length]) (aI (Eq.symm g83) (t)))) ?_
            refine sn [] [] [(21, cI 1)] [] [] id ?_
            obtain ⟨v84, h85, H⟩ := oB H
            refine so [.res (cI v84)] [] [(2, dc 1 eI zI p2), (3, cI p3), (4, pk 4), (5, pk 5), (10, pk 10), (11, cI v17.2.1), (12, cB v17.2.2), (16, pk 16), (20, cI v81.1), (21, cI v84)] [(4, va (eTBoard p0)), (5, va (eTState p1)), (10, va (eTState v17.1)), (16, .var [jI v25.1.Turn, jI v25.1.Weather, .own 1002 4 0 v81.2.Units.length] false), (1002, ar 4 eTUnit zTUnit v81.2.Units)] (fun t => aI (Nat.le_refl v81.2.Units.length) (aI ((l_heldState_ok (TState.mk v25.1.Turn v25.1.Weather v81.2.Units) 1 v84 h85).up glTs) (t))) ?_
            refine seq_in ?_
            refine sn [] [] [(128, cB (decide (v84 < 0)))] [] [] id ?_
            rcases oC H with ⟨c87, H⟩ | ⟨c87, H⟩
            ·refine it c87 ?_
             refine so [] [] [(8, cB false)] [] id ?_
             refine ends_ret ?_
             cases H
            ·refine jf c87 ?_
             refine sk ?_
             refine seq_in ?_
             refine sn [] [] [(131, cB (v84 != v81.1))] [] [] id ?_
             rcases oC H with ⟨c89, H⟩ | ⟨c89, H⟩
             ·refine it c89 ?_
              refine so [] [] [(8, cB false)] [] id ?_
              refine ends_ret ?_
              cases H
             ·refine jf c89 ?_
              refine sk ?_
              obtain ⟨v90, h91, H⟩ := oB H
              obtain ⟨v92, h93, H⟩ := oB H
              obtain ⟨v94, h95, H⟩ := oB H
              obtain ⟨v96, h97, H⟩ := oB H
              refine xn [.res (.agg (rTBoard v90)), .res (.agg (rTState v92)), .res (.c (.fr (dat 1 eI zI v94))), .res (.tup [(true, [jI v96.1.Turn, jI v96.1.Weather, dat 4 eTUnit zTUnit v96.1.Units]), (false, [jI v96.2.1]), (false, [.bool v96.2.2])])] [] [(22, pk 22), (23, cI v96.2.1), (24, cB v96.2.2)] [] [(22, va (eTState v96.1))] (fun t => aI ((l_toBoard_F_ok p0 v90 h91).up glTs) (aG 2 rN (aI ((l_toState_F_ok p1 v92 h93).up glTs) (aG 2 rN (aI ((l_toIntS_F_ok p2 v94 h95).up glTs) (aG 2 rN (aI ((FnOk.le2 (xs := [.agg (rTBoard v90), .agg (rTState v92), .c (.fr (dat 1 eI zI v94)), cI p3]) (i_RetreatAll_ok v90 v92 v94 p3 v96 h97) ⟨LeD.agg (And.intro (LeC.fr _) (And.intro (LeC.fr _) (And.intro (LeC.refl _) (And.intro (LeC.refl _) (And.intro (LeC.refl _) (And.intro (LeC.refl _) (And.intro (LeC.refl _) (And.intro (LeC.refl _) (And.intro (LeC.refl _) (And.intro (LeC.fr _) (And.intro (LeC.fr _) (And.intro (LeC.fr _) (trivial))))))))))))), LeD.agg (And.intro (LeC.refl _) (And.intro (LeC.refl _) (And.intro (LeC.fr _) (trivial)))), LeD.fr _, LeD.refl _, trivial⟩).up glTs) (aG 2 rN (t))))))))) ?_
              refine seq_in ?_
              obtain ⟨v103, h104, H⟩ := oB H
              rcases oC H with ⟨c105, H⟩ | ⟨c105, H⟩
              ·refine sn ([.res (cB v103)] ++ rg 8 true []) [] [(157, cB true)] [4, 5] [] (fun t => aI ((l_eqState_ok v96.1 v17.1 v103 h104).up glTs) (aG 4 c105 (aG 4 rT (t)))) ?_
               refine it rT ?_
               refine so [] [] [(8, cB false)] [] id ?_
               refine ends_ret ?_
               cases H
              ·rcases oC H with ⟨c106, H⟩ | ⟨c106, H⟩
               ·refine sn ([.res (cB v103)] ++ rg 4 false (rg 4 true [])) [] [(157, cB true)] [4, 5] [] (fun t => aI ((l_eqState_ok v96.1 v17.1 v103 h104).up glTs) (aG 4 c105 (aG 4 c106 (t)))) ?_
                refine it rT ?_
                refine so [] [] [(8, cB false)] [] id ?_
                refine ends_ret ?_
                cases H
               ·refine sn ([.res (cB v103)] ++ rg 8 false []) [] [(157, cB (!(v96.2.2 == v17.2.2)))] [4, 5] [] (fun t => aI ((l_eqState_ok v96.1 v17.1 v103 h104).up glTs) (aG 4 c105 (aG 4 c106 (t)))) ?_
                rcases oC H with ⟨c107, H⟩ | ⟨c107, H⟩
                ·refine it c107 ?_
                 refine so [] [] [(8, cB false)] [] id ?_
                 refine ends_ret ?_
                 cases H
                ·refine jf c107 ?_
                 refine sk ?_
                 refine so [] [] [(16, pk 16), (20, cI v81.1), (21, cI 1)] [(16, .var [jI v25.1.Turn, jI v25.1.Weather, .own 1002 4 0 v81.2.Units.length] false), (1002, ar 4 eTUnit zTUnit v81.2.Units)] id ?_
                 obtain ⟨v108, h109, H⟩ := oB H
                 refine so [.res (cI v108)] [] [(20, cI v81.1), (21, cI v108)] [] (fun t => aI (Nat.le_refl v81.2.Units.length) (aI ((l_heldState_ok (TState.mk v25.1.Turn v25.1.Weather v81.2.Units) 1 v108 h109).up glTs) (t))) ?_
                 refine seq_in ?_
                 refine sn [] [] [(162, cB (decide (v108 < 0)))] [] [] id ?_
                 rcases oC H with ⟨c111, H⟩ | ⟨c111, H⟩
                 ·refine it c111 ?_
                  refine so [] [] [(8, cB false)] [] id ?_
                  refine ends_ret ?_
                  cases H
                 ·refine jf c111 ?_
                  refine sk ?_
                  refine seq_in ?_
                  refine so [] [] [(165, cB (v108 != v81.1))] [] id ?_
                  rcases oC H with ⟨c112, H⟩ | ⟨c112, H⟩
                  ·refine it c112 ?_
                   refine so [] [] [(8, cB false)] [] id ?_
                   refine ends_ret ?_
                   cases H
                  ·refine jf c112 ?_
                   refine sk ?_
                   refine so [] [] [(8, cB true)] [] id ?_
                   refine ends_ret ?_
                   exact qr
end Go.Proofs.YtjlabdoeiphegaaGreatDoor.X0
