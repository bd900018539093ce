/- What each function that FnExactNewMemory reaches computes; no condition. -/
import Derived.Test.YtjlabdoeiphegaaDoorNmWa
set_option linter.unusedVariables false
set_option linter.unusedSimpArgs false
set_option maxRecDepth 100000
namespace Go.Proofs.YtjlabdoeiphegaaDoor.X0
open Go Go.RowKit Go.Proofs.YtjlabdoeiphegaaDoor.Ab Go.Proofs

def l_FnExactNewMemory_ir : S :=
 (sq [o 1 (.box 12 (.t 0)), o 2 (.mv bF)]
 (sq [o 3 (.mv (iv 1048576))]
 (sq [o 14 (.load 12 true (.t 1)), om 15 3, o 16 (.call 4 [.t 14, .t 15]), om 3 16]
 (.seq (sq [om 17 3, o 18 (.bin .lss (.t 17) (iv 0))]
 (.ite (.t 18) (sq [o 2 (.mv bT)]
  .ret)
 .skip))
 (sq [o 20 (.load 12 true (.t 1)), o 21 (.call 6 [.t 20]), o 22 (.call 5 [.t 21]), om 19 22, o 23 (.ext (.t 19) 0), o 24 (.ext (.t 19) 1), o 4 (.alloc [.nil, .nil]), os 2 4 23, om 5 24]
 (sq [o 25 (.load 12 true (.t 1)), o 26 (.call 6 [.t 25]), o 6 (.alloc [.nil, .nil, .int .i64 0, .int .i64 0, .int .i64 0, .int .i64 0, .int .i64 0, .int .i64 0, .int .i64 0, .nil, .nil, .nil]), os 12 6 26]
 (sq [o 28 (.load 12 true (.t 6)), o 29 (.call 7 [.t 28]), om 27 29, o 30 (.ext (.t 27) 0), o 31 (.ext (.t 27) 1), o 7 (.alloc [.nil, .nil]), os 2 7 30, om 8 31]
 (.seq (sq [o 32 (.load 2 true (.t 7)), o 33 (.load 2 true (.t 4)), o 34 (.call 8 [.t 32, .t 33]), o 35 (.not (.t 34)), om 36 35, og 37 (.mv (.t 8)) 36, og 38 (.mv (.t 5)) 36, og 39 (.bqe true (.t 37) (.t 38)) 36, o 40 (.pick (.t 36) bT (.t 39))]
 (.ite (.t 40) (sq [o 2 (.mv bF)]
  .ret)
 .skip))
 (.seq (.seq (.drw [(0, 1), (0, 2)] [o 41 (.load 12 true (.t 6)), o 42 (.load 12 true (.t 1)), o 43 (.call 6 [.t 42]), o 44 (.call 9 [.t 41, .t 43]), o 45 (.not (.t 44))])
 (.ite (.t 45) (sq [o 2 (.mv bF)]
  .ret)
 .skip))
 (sq [o 9 (.mv (iv 1))]
 (sq [o 46 (.load 12 true (.t 6)), om 47 9, o 48 (.call 10 [.t 46, .t 47]), om 9 48]
 (.seq (sq [om 49 9, o 50 (.bin .lss (.t 49) (iv 0)), om 51 50, og 52 (.load 2 true (.t 7)) 51, og 53 (.load 2 true (.t 4)) 51, og 54 (.call 8 [.t 52, .t 53]) 51, og 55 (.not (.t 54)) 51, o 56 (.pick (.t 51) bT (.t 55)), om 57 56, og 58 (.mv (.t 8)) 57, og 59 (.mv (.t 5)) 57, og 60 (.bqe true (.t 58) (.t 59)) 57, o 61 (.pick (.t 57) bT (.t 60))]
 (.ite (.t 61) (sq [o 2 (.mv bF)]
  .ret)
 .skip))
 (sq [o 10 (.mv (iv 1))]
 (sq [o 62 (.load 2 true (.t 7)), om 63 10, o 64 (.call 11 [.t 62, .t 63]), om 10 64]
 (sq [o 11 (.mv (iv 1))]
 (sq [o 65 (.load 2 true (.t 7)), om 66 11, o 67 (.call 12 [.t 65, .t 66]), om 11 67]
 (.seq (sq [om 68 11, o 69 (.bin .lss (.t 68) (iv 0))]
 (.ite (.t 69) (sq [o 2 (.mv bF)]
  .ret)
 .skip))
 (.seq (sq [om 70 11, om 71 10, o 72 (.bin .neq (.t 70) (.t 71))]
 (.ite (.t 72) (sq [o 2 (.mv bF)]
  .ret)
 .skip))
 (sq [o 74 (.load 12 true (.t 1)), o 75 (.call 6 [.t 74]), o 76 (.call 7 [.t 75]), om 73 76, o 77 (.ext (.t 73) 0), o 78 (.ext (.t 73) 1), o 12 (.alloc [.nil, .nil]), os 2 12 77, om 13 78]
 (.seq (sq [o 79 (.load 2 true (.t 12)), o 80 (.load 2 true (.t 4)), o 81 (.call 8 [.t 79, .t 80]), o 82 (.not (.t 81)), om 83 82, og 84 (.mv (.t 13)) 83, og 85 (.mv (.t 5)) 83, og 86 (.bqe true (.t 84) (.t 85)) 83, o 87 (.pick (.t 83) bT (.t 86))]
 (.ite (.t 87) (sq [o 2 (.mv bF)]
  .ret)
 .skip))
 (sq [o 11 (.mv (iv 1))]
 (sq [o 88 (.load 2 true (.t 7)), om 89 11, o 90 (.call 12 [.t 88, .t 89]), om 11 90]
 (.seq (sq [om 91 11, o 92 (.bin .lss (.t 91) (iv 0))]
 (.ite (.t 92) (sq [o 2 (.mv bF)]
  .ret)
 .skip))
 (.seq (sq [om 93 11, om 94 10, o 95 (.bin .neq (.t 93) (.t 94))]
 (.ite (.t 95) (sq [o 2 (.mv bF)]
  .ret)
 .skip))
 (sq [o 2 (.mv bT)]
 .ret)))))))))))))))))))))))))
noncomputable def X.l_FnExactNewMemory (p0 : TBoard) : Option Bool :=
 ((X.l_szBoard p0 1048576).bind fun v1 => (bif (decide (v1 < 0)) then some true else ((X.l_toBoard p0).bind fun v5 => ((X.s_NewMemory v5).bind fun v7 => ((X.l_toBoard p0).bind fun v9 => ((X.i_NewMemory v9).bind fun v11 => ((X.l_eqMemory v11.1 v7.1).bind fun v17 => (bif (!v17) then some false else (bif (!(v11.2 == v7.2)) then some false else ((X.l_toBoard p0).bind fun v26 => ((X.l_eqBoard v9 v26).bind fun v28 => (bif (!v28) then some false else ((X.l_markBoard_L v9 1).bind fun v31 => (bif (decide (v31 < 0)) then some false else ((X.l_eqMemory v11.1 v7.1).bind fun v38 => (bif (!v38) then some false else ((X.l_markMemory_Mod v11.1 1).bind fun v41 => (if v41.2.Turns.length = v11.1.Turns.length then (if v41.2.Counts.length = v11.1.Counts.length then ((X.l_heldMemory v41.2 1).bind fun v45 => (bif (decide (v45 < 0)) then some false else (bif (v45 != v41.1) then some false else ((X.l_toBoard p0).bind fun v51 => ((X.i_NewMemory v51).bind fun v53 => ((X.l_eqMemory v53.1 v7.1).bind fun v59 => (bif (!v59) then some false else (bif (!(v53.2 == v7.2)) then some false else ((X.l_heldMemory v41.2 1).bind fun v63 => (bif (decide (v63 < 0)) then some false else (bif (v63 != v41.1) then some false else some true))))))))))) else none) else none))))))))))))))))))
theorem l_FnExactNewMemory_T_ok (p0 : TBoard) (H : X.l_FnExactNewMemory p0 = some true) : LawOk Tryd.prog gl 3 [.agg (eTBoard p0)] := by
 unfold X.l_FnExactNewMemory at H
 refine lawOk_of (fn := Tryd.f3) (ir := l_FnExactNewMemory_ir) (s1 := lit [(2, cB true)] []) Tryd.func3 (by kernel_rfl) (by kernel_rfl) (by kernel_rfl) (by kernel_rfl) ?_
 refine tl [] [(0, .agg (oTBoard p0))] [] id ?_
 refine so [] [] [(1, pk 1)] [(1, va (oTBoard p0))] id ?_
 refine sn [] [] [(3, cI 1048576)] [] [] id ?_
 obtain ⟨v1, h2, H⟩ := oB H
 refine so [.res (cI v1)] [] [(1, pk 1), (3, cI v1)] [(1, va (oTBoard p0))] (aI ((FnOk.le2 (xs := [.agg (oTBoard p0), cI 1048576]) (l_szBoard_ok p0 1048576 v1 h2) ⟨LeD.agg (And.intro (LeC.old _) (And.intro (LeC.old _) (And.intro (LeC.refl _) (And.intro (LeC.refl _) (And.intro (LeC.refl _) (And.intro (LeC.refl _) (And.intro (LeC.refl _) (And.intro (LeC.refl _) (And.intro (LeC.refl _) (And.intro (LeC.old _) (And.intro (LeC.old _) (And.intro (LeC.old _) (trivial))))))))))))), LeD.refl _, trivial⟩).up glTs)) ?_
 refine seq_in ?_
 refine sn [] [] [(18, cB (decide (v1 < 0)))] [] [] id ?_
 rcases oC H with ⟨c4, H⟩ | ⟨c4, H⟩
 ·refine it c4 ?_
  refine so [] [] [(2, cB true)] [] id ?_
  refine ends_ret ?_
  exact qr
 ·refine jf c4 ?_
  refine sk ?_
  obtain ⟨v5, h6, H⟩ := oB H
  obtain ⟨v7, h8, H⟩ := oB H
  refine sn [.res (.agg (rTBoard v5)), .res (.tup [(true, [dat 1 eI zI v7.1.Turns, dat 1 eI zI v7.1.Counts]), (false, [.bool v7.2])])] [] [(4, pk 4), (5, cB v7.2)] [] [(4, va (eTMemory v7.1))] (fun t => aI ((FnOk.le2 (xs := [.agg (oTBoard p0)]) (l_toBoard_F_ok p0 v5 h6) ⟨LeD.agg (And.intro (LeC.old _) (And.intro (LeC.old _) (And.intro (LeC.refl _) (And.intro (LeC.refl _) (And.intro (LeC.refl _) (And.intro (LeC.refl _) (And.intro (LeC.refl _) (And.intro (LeC.refl _) (And.intro (LeC.refl _) (And.intro (LeC.old _) (And.intro (LeC.old _) (And.intro (LeC.old _) (trivial))))))))))))), trivial⟩).up glTs) (aI ((FnOk.le2 (xs := [.agg (rTBoard v5)]) (s_NewMemory_ok v5 v7 h8) ⟨LeD.agg (And.intro (LeC.fr _) (And.intro (LeC.fr _) (And.intro (LeC.refl _) (And.intro (LeC.refl _) (And.intro (LeC.refl _) (And.intro (LeC.refl _) (And.intro (LeC.refl _) (And.intro (LeC.refl _) (And.intro (LeC.refl _) (And.intro (LeC.fr _) (And.intro (LeC.fr _) (And.intro (LeC.fr _) (trivial))))))))))))), trivial⟩).up glTs) (t))) ?_
  refine tl [] [(1, pk 1), (4, pk 4), (5, cB v7.2)] [(1, va (oTBoard p0)), (4, va (eTMemory v7.1))] id ?_
  refine turn0 (E := [(1, pk 1), (4, pk 4), (5, cB v7.2)]) (E' := [(1, pk 1), (4, pk 4), (5, cB v7.2)]) (H := [(1, va (oTBoard p0)), (4, va (eTMemory v7.1))]) (H' := [(1, va (oTBoard p0)), (4, .var [.old (dat 1 eI zI v7.1.Turns), .old (dat 1 eI zI v7.1.Counts)] false)]) glTn glTp (And.intro (And.intro rfl (uS (.pk 1 0) rfl)) (And.intro (And.intro rfl (uS (.pk 4 0) rfl)) (And.intro (And.intro rfl (uS (.bool v7.2) rfl)) trivial))) (And.intro (And.intro rfl (And.intro (uO (dat 5 eTTerrain zTTerrain p0.Rules.Terrains) (.dat shTTerrain)) (And.intro (uO (dat 6 eTKind zTKind p0.Rules.Kinds) (.dat shTKind)) (And.intro (uS (jI p0.Rules.Stack) rfl) (And.intro (uS (jI p0.Rules.River) rfl) (And.intro (uS (jI p0.Rules.Road) rfl) (And.intro (uS (jI p0.Rules.Supply) rfl) (And.intro (uS (jI p0.Rules.Turns) rfl) (And.intro (uS (jI p0.Map.Width) rfl) (And.intro (uS (jI p0.Map.Height) rfl) (And.intro (uO (dat 1 eI zI p0.Map.Terrain) (.dat shI)) (And.intro (uO (dat 1 eI zI p0.Map.Rivers) (.dat shI)) (And.intro (uO (dat 1 eI zI p0.Map.Roads) (.dat shI)) trivial))))))))))))) (And.intro (And.intro rfl (And.intro (uD (dat 1 eI zI v7.1.Turns) rfl (.dat shI)) (And.intro (uD (dat 1 eI zI v7.1.Counts) rfl (.dat shI)) trivial))) trivial)) ?_
  obtain ⟨v9, h10, H⟩ := oB H
  refine sn [.res (.agg (rTBoard v9))] [] [(6, pk 6)] [] [(6, va (rTBoard v9))] (aI ((FnOk.le2 (xs := [.agg (oTBoard p0)]) (l_toBoard_F_ok p0 v9 h10) ⟨LeD.agg (And.intro (LeC.old _) (And.intro (LeC.old _) (And.intro (LeC.refl _) (And.intro (LeC.refl _) (And.intro (LeC.refl _) (And.intro (LeC.refl _) (And.intro (LeC.refl _) (And.intro (LeC.refl _) (And.intro (LeC.refl _) (And.intro (LeC.old _) (And.intro (LeC.old _) (And.intro (LeC.old _) (trivial))))))))))))), trivial⟩).up glTs)) ?_
  obtain ⟨v11, h12, H⟩ := oB H
  refine sn [.mu [] [(2, 1001), (900000, 1002), (900001, 1003)] (.tup [(true, [.own 900000 1 0 v11.1.Turns.length, .own 900001 1 0 v11.1.Counts.length]), (false, [.bool v11.2])]) [(2, .var [.own 900000 1 0 v11.1.Turns.length, .own 900001 1 0 v11.1.Counts.length] false), (900000, ar 1 eI zI v11.1.Turns), (900001, ar 1 eI zI v11.1.Counts)]] [] [(7, pk 7), (8, cB v11.2)] [] [(7, .var [.own 1002 1 0 v11.1.Turns.length, .own 1003 1 0 v11.1.Counts.length] false), (1002, ar 1 eI zI v11.1.Turns), (1003, ar 1 eI zI v11.1.Counts)] (aI ((FnMu.le2 (xs := [.agg (rTBoard v9)]) (i_NewMemory_Md_ok v9 v11 h12) ⟨LeK.of rfl (LeD.agg (And.intro (LeC.fr _) (And.intro (LeC.fr _) (And.intro (LeC.refl _) (And.intro (LeC.refl _) (And.intro (LeC.refl _) (And.intro (LeC.refl _) (And.intro (LeC.refl _) (And.intro (LeC.refl _) (And.intro (LeC.refl _) (And.intro (LeC.fr _) (And.intro (LeC.fr _) (And.intro (LeC.fr _) (trivial)))))))))))))), trivial⟩).up glTs)) ?_
  refine seq_in ?_
  obtain ⟨v17, h18, H⟩ := oB H
  rcases oC H with ⟨c19, H⟩ | ⟨c19, H⟩
  ·refine sn ([.res (cB v17)] ++ rg 4 true []) [] [(40, cB true)] [] [] (fun t => aI (Nat.le_refl v11.1.Turns.length) (aI (Nat.le_refl v11.1.Counts.length) (aI ((FnOk.le2 (xs := [.agg (eTMemory v11.1), .agg [.old (dat 1 eI zI v7.1.Turns), .old (dat 1 eI zI v7.1.Counts)]]) (l_eqMemory_ok v11.1 v7.1 v17 h18) ⟨LeD.refl _, LeD.agg (And.intro (LeC.old _) (And.intro (LeC.old _) (trivial))), trivial⟩).up glTs) (aG 4 c19 (t))))) ?_
   refine it rT ?_
   refine so [] [] [(2, cB false)] [] id ?_
   refine ends_ret ?_
   cases H
  ·refine sn ([.res (cB v17)] ++ rg 4 false []) [] [(40, cB (!(v11.2 == v7.2)))] [] [] (fun t => aI (Nat.le_refl v11.1.Turns.length) (aI (Nat.le_refl v11.1.Counts.length) (aI ((FnOk.le2 (xs := [.agg (eTMemory v11.1), .agg [.old (dat 1 eI zI v7.1.Turns), .old (dat 1 eI zI v7.1.Counts)]]) (l_eqMemory_ok v11.1 v7.1 v17 h18) ⟨LeD.refl _, LeD.agg (And.intro (LeC.old _) (And.intro (LeC.old _) (trivial))), trivial⟩).up glTs) (aG 4 c19 (t))))) ?_
   rcases oC H with ⟨c20, H⟩ | ⟨c20, H⟩
   ·refine it c20 ?_
    refine so [] [] [(2, cB false)] [] id ?_
    refine ends_ret ?_
    cases H
   ·refine jf c20 ?_
    refine sk ?_
    refine seq_in ?_
    obtain ⟨v26, h27, H⟩ := oB H
    obtain ⟨v28, h29, H⟩ := oB H
    refine xn [.res (.agg (rTBoard v26)), .res (cB v28)] [] [(45, cB (!v28))] [] [] (fun t => aI ((FnOk.le2 (xs := [.agg (oTBoard p0)]) (l_toBoard_F_ok p0 v26 h27) ⟨LeD.agg (And.intro (LeC.old _) (And.intro (LeC.old _) (And.intro (LeC.refl _) (And.intro (LeC.refl _) (And.intro (LeC.refl _) (And.intro (LeC.refl _) (And.intro (LeC.refl _) (And.intro (LeC.refl _) (And.intro (LeC.refl _) (And.intro (LeC.old _) (And.intro (LeC.old _) (And.intro (LeC.old _) (trivial))))))))))))), trivial⟩).up glTs) (aG 2 rN (aI ((FnOk.le2 (xs := [.agg (rTBoard v9), .agg (rTBoard v26)]) (l_eqBoard_ok v9 v26 v28 h29) ⟨LeD.agg (And.intro (LeC.fr _) (And.intro (LeC.fr _) (And.intro (LeC.refl _) (And.intro (LeC.refl _) (And.intro (LeC.refl _) (And.intro (LeC.refl _) (And.intro (LeC.refl _) (And.intro (LeC.refl _) (And.intro (LeC.refl _) (And.intro (LeC.fr _) (And.intro (LeC.fr _) (And.intro (LeC.fr _) (trivial))))))))))))), LeD.agg (And.intro (LeC.fr _) (And.intro (LeC.fr _) (And.intro (LeC.refl _) (And.intro (LeC.refl _) (And.intro (LeC.refl _) (And.intro (LeC.refl _) (And.intro (LeC.refl _) (And.intro (LeC.refl _) (And.intro (LeC.refl _) (And.intro (LeC.fr _) (And.intro (LeC.fr _) (And.intro (LeC.fr _) (trivial))))))))))))), trivial⟩).up glTs) (aI trivial (aI rN (t)))))) ?_
    rcases oC H with ⟨c30, H⟩ | ⟨c30, H⟩
    ·refine it c30 ?_
     refine so [] [] [(2, cB false)] [] id ?_
     refine ends_ret ?_
     cases H
    ·refine jf c30 ?_
     refine sk ?_
     refine sn [] [] [(9, cI 1)] [] [] id ?_
     refine tl [] [(1, pk 1), (4, pk 4), (5, cB v7.2), (6, pk 6), (7, pk 7), (8, cB v11.2), (9, cI 1)] [(1, va (oTBoard p0)), (4, .var [.old (dat 1 eI zI v7.1.Turns), .old (dat 1 eI zI v7.1.Counts)] false), (6, va (rTBoard v9)), (7, .var [.own 1002 1 0 v11.1.Turns.length, .own 1003 1 0 v11.1.Counts.length] false), (1002, ar 1 eI zI v11.1.Turns), (1003, ar 1 eI zI v11.1.Counts)] id ?_
     refine turn (E := [(1, pk 1), (4, pk 4), (5, cB v7.2), (6, pk 6), (7, pk 7), (8, cB v11.2), (9, cI 1)]) (E' := [(1, pk 1), (4, pk 4), (5, cB v7.2), (6, pk 6), (7, pk 7), (8, cB v11.2), (9, cI 1)]) (H := [(1, va (oTBoard p0)), (4, .var [.old (dat 1 eI zI v7.1.Turns), .old (dat 1 eI zI v7.1.Counts)] false), (6, va (rTBoard v9)), (7, .var [.own 1002 1 0 v11.1.Turns.length, .own 1003 1 0 v11.1.Counts.length] false), (1002, ar 1 eI zI v11.1.Turns), (1003, ar 1 eI zI v11.1.Counts)]) (H' := [(1, va (eTBoard p0)), (4, va (eTMemory v7.1)), (6, va (lTBoard v9)), (7, .var [.own 1002 1 0 v11.1.Turns.length, .own 1003 1 0 v11.1.Counts.length] false), (1002, ar 1 eI zI v11.1.Turns), (1003, ar 1 eI zI v11.1.Counts)]) glTn (And.intro (And.intro rfl (tS (.pk 1 0) rfl)) (And.intro (And.intro rfl (tS (.pk 4 0) rfl)) (And.intro (And.intro rfl (tS (.bool v7.2) rfl)) (And.intro (And.intro rfl (tS (.pk 6 0) rfl)) (And.intro (And.intro rfl (tS (.pk 7 0) rfl)) (And.intro (And.intro rfl (tS (.bool v11.2) rfl)) (And.intro (And.intro rfl (tS (jI 1) rfl)) trivial))))))) (And.intro (And.intro rfl (And.intro (tO (dat 5 eTTerrain zTTerrain p0.Rules.Terrains)) (And.intro (tO (dat 6 eTKind zTKind p0.Rules.Kinds)) (And.intro (tS (jI p0.Rules.Stack) rfl) (And.intro (tS (jI p0.Rules.River) rfl) (And.intro (tS (jI p0.Rules.Road) rfl) (And.intro (tS (jI p0.Rules.Supply) rfl) (And.intro (tS (jI p0.Rules.Turns) rfl) (And.intro (tS (jI p0.Map.Width) rfl) (And.intro (tS (jI p0.Map.Height) rfl) (And.intro (tO (dat 1 eI zI p0.Map.Terrain)) (And.intro (tO (dat 1 eI zI p0.Map.Rivers)) (And.intro (tO (dat 1 eI zI p0.Map.Roads)) trivial))))))))))))) (And.intro (And.intro rfl (And.intro (tO (dat 1 eI zI v7.1.Turns)) (And.intro (tO (dat 1 eI zI v7.1.Counts)) trivial))) (And.intro (And.intro rfl (And.intro (tF (dat 5 eTTerrain zTTerrain v9.Rules.Terrains) rfl (.dat shTTerrain)) (And.intro (tF (dat 6 eTKind zTKind v9.Rules.Kinds) rfl (.dat shTKind)) (And.intro (tS (jI v9.Rules.Stack) rfl) (And.intro (tS (jI v9.Rules.River) rfl) (And.intro (tS (jI v9.Rules.Road) rfl) (And.intro (tS (jI v9.Rules.Supply) rfl) (And.intro (tS (jI v9.Rules.Turns) rfl) (And.intro (tS (jI v9.Map.Width) rfl) (And.intro (tS (jI v9.Map.Height) rfl) (And.intro (tF (dat 1 eI zI v9.Map.Terrain) rfl (.dat shI)) (And.intro (tF (dat 1 eI zI v9.Map.Rivers) rfl (.dat shI)) (And.intro (tF (dat 1 eI zI v9.Map.Roads) rfl (.dat shI)) trivial))))))))))))) (And.intro (And.intro rfl (And.intro (tS (.own 1002 1 0 v11.1.Turns.length) rfl) (And.intro (tS (.own 1003 1 0 v11.1.Counts.length) rfl) trivial))) (And.intro (And.intro rfl ⟨rfl, rfl, rfl, fun i _ => rfl⟩) (And.intro (And.intro rfl ⟨rfl, rfl, rfl, fun i _ => rfl⟩) trivial)))))) ?_
     obtain ⟨v31, h32, H⟩ := oB H
     refine so [.res (cI v31)] [] [(1, pk 1), (4, pk 4), (5, cB v7.2), (7, pk 7), (8, cB v11.2), (9, cI v31)] [(1, va (eTBoard p0)), (4, va (eTMemory v7.1)), (7, .var [.own 1002 1 0 v11.1.Turns.length, .own 1003 1 0 v11.1.Counts.length] false), (1002, ar 1 eI zI v11.1.Turns), (1003, ar 1 eI zI v11.1.Counts)] (aI ((l_markBoard_L_ok v9 1 v31 h32).up glTs)) ?_
     refine seq_in ?_
     rcases oC H with ⟨c37, H⟩ | ⟨c37, H⟩
     ·refine sn (rg 9 true []) [] [(61, cB true)] [] [] (fun t => aG 5 c37 (aG 4 rT (t))) ?_
      refine it rT ?_
      refine so [] [] [(2, cB false)] [] id ?_
      refine ends_ret ?_
      cases H
     ·obtain ⟨v38, h39, H⟩ := oB H
      rcases oC H with ⟨c40, H⟩ | ⟨c40, H⟩
      ·refine sn (rg 3 false ([.res (cB v38)] ++ rg 2 false (rg 4 true []))) [] [(61, cB true)] [] [] (fun t => aG 3 c37 (aI (Nat.le_refl v11.1.Turns.length) (aI (Nat.le_refl v11.1.Counts.length) (aI ((l_eqMemory_ok v11.1 v7.1 v38 h39).up glTs) (aG 2 c37 (aG 4 c40 (t))))))) ?_
       refine it rT ?_
       refine so [] [] [(2, cB false)] [] id ?_
       refine ends_ret ?_
       cases H
      ·refine sn (rg 3 false ([.res (cB v38)] ++ rg 6 false [])) [] [(61, cB (!(v11.2 == v7.2)))] [] [] (fun t => aG 3 c37 (aI (Nat.le_refl v11.1.Turns.length) (aI (Nat.le_refl v11.1.Counts.length) (aI ((l_eqMemory_ok v11.1 v7.1 v38 h39).up glTs) (aG 2 c37 (aG 4 c40 (t))))))) ?_
       refine jf c20 ?_
       refine sk ?_
       refine sn [] [] [(10, cI 1)] [] [] id ?_
       obtain ⟨v41, h42, H⟩ := oB H
       obtain ⟨g43, H⟩ := oI H
       obtain ⟨g44, H⟩ := oI H
       refine so [.mu [(1002, 1000000), (1003, 1000001)] [(1000000, 1002), (1000001, 1003)] (cI v41.1) [(1000000, ar 1 eI zI v41.2.Turns), (1000001, ar 1 eI zI v41.2.Counts)]] [.agg 62 [.own 1002 1 0 v41.2.Turns.length, .own 1003 1 0 v41.2.Counts.length], .relc 7 0 v41.2.Turns.length, .relc 7 1 v41.2.Counts.length] [(1, pk 1), (4, pk 4), (5, cB v7.2), (7, pk 7), (10, cI v41.1)] [(1, va (eTBoard p0)), (4, va (eTMemory v7.1)), (7, .var [.own 1002 1 0 v41.2.Turns.length, .own 1003 1 0 v41.2.Counts.length] false), (1002, ar 1 eI zI v41.2.Turns), (1003, ar 1 eI zI v41.2.Counts)] (fun t => aI ((l_markMemory_Mod_ok v11.1 1 v41 h42).up glTs) (aI (by rw [← g43, ← g44] : AV.agg [.own 1002 1 0 v11.1.Turns.length, .own 1003 1 0 v11.1.Counts.length] = AV.agg [.own 1002 1 0 v41.2.Turns.length, .own 1003 1 0 v41.2.Counts.length]) (aI (Eq.symm g43) (aI (Eq.symm g44) (t))))) ?_
       refine sn [] [] [(11, cI 1)] [] [] id ?_
       obtain ⟨v45, h46, H⟩ := oB H
       refine so [.res (cI v45)] [] [(1, pk 1), (4, pk 4), (5, cB v7.2), (7, pk 7), (10, cI v41.1), (11, cI v45)] [(1, va (eTBoard p0)), (4, va (eTMemory v7.1)), (7, .var [.own 1002 1 0 v41.2.Turns.length, .own 1003 1 0 v41.2.Counts.length] false), (1002, ar 1 eI zI v41.2.Turns), (1003, ar 1 eI zI v41.2.Counts)] (fun t => aI (Nat.le_refl v41.2.Turns.length) (aI (Nat.le_refl v41.2.Counts.length) (aI ((l_heldMemory_ok v41.2 1 v45 h46).up glTs) (t)))) ?_
       refine seq_in ?_
       refine sn [] [] [(69, cB (decide (v45 < 0)))] [] [] id ?_
       rcases oC H with ⟨c48, H⟩ | ⟨c48, H⟩
       ·refine it c48 ?_
        refine so [] [] [(2, cB false)] [] id ?_
        refine ends_ret ?_
        cases H
       ·refine jf c48 ?_
        refine sk ?_
        refine seq_in ?_
        refine sn [] [] [(72, cB (v45 != v41.1))] [] [] id ?_
        rcases oC H with ⟨c50, H⟩ | ⟨c50, H⟩
        ·refine it c50 ?_
         refine so [] [] [(2, cB false)] [] id ?_
         refine ends_ret ?_
         cases H
        ·refine jf c50 ?_
         refine sk ?_
         obtain ⟨v51, h52, H⟩ := oB H
         obtain ⟨v53, h54, H⟩ := oB H
         refine sn [.res (.agg (rTBoard v51)), .res (.tup [(true, [dat 1 eI zI v53.1.Turns, dat 1 eI zI v53.1.Counts]), (false, [.bool v53.2])])] [] [(12, pk 12), (13, cB v53.2)] [] [(12, va (eTMemory v53.1))] (fun t => aI ((l_toBoard_F_ok p0 v51 h52).up glTs) (aI ((FnOk.le2 (xs := [.agg (rTBoard v51)]) (i_NewMemory_ok v51 v53 h54) ⟨LeD.agg (And.intro (LeC.fr _) (And.intro (LeC.fr _) (And.intro (LeC.refl _) (And.intro (LeC.refl _) (And.intro (LeC.refl _) (And.intro (LeC.refl _) (And.intro (LeC.refl _) (And.intro (LeC.refl _) (And.intro (LeC.refl _) (And.intro (LeC.fr _) (And.intro (LeC.fr _) (And.intro (LeC.fr _) (trivial))))))))))))), trivial⟩).up glTs) (t))) ?_
         refine seq_in ?_
         obtain ⟨v59, h60, H⟩ := oB H
         rcases oC H with ⟨c61, H⟩ | ⟨c61, H⟩
         ·refine sn ([.res (cB v59)] ++ rg 4 true []) [] [(87, cB true)] [1] [] (fun t => aI ((l_eqMemory_ok v53.1 v7.1 v59 h60).up glTs) (aG 4 c61 (t))) ?_
          refine it rT ?_
          refine so [] [] [(2, cB false)] [] id ?_
          refine ends_ret ?_
          cases H
         ·refine sn ([.res (cB v59)] ++ rg 4 false []) [] [(87, cB (!(v53.2 == v7.2)))] [1] [] (fun t => aI ((l_eqMemory_ok v53.1 v7.1 v59 h60).up glTs) (aG 4 c61 (t))) ?_
          rcases oC H with ⟨c62, H⟩ | ⟨c62, H⟩
          ·refine it c62 ?_
           refine so [] [] [(2, cB false)] [] id ?_
           refine ends_ret ?_
           cases H
          ·refine jf c62 ?_
           refine sk ?_
           refine so [] [] [(7, pk 7), (10, cI v41.1), (11, cI 1)] [(7, .var [.own 1002 1 0 v41.2.Turns.length, .own 1003 1 0 v41.2.Counts.length] false), (1002, ar 1 eI zI v41.2.Turns), (1003, ar 1 eI zI v41.2.Counts)] id ?_
           obtain ⟨v63, h64, H⟩ := oB H
           refine so [.res (cI v63)] [] [(10, cI v41.1), (11, cI v63)] [] (fun t => aI (Nat.le_refl v41.2.Turns.length) (aI (Nat.le_refl v41.2.Counts.length) (aI ((l_heldMemory_ok v41.2 1 v63 h64).up glTs) (t)))) ?_
           refine seq_in ?_
           refine sn [] [] [(92, cB (decide (v63 < 0)))] [] [] id ?_
           rcases oC H with ⟨c66, H⟩ | ⟨c66, H⟩
           ·refine it c66 ?_
            refine so [] [] [(2, cB false)] [] id ?_
            refine ends_ret ?_
            cases H
           ·refine jf c66 ?_
            refine sk ?_
            refine seq_in ?_
            refine so [] [] [(95, cB (v63 != v41.1))] [] id ?_
            rcases oC H with ⟨c67, H⟩ | ⟨c67, H⟩
            ·refine it c67 ?_
             refine so [] [] [(2, cB false)] [] id ?_
             refine ends_ret ?_
             cases H
            ·refine jf c67 ?_
             refine sk ?_
             refine so [] [] [(2, cB true)] [] id ?_
             refine ends_ret ?_
             exact qr
end Go.Proofs.YtjlabdoeiphegaaDoor.X0
