/- What each Go function that FnExactAreReactions reaches computes, and that it returns so; no condition. -/
import Derived.Test.YtfpafaampjgckaaDoorARWb
set_option linter.unusedVariables false
set_option linter.unusedSimpArgs false
set_option maxRecDepth 100000
namespace Go.Proofs.YtfpafaampjgckaaDoor.X0
open Go Go.RowKit Go.Proofs.YtfpafaampjgckaaDoor.Ab Go.Proofs

def l_FnExactAreReactions_ir : S :=
 (.seq (.ops [⟨some 3, .box 12 (.t 0), none⟩, ⟨some 4, .box 3 (.t 1), none⟩, ⟨some 6, .mv (.v (.bool false)), none⟩])
 (.seq (.ops [⟨some 7, .mv (.v (.int .i64 1048576)), none⟩])
 (.seq (.ops [⟨some 15, .load 12 true (.t 3), none⟩, ⟨some 16, .mv (.t 7), none⟩, ⟨some 17, .call 14 [.t 15, .t 16], none⟩, ⟨some 7, .mv (.t 17), none⟩])
 (.seq (.seq (.ops [⟨some 18, .mv (.t 7), none⟩, ⟨some 19, .bin .lss (.t 18) (.v (.int .i64 0)), none⟩])
 (.ite (.t 19) (.seq (.ops [⟨some 6, .mv (.v (.bool true)), none⟩])
  .ret)
 .skip))
 (.seq (.ops [⟨some 20, .load 3 true (.t 4), none⟩, ⟨some 21, .mv (.t 7), none⟩, ⟨some 22, .call 41 [.t 20, .t 21], none⟩, ⟨some 7, .mv (.t 22), none⟩])
 (.seq (.seq (.ops [⟨some 23, .mv (.t 7), none⟩, ⟨some 24, .bin .lss (.t 23) (.v (.int .i64 0)), none⟩])
 (.ite (.t 24) (.seq (.ops [⟨some 6, .mv (.v (.bool true)), none⟩])
  .ret)
 .skip))
 (.seq (.ops [⟨some 25, .mv (.t 2), none⟩, ⟨some 26, .mv (.t 7), none⟩, ⟨some 27, .call 56 [.t 25, .t 26], none⟩, ⟨some 7, .mv (.t 27), none⟩])
 (.seq (.seq (.ops [⟨some 28, .mv (.t 7), none⟩, ⟨some 29, .bin .lss (.t 28) (.v (.int .i64 0)), none⟩])
 (.ite (.t 29) (.seq (.ops [⟨some 6, .mv (.v (.bool true)), none⟩])
  .ret)
 .skip))
 (.seq (.draw 12 [⟨some 31, .load 12 true (.t 3), none⟩, ⟨some 32, .call 17 [.t 31], none⟩, ⟨some 33, .load 3 true (.t 4), none⟩, ⟨some 34, .call 43 [.t 33], none⟩, ⟨some 35, .mv (.t 2), none⟩, ⟨some 36, .call 58 [.t 35], none⟩, ⟨some 37, .call 57 [.t 32, .t 34, .t 36], none⟩, ⟨some 30, .mv (.t 37), none⟩, ⟨some 38, .ext (.t 30) 0, none⟩, ⟨some 39, .ext (.t 30) 1, none⟩, ⟨some 8, .mv (.t 38), none⟩, ⟨some 9, .mv (.t 39), none⟩])
 (.seq (.ops [⟨some 40, .load 12 true (.t 3), none⟩, ⟨some 41, .call 17 [.t 40], none⟩, ⟨some 10, .alloc [.nil, .nil, .int .i64 0, .int .i64 0, .int .i64 0, .int .i64 0, .int .i64 0, .int .i64 0, .int .i64 0, .nil, .nil, .nil], none⟩, ⟨none, .store 12 (.t 10) (.t 41), none⟩])
 (.seq (.ops [⟨some 42, .load 3 true (.t 4), none⟩, ⟨some 43, .call 43 [.t 42], none⟩, ⟨some 11, .alloc [.int .i64 0, .int .i64 0, .nil], none⟩, ⟨none, .store 3 (.t 11) (.t 43), none⟩])
 (.seq (.ops [⟨some 44, .mv (.t 2), none⟩, ⟨some 45, .call 58 [.t 44], none⟩, ⟨some 12, .mv (.t 45), none⟩])
 (.seq (.ops [⟨some 47, .load 12 true (.t 10), none⟩, ⟨some 48, .load 3 true (.t 11), none⟩, ⟨some 49, .mv (.t 12), none⟩, ⟨some 50, .call 59 [.t 47, .t 48, .t 49], none⟩, ⟨some 46, .mv (.t 50), none⟩, ⟨some 51, .ext (.t 46) 0, none⟩, ⟨some 52, .ext (.t 46) 1, none⟩, ⟨some 13, .mv (.t 51), none⟩, ⟨some 14, .mv (.t 52), none⟩])
 (.seq (.seq (.ops [⟨some 53, .mv (.t 13), none⟩, ⟨some 54, .mv (.t 8), none⟩, ⟨some 55, .bqe true (.t 53) (.t 54), none⟩, ⟨some 56, .mv (.t 55), none⟩, ⟨some 57, .mv (.t 14), some (56, false)⟩, ⟨some 58, .mv (.t 9), some (56, false)⟩, ⟨some 59, .bqe true (.t 57) (.t 58), some (56, false)⟩, ⟨some 60, .pick (.t 56) (.v (.bool true)) (.t 59), none⟩])
 (.ite (.t 60) (.seq (.ops [⟨some 6, .mv (.v (.bool false)), none⟩])
  .ret)
 .skip))
 (.seq (.seq (.draw 5 [⟨some 61, .load 12 true (.t 10), none⟩, ⟨some 62, .load 12 true (.t 3), none⟩, ⟨some 63, .call 17 [.t 62], none⟩, ⟨some 64, .call 20 [.t 61, .t 63], none⟩, ⟨some 65, .not (.t 64), none⟩])
 (.ite (.t 65) (.seq (.ops [⟨some 6, .mv (.v (.bool false)), none⟩])
  .ret)
 .skip))
 (.seq (.seq (.draw 5 [⟨some 66, .load 3 true (.t 11), none⟩, ⟨some 67, .load 3 true (.t 4), none⟩, ⟨some 68, .call 43 [.t 67], none⟩, ⟨some 69, .call 45 [.t 66, .t 68], none⟩, ⟨some 70, .not (.t 69), none⟩])
 (.ite (.t 70) (.seq (.ops [⟨some 6, .mv (.v (.bool false)), none⟩])
  .ret)
 .skip))
 (.seq (.seq (.ops [⟨some 71, .mv (.t 12), none⟩, ⟨some 72, .mv (.t 2), none⟩, ⟨some 73, .call 58 [.t 72], none⟩, ⟨some 74, .call 60 [.t 71, .t 73], none⟩, ⟨some 75, .not (.t 74), none⟩])
 (.ite (.t 75) (.seq (.ops [⟨some 6, .mv (.v (.bool false)), none⟩])
  .ret)
 .skip))
 (.seq (.ops [⟨some 6, .mv (.v (.bool true)), none⟩])
 .ret))))))))))))))))))
noncomputable def X.l_FnExactAreReactions (p0 : TBoard) (p1 : TState) (p2 : (List TReaction)) : Option Bool :=
  ((X.l_szBoard p0 1048576).bind fun v1 => (bif (decide (v1 < 0)) then some true else ((X.l_szState p1 v1).bind fun v5 => (bif (decide (v5 < 0)) then some true else ((X.l_szReactionS p2 v5).bind fun v9 => (bif (decide (v9 < 0)) then some true else ((X.l_toBoard p0).bind fun v13 => ((X.l_toState p1).bind fun v15 => ((X.l_toReactionS p2).bind fun v17 => ((X.s_AreReactions v13 v15 v17).bind fun v19 => ((X.l_toBoard p0).bind fun v21 => ((X.l_toState p1).bind fun v23 => ((X.l_toReactionS p2).bind fun v25 => ((X.i_AreReactions v21 v23 v25).bind fun v27 => (bif (!(v27.1 == v19.1)) then some false else (bif (!(v27.2 == v19.2)) then some false else ((X.l_toBoard p0).bind fun v38 => ((X.l_eqBoard v21 v38).bind fun v40 => (bif (!v40) then some false else ((X.l_toState p1).bind fun v48 => ((X.l_eqState v23 v48).bind fun v50 => (bif (!v50) then some false else ((X.l_toReactionS p2).bind fun v53 => ((X.l_eqReactionS v25 v53).bind fun v55 => (bif (!v55) then some false else some true)))))))))))))))))))))))))
theorem l_FnExactAreReactions_ok (p0 : TBoard) (p1 : TState) (p2 : (List TReaction)) (r : Bool) (H : X.l_FnExactAreReactions p0 p1 p2 = some r) : FnOk Tryd.prog gl 13 [.agg (eTBoard p0), .agg (eTState p1), .c (dat 3 eTReaction zTReaction p2)] (cB r) := by
  unfold X.l_FnExactAreReactions at H
  refine fn_in (fn := Tryd.f13) (ir := l_FnExactAreReactions_ir) (s1 := lit [(6, cB r)] []) Tryd.func13 (by kernel_rfl) (by kernel_rfl) (by kernel_rfl) (by kernel_rfl) (by kernel_rfl) ?_
  refine seq_ops [] [] [(2, .c (dat 3 eTReaction zTReaction p2)), (3, .c (.pk 3 0)), (4, .c (.pk 4 0))] [(3, .var (eTBoard p0) false), (4, .var (eTState p1) false)] (fun t => t) (by kernel_rfl) ?_
  refine seq_ops [] [] [(2, .c (dat 3 eTReaction zTReaction p2)), (3, .c (.pk 3 0)), (4, .c (.pk 4 0)), (7, cI 1048576)] [(3, .var (eTBoard p0) false), (4, .var (eTState p1) false)] (fun t => t) (by kernel_rfl) ?_
  obtain ⟨v1, h2, H⟩ := ofBind H
  refine seq_ops [.res (cI v1)] [] [(2, .c (dat 3 eTReaction zTReaction p2)), (3, .c (.pk 3 0)), (4, .c (.pk 4 0)), (7, cI v1)] [(3, .var (eTBoard p0) false), (4, .var (eTState p1) false)] (fun t => aI (l_szBoard_ok p0 1048576 v1 h2) (t)) (by kernel_rfl) ?_
  refine seq_in ?_
  refine seq_ops [] [] [(2, .c (dat 3 eTReaction zTReaction p2)), (3, .c (.pk 3 0)), (4, .c (.pk 4 0)), (7, cI v1), (19, cB (decide (v1 < 0)))] [(3, .var (eTBoard p0) false), (4, .var (eTState p1) false)] (fun t => t) (by kernel_rfl) ?_
  rcases ofCond H with ⟨c4, H⟩ | ⟨c4, H⟩
  · refine ite_t c4 (by kernel_rfl) ?_
    refine seq_ops [] [] [(6, cB true)] [] (fun t => t) (by kernel_rfl) ?_
    refine ends_ret ?_
    obtain rfl := Option.some.inj H
    exact And.intro (.inl rfl) rfl
  · refine ite_f c4 (by kernel_rfl) ?_
    refine ends_skip ?_
    change EndsI _ _ _ _ _ _
    obtain ⟨v5, h6, H⟩ := ofBind H
    refine seq_ops [.res (cI v5)] [] [(2, .c (dat 3 eTReaction zTReaction p2)), (3, .c (.pk 3 0)), (4, .c (.pk 4 0)), (7, cI v5)] [(3, .var (eTBoard p0) false), (4, .var (eTState p1) false)] (fun t => aI (l_szState_ok p1 v1 v5 h6) (t)) (by kernel_rfl) ?_
    refine seq_in ?_
    refine seq_ops [] [] [(2, .c (dat 3 eTReaction zTReaction p2)), (3, .c (.pk 3 0)), (4, .c (.pk 4 0)), (7, cI v5), (24, cB (decide (v5 < 0)))] [(3, .var (eTBoard p0) false), (4, .var (eTState p1) false)] (fun t => t) (by kernel_rfl) ?_
    rcases ofCond H with ⟨c8, H⟩ | ⟨c8, H⟩
    · refine ite_t c8 (by kernel_rfl) ?_
      refine seq_ops [] [] [(6, cB true)] [] (fun t => t) (by kernel_rfl) ?_
      refine ends_ret ?_
      obtain rfl := Option.some.inj H
      exact And.intro (.inl rfl) rfl
    · refine ite_f c8 (by kernel_rfl) ?_
      refine ends_skip ?_
      change EndsI _ _ _ _ _ _
      obtain ⟨v9, h10, H⟩ := ofBind H
      refine seq_ops [.res (cI v9)] [] [(2, .c (dat 3 eTReaction zTReaction p2)), (3, .c (.pk 3 0)), (4, .c (.pk 4 0)), (7, cI v9)] [(3, .var (eTBoard p0) false), (4, .var (eTState p1) false)] (fun t => aI (l_szReactionS_ok p2 v5 v9 h10) (t)) (by kernel_rfl) ?_
      refine seq_in ?_
      refine seq_ops [] [] [(2, .c (dat 3 eTReaction zTReaction p2)), (3, .c (.pk 3 0)), (4, .c (.pk 4 0)), (29, cB (decide (v9 < 0)))] [(3, .var (eTBoard p0) false), (4, .var (eTState p1) false)] (fun t => t) (by kernel_rfl) ?_
      rcases ofCond H with ⟨c12, H⟩ | ⟨c12, H⟩
      · refine ite_t c12 (by kernel_rfl) ?_
        refine seq_ops [] [] [(6, cB true)] [] (fun t => t) (by kernel_rfl) ?_
        refine ends_ret ?_
        obtain rfl := Option.some.inj H
        exact And.intro (.inl rfl) rfl
      · refine ite_f c12 (by kernel_rfl) ?_
        refine ends_skip ?_
        change EndsI _ _ _ _ _ _
        obtain ⟨v13, h14, H⟩ := ofBind H
        obtain ⟨v15, h16, H⟩ := ofBind H
        obtain ⟨v17, h18, H⟩ := ofBind H
        obtain ⟨v19, h20, H⟩ := ofBind H
        refine seq_draw [.res (.agg (eTBoard v13)), .res (.agg (eTState v15)), .res (.c (dat 3 eTReaction zTReaction v17)), .res (.tup [(false, [.bool v19.1]), (false, [.bool v19.2])])] [] [(2, .c (dat 3 eTReaction zTReaction p2)), (3, .c (.pk 3 0)), (4, .c (.pk 4 0)), (8, cB v19.1), (9, cB v19.2)] [(3, .var (eTBoard p0) false), (4, .var (eTState p1) false)] (fun t => aI (l_toBoard_ok p0 v13 h14) (aI (rfl : ([] : List Nat) = []) (aI (rfl : ([] : List Nat) = []) (aI (l_toState_ok p1 v15 h16) (aI (rfl : ([] : List Nat) = []) (aI (rfl : ([] : List Nat) = []) (aI (l_toReactionS_ok p2 v17 h18) (aI (rfl : ([] : List Nat) = []) (aI (rfl : ([] : List Nat) = []) (aI (s_AreReactions_ok v13 v15 v17 v19 h20) (aI trivial (aI (rfl : ([] : List Nat) = []) (t))))))))))))) (by kernel_rfl) ?_
        obtain ⟨v21, h22, H⟩ := ofBind H
        refine seq_ops [.res (.agg (eTBoard v21))] [] [(2, .c (dat 3 eTReaction zTReaction p2)), (3, .c (.pk 3 0)), (4, .c (.pk 4 0)), (8, cB v19.1), (9, cB v19.2), (10, .c (.pk 10 0))] [(3, .var (eTBoard p0) false), (4, .var (eTState p1) false), (10, .var (eTBoard v21) false)] (fun t => aI (l_toBoard_ok p0 v21 h22) (t)) (by kernel_rfl) ?_
        obtain ⟨v23, h24, H⟩ := ofBind H
        refine seq_ops [.res (.agg (eTState v23))] [] [(2, .c (dat 3 eTReaction zTReaction p2)), (3, .c (.pk 3 0)), (4, .c (.pk 4 0)), (8, cB v19.1), (9, cB v19.2), (10, .c (.pk 10 0)), (11, .c (.pk 11 0))] [(3, .var (eTBoard p0) false), (4, .var (eTState p1) false), (10, .var (eTBoard v21) false), (11, .var (eTState v23) false)] (fun t => aI (l_toState_ok p1 v23 h24) (t)) (by kernel_rfl) ?_
        obtain ⟨v25, h26, H⟩ := ofBind H
        refine seq_ops [.res (.c (dat 3 eTReaction zTReaction v25))] [] [(2, .c (dat 3 eTReaction zTReaction p2)), (3, .c (.pk 3 0)), (4, .c (.pk 4 0)), (8, cB v19.1), (9, cB v19.2), (10, .c (.pk 10 0)), (11, .c (.pk 11 0)), (12, .c (dat 3 eTReaction zTReaction v25))] [(3, .var (eTBoard p0) false), (4, .var (eTState p1) false), (10, .var (eTBoard v21) false), (11, .var (eTState v23) false)] (fun t => aI (l_toReactionS_ok p2 v25 h26) (t)) (by kernel_rfl) ?_
        obtain ⟨v27, h28, H⟩ := ofBind H
        refine seq_ops [.res (.tup [(false, [.bool v27.1]), (false, [.bool v27.2])])] [] [(2, .c (dat 3 eTReaction zTReaction p2)), (3, .c (.pk 3 0)), (4, .c (.pk 4 0)), (8, cB v19.1), (9, cB v19.2), (10, .c (.pk 10 0)), (11, .c (.pk 11 0)), (12, .c (dat 3 eTReaction zTReaction v25)), (13, cB v27.1), (14, cB v27.2)] [(3, .var (eTBoard p0) false), (4, .var (eTState p1) false), (10, .var (eTBoard v21) false), (11, .var (eTState v23) false)] (fun t => aI (i_AreReactions_ok v21 v23 v25 v27 h28) (t)) (by kernel_rfl) ?_
        refine seq_in ?_
        rcases ofCond H with ⟨c31, H⟩ | ⟨c31, H⟩
        · refine seq_ops [.g true, .g true, .g true, .g true] [] [(2, .c (dat 3 eTReaction zTReaction p2)), (3, .c (.pk 3 0)), (4, .c (.pk 4 0)), (10, .c (.pk 10 0)), (11, .c (.pk 11 0)), (12, .c (dat 3 eTReaction zTReaction v25)), (60, cB true)] [(3, .var (eTBoard p0) false), (4, .var (eTState p1) false), (10, .var (eTBoard v21) false), (11, .var (eTState v23) false)] (fun t => aI c31 (aI c31 (aI c31 (aI c31 (t))))) (by kernel_rfl) ?_
          refine ite_t (rfl : (true : Bool) = true) (by kernel_rfl) ?_
          refine seq_ops [] [] [(6, cB false)] [] (fun t => t) (by kernel_rfl) ?_
          refine ends_ret ?_
          obtain rfl := Option.some.inj H
          exact And.intro (.inl rfl) rfl
        · refine seq_ops [.g false, .g false, .g false, .g false] [] [(2, .c (dat 3 eTReaction zTReaction p2)), (3, .c (.pk 3 0)), (4, .c (.pk 4 0)), (10, .c (.pk 10 0)), (11, .c (.pk 11 0)), (12, .c (dat 3 eTReaction zTReaction v25)), (60, cB (!(v27.2 == v19.2)))] [(3, .var (eTBoard p0) false), (4, .var (eTState p1) false), (10, .var (eTBoard v21) false), (11, .var (eTState v23) false)] (fun t => aI c31 (aI c31 (aI c31 (aI c31 (t))))) (by kernel_rfl) ?_
          rcases ofCond H with ⟨c32, H⟩ | ⟨c32, H⟩
          · refine ite_t c32 (by kernel_rfl) ?_
            refine seq_ops [] [] [(6, cB false)] [] (fun t => t) (by kernel_rfl) ?_
            refine ends_ret ?_
            obtain rfl := Option.some.inj H
            exact And.intro (.inl rfl) rfl
          · refine ite_f c32 (by kernel_rfl) ?_
            refine ends_skip ?_
            change EndsI _ _ _ _ _ _
            refine seq_in ?_
            obtain ⟨v38, h39, H⟩ := ofBind H
            obtain ⟨v40, h41, H⟩ := ofBind H
            refine seq_draw [.res (.agg (eTBoard v38)), .res (cB v40)] [] [(2, .c (dat 3 eTReaction zTReaction p2)), (4, .c (.pk 4 0)), (11, .c (.pk 11 0)), (12, .c (dat 3 eTReaction zTReaction v25)), (65, cB (!v40))] [(4, .var (eTState p1) false), (11, .var (eTState v23) false)] (fun t => aI (l_toBoard_ok p0 v38 h39) (aI (rfl : ([] : List Nat) = []) (aI (rfl : ([] : List Nat) = []) (aI (l_eqBoard_ok v21 v38 v40 h41) (aI trivial (aI (rfl : ([] : List Nat) = []) (t))))))) (by kernel_rfl) ?_
            rcases ofCond H with ⟨c42, H⟩ | ⟨c42, H⟩
            · refine ite_t c42 (by kernel_rfl) ?_
              refine seq_ops [] [] [(6, cB false)] [] (fun t => t) (by kernel_rfl) ?_
              refine ends_ret ?_
              obtain rfl := Option.some.inj H
              exact And.intro (.inl rfl) rfl
            · refine ite_f c42 (by kernel_rfl) ?_
              refine ends_skip ?_
              change EndsI _ _ _ _ _ _
              refine seq_in ?_
              obtain ⟨v48, h49, H⟩ := ofBind H
              obtain ⟨v50, h51, H⟩ := ofBind H
              refine seq_draw [.res (.agg (eTState v48)), .res (cB v50)] [] [(2, .c (dat 3 eTReaction zTReaction p2)), (12, .c (dat 3 eTReaction zTReaction v25)), (70, cB (!v50))] [] (fun t => aI (l_toState_ok p1 v48 h49) (aI (rfl : ([] : List Nat) = []) (aI (rfl : ([] : List Nat) = []) (aI (l_eqState_ok v23 v48 v50 h51) (aI trivial (aI (rfl : ([] : List Nat) = []) (t))))))) (by kernel_rfl) ?_
              rcases ofCond H with ⟨c52, H⟩ | ⟨c52, H⟩
              · refine ite_t c52 (by kernel_rfl) ?_
                refine seq_ops [] [] [(6, cB false)] [] (fun t => t) (by kernel_rfl) ?_
                refine ends_ret ?_
                obtain rfl := Option.some.inj H
                exact And.intro (.inl rfl) rfl
              · refine ite_f c52 (by kernel_rfl) ?_
                refine ends_skip ?_
                change EndsI _ _ _ _ _ _
                refine seq_in ?_
                obtain ⟨v53, h54, H⟩ := ofBind H
                obtain ⟨v55, h56, H⟩ := ofBind H
                refine seq_ops [.res (.c (dat 3 eTReaction zTReaction v53)), .res (cB v55)] [] [(75, cB (!v55))] [] (fun t => aI (l_toReactionS_ok p2 v53 h54) (aI (l_eqReactionS_ok v25 v53 v55 h56) (t))) (by kernel_rfl) ?_
                rcases ofCond H with ⟨c57, H⟩ | ⟨c57, H⟩
                · refine ite_t c57 (by kernel_rfl) ?_
                  refine seq_ops [] [] [(6, cB false)] [] (fun t => t) (by kernel_rfl) ?_
                  refine ends_ret ?_
                  obtain rfl := Option.some.inj H
                  exact And.intro (.inl rfl) rfl
                · refine ite_f c57 (by kernel_rfl) ?_
                  refine ends_skip ?_
                  change EndsI _ _ _ _ _ _
                  refine seq_ops [] [] [(6, cB true)] [] (fun t => t) (by kernel_rfl) ?_
                  refine ends_ret ?_
                  obtain rfl := Option.some.inj H
                  exact And.intro (.inl rfl) rfl

end Go.Proofs.YtfpafaampjgckaaDoor.X0
