/- What each Go function that FnExactFireTarget reaches computes, and that it returns so; no condition. -/
import Derived.Test.YtfpafaampjgckaaDoorFTWb
set_option linter.unusedVariables false
set_option linter.unusedSimpArgs false
set_option maxRecDepth 100000
namespace Go.Proofs.YtfpafaampjgckaaDoor.X0
open Go Go.RowKit Go.Proofs.YtfpafaampjgckaaDoor.Ab Go.Proofs

def l_FnExactFireTarget_ir : S :=
 (.seq (.ops [⟨some 3, .box 12 (.t 0), none⟩, ⟨some 4, .box 3 (.t 1), none⟩, ⟨some 5, .box 3 (.t 2), none⟩, ⟨some 6, .mv (.v (.bool false)), none⟩])
 (.seq (.ops [⟨some 7, .mv (.v (.int .i64 1048576)), none⟩])
 (.seq (.ops [⟨some 14, .load 12 true (.t 3), none⟩, ⟨some 15, .mv (.t 7), none⟩, ⟨some 16, .call 14 [.t 14, .t 15], none⟩, ⟨some 7, .mv (.t 16), none⟩])
 (.seq (.seq (.ops [⟨some 17, .mv (.t 7), none⟩, ⟨some 18, .bin .lss (.t 17) (.v (.int .i64 0)), none⟩])
 (.ite (.t 18) (.seq (.ops [⟨some 6, .mv (.v (.bool true)), none⟩])
  .ret)
 .skip))
 (.seq (.ops [⟨some 19, .load 3 true (.t 4), none⟩, ⟨some 20, .mv (.t 7), none⟩, ⟨some 21, .call 41 [.t 19, .t 20], none⟩, ⟨some 7, .mv (.t 21), none⟩])
 (.seq (.seq (.ops [⟨some 22, .mv (.t 7), none⟩, ⟨some 23, .bin .lss (.t 22) (.v (.int .i64 0)), none⟩])
 (.ite (.t 23) (.seq (.ops [⟨some 6, .mv (.v (.bool true)), none⟩])
  .ret)
 .skip))
 (.seq (.draw 12 [⟨some 25, .load 12 true (.t 3), none⟩, ⟨some 26, .call 17 [.t 25], none⟩, ⟨some 27, .load 3 true (.t 4), none⟩, ⟨some 28, .call 43 [.t 27], none⟩, ⟨some 29, .load 3 true (.t 5), none⟩, ⟨some 30, .call 54 [.t 29], none⟩, ⟨some 31, .call 53 [.t 26, .t 28, .t 30], none⟩, ⟨some 24, .mv (.t 31), none⟩, ⟨some 32, .ext (.t 24) 0, none⟩, ⟨some 33, .ext (.t 24) 1, none⟩, ⟨some 8, .mv (.t 32), none⟩, ⟨some 9, .mv (.t 33), none⟩])
 (.seq (.ops [⟨some 34, .load 12 true (.t 3), none⟩, ⟨some 35, .call 17 [.t 34], none⟩, ⟨some 10, .alloc [.nil, .nil, .int .i64 0, .int .i64 0, .int .i64 0, .int .i64 0, .int .i64 0, .int .i64 0, .int .i64 0, .nil, .nil, .nil], none⟩, ⟨none, .store 12 (.t 10) (.t 35), none⟩])
 (.seq (.ops [⟨some 36, .load 3 true (.t 4), none⟩, ⟨some 37, .call 43 [.t 36], none⟩, ⟨some 11, .alloc [.int .i64 0, .int .i64 0, .nil], none⟩, ⟨none, .store 3 (.t 11) (.t 37), none⟩])
 (.seq (.draw 10 [⟨some 39, .load 12 true (.t 10), none⟩, ⟨some 40, .load 3 true (.t 11), none⟩, ⟨some 41, .load 3 true (.t 5), none⟩, ⟨some 42, .call 54 [.t 41], none⟩, ⟨some 43, .call 55 [.t 39, .t 40, .t 42], none⟩, ⟨some 38, .mv (.t 43), none⟩, ⟨some 44, .ext (.t 38) 0, none⟩, ⟨some 45, .ext (.t 38) 1, none⟩, ⟨some 12, .mv (.t 44), none⟩, ⟨some 13, .mv (.t 45), none⟩])
 (.seq (.seq (.ops [⟨some 46, .mv (.t 12), none⟩, ⟨some 47, .mv (.t 8), none⟩, ⟨some 48, .bin .neq (.t 46) (.t 47), none⟩, ⟨some 49, .mv (.t 48), none⟩, ⟨some 50, .mv (.t 13), some (49, false)⟩, ⟨some 51, .mv (.t 9), some (49, false)⟩, ⟨some 52, .bqe true (.t 50) (.t 51), some (49, false)⟩, ⟨some 53, .pick (.t 49) (.v (.bool true)) (.t 52), none⟩])
 (.ite (.t 53) (.seq (.ops [⟨some 6, .mv (.v (.bool false)), none⟩])
  .ret)
 .skip))
 (.seq (.seq (.draw 5 [⟨some 54, .load 12 true (.t 10), none⟩, ⟨some 55, .load 12 true (.t 3), none⟩, ⟨some 56, .call 17 [.t 55], none⟩, ⟨some 57, .call 20 [.t 54, .t 56], none⟩, ⟨some 58, .not (.t 57), none⟩])
 (.ite (.t 58) (.seq (.ops [⟨some 6, .mv (.v (.bool false)), none⟩])
  .ret)
 .skip))
 (.seq (.seq (.draw 5 [⟨some 59, .load 3 true (.t 11), none⟩, ⟨some 60, .load 3 true (.t 4), none⟩, ⟨some 61, .call 43 [.t 60], none⟩, ⟨some 62, .call 45 [.t 59, .t 61], none⟩, ⟨some 63, .not (.t 62), none⟩])
 (.ite (.t 63) (.seq (.ops [⟨some 6, .mv (.v (.bool false)), none⟩])
  .ret)
 .skip))
 (.seq (.ops [⟨some 6, .mv (.v (.bool true)), none⟩])
 .ret))))))))))))))
noncomputable def X.l_FnExactFireTarget (p0 : TBoard) (p1 : TState) (p2 : TFrame) : Option Bool :=
  ((X.l_szBoard p0 1048576).bind fun v1 => (bif (decide (v1 < 0)) then some true else ((X.l_szState p1 v1).bind fun v5 => (bif (decide (v5 < 0)) then some true else ((X.l_toBoard p0).bind fun v9 => ((X.l_toState p1).bind fun v11 => ((X.l_toFrame p2).bind fun v13 => ((X.s_FireTarget v9 v11 v13).bind fun v15 => ((X.l_toBoard p0).bind fun v17 => ((X.l_toState p1).bind fun v19 => ((X.l_toFrame p2).bind fun v21 => ((X.i_FireTarget v17 v19 v21).bind fun v23 => (bif (v23.1 != v15.1) then some false else (bif (!(v23.2 == v15.2)) then some false else ((X.l_toBoard p0).bind fun v34 => ((X.l_eqBoard v17 v34).bind fun v36 => (bif (!v36) then some false else ((X.l_toState p1).bind fun v39 => ((X.l_eqState v19 v39).bind fun v41 => (bif (!v41) then some false else some true))))))))))))))))))))
theorem l_FnExactFireTarget_ok (p0 : TBoard) (p1 : TState) (p2 : TFrame) (r : Bool) (H : X.l_FnExactFireTarget p0 p1 p2 = some r) : FnOk Tryd.prog gl 12 [.agg (eTBoard p0), .agg (eTState p1), .agg (eTFrame p2)] (cB r) := by
  unfold X.l_FnExactFireTarget at H
  refine fn_in (fn := Tryd.f12) (ir := l_FnExactFireTarget_ir) (s1 := lit [(6, cB r)] []) Tryd.func12 (by kernel_rfl) (by kernel_rfl) (by kernel_rfl) (by kernel_rfl) (by kernel_rfl) ?_
  refine seq_ops [] [] [(3, .c (.pk 3 0)), (4, .c (.pk 4 0)), (5, .c (.pk 5 0))] [(3, .var (eTBoard p0) false), (4, .var (eTState p1) false), (5, .var (eTFrame p2) false)] (fun t => t) (by kernel_rfl) ?_
  refine seq_ops [] [] [(3, .c (.pk 3 0)), (4, .c (.pk 4 0)), (5, .c (.pk 5 0)), (7, cI 1048576)] [(3, .var (eTBoard p0) false), (4, .var (eTState p1) false), (5, .var (eTFrame p2) false)] (fun t => t) (by kernel_rfl) ?_
  obtain ⟨v1, h2, H⟩ := ofBind H
  refine seq_ops [.res (cI v1)] [] [(3, .c (.pk 3 0)), (4, .c (.pk 4 0)), (5, .c (.pk 5 0)), (7, cI v1)] [(3, .var (eTBoard p0) false), (4, .var (eTState p1) false), (5, .var (eTFrame p2) false)] (fun t => aI (l_szBoard_ok p0 1048576 v1 h2) (t)) (by kernel_rfl) ?_
  refine seq_in ?_
  refine seq_ops [] [] [(3, .c (.pk 3 0)), (4, .c (.pk 4 0)), (5, .c (.pk 5 0)), (7, cI v1), (18, cB (decide (v1 < 0)))] [(3, .var (eTBoard p0) false), (4, .var (eTState p1) false), (5, .var (eTFrame p2) false)] (fun t => t) (by kernel_rfl) ?_
  rcases ofCond H with ⟨c4, H⟩ | ⟨c4, H⟩
  · refine ite_t c4 (by kernel_rfl) ?_
    refine seq_ops [] [] [(6, cB true)] [] (fun t => t) (by kernel_rfl) ?_
    refine ends_ret ?_
    obtain rfl := Option.some.inj H
    exact And.intro (.inl rfl) rfl
  · refine ite_f c4 (by kernel_rfl) ?_
    refine ends_skip ?_
    change EndsI _ _ _ _ _ _
    obtain ⟨v5, h6, H⟩ := ofBind H
    refine seq_ops [.res (cI v5)] [] [(3, .c (.pk 3 0)), (4, .c (.pk 4 0)), (5, .c (.pk 5 0)), (7, cI v5)] [(3, .var (eTBoard p0) false), (4, .var (eTState p1) false), (5, .var (eTFrame p2) false)] (fun t => aI (l_szState_ok p1 v1 v5 h6) (t)) (by kernel_rfl) ?_
    refine seq_in ?_
    refine seq_ops [] [] [(3, .c (.pk 3 0)), (4, .c (.pk 4 0)), (5, .c (.pk 5 0)), (23, cB (decide (v5 < 0)))] [(3, .var (eTBoard p0) false), (4, .var (eTState p1) false), (5, .var (eTFrame p2) false)] (fun t => t) (by kernel_rfl) ?_
    rcases ofCond H with ⟨c8, H⟩ | ⟨c8, H⟩
    · refine ite_t c8 (by kernel_rfl) ?_
      refine seq_ops [] [] [(6, cB true)] [] (fun t => t) (by kernel_rfl) ?_
      refine ends_ret ?_
      obtain rfl := Option.some.inj H
      exact And.intro (.inl rfl) rfl
    · refine ite_f c8 (by kernel_rfl) ?_
      refine ends_skip ?_
      change EndsI _ _ _ _ _ _
      obtain ⟨v9, h10, H⟩ := ofBind H
      obtain ⟨v11, h12, H⟩ := ofBind H
      obtain ⟨v13, h14, H⟩ := ofBind H
      obtain ⟨v15, h16, H⟩ := ofBind H
      refine seq_draw [.res (.agg (eTBoard v9)), .res (.agg (eTState v11)), .res (.agg (eTFrame v13)), .res (.tup [(false, [.int .i64 v15.1]), (false, [.bool v15.2])])] [] [(3, .c (.pk 3 0)), (4, .c (.pk 4 0)), (5, .c (.pk 5 0)), (8, cI v15.1), (9, cB v15.2)] [(3, .var (eTBoard p0) false), (4, .var (eTState p1) false), (5, .var (eTFrame p2) false)] (fun t => aI (l_toBoard_ok p0 v9 h10) (aI (rfl : ([] : List Nat) = []) (aI (rfl : ([] : List Nat) = []) (aI (l_toState_ok p1 v11 h12) (aI (rfl : ([] : List Nat) = []) (aI (rfl : ([] : List Nat) = []) (aI (l_toFrame_ok p2 v13 h14) (aI trivial (aI (rfl : ([] : List Nat) = []) (aI (s_FireTarget_ok v9 v11 v13 v15 h16) (aI trivial (aI (rfl : ([] : List Nat) = []) (t))))))))))))) (by kernel_rfl) ?_
      obtain ⟨v17, h18, H⟩ := ofBind H
      refine seq_ops [.res (.agg (eTBoard v17))] [] [(3, .c (.pk 3 0)), (4, .c (.pk 4 0)), (5, .c (.pk 5 0)), (8, cI v15.1), (9, cB v15.2), (10, .c (.pk 10 0))] [(3, .var (eTBoard p0) false), (4, .var (eTState p1) false), (5, .var (eTFrame p2) false), (10, .var (eTBoard v17) false)] (fun t => aI (l_toBoard_ok p0 v17 h18) (t)) (by kernel_rfl) ?_
      obtain ⟨v19, h20, H⟩ := ofBind H
      refine seq_ops [.res (.agg (eTState v19))] [] [(3, .c (.pk 3 0)), (4, .c (.pk 4 0)), (5, .c (.pk 5 0)), (8, cI v15.1), (9, cB v15.2), (10, .c (.pk 10 0)), (11, .c (.pk 11 0))] [(3, .var (eTBoard p0) false), (4, .var (eTState p1) false), (5, .var (eTFrame p2) false), (10, .var (eTBoard v17) false), (11, .var (eTState v19) false)] (fun t => aI (l_toState_ok p1 v19 h20) (t)) (by kernel_rfl) ?_
      obtain ⟨v21, h22, H⟩ := ofBind H
      obtain ⟨v23, h24, H⟩ := ofBind H
      refine seq_draw [.res (.agg (eTFrame v21)), .res (.tup [(false, [.int .i64 v23.1]), (false, [.bool v23.2])])] [] [(3, .c (.pk 3 0)), (4, .c (.pk 4 0)), (8, cI v15.1), (9, cB v15.2), (10, .c (.pk 10 0)), (11, .c (.pk 11 0)), (12, cI v23.1), (13, cB v23.2)] [(3, .var (eTBoard p0) false), (4, .var (eTState p1) false), (10, .var (eTBoard v17) false), (11, .var (eTState v19) false)] (fun t => aI (l_toFrame_ok p2 v21 h22) (aI trivial (aI (rfl : ([] : List Nat) = []) (aI (i_FireTarget_ok v17 v19 v21 v23 h24) (aI trivial (aI (rfl : ([] : List Nat) = []) (t))))))) (by kernel_rfl) ?_
      refine seq_in ?_
      rcases ofCond H with ⟨c27, H⟩ | ⟨c27, H⟩
      · refine seq_ops [.g true, .g true, .g true, .g true] [] [(3, .c (.pk 3 0)), (4, .c (.pk 4 0)), (10, .c (.pk 10 0)), (11, .c (.pk 11 0)), (53, cB true)] [(3, .var (eTBoard p0) false), (4, .var (eTState p1) false), (10, .var (eTBoard v17) false), (11, .var (eTState v19) false)] (fun t => aI c27 (aI c27 (aI c27 (aI c27 (t))))) (by kernel_rfl) ?_
        refine ite_t (rfl : (true : Bool) = true) (by kernel_rfl) ?_
        refine seq_ops [] [] [(6, cB false)] [] (fun t => t) (by kernel_rfl) ?_
        refine ends_ret ?_
        obtain rfl := Option.some.inj H
        exact And.intro (.inl rfl) rfl
      · refine seq_ops [.g false, .g false, .g false, .g false] [] [(3, .c (.pk 3 0)), (4, .c (.pk 4 0)), (10, .c (.pk 10 0)), (11, .c (.pk 11 0)), (53, cB (!(v23.2 == v15.2)))] [(3, .var (eTBoard p0) false), (4, .var (eTState p1) false), (10, .var (eTBoard v17) false), (11, .var (eTState v19) false)] (fun t => aI c27 (aI c27 (aI c27 (aI c27 (t))))) (by kernel_rfl) ?_
        rcases ofCond H with ⟨c28, H⟩ | ⟨c28, H⟩
        · refine ite_t c28 (by kernel_rfl) ?_
          refine seq_ops [] [] [(6, cB false)] [] (fun t => t) (by kernel_rfl) ?_
          refine ends_ret ?_
          obtain rfl := Option.some.inj H
          exact And.intro (.inl rfl) rfl
        · refine ite_f c28 (by kernel_rfl) ?_
          refine ends_skip ?_
          change EndsI _ _ _ _ _ _
          refine seq_in ?_
          obtain ⟨v34, h35, H⟩ := ofBind H
          obtain ⟨v36, h37, H⟩ := ofBind H
          refine seq_draw [.res (.agg (eTBoard v34)), .res (cB v36)] [] [(4, .c (.pk 4 0)), (11, .c (.pk 11 0)), (58, cB (!v36))] [(4, .var (eTState p1) false), (11, .var (eTState v19) false)] (fun t => aI (l_toBoard_ok p0 v34 h35) (aI (rfl : ([] : List Nat) = []) (aI (rfl : ([] : List Nat) = []) (aI (l_eqBoard_ok v17 v34 v36 h37) (aI trivial (aI (rfl : ([] : List Nat) = []) (t))))))) (by kernel_rfl) ?_
          rcases ofCond H with ⟨c38, H⟩ | ⟨c38, H⟩
          · refine ite_t c38 (by kernel_rfl) ?_
            refine seq_ops [] [] [(6, cB false)] [] (fun t => t) (by kernel_rfl) ?_
            refine ends_ret ?_
            obtain rfl := Option.some.inj H
            exact And.intro (.inl rfl) rfl
          · refine ite_f c38 (by kernel_rfl) ?_
            refine ends_skip ?_
            change EndsI _ _ _ _ _ _
            refine seq_in ?_
            obtain ⟨v39, h40, H⟩ := ofBind H
            obtain ⟨v41, h42, H⟩ := ofBind H
            refine seq_draw [.res (.agg (eTState v39)), .res (cB v41)] [] [(63, cB (!v41))] [] (fun t => aI (l_toState_ok p1 v39 h40) (aI (rfl : ([] : List Nat) = []) (aI (rfl : ([] : List Nat) = []) (aI (l_eqState_ok v19 v39 v41 h42) (aI trivial (aI (rfl : ([] : List Nat) = []) (t))))))) (by kernel_rfl) ?_
            rcases ofCond H with ⟨c43, H⟩ | ⟨c43, H⟩
            · refine ite_t c43 (by kernel_rfl) ?_
              refine seq_ops [] [] [(6, cB false)] [] (fun t => t) (by kernel_rfl) ?_
              refine ends_ret ?_
              obtain rfl := Option.some.inj H
              exact And.intro (.inl rfl) rfl
            · refine ite_f c43 (by kernel_rfl) ?_
              refine ends_skip ?_
              change EndsI _ _ _ _ _ _
              refine seq_ops [] [] [(6, cB true)] [] (fun t => t) (by kernel_rfl) ?_
              refine ends_ret ?_
              obtain rfl := Option.some.inj H
              exact And.intro (.inl rfl) rfl

end Go.Proofs.YtfpafaampjgckaaDoor.X0
