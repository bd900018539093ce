/- What each Go function that FnExactNearestGoal reaches computes, and that it returns so; no condition. -/
import Derived.Test.YtihggbgmdlhlcaaGreatDoorNGWb
set_option linter.unusedVariables false
set_option linter.unusedSimpArgs false
set_option maxRecDepth 100000
namespace Go.Proofs.YtihggbgmdlhlcaaGreatDoor.X0
open Go Go.RowKit Go.Proofs.YtihggbgmdlhlcaaGreatDoor.Ab Go.Proofs

def i_goodConditions_ir : S :=
 (.seq (.ops [⟨some 2, .box 12 (.t 0), none⟩, ⟨some 3, .box 3 (.t 1), none⟩, ⟨some 4, .mv (.v (.bool false)), none⟩])
 (.seq (.seq (.ops [⟨some 7, .fad 0 (.t 3), none⟩, ⟨some 8, .load 1 false (.t 7), none⟩, ⟨some 9, .len (.t 8), none⟩, ⟨some 10, .bin .gtr (.t 9) (.v (.int .i64 12)), none⟩, ⟨some 11, .mv (.t 10), none⟩, ⟨some 12, .fad 1 (.t 3), some (11, false)⟩, ⟨some 13, .load 1 false (.t 12), some (11, false)⟩, ⟨some 14, .call 71 [.t 13, .v (.int .i64 0), .v (.int .i64 9)], some (11, false)⟩, ⟨some 15, .not (.t 14), some (11, false)⟩, ⟨some 16, .pick (.t 11) (.v (.bool true)) (.t 15), none⟩, ⟨some 17, .mv (.t 16), none⟩, ⟨some 18, .fad 2 (.t 3), some (17, false)⟩, ⟨some 19, .load 1 false (.t 18), some (17, false)⟩, ⟨some 20, .call 71 [.t 19, .v (.int .i64 0), .v (.int .i64 200)], some (17, false)⟩, ⟨some 21, .not (.t 20), some (17, false)⟩, ⟨some 22, .pick (.t 17) (.v (.bool true)) (.t 21), none⟩])
 (.ite (.t 22) (.seq (.ops [⟨some 4, .mv (.v (.bool false)), none⟩])
  .ret)
 .skip))
 (.seq (.seq (.ops [⟨some 23, .fad 0 (.t 3), none⟩, ⟨some 24, .load 1 false (.t 23), none⟩, ⟨some 25, .len (.t 24), none⟩, ⟨some 26, .mv (.v (.int .i64 0)), none⟩])
 (.blk 0 (.loop (.seq (.ops [⟨some 27, .bin .lss (.t 26) (.t 25), none⟩])
   (.seq (.ite (.t 27) .skip
   (.exit 0))
   (.seq (.blk 1 (.seq (.ops [⟨some 28, .mv (.t 26), none⟩, ⟨some 29, .iad 2 (.t 24) (.t 26), none⟩, ⟨some 30, .load 2 true (.t 29), none⟩, ⟨some 6, .alloc [.int .i64 0, .int .i64 0], none⟩, ⟨some 5, .mv (.t 28), none⟩, ⟨none, .store 2 (.t 6) (.t 30), none⟩])
    (.seq (.draw 28 [⟨some 31, .fad 0 (.t 6), none⟩, ⟨some 32, .load 1 false (.t 31), none⟩, ⟨some 33, .load 12 true (.t 2), none⟩, ⟨some 34, .call 91 [.t 33], none⟩, ⟨some 35, .call 90 [.t 32, .t 34], none⟩, ⟨some 36, .not (.t 35), none⟩, ⟨some 37, .mv (.t 36), none⟩, ⟨some 38, .fad 1 (.t 6), some (37, false)⟩, ⟨some 39, .load 1 false (.t 38), some (37, false)⟩, ⟨some 40, .call 71 [.t 39, .v (.int .i64 1), .v (.int .i64 20)], some (37, false)⟩, ⟨some 41, .not (.t 40), some (37, false)⟩, ⟨some 42, .pick (.t 37) (.v (.bool true)) (.t 41), none⟩, ⟨some 43, .mv (.t 42), none⟩, ⟨some 44, .mv (.t 5), some (43, false)⟩, ⟨some 45, .bin .gtr (.t 44) (.v (.int .i64 0)), some (43, false)⟩, ⟨some 46, .mv (.t 45), some (43, false)⟩, ⟨some 47, .fad 0 (.t 3), some (46, true)⟩, ⟨some 48, .load 1 false (.t 47), some (46, true)⟩, ⟨some 49, .mv (.t 5), some (46, true)⟩, ⟨some 50, .bin .sub (.t 49) (.v (.int .i64 1)), some (46, true)⟩, ⟨some 51, .iad 2 (.t 48) (.t 50), some (46, true)⟩, ⟨some 52, .fad 0 (.t 51), some (46, true)⟩, ⟨some 53, .load 1 false (.t 52), some (46, true)⟩, ⟨some 54, .fad 0 (.t 6), some (46, true)⟩, ⟨some 55, .load 1 false (.t 54), some (46, true)⟩, ⟨some 56, .bin .geq (.t 53) (.t 55), some (46, true)⟩, ⟨some 57, .pick (.t 46) (.t 56) (.v (.bool false)), some (43, false)⟩, ⟨some 58, .pick (.t 43) (.v (.bool true)) (.t 57), none⟩])
    (.ite (.t 58) (.seq (.ops [⟨some 4, .mv (.v (.bool false)), none⟩])
     .ret)
    .skip))))
   (.ops [⟨some 59, .bin .add (.t 26) (.v (.int .i64 1)), none⟩, ⟨some 26, .mv (.t 59), none⟩])))))))
 (.seq (.ops [⟨some 4, .mv (.v (.bool true)), none⟩])
 .ret))))
noncomputable def X.i_goodConditions (p0 : TBoard) (p1 : TConditions) : Option Bool :=
  (bif (decide ((p1.Goals.length : Int) > 12)) then some false else ((X.i_inRange p1.Step 0 9).bind fun v9 => (bif (!v9) then some false else ((X.i_inRange p1.Margin 0 200).bind fun v12 => (bif (!v12) then some false else ((loop (fun (x48 : Int) => ((bif (decide (x48 < (p1.Goals.length : Int))) then ((at' zTGoal p1.Goals x48).bind fun v51 => ((X.i_sizeOf p0).bind fun v53 => ((X.i_isIndex v51.At v53).bind fun v55 => (bif (!v55) then some (Sum.inr (Sum.inr false)) else ((X.i_inRange v51.Points 1 20).bind fun v58 => (bif (!v58) then some (Sum.inr (Sum.inr false)) else (bif (decide (x48 > 0)) then ((at' zTGoal p1.Goals (W (x48 - 1))).bind fun v62 => (bif (decide (v62.At ≥ v51.At)) then some (Sum.inr (Sum.inr false)) else some (Sum.inl (W (x48 + 1))))) else some (Sum.inl (W (x48 + 1)))))))))) else some (Sum.inr (Sum.inl ()))) : Option (Int ⊕ (Unit ⊕ Bool)))) 0).bind fun y65 => (Sum.elim (fun (y67 : Unit) => some true) (fun (y68 : Bool) => some y68) y65)))))))
theorem i_goodConditions_ok (p0 : TBoard) (p1 : TConditions) (r : Bool) (H : X.i_goodConditions p0 p1 = some r) : FnOk Tryz.prog gl 152 [.agg (eTBoard p0), .agg (eTConditions p1)] (cB r) := by
  unfold X.i_goodConditions at H
  refine fn_in (fn := Tryz.f152) (ir := i_goodConditions_ir) (s1 := lit [(4, cB r)] []) Tryz.func152 (by kernel_rfl) (by kernel_rfl) (by kernel_rfl) (by kernel_rfl) (by kernel_rfl) ?_
  refine seq_ops [] [] [(2, .c (.pk 2 0)), (3, .c (.pk 3 0))] [(2, .var (eTBoard p0) false), (3, .var (eTConditions p1) false)] (fun t => t) (by kernel_rfl) ?_
  refine seq_in ?_
  rcases ofCond H with ⟨c8, H⟩ | ⟨c8, H⟩
  · refine seq_ops [.g true, .g true, .g true, .g true, .g true, .g true, .g true, .g true, .g true, .g true] [] [(2, .c (.pk 2 0)), (3, .c (.pk 3 0)), (22, cB true)] [(2, .var (eTBoard p0) false), (3, .var (eTConditions p1) false)] (fun t => lI p1.Goals (aI c8 (aI c8 (aI c8 (aI c8 (aI c8 (aI (rfl : (true : Bool) = true) (aI (rfl : (true : Bool) = true) (aI (rfl : (true : Bool) = true) (aI (rfl : (true : Bool) = true) (aI (rfl : (true : Bool) = true) (t)))))))))))) (by kernel_rfl) ?_
    refine ite_t (rfl : (true : Bool) = true) (by kernel_rfl) ?_
    refine seq_ops [] [] [(4, cB false)] [] (fun t => t) (by kernel_rfl) ?_
    refine ends_ret ?_
    obtain rfl := Option.some.inj H
    exact And.intro (.inl rfl) rfl
  · obtain ⟨v9, h10, H⟩ := ofBind H
    rcases ofCond H with ⟨c11, H⟩ | ⟨c11, H⟩
    · refine seq_ops [.g false, .g false, .g false, .res (cB v9), .g false, .g false, .g true, .g true, .g true, .g true, .g true] [] [(2, .c (.pk 2 0)), (3, .c (.pk 3 0)), (22, cB true)] [(2, .var (eTBoard p0) false), (3, .var (eTConditions p1) false)] (fun t => lI p1.Goals (aI c8 (aI c8 (aI c8 (aI (i_inRange_ok p1.Step 0 9 v9 h10) (aI c8 (aI c8 (aI c11 (aI c11 (aI c11 (aI c11 (aI c11 (t))))))))))))) (by kernel_rfl) ?_
      refine ite_t (rfl : (true : Bool) = true) (by kernel_rfl) ?_
      refine seq_ops [] [] [(4, cB false)] [] (fun t => t) (by kernel_rfl) ?_
      refine ends_ret ?_
      obtain rfl := Option.some.inj H
      exact And.intro (.inl rfl) rfl
    · obtain ⟨v12, h13, H⟩ := ofBind H
      refine seq_ops [.g false, .g false, .g false, .res (cB v9), .g false, .g false, .g false, .g false, .g false, .res (cB v12), .g false, .g false] [] [(2, .c (.pk 2 0)), (3, .c (.pk 3 0)), (22, cB (!v12))] [(2, .var (eTBoard p0) false), (3, .var (eTConditions p1) false)] (fun t => lI p1.Goals (aI c8 (aI c8 (aI c8 (aI (i_inRange_ok p1.Step 0 9 v9 h10) (aI c8 (aI c8 (aI c11 (aI c11 (aI c11 (aI (i_inRange_ok p1.Margin 0 200 v12 h13) (aI c11 (aI c11 (t)))))))))))))) (by kernel_rfl) ?_
      rcases ofCond H with ⟨c14, H⟩ | ⟨c14, H⟩
      · refine ite_t c14 (by kernel_rfl) ?_
        refine seq_ops [] [] [(4, cB false)] [] (fun t => t) (by kernel_rfl) ?_
        refine ends_ret ?_
        obtain rfl := Option.some.inj H
        exact And.intro (.inl rfl) rfl
      · refine ite_f c14 (by kernel_rfl) ?_
        refine ends_skip ?_
        change EndsI _ _ _ _ _ _
        refine seq_in ?_
        refine seq_ops [] [] [(2, .c (.pk 2 0)), (3, .c (.pk 3 0)), (24, .c (dat 2 eTGoal zTGoal p1.Goals)), (25, cI (p1.Goals.length : Int)), (26, cI 0)] [(2, .var (eTBoard p0) false), (3, .var (eTConditions p1) false)] (fun t => lI p1.Goals (t)) (by kernel_rfl) ?_
        refine ends_blk ?_
        obtain ⟨y65, h66, H⟩ := ofBind H
        refine loop_in (fun (x : Int) => lit [(2, .c (.pk 2 0)), (3, .c (.pk 3 0)), (24, .c (dat 2 eTGoal zTGoal p1.Goals)), (25, cI (p1.Goals.length : Int)), (26, cI x)] [(2, .var (eTBoard p0) false), (3, .var (eTConditions p1) false)]) (orJ (fun (z : Unit) => At (.exit 0) (lit [] [])) (fun (z : Bool) => At .ret (lit [(4, cB z)] []))) h66 ?_ ?_
        · clear H h66
          intro x48 y0 H
          refine seq_ops [] [] [(2, .c (.pk 2 0)), (3, .c (.pk 3 0)), (24, .c (dat 2 eTGoal zTGoal p1.Goals)), (25, cI (p1.Goals.length : Int)), (26, cI x48), (27, cB (decide (x48 < (p1.Goals.length : Int))))] [(2, .var (eTBoard p0) false), (3, .var (eTConditions p1) false)] (fun t => t) (by kernel_rfl) ?_
          refine seq_in ?_
          rcases ofCond H with ⟨c50, H⟩ | ⟨c50, H⟩
          · refine ite_t c50 (by kernel_rfl) ?_
            refine ends_skip ?_
            change EndsI _ _ _ _ _ _
            refine seq_in ?_
            refine ends_blk ?_
            obtain ⟨v51, h52, H⟩ := ofBind H
            refine seq_ops [.cs (eTGoal v51)] [] [(2, .c (.pk 2 0)), (3, .c (.pk 3 0)), (5, cI x48), (6, .c (.pk 6 0)), (24, .c (dat 2 eTGoal zTGoal p1.Goals)), (25, cI (p1.Goals.length : Int)), (26, cI x48)] [(2, .var (eTBoard p0) false), (3, .var (eTConditions p1) false), (6, .var (eTGoal v51) false)] (fun t => aI (at_lt h52) (aI (at_enc (enc := eTGoal) h52) (t))) (by kernel_rfl) ?_
            obtain ⟨v53, h54, H⟩ := ofBind H
            obtain ⟨v55, h56, H⟩ := ofBind H
            rcases ofCond H with ⟨c57, H⟩ | ⟨c57, H⟩
            · refine seq_draw [.res (cI v53), .res (cB v55), .g true, .g true, .g true, .g true, .g true, .g true, .g true, .g true, .g true, .g true] [] [(2, .c (.pk 2 0)), (3, .c (.pk 3 0)), (24, .c (dat 2 eTGoal zTGoal p1.Goals)), (25, cI (p1.Goals.length : Int)), (26, cI x48), (58, cB true)] [(2, .var (eTBoard p0) false), (3, .var (eTConditions p1) false)] (fun t => aI (i_sizeOf_ok p0 v53 h54) (aI trivial (aI (rfl : ([] : List Nat) = []) (aI (i_isIndex_ok v51.At v53 v55 h56) (aI trivial (aI (rfl : ([] : List Nat) = []) (aI c57 (aI c57 (aI c57 (aI c57 (aI c57 (aI (rfl : (true : Bool) = true) (aI (rfl : (true : Bool) = true) (aI (rfl : (true : Bool) = true) (aI (rfl : (true : Bool) = true) (aI (rfl : (true : Bool) = true) (t))))))))))))))))) (by kernel_rfl) ?_
              refine ite_t (rfl : (true : Bool) = true) (by kernel_rfl) ?_
              refine seq_ops [] [] [(4, cB false)] [] (fun t => t) (by kernel_rfl) ?_
              refine ends_ret ?_
              obtain rfl := Option.some.inj H
              exact And.intro (by simp) (And.intro rfl rfl)
            · obtain ⟨v58, h59, H⟩ := ofBind H
              rcases ofCond H with ⟨c60, H⟩ | ⟨c60, H⟩
              · refine seq_draw [.res (cI v53), .res (cB v55), .g false, .g false, .g false, .res (cB v58), .g false, .g false, .g true, .g true, .g true, .g true, .g true] [] [(2, .c (.pk 2 0)), (3, .c (.pk 3 0)), (24, .c (dat 2 eTGoal zTGoal p1.Goals)), (25, cI (p1.Goals.length : Int)), (26, cI x48), (58, cB true)] [(2, .var (eTBoard p0) false), (3, .var (eTConditions p1) false)] (fun t => aI (i_sizeOf_ok p0 v53 h54) (aI trivial (aI (rfl : ([] : List Nat) = []) (aI (i_isIndex_ok v51.At v53 v55 h56) (aI trivial (aI (rfl : ([] : List Nat) = []) (aI c57 (aI c57 (aI c57 (aI (i_inRange_ok v51.Points 1 20 v58 h59) (aI trivial (aI (rfl : ([] : List Nat) = []) (aI c57 (aI c57 (aI c60 (aI c60 (aI c60 (aI c60 (aI c60 (t)))))))))))))))))))) (by kernel_rfl) ?_
                refine ite_t (rfl : (true : Bool) = true) (by kernel_rfl) ?_
                refine seq_ops [] [] [(4, cB false)] [] (fun t => t) (by kernel_rfl) ?_
                refine ends_ret ?_
                obtain rfl := Option.some.inj H
                exact And.intro (by simp) (And.intro rfl rfl)
              · rcases ofCond H with ⟨c61, H⟩ | ⟨c61, H⟩
                · obtain ⟨v62, h63, H⟩ := ofBind H
                  refine seq_draw [.res (cI v53), .res (cB v55), .g false, .g false, .g false, .res (cB v58), .g false, .g false, .g false, .g false, .g false, .g true, .g true, .g true, .g true, .g true, .cs (eTGoal v62), .g true, .g true, .g true, .g true, .g true, .g false, .g true, .g false] [] [(2, .c (.pk 2 0)), (3, .c (.pk 3 0)), (24, .c (dat 2 eTGoal zTGoal p1.Goals)), (25, cI (p1.Goals.length : Int)), (26, cI x48), (58, cB (decide (v62.At ≥ v51.At)))] [(2, .var (eTBoard p0) false), (3, .var (eTConditions p1) false)] (fun t => aI (i_sizeOf_ok p0 v53 h54) (aI trivial (aI (rfl : ([] : List Nat) = []) (aI (i_isIndex_ok v51.At v53 v55 h56) (aI trivial (aI (rfl : ([] : List Nat) = []) (aI c57 (aI c57 (aI c57 (aI (i_inRange_ok v51.Points 1 20 v58 h59) (aI trivial (aI (rfl : ([] : List Nat) = []) (aI c57 (aI c57 (aI c60 (aI c60 (aI c60 (aI c61 (aI c61 (aI c61 (aI c61 (aI c61 (aI (at_lt h63) (aI (at_enc (enc := eTGoal) h63) (aI c61 (aI c61 (aI (rfl : ([] : List Nat) = []) (aI c61 (aI c61 (aI c61 (aI c60 (aI c61 (aI c60 (t)))))))))))))))))))))))))))))))))) (by kernel_rfl) ?_
                  rcases ofCond H with ⟨c64, H⟩ | ⟨c64, H⟩
                  · refine ite_t c64 (by kernel_rfl) ?_
                    refine seq_ops [] [] [(4, cB false)] [] (fun t => t) (by kernel_rfl) ?_
                    refine ends_ret ?_
                    obtain rfl := Option.some.inj H
                    exact And.intro (by simp) (And.intro rfl rfl)
                  · refine ite_f c64 (by kernel_rfl) ?_
                    refine ends_skip ?_
                    change EndsI _ _ _ _ _ _
                    refine one_ops [] [] [(2, .c (.pk 2 0)), (3, .c (.pk 3 0)), (24, .c (dat 2 eTGoal zTGoal p1.Goals)), (25, cI (p1.Goals.length : Int)), (26, cI (W (x48 + 1)))] [(2, .var (eTBoard p0) false), (3, .var (eTConditions p1) false)] (fun t => t) (by kernel_rfl) ?_
                    obtain rfl := Option.some.inj H
                    exact And.intro rfl rfl
                · refine seq_draw [.res (cI v53), .res (cB v55), .g false, .g false, .g false, .res (cB v58), .g false, .g false, .g false, .g false, .g false, .g false, .g false, .g false, .g false, .g false, .g false, .g false, .g false, .g false, .g false, .g false, .g false, .g false] [] [(2, .c (.pk 2 0)), (3, .c (.pk 3 0)), (24, .c (dat 2 eTGoal zTGoal p1.Goals)), (25, cI (p1.Goals.length : Int)), (26, cI x48), (58, cB false)] [(2, .var (eTBoard p0) false), (3, .var (eTConditions p1) false)] (fun t => aI (i_sizeOf_ok p0 v53 h54) (aI trivial (aI (rfl : ([] : List Nat) = []) (aI (i_isIndex_ok v51.At v53 v55 h56) (aI trivial (aI (rfl : ([] : List Nat) = []) (aI c57 (aI c57 (aI c57 (aI (i_inRange_ok v51.Points 1 20 v58 h59) (aI trivial (aI (rfl : ([] : List Nat) = []) (aI c57 (aI c57 (aI c60 (aI c60 (aI c60 (aI c61 (aI c61 (aI c61 (aI c61 (aI c61 (aI c61 (aI c61 (aI c61 (aI c61 (aI c61 (aI c60 (aI c61 (aI c60 (t))))))))))))))))))))))))))))))) (by kernel_rfl) ?_
                  refine ite_f (rfl : (false : Bool) = false) (by kernel_rfl) ?_
                  refine ends_skip ?_
                  change EndsI _ _ _ _ _ _
                  refine one_ops [] [] [(2, .c (.pk 2 0)), (3, .c (.pk 3 0)), (24, .c (dat 2 eTGoal zTGoal p1.Goals)), (25, cI (p1.Goals.length : Int)), (26, cI (W (x48 + 1)))] [(2, .var (eTBoard p0) false), (3, .var (eTConditions p1) false)] (fun t => t) (by kernel_rfl) ?_
                  obtain rfl := Option.some.inj H
                  exact And.intro rfl rfl
          · refine ite_f c50 (by kernel_rfl) ?_
            refine tell [] [] [] (fun t => t) (by kernel_rfl) ?_
            refine ends_exit ?_
            obtain rfl := Option.some.inj H
            exact And.intro (by simp) (And.intro rfl rfl)
        · clear h66
          cases y65 with
          | inl y67 =>
            replace H := ofInl H
            intro e s q
            obtain ⟨rfl, rfl⟩ := q
            change EndsI _ _ _ _ _ _
            refine seq_ops [] [] [(4, cB true)] [] (fun t => t) (by kernel_rfl) ?_
            refine ends_ret ?_
            obtain rfl := Option.some.inj H
            exact And.intro (.inl rfl) rfl
          | inr y68 =>
            replace H := ofInr H
            intro e s q
            obtain ⟨rfl, rfl⟩ := q
            obtain rfl := Option.some.inj H
            exact And.intro (.inl rfl) rfl

def i_hasConditions_ir : S :=
 (.seq (.ops [⟨some 3, .box 12 (.t 0), none⟩, ⟨some 4, .box 3 (.t 1), none⟩, ⟨some 5, .box 3 (.t 2), none⟩, ⟨some 6, .mv (.v (.bool false)), none⟩])
 (.seq (.ops [⟨some 7, .load 12 true (.t 3), none⟩, ⟨some 8, .load 3 true (.t 4), none⟩, ⟨some 9, .call 151 [.t 7, .t 8], none⟩, ⟨some 10, .mv (.t 9), none⟩, ⟨some 11, .load 12 true (.t 3), some (10, true)⟩, ⟨some 12, .load 3 true (.t 5), some (10, true)⟩, ⟨some 13, .call 152 [.t 11, .t 12], some (10, true)⟩, ⟨some 14, .pick (.t 10) (.t 13) (.v (.bool false)), none⟩, ⟨some 6, .mv (.t 14), none⟩])
 .ret))
noncomputable def X.i_hasConditions (p0 : TBoard) (p1 : TState) (p2 : TConditions) : Option Bool :=
  ((X.i_fits p0 p1).bind fun v1 => (bif v1 then ((X.i_goodConditions p0 p2).bind fun v4 => some v4) else some false))
theorem i_hasConditions_ok (p0 : TBoard) (p1 : TState) (p2 : TConditions) (r : Bool) (H : X.i_hasConditions p0 p1 p2 = some r) : FnOk Tryz.prog gl 82 [.agg (eTBoard p0), .agg (eTState p1), .agg (eTConditions p2)] (cB r) := by
  unfold X.i_hasConditions at H
  refine fn_in (fn := Tryz.f82) (ir := i_hasConditions_ir) (s1 := lit [(6, cB r)] []) Tryz.func82 (by kernel_rfl) (by kernel_rfl) (by kernel_rfl) (by kernel_rfl) (by kernel_rfl) ?_
  refine seq_ops [] [] [(3, .c (.pk 3 0)), (4, .c (.pk 4 0)), (5, .c (.pk 5 0))] [(3, .var (eTBoard p0) false), (4, .var (eTState p1) false), (5, .var (eTConditions p2) false)] (fun t => t) (by kernel_rfl) ?_
  obtain ⟨v1, h2, H⟩ := ofBind H
  rcases ofCond H with ⟨c3, H⟩ | ⟨c3, H⟩
  · obtain ⟨v4, h5, H⟩ := ofBind H
    refine seq_ops [.res (cB v1), .g true, .g true, .g true, .res (cB v4), .g true] [] [(6, cB v4)] [] (fun t => aI (i_fits_ok p0 p1 v1 h2) (aI c3 (aI c3 (aI c3 (aI (i_goodConditions_ok p0 p2 v4 h5) (aI c3 (t))))))) (by kernel_rfl) ?_
    refine ends_ret ?_
    obtain rfl := Option.some.inj H
    exact And.intro (.inl rfl) rfl
  · refine seq_ops [.res (cB v1), .g false, .g false, .g false, .g false] [] [(6, cB false)] [] (fun t => aI (i_fits_ok p0 p1 v1 h2) (aI c3 (aI c3 (aI c3 (aI c3 (t)))))) (by kernel_rfl) ?_
    refine ends_ret ?_
    obtain rfl := Option.some.inj H
    exact And.intro (.inl rfl) rfl

def i_hasUnit_ir : S :=
 (.seq (.ops [⟨some 3, .box 12 (.t 0), none⟩, ⟨some 4, .box 3 (.t 1), none⟩, ⟨some 6, .mv (.v (.bool false)), none⟩])
 (.seq (.ops [⟨some 7, .load 12 true (.t 3), none⟩, ⟨some 8, .load 3 true (.t 4), none⟩, ⟨some 9, .call 151 [.t 7, .t 8], none⟩, ⟨some 10, .mv (.t 9), none⟩, ⟨some 11, .mv (.t 2), some (10, true)⟩, ⟨some 12, .fad 2 (.t 4), some (10, true)⟩, ⟨some 13, .load 1 false (.t 12), some (10, true)⟩, ⟨some 14, .len (.t 13), some (10, true)⟩, ⟨some 15, .call 90 [.t 11, .t 14], some (10, true)⟩, ⟨some 16, .pick (.t 10) (.t 15) (.v (.bool false)), none⟩, ⟨some 6, .mv (.t 16), none⟩])
 .ret))
noncomputable def X.i_hasUnit (p0 : TBoard) (p1 : TState) (p2 : Int) : Option Bool :=
  ((X.i_fits p0 p1).bind fun v1 => (bif v1 then ((X.i_isIndex p2 (p1.Units.length : Int)).bind fun v4 => some v4) else some false))
theorem i_hasUnit_ok (p0 : TBoard) (p1 : TState) (p2 : Int) (r : Bool) (H : X.i_hasUnit p0 p1 p2 = some r) : FnOk Tryz.prog gl 103 [.agg (eTBoard p0), .agg (eTState p1), cI p2] (cB r) := by
  unfold X.i_hasUnit at H
  refine fn_in (fn := Tryz.f103) (ir := i_hasUnit_ir) (s1 := lit [(6, cB r)] []) Tryz.func103 (by kernel_rfl) (by kernel_rfl) (by kernel_rfl) (by kernel_rfl) (by kernel_rfl) ?_
  refine seq_ops [] [] [(2, cI p2), (3, .c (.pk 3 0)), (4, .c (.pk 4 0))] [(3, .var (eTBoard p0) false), (4, .var (eTState p1) false)] (fun t => t) (by kernel_rfl) ?_
  obtain ⟨v1, h2, H⟩ := ofBind H
  rcases ofCond H with ⟨c3, H⟩ | ⟨c3, H⟩
  · obtain ⟨v4, h5, H⟩ := ofBind H
    refine seq_ops [.res (cB v1), .g true, .g true, .g true, .g true, .g true, .res (cB v4), .g true] [] [(6, cB v4)] [] (fun t => aI (i_fits_ok p0 p1 v1 h2) (aI c3 (aI c3 (aI c3 (aI c3 (lI p1.Units (aI c3 (aI (i_isIndex_ok p2 (p1.Units.length : Int) v4 h5) (aI c3 (t)))))))))) (by kernel_rfl) ?_
    refine ends_ret ?_
    obtain rfl := Option.some.inj H
    exact And.intro (.inl rfl) rfl
  · refine seq_ops [.res (cB v1), .g false, .g false, .g false, .g false, .g false, .g false] [] [(6, cB false)] [] (fun t => aI (i_fits_ok p0 p1 v1 h2) (aI c3 (aI c3 (aI c3 (aI c3 (aI c3 (aI c3 (t)))))))) (by kernel_rfl) ?_
    refine ends_ret ?_
    obtain rfl := Option.some.inj H
    exact And.intro (.inl rfl) rfl

def i_onMap_ir : S :=
 (.seq (.ops [⟨some 3, .box 12 (.t 0), none⟩, ⟨some 4, .box 3 (.t 1), none⟩, ⟨some 6, .mv (.v (.bool false)), none⟩])
 (.seq (.ops [⟨some 7, .load 12 true (.t 3), none⟩, ⟨some 8, .load 3 true (.t 4), none⟩, ⟨some 9, .mv (.t 2), none⟩, ⟨some 10, .call 103 [.t 7, .t 8, .t 9], none⟩, ⟨some 11, .mv (.t 10), none⟩, ⟨some 12, .fad 2 (.t 4), some (11, true)⟩, ⟨some 13, .load 1 false (.t 12), some (11, true)⟩, ⟨some 14, .mv (.t 2), some (11, true)⟩, ⟨some 15, .iad 4 (.t 13) (.t 14), some (11, true)⟩, ⟨some 16, .fad 2 (.t 15), some (11, true)⟩, ⟨some 17, .load 1 false (.t 16), some (11, true)⟩, ⟨some 18, .bin .geq (.t 17) (.v (.int .i64 0)), some (11, true)⟩, ⟨some 19, .pick (.t 11) (.t 18) (.v (.bool false)), none⟩, ⟨some 6, .mv (.t 19), none⟩])
 .ret))
noncomputable def X.i_onMap (p0 : TBoard) (p1 : TState) (p2 : Int) : Option Bool :=
  ((X.i_hasUnit p0 p1 p2).bind fun v1 => (bif v1 then ((at' zTUnit p1.Units p2).bind fun v4 => some (decide (v4.At ≥ 0))) else some false))
theorem i_onMap_ok (p0 : TBoard) (p1 : TState) (p2 : Int) (r : Bool) (H : X.i_onMap p0 p1 p2 = some r) : FnOk Tryz.prog gl 83 [.agg (eTBoard p0), .agg (eTState p1), cI p2] (cB r) := by
  unfold X.i_onMap at H
  refine fn_in (fn := Tryz.f83) (ir := i_onMap_ir) (s1 := lit [(6, cB r)] []) Tryz.func83 (by kernel_rfl) (by kernel_rfl) (by kernel_rfl) (by kernel_rfl) (by kernel_rfl) ?_
  refine seq_ops [] [] [(2, cI p2), (3, .c (.pk 3 0)), (4, .c (.pk 4 0))] [(3, .var (eTBoard p0) false), (4, .var (eTState p1) false)] (fun t => t) (by kernel_rfl) ?_
  obtain ⟨v1, h2, H⟩ := ofBind H
  rcases ofCond H with ⟨c3, H⟩ | ⟨c3, H⟩
  · obtain ⟨v4, h5, H⟩ := ofBind H
    refine seq_ops [.res (cB v1), .g true, .g true, .g true, .g true, .cs (eTUnit v4), .g true, .g true, .g true, .g true] [] [(6, cB (decide (v4.At ≥ 0)))] [] (fun t => aI (i_hasUnit_ok p0 p1 p2 v1 h2) (aI c3 (aI c3 (aI c3 (aI c3 (aI (at_lt h5) (aI (at_enc (enc := eTUnit) h5) (aI c3 (aI c3 (aI c3 (aI c3 (t)))))))))))) (by kernel_rfl) ?_
    refine ends_ret ?_
    obtain rfl := Option.some.inj H
    exact And.intro (.inl rfl) rfl
  · refine seq_ops [.res (cB v1), .g false, .g false, .g false, .g false, .g false, .g false, .g false, .g false] [] [(6, cB false)] [] (fun t => aI (i_hasUnit_ok p0 p1 p2 v1 h2) (aI c3 (aI c3 (aI c3 (aI c3 (aI c3 (aI c3 (aI c3 (aI c3 (t)))))))))) (by kernel_rfl) ?_
    refine ends_ret ?_
    obtain rfl := Option.some.inj H
    exact And.intro (.inl rfl) rfl

def i_absOf_ir : S :=
 (.seq (.ops [⟨some 2, .mv (.v (.int .i64 0)), none⟩])
 (.seq (.seq (.ops [⟨some 3, .mv (.t 0), none⟩, ⟨some 4, .bin .lss (.t 3) (.v (.int .i64 0)), none⟩])
 (.ite (.t 4) (.seq (.ops [⟨some 5, .mv (.t 0), none⟩, ⟨some 6, .neg (.t 5), none⟩, ⟨some 2, .mv (.t 6), none⟩])
  .ret)
 .skip))
 (.seq (.ops [⟨some 7, .mv (.t 0), none⟩, ⟨some 2, .mv (.t 7), none⟩])
 .ret)))
noncomputable def X.i_absOf (p0 : Int) : Option Int :=
  (bif (decide (p0 < 0)) then some (W (0 - p0)) else some p0)
theorem i_absOf_ok (p0 : Int) (r : Int) (H : X.i_absOf p0 = some r) : FnOk Tryz.prog gl 153 [cI p0] (cI r) := by
  unfold X.i_absOf at H
  refine fn_in (fn := Tryz.f153) (ir := i_absOf_ir) (s1 := lit [(2, cI r)] []) Tryz.func153 (by kernel_rfl) (by kernel_rfl) (by kernel_rfl) (by kernel_rfl) (by kernel_rfl) ?_
  refine seq_ops [] [] [(0, cI p0)] [] (fun t => t) (by kernel_rfl) ?_
  refine seq_in ?_
  refine seq_ops [] [] [(0, cI p0), (4, cB (decide (p0 < 0)))] [] (fun t => t) (by kernel_rfl) ?_
  rcases ofCond H with ⟨c1, H⟩ | ⟨c1, H⟩
  · refine ite_t c1 (by kernel_rfl) ?_
    refine seq_ops [] [] [(2, cI (W (0 - p0)))] [] (fun t => t) (by kernel_rfl) ?_
    refine ends_ret ?_
    obtain rfl := Option.some.inj H
    exact And.intro (.inl rfl) rfl
  · refine ite_f c1 (by kernel_rfl) ?_
    refine ends_skip ?_
    change EndsI _ _ _ _ _ _
    refine seq_ops [] [] [(2, cI p0)] [] (fun t => t) (by kernel_rfl) ?_
    refine ends_ret ?_
    obtain rfl := Option.some.inj H
    exact And.intro (.inl rfl) rfl

def i_distance_ir : S :=
 (.seq (.ops [⟨some 2, .box 2 (.t 0), none⟩, ⟨some 3, .box 2 (.t 1), none⟩, ⟨some 4, .mv (.v (.int .i64 0)), none⟩])
 (.seq (.draw 12 [⟨some 7, .fad 0 (.t 3), none⟩, ⟨some 8, .load 1 false (.t 7), none⟩, ⟨some 9, .fad 0 (.t 2), none⟩, ⟨some 10, .load 1 false (.t 9), none⟩, ⟨some 11, .bin .sub (.t 8) (.t 10), none⟩, ⟨some 12, .fad 1 (.t 3), none⟩, ⟨some 13, .load 1 false (.t 12), none⟩, ⟨some 14, .fad 1 (.t 2), none⟩, ⟨some 15, .load 1 false (.t 14), none⟩, ⟨some 16, .bin .sub (.t 13) (.t 15), none⟩, ⟨some 5, .mv (.t 11), none⟩, ⟨some 6, .mv (.t 16), none⟩])
 (.seq (.ops [⟨some 17, .mv (.t 5), none⟩, ⟨some 18, .call 153 [.t 17], none⟩, ⟨some 19, .mv (.t 6), none⟩, ⟨some 20, .call 153 [.t 19], none⟩, ⟨some 21, .bin .add (.t 18) (.t 20), none⟩, ⟨some 22, .mv (.t 5), none⟩, ⟨some 23, .mv (.t 6), none⟩, ⟨some 24, .bin .add (.t 22) (.t 23), none⟩, ⟨some 25, .call 153 [.t 24], none⟩, ⟨some 26, .bin .add (.t 21) (.t 25), none⟩, ⟨some 27, .bin .quo (.t 26) (.v (.int .i64 2)), none⟩, ⟨some 4, .mv (.t 27), none⟩])
 .ret)))
noncomputable def X.i_distance (p0 : THex) (p1 : THex) : Option Int :=
  ((X.i_absOf (W (p1.Q - p0.Q))).bind fun v1 => ((X.i_absOf (W (p1.R - p0.R))).bind fun v3 => ((X.i_absOf (W ((W (p1.Q - p0.Q)) + (W (p1.R - p0.R))))).bind fun v5 => some (W (Int.tdiv (W ((W (v1 + v3)) + v5)) 2)))))
theorem i_distance_ok (p0 : THex) (p1 : THex) (r : Int) (H : X.i_distance p0 p1 = some r) : FnOk Tryz.prog gl 84 [.agg (eTHex p0), .agg (eTHex p1)] (cI r) := by
  unfold X.i_distance at H
  refine fn_in (fn := Tryz.f84) (ir := i_distance_ir) (s1 := lit [(4, cI r)] []) Tryz.func84 (by kernel_rfl) (by kernel_rfl) (by kernel_rfl) (by kernel_rfl) (by kernel_rfl) ?_
  refine seq_ops [] [] [(2, .c (.pk 2 0)), (3, .c (.pk 3 0))] [(2, .var (eTHex p0) false), (3, .var (eTHex p1) false)] (fun t => t) (by kernel_rfl) ?_
  refine seq_draw [] [] [(5, cI (W (p1.Q - p0.Q))), (6, cI (W (p1.R - p0.R)))] [] (fun t => t) (by kernel_rfl) ?_
  obtain ⟨v1, h2, H⟩ := ofBind H
  obtain ⟨v3, h4, H⟩ := ofBind H
  obtain ⟨v5, h6, H⟩ := ofBind H
  refine seq_ops [.res (cI v1), .res (cI v3), .res (cI v5)] [] [(4, cI (W (Int.tdiv (W ((W (v1 + v3)) + v5)) 2)))] [] (fun t => aI (i_absOf_ok (W (p1.Q - p0.Q)) v1 h2) (aI (i_absOf_ok (W (p1.R - p0.R)) v3 h4) (aI (i_absOf_ok (W ((W (p1.Q - p0.Q)) + (W (p1.R - p0.R)))) v5 h6) (aI (by decide : (2 : Int) ≠ 0) (t))))) (by kernel_rfl) ?_
  refine ends_ret ?_
  obtain rfl := Option.some.inj H
  exact And.intro (.inl rfl) rfl

def i_NearestGoal_ir : S :=
 (.seq (.ops [⟨some 4, .box 12 (.t 0), none⟩, ⟨some 5, .box 3 (.t 1), none⟩, ⟨some 6, .box 3 (.t 2), none⟩, ⟨some 8, .mv (.v (.int .i64 0)), none⟩, ⟨some 9, .mv (.v (.int .i64 0)), none⟩, ⟨some 10, .mv (.v (.bool false)), none⟩])
 (.seq (.seq (.ops [⟨some 16, .load 12 true (.t 4), none⟩, ⟨some 17, .load 3 true (.t 5), none⟩, ⟨some 18, .load 3 true (.t 6), none⟩, ⟨some 19, .call 82 [.t 16, .t 17, .t 18], none⟩, ⟨some 20, .not (.t 19), none⟩, ⟨some 21, .mv (.t 20), none⟩, ⟨some 22, .load 12 true (.t 4), some (21, false)⟩, ⟨some 23, .load 3 true (.t 5), some (21, false)⟩, ⟨some 24, .mv (.t 3), some (21, false)⟩, ⟨some 25, .call 83 [.t 22, .t 23, .t 24], some (21, false)⟩, ⟨some 26, .not (.t 25), some (21, false)⟩, ⟨some 27, .pick (.t 21) (.v (.bool true)) (.t 26), none⟩, ⟨some 28, .mv (.t 27), none⟩, ⟨some 29, .fad 0 (.t 6), some (28, false)⟩, ⟨some 30, .load 1 false (.t 29), some (28, false)⟩, ⟨some 31, .len (.t 30), some (28, false)⟩, ⟨some 32, .bin .eql (.t 31) (.v (.int .i64 0)), some (28, false)⟩, ⟨some 33, .pick (.t 28) (.v (.bool true)) (.t 32), none⟩])
 (.ite (.t 33) (.seq (.ops [⟨some 8, .mv (.v (.int .i64 0)), none⟩, ⟨some 9, .mv (.v (.int .i64 0)), none⟩, ⟨some 10, .mv (.v (.bool false)), none⟩])
  .ret)
 .skip))
 (.seq (.ops [⟨some 11, .mv (.v (.int .i64 0)), none⟩, ⟨some 12, .mv (.v (.int .i64 (-1))), none⟩])
 (.seq (.seq (.ops [⟨some 34, .fad 0 (.t 6), none⟩, ⟨some 35, .load 1 false (.t 34), none⟩, ⟨some 36, .len (.t 35), none⟩, ⟨some 37, .mv (.v (.int .i64 0)), none⟩])
 (.blk 0 (.loop (.seq (.ops [⟨some 38, .bin .lss (.t 37) (.t 36), none⟩])
   (.seq (.ite (.t 38) .skip
   (.exit 0))
   (.seq (.blk 1 (.seq (.ops [⟨some 39, .mv (.t 37), none⟩, ⟨some 40, .iad 2 (.t 35) (.t 37), none⟩, ⟨some 41, .load 2 true (.t 40), none⟩, ⟨some 14, .alloc [.int .i64 0, .int .i64 0], none⟩, ⟨some 13, .mv (.t 39), none⟩, ⟨none, .store 2 (.t 14) (.t 41), none⟩])
    (.seq (.draw 16 [⟨some 42, .fad 7 (.t 4), none⟩, ⟨some 43, .load 5 true (.t 42), none⟩, ⟨some 44, .fad 2 (.t 5), none⟩, ⟨some 45, .load 1 false (.t 44), none⟩, ⟨some 46, .mv (.t 3), none⟩, ⟨some 47, .iad 4 (.t 45) (.t 46), none⟩, ⟨some 48, .fad 2 (.t 47), none⟩, ⟨some 49, .load 1 false (.t 48), none⟩, ⟨some 50, .call 85 [.t 43, .t 49], none⟩, ⟨some 51, .fad 7 (.t 4), none⟩, ⟨some 52, .load 5 true (.t 51), none⟩, ⟨some 53, .fad 0 (.t 14), none⟩, ⟨some 54, .load 1 false (.t 53), none⟩, ⟨some 55, .call 85 [.t 52, .t 54], none⟩, ⟨some 56, .call 84 [.t 50, .t 55], none⟩, ⟨some 15, .mv (.t 56), none⟩])
    (.seq (.ops [⟨some 57, .mv (.t 12), none⟩, ⟨some 58, .bin .lss (.t 57) (.v (.int .i64 0)), none⟩, ⟨some 59, .mv (.t 58), none⟩, ⟨some 60, .mv (.t 15), some (59, false)⟩, ⟨some 61, .mv (.t 12), some (59, false)⟩, ⟨some 62, .bin .lss (.t 60) (.t 61), some (59, false)⟩, ⟨some 63, .pick (.t 59) (.v (.bool true)) (.t 62), none⟩])
    (.ite (.t 63) (.ops [⟨some 64, .mv (.t 13), none⟩, ⟨some 65, .mv (.t 15), none⟩, ⟨some 11, .mv (.t 64), none⟩, ⟨some 12, .mv (.t 65), none⟩])
    .skip)))))
   (.ops [⟨some 66, .bin .add (.t 37) (.v (.int .i64 1)), none⟩, ⟨some 37, .mv (.t 66), none⟩])))))))
 (.seq (.ops [⟨some 67, .mv (.t 11), none⟩, ⟨some 68, .mv (.t 12), none⟩, ⟨some 8, .mv (.t 67), none⟩, ⟨some 9, .mv (.t 68), none⟩, ⟨some 10, .mv (.v (.bool true)), none⟩])
 .ret)))))
noncomputable def X.i_NearestGoal (p0 : TBoard) (p1 : TState) (p2 : TConditions) (p3 : Int) : Option (Int × Int × Bool) :=
  ((X.i_hasConditions p0 p1 p2).bind fun v8 => (bif (!v8) then some (0, 0, false) else ((X.i_onMap p0 p1 p3).bind fun v11 => (bif (!v11) then some (0, 0, false) else (bif ((p2.Goals.length : Int) == 0) then some (0, 0, false) else ((loop (fun (x58 : (Int × Int × Int)) => ((bif (decide (x58.2.2 < (p2.Goals.length : Int))) then ((at' zTGoal p2.Goals x58.2.2).bind fun v61 => ((at' zTUnit p1.Units p3).bind fun v63 => ((X.i_hexOf p0.Map v63.At).bind fun v65 => ((X.i_hexOf p0.Map v61.At).bind fun v67 => ((X.i_distance v65 v67).bind fun v69 => (bif (decide (x58.2.1 < 0)) then some (Sum.inl (x58.2.2, v69, (W (x58.2.2 + 1)))) else (bif (decide (v69 < x58.2.1)) then some (Sum.inl (x58.2.2, v69, (W (x58.2.2 + 1)))) else some (Sum.inl (x58.1, x58.2.1, (W (x58.2.2 + 1))))))))))) else some (Sum.inr (x58.1, x58.2.1))) : Option ((Int × Int × Int) ⊕ (Int × Int)))) (0, -1, 0)).bind fun y73 => some (y73.1, y73.2, true)))))))
theorem i_NearestGoal_ok (p0 : TBoard) (p1 : TState) (p2 : TConditions) (p3 : Int) (r : (Int × Int × Bool)) (H : X.i_NearestGoal p0 p1 p2 p3 = some r) : FnOk Tryz.prog gl 28 [.agg (eTBoard p0), .agg (eTState p1), .agg (eTConditions p2), cI p3] (.tup [(false, [.int .i64 r.1]), (false, [.int .i64 r.2.1]), (false, [.bool r.2.2])]) := by
  unfold X.i_NearestGoal at H
  refine fn_in (fn := Tryz.f28) (ir := i_NearestGoal_ir) (s1 := lit [(8, cI r.1), (9, cI r.2.1), (10, cB r.2.2)] []) Tryz.func28 (by kernel_rfl) (by kernel_rfl) (by kernel_rfl) (by kernel_rfl) (by kernel_rfl) ?_
  refine seq_ops [] [] [(3, cI p3), (4, .c (.pk 4 0)), (5, .c (.pk 5 0)), (6, .c (.pk 6 0))] [(4, .var (eTBoard p0) false), (5, .var (eTState p1) false), (6, .var (eTConditions p2) false)] (fun t => t) (by kernel_rfl) ?_
  refine seq_in ?_
  obtain ⟨v8, h9, H⟩ := ofBind H
  rcases ofCond H with ⟨c10, H⟩ | ⟨c10, H⟩
  · refine seq_ops [.res (cB v8), .g true, .g true, .g true, .g true, .g true, .g true, .g true, .g true, .g true, .g true, .g true] [] [(3, cI p3), (4, .c (.pk 4 0)), (5, .c (.pk 5 0)), (6, .c (.pk 6 0)), (33, cB true)] [(4, .var (eTBoard p0) false), (5, .var (eTState p1) false), (6, .var (eTConditions p2) false)] (fun t => aI (i_hasConditions_ok p0 p1 p2 v8 h9) (aI c10 (aI c10 (aI c10 (aI c10 (aI c10 (aI c10 (aI (rfl : (true : Bool) = true) (aI (rfl : (true : Bool) = true) (aI (rfl : (true : Bool) = true) (aI (rfl : (true : Bool) = true) (aI (rfl : (true : Bool) = true) (t))))))))))))) (by kernel_rfl) ?_
    refine ite_t (rfl : (true : Bool) = true) (by kernel_rfl) ?_
    refine seq_ops [] [] [(8, cI 0), (9, cI 0), (10, cB false)] [] (fun t => t) (by kernel_rfl) ?_
    refine ends_ret ?_
    obtain rfl := Option.some.inj H
    exact And.intro (.inl rfl) rfl
  · obtain ⟨v11, h12, H⟩ := ofBind H
    rcases ofCond H with ⟨c13, H⟩ | ⟨c13, H⟩
    · refine seq_ops [.res (cB v8), .g false, .g false, .g false, .g false, .res (cB v11), .g false, .g false, .g true, .g true, .g true, .g true, .g true] [] [(3, cI p3), (4, .c (.pk 4 0)), (5, .c (.pk 5 0)), (6, .c (.pk 6 0)), (33, cB true)] [(4, .var (eTBoard p0) false), (5, .var (eTState p1) false), (6, .var (eTConditions p2) false)] (fun t => aI (i_hasConditions_ok p0 p1 p2 v8 h9) (aI c10 (aI c10 (aI c10 (aI c10 (aI (i_onMap_ok p0 p1 p3 v11 h12) (aI c10 (aI c10 (aI c13 (aI c13 (aI c13 (aI c13 (aI c13 (t)))))))))))))) (by kernel_rfl) ?_
      refine ite_t (rfl : (true : Bool) = true) (by kernel_rfl) ?_
      refine seq_ops [] [] [(8, cI 0), (9, cI 0), (10, cB false)] [] (fun t => t) (by kernel_rfl) ?_
      refine ends_ret ?_
      obtain rfl := Option.some.inj H
      exact And.intro (.inl rfl) rfl
    · refine seq_ops [.res (cB v8), .g false, .g false, .g false, .g false, .res (cB v11), .g false, .g false, .g false, .g false, .g false, .g false, .g false] [] [(3, cI p3), (4, .c (.pk 4 0)), (5, .c (.pk 5 0)), (6, .c (.pk 6 0)), (33, cB ((p2.Goals.length : Int) == 0))] [(4, .var (eTBoard p0) false), (5, .var (eTState p1) false), (6, .var (eTConditions p2) false)] (fun t => aI (i_hasConditions_ok p0 p1 p2 v8 h9) (aI c10 (aI c10 (aI c10 (aI c10 (aI (i_onMap_ok p0 p1 p3 v11 h12) (aI c10 (aI c10 (aI c13 (aI c13 (aI c13 (lI p2.Goals (aI c13 (aI c13 (t))))))))))))))) (by kernel_rfl) ?_
      rcases ofCond H with ⟨c14, H⟩ | ⟨c14, H⟩
      · refine ite_t c14 (by kernel_rfl) ?_
        refine seq_ops [] [] [(8, cI 0), (9, cI 0), (10, cB false)] [] (fun t => t) (by kernel_rfl) ?_
        refine ends_ret ?_
        obtain rfl := Option.some.inj H
        exact And.intro (.inl rfl) rfl
      · refine ite_f c14 (by kernel_rfl) ?_
        refine ends_skip ?_
        change EndsI _ _ _ _ _ _
        refine seq_ops [] [] [(3, cI p3), (4, .c (.pk 4 0)), (5, .c (.pk 5 0)), (6, .c (.pk 6 0)), (11, cI 0), (12, cI (-1))] [(4, .var (eTBoard p0) false), (5, .var (eTState p1) false), (6, .var (eTConditions p2) false)] (fun t => t) (by kernel_rfl) ?_
        refine seq_in ?_
        refine seq_ops [] [] [(3, cI p3), (4, .c (.pk 4 0)), (5, .c (.pk 5 0)), (11, cI 0), (12, cI (-1)), (35, .c (dat 2 eTGoal zTGoal p2.Goals)), (36, cI (p2.Goals.length : Int)), (37, cI 0)] [(4, .var (eTBoard p0) false), (5, .var (eTState p1) false)] (fun t => lI p2.Goals (t)) (by kernel_rfl) ?_
        refine ends_blk ?_
        obtain ⟨y73, h74, H⟩ := ofBind H
        refine loop_in (fun (x : (Int × Int × Int)) => lit [(3, cI p3), (4, .c (.pk 4 0)), (5, .c (.pk 5 0)), (11, cI x.1), (12, cI x.2.1), (35, .c (dat 2 eTGoal zTGoal p2.Goals)), (36, cI (p2.Goals.length : Int)), (37, cI x.2.2)] [(4, .var (eTBoard p0) false), (5, .var (eTState p1) false)]) (fun (z : (Int × Int)) => At (.exit 0) (lit [(11, cI z.1), (12, cI z.2)] [])) h74 ?_ ?_
        · clear H h74
          intro x58 y0 H
          refine seq_ops [] [] [(3, cI p3), (4, .c (.pk 4 0)), (5, .c (.pk 5 0)), (11, cI x58.1), (12, cI x58.2.1), (35, .c (dat 2 eTGoal zTGoal p2.Goals)), (36, cI (p2.Goals.length : Int)), (37, cI x58.2.2), (38, cB (decide (x58.2.2 < (p2.Goals.length : Int))))] [(4, .var (eTBoard p0) false), (5, .var (eTState p1) false)] (fun t => t) (by kernel_rfl) ?_
          refine seq_in ?_
          rcases ofCond H with ⟨c60, H⟩ | ⟨c60, H⟩
          · refine ite_t c60 (by kernel_rfl) ?_
            refine ends_skip ?_
            change EndsI _ _ _ _ _ _
            refine seq_in ?_
            refine ends_blk ?_
            obtain ⟨v61, h62, H⟩ := ofBind H
            refine seq_ops [.cs (eTGoal v61)] [] [(3, cI p3), (4, .c (.pk 4 0)), (5, .c (.pk 5 0)), (11, cI x58.1), (12, cI x58.2.1), (13, cI x58.2.2), (14, .c (.pk 14 0)), (35, .c (dat 2 eTGoal zTGoal p2.Goals)), (36, cI (p2.Goals.length : Int)), (37, cI x58.2.2)] [(4, .var (eTBoard p0) false), (5, .var (eTState p1) false), (14, .var (eTGoal v61) false)] (fun t => aI (at_lt h62) (aI (at_enc (enc := eTGoal) h62) (t))) (by kernel_rfl) ?_
            obtain ⟨v63, h64, H⟩ := ofBind H
            obtain ⟨v65, h66, H⟩ := ofBind H
            obtain ⟨v67, h68, H⟩ := ofBind H
            obtain ⟨v69, h70, H⟩ := ofBind H
            refine seq_draw [.cs (eTUnit v63), .res (.agg (eTHex v65)), .res (.agg (eTHex v67)), .res (cI v69)] [] [(3, cI p3), (4, .c (.pk 4 0)), (5, .c (.pk 5 0)), (11, cI x58.1), (12, cI x58.2.1), (13, cI x58.2.2), (15, cI v69), (35, .c (dat 2 eTGoal zTGoal p2.Goals)), (36, cI (p2.Goals.length : Int)), (37, cI x58.2.2)] [(4, .var (eTBoard p0) false), (5, .var (eTState p1) false)] (fun t => aI (at_lt h64) (aI (at_enc (enc := eTUnit) h64) (aI (rfl : ([] : List Nat) = []) (aI (i_hexOf_ok p0.Map v63.At v65 h66) (aI trivial (aI (rfl : ([] : List Nat) = []) (aI (i_hexOf_ok p0.Map v61.At v67 h68) (aI trivial (aI (rfl : ([] : List Nat) = []) (aI (i_distance_ok v65 v67 v69 h70) (aI trivial (aI (rfl : ([] : List Nat) = []) (t))))))))))))) (by kernel_rfl) ?_
            rcases ofCond H with ⟨c71, H⟩ | ⟨c71, H⟩
            · refine seq_ops [.g true, .g true, .g true, .g true] [] [(3, cI p3), (4, .c (.pk 4 0)), (5, .c (.pk 5 0)), (11, cI x58.1), (12, cI x58.2.1), (13, cI x58.2.2), (15, cI v69), (35, .c (dat 2 eTGoal zTGoal p2.Goals)), (36, cI (p2.Goals.length : Int)), (37, cI x58.2.2), (63, cB true)] [(4, .var (eTBoard p0) false), (5, .var (eTState p1) false)] (fun t => aI c71 (aI c71 (aI c71 (aI c71 (t))))) (by kernel_rfl) ?_
              refine ite_t (rfl : (true : Bool) = true) (by kernel_rfl) ?_
              refine one_ops [] [] [(3, cI p3), (4, .c (.pk 4 0)), (5, .c (.pk 5 0)), (11, cI x58.2.2), (12, cI v69), (35, .c (dat 2 eTGoal zTGoal p2.Goals)), (36, cI (p2.Goals.length : Int)), (37, cI x58.2.2)] [(4, .var (eTBoard p0) false), (5, .var (eTState p1) false)] (fun t => t) (by kernel_rfl) ?_
              change EndsI _ _ _ _ _ _
              refine one_ops [] [] [(3, cI p3), (4, .c (.pk 4 0)), (5, .c (.pk 5 0)), (11, cI x58.2.2), (12, cI v69), (35, .c (dat 2 eTGoal zTGoal p2.Goals)), (36, cI (p2.Goals.length : Int)), (37, cI (W (x58.2.2 + 1)))] [(4, .var (eTBoard p0) false), (5, .var (eTState p1) false)] (fun t => t) (by kernel_rfl) ?_
              obtain rfl := Option.some.inj H
              exact And.intro rfl rfl
            · refine seq_ops [.g false, .g false, .g false, .g false] [] [(3, cI p3), (4, .c (.pk 4 0)), (5, .c (.pk 5 0)), (11, cI x58.1), (12, cI x58.2.1), (13, cI x58.2.2), (15, cI v69), (35, .c (dat 2 eTGoal zTGoal p2.Goals)), (36, cI (p2.Goals.length : Int)), (37, cI x58.2.2), (63, cB (decide (v69 < x58.2.1)))] [(4, .var (eTBoard p0) false), (5, .var (eTState p1) false)] (fun t => aI c71 (aI c71 (aI c71 (aI c71 (t))))) (by kernel_rfl) ?_
              rcases ofCond H with ⟨c72, H⟩ | ⟨c72, H⟩
              · refine ite_t c72 (by kernel_rfl) ?_
                refine one_ops [] [] [(3, cI p3), (4, .c (.pk 4 0)), (5, .c (.pk 5 0)), (11, cI x58.2.2), (12, cI v69), (35, .c (dat 2 eTGoal zTGoal p2.Goals)), (36, cI (p2.Goals.length : Int)), (37, cI x58.2.2)] [(4, .var (eTBoard p0) false), (5, .var (eTState p1) false)] (fun t => t) (by kernel_rfl) ?_
                change EndsI _ _ _ _ _ _
                refine one_ops [] [] [(3, cI p3), (4, .c (.pk 4 0)), (5, .c (.pk 5 0)), (11, cI x58.2.2), (12, cI v69), (35, .c (dat 2 eTGoal zTGoal p2.Goals)), (36, cI (p2.Goals.length : Int)), (37, cI (W (x58.2.2 + 1)))] [(4, .var (eTBoard p0) false), (5, .var (eTState p1) false)] (fun t => t) (by kernel_rfl) ?_
                obtain rfl := Option.some.inj H
                exact And.intro rfl rfl
              · refine ite_f c72 (by kernel_rfl) ?_
                refine ends_skip ?_
                change EndsI _ _ _ _ _ _
                refine one_ops [] [] [(3, cI p3), (4, .c (.pk 4 0)), (5, .c (.pk 5 0)), (11, cI x58.1), (12, cI x58.2.1), (35, .c (dat 2 eTGoal zTGoal p2.Goals)), (36, cI (p2.Goals.length : Int)), (37, cI (W (x58.2.2 + 1)))] [(4, .var (eTBoard p0) false), (5, .var (eTState p1) false)] (fun t => t) (by kernel_rfl) ?_
                obtain rfl := Option.some.inj H
                exact And.intro rfl rfl
          · refine ite_f c60 (by kernel_rfl) ?_
            refine tell [] [(11, cI x58.1), (12, cI x58.2.1)] [] (fun t => t) (by kernel_rfl) ?_
            refine ends_exit ?_
            obtain rfl := Option.some.inj H
            exact And.intro (by simp) (And.intro rfl rfl)
        · clear h74
          intro e s q
          obtain ⟨rfl, rfl⟩ := q
          change EndsI _ _ _ _ _ _
          refine seq_ops [] [] [(8, cI y73.1), (9, cI y73.2), (10, cB true)] [] (fun t => t) (by kernel_rfl) ?_
          refine ends_ret ?_
          obtain rfl := Option.some.inj H
          exact And.intro (.inl rfl) rfl

def l_eqUnit_ir : S :=
 (.seq (.ops [⟨some 2, .box 4 (.t 0), none⟩, ⟨some 3, .box 4 (.t 1), none⟩, ⟨some 4, .mv (.v (.bool false)), none⟩])
 (.seq (.seq (.ops [⟨some 5, .fad 0 (.t 2), none⟩, ⟨some 6, .load 1 false (.t 5), none⟩, ⟨some 7, .fad 0 (.t 3), none⟩, ⟨some 8, .load 1 false (.t 7), none⟩, ⟨some 9, .bin .neq (.t 6) (.t 8), none⟩])
 (.ite (.t 9) (.seq (.ops [⟨some 4, .mv (.v (.bool false)), none⟩])
  .ret)
 .skip))
 (.seq (.seq (.ops [⟨some 10, .fad 1 (.t 2), none⟩, ⟨some 11, .load 1 false (.t 10), none⟩, ⟨some 12, .fad 1 (.t 3), none⟩, ⟨some 13, .load 1 false (.t 12), none⟩, ⟨some 14, .bin .neq (.t 11) (.t 13), none⟩])
 (.ite (.t 14) (.seq (.ops [⟨some 4, .mv (.v (.bool false)), none⟩])
  .ret)
 .skip))
 (.seq (.seq (.ops [⟨some 15, .fad 2 (.t 2), none⟩, ⟨some 16, .load 1 false (.t 15), none⟩, ⟨some 17, .fad 2 (.t 3), none⟩, ⟨some 18, .load 1 false (.t 17), none⟩, ⟨some 19, .bin .neq (.t 16) (.t 18), none⟩])
 (.ite (.t 19) (.seq (.ops [⟨some 4, .mv (.v (.bool false)), none⟩])
  .ret)
 .skip))
 (.seq (.seq (.ops [⟨some 20, .fad 3 (.t 2), none⟩, ⟨some 21, .load 1 false (.t 20), none⟩, ⟨some 22, .fad 3 (.t 3), none⟩, ⟨some 23, .load 1 false (.t 22), none⟩, ⟨some 24, .bin .neq (.t 21) (.t 23), none⟩])
 (.ite (.t 24) (.seq (.ops [⟨some 4, .mv (.v (.bool false)), none⟩])
  .ret)
 .skip))
 (.seq (.ops [⟨some 4, .mv (.v (.bool true)), none⟩])
 .ret))))))
noncomputable def X.l_eqUnit (p0 : TUnit) (p1 : TUnit) : Option Bool :=
  (bif (p0.Side != p1.Side) then some false else (bif (p0.Kind != p1.Kind) then some false else (bif (p0.At != p1.At) then some false else (bif (p0.Steps != p1.Steps) then some false else some true))))
theorem l_eqUnit_ok (p0 : TUnit) (p1 : TUnit) (r : Bool) (H : X.l_eqUnit p0 p1 = some r) : FnOk Tryz.prog gl 146 [.agg (eTUnit p0), .agg (eTUnit p1)] (cB r) := by
  unfold X.l_eqUnit at H
  refine fn_in (fn := Tryz.f146) (ir := l_eqUnit_ir) (s1 := lit [(4, cB r)] []) Tryz.func146 (by kernel_rfl) (by kernel_rfl) (by kernel_rfl) (by kernel_rfl) (by kernel_rfl) ?_
  refine seq_ops [] [] [(2, .c (.pk 2 0)), (3, .c (.pk 3 0))] [(2, .var (eTUnit p0) false), (3, .var (eTUnit p1) false)] (fun t => t) (by kernel_rfl) ?_
  refine seq_in ?_
  refine seq_ops [] [] [(2, .c (.pk 2 0)), (3, .c (.pk 3 0)), (9, cB (p0.Side != p1.Side))] [(2, .var (eTUnit p0) false), (3, .var (eTUnit p1) false)] (fun t => t) (by kernel_rfl) ?_
  rcases ofCond H with ⟨c2, H⟩ | ⟨c2, H⟩
  · refine ite_t c2 (by kernel_rfl) ?_
    refine seq_ops [] [] [(4, cB false)] [] (fun t => t) (by kernel_rfl) ?_
    refine ends_ret ?_
    obtain rfl := Option.some.inj H
    exact And.intro (.inl rfl) rfl
  · refine ite_f c2 (by kernel_rfl) ?_
    refine ends_skip ?_
    change EndsI _ _ _ _ _ _
    refine seq_in ?_
    refine seq_ops [] [] [(2, .c (.pk 2 0)), (3, .c (.pk 3 0)), (14, cB (p0.Kind != p1.Kind))] [(2, .var (eTUnit p0) false), (3, .var (eTUnit p1) false)] (fun t => t) (by kernel_rfl) ?_
    rcases ofCond H with ⟨c4, H⟩ | ⟨c4, H⟩
    · refine ite_t c4 (by kernel_rfl) ?_
      refine seq_ops [] [] [(4, cB false)] [] (fun t => t) (by kernel_rfl) ?_
      refine ends_ret ?_
      obtain rfl := Option.some.inj H
      exact And.intro (.inl rfl) rfl
    · refine ite_f c4 (by kernel_rfl) ?_
      refine ends_skip ?_
      change EndsI _ _ _ _ _ _
      refine seq_in ?_
      refine seq_ops [] [] [(2, .c (.pk 2 0)), (3, .c (.pk 3 0)), (19, cB (p0.At != p1.At))] [(2, .var (eTUnit p0) false), (3, .var (eTUnit p1) false)] (fun t => t) (by kernel_rfl) ?_
      rcases ofCond H with ⟨c6, H⟩ | ⟨c6, H⟩
      · refine ite_t c6 (by kernel_rfl) ?_
        refine seq_ops [] [] [(4, cB false)] [] (fun t => t) (by kernel_rfl) ?_
        refine ends_ret ?_
        obtain rfl := Option.some.inj H
        exact And.intro (.inl rfl) rfl
      · refine ite_f c6 (by kernel_rfl) ?_
        refine ends_skip ?_
        change EndsI _ _ _ _ _ _
        refine seq_in ?_
        refine seq_ops [] [] [(24, cB (p0.Steps != p1.Steps))] [] (fun t => t) (by kernel_rfl) ?_
        rcases ofCond H with ⟨c7, H⟩ | ⟨c7, H⟩
        · refine ite_t c7 (by kernel_rfl) ?_
          refine seq_ops [] [] [(4, cB false)] [] (fun t => t) (by kernel_rfl) ?_
          refine ends_ret ?_
          obtain rfl := Option.some.inj H
          exact And.intro (.inl rfl) rfl
        · refine ite_f c7 (by kernel_rfl) ?_
          refine ends_skip ?_
          change EndsI _ _ _ _ _ _
          refine seq_ops [] [] [(4, cB true)] [] (fun t => t) (by kernel_rfl) ?_
          refine ends_ret ?_
          obtain rfl := Option.some.inj H
          exact And.intro (.inl rfl) rfl

def l_eqUnitS_ir : S :=
 (.seq (.ops [⟨some 4, .mv (.v (.bool false)), none⟩])
 (.seq (.seq (.ops [⟨some 6, .mv (.t 0), none⟩, ⟨some 7, .len (.t 6), none⟩, ⟨some 8, .mv (.t 1), none⟩, ⟨some 9, .len (.t 8), none⟩, ⟨some 10, .bin .neq (.t 7) (.t 9), none⟩])
 (.ite (.t 10) (.seq (.ops [⟨some 4, .mv (.v (.bool false)), none⟩])
  .ret)
 .skip))
 (.seq (.seq (.ops [⟨some 5, .mv (.v (.int .i64 0)), none⟩])
 (.blk 0 (.loop (.seq (.seq (.ops [⟨some 11, .mv (.t 5), none⟩, ⟨some 12, .mv (.t 0), none⟩, ⟨some 13, .len (.t 12), none⟩, ⟨some 14, .bin .lss (.t 11) (.t 13), none⟩])
   (.ite (.t 14) .skip
   (.exit 0)))
   (.seq (.blk 1 (.seq (.draw 10 [⟨some 17, .mv (.t 0), none⟩, ⟨some 18, .mv (.t 5), none⟩, ⟨some 19, .iad 4 (.t 17) (.t 18), none⟩, ⟨some 20, .load 4 true (.t 19), none⟩, ⟨some 21, .mv (.t 1), none⟩, ⟨some 22, .mv (.t 5), none⟩, ⟨some 23, .iad 4 (.t 21) (.t 22), none⟩, ⟨some 24, .load 4 true (.t 23), none⟩, ⟨some 25, .call 146 [.t 20, .t 24], none⟩, ⟨some 26, .not (.t 25), none⟩])
    (.ite (.t 26) (.seq (.ops [⟨some 4, .mv (.v (.bool false)), none⟩])
     .ret)
    .skip)))
   (.ops [⟨some 15, .mv (.t 5), none⟩, ⟨some 16, .bin .add (.t 15) (.v (.int .i64 1)), none⟩, ⟨some 5, .mv (.t 16), none⟩]))))))
 (.seq (.ops [⟨some 4, .mv (.v (.bool true)), none⟩])
 .ret))))
noncomputable def X.l_eqUnitS (p0 : (List TUnit)) (p1 : (List TUnit)) : Option Bool :=
  (bif ((p0.length : Int) != (p1.length : Int)) then some false else ((loop (fun (x22 : Int) => ((bif (decide (x22 < (p0.length : Int))) then ((at' zTUnit p0 x22).bind fun v25 => ((at' zTUnit p1 x22).bind fun v27 => ((X.l_eqUnit v25 v27).bind fun v29 => (bif (!v29) then some (Sum.inr (Sum.inr false)) else some (Sum.inl (W (x22 + 1))))))) else some (Sum.inr (Sum.inl ()))) : Option (Int ⊕ (Unit ⊕ Bool)))) 0).bind fun y32 => (Sum.elim (fun (y34 : Unit) => some true) (fun (y35 : Bool) => some y35) y32)))
theorem l_eqUnitS_ok (p0 : (List TUnit)) (p1 : (List TUnit)) (r : Bool) (H : X.l_eqUnitS p0 p1 = some r) : FnOk Tryz.prog gl 75 [.c (dat 4 eTUnit zTUnit p0), .c (dat 4 eTUnit zTUnit p1)] (cB r) := by
  unfold X.l_eqUnitS at H
  refine fn_in (fn := Tryz.f75) (ir := l_eqUnitS_ir) (s1 := lit [(4, cB r)] []) Tryz.func75 (by kernel_rfl) (by kernel_rfl) (by kernel_rfl) (by kernel_rfl) (by kernel_rfl) ?_
  refine seq_ops [] [] [(0, .c (dat 4 eTUnit zTUnit p0)), (1, .c (dat 4 eTUnit zTUnit p1))] [] (fun t => t) (by kernel_rfl) ?_
  refine seq_in ?_
  refine seq_ops [] [] [(0, .c (dat 4 eTUnit zTUnit p0)), (1, .c (dat 4 eTUnit zTUnit p1)), (10, cB ((p0.length : Int) != (p1.length : Int)))] [] (fun t => lI p0 (lI p1 (t))) (by kernel_rfl) ?_
  rcases ofCond H with ⟨c2, H⟩ | ⟨c2, H⟩
  · refine ite_t c2 (by kernel_rfl) ?_
    refine seq_ops [] [] [(4, cB false)] [] (fun t => t) (by kernel_rfl) ?_
    refine ends_ret ?_
    obtain rfl := Option.some.inj H
    exact And.intro (.inl rfl) rfl
  · refine ite_f c2 (by kernel_rfl) ?_
    refine ends_skip ?_
    change EndsI _ _ _ _ _ _
    refine seq_in ?_
    refine seq_ops [] [] [(0, .c (dat 4 eTUnit zTUnit p0)), (1, .c (dat 4 eTUnit zTUnit p1)), (5, cI 0)] [] (fun t => t) (by kernel_rfl) ?_
    refine ends_blk ?_
    obtain ⟨y32, h33, H⟩ := ofBind H
    refine loop_in (fun (x : Int) => lit [(0, .c (dat 4 eTUnit zTUnit p0)), (1, .c (dat 4 eTUnit zTUnit p1)), (5, cI x)] []) (orJ (fun (z : Unit) => At (.exit 0) (lit [] [])) (fun (z : Bool) => At .ret (lit [(4, cB z)] []))) h33 ?_ ?_
    · clear H h33
      intro x22 y0 H
      refine seq_in ?_
      refine seq_ops [] [] [(0, .c (dat 4 eTUnit zTUnit p0)), (1, .c (dat 4 eTUnit zTUnit p1)), (5, cI x22), (14, cB (decide (x22 < (p0.length : Int))))] [] (fun t => lI p0 (t)) (by kernel_rfl) ?_
      rcases ofCond H with ⟨c24, H⟩ | ⟨c24, H⟩
      · refine ite_t c24 (by kernel_rfl) ?_
        refine ends_skip ?_
        change EndsI _ _ _ _ _ _
        refine seq_in ?_
        refine ends_blk ?_
        obtain ⟨v25, h26, H⟩ := ofBind H
        obtain ⟨v27, h28, H⟩ := ofBind H
        obtain ⟨v29, h30, H⟩ := ofBind H
        refine seq_draw [.cs (eTUnit v25), .cs (eTUnit v27), .res (cB v29)] [] [(0, .c (dat 4 eTUnit zTUnit p0)), (1, .c (dat 4 eTUnit zTUnit p1)), (5, cI x22), (26, cB (!v29))] [] (fun t => aI (at_lt h26) (aI (at_enc (enc := eTUnit) h26) (aI (rfl : ([] : List Nat) = []) (aI (at_lt h28) (aI (at_enc (enc := eTUnit) h28) (aI (rfl : ([] : List Nat) = []) (aI (l_eqUnit_ok v25 v27 v29 h30) (aI trivial (aI (rfl : ([] : List Nat) = []) (t)))))))))) (by kernel_rfl) ?_
        rcases ofCond H with ⟨c31, H⟩ | ⟨c31, H⟩
        · refine ite_t c31 (by kernel_rfl) ?_
          refine seq_ops [] [] [(4, cB false)] [] (fun t => t) (by kernel_rfl) ?_
          refine ends_ret ?_
          obtain rfl := Option.some.inj H
          exact And.intro (by simp) (And.intro rfl rfl)
        · refine ite_f c31 (by kernel_rfl) ?_
          refine ends_skip ?_
          change EndsI _ _ _ _ _ _
          refine one_ops [] [] [(0, .c (dat 4 eTUnit zTUnit p0)), (1, .c (dat 4 eTUnit zTUnit p1)), (5, cI (W (x22 + 1)))] [] (fun t => t) (by kernel_rfl) ?_
          obtain rfl := Option.some.inj H
          exact And.intro rfl rfl
      · refine ite_f c24 (by kernel_rfl) ?_
        refine tell [] [] [] (fun t => t) (by kernel_rfl) ?_
        refine ends_exit ?_
        obtain rfl := Option.some.inj H
        exact And.intro (by simp) (And.intro rfl rfl)
    · clear h33
      cases y32 with
      | inl y34 =>
        replace H := ofInl H
        intro e s q
        obtain ⟨rfl, rfl⟩ := q
        change EndsI _ _ _ _ _ _
        refine seq_ops [] [] [(4, cB true)] [] (fun t => t) (by kernel_rfl) ?_
        refine ends_ret ?_
        obtain rfl := Option.some.inj H
        exact And.intro (.inl rfl) rfl
      | inr y35 =>
        replace H := ofInr H
        intro e s q
        obtain ⟨rfl, rfl⟩ := q
        obtain rfl := Option.some.inj H
        exact And.intro (.inl rfl) rfl

def l_eqState_ir : S :=
 (.seq (.ops [⟨some 2, .box 3 (.t 0), none⟩, ⟨some 3, .box 3 (.t 1), none⟩, ⟨some 4, .mv (.v (.bool false)), none⟩])
 (.seq (.seq (.ops [⟨some 5, .fad 0 (.t 2), none⟩, ⟨some 6, .load 1 false (.t 5), none⟩, ⟨some 7, .fad 0 (.t 3), none⟩, ⟨some 8, .load 1 false (.t 7), none⟩, ⟨some 9, .bin .neq (.t 6) (.t 8), none⟩])
 (.ite (.t 9) (.seq (.ops [⟨some 4, .mv (.v (.bool false)), none⟩])
  .ret)
 .skip))
 (.seq (.seq (.ops [⟨some 10, .fad 1 (.t 2), none⟩, ⟨some 11, .load 1 false (.t 10), none⟩, ⟨some 12, .fad 1 (.t 3), none⟩, ⟨some 13, .load 1 false (.t 12), none⟩, ⟨some 14, .bin .neq (.t 11) (.t 13), none⟩])
 (.ite (.t 14) (.seq (.ops [⟨some 4, .mv (.v (.bool false)), none⟩])
  .ret)
 .skip))
 (.seq (.seq (.ops [⟨some 15, .fad 2 (.t 2), none⟩, ⟨some 16, .load 1 false (.t 15), none⟩, ⟨some 17, .fad 2 (.t 3), none⟩, ⟨some 18, .load 1 false (.t 17), none⟩, ⟨some 19, .call 75 [.t 16, .t 18], none⟩, ⟨some 20, .not (.t 19), none⟩])
 (.ite (.t 20) (.seq (.ops [⟨some 4, .mv (.v (.bool false)), none⟩])
  .ret)
 .skip))
 (.seq (.ops [⟨some 4, .mv (.v (.bool true)), none⟩])
 .ret)))))
noncomputable def X.l_eqState (p0 : TState) (p1 : TState) : Option Bool :=
  (bif (p0.Turn != p1.Turn) then some false else (bif (p0.Weather != p1.Weather) then some false else ((X.l_eqUnitS p0.Units p1.Units).bind fun v5 => (bif (!v5) then some false else some true))))
theorem l_eqState_ok (p0 : TState) (p1 : TState) (r : Bool) (H : X.l_eqState p0 p1 = some r) : FnOk Tryz.prog gl 29 [.agg (eTState p0), .agg (eTState p1)] (cB r) := by
  unfold X.l_eqState at H
  refine fn_in (fn := Tryz.f29) (ir := l_eqState_ir) (s1 := lit [(4, cB r)] []) Tryz.func29 (by kernel_rfl) (by kernel_rfl) (by kernel_rfl) (by kernel_rfl) (by kernel_rfl) ?_
  refine seq_ops [] [] [(2, .c (.pk 2 0)), (3, .c (.pk 3 0))] [(2, .var (eTState p0) false), (3, .var (eTState p1) false)] (fun t => t) (by kernel_rfl) ?_
  refine seq_in ?_
  refine seq_ops [] [] [(2, .c (.pk 2 0)), (3, .c (.pk 3 0)), (9, cB (p0.Turn != p1.Turn))] [(2, .var (eTState p0) false), (3, .var (eTState p1) false)] (fun t => t) (by kernel_rfl) ?_
  rcases ofCond H with ⟨c2, H⟩ | ⟨c2, H⟩
  · refine ite_t c2 (by kernel_rfl) ?_
    refine seq_ops [] [] [(4, cB false)] [] (fun t => t) (by kernel_rfl) ?_
    refine ends_ret ?_
    obtain rfl := Option.some.inj H
    exact And.intro (.inl rfl) rfl
  · refine ite_f c2 (by kernel_rfl) ?_
    refine ends_skip ?_
    change EndsI _ _ _ _ _ _
    refine seq_in ?_
    refine seq_ops [] [] [(2, .c (.pk 2 0)), (3, .c (.pk 3 0)), (14, cB (p0.Weather != p1.Weather))] [(2, .var (eTState p0) false), (3, .var (eTState p1) false)] (fun t => t) (by kernel_rfl) ?_
    rcases ofCond H with ⟨c4, H⟩ | ⟨c4, H⟩
    · refine ite_t c4 (by kernel_rfl) ?_
      refine seq_ops [] [] [(4, cB false)] [] (fun t => t) (by kernel_rfl) ?_
      refine ends_ret ?_
      obtain rfl := Option.some.inj H
      exact And.intro (.inl rfl) rfl
    · refine ite_f c4 (by kernel_rfl) ?_
      refine ends_skip ?_
      change EndsI _ _ _ _ _ _
      refine seq_in ?_
      obtain ⟨v5, h6, H⟩ := ofBind H
      refine seq_ops [.res (cB v5)] [] [(20, cB (!v5))] [] (fun t => aI (l_eqUnitS_ok p0.Units p1.Units v5 h6) (t)) (by kernel_rfl) ?_
      rcases ofCond H with ⟨c7, H⟩ | ⟨c7, H⟩
      · refine ite_t c7 (by kernel_rfl) ?_
        refine seq_ops [] [] [(4, cB false)] [] (fun t => t) (by kernel_rfl) ?_
        refine ends_ret ?_
        obtain rfl := Option.some.inj H
        exact And.intro (.inl rfl) rfl
      · refine ite_f c7 (by kernel_rfl) ?_
        refine ends_skip ?_
        change EndsI _ _ _ _ _ _
        refine seq_ops [] [] [(4, cB true)] [] (fun t => t) (by kernel_rfl) ?_
        refine ends_ret ?_
        obtain rfl := Option.some.inj H
        exact And.intro (.inl rfl) rfl

def l_eqGoal_ir : S :=
 (.seq (.ops [⟨some 2, .box 2 (.t 0), none⟩, ⟨some 3, .box 2 (.t 1), none⟩, ⟨some 4, .mv (.v (.bool false)), none⟩])
 (.seq (.seq (.ops [⟨some 5, .fad 0 (.t 2), none⟩, ⟨some 6, .load 1 false (.t 5), none⟩, ⟨some 7, .fad 0 (.t 3), none⟩, ⟨some 8, .load 1 false (.t 7), none⟩, ⟨some 9, .bin .neq (.t 6) (.t 8), none⟩])
 (.ite (.t 9) (.seq (.ops [⟨some 4, .mv (.v (.bool false)), none⟩])
  .ret)
 .skip))
 (.seq (.seq (.ops [⟨some 10, .fad 1 (.t 2), none⟩, ⟨some 11, .load 1 false (.t 10), none⟩, ⟨some 12, .fad 1 (.t 3), none⟩, ⟨some 13, .load 1 false (.t 12), none⟩, ⟨some 14, .bin .neq (.t 11) (.t 13), none⟩])
 (.ite (.t 14) (.seq (.ops [⟨some 4, .mv (.v (.bool false)), none⟩])
  .ret)
 .skip))
 (.seq (.ops [⟨some 4, .mv (.v (.bool true)), none⟩])
 .ret))))
noncomputable def X.l_eqGoal (p0 : TGoal) (p1 : TGoal) : Option Bool :=
  (bif (p0.At != p1.At) then some false else (bif (p0.Points != p1.Points) then some false else some true))
theorem l_eqGoal_ok (p0 : TGoal) (p1 : TGoal) (r : Bool) (H : X.l_eqGoal p0 p1 = some r) : FnOk Tryz.prog gl 154 [.agg (eTGoal p0), .agg (eTGoal p1)] (cB r) := by
  unfold X.l_eqGoal at H
  refine fn_in (fn := Tryz.f154) (ir := l_eqGoal_ir) (s1 := lit [(4, cB r)] []) Tryz.func154 (by kernel_rfl) (by kernel_rfl) (by kernel_rfl) (by kernel_rfl) (by kernel_rfl) ?_
  refine seq_ops [] [] [(2, .c (.pk 2 0)), (3, .c (.pk 3 0))] [(2, .var (eTGoal p0) false), (3, .var (eTGoal p1) false)] (fun t => t) (by kernel_rfl) ?_
  refine seq_in ?_
  refine seq_ops [] [] [(2, .c (.pk 2 0)), (3, .c (.pk 3 0)), (9, cB (p0.At != p1.At))] [(2, .var (eTGoal p0) false), (3, .var (eTGoal p1) false)] (fun t => t) (by kernel_rfl) ?_
  rcases ofCond H with ⟨c2, H⟩ | ⟨c2, H⟩
  · refine ite_t c2 (by kernel_rfl) ?_
    refine seq_ops [] [] [(4, cB false)] [] (fun t => t) (by kernel_rfl) ?_
    refine ends_ret ?_
    obtain rfl := Option.some.inj H
    exact And.intro (.inl rfl) rfl
  · refine ite_f c2 (by kernel_rfl) ?_
    refine ends_skip ?_
    change EndsI _ _ _ _ _ _
    refine seq_in ?_
    refine seq_ops [] [] [(14, cB (p0.Points != p1.Points))] [] (fun t => t) (by kernel_rfl) ?_
    rcases ofCond H with ⟨c3, H⟩ | ⟨c3, H⟩
    · refine ite_t c3 (by kernel_rfl) ?_
      refine seq_ops [] [] [(4, cB false)] [] (fun t => t) (by kernel_rfl) ?_
      refine ends_ret ?_
      obtain rfl := Option.some.inj H
      exact And.intro (.inl rfl) rfl
    · refine ite_f c3 (by kernel_rfl) ?_
      refine ends_skip ?_
      change EndsI _ _ _ _ _ _
      refine seq_ops [] [] [(4, cB true)] [] (fun t => t) (by kernel_rfl) ?_
      refine ends_ret ?_
      obtain rfl := Option.some.inj H
      exact And.intro (.inl rfl) rfl

def l_eqGoalS_ir : S :=
 (.seq (.ops [⟨some 4, .mv (.v (.bool false)), none⟩])
 (.seq (.seq (.ops [⟨some 6, .mv (.t 0), none⟩, ⟨some 7, .len (.t 6), none⟩, ⟨some 8, .mv (.t 1), none⟩, ⟨some 9, .len (.t 8), none⟩, ⟨some 10, .bin .neq (.t 7) (.t 9), none⟩])
 (.ite (.t 10) (.seq (.ops [⟨some 4, .mv (.v (.bool false)), none⟩])
  .ret)
 .skip))
 (.seq (.seq (.ops [⟨some 5, .mv (.v (.int .i64 0)), none⟩])
 (.blk 0 (.loop (.seq (.seq (.ops [⟨some 11, .mv (.t 5), none⟩, ⟨some 12, .mv (.t 0), none⟩, ⟨some 13, .len (.t 12), none⟩, ⟨some 14, .bin .lss (.t 11) (.t 13), none⟩])
   (.ite (.t 14) .skip
   (.exit 0)))
   (.seq (.blk 1 (.seq (.draw 10 [⟨some 17, .mv (.t 0), none⟩, ⟨some 18, .mv (.t 5), none⟩, ⟨some 19, .iad 2 (.t 17) (.t 18), none⟩, ⟨some 20, .load 2 true (.t 19), none⟩, ⟨some 21, .mv (.t 1), none⟩, ⟨some 22, .mv (.t 5), none⟩, ⟨some 23, .iad 2 (.t 21) (.t 22), none⟩, ⟨some 24, .load 2 true (.t 23), none⟩, ⟨some 25, .call 154 [.t 20, .t 24], none⟩, ⟨some 26, .not (.t 25), none⟩])
    (.ite (.t 26) (.seq (.ops [⟨some 4, .mv (.v (.bool false)), none⟩])
     .ret)
    .skip)))
   (.ops [⟨some 15, .mv (.t 5), none⟩, ⟨some 16, .bin .add (.t 15) (.v (.int .i64 1)), none⟩, ⟨some 5, .mv (.t 16), none⟩]))))))
 (.seq (.ops [⟨some 4, .mv (.v (.bool true)), none⟩])
 .ret))))
noncomputable def X.l_eqGoalS (p0 : (List TGoal)) (p1 : (List TGoal)) : Option Bool :=
  (bif ((p0.length : Int) != (p1.length : Int)) then some false else ((loop (fun (x22 : Int) => ((bif (decide (x22 < (p0.length : Int))) then ((at' zTGoal p0 x22).bind fun v25 => ((at' zTGoal p1 x22).bind fun v27 => ((X.l_eqGoal v25 v27).bind fun v29 => (bif (!v29) then some (Sum.inr (Sum.inr false)) else some (Sum.inl (W (x22 + 1))))))) else some (Sum.inr (Sum.inl ()))) : Option (Int ⊕ (Unit ⊕ Bool)))) 0).bind fun y32 => (Sum.elim (fun (y34 : Unit) => some true) (fun (y35 : Bool) => some y35) y32)))
theorem l_eqGoalS_ok (p0 : (List TGoal)) (p1 : (List TGoal)) (r : Bool) (H : X.l_eqGoalS p0 p1 = some r) : FnOk Tryz.prog gl 86 [.c (dat 2 eTGoal zTGoal p0), .c (dat 2 eTGoal zTGoal p1)] (cB r) := by
  unfold X.l_eqGoalS at H
  refine fn_in (fn := Tryz.f86) (ir := l_eqGoalS_ir) (s1 := lit [(4, cB r)] []) Tryz.func86 (by kernel_rfl) (by kernel_rfl) (by kernel_rfl) (by kernel_rfl) (by kernel_rfl) ?_
  refine seq_ops [] [] [(0, .c (dat 2 eTGoal zTGoal p0)), (1, .c (dat 2 eTGoal zTGoal p1))] [] (fun t => t) (by kernel_rfl) ?_
  refine seq_in ?_
  refine seq_ops [] [] [(0, .c (dat 2 eTGoal zTGoal p0)), (1, .c (dat 2 eTGoal zTGoal p1)), (10, cB ((p0.length : Int) != (p1.length : Int)))] [] (fun t => lI p0 (lI p1 (t))) (by kernel_rfl) ?_
  rcases ofCond H with ⟨c2, H⟩ | ⟨c2, H⟩
  · refine ite_t c2 (by kernel_rfl) ?_
    refine seq_ops [] [] [(4, cB false)] [] (fun t => t) (by kernel_rfl) ?_
    refine ends_ret ?_
    obtain rfl := Option.some.inj H
    exact And.intro (.inl rfl) rfl
  · refine ite_f c2 (by kernel_rfl) ?_
    refine ends_skip ?_
    change EndsI _ _ _ _ _ _
    refine seq_in ?_
    refine seq_ops [] [] [(0, .c (dat 2 eTGoal zTGoal p0)), (1, .c (dat 2 eTGoal zTGoal p1)), (5, cI 0)] [] (fun t => t) (by kernel_rfl) ?_
    refine ends_blk ?_
    obtain ⟨y32, h33, H⟩ := ofBind H
    refine loop_in (fun (x : Int) => lit [(0, .c (dat 2 eTGoal zTGoal p0)), (1, .c (dat 2 eTGoal zTGoal p1)), (5, cI x)] []) (orJ (fun (z : Unit) => At (.exit 0) (lit [] [])) (fun (z : Bool) => At .ret (lit [(4, cB z)] []))) h33 ?_ ?_
    · clear H h33
      intro x22 y0 H
      refine seq_in ?_
      refine seq_ops [] [] [(0, .c (dat 2 eTGoal zTGoal p0)), (1, .c (dat 2 eTGoal zTGoal p1)), (5, cI x22), (14, cB (decide (x22 < (p0.length : Int))))] [] (fun t => lI p0 (t)) (by kernel_rfl) ?_
      rcases ofCond H with ⟨c24, H⟩ | ⟨c24, H⟩
      · refine ite_t c24 (by kernel_rfl) ?_
        refine ends_skip ?_
        change EndsI _ _ _ _ _ _
        refine seq_in ?_
        refine ends_blk ?_
        obtain ⟨v25, h26, H⟩ := ofBind H
        obtain ⟨v27, h28, H⟩ := ofBind H
        obtain ⟨v29, h30, H⟩ := ofBind H
        refine seq_draw [.cs (eTGoal v25), .cs (eTGoal v27), .res (cB v29)] [] [(0, .c (dat 2 eTGoal zTGoal p0)), (1, .c (dat 2 eTGoal zTGoal p1)), (5, cI x22), (26, cB (!v29))] [] (fun t => aI (at_lt h26) (aI (at_enc (enc := eTGoal) h26) (aI (rfl : ([] : List Nat) = []) (aI (at_lt h28) (aI (at_enc (enc := eTGoal) h28) (aI (rfl : ([] : List Nat) = []) (aI (l_eqGoal_ok v25 v27 v29 h30) (aI trivial (aI (rfl : ([] : List Nat) = []) (t)))))))))) (by kernel_rfl) ?_
        rcases ofCond H with ⟨c31, H⟩ | ⟨c31, H⟩
        · refine ite_t c31 (by kernel_rfl) ?_
          refine seq_ops [] [] [(4, cB false)] [] (fun t => t) (by kernel_rfl) ?_
          refine ends_ret ?_
          obtain rfl := Option.some.inj H
          exact And.intro (by simp) (And.intro rfl rfl)
        · refine ite_f c31 (by kernel_rfl) ?_
          refine ends_skip ?_
          change EndsI _ _ _ _ _ _
          refine one_ops [] [] [(0, .c (dat 2 eTGoal zTGoal p0)), (1, .c (dat 2 eTGoal zTGoal p1)), (5, cI (W (x22 + 1)))] [] (fun t => t) (by kernel_rfl) ?_
          obtain rfl := Option.some.inj H
          exact And.intro rfl rfl
      · refine ite_f c24 (by kernel_rfl) ?_
        refine tell [] [] [] (fun t => t) (by kernel_rfl) ?_
        refine ends_exit ?_
        obtain rfl := Option.some.inj H
        exact And.intro (by simp) (And.intro rfl rfl)
    · clear h33
      cases y32 with
      | inl y34 =>
        replace H := ofInl H
        intro e s q
        obtain ⟨rfl, rfl⟩ := q
        change EndsI _ _ _ _ _ _
        refine seq_ops [] [] [(4, cB true)] [] (fun t => t) (by kernel_rfl) ?_
        refine ends_ret ?_
        obtain rfl := Option.some.inj H
        exact And.intro (.inl rfl) rfl
      | inr y35 =>
        replace H := ofInr H
        intro e s q
        obtain ⟨rfl, rfl⟩ := q
        obtain rfl := Option.some.inj H
        exact And.intro (.inl rfl) rfl

def l_eqConditions_ir : S :=
 (.seq (.ops [⟨some 2, .box 3 (.t 0), none⟩, ⟨some 3, .box 3 (.t 1), none⟩, ⟨some 4, .mv (.v (.bool false)), none⟩])
 (.seq (.seq (.ops [⟨some 5, .fad 0 (.t 2), none⟩, ⟨some 6, .load 1 false (.t 5), none⟩, ⟨some 7, .fad 0 (.t 3), none⟩, ⟨some 8, .load 1 false (.t 7), none⟩, ⟨some 9, .call 86 [.t 6, .t 8], none⟩, ⟨some 10, .not (.t 9), none⟩])
 (.ite (.t 10) (.seq (.ops [⟨some 4, .mv (.v (.bool false)), none⟩])
  .ret)
 .skip))
 (.seq (.seq (.ops [⟨some 11, .fad 1 (.t 2), none⟩, ⟨some 12, .load 1 false (.t 11), none⟩, ⟨some 13, .fad 1 (.t 3), none⟩, ⟨some 14, .load 1 false (.t 13), none⟩, ⟨some 15, .bin .neq (.t 12) (.t 14), none⟩])
 (.ite (.t 15) (.seq (.ops [⟨some 4, .mv (.v (.bool false)), none⟩])
  .ret)
 .skip))
 (.seq (.seq (.ops [⟨some 16, .fad 2 (.t 2), none⟩, ⟨some 17, .load 1 false (.t 16), none⟩, ⟨some 18, .fad 2 (.t 3), none⟩, ⟨some 19, .load 1 false (.t 18), none⟩, ⟨some 20, .bin .neq (.t 17) (.t 19), none⟩])
 (.ite (.t 20) (.seq (.ops [⟨some 4, .mv (.v (.bool false)), none⟩])
  .ret)
 .skip))
 (.seq (.ops [⟨some 4, .mv (.v (.bool true)), none⟩])
 .ret)))))
noncomputable def X.l_eqConditions (p0 : TConditions) (p1 : TConditions) : Option Bool :=
  ((X.l_eqGoalS p0.Goals p1.Goals).bind fun v4 => (bif (!v4) then some false else (bif (p0.Step != p1.Step) then some false else (bif (p0.Margin != p1.Margin) then some false else some true))))
theorem l_eqConditions_ok (p0 : TConditions) (p1 : TConditions) (r : Bool) (H : X.l_eqConditions p0 p1 = some r) : FnOk Tryz.prog gl 30 [.agg (eTConditions p0), .agg (eTConditions p1)] (cB r) := by
  unfold X.l_eqConditions at H
  refine fn_in (fn := Tryz.f30) (ir := l_eqConditions_ir) (s1 := lit [(4, cB r)] []) Tryz.func30 (by kernel_rfl) (by kernel_rfl) (by kernel_rfl) (by kernel_rfl) (by kernel_rfl) ?_
  refine seq_ops [] [] [(2, .c (.pk 2 0)), (3, .c (.pk 3 0))] [(2, .var (eTConditions p0) false), (3, .var (eTConditions p1) false)] (fun t => t) (by kernel_rfl) ?_
  refine seq_in ?_
  obtain ⟨v4, h5, H⟩ := ofBind H
  refine seq_ops [.res (cB v4)] [] [(2, .c (.pk 2 0)), (3, .c (.pk 3 0)), (10, cB (!v4))] [(2, .var (eTConditions p0) false), (3, .var (eTConditions p1) false)] (fun t => aI (l_eqGoalS_ok p0.Goals p1.Goals v4 h5) (t)) (by kernel_rfl) ?_
  rcases ofCond H with ⟨c6, H⟩ | ⟨c6, H⟩
  · refine ite_t c6 (by kernel_rfl) ?_
    refine seq_ops [] [] [(4, cB false)] [] (fun t => t) (by kernel_rfl) ?_
    refine ends_ret ?_
    obtain rfl := Option.some.inj H
    exact And.intro (.inl rfl) rfl
  · refine ite_f c6 (by kernel_rfl) ?_
    refine ends_skip ?_
    change EndsI _ _ _ _ _ _
    refine seq_in ?_
    refine seq_ops [] [] [(2, .c (.pk 2 0)), (3, .c (.pk 3 0)), (15, cB (p0.Step != p1.Step))] [(2, .var (eTConditions p0) false), (3, .var (eTConditions p1) false)] (fun t => t) (by kernel_rfl) ?_
    rcases ofCond H with ⟨c8, H⟩ | ⟨c8, H⟩
    · refine ite_t c8 (by kernel_rfl) ?_
      refine seq_ops [] [] [(4, cB false)] [] (fun t => t) (by kernel_rfl) ?_
      refine ends_ret ?_
      obtain rfl := Option.some.inj H
      exact And.intro (.inl rfl) rfl
    · refine ite_f c8 (by kernel_rfl) ?_
      refine ends_skip ?_
      change EndsI _ _ _ _ _ _
      refine seq_in ?_
      refine seq_ops [] [] [(20, cB (p0.Margin != p1.Margin))] [] (fun t => t) (by kernel_rfl) ?_
      rcases ofCond H with ⟨c9, H⟩ | ⟨c9, H⟩
      · refine ite_t c9 (by kernel_rfl) ?_
        refine seq_ops [] [] [(4, cB false)] [] (fun t => t) (by kernel_rfl) ?_
        refine ends_ret ?_
        obtain rfl := Option.some.inj H
        exact And.intro (.inl rfl) rfl
      · refine ite_f c9 (by kernel_rfl) ?_
        refine ends_skip ?_
        change EndsI _ _ _ _ _ _
        refine seq_ops [] [] [(4, cB true)] [] (fun t => t) (by kernel_rfl) ?_
        refine ends_ret ?_
        obtain rfl := Option.some.inj H
        exact And.intro (.inl rfl) rfl

def l_FnExactNearestGoal_ir : S :=
 (.seq (.ops [⟨some 4, .box 12 (.t 0), none⟩, ⟨some 5, .box 3 (.t 1), none⟩, ⟨some 6, .box 3 (.t 2), none⟩, ⟨some 8, .mv (.v (.bool false)), none⟩])
 (.seq (.ops [⟨some 9, .mv (.v (.int .i64 1048576)), none⟩])
 (.seq (.ops [⟨some 19, .load 12 true (.t 4), none⟩, ⟨some 20, .mv (.t 9), none⟩, ⟨some 21, .call 15 [.t 19, .t 20], none⟩, ⟨some 9, .mv (.t 21), none⟩])
 (.seq (.seq (.ops [⟨some 22, .mv (.t 9), none⟩, ⟨some 23, .bin .lss (.t 22) (.v (.int .i64 0)), none⟩])
 (.ite (.t 23) (.seq (.ops [⟨some 8, .mv (.v (.bool true)), none⟩])
  .ret)
 .skip))
 (.seq (.ops [⟨some 24, .load 3 true (.t 5), none⟩, ⟨some 25, .mv (.t 9), none⟩, ⟨some 26, .call 23 [.t 24, .t 25], none⟩, ⟨some 9, .mv (.t 26), none⟩])
 (.seq (.seq (.ops [⟨some 27, .mv (.t 9), none⟩, ⟨some 28, .bin .lss (.t 27) (.v (.int .i64 0)), none⟩])
 (.ite (.t 28) (.seq (.ops [⟨some 8, .mv (.v (.bool true)), none⟩])
  .ret)
 .skip))
 (.seq (.ops [⟨some 29, .load 3 true (.t 6), none⟩, ⟨some 30, .mv (.t 9), none⟩, ⟨some 31, .call 24 [.t 29, .t 30], none⟩, ⟨some 9, .mv (.t 31), none⟩])
 (.seq (.seq (.ops [⟨some 32, .mv (.t 9), none⟩, ⟨some 33, .bin .lss (.t 32) (.v (.int .i64 0)), none⟩])
 (.ite (.t 33) (.seq (.ops [⟨some 8, .mv (.v (.bool true)), none⟩])
  .ret)
 .skip))
 (.seq (.draw 15 [⟨some 35, .load 12 true (.t 4), none⟩, ⟨some 36, .call 18 [.t 35], none⟩, ⟨some 37, .load 3 true (.t 5), none⟩, ⟨some 38, .call 26 [.t 37], none⟩, ⟨some 39, .load 3 true (.t 6), none⟩, ⟨some 40, .call 27 [.t 39], none⟩, ⟨some 41, .mv (.t 3), none⟩, ⟨some 42, .call 25 [.t 36, .t 38, .t 40, .t 41], none⟩, ⟨some 34, .mv (.t 42), none⟩, ⟨some 43, .ext (.t 34) 0, none⟩, ⟨some 44, .ext (.t 34) 1, none⟩, ⟨some 45, .ext (.t 34) 2, none⟩, ⟨some 10, .mv (.t 43), none⟩, ⟨some 11, .mv (.t 44), none⟩, ⟨some 12, .mv (.t 45), none⟩])
 (.seq (.ops [⟨some 46, .load 12 true (.t 4), none⟩, ⟨some 47, .call 18 [.t 46], none⟩, ⟨some 13, .alloc [.nil, .nil, .int .i64 0, .int .i64 0, .int .i64 0, .int .i64 0, .int .i64 0, .int .i64 0, .int .i64 0, .nil, .nil, .nil], none⟩, ⟨none, .store 12 (.t 13) (.t 47), none⟩])
 (.seq (.ops [⟨some 48, .load 3 true (.t 5), none⟩, ⟨some 49, .call 26 [.t 48], none⟩, ⟨some 14, .alloc [.int .i64 0, .int .i64 0, .nil], none⟩, ⟨none, .store 3 (.t 14) (.t 49), none⟩])
 (.seq (.ops [⟨some 50, .load 3 true (.t 6), none⟩, ⟨some 51, .call 27 [.t 50], none⟩, ⟨some 15, .alloc [.nil, .int .i64 0, .int .i64 0], none⟩, ⟨none, .store 3 (.t 15) (.t 51), none⟩])
 (.seq (.ops [⟨some 53, .load 12 true (.t 13), none⟩, ⟨some 54, .load 3 true (.t 14), none⟩, ⟨some 55, .load 3 true (.t 15), none⟩, ⟨some 56, .mv (.t 3), none⟩, ⟨some 57, .call 28 [.t 53, .t 54, .t 55, .t 56], none⟩, ⟨some 52, .mv (.t 57), none⟩, ⟨some 58, .ext (.t 52) 0, none⟩, ⟨some 59, .ext (.t 52) 1, none⟩, ⟨some 60, .ext (.t 52) 2, none⟩, ⟨some 16, .mv (.t 58), none⟩, ⟨some 17, .mv (.t 59), none⟩, ⟨some 18, .mv (.t 60), none⟩])
 (.seq (.seq (.ops [⟨some 61, .mv (.t 16), none⟩, ⟨some 62, .mv (.t 10), none⟩, ⟨some 63, .bin .neq (.t 61) (.t 62), none⟩, ⟨some 64, .mv (.t 63), none⟩, ⟨some 65, .mv (.t 17), some (64, false)⟩, ⟨some 66, .mv (.t 11), some (64, false)⟩, ⟨some 67, .bin .neq (.t 65) (.t 66), some (64, false)⟩, ⟨some 68, .pick (.t 64) (.v (.bool true)) (.t 67), none⟩, ⟨some 69, .mv (.t 68), none⟩, ⟨some 70, .mv (.t 18), some (69, false)⟩, ⟨some 71, .mv (.t 12), some (69, false)⟩, ⟨some 72, .bqe true (.t 70) (.t 71), some (69, false)⟩, ⟨some 73, .pick (.t 69) (.v (.bool true)) (.t 72), none⟩])
 (.ite (.t 73) (.seq (.ops [⟨some 8, .mv (.v (.bool false)), none⟩])
  .ret)
 .skip))
 (.seq (.seq (.draw 5 [⟨some 74, .load 12 true (.t 13), none⟩, ⟨some 75, .load 12 true (.t 4), none⟩, ⟨some 76, .call 18 [.t 75], none⟩, ⟨some 77, .call 21 [.t 74, .t 76], none⟩, ⟨some 78, .not (.t 77), none⟩])
 (.ite (.t 78) (.seq (.ops [⟨some 8, .mv (.v (.bool false)), none⟩])
  .ret)
 .skip))
 (.seq (.seq (.draw 5 [⟨some 79, .load 3 true (.t 14), none⟩, ⟨some 80, .load 3 true (.t 5), none⟩, ⟨some 81, .call 26 [.t 80], none⟩, ⟨some 82, .call 29 [.t 79, .t 81], none⟩, ⟨some 83, .not (.t 82), none⟩])
 (.ite (.t 83) (.seq (.ops [⟨some 8, .mv (.v (.bool false)), none⟩])
  .ret)
 .skip))
 (.seq (.seq (.draw 5 [⟨some 84, .load 3 true (.t 15), none⟩, ⟨some 85, .load 3 true (.t 6), none⟩, ⟨some 86, .call 27 [.t 85], none⟩, ⟨some 87, .call 30 [.t 84, .t 86], none⟩, ⟨some 88, .not (.t 87), none⟩])
 (.ite (.t 88) (.seq (.ops [⟨some 8, .mv (.v (.bool false)), none⟩])
  .ret)
 .skip))
 (.seq (.ops [⟨some 8, .mv (.v (.bool true)), none⟩])
 .ret))))))))))))))))))
noncomputable def X.l_FnExactNearestGoal (p0 : TBoard) (p1 : TState) (p2 : TConditions) (p3 : Int) : Option Bool :=
  ((X.l_szBoard p0 1048576).bind fun v1 => (bif (decide (v1 < 0)) then some true else ((X.l_szState p1 v1).bind fun v5 => (bif (decide (v5 < 0)) then some true else ((X.l_szConditions p2 v5).bind fun v9 => (bif (decide (v9 < 0)) then some true else ((X.l_toBoard p0).bind fun v13 => ((X.l_toState p1).bind fun v15 => ((X.l_toConditions p2).bind fun v17 => ((X.s_NearestGoal v13 v15 v17 p3).bind fun v19 => ((X.l_toBoard p0).bind fun v21 => ((X.l_toState p1).bind fun v23 => ((X.l_toConditions p2).bind fun v25 => ((X.i_NearestGoal v21 v23 v25 p3).bind fun v27 => (bif (v27.1 != v19.1) then some false else (bif (v27.2.1 != v19.2.1) then some false else (bif (!(v27.2.2 == v19.2.2)) then some false else ((X.l_toBoard p0).bind fun v40 => ((X.l_eqBoard v21 v40).bind fun v42 => (bif (!v42) then some false else ((X.l_toState p1).bind fun v50 => ((X.l_eqState v23 v50).bind fun v52 => (bif (!v52) then some false else ((X.l_toConditions p2).bind fun v55 => ((X.l_eqConditions v25 v55).bind fun v57 => (bif (!v57) then some false else some true))))))))))))))))))))))))))
theorem l_FnExactNearestGoal_ok (p0 : TBoard) (p1 : TState) (p2 : TConditions) (p3 : Int) (r : Bool) (H : X.l_FnExactNearestGoal p0 p1 p2 p3 = some r) : FnOk Tryz.prog gl 4 [.agg (eTBoard p0), .agg (eTState p1), .agg (eTConditions p2), cI p3] (cB r) := by
  unfold X.l_FnExactNearestGoal at H
  refine fn_in (fn := Tryz.f4) (ir := l_FnExactNearestGoal_ir) (s1 := lit [(8, cB r)] []) Tryz.func4 (by kernel_rfl) (by kernel_rfl) (by kernel_rfl) (by kernel_rfl) (by kernel_rfl) ?_
  refine seq_ops [] [] [(3, cI p3), (4, .c (.pk 4 0)), (5, .c (.pk 5 0)), (6, .c (.pk 6 0))] [(4, .var (eTBoard p0) false), (5, .var (eTState p1) false), (6, .var (eTConditions p2) false)] (fun t => t) (by kernel_rfl) ?_
  refine seq_ops [] [] [(3, cI p3), (4, .c (.pk 4 0)), (5, .c (.pk 5 0)), (6, .c (.pk 6 0)), (9, cI 1048576)] [(4, .var (eTBoard p0) false), (5, .var (eTState p1) false), (6, .var (eTConditions p2) false)] (fun t => t) (by kernel_rfl) ?_
  obtain ⟨v1, h2, H⟩ := ofBind H
  refine seq_ops [.res (cI v1)] [] [(3, cI p3), (4, .c (.pk 4 0)), (5, .c (.pk 5 0)), (6, .c (.pk 6 0)), (9, cI v1)] [(4, .var (eTBoard p0) false), (5, .var (eTState p1) false), (6, .var (eTConditions p2) false)] (fun t => aI (l_szBoard_ok p0 1048576 v1 h2) (t)) (by kernel_rfl) ?_
  refine seq_in ?_
  refine seq_ops [] [] [(3, cI p3), (4, .c (.pk 4 0)), (5, .c (.pk 5 0)), (6, .c (.pk 6 0)), (9, cI v1), (23, cB (decide (v1 < 0)))] [(4, .var (eTBoard p0) false), (5, .var (eTState p1) false), (6, .var (eTConditions p2) false)] (fun t => t) (by kernel_rfl) ?_
  rcases ofCond H with ⟨c4, H⟩ | ⟨c4, H⟩
  · refine ite_t c4 (by kernel_rfl) ?_
    refine seq_ops [] [] [(8, cB true)] [] (fun t => t) (by kernel_rfl) ?_
    refine ends_ret ?_
    obtain rfl := Option.some.inj H
    exact And.intro (.inl rfl) rfl
  · refine ite_f c4 (by kernel_rfl) ?_
    refine ends_skip ?_
    change EndsI _ _ _ _ _ _
    obtain ⟨v5, h6, H⟩ := ofBind H
    refine seq_ops [.res (cI v5)] [] [(3, cI p3), (4, .c (.pk 4 0)), (5, .c (.pk 5 0)), (6, .c (.pk 6 0)), (9, cI v5)] [(4, .var (eTBoard p0) false), (5, .var (eTState p1) false), (6, .var (eTConditions p2) false)] (fun t => aI (l_szState_ok p1 v1 v5 h6) (t)) (by kernel_rfl) ?_
    refine seq_in ?_
    refine seq_ops [] [] [(3, cI p3), (4, .c (.pk 4 0)), (5, .c (.pk 5 0)), (6, .c (.pk 6 0)), (9, cI v5), (28, cB (decide (v5 < 0)))] [(4, .var (eTBoard p0) false), (5, .var (eTState p1) false), (6, .var (eTConditions p2) false)] (fun t => t) (by kernel_rfl) ?_
    rcases ofCond H with ⟨c8, H⟩ | ⟨c8, H⟩
    · refine ite_t c8 (by kernel_rfl) ?_
      refine seq_ops [] [] [(8, cB true)] [] (fun t => t) (by kernel_rfl) ?_
      refine ends_ret ?_
      obtain rfl := Option.some.inj H
      exact And.intro (.inl rfl) rfl
    · refine ite_f c8 (by kernel_rfl) ?_
      refine ends_skip ?_
      change EndsI _ _ _ _ _ _
      obtain ⟨v9, h10, H⟩ := ofBind H
      refine seq_ops [.res (cI v9)] [] [(3, cI p3), (4, .c (.pk 4 0)), (5, .c (.pk 5 0)), (6, .c (.pk 6 0)), (9, cI v9)] [(4, .var (eTBoard p0) false), (5, .var (eTState p1) false), (6, .var (eTConditions p2) false)] (fun t => aI (l_szConditions_ok p2 v5 v9 h10) (t)) (by kernel_rfl) ?_
      refine seq_in ?_
      refine seq_ops [] [] [(3, cI p3), (4, .c (.pk 4 0)), (5, .c (.pk 5 0)), (6, .c (.pk 6 0)), (33, cB (decide (v9 < 0)))] [(4, .var (eTBoard p0) false), (5, .var (eTState p1) false), (6, .var (eTConditions p2) false)] (fun t => t) (by kernel_rfl) ?_
      rcases ofCond H with ⟨c12, H⟩ | ⟨c12, H⟩
      · refine ite_t c12 (by kernel_rfl) ?_
        refine seq_ops [] [] [(8, cB true)] [] (fun t => t) (by kernel_rfl) ?_
        refine ends_ret ?_
        obtain rfl := Option.some.inj H
        exact And.intro (.inl rfl) rfl
      · refine ite_f c12 (by kernel_rfl) ?_
        refine ends_skip ?_
        change EndsI _ _ _ _ _ _
        obtain ⟨v13, h14, H⟩ := ofBind H
        obtain ⟨v15, h16, H⟩ := ofBind H
        obtain ⟨v17, h18, H⟩ := ofBind H
        obtain ⟨v19, h20, H⟩ := ofBind H
        refine seq_draw [.res (.agg (eTBoard v13)), .res (.agg (eTState v15)), .res (.agg (eTConditions v17)), .res (.tup [(false, [.int .i64 v19.1]), (false, [.int .i64 v19.2.1]), (false, [.bool v19.2.2])])] [] [(3, cI p3), (4, .c (.pk 4 0)), (5, .c (.pk 5 0)), (6, .c (.pk 6 0)), (10, cI v19.1), (11, cI v19.2.1), (12, cB v19.2.2)] [(4, .var (eTBoard p0) false), (5, .var (eTState p1) false), (6, .var (eTConditions p2) false)] (fun t => aI (l_toBoard_ok p0 v13 h14) (aI (rfl : ([] : List Nat) = []) (aI (rfl : ([] : List Nat) = []) (aI (l_toState_ok p1 v15 h16) (aI (rfl : ([] : List Nat) = []) (aI (rfl : ([] : List Nat) = []) (aI (l_toConditions_ok p2 v17 h18) (aI (rfl : ([] : List Nat) = []) (aI (rfl : ([] : List Nat) = []) (aI (s_NearestGoal_ok v13 v15 v17 p3 v19 h20) (aI trivial (aI (rfl : ([] : List Nat) = []) (t))))))))))))) (by kernel_rfl) ?_
        obtain ⟨v21, h22, H⟩ := ofBind H
        refine seq_ops [.res (.agg (eTBoard v21))] [] [(3, cI p3), (4, .c (.pk 4 0)), (5, .c (.pk 5 0)), (6, .c (.pk 6 0)), (10, cI v19.1), (11, cI v19.2.1), (12, cB v19.2.2), (13, .c (.pk 13 0))] [(4, .var (eTBoard p0) false), (5, .var (eTState p1) false), (6, .var (eTConditions p2) false), (13, .var (eTBoard v21) false)] (fun t => aI (l_toBoard_ok p0 v21 h22) (t)) (by kernel_rfl) ?_
        obtain ⟨v23, h24, H⟩ := ofBind H
        refine seq_ops [.res (.agg (eTState v23))] [] [(3, cI p3), (4, .c (.pk 4 0)), (5, .c (.pk 5 0)), (6, .c (.pk 6 0)), (10, cI v19.1), (11, cI v19.2.1), (12, cB v19.2.2), (13, .c (.pk 13 0)), (14, .c (.pk 14 0))] [(4, .var (eTBoard p0) false), (5, .var (eTState p1) false), (6, .var (eTConditions p2) false), (13, .var (eTBoard v21) false), (14, .var (eTState v23) false)] (fun t => aI (l_toState_ok p1 v23 h24) (t)) (by kernel_rfl) ?_
        obtain ⟨v25, h26, H⟩ := ofBind H
        refine seq_ops [.res (.agg (eTConditions v25))] [] [(3, cI p3), (4, .c (.pk 4 0)), (5, .c (.pk 5 0)), (6, .c (.pk 6 0)), (10, cI v19.1), (11, cI v19.2.1), (12, cB v19.2.2), (13, .c (.pk 13 0)), (14, .c (.pk 14 0)), (15, .c (.pk 15 0))] [(4, .var (eTBoard p0) false), (5, .var (eTState p1) false), (6, .var (eTConditions p2) false), (13, .var (eTBoard v21) false), (14, .var (eTState v23) false), (15, .var (eTConditions v25) false)] (fun t => aI (l_toConditions_ok p2 v25 h26) (t)) (by kernel_rfl) ?_
        obtain ⟨v27, h28, H⟩ := ofBind H
        refine seq_ops [.res (.tup [(false, [.int .i64 v27.1]), (false, [.int .i64 v27.2.1]), (false, [.bool v27.2.2])])] [] [(4, .c (.pk 4 0)), (5, .c (.pk 5 0)), (6, .c (.pk 6 0)), (10, cI v19.1), (11, cI v19.2.1), (12, cB v19.2.2), (13, .c (.pk 13 0)), (14, .c (.pk 14 0)), (15, .c (.pk 15 0)), (16, cI v27.1), (17, cI v27.2.1), (18, cB v27.2.2)] [(4, .var (eTBoard p0) false), (5, .var (eTState p1) false), (6, .var (eTConditions p2) false), (13, .var (eTBoard v21) false), (14, .var (eTState v23) false), (15, .var (eTConditions v25) false)] (fun t => aI (i_NearestGoal_ok v21 v23 v25 p3 v27 h28) (t)) (by kernel_rfl) ?_
        refine seq_in ?_
        rcases ofCond H with ⟨c32, H⟩ | ⟨c32, H⟩
        · refine seq_ops [.g true, .g true, .g true, .g true, .g true, .g true, .g true, .g true] [] [(4, .c (.pk 4 0)), (5, .c (.pk 5 0)), (6, .c (.pk 6 0)), (13, .c (.pk 13 0)), (14, .c (.pk 14 0)), (15, .c (.pk 15 0)), (73, cB true)] [(4, .var (eTBoard p0) false), (5, .var (eTState p1) false), (6, .var (eTConditions p2) false), (13, .var (eTBoard v21) false), (14, .var (eTState v23) false), (15, .var (eTConditions v25) false)] (fun t => aI c32 (aI c32 (aI c32 (aI c32 (aI (rfl : (true : Bool) = true) (aI (rfl : (true : Bool) = true) (aI (rfl : (true : Bool) = true) (aI (rfl : (true : Bool) = true) (t))))))))) (by kernel_rfl) ?_
          refine ite_t (rfl : (true : Bool) = true) (by kernel_rfl) ?_
          refine seq_ops [] [] [(8, cB false)] [] (fun t => t) (by kernel_rfl) ?_
          refine ends_ret ?_
          obtain rfl := Option.some.inj H
          exact And.intro (.inl rfl) rfl
        · rcases ofCond H with ⟨c33, H⟩ | ⟨c33, H⟩
          · refine seq_ops [.g false, .g false, .g false, .g false, .g true, .g true, .g true, .g true] [] [(4, .c (.pk 4 0)), (5, .c (.pk 5 0)), (6, .c (.pk 6 0)), (13, .c (.pk 13 0)), (14, .c (.pk 14 0)), (15, .c (.pk 15 0)), (73, cB true)] [(4, .var (eTBoard p0) false), (5, .var (eTState p1) false), (6, .var (eTConditions p2) false), (13, .var (eTBoard v21) false), (14, .var (eTState v23) false), (15, .var (eTConditions v25) false)] (fun t => aI c32 (aI c32 (aI c32 (aI c32 (aI c33 (aI c33 (aI c33 (aI c33 (t))))))))) (by kernel_rfl) ?_
            refine ite_t (rfl : (true : Bool) = true) (by kernel_rfl) ?_
            refine seq_ops [] [] [(8, cB false)] [] (fun t => t) (by kernel_rfl) ?_
            refine ends_ret ?_
            obtain rfl := Option.some.inj H
            exact And.intro (.inl rfl) rfl
          · refine seq_ops [.g false, .g false, .g false, .g false, .g false, .g false, .g false, .g false] [] [(4, .c (.pk 4 0)), (5, .c (.pk 5 0)), (6, .c (.pk 6 0)), (13, .c (.pk 13 0)), (14, .c (.pk 14 0)), (15, .c (.pk 15 0)), (73, cB (!(v27.2.2 == v19.2.2)))] [(4, .var (eTBoard p0) false), (5, .var (eTState p1) false), (6, .var (eTConditions p2) false), (13, .var (eTBoard v21) false), (14, .var (eTState v23) false), (15, .var (eTConditions v25) false)] (fun t => aI c32 (aI c32 (aI c32 (aI c32 (aI c33 (aI c33 (aI c33 (aI c33 (t))))))))) (by kernel_rfl) ?_
            rcases ofCond H with ⟨c34, H⟩ | ⟨c34, H⟩
            · refine ite_t c34 (by kernel_rfl) ?_
              refine seq_ops [] [] [(8, cB false)] [] (fun t => t) (by kernel_rfl) ?_
              refine ends_ret ?_
              obtain rfl := Option.some.inj H
              exact And.intro (.inl rfl) rfl
            · refine ite_f c34 (by kernel_rfl) ?_
              refine ends_skip ?_
              change EndsI _ _ _ _ _ _
              refine seq_in ?_
              obtain ⟨v40, h41, H⟩ := ofBind H
              obtain ⟨v42, h43, H⟩ := ofBind H
              refine seq_draw [.res (.agg (eTBoard v40)), .res (cB v42)] [] [(5, .c (.pk 5 0)), (6, .c (.pk 6 0)), (14, .c (.pk 14 0)), (15, .c (.pk 15 0)), (78, cB (!v42))] [(5, .var (eTState p1) false), (6, .var (eTConditions p2) false), (14, .var (eTState v23) false), (15, .var (eTConditions v25) false)] (fun t => aI (l_toBoard_ok p0 v40 h41) (aI (rfl : ([] : List Nat) = []) (aI (rfl : ([] : List Nat) = []) (aI (l_eqBoard_ok v21 v40 v42 h43) (aI trivial (aI (rfl : ([] : List Nat) = []) (t))))))) (by kernel_rfl) ?_
              rcases ofCond H with ⟨c44, H⟩ | ⟨c44, H⟩
              · refine ite_t c44 (by kernel_rfl) ?_
                refine seq_ops [] [] [(8, cB false)] [] (fun t => t) (by kernel_rfl) ?_
                refine ends_ret ?_
                obtain rfl := Option.some.inj H
                exact And.intro (.inl rfl) rfl
              · refine ite_f c44 (by kernel_rfl) ?_
                refine ends_skip ?_
                change EndsI _ _ _ _ _ _
                refine seq_in ?_
                obtain ⟨v50, h51, H⟩ := ofBind H
                obtain ⟨v52, h53, H⟩ := ofBind H
                refine seq_draw [.res (.agg (eTState v50)), .res (cB v52)] [] [(6, .c (.pk 6 0)), (15, .c (.pk 15 0)), (83, cB (!v52))] [(6, .var (eTConditions p2) false), (15, .var (eTConditions v25) false)] (fun t => aI (l_toState_ok p1 v50 h51) (aI (rfl : ([] : List Nat) = []) (aI (rfl : ([] : List Nat) = []) (aI (l_eqState_ok v23 v50 v52 h53) (aI trivial (aI (rfl : ([] : List Nat) = []) (t))))))) (by kernel_rfl) ?_
                rcases ofCond H with ⟨c54, H⟩ | ⟨c54, H⟩
                · refine ite_t c54 (by kernel_rfl) ?_
                  refine seq_ops [] [] [(8, cB false)] [] (fun t => t) (by kernel_rfl) ?_
                  refine ends_ret ?_
                  obtain rfl := Option.some.inj H
                  exact And.intro (.inl rfl) rfl
                · refine ite_f c54 (by kernel_rfl) ?_
                  refine ends_skip ?_
                  change EndsI _ _ _ _ _ _
                  refine seq_in ?_
                  obtain ⟨v55, h56, H⟩ := ofBind H
                  obtain ⟨v57, h58, H⟩ := ofBind H
                  refine seq_draw [.res (.agg (eTConditions v55)), .res (cB v57)] [] [(88, cB (!v57))] [] (fun t => aI (l_toConditions_ok p2 v55 h56) (aI (rfl : ([] : List Nat) = []) (aI (rfl : ([] : List Nat) = []) (aI (l_eqConditions_ok v25 v55 v57 h58) (aI trivial (aI (rfl : ([] : List Nat) = []) (t))))))) (by kernel_rfl) ?_
                  rcases ofCond H with ⟨c59, H⟩ | ⟨c59, H⟩
                  · refine ite_t c59 (by kernel_rfl) ?_
                    refine seq_ops [] [] [(8, cB false)] [] (fun t => t) (by kernel_rfl) ?_
                    refine ends_ret ?_
                    obtain rfl := Option.some.inj H
                    exact And.intro (.inl rfl) rfl
                  · refine ite_f c59 (by kernel_rfl) ?_
                    refine ends_skip ?_
                    change EndsI _ _ _ _ _ _
                    refine seq_ops [] [] [(8, cB true)] [] (fun t => t) (by kernel_rfl) ?_
                    refine ends_ret ?_
                    obtain rfl := Option.some.inj H
                    exact And.intro (.inl rfl) rfl

end Go.Proofs.YtihggbgmdlhlcaaGreatDoor.X0
