/- What each Go function that FnExactHiddenThreat reaches computes, and that it returns so; no condition. -/
import Derived.Test.YtihggbgmdlhlcaaGreatDoorHTWb
set_option linter.unusedVariables false
set_option linter.unusedSimpArgs false
set_option maxRecDepth 100000
namespace Go.Proofs.YtihggbgmdlhlcaaGreatDoor.X0
open Go Go.RowKit Go.Proofs.YtihggbgmdlhlcaaGreatDoor.Ab Go.Proofs

def i_goodView_ir : S :=
 (.seq (.ops [⟨some 2, .box 12 (.t 0), none⟩, ⟨some 3, .box 6 (.t 1), none⟩, ⟨some 4, .mv (.v (.bool false)), none⟩])
 (.seq (.seq (.ops [⟨some 9, .fad 0 (.t 3), none⟩, ⟨some 10, .load 1 false (.t 9), none⟩, ⟨some 11, .call 127 [.t 10], none⟩, ⟨some 12, .not (.t 11), none⟩, ⟨some 13, .mv (.t 12), none⟩, ⟨some 14, .fad 1 (.t 3), some (13, false)⟩, ⟨some 15, .load 1 false (.t 14), some (13, false)⟩, ⟨some 16, .fad 0 (.t 2), some (13, false)⟩, ⟨some 17, .fad 6 (.t 16), some (13, false)⟩, ⟨some 18, .load 1 false (.t 17), some (13, false)⟩, ⟨some 19, .call 71 [.t 15, .v (.int .i64 0), .t 18], some (13, false)⟩, ⟨some 20, .not (.t 19), some (13, false)⟩, ⟨some 21, .pick (.t 13) (.v (.bool true)) (.t 20), none⟩, ⟨some 22, .mv (.t 21), none⟩, ⟨some 23, .fad 2 (.t 3), some (22, false)⟩, ⟨some 24, .load 1 false (.t 23), some (22, false)⟩, ⟨some 25, .call 208 [.t 24], some (22, false)⟩, ⟨some 26, .not (.t 25), some (22, false)⟩, ⟨some 27, .pick (.t 22) (.v (.bool true)) (.t 26), none⟩, ⟨some 28, .mv (.t 27), none⟩, ⟨some 29, .fad 3 (.t 3), some (28, false)⟩, ⟨some 30, .load 1 false (.t 29), some (28, false)⟩, ⟨some 31, .call 189 [.t 30], some (28, false)⟩, ⟨some 32, .not (.t 31), some (28, false)⟩, ⟨some 33, .pick (.t 28) (.v (.bool true)) (.t 32), none⟩, ⟨some 34, .mv (.t 33), none⟩, ⟨some 35, .fad 4 (.t 3), some (34, false)⟩, ⟨some 36, .load 1 false (.t 35), some (34, false)⟩, ⟨some 37, .len (.t 36), some (34, false)⟩, ⟨some 38, .bin .gtr (.t 37) (.v (.int .i64 12)), some (34, false)⟩, ⟨some 39, .pick (.t 34) (.v (.bool true)) (.t 38), none⟩, ⟨some 40, .mv (.t 39), none⟩, ⟨some 41, .fad 5 (.t 3), some (40, false)⟩, ⟨some 42, .load 1 false (.t 41), some (40, false)⟩, ⟨some 43, .len (.t 42), some (40, false)⟩, ⟨some 44, .bin .gtr (.t 43) (.v (.int .i64 12)), some (40, false)⟩, ⟨some 45, .pick (.t 40) (.v (.bool true)) (.t 44), none⟩])
 (.ite (.t 45) (.seq (.ops [⟨some 4, .mv (.v (.bool false)), none⟩])
  .ret)
 .skip))
 (.seq (.seq (.ops [⟨some 46, .fad 3 (.t 3), none⟩, ⟨some 47, .load 1 false (.t 46), none⟩, ⟨some 48, .clo 209 [.t 2], none⟩, ⟨some 49, .call 175 [.t 47, .t 48], none⟩])
 (.ite (.t 49) (.seq (.ops [⟨some 4, .mv (.v (.bool false)), none⟩])
  .ret)
 .skip))
 (.seq (.seq (.ops [⟨some 50, .fad 4 (.t 3), none⟩, ⟨some 51, .load 1 false (.t 50), none⟩, ⟨some 52, .len (.t 51), none⟩, ⟨some 53, .mv (.v (.int .i64 0)), none⟩])
 (.blk 0 (.loop (.seq (.ops [⟨some 54, .bin .lss (.t 53) (.t 52), none⟩])
   (.seq (.ite (.t 54) .skip
   (.exit 0))
   (.seq (.blk 1 (.seq (.ops [⟨some 55, .iad 4 (.t 51) (.t 53), none⟩, ⟨some 56, .load 4 true (.t 55), none⟩, ⟨some 6, .alloc [.int .i64 0, .int .i64 0, .int .i64 0, .int .i64 0], none⟩, ⟨none, .store 4 (.t 6) (.t 56), none⟩])
    (.seq (.ops [⟨some 57, .load 12 true (.t 2), none⟩, ⟨some 58, .load 4 true (.t 6), none⟩, ⟨some 59, .call 210 [.t 57, .t 58], none⟩, ⟨some 60, .not (.t 59), none⟩, ⟨some 61, .mv (.t 60), none⟩, ⟨some 62, .fad 0 (.t 6), some (61, false)⟩, ⟨some 63, .load 1 false (.t 62), some (61, false)⟩, ⟨some 64, .fad 0 (.t 3), some (61, false)⟩, ⟨some 65, .load 1 false (.t 64), some (61, false)⟩, ⟨some 66, .bin .neq (.t 63) (.t 65), some (61, false)⟩, ⟨some 67, .pick (.t 61) (.v (.bool true)) (.t 66), none⟩])
    (.ite (.t 67) (.seq (.ops [⟨some 4, .mv (.v (.bool false)), none⟩])
     .ret)
    .skip))))
   (.ops [⟨some 68, .bin .add (.t 53) (.v (.int .i64 1)), none⟩, ⟨some 53, .mv (.t 68), none⟩])))))))
 (.seq (.seq (.ops [⟨some 69, .fad 5 (.t 3), none⟩, ⟨some 70, .load 1 false (.t 69), none⟩, ⟨some 71, .len (.t 70), none⟩, ⟨some 72, .mv (.v (.int .i64 0)), none⟩])
 (.blk 2 (.loop (.seq (.ops [⟨some 73, .bin .lss (.t 72) (.t 71), none⟩])
   (.seq (.ite (.t 73) .skip
   (.exit 2))
   (.seq (.blk 3 (.seq (.ops [⟨some 74, .iad 4 (.t 70) (.t 72), none⟩, ⟨some 75, .load 4 true (.t 74), none⟩, ⟨some 8, .alloc [.int .i64 0, .int .i64 0, .int .i64 0, .int .i64 0], none⟩, ⟨none, .store 4 (.t 8) (.t 75), none⟩])
    (.seq (.ops [⟨some 76, .load 12 true (.t 2), none⟩, ⟨some 77, .load 4 true (.t 8), none⟩, ⟨some 78, .call 210 [.t 76, .t 77], none⟩, ⟨some 79, .not (.t 78), none⟩, ⟨some 80, .mv (.t 79), none⟩, ⟨some 81, .fad 0 (.t 8), some (80, false)⟩, ⟨some 82, .load 1 false (.t 81), some (80, false)⟩, ⟨some 83, .fad 0 (.t 3), some (80, false)⟩, ⟨some 84, .load 1 false (.t 83), some (80, false)⟩, ⟨some 85, .bin .eql (.t 82) (.t 84), some (80, false)⟩, ⟨some 86, .pick (.t 80) (.v (.bool true)) (.t 85), none⟩, ⟨some 87, .mv (.t 86), none⟩, ⟨some 88, .fad 3 (.t 3), some (87, false)⟩, ⟨some 89, .load 1 false (.t 88), some (87, false)⟩, ⟨some 90, .fad 2 (.t 8), some (87, false)⟩, ⟨some 91, .load 1 false (.t 90), some (87, false)⟩, ⟨some 92, .call 142 [.t 89, .t 91], some (87, false)⟩, ⟨some 93, .not (.t 92), some (87, false)⟩, ⟨some 94, .pick (.t 87) (.v (.bool true)) (.t 93), none⟩])
    (.ite (.t 94) (.seq (.ops [⟨some 4, .mv (.v (.bool false)), none⟩])
     .ret)
    .skip))))
   (.ops [⟨some 95, .bin .add (.t 72) (.v (.int .i64 1)), none⟩, ⟨some 72, .mv (.t 95), none⟩])))))))
 (.seq (.ops [⟨some 96, .fad 5 (.t 3), none⟩, ⟨some 97, .load 1 false (.t 96), none⟩, ⟨some 98, .call 211 [.t 97, .f 212], none⟩, ⟨some 4, .mv (.t 98), none⟩])
 .ret))))))
noncomputable def X.i_goodView (p0 : TBoard) (p1 : TView) : Option Bool :=
  ((X.i_isSide p1.Side).bind fun v15 => (bif (!v15) then some false else ((X.i_inRange p1.Turn 0 p0.Rules.Turns).bind fun v18 => (bif (!v18) then some false else ((X.i_isWeather p1.Weather).bind fun v21 => (bif (!v21) then some false else ((X.i_increasing p1.Seen).bind fun v24 => (bif (!v24) then some false else (bif (decide ((p1.Own.length : Int) > 12)) then some false else (bif (decide ((p1.Enemies.length : Int) > 12)) then some false else ((X.g_ContainsFunc_int p1.Seen (fun q0 => X.i_goodView_1 q0 p0)).bind fun v32 => (bif v32 then some false else ((loop (fun (x82 : Int) => ((bif (decide (x82 < (p1.Own.length : Int))) then ((at' zTUnit p1.Own x82).bind fun v85 => ((X.i_goodUnit p0 v85).bind fun v87 => (bif (!v87) then some (Sum.inr (Sum.inr false)) else (bif (v85.Side != p1.Side) then some (Sum.inr (Sum.inr false)) else some (Sum.inl (W (x82 + 1))))))) else some (Sum.inr (Sum.inl ()))) : Option (Int ⊕ (Unit ⊕ Bool)))) 0).bind fun y91 => (Sum.elim (fun (y93 : Unit) => ((loop (fun (x118 : Int) => ((bif (decide (x118 < (p1.Enemies.length : Int))) then ((at' zTUnit p1.Enemies x118).bind fun v121 => ((X.i_goodUnit p0 v121).bind fun v123 => (bif (!v123) then some (Sum.inr (Sum.inr false)) else (bif (v121.Side == p1.Side) then some (Sum.inr (Sum.inr false)) else ((X.g_Contains_int p1.Seen v121.At).bind fun v127 => (bif (!v127) then some (Sum.inr (Sum.inr false)) else some (Sum.inl (W (x118 + 1))))))))) else some (Sum.inr (Sum.inl ()))) : Option (Int ⊕ (Unit ⊕ Bool)))) 0).bind fun y130 => (Sum.elim (fun (y132 : Unit) => ((X.g_IsSortedFunc_Unit p1.Enemies (fun q0 q1 => X.i_compareUnits q0 q1)).bind fun v134 => some v134)) (fun (y133 : Bool) => some y133) y130))) (fun (y94 : Bool) => some y94) y91))))))))))))))
theorem i_goodView_ok (p0 : TBoard) (p1 : TView) (r : Bool) (H : X.i_goodView p0 p1 = some r) : FnOk Tryz.prog gl 157 [.agg (eTBoard p0), .agg (eTView p1)] (cB r) := by
  unfold X.i_goodView at H
  refine fn_in (fn := Tryz.f157) (ir := i_goodView_ir) (s1 := lit [(4, cB r)] []) Tryz.func157 (by kernel_rfl) (by kernel_rfl) (by kernel_rfl) (by kernel_rfl) (by kernel_rfl) ?_
  refine seq_ops [] [] [(2, .c (.pk 2 0)), (3, .c (.pk 3 0))] [(2, .var (eTBoard p0) false), (3, .var (eTView p1) false)] (fun t => t) (by kernel_rfl) ?_
  refine seq_in ?_
  obtain ⟨v15, h16, H⟩ := ofBind H
  rcases ofCond H with ⟨c17, H⟩ | ⟨c17, H⟩
  · refine seq_ops [.res (cB v15), .g true, .g true, .g true, .g true, .g true, .g true, .g true, .g true, .g true, .g true, .g true, .g true, .g true, .g true, .g true, .g true, .g true, .g true, .g true, .g true, .g true, .g true, .g true, .g true, .g true, .g true, .g true, .g true] [] [(2, .c (.pk 2 0)), (3, .c (.pk 3 0)), (45, cB true)] [(2, .var (eTBoard p0) false), (3, .var (eTView p1) false)] (fun t => aI (i_isSide_ok p1.Side v15 h16) (aI c17 (aI c17 (aI c17 (aI c17 (aI c17 (aI c17 (aI c17 (aI c17 (aI (rfl : (true : Bool) = true) (aI (rfl : (true : Bool) = true) (aI (rfl : (true : Bool) = true) (aI (rfl : (true : Bool) = true) (aI (rfl : (true : Bool) = true) (aI (rfl : (true : Bool) = true) (aI (rfl : (true : Bool) = true) (aI (rfl : (true : Bool) = true) (aI (rfl : (true : Bool) = true) (aI (rfl : (true : Bool) = true) (aI (rfl : (true : Bool) = true) (aI (rfl : (true : Bool) = true) (aI (rfl : (true : Bool) = true) (aI (rfl : (true : Bool) = true) (aI (rfl : (true : Bool) = true) (aI (rfl : (true : Bool) = true) (aI (rfl : (true : Bool) = true) (aI (rfl : (true : Bool) = true) (aI (rfl : (true : Bool) = true) (aI (rfl : (true : Bool) = true) (t)))))))))))))))))))))))))))))) (by kernel_rfl) ?_
    refine ite_t (rfl : (true : Bool) = true) (by kernel_rfl) ?_
    refine seq_ops [] [] [(4, cB false)] [] (fun t => t) (by kernel_rfl) ?_
    refine ends_ret ?_
    obtain rfl := Option.some.inj H
    exact And.intro (.inl rfl) rfl
  · obtain ⟨v18, h19, H⟩ := ofBind H
    rcases ofCond H with ⟨c20, H⟩ | ⟨c20, H⟩
    · refine seq_ops [.res (cB v15), .g false, .g false, .g false, .g false, .g false, .g false, .res (cB v18), .g false, .g false, .g true, .g true, .g true, .g true, .g true, .g true, .g true, .g true, .g true, .g true, .g true, .g true, .g true, .g true, .g true, .g true, .g true, .g true, .g true, .g true] [] [(2, .c (.pk 2 0)), (3, .c (.pk 3 0)), (45, cB true)] [(2, .var (eTBoard p0) false), (3, .var (eTView p1) false)] (fun t => aI (i_isSide_ok p1.Side v15 h16) (aI c17 (aI c17 (aI c17 (aI c17 (aI c17 (aI c17 (aI (i_inRange_ok p1.Turn 0 p0.Rules.Turns v18 h19) (aI c17 (aI c17 (aI c20 (aI c20 (aI c20 (aI c20 (aI c20 (aI (rfl : (true : Bool) = true) (aI (rfl : (true : Bool) = true) (aI (rfl : (true : Bool) = true) (aI (rfl : (true : Bool) = true) (aI (rfl : (true : Bool) = true) (aI (rfl : (true : Bool) = true) (aI (rfl : (true : Bool) = true) (aI (rfl : (true : Bool) = true) (aI (rfl : (true : Bool) = true) (aI (rfl : (true : Bool) = true) (aI (rfl : (true : Bool) = true) (aI (rfl : (true : Bool) = true) (aI (rfl : (true : Bool) = true) (aI (rfl : (true : Bool) = true) (aI (rfl : (true : Bool) = true) (t))))))))))))))))))))))))))))))) (by kernel_rfl) ?_
      refine ite_t (rfl : (true : Bool) = true) (by kernel_rfl) ?_
      refine seq_ops [] [] [(4, cB false)] [] (fun t => t) (by kernel_rfl) ?_
      refine ends_ret ?_
      obtain rfl := Option.some.inj H
      exact And.intro (.inl rfl) rfl
    · obtain ⟨v21, h22, H⟩ := ofBind H
      rcases ofCond H with ⟨c23, H⟩ | ⟨c23, H⟩
      · refine seq_ops [.res (cB v15), .g false, .g false, .g false, .g false, .g false, .g false, .res (cB v18), .g false, .g false, .g false, .g false, .g false, .res (cB v21), .g false, .g false, .g true, .g true, .g true, .g true, .g true, .g true, .g true, .g true, .g true, .g true, .g true, .g true, .g true, .g true, .g true] [] [(2, .c (.pk 2 0)), (3, .c (.pk 3 0)), (45, cB true)] [(2, .var (eTBoard p0) false), (3, .var (eTView p1) false)] (fun t => aI (i_isSide_ok p1.Side v15 h16) (aI c17 (aI c17 (aI c17 (aI c17 (aI c17 (aI c17 (aI (i_inRange_ok p1.Turn 0 p0.Rules.Turns v18 h19) (aI c17 (aI c17 (aI c20 (aI c20 (aI c20 (aI (i_isWeather_ok p1.Weather v21 h22) (aI c20 (aI c20 (aI c23 (aI c23 (aI c23 (aI c23 (aI c23 (aI (rfl : (true : Bool) = true) (aI (rfl : (true : Bool) = true) (aI (rfl : (true : Bool) = true) (aI (rfl : (true : Bool) = true) (aI (rfl : (true : Bool) = true) (aI (rfl : (true : Bool) = true) (aI (rfl : (true : Bool) = true) (aI (rfl : (true : Bool) = true) (aI (rfl : (true : Bool) = true) (aI (rfl : (true : Bool) = true) (t)))))))))))))))))))))))))))))))) (by kernel_rfl) ?_
        refine ite_t (rfl : (true : Bool) = true) (by kernel_rfl) ?_
        refine seq_ops [] [] [(4, cB false)] [] (fun t => t) (by kernel_rfl) ?_
        refine ends_ret ?_
        obtain rfl := Option.some.inj H
        exact And.intro (.inl rfl) rfl
      · obtain ⟨v24, h25, H⟩ := ofBind H
        rcases ofCond H with ⟨c26, H⟩ | ⟨c26, H⟩
        · refine seq_ops [.res (cB v15), .g false, .g false, .g false, .g false, .g false, .g false, .res (cB v18), .g false, .g false, .g false, .g false, .g false, .res (cB v21), .g false, .g false, .g false, .g false, .g false, .res (cB v24), .g false, .g false, .g true, .g true, .g true, .g true, .g true, .g true, .g true, .g true, .g true, .g true] [] [(2, .c (.pk 2 0)), (3, .c (.pk 3 0)), (45, cB true)] [(2, .var (eTBoard p0) false), (3, .var (eTView p1) false)] (fun t => aI (i_isSide_ok p1.Side v15 h16) (aI c17 (aI c17 (aI c17 (aI c17 (aI c17 (aI c17 (aI (i_inRange_ok p1.Turn 0 p0.Rules.Turns v18 h19) (aI c17 (aI c17 (aI c20 (aI c20 (aI c20 (aI (i_isWeather_ok p1.Weather v21 h22) (aI c20 (aI c20 (aI c23 (aI c23 (aI c23 (aI (i_increasing_ok p1.Seen v24 h25) (aI c23 (aI c23 (aI c26 (aI c26 (aI c26 (aI c26 (aI c26 (aI (rfl : (true : Bool) = true) (aI (rfl : (true : Bool) = true) (aI (rfl : (true : Bool) = true) (aI (rfl : (true : Bool) = true) (aI (rfl : (true : Bool) = true) (t))))))))))))))))))))))))))))))))) (by kernel_rfl) ?_
          refine ite_t (rfl : (true : Bool) = true) (by kernel_rfl) ?_
          refine seq_ops [] [] [(4, cB false)] [] (fun t => t) (by kernel_rfl) ?_
          refine ends_ret ?_
          obtain rfl := Option.some.inj H
          exact And.intro (.inl rfl) rfl
        · rcases ofCond H with ⟨c27, H⟩ | ⟨c27, H⟩
          · refine seq_ops [.res (cB v15), .g false, .g false, .g false, .g false, .g false, .g false, .res (cB v18), .g false, .g false, .g false, .g false, .g false, .res (cB v21), .g false, .g false, .g false, .g false, .g false, .res (cB v24), .g false, .g false, .g false, .g false, .g false, .g false, .g false, .g true, .g true, .g true, .g true, .g true] [] [(2, .c (.pk 2 0)), (3, .c (.pk 3 0)), (45, cB true)] [(2, .var (eTBoard p0) false), (3, .var (eTView p1) false)] (fun t => aI (i_isSide_ok p1.Side v15 h16) (aI c17 (aI c17 (aI c17 (aI c17 (aI c17 (aI c17 (aI (i_inRange_ok p1.Turn 0 p0.Rules.Turns v18 h19) (aI c17 (aI c17 (aI c20 (aI c20 (aI c20 (aI (i_isWeather_ok p1.Weather v21 h22) (aI c20 (aI c20 (aI c23 (aI c23 (aI c23 (aI (i_increasing_ok p1.Seen v24 h25) (aI c23 (aI c23 (aI c26 (aI c26 (aI c26 (lI p1.Own (aI c26 (aI c26 (aI c27 (aI c27 (aI c27 (aI c27 (aI c27 (t)))))))))))))))))))))))))))))))))) (by kernel_rfl) ?_
            refine ite_t (rfl : (true : Bool) = true) (by kernel_rfl) ?_
            refine seq_ops [] [] [(4, cB false)] [] (fun t => t) (by kernel_rfl) ?_
            refine ends_ret ?_
            obtain rfl := Option.some.inj H
            exact And.intro (.inl rfl) rfl
          · refine seq_ops [.res (cB v15), .g false, .g false, .g false, .g false, .g false, .g false, .res (cB v18), .g false, .g false, .g false, .g false, .g false, .res (cB v21), .g false, .g false, .g false, .g false, .g false, .res (cB v24), .g false, .g false, .g false, .g false, .g false, .g false, .g false, .g false, .g false, .g false, .g false, .g false] [] [(2, .c (.pk 2 0)), (3, .c (.pk 3 0)), (45, cB (decide ((p1.Enemies.length : Int) > 12)))] [(2, .var (eTBoard p0) false), (3, .var (eTView p1) false)] (fun t => aI (i_isSide_ok p1.Side v15 h16) (aI c17 (aI c17 (aI c17 (aI c17 (aI c17 (aI c17 (aI (i_inRange_ok p1.Turn 0 p0.Rules.Turns v18 h19) (aI c17 (aI c17 (aI c20 (aI c20 (aI c20 (aI (i_isWeather_ok p1.Weather v21 h22) (aI c20 (aI c20 (aI c23 (aI c23 (aI c23 (aI (i_increasing_ok p1.Seen v24 h25) (aI c23 (aI c23 (aI c26 (aI c26 (aI c26 (lI p1.Own (aI c26 (aI c26 (aI c27 (aI c27 (aI c27 (lI p1.Enemies (aI c27 (aI c27 (t))))))))))))))))))))))))))))))))))) (by kernel_rfl) ?_
            rcases ofCond H with ⟨c28, H⟩ | ⟨c28, H⟩
            · refine ite_t c28 (by kernel_rfl) ?_
              refine seq_ops [] [] [(4, cB false)] [] (fun t => t) (by kernel_rfl) ?_
              refine ends_ret ?_
              obtain rfl := Option.some.inj H
              exact And.intro (.inl rfl) rfl
            · refine ite_f c28 (by kernel_rfl) ?_
              refine ends_skip ?_
              change EndsI _ _ _ _ _ _
              refine seq_in ?_
              obtain ⟨v32, h33, H⟩ := ofBind H
              refine seq_ops [.res (cB v32)] [] [(2, .c (.pk 2 0)), (3, .c (.pk 3 0)), (49, cB v32)] [(2, .var (eTBoard p0) false), (3, .var (eTView p1) false)] (fun t => aI (g_ContainsFunc_int_c1_ok p1.Seen (209) (eTBoard p0) (fun q0 => X.i_goodView_1 q0 p0) (fun q0 r h => i_goodView_1_ok q0 p0 r h) v32 h33) (t)) (by kernel_rfl) ?_
              rcases ofCond H with ⟨c34, H⟩ | ⟨c34, H⟩
              · refine ite_t c34 (by kernel_rfl) ?_
                refine seq_ops [] [] [(4, cB false)] [] (fun t => t) (by kernel_rfl) ?_
                refine ends_ret ?_
                obtain rfl := Option.some.inj H
                exact And.intro (.inl rfl) rfl
              · refine ite_f c34 (by kernel_rfl) ?_
                refine ends_skip ?_
                change EndsI _ _ _ _ _ _
                refine seq_in ?_
                refine seq_ops [] [] [(2, .c (.pk 2 0)), (3, .c (.pk 3 0)), (51, .c (dat 4 eTUnit zTUnit p1.Own)), (52, cI (p1.Own.length : Int)), (53, cI 0)] [(2, .var (eTBoard p0) false), (3, .var (eTView p1) false)] (fun t => lI p1.Own (t)) (by kernel_rfl) ?_
                refine ends_blk ?_
                obtain ⟨y91, h92, H⟩ := ofBind H
                refine loop_in (fun (x : Int) => lit [(2, .c (.pk 2 0)), (3, .c (.pk 3 0)), (51, .c (dat 4 eTUnit zTUnit p1.Own)), (52, cI (p1.Own.length : Int)), (53, cI x)] [(2, .var (eTBoard p0) false), (3, .var (eTView p1) false)]) (orJ (fun (z : Unit) => At (.exit 0) (lit [(2, .c (.pk 2 0)), (3, .c (.pk 3 0))] [(2, .var (eTBoard p0) false), (3, .var (eTView p1) false)])) (fun (z : Bool) => At .ret (lit [(4, cB z)] []))) h92 ?_ ?_
                · clear H h92
                  intro x82 y0 H
                  refine seq_ops [] [] [(2, .c (.pk 2 0)), (3, .c (.pk 3 0)), (51, .c (dat 4 eTUnit zTUnit p1.Own)), (52, cI (p1.Own.length : Int)), (53, cI x82), (54, cB (decide (x82 < (p1.Own.length : Int))))] [(2, .var (eTBoard p0) false), (3, .var (eTView p1) false)] (fun t => t) (by kernel_rfl) ?_
                  refine seq_in ?_
                  rcases ofCond H with ⟨c84, H⟩ | ⟨c84, H⟩
                  · refine ite_t c84 (by kernel_rfl) ?_
                    refine ends_skip ?_
                    change EndsI _ _ _ _ _ _
                    refine seq_in ?_
                    refine ends_blk ?_
                    obtain ⟨v85, h86, H⟩ := ofBind H
                    refine seq_ops [.cs (eTUnit v85)] [] [(2, .c (.pk 2 0)), (3, .c (.pk 3 0)), (6, .c (.pk 6 0)), (51, .c (dat 4 eTUnit zTUnit p1.Own)), (52, cI (p1.Own.length : Int)), (53, cI x82)] [(2, .var (eTBoard p0) false), (3, .var (eTView p1) false), (6, .var (eTUnit v85) false)] (fun t => aI (at_lt h86) (aI (at_enc (enc := eTUnit) h86) (t))) (by kernel_rfl) ?_
                    obtain ⟨v87, h88, H⟩ := ofBind H
                    rcases ofCond H with ⟨c89, H⟩ | ⟨c89, H⟩
                    · refine seq_ops [.res (cB v87), .g true, .g true, .g true, .g true, .g true, .g true] [] [(2, .c (.pk 2 0)), (3, .c (.pk 3 0)), (51, .c (dat 4 eTUnit zTUnit p1.Own)), (52, cI (p1.Own.length : Int)), (53, cI x82), (67, cB true)] [(2, .var (eTBoard p0) false), (3, .var (eTView p1) false)] (fun t => aI (i_goodUnit_ok p0 v85 v87 h88) (aI c89 (aI c89 (aI c89 (aI c89 (aI c89 (aI c89 (t)))))))) (by kernel_rfl) ?_
                      refine ite_t (rfl : (true : Bool) = true) (by kernel_rfl) ?_
                      refine seq_ops [] [] [(4, cB false)] [] (fun t => t) (by kernel_rfl) ?_
                      refine ends_ret ?_
                      obtain rfl := Option.some.inj H
                      exact And.intro (by simp) (And.intro rfl rfl)
                    · refine seq_ops [.res (cB v87), .g false, .g false, .g false, .g false, .g false, .g false] [] [(2, .c (.pk 2 0)), (3, .c (.pk 3 0)), (51, .c (dat 4 eTUnit zTUnit p1.Own)), (52, cI (p1.Own.length : Int)), (53, cI x82), (67, cB (v85.Side != p1.Side))] [(2, .var (eTBoard p0) false), (3, .var (eTView p1) false)] (fun t => aI (i_goodUnit_ok p0 v85 v87 h88) (aI c89 (aI c89 (aI c89 (aI c89 (aI c89 (aI c89 (t)))))))) (by kernel_rfl) ?_
                      rcases ofCond H with ⟨c90, H⟩ | ⟨c90, H⟩
                      · refine ite_t c90 (by kernel_rfl) ?_
                        refine seq_ops [] [] [(4, cB false)] [] (fun t => t) (by kernel_rfl) ?_
                        refine ends_ret ?_
                        obtain rfl := Option.some.inj H
                        exact And.intro (by simp) (And.intro rfl rfl)
                      · refine ite_f c90 (by kernel_rfl) ?_
                        refine ends_skip ?_
                        change EndsI _ _ _ _ _ _
                        refine one_ops [] [] [(2, .c (.pk 2 0)), (3, .c (.pk 3 0)), (51, .c (dat 4 eTUnit zTUnit p1.Own)), (52, cI (p1.Own.length : Int)), (53, cI (W (x82 + 1)))] [(2, .var (eTBoard p0) false), (3, .var (eTView p1) false)] (fun t => t) (by kernel_rfl) ?_
                        obtain rfl := Option.some.inj H
                        exact And.intro rfl rfl
                  · refine ite_f c84 (by kernel_rfl) ?_
                    refine tell [] [(2, .c (.pk 2 0)), (3, .c (.pk 3 0))] [(2, .var (eTBoard p0) false), (3, .var (eTView p1) false)] (fun t => t) (by kernel_rfl) ?_
                    refine ends_exit ?_
                    obtain rfl := Option.some.inj H
                    exact And.intro (by simp) (And.intro rfl rfl)
                · clear h92
                  cases y91 with
                  | inl y93 =>
                    replace H := ofInl H
                    intro e s q
                    obtain ⟨rfl, rfl⟩ := q
                    change EndsI _ _ _ _ _ _
                    refine seq_in ?_
                    refine seq_ops [] [] [(2, .c (.pk 2 0)), (3, .c (.pk 3 0)), (70, .c (dat 4 eTUnit zTUnit p1.Enemies)), (71, cI (p1.Enemies.length : Int)), (72, cI 0)] [(2, .var (eTBoard p0) false), (3, .var (eTView p1) false)] (fun t => lI p1.Enemies (t)) (by kernel_rfl) ?_
                    refine ends_blk ?_
                    obtain ⟨y130, h131, H⟩ := ofBind H
                    refine loop_in (fun (x : Int) => lit [(2, .c (.pk 2 0)), (3, .c (.pk 3 0)), (70, .c (dat 4 eTUnit zTUnit p1.Enemies)), (71, cI (p1.Enemies.length : Int)), (72, cI x)] [(2, .var (eTBoard p0) false), (3, .var (eTView p1) false)]) (orJ (fun (z : Unit) => At (.exit 2) (lit [(3, .c (.pk 3 0))] [(3, .var (eTView p1) false)])) (fun (z : Bool) => At .ret (lit [(4, cB z)] []))) h131 ?_ ?_
                    · clear H h131
                      intro x118 y0 H
                      refine seq_ops [] [] [(2, .c (.pk 2 0)), (3, .c (.pk 3 0)), (70, .c (dat 4 eTUnit zTUnit p1.Enemies)), (71, cI (p1.Enemies.length : Int)), (72, cI x118), (73, cB (decide (x118 < (p1.Enemies.length : Int))))] [(2, .var (eTBoard p0) false), (3, .var (eTView p1) false)] (fun t => t) (by kernel_rfl) ?_
                      refine seq_in ?_
                      rcases ofCond H with ⟨c120, H⟩ | ⟨c120, H⟩
                      · refine ite_t c120 (by kernel_rfl) ?_
                        refine ends_skip ?_
                        change EndsI _ _ _ _ _ _
                        refine seq_in ?_
                        refine ends_blk ?_
                        obtain ⟨v121, h122, H⟩ := ofBind H
                        refine seq_ops [.cs (eTUnit v121)] [] [(2, .c (.pk 2 0)), (3, .c (.pk 3 0)), (8, .c (.pk 8 0)), (70, .c (dat 4 eTUnit zTUnit p1.Enemies)), (71, cI (p1.Enemies.length : Int)), (72, cI x118)] [(2, .var (eTBoard p0) false), (3, .var (eTView p1) false), (8, .var (eTUnit v121) false)] (fun t => aI (at_lt h122) (aI (at_enc (enc := eTUnit) h122) (t))) (by kernel_rfl) ?_
                        obtain ⟨v123, h124, H⟩ := ofBind H
                        rcases ofCond H with ⟨c125, H⟩ | ⟨c125, H⟩
                        · refine seq_ops [.res (cB v123), .g true, .g true, .g true, .g true, .g true, .g true, .g true, .g true, .g true, .g true, .g true, .g true, .g true] [] [(2, .c (.pk 2 0)), (3, .c (.pk 3 0)), (70, .c (dat 4 eTUnit zTUnit p1.Enemies)), (71, cI (p1.Enemies.length : Int)), (72, cI x118), (94, cB true)] [(2, .var (eTBoard p0) false), (3, .var (eTView p1) false)] (fun t => aI (i_goodUnit_ok p0 v121 v123 h124) (aI c125 (aI c125 (aI c125 (aI c125 (aI c125 (aI c125 (aI (rfl : (true : Bool) = true) (aI (rfl : (true : Bool) = true) (aI (rfl : (true : Bool) = true) (aI (rfl : (true : Bool) = true) (aI (rfl : (true : Bool) = true) (aI (rfl : (true : Bool) = true) (aI (rfl : (true : Bool) = true) (t))))))))))))))) (by kernel_rfl) ?_
                          refine ite_t (rfl : (true : Bool) = true) (by kernel_rfl) ?_
                          refine seq_ops [] [] [(4, cB false)] [] (fun t => t) (by kernel_rfl) ?_
                          refine ends_ret ?_
                          obtain rfl := Option.some.inj H
                          exact And.intro (by simp) (And.intro rfl rfl)
                        · rcases ofCond H with ⟨c126, H⟩ | ⟨c126, H⟩
                          · refine seq_ops [.res (cB v123), .g false, .g false, .g false, .g false, .g false, .g false, .g true, .g true, .g true, .g true, .g true, .g true, .g true] [] [(2, .c (.pk 2 0)), (3, .c (.pk 3 0)), (70, .c (dat 4 eTUnit zTUnit p1.Enemies)), (71, cI (p1.Enemies.length : Int)), (72, cI x118), (94, cB true)] [(2, .var (eTBoard p0) false), (3, .var (eTView p1) false)] (fun t => aI (i_goodUnit_ok p0 v121 v123 h124) (aI c125 (aI c125 (aI c125 (aI c125 (aI c125 (aI c125 (aI c126 (aI c126 (aI c126 (aI c126 (aI c126 (aI c126 (aI c126 (t))))))))))))))) (by kernel_rfl) ?_
                            refine ite_t (rfl : (true : Bool) = true) (by kernel_rfl) ?_
                            refine seq_ops [] [] [(4, cB false)] [] (fun t => t) (by kernel_rfl) ?_
                            refine ends_ret ?_
                            obtain rfl := Option.some.inj H
                            exact And.intro (by simp) (And.intro rfl rfl)
                          · obtain ⟨v127, h128, H⟩ := ofBind H
                            refine seq_ops [.res (cB v123), .g false, .g false, .g false, .g false, .g false, .g false, .g false, .g false, .g false, .g false, .g false, .res (cB v127), .g false, .g false] [] [(2, .c (.pk 2 0)), (3, .c (.pk 3 0)), (70, .c (dat 4 eTUnit zTUnit p1.Enemies)), (71, cI (p1.Enemies.length : Int)), (72, cI x118), (94, cB (!v127))] [(2, .var (eTBoard p0) false), (3, .var (eTView p1) false)] (fun t => aI (i_goodUnit_ok p0 v121 v123 h124) (aI c125 (aI c125 (aI c125 (aI c125 (aI c125 (aI c125 (aI c126 (aI c126 (aI c126 (aI c126 (aI c126 (aI (g_Contains_int_ok p1.Seen v121.At v127 h128) (aI c126 (aI c126 (t)))))))))))))))) (by kernel_rfl) ?_
                            rcases ofCond H with ⟨c129, H⟩ | ⟨c129, H⟩
                            · refine ite_t c129 (by kernel_rfl) ?_
                              refine seq_ops [] [] [(4, cB false)] [] (fun t => t) (by kernel_rfl) ?_
                              refine ends_ret ?_
                              obtain rfl := Option.some.inj H
                              exact And.intro (by simp) (And.intro rfl rfl)
                            · refine ite_f c129 (by kernel_rfl) ?_
                              refine ends_skip ?_
                              change EndsI _ _ _ _ _ _
                              refine one_ops [] [] [(2, .c (.pk 2 0)), (3, .c (.pk 3 0)), (70, .c (dat 4 eTUnit zTUnit p1.Enemies)), (71, cI (p1.Enemies.length : Int)), (72, cI (W (x118 + 1)))] [(2, .var (eTBoard p0) false), (3, .var (eTView p1) false)] (fun t => t) (by kernel_rfl) ?_
                              obtain rfl := Option.some.inj H
                              exact And.intro rfl rfl
                      · refine ite_f c120 (by kernel_rfl) ?_
                        refine tell [] [(3, .c (.pk 3 0))] [(3, .var (eTView p1) false)] (fun t => t) (by kernel_rfl) ?_
                        refine ends_exit ?_
                        obtain rfl := Option.some.inj H
                        exact And.intro (by simp) (And.intro rfl rfl)
                    · clear h131
                      cases y130 with
                      | inl y132 =>
                        replace H := ofInl H
                        intro e s q
                        obtain ⟨rfl, rfl⟩ := q
                        change EndsI _ _ _ _ _ _
                        obtain ⟨v134, h135, H⟩ := ofBind H
                        refine seq_ops [.res (cB v134)] [] [(4, cB v134)] [] (fun t => aI (g_IsSortedFunc_Unit_c0_ok p1.Enemies (212) (fun q0 q1 => X.i_compareUnits q0 q1) (fun q0 q1 r h => i_compareUnits_ok q0 q1 r h) v134 h135) (t)) (by kernel_rfl) ?_
                        refine ends_ret ?_
                        obtain rfl := Option.some.inj H
                        exact And.intro (.inl rfl) rfl
                      | inr y133 =>
                        replace H := ofInr H
                        intro e s q
                        obtain ⟨rfl, rfl⟩ := q
                        obtain rfl := Option.some.inj H
                        exact And.intro (.inl rfl) rfl
                  | inr y94 =>
                    replace H := ofInr H
                    intro e s q
                    obtain ⟨rfl, rfl⟩ := q
                    obtain rfl := Option.some.inj H
                    exact And.intro (.inl rfl) rfl

def i_hasView_ir : S :=
 (.seq (.ops [⟨some 2, .box 12 (.t 0), none⟩, ⟨some 3, .box 6 (.t 1), none⟩, ⟨some 4, .mv (.v (.bool false)), none⟩])
 (.seq (.ops [⟨some 5, .load 12 true (.t 2), none⟩, ⟨some 6, .call 110 [.t 5], none⟩, ⟨some 7, .mv (.t 6), none⟩, ⟨some 8, .load 12 true (.t 2), some (7, true)⟩, ⟨some 9, .load 6 true (.t 3), some (7, true)⟩, ⟨some 10, .call 157 [.t 8, .t 9], some (7, true)⟩, ⟨some 11, .pick (.t 7) (.t 10) (.v (.bool false)), none⟩, ⟨some 4, .mv (.t 11), none⟩])
 .ret))
noncomputable def X.i_hasView (p0 : TBoard) (p1 : TView) : Option Bool :=
  ((X.i_IsBoard p0).bind fun v1 => (bif v1 then ((X.i_goodView p0 p1).bind fun v4 => some v4) else some false))
theorem i_hasView_ok (p0 : TBoard) (p1 : TView) (r : Bool) (H : X.i_hasView p0 p1 = some r) : FnOk Tryz.prog gl 89 [.agg (eTBoard p0), .agg (eTView p1)] (cB r) := by
  unfold X.i_hasView at H
  refine fn_in (fn := Tryz.f89) (ir := i_hasView_ir) (s1 := lit [(4, cB r)] []) Tryz.func89 (by kernel_rfl) (by kernel_rfl) (by kernel_rfl) (by kernel_rfl) (by kernel_rfl) ?_
  refine seq_ops [] [] [(2, .c (.pk 2 0)), (3, .c (.pk 3 0))] [(2, .var (eTBoard p0) false), (3, .var (eTView p1) false)] (fun t => t) (by kernel_rfl) ?_
  obtain ⟨v1, h2, H⟩ := ofBind H
  rcases ofCond H with ⟨c3, H⟩ | ⟨c3, H⟩
  · obtain ⟨v4, h5, H⟩ := ofBind H
    refine seq_ops [.res (cB v1), .g true, .g true, .g true, .res (cB v4), .g true] [] [(4, cB v4)] [] (fun t => aI (i_IsBoard_ok p0 v1 h2) (aI c3 (aI c3 (aI c3 (aI (i_goodView_ok p0 p1 v4 h5) (aI c3 (t))))))) (by kernel_rfl) ?_
    refine ends_ret ?_
    obtain rfl := Option.some.inj H
    exact And.intro (.inl rfl) rfl
  · refine seq_ops [.res (cB v1), .g false, .g false, .g false, .g false] [] [(4, cB false)] [] (fun t => aI (i_IsBoard_ok p0 v1 h2) (aI c3 (aI c3 (aI c3 (aI c3 (t)))))) (by kernel_rfl) ?_
    refine ends_ret ?_
    obtain rfl := Option.some.inj H
    exact And.intro (.inl rfl) rfl

def i_neighboursOn_ir : S :=
 (.seq (.ops [⟨some 2, .box 5 (.t 0), none⟩, ⟨some 4, .mv (.v (.nil)), none⟩])
 (.seq (.ops [⟨some 8, .bsl 1 [], none⟩, ⟨some 5, .mv (.t 8), none⟩])
 (.seq (.seq (.ops [⟨some 9, .mv (.v (.int .i64 0)), none⟩])
 (.blk 0 (.loop (.seq (.ops [⟨some 10, .bin .lss (.t 9) (.v (.int .i64 6)), none⟩])
   (.seq (.ite (.t 10) .skip
   (.exit 0))
   (.seq (.blk 1 (.seq (.ops [⟨some 11, .mv (.t 9), none⟩, ⟨some 6, .mv (.t 11), none⟩])
    (.seq (.ops [⟨some 12, .load 5 true (.t 2), none⟩, ⟨some 13, .mv (.t 1), none⟩, ⟨some 14, .mv (.t 6), none⟩, ⟨some 15, .call 158 [.t 12, .t 13, .t 14], none⟩, ⟨some 7, .mv (.t 15), none⟩])
    (.seq (.ops [⟨some 16, .mv (.t 7), none⟩, ⟨some 17, .bin .geq (.t 16) (.v (.int .i64 0)), none⟩])
    (.ite (.t 17) (.ops [⟨some 18, .mv (.t 5), none⟩, ⟨some 19, .mv (.t 7), none⟩, ⟨some 20, .bsl 1 [.t 19], none⟩, ⟨some 21, .app 1 8 (.t 18) (.t 20), none⟩, ⟨some 5, .mv (.t 21), none⟩])
    .skip)))))
   (.ops [⟨some 22, .bin .add (.t 9) (.v (.int .i64 1)), none⟩, ⟨some 9, .mv (.t 22), none⟩])))))))
 (.seq (.ops [⟨some 23, .mv (.t 5), none⟩, ⟨some 4, .mv (.t 23), none⟩])
 .ret))))
noncomputable def X.i_neighboursOn (p0 : TMap) (p1 : Int) : Option (List Int) :=
  ((loop (fun (x14 : (Int × (List Int))) => ((bif (decide (x14.1 < 6)) then ((X.i_nextTo p0 p1 x14.1).bind fun v17 => (bif (decide (v17 ≥ 0)) then (if (x14.2 ++ ([v17] : List Int)).length ≤ LIM then some (Sum.inl ((W (x14.1 + 1)), (x14.2 ++ ([v17] : List Int)))) else none) else some (Sum.inl ((W (x14.1 + 1)), x14.2)))) else some (Sum.inr x14.2)) : Option ((Int × (List Int)) ⊕ (List Int)))) (0, ([] : List Int))).bind fun y21 => some y21)
theorem i_neighboursOn_ok (p0 : TMap) (p1 : Int) (r : (List Int)) (H : X.i_neighboursOn p0 p1 = some r) : FnOk Tryz.prog gl 92 [.agg (eTMap p0), cI p1] (.c (dat 1 eI zI r)) := by
  unfold X.i_neighboursOn at H
  refine fn_in (fn := Tryz.f92) (ir := i_neighboursOn_ir) (s1 := lit [(4, .c (dat 1 eI zI r))] []) Tryz.func92 (by kernel_rfl) (by kernel_rfl) (by kernel_rfl) (by kernel_rfl) (by kernel_rfl) ?_
  refine seq_ops [] [] [(1, cI p1), (2, .c (.pk 2 0))] [(2, .var (eTMap p0) false)] (fun t => t) (by kernel_rfl) ?_
  refine seq_ops [.fn ([] : List Int).length (fF eI zI ([] : List Int))] [] [(1, cI p1), (2, .c (.pk 2 0)), (5, .c (.own 8 1 0 (([] : List Int).length)))] [(2, .var (eTMap p0) false), (8, .arr 1 (([] : List Int).length) (fF eI zI ([] : List Int)) false)] (fun t => aI (rfl : ([] : List Int).length = 0) (aI (fF_lit eI zI ([] : List Int)) (t))) (by kernel_rfl) ?_
  refine seq_in ?_
  refine seq_ops [] [] [(1, cI p1), (2, .c (.pk 2 0)), (5, .c (.own 8 1 0 (([] : List Int).length))), (9, cI 0)] [(2, .var (eTMap p0) false), (8, .arr 1 (([] : List Int).length) (fF eI zI ([] : List Int)) false)] (fun t => t) (by kernel_rfl) ?_
  refine ends_blk ?_
  obtain ⟨y21, h22, H⟩ := ofBind H
  refine tell [.ren 8 1001] [(1, cI p1), (2, .c (.pk 2 0)), (5, .c (.own 1001 1 0 (([] : List Int).length))), (9, cI 0)] [(2, .var (eTMap p0) false), (1001, .arr 1 (([] : List Int).length) (fF eI zI ([] : List Int)) false)] (fun t => t) (by kernel_rfl) ?_
  refine loop_in (fun (x : (Int × (List Int))) => lit [(1, cI p1), (2, .c (.pk 2 0)), (5, .c (.own 1001 1 0 x.2.length)), (9, cI x.1)] [(2, .var (eTMap p0) false), (1001, .arr 1 x.2.length (fF eI zI x.2) false)]) (fun (z : (List Int)) => At (.exit 0) (lit [(5, .c (.own 1001 1 0 z.length))] [(1001, .arr 1 z.length (fF eI zI z) false)])) h22 ?_ ?_
  · clear H h22
    intro x14 y0 H
    refine seq_ops [] [] [(1, cI p1), (2, .c (.pk 2 0)), (5, .c (.own 1001 1 0 x14.2.length)), (9, cI x14.1), (10, cB (decide (x14.1 < 6)))] [(2, .var (eTMap p0) false), (1001, .arr 1 x14.2.length (fF eI zI x14.2) false)] (fun t => t) (by kernel_rfl) ?_
    refine seq_in ?_
    rcases ofCond H with ⟨c16, H⟩ | ⟨c16, H⟩
    · refine ite_t c16 (by kernel_rfl) ?_
      refine ends_skip ?_
      change EndsI _ _ _ _ _ _
      refine seq_in ?_
      refine ends_blk ?_
      refine seq_ops [] [] [(1, cI p1), (2, .c (.pk 2 0)), (5, .c (.own 1001 1 0 x14.2.length)), (6, cI x14.1), (9, cI x14.1)] [(2, .var (eTMap p0) false), (1001, .arr 1 x14.2.length (fF eI zI x14.2) false)] (fun t => t) (by kernel_rfl) ?_
      obtain ⟨v17, h18, H⟩ := ofBind H
      refine seq_ops [.res (cI v17)] [] [(1, cI p1), (2, .c (.pk 2 0)), (5, .c (.own 1001 1 0 x14.2.length)), (7, cI v17), (9, cI x14.1)] [(2, .var (eTMap p0) false), (1001, .arr 1 x14.2.length (fF eI zI x14.2) false)] (fun t => aI (i_nextTo_ok p0 p1 x14.1 v17 h18) (t)) (by kernel_rfl) ?_
      refine seq_ops [] [] [(1, cI p1), (2, .c (.pk 2 0)), (5, .c (.own 1001 1 0 x14.2.length)), (7, cI v17), (9, cI x14.1), (17, cB (decide (v17 ≥ 0)))] [(2, .var (eTMap p0) false), (1001, .arr 1 x14.2.length (fF eI zI x14.2) false)] (fun t => t) (by kernel_rfl) ?_
      rcases ofCond H with ⟨c19, H⟩ | ⟨c19, H⟩
      · refine ite_t c19 (by kernel_rfl) ?_
        obtain ⟨g20, H⟩ := ofIf H
        refine one_ops [.fn ([v17] : List Int).length (fF eI zI ([v17] : List Int)), .fn (x14.2 ++ ([v17] : List Int)).length (fF eI zI (x14.2 ++ ([v17] : List Int)))] [] [(1, cI p1), (2, .c (.pk 2 0)), (5, .c (.own 21 1 0 ((x14.2 ++ ([v17] : List Int)).length))), (9, cI x14.1)] [(2, .var (eTMap p0) false), (21, .arr 1 ((x14.2 ++ ([v17] : List Int)).length) (fF eI zI (x14.2 ++ ([v17] : List Int))) false)] (fun t => aI (rfl : ([v17] : List Int).length = 1) (aI (fF_lit eI zI ([v17] : List Int)) (aI (And.intro (Nat.le_refl x14.2.length) (And.intro (@List.length_append _ x14.2 ([v17] : List Int)) g20)) (aI (fF_appL eI zI x14.2 ([v17] : List Int)) (aI (fF_appR eI zI x14.2 ([v17] : List Int)) (t)))))) (by kernel_rfl) ?_
        change EndsI _ _ _ _ _ _
        refine one_ops [] [.ren 21 1001] [(1, cI p1), (2, .c (.pk 2 0)), (5, .c (.own 1001 1 0 ((x14.2 ++ ([v17] : List Int)).length))), (9, cI (W (x14.1 + 1)))] [(2, .var (eTMap p0) false), (1001, .arr 1 ((x14.2 ++ ([v17] : List Int)).length) (fF eI zI (x14.2 ++ ([v17] : List Int))) false)] (fun t => t) (by kernel_rfl) ?_
        obtain rfl := Option.some.inj H
        exact And.intro rfl rfl
      · refine ite_f c19 (by kernel_rfl) ?_
        refine ends_skip ?_
        change EndsI _ _ _ _ _ _
        refine one_ops [] [] [(1, cI p1), (2, .c (.pk 2 0)), (5, .c (.own 1001 1 0 x14.2.length)), (9, cI (W (x14.1 + 1)))] [(2, .var (eTMap p0) false), (1001, .arr 1 x14.2.length (fF eI zI x14.2) false)] (fun t => t) (by kernel_rfl) ?_
        obtain rfl := Option.some.inj H
        exact And.intro rfl rfl
    · refine ite_f c16 (by kernel_rfl) ?_
      refine tell [] [(5, .c (.own 1001 1 0 x14.2.length))] [(1001, .arr 1 x14.2.length (fF eI zI x14.2) false)] (fun t => t) (by kernel_rfl) ?_
      refine ends_exit ?_
      obtain rfl := Option.some.inj H
      exact And.intro (by simp) (And.intro rfl rfl)
  · clear h22
    intro e s q
    obtain ⟨rfl, rfl⟩ := q
    change EndsI _ _ _ _ _ _
    refine seq_ops [] [] [(4, .c (.own 1001 1 0 y21.length))] [(1001, .arr 1 y21.length (fF eI zI y21) false)] (fun t => t) (by kernel_rfl) ?_
    refine tell [.frz 4] [(4, .c (dat 1 eI zI y21))] [] (fun t => aI (Nat.le_refl y21.length) (t)) (by kernel_rfl) ?_
    refine ends_ret ?_
    obtain rfl := Option.some.inj H
    exact And.intro (.inl rfl) rfl

def i_HiddenThreat_ir : S :=
 (.seq (.ops [⟨some 3, .box 12 (.t 0), none⟩, ⟨some 4, .box 6 (.t 1), none⟩, ⟨some 6, .mv (.v (.int .i64 0)), none⟩, ⟨some 7, .mv (.v (.bool false)), none⟩])
 (.seq (.seq (.ops [⟨some 15, .load 12 true (.t 3), none⟩, ⟨some 16, .load 6 true (.t 4), none⟩, ⟨some 17, .call 89 [.t 15, .t 16], none⟩, ⟨some 18, .not (.t 17), none⟩, ⟨some 19, .mv (.t 18), none⟩, ⟨some 20, .mv (.t 2), some (19, false)⟩, ⟨some 21, .load 12 true (.t 3), some (19, false)⟩, ⟨some 22, .call 91 [.t 21], some (19, false)⟩, ⟨some 23, .call 90 [.t 20, .t 22], some (19, false)⟩, ⟨some 24, .not (.t 23), some (19, false)⟩, ⟨some 25, .pick (.t 19) (.v (.bool true)) (.t 24), none⟩])
 (.ite (.t 25) (.seq (.ops [⟨some 6, .mv (.v (.int .i64 0)), none⟩, ⟨some 7, .mv (.v (.bool false)), none⟩])
  .ret)
 .skip))
 (.seq (.ops [⟨some 26, .load 12 true (.t 3), none⟩, ⟨some 27, .call 91 [.t 26], none⟩, ⟨some 28, .msl 1 1 [.bool false] (.t 27), none⟩, ⟨some 8, .mv (.t 28), none⟩])
 (.seq (.seq (.ops [⟨some 29, .fad 0 (.t 3), none⟩, ⟨some 30, .fad 1 (.t 29), none⟩, ⟨some 31, .load 1 false (.t 30), none⟩, ⟨some 32, .len (.t 31), none⟩, ⟨some 33, .mv (.v (.int .i64 0)), none⟩])
 (.blk 0 (.loop (.seq (.ops [⟨some 34, .bin .lss (.t 33) (.t 32), none⟩])
   (.seq (.ite (.t 34) .skip
   (.exit 0))
   (.seq (.blk 1 (.seq (.ops [⟨some 35, .mv (.t 33), none⟩, ⟨some 9, .mv (.t 35), none⟩])
    (.seq (.ops [⟨some 36, .load 12 true (.t 3), none⟩, ⟨some 37, .load 6 true (.t 4), none⟩, ⟨some 38, .mv (.t 9), none⟩, ⟨some 39, .call 72 [.t 36, .t 37, .t 38], none⟩, ⟨some 40, .len (.t 39), none⟩, ⟨some 41, .mv (.v (.int .i64 0)), none⟩])
    (.blk 2 (.loop (.seq (.ops [⟨some 42, .bin .lss (.t 41) (.t 40), none⟩])
      (.seq (.ite (.t 42) .skip
      (.exit 2))
      (.seq (.blk 3 (.seq (.ops [⟨some 43, .iad 1 (.t 39) (.t 41), none⟩, ⟨some 44, .load 1 false (.t 43), none⟩, ⟨some 11, .mv (.t 44), none⟩])
       (.ops [⟨some 45, .mv (.t 8), none⟩, ⟨some 46, .mv (.t 11), none⟩, ⟨some 47, .iad 1 (.t 45) (.t 46), none⟩, ⟨none, .store 1 (.t 47) (.v (.bool true)), none⟩])))
      (.ops [⟨some 48, .bin .add (.t 41) (.v (.int .i64 1)), none⟩, ⟨some 41, .mv (.t 48), none⟩])))))))))
   (.ops [⟨some 49, .bin .add (.t 33) (.v (.int .i64 1)), none⟩, ⟨some 33, .mv (.t 49), none⟩])))))))
 (.seq (.ops [⟨some 12, .mv (.v (.int .i64 0)), none⟩])
 (.seq (.seq (.ops [⟨some 50, .fad 7 (.t 3), none⟩, ⟨some 51, .load 5 true (.t 50), none⟩, ⟨some 52, .mv (.t 2), none⟩, ⟨some 53, .call 92 [.t 51, .t 52], none⟩, ⟨some 54, .len (.t 53), none⟩, ⟨some 55, .mv (.v (.int .i64 0)), none⟩])
 (.blk 4 (.loop (.seq (.ops [⟨some 56, .bin .lss (.t 55) (.t 54), none⟩])
   (.seq (.ite (.t 56) .skip
   (.exit 4))
   (.seq (.blk 5 (.seq (.ops [⟨some 57, .iad 1 (.t 53) (.t 55), none⟩, ⟨some 58, .load 1 false (.t 57), none⟩, ⟨some 14, .mv (.t 58), none⟩])
    (.seq (.ops [⟨some 59, .mv (.t 8), none⟩, ⟨some 60, .mv (.t 14), none⟩, ⟨some 61, .iad 1 (.t 59) (.t 60), none⟩, ⟨some 62, .load 1 false (.t 61), none⟩])
    (.ite (.t 62) (.ops [⟨some 63, .mv (.t 12), none⟩, ⟨some 64, .bin .add (.t 63) (.v (.int .i64 1)), none⟩, ⟨some 12, .mv (.t 64), none⟩])
    .skip))))
   (.ops [⟨some 65, .bin .add (.t 55) (.v (.int .i64 1)), none⟩, ⟨some 55, .mv (.t 65), none⟩])))))))
 (.seq (.ops [⟨some 66, .fad 0 (.t 3), none⟩, ⟨some 67, .fad 2 (.t 66), none⟩, ⟨some 68, .load 1 false (.t 67), none⟩, ⟨some 69, .mv (.t 12), none⟩, ⟨some 70, .bin .mul (.t 68) (.t 69), none⟩, ⟨some 6, .mv (.t 70), none⟩, ⟨some 7, .mv (.v (.bool true)), none⟩])
 .ret)))))))
noncomputable def X.i_HiddenThreat (p0 : TBoard) (p1 : TView) (p2 : Int) : Option (Int × Bool) :=
  ((X.i_hasView p0 p1).bind fun v9 => (bif (!v9) then some (0, false) else ((X.i_sizeOf p0).bind fun v12 => ((X.i_isIndex p2 v12).bind fun v14 => (bif (!v14) then some (0, false) else ((X.i_sizeOf p0).bind fun v17 => (if 0 ≤ v17 ∧ v17.toNat ≤ LIM then ((loop (fun (x140 : (Int × (List Bool))) => ((bif (decide (x140.1 < (p0.Rules.Kinds.length : Int))) then ((X.i_mayHide p0 p1 x140.1).bind fun v143 => ((loop (fun (x156 : (Int × (List Bool))) => ((bif (decide (x156.1 < (v143.length : Int))) then ((at' zI v143 x156.1).bind fun v159 => (if 0 ≤ v159 ∧ v159 < (x156.2.length : Int) then some (Sum.inl ((W (x156.1 + 1)), (x156.2.set v159.toNat true))) else none)) else some (Sum.inr x156.2)) : Option ((Int × (List Bool)) ⊕ (List Bool)))) (0, x140.2)).bind fun y162 => some (Sum.inl ((W (x140.1 + 1)), y162)))) else some (Sum.inr x140.2)) : Option ((Int × (List Bool)) ⊕ (List Bool)))) (0, (List.replicate v17.toNat zB))).bind fun y164 => ((X.i_neighboursOn p0.Map p2).bind fun v190 => ((loop (fun (x205 : (Int × Int)) => ((bif (decide (x205.2 < (v190.length : Int))) then ((at' zI v190 x205.2).bind fun v208 => (if 0 ≤ v208 ∧ v208 < (y164.length : Int) then (bif (y164.getD v208.toNat zB) then some (Sum.inl ((W (x205.1 + 1)), (W (x205.2 + 1)))) else some (Sum.inl (x205.1, (W (x205.2 + 1))))) else none)) else some (Sum.inr x205.1)) : Option ((Int × Int) ⊕ Int))) (0, 0)).bind fun y212 => some ((W (p0.Rules.Stack * y212)), true)))) else none)))))))
theorem i_HiddenThreat_ok (p0 : TBoard) (p1 : TView) (p2 : Int) (r : (Int × Bool)) (H : X.i_HiddenThreat p0 p1 p2 = some r) : FnOk Tryz.prog gl 32 [.agg (eTBoard p0), .agg (eTView p1), cI p2] (.tup [(false, [.int .i64 r.1]), (false, [.bool r.2])]) := by
  unfold X.i_HiddenThreat at H
  refine fn_in (fn := Tryz.f32) (ir := i_HiddenThreat_ir) (s1 := lit [(6, cI r.1), (7, cB r.2)] []) Tryz.func32 (by kernel_rfl) (by kernel_rfl) (by kernel_rfl) (by kernel_rfl) (by kernel_rfl) ?_
  refine seq_ops [] [] [(2, cI p2), (3, .c (.pk 3 0)), (4, .c (.pk 4 0))] [(3, .var (eTBoard p0) false), (4, .var (eTView p1) false)] (fun t => t) (by kernel_rfl) ?_
  refine seq_in ?_
  obtain ⟨v9, h10, H⟩ := ofBind H
  rcases ofCond H with ⟨c11, H⟩ | ⟨c11, H⟩
  · refine seq_ops [.res (cB v9), .g true, .g true, .g true, .g true, .g true, .g true] [] [(2, cI p2), (3, .c (.pk 3 0)), (4, .c (.pk 4 0)), (25, cB true)] [(3, .var (eTBoard p0) false), (4, .var (eTView p1) false)] (fun t => aI (i_hasView_ok p0 p1 v9 h10) (aI c11 (aI c11 (aI c11 (aI c11 (aI c11 (aI c11 (t)))))))) (by kernel_rfl) ?_
    refine ite_t (rfl : (true : Bool) = true) (by kernel_rfl) ?_
    refine seq_ops [] [] [(6, cI 0), (7, cB false)] [] (fun t => t) (by kernel_rfl) ?_
    refine ends_ret ?_
    obtain rfl := Option.some.inj H
    exact And.intro (.inl rfl) rfl
  · obtain ⟨v12, h13, H⟩ := ofBind H
    obtain ⟨v14, h15, H⟩ := ofBind H
    refine seq_ops [.res (cB v9), .g false, .g false, .g false, .res (cI v12), .g false, .res (cB v14), .g false, .g false] [] [(2, cI p2), (3, .c (.pk 3 0)), (4, .c (.pk 4 0)), (25, cB (!v14))] [(3, .var (eTBoard p0) false), (4, .var (eTView p1) false)] (fun t => aI (i_hasView_ok p0 p1 v9 h10) (aI c11 (aI c11 (aI c11 (aI (i_sizeOf_ok p0 v12 h13) (aI c11 (aI (i_isIndex_ok p2 v12 v14 h15) (aI c11 (aI c11 (t)))))))))) (by kernel_rfl) ?_
    rcases ofCond H with ⟨c16, H⟩ | ⟨c16, H⟩
    · refine ite_t c16 (by kernel_rfl) ?_
      refine seq_ops [] [] [(6, cI 0), (7, cB false)] [] (fun t => t) (by kernel_rfl) ?_
      refine ends_ret ?_
      obtain rfl := Option.some.inj H
      exact And.intro (.inl rfl) rfl
    · refine ite_f c16 (by kernel_rfl) ?_
      refine ends_skip ?_
      change EndsI _ _ _ _ _ _
      obtain ⟨v17, h18, H⟩ := ofBind H
      obtain ⟨g19, H⟩ := ofIf H
      refine seq_ops [.res (cI v17), .fn (List.replicate v17.toNat zB).length (fF eB zB (List.replicate v17.toNat zB))] [] [(2, cI p2), (3, .c (.pk 3 0)), (4, .c (.pk 4 0)), (8, .c (.own 28 1 0 ((List.replicate v17.toNat zB).length)))] [(3, .var (eTBoard p0) false), (4, .var (eTView p1) false), (28, .arr 1 ((List.replicate v17.toNat zB).length) (fF eB zB (List.replicate v17.toNat zB)) false)] (fun t => aI (i_sizeOf_ok p0 v17 h18) (aI (And.intro g19.1 (And.intro (List.length_replicate (n := v17.toNat) (a := zB)).symm (Nat.le_trans (Nat.le_of_eq List.length_replicate) g19.2 : (List.replicate v17.toNat zB).length ≤ LIM))) (aI (fF_rep eB zB zB v17.toNat) (t)))) (by kernel_rfl) ?_
      refine seq_in ?_
      refine seq_ops [] [] [(2, cI p2), (3, .c (.pk 3 0)), (4, .c (.pk 4 0)), (8, .c (.own 28 1 0 ((List.replicate v17.toNat zB).length))), (32, cI (p0.Rules.Kinds.length : Int)), (33, cI 0)] [(3, .var (eTBoard p0) false), (4, .var (eTView p1) false), (28, .arr 1 ((List.replicate v17.toNat zB).length) (fF eB zB (List.replicate v17.toNat zB)) false)] (fun t => lI p0.Rules.Kinds (t)) (by kernel_rfl) ?_
      refine ends_blk ?_
      obtain ⟨y164, h165, H⟩ := ofBind H
      refine loop_in (fun (x : (Int × (List Bool))) => lit [(2, cI p2), (3, .c (.pk 3 0)), (4, .c (.pk 4 0)), (8, .c (.own 28 1 0 x.2.length)), (32, cI (p0.Rules.Kinds.length : Int)), (33, cI x.1)] [(3, .var (eTBoard p0) false), (4, .var (eTView p1) false), (28, .arr 1 x.2.length (fF eB zB x.2) false)]) (fun (z : (List Bool)) => At (.exit 0) (lit [(2, cI p2), (3, .c (.pk 3 0)), (8, .c (.own 28 1 0 z.length))] [(3, .var (eTBoard p0) false), (28, .arr 1 z.length (fF eB zB z) false)])) h165 ?_ ?_
      · clear H h165
        intro x140 y0 H
        refine seq_ops [] [] [(2, cI p2), (3, .c (.pk 3 0)), (4, .c (.pk 4 0)), (8, .c (.own 28 1 0 x140.2.length)), (32, cI (p0.Rules.Kinds.length : Int)), (33, cI x140.1), (34, cB (decide (x140.1 < (p0.Rules.Kinds.length : Int))))] [(3, .var (eTBoard p0) false), (4, .var (eTView p1) false), (28, .arr 1 x140.2.length (fF eB zB x140.2) false)] (fun t => t) (by kernel_rfl) ?_
        refine seq_in ?_
        rcases ofCond H with ⟨c142, H⟩ | ⟨c142, H⟩
        · refine ite_t c142 (by kernel_rfl) ?_
          refine ends_skip ?_
          change EndsI _ _ _ _ _ _
          refine seq_in ?_
          refine ends_blk ?_
          refine seq_ops [] [] [(2, cI p2), (3, .c (.pk 3 0)), (4, .c (.pk 4 0)), (8, .c (.own 28 1 0 x140.2.length)), (9, cI x140.1), (32, cI (p0.Rules.Kinds.length : Int)), (33, cI x140.1)] [(3, .var (eTBoard p0) false), (4, .var (eTView p1) false), (28, .arr 1 x140.2.length (fF eB zB x140.2) false)] (fun t => t) (by kernel_rfl) ?_
          obtain ⟨v143, h144, H⟩ := ofBind H
          refine seq_ops [.res (.c (dat 1 eI zI v143))] [] [(2, cI p2), (3, .c (.pk 3 0)), (4, .c (.pk 4 0)), (8, .c (.own 28 1 0 x140.2.length)), (32, cI (p0.Rules.Kinds.length : Int)), (33, cI x140.1), (39, .c (dat 1 eI zI v143)), (40, cI (v143.length : Int)), (41, cI 0)] [(3, .var (eTBoard p0) false), (4, .var (eTView p1) false), (28, .arr 1 x140.2.length (fF eB zB x140.2) false)] (fun t => aI (i_mayHide_ok p0 p1 x140.1 v143 h144) (lI v143 (t))) (by kernel_rfl) ?_
          refine ends_blk ?_
          obtain ⟨y162, h163, H⟩ := ofBind H
          refine loop_in (fun (x : (Int × (List Bool))) => lit [(2, cI p2), (3, .c (.pk 3 0)), (4, .c (.pk 4 0)), (8, .c (.own 28 1 0 x.2.length)), (32, cI (p0.Rules.Kinds.length : Int)), (33, cI x140.1), (39, .c (dat 1 eI zI v143)), (40, cI (v143.length : Int)), (41, cI x.1)] [(3, .var (eTBoard p0) false), (4, .var (eTView p1) false), (28, .arr 1 x.2.length (fF eB zB x.2) false)]) (fun (z : (List Bool)) => At (.exit 2) (lit [(2, cI p2), (3, .c (.pk 3 0)), (4, .c (.pk 4 0)), (8, .c (.own 28 1 0 z.length)), (32, cI (p0.Rules.Kinds.length : Int)), (33, cI x140.1)] [(3, .var (eTBoard p0) false), (4, .var (eTView p1) false), (28, .arr 1 z.length (fF eB zB z) false)])) h163 ?_ ?_
          · clear H h163
            intro x156 y0 H
            refine seq_ops [] [] [(2, cI p2), (3, .c (.pk 3 0)), (4, .c (.pk 4 0)), (8, .c (.own 28 1 0 x156.2.length)), (32, cI (p0.Rules.Kinds.length : Int)), (33, cI x140.1), (39, .c (dat 1 eI zI v143)), (40, cI (v143.length : Int)), (41, cI x156.1), (42, cB (decide (x156.1 < (v143.length : Int))))] [(3, .var (eTBoard p0) false), (4, .var (eTView p1) false), (28, .arr 1 x156.2.length (fF eB zB x156.2) false)] (fun t => t) (by kernel_rfl) ?_
            refine seq_in ?_
            rcases ofCond H with ⟨c158, H⟩ | ⟨c158, H⟩
            · refine ite_t c158 (by kernel_rfl) ?_
              refine ends_skip ?_
              change EndsI _ _ _ _ _ _
              refine seq_in ?_
              refine ends_blk ?_
              obtain ⟨v159, h160, H⟩ := ofBind H
              refine seq_ops [.cs (eI v159)] [] [(2, cI p2), (3, .c (.pk 3 0)), (4, .c (.pk 4 0)), (8, .c (.own 28 1 0 x156.2.length)), (11, cI v159), (32, cI (p0.Rules.Kinds.length : Int)), (33, cI x140.1), (39, .c (dat 1 eI zI v143)), (40, cI (v143.length : Int)), (41, cI x156.1)] [(3, .var (eTBoard p0) false), (4, .var (eTView p1) false), (28, .arr 1 x156.2.length (fF eB zB x156.2) false)] (fun t => aI (at_lt h160) (aI (at_enc (enc := eI) h160) (t))) (by kernel_rfl) ?_
              obtain ⟨g161, H⟩ := ofIf H
              refine one_ops [.no, .fn 0 (fF eB zB (x156.2.set v159.toNat true))] [] [(2, cI p2), (3, .c (.pk 3 0)), (4, .c (.pk 4 0)), (8, .c (.own 28 1 0 x156.2.length)), (32, cI (p0.Rules.Kinds.length : Int)), (33, cI x140.1), (39, .c (dat 1 eI zI v143)), (40, cI (v143.length : Int)), (41, cI x156.1)] [(3, .var (eTBoard p0) false), (4, .var (eTView p1) false), (28, .arr 1 x156.2.length (fF eB zB (x156.2.set v159.toNat true)) false)] (fun t => aI g161 (aI (rfl : true = true) (aI (nat_lt g161) (aI (by decide : 0 + 1 ≤ 1) (aI (fF_set eB zB x156.2 v159.toNat true (nat_lt g161) x156.2.length) (t)))))) (by kernel_rfl) ?_
              change EndsI _ _ _ _ _ _
              refine one_ops [] [.rel 8 ((x156.2.set v159.toNat true).length), .rep 28 ((x156.2.set v159.toNat true).length) (fF eB zB (x156.2.set v159.toNat true))] [(2, cI p2), (3, .c (.pk 3 0)), (4, .c (.pk 4 0)), (8, .c (.own 28 1 0 ((x156.2.set v159.toNat true).length))), (32, cI (p0.Rules.Kinds.length : Int)), (33, cI x140.1), (39, .c (dat 1 eI zI v143)), (40, cI (v143.length : Int)), (41, cI (W (x156.1 + 1)))] [(3, .var (eTBoard p0) false), (4, .var (eTView p1) false), (28, .arr 1 ((x156.2.set v159.toNat true).length) (fF eB zB (x156.2.set v159.toNat true)) false)] (fun t => aI (by simp : x156.2.length = (x156.2.set v159.toNat true).length) (aI (Nat.le_of_eq (by simp : (x156.2.set v159.toNat true).length = x156.2.length)) (aI (fun _ _ => rfl : ∀ i, i < (x156.2.set v159.toNat true).length → (fF eB zB (x156.2.set v159.toNat true)) i = (fF eB zB (x156.2.set v159.toNat true)) i) (t)))) (by kernel_rfl) ?_
              obtain rfl := Option.some.inj H
              exact And.intro rfl rfl
            · refine ite_f c158 (by kernel_rfl) ?_
              refine tell [] [(2, cI p2), (3, .c (.pk 3 0)), (4, .c (.pk 4 0)), (8, .c (.own 28 1 0 x156.2.length)), (32, cI (p0.Rules.Kinds.length : Int)), (33, cI x140.1)] [(3, .var (eTBoard p0) false), (4, .var (eTView p1) false), (28, .arr 1 x156.2.length (fF eB zB x156.2) false)] (fun t => t) (by kernel_rfl) ?_
              refine ends_exit ?_
              obtain rfl := Option.some.inj H
              exact And.intro (by simp) (And.intro rfl rfl)
          · clear h163
            intro e s q
            obtain ⟨rfl, rfl⟩ := q
            change EndsI _ _ _ _ _ _
            refine one_ops [] [] [(2, cI p2), (3, .c (.pk 3 0)), (4, .c (.pk 4 0)), (8, .c (.own 28 1 0 y162.length)), (32, cI (p0.Rules.Kinds.length : Int)), (33, cI (W (x140.1 + 1)))] [(3, .var (eTBoard p0) false), (4, .var (eTView p1) false), (28, .arr 1 y162.length (fF eB zB y162) false)] (fun t => t) (by kernel_rfl) ?_
            obtain rfl := Option.some.inj H
            exact And.intro rfl rfl
        · refine ite_f c142 (by kernel_rfl) ?_
          refine tell [] [(2, cI p2), (3, .c (.pk 3 0)), (8, .c (.own 28 1 0 x140.2.length))] [(3, .var (eTBoard p0) false), (28, .arr 1 x140.2.length (fF eB zB x140.2) false)] (fun t => t) (by kernel_rfl) ?_
          refine ends_exit ?_
          obtain rfl := Option.some.inj H
          exact And.intro (by simp) (And.intro rfl rfl)
      · clear h165
        intro e s q
        obtain ⟨rfl, rfl⟩ := q
        change EndsI _ _ _ _ _ _
        refine seq_ops [] [] [(2, cI p2), (3, .c (.pk 3 0)), (8, .c (.own 28 1 0 y164.length)), (12, cI 0)] [(3, .var (eTBoard p0) false), (28, .arr 1 y164.length (fF eB zB y164) false)] (fun t => t) (by kernel_rfl) ?_
        refine seq_in ?_
        obtain ⟨v190, h191, H⟩ := ofBind H
        refine seq_ops [.res (.c (dat 1 eI zI v190))] [] [(3, .c (.pk 3 0)), (8, .c (.own 28 1 0 y164.length)), (12, cI 0), (53, .c (dat 1 eI zI v190)), (54, cI (v190.length : Int)), (55, cI 0)] [(3, .var (eTBoard p0) false), (28, .arr 1 y164.length (fF eB zB y164) false)] (fun t => aI (i_neighboursOn_ok p0.Map p2 v190 h191) (lI v190 (t))) (by kernel_rfl) ?_
        refine ends_blk ?_
        obtain ⟨y212, h213, H⟩ := ofBind H
        refine loop_in (fun (x : (Int × Int)) => lit [(3, .c (.pk 3 0)), (8, .c (.own 28 1 0 y164.length)), (12, cI x.1), (53, .c (dat 1 eI zI v190)), (54, cI (v190.length : Int)), (55, cI x.2)] [(3, .var (eTBoard p0) false), (28, .arr 1 y164.length (fF eB zB y164) false)]) (fun (z : Int) => At (.exit 4) (lit [(3, .c (.pk 3 0)), (12, cI z)] [(3, .var (eTBoard p0) false)])) h213 ?_ ?_
        · clear H h213
          intro x205 y0 H
          refine seq_ops [] [] [(3, .c (.pk 3 0)), (8, .c (.own 28 1 0 y164.length)), (12, cI x205.1), (53, .c (dat 1 eI zI v190)), (54, cI (v190.length : Int)), (55, cI x205.2), (56, cB (decide (x205.2 < (v190.length : Int))))] [(3, .var (eTBoard p0) false), (28, .arr 1 y164.length (fF eB zB y164) false)] (fun t => t) (by kernel_rfl) ?_
          refine seq_in ?_
          rcases ofCond H with ⟨c207, H⟩ | ⟨c207, H⟩
          · refine ite_t c207 (by kernel_rfl) ?_
            refine ends_skip ?_
            change EndsI _ _ _ _ _ _
            refine seq_in ?_
            refine ends_blk ?_
            obtain ⟨v208, h209, H⟩ := ofBind H
            refine seq_ops [.cs (eI v208)] [] [(3, .c (.pk 3 0)), (8, .c (.own 28 1 0 y164.length)), (12, cI x205.1), (14, cI v208), (53, .c (dat 1 eI zI v190)), (54, cI (v190.length : Int)), (55, cI x205.2)] [(3, .var (eTBoard p0) false), (28, .arr 1 y164.length (fF eB zB y164) false)] (fun t => aI (at_lt h209) (aI (at_enc (enc := eI) h209) (t))) (by kernel_rfl) ?_
            obtain ⟨g210, H⟩ := ofIf H
            refine seq_ops [.no] [] [(3, .c (.pk 3 0)), (8, .c (.own 28 1 0 y164.length)), (12, cI x205.1), (53, .c (dat 1 eI zI v190)), (54, cI (v190.length : Int)), (55, cI x205.2), (62, cB (y164.getD v208.toNat zB))] [(3, .var (eTBoard p0) false), (28, .arr 1 y164.length (fF eB zB y164) false)] (fun t => aI g210 (aI (nat_lt g210) (t))) (by kernel_rfl) ?_
            rcases ofCond H with ⟨c211, H⟩ | ⟨c211, H⟩
            · refine ite_t c211 (by kernel_rfl) ?_
              refine one_ops [] [] [(3, .c (.pk 3 0)), (8, .c (.own 28 1 0 y164.length)), (12, cI (W (x205.1 + 1))), (53, .c (dat 1 eI zI v190)), (54, cI (v190.length : Int)), (55, cI x205.2)] [(3, .var (eTBoard p0) false), (28, .arr 1 y164.length (fF eB zB y164) false)] (fun t => t) (by kernel_rfl) ?_
              change EndsI _ _ _ _ _ _
              refine one_ops [] [] [(3, .c (.pk 3 0)), (8, .c (.own 28 1 0 y164.length)), (12, cI (W (x205.1 + 1))), (53, .c (dat 1 eI zI v190)), (54, cI (v190.length : Int)), (55, cI (W (x205.2 + 1)))] [(3, .var (eTBoard p0) false), (28, .arr 1 y164.length (fF eB zB y164) false)] (fun t => t) (by kernel_rfl) ?_
              obtain rfl := Option.some.inj H
              exact And.intro rfl rfl
            · refine ite_f c211 (by kernel_rfl) ?_
              refine ends_skip ?_
              change EndsI _ _ _ _ _ _
              refine one_ops [] [] [(3, .c (.pk 3 0)), (8, .c (.own 28 1 0 y164.length)), (12, cI x205.1), (53, .c (dat 1 eI zI v190)), (54, cI (v190.length : Int)), (55, cI (W (x205.2 + 1)))] [(3, .var (eTBoard p0) false), (28, .arr 1 y164.length (fF eB zB y164) false)] (fun t => t) (by kernel_rfl) ?_
              obtain rfl := Option.some.inj H
              exact And.intro rfl rfl
          · refine ite_f c207 (by kernel_rfl) ?_
            refine tell [] [(3, .c (.pk 3 0)), (12, cI x205.1)] [(3, .var (eTBoard p0) false)] (fun t => t) (by kernel_rfl) ?_
            refine ends_exit ?_
            obtain rfl := Option.some.inj H
            exact And.intro (by simp) (And.intro rfl rfl)
        · clear h213
          intro e s q
          obtain ⟨rfl, rfl⟩ := q
          change EndsI _ _ _ _ _ _
          refine seq_ops [] [] [(6, cI (W (p0.Rules.Stack * y212))), (7, cB true)] [] (fun t => t) (by kernel_rfl) ?_
          refine ends_ret ?_
          obtain rfl := Option.some.inj H
          exact And.intro (.inl rfl) rfl

def l_FnExactHiddenThreat_ir : S :=
 (.seq (.ops [⟨some 3, .box 12 (.t 0), none⟩, ⟨some 4, .box 6 (.t 1), none⟩, ⟨some 6, .mv (.v (.bool false)), none⟩])
 (.seq (.ops [⟨some 7, .mv (.v (.int .i64 1048576)), none⟩])
 (.seq (.ops [⟨some 14, .load 12 true (.t 3), none⟩, ⟨some 15, .mv (.t 7), none⟩, ⟨some 16, .call 15 [.t 14, .t 15], none⟩, ⟨some 7, .mv (.t 16), none⟩])
 (.seq (.seq (.ops [⟨some 17, .mv (.t 7), none⟩, ⟨some 18, .bin .lss (.t 17) (.v (.int .i64 0)), none⟩])
 (.ite (.t 18) (.seq (.ops [⟨some 6, .mv (.v (.bool true)), none⟩])
  .ret)
 .skip))
 (.seq (.ops [⟨some 19, .load 6 true (.t 4), none⟩, ⟨some 20, .mv (.t 7), none⟩, ⟨some 21, .call 16 [.t 19, .t 20], none⟩, ⟨some 7, .mv (.t 21), none⟩])
 (.seq (.seq (.ops [⟨some 22, .mv (.t 7), none⟩, ⟨some 23, .bin .lss (.t 22) (.v (.int .i64 0)), none⟩])
 (.ite (.t 23) (.seq (.ops [⟨some 6, .mv (.v (.bool true)), none⟩])
  .ret)
 .skip))
 (.seq (.draw 11 [⟨some 25, .load 12 true (.t 3), none⟩, ⟨some 26, .call 18 [.t 25], none⟩, ⟨some 27, .load 6 true (.t 4), none⟩, ⟨some 28, .call 19 [.t 27], none⟩, ⟨some 29, .mv (.t 2), none⟩, ⟨some 30, .call 31 [.t 26, .t 28, .t 29], none⟩, ⟨some 24, .mv (.t 30), none⟩, ⟨some 31, .ext (.t 24) 0, none⟩, ⟨some 32, .ext (.t 24) 1, none⟩, ⟨some 8, .mv (.t 31), none⟩, ⟨some 9, .mv (.t 32), none⟩])
 (.seq (.ops [⟨some 33, .load 12 true (.t 3), none⟩, ⟨some 34, .call 18 [.t 33], none⟩, ⟨some 10, .alloc [.nil, .nil, .int .i64 0, .int .i64 0, .int .i64 0, .int .i64 0, .int .i64 0, .int .i64 0, .int .i64 0, .nil, .nil, .nil], none⟩, ⟨none, .store 12 (.t 10) (.t 34), none⟩])
 (.seq (.ops [⟨some 35, .load 6 true (.t 4), none⟩, ⟨some 36, .call 19 [.t 35], none⟩, ⟨some 11, .alloc [.int .i64 0, .int .i64 0, .int .i64 0, .nil, .nil, .nil], none⟩, ⟨none, .store 6 (.t 11) (.t 36), none⟩])
 (.seq (.ops [⟨some 38, .load 12 true (.t 10), none⟩, ⟨some 39, .load 6 true (.t 11), none⟩, ⟨some 40, .mv (.t 2), none⟩, ⟨some 41, .call 32 [.t 38, .t 39, .t 40], none⟩, ⟨some 37, .mv (.t 41), none⟩, ⟨some 42, .ext (.t 37) 0, none⟩, ⟨some 43, .ext (.t 37) 1, none⟩, ⟨some 12, .mv (.t 42), none⟩, ⟨some 13, .mv (.t 43), none⟩])
 (.seq (.seq (.ops [⟨some 44, .mv (.t 12), none⟩, ⟨some 45, .mv (.t 8), none⟩, ⟨some 46, .bin .neq (.t 44) (.t 45), none⟩, ⟨some 47, .mv (.t 46), none⟩, ⟨some 48, .mv (.t 13), some (47, false)⟩, ⟨some 49, .mv (.t 9), some (47, false)⟩, ⟨some 50, .bqe true (.t 48) (.t 49), some (47, false)⟩, ⟨some 51, .pick (.t 47) (.v (.bool true)) (.t 50), none⟩])
 (.ite (.t 51) (.seq (.ops [⟨some 6, .mv (.v (.bool false)), none⟩])
  .ret)
 .skip))
 (.seq (.seq (.draw 5 [⟨some 52, .load 12 true (.t 10), none⟩, ⟨some 53, .load 12 true (.t 3), none⟩, ⟨some 54, .call 18 [.t 53], none⟩, ⟨some 55, .call 21 [.t 52, .t 54], none⟩, ⟨some 56, .not (.t 55), none⟩])
 (.ite (.t 56) (.seq (.ops [⟨some 6, .mv (.v (.bool false)), none⟩])
  .ret)
 .skip))
 (.seq (.seq (.draw 5 [⟨some 57, .load 6 true (.t 11), none⟩, ⟨some 58, .load 6 true (.t 4), none⟩, ⟨some 59, .call 19 [.t 58], none⟩, ⟨some 60, .call 22 [.t 57, .t 59], none⟩, ⟨some 61, .not (.t 60), none⟩])
 (.ite (.t 61) (.seq (.ops [⟨some 6, .mv (.v (.bool false)), none⟩])
  .ret)
 .skip))
 (.seq (.ops [⟨some 6, .mv (.v (.bool true)), none⟩])
 .ret))))))))))))))
noncomputable def X.l_FnExactHiddenThreat (p0 : TBoard) (p1 : TView) (p2 : Int) : Option Bool :=
  ((X.l_szBoard p0 1048576).bind fun v1 => (bif (decide (v1 < 0)) then some true else ((X.l_szView p1 v1).bind fun v5 => (bif (decide (v5 < 0)) then some true else ((X.l_toBoard p0).bind fun v9 => ((X.l_toView p1).bind fun v11 => ((X.s_HiddenThreat v9 v11 p2).bind fun v13 => ((X.l_toBoard p0).bind fun v15 => ((X.l_toView p1).bind fun v17 => ((X.i_HiddenThreat v15 v17 p2).bind fun v19 => (bif (v19.1 != v13.1) then some false else (bif (!(v19.2 == v13.2)) then some false else ((X.l_toBoard p0).bind fun v30 => ((X.l_eqBoard v15 v30).bind fun v32 => (bif (!v32) then some false else ((X.l_toView p1).bind fun v35 => ((X.l_eqView v17 v35).bind fun v37 => (bif (!v37) then some false else some true))))))))))))))))))
theorem l_FnExactHiddenThreat_ok (p0 : TBoard) (p1 : TView) (p2 : Int) (r : Bool) (H : X.l_FnExactHiddenThreat p0 p1 p2 = some r) : FnOk Tryz.prog gl 5 [.agg (eTBoard p0), .agg (eTView p1), cI p2] (cB r) := by
  unfold X.l_FnExactHiddenThreat at H
  refine fn_in (fn := Tryz.f5) (ir := l_FnExactHiddenThreat_ir) (s1 := lit [(6, cB r)] []) Tryz.func5 (by kernel_rfl) (by kernel_rfl) (by kernel_rfl) (by kernel_rfl) (by kernel_rfl) ?_
  refine seq_ops [] [] [(2, cI p2), (3, .c (.pk 3 0)), (4, .c (.pk 4 0))] [(3, .var (eTBoard p0) false), (4, .var (eTView p1) false)] (fun t => t) (by kernel_rfl) ?_
  refine seq_ops [] [] [(2, cI p2), (3, .c (.pk 3 0)), (4, .c (.pk 4 0)), (7, cI 1048576)] [(3, .var (eTBoard p0) false), (4, .var (eTView p1) false)] (fun t => t) (by kernel_rfl) ?_
  obtain ⟨v1, h2, H⟩ := ofBind H
  refine seq_ops [.res (cI v1)] [] [(2, cI p2), (3, .c (.pk 3 0)), (4, .c (.pk 4 0)), (7, cI v1)] [(3, .var (eTBoard p0) false), (4, .var (eTView p1) false)] (fun t => aI (l_szBoard_ok p0 1048576 v1 h2) (t)) (by kernel_rfl) ?_
  refine seq_in ?_
  refine seq_ops [] [] [(2, cI p2), (3, .c (.pk 3 0)), (4, .c (.pk 4 0)), (7, cI v1), (18, cB (decide (v1 < 0)))] [(3, .var (eTBoard p0) false), (4, .var (eTView p1) false)] (fun t => t) (by kernel_rfl) ?_
  rcases ofCond H with ⟨c4, H⟩ | ⟨c4, H⟩
  · refine ite_t c4 (by kernel_rfl) ?_
    refine seq_ops [] [] [(6, cB true)] [] (fun t => t) (by kernel_rfl) ?_
    refine ends_ret ?_
    obtain rfl := Option.some.inj H
    exact And.intro (.inl rfl) rfl
  · refine ite_f c4 (by kernel_rfl) ?_
    refine ends_skip ?_
    change EndsI _ _ _ _ _ _
    obtain ⟨v5, h6, H⟩ := ofBind H
    refine seq_ops [.res (cI v5)] [] [(2, cI p2), (3, .c (.pk 3 0)), (4, .c (.pk 4 0)), (7, cI v5)] [(3, .var (eTBoard p0) false), (4, .var (eTView p1) false)] (fun t => aI (l_szView_ok p1 v1 v5 h6) (t)) (by kernel_rfl) ?_
    refine seq_in ?_
    refine seq_ops [] [] [(2, cI p2), (3, .c (.pk 3 0)), (4, .c (.pk 4 0)), (23, cB (decide (v5 < 0)))] [(3, .var (eTBoard p0) false), (4, .var (eTView p1) false)] (fun t => t) (by kernel_rfl) ?_
    rcases ofCond H with ⟨c8, H⟩ | ⟨c8, H⟩
    · refine ite_t c8 (by kernel_rfl) ?_
      refine seq_ops [] [] [(6, cB true)] [] (fun t => t) (by kernel_rfl) ?_
      refine ends_ret ?_
      obtain rfl := Option.some.inj H
      exact And.intro (.inl rfl) rfl
    · refine ite_f c8 (by kernel_rfl) ?_
      refine ends_skip ?_
      change EndsI _ _ _ _ _ _
      obtain ⟨v9, h10, H⟩ := ofBind H
      obtain ⟨v11, h12, H⟩ := ofBind H
      obtain ⟨v13, h14, H⟩ := ofBind H
      refine seq_draw [.res (.agg (eTBoard v9)), .res (.agg (eTView v11)), .res (.tup [(false, [.int .i64 v13.1]), (false, [.bool v13.2])])] [] [(2, cI p2), (3, .c (.pk 3 0)), (4, .c (.pk 4 0)), (8, cI v13.1), (9, cB v13.2)] [(3, .var (eTBoard p0) false), (4, .var (eTView p1) false)] (fun t => aI (l_toBoard_ok p0 v9 h10) (aI (rfl : ([] : List Nat) = []) (aI (rfl : ([] : List Nat) = []) (aI (l_toView_ok p1 v11 h12) (aI (rfl : ([] : List Nat) = []) (aI (rfl : ([] : List Nat) = []) (aI (s_HiddenThreat_ok v9 v11 p2 v13 h14) (aI trivial (aI (rfl : ([] : List Nat) = []) (t)))))))))) (by kernel_rfl) ?_
      obtain ⟨v15, h16, H⟩ := ofBind H
      refine seq_ops [.res (.agg (eTBoard v15))] [] [(2, cI p2), (3, .c (.pk 3 0)), (4, .c (.pk 4 0)), (8, cI v13.1), (9, cB v13.2), (10, .c (.pk 10 0))] [(3, .var (eTBoard p0) false), (4, .var (eTView p1) false), (10, .var (eTBoard v15) false)] (fun t => aI (l_toBoard_ok p0 v15 h16) (t)) (by kernel_rfl) ?_
      obtain ⟨v17, h18, H⟩ := ofBind H
      refine seq_ops [.res (.agg (eTView v17))] [] [(2, cI p2), (3, .c (.pk 3 0)), (4, .c (.pk 4 0)), (8, cI v13.1), (9, cB v13.2), (10, .c (.pk 10 0)), (11, .c (.pk 11 0))] [(3, .var (eTBoard p0) false), (4, .var (eTView p1) false), (10, .var (eTBoard v15) false), (11, .var (eTView v17) false)] (fun t => aI (l_toView_ok p1 v17 h18) (t)) (by kernel_rfl) ?_
      obtain ⟨v19, h20, H⟩ := ofBind H
      refine seq_ops [.res (.tup [(false, [.int .i64 v19.1]), (false, [.bool v19.2])])] [] [(3, .c (.pk 3 0)), (4, .c (.pk 4 0)), (8, cI v13.1), (9, cB v13.2), (10, .c (.pk 10 0)), (11, .c (.pk 11 0)), (12, cI v19.1), (13, cB v19.2)] [(3, .var (eTBoard p0) false), (4, .var (eTView p1) false), (10, .var (eTBoard v15) false), (11, .var (eTView v17) false)] (fun t => aI (i_HiddenThreat_ok v15 v17 p2 v19 h20) (t)) (by kernel_rfl) ?_
      refine seq_in ?_
      rcases ofCond H with ⟨c23, H⟩ | ⟨c23, H⟩
      · refine seq_ops [.g true, .g true, .g true, .g true] [] [(3, .c (.pk 3 0)), (4, .c (.pk 4 0)), (10, .c (.pk 10 0)), (11, .c (.pk 11 0)), (51, cB true)] [(3, .var (eTBoard p0) false), (4, .var (eTView p1) false), (10, .var (eTBoard v15) false), (11, .var (eTView v17) false)] (fun t => aI c23 (aI c23 (aI c23 (aI c23 (t))))) (by kernel_rfl) ?_
        refine ite_t (rfl : (true : Bool) = true) (by kernel_rfl) ?_
        refine seq_ops [] [] [(6, cB false)] [] (fun t => t) (by kernel_rfl) ?_
        refine ends_ret ?_
        obtain rfl := Option.some.inj H
        exact And.intro (.inl rfl) rfl
      · refine seq_ops [.g false, .g false, .g false, .g false] [] [(3, .c (.pk 3 0)), (4, .c (.pk 4 0)), (10, .c (.pk 10 0)), (11, .c (.pk 11 0)), (51, cB (!(v19.2 == v13.2)))] [(3, .var (eTBoard p0) false), (4, .var (eTView p1) false), (10, .var (eTBoard v15) false), (11, .var (eTView v17) false)] (fun t => aI c23 (aI c23 (aI c23 (aI c23 (t))))) (by kernel_rfl) ?_
        rcases ofCond H with ⟨c24, H⟩ | ⟨c24, H⟩
        · refine ite_t c24 (by kernel_rfl) ?_
          refine seq_ops [] [] [(6, cB false)] [] (fun t => t) (by kernel_rfl) ?_
          refine ends_ret ?_
          obtain rfl := Option.some.inj H
          exact And.intro (.inl rfl) rfl
        · refine ite_f c24 (by kernel_rfl) ?_
          refine ends_skip ?_
          change EndsI _ _ _ _ _ _
          refine seq_in ?_
          obtain ⟨v30, h31, H⟩ := ofBind H
          obtain ⟨v32, h33, H⟩ := ofBind H
          refine seq_draw [.res (.agg (eTBoard v30)), .res (cB v32)] [] [(4, .c (.pk 4 0)), (11, .c (.pk 11 0)), (56, cB (!v32))] [(4, .var (eTView p1) false), (11, .var (eTView v17) false)] (fun t => aI (l_toBoard_ok p0 v30 h31) (aI (rfl : ([] : List Nat) = []) (aI (rfl : ([] : List Nat) = []) (aI (l_eqBoard_ok v15 v30 v32 h33) (aI trivial (aI (rfl : ([] : List Nat) = []) (t))))))) (by kernel_rfl) ?_
          rcases ofCond H with ⟨c34, H⟩ | ⟨c34, H⟩
          · refine ite_t c34 (by kernel_rfl) ?_
            refine seq_ops [] [] [(6, cB false)] [] (fun t => t) (by kernel_rfl) ?_
            refine ends_ret ?_
            obtain rfl := Option.some.inj H
            exact And.intro (.inl rfl) rfl
          · refine ite_f c34 (by kernel_rfl) ?_
            refine ends_skip ?_
            change EndsI _ _ _ _ _ _
            refine seq_in ?_
            obtain ⟨v35, h36, H⟩ := ofBind H
            obtain ⟨v37, h38, H⟩ := ofBind H
            refine seq_draw [.res (.agg (eTView v35)), .res (cB v37)] [] [(61, cB (!v37))] [] (fun t => aI (l_toView_ok p1 v35 h36) (aI (rfl : ([] : List Nat) = []) (aI (rfl : ([] : List Nat) = []) (aI (l_eqView_ok v17 v35 v37 h38) (aI trivial (aI (rfl : ([] : List Nat) = []) (t))))))) (by kernel_rfl) ?_
            rcases ofCond H with ⟨c39, H⟩ | ⟨c39, H⟩
            · refine ite_t c39 (by kernel_rfl) ?_
              refine seq_ops [] [] [(6, cB false)] [] (fun t => t) (by kernel_rfl) ?_
              refine ends_ret ?_
              obtain rfl := Option.some.inj H
              exact And.intro (.inl rfl) rfl
            · refine ite_f c39 (by kernel_rfl) ?_
              refine ends_skip ?_
              change EndsI _ _ _ _ _ _
              refine seq_ops [] [] [(6, cB true)] [] (fun t => t) (by kernel_rfl) ?_
              refine ends_ret ?_
              obtain rfl := Option.some.inj H
              exact And.intro (.inl rfl) rfl

end Go.Proofs.YtihggbgmdlhlcaaGreatDoor.X0
