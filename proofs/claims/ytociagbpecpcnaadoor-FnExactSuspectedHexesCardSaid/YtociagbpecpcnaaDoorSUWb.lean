/- What each Go function that FnExactSuspectedHexes reaches computes, and that it returns so; no condition. -/
import Derived.Test.YtociagbpecpcnaaDoorSUWa
set_option linter.unusedVariables false
set_option linter.unusedSimpArgs false
set_option maxRecDepth 100000
namespace Go.Proofs.YtociagbpecpcnaaDoor.X0
open Go Go.RowKit Go.Proofs.YtociagbpecpcnaaDoor.Ab Go.Proofs

def s_rGood_ir : S :=
 (.seq (.ops [⟨some 1, .box 7 (.t 0), none⟩, ⟨some 2, .mv (.v (.bool false)), none⟩])
 (.seq (.seq (.ops [⟨some 7, .fad 0 (.t 1), none⟩, ⟨some 8, .load 1 false (.t 7), none⟩, ⟨some 9, .len (.t 8), none⟩, ⟨some 10, .call 28 [.t 9, .v (.int .i64 1), .v (.int .i64 6)], none⟩, ⟨some 11, .not (.t 10), none⟩, ⟨some 12, .mv (.t 11), none⟩, ⟨some 13, .fad 1 (.t 1), some (12, false)⟩, ⟨some 14, .load 1 false (.t 13), some (12, false)⟩, ⟨some 15, .len (.t 14), some (12, false)⟩, ⟨some 16, .call 28 [.t 15, .v (.int .i64 1), .v (.int .i64 4)], some (12, false)⟩, ⟨some 17, .not (.t 16), some (12, false)⟩, ⟨some 18, .pick (.t 12) (.v (.bool true)) (.t 17), none⟩])
 (.ite (.t 18) (.seq (.ops [⟨some 2, .mv (.v (.bool false)), none⟩])
  .ret)
 .skip))
 (.seq (.seq (.ops [⟨some 19, .fad 0 (.t 1), none⟩, ⟨some 20, .load 1 false (.t 19), none⟩, ⟨some 21, .len (.t 20), none⟩, ⟨some 22, .mv (.v (.int .i64 0)), none⟩])
 (.blk 0 (.loop (.seq (.ops [⟨some 23, .bin .lss (.t 22) (.t 21), none⟩])
   (.seq (.ite (.t 23) .skip
   (.exit 0))
   (.seq (.blk 1 (.seq (.ops [⟨some 24, .mv (.t 22), none⟩, ⟨some 25, .iad 5 (.t 20) (.t 22), none⟩, ⟨some 26, .load 5 true (.t 25), none⟩, ⟨some 4, .alloc [.str [], .nil, .int .i64 0, .int .i64 0, .bool false], none⟩, ⟨some 3, .mv (.t 24), none⟩, ⟨none, .store 5 (.t 4) (.t 26), none⟩])
    (.seq (.ops [⟨some 27, .fad 0 (.t 4), none⟩, ⟨some 28, .load 1 false (.t 27), none⟩, ⟨some 29, .call 78 [.t 28], none⟩, ⟨some 30, .not (.t 29), none⟩, ⟨some 31, .mv (.t 30), none⟩, ⟨some 32, .fad 0 (.t 1), some (31, false)⟩, ⟨some 33, .load 1 false (.t 32), some (31, false)⟩, ⟨some 34, .fad 0 (.t 4), some (31, false)⟩, ⟨some 35, .load 1 false (.t 34), some (31, false)⟩, ⟨some 36, .call 79 [.t 33, .t 35], some (31, false)⟩, ⟨some 37, .mv (.t 3), some (31, false)⟩, ⟨some 38, .bin .neq (.t 36) (.t 37), some (31, false)⟩, ⟨some 39, .pick (.t 31) (.v (.bool true)) (.t 38), none⟩, ⟨some 40, .mv (.t 39), none⟩, ⟨some 41, .fad 1 (.t 4), some (40, false)⟩, ⟨some 42, .load 1 false (.t 41), some (40, false)⟩, ⟨some 43, .len (.t 42), some (40, false)⟩, ⟨some 44, .fad 1 (.t 1), some (40, false)⟩, ⟨some 45, .load 1 false (.t 44), some (40, false)⟩, ⟨some 46, .len (.t 45), some (40, false)⟩, ⟨some 47, .bin .neq (.t 43) (.t 46), some (40, false)⟩, ⟨some 48, .pick (.t 40) (.v (.bool true)) (.t 47), none⟩, ⟨some 49, .mv (.t 48), none⟩, ⟨some 50, .fad 1 (.t 4), some (49, false)⟩, ⟨some 51, .load 1 false (.t 50), some (49, false)⟩, ⟨some 52, .call 49 [.t 51, .v (.int .i64 0), .v (.int .i64 9)], some (49, false)⟩, ⟨some 53, .not (.t 52), some (49, false)⟩, ⟨some 54, .pick (.t 49) (.v (.bool true)) (.t 53), none⟩, ⟨some 55, .mv (.t 54), none⟩, ⟨some 56, .fad 2 (.t 4), some (55, false)⟩, ⟨some 57, .load 1 false (.t 56), some (55, false)⟩, ⟨some 58, .call 28 [.t 57, .v (.int .i64 (-3)), .v (.int .i64 3)], some (55, false)⟩, ⟨some 59, .not (.t 58), some (55, false)⟩, ⟨some 60, .pick (.t 55) (.v (.bool true)) (.t 59), none⟩, ⟨some 61, .mv (.t 60), none⟩, ⟨some 62, .fad 3 (.t 4), some (61, false)⟩, ⟨some 63, .load 1 false (.t 62), some (61, false)⟩, ⟨some 64, .call 28 [.t 63, .v (.int .i64 0), .v (.int .i64 3)], some (61, false)⟩, ⟨some 65, .not (.t 64), some (61, false)⟩, ⟨some 66, .pick (.t 61) (.v (.bool true)) (.t 65), none⟩])
    (.ite (.t 66) (.seq (.ops [⟨some 2, .mv (.v (.bool false)), none⟩])
     .ret)
    .skip))))
   (.ops [⟨some 67, .bin .add (.t 22) (.v (.int .i64 1)), none⟩, ⟨some 22, .mv (.t 67), none⟩])))))))
 (.seq (.seq (.ops [⟨some 68, .fad 1 (.t 1), none⟩, ⟨some 69, .load 1 false (.t 68), none⟩, ⟨some 70, .len (.t 69), none⟩, ⟨some 71, .mv (.v (.int .i64 0)), none⟩])
 (.blk 2 (.loop (.seq (.ops [⟨some 72, .bin .lss (.t 71) (.t 70), none⟩])
   (.seq (.ite (.t 72) .skip
   (.exit 2))
   (.seq (.blk 3 (.seq (.ops [⟨some 73, .mv (.t 71), none⟩, ⟨some 74, .iad 6 (.t 69) (.t 71), none⟩, ⟨some 75, .load 6 true (.t 74), none⟩, ⟨some 6, .alloc [.str [], .int .i64 0, .int .i64 0, .int .i64 0, .bool false, .int .i64 0], none⟩, ⟨some 5, .mv (.t 73), none⟩, ⟨none, .store 6 (.t 6) (.t 75), none⟩])
    (.seq (.ops [⟨some 76, .fad 0 (.t 6), none⟩, ⟨some 77, .load 1 false (.t 76), none⟩, ⟨some 78, .call 78 [.t 77], none⟩, ⟨some 79, .not (.t 78), none⟩, ⟨some 80, .mv (.t 79), none⟩, ⟨some 81, .fad 1 (.t 1), some (80, false)⟩, ⟨some 82, .load 1 false (.t 81), some (80, false)⟩, ⟨some 83, .fad 0 (.t 6), some (80, false)⟩, ⟨some 84, .load 1 false (.t 83), some (80, false)⟩, ⟨some 85, .call 80 [.t 82, .t 84], some (80, false)⟩, ⟨some 86, .mv (.t 5), some (80, false)⟩, ⟨some 87, .bin .neq (.t 85) (.t 86), some (80, false)⟩, ⟨some 88, .pick (.t 80) (.v (.bool true)) (.t 87), none⟩, ⟨some 89, .mv (.t 88), none⟩, ⟨some 90, .fad 1 (.t 6), some (89, false)⟩, ⟨some 91, .load 1 false (.t 90), some (89, false)⟩, ⟨some 92, .call 28 [.t 91, .v (.int .i64 1), .v (.int .i64 9)], some (89, false)⟩, ⟨some 93, .not (.t 92), some (89, false)⟩, ⟨some 94, .pick (.t 89) (.v (.bool true)) (.t 93), none⟩, ⟨some 95, .mv (.t 94), none⟩, ⟨some 96, .fad 2 (.t 6), some (95, false)⟩, ⟨some 97, .load 1 false (.t 96), some (95, false)⟩, ⟨some 98, .call 28 [.t 97, .v (.int .i64 0), .v (.int .i64 9)], some (95, false)⟩, ⟨some 99, .not (.t 98), some (95, false)⟩, ⟨some 100, .pick (.t 95) (.v (.bool true)) (.t 99), none⟩, ⟨some 101, .mv (.t 100), none⟩, ⟨some 102, .fad 3 (.t 6), some (101, false)⟩, ⟨some 103, .load 1 false (.t 102), some (101, false)⟩, ⟨some 104, .call 28 [.t 103, .v (.int .i64 1), .v (.int .i64 4)], some (101, false)⟩, ⟨some 105, .not (.t 104), some (101, false)⟩, ⟨some 106, .pick (.t 101) (.v (.bool true)) (.t 105), none⟩, ⟨some 107, .mv (.t 106), none⟩, ⟨some 108, .fad 5 (.t 6), some (107, false)⟩, ⟨some 109, .load 1 false (.t 108), some (107, false)⟩, ⟨some 110, .call 28 [.t 109, .v (.int .i64 0), .v (.int .i64 4)], some (107, false)⟩, ⟨some 111, .not (.t 110), some (107, false)⟩, ⟨some 112, .pick (.t 107) (.v (.bool true)) (.t 111), none⟩])
    (.ite (.t 112) (.seq (.ops [⟨some 2, .mv (.v (.bool false)), none⟩])
     .ret)
    .skip))))
   (.ops [⟨some 113, .bin .add (.t 71) (.v (.int .i64 1)), none⟩, ⟨some 71, .mv (.t 113), none⟩])))))))
 (.seq (.ops [⟨some 114, .fad 2 (.t 1), none⟩, ⟨some 115, .load 1 false (.t 114), none⟩, ⟨some 116, .call 28 [.t 115, .v (.int .i64 1), .v (.int .i64 4)], none⟩, ⟨some 117, .mv (.t 116), none⟩, ⟨some 118, .fad 3 (.t 1), some (117, true)⟩, ⟨some 119, .load 1 false (.t 118), some (117, true)⟩, ⟨some 120, .call 28 [.t 119, .v (.int .i64 0), .v (.int .i64 9)], some (117, true)⟩, ⟨some 121, .pick (.t 117) (.t 120) (.v (.bool false)), none⟩, ⟨some 122, .mv (.t 121), none⟩, ⟨some 123, .fad 4 (.t 1), some (122, true)⟩, ⟨some 124, .load 1 false (.t 123), some (122, true)⟩, ⟨some 125, .call 28 [.t 124, .v (.int .i64 1), .v (.int .i64 9)], some (122, true)⟩, ⟨some 126, .pick (.t 122) (.t 125) (.v (.bool false)), none⟩, ⟨some 127, .mv (.t 126), none⟩, ⟨some 128, .fad 5 (.t 1), some (127, true)⟩, ⟨some 129, .load 1 false (.t 128), some (127, true)⟩, ⟨some 130, .call 28 [.t 129, .v (.int .i64 0), .v (.int .i64 20)], some (127, true)⟩, ⟨some 131, .pick (.t 127) (.t 130) (.v (.bool false)), none⟩, ⟨some 132, .mv (.t 131), none⟩, ⟨some 133, .fad 6 (.t 1), some (132, true)⟩, ⟨some 134, .load 1 false (.t 133), some (132, true)⟩, ⟨some 135, .call 28 [.t 134, .v (.int .i64 1), .v (.int .i64 30)], some (132, true)⟩, ⟨some 136, .pick (.t 132) (.t 135) (.v (.bool false)), none⟩, ⟨some 2, .mv (.t 136), none⟩])
 .ret)))))
noncomputable def X.s_rGood (p0 : TRules) : Option Bool :=
  ((X.s_l1In (p0.Terrains.length : Int) 1 6).bind fun v7 => (bif (!v7) then some false else ((X.s_l1In (p0.Kinds.length : Int) 1 4).bind fun v10 => (bif (!v10) then some false else ((loop (fun (x120 : Int) => ((bif (decide (x120 < (p0.Terrains.length : Int))) then ((at' zTTerrain p0.Terrains x120).bind fun v123 => ((X.s_rName v123.Name).bind fun v125 => (bif (!v125) then some (Sum.inr (Sum.inr false)) else ((X.s_rTerrain p0.Terrains v123.Name).bind fun v128 => (bif (v128 != x120) then some (Sum.inr (Sum.inr false)) else (bif ((v123.Cost.length : Int) != (p0.Kinds.length : Int)) then some (Sum.inr (Sum.inr false)) else ((X.s_l1All v123.Cost 0 9).bind fun v132 => (bif (!v132) then some (Sum.inr (Sum.inr false)) else ((X.s_l1In v123.Shift (-3) 3).bind fun v135 => (bif (!v135) then some (Sum.inr (Sum.inr false)) else ((X.s_l1In v123.Height 0 3).bind fun v138 => (bif (!v138) then some (Sum.inr (Sum.inr false)) else some (Sum.inl (W (x120 + 1))))))))))))))) else some (Sum.inr (Sum.inl ()))) : Option (Int ⊕ (Unit ⊕ Bool)))) 0).bind fun y141 => (Sum.elim (fun (y143 : Unit) => ((loop (fun (x262 : Int) => ((bif (decide (x262 < (p0.Kinds.length : Int))) then ((at' zTKind p0.Kinds x262).bind fun v265 => ((X.s_rName v265.Name).bind fun v267 => (bif (!v267) then some (Sum.inr (Sum.inr false)) else ((X.s_rKind p0.Kinds v265.Name).bind fun v270 => (bif (v270 != x262) then some (Sum.inr (Sum.inr false)) else ((X.s_l1In v265.Strength 1 9).bind fun v273 => (bif (!v273) then some (Sum.inr (Sum.inr false)) else ((X.s_l1In v265.Moves 0 9).bind fun v276 => (bif (!v276) then some (Sum.inr (Sum.inr false)) else ((X.s_l1In v265.Steps 1 4).bind fun v279 => (bif (!v279) then some (Sum.inr (Sum.inr false)) else ((X.s_l1In v265.View 0 4).bind fun v282 => (bif (!v282) then some (Sum.inr (Sum.inr false)) else some (Sum.inl (W (x262 + 1)))))))))))))))) else some (Sum.inr (Sum.inl ()))) : Option (Int ⊕ (Unit ⊕ Bool)))) 0).bind fun y285 => (Sum.elim (fun (y287 : Unit) => ((X.s_l1In p0.Stack 1 4).bind fun v289 => (bif v289 then ((X.s_l1In p0.River 0 9).bind fun v292 => (bif v292 then ((X.s_l1In p0.Road 1 9).bind fun v295 => (bif v295 then ((X.s_l1In p0.Supply 0 20).bind fun v298 => (bif v298 then ((X.s_l1In p0.Turns 1 30).bind fun v301 => some v301) else some false)) else some false)) else some false)) else some false))) (fun (y288 : Bool) => some y288) y285))) (fun (y144 : Bool) => some y144) y141))))))
theorem s_rGood_ok (p0 : TRules) (r : Bool) (H : X.s_rGood p0 = some r) : FnOk Tryd.prog gl 60 [.agg (eTRules p0)] (cB r) := by
  unfold X.s_rGood at H
  refine fn_in (fn := Tryd.f60) (ir := s_rGood_ir) (s1 := lit [(2, cB r)] []) glL Tryd.func60 (by kernel_rfl) (by kernel_rfl) (by kernel_rfl) (by kernel_rfl) (by kernel_rfl) ?_
  refine seq_ops [] [] [(1, .c (.pk 1 0))] [(1, .var (eTRules p0) false)] (fun t => t) (by kernel_rfl) ?_
  refine seq_in ?_
  obtain ⟨v7, h8, H⟩ := ofBind H
  rcases ofCond H with ⟨c9, H⟩ | ⟨c9, H⟩
  · refine seq_ops [.res (cB v7), .g true, .g true, .g true, .g true, .g true, .g true] [] [(1, .c (.pk 1 0)), (18, cB true)] [(1, .var (eTRules p0) false)] (fun t => lI p0.Terrains (aI (s_l1In_ok (p0.Terrains.length : Int) 1 6 v7 h8) (aI c9 (aI c9 (aI c9 (aI c9 (aI c9 (aI c9 (t))))))))) (by kernel_rfl) ?_
    refine ite_t (rfl : (true : Bool) = true) (by kernel_rfl) ?_
    refine seq_ops [] [] [(2, cB false)] [] (fun t => t) (by kernel_rfl) ?_
    refine ends_ret ?_
    obtain rfl := Option.some.inj H
    exact And.intro (.inl rfl) rfl
  · obtain ⟨v10, h11, H⟩ := ofBind H
    refine seq_ops [.res (cB v7), .g false, .g false, .g false, .g false, .res (cB v10), .g false, .g false] [] [(1, .c (.pk 1 0)), (18, cB (!v10))] [(1, .var (eTRules p0) false)] (fun t => lI p0.Terrains (aI (s_l1In_ok (p0.Terrains.length : Int) 1 6 v7 h8) (aI c9 (aI c9 (aI c9 (lI p0.Kinds (aI c9 (aI (s_l1In_ok (p0.Kinds.length : Int) 1 4 v10 h11) (aI c9 (aI c9 (t))))))))))) (by kernel_rfl) ?_
    rcases ofCond H with ⟨c12, H⟩ | ⟨c12, H⟩
    · refine ite_t c12 (by kernel_rfl) ?_
      refine seq_ops [] [] [(2, cB false)] [] (fun t => t) (by kernel_rfl) ?_
      refine ends_ret ?_
      obtain rfl := Option.some.inj H
      exact And.intro (.inl rfl) rfl
    · refine ite_f c12 (by kernel_rfl) ?_
      refine ends_skip ?_
      change EndsI _ _ _ _ _ _
      refine seq_in ?_
      refine seq_ops [] [] [(1, .c (.pk 1 0)), (20, .c (dat 5 eTTerrain zTTerrain p0.Terrains)), (21, cI (p0.Terrains.length : Int)), (22, cI 0)] [(1, .var (eTRules p0) false)] (fun t => lI p0.Terrains (t)) (by kernel_rfl) ?_
      refine ends_blk ?_
      obtain ⟨y141, h142, H⟩ := ofBind H
      refine loop_in (fun (x : Int) => lit [(1, .c (.pk 1 0)), (20, .c (dat 5 eTTerrain zTTerrain p0.Terrains)), (21, cI (p0.Terrains.length : Int)), (22, cI x)] [(1, .var (eTRules p0) false)]) (orJ (fun (z : Unit) => At (.exit 0) (lit [(1, .c (.pk 1 0))] [(1, .var (eTRules p0) false)])) (fun (z : Bool) => At .ret (lit [(2, cB z)] []))) h142 ?_ ?_
      · clear H h142
        intro x120 y0 H
        refine seq_ops [] [] [(1, .c (.pk 1 0)), (20, .c (dat 5 eTTerrain zTTerrain p0.Terrains)), (21, cI (p0.Terrains.length : Int)), (22, cI x120), (23, cB (decide (x120 < (p0.Terrains.length : Int))))] [(1, .var (eTRules p0) false)] (fun t => t) (by kernel_rfl) ?_
        refine seq_in ?_
        rcases ofCond H with ⟨c122, H⟩ | ⟨c122, H⟩
        · refine ite_t c122 (by kernel_rfl) ?_
          refine ends_skip ?_
          change EndsI _ _ _ _ _ _
          refine seq_in ?_
          refine ends_blk ?_
          obtain ⟨v123, h124, H⟩ := ofBind H
          refine seq_ops [.cs (eTTerrain v123)] [] [(1, .c (.pk 1 0)), (3, cI x120), (4, .c (.pk 4 0)), (20, .c (dat 5 eTTerrain zTTerrain p0.Terrains)), (21, cI (p0.Terrains.length : Int)), (22, cI x120)] [(1, .var (eTRules p0) false), (4, .var (eTTerrain v123) false)] (fun t => aI (at_lt h124) (aI (at_enc (enc := eTTerrain) h124) (t))) (by kernel_rfl) ?_
          obtain ⟨v125, h126, H⟩ := ofBind H
          rcases ofCond H with ⟨c127, H⟩ | ⟨c127, H⟩
          · refine seq_ops [.res (cB v125), .g true, .g true, .g true, .g true, .g true, .g true, .g true, .g true, .g true, .g true, .g true, .g true, .g true, .g true, .g true, .g true, .g true, .g true, .g true, .g true, .g true, .g true, .g true, .g true, .g true, .g true, .g true, .g true, .g true, .g true, .g true] [] [(1, .c (.pk 1 0)), (20, .c (dat 5 eTTerrain zTTerrain p0.Terrains)), (21, cI (p0.Terrains.length : Int)), (22, cI x120), (66, cB true)] [(1, .var (eTRules p0) false)] (fun t => aI (s_rName_ok v123.Name v125 h126) (aI c127 (aI c127 (aI c127 (aI c127 (aI c127 (aI c127 (aI c127 (aI c127 (aI (rfl : (true : Bool) = true) (aI (rfl : (true : Bool) = true) (aI (rfl : (true : Bool) = true) (aI (rfl : (true : Bool) = true) (aI (rfl : (true : Bool) = true) (aI (rfl : (true : Bool) = true) (aI (rfl : (true : Bool) = true) (aI (rfl : (true : Bool) = true) (aI (rfl : (true : Bool) = true) (aI (rfl : (true : Bool) = true) (aI (rfl : (true : Bool) = true) (aI (rfl : (true : Bool) = true) (aI (rfl : (true : Bool) = true) (aI (rfl : (true : Bool) = true) (aI (rfl : (true : Bool) = true) (aI (rfl : (true : Bool) = true) (aI (rfl : (true : Bool) = true) (aI (rfl : (true : Bool) = true) (aI (rfl : (true : Bool) = true) (aI (rfl : (true : Bool) = true) (aI (rfl : (true : Bool) = true) (aI (rfl : (true : Bool) = true) (aI (rfl : (true : Bool) = true) (t))))))))))))))))))))))))))))))))) (by kernel_rfl) ?_
            refine ite_t (rfl : (true : Bool) = true) (by kernel_rfl) ?_
            refine seq_ops [] [] [(2, cB false)] [] (fun t => t) (by kernel_rfl) ?_
            refine ends_ret ?_
            obtain rfl := Option.some.inj H
            exact And.intro (by simp) (And.intro rfl rfl)
          · obtain ⟨v128, h129, H⟩ := ofBind H
            rcases ofCond H with ⟨c130, H⟩ | ⟨c130, H⟩
            · refine seq_ops [.res (cB v125), .g false, .g false, .g false, .g false, .g false, .res (cI v128), .g false, .g false, .g false, .g true, .g true, .g true, .g true, .g true, .g true, .g true, .g true, .g true, .g true, .g true, .g true, .g true, .g true, .g true, .g true, .g true, .g true, .g true, .g true, .g true, .g true, .g true] [] [(1, .c (.pk 1 0)), (20, .c (dat 5 eTTerrain zTTerrain p0.Terrains)), (21, cI (p0.Terrains.length : Int)), (22, cI x120), (66, cB true)] [(1, .var (eTRules p0) false)] (fun t => aI (s_rName_ok v123.Name v125 h126) (aI c127 (aI c127 (aI c127 (aI c127 (aI c127 (aI (s_rTerrain_ok p0.Terrains v123.Name v128 h129) (aI c127 (aI c127 (aI c127 (aI c130 (aI c130 (aI c130 (aI c130 (aI c130 (aI c130 (aI c130 (aI c130 (aI (rfl : (true : Bool) = true) (aI (rfl : (true : Bool) = true) (aI (rfl : (true : Bool) = true) (aI (rfl : (true : Bool) = true) (aI (rfl : (true : Bool) = true) (aI (rfl : (true : Bool) = true) (aI (rfl : (true : Bool) = true) (aI (rfl : (true : Bool) = true) (aI (rfl : (true : Bool) = true) (aI (rfl : (true : Bool) = true) (aI (rfl : (true : Bool) = true) (aI (rfl : (true : Bool) = true) (aI (rfl : (true : Bool) = true) (aI (rfl : (true : Bool) = true) (aI (rfl : (true : Bool) = true) (t)))))))))))))))))))))))))))))))))) (by kernel_rfl) ?_
              refine ite_t (rfl : (true : Bool) = true) (by kernel_rfl) ?_
              refine seq_ops [] [] [(2, cB false)] [] (fun t => t) (by kernel_rfl) ?_
              refine ends_ret ?_
              obtain rfl := Option.some.inj H
              exact And.intro (by simp) (And.intro rfl rfl)
            · rcases ofCond H with ⟨c131, H⟩ | ⟨c131, H⟩
              · refine seq_ops [.res (cB v125), .g false, .g false, .g false, .g false, .g false, .res (cI v128), .g false, .g false, .g false, .g false, .g false, .g false, .g false, .g false, .g false, .g false, .g false, .g true, .g true, .g true, .g true, .g true, .g true, .g true, .g true, .g true, .g true, .g true, .g true, .g true, .g true, .g true] [] [(1, .c (.pk 1 0)), (20, .c (dat 5 eTTerrain zTTerrain p0.Terrains)), (21, cI (p0.Terrains.length : Int)), (22, cI x120), (66, cB true)] [(1, .var (eTRules p0) false)] (fun t => aI (s_rName_ok v123.Name v125 h126) (aI c127 (aI c127 (aI c127 (aI c127 (aI c127 (aI (s_rTerrain_ok p0.Terrains v123.Name v128 h129) (aI c127 (aI c127 (aI c127 (aI c130 (aI c130 (aI c130 (lI v123.Cost (aI c130 (aI c130 (aI c130 (lI p0.Kinds (aI c130 (aI c130 (aI c131 (aI c131 (aI c131 (aI c131 (aI c131 (aI (rfl : (true : Bool) = true) (aI (rfl : (true : Bool) = true) (aI (rfl : (true : Bool) = true) (aI (rfl : (true : Bool) = true) (aI (rfl : (true : Bool) = true) (aI (rfl : (true : Bool) = true) (aI (rfl : (true : Bool) = true) (aI (rfl : (true : Bool) = true) (aI (rfl : (true : Bool) = true) (aI (rfl : (true : Bool) = true) (t)))))))))))))))))))))))))))))))))))) (by kernel_rfl) ?_
                refine ite_t (rfl : (true : Bool) = true) (by kernel_rfl) ?_
                refine seq_ops [] [] [(2, cB false)] [] (fun t => t) (by kernel_rfl) ?_
                refine ends_ret ?_
                obtain rfl := Option.some.inj H
                exact And.intro (by simp) (And.intro rfl rfl)
              · obtain ⟨v132, h133, H⟩ := ofBind H
                rcases ofCond H with ⟨c134, H⟩ | ⟨c134, H⟩
                · refine seq_ops [.res (cB v125), .g false, .g false, .g false, .g false, .g false, .res (cI v128), .g false, .g false, .g false, .g false, .g false, .g false, .g false, .g false, .g false, .g false, .g false, .g false, .g false, .g false, .res (cB v132), .g false, .g false, .g true, .g true, .g true, .g true, .g true, .g true, .g true, .g true, .g true, .g true] [] [(1, .c (.pk 1 0)), (20, .c (dat 5 eTTerrain zTTerrain p0.Terrains)), (21, cI (p0.Terrains.length : Int)), (22, cI x120), (66, cB true)] [(1, .var (eTRules p0) false)] (fun t => aI (s_rName_ok v123.Name v125 h126) (aI c127 (aI c127 (aI c127 (aI c127 (aI c127 (aI (s_rTerrain_ok p0.Terrains v123.Name v128 h129) (aI c127 (aI c127 (aI c127 (aI c130 (aI c130 (aI c130 (lI v123.Cost (aI c130 (aI c130 (aI c130 (lI p0.Kinds (aI c130 (aI c130 (aI c131 (aI c131 (aI c131 (aI (s_l1All_ok v123.Cost 0 9 v132 h133) (aI c131 (aI c131 (aI c134 (aI c134 (aI c134 (aI c134 (aI c134 (aI (rfl : (true : Bool) = true) (aI (rfl : (true : Bool) = true) (aI (rfl : (true : Bool) = true) (aI (rfl : (true : Bool) = true) (aI (rfl : (true : Bool) = true) (t))))))))))))))))))))))))))))))))))))) (by kernel_rfl) ?_
                  refine ite_t (rfl : (true : Bool) = true) (by kernel_rfl) ?_
                  refine seq_ops [] [] [(2, cB false)] [] (fun t => t) (by kernel_rfl) ?_
                  refine ends_ret ?_
                  obtain rfl := Option.some.inj H
                  exact And.intro (by simp) (And.intro rfl rfl)
                · obtain ⟨v135, h136, H⟩ := ofBind H
                  rcases ofCond H with ⟨c137, H⟩ | ⟨c137, H⟩
                  · refine seq_ops [.res (cB v125), .g false, .g false, .g false, .g false, .g false, .res (cI v128), .g false, .g false, .g false, .g false, .g false, .g false, .g false, .g false, .g false, .g false, .g false, .g false, .g false, .g false, .res (cB v132), .g false, .g false, .g false, .g false, .g false, .res (cB v135), .g false, .g false, .g true, .g true, .g true, .g true, .g true] [] [(1, .c (.pk 1 0)), (20, .c (dat 5 eTTerrain zTTerrain p0.Terrains)), (21, cI (p0.Terrains.length : Int)), (22, cI x120), (66, cB true)] [(1, .var (eTRules p0) false)] (fun t => aI (s_rName_ok v123.Name v125 h126) (aI c127 (aI c127 (aI c127 (aI c127 (aI c127 (aI (s_rTerrain_ok p0.Terrains v123.Name v128 h129) (aI c127 (aI c127 (aI c127 (aI c130 (aI c130 (aI c130 (lI v123.Cost (aI c130 (aI c130 (aI c130 (lI p0.Kinds (aI c130 (aI c130 (aI c131 (aI c131 (aI c131 (aI (s_l1All_ok v123.Cost 0 9 v132 h133) (aI c131 (aI c131 (aI c134 (aI c134 (aI c134 (aI (s_l1In_ok v123.Shift (-3) 3 v135 h136) (aI c134 (aI c134 (aI c137 (aI c137 (aI c137 (aI c137 (aI c137 (t)))))))))))))))))))))))))))))))))))))) (by kernel_rfl) ?_
                    refine ite_t (rfl : (true : Bool) = true) (by kernel_rfl) ?_
                    refine seq_ops [] [] [(2, cB false)] [] (fun t => t) (by kernel_rfl) ?_
                    refine ends_ret ?_
                    obtain rfl := Option.some.inj H
                    exact And.intro (by simp) (And.intro rfl rfl)
                  · obtain ⟨v138, h139, H⟩ := ofBind H
                    refine seq_ops [.res (cB v125), .g false, .g false, .g false, .g false, .g false, .res (cI v128), .g false, .g false, .g false, .g false, .g false, .g false, .g false, .g false, .g false, .g false, .g false, .g false, .g false, .g false, .res (cB v132), .g false, .g false, .g false, .g false, .g false, .res (cB v135), .g false, .g false, .g false, .g false, .g false, .res (cB v138), .g false, .g false] [] [(1, .c (.pk 1 0)), (20, .c (dat 5 eTTerrain zTTerrain p0.Terrains)), (21, cI (p0.Terrains.length : Int)), (22, cI x120), (66, cB (!v138))] [(1, .var (eTRules p0) false)] (fun t => aI (s_rName_ok v123.Name v125 h126) (aI c127 (aI c127 (aI c127 (aI c127 (aI c127 (aI (s_rTerrain_ok p0.Terrains v123.Name v128 h129) (aI c127 (aI c127 (aI c127 (aI c130 (aI c130 (aI c130 (lI v123.Cost (aI c130 (aI c130 (aI c130 (lI p0.Kinds (aI c130 (aI c130 (aI c131 (aI c131 (aI c131 (aI (s_l1All_ok v123.Cost 0 9 v132 h133) (aI c131 (aI c131 (aI c134 (aI c134 (aI c134 (aI (s_l1In_ok v123.Shift (-3) 3 v135 h136) (aI c134 (aI c134 (aI c137 (aI c137 (aI c137 (aI (s_l1In_ok v123.Height 0 3 v138 h139) (aI c137 (aI c137 (t))))))))))))))))))))))))))))))))))))))) (by kernel_rfl) ?_
                    rcases ofCond H with ⟨c140, H⟩ | ⟨c140, H⟩
                    · refine ite_t c140 (by kernel_rfl) ?_
                      refine seq_ops [] [] [(2, cB false)] [] (fun t => t) (by kernel_rfl) ?_
                      refine ends_ret ?_
                      obtain rfl := Option.some.inj H
                      exact And.intro (by simp) (And.intro rfl rfl)
                    · refine ite_f c140 (by kernel_rfl) ?_
                      refine ends_skip ?_
                      change EndsI _ _ _ _ _ _
                      refine one_ops [] [] [(1, .c (.pk 1 0)), (20, .c (dat 5 eTTerrain zTTerrain p0.Terrains)), (21, cI (p0.Terrains.length : Int)), (22, cI (W (x120 + 1)))] [(1, .var (eTRules p0) false)] (fun t => t) (by kernel_rfl) ?_
                      obtain rfl := Option.some.inj H
                      exact And.intro rfl rfl
        · refine ite_f c122 (by kernel_rfl) ?_
          refine tell [] [(1, .c (.pk 1 0))] [(1, .var (eTRules p0) false)] (fun t => t) (by kernel_rfl) ?_
          refine ends_exit ?_
          obtain rfl := Option.some.inj H
          exact And.intro (by simp) (And.intro rfl rfl)
      · clear h142
        cases y141 with
        | inl y143 =>
          replace H := ofInl H
          intro e s q
          obtain ⟨rfl, rfl⟩ := q
          change EndsI _ _ _ _ _ _
          refine seq_in ?_
          refine seq_ops [] [] [(1, .c (.pk 1 0)), (69, .c (dat 6 eTKind zTKind p0.Kinds)), (70, cI (p0.Kinds.length : Int)), (71, cI 0)] [(1, .var (eTRules p0) false)] (fun t => lI p0.Kinds (t)) (by kernel_rfl) ?_
          refine ends_blk ?_
          obtain ⟨y285, h286, H⟩ := ofBind H
          refine loop_in (fun (x : Int) => lit [(1, .c (.pk 1 0)), (69, .c (dat 6 eTKind zTKind p0.Kinds)), (70, cI (p0.Kinds.length : Int)), (71, cI x)] [(1, .var (eTRules p0) false)]) (orJ (fun (z : Unit) => At (.exit 2) (lit [(1, .c (.pk 1 0))] [(1, .var (eTRules p0) false)])) (fun (z : Bool) => At .ret (lit [(2, cB z)] []))) h286 ?_ ?_
          · clear H h286
            intro x262 y0 H
            refine seq_ops [] [] [(1, .c (.pk 1 0)), (69, .c (dat 6 eTKind zTKind p0.Kinds)), (70, cI (p0.Kinds.length : Int)), (71, cI x262), (72, cB (decide (x262 < (p0.Kinds.length : Int))))] [(1, .var (eTRules p0) false)] (fun t => t) (by kernel_rfl) ?_
            refine seq_in ?_
            rcases ofCond H with ⟨c264, H⟩ | ⟨c264, H⟩
            · refine ite_t c264 (by kernel_rfl) ?_
              refine ends_skip ?_
              change EndsI _ _ _ _ _ _
              refine seq_in ?_
              refine ends_blk ?_
              obtain ⟨v265, h266, H⟩ := ofBind H
              refine seq_ops [.cs (eTKind v265)] [] [(1, .c (.pk 1 0)), (5, cI x262), (6, .c (.pk 6 0)), (69, .c (dat 6 eTKind zTKind p0.Kinds)), (70, cI (p0.Kinds.length : Int)), (71, cI x262)] [(1, .var (eTRules p0) false), (6, .var (eTKind v265) false)] (fun t => aI (at_lt h266) (aI (at_enc (enc := eTKind) h266) (t))) (by kernel_rfl) ?_
              obtain ⟨v267, h268, H⟩ := ofBind H
              rcases ofCond H with ⟨c269, H⟩ | ⟨c269, H⟩
              · refine seq_ops [.res (cB v267), .g true, .g true, .g true, .g true, .g true, .g true, .g true, .g true, .g true, .g true, .g true, .g true, .g true, .g true, .g true, .g true, .g true, .g true, .g true, .g true, .g true, .g true, .g true, .g true, .g true, .g true, .g true, .g true] [] [(1, .c (.pk 1 0)), (69, .c (dat 6 eTKind zTKind p0.Kinds)), (70, cI (p0.Kinds.length : Int)), (71, cI x262), (112, cB true)] [(1, .var (eTRules p0) false)] (fun t => aI (s_rName_ok v265.Name v267 h268) (aI c269 (aI c269 (aI c269 (aI c269 (aI c269 (aI c269 (aI c269 (aI c269 (aI (rfl : (true : Bool) = true) (aI (rfl : (true : Bool) = true) (aI (rfl : (true : Bool) = true) (aI (rfl : (true : Bool) = true) (aI (rfl : (true : Bool) = true) (aI (rfl : (true : Bool) = true) (aI (rfl : (true : Bool) = true) (aI (rfl : (true : Bool) = true) (aI (rfl : (true : Bool) = true) (aI (rfl : (true : Bool) = true) (aI (rfl : (true : Bool) = true) (aI (rfl : (true : Bool) = true) (aI (rfl : (true : Bool) = true) (aI (rfl : (true : Bool) = true) (aI (rfl : (true : Bool) = true) (aI (rfl : (true : Bool) = true) (aI (rfl : (true : Bool) = true) (aI (rfl : (true : Bool) = true) (aI (rfl : (true : Bool) = true) (aI (rfl : (true : Bool) = true) (t)))))))))))))))))))))))))))))) (by kernel_rfl) ?_
                refine ite_t (rfl : (true : Bool) = true) (by kernel_rfl) ?_
                refine seq_ops [] [] [(2, cB false)] [] (fun t => t) (by kernel_rfl) ?_
                refine ends_ret ?_
                obtain rfl := Option.some.inj H
                exact And.intro (by simp) (And.intro rfl rfl)
              · obtain ⟨v270, h271, H⟩ := ofBind H
                rcases ofCond H with ⟨c272, H⟩ | ⟨c272, H⟩
                · refine seq_ops [.res (cB v267), .g false, .g false, .g false, .g false, .g false, .res (cI v270), .g false, .g false, .g false, .g true, .g true, .g true, .g true, .g true, .g true, .g true, .g true, .g true, .g true, .g true, .g true, .g true, .g true, .g true, .g true, .g true, .g true, .g true, .g true] [] [(1, .c (.pk 1 0)), (69, .c (dat 6 eTKind zTKind p0.Kinds)), (70, cI (p0.Kinds.length : Int)), (71, cI x262), (112, cB true)] [(1, .var (eTRules p0) false)] (fun t => aI (s_rName_ok v265.Name v267 h268) (aI c269 (aI c269 (aI c269 (aI c269 (aI c269 (aI (s_rKind_ok p0.Kinds v265.Name v270 h271) (aI c269 (aI c269 (aI c269 (aI c272 (aI c272 (aI c272 (aI c272 (aI c272 (aI (rfl : (true : Bool) = true) (aI (rfl : (true : Bool) = true) (aI (rfl : (true : Bool) = true) (aI (rfl : (true : Bool) = true) (aI (rfl : (true : Bool) = true) (aI (rfl : (true : Bool) = true) (aI (rfl : (true : Bool) = true) (aI (rfl : (true : Bool) = true) (aI (rfl : (true : Bool) = true) (aI (rfl : (true : Bool) = true) (aI (rfl : (true : Bool) = true) (aI (rfl : (true : Bool) = true) (aI (rfl : (true : Bool) = true) (aI (rfl : (true : Bool) = true) (aI (rfl : (true : Bool) = true) (t))))))))))))))))))))))))))))))) (by kernel_rfl) ?_
                  refine ite_t (rfl : (true : Bool) = true) (by kernel_rfl) ?_
                  refine seq_ops [] [] [(2, cB false)] [] (fun t => t) (by kernel_rfl) ?_
                  refine ends_ret ?_
                  obtain rfl := Option.some.inj H
                  exact And.intro (by simp) (And.intro rfl rfl)
                · obtain ⟨v273, h274, H⟩ := ofBind H
                  rcases ofCond H with ⟨c275, H⟩ | ⟨c275, H⟩
                  · refine seq_ops [.res (cB v267), .g false, .g false, .g false, .g false, .g false, .res (cI v270), .g false, .g false, .g false, .g false, .g false, .g false, .res (cB v273), .g false, .g false, .g true, .g true, .g true, .g true, .g true, .g true, .g true, .g true, .g true, .g true, .g true, .g true, .g true, .g true, .g true] [] [(1, .c (.pk 1 0)), (69, .c (dat 6 eTKind zTKind p0.Kinds)), (70, cI (p0.Kinds.length : Int)), (71, cI x262), (112, cB true)] [(1, .var (eTRules p0) false)] (fun t => aI (s_rName_ok v265.Name v267 h268) (aI c269 (aI c269 (aI c269 (aI c269 (aI c269 (aI (s_rKind_ok p0.Kinds v265.Name v270 h271) (aI c269 (aI c269 (aI c269 (aI c272 (aI c272 (aI c272 (aI (s_l1In_ok v265.Strength 1 9 v273 h274) (aI c272 (aI c272 (aI c275 (aI c275 (aI c275 (aI c275 (aI c275 (aI (rfl : (true : Bool) = true) (aI (rfl : (true : Bool) = true) (aI (rfl : (true : Bool) = true) (aI (rfl : (true : Bool) = true) (aI (rfl : (true : Bool) = true) (aI (rfl : (true : Bool) = true) (aI (rfl : (true : Bool) = true) (aI (rfl : (true : Bool) = true) (aI (rfl : (true : Bool) = true) (aI (rfl : (true : Bool) = true) (t)))))))))))))))))))))))))))))))) (by kernel_rfl) ?_
                    refine ite_t (rfl : (true : Bool) = true) (by kernel_rfl) ?_
                    refine seq_ops [] [] [(2, cB false)] [] (fun t => t) (by kernel_rfl) ?_
                    refine ends_ret ?_
                    obtain rfl := Option.some.inj H
                    exact And.intro (by simp) (And.intro rfl rfl)
                  · obtain ⟨v276, h277, H⟩ := ofBind H
                    rcases ofCond H with ⟨c278, H⟩ | ⟨c278, H⟩
                    · refine seq_ops [.res (cB v267), .g false, .g false, .g false, .g false, .g false, .res (cI v270), .g false, .g false, .g false, .g false, .g false, .g false, .res (cB v273), .g false, .g false, .g false, .g false, .g false, .res (cB v276), .g false, .g false, .g true, .g true, .g true, .g true, .g true, .g true, .g true, .g true, .g true, .g true] [] [(1, .c (.pk 1 0)), (69, .c (dat 6 eTKind zTKind p0.Kinds)), (70, cI (p0.Kinds.length : Int)), (71, cI x262), (112, cB true)] [(1, .var (eTRules p0) false)] (fun t => aI (s_rName_ok v265.Name v267 h268) (aI c269 (aI c269 (aI c269 (aI c269 (aI c269 (aI (s_rKind_ok p0.Kinds v265.Name v270 h271) (aI c269 (aI c269 (aI c269 (aI c272 (aI c272 (aI c272 (aI (s_l1In_ok v265.Strength 1 9 v273 h274) (aI c272 (aI c272 (aI c275 (aI c275 (aI c275 (aI (s_l1In_ok v265.Moves 0 9 v276 h277) (aI c275 (aI c275 (aI c278 (aI c278 (aI c278 (aI c278 (aI c278 (aI (rfl : (true : Bool) = true) (aI (rfl : (true : Bool) = true) (aI (rfl : (true : Bool) = true) (aI (rfl : (true : Bool) = true) (aI (rfl : (true : Bool) = true) (t))))))))))))))))))))))))))))))))) (by kernel_rfl) ?_
                      refine ite_t (rfl : (true : Bool) = true) (by kernel_rfl) ?_
                      refine seq_ops [] [] [(2, cB false)] [] (fun t => t) (by kernel_rfl) ?_
                      refine ends_ret ?_
                      obtain rfl := Option.some.inj H
                      exact And.intro (by simp) (And.intro rfl rfl)
                    · obtain ⟨v279, h280, H⟩ := ofBind H
                      rcases ofCond H with ⟨c281, H⟩ | ⟨c281, H⟩
                      · refine seq_ops [.res (cB v267), .g false, .g false, .g false, .g false, .g false, .res (cI v270), .g false, .g false, .g false, .g false, .g false, .g false, .res (cB v273), .g false, .g false, .g false, .g false, .g false, .res (cB v276), .g false, .g false, .g false, .g false, .g false, .res (cB v279), .g false, .g false, .g true, .g true, .g true, .g true, .g true] [] [(1, .c (.pk 1 0)), (69, .c (dat 6 eTKind zTKind p0.Kinds)), (70, cI (p0.Kinds.length : Int)), (71, cI x262), (112, cB true)] [(1, .var (eTRules p0) false)] (fun t => aI (s_rName_ok v265.Name v267 h268) (aI c269 (aI c269 (aI c269 (aI c269 (aI c269 (aI (s_rKind_ok p0.Kinds v265.Name v270 h271) (aI c269 (aI c269 (aI c269 (aI c272 (aI c272 (aI c272 (aI (s_l1In_ok v265.Strength 1 9 v273 h274) (aI c272 (aI c272 (aI c275 (aI c275 (aI c275 (aI (s_l1In_ok v265.Moves 0 9 v276 h277) (aI c275 (aI c275 (aI c278 (aI c278 (aI c278 (aI (s_l1In_ok v265.Steps 1 4 v279 h280) (aI c278 (aI c278 (aI c281 (aI c281 (aI c281 (aI c281 (aI c281 (t)))))))))))))))))))))))))))))))))) (by kernel_rfl) ?_
                        refine ite_t (rfl : (true : Bool) = true) (by kernel_rfl) ?_
                        refine seq_ops [] [] [(2, cB false)] [] (fun t => t) (by kernel_rfl) ?_
                        refine ends_ret ?_
                        obtain rfl := Option.some.inj H
                        exact And.intro (by simp) (And.intro rfl rfl)
                      · obtain ⟨v282, h283, H⟩ := ofBind H
                        refine seq_ops [.res (cB v267), .g false, .g false, .g false, .g false, .g false, .res (cI v270), .g false, .g false, .g false, .g false, .g false, .g false, .res (cB v273), .g false, .g false, .g false, .g false, .g false, .res (cB v276), .g false, .g false, .g false, .g false, .g false, .res (cB v279), .g false, .g false, .g false, .g false, .g false, .res (cB v282), .g false, .g false] [] [(1, .c (.pk 1 0)), (69, .c (dat 6 eTKind zTKind p0.Kinds)), (70, cI (p0.Kinds.length : Int)), (71, cI x262), (112, cB (!v282))] [(1, .var (eTRules p0) false)] (fun t => aI (s_rName_ok v265.Name v267 h268) (aI c269 (aI c269 (aI c269 (aI c269 (aI c269 (aI (s_rKind_ok p0.Kinds v265.Name v270 h271) (aI c269 (aI c269 (aI c269 (aI c272 (aI c272 (aI c272 (aI (s_l1In_ok v265.Strength 1 9 v273 h274) (aI c272 (aI c272 (aI c275 (aI c275 (aI c275 (aI (s_l1In_ok v265.Moves 0 9 v276 h277) (aI c275 (aI c275 (aI c278 (aI c278 (aI c278 (aI (s_l1In_ok v265.Steps 1 4 v279 h280) (aI c278 (aI c278 (aI c281 (aI c281 (aI c281 (aI (s_l1In_ok v265.View 0 4 v282 h283) (aI c281 (aI c281 (t))))))))))))))))))))))))))))))))))) (by kernel_rfl) ?_
                        rcases ofCond H with ⟨c284, H⟩ | ⟨c284, H⟩
                        · refine ite_t c284 (by kernel_rfl) ?_
                          refine seq_ops [] [] [(2, cB false)] [] (fun t => t) (by kernel_rfl) ?_
                          refine ends_ret ?_
                          obtain rfl := Option.some.inj H
                          exact And.intro (by simp) (And.intro rfl rfl)
                        · refine ite_f c284 (by kernel_rfl) ?_
                          refine ends_skip ?_
                          change EndsI _ _ _ _ _ _
                          refine one_ops [] [] [(1, .c (.pk 1 0)), (69, .c (dat 6 eTKind zTKind p0.Kinds)), (70, cI (p0.Kinds.length : Int)), (71, cI (W (x262 + 1)))] [(1, .var (eTRules p0) false)] (fun t => t) (by kernel_rfl) ?_
                          obtain rfl := Option.some.inj H
                          exact And.intro rfl rfl
            · refine ite_f c264 (by kernel_rfl) ?_
              refine tell [] [(1, .c (.pk 1 0))] [(1, .var (eTRules p0) false)] (fun t => t) (by kernel_rfl) ?_
              refine ends_exit ?_
              obtain rfl := Option.some.inj H
              exact And.intro (by simp) (And.intro rfl rfl)
          · clear h286
            cases y285 with
            | inl y287 =>
              replace H := ofInl H
              intro e s q
              obtain ⟨rfl, rfl⟩ := q
              change EndsI _ _ _ _ _ _
              obtain ⟨v289, h290, H⟩ := ofBind H
              rcases ofCond H with ⟨c291, H⟩ | ⟨c291, H⟩
              · obtain ⟨v292, h293, H⟩ := ofBind H
                rcases ofCond H with ⟨c294, H⟩ | ⟨c294, H⟩
                · obtain ⟨v295, h296, H⟩ := ofBind H
                  rcases ofCond H with ⟨c297, H⟩ | ⟨c297, H⟩
                  · obtain ⟨v298, h299, H⟩ := ofBind H
                    rcases ofCond H with ⟨c300, H⟩ | ⟨c300, H⟩
                    · obtain ⟨v301, h302, H⟩ := ofBind H
                      refine seq_ops [.res (cB v289), .g true, .g true, .g true, .res (cB v292), .g true, .g true, .g true, .g true, .res (cB v295), .g true, .g true, .g true, .g true, .res (cB v298), .g true, .g true, .g true, .g true, .res (cB v301), .g true] [] [(2, cB v301)] [] (fun t => aI (s_l1In_ok p0.Stack 1 4 v289 h290) (aI c291 (aI c291 (aI c291 (aI (s_l1In_ok p0.River 0 9 v292 h293) (aI c291 (aI c294 (aI c294 (aI c294 (aI (s_l1In_ok p0.Road 1 9 v295 h296) (aI c294 (aI c297 (aI c297 (aI c297 (aI (s_l1In_ok p0.Supply 0 20 v298 h299) (aI c297 (aI c300 (aI c300 (aI c300 (aI (s_l1In_ok p0.Turns 1 30 v301 h302) (aI c300 (t)))))))))))))))))))))) (by kernel_rfl) ?_
                      refine ends_ret ?_
                      obtain rfl := Option.some.inj H
                      exact And.intro (.inl rfl) rfl
                    · refine seq_ops [.res (cB v289), .g true, .g true, .g true, .res (cB v292), .g true, .g true, .g true, .g true, .res (cB v295), .g true, .g true, .g true, .g true, .res (cB v298), .g true, .g false, .g false, .g false, .g false] [] [(2, cB false)] [] (fun t => aI (s_l1In_ok p0.Stack 1 4 v289 h290) (aI c291 (aI c291 (aI c291 (aI (s_l1In_ok p0.River 0 9 v292 h293) (aI c291 (aI c294 (aI c294 (aI c294 (aI (s_l1In_ok p0.Road 1 9 v295 h296) (aI c294 (aI c297 (aI c297 (aI c297 (aI (s_l1In_ok p0.Supply 0 20 v298 h299) (aI c297 (aI c300 (aI c300 (aI c300 (aI c300 (t))))))))))))))))))))) (by kernel_rfl) ?_
                      refine ends_ret ?_
                      obtain rfl := Option.some.inj H
                      exact And.intro (.inl rfl) rfl
                  · refine seq_ops [.res (cB v289), .g true, .g true, .g true, .res (cB v292), .g true, .g true, .g true, .g true, .res (cB v295), .g true, .g false, .g false, .g false, .g false, .g false, .g false, .g false, .g false] [] [(2, cB false)] [] (fun t => aI (s_l1In_ok p0.Stack 1 4 v289 h290) (aI c291 (aI c291 (aI c291 (aI (s_l1In_ok p0.River 0 9 v292 h293) (aI c291 (aI c294 (aI c294 (aI c294 (aI (s_l1In_ok p0.Road 1 9 v295 h296) (aI c294 (aI c297 (aI c297 (aI c297 (aI c297 (aI (rfl : (false : Bool) = false) (aI (rfl : (false : Bool) = false) (aI (rfl : (false : Bool) = false) (aI (rfl : (false : Bool) = false) (t)))))))))))))))))))) (by kernel_rfl) ?_
                    refine ends_ret ?_
                    obtain rfl := Option.some.inj H
                    exact And.intro (.inl rfl) rfl
                · refine seq_ops [.res (cB v289), .g true, .g true, .g true, .res (cB v292), .g true, .g false, .g false, .g false, .g false, .g false, .g false, .g false, .g false, .g false, .g false, .g false, .g false] [] [(2, cB false)] [] (fun t => aI (s_l1In_ok p0.Stack 1 4 v289 h290) (aI c291 (aI c291 (aI c291 (aI (s_l1In_ok p0.River 0 9 v292 h293) (aI c291 (aI c294 (aI c294 (aI c294 (aI c294 (aI (rfl : (false : Bool) = false) (aI (rfl : (false : Bool) = false) (aI (rfl : (false : Bool) = false) (aI (rfl : (false : Bool) = false) (aI (rfl : (false : Bool) = false) (aI (rfl : (false : Bool) = false) (aI (rfl : (false : Bool) = false) (aI (rfl : (false : Bool) = false) (t))))))))))))))))))) (by kernel_rfl) ?_
                  refine ends_ret ?_
                  obtain rfl := Option.some.inj H
                  exact And.intro (.inl rfl) rfl
              · refine seq_ops [.res (cB v289), .g false, .g false, .g false, .g false, .g false, .g false, .g false, .g false, .g false, .g false, .g false, .g false, .g false, .g false, .g false, .g false] [] [(2, cB false)] [] (fun t => aI (s_l1In_ok p0.Stack 1 4 v289 h290) (aI c291 (aI c291 (aI c291 (aI c291 (aI (rfl : (false : Bool) = false) (aI (rfl : (false : Bool) = false) (aI (rfl : (false : Bool) = false) (aI (rfl : (false : Bool) = false) (aI (rfl : (false : Bool) = false) (aI (rfl : (false : Bool) = false) (aI (rfl : (false : Bool) = false) (aI (rfl : (false : Bool) = false) (aI (rfl : (false : Bool) = false) (aI (rfl : (false : Bool) = false) (aI (rfl : (false : Bool) = false) (aI (rfl : (false : Bool) = false) (t)))))))))))))))))) (by kernel_rfl) ?_
                refine ends_ret ?_
                obtain rfl := Option.some.inj H
                exact And.intro (.inl rfl) rfl
            | inr y288 =>
              replace H := ofInr H
              intro e s q
              obtain ⟨rfl, rfl⟩ := q
              obtain rfl := Option.some.inj H
              exact And.intro (.inl rfl) rfl
        | inr y144 =>
          replace H := ofInr H
          intro e s q
          obtain ⟨rfl, rfl⟩ := q
          obtain rfl := Option.some.inj H
          exact And.intro (.inl rfl) rfl

def s_mSize_ir : S :=
 (.seq (.ops [⟨some 1, .box 5 (.t 0), none⟩, ⟨some 2, .mv (.v (.int .i64 0)), none⟩])
 (.seq (.ops [⟨some 3, .fad 0 (.t 1), none⟩, ⟨some 4, .load 1 false (.t 3), none⟩, ⟨some 5, .fad 1 (.t 1), none⟩, ⟨some 6, .load 1 false (.t 5), none⟩, ⟨some 7, .bin .mul (.t 4) (.t 6), none⟩, ⟨some 2, .mv (.t 7), none⟩])
 .ret))
noncomputable def X.s_mSize (p0 : TMap) : Option Int :=
  some (W (p0.Width * p0.Height))
theorem s_mSize_ok (p0 : TMap) (r : Int) (H : X.s_mSize p0 = some r) : FnOk Tryd.prog gl 48 [.agg (eTMap p0)] (cI r) := by
  unfold X.s_mSize at H
  refine fn_in (fn := Tryd.f48) (ir := s_mSize_ir) (s1 := lit [(2, cI r)] []) glL Tryd.func48 (by kernel_rfl) (by kernel_rfl) (by kernel_rfl) (by kernel_rfl) (by kernel_rfl) ?_
  refine seq_ops [] [] [(1, .c (.pk 1 0))] [(1, .var (eTMap p0) false)] (fun t => t) (by kernel_rfl) ?_
  refine seq_ops [] [] [(2, cI (W (p0.Width * p0.Height)))] [] (fun t => t) (by kernel_rfl) ?_
  refine ends_ret ?_
  obtain rfl := Option.some.inj H
  exact And.intro (.inl rfl) rfl

def s_mIndex_ir : S :=
 (.seq (.ops [⟨some 2, .box 5 (.t 0), none⟩, ⟨some 3, .box 2 (.t 1), none⟩, ⟨some 4, .mv (.v (.int .i64 0)), none⟩])
 (.seq (.seq (.ops [⟨some 5, .fad 0 (.t 3), none⟩, ⟨some 6, .load 1 false (.t 5), none⟩, ⟨some 7, .fad 0 (.t 2), none⟩, ⟨some 8, .load 1 false (.t 7), none⟩, ⟨some 9, .bin .sub (.t 8) (.v (.int .i64 1)), none⟩, ⟨some 10, .call 28 [.t 6, .v (.int .i64 0), .t 9], none⟩, ⟨some 11, .not (.t 10), none⟩, ⟨some 12, .mv (.t 11), none⟩, ⟨some 13, .fad 1 (.t 3), some (12, false)⟩, ⟨some 14, .load 1 false (.t 13), some (12, false)⟩, ⟨some 15, .fad 1 (.t 2), some (12, false)⟩, ⟨some 16, .load 1 false (.t 15), some (12, false)⟩, ⟨some 17, .bin .sub (.t 16) (.v (.int .i64 1)), some (12, false)⟩, ⟨some 18, .call 28 [.t 14, .v (.int .i64 0), .t 17], some (12, false)⟩, ⟨some 19, .not (.t 18), some (12, false)⟩, ⟨some 20, .pick (.t 12) (.v (.bool true)) (.t 19), none⟩])
 (.ite (.t 20) (.seq (.ops [⟨some 4, .mv (.v (.int .i64 (-1))), none⟩])
  .ret)
 .skip))
 (.seq (.ops [⟨some 21, .fad 1 (.t 3), none⟩, ⟨some 22, .load 1 false (.t 21), none⟩, ⟨some 23, .fad 0 (.t 2), none⟩, ⟨some 24, .load 1 false (.t 23), none⟩, ⟨some 25, .bin .mul (.t 22) (.t 24), none⟩, ⟨some 26, .fad 0 (.t 3), none⟩, ⟨some 27, .load 1 false (.t 26), none⟩, ⟨some 28, .bin .add (.t 25) (.t 27), none⟩, ⟨some 4, .mv (.t 28), none⟩])
 .ret)))
noncomputable def X.s_mIndex (p0 : TMap) (p1 : THex) : Option Int :=
  ((X.s_l1In p1.Q 0 (W (p0.Width - 1))).bind fun v7 => (bif (!v7) then some (-1) else ((X.s_l1In p1.R 0 (W (p0.Height - 1))).bind fun v10 => (bif (!v10) then some (-1) else some (W ((W (p1.R * p0.Width)) + p1.Q))))))
theorem s_mIndex_ok (p0 : TMap) (p1 : THex) (r : Int) (H : X.s_mIndex p0 p1 = some r) : FnOk Tryd.prog gl 96 [.agg (eTMap p0), .agg (eTHex p1)] (cI r) := by
  unfold X.s_mIndex at H
  refine fn_in (fn := Tryd.f96) (ir := s_mIndex_ir) (s1 := lit [(4, cI r)] []) glL Tryd.func96 (by kernel_rfl) (by kernel_rfl) (by kernel_rfl) (by kernel_rfl) (by kernel_rfl) ?_
  refine seq_ops [] [] [(2, .c (.pk 2 0)), (3, .c (.pk 3 0))] [(2, .var (eTMap p0) false), (3, .var (eTHex p1) false)] (fun t => t) (by kernel_rfl) ?_
  refine seq_in ?_
  obtain ⟨v7, h8, H⟩ := ofBind H
  rcases ofCond H with ⟨c9, H⟩ | ⟨c9, H⟩
  · refine seq_ops [.res (cB v7), .g true, .g true, .g true, .g true, .g true, .g true, .g true, .g true] [] [(2, .c (.pk 2 0)), (3, .c (.pk 3 0)), (20, cB true)] [(2, .var (eTMap p0) false), (3, .var (eTHex p1) false)] (fun t => aI (s_l1In_ok p1.Q 0 (W (p0.Width - 1)) v7 h8) (aI c9 (aI c9 (aI c9 (aI c9 (aI c9 (aI c9 (aI c9 (aI c9 (t)))))))))) (by kernel_rfl) ?_
    refine ite_t (rfl : (true : Bool) = true) (by kernel_rfl) ?_
    refine seq_ops [] [] [(4, cI (-1))] [] (fun t => t) (by kernel_rfl) ?_
    refine ends_ret ?_
    obtain rfl := Option.some.inj H
    exact And.intro (.inl rfl) rfl
  · obtain ⟨v10, h11, H⟩ := ofBind H
    refine seq_ops [.res (cB v7), .g false, .g false, .g false, .g false, .g false, .g false, .res (cB v10), .g false, .g false] [] [(2, .c (.pk 2 0)), (3, .c (.pk 3 0)), (20, cB (!v10))] [(2, .var (eTMap p0) false), (3, .var (eTHex p1) false)] (fun t => aI (s_l1In_ok p1.Q 0 (W (p0.Width - 1)) v7 h8) (aI c9 (aI c9 (aI c9 (aI c9 (aI c9 (aI c9 (aI (s_l1In_ok p1.R 0 (W (p0.Height - 1)) v10 h11) (aI c9 (aI c9 (t))))))))))) (by kernel_rfl) ?_
    rcases ofCond H with ⟨c12, H⟩ | ⟨c12, H⟩
    · refine ite_t c12 (by kernel_rfl) ?_
      refine seq_ops [] [] [(4, cI (-1))] [] (fun t => t) (by kernel_rfl) ?_
      refine ends_ret ?_
      obtain rfl := Option.some.inj H
      exact And.intro (.inl rfl) rfl
    · refine ite_f c12 (by kernel_rfl) ?_
      refine ends_skip ?_
      change EndsI _ _ _ _ _ _
      refine seq_ops [] [] [(4, cI (W ((W (p1.R * p0.Width)) + p1.Q)))] [] (fun t => t) (by kernel_rfl) ?_
      refine ends_ret ?_
      obtain rfl := Option.some.inj H
      exact And.intro (.inl rfl) rfl

def s_hStep_ir : S :=
 (.seq (.ops [⟨some 2, .box 2 (.t 0), none⟩, ⟨some 4, .alloc [.int .i64 0, .int .i64 0], none⟩])
 (.seq (.draw 15 [⟨some 5, .fad 0 (.t 2), none⟩, ⟨some 6, .load 1 false (.t 5), none⟩, ⟨some 7, .bsl 1 [.v (.int .i64 1), .v (.int .i64 1), .v (.int .i64 0), .v (.int .i64 (-1)), .v (.int .i64 (-1)), .v (.int .i64 0)], none⟩, ⟨some 8, .mv (.t 1), none⟩, ⟨some 9, .iad 1 (.t 7) (.t 8), none⟩, ⟨some 10, .load 1 false (.t 9), none⟩, ⟨some 11, .bin .add (.t 6) (.t 10), none⟩, ⟨some 12, .fad 1 (.t 2), none⟩, ⟨some 13, .load 1 false (.t 12), none⟩, ⟨some 14, .bsl 1 [.v (.int .i64 0), .v (.int .i64 (-1)), .v (.int .i64 (-1)), .v (.int .i64 0), .v (.int .i64 1), .v (.int .i64 1)], none⟩, ⟨some 15, .mv (.t 1), none⟩, ⟨some 16, .iad 1 (.t 14) (.t 15), none⟩, ⟨some 17, .load 1 false (.t 16), none⟩, ⟨some 18, .bin .add (.t 13) (.t 17), none⟩, ⟨some 19, .build [.int .i64 0, .int .i64 0] [(0, 1, .t 11), (1, 1, .t 18)], none⟩, ⟨none, .store 2 (.t 4) (.t 19), none⟩])
 .ret))
noncomputable def X.s_hStep (p0 : THex) (p1 : Int) : Option THex :=
  (if 0 ≤ p1 ∧ p1 < (([1, 1, 0, -1, -1, 0] : List Int).length : Int) then (if 0 ≤ p1 ∧ p1 < (([0, -1, -1, 0, 1, 1] : List Int).length : Int) then some (THex.mk (W (p0.Q + (([1, 1, 0, -1, -1, 0] : List Int).getD p1.toNat zI))) (W (p0.R + (([0, -1, -1, 0, 1, 1] : List Int).getD p1.toNat zI)))) else none) else none)
theorem s_hStep_ok (p0 : THex) (p1 : Int) (r : THex) (H : X.s_hStep p0 p1 = some r) : FnOk Tryd.prog gl 97 [.agg (eTHex p0), cI p1] (.agg (eTHex r)) := by
  unfold X.s_hStep at H
  refine fn_in (fn := Tryd.f97) (ir := s_hStep_ir) (s1 := lit [(4, .c (.pk 4 0))] [(4, .var (eTHex r) false)]) glL Tryd.func97 (by kernel_rfl) (by kernel_rfl) (by kernel_rfl) (by kernel_rfl) (by kernel_rfl) ?_
  refine seq_ops [] [] [(1, cI p1), (2, .c (.pk 2 0)), (4, .c (.pk 4 0))] [(2, .var (eTHex p0) false), (4, .var [.int .i64 0, .int .i64 0] false)] (fun t => t) (by kernel_rfl) ?_
  obtain ⟨g1, H⟩ := ofIf H
  obtain ⟨g2, H⟩ := ofIf H
  refine seq_draw [.no, .fn ([1, 1, 0, -1, -1, 0] : List Int).length (fF eI zI ([1, 1, 0, -1, -1, 0] : List Int)), .no, .no, .fn ([0, -1, -1, 0, 1, 1] : List Int).length (fF eI zI ([0, -1, -1, 0, 1, 1] : List Int)), .no] [] [(4, .c (.pk 4 0))] [(4, .var [.int .i64 (W (p0.Q + (([1, 1, 0, -1, -1, 0] : List Int).getD p1.toNat zI))), .int .i64 (W (p0.R + (([0, -1, -1, 0, 1, 1] : List Int).getD p1.toNat zI)))] false)] (fun t => aI (rfl : ([1, 1, 0, -1, -1, 0] : List Int).length = 6) (aI (rfl : true = true) (aI (fF_lit eI zI ([1, 1, 0, -1, -1, 0] : List Int)) (aI g1 (aI (nat_lt g1) (aI (rfl : ([] : List Nat) = []) (aI (rfl : ([0, -1, -1, 0, 1, 1] : List Int).length = 6) (aI (rfl : true = true) (aI (fF_lit eI zI ([0, -1, -1, 0, 1, 1] : List Int)) (aI g2 (aI (nat_lt g2) (aI (rfl : ([] : List Nat) = []) (t))))))))))))) (by kernel_rfl) ?_
  refine ends_ret ?_
  obtain rfl := Option.some.inj H
  exact And.intro (.inl rfl) rfl

def s_mHex_ir : S :=
 (.seq (.ops [⟨some 2, .box 5 (.t 0), none⟩, ⟨some 4, .alloc [.int .i64 0, .int .i64 0], none⟩])
 (.seq (.draw 9 [⟨some 5, .mv (.t 1), none⟩, ⟨some 6, .fad 0 (.t 2), none⟩, ⟨some 7, .load 1 false (.t 6), none⟩, ⟨some 8, .bin .rem (.t 5) (.t 7), none⟩, ⟨some 9, .mv (.t 1), none⟩, ⟨some 10, .fad 0 (.t 2), none⟩, ⟨some 11, .load 1 false (.t 10), none⟩, ⟨some 12, .bin .quo (.t 9) (.t 11), none⟩, ⟨some 13, .build [.int .i64 0, .int .i64 0] [(0, 1, .t 8), (1, 1, .t 12)], none⟩, ⟨none, .store 2 (.t 4) (.t 13), none⟩])
 .ret))
noncomputable def X.s_mHex (p0 : TMap) (p1 : Int) : Option THex :=
  (if p0.Width ≠ 0 then (if p0.Width ≠ 0 then some (THex.mk (Int.tmod p1 p0.Width) (W (Int.tdiv p1 p0.Width))) else none) else none)
theorem s_mHex_ok (p0 : TMap) (p1 : Int) (r : THex) (H : X.s_mHex p0 p1 = some r) : FnOk Tryd.prog gl 98 [.agg (eTMap p0), cI p1] (.agg (eTHex r)) := by
  unfold X.s_mHex at H
  refine fn_in (fn := Tryd.f98) (ir := s_mHex_ir) (s1 := lit [(4, .c (.pk 4 0))] [(4, .var (eTHex r) false)]) glL Tryd.func98 (by kernel_rfl) (by kernel_rfl) (by kernel_rfl) (by kernel_rfl) (by kernel_rfl) ?_
  refine seq_ops [] [] [(1, cI p1), (2, .c (.pk 2 0)), (4, .c (.pk 4 0))] [(2, .var (eTMap p0) false), (4, .var [.int .i64 0, .int .i64 0] false)] (fun t => t) (by kernel_rfl) ?_
  obtain ⟨g1, H⟩ := ofIf H
  obtain ⟨g2, H⟩ := ofIf H
  refine seq_draw [] [] [(4, .c (.pk 4 0))] [(4, .var [.int .i64 (Int.tmod p1 p0.Width), .int .i64 (W (Int.tdiv p1 p0.Width))] false)] (fun t => aI g1 (aI g2 (t))) (by kernel_rfl) ?_
  refine ends_ret ?_
  obtain rfl := Option.some.inj H
  exact And.intro (.inl rfl) rfl

def s_mNext_ir : S :=
 (.seq (.ops [⟨some 3, .box 5 (.t 0), none⟩, ⟨some 6, .mv (.v (.int .i64 0)), none⟩])
 (.seq (.draw 8 [⟨some 7, .load 5 true (.t 3), none⟩, ⟨some 8, .load 5 true (.t 3), none⟩, ⟨some 9, .mv (.t 1), none⟩, ⟨some 10, .call 98 [.t 8, .t 9], none⟩, ⟨some 11, .mv (.t 2), none⟩, ⟨some 12, .call 97 [.t 10, .t 11], none⟩, ⟨some 13, .call 96 [.t 7, .t 12], none⟩, ⟨some 6, .mv (.t 13), none⟩])
 .ret))
noncomputable def X.s_mNext (p0 : TMap) (p1 : Int) (p2 : Int) : Option Int :=
  ((X.s_mHex p0 p1).bind fun v1 => ((X.s_hStep v1 p2).bind fun v3 => ((X.s_mIndex p0 v3).bind fun v5 => some v5)))
theorem s_mNext_ok (p0 : TMap) (p1 : Int) (p2 : Int) (r : Int) (H : X.s_mNext p0 p1 p2 = some r) : FnOk Tryd.prog gl 91 [.agg (eTMap p0), cI p1, cI p2] (cI r) := by
  unfold X.s_mNext at H
  refine fn_in (fn := Tryd.f91) (ir := s_mNext_ir) (s1 := lit [(6, cI r)] []) glL Tryd.func91 (by kernel_rfl) (by kernel_rfl) (by kernel_rfl) (by kernel_rfl) (by kernel_rfl) ?_
  refine seq_ops [] [] [(1, cI p1), (2, cI p2), (3, .c (.pk 3 0))] [(3, .var (eTMap p0) false)] (fun t => t) (by kernel_rfl) ?_
  obtain ⟨v1, h2, H⟩ := ofBind H
  obtain ⟨v3, h4, H⟩ := ofBind H
  obtain ⟨v5, h6, H⟩ := ofBind H
  refine seq_draw [.res (.agg (eTHex v1)), .res (.agg (eTHex v3)), .res (cI v5)] [] [(6, cI v5)] [] (fun t => aI (s_mHex_ok p0 p1 v1 h2) (aI trivial (aI (rfl : ([] : List Nat) = []) (aI (s_hStep_ok v1 p2 v3 h4) (aI trivial (aI (rfl : ([] : List Nat) = []) (aI (s_mIndex_ok p0 v3 v5 h6) (aI trivial (aI (rfl : ([] : List Nat) = []) (t)))))))))) (by kernel_rfl) ?_
  refine ends_ret ?_
  obtain rfl := Option.some.inj H
  exact And.intro (.inl rfl) rfl

def s_l1Rising_ir : S :=
 (.seq (.ops [⟨some 6, .mv (.v (.bool false)), none⟩])
 (.seq (.seq (.ops [⟨some 9, .mv (.t 0), none⟩, ⟨some 10, .len (.t 9), none⟩, ⟨some 11, .mv (.v (.int .i64 0)), none⟩])
 (.blk 0 (.loop (.seq (.ops [⟨some 12, .bin .lss (.t 11) (.t 10), none⟩])
   (.seq (.ite (.t 12) .skip
   (.exit 0))
   (.seq (.blk 1 (.seq (.ops [⟨some 13, .mv (.t 11), none⟩, ⟨some 14, .iad 1 (.t 9) (.t 11), none⟩, ⟨some 15, .load 1 false (.t 14), none⟩, ⟨some 7, .mv (.t 13), none⟩, ⟨some 8, .mv (.t 15), none⟩])
    (.seq (.ops [⟨some 16, .mv (.t 8), none⟩, ⟨some 17, .mv (.t 1), none⟩, ⟨some 18, .mv (.t 2), none⟩, ⟨some 19, .call 28 [.t 16, .t 17, .t 18], none⟩, ⟨some 20, .not (.t 19), none⟩, ⟨some 21, .mv (.t 20), none⟩, ⟨some 22, .mv (.t 7), some (21, false)⟩, ⟨some 23, .bin .gtr (.t 22) (.v (.int .i64 0)), some (21, false)⟩, ⟨some 24, .mv (.t 23), some (21, false)⟩, ⟨some 25, .mv (.t 0), some (24, true)⟩, ⟨some 26, .mv (.t 7), some (24, true)⟩, ⟨some 27, .bin .sub (.t 26) (.v (.int .i64 1)), some (24, true)⟩, ⟨some 28, .iad 1 (.t 25) (.t 27), some (24, true)⟩, ⟨some 29, .load 1 false (.t 28), some (24, true)⟩, ⟨some 30, .mv (.t 8), some (24, true)⟩, ⟨some 31, .bin .geq (.t 29) (.t 30), some (24, true)⟩, ⟨some 32, .pick (.t 24) (.t 31) (.v (.bool false)), some (21, false)⟩, ⟨some 33, .pick (.t 21) (.v (.bool true)) (.t 32), none⟩])
    (.ite (.t 33) (.seq (.ops [⟨some 6, .mv (.v (.bool false)), none⟩])
     .ret)
    .skip))))
   (.ops [⟨some 34, .bin .add (.t 11) (.v (.int .i64 1)), none⟩, ⟨some 11, .mv (.t 34), none⟩])))))))
 (.seq (.ops [⟨some 6, .mv (.v (.bool true)), none⟩])
 .ret)))
noncomputable def X.s_l1Rising (p0 : (List Int)) (p1 : Int) (p2 : Int) : Option Bool :=
  ((loop (fun (x24 : Int) => ((bif (decide (x24 < (p0.length : Int))) then ((at' zI p0 x24).bind fun v27 => ((X.s_l1In v27 p1 p2).bind fun v29 => (bif (!v29) then some (Sum.inr (Sum.inr false)) else (bif (decide (x24 > 0)) then ((at' zI p0 (W (x24 - 1))).bind fun v33 => (bif (decide (v33 ≥ v27)) then some (Sum.inr (Sum.inr false)) else some (Sum.inl (W (x24 + 1))))) else some (Sum.inl (W (x24 + 1))))))) else some (Sum.inr (Sum.inl ()))) : Option (Int ⊕ (Unit ⊕ Bool)))) 0).bind fun y36 => (Sum.elim (fun (y38 : Unit) => some true) (fun (y39 : Bool) => some y39) y36))
theorem s_l1Rising_ok (p0 : (List Int)) (p1 : Int) (p2 : Int) (r : Bool) (H : X.s_l1Rising p0 p1 p2 = some r) : FnOk Tryd.prog gl 92 [.c (dat 1 eI zI p0), cI p1, cI p2] (cB r) := by
  unfold X.s_l1Rising at H
  refine fn_in (fn := Tryd.f92) (ir := s_l1Rising_ir) (s1 := lit [(6, cB r)] []) glL Tryd.func92 (by kernel_rfl) (by kernel_rfl) (by kernel_rfl) (by kernel_rfl) (by kernel_rfl) ?_
  refine seq_ops [] [] [(0, .c (dat 1 eI zI p0)), (1, cI p1), (2, cI p2)] [] (fun t => t) (by kernel_rfl) ?_
  refine seq_in ?_
  refine seq_ops [] [] [(0, .c (dat 1 eI zI p0)), (1, cI p1), (2, cI p2), (9, .c (dat 1 eI zI p0)), (10, cI (p0.length : Int)), (11, cI 0)] [] (fun t => lI p0 (t)) (by kernel_rfl) ?_
  refine ends_blk ?_
  obtain ⟨y36, h37, H⟩ := ofBind H
  refine loop_in (fun (x : Int) => lit [(0, .c (dat 1 eI zI p0)), (1, cI p1), (2, cI p2), (9, .c (dat 1 eI zI p0)), (10, cI (p0.length : Int)), (11, cI x)] []) (orJ (fun (z : Unit) => At (.exit 0) (lit [] [])) (fun (z : Bool) => At .ret (lit [(6, cB z)] []))) h37 ?_ ?_
  · clear H h37
    intro x24 y0 H
    refine seq_ops [] [] [(0, .c (dat 1 eI zI p0)), (1, cI p1), (2, cI p2), (9, .c (dat 1 eI zI p0)), (10, cI (p0.length : Int)), (11, cI x24), (12, cB (decide (x24 < (p0.length : Int))))] [] (fun t => t) (by kernel_rfl) ?_
    refine seq_in ?_
    rcases ofCond H with ⟨c26, H⟩ | ⟨c26, H⟩
    · refine ite_t c26 (by kernel_rfl) ?_
      refine ends_skip ?_
      change EndsI _ _ _ _ _ _
      refine seq_in ?_
      refine ends_blk ?_
      obtain ⟨v27, h28, H⟩ := ofBind H
      refine seq_ops [.cs (eI v27)] [] [(0, .c (dat 1 eI zI p0)), (1, cI p1), (2, cI p2), (7, cI x24), (8, cI v27), (9, .c (dat 1 eI zI p0)), (10, cI (p0.length : Int)), (11, cI x24)] [] (fun t => aI (at_lt h28) (aI (at_enc (enc := eI) h28) (t))) (by kernel_rfl) ?_
      obtain ⟨v29, h30, H⟩ := ofBind H
      rcases ofCond H with ⟨c31, H⟩ | ⟨c31, H⟩
      · refine seq_ops [.res (cB v29), .g true, .g true, .g true, .g true, .g true] [] [(0, .c (dat 1 eI zI p0)), (1, cI p1), (2, cI p2), (9, .c (dat 1 eI zI p0)), (10, cI (p0.length : Int)), (11, cI x24), (33, cB true)] [] (fun t => aI (s_l1In_ok v27 p1 p2 v29 h30) (aI c31 (aI c31 (aI c31 (aI c31 (aI c31 (t))))))) (by kernel_rfl) ?_
        refine ite_t (rfl : (true : Bool) = true) (by kernel_rfl) ?_
        refine seq_ops [] [] [(6, cB false)] [] (fun t => t) (by kernel_rfl) ?_
        refine ends_ret ?_
        obtain rfl := Option.some.inj H
        exact And.intro (by simp) (And.intro rfl rfl)
      · rcases ofCond H with ⟨c32, H⟩ | ⟨c32, H⟩
        · obtain ⟨v33, h34, H⟩ := ofBind H
          refine seq_ops [.res (cB v29), .g false, .g false, .g false, .g true, .g true, .g true, .g true, .cs (eI v33), .g true, .g true, .g true, .g false, .g true, .g false] [] [(0, .c (dat 1 eI zI p0)), (1, cI p1), (2, cI p2), (9, .c (dat 1 eI zI p0)), (10, cI (p0.length : Int)), (11, cI x24), (33, cB (decide (v33 ≥ v27)))] [] (fun t => aI (s_l1In_ok v27 p1 p2 v29 h30) (aI c31 (aI c31 (aI c31 (aI c32 (aI c32 (aI c32 (aI c32 (aI (at_lt h34) (aI (at_enc (enc := eI) h34) (aI c32 (aI c32 (aI c32 (aI c31 (aI c32 (aI c31 (t))))))))))))))))) (by kernel_rfl) ?_
          rcases ofCond H with ⟨c35, H⟩ | ⟨c35, H⟩
          · refine ite_t c35 (by kernel_rfl) ?_
            refine seq_ops [] [] [(6, cB false)] [] (fun t => t) (by kernel_rfl) ?_
            refine ends_ret ?_
            obtain rfl := Option.some.inj H
            exact And.intro (by simp) (And.intro rfl rfl)
          · refine ite_f c35 (by kernel_rfl) ?_
            refine ends_skip ?_
            change EndsI _ _ _ _ _ _
            refine one_ops [] [] [(0, .c (dat 1 eI zI p0)), (1, cI p1), (2, cI p2), (9, .c (dat 1 eI zI p0)), (10, cI (p0.length : Int)), (11, cI (W (x24 + 1)))] [] (fun t => t) (by kernel_rfl) ?_
            obtain rfl := Option.some.inj H
            exact And.intro rfl rfl
        · refine seq_ops [.res (cB v29), .g false, .g false, .g false, .g false, .g false, .g false, .g false, .g false, .g false, .g false, .g false, .g false, .g false] [] [(0, .c (dat 1 eI zI p0)), (1, cI p1), (2, cI p2), (9, .c (dat 1 eI zI p0)), (10, cI (p0.length : Int)), (11, cI x24), (33, cB false)] [] (fun t => aI (s_l1In_ok v27 p1 p2 v29 h30) (aI c31 (aI c31 (aI c31 (aI c32 (aI c32 (aI c32 (aI c32 (aI c32 (aI c32 (aI c32 (aI c31 (aI c32 (aI c31 (t))))))))))))))) (by kernel_rfl) ?_
          refine ite_f (rfl : (false : Bool) = false) (by kernel_rfl) ?_
          refine ends_skip ?_
          change EndsI _ _ _ _ _ _
          refine one_ops [] [] [(0, .c (dat 1 eI zI p0)), (1, cI p1), (2, cI p2), (9, .c (dat 1 eI zI p0)), (10, cI (p0.length : Int)), (11, cI (W (x24 + 1)))] [] (fun t => t) (by kernel_rfl) ?_
          obtain rfl := Option.some.inj H
          exact And.intro rfl rfl
    · refine ite_f c26 (by kernel_rfl) ?_
      refine tell [] [] [] (fun t => t) (by kernel_rfl) ?_
      refine ends_exit ?_
      obtain rfl := Option.some.inj H
      exact And.intro (by simp) (And.intro rfl rfl)
  · clear h37
    cases y36 with
    | inl y38 =>
      replace H := ofInl H
      intro e s q
      obtain ⟨rfl, rfl⟩ := q
      change EndsI _ _ _ _ _ _
      refine seq_ops [] [] [(6, cB true)] [] (fun t => t) (by kernel_rfl) ?_
      refine ends_ret ?_
      obtain rfl := Option.some.inj H
      exact And.intro (.inl rfl) rfl
    | inr y39 =>
      replace H := ofInr H
      intro e s q
      obtain ⟨rfl, rfl⟩ := q
      obtain rfl := Option.some.inj H
      exact And.intro (.inl rfl) rfl

def s_mEdges_ir : S :=
 (.seq (.ops [⟨some 2, .box 5 (.t 0), none⟩, ⟨some 4, .mv (.v (.bool false)), none⟩])
 (.seq (.seq (.ops [⟨some 7, .mv (.t 1), none⟩, ⟨some 8, .len (.t 7), none⟩, ⟨some 9, .mv (.v (.int .i64 0)), none⟩])
 (.blk 0 (.loop (.seq (.ops [⟨some 10, .bin .lss (.t 9) (.t 8), none⟩])
   (.seq (.ite (.t 10) .skip
   (.exit 0))
   (.seq (.blk 1 (.seq (.ops [⟨some 11, .iad 1 (.t 7) (.t 9), none⟩, ⟨some 12, .load 1 false (.t 11), none⟩, ⟨some 6, .mv (.t 12), none⟩])
    (.seq (.ops [⟨some 13, .mv (.t 6), none⟩, ⟨some 14, .load 5 true (.t 2), none⟩, ⟨some 15, .call 48 [.t 14], none⟩, ⟨some 16, .bin .mul (.v (.int .i64 3)) (.t 15), none⟩, ⟨some 17, .bin .sub (.t 16) (.v (.int .i64 1)), none⟩, ⟨some 18, .call 28 [.t 13, .v (.int .i64 0), .t 17], none⟩, ⟨some 19, .not (.t 18), none⟩, ⟨some 20, .mv (.t 19), none⟩, ⟨some 21, .load 5 true (.t 2), some (20, false)⟩, ⟨some 22, .mv (.t 6), some (20, false)⟩, ⟨some 23, .bin .quo (.t 22) (.v (.int .i64 3)), some (20, false)⟩, ⟨some 24, .mv (.t 6), some (20, false)⟩, ⟨some 25, .bin .rem (.t 24) (.v (.int .i64 3)), some (20, false)⟩, ⟨some 26, .call 91 [.t 21, .t 23, .t 25], some (20, false)⟩, ⟨some 27, .bin .lss (.t 26) (.v (.int .i64 0)), some (20, false)⟩, ⟨some 28, .pick (.t 20) (.v (.bool true)) (.t 27), none⟩])
    (.ite (.t 28) (.seq (.ops [⟨some 4, .mv (.v (.bool false)), none⟩])
     .ret)
    .skip))))
   (.ops [⟨some 29, .bin .add (.t 9) (.v (.int .i64 1)), none⟩, ⟨some 9, .mv (.t 29), none⟩])))))))
 (.seq (.ops [⟨some 30, .mv (.t 1), none⟩, ⟨some 31, .load 5 true (.t 2), none⟩, ⟨some 32, .call 48 [.t 31], none⟩, ⟨some 33, .bin .mul (.v (.int .i64 3)) (.t 32), none⟩, ⟨some 34, .bin .sub (.t 33) (.v (.int .i64 1)), none⟩, ⟨some 35, .call 92 [.t 30, .v (.int .i64 0), .t 34], none⟩, ⟨some 4, .mv (.t 35), none⟩])
 .ret)))
noncomputable def X.s_mEdges (p0 : TMap) (p1 : (List Int)) : Option Bool :=
  ((loop (fun (x68 : Int) => ((bif (decide (x68 < (p1.length : Int))) then ((at' zI p1 x68).bind fun v71 => ((X.s_mSize p0).bind fun v73 => ((X.s_l1In v71 0 (W ((W (3 * v73)) - 1))).bind fun v75 => (bif (!v75) then some (Sum.inr (Sum.inr false)) else ((X.s_mNext p0 (W (Int.tdiv v71 3)) (Int.tmod v71 3)).bind fun v78 => (bif (decide (v78 < 0)) then some (Sum.inr (Sum.inr false)) else some (Sum.inl (W (x68 + 1))))))))) else some (Sum.inr (Sum.inl ()))) : Option (Int ⊕ (Unit ⊕ Bool)))) 0).bind fun y81 => (Sum.elim (fun (y83 : Unit) => ((X.s_mSize p0).bind fun v85 => ((X.s_l1Rising p1 0 (W ((W (3 * v85)) - 1))).bind fun v87 => some v87))) (fun (y84 : Bool) => some y84) y81))
theorem s_mEdges_ok (p0 : TMap) (p1 : (List Int)) (r : Bool) (H : X.s_mEdges p0 p1 = some r) : FnOk Tryd.prog gl 81 [.agg (eTMap p0), .c (dat 1 eI zI p1)] (cB r) := by
  unfold X.s_mEdges at H
  refine fn_in (fn := Tryd.f81) (ir := s_mEdges_ir) (s1 := lit [(4, cB r)] []) glL Tryd.func81 (by kernel_rfl) (by kernel_rfl) (by kernel_rfl) (by kernel_rfl) (by kernel_rfl) ?_
  refine seq_ops [] [] [(1, .c (dat 1 eI zI p1)), (2, .c (.pk 2 0))] [(2, .var (eTMap p0) false)] (fun t => t) (by kernel_rfl) ?_
  refine seq_in ?_
  refine seq_ops [] [] [(1, .c (dat 1 eI zI p1)), (2, .c (.pk 2 0)), (7, .c (dat 1 eI zI p1)), (8, cI (p1.length : Int)), (9, cI 0)] [(2, .var (eTMap p0) false)] (fun t => lI p1 (t)) (by kernel_rfl) ?_
  refine ends_blk ?_
  obtain ⟨y81, h82, H⟩ := ofBind H
  refine loop_in (fun (x : Int) => lit [(1, .c (dat 1 eI zI p1)), (2, .c (.pk 2 0)), (7, .c (dat 1 eI zI p1)), (8, cI (p1.length : Int)), (9, cI x)] [(2, .var (eTMap p0) false)]) (orJ (fun (z : Unit) => At (.exit 0) (lit [(1, .c (dat 1 eI zI p1)), (2, .c (.pk 2 0))] [(2, .var (eTMap p0) false)])) (fun (z : Bool) => At .ret (lit [(4, cB z)] []))) h82 ?_ ?_
  · clear H h82
    intro x68 y0 H
    refine seq_ops [] [] [(1, .c (dat 1 eI zI p1)), (2, .c (.pk 2 0)), (7, .c (dat 1 eI zI p1)), (8, cI (p1.length : Int)), (9, cI x68), (10, cB (decide (x68 < (p1.length : Int))))] [(2, .var (eTMap p0) false)] (fun t => t) (by kernel_rfl) ?_
    refine seq_in ?_
    rcases ofCond H with ⟨c70, H⟩ | ⟨c70, H⟩
    · refine ite_t c70 (by kernel_rfl) ?_
      refine ends_skip ?_
      change EndsI _ _ _ _ _ _
      refine seq_in ?_
      refine ends_blk ?_
      obtain ⟨v71, h72, H⟩ := ofBind H
      refine seq_ops [.cs (eI v71)] [] [(1, .c (dat 1 eI zI p1)), (2, .c (.pk 2 0)), (6, cI v71), (7, .c (dat 1 eI zI p1)), (8, cI (p1.length : Int)), (9, cI x68)] [(2, .var (eTMap p0) false)] (fun t => aI (at_lt h72) (aI (at_enc (enc := eI) h72) (t))) (by kernel_rfl) ?_
      obtain ⟨v73, h74, H⟩ := ofBind H
      obtain ⟨v75, h76, H⟩ := ofBind H
      rcases ofCond H with ⟨c77, H⟩ | ⟨c77, H⟩
      · refine seq_ops [.res (cI v73), .res (cB v75), .g true, .g true, .g true, .g true, .g true, .g true, .g true, .g true] [] [(1, .c (dat 1 eI zI p1)), (2, .c (.pk 2 0)), (7, .c (dat 1 eI zI p1)), (8, cI (p1.length : Int)), (9, cI x68), (28, cB true)] [(2, .var (eTMap p0) false)] (fun t => aI (s_mSize_ok p0 v73 h74) (aI (s_l1In_ok v71 0 (W ((W (3 * v73)) - 1)) v75 h76) (aI c77 (aI c77 (aI c77 (aI c77 (aI c77 (aI c77 (aI c77 (aI c77 (t))))))))))) (by kernel_rfl) ?_
        refine ite_t (rfl : (true : Bool) = true) (by kernel_rfl) ?_
        refine seq_ops [] [] [(4, cB false)] [] (fun t => t) (by kernel_rfl) ?_
        refine ends_ret ?_
        obtain rfl := Option.some.inj H
        exact And.intro (by simp) (And.intro rfl rfl)
      · obtain ⟨v78, h79, H⟩ := ofBind H
        refine seq_ops [.res (cI v73), .res (cB v75), .g false, .g false, .g false, .g false, .g false, .g false, .res (cI v78), .g false, .g false] [] [(1, .c (dat 1 eI zI p1)), (2, .c (.pk 2 0)), (7, .c (dat 1 eI zI p1)), (8, cI (p1.length : Int)), (9, cI x68), (28, cB (decide (v78 < 0)))] [(2, .var (eTMap p0) false)] (fun t => aI (s_mSize_ok p0 v73 h74) (aI (s_l1In_ok v71 0 (W ((W (3 * v73)) - 1)) v75 h76) (aI c77 (aI c77 (aI c77 (aI (by decide : (3 : Int) ≠ 0) (aI c77 (aI c77 (aI (by decide : (3 : Int) ≠ 0) (aI c77 (aI (s_mNext_ok p0 (W (Int.tdiv v71 3)) (Int.tmod v71 3) v78 h79) (aI c77 (aI c77 (t)))))))))))))) (by kernel_rfl) ?_
        rcases ofCond H with ⟨c80, H⟩ | ⟨c80, H⟩
        · refine ite_t c80 (by kernel_rfl) ?_
          refine seq_ops [] [] [(4, cB false)] [] (fun t => t) (by kernel_rfl) ?_
          refine ends_ret ?_
          obtain rfl := Option.some.inj H
          exact And.intro (by simp) (And.intro rfl rfl)
        · refine ite_f c80 (by kernel_rfl) ?_
          refine ends_skip ?_
          change EndsI _ _ _ _ _ _
          refine one_ops [] [] [(1, .c (dat 1 eI zI p1)), (2, .c (.pk 2 0)), (7, .c (dat 1 eI zI p1)), (8, cI (p1.length : Int)), (9, cI (W (x68 + 1)))] [(2, .var (eTMap p0) false)] (fun t => t) (by kernel_rfl) ?_
          obtain rfl := Option.some.inj H
          exact And.intro rfl rfl
    · refine ite_f c70 (by kernel_rfl) ?_
      refine tell [] [(1, .c (dat 1 eI zI p1)), (2, .c (.pk 2 0))] [(2, .var (eTMap p0) false)] (fun t => t) (by kernel_rfl) ?_
      refine ends_exit ?_
      obtain rfl := Option.some.inj H
      exact And.intro (by simp) (And.intro rfl rfl)
  · clear h82
    cases y81 with
    | inl y83 =>
      replace H := ofInl H
      intro e s q
      obtain ⟨rfl, rfl⟩ := q
      change EndsI _ _ _ _ _ _
      obtain ⟨v85, h86, H⟩ := ofBind H
      obtain ⟨v87, h88, H⟩ := ofBind H
      refine seq_ops [.res (cI v85), .res (cB v87)] [] [(4, cB v87)] [] (fun t => aI (s_mSize_ok p0 v85 h86) (aI (s_l1Rising_ok p1 0 (W ((W (3 * v85)) - 1)) v87 h88) (t))) (by kernel_rfl) ?_
      refine ends_ret ?_
      obtain rfl := Option.some.inj H
      exact And.intro (.inl rfl) rfl
    | inr y84 =>
      replace H := ofInr H
      intro e s q
      obtain ⟨rfl, rfl⟩ := q
      obtain rfl := Option.some.inj H
      exact And.intro (.inl rfl) rfl

def s_mGood_ir : S :=
 (.seq (.ops [⟨some 1, .box 5 (.t 0), none⟩, ⟨some 2, .mv (.v (.bool false)), none⟩])
 (.seq (.draw 34 [⟨some 3, .fad 0 (.t 1), none⟩, ⟨some 4, .load 1 false (.t 3), none⟩, ⟨some 5, .call 28 [.t 4, .v (.int .i64 1), .v (.int .i64 10)], none⟩, ⟨some 6, .mv (.t 5), none⟩, ⟨some 7, .fad 1 (.t 1), some (6, true)⟩, ⟨some 8, .load 1 false (.t 7), some (6, true)⟩, ⟨some 9, .call 28 [.t 8, .v (.int .i64 1), .v (.int .i64 10)], some (6, true)⟩, ⟨some 10, .pick (.t 6) (.t 9) (.v (.bool false)), none⟩, ⟨some 11, .mv (.t 10), none⟩, ⟨some 12, .fad 2 (.t 1), some (11, true)⟩, ⟨some 13, .load 1 false (.t 12), some (11, true)⟩, ⟨some 14, .len (.t 13), some (11, true)⟩, ⟨some 15, .load 5 true (.t 1), some (11, true)⟩, ⟨some 16, .call 48 [.t 15], some (11, true)⟩, ⟨some 17, .bin .eql (.t 14) (.t 16), some (11, true)⟩, ⟨some 18, .pick (.t 11) (.t 17) (.v (.bool false)), none⟩, ⟨some 19, .mv (.t 18), none⟩, ⟨some 20, .fad 2 (.t 1), some (19, true)⟩, ⟨some 21, .load 1 false (.t 20), some (19, true)⟩, ⟨some 22, .call 49 [.t 21, .v (.int .i64 0), .v (.int .i64 5)], some (19, true)⟩, ⟨some 23, .pick (.t 19) (.t 22) (.v (.bool false)), none⟩, ⟨some 24, .mv (.t 23), none⟩, ⟨some 25, .load 5 true (.t 1), some (24, true)⟩, ⟨some 26, .fad 3 (.t 1), some (24, true)⟩, ⟨some 27, .load 1 false (.t 26), some (24, true)⟩, ⟨some 28, .call 81 [.t 25, .t 27], some (24, true)⟩, ⟨some 29, .pick (.t 24) (.t 28) (.v (.bool false)), none⟩, ⟨some 30, .mv (.t 29), none⟩, ⟨some 31, .load 5 true (.t 1), some (30, true)⟩, ⟨some 32, .fad 4 (.t 1), some (30, true)⟩, ⟨some 33, .load 1 false (.t 32), some (30, true)⟩, ⟨some 34, .call 81 [.t 31, .t 33], some (30, true)⟩, ⟨some 35, .pick (.t 30) (.t 34) (.v (.bool false)), none⟩, ⟨some 2, .mv (.t 35), none⟩])
 .ret))
noncomputable def X.s_mGood (p0 : TMap) : Option Bool :=
  ((X.s_l1In p0.Width 1 10).bind fun v1 => (bif v1 then ((X.s_l1In p0.Height 1 10).bind fun v4 => (bif v4 then ((X.s_mSize p0).bind fun v7 => (bif ((p0.Terrain.length : Int) == v7) then ((X.s_l1All p0.Terrain 0 5).bind fun v10 => (bif v10 then ((X.s_mEdges p0 p0.Rivers).bind fun v13 => (bif v13 then ((X.s_mEdges p0 p0.Roads).bind fun v16 => some v16) else some false)) else some false)) else some false)) else some false)) else some false))
theorem s_mGood_ok (p0 : TMap) (r : Bool) (H : X.s_mGood p0 = some r) : FnOk Tryd.prog gl 61 [.agg (eTMap p0)] (cB r) := by
  unfold X.s_mGood at H
  refine fn_in (fn := Tryd.f61) (ir := s_mGood_ir) (s1 := lit [(2, cB r)] []) glL Tryd.func61 (by kernel_rfl) (by kernel_rfl) (by kernel_rfl) (by kernel_rfl) (by kernel_rfl) ?_
  refine seq_ops [] [] [(1, .c (.pk 1 0))] [(1, .var (eTMap p0) false)] (fun t => t) (by kernel_rfl) ?_
  obtain ⟨v1, h2, H⟩ := ofBind H
  rcases ofCond H with ⟨c3, H⟩ | ⟨c3, H⟩
  · obtain ⟨v4, h5, H⟩ := ofBind H
    rcases ofCond H with ⟨c6, H⟩ | ⟨c6, H⟩
    · obtain ⟨v7, h8, H⟩ := ofBind H
      rcases ofCond H with ⟨c9, H⟩ | ⟨c9, H⟩
      · obtain ⟨v10, h11, H⟩ := ofBind H
        rcases ofCond H with ⟨c12, H⟩ | ⟨c12, H⟩
        · obtain ⟨v13, h14, H⟩ := ofBind H
          rcases ofCond H with ⟨c15, H⟩ | ⟨c15, H⟩
          · obtain ⟨v16, h17, H⟩ := ofBind H
            refine seq_draw [.res (cB v1), .g true, .g true, .g true, .res (cB v4), .g true, .g true, .g true, .g true, .g true, .g true, .res (cI v7), .g true, .g true, .g true, .g true, .g true, .res (cB v10), .g true, .g true, .g true, .g true, .g true, .res (cB v13), .g true, .g true, .g true, .g true, .g true, .res (cB v16), .g true] [] [(2, cB v16)] [] (fun t => aI (s_l1In_ok p0.Width 1 10 v1 h2) (aI trivial (aI (rfl : ([] : List Nat) = []) (aI c3 (aI c3 (aI c3 (aI (s_l1In_ok p0.Height 1 10 v4 h5) (aI trivial (aI (rfl : ([] : List Nat) = []) (aI c3 (aI c6 (aI c6 (aI c6 (aI c6 (aI c6 (aI (s_mSize_ok p0 v7 h8) (aI trivial (aI (rfl : ([] : List Nat) = []) (aI c6 (aI c6 (aI c9 (aI c9 (aI c9 (aI (s_l1All_ok p0.Terrain 0 5 v10 h11) (aI trivial (aI (rfl : ([] : List Nat) = []) (aI c9 (aI c12 (aI c12 (aI c12 (aI c12 (aI (s_mEdges_ok p0 p0.Rivers v13 h14) (aI trivial (aI (rfl : ([] : List Nat) = []) (aI c12 (aI c15 (aI c15 (aI c15 (aI c15 (aI (s_mEdges_ok p0 p0.Roads v16 h17) (aI trivial (aI (rfl : ([] : List Nat) = []) (aI c15 (t)))))))))))))))))))))))))))))))))))))))))))) (by kernel_rfl) ?_
            refine ends_ret ?_
            obtain rfl := Option.some.inj H
            exact And.intro (.inl rfl) rfl
          · refine seq_draw [.res (cB v1), .g true, .g true, .g true, .res (cB v4), .g true, .g true, .g true, .g true, .g true, .g true, .res (cI v7), .g true, .g true, .g true, .g true, .g true, .res (cB v10), .g true, .g true, .g true, .g true, .g true, .res (cB v13), .g true, .g false, .g false, .g false, .g false, .g false] [] [(2, cB false)] [] (fun t => aI (s_l1In_ok p0.Width 1 10 v1 h2) (aI trivial (aI (rfl : ([] : List Nat) = []) (aI c3 (aI c3 (aI c3 (aI (s_l1In_ok p0.Height 1 10 v4 h5) (aI trivial (aI (rfl : ([] : List Nat) = []) (aI c3 (aI c6 (aI c6 (aI c6 (aI c6 (aI c6 (aI (s_mSize_ok p0 v7 h8) (aI trivial (aI (rfl : ([] : List Nat) = []) (aI c6 (aI c6 (aI c9 (aI c9 (aI c9 (aI (s_l1All_ok p0.Terrain 0 5 v10 h11) (aI trivial (aI (rfl : ([] : List Nat) = []) (aI c9 (aI c12 (aI c12 (aI c12 (aI c12 (aI (s_mEdges_ok p0 p0.Rivers v13 h14) (aI trivial (aI (rfl : ([] : List Nat) = []) (aI c12 (aI c15 (aI c15 (aI c15 (aI c15 (aI c15 (t))))))))))))))))))))))))))))))))))))))))) (by kernel_rfl) ?_
            refine ends_ret ?_
            obtain rfl := Option.some.inj H
            exact And.intro (.inl rfl) rfl
        · refine seq_draw [.res (cB v1), .g true, .g true, .g true, .res (cB v4), .g true, .g true, .g true, .g true, .g true, .g true, .res (cI v7), .g true, .g true, .g true, .g true, .g true, .res (cB v10), .g true, .g false, .g false, .g false, .g false, .g false, .g false, .g false, .g false, .g false, .g false] [] [(2, cB false)] [] (fun t => aI (s_l1In_ok p0.Width 1 10 v1 h2) (aI trivial (aI (rfl : ([] : List Nat) = []) (aI c3 (aI c3 (aI c3 (aI (s_l1In_ok p0.Height 1 10 v4 h5) (aI trivial (aI (rfl : ([] : List Nat) = []) (aI c3 (aI c6 (aI c6 (aI c6 (aI c6 (aI c6 (aI (s_mSize_ok p0 v7 h8) (aI trivial (aI (rfl : ([] : List Nat) = []) (aI c6 (aI c6 (aI c9 (aI c9 (aI c9 (aI (s_l1All_ok p0.Terrain 0 5 v10 h11) (aI trivial (aI (rfl : ([] : List Nat) = []) (aI c9 (aI c12 (aI c12 (aI c12 (aI c12 (aI c12 (aI (rfl : (false : Bool) = false) (aI (rfl : (false : Bool) = false) (aI (rfl : (false : Bool) = false) (aI (rfl : (false : Bool) = false) (aI (rfl : (false : Bool) = false) (t)))))))))))))))))))))))))))))))))))))) (by kernel_rfl) ?_
          refine ends_ret ?_
          obtain rfl := Option.some.inj H
          exact And.intro (.inl rfl) rfl
      · refine seq_draw [.res (cB v1), .g true, .g true, .g true, .res (cB v4), .g true, .g true, .g true, .g true, .g true, .g true, .res (cI v7), .g true, .g true, .g false, .g false, .g false, .g false, .g false, .g false, .g false, .g false, .g false, .g false, .g false, .g false, .g false, .g false] [] [(2, cB false)] [] (fun t => aI (s_l1In_ok p0.Width 1 10 v1 h2) (aI trivial (aI (rfl : ([] : List Nat) = []) (aI c3 (aI c3 (aI c3 (aI (s_l1In_ok p0.Height 1 10 v4 h5) (aI trivial (aI (rfl : ([] : List Nat) = []) (aI c3 (aI c6 (aI c6 (aI c6 (aI c6 (aI c6 (aI (s_mSize_ok p0 v7 h8) (aI trivial (aI (rfl : ([] : List Nat) = []) (aI c6 (aI c6 (aI c9 (aI c9 (aI c9 (aI c9 (aI (rfl : (false : Bool) = false) (aI (rfl : (false : Bool) = false) (aI (rfl : (false : Bool) = false) (aI (rfl : (false : Bool) = false) (aI (rfl : (false : Bool) = false) (aI (rfl : (false : Bool) = false) (aI (rfl : (false : Bool) = false) (aI (rfl : (false : Bool) = false) (aI (rfl : (false : Bool) = false) (aI (rfl : (false : Bool) = false) (t))))))))))))))))))))))))))))))))))) (by kernel_rfl) ?_
        refine ends_ret ?_
        obtain rfl := Option.some.inj H
        exact And.intro (.inl rfl) rfl
    · refine seq_draw [.res (cB v1), .g true, .g true, .g true, .res (cB v4), .g true, .g false, .g false, .g false, .g false, .g false, .g false, .g false, .g false, .g false, .g false, .g false, .g false, .g false, .g false, .g false, .g false, .g false, .g false, .g false, .g false, .g false] [] [(2, cB false)] [] (fun t => aI (s_l1In_ok p0.Width 1 10 v1 h2) (aI trivial (aI (rfl : ([] : List Nat) = []) (aI c3 (aI c3 (aI c3 (aI (s_l1In_ok p0.Height 1 10 v4 h5) (aI trivial (aI (rfl : ([] : List Nat) = []) (aI c3 (aI c6 (aI c6 (aI c6 (aI c6 (aI c6 (aI c6 (aI c6 (aI (rfl : (false : Bool) = false) (aI (rfl : (false : Bool) = false) (aI (rfl : (false : Bool) = false) (aI (rfl : (false : Bool) = false) (aI (rfl : (false : Bool) = false) (aI (rfl : (false : Bool) = false) (aI (rfl : (false : Bool) = false) (aI (rfl : (false : Bool) = false) (aI (rfl : (false : Bool) = false) (aI (rfl : (false : Bool) = false) (aI (rfl : (false : Bool) = false) (aI (rfl : (false : Bool) = false) (aI (rfl : (false : Bool) = false) (aI (rfl : (false : Bool) = false) (t)))))))))))))))))))))))))))))))) (by kernel_rfl) ?_
      refine ends_ret ?_
      obtain rfl := Option.some.inj H
      exact And.intro (.inl rfl) rfl
  · refine seq_draw [.res (cB v1), .g false, .g false, .g false, .g false, .g false, .g false, .g false, .g false, .g false, .g false, .g false, .g false, .g false, .g false, .g false, .g false, .g false, .g false, .g false, .g false, .g false, .g false, .g false, .g false, .g false] [] [(2, cB false)] [] (fun t => aI (s_l1In_ok p0.Width 1 10 v1 h2) (aI trivial (aI (rfl : ([] : List Nat) = []) (aI c3 (aI c3 (aI c3 (aI c3 (aI (rfl : (false : Bool) = false) (aI (rfl : (false : Bool) = false) (aI (rfl : (false : Bool) = false) (aI (rfl : (false : Bool) = false) (aI (rfl : (false : Bool) = false) (aI (rfl : (false : Bool) = false) (aI (rfl : (false : Bool) = false) (aI (rfl : (false : Bool) = false) (aI (rfl : (false : Bool) = false) (aI (rfl : (false : Bool) = false) (aI (rfl : (false : Bool) = false) (aI (rfl : (false : Bool) = false) (aI (rfl : (false : Bool) = false) (aI (rfl : (false : Bool) = false) (aI (rfl : (false : Bool) = false) (aI (rfl : (false : Bool) = false) (aI (rfl : (false : Bool) = false) (aI (rfl : (false : Bool) = false) (aI (rfl : (false : Bool) = false) (aI (rfl : (false : Bool) = false) (aI (rfl : (false : Bool) = false) (t))))))))))))))))))))))))))))) (by kernel_rfl) ?_
    refine ends_ret ?_
    obtain rfl := Option.some.inj H
    exact And.intro (.inl rfl) rfl

def s_bGood_ir : S :=
 (.seq (.ops [⟨some 1, .box 12 (.t 0), none⟩, ⟨some 2, .mv (.v (.bool false)), none⟩])
 (.seq (.ops [⟨some 3, .fad 0 (.t 1), none⟩, ⟨some 4, .load 7 true (.t 3), none⟩, ⟨some 5, .call 60 [.t 4], none⟩, ⟨some 6, .mv (.t 5), none⟩, ⟨some 7, .fad 7 (.t 1), some (6, true)⟩, ⟨some 8, .load 5 true (.t 7), some (6, true)⟩, ⟨some 9, .call 61 [.t 8], some (6, true)⟩, ⟨some 10, .pick (.t 6) (.t 9) (.v (.bool false)), none⟩, ⟨some 11, .mv (.t 10), none⟩, ⟨some 12, .fad 7 (.t 1), some (11, true)⟩, ⟨some 13, .fad 2 (.t 12), some (11, true)⟩, ⟨some 14, .load 1 false (.t 13), some (11, true)⟩, ⟨some 15, .fad 0 (.t 1), some (11, true)⟩, ⟨some 16, .fad 0 (.t 15), some (11, true)⟩, ⟨some 17, .load 1 false (.t 16), some (11, true)⟩, ⟨some 18, .len (.t 17), some (11, true)⟩, ⟨some 19, .bin .sub (.t 18) (.v (.int .i64 1)), some (11, true)⟩, ⟨some 20, .call 49 [.t 14, .v (.int .i64 0), .t 19], some (11, true)⟩, ⟨some 21, .pick (.t 11) (.t 20) (.v (.bool false)), none⟩, ⟨some 2, .mv (.t 21), none⟩])
 .ret))
noncomputable def X.s_bGood (p0 : TBoard) : Option Bool :=
  ((X.s_rGood p0.Rules).bind fun v1 => (bif v1 then ((X.s_mGood p0.Map).bind fun v4 => (bif v4 then ((X.s_l1All p0.Map.Terrain 0 (W ((p0.Rules.Terrains.length : Int) - 1))).bind fun v7 => some v7) else some false)) else some false))
theorem s_bGood_ok (p0 : TBoard) (r : Bool) (H : X.s_bGood p0 = some r) : FnOk Tryd.prog gl 42 [.agg (eTBoard p0)] (cB r) := by
  unfold X.s_bGood at H
  refine fn_in (fn := Tryd.f42) (ir := s_bGood_ir) (s1 := lit [(2, cB r)] []) glL Tryd.func42 (by kernel_rfl) (by kernel_rfl) (by kernel_rfl) (by kernel_rfl) (by kernel_rfl) ?_
  refine seq_ops [] [] [(1, .c (.pk 1 0))] [(1, .var (eTBoard p0) false)] (fun t => t) (by kernel_rfl) ?_
  obtain ⟨v1, h2, H⟩ := ofBind H
  rcases ofCond H with ⟨c3, H⟩ | ⟨c3, H⟩
  · obtain ⟨v4, h5, H⟩ := ofBind H
    rcases ofCond H with ⟨c6, H⟩ | ⟨c6, H⟩
    · obtain ⟨v7, h8, H⟩ := ofBind H
      refine seq_ops [.res (cB v1), .g true, .g true, .g true, .res (cB v4), .g true, .g true, .g true, .g true, .g true, .g true, .g true, .g true, .g true, .g true, .res (cB v7), .g true] [] [(2, cB v7)] [] (fun t => aI (s_rGood_ok p0.Rules v1 h2) (aI c3 (aI c3 (aI c3 (aI (s_mGood_ok p0.Map v4 h5) (aI c3 (aI c6 (aI c6 (aI c6 (aI c6 (aI c6 (aI c6 (aI c6 (lI p0.Rules.Terrains (aI c6 (aI c6 (aI (s_l1All_ok p0.Map.Terrain 0 (W ((p0.Rules.Terrains.length : Int) - 1)) v7 h8) (aI c6 (t))))))))))))))))))) (by kernel_rfl) ?_
      refine ends_ret ?_
      obtain rfl := Option.some.inj H
      exact And.intro (.inl rfl) rfl
    · refine seq_ops [.res (cB v1), .g true, .g true, .g true, .res (cB v4), .g true, .g false, .g false, .g false, .g false, .g false, .g false, .g false, .g false, .g false, .g false] [] [(2, cB false)] [] (fun t => aI (s_rGood_ok p0.Rules v1 h2) (aI c3 (aI c3 (aI c3 (aI (s_mGood_ok p0.Map v4 h5) (aI c3 (aI c6 (aI c6 (aI c6 (aI c6 (aI c6 (aI c6 (aI c6 (aI c6 (aI c6 (aI c6 (t))))))))))))))))) (by kernel_rfl) ?_
      refine ends_ret ?_
      obtain rfl := Option.some.inj H
      exact And.intro (.inl rfl) rfl
  · refine seq_ops [.res (cB v1), .g false, .g false, .g false, .g false, .g false, .g false, .g false, .g false, .g false, .g false, .g false, .g false, .g false, .g false] [] [(2, cB false)] [] (fun t => aI (s_rGood_ok p0.Rules v1 h2) (aI c3 (aI c3 (aI c3 (aI c3 (aI (rfl : (false : Bool) = false) (aI (rfl : (false : Bool) = false) (aI (rfl : (false : Bool) = false) (aI (rfl : (false : Bool) = false) (aI (rfl : (false : Bool) = false) (aI (rfl : (false : Bool) = false) (aI (rfl : (false : Bool) = false) (aI (rfl : (false : Bool) = false) (aI (rfl : (false : Bool) = false) (aI (rfl : (false : Bool) = false) (t)))))))))))))))) (by kernel_rfl) ?_
    refine ends_ret ?_
    obtain rfl := Option.some.inj H
    exact And.intro (.inl rfl) rfl

def s_fgMemory_ir : S :=
 (.seq (.ops [⟨some 2, .box 12 (.t 0), none⟩, ⟨some 3, .box 2 (.t 1), none⟩, ⟨some 4, .mv (.v (.bool false)), none⟩])
 (.seq (.seq (.draw 36 [⟨some 7, .load 12 true (.t 2), none⟩, ⟨some 8, .call 42 [.t 7], none⟩, ⟨some 9, .not (.t 8), none⟩, ⟨some 10, .mv (.t 9), none⟩, ⟨some 11, .fad 0 (.t 3), some (10, false)⟩, ⟨some 12, .load 1 false (.t 11), some (10, false)⟩, ⟨some 13, .len (.t 12), some (10, false)⟩, ⟨some 14, .fad 7 (.t 2), some (10, false)⟩, ⟨some 15, .load 5 true (.t 14), some (10, false)⟩, ⟨some 16, .call 48 [.t 15], some (10, false)⟩, ⟨some 17, .bin .neq (.t 13) (.t 16), some (10, false)⟩, ⟨some 18, .pick (.t 10) (.v (.bool true)) (.t 17), none⟩, ⟨some 19, .mv (.t 18), none⟩, ⟨some 20, .fad 1 (.t 3), some (19, false)⟩, ⟨some 21, .load 1 false (.t 20), some (19, false)⟩, ⟨some 22, .len (.t 21), some (19, false)⟩, ⟨some 23, .fad 0 (.t 3), some (19, false)⟩, ⟨some 24, .load 1 false (.t 23), some (19, false)⟩, ⟨some 25, .len (.t 24), some (19, false)⟩, ⟨some 26, .bin .neq (.t 22) (.t 25), some (19, false)⟩, ⟨some 27, .pick (.t 19) (.v (.bool true)) (.t 26), none⟩, ⟨some 28, .mv (.t 27), none⟩, ⟨some 29, .fad 0 (.t 3), some (28, false)⟩, ⟨some 30, .load 1 false (.t 29), some (28, false)⟩, ⟨some 31, .fad 0 (.t 2), some (28, false)⟩, ⟨some 32, .fad 6 (.t 31), some (28, false)⟩, ⟨some 33, .load 1 false (.t 32), some (28, false)⟩, ⟨some 34, .call 49 [.t 30, .v (.int .i64 (-1)), .t 33], some (28, false)⟩, ⟨some 35, .not (.t 34), some (28, false)⟩, ⟨some 36, .pick (.t 28) (.v (.bool true)) (.t 35), none⟩, ⟨some 37, .mv (.t 36), none⟩, ⟨some 38, .fad 1 (.t 3), some (37, false)⟩, ⟨some 39, .load 1 false (.t 38), some (37, false)⟩, ⟨some 40, .call 49 [.t 39, .v (.int .i64 0), .v (.int .i64 4)], some (37, false)⟩, ⟨some 41, .not (.t 40), some (37, false)⟩, ⟨some 42, .pick (.t 37) (.v (.bool true)) (.t 41), none⟩])
 (.ite (.t 42) (.seq (.ops [⟨some 4, .mv (.v (.bool false)), none⟩])
  .ret)
 .skip))
 (.seq (.seq (.ops [⟨some 43, .fad 0 (.t 3), none⟩, ⟨some 44, .load 1 false (.t 43), none⟩, ⟨some 45, .len (.t 44), none⟩, ⟨some 46, .mv (.v (.int .i64 0)), none⟩])
 (.blk 0 (.loop (.seq (.ops [⟨some 47, .bin .lss (.t 46) (.t 45), none⟩])
   (.seq (.ite (.t 47) .skip
   (.exit 0))
   (.seq (.blk 1 (.seq (.ops [⟨some 48, .mv (.t 46), none⟩, ⟨some 49, .iad 1 (.t 44) (.t 46), none⟩, ⟨some 50, .load 1 false (.t 49), none⟩, ⟨some 5, .mv (.t 48), none⟩, ⟨some 6, .mv (.t 50), none⟩])
    (.seq (.ops [⟨some 51, .mv (.t 6), none⟩, ⟨some 52, .bin .lss (.t 51) (.v (.int .i64 0)), none⟩, ⟨some 53, .mv (.t 52), none⟩, ⟨some 54, .fad 1 (.t 3), some (53, true)⟩, ⟨some 55, .load 1 false (.t 54), some (53, true)⟩, ⟨some 56, .mv (.t 5), some (53, true)⟩, ⟨some 57, .iad 1 (.t 55) (.t 56), some (53, true)⟩, ⟨some 58, .load 1 false (.t 57), some (53, true)⟩, ⟨some 59, .bin .gtr (.t 58) (.v (.int .i64 0)), some (53, true)⟩, ⟨some 60, .pick (.t 53) (.t 59) (.v (.bool false)), none⟩])
    (.ite (.t 60) (.seq (.ops [⟨some 4, .mv (.v (.bool false)), none⟩])
     .ret)
    .skip))))
   (.ops [⟨some 61, .bin .add (.t 46) (.v (.int .i64 1)), none⟩, ⟨some 46, .mv (.t 61), none⟩])))))))
 (.seq (.ops [⟨some 4, .mv (.v (.bool true)), none⟩])
 .ret))))
noncomputable def X.s_fgMemory (p0 : TBoard) (p1 : TMemory) : Option Bool :=
  ((X.s_bGood p0).bind fun v14 => (bif (!v14) then some false else ((X.s_mSize p0.Map).bind fun v17 => (bif ((p1.Turns.length : Int) != v17) then some false else (bif ((p1.Counts.length : Int) != (p1.Turns.length : Int)) then some false else ((X.s_l1All p1.Turns (-1) p0.Rules.Turns).bind fun v21 => (bif (!v21) then some false else ((X.s_l1All p1.Counts 0 4).bind fun v24 => (bif (!v24) then some false else ((loop (fun (x44 : Int) => ((bif (decide (x44 < (p1.Turns.length : Int))) then ((at' zI p1.Turns x44).bind fun v47 => (bif (decide (v47 < 0)) then ((at' zI p1.Counts x44).bind fun v50 => (bif (decide (v50 > 0)) then some (Sum.inr (Sum.inr false)) else some (Sum.inl (W (x44 + 1))))) else some (Sum.inl (W (x44 + 1))))) else some (Sum.inr (Sum.inl ()))) : Option (Int ⊕ (Unit ⊕ Bool)))) 0).bind fun y53 => (Sum.elim (fun (y55 : Unit) => some true) (fun (y56 : Bool) => some y56) y53)))))))))))
theorem s_fgMemory_ok (p0 : TBoard) (p1 : TMemory) (r : Bool) (H : X.s_fgMemory p0 p1 = some r) : FnOk Tryd.prog gl 27 [.agg (eTBoard p0), .agg (eTMemory p1)] (cB r) := by
  unfold X.s_fgMemory at H
  refine fn_in (fn := Tryd.f27) (ir := s_fgMemory_ir) (s1 := lit [(4, cB r)] []) glL Tryd.func27 (by kernel_rfl) (by kernel_rfl) (by kernel_rfl) (by kernel_rfl) (by kernel_rfl) ?_
  refine seq_ops [] [] [(2, .c (.pk 2 0)), (3, .c (.pk 3 0))] [(2, .var (eTBoard p0) false), (3, .var (eTMemory p1) false)] (fun t => t) (by kernel_rfl) ?_
  refine seq_in ?_
  obtain ⟨v14, h15, H⟩ := ofBind H
  rcases ofCond H with ⟨c16, H⟩ | ⟨c16, H⟩
  · refine seq_draw [.res (cB v14), .g true, .g true, .g true, .g true, .g true, .g true, .g true, .g true, .g true, .g true, .g true, .g true, .g true, .g true, .g true, .g true, .g true, .g true, .g true, .g true, .g true, .g true, .g true, .g true, .g true, .g true, .g true, .g true, .g true] [] [(3, .c (.pk 3 0)), (42, cB true)] [(3, .var (eTMemory p1) false)] (fun t => aI (s_bGood_ok p0 v14 h15) (aI trivial (aI (rfl : ([] : List Nat) = []) (aI c16 (aI c16 (aI c16 (aI c16 (aI c16 (aI c16 (aI c16 (aI c16 (aI (rfl : (true : Bool) = true) (aI (rfl : (true : Bool) = true) (aI (rfl : (true : Bool) = true) (aI (rfl : (true : Bool) = true) (aI (rfl : (true : Bool) = true) (aI (rfl : (true : Bool) = true) (aI (rfl : (true : Bool) = true) (aI (rfl : (true : Bool) = true) (aI (rfl : (true : Bool) = true) (aI (rfl : (true : Bool) = true) (aI (rfl : (true : Bool) = true) (aI (rfl : (true : Bool) = true) (aI (rfl : (true : Bool) = true) (aI (rfl : (true : Bool) = true) (aI (rfl : (true : Bool) = true) (aI (rfl : (true : Bool) = true) (aI (rfl : (true : Bool) = true) (aI (rfl : (true : Bool) = true) (aI (rfl : (true : Bool) = true) (aI (rfl : (true : Bool) = true) (aI (rfl : (true : Bool) = true) (t))))))))))))))))))))))))))))))))) (by kernel_rfl) ?_
    refine ite_t (rfl : (true : Bool) = true) (by kernel_rfl) ?_
    refine seq_ops [] [] [(4, cB false)] [] (fun t => t) (by kernel_rfl) ?_
    refine ends_ret ?_
    obtain rfl := Option.some.inj H
    exact And.intro (.inl rfl) rfl
  · obtain ⟨v17, h18, H⟩ := ofBind H
    rcases ofCond H with ⟨c19, H⟩ | ⟨c19, H⟩
    · refine seq_draw [.res (cB v14), .g false, .g false, .g false, .g false, .g false, .g false, .res (cI v17), .g false, .g false, .g true, .g true, .g true, .g true, .g true, .g true, .g true, .g true, .g true, .g true, .g true, .g true, .g true, .g true, .g true, .g true, .g true, .g true, .g true, .g true, .g true] [] [(3, .c (.pk 3 0)), (42, cB true)] [(3, .var (eTMemory p1) false)] (fun t => aI (s_bGood_ok p0 v14 h15) (aI trivial (aI (rfl : ([] : List Nat) = []) (aI c16 (aI c16 (aI c16 (aI c16 (aI c16 (aI c16 (aI (s_mSize_ok p0.Map v17 h18) (aI trivial (aI (rfl : ([] : List Nat) = []) (aI c16 (aI c16 (aI c19 (aI c19 (aI c19 (aI c19 (aI c19 (aI c19 (aI c19 (aI c19 (aI (rfl : (true : Bool) = true) (aI (rfl : (true : Bool) = true) (aI (rfl : (true : Bool) = true) (aI (rfl : (true : Bool) = true) (aI (rfl : (true : Bool) = true) (aI (rfl : (true : Bool) = true) (aI (rfl : (true : Bool) = true) (aI (rfl : (true : Bool) = true) (aI (rfl : (true : Bool) = true) (aI (rfl : (true : Bool) = true) (aI (rfl : (true : Bool) = true) (aI (rfl : (true : Bool) = true) (aI (rfl : (true : Bool) = true) (t)))))))))))))))))))))))))))))))))))) (by kernel_rfl) ?_
      refine ite_t (rfl : (true : Bool) = true) (by kernel_rfl) ?_
      refine seq_ops [] [] [(4, cB false)] [] (fun t => t) (by kernel_rfl) ?_
      refine ends_ret ?_
      obtain rfl := Option.some.inj H
      exact And.intro (.inl rfl) rfl
    · rcases ofCond H with ⟨c20, H⟩ | ⟨c20, H⟩
      · refine seq_draw [.res (cB v14), .g false, .g false, .g false, .g false, .g false, .g false, .res (cI v17), .g false, .g false, .g false, .g false, .g false, .g false, .g false, .g false, .g false, .g false, .g true, .g true, .g true, .g true, .g true, .g true, .g true, .g true, .g true, .g true, .g true, .g true, .g true] [] [(3, .c (.pk 3 0)), (42, cB true)] [(3, .var (eTMemory p1) false)] (fun t => aI (s_bGood_ok p0 v14 h15) (aI trivial (aI (rfl : ([] : List Nat) = []) (aI c16 (aI c16 (aI c16 (aI c16 (aI c16 (aI c16 (aI (s_mSize_ok p0.Map v17 h18) (aI trivial (aI (rfl : ([] : List Nat) = []) (aI c16 (aI c16 (aI c19 (aI c19 (aI c19 (aI c19 (aI c19 (aI c19 (aI c19 (aI c19 (aI c20 (aI c20 (aI c20 (aI c20 (aI c20 (aI c20 (aI c20 (aI c20 (aI (rfl : (true : Bool) = true) (aI (rfl : (true : Bool) = true) (aI (rfl : (true : Bool) = true) (aI (rfl : (true : Bool) = true) (aI (rfl : (true : Bool) = true) (t)))))))))))))))))))))))))))))))))))) (by kernel_rfl) ?_
        refine ite_t (rfl : (true : Bool) = true) (by kernel_rfl) ?_
        refine seq_ops [] [] [(4, cB false)] [] (fun t => t) (by kernel_rfl) ?_
        refine ends_ret ?_
        obtain rfl := Option.some.inj H
        exact And.intro (.inl rfl) rfl
      · obtain ⟨v21, h22, H⟩ := ofBind H
        rcases ofCond H with ⟨c23, H⟩ | ⟨c23, H⟩
        · refine seq_draw [.res (cB v14), .g false, .g false, .g false, .g false, .g false, .g false, .res (cI v17), .g false, .g false, .g false, .g false, .g false, .g false, .g false, .g false, .g false, .g false, .g false, .g false, .g false, .g false, .g false, .g false, .res (cB v21), .g false, .g false, .g true, .g true, .g true, .g true, .g true] [] [(3, .c (.pk 3 0)), (42, cB true)] [(3, .var (eTMemory p1) false)] (fun t => aI (s_bGood_ok p0 v14 h15) (aI trivial (aI (rfl : ([] : List Nat) = []) (aI c16 (aI c16 (aI c16 (aI c16 (aI c16 (aI c16 (aI (s_mSize_ok p0.Map v17 h18) (aI trivial (aI (rfl : ([] : List Nat) = []) (aI c16 (aI c16 (aI c19 (aI c19 (aI c19 (aI c19 (aI c19 (aI c19 (aI c19 (aI c19 (aI c20 (aI c20 (aI c20 (aI c20 (aI c20 (aI c20 (aI (s_l1All_ok p1.Turns (-1) p0.Rules.Turns v21 h22) (aI trivial (aI (rfl : ([] : List Nat) = []) (aI c20 (aI c20 (aI c23 (aI c23 (aI c23 (aI c23 (aI c23 (t))))))))))))))))))))))))))))))))))))))) (by kernel_rfl) ?_
          refine ite_t (rfl : (true : Bool) = true) (by kernel_rfl) ?_
          refine seq_ops [] [] [(4, cB false)] [] (fun t => t) (by kernel_rfl) ?_
          refine ends_ret ?_
          obtain rfl := Option.some.inj H
          exact And.intro (.inl rfl) rfl
        · obtain ⟨v24, h25, H⟩ := ofBind H
          refine seq_draw [.res (cB v14), .g false, .g false, .g false, .g false, .g false, .g false, .res (cI v17), .g false, .g false, .g false, .g false, .g false, .g false, .g false, .g false, .g false, .g false, .g false, .g false, .g false, .g false, .g false, .g false, .res (cB v21), .g false, .g false, .g false, .g false, .g false, .res (cB v24), .g false, .g false] [] [(3, .c (.pk 3 0)), (42, cB (!v24))] [(3, .var (eTMemory p1) false)] (fun t => aI (s_bGood_ok p0 v14 h15) (aI trivial (aI (rfl : ([] : List Nat) = []) (aI c16 (aI c16 (aI c16 (aI c16 (aI c16 (aI c16 (aI (s_mSize_ok p0.Map v17 h18) (aI trivial (aI (rfl : ([] : List Nat) = []) (aI c16 (aI c16 (aI c19 (aI c19 (aI c19 (aI c19 (aI c19 (aI c19 (aI c19 (aI c19 (aI c20 (aI c20 (aI c20 (aI c20 (aI c20 (aI c20 (aI (s_l1All_ok p1.Turns (-1) p0.Rules.Turns v21 h22) (aI trivial (aI (rfl : ([] : List Nat) = []) (aI c20 (aI c20 (aI c23 (aI c23 (aI c23 (aI (s_l1All_ok p1.Counts 0 4 v24 h25) (aI trivial (aI (rfl : ([] : List Nat) = []) (aI c23 (aI c23 (t)))))))))))))))))))))))))))))))))))))))))) (by kernel_rfl) ?_
          rcases ofCond H with ⟨c26, H⟩ | ⟨c26, H⟩
          · refine ite_t c26 (by kernel_rfl) ?_
            refine seq_ops [] [] [(4, cB false)] [] (fun t => t) (by kernel_rfl) ?_
            refine ends_ret ?_
            obtain rfl := Option.some.inj H
            exact And.intro (.inl rfl) rfl
          · refine ite_f c26 (by kernel_rfl) ?_
            refine ends_skip ?_
            change EndsI _ _ _ _ _ _
            refine seq_in ?_
            refine seq_ops [] [] [(3, .c (.pk 3 0)), (44, .c (dat 1 eI zI p1.Turns)), (45, cI (p1.Turns.length : Int)), (46, cI 0)] [(3, .var (eTMemory p1) false)] (fun t => lI p1.Turns (t)) (by kernel_rfl) ?_
            refine ends_blk ?_
            obtain ⟨y53, h54, H⟩ := ofBind H
            refine loop_in (fun (x : Int) => lit [(3, .c (.pk 3 0)), (44, .c (dat 1 eI zI p1.Turns)), (45, cI (p1.Turns.length : Int)), (46, cI x)] [(3, .var (eTMemory p1) false)]) (orJ (fun (z : Unit) => At (.exit 0) (lit [] [])) (fun (z : Bool) => At .ret (lit [(4, cB z)] []))) h54 ?_ ?_
            · clear H h54
              intro x44 y0 H
              refine seq_ops [] [] [(3, .c (.pk 3 0)), (44, .c (dat 1 eI zI p1.Turns)), (45, cI (p1.Turns.length : Int)), (46, cI x44), (47, cB (decide (x44 < (p1.Turns.length : Int))))] [(3, .var (eTMemory p1) false)] (fun t => t) (by kernel_rfl) ?_
              refine seq_in ?_
              rcases ofCond H with ⟨c46, H⟩ | ⟨c46, H⟩
              · refine ite_t c46 (by kernel_rfl) ?_
                refine ends_skip ?_
                change EndsI _ _ _ _ _ _
                refine seq_in ?_
                refine ends_blk ?_
                obtain ⟨v47, h48, H⟩ := ofBind H
                refine seq_ops [.cs (eI v47)] [] [(3, .c (.pk 3 0)), (5, cI x44), (6, cI v47), (44, .c (dat 1 eI zI p1.Turns)), (45, cI (p1.Turns.length : Int)), (46, cI x44)] [(3, .var (eTMemory p1) false)] (fun t => aI (at_lt h48) (aI (at_enc (enc := eI) h48) (t))) (by kernel_rfl) ?_
                rcases ofCond H with ⟨c49, H⟩ | ⟨c49, H⟩
                · obtain ⟨v50, h51, H⟩ := ofBind H
                  refine seq_ops [.g true, .g true, .g true, .g true, .cs (eI v50), .g true, .g true, .g true] [] [(3, .c (.pk 3 0)), (44, .c (dat 1 eI zI p1.Turns)), (45, cI (p1.Turns.length : Int)), (46, cI x44), (60, cB (decide (v50 > 0)))] [(3, .var (eTMemory p1) false)] (fun t => aI c49 (aI c49 (aI c49 (aI c49 (aI (at_lt h51) (aI (at_enc (enc := eI) h51) (aI c49 (aI c49 (aI c49 (t)))))))))) (by kernel_rfl) ?_
                  rcases ofCond H with ⟨c52, H⟩ | ⟨c52, H⟩
                  · refine ite_t c52 (by kernel_rfl) ?_
                    refine seq_ops [] [] [(4, cB false)] [] (fun t => t) (by kernel_rfl) ?_
                    refine ends_ret ?_
                    obtain rfl := Option.some.inj H
                    exact And.intro (by simp) (And.intro rfl rfl)
                  · refine ite_f c52 (by kernel_rfl) ?_
                    refine ends_skip ?_
                    change EndsI _ _ _ _ _ _
                    refine one_ops [] [] [(3, .c (.pk 3 0)), (44, .c (dat 1 eI zI p1.Turns)), (45, cI (p1.Turns.length : Int)), (46, cI (W (x44 + 1)))] [(3, .var (eTMemory p1) false)] (fun t => t) (by kernel_rfl) ?_
                    obtain rfl := Option.some.inj H
                    exact And.intro rfl rfl
                · refine seq_ops [.g false, .g false, .g false, .g false, .g false, .g false, .g false] [] [(3, .c (.pk 3 0)), (44, .c (dat 1 eI zI p1.Turns)), (45, cI (p1.Turns.length : Int)), (46, cI x44), (60, cB false)] [(3, .var (eTMemory p1) false)] (fun t => aI c49 (aI c49 (aI c49 (aI c49 (aI c49 (aI c49 (aI c49 (t)))))))) (by kernel_rfl) ?_
                  refine ite_f (rfl : (false : Bool) = false) (by kernel_rfl) ?_
                  refine ends_skip ?_
                  change EndsI _ _ _ _ _ _
                  refine one_ops [] [] [(3, .c (.pk 3 0)), (44, .c (dat 1 eI zI p1.Turns)), (45, cI (p1.Turns.length : Int)), (46, cI (W (x44 + 1)))] [(3, .var (eTMemory p1) false)] (fun t => t) (by kernel_rfl) ?_
                  obtain rfl := Option.some.inj H
                  exact And.intro rfl rfl
              · refine ite_f c46 (by kernel_rfl) ?_
                refine tell [] [] [] (fun t => t) (by kernel_rfl) ?_
                refine ends_exit ?_
                obtain rfl := Option.some.inj H
                exact And.intro (by simp) (And.intro rfl rfl)
            · clear h54
              cases y53 with
              | inl y55 =>
                replace H := ofInl H
                intro e s q
                obtain ⟨rfl, rfl⟩ := q
                change EndsI _ _ _ _ _ _
                refine seq_ops [] [] [(4, cB true)] [] (fun t => t) (by kernel_rfl) ?_
                refine ends_ret ?_
                obtain rfl := Option.some.inj H
                exact And.intro (.inl rfl) rfl
              | inr y56 =>
                replace H := ofInr H
                intro e s q
                obtain ⟨rfl, rfl⟩ := q
                obtain rfl := Option.some.inj H
                exact And.intro (.inl rfl) rfl

def s_SuspectedHexes_ir : S :=
 (.seq (.ops [⟨some 2, .box 12 (.t 0), none⟩, ⟨some 3, .box 2 (.t 1), none⟩, ⟨some 4, .mv (.v (.nil)), none⟩, ⟨some 5, .mv (.v (.bool false)), none⟩])
 (.seq (.seq (.ops [⟨some 9, .load 12 true (.t 2), none⟩, ⟨some 10, .load 2 true (.t 3), none⟩, ⟨some 11, .call 27 [.t 9, .t 10], none⟩, ⟨some 12, .not (.t 11), none⟩])
 (.ite (.t 12) (.seq (.ops [⟨some 4, .mv (.v (.nil)), none⟩, ⟨some 5, .mv (.v (.bool false)), none⟩])
  .ret)
 .skip))
 (.seq (.ops [⟨some 6, .mv (.v (.nil)), none⟩])
 (.seq (.seq (.ops [⟨some 13, .fad 1 (.t 3), none⟩, ⟨some 14, .load 1 false (.t 13), none⟩, ⟨some 15, .len (.t 14), none⟩, ⟨some 16, .mv (.v (.int .i64 0)), none⟩])
 (.blk 0 (.loop (.seq (.ops [⟨some 17, .bin .lss (.t 16) (.t 15), none⟩])
   (.seq (.ite (.t 17) .skip
   (.exit 0))
   (.seq (.blk 1 (.seq (.ops [⟨some 18, .mv (.t 16), none⟩, ⟨some 19, .iad 1 (.t 14) (.t 16), none⟩, ⟨some 20, .load 1 false (.t 19), none⟩, ⟨some 7, .mv (.t 18), none⟩, ⟨some 8, .mv (.t 20), none⟩])
    (.seq (.ops [⟨some 21, .mv (.t 8), none⟩, ⟨some 22, .bin .gtr (.t 21) (.v (.int .i64 0)), none⟩])
    (.ite (.t 22) (.ops [⟨some 23, .mv (.t 6), none⟩, ⟨some 24, .mv (.t 7), none⟩, ⟨some 25, .bsl 1 [.t 24], none⟩, ⟨some 26, .app 1 8 (.t 23) (.t 25), none⟩, ⟨some 6, .mv (.t 26), none⟩])
    .skip))))
   (.ops [⟨some 27, .bin .add (.t 16) (.v (.int .i64 1)), none⟩, ⟨some 16, .mv (.t 27), none⟩])))))))
 (.seq (.ops [⟨some 28, .mv (.t 6), none⟩, ⟨some 4, .mv (.t 28), none⟩, ⟨some 5, .mv (.v (.bool true)), none⟩])
 .ret)))))
noncomputable def X.s_SuspectedHexes (p0 : TBoard) (p1 : TMemory) : Option ((List Int) × Bool) :=
  ((X.s_fgMemory p0 p1).bind fun v4 => (bif (!v4) then some (([] : List Int), false) else ((loop (fun (x20 : (Int × (List Int))) => ((bif (decide (x20.1 < (p1.Counts.length : Int))) then ((at' zI p1.Counts x20.1).bind fun v23 => (bif (decide (v23 > 0)) then (if (x20.2 ++ ([x20.1] : List Int)).length ≤ LIM then some (Sum.inl ((W (x20.1 + 1)), (x20.2 ++ ([x20.1] : List Int)))) else none) else some (Sum.inl ((W (x20.1 + 1)), x20.2)))) else some (Sum.inr x20.2)) : Option ((Int × (List Int)) ⊕ (List Int)))) (0, ([] : List Int))).bind fun y27 => some (y27, true))))
theorem s_SuspectedHexes_ok (p0 : TBoard) (p1 : TMemory) (r : ((List Int) × Bool)) (H : X.s_SuspectedHexes p0 p1 = some r) : FnOk Tryd.prog gl 19 [.agg (eTBoard p0), .agg (eTMemory p1)] (.tup [(false, [dat 1 eI zI r.1]), (false, [.bool r.2])]) := by
  unfold X.s_SuspectedHexes at H
  refine fn_in (fn := Tryd.f19) (ir := s_SuspectedHexes_ir) (s1 := lit [(4, .c (dat 1 eI zI r.1)), (5, cB r.2)] []) glL Tryd.func19 (by kernel_rfl) (by kernel_rfl) (by kernel_rfl) (by kernel_rfl) (by kernel_rfl) ?_
  refine seq_ops [] [] [(2, .c (.pk 2 0)), (3, .c (.pk 3 0))] [(2, .var (eTBoard p0) false), (3, .var (eTMemory p1) false)] (fun t => t) (by kernel_rfl) ?_
  refine seq_in ?_
  obtain ⟨v4, h5, H⟩ := ofBind H
  refine seq_ops [.res (cB v4)] [] [(3, .c (.pk 3 0)), (12, cB (!v4))] [(3, .var (eTMemory p1) false)] (fun t => aI (s_fgMemory_ok p0 p1 v4 h5) (t)) (by kernel_rfl) ?_
  rcases ofCond H with ⟨c6, H⟩ | ⟨c6, H⟩
  · refine ite_t c6 (by kernel_rfl) ?_
    refine seq_ops [] [] [(4, .c (.nil)), (5, cB false)] [] (fun t => t) (by kernel_rfl) ?_
    refine tell [.nld 4 1 (fF eI zI ([] : List Int))] [(4, .c (dat 1 eI zI ([] : List Int))), (5, cB false)] [] (fun t => t) (by kernel_rfl) ?_
    refine ends_ret ?_
    obtain rfl := Option.some.inj H
    exact And.intro (.inl rfl) rfl
  · refine ite_f c6 (by kernel_rfl) ?_
    refine ends_skip ?_
    change EndsI _ _ _ _ _ _
    refine seq_ops [] [] [(3, .c (.pk 3 0)), (6, .c (.nil))] [(3, .var (eTMemory p1) false)] (fun t => t) (by kernel_rfl) ?_
    refine seq_in ?_
    refine seq_ops [] [] [(6, .c (.nil)), (14, .c (dat 1 eI zI p1.Counts)), (15, cI (p1.Counts.length : Int)), (16, cI 0)] [] (fun t => lI p1.Counts (t)) (by kernel_rfl) ?_
    refine ends_blk ?_
    obtain ⟨y27, h28, H⟩ := ofBind H
    refine tell [.nlo 6 1001 1 (fF eI zI ([] : List Int))] [(6, .c (.own 1001 1 0 (([] : List Int).length))), (14, .c (dat 1 eI zI p1.Counts)), (15, cI (p1.Counts.length : Int)), (16, cI 0)] [(1001, .arr 1 (([] : List Int).length) (fF eI zI ([] : List Int)) false)] (fun t => aI (by decide : 0 < 1) (t)) (by kernel_rfl) ?_
    refine loop_in (fun (x : (Int × (List Int))) => lit [(6, .c (.own 1001 1 0 x.2.length)), (14, .c (dat 1 eI zI p1.Counts)), (15, cI (p1.Counts.length : Int)), (16, cI x.1)] [(1001, .arr 1 x.2.length (fF eI zI x.2) false)]) (fun (z : (List Int)) => At (.exit 0) (lit [(6, .c (.own 1001 1 0 z.length))] [(1001, .arr 1 z.length (fF eI zI z) false)])) h28 ?_ ?_
    · clear H h28
      intro x20 y0 H
      refine seq_ops [] [] [(6, .c (.own 1001 1 0 x20.2.length)), (14, .c (dat 1 eI zI p1.Counts)), (15, cI (p1.Counts.length : Int)), (16, cI x20.1), (17, cB (decide (x20.1 < (p1.Counts.length : Int))))] [(1001, .arr 1 x20.2.length (fF eI zI x20.2) false)] (fun t => t) (by kernel_rfl) ?_
      refine seq_in ?_
      rcases ofCond H with ⟨c22, H⟩ | ⟨c22, H⟩
      · refine ite_t c22 (by kernel_rfl) ?_
        refine ends_skip ?_
        change EndsI _ _ _ _ _ _
        refine seq_in ?_
        refine ends_blk ?_
        obtain ⟨v23, h24, H⟩ := ofBind H
        refine seq_ops [.cs (eI v23)] [] [(6, .c (.own 1001 1 0 x20.2.length)), (7, cI x20.1), (8, cI v23), (14, .c (dat 1 eI zI p1.Counts)), (15, cI (p1.Counts.length : Int)), (16, cI x20.1)] [(1001, .arr 1 x20.2.length (fF eI zI x20.2) false)] (fun t => aI (at_lt h24) (aI (at_enc (enc := eI) h24) (t))) (by kernel_rfl) ?_
        refine seq_ops [] [] [(6, .c (.own 1001 1 0 x20.2.length)), (7, cI x20.1), (14, .c (dat 1 eI zI p1.Counts)), (15, cI (p1.Counts.length : Int)), (16, cI x20.1), (22, cB (decide (v23 > 0)))] [(1001, .arr 1 x20.2.length (fF eI zI x20.2) false)] (fun t => t) (by kernel_rfl) ?_
        rcases ofCond H with ⟨c25, H⟩ | ⟨c25, H⟩
        · refine ite_t c25 (by kernel_rfl) ?_
          obtain ⟨g26, H⟩ := ofIf H
          refine one_ops [.fn ([x20.1] : List Int).length (fF eI zI ([x20.1] : List Int)), .fn (x20.2 ++ ([x20.1] : List Int)).length (fF eI zI (x20.2 ++ ([x20.1] : List Int)))] [] [(6, .c (.own 26 1 0 ((x20.2 ++ ([x20.1] : List Int)).length))), (14, .c (dat 1 eI zI p1.Counts)), (15, cI (p1.Counts.length : Int)), (16, cI x20.1)] [(26, .arr 1 ((x20.2 ++ ([x20.1] : List Int)).length) (fF eI zI (x20.2 ++ ([x20.1] : List Int))) false)] (fun t => aI (rfl : ([x20.1] : List Int).length = 1) (aI (fF_lit eI zI ([x20.1] : List Int)) (aI (And.intro (Nat.le_refl x20.2.length) (And.intro (@List.length_append _ x20.2 ([x20.1] : List Int)) g26)) (aI (fF_appL eI zI x20.2 ([x20.1] : List Int)) (aI (fF_appR eI zI x20.2 ([x20.1] : List Int)) (t)))))) (by kernel_rfl) ?_
          change EndsI _ _ _ _ _ _
          refine one_ops [] [.ren 26 1001] [(6, .c (.own 1001 1 0 ((x20.2 ++ ([x20.1] : List Int)).length))), (14, .c (dat 1 eI zI p1.Counts)), (15, cI (p1.Counts.length : Int)), (16, cI (W (x20.1 + 1)))] [(1001, .arr 1 ((x20.2 ++ ([x20.1] : List Int)).length) (fF eI zI (x20.2 ++ ([x20.1] : List Int))) false)] (fun t => t) (by kernel_rfl) ?_
          obtain rfl := Option.some.inj H
          exact And.intro rfl rfl
        · refine ite_f c25 (by kernel_rfl) ?_
          refine ends_skip ?_
          change EndsI _ _ _ _ _ _
          refine one_ops [] [] [(6, .c (.own 1001 1 0 x20.2.length)), (14, .c (dat 1 eI zI p1.Counts)), (15, cI (p1.Counts.length : Int)), (16, cI (W (x20.1 + 1)))] [(1001, .arr 1 x20.2.length (fF eI zI x20.2) false)] (fun t => t) (by kernel_rfl) ?_
          obtain rfl := Option.some.inj H
          exact And.intro rfl rfl
      · refine ite_f c22 (by kernel_rfl) ?_
        refine tell [] [(6, .c (.own 1001 1 0 x20.2.length))] [(1001, .arr 1 x20.2.length (fF eI zI x20.2) false)] (fun t => t) (by kernel_rfl) ?_
        refine ends_exit ?_
        obtain rfl := Option.some.inj H
        exact And.intro (by simp) (And.intro rfl rfl)
    · clear h28
      intro e s q
      obtain ⟨rfl, rfl⟩ := q
      change EndsI _ _ _ _ _ _
      refine seq_ops [] [] [(4, .c (.own 1001 1 0 y27.length)), (5, cB true)] [(1001, .arr 1 y27.length (fF eI zI y27) false)] (fun t => t) (by kernel_rfl) ?_
      refine tell [.frz 4] [(4, .c (dat 1 eI zI y27)), (5, cB true)] [] (fun t => aI (Nat.le_refl y27.length) (t)) (by kernel_rfl) ?_
      refine ends_ret ?_
      obtain rfl := Option.some.inj H
      exact And.intro (.inl rfl) rfl

def i_inRange_ir : S :=
 (.seq (.ops [⟨some 6, .mv (.v (.bool false)), none⟩])
 (.seq (.ops [⟨some 7, .mv (.t 1), none⟩, ⟨some 8, .mv (.t 0), none⟩, ⟨some 9, .bin .leq (.t 7) (.t 8), none⟩, ⟨some 10, .mv (.t 9), none⟩, ⟨some 11, .mv (.t 0), some (10, true)⟩, ⟨some 12, .mv (.t 2), some (10, true)⟩, ⟨some 13, .bin .leq (.t 11) (.t 12), some (10, true)⟩, ⟨some 14, .pick (.t 10) (.t 13) (.v (.bool false)), none⟩, ⟨some 6, .mv (.t 14), none⟩])
 .ret))
noncomputable def X.i_inRange (p0 : Int) (p1 : Int) (p2 : Int) : Option Bool :=
  (bif (decide (p1 ≤ p0)) then some (decide (p0 ≤ p2)) else some false)
theorem i_inRange_ok (p0 : Int) (p1 : Int) (p2 : Int) (r : Bool) (H : X.i_inRange p0 p1 p2 = some r) : FnOk Tryd.prog gl 34 [cI p0, cI p1, cI p2] (cB r) := by
  unfold X.i_inRange at H
  refine fn_in (fn := Tryd.f34) (ir := i_inRange_ir) (s1 := lit [(6, cB r)] []) glL Tryd.func34 (by kernel_rfl) (by kernel_rfl) (by kernel_rfl) (by kernel_rfl) (by kernel_rfl) ?_
  refine seq_ops [] [] [(0, cI p0), (1, cI p1), (2, cI p2)] [] (fun t => t) (by kernel_rfl) ?_
  rcases ofCond H with ⟨c1, H⟩ | ⟨c1, H⟩
  · refine seq_ops [.g true, .g true, .g true, .g true] [] [(6, cB (decide (p0 ≤ p2)))] [] (fun t => aI c1 (aI c1 (aI c1 (aI c1 (t))))) (by kernel_rfl) ?_
    refine ends_ret ?_
    obtain rfl := Option.some.inj H
    exact And.intro (.inl rfl) rfl
  · refine seq_ops [.g false, .g false, .g false, .g false] [] [(6, cB false)] [] (fun t => aI c1 (aI c1 (aI c1 (aI c1 (t))))) (by kernel_rfl) ?_
    refine ends_ret ?_
    obtain rfl := Option.some.inj H
    exact And.intro (.inl rfl) rfl

def g_IndexFunc_int_ir : S :=
 (.seq (.ops [⟨some 4, .mv (.v (.int .i64 0)), none⟩])
 (.seq (.seq (.ops [⟨some 6, .mv (.t 0), none⟩, ⟨some 7, .len (.t 6), none⟩, ⟨some 8, .mv (.v (.int .i64 0)), none⟩])
 (.blk 0 (.loop (.seq (.ops [⟨some 9, .bin .lss (.t 8) (.t 7), none⟩])
   (.seq (.ite (.t 9) .skip
   (.exit 0))
   (.seq (.blk 1 (.seq (.ops [⟨some 10, .mv (.t 8), none⟩, ⟨some 5, .mv (.t 10), none⟩])
    (.seq (.ops [⟨some 11, .mv (.t 1), none⟩, ⟨some 12, .mv (.t 0), none⟩, ⟨some 13, .mv (.t 5), none⟩, ⟨some 14, .iad 1 (.t 12) (.t 13), none⟩, ⟨some 15, .load 1 false (.t 14), none⟩, ⟨some 16, .cald (.t 11) [.t 15], none⟩])
    (.ite (.t 16) (.seq (.ops [⟨some 17, .mv (.t 5), none⟩, ⟨some 4, .mv (.t 17), none⟩])
     .ret)
    .skip))))
   (.ops [⟨some 18, .bin .add (.t 8) (.v (.int .i64 1)), none⟩, ⟨some 8, .mv (.t 18), none⟩])))))))
 (.seq (.ops [⟨some 4, .mv (.v (.int .i64 (-1))), none⟩])
 .ret)))
noncomputable def X.g_IndexFunc_int (p0 : (List Int)) (f1 : Int → Option Bool) : Option Int :=
  ((loop (fun (x16 : Int) => ((bif (decide (x16 < (p0.length : Int))) then ((at' zI p0 x16).bind fun v19 => ((f1 v19).bind fun v21 => (bif v21 then some (Sum.inr (Sum.inr x16)) else some (Sum.inl (W (x16 + 1)))))) else some (Sum.inr (Sum.inl ()))) : Option (Int ⊕ (Unit ⊕ Int)))) 0).bind fun y24 => (Sum.elim (fun (y26 : Unit) => some (-1)) (fun (y27 : Int) => some y27) y24))
theorem g_IndexFunc_int_c0_ok (p0 : (List Int)) (cf1 : FuncId) (f1 : Int → Option Bool) (hf1 : ∀ q0 r, f1 q0 = some r → FnOk Tryd.prog gl cf1 [cI q0] (cB r)) (r : Int) (H : X.g_IndexFunc_int p0 f1 = some r) : FnOk Tryd.prog gl 74 [.c (dat 1 eI zI p0), .c (.clo cf1 [])] (cI r) := by
  unfold X.g_IndexFunc_int at H
  refine fn_in (fn := Tryd.f74) (ir := g_IndexFunc_int_ir) (s1 := lit [(4, cI r)] []) glL Tryd.func74 (by kernel_rfl) (by kernel_rfl) (by kernel_rfl) (by kernel_rfl) (by kernel_rfl) ?_
  refine seq_ops [] [] [(0, .c (dat 1 eI zI p0)), (1, .c (.clo cf1 []))] [] (fun t => t) (by kernel_rfl) ?_
  refine seq_in ?_
  refine seq_ops [] [] [(0, .c (dat 1 eI zI p0)), (1, .c (.clo cf1 [])), (7, cI (p0.length : Int)), (8, cI 0)] [] (fun t => lI p0 (t)) (by kernel_rfl) ?_
  refine ends_blk ?_
  obtain ⟨y24, h25, H⟩ := ofBind H
  refine loop_in (fun (x : Int) => lit [(0, .c (dat 1 eI zI p0)), (1, .c (.clo cf1 [])), (7, cI (p0.length : Int)), (8, cI x)] []) (orJ (fun (z : Unit) => At (.exit 0) (lit [] [])) (fun (z : Int) => At .ret (lit [(4, cI z)] []))) h25 ?_ ?_
  · clear H h25
    intro x16 y0 H
    refine seq_ops [] [] [(0, .c (dat 1 eI zI p0)), (1, .c (.clo cf1 [])), (7, cI (p0.length : Int)), (8, cI x16), (9, cB (decide (x16 < (p0.length : Int))))] [] (fun t => t) (by kernel_rfl) ?_
    refine seq_in ?_
    rcases ofCond H with ⟨c18, H⟩ | ⟨c18, H⟩
    · refine ite_t c18 (by kernel_rfl) ?_
      refine ends_skip ?_
      change EndsI _ _ _ _ _ _
      refine seq_in ?_
      refine ends_blk ?_
      refine seq_ops [] [] [(0, .c (dat 1 eI zI p0)), (1, .c (.clo cf1 [])), (5, cI x16), (7, cI (p0.length : Int)), (8, cI x16)] [] (fun t => t) (by kernel_rfl) ?_
      obtain ⟨v19, h20, H⟩ := ofBind H
      obtain ⟨v21, h22, H⟩ := ofBind H
      refine seq_ops [.cs (eI v19), .res (cB v21)] [] [(0, .c (dat 1 eI zI p0)), (1, .c (.clo cf1 [])), (5, cI x16), (7, cI (p0.length : Int)), (8, cI x16), (16, cB v21)] [] (fun t => aI (at_lt h20) (aI (at_enc (enc := eI) h20) (aI (hf1 v19 v21 h22) (t)))) (by kernel_rfl) ?_
      rcases ofCond H with ⟨c23, H⟩ | ⟨c23, H⟩
      · refine ite_t c23 (by kernel_rfl) ?_
        refine seq_ops [] [] [(4, cI x16)] [] (fun t => t) (by kernel_rfl) ?_
        refine ends_ret ?_
        obtain rfl := Option.some.inj H
        exact And.intro (by simp) (And.intro rfl rfl)
      · refine ite_f c23 (by kernel_rfl) ?_
        refine ends_skip ?_
        change EndsI _ _ _ _ _ _
        refine one_ops [] [] [(0, .c (dat 1 eI zI p0)), (1, .c (.clo cf1 [])), (7, cI (p0.length : Int)), (8, cI (W (x16 + 1)))] [] (fun t => t) (by kernel_rfl) ?_
        obtain rfl := Option.some.inj H
        exact And.intro rfl rfl
    · refine ite_f c18 (by kernel_rfl) ?_
      refine tell [] [] [] (fun t => t) (by kernel_rfl) ?_
      refine ends_exit ?_
      obtain rfl := Option.some.inj H
      exact And.intro (by simp) (And.intro rfl rfl)
  · clear h25
    cases y24 with
    | inl y26 =>
      replace H := ofInl H
      intro e s q
      obtain ⟨rfl, rfl⟩ := q
      change EndsI _ _ _ _ _ _
      refine seq_ops [] [] [(4, cI (-1))] [] (fun t => t) (by kernel_rfl) ?_
      refine ends_ret ?_
      obtain rfl := Option.some.inj H
      exact And.intro (.inl rfl) rfl
    | inr y27 =>
      replace H := ofInr H
      intro e s q
      obtain ⟨rfl, rfl⟩ := q
      obtain rfl := Option.some.inj H
      exact And.intro (.inl rfl) rfl

def g_ContainsFunc_int_ir : S :=
 (.seq (.ops [⟨some 4, .mv (.v (.bool false)), none⟩])
 (.seq (.ops [⟨some 5, .mv (.t 0), none⟩, ⟨some 6, .mv (.t 1), none⟩, ⟨some 7, .call 74 [.t 5, .t 6], none⟩, ⟨some 8, .bin .geq (.t 7) (.v (.int .i64 0)), none⟩, ⟨some 4, .mv (.t 8), none⟩])
 .ret))
noncomputable def X.g_ContainsFunc_int (p0 : (List Int)) (f1 : Int → Option Bool) : Option Bool :=
  ((X.g_IndexFunc_int p0 f1).bind fun v1 => some (decide (v1 ≥ 0)))
theorem g_ContainsFunc_int_c0_ok (p0 : (List Int)) (cf1 : FuncId) (f1 : Int → Option Bool) (hf1 : ∀ q0 r, f1 q0 = some r → FnOk Tryd.prog gl cf1 [cI q0] (cB r)) (r : Bool) (H : X.g_ContainsFunc_int p0 f1 = some r) : FnOk Tryd.prog gl 54 [.c (dat 1 eI zI p0), .c (.clo cf1 [])] (cB r) := by
  unfold X.g_ContainsFunc_int at H
  refine fn_in (fn := Tryd.f54) (ir := g_ContainsFunc_int_ir) (s1 := lit [(4, cB r)] []) glL Tryd.func54 (by kernel_rfl) (by kernel_rfl) (by kernel_rfl) (by kernel_rfl) (by kernel_rfl) ?_
  refine seq_ops [] [] [(0, .c (dat 1 eI zI p0)), (1, .c (.clo cf1 []))] [] (fun t => t) (by kernel_rfl) ?_
  obtain ⟨v1, h2, H⟩ := ofBind H
  refine seq_ops [.res (cI v1)] [] [(4, cB (decide (v1 ≥ 0)))] [] (fun t => aI (g_IndexFunc_int_c0_ok p0 (cf1) f1 hf1 v1 h2) (t)) (by kernel_rfl) ?_
  refine ends_ret ?_
  obtain rfl := Option.some.inj H
  exact And.intro (.inl rfl) rfl

def i_isName_ir : S :=
 (.seq (.ops [⟨some 2, .mv (.v (.bool false)), none⟩])
 (.seq (.seq (.ops [⟨some 3, .mv (.v (.int .i64 0)), none⟩])
 (.blk 0 (.loop (.seq (.seq (.ops [⟨some 4, .mv (.t 3), none⟩, ⟨some 5, .mv (.t 0), none⟩, ⟨some 6, .lens (.t 5), none⟩, ⟨some 7, .bin .lss (.t 4) (.t 6), none⟩])
   (.ite (.t 7) .skip
   (.exit 0)))
   (.seq (.blk 1 (.seq (.ops [⟨some 10, .mv (.t 0), none⟩, ⟨some 11, .mv (.t 3), none⟩, ⟨some 12, .ixs (.t 10) (.t 11), none⟩, ⟨some 13, .bin .lss (.t 12) (.v (.int .u8 97)), none⟩, ⟨some 14, .mv (.t 13), none⟩, ⟨some 15, .mv (.t 0), some (14, false)⟩, ⟨some 16, .mv (.t 3), some (14, false)⟩, ⟨some 17, .ixs (.t 15) (.t 16), some (14, false)⟩, ⟨some 18, .bin .gtr (.t 17) (.v (.int .u8 122)), some (14, false)⟩, ⟨some 19, .pick (.t 14) (.v (.bool true)) (.t 18), none⟩])
    (.ite (.t 19) (.seq (.ops [⟨some 2, .mv (.v (.bool false)), none⟩])
     .ret)
    .skip)))
   (.ops [⟨some 8, .mv (.t 3), none⟩, ⟨some 9, .bin .add (.t 8) (.v (.int .i64 1)), none⟩, ⟨some 3, .mv (.t 9), none⟩]))))))
 (.seq (.ops [⟨some 20, .mv (.t 0), none⟩, ⟨some 21, .lens (.t 20), none⟩, ⟨some 22, .call 34 [.t 21, .v (.int .i64 1), .v (.int .i64 8)], none⟩, ⟨some 2, .mv (.t 22), none⟩])
 .ret)))
noncomputable def X.i_isName (p0 : (List UInt8)) : Option Bool :=
  ((loop (fun (x14 : Int) => ((bif (decide (x14 < (p0.length : Int))) then (if 0 ≤ x14 ∧ x14 < (p0.length : Int) then (bif (decide ((((p0.getD x14.toNat 0).toNat : Nat) : Int) < 97)) then some (Sum.inr (Sum.inr false)) else (if 0 ≤ x14 ∧ x14 < (p0.length : Int) then (bif (decide ((((p0.getD x14.toNat 0).toNat : Nat) : Int) > 122)) then some (Sum.inr (Sum.inr false)) else some (Sum.inl (W (x14 + 1)))) else none)) else none) else some (Sum.inr (Sum.inl ()))) : Option (Int ⊕ (Unit ⊕ Bool)))) 0).bind fun y21 => (Sum.elim (fun (y23 : Unit) => ((X.i_inRange (p0.length : Int) 1 8).bind fun v25 => some v25)) (fun (y24 : Bool) => some y24) y21))
theorem i_isName_ok (p0 : (List UInt8)) (r : Bool) (H : X.i_isName p0 = some r) : FnOk Tryd.prog gl 84 [.c (.str p0)] (cB r) := by
  unfold X.i_isName at H
  refine fn_in (fn := Tryd.f84) (ir := i_isName_ir) (s1 := lit [(2, cB r)] []) glL Tryd.func84 (by kernel_rfl) (by kernel_rfl) (by kernel_rfl) (by kernel_rfl) (by kernel_rfl) ?_
  refine seq_ops [] [] [(0, .c (.str p0))] [] (fun t => t) (by kernel_rfl) ?_
  refine seq_in ?_
  refine seq_ops [] [] [(0, .c (.str p0)), (3, cI 0)] [] (fun t => t) (by kernel_rfl) ?_
  refine ends_blk ?_
  obtain ⟨y21, h22, H⟩ := ofBind H
  refine loop_in (fun (x : Int) => lit [(0, .c (.str p0)), (3, cI x)] []) (orJ (fun (z : Unit) => At (.exit 0) (lit [(0, .c (.str p0))] [])) (fun (z : Bool) => At .ret (lit [(2, cB z)] []))) h22 ?_ ?_
  · clear H h22
    intro x14 y0 H
    refine seq_in ?_
    refine seq_ops [] [] [(0, .c (.str p0)), (3, cI x14), (7, cB (decide (x14 < (p0.length : Int))))] [] (fun t => t) (by kernel_rfl) ?_
    rcases ofCond H with ⟨c16, H⟩ | ⟨c16, H⟩
    · refine ite_t c16 (by kernel_rfl) ?_
      refine ends_skip ?_
      change EndsI _ _ _ _ _ _
      refine seq_in ?_
      refine ends_blk ?_
      obtain ⟨g17, H⟩ := ofIf H
      rcases ofCond H with ⟨c18, H⟩ | ⟨c18, H⟩
      · refine seq_ops [.g true, .g true, .g true, .g true, .g true] [] [(0, .c (.str p0)), (3, cI x14), (19, cB true)] [] (fun t => aI g17 (aI c18 (aI c18 (aI c18 (aI c18 (aI c18 (t))))))) (by kernel_rfl) ?_
        refine ite_t (rfl : (true : Bool) = true) (by kernel_rfl) ?_
        refine seq_ops [] [] [(2, cB false)] [] (fun t => t) (by kernel_rfl) ?_
        refine ends_ret ?_
        obtain rfl := Option.some.inj H
        exact And.intro (by simp) (And.intro rfl rfl)
      · obtain ⟨g19, H⟩ := ofIf H
        refine seq_ops [.g false, .g false, .g false, .g false, .g false] [] [(0, .c (.str p0)), (3, cI x14), (19, cB (decide ((((p0.getD x14.toNat 0).toNat : Nat) : Int) > 122)))] [] (fun t => aI g17 (aI c18 (aI c18 (aI c18 (aI g19 (aI c18 (aI c18 (t)))))))) (by kernel_rfl) ?_
        rcases ofCond H with ⟨c20, H⟩ | ⟨c20, H⟩
        · refine ite_t c20 (by kernel_rfl) ?_
          refine seq_ops [] [] [(2, cB false)] [] (fun t => t) (by kernel_rfl) ?_
          refine ends_ret ?_
          obtain rfl := Option.some.inj H
          exact And.intro (by simp) (And.intro rfl rfl)
        · refine ite_f c20 (by kernel_rfl) ?_
          refine ends_skip ?_
          change EndsI _ _ _ _ _ _
          refine one_ops [] [] [(0, .c (.str p0)), (3, cI (W (x14 + 1)))] [] (fun t => t) (by kernel_rfl) ?_
          obtain rfl := Option.some.inj H
          exact And.intro rfl rfl
    · refine ite_f c16 (by kernel_rfl) ?_
      refine tell [] [(0, .c (.str p0))] [] (fun t => t) (by kernel_rfl) ?_
      refine ends_exit ?_
      obtain rfl := Option.some.inj H
      exact And.intro (by simp) (And.intro rfl rfl)
  · clear h22
    cases y21 with
    | inl y23 =>
      replace H := ofInl H
      intro e s q
      obtain ⟨rfl, rfl⟩ := q
      change EndsI _ _ _ _ _ _
      obtain ⟨v25, h26, H⟩ := ofBind H
      refine seq_ops [.res (cB v25)] [] [(2, cB v25)] [] (fun t => aI (i_inRange_ok (p0.length : Int) 1 8 v25 h26) (t)) (by kernel_rfl) ?_
      refine ends_ret ?_
      obtain rfl := Option.some.inj H
      exact And.intro (.inl rfl) rfl
    | inr y24 =>
      replace H := ofInr H
      intro e s q
      obtain ⟨rfl, rfl⟩ := q
      obtain rfl := Option.some.inj H
      exact And.intro (.inl rfl) rfl

def i_goodTerrain_1_ir : S :=
 (.seq (.ops [⟨some 2, .mv (.v (.bool false)), none⟩])
 (.seq (.ops [⟨some 3, .mv (.t 0), none⟩, ⟨some 4, .call 34 [.t 3, .v (.int .i64 0), .v (.int .i64 9)], none⟩, ⟨some 5, .not (.t 4), none⟩, ⟨some 2, .mv (.t 5), none⟩])
 .ret))
noncomputable def X.i_goodTerrain_1 (p0 : Int) : Option Bool :=
  ((X.i_inRange p0 0 9).bind fun v1 => some (!v1))
theorem i_goodTerrain_1_ok (p0 : Int) (r : Bool) (H : X.i_goodTerrain_1 p0 = some r) : FnOk Tryd.prog gl 85 [cI p0] (cB r) := by
  unfold X.i_goodTerrain_1 at H
  refine fn_in (fn := Tryd.f85) (ir := i_goodTerrain_1_ir) (s1 := lit [(2, cB r)] []) glL Tryd.func85 (by kernel_rfl) (by kernel_rfl) (by kernel_rfl) (by kernel_rfl) (by kernel_rfl) ?_
  refine seq_ops [] [] [(0, cI p0)] [] (fun t => t) (by kernel_rfl) ?_
  obtain ⟨v1, h2, H⟩ := ofBind H
  refine seq_ops [.res (cB v1)] [] [(2, cB (!v1))] [] (fun t => aI (i_inRange_ok p0 0 9 v1 h2) (t)) (by kernel_rfl) ?_
  refine ends_ret ?_
  obtain rfl := Option.some.inj H
  exact And.intro (.inl rfl) rfl

def i_goodTerrain_ir : S :=
 (.seq (.ops [⟨some 2, .box 5 (.t 0), none⟩, ⟨some 4, .mv (.v (.bool false)), none⟩])
 (.seq (.seq (.ops [⟨some 5, .fad 0 (.t 2), none⟩, ⟨some 6, .load 1 false (.t 5), none⟩, ⟨some 7, .call 84 [.t 6], none⟩, ⟨some 8, .not (.t 7), none⟩, ⟨some 9, .mv (.t 8), none⟩, ⟨some 10, .fad 1 (.t 2), some (9, false)⟩, ⟨some 11, .load 1 false (.t 10), some (9, false)⟩, ⟨some 12, .len (.t 11), some (9, false)⟩, ⟨some 13, .mv (.t 1), some (9, false)⟩, ⟨some 14, .bin .neq (.t 12) (.t 13), some (9, false)⟩, ⟨some 15, .pick (.t 9) (.v (.bool true)) (.t 14), none⟩, ⟨some 16, .mv (.t 15), none⟩, ⟨some 17, .fad 2 (.t 2), some (16, false)⟩, ⟨some 18, .load 1 false (.t 17), some (16, false)⟩, ⟨some 19, .call 34 [.t 18, .v (.int .i64 (-3)), .v (.int .i64 3)], some (16, false)⟩, ⟨some 20, .not (.t 19), some (16, false)⟩, ⟨some 21, .pick (.t 16) (.v (.bool true)) (.t 20), none⟩, ⟨some 22, .mv (.t 21), none⟩, ⟨some 23, .fad 3 (.t 2), some (22, false)⟩, ⟨some 24, .load 1 false (.t 23), some (22, false)⟩, ⟨some 25, .call 34 [.t 24, .v (.int .i64 0), .v (.int .i64 3)], some (22, false)⟩, ⟨some 26, .not (.t 25), some (22, false)⟩, ⟨some 27, .pick (.t 22) (.v (.bool true)) (.t 26), none⟩])
 (.ite (.t 27) (.seq (.ops [⟨some 4, .mv (.v (.bool false)), none⟩])
  .ret)
 .skip))
 (.seq (.ops [⟨some 28, .fad 1 (.t 2), none⟩, ⟨some 29, .load 1 false (.t 28), none⟩, ⟨some 30, .call 54 [.t 29, .f 85], none⟩, ⟨some 31, .not (.t 30), none⟩, ⟨some 4, .mv (.t 31), none⟩])
 .ret)))
noncomputable def X.i_goodTerrain (p0 : TTerrain) (p1 : Int) : Option Bool :=
  ((X.i_isName p0.Name).bind fun v1 => (bif (!v1) then some false else (bif ((p0.Cost.length : Int) != p1) then some false else ((X.i_inRange p0.Shift (-3) 3).bind fun v5 => (bif (!v5) then some false else ((X.i_inRange p0.Height 0 3).bind fun v8 => (bif (!v8) then some false else ((X.g_ContainsFunc_int p0.Cost (fun q0 => X.i_goodTerrain_1 q0)).bind fun v11 => some (!v11)))))))))
theorem i_goodTerrain_ok (p0 : TTerrain) (p1 : Int) (r : Bool) (H : X.i_goodTerrain p0 p1 = some r) : FnOk Tryd.prog gl 67 [.agg (eTTerrain p0), cI p1] (cB r) := by
  unfold X.i_goodTerrain at H
  refine fn_in (fn := Tryd.f67) (ir := i_goodTerrain_ir) (s1 := lit [(4, cB r)] []) glL Tryd.func67 (by kernel_rfl) (by kernel_rfl) (by kernel_rfl) (by kernel_rfl) (by kernel_rfl) ?_
  refine seq_ops [] [] [(1, cI p1), (2, .c (.pk 2 0))] [(2, .var (eTTerrain p0) false)] (fun t => t) (by kernel_rfl) ?_
  refine seq_in ?_
  obtain ⟨v1, h2, H⟩ := ofBind H
  rcases ofCond H with ⟨c3, H⟩ | ⟨c3, H⟩
  · refine seq_ops [.res (cB v1), .g true, .g true, .g true, .g true, .g true, .g true, .g true, .g true, .g true, .g true, .g true, .g true, .g true, .g true, .g true, .g true] [] [(2, .c (.pk 2 0)), (27, cB true)] [(2, .var (eTTerrain p0) false)] (fun t => aI (i_isName_ok p0.Name v1 h2) (aI c3 (aI c3 (aI c3 (aI c3 (aI c3 (aI c3 (aI (rfl : (true : Bool) = true) (aI (rfl : (true : Bool) = true) (aI (rfl : (true : Bool) = true) (aI (rfl : (true : Bool) = true) (aI (rfl : (true : Bool) = true) (aI (rfl : (true : Bool) = true) (aI (rfl : (true : Bool) = true) (aI (rfl : (true : Bool) = true) (aI (rfl : (true : Bool) = true) (aI (rfl : (true : Bool) = true) (t)))))))))))))))))) (by kernel_rfl) ?_
    refine ite_t (rfl : (true : Bool) = true) (by kernel_rfl) ?_
    refine seq_ops [] [] [(4, cB false)] [] (fun t => t) (by kernel_rfl) ?_
    refine ends_ret ?_
    obtain rfl := Option.some.inj H
    exact And.intro (.inl rfl) rfl
  · rcases ofCond H with ⟨c4, H⟩ | ⟨c4, H⟩
    · refine seq_ops [.res (cB v1), .g false, .g false, .g false, .g false, .g false, .g false, .g true, .g true, .g true, .g true, .g true, .g true, .g true, .g true, .g true, .g true] [] [(2, .c (.pk 2 0)), (27, cB true)] [(2, .var (eTTerrain p0) false)] (fun t => aI (i_isName_ok p0.Name v1 h2) (aI c3 (aI c3 (aI c3 (lI p0.Cost (aI c3 (aI c3 (aI c3 (aI c4 (aI c4 (aI c4 (aI c4 (aI c4 (aI (rfl : (true : Bool) = true) (aI (rfl : (true : Bool) = true) (aI (rfl : (true : Bool) = true) (aI (rfl : (true : Bool) = true) (aI (rfl : (true : Bool) = true) (t))))))))))))))))))) (by kernel_rfl) ?_
      refine ite_t (rfl : (true : Bool) = true) (by kernel_rfl) ?_
      refine seq_ops [] [] [(4, cB false)] [] (fun t => t) (by kernel_rfl) ?_
      refine ends_ret ?_
      obtain rfl := Option.some.inj H
      exact And.intro (.inl rfl) rfl
    · obtain ⟨v5, h6, H⟩ := ofBind H
      rcases ofCond H with ⟨c7, H⟩ | ⟨c7, H⟩
      · refine seq_ops [.res (cB v1), .g false, .g false, .g false, .g false, .g false, .g false, .g false, .g false, .g false, .res (cB v5), .g false, .g false, .g true, .g true, .g true, .g true, .g true] [] [(2, .c (.pk 2 0)), (27, cB true)] [(2, .var (eTTerrain p0) false)] (fun t => aI (i_isName_ok p0.Name v1 h2) (aI c3 (aI c3 (aI c3 (lI p0.Cost (aI c3 (aI c3 (aI c3 (aI c4 (aI c4 (aI c4 (aI (i_inRange_ok p0.Shift (-3) 3 v5 h6) (aI c4 (aI c4 (aI c7 (aI c7 (aI c7 (aI c7 (aI c7 (t)))))))))))))))))))) (by kernel_rfl) ?_
        refine ite_t (rfl : (true : Bool) = true) (by kernel_rfl) ?_
        refine seq_ops [] [] [(4, cB false)] [] (fun t => t) (by kernel_rfl) ?_
        refine ends_ret ?_
        obtain rfl := Option.some.inj H
        exact And.intro (.inl rfl) rfl
      · obtain ⟨v8, h9, H⟩ := ofBind H
        refine seq_ops [.res (cB v1), .g false, .g false, .g false, .g false, .g false, .g false, .g false, .g false, .g false, .res (cB v5), .g false, .g false, .g false, .g false, .g false, .res (cB v8), .g false, .g false] [] [(2, .c (.pk 2 0)), (27, cB (!v8))] [(2, .var (eTTerrain p0) false)] (fun t => aI (i_isName_ok p0.Name v1 h2) (aI c3 (aI c3 (aI c3 (lI p0.Cost (aI c3 (aI c3 (aI c3 (aI c4 (aI c4 (aI c4 (aI (i_inRange_ok p0.Shift (-3) 3 v5 h6) (aI c4 (aI c4 (aI c7 (aI c7 (aI c7 (aI (i_inRange_ok p0.Height 0 3 v8 h9) (aI c7 (aI c7 (t))))))))))))))))))))) (by kernel_rfl) ?_
        rcases ofCond H with ⟨c10, H⟩ | ⟨c10, H⟩
        · refine ite_t c10 (by kernel_rfl) ?_
          refine seq_ops [] [] [(4, cB false)] [] (fun t => t) (by kernel_rfl) ?_
          refine ends_ret ?_
          obtain rfl := Option.some.inj H
          exact And.intro (.inl rfl) rfl
        · refine ite_f c10 (by kernel_rfl) ?_
          refine ends_skip ?_
          change EndsI _ _ _ _ _ _
          obtain ⟨v11, h12, H⟩ := ofBind H
          refine seq_ops [.res (cB v11)] [] [(4, cB (!v11))] [] (fun t => aI (g_ContainsFunc_int_c0_ok p0.Cost (85) (fun q0 => X.i_goodTerrain_1 q0) (fun q0 r h => i_goodTerrain_1_ok q0 r h) v11 h12) (t)) (by kernel_rfl) ?_
          refine ends_ret ?_
          obtain rfl := Option.some.inj H
          exact And.intro (.inl rfl) rfl

def g_IndexFunc_Terrain_ir : S :=
 (.seq (.ops [⟨some 4, .mv (.v (.int .i64 0)), none⟩])
 (.seq (.seq (.ops [⟨some 6, .mv (.t 0), none⟩, ⟨some 7, .len (.t 6), none⟩, ⟨some 8, .mv (.v (.int .i64 0)), none⟩])
 (.blk 0 (.loop (.seq (.ops [⟨some 9, .bin .lss (.t 8) (.t 7), none⟩])
   (.seq (.ite (.t 9) .skip
   (.exit 0))
   (.seq (.blk 1 (.seq (.ops [⟨some 10, .mv (.t 8), none⟩, ⟨some 5, .mv (.t 10), none⟩])
    (.seq (.ops [⟨some 11, .mv (.t 1), none⟩, ⟨some 12, .mv (.t 0), none⟩, ⟨some 13, .mv (.t 5), none⟩, ⟨some 14, .iad 5 (.t 12) (.t 13), none⟩, ⟨some 15, .load 5 true (.t 14), none⟩, ⟨some 16, .cald (.t 11) [.t 15], none⟩])
    (.ite (.t 16) (.seq (.ops [⟨some 17, .mv (.t 5), none⟩, ⟨some 4, .mv (.t 17), none⟩])
     .ret)
    .skip))))
   (.ops [⟨some 18, .bin .add (.t 8) (.v (.int .i64 1)), none⟩, ⟨some 8, .mv (.t 18), none⟩])))))))
 (.seq (.ops [⟨some 4, .mv (.v (.int .i64 (-1))), none⟩])
 .ret)))
noncomputable def X.g_IndexFunc_Terrain (p0 : (List TTerrain)) (f1 : TTerrain → Option Bool) : Option Int :=
  ((loop (fun (x16 : Int) => ((bif (decide (x16 < (p0.length : Int))) then ((at' zTTerrain p0 x16).bind fun v19 => ((f1 v19).bind fun v21 => (bif v21 then some (Sum.inr (Sum.inr x16)) else some (Sum.inl (W (x16 + 1)))))) else some (Sum.inr (Sum.inl ()))) : Option (Int ⊕ (Unit ⊕ Int)))) 0).bind fun y24 => (Sum.elim (fun (y26 : Unit) => some (-1)) (fun (y27 : Int) => some y27) y24))
theorem g_IndexFunc_Terrain_c1_ok (p0 : (List TTerrain)) (cf1 : FuncId) (cs1_0 : List AC) (f1 : TTerrain → Option Bool) (hf1 : ∀ q0 r, f1 q0 = some r → FnOk Tryd.prog gl cf1 [.agg (eTTerrain q0), .c (.pd cs1_0 0)] (cB r)) (r : Int) (H : X.g_IndexFunc_Terrain p0 f1 = some r) : FnOk Tryd.prog gl 86 [.c (dat 5 eTTerrain zTTerrain p0), .c (.clo cf1 [.pd cs1_0 0])] (cI r) := by
  unfold X.g_IndexFunc_Terrain at H
  refine fn_in (fn := Tryd.f86) (ir := g_IndexFunc_Terrain_ir) (s1 := lit [(4, cI r)] []) glL Tryd.func86 (by kernel_rfl) (by kernel_rfl) (by kernel_rfl) (by kernel_rfl) (by kernel_rfl) ?_
  refine seq_ops [] [] [(0, .c (dat 5 eTTerrain zTTerrain p0)), (1, .c (.clo cf1 [.pd cs1_0 0]))] [] (fun t => t) (by kernel_rfl) ?_
  refine seq_in ?_
  refine seq_ops [] [] [(0, .c (dat 5 eTTerrain zTTerrain p0)), (1, .c (.clo cf1 [.pd cs1_0 0])), (7, cI (p0.length : Int)), (8, cI 0)] [] (fun t => lI p0 (t)) (by kernel_rfl) ?_
  refine ends_blk ?_
  obtain ⟨y24, h25, H⟩ := ofBind H
  refine loop_in (fun (x : Int) => lit [(0, .c (dat 5 eTTerrain zTTerrain p0)), (1, .c (.clo cf1 [.pd cs1_0 0])), (7, cI (p0.length : Int)), (8, cI x)] []) (orJ (fun (z : Unit) => At (.exit 0) (lit [] [])) (fun (z : Int) => At .ret (lit [(4, cI z)] []))) h25 ?_ ?_
  · clear H h25
    intro x16 y0 H
    refine seq_ops [] [] [(0, .c (dat 5 eTTerrain zTTerrain p0)), (1, .c (.clo cf1 [.pd cs1_0 0])), (7, cI (p0.length : Int)), (8, cI x16), (9, cB (decide (x16 < (p0.length : Int))))] [] (fun t => t) (by kernel_rfl) ?_
    refine seq_in ?_
    rcases ofCond H with ⟨c18, H⟩ | ⟨c18, H⟩
    · refine ite_t c18 (by kernel_rfl) ?_
      refine ends_skip ?_
      change EndsI _ _ _ _ _ _
      refine seq_in ?_
      refine ends_blk ?_
      refine seq_ops [] [] [(0, .c (dat 5 eTTerrain zTTerrain p0)), (1, .c (.clo cf1 [.pd cs1_0 0])), (5, cI x16), (7, cI (p0.length : Int)), (8, cI x16)] [] (fun t => t) (by kernel_rfl) ?_
      obtain ⟨v19, h20, H⟩ := ofBind H
      obtain ⟨v21, h22, H⟩ := ofBind H
      refine seq_ops [.cs (eTTerrain v19), .res (cB v21)] [] [(0, .c (dat 5 eTTerrain zTTerrain p0)), (1, .c (.clo cf1 [.pd cs1_0 0])), (5, cI x16), (7, cI (p0.length : Int)), (8, cI x16), (16, cB v21)] [] (fun t => aI (at_lt h20) (aI (at_enc (enc := eTTerrain) h20) (aI (hf1 v19 v21 h22) (t)))) (by kernel_rfl) ?_
      rcases ofCond H with ⟨c23, H⟩ | ⟨c23, H⟩
      · refine ite_t c23 (by kernel_rfl) ?_
        refine seq_ops [] [] [(4, cI x16)] [] (fun t => t) (by kernel_rfl) ?_
        refine ends_ret ?_
        obtain rfl := Option.some.inj H
        exact And.intro (by simp) (And.intro rfl rfl)
      · refine ite_f c23 (by kernel_rfl) ?_
        refine ends_skip ?_
        change EndsI _ _ _ _ _ _
        refine one_ops [] [] [(0, .c (dat 5 eTTerrain zTTerrain p0)), (1, .c (.clo cf1 [.pd cs1_0 0])), (7, cI (p0.length : Int)), (8, cI (W (x16 + 1)))] [] (fun t => t) (by kernel_rfl) ?_
        obtain rfl := Option.some.inj H
        exact And.intro rfl rfl
    · refine ite_f c18 (by kernel_rfl) ?_
      refine tell [] [] [] (fun t => t) (by kernel_rfl) ?_
      refine ends_exit ?_
      obtain rfl := Option.some.inj H
      exact And.intro (by simp) (And.intro rfl rfl)
  · clear h25
    cases y24 with
    | inl y26 =>
      replace H := ofInl H
      intro e s q
      obtain ⟨rfl, rfl⟩ := q
      change EndsI _ _ _ _ _ _
      refine seq_ops [] [] [(4, cI (-1))] [] (fun t => t) (by kernel_rfl) ?_
      refine ends_ret ?_
      obtain rfl := Option.some.inj H
      exact And.intro (.inl rfl) rfl
    | inr y27 =>
      replace H := ofInr H
      intro e s q
      obtain ⟨rfl, rfl⟩ := q
      obtain rfl := Option.some.inj H
      exact And.intro (.inl rfl) rfl

def i_terrainIndex_1_ir : S :=
 (.seq (.ops [⟨some 2, .box 5 (.t 0), none⟩, ⟨some 3, .mv (.v (.bool false)), none⟩])
 (.seq (.ops [⟨some 4, .fad 0 (.t 2), none⟩, ⟨some 5, .load 1 false (.t 4), none⟩, ⟨some 6, .load 1 false (.t 1), none⟩, ⟨some 7, .bin .eql (.t 5) (.t 6), none⟩, ⟨some 3, .mv (.t 7), none⟩])
 .ret))
noncomputable def X.i_terrainIndex_1 (p0 : TTerrain) (p1 : (List UInt8)) : Option Bool :=
  some (p0.Name == p1)
theorem i_terrainIndex_1_ok (p0 : TTerrain) (p1 : (List UInt8)) (r : Bool) (H : X.i_terrainIndex_1 p0 p1 = some r) : FnOk Tryd.prog gl 87 [.agg (eTTerrain p0), .c (.pd (eS p1) 0)] (cB r) := by
  unfold X.i_terrainIndex_1 at H
  refine fn_in (fn := Tryd.f87) (ir := i_terrainIndex_1_ir) (s1 := lit [(3, cB r)] []) glL Tryd.func87 (by kernel_rfl) (by kernel_rfl) (by kernel_rfl) (by kernel_rfl) (by kernel_rfl) ?_
  refine seq_ops [] [] [(1, .c (.pd (eS p1) 0)), (2, .c (.pk 2 0))] [(2, .var (eTTerrain p0) false)] (fun t => t) (by kernel_rfl) ?_
  refine seq_ops [] [] [(3, cB (p0.Name == p1))] [] (fun t => t) (by kernel_rfl) ?_
  refine ends_ret ?_
  obtain rfl := Option.some.inj H
  exact And.intro (.inl rfl) rfl

def i_terrainIndex_ir : S :=
 (.seq (.ops [⟨some 3, .box 1 (.t 1), none⟩, ⟨some 4, .mv (.v (.int .i64 0)), none⟩])
 (.seq (.ops [⟨some 5, .mv (.t 0), none⟩, ⟨some 6, .clo 87 [.t 3], none⟩, ⟨some 7, .call 86 [.t 5, .t 6], none⟩, ⟨some 4, .mv (.t 7), none⟩])
 .ret))
noncomputable def X.i_terrainIndex (p0 : (List TTerrain)) (p1 : (List UInt8)) : Option Int :=
  ((X.g_IndexFunc_Terrain p0 (fun q0 => X.i_terrainIndex_1 q0 p1)).bind fun v1 => some v1)
theorem i_terrainIndex_ok (p0 : (List TTerrain)) (p1 : (List UInt8)) (r : Int) (H : X.i_terrainIndex p0 p1 = some r) : FnOk Tryd.prog gl 68 [.c (dat 5 eTTerrain zTTerrain p0), .c (.str p1)] (cI r) := by
  unfold X.i_terrainIndex at H
  refine fn_in (fn := Tryd.f68) (ir := i_terrainIndex_ir) (s1 := lit [(4, cI r)] []) glL Tryd.func68 (by kernel_rfl) (by kernel_rfl) (by kernel_rfl) (by kernel_rfl) (by kernel_rfl) ?_
  refine seq_ops [] [] [(0, .c (dat 5 eTTerrain zTTerrain p0)), (3, .c (.pk 3 0))] [(3, .var [.str p1] false)] (fun t => t) (by kernel_rfl) ?_
  obtain ⟨v1, h2, H⟩ := ofBind H
  refine seq_ops [.res (cI v1)] [] [(4, cI v1)] [] (fun t => aI (g_IndexFunc_Terrain_c1_ok p0 (87) (eS p1) (fun q0 => X.i_terrainIndex_1 q0 p1) (fun q0 r h => i_terrainIndex_1_ok q0 p1 r h) v1 h2) (t)) (by kernel_rfl) ?_
  refine ends_ret ?_
  obtain rfl := Option.some.inj H
  exact And.intro (.inl rfl) rfl

def i_goodKind_ir : S :=
 (.seq (.ops [⟨some 1, .box 6 (.t 0), none⟩, ⟨some 2, .mv (.v (.bool false)), none⟩])
 (.seq (.ops [⟨some 3, .fad 0 (.t 1), none⟩, ⟨some 4, .load 1 false (.t 3), none⟩, ⟨some 5, .call 84 [.t 4], none⟩, ⟨some 6, .mv (.t 5), none⟩, ⟨some 7, .fad 1 (.t 1), some (6, true)⟩, ⟨some 8, .load 1 false (.t 7), some (6, true)⟩, ⟨some 9, .call 34 [.t 8, .v (.int .i64 1), .v (.int .i64 9)], some (6, true)⟩, ⟨some 10, .pick (.t 6) (.t 9) (.v (.bool false)), none⟩, ⟨some 11, .mv (.t 10), none⟩, ⟨some 12, .fad 2 (.t 1), some (11, true)⟩, ⟨some 13, .load 1 false (.t 12), some (11, true)⟩, ⟨some 14, .call 34 [.t 13, .v (.int .i64 0), .v (.int .i64 9)], some (11, true)⟩, ⟨some 15, .pick (.t 11) (.t 14) (.v (.bool false)), none⟩, ⟨some 16, .mv (.t 15), none⟩, ⟨some 17, .fad 3 (.t 1), some (16, true)⟩, ⟨some 18, .load 1 false (.t 17), some (16, true)⟩, ⟨some 19, .call 34 [.t 18, .v (.int .i64 1), .v (.int .i64 4)], some (16, true)⟩, ⟨some 20, .pick (.t 16) (.t 19) (.v (.bool false)), none⟩, ⟨some 21, .mv (.t 20), none⟩, ⟨some 22, .fad 5 (.t 1), some (21, true)⟩, ⟨some 23, .load 1 false (.t 22), some (21, true)⟩, ⟨some 24, .call 34 [.t 23, .v (.int .i64 0), .v (.int .i64 4)], some (21, true)⟩, ⟨some 25, .pick (.t 21) (.t 24) (.v (.bool false)), none⟩, ⟨some 2, .mv (.t 25), none⟩])
 .ret))
noncomputable def X.i_goodKind (p0 : TKind) : Option Bool :=
  ((X.i_isName p0.Name).bind fun v1 => (bif v1 then ((X.i_inRange p0.Strength 1 9).bind fun v4 => (bif v4 then ((X.i_inRange p0.Moves 0 9).bind fun v7 => (bif v7 then ((X.i_inRange p0.Steps 1 4).bind fun v10 => (bif v10 then ((X.i_inRange p0.View 0 4).bind fun v13 => some v13) else some false)) else some false)) else some false)) else some false))
theorem i_goodKind_ok (p0 : TKind) (r : Bool) (H : X.i_goodKind p0 = some r) : FnOk Tryd.prog gl 69 [.agg (eTKind p0)] (cB r) := by
  unfold X.i_goodKind at H
  refine fn_in (fn := Tryd.f69) (ir := i_goodKind_ir) (s1 := lit [(2, cB r)] []) glL Tryd.func69 (by kernel_rfl) (by kernel_rfl) (by kernel_rfl) (by kernel_rfl) (by kernel_rfl) ?_
  refine seq_ops [] [] [(1, .c (.pk 1 0))] [(1, .var (eTKind p0) false)] (fun t => t) (by kernel_rfl) ?_
  obtain ⟨v1, h2, H⟩ := ofBind H
  rcases ofCond H with ⟨c3, H⟩ | ⟨c3, H⟩
  · obtain ⟨v4, h5, H⟩ := ofBind H
    rcases ofCond H with ⟨c6, H⟩ | ⟨c6, H⟩
    · obtain ⟨v7, h8, H⟩ := ofBind H
      rcases ofCond H with ⟨c9, H⟩ | ⟨c9, H⟩
      · obtain ⟨v10, h11, H⟩ := ofBind H
        rcases ofCond H with ⟨c12, H⟩ | ⟨c12, H⟩
        · obtain ⟨v13, h14, H⟩ := ofBind H
          refine seq_ops [.res (cB v1), .g true, .g true, .g true, .res (cB v4), .g true, .g true, .g true, .g true, .res (cB v7), .g true, .g true, .g true, .g true, .res (cB v10), .g true, .g true, .g true, .g true, .res (cB v13), .g true] [] [(2, cB v13)] [] (fun t => aI (i_isName_ok p0.Name v1 h2) (aI c3 (aI c3 (aI c3 (aI (i_inRange_ok p0.Strength 1 9 v4 h5) (aI c3 (aI c6 (aI c6 (aI c6 (aI (i_inRange_ok p0.Moves 0 9 v7 h8) (aI c6 (aI c9 (aI c9 (aI c9 (aI (i_inRange_ok p0.Steps 1 4 v10 h11) (aI c9 (aI c12 (aI c12 (aI c12 (aI (i_inRange_ok p0.View 0 4 v13 h14) (aI c12 (t)))))))))))))))))))))) (by kernel_rfl) ?_
          refine ends_ret ?_
          obtain rfl := Option.some.inj H
          exact And.intro (.inl rfl) rfl
        · refine seq_ops [.res (cB v1), .g true, .g true, .g true, .res (cB v4), .g true, .g true, .g true, .g true, .res (cB v7), .g true, .g true, .g true, .g true, .res (cB v10), .g true, .g false, .g false, .g false, .g false] [] [(2, cB false)] [] (fun t => aI (i_isName_ok p0.Name v1 h2) (aI c3 (aI c3 (aI c3 (aI (i_inRange_ok p0.Strength 1 9 v4 h5) (aI c3 (aI c6 (aI c6 (aI c6 (aI (i_inRange_ok p0.Moves 0 9 v7 h8) (aI c6 (aI c9 (aI c9 (aI c9 (aI (i_inRange_ok p0.Steps 1 4 v10 h11) (aI c9 (aI c12 (aI c12 (aI c12 (aI c12 (t))))))))))))))))))))) (by kernel_rfl) ?_
          refine ends_ret ?_
          obtain rfl := Option.some.inj H
          exact And.intro (.inl rfl) rfl
      · refine seq_ops [.res (cB v1), .g true, .g true, .g true, .res (cB v4), .g true, .g true, .g true, .g true, .res (cB v7), .g true, .g false, .g false, .g false, .g false, .g false, .g false, .g false, .g false] [] [(2, cB false)] [] (fun t => aI (i_isName_ok p0.Name v1 h2) (aI c3 (aI c3 (aI c3 (aI (i_inRange_ok p0.Strength 1 9 v4 h5) (aI c3 (aI c6 (aI c6 (aI c6 (aI (i_inRange_ok p0.Moves 0 9 v7 h8) (aI c6 (aI c9 (aI c9 (aI c9 (aI c9 (aI (rfl : (false : Bool) = false) (aI (rfl : (false : Bool) = false) (aI (rfl : (false : Bool) = false) (aI (rfl : (false : Bool) = false) (t)))))))))))))))))))) (by kernel_rfl) ?_
        refine ends_ret ?_
        obtain rfl := Option.some.inj H
        exact And.intro (.inl rfl) rfl
    · refine seq_ops [.res (cB v1), .g true, .g true, .g true, .res (cB v4), .g true, .g false, .g false, .g false, .g false, .g false, .g false, .g false, .g false, .g false, .g false, .g false, .g false] [] [(2, cB false)] [] (fun t => aI (i_isName_ok p0.Name v1 h2) (aI c3 (aI c3 (aI c3 (aI (i_inRange_ok p0.Strength 1 9 v4 h5) (aI c3 (aI c6 (aI c6 (aI c6 (aI c6 (aI (rfl : (false : Bool) = false) (aI (rfl : (false : Bool) = false) (aI (rfl : (false : Bool) = false) (aI (rfl : (false : Bool) = false) (aI (rfl : (false : Bool) = false) (aI (rfl : (false : Bool) = false) (aI (rfl : (false : Bool) = false) (aI (rfl : (false : Bool) = false) (t))))))))))))))))))) (by kernel_rfl) ?_
      refine ends_ret ?_
      obtain rfl := Option.some.inj H
      exact And.intro (.inl rfl) rfl
  · refine seq_ops [.res (cB v1), .g false, .g false, .g false, .g false, .g false, .g false, .g false, .g false, .g false, .g false, .g false, .g false, .g false, .g false, .g false, .g false] [] [(2, cB false)] [] (fun t => aI (i_isName_ok p0.Name v1 h2) (aI c3 (aI c3 (aI c3 (aI c3 (aI (rfl : (false : Bool) = false) (aI (rfl : (false : Bool) = false) (aI (rfl : (false : Bool) = false) (aI (rfl : (false : Bool) = false) (aI (rfl : (false : Bool) = false) (aI (rfl : (false : Bool) = false) (aI (rfl : (false : Bool) = false) (aI (rfl : (false : Bool) = false) (aI (rfl : (false : Bool) = false) (aI (rfl : (false : Bool) = false) (aI (rfl : (false : Bool) = false) (aI (rfl : (false : Bool) = false) (t)))))))))))))))))) (by kernel_rfl) ?_
    refine ends_ret ?_
    obtain rfl := Option.some.inj H
    exact And.intro (.inl rfl) rfl

def g_IndexFunc_Kind_ir : S :=
 (.seq (.ops [⟨some 4, .mv (.v (.int .i64 0)), none⟩])
 (.seq (.seq (.ops [⟨some 6, .mv (.t 0), none⟩, ⟨some 7, .len (.t 6), none⟩, ⟨some 8, .mv (.v (.int .i64 0)), none⟩])
 (.blk 0 (.loop (.seq (.ops [⟨some 9, .bin .lss (.t 8) (.t 7), none⟩])
   (.seq (.ite (.t 9) .skip
   (.exit 0))
   (.seq (.blk 1 (.seq (.ops [⟨some 10, .mv (.t 8), none⟩, ⟨some 5, .mv (.t 10), none⟩])
    (.seq (.ops [⟨some 11, .mv (.t 1), none⟩, ⟨some 12, .mv (.t 0), none⟩, ⟨some 13, .mv (.t 5), none⟩, ⟨some 14, .iad 6 (.t 12) (.t 13), none⟩, ⟨some 15, .load 6 true (.t 14), none⟩, ⟨some 16, .cald (.t 11) [.t 15], none⟩])
    (.ite (.t 16) (.seq (.ops [⟨some 17, .mv (.t 5), none⟩, ⟨some 4, .mv (.t 17), none⟩])
     .ret)
    .skip))))
   (.ops [⟨some 18, .bin .add (.t 8) (.v (.int .i64 1)), none⟩, ⟨some 8, .mv (.t 18), none⟩])))))))
 (.seq (.ops [⟨some 4, .mv (.v (.int .i64 (-1))), none⟩])
 .ret)))
noncomputable def X.g_IndexFunc_Kind (p0 : (List TKind)) (f1 : TKind → Option Bool) : Option Int :=
  ((loop (fun (x16 : Int) => ((bif (decide (x16 < (p0.length : Int))) then ((at' zTKind p0 x16).bind fun v19 => ((f1 v19).bind fun v21 => (bif v21 then some (Sum.inr (Sum.inr x16)) else some (Sum.inl (W (x16 + 1)))))) else some (Sum.inr (Sum.inl ()))) : Option (Int ⊕ (Unit ⊕ Int)))) 0).bind fun y24 => (Sum.elim (fun (y26 : Unit) => some (-1)) (fun (y27 : Int) => some y27) y24))
theorem g_IndexFunc_Kind_c1_ok (p0 : (List TKind)) (cf1 : FuncId) (cs1_0 : List AC) (f1 : TKind → Option Bool) (hf1 : ∀ q0 r, f1 q0 = some r → FnOk Tryd.prog gl cf1 [.agg (eTKind q0), .c (.pd cs1_0 0)] (cB r)) (r : Int) (H : X.g_IndexFunc_Kind p0 f1 = some r) : FnOk Tryd.prog gl 88 [.c (dat 6 eTKind zTKind p0), .c (.clo cf1 [.pd cs1_0 0])] (cI r) := by
  unfold X.g_IndexFunc_Kind at H
  refine fn_in (fn := Tryd.f88) (ir := g_IndexFunc_Kind_ir) (s1 := lit [(4, cI r)] []) glL Tryd.func88 (by kernel_rfl) (by kernel_rfl) (by kernel_rfl) (by kernel_rfl) (by kernel_rfl) ?_
  refine seq_ops [] [] [(0, .c (dat 6 eTKind zTKind p0)), (1, .c (.clo cf1 [.pd cs1_0 0]))] [] (fun t => t) (by kernel_rfl) ?_
  refine seq_in ?_
  refine seq_ops [] [] [(0, .c (dat 6 eTKind zTKind p0)), (1, .c (.clo cf1 [.pd cs1_0 0])), (7, cI (p0.length : Int)), (8, cI 0)] [] (fun t => lI p0 (t)) (by kernel_rfl) ?_
  refine ends_blk ?_
  obtain ⟨y24, h25, H⟩ := ofBind H
  refine loop_in (fun (x : Int) => lit [(0, .c (dat 6 eTKind zTKind p0)), (1, .c (.clo cf1 [.pd cs1_0 0])), (7, cI (p0.length : Int)), (8, cI x)] []) (orJ (fun (z : Unit) => At (.exit 0) (lit [] [])) (fun (z : Int) => At .ret (lit [(4, cI z)] []))) h25 ?_ ?_
  · clear H h25
    intro x16 y0 H
    refine seq_ops [] [] [(0, .c (dat 6 eTKind zTKind p0)), (1, .c (.clo cf1 [.pd cs1_0 0])), (7, cI (p0.length : Int)), (8, cI x16), (9, cB (decide (x16 < (p0.length : Int))))] [] (fun t => t) (by kernel_rfl) ?_
    refine seq_in ?_
    rcases ofCond H with ⟨c18, H⟩ | ⟨c18, H⟩
    · refine ite_t c18 (by kernel_rfl) ?_
      refine ends_skip ?_
      change EndsI _ _ _ _ _ _
      refine seq_in ?_
      refine ends_blk ?_
      refine seq_ops [] [] [(0, .c (dat 6 eTKind zTKind p0)), (1, .c (.clo cf1 [.pd cs1_0 0])), (5, cI x16), (7, cI (p0.length : Int)), (8, cI x16)] [] (fun t => t) (by kernel_rfl) ?_
      obtain ⟨v19, h20, H⟩ := ofBind H
      obtain ⟨v21, h22, H⟩ := ofBind H
      refine seq_ops [.cs (eTKind v19), .res (cB v21)] [] [(0, .c (dat 6 eTKind zTKind p0)), (1, .c (.clo cf1 [.pd cs1_0 0])), (5, cI x16), (7, cI (p0.length : Int)), (8, cI x16), (16, cB v21)] [] (fun t => aI (at_lt h20) (aI (at_enc (enc := eTKind) h20) (aI (hf1 v19 v21 h22) (t)))) (by kernel_rfl) ?_
      rcases ofCond H with ⟨c23, H⟩ | ⟨c23, H⟩
      · refine ite_t c23 (by kernel_rfl) ?_
        refine seq_ops [] [] [(4, cI x16)] [] (fun t => t) (by kernel_rfl) ?_
        refine ends_ret ?_
        obtain rfl := Option.some.inj H
        exact And.intro (by simp) (And.intro rfl rfl)
      · refine ite_f c23 (by kernel_rfl) ?_
        refine ends_skip ?_
        change EndsI _ _ _ _ _ _
        refine one_ops [] [] [(0, .c (dat 6 eTKind zTKind p0)), (1, .c (.clo cf1 [.pd cs1_0 0])), (7, cI (p0.length : Int)), (8, cI (W (x16 + 1)))] [] (fun t => t) (by kernel_rfl) ?_
        obtain rfl := Option.some.inj H
        exact And.intro rfl rfl
    · refine ite_f c18 (by kernel_rfl) ?_
      refine tell [] [] [] (fun t => t) (by kernel_rfl) ?_
      refine ends_exit ?_
      obtain rfl := Option.some.inj H
      exact And.intro (by simp) (And.intro rfl rfl)
  · clear h25
    cases y24 with
    | inl y26 =>
      replace H := ofInl H
      intro e s q
      obtain ⟨rfl, rfl⟩ := q
      change EndsI _ _ _ _ _ _
      refine seq_ops [] [] [(4, cI (-1))] [] (fun t => t) (by kernel_rfl) ?_
      refine ends_ret ?_
      obtain rfl := Option.some.inj H
      exact And.intro (.inl rfl) rfl
    | inr y27 =>
      replace H := ofInr H
      intro e s q
      obtain ⟨rfl, rfl⟩ := q
      obtain rfl := Option.some.inj H
      exact And.intro (.inl rfl) rfl

def i_kindIndex_1_ir : S :=
 (.seq (.ops [⟨some 2, .box 6 (.t 0), none⟩, ⟨some 3, .mv (.v (.bool false)), none⟩])
 (.seq (.ops [⟨some 4, .fad 0 (.t 2), none⟩, ⟨some 5, .load 1 false (.t 4), none⟩, ⟨some 6, .load 1 false (.t 1), none⟩, ⟨some 7, .bin .eql (.t 5) (.t 6), none⟩, ⟨some 3, .mv (.t 7), none⟩])
 .ret))
noncomputable def X.i_kindIndex_1 (p0 : TKind) (p1 : (List UInt8)) : Option Bool :=
  some (p0.Name == p1)
theorem i_kindIndex_1_ok (p0 : TKind) (p1 : (List UInt8)) (r : Bool) (H : X.i_kindIndex_1 p0 p1 = some r) : FnOk Tryd.prog gl 89 [.agg (eTKind p0), .c (.pd (eS p1) 0)] (cB r) := by
  unfold X.i_kindIndex_1 at H
  refine fn_in (fn := Tryd.f89) (ir := i_kindIndex_1_ir) (s1 := lit [(3, cB r)] []) glL Tryd.func89 (by kernel_rfl) (by kernel_rfl) (by kernel_rfl) (by kernel_rfl) (by kernel_rfl) ?_
  refine seq_ops [] [] [(1, .c (.pd (eS p1) 0)), (2, .c (.pk 2 0))] [(2, .var (eTKind p0) false)] (fun t => t) (by kernel_rfl) ?_
  refine seq_ops [] [] [(3, cB (p0.Name == p1))] [] (fun t => t) (by kernel_rfl) ?_
  refine ends_ret ?_
  obtain rfl := Option.some.inj H
  exact And.intro (.inl rfl) rfl

def i_kindIndex_ir : S :=
 (.seq (.ops [⟨some 3, .box 1 (.t 1), none⟩, ⟨some 4, .mv (.v (.int .i64 0)), none⟩])
 (.seq (.ops [⟨some 5, .mv (.t 0), none⟩, ⟨some 6, .clo 89 [.t 3], none⟩, ⟨some 7, .call 88 [.t 5, .t 6], none⟩, ⟨some 4, .mv (.t 7), none⟩])
 .ret))
noncomputable def X.i_kindIndex (p0 : (List TKind)) (p1 : (List UInt8)) : Option Int :=
  ((X.g_IndexFunc_Kind p0 (fun q0 => X.i_kindIndex_1 q0 p1)).bind fun v1 => some v1)
theorem i_kindIndex_ok (p0 : (List TKind)) (p1 : (List UInt8)) (r : Int) (H : X.i_kindIndex p0 p1 = some r) : FnOk Tryd.prog gl 70 [.c (dat 6 eTKind zTKind p0), .c (.str p1)] (cI r) := by
  unfold X.i_kindIndex at H
  refine fn_in (fn := Tryd.f70) (ir := i_kindIndex_ir) (s1 := lit [(4, cI r)] []) glL Tryd.func70 (by kernel_rfl) (by kernel_rfl) (by kernel_rfl) (by kernel_rfl) (by kernel_rfl) ?_
  refine seq_ops [] [] [(0, .c (dat 6 eTKind zTKind p0)), (3, .c (.pk 3 0))] [(3, .var [.str p1] false)] (fun t => t) (by kernel_rfl) ?_
  obtain ⟨v1, h2, H⟩ := ofBind H
  refine seq_ops [.res (cI v1)] [] [(4, cI v1)] [] (fun t => aI (g_IndexFunc_Kind_c1_ok p0 (89) (eS p1) (fun q0 => X.i_kindIndex_1 q0 p1) (fun q0 r h => i_kindIndex_1_ok q0 p1 r h) v1 h2) (t)) (by kernel_rfl) ?_
  refine ends_ret ?_
  obtain rfl := Option.some.inj H
  exact And.intro (.inl rfl) rfl

def i_IsRules_ir : S :=
 (.seq (.ops [⟨some 1, .box 7 (.t 0), none⟩, ⟨some 2, .mv (.v (.bool false)), none⟩])
 (.seq (.seq (.ops [⟨some 7, .fad 0 (.t 1), none⟩, ⟨some 8, .load 1 false (.t 7), none⟩, ⟨some 9, .len (.t 8), none⟩, ⟨some 10, .call 34 [.t 9, .v (.int .i64 1), .v (.int .i64 6)], none⟩, ⟨some 11, .not (.t 10), none⟩, ⟨some 12, .mv (.t 11), none⟩, ⟨some 13, .fad 1 (.t 1), some (12, false)⟩, ⟨some 14, .load 1 false (.t 13), some (12, false)⟩, ⟨some 15, .len (.t 14), some (12, false)⟩, ⟨some 16, .call 34 [.t 15, .v (.int .i64 1), .v (.int .i64 4)], some (12, false)⟩, ⟨some 17, .not (.t 16), some (12, false)⟩, ⟨some 18, .pick (.t 12) (.v (.bool true)) (.t 17), none⟩])
 (.ite (.t 18) (.seq (.ops [⟨some 2, .mv (.v (.bool false)), none⟩])
  .ret)
 .skip))
 (.seq (.seq (.ops [⟨some 19, .fad 0 (.t 1), none⟩, ⟨some 20, .load 1 false (.t 19), none⟩, ⟨some 21, .len (.t 20), none⟩, ⟨some 22, .mv (.v (.int .i64 0)), none⟩])
 (.blk 0 (.loop (.seq (.ops [⟨some 23, .bin .lss (.t 22) (.t 21), none⟩])
   (.seq (.ite (.t 23) .skip
   (.exit 0))
   (.seq (.blk 1 (.seq (.ops [⟨some 24, .mv (.t 22), none⟩, ⟨some 25, .iad 5 (.t 20) (.t 22), none⟩, ⟨some 26, .load 5 true (.t 25), none⟩, ⟨some 4, .alloc [.str [], .nil, .int .i64 0, .int .i64 0, .bool false], none⟩, ⟨some 3, .mv (.t 24), none⟩, ⟨none, .store 5 (.t 4) (.t 26), none⟩])
    (.seq (.ops [⟨some 27, .load 5 true (.t 4), none⟩, ⟨some 28, .fad 1 (.t 1), none⟩, ⟨some 29, .load 1 false (.t 28), none⟩, ⟨some 30, .len (.t 29), none⟩, ⟨some 31, .call 67 [.t 27, .t 30], none⟩, ⟨some 32, .not (.t 31), none⟩, ⟨some 33, .mv (.t 32), none⟩, ⟨some 34, .fad 0 (.t 1), some (33, false)⟩, ⟨some 35, .load 1 false (.t 34), some (33, false)⟩, ⟨some 36, .fad 0 (.t 4), some (33, false)⟩, ⟨some 37, .load 1 false (.t 36), some (33, false)⟩, ⟨some 38, .call 68 [.t 35, .t 37], some (33, false)⟩, ⟨some 39, .mv (.t 3), some (33, false)⟩, ⟨some 40, .bin .neq (.t 38) (.t 39), some (33, false)⟩, ⟨some 41, .pick (.t 33) (.v (.bool true)) (.t 40), none⟩])
    (.ite (.t 41) (.seq (.ops [⟨some 2, .mv (.v (.bool false)), none⟩])
     .ret)
    .skip))))
   (.ops [⟨some 42, .bin .add (.t 22) (.v (.int .i64 1)), none⟩, ⟨some 22, .mv (.t 42), none⟩])))))))
 (.seq (.seq (.ops [⟨some 43, .fad 1 (.t 1), none⟩, ⟨some 44, .load 1 false (.t 43), none⟩, ⟨some 45, .len (.t 44), none⟩, ⟨some 46, .mv (.v (.int .i64 0)), none⟩])
 (.blk 2 (.loop (.seq (.ops [⟨some 47, .bin .lss (.t 46) (.t 45), none⟩])
   (.seq (.ite (.t 47) .skip
   (.exit 2))
   (.seq (.blk 3 (.seq (.ops [⟨some 48, .mv (.t 46), none⟩, ⟨some 49, .iad 6 (.t 44) (.t 46), none⟩, ⟨some 50, .load 6 true (.t 49), none⟩, ⟨some 6, .alloc [.str [], .int .i64 0, .int .i64 0, .int .i64 0, .bool false, .int .i64 0], none⟩, ⟨some 5, .mv (.t 48), none⟩, ⟨none, .store 6 (.t 6) (.t 50), none⟩])
    (.seq (.ops [⟨some 51, .load 6 true (.t 6), none⟩, ⟨some 52, .call 69 [.t 51], none⟩, ⟨some 53, .not (.t 52), none⟩, ⟨some 54, .mv (.t 53), none⟩, ⟨some 55, .fad 1 (.t 1), some (54, false)⟩, ⟨some 56, .load 1 false (.t 55), some (54, false)⟩, ⟨some 57, .fad 0 (.t 6), some (54, false)⟩, ⟨some 58, .load 1 false (.t 57), some (54, false)⟩, ⟨some 59, .call 70 [.t 56, .t 58], some (54, false)⟩, ⟨some 60, .mv (.t 5), some (54, false)⟩, ⟨some 61, .bin .neq (.t 59) (.t 60), some (54, false)⟩, ⟨some 62, .pick (.t 54) (.v (.bool true)) (.t 61), none⟩])
    (.ite (.t 62) (.seq (.ops [⟨some 2, .mv (.v (.bool false)), none⟩])
     .ret)
    .skip))))
   (.ops [⟨some 63, .bin .add (.t 46) (.v (.int .i64 1)), none⟩, ⟨some 46, .mv (.t 63), none⟩])))))))
 (.seq (.ops [⟨some 64, .fad 2 (.t 1), none⟩, ⟨some 65, .load 1 false (.t 64), none⟩, ⟨some 66, .call 34 [.t 65, .v (.int .i64 1), .v (.int .i64 4)], none⟩, ⟨some 67, .mv (.t 66), none⟩, ⟨some 68, .fad 3 (.t 1), some (67, true)⟩, ⟨some 69, .load 1 false (.t 68), some (67, true)⟩, ⟨some 70, .call 34 [.t 69, .v (.int .i64 0), .v (.int .i64 9)], some (67, true)⟩, ⟨some 71, .pick (.t 67) (.t 70) (.v (.bool false)), none⟩, ⟨some 72, .mv (.t 71), none⟩, ⟨some 73, .fad 4 (.t 1), some (72, true)⟩, ⟨some 74, .load 1 false (.t 73), some (72, true)⟩, ⟨some 75, .call 34 [.t 74, .v (.int .i64 1), .v (.int .i64 9)], some (72, true)⟩, ⟨some 76, .pick (.t 72) (.t 75) (.v (.bool false)), none⟩, ⟨some 77, .mv (.t 76), none⟩, ⟨some 78, .fad 5 (.t 1), some (77, true)⟩, ⟨some 79, .load 1 false (.t 78), some (77, true)⟩, ⟨some 80, .call 34 [.t 79, .v (.int .i64 0), .v (.int .i64 20)], some (77, true)⟩, ⟨some 81, .pick (.t 77) (.t 80) (.v (.bool false)), none⟩, ⟨some 82, .mv (.t 81), none⟩, ⟨some 83, .fad 6 (.t 1), some (82, true)⟩, ⟨some 84, .load 1 false (.t 83), some (82, true)⟩, ⟨some 85, .call 34 [.t 84, .v (.int .i64 1), .v (.int .i64 30)], some (82, true)⟩, ⟨some 86, .pick (.t 82) (.t 85) (.v (.bool false)), none⟩, ⟨some 2, .mv (.t 86), none⟩])
 .ret)))))
noncomputable def X.i_IsRules (p0 : TRules) : Option Bool :=
  ((X.i_inRange (p0.Terrains.length : Int) 1 6).bind fun v7 => (bif (!v7) then some false else ((X.i_inRange (p0.Kinds.length : Int) 1 4).bind fun v10 => (bif (!v10) then some false else ((loop (fun (x70 : Int) => ((bif (decide (x70 < (p0.Terrains.length : Int))) then ((at' zTTerrain p0.Terrains x70).bind fun v73 => ((X.i_goodTerrain v73 (p0.Kinds.length : Int)).bind fun v75 => (bif (!v75) then some (Sum.inr (Sum.inr false)) else ((X.i_terrainIndex p0.Terrains v73.Name).bind fun v78 => (bif (v78 != x70) then some (Sum.inr (Sum.inr false)) else some (Sum.inl (W (x70 + 1)))))))) else some (Sum.inr (Sum.inl ()))) : Option (Int ⊕ (Unit ⊕ Bool)))) 0).bind fun y81 => (Sum.elim (fun (y83 : Unit) => ((loop (fun (x142 : Int) => ((bif (decide (x142 < (p0.Kinds.length : Int))) then ((at' zTKind p0.Kinds x142).bind fun v145 => ((X.i_goodKind v145).bind fun v147 => (bif (!v147) then some (Sum.inr (Sum.inr false)) else ((X.i_kindIndex p0.Kinds v145.Name).bind fun v150 => (bif (v150 != x142) then some (Sum.inr (Sum.inr false)) else some (Sum.inl (W (x142 + 1)))))))) else some (Sum.inr (Sum.inl ()))) : Option (Int ⊕ (Unit ⊕ Bool)))) 0).bind fun y153 => (Sum.elim (fun (y155 : Unit) => ((X.i_inRange p0.Stack 1 4).bind fun v157 => (bif v157 then ((X.i_inRange p0.River 0 9).bind fun v160 => (bif v160 then ((X.i_inRange p0.Road 1 9).bind fun v163 => (bif v163 then ((X.i_inRange p0.Supply 0 20).bind fun v166 => (bif v166 then ((X.i_inRange p0.Turns 1 30).bind fun v169 => some v169) else some false)) else some false)) else some false)) else some false))) (fun (y156 : Bool) => some y156) y153))) (fun (y84 : Bool) => some y84) y81))))))
theorem i_IsRules_ok (p0 : TRules) (r : Bool) (H : X.i_IsRules p0 = some r) : FnOk Tryd.prog gl 52 [.agg (eTRules p0)] (cB r) := by
  unfold X.i_IsRules at H
  refine fn_in (fn := Tryd.f52) (ir := i_IsRules_ir) (s1 := lit [(2, cB r)] []) glL Tryd.func52 (by kernel_rfl) (by kernel_rfl) (by kernel_rfl) (by kernel_rfl) (by kernel_rfl) ?_
  refine seq_ops [] [] [(1, .c (.pk 1 0))] [(1, .var (eTRules p0) false)] (fun t => t) (by kernel_rfl) ?_
  refine seq_in ?_
  obtain ⟨v7, h8, H⟩ := ofBind H
  rcases ofCond H with ⟨c9, H⟩ | ⟨c9, H⟩
  · refine seq_ops [.res (cB v7), .g true, .g true, .g true, .g true, .g true, .g true] [] [(1, .c (.pk 1 0)), (18, cB true)] [(1, .var (eTRules p0) false)] (fun t => lI p0.Terrains (aI (i_inRange_ok (p0.Terrains.length : Int) 1 6 v7 h8) (aI c9 (aI c9 (aI c9 (aI c9 (aI c9 (aI c9 (t))))))))) (by kernel_rfl) ?_
    refine ite_t (rfl : (true : Bool) = true) (by kernel_rfl) ?_
    refine seq_ops [] [] [(2, cB false)] [] (fun t => t) (by kernel_rfl) ?_
    refine ends_ret ?_
    obtain rfl := Option.some.inj H
    exact And.intro (.inl rfl) rfl
  · obtain ⟨v10, h11, H⟩ := ofBind H
    refine seq_ops [.res (cB v7), .g false, .g false, .g false, .g false, .res (cB v10), .g false, .g false] [] [(1, .c (.pk 1 0)), (18, cB (!v10))] [(1, .var (eTRules p0) false)] (fun t => lI p0.Terrains (aI (i_inRange_ok (p0.Terrains.length : Int) 1 6 v7 h8) (aI c9 (aI c9 (aI c9 (lI p0.Kinds (aI c9 (aI (i_inRange_ok (p0.Kinds.length : Int) 1 4 v10 h11) (aI c9 (aI c9 (t))))))))))) (by kernel_rfl) ?_
    rcases ofCond H with ⟨c12, H⟩ | ⟨c12, H⟩
    · refine ite_t c12 (by kernel_rfl) ?_
      refine seq_ops [] [] [(2, cB false)] [] (fun t => t) (by kernel_rfl) ?_
      refine ends_ret ?_
      obtain rfl := Option.some.inj H
      exact And.intro (.inl rfl) rfl
    · refine ite_f c12 (by kernel_rfl) ?_
      refine ends_skip ?_
      change EndsI _ _ _ _ _ _
      refine seq_in ?_
      refine seq_ops [] [] [(1, .c (.pk 1 0)), (20, .c (dat 5 eTTerrain zTTerrain p0.Terrains)), (21, cI (p0.Terrains.length : Int)), (22, cI 0)] [(1, .var (eTRules p0) false)] (fun t => lI p0.Terrains (t)) (by kernel_rfl) ?_
      refine ends_blk ?_
      obtain ⟨y81, h82, H⟩ := ofBind H
      refine loop_in (fun (x : Int) => lit [(1, .c (.pk 1 0)), (20, .c (dat 5 eTTerrain zTTerrain p0.Terrains)), (21, cI (p0.Terrains.length : Int)), (22, cI x)] [(1, .var (eTRules p0) false)]) (orJ (fun (z : Unit) => At (.exit 0) (lit [(1, .c (.pk 1 0))] [(1, .var (eTRules p0) false)])) (fun (z : Bool) => At .ret (lit [(2, cB z)] []))) h82 ?_ ?_
      · clear H h82
        intro x70 y0 H
        refine seq_ops [] [] [(1, .c (.pk 1 0)), (20, .c (dat 5 eTTerrain zTTerrain p0.Terrains)), (21, cI (p0.Terrains.length : Int)), (22, cI x70), (23, cB (decide (x70 < (p0.Terrains.length : Int))))] [(1, .var (eTRules p0) false)] (fun t => t) (by kernel_rfl) ?_
        refine seq_in ?_
        rcases ofCond H with ⟨c72, H⟩ | ⟨c72, H⟩
        · refine ite_t c72 (by kernel_rfl) ?_
          refine ends_skip ?_
          change EndsI _ _ _ _ _ _
          refine seq_in ?_
          refine ends_blk ?_
          obtain ⟨v73, h74, H⟩ := ofBind H
          refine seq_ops [.cs (eTTerrain v73)] [] [(1, .c (.pk 1 0)), (3, cI x70), (4, .c (.pk 4 0)), (20, .c (dat 5 eTTerrain zTTerrain p0.Terrains)), (21, cI (p0.Terrains.length : Int)), (22, cI x70)] [(1, .var (eTRules p0) false), (4, .var (eTTerrain v73) false)] (fun t => aI (at_lt h74) (aI (at_enc (enc := eTTerrain) h74) (t))) (by kernel_rfl) ?_
          obtain ⟨v75, h76, H⟩ := ofBind H
          rcases ofCond H with ⟨c77, H⟩ | ⟨c77, H⟩
          · refine seq_ops [.res (cB v75), .g true, .g true, .g true, .g true, .g true, .g true, .g true, .g true] [] [(1, .c (.pk 1 0)), (20, .c (dat 5 eTTerrain zTTerrain p0.Terrains)), (21, cI (p0.Terrains.length : Int)), (22, cI x70), (41, cB true)] [(1, .var (eTRules p0) false)] (fun t => lI p0.Kinds (aI (i_goodTerrain_ok v73 (p0.Kinds.length : Int) v75 h76) (aI c77 (aI c77 (aI c77 (aI c77 (aI c77 (aI c77 (aI c77 (aI c77 (t))))))))))) (by kernel_rfl) ?_
            refine ite_t (rfl : (true : Bool) = true) (by kernel_rfl) ?_
            refine seq_ops [] [] [(2, cB false)] [] (fun t => t) (by kernel_rfl) ?_
            refine ends_ret ?_
            obtain rfl := Option.some.inj H
            exact And.intro (by simp) (And.intro rfl rfl)
          · obtain ⟨v78, h79, H⟩ := ofBind H
            refine seq_ops [.res (cB v75), .g false, .g false, .g false, .g false, .g false, .res (cI v78), .g false, .g false, .g false] [] [(1, .c (.pk 1 0)), (20, .c (dat 5 eTTerrain zTTerrain p0.Terrains)), (21, cI (p0.Terrains.length : Int)), (22, cI x70), (41, cB (v78 != x70))] [(1, .var (eTRules p0) false)] (fun t => lI p0.Kinds (aI (i_goodTerrain_ok v73 (p0.Kinds.length : Int) v75 h76) (aI c77 (aI c77 (aI c77 (aI c77 (aI c77 (aI (i_terrainIndex_ok p0.Terrains v73.Name v78 h79) (aI c77 (aI c77 (aI c77 (t)))))))))))) (by kernel_rfl) ?_
            rcases ofCond H with ⟨c80, H⟩ | ⟨c80, H⟩
            · refine ite_t c80 (by kernel_rfl) ?_
              refine seq_ops [] [] [(2, cB false)] [] (fun t => t) (by kernel_rfl) ?_
              refine ends_ret ?_
              obtain rfl := Option.some.inj H
              exact And.intro (by simp) (And.intro rfl rfl)
            · refine ite_f c80 (by kernel_rfl) ?_
              refine ends_skip ?_
              change EndsI _ _ _ _ _ _
              refine one_ops [] [] [(1, .c (.pk 1 0)), (20, .c (dat 5 eTTerrain zTTerrain p0.Terrains)), (21, cI (p0.Terrains.length : Int)), (22, cI (W (x70 + 1)))] [(1, .var (eTRules p0) false)] (fun t => t) (by kernel_rfl) ?_
              obtain rfl := Option.some.inj H
              exact And.intro rfl rfl
        · refine ite_f c72 (by kernel_rfl) ?_
          refine tell [] [(1, .c (.pk 1 0))] [(1, .var (eTRules p0) false)] (fun t => t) (by kernel_rfl) ?_
          refine ends_exit ?_
          obtain rfl := Option.some.inj H
          exact And.intro (by simp) (And.intro rfl rfl)
      · clear h82
        cases y81 with
        | inl y83 =>
          replace H := ofInl H
          intro e s q
          obtain ⟨rfl, rfl⟩ := q
          change EndsI _ _ _ _ _ _
          refine seq_in ?_
          refine seq_ops [] [] [(1, .c (.pk 1 0)), (44, .c (dat 6 eTKind zTKind p0.Kinds)), (45, cI (p0.Kinds.length : Int)), (46, cI 0)] [(1, .var (eTRules p0) false)] (fun t => lI p0.Kinds (t)) (by kernel_rfl) ?_
          refine ends_blk ?_
          obtain ⟨y153, h154, H⟩ := ofBind H
          refine loop_in (fun (x : Int) => lit [(1, .c (.pk 1 0)), (44, .c (dat 6 eTKind zTKind p0.Kinds)), (45, cI (p0.Kinds.length : Int)), (46, cI x)] [(1, .var (eTRules p0) false)]) (orJ (fun (z : Unit) => At (.exit 2) (lit [(1, .c (.pk 1 0))] [(1, .var (eTRules p0) false)])) (fun (z : Bool) => At .ret (lit [(2, cB z)] []))) h154 ?_ ?_
          · clear H h154
            intro x142 y0 H
            refine seq_ops [] [] [(1, .c (.pk 1 0)), (44, .c (dat 6 eTKind zTKind p0.Kinds)), (45, cI (p0.Kinds.length : Int)), (46, cI x142), (47, cB (decide (x142 < (p0.Kinds.length : Int))))] [(1, .var (eTRules p0) false)] (fun t => t) (by kernel_rfl) ?_
            refine seq_in ?_
            rcases ofCond H with ⟨c144, H⟩ | ⟨c144, H⟩
            · refine ite_t c144 (by kernel_rfl) ?_
              refine ends_skip ?_
              change EndsI _ _ _ _ _ _
              refine seq_in ?_
              refine ends_blk ?_
              obtain ⟨v145, h146, H⟩ := ofBind H
              refine seq_ops [.cs (eTKind v145)] [] [(1, .c (.pk 1 0)), (5, cI x142), (6, .c (.pk 6 0)), (44, .c (dat 6 eTKind zTKind p0.Kinds)), (45, cI (p0.Kinds.length : Int)), (46, cI x142)] [(1, .var (eTRules p0) false), (6, .var (eTKind v145) false)] (fun t => aI (at_lt h146) (aI (at_enc (enc := eTKind) h146) (t))) (by kernel_rfl) ?_
              obtain ⟨v147, h148, H⟩ := ofBind H
              rcases ofCond H with ⟨c149, H⟩ | ⟨c149, H⟩
              · refine seq_ops [.res (cB v147), .g true, .g true, .g true, .g true, .g true, .g true, .g true, .g true] [] [(1, .c (.pk 1 0)), (44, .c (dat 6 eTKind zTKind p0.Kinds)), (45, cI (p0.Kinds.length : Int)), (46, cI x142), (62, cB true)] [(1, .var (eTRules p0) false)] (fun t => aI (i_goodKind_ok v145 v147 h148) (aI c149 (aI c149 (aI c149 (aI c149 (aI c149 (aI c149 (aI c149 (aI c149 (t)))))))))) (by kernel_rfl) ?_
                refine ite_t (rfl : (true : Bool) = true) (by kernel_rfl) ?_
                refine seq_ops [] [] [(2, cB false)] [] (fun t => t) (by kernel_rfl) ?_
                refine ends_ret ?_
                obtain rfl := Option.some.inj H
                exact And.intro (by simp) (And.intro rfl rfl)
              · obtain ⟨v150, h151, H⟩ := ofBind H
                refine seq_ops [.res (cB v147), .g false, .g false, .g false, .g false, .g false, .res (cI v150), .g false, .g false, .g false] [] [(1, .c (.pk 1 0)), (44, .c (dat 6 eTKind zTKind p0.Kinds)), (45, cI (p0.Kinds.length : Int)), (46, cI x142), (62, cB (v150 != x142))] [(1, .var (eTRules p0) false)] (fun t => aI (i_goodKind_ok v145 v147 h148) (aI c149 (aI c149 (aI c149 (aI c149 (aI c149 (aI (i_kindIndex_ok p0.Kinds v145.Name v150 h151) (aI c149 (aI c149 (aI c149 (t))))))))))) (by kernel_rfl) ?_
                rcases ofCond H with ⟨c152, H⟩ | ⟨c152, H⟩
                · refine ite_t c152 (by kernel_rfl) ?_
                  refine seq_ops [] [] [(2, cB false)] [] (fun t => t) (by kernel_rfl) ?_
                  refine ends_ret ?_
                  obtain rfl := Option.some.inj H
                  exact And.intro (by simp) (And.intro rfl rfl)
                · refine ite_f c152 (by kernel_rfl) ?_
                  refine ends_skip ?_
                  change EndsI _ _ _ _ _ _
                  refine one_ops [] [] [(1, .c (.pk 1 0)), (44, .c (dat 6 eTKind zTKind p0.Kinds)), (45, cI (p0.Kinds.length : Int)), (46, cI (W (x142 + 1)))] [(1, .var (eTRules p0) false)] (fun t => t) (by kernel_rfl) ?_
                  obtain rfl := Option.some.inj H
                  exact And.intro rfl rfl
            · refine ite_f c144 (by kernel_rfl) ?_
              refine tell [] [(1, .c (.pk 1 0))] [(1, .var (eTRules p0) false)] (fun t => t) (by kernel_rfl) ?_
              refine ends_exit ?_
              obtain rfl := Option.some.inj H
              exact And.intro (by simp) (And.intro rfl rfl)
          · clear h154
            cases y153 with
            | inl y155 =>
              replace H := ofInl H
              intro e s q
              obtain ⟨rfl, rfl⟩ := q
              change EndsI _ _ _ _ _ _
              obtain ⟨v157, h158, H⟩ := ofBind H
              rcases ofCond H with ⟨c159, H⟩ | ⟨c159, H⟩
              · obtain ⟨v160, h161, H⟩ := ofBind H
                rcases ofCond H with ⟨c162, H⟩ | ⟨c162, H⟩
                · obtain ⟨v163, h164, H⟩ := ofBind H
                  rcases ofCond H with ⟨c165, H⟩ | ⟨c165, H⟩
                  · obtain ⟨v166, h167, H⟩ := ofBind H
                    rcases ofCond H with ⟨c168, H⟩ | ⟨c168, H⟩
                    · obtain ⟨v169, h170, H⟩ := ofBind H
                      refine seq_ops [.res (cB v157), .g true, .g true, .g true, .res (cB v160), .g true, .g true, .g true, .g true, .res (cB v163), .g true, .g true, .g true, .g true, .res (cB v166), .g true, .g true, .g true, .g true, .res (cB v169), .g true] [] [(2, cB v169)] [] (fun t => aI (i_inRange_ok p0.Stack 1 4 v157 h158) (aI c159 (aI c159 (aI c159 (aI (i_inRange_ok p0.River 0 9 v160 h161) (aI c159 (aI c162 (aI c162 (aI c162 (aI (i_inRange_ok p0.Road 1 9 v163 h164) (aI c162 (aI c165 (aI c165 (aI c165 (aI (i_inRange_ok p0.Supply 0 20 v166 h167) (aI c165 (aI c168 (aI c168 (aI c168 (aI (i_inRange_ok p0.Turns 1 30 v169 h170) (aI c168 (t)))))))))))))))))))))) (by kernel_rfl) ?_
                      refine ends_ret ?_
                      obtain rfl := Option.some.inj H
                      exact And.intro (.inl rfl) rfl
                    · refine seq_ops [.res (cB v157), .g true, .g true, .g true, .res (cB v160), .g true, .g true, .g true, .g true, .res (cB v163), .g true, .g true, .g true, .g true, .res (cB v166), .g true, .g false, .g false, .g false, .g false] [] [(2, cB false)] [] (fun t => aI (i_inRange_ok p0.Stack 1 4 v157 h158) (aI c159 (aI c159 (aI c159 (aI (i_inRange_ok p0.River 0 9 v160 h161) (aI c159 (aI c162 (aI c162 (aI c162 (aI (i_inRange_ok p0.Road 1 9 v163 h164) (aI c162 (aI c165 (aI c165 (aI c165 (aI (i_inRange_ok p0.Supply 0 20 v166 h167) (aI c165 (aI c168 (aI c168 (aI c168 (aI c168 (t))))))))))))))))))))) (by kernel_rfl) ?_
                      refine ends_ret ?_
                      obtain rfl := Option.some.inj H
                      exact And.intro (.inl rfl) rfl
                  · refine seq_ops [.res (cB v157), .g true, .g true, .g true, .res (cB v160), .g true, .g true, .g true, .g true, .res (cB v163), .g true, .g false, .g false, .g false, .g false, .g false, .g false, .g false, .g false] [] [(2, cB false)] [] (fun t => aI (i_inRange_ok p0.Stack 1 4 v157 h158) (aI c159 (aI c159 (aI c159 (aI (i_inRange_ok p0.River 0 9 v160 h161) (aI c159 (aI c162 (aI c162 (aI c162 (aI (i_inRange_ok p0.Road 1 9 v163 h164) (aI c162 (aI c165 (aI c165 (aI c165 (aI c165 (aI (rfl : (false : Bool) = false) (aI (rfl : (false : Bool) = false) (aI (rfl : (false : Bool) = false) (aI (rfl : (false : Bool) = false) (t)))))))))))))))))))) (by kernel_rfl) ?_
                    refine ends_ret ?_
                    obtain rfl := Option.some.inj H
                    exact And.intro (.inl rfl) rfl
                · refine seq_ops [.res (cB v157), .g true, .g true, .g true, .res (cB v160), .g true, .g false, .g false, .g false, .g false, .g false, .g false, .g false, .g false, .g false, .g false, .g false, .g false] [] [(2, cB false)] [] (fun t => aI (i_inRange_ok p0.Stack 1 4 v157 h158) (aI c159 (aI c159 (aI c159 (aI (i_inRange_ok p0.River 0 9 v160 h161) (aI c159 (aI c162 (aI c162 (aI c162 (aI c162 (aI (rfl : (false : Bool) = false) (aI (rfl : (false : Bool) = false) (aI (rfl : (false : Bool) = false) (aI (rfl : (false : Bool) = false) (aI (rfl : (false : Bool) = false) (aI (rfl : (false : Bool) = false) (aI (rfl : (false : Bool) = false) (aI (rfl : (false : Bool) = false) (t))))))))))))))))))) (by kernel_rfl) ?_
                  refine ends_ret ?_
                  obtain rfl := Option.some.inj H
                  exact And.intro (.inl rfl) rfl
              · refine seq_ops [.res (cB v157), .g false, .g false, .g false, .g false, .g false, .g false, .g false, .g false, .g false, .g false, .g false, .g false, .g false, .g false, .g false, .g false] [] [(2, cB false)] [] (fun t => aI (i_inRange_ok p0.Stack 1 4 v157 h158) (aI c159 (aI c159 (aI c159 (aI c159 (aI (rfl : (false : Bool) = false) (aI (rfl : (false : Bool) = false) (aI (rfl : (false : Bool) = false) (aI (rfl : (false : Bool) = false) (aI (rfl : (false : Bool) = false) (aI (rfl : (false : Bool) = false) (aI (rfl : (false : Bool) = false) (aI (rfl : (false : Bool) = false) (aI (rfl : (false : Bool) = false) (aI (rfl : (false : Bool) = false) (aI (rfl : (false : Bool) = false) (aI (rfl : (false : Bool) = false) (t)))))))))))))))))) (by kernel_rfl) ?_
                refine ends_ret ?_
                obtain rfl := Option.some.inj H
                exact And.intro (.inl rfl) rfl
            | inr y156 =>
              replace H := ofInr H
              intro e s q
              obtain ⟨rfl, rfl⟩ := q
              obtain rfl := Option.some.inj H
              exact And.intro (.inl rfl) rfl
        | inr y84 =>
          replace H := ofInr H
          intro e s q
          obtain ⟨rfl, rfl⟩ := q
          obtain rfl := Option.some.inj H
          exact And.intro (.inl rfl) rfl

def i_isIndex_ir : S :=
 (.seq (.ops [⟨some 4, .mv (.v (.bool false)), none⟩])
 (.seq (.ops [⟨some 5, .mv (.t 0), none⟩, ⟨some 6, .mv (.t 1), none⟩, ⟨some 7, .bin .sub (.t 6) (.v (.int .i64 1)), none⟩, ⟨some 8, .call 34 [.t 5, .v (.int .i64 0), .t 7], none⟩, ⟨some 4, .mv (.t 8), none⟩])
 .ret))
noncomputable def X.i_isIndex (p0 : Int) (p1 : Int) : Option Bool :=
  ((X.i_inRange p0 0 (W (p1 - 1))).bind fun v1 => some v1)
theorem i_isIndex_ok (p0 : Int) (p1 : Int) (r : Bool) (H : X.i_isIndex p0 p1 = some r) : FnOk Tryd.prog gl 71 [cI p0, cI p1] (cB r) := by
  unfold X.i_isIndex at H
  refine fn_in (fn := Tryd.f71) (ir := i_isIndex_ir) (s1 := lit [(4, cB r)] []) glL Tryd.func71 (by kernel_rfl) (by kernel_rfl) (by kernel_rfl) (by kernel_rfl) (by kernel_rfl) ?_
  refine seq_ops [] [] [(0, cI p0), (1, cI p1)] [] (fun t => t) (by kernel_rfl) ?_
  obtain ⟨v1, h2, H⟩ := ofBind H
  refine seq_ops [.res (cB v1)] [] [(4, cB v1)] [] (fun t => aI (i_inRange_ok p0 0 (W (p1 - 1)) v1 h2) (t)) (by kernel_rfl) ?_
  refine ends_ret ?_
  obtain rfl := Option.some.inj H
  exact And.intro (.inl rfl) rfl

def i_increasing_ir : S :=
 (.seq (.ops [⟨some 2, .mv (.v (.bool false)), none⟩])
 (.seq (.seq (.ops [⟨some 3, .mv (.v (.int .i64 1)), none⟩])
 (.blk 0 (.loop (.seq (.seq (.ops [⟨some 4, .mv (.t 3), none⟩, ⟨some 5, .mv (.t 0), none⟩, ⟨some 6, .len (.t 5), none⟩, ⟨some 7, .bin .lss (.t 4) (.t 6), none⟩])
   (.ite (.t 7) .skip
   (.exit 0)))
   (.seq (.blk 1 (.seq (.draw 10 [⟨some 10, .mv (.t 0), none⟩, ⟨some 11, .mv (.t 3), none⟩, ⟨some 12, .bin .sub (.t 11) (.v (.int .i64 1)), none⟩, ⟨some 13, .iad 1 (.t 10) (.t 12), none⟩, ⟨some 14, .load 1 false (.t 13), none⟩, ⟨some 15, .mv (.t 0), none⟩, ⟨some 16, .mv (.t 3), none⟩, ⟨some 17, .iad 1 (.t 15) (.t 16), none⟩, ⟨some 18, .load 1 false (.t 17), none⟩, ⟨some 19, .bin .geq (.t 14) (.t 18), none⟩])
    (.ite (.t 19) (.seq (.ops [⟨some 2, .mv (.v (.bool false)), none⟩])
     .ret)
    .skip)))
   (.ops [⟨some 8, .mv (.t 3), none⟩, ⟨some 9, .bin .add (.t 8) (.v (.int .i64 1)), none⟩, ⟨some 3, .mv (.t 9), none⟩]))))))
 (.seq (.ops [⟨some 2, .mv (.v (.bool true)), none⟩])
 .ret)))
noncomputable def X.i_increasing (p0 : (List Int)) : Option Bool :=
  ((loop (fun (x16 : Int) => ((bif (decide (x16 < (p0.length : Int))) then ((at' zI p0 (W (x16 - 1))).bind fun v19 => ((at' zI p0 x16).bind fun v21 => (bif (decide (v19 ≥ v21)) then some (Sum.inr (Sum.inr false)) else some (Sum.inl (W (x16 + 1)))))) else some (Sum.inr (Sum.inl ()))) : Option (Int ⊕ (Unit ⊕ Bool)))) 1).bind fun y24 => (Sum.elim (fun (y26 : Unit) => some true) (fun (y27 : Bool) => some y27) y24))
theorem i_increasing_ok (p0 : (List Int)) (r : Bool) (H : X.i_increasing p0 = some r) : FnOk Tryd.prog gl 72 [.c (dat 1 eI zI p0)] (cB r) := by
  unfold X.i_increasing at H
  refine fn_in (fn := Tryd.f72) (ir := i_increasing_ir) (s1 := lit [(2, cB r)] []) glL Tryd.func72 (by kernel_rfl) (by kernel_rfl) (by kernel_rfl) (by kernel_rfl) (by kernel_rfl) ?_
  refine seq_ops [] [] [(0, .c (dat 1 eI zI p0))] [] (fun t => t) (by kernel_rfl) ?_
  refine seq_in ?_
  refine seq_ops [] [] [(0, .c (dat 1 eI zI p0)), (3, cI 1)] [] (fun t => t) (by kernel_rfl) ?_
  refine ends_blk ?_
  obtain ⟨y24, h25, H⟩ := ofBind H
  refine loop_in (fun (x : Int) => lit [(0, .c (dat 1 eI zI p0)), (3, cI x)] []) (orJ (fun (z : Unit) => At (.exit 0) (lit [] [])) (fun (z : Bool) => At .ret (lit [(2, cB z)] []))) h25 ?_ ?_
  · clear H h25
    intro x16 y0 H
    refine seq_in ?_
    refine seq_ops [] [] [(0, .c (dat 1 eI zI p0)), (3, cI x16), (7, cB (decide (x16 < (p0.length : Int))))] [] (fun t => lI p0 (t)) (by kernel_rfl) ?_
    rcases ofCond H with ⟨c18, H⟩ | ⟨c18, H⟩
    · refine ite_t c18 (by kernel_rfl) ?_
      refine ends_skip ?_
      change EndsI _ _ _ _ _ _
      refine seq_in ?_
      refine ends_blk ?_
      obtain ⟨v19, h20, H⟩ := ofBind H
      obtain ⟨v21, h22, H⟩ := ofBind H
      refine seq_draw [.cs (eI v19), .cs (eI v21)] [] [(0, .c (dat 1 eI zI p0)), (3, cI x16), (19, cB (decide (v19 ≥ v21)))] [] (fun t => aI (at_lt h20) (aI (at_enc (enc := eI) h20) (aI (rfl : ([] : List Nat) = []) (aI (at_lt h22) (aI (at_enc (enc := eI) h22) (aI (rfl : ([] : List Nat) = []) (t))))))) (by kernel_rfl) ?_
      rcases ofCond H with ⟨c23, H⟩ | ⟨c23, H⟩
      · refine ite_t c23 (by kernel_rfl) ?_
        refine seq_ops [] [] [(2, cB false)] [] (fun t => t) (by kernel_rfl) ?_
        refine ends_ret ?_
        obtain rfl := Option.some.inj H
        exact And.intro (by simp) (And.intro rfl rfl)
      · refine ite_f c23 (by kernel_rfl) ?_
        refine ends_skip ?_
        change EndsI _ _ _ _ _ _
        refine one_ops [] [] [(0, .c (dat 1 eI zI p0)), (3, cI (W (x16 + 1)))] [] (fun t => t) (by kernel_rfl) ?_
        obtain rfl := Option.some.inj H
        exact And.intro rfl rfl
    · refine ite_f c18 (by kernel_rfl) ?_
      refine tell [] [] [] (fun t => t) (by kernel_rfl) ?_
      refine ends_exit ?_
      obtain rfl := Option.some.inj H
      exact And.intro (by simp) (And.intro rfl rfl)
  · clear h25
    cases y24 with
    | inl y26 =>
      replace H := ofInl H
      intro e s q
      obtain ⟨rfl, rfl⟩ := q
      change EndsI _ _ _ _ _ _
      refine seq_ops [] [] [(2, cB true)] [] (fun t => t) (by kernel_rfl) ?_
      refine ends_ret ?_
      obtain rfl := Option.some.inj H
      exact And.intro (.inl rfl) rfl
    | inr y27 =>
      replace H := ofInr H
      intro e s q
      obtain ⟨rfl, rfl⟩ := q
      obtain rfl := Option.some.inj H
      exact And.intro (.inl rfl) rfl

def i_indexOf_ir : S :=
 (.seq (.ops [⟨some 2, .box 5 (.t 0), none⟩, ⟨some 3, .box 2 (.t 1), none⟩, ⟨some 4, .mv (.v (.int .i64 0)), none⟩])
 (.seq (.seq (.ops [⟨some 5, .fad 0 (.t 3), none⟩, ⟨some 6, .load 1 false (.t 5), none⟩, ⟨some 7, .fad 0 (.t 2), none⟩, ⟨some 8, .load 1 false (.t 7), none⟩, ⟨some 9, .call 71 [.t 6, .t 8], none⟩, ⟨some 10, .not (.t 9), none⟩, ⟨some 11, .mv (.t 10), none⟩, ⟨some 12, .fad 1 (.t 3), some (11, false)⟩, ⟨some 13, .load 1 false (.t 12), some (11, false)⟩, ⟨some 14, .fad 1 (.t 2), some (11, false)⟩, ⟨some 15, .load 1 false (.t 14), some (11, false)⟩, ⟨some 16, .call 71 [.t 13, .t 15], some (11, false)⟩, ⟨some 17, .not (.t 16), some (11, false)⟩, ⟨some 18, .pick (.t 11) (.v (.bool true)) (.t 17), none⟩])
 (.ite (.t 18) (.seq (.ops [⟨some 4, .mv (.v (.int .i64 (-1))), none⟩])
  .ret)
 .skip))
 (.seq (.ops [⟨some 19, .fad 1 (.t 3), none⟩, ⟨some 20, .load 1 false (.t 19), none⟩, ⟨some 21, .fad 0 (.t 2), none⟩, ⟨some 22, .load 1 false (.t 21), none⟩, ⟨some 23, .bin .mul (.t 20) (.t 22), none⟩, ⟨some 24, .fad 0 (.t 3), none⟩, ⟨some 25, .load 1 false (.t 24), none⟩, ⟨some 26, .bin .add (.t 23) (.t 25), none⟩, ⟨some 4, .mv (.t 26), none⟩])
 .ret)))
noncomputable def X.i_indexOf (p0 : TMap) (p1 : THex) : Option Int :=
  ((X.i_isIndex p1.Q p0.Width).bind fun v7 => (bif (!v7) then some (-1) else ((X.i_isIndex p1.R p0.Height).bind fun v10 => (bif (!v10) then some (-1) else some (W ((W (p1.R * p0.Width)) + p1.Q))))))
theorem i_indexOf_ok (p0 : TMap) (p1 : THex) (r : Int) (H : X.i_indexOf p0 p1 = some r) : FnOk Tryd.prog gl 93 [.agg (eTMap p0), .agg (eTHex p1)] (cI r) := by
  unfold X.i_indexOf at H
  refine fn_in (fn := Tryd.f93) (ir := i_indexOf_ir) (s1 := lit [(4, cI r)] []) glL Tryd.func93 (by kernel_rfl) (by kernel_rfl) (by kernel_rfl) (by kernel_rfl) (by kernel_rfl) ?_
  refine seq_ops [] [] [(2, .c (.pk 2 0)), (3, .c (.pk 3 0))] [(2, .var (eTMap p0) false), (3, .var (eTHex p1) false)] (fun t => t) (by kernel_rfl) ?_
  refine seq_in ?_
  obtain ⟨v7, h8, H⟩ := ofBind H
  rcases ofCond H with ⟨c9, H⟩ | ⟨c9, H⟩
  · refine seq_ops [.res (cB v7), .g true, .g true, .g true, .g true, .g true, .g true, .g true] [] [(2, .c (.pk 2 0)), (3, .c (.pk 3 0)), (18, cB true)] [(2, .var (eTMap p0) false), (3, .var (eTHex p1) false)] (fun t => aI (i_isIndex_ok p1.Q p0.Width v7 h8) (aI c9 (aI c9 (aI c9 (aI c9 (aI c9 (aI c9 (aI c9 (t))))))))) (by kernel_rfl) ?_
    refine ite_t (rfl : (true : Bool) = true) (by kernel_rfl) ?_
    refine seq_ops [] [] [(4, cI (-1))] [] (fun t => t) (by kernel_rfl) ?_
    refine ends_ret ?_
    obtain rfl := Option.some.inj H
    exact And.intro (.inl rfl) rfl
  · obtain ⟨v10, h11, H⟩ := ofBind H
    refine seq_ops [.res (cB v7), .g false, .g false, .g false, .g false, .g false, .res (cB v10), .g false, .g false] [] [(2, .c (.pk 2 0)), (3, .c (.pk 3 0)), (18, cB (!v10))] [(2, .var (eTMap p0) false), (3, .var (eTHex p1) false)] (fun t => aI (i_isIndex_ok p1.Q p0.Width v7 h8) (aI c9 (aI c9 (aI c9 (aI c9 (aI c9 (aI (i_isIndex_ok p1.R p0.Height v10 h11) (aI c9 (aI c9 (t)))))))))) (by kernel_rfl) ?_
    rcases ofCond H with ⟨c12, H⟩ | ⟨c12, H⟩
    · refine ite_t c12 (by kernel_rfl) ?_
      refine seq_ops [] [] [(4, cI (-1))] [] (fun t => t) (by kernel_rfl) ?_
      refine ends_ret ?_
      obtain rfl := Option.some.inj H
      exact And.intro (.inl rfl) rfl
    · refine ite_f c12 (by kernel_rfl) ?_
      refine ends_skip ?_
      change EndsI _ _ _ _ _ _
      refine seq_ops [] [] [(4, cI (W ((W (p1.R * p0.Width)) + p1.Q)))] [] (fun t => t) (by kernel_rfl) ?_
      refine ends_ret ?_
      obtain rfl := Option.some.inj H
      exact And.intro (.inl rfl) rfl

def i_stepBy_ir : S :=
 (.seq (.ops [⟨some 3, .box 2 (.t 0), none⟩, ⟨some 6, .alloc [.int .i64 0, .int .i64 0], none⟩])
 (.seq (.draw 19 [⟨some 7, .fad 0 (.t 3), none⟩, ⟨some 8, .load 1 false (.t 7), none⟩, ⟨some 9, .mv (.t 2), none⟩, ⟨some 10, .mv (.t 1), none⟩, ⟨some 11, .iar 6 2 (.g 0) (.t 10), none⟩, ⟨some 12, .fad 0 (.t 11), none⟩, ⟨some 13, .load 1 false (.t 12), none⟩, ⟨some 14, .bin .mul (.t 9) (.t 13), none⟩, ⟨some 15, .bin .add (.t 8) (.t 14), none⟩, ⟨some 16, .fad 1 (.t 3), none⟩, ⟨some 17, .load 1 false (.t 16), none⟩, ⟨some 18, .mv (.t 2), none⟩, ⟨some 19, .mv (.t 1), none⟩, ⟨some 20, .iar 6 2 (.g 0) (.t 19), none⟩, ⟨some 21, .fad 1 (.t 20), none⟩, ⟨some 22, .load 1 false (.t 21), none⟩, ⟨some 23, .bin .mul (.t 18) (.t 22), none⟩, ⟨some 24, .bin .add (.t 17) (.t 23), none⟩, ⟨some 25, .build [.int .i64 0, .int .i64 0] [(0, 1, .t 15), (1, 1, .t 24)], none⟩, ⟨none, .store 2 (.t 6) (.t 25), none⟩])
 .ret))
noncomputable def X.i_stepBy (p0 : THex) (p1 : Int) (p2 : Int) : Option THex :=
  ((at' zTHex dirs p1).bind fun v1 => some (THex.mk (W (p0.Q + (W (p2 * v1.Q)))) (W (p0.R + (W (p2 * v1.R))))))
theorem i_stepBy_ok (p0 : THex) (p1 : Int) (p2 : Int) (r : THex) (H : X.i_stepBy p0 p1 p2 = some r) : FnOk Tryd.prog gl 94 [.agg (eTHex p0), cI p1, cI p2] (.agg (eTHex r)) := by
  unfold X.i_stepBy at H
  refine fn_in (fn := Tryd.f94) (ir := i_stepBy_ir) (s1 := lit [(6, .c (.pk 6 0))] [(6, .var (eTHex r) false)]) glL Tryd.func94 (by kernel_rfl) (by kernel_rfl) (by kernel_rfl) (by kernel_rfl) (by kernel_rfl) ?_
  refine seq_ops [] [] [(1, cI p1), (2, cI p2), (3, .c (.pk 3 0)), (6, .c (.pk 6 0))] [(3, .var (eTHex p0) false), (6, .var [.int .i64 0, .int .i64 0] false)] (fun t => t) (by kernel_rfl) ?_
  obtain ⟨v1, h2, H⟩ := ofBind H
  refine seq_draw [.cs (eTHex v1), .cs (eTHex v1)] [] [(6, .c (.pk 6 0))] [(6, .var [.int .i64 (W (p0.Q + (W (p2 * v1.Q)))), .int .i64 (W (p0.R + (W (p2 * v1.R))))] false)] (fun t => aI (at_lt h2) (aI (dirs_at h2) (aI (rfl : ([] : List Nat) = []) (aI (at_lt h2) (aI (dirs_at h2) (aI (rfl : ([] : List Nat) = []) (t))))))) (by kernel_rfl) ?_
  refine ends_ret ?_
  obtain rfl := Option.some.inj H
  exact And.intro (.inl rfl) rfl

def i_hexOf_ir : S :=
 (.seq (.ops [⟨some 2, .box 5 (.t 0), none⟩, ⟨some 4, .alloc [.int .i64 0, .int .i64 0], none⟩])
 (.seq (.draw 9 [⟨some 5, .mv (.t 1), none⟩, ⟨some 6, .fad 0 (.t 2), none⟩, ⟨some 7, .load 1 false (.t 6), none⟩, ⟨some 8, .bin .rem (.t 5) (.t 7), none⟩, ⟨some 9, .mv (.t 1), none⟩, ⟨some 10, .fad 0 (.t 2), none⟩, ⟨some 11, .load 1 false (.t 10), none⟩, ⟨some 12, .bin .quo (.t 9) (.t 11), none⟩, ⟨some 13, .build [.int .i64 0, .int .i64 0] [(0, 1, .t 8), (1, 1, .t 12)], none⟩, ⟨none, .store 2 (.t 4) (.t 13), none⟩])
 .ret))
noncomputable def X.i_hexOf (p0 : TMap) (p1 : Int) : Option THex :=
  (if p0.Width ≠ 0 then (if p0.Width ≠ 0 then some (THex.mk (Int.tmod p1 p0.Width) (W (Int.tdiv p1 p0.Width))) else none) else none)
theorem i_hexOf_ok (p0 : TMap) (p1 : Int) (r : THex) (H : X.i_hexOf p0 p1 = some r) : FnOk Tryd.prog gl 95 [.agg (eTMap p0), cI p1] (.agg (eTHex r)) := by
  unfold X.i_hexOf at H
  refine fn_in (fn := Tryd.f95) (ir := i_hexOf_ir) (s1 := lit [(4, .c (.pk 4 0))] [(4, .var (eTHex r) false)]) glL Tryd.func95 (by kernel_rfl) (by kernel_rfl) (by kernel_rfl) (by kernel_rfl) (by kernel_rfl) ?_
  refine seq_ops [] [] [(1, cI p1), (2, .c (.pk 2 0)), (4, .c (.pk 4 0))] [(2, .var (eTMap p0) false), (4, .var [.int .i64 0, .int .i64 0] false)] (fun t => t) (by kernel_rfl) ?_
  obtain ⟨g1, H⟩ := ofIf H
  obtain ⟨g2, H⟩ := ofIf H
  refine seq_draw [] [] [(4, .c (.pk 4 0))] [(4, .var [.int .i64 (Int.tmod p1 p0.Width), .int .i64 (W (Int.tdiv p1 p0.Width))] false)] (fun t => aI g1 (aI g2 (t))) (by kernel_rfl) ?_
  refine ends_ret ?_
  obtain rfl := Option.some.inj H
  exact And.intro (.inl rfl) rfl

def i_nextTo_ir : S :=
 (.seq (.ops [⟨some 3, .box 5 (.t 0), none⟩, ⟨some 6, .mv (.v (.int .i64 0)), none⟩])
 (.seq (.draw 8 [⟨some 7, .load 5 true (.t 3), none⟩, ⟨some 8, .load 5 true (.t 3), none⟩, ⟨some 9, .mv (.t 1), none⟩, ⟨some 10, .call 95 [.t 8, .t 9], none⟩, ⟨some 11, .mv (.t 2), none⟩, ⟨some 12, .call 94 [.t 10, .t 11, .v (.int .i64 1)], none⟩, ⟨some 13, .call 93 [.t 7, .t 12], none⟩, ⟨some 6, .mv (.t 13), none⟩])
 .ret))
noncomputable def X.i_nextTo (p0 : TMap) (p1 : Int) (p2 : Int) : Option Int :=
  ((X.i_hexOf p0 p1).bind fun v1 => ((X.i_stepBy v1 p2 1).bind fun v3 => ((X.i_indexOf p0 v3).bind fun v5 => some v5)))
theorem i_nextTo_ok (p0 : TMap) (p1 : Int) (p2 : Int) (r : Int) (H : X.i_nextTo p0 p1 p2 = some r) : FnOk Tryd.prog gl 90 [.agg (eTMap p0), cI p1, cI p2] (cI r) := by
  unfold X.i_nextTo at H
  refine fn_in (fn := Tryd.f90) (ir := i_nextTo_ir) (s1 := lit [(6, cI r)] []) glL Tryd.func90 (by kernel_rfl) (by kernel_rfl) (by kernel_rfl) (by kernel_rfl) (by kernel_rfl) ?_
  refine seq_ops [] [] [(1, cI p1), (2, cI p2), (3, .c (.pk 3 0))] [(3, .var (eTMap p0) false)] (fun t => t) (by kernel_rfl) ?_
  obtain ⟨v1, h2, H⟩ := ofBind H
  obtain ⟨v3, h4, H⟩ := ofBind H
  obtain ⟨v5, h6, H⟩ := ofBind H
  refine seq_draw [.res (.agg (eTHex v1)), .res (.agg (eTHex v3)), .res (cI v5)] [] [(6, cI v5)] [] (fun t => aI (i_hexOf_ok p0 p1 v1 h2) (aI trivial (aI (rfl : ([] : List Nat) = []) (aI (i_stepBy_ok v1 p2 1 v3 h4) (aI trivial (aI (rfl : ([] : List Nat) = []) (aI (i_indexOf_ok p0 v3 v5 h6) (aI trivial (aI (rfl : ([] : List Nat) = []) (t)))))))))) (by kernel_rfl) ?_
  refine ends_ret ?_
  obtain rfl := Option.some.inj H
  exact And.intro (.inl rfl) rfl

def i_isEdge_ir : S :=
 (.seq (.ops [⟨some 2, .box 5 (.t 0), none⟩, ⟨some 4, .mv (.v (.bool false)), none⟩])
 (.seq (.ops [⟨some 5, .mv (.t 1), none⟩, ⟨some 6, .fad 0 (.t 2), none⟩, ⟨some 7, .load 1 false (.t 6), none⟩, ⟨some 8, .bin .mul (.v (.int .i64 3)) (.t 7), none⟩, ⟨some 9, .fad 1 (.t 2), none⟩, ⟨some 10, .load 1 false (.t 9), none⟩, ⟨some 11, .bin .mul (.t 8) (.t 10), none⟩, ⟨some 12, .bin .sub (.t 11) (.v (.int .i64 1)), none⟩, ⟨some 13, .call 34 [.t 5, .v (.int .i64 0), .t 12], none⟩, ⟨some 14, .mv (.t 13), none⟩, ⟨some 15, .load 5 true (.t 2), some (14, true)⟩, ⟨some 16, .mv (.t 1), some (14, true)⟩, ⟨some 17, .bin .quo (.t 16) (.v (.int .i64 3)), some (14, true)⟩, ⟨some 18, .mv (.t 1), some (14, true)⟩, ⟨some 19, .bin .rem (.t 18) (.v (.int .i64 3)), some (14, true)⟩, ⟨some 20, .call 90 [.t 15, .t 17, .t 19], some (14, true)⟩, ⟨some 21, .bin .geq (.t 20) (.v (.int .i64 0)), some (14, true)⟩, ⟨some 22, .pick (.t 14) (.t 21) (.v (.bool false)), none⟩, ⟨some 4, .mv (.t 22), none⟩])
 .ret))
noncomputable def X.i_isEdge (p0 : TMap) (p1 : Int) : Option Bool :=
  ((X.i_inRange p1 0 (W ((W ((W (3 * p0.Width)) * p0.Height)) - 1))).bind fun v1 => (bif v1 then ((X.i_nextTo p0 (W (Int.tdiv p1 3)) (Int.tmod p1 3)).bind fun v4 => some (decide (v4 ≥ 0))) else some false))
theorem i_isEdge_ok (p0 : TMap) (p1 : Int) (r : Bool) (H : X.i_isEdge p0 p1 = some r) : FnOk Tryd.prog gl 73 [.agg (eTMap p0), cI p1] (cB r) := by
  unfold X.i_isEdge at H
  refine fn_in (fn := Tryd.f73) (ir := i_isEdge_ir) (s1 := lit [(4, cB r)] []) glL Tryd.func73 (by kernel_rfl) (by kernel_rfl) (by kernel_rfl) (by kernel_rfl) (by kernel_rfl) ?_
  refine seq_ops [] [] [(1, cI p1), (2, .c (.pk 2 0))] [(2, .var (eTMap p0) false)] (fun t => t) (by kernel_rfl) ?_
  obtain ⟨v1, h2, H⟩ := ofBind H
  rcases ofCond H with ⟨c3, H⟩ | ⟨c3, H⟩
  · obtain ⟨v4, h5, H⟩ := ofBind H
    refine seq_ops [.res (cB v1), .g true, .g true, .g true, .g true, .g true, .g true, .res (cI v4), .g true, .g true] [] [(4, cB (decide (v4 ≥ 0)))] [] (fun t => aI (i_inRange_ok p1 0 (W ((W ((W (3 * p0.Width)) * p0.Height)) - 1)) v1 h2) (aI c3 (aI c3 (aI c3 (aI (by decide : (3 : Int) ≠ 0) (aI c3 (aI c3 (aI (by decide : (3 : Int) ≠ 0) (aI c3 (aI (i_nextTo_ok p0 (W (Int.tdiv p1 3)) (Int.tmod p1 3) v4 h5) (aI c3 (aI c3 (t))))))))))))) (by kernel_rfl) ?_
    refine ends_ret ?_
    obtain rfl := Option.some.inj H
    exact And.intro (.inl rfl) rfl
  · refine seq_ops [.res (cB v1), .g false, .g false, .g false, .g false, .g false, .g false, .g false, .g false] [] [(4, cB false)] [] (fun t => aI (i_inRange_ok p1 0 (W ((W ((W (3 * p0.Width)) * p0.Height)) - 1)) v1 h2) (aI c3 (aI c3 (aI c3 (aI c3 (aI c3 (aI c3 (aI c3 (aI c3 (t)))))))))) (by kernel_rfl) ?_
    refine ends_ret ?_
    obtain rfl := Option.some.inj H
    exact And.intro (.inl rfl) rfl

def i_IsMap_ir : S :=
 (.seq (.ops [⟨some 1, .box 5 (.t 0), none⟩, ⟨some 2, .mv (.v (.bool false)), none⟩])
 (.seq (.seq (.ops [⟨some 9, .fad 0 (.t 1), none⟩, ⟨some 10, .load 1 false (.t 9), none⟩, ⟨some 11, .call 34 [.t 10, .v (.int .i64 1), .v (.int .i64 10)], none⟩, ⟨some 12, .not (.t 11), none⟩, ⟨some 13, .mv (.t 12), none⟩, ⟨some 14, .fad 1 (.t 1), some (13, false)⟩, ⟨some 15, .load 1 false (.t 14), some (13, false)⟩, ⟨some 16, .call 34 [.t 15, .v (.int .i64 1), .v (.int .i64 10)], some (13, false)⟩, ⟨some 17, .not (.t 16), some (13, false)⟩, ⟨some 18, .pick (.t 13) (.v (.bool true)) (.t 17), none⟩, ⟨some 19, .mv (.t 18), none⟩, ⟨some 20, .fad 2 (.t 1), some (19, false)⟩, ⟨some 21, .load 1 false (.t 20), some (19, false)⟩, ⟨some 22, .len (.t 21), some (19, false)⟩, ⟨some 23, .fad 0 (.t 1), some (19, false)⟩, ⟨some 24, .load 1 false (.t 23), some (19, false)⟩, ⟨some 25, .fad 1 (.t 1), some (19, false)⟩, ⟨some 26, .load 1 false (.t 25), some (19, false)⟩, ⟨some 27, .bin .mul (.t 24) (.t 26), some (19, false)⟩, ⟨some 28, .bin .neq (.t 22) (.t 27), some (19, false)⟩, ⟨some 29, .pick (.t 19) (.v (.bool true)) (.t 28), none⟩])
 (.ite (.t 29) (.seq (.ops [⟨some 2, .mv (.v (.bool false)), none⟩])
  .ret)
 .skip))
 (.seq (.seq (.ops [⟨some 30, .fad 2 (.t 1), none⟩, ⟨some 31, .load 1 false (.t 30), none⟩, ⟨some 32, .len (.t 31), none⟩, ⟨some 33, .mv (.v (.int .i64 0)), none⟩])
 (.blk 0 (.loop (.seq (.ops [⟨some 34, .bin .lss (.t 33) (.t 32), none⟩])
   (.seq (.ite (.t 34) .skip
   (.exit 0))
   (.seq (.blk 1 (.seq (.ops [⟨some 35, .iad 1 (.t 31) (.t 33), none⟩, ⟨some 36, .load 1 false (.t 35), none⟩, ⟨some 4, .mv (.t 36), none⟩])
    (.seq (.ops [⟨some 37, .mv (.t 4), none⟩, ⟨some 38, .call 71 [.t 37, .v (.int .i64 6)], none⟩, ⟨some 39, .not (.t 38), none⟩])
    (.ite (.t 39) (.seq (.ops [⟨some 2, .mv (.v (.bool false)), none⟩])
     .ret)
    .skip))))
   (.ops [⟨some 40, .bin .add (.t 33) (.v (.int .i64 1)), none⟩, ⟨some 33, .mv (.t 40), none⟩])))))))
 (.seq (.seq (.ops [⟨some 41, .fad 3 (.t 1), none⟩, ⟨some 42, .load 1 false (.t 41), none⟩, ⟨some 43, .fad 4 (.t 1), none⟩, ⟨some 44, .load 1 false (.t 43), none⟩, ⟨some 45, .bsl 1 [.t 42, .t 44], none⟩, ⟨some 46, .len (.t 45), none⟩, ⟨some 47, .mv (.v (.int .i64 0)), none⟩])
 (.blk 2 (.loop (.seq (.ops [⟨some 48, .bin .lss (.t 47) (.t 46), none⟩])
   (.seq (.ite (.t 48) .skip
   (.exit 2))
   (.seq (.blk 3 (.seq (.ops [⟨some 49, .iad 1 (.t 45) (.t 47), none⟩, ⟨some 50, .load 1 false (.t 49), none⟩, ⟨some 6, .mv (.t 50), none⟩])
    (.seq (.seq (.ops [⟨some 51, .mv (.t 6), none⟩, ⟨some 52, .call 72 [.t 51], none⟩, ⟨some 53, .not (.t 52), none⟩])
    (.ite (.t 53) (.seq (.ops [⟨some 2, .mv (.v (.bool false)), none⟩])
     .ret)
    .skip))
    (.seq (.ops [⟨some 54, .mv (.t 6), none⟩, ⟨some 55, .len (.t 54), none⟩, ⟨some 56, .mv (.v (.int .i64 0)), none⟩])
    (.blk 4 (.loop (.seq (.ops [⟨some 57, .bin .lss (.t 56) (.t 55), none⟩])
      (.seq (.ite (.t 57) .skip
      (.exit 4))
      (.seq (.blk 5 (.seq (.ops [⟨some 58, .iad 1 (.t 54) (.t 56), none⟩, ⟨some 59, .load 1 false (.t 58), none⟩, ⟨some 8, .mv (.t 59), none⟩])
       (.seq (.ops [⟨some 60, .load 5 true (.t 1), none⟩, ⟨some 61, .mv (.t 8), none⟩, ⟨some 62, .call 73 [.t 60, .t 61], none⟩, ⟨some 63, .not (.t 62), none⟩])
       (.ite (.t 63) (.seq (.ops [⟨some 2, .mv (.v (.bool false)), none⟩])
        .ret)
       .skip))))
      (.ops [⟨some 64, .bin .add (.t 56) (.v (.int .i64 1)), none⟩, ⟨some 56, .mv (.t 64), none⟩]))))))))))
   (.ops [⟨some 65, .bin .add (.t 47) (.v (.int .i64 1)), none⟩, ⟨some 47, .mv (.t 65), none⟩])))))))
 (.seq (.ops [⟨some 2, .mv (.v (.bool true)), none⟩])
 .ret)))))
noncomputable def X.i_IsMap (p0 : TMap) : Option Bool :=
  ((X.i_inRange p0.Width 1 10).bind fun v8 => (bif (!v8) then some false else ((X.i_inRange p0.Height 1 10).bind fun v11 => (bif (!v11) then some false else (bif ((p0.Terrain.length : Int) != (W (p0.Width * p0.Height))) then some false else ((loop (fun (x57 : Int) => ((bif (decide (x57 < (p0.Terrain.length : Int))) then ((at' zI p0.Terrain x57).bind fun v60 => ((X.i_isIndex v60 6).bind fun v62 => (bif (!v62) then some (Sum.inr (Sum.inr false)) else some (Sum.inl (W (x57 + 1)))))) else some (Sum.inr (Sum.inl ()))) : Option (Int ⊕ (Unit ⊕ Bool)))) 0).bind fun y65 => (Sum.elim (fun (y67 : Unit) => ((loop (fun (x142 : Int) => ((bif (decide (x142 < (([p0.Rivers, p0.Roads] : List (List Int)).length : Int))) then (if 0 ≤ x142 ∧ x142 < (([p0.Rivers, p0.Roads] : List (List Int)).length : Int) then ((X.i_increasing (([p0.Rivers, p0.Roads] : List (List Int)).getD x142.toNat zLI)).bind fun v149 => (bif (!v149) then some (Sum.inr (Sum.inr false)) else ((loop (fun (x167 : Int) => ((bif (decide (x167 < ((([p0.Rivers, p0.Roads] : List (List Int)).getD x142.toNat zLI).length : Int))) then ((at' zI (([p0.Rivers, p0.Roads] : List (List Int)).getD x142.toNat zLI) x167).bind fun v170 => ((X.i_isEdge p0 v170).bind fun v172 => (bif (!v172) then some (Sum.inr (Sum.inr false)) else some (Sum.inl (W (x167 + 1)))))) else some (Sum.inr (Sum.inl ()))) : Option (Int ⊕ (Unit ⊕ Bool)))) 0).bind fun y175 => (Sum.elim (fun (y177 : Unit) => some (Sum.inl (W (x142 + 1)))) (fun (y178 : Bool) => some (Sum.inr (Sum.inr y178))) y175)))) else none) else some (Sum.inr (Sum.inl ()))) : Option (Int ⊕ (Unit ⊕ Bool)))) 0).bind fun y179 => (Sum.elim (fun (y181 : Unit) => some true) (fun (y182 : Bool) => some y182) y179))) (fun (y68 : Bool) => some y68) y65)))))))
theorem i_IsMap_ok (p0 : TMap) (r : Bool) (H : X.i_IsMap p0 = some r) : FnOk Tryd.prog gl 53 [.agg (eTMap p0)] (cB r) := by
  unfold X.i_IsMap at H
  refine fn_in (fn := Tryd.f53) (ir := i_IsMap_ir) (s1 := lit [(2, cB r)] []) glL Tryd.func53 (by kernel_rfl) (by kernel_rfl) (by kernel_rfl) (by kernel_rfl) (by kernel_rfl) ?_
  refine seq_ops [] [] [(1, .c (.pk 1 0))] [(1, .var (eTMap p0) false)] (fun t => t) (by kernel_rfl) ?_
  refine seq_in ?_
  obtain ⟨v8, h9, H⟩ := ofBind H
  rcases ofCond H with ⟨c10, H⟩ | ⟨c10, H⟩
  · refine seq_ops [.res (cB v8), .g true, .g true, .g true, .g true, .g true, .g true, .g true, .g true, .g true, .g true, .g true, .g true, .g true, .g true, .g true] [] [(1, .c (.pk 1 0)), (29, cB true)] [(1, .var (eTMap p0) false)] (fun t => aI (i_inRange_ok p0.Width 1 10 v8 h9) (aI c10 (aI c10 (aI c10 (aI c10 (aI c10 (aI (rfl : (true : Bool) = true) (aI (rfl : (true : Bool) = true) (aI (rfl : (true : Bool) = true) (aI (rfl : (true : Bool) = true) (aI (rfl : (true : Bool) = true) (aI (rfl : (true : Bool) = true) (aI (rfl : (true : Bool) = true) (aI (rfl : (true : Bool) = true) (aI (rfl : (true : Bool) = true) (aI (rfl : (true : Bool) = true) (t))))))))))))))))) (by kernel_rfl) ?_
    refine ite_t (rfl : (true : Bool) = true) (by kernel_rfl) ?_
    refine seq_ops [] [] [(2, cB false)] [] (fun t => t) (by kernel_rfl) ?_
    refine ends_ret ?_
    obtain rfl := Option.some.inj H
    exact And.intro (.inl rfl) rfl
  · obtain ⟨v11, h12, H⟩ := ofBind H
    rcases ofCond H with ⟨c13, H⟩ | ⟨c13, H⟩
    · refine seq_ops [.res (cB v8), .g false, .g false, .g false, .res (cB v11), .g false, .g false, .g true, .g true, .g true, .g true, .g true, .g true, .g true, .g true, .g true, .g true] [] [(1, .c (.pk 1 0)), (29, cB true)] [(1, .var (eTMap p0) false)] (fun t => aI (i_inRange_ok p0.Width 1 10 v8 h9) (aI c10 (aI c10 (aI c10 (aI (i_inRange_ok p0.Height 1 10 v11 h12) (aI c10 (aI c10 (aI c13 (aI c13 (aI c13 (aI c13 (aI c13 (aI c13 (aI c13 (aI c13 (aI c13 (aI c13 (t)))))))))))))))))) (by kernel_rfl) ?_
      refine ite_t (rfl : (true : Bool) = true) (by kernel_rfl) ?_
      refine seq_ops [] [] [(2, cB false)] [] (fun t => t) (by kernel_rfl) ?_
      refine ends_ret ?_
      obtain rfl := Option.some.inj H
      exact And.intro (.inl rfl) rfl
    · refine seq_ops [.res (cB v8), .g false, .g false, .g false, .res (cB v11), .g false, .g false, .g false, .g false, .g false, .g false, .g false, .g false, .g false, .g false, .g false, .g false] [] [(1, .c (.pk 1 0)), (29, cB ((p0.Terrain.length : Int) != (W (p0.Width * p0.Height))))] [(1, .var (eTMap p0) false)] (fun t => aI (i_inRange_ok p0.Width 1 10 v8 h9) (aI c10 (aI c10 (aI c10 (aI (i_inRange_ok p0.Height 1 10 v11 h12) (aI c10 (aI c10 (aI c13 (aI c13 (aI c13 (lI p0.Terrain (aI c13 (aI c13 (aI c13 (aI c13 (aI c13 (aI c13 (aI c13 (t))))))))))))))))))) (by kernel_rfl) ?_
      rcases ofCond H with ⟨c14, H⟩ | ⟨c14, H⟩
      · refine ite_t c14 (by kernel_rfl) ?_
        refine seq_ops [] [] [(2, cB false)] [] (fun t => t) (by kernel_rfl) ?_
        refine ends_ret ?_
        obtain rfl := Option.some.inj H
        exact And.intro (.inl rfl) rfl
      · refine ite_f c14 (by kernel_rfl) ?_
        refine ends_skip ?_
        change EndsI _ _ _ _ _ _
        refine seq_in ?_
        refine seq_ops [] [] [(1, .c (.pk 1 0)), (31, .c (dat 1 eI zI p0.Terrain)), (32, cI (p0.Terrain.length : Int)), (33, cI 0)] [(1, .var (eTMap p0) false)] (fun t => lI p0.Terrain (t)) (by kernel_rfl) ?_
        refine ends_blk ?_
        obtain ⟨y65, h66, H⟩ := ofBind H
        refine loop_in (fun (x : Int) => lit [(1, .c (.pk 1 0)), (31, .c (dat 1 eI zI p0.Terrain)), (32, cI (p0.Terrain.length : Int)), (33, cI x)] [(1, .var (eTMap p0) false)]) (orJ (fun (z : Unit) => At (.exit 0) (lit [(1, .c (.pk 1 0))] [(1, .var (eTMap p0) false)])) (fun (z : Bool) => At .ret (lit [(2, cB z)] []))) h66 ?_ ?_
        · clear H h66
          intro x57 y0 H
          refine seq_ops [] [] [(1, .c (.pk 1 0)), (31, .c (dat 1 eI zI p0.Terrain)), (32, cI (p0.Terrain.length : Int)), (33, cI x57), (34, cB (decide (x57 < (p0.Terrain.length : Int))))] [(1, .var (eTMap p0) false)] (fun t => t) (by kernel_rfl) ?_
          refine seq_in ?_
          rcases ofCond H with ⟨c59, H⟩ | ⟨c59, H⟩
          · refine ite_t c59 (by kernel_rfl) ?_
            refine ends_skip ?_
            change EndsI _ _ _ _ _ _
            refine seq_in ?_
            refine ends_blk ?_
            obtain ⟨v60, h61, H⟩ := ofBind H
            refine seq_ops [.cs (eI v60)] [] [(1, .c (.pk 1 0)), (4, cI v60), (31, .c (dat 1 eI zI p0.Terrain)), (32, cI (p0.Terrain.length : Int)), (33, cI x57)] [(1, .var (eTMap p0) false)] (fun t => aI (at_lt h61) (aI (at_enc (enc := eI) h61) (t))) (by kernel_rfl) ?_
            obtain ⟨v62, h63, H⟩ := ofBind H
            refine seq_ops [.res (cB v62)] [] [(1, .c (.pk 1 0)), (31, .c (dat 1 eI zI p0.Terrain)), (32, cI (p0.Terrain.length : Int)), (33, cI x57), (39, cB (!v62))] [(1, .var (eTMap p0) false)] (fun t => aI (i_isIndex_ok v60 6 v62 h63) (t)) (by kernel_rfl) ?_
            rcases ofCond H with ⟨c64, H⟩ | ⟨c64, H⟩
            · refine ite_t c64 (by kernel_rfl) ?_
              refine seq_ops [] [] [(2, cB false)] [] (fun t => t) (by kernel_rfl) ?_
              refine ends_ret ?_
              obtain rfl := Option.some.inj H
              exact And.intro (by simp) (And.intro rfl rfl)
            · refine ite_f c64 (by kernel_rfl) ?_
              refine ends_skip ?_
              change EndsI _ _ _ _ _ _
              refine one_ops [] [] [(1, .c (.pk 1 0)), (31, .c (dat 1 eI zI p0.Terrain)), (32, cI (p0.Terrain.length : Int)), (33, cI (W (x57 + 1)))] [(1, .var (eTMap p0) false)] (fun t => t) (by kernel_rfl) ?_
              obtain rfl := Option.some.inj H
              exact And.intro rfl rfl
          · refine ite_f c59 (by kernel_rfl) ?_
            refine tell [] [(1, .c (.pk 1 0))] [(1, .var (eTMap p0) false)] (fun t => t) (by kernel_rfl) ?_
            refine ends_exit ?_
            obtain rfl := Option.some.inj H
            exact And.intro (by simp) (And.intro rfl rfl)
        · clear h66
          cases y65 with
          | inl y67 =>
            replace H := ofInl H
            intro e s q
            obtain ⟨rfl, rfl⟩ := q
            change EndsI _ _ _ _ _ _
            refine seq_in ?_
            refine seq_ops [.fn ([p0.Rivers, p0.Roads] : List (List Int)).length (fF eLI zLI ([p0.Rivers, p0.Roads] : List (List Int)))] [] [(1, .c (.pk 1 0)), (45, .c (.own 45 1 0 (([p0.Rivers, p0.Roads] : List (List Int)).length))), (46, cI (([p0.Rivers, p0.Roads] : List (List Int)).length : Int)), (47, cI 0)] [(1, .var (eTMap p0) false), (45, .arr 1 (([p0.Rivers, p0.Roads] : List (List Int)).length) (fF eLI zLI ([p0.Rivers, p0.Roads] : List (List Int))) false)] (fun t => aI (rfl : ([p0.Rivers, p0.Roads] : List (List Int)).length = 2) (aI (fF_lit eLI zLI ([p0.Rivers, p0.Roads] : List (List Int))) ((fun (_ : ([p0.Rivers, p0.Roads] : List (List Int)).length ≤ maxLen) => t)))) (by kernel_rfl) ?_
            refine ends_blk ?_
            obtain ⟨y179, h180, H⟩ := ofBind H
            refine loop_in (fun (x : Int) => lit [(1, .c (.pk 1 0)), (45, .c (.own 45 1 0 (([p0.Rivers, p0.Roads] : List (List Int)).length))), (46, cI (([p0.Rivers, p0.Roads] : List (List Int)).length : Int)), (47, cI x)] [(1, .var (eTMap p0) false), (45, .arr 1 (([p0.Rivers, p0.Roads] : List (List Int)).length) (fF eLI zLI ([p0.Rivers, p0.Roads] : List (List Int))) false)]) (orJ (fun (z : Unit) => At (.exit 2) (lit [] [])) (fun (z : Bool) => At .ret (lit [(2, cB z)] []))) h180 ?_ ?_
            · clear H h180
              intro x142 y0 H
              refine seq_ops [] [] [(1, .c (.pk 1 0)), (45, .c (.own 45 1 0 (([p0.Rivers, p0.Roads] : List (List Int)).length))), (46, cI (([p0.Rivers, p0.Roads] : List (List Int)).length : Int)), (47, cI x142), (48, cB (decide (x142 < (([p0.Rivers, p0.Roads] : List (List Int)).length : Int))))] [(1, .var (eTMap p0) false), (45, .arr 1 (([p0.Rivers, p0.Roads] : List (List Int)).length) (fF eLI zLI ([p0.Rivers, p0.Roads] : List (List Int))) false)] (fun t => t) (by kernel_rfl) ?_
              refine seq_in ?_
              rcases ofCond H with ⟨c144, H⟩ | ⟨c144, H⟩
              · refine ite_t c144 (by kernel_rfl) ?_
                refine ends_skip ?_
                change EndsI _ _ _ _ _ _
                refine seq_in ?_
                refine ends_blk ?_
                obtain ⟨g145, H⟩ := ofIf H
                refine seq_ops [.no] [] [(1, .c (.pk 1 0)), (6, .c (dat 1 eI zI (([p0.Rivers, p0.Roads] : List (List Int)).getD x142.toNat zLI))), (45, .c (.own 45 1 0 (([p0.Rivers, p0.Roads] : List (List Int)).length))), (46, cI (([p0.Rivers, p0.Roads] : List (List Int)).length : Int)), (47, cI x142)] [(1, .var (eTMap p0) false), (45, .arr 1 (([p0.Rivers, p0.Roads] : List (List Int)).length) (fF eLI zLI ([p0.Rivers, p0.Roads] : List (List Int))) false)] (fun t => aI g145 (aI (nat_lt g145) (t))) (by kernel_rfl) ?_
                refine seq_in ?_
                obtain ⟨v149, h150, H⟩ := ofBind H
                refine seq_ops [.res (cB v149)] [] [(1, .c (.pk 1 0)), (6, .c (dat 1 eI zI (([p0.Rivers, p0.Roads] : List (List Int)).getD x142.toNat zLI))), (45, .c (.own 45 1 0 (([p0.Rivers, p0.Roads] : List (List Int)).length))), (46, cI (([p0.Rivers, p0.Roads] : List (List Int)).length : Int)), (47, cI x142), (53, cB (!v149))] [(1, .var (eTMap p0) false), (45, .arr 1 (([p0.Rivers, p0.Roads] : List (List Int)).length) (fF eLI zLI ([p0.Rivers, p0.Roads] : List (List Int))) false)] (fun t => aI (i_increasing_ok (([p0.Rivers, p0.Roads] : List (List Int)).getD x142.toNat zLI) v149 h150) (t)) (by kernel_rfl) ?_
                rcases ofCond H with ⟨c151, H⟩ | ⟨c151, H⟩
                · refine ite_t c151 (by kernel_rfl) ?_
                  refine seq_ops [] [] [(2, cB false)] [] (fun t => t) (by kernel_rfl) ?_
                  refine ends_ret ?_
                  obtain rfl := Option.some.inj H
                  exact And.intro (by simp) (And.intro rfl rfl)
                · refine ite_f c151 (by kernel_rfl) ?_
                  refine ends_skip ?_
                  change EndsI _ _ _ _ _ _
                  refine seq_ops [] [] [(1, .c (.pk 1 0)), (45, .c (.own 45 1 0 (([p0.Rivers, p0.Roads] : List (List Int)).length))), (46, cI (([p0.Rivers, p0.Roads] : List (List Int)).length : Int)), (47, cI x142), (54, .c (dat 1 eI zI (([p0.Rivers, p0.Roads] : List (List Int)).getD x142.toNat zLI))), (55, cI ((([p0.Rivers, p0.Roads] : List (List Int)).getD x142.toNat zLI).length : Int)), (56, cI 0)] [(1, .var (eTMap p0) false), (45, .arr 1 (([p0.Rivers, p0.Roads] : List (List Int)).length) (fF eLI zLI ([p0.Rivers, p0.Roads] : List (List Int))) false)] (fun t => (fun (_ : (([p0.Rivers, p0.Roads] : List (List Int)).getD x142.toNat zLI).length ≤ maxLen) => t)) (by kernel_rfl) ?_
                  refine ends_blk ?_
                  obtain ⟨y175, h176, H⟩ := ofBind H
                  refine loop_in (fun (x : Int) => lit [(1, .c (.pk 1 0)), (45, .c (.own 45 1 0 (([p0.Rivers, p0.Roads] : List (List Int)).length))), (46, cI (([p0.Rivers, p0.Roads] : List (List Int)).length : Int)), (47, cI x142), (54, .c (dat 1 eI zI (([p0.Rivers, p0.Roads] : List (List Int)).getD x142.toNat zLI))), (55, cI ((([p0.Rivers, p0.Roads] : List (List Int)).getD x142.toNat zLI).length : Int)), (56, cI x)] [(1, .var (eTMap p0) false), (45, .arr 1 (([p0.Rivers, p0.Roads] : List (List Int)).length) (fF eLI zLI ([p0.Rivers, p0.Roads] : List (List Int))) false)]) (orJ (fun (z : Unit) => At (.exit 4) (lit [(1, .c (.pk 1 0)), (45, .c (.own 45 1 0 (([p0.Rivers, p0.Roads] : List (List Int)).length))), (46, cI (([p0.Rivers, p0.Roads] : List (List Int)).length : Int)), (47, cI x142)] [(1, .var (eTMap p0) false), (45, .arr 1 (([p0.Rivers, p0.Roads] : List (List Int)).length) (fF eLI zLI ([p0.Rivers, p0.Roads] : List (List Int))) false)])) (fun (z : Bool) => At .ret (lit [(2, cB z)] []))) h176 ?_ ?_
                  · clear H h176
                    intro x167 y0 H
                    refine seq_ops [] [] [(1, .c (.pk 1 0)), (45, .c (.own 45 1 0 (([p0.Rivers, p0.Roads] : List (List Int)).length))), (46, cI (([p0.Rivers, p0.Roads] : List (List Int)).length : Int)), (47, cI x142), (54, .c (dat 1 eI zI (([p0.Rivers, p0.Roads] : List (List Int)).getD x142.toNat zLI))), (55, cI ((([p0.Rivers, p0.Roads] : List (List Int)).getD x142.toNat zLI).length : Int)), (56, cI x167), (57, cB (decide (x167 < ((([p0.Rivers, p0.Roads] : List (List Int)).getD x142.toNat zLI).length : Int))))] [(1, .var (eTMap p0) false), (45, .arr 1 (([p0.Rivers, p0.Roads] : List (List Int)).length) (fF eLI zLI ([p0.Rivers, p0.Roads] : List (List Int))) false)] (fun t => t) (by kernel_rfl) ?_
                    refine seq_in ?_
                    rcases ofCond H with ⟨c169, H⟩ | ⟨c169, H⟩
                    · refine ite_t c169 (by kernel_rfl) ?_
                      refine ends_skip ?_
                      change EndsI _ _ _ _ _ _
                      refine seq_in ?_
                      refine ends_blk ?_
                      obtain ⟨v170, h171, H⟩ := ofBind H
                      refine seq_ops [.cs (eI v170)] [] [(1, .c (.pk 1 0)), (8, cI v170), (45, .c (.own 45 1 0 (([p0.Rivers, p0.Roads] : List (List Int)).length))), (46, cI (([p0.Rivers, p0.Roads] : List (List Int)).length : Int)), (47, cI x142), (54, .c (dat 1 eI zI (([p0.Rivers, p0.Roads] : List (List Int)).getD x142.toNat zLI))), (55, cI ((([p0.Rivers, p0.Roads] : List (List Int)).getD x142.toNat zLI).length : Int)), (56, cI x167)] [(1, .var (eTMap p0) false), (45, .arr 1 (([p0.Rivers, p0.Roads] : List (List Int)).length) (fF eLI zLI ([p0.Rivers, p0.Roads] : List (List Int))) false)] (fun t => aI (at_lt h171) (aI (at_enc (enc := eI) h171) (t))) (by kernel_rfl) ?_
                      obtain ⟨v172, h173, H⟩ := ofBind H
                      refine seq_ops [.res (cB v172)] [] [(1, .c (.pk 1 0)), (45, .c (.own 45 1 0 (([p0.Rivers, p0.Roads] : List (List Int)).length))), (46, cI (([p0.Rivers, p0.Roads] : List (List Int)).length : Int)), (47, cI x142), (54, .c (dat 1 eI zI (([p0.Rivers, p0.Roads] : List (List Int)).getD x142.toNat zLI))), (55, cI ((([p0.Rivers, p0.Roads] : List (List Int)).getD x142.toNat zLI).length : Int)), (56, cI x167), (63, cB (!v172))] [(1, .var (eTMap p0) false), (45, .arr 1 (([p0.Rivers, p0.Roads] : List (List Int)).length) (fF eLI zLI ([p0.Rivers, p0.Roads] : List (List Int))) false)] (fun t => aI (i_isEdge_ok p0 v170 v172 h173) (t)) (by kernel_rfl) ?_
                      rcases ofCond H with ⟨c174, H⟩ | ⟨c174, H⟩
                      · refine ite_t c174 (by kernel_rfl) ?_
                        refine seq_ops [] [] [(2, cB false)] [] (fun t => t) (by kernel_rfl) ?_
                        refine ends_ret ?_
                        obtain rfl := Option.some.inj H
                        exact And.intro (by simp) (And.intro rfl rfl)
                      · refine ite_f c174 (by kernel_rfl) ?_
                        refine ends_skip ?_
                        change EndsI _ _ _ _ _ _
                        refine one_ops [] [] [(1, .c (.pk 1 0)), (45, .c (.own 45 1 0 (([p0.Rivers, p0.Roads] : List (List Int)).length))), (46, cI (([p0.Rivers, p0.Roads] : List (List Int)).length : Int)), (47, cI x142), (54, .c (dat 1 eI zI (([p0.Rivers, p0.Roads] : List (List Int)).getD x142.toNat zLI))), (55, cI ((([p0.Rivers, p0.Roads] : List (List Int)).getD x142.toNat zLI).length : Int)), (56, cI (W (x167 + 1)))] [(1, .var (eTMap p0) false), (45, .arr 1 (([p0.Rivers, p0.Roads] : List (List Int)).length) (fF eLI zLI ([p0.Rivers, p0.Roads] : List (List Int))) false)] (fun t => t) (by kernel_rfl) ?_
                        obtain rfl := Option.some.inj H
                        exact And.intro rfl rfl
                    · refine ite_f c169 (by kernel_rfl) ?_
                      refine tell [] [(1, .c (.pk 1 0)), (45, .c (.own 45 1 0 (([p0.Rivers, p0.Roads] : List (List Int)).length))), (46, cI (([p0.Rivers, p0.Roads] : List (List Int)).length : Int)), (47, cI x142)] [(1, .var (eTMap p0) false), (45, .arr 1 (([p0.Rivers, p0.Roads] : List (List Int)).length) (fF eLI zLI ([p0.Rivers, p0.Roads] : List (List Int))) false)] (fun t => t) (by kernel_rfl) ?_
                      refine ends_exit ?_
                      obtain rfl := Option.some.inj H
                      exact And.intro (by simp) (And.intro rfl rfl)
                  · clear h176
                    cases y175 with
                    | inl y177 =>
                      replace H := ofInl H
                      intro e s q
                      obtain ⟨rfl, rfl⟩ := q
                      change EndsI _ _ _ _ _ _
                      refine one_ops [] [] [(1, .c (.pk 1 0)), (45, .c (.own 45 1 0 (([p0.Rivers, p0.Roads] : List (List Int)).length))), (46, cI (([p0.Rivers, p0.Roads] : List (List Int)).length : Int)), (47, cI (W (x142 + 1)))] [(1, .var (eTMap p0) false), (45, .arr 1 (([p0.Rivers, p0.Roads] : List (List Int)).length) (fF eLI zLI ([p0.Rivers, p0.Roads] : List (List Int))) false)] (fun t => t) (by kernel_rfl) ?_
                      obtain rfl := Option.some.inj H
                      exact And.intro rfl rfl
                    | inr y178 =>
                      replace H := ofInr H
                      intro e s q
                      obtain ⟨rfl, rfl⟩ := q
                      obtain rfl := Option.some.inj H
                      exact And.intro (by simp) (And.intro rfl rfl)
              · refine ite_f c144 (by kernel_rfl) ?_
                refine tell [] [] [] (fun t => t) (by kernel_rfl) ?_
                refine ends_exit ?_
                obtain rfl := Option.some.inj H
                exact And.intro (by simp) (And.intro rfl rfl)
            · clear h180
              cases y179 with
              | inl y181 =>
                replace H := ofInl H
                intro e s q
                obtain ⟨rfl, rfl⟩ := q
                change EndsI _ _ _ _ _ _
                refine seq_ops [] [] [(2, cB true)] [] (fun t => t) (by kernel_rfl) ?_
                refine ends_ret ?_
                obtain rfl := Option.some.inj H
                exact And.intro (.inl rfl) rfl
              | inr y182 =>
                replace H := ofInr H
                intro e s q
                obtain ⟨rfl, rfl⟩ := q
                obtain rfl := Option.some.inj H
                exact And.intro (.inl rfl) rfl
          | inr y68 =>
            replace H := ofInr H
            intro e s q
            obtain ⟨rfl, rfl⟩ := q
            obtain rfl := Option.some.inj H
            exact And.intro (.inl rfl) rfl

theorem g_IndexFunc_int_c1_ok (p0 : (List Int)) (cf1 : FuncId) (cs1_0 : List AC) (f1 : Int → Option Bool) (hf1 : ∀ q0 r, f1 q0 = some r → FnOk Tryd.prog gl cf1 [cI q0, .c (.pd cs1_0 0)] (cB r)) (r : Int) (H : X.g_IndexFunc_int p0 f1 = some r) : FnOk Tryd.prog gl 74 [.c (dat 1 eI zI p0), .c (.clo cf1 [.pd cs1_0 0])] (cI r) := by
  unfold X.g_IndexFunc_int at H
  refine fn_in (fn := Tryd.f74) (ir := g_IndexFunc_int_ir) (s1 := lit [(4, cI r)] []) glL Tryd.func74 (by kernel_rfl) (by kernel_rfl) (by kernel_rfl) (by kernel_rfl) (by kernel_rfl) ?_
  refine seq_ops [] [] [(0, .c (dat 1 eI zI p0)), (1, .c (.clo cf1 [.pd cs1_0 0]))] [] (fun t => t) (by kernel_rfl) ?_
  refine seq_in ?_
  refine seq_ops [] [] [(0, .c (dat 1 eI zI p0)), (1, .c (.clo cf1 [.pd cs1_0 0])), (7, cI (p0.length : Int)), (8, cI 0)] [] (fun t => lI p0 (t)) (by kernel_rfl) ?_
  refine ends_blk ?_
  obtain ⟨y24, h25, H⟩ := ofBind H
  refine loop_in (fun (x : Int) => lit [(0, .c (dat 1 eI zI p0)), (1, .c (.clo cf1 [.pd cs1_0 0])), (7, cI (p0.length : Int)), (8, cI x)] []) (orJ (fun (z : Unit) => At (.exit 0) (lit [] [])) (fun (z : Int) => At .ret (lit [(4, cI z)] []))) h25 ?_ ?_
  · clear H h25
    intro x16 y0 H
    refine seq_ops [] [] [(0, .c (dat 1 eI zI p0)), (1, .c (.clo cf1 [.pd cs1_0 0])), (7, cI (p0.length : Int)), (8, cI x16), (9, cB (decide (x16 < (p0.length : Int))))] [] (fun t => t) (by kernel_rfl) ?_
    refine seq_in ?_
    rcases ofCond H with ⟨c18, H⟩ | ⟨c18, H⟩
    · refine ite_t c18 (by kernel_rfl) ?_
      refine ends_skip ?_
      change EndsI _ _ _ _ _ _
      refine seq_in ?_
      refine ends_blk ?_
      refine seq_ops [] [] [(0, .c (dat 1 eI zI p0)), (1, .c (.clo cf1 [.pd cs1_0 0])), (5, cI x16), (7, cI (p0.length : Int)), (8, cI x16)] [] (fun t => t) (by kernel_rfl) ?_
      obtain ⟨v19, h20, H⟩ := ofBind H
      obtain ⟨v21, h22, H⟩ := ofBind H
      refine seq_ops [.cs (eI v19), .res (cB v21)] [] [(0, .c (dat 1 eI zI p0)), (1, .c (.clo cf1 [.pd cs1_0 0])), (5, cI x16), (7, cI (p0.length : Int)), (8, cI x16), (16, cB v21)] [] (fun t => aI (at_lt h20) (aI (at_enc (enc := eI) h20) (aI (hf1 v19 v21 h22) (t)))) (by kernel_rfl) ?_
      rcases ofCond H with ⟨c23, H⟩ | ⟨c23, H⟩
      · refine ite_t c23 (by kernel_rfl) ?_
        refine seq_ops [] [] [(4, cI x16)] [] (fun t => t) (by kernel_rfl) ?_
        refine ends_ret ?_
        obtain rfl := Option.some.inj H
        exact And.intro (by simp) (And.intro rfl rfl)
      · refine ite_f c23 (by kernel_rfl) ?_
        refine ends_skip ?_
        change EndsI _ _ _ _ _ _
        refine one_ops [] [] [(0, .c (dat 1 eI zI p0)), (1, .c (.clo cf1 [.pd cs1_0 0])), (7, cI (p0.length : Int)), (8, cI (W (x16 + 1)))] [] (fun t => t) (by kernel_rfl) ?_
        obtain rfl := Option.some.inj H
        exact And.intro rfl rfl
    · refine ite_f c18 (by kernel_rfl) ?_
      refine tell [] [] [] (fun t => t) (by kernel_rfl) ?_
      refine ends_exit ?_
      obtain rfl := Option.some.inj H
      exact And.intro (by simp) (And.intro rfl rfl)
  · clear h25
    cases y24 with
    | inl y26 =>
      replace H := ofInl H
      intro e s q
      obtain ⟨rfl, rfl⟩ := q
      change EndsI _ _ _ _ _ _
      refine seq_ops [] [] [(4, cI (-1))] [] (fun t => t) (by kernel_rfl) ?_
      refine ends_ret ?_
      obtain rfl := Option.some.inj H
      exact And.intro (.inl rfl) rfl
    | inr y27 =>
      replace H := ofInr H
      intro e s q
      obtain ⟨rfl, rfl⟩ := q
      obtain rfl := Option.some.inj H
      exact And.intro (.inl rfl) rfl

theorem g_ContainsFunc_int_c1_ok (p0 : (List Int)) (cf1 : FuncId) (cs1_0 : List AC) (f1 : Int → Option Bool) (hf1 : ∀ q0 r, f1 q0 = some r → FnOk Tryd.prog gl cf1 [cI q0, .c (.pd cs1_0 0)] (cB r)) (r : Bool) (H : X.g_ContainsFunc_int p0 f1 = some r) : FnOk Tryd.prog gl 54 [.c (dat 1 eI zI p0), .c (.clo cf1 [.pd cs1_0 0])] (cB r) := by
  unfold X.g_ContainsFunc_int at H
  refine fn_in (fn := Tryd.f54) (ir := g_ContainsFunc_int_ir) (s1 := lit [(4, cB r)] []) glL Tryd.func54 (by kernel_rfl) (by kernel_rfl) (by kernel_rfl) (by kernel_rfl) (by kernel_rfl) ?_
  refine seq_ops [] [] [(0, .c (dat 1 eI zI p0)), (1, .c (.clo cf1 [.pd cs1_0 0]))] [] (fun t => t) (by kernel_rfl) ?_
  obtain ⟨v1, h2, H⟩ := ofBind H
  refine seq_ops [.res (cI v1)] [] [(4, cB (decide (v1 ≥ 0)))] [] (fun t => aI (g_IndexFunc_int_c1_ok p0 (cf1) (cs1_0) f1 hf1 v1 h2) (t)) (by kernel_rfl) ?_
  refine ends_ret ?_
  obtain rfl := Option.some.inj H
  exact And.intro (.inl rfl) rfl

def i_IsBoard_1_ir : S :=
 (.seq (.ops [⟨some 3, .mv (.v (.bool false)), none⟩])
 (.seq (.ops [⟨some 4, .mv (.t 0), none⟩, ⟨some 5, .fad 0 (.t 1), none⟩, ⟨some 6, .fad 0 (.t 5), none⟩, ⟨some 7, .load 1 false (.t 6), none⟩, ⟨some 8, .len (.t 7), none⟩, ⟨some 9, .bin .geq (.t 4) (.t 8), none⟩, ⟨some 3, .mv (.t 9), none⟩])
 .ret))
noncomputable def X.i_IsBoard_1 (p0 : Int) (p1 : TBoard) : Option Bool :=
  some (decide (p0 ≥ (p1.Rules.Terrains.length : Int)))
theorem i_IsBoard_1_ok (p0 : Int) (p1 : TBoard) (r : Bool) (H : X.i_IsBoard_1 p0 p1 = some r) : FnOk Tryd.prog gl 55 [cI p0, .c (.pd (eTBoard p1) 0)] (cB r) := by
  unfold X.i_IsBoard_1 at H
  refine fn_in (fn := Tryd.f55) (ir := i_IsBoard_1_ir) (s1 := lit [(3, cB r)] []) glL Tryd.func55 (by kernel_rfl) (by kernel_rfl) (by kernel_rfl) (by kernel_rfl) (by kernel_rfl) ?_
  refine seq_ops [] [] [(0, cI p0), (1, .c (.pd (eTBoard p1) 0))] [] (fun t => t) (by kernel_rfl) ?_
  refine seq_ops [] [] [(3, cB (decide (p0 ≥ (p1.Rules.Terrains.length : Int))))] [] (fun t => lI p1.Rules.Terrains (t)) (by kernel_rfl) ?_
  refine ends_ret ?_
  obtain rfl := Option.some.inj H
  exact And.intro (.inl rfl) rfl

def i_IsBoard_ir : S :=
 (.seq (.ops [⟨some 1, .box 12 (.t 0), none⟩, ⟨some 2, .mv (.v (.bool false)), none⟩])
 (.seq (.seq (.ops [⟨some 3, .fad 0 (.t 1), none⟩, ⟨some 4, .load 7 true (.t 3), none⟩, ⟨some 5, .call 52 [.t 4], none⟩, ⟨some 6, .not (.t 5), none⟩, ⟨some 7, .mv (.t 6), none⟩, ⟨some 8, .fad 7 (.t 1), some (7, false)⟩, ⟨some 9, .load 5 true (.t 8), some (7, false)⟩, ⟨some 10, .call 53 [.t 9], some (7, false)⟩, ⟨some 11, .not (.t 10), some (7, false)⟩, ⟨some 12, .pick (.t 7) (.v (.bool true)) (.t 11), none⟩])
 (.ite (.t 12) (.seq (.ops [⟨some 2, .mv (.v (.bool false)), none⟩])
  .ret)
 .skip))
 (.seq (.ops [⟨some 13, .fad 7 (.t 1), none⟩, ⟨some 14, .fad 2 (.t 13), none⟩, ⟨some 15, .load 1 false (.t 14), none⟩, ⟨some 16, .clo 55 [.t 1], none⟩, ⟨some 17, .call 54 [.t 15, .t 16], none⟩, ⟨some 18, .not (.t 17), none⟩, ⟨some 2, .mv (.t 18), none⟩])
 .ret)))
noncomputable def X.i_IsBoard (p0 : TBoard) : Option Bool :=
  ((X.i_IsRules p0.Rules).bind fun v7 => (bif (!v7) then some false else ((X.i_IsMap p0.Map).bind fun v10 => (bif (!v10) then some false else ((X.g_ContainsFunc_int p0.Map.Terrain (fun q0 => X.i_IsBoard_1 q0 p0)).bind fun v13 => some (!v13))))))
theorem i_IsBoard_ok (p0 : TBoard) (r : Bool) (H : X.i_IsBoard p0 = some r) : FnOk Tryd.prog gl 32 [.agg (eTBoard p0)] (cB r) := by
  unfold X.i_IsBoard at H
  refine fn_in (fn := Tryd.f32) (ir := i_IsBoard_ir) (s1 := lit [(2, cB r)] []) glL Tryd.func32 (by kernel_rfl) (by kernel_rfl) (by kernel_rfl) (by kernel_rfl) (by kernel_rfl) ?_
  refine seq_ops [] [] [(1, .c (.pk 1 0))] [(1, .var (eTBoard p0) false)] (fun t => t) (by kernel_rfl) ?_
  refine seq_in ?_
  obtain ⟨v7, h8, H⟩ := ofBind H
  rcases ofCond H with ⟨c9, H⟩ | ⟨c9, H⟩
  · refine seq_ops [.res (cB v7), .g true, .g true, .g true, .g true, .g true] [] [(1, .c (.pk 1 0)), (12, cB true)] [(1, .var (eTBoard p0) false)] (fun t => aI (i_IsRules_ok p0.Rules v7 h8) (aI c9 (aI c9 (aI c9 (aI c9 (aI c9 (t))))))) (by kernel_rfl) ?_
    refine ite_t (rfl : (true : Bool) = true) (by kernel_rfl) ?_
    refine seq_ops [] [] [(2, cB false)] [] (fun t => t) (by kernel_rfl) ?_
    refine ends_ret ?_
    obtain rfl := Option.some.inj H
    exact And.intro (.inl rfl) rfl
  · obtain ⟨v10, h11, H⟩ := ofBind H
    refine seq_ops [.res (cB v7), .g false, .g false, .g false, .res (cB v10), .g false, .g false] [] [(1, .c (.pk 1 0)), (12, cB (!v10))] [(1, .var (eTBoard p0) false)] (fun t => aI (i_IsRules_ok p0.Rules v7 h8) (aI c9 (aI c9 (aI c9 (aI (i_IsMap_ok p0.Map v10 h11) (aI c9 (aI c9 (t)))))))) (by kernel_rfl) ?_
    rcases ofCond H with ⟨c12, H⟩ | ⟨c12, H⟩
    · refine ite_t c12 (by kernel_rfl) ?_
      refine seq_ops [] [] [(2, cB false)] [] (fun t => t) (by kernel_rfl) ?_
      refine ends_ret ?_
      obtain rfl := Option.some.inj H
      exact And.intro (.inl rfl) rfl
    · refine ite_f c12 (by kernel_rfl) ?_
      refine ends_skip ?_
      change EndsI _ _ _ _ _ _
      obtain ⟨v13, h14, H⟩ := ofBind H
      refine seq_ops [.res (cB v13)] [] [(2, cB (!v13))] [] (fun t => aI (g_ContainsFunc_int_c1_ok p0.Map.Terrain (55) (eTBoard p0) (fun q0 => X.i_IsBoard_1 q0 p0) (fun q0 r h => i_IsBoard_1_ok q0 p0 r h) v13 h14) (t)) (by kernel_rfl) ?_
      refine ends_ret ?_
      obtain rfl := Option.some.inj H
      exact And.intro (.inl rfl) rfl

def i_sizeOf_ir : S :=
 (.seq (.ops [⟨some 1, .box 12 (.t 0), none⟩, ⟨some 2, .mv (.v (.int .i64 0)), none⟩])
 (.seq (.ops [⟨some 3, .fad 7 (.t 1), none⟩, ⟨some 4, .fad 2 (.t 3), none⟩, ⟨some 5, .load 1 false (.t 4), none⟩, ⟨some 6, .len (.t 5), none⟩, ⟨some 2, .mv (.t 6), none⟩])
 .ret))
noncomputable def X.i_sizeOf (p0 : TBoard) : Option Int :=
  some (p0.Map.Terrain.length : Int)
theorem i_sizeOf_ok (p0 : TBoard) (r : Int) (H : X.i_sizeOf p0 = some r) : FnOk Tryd.prog gl 45 [.agg (eTBoard p0)] (cI r) := by
  unfold X.i_sizeOf at H
  refine fn_in (fn := Tryd.f45) (ir := i_sizeOf_ir) (s1 := lit [(2, cI r)] []) glL Tryd.func45 (by kernel_rfl) (by kernel_rfl) (by kernel_rfl) (by kernel_rfl) (by kernel_rfl) ?_
  refine seq_ops [] [] [(1, .c (.pk 1 0))] [(1, .var (eTBoard p0) false)] (fun t => t) (by kernel_rfl) ?_
  refine seq_ops [] [] [(2, cI (p0.Map.Terrain.length : Int))] [] (fun t => lI p0.Map.Terrain (t)) (by kernel_rfl) ?_
  refine ends_ret ?_
  obtain rfl := Option.some.inj H
  exact And.intro (.inl rfl) rfl

def i_goodMemory_ir : S :=
 (.seq (.ops [⟨some 2, .box 12 (.t 0), none⟩, ⟨some 3, .box 2 (.t 1), none⟩, ⟨some 4, .mv (.v (.bool false)), none⟩])
 (.seq (.seq (.draw 14 [⟨some 7, .fad 0 (.t 3), none⟩, ⟨some 8, .load 1 false (.t 7), none⟩, ⟨some 9, .len (.t 8), none⟩, ⟨some 10, .load 12 true (.t 2), none⟩, ⟨some 11, .call 45 [.t 10], none⟩, ⟨some 12, .bin .neq (.t 9) (.t 11), none⟩, ⟨some 13, .mv (.t 12), none⟩, ⟨some 14, .fad 1 (.t 3), some (13, false)⟩, ⟨some 15, .load 1 false (.t 14), some (13, false)⟩, ⟨some 16, .len (.t 15), some (13, false)⟩, ⟨some 17, .load 12 true (.t 2), some (13, false)⟩, ⟨some 18, .call 45 [.t 17], some (13, false)⟩, ⟨some 19, .bin .neq (.t 16) (.t 18), some (13, false)⟩, ⟨some 20, .pick (.t 13) (.v (.bool true)) (.t 19), none⟩])
 (.ite (.t 20) (.seq (.ops [⟨some 4, .mv (.v (.bool false)), none⟩])
  .ret)
 .skip))
 (.seq (.seq (.ops [⟨some 21, .fad 0 (.t 3), none⟩, ⟨some 22, .load 1 false (.t 21), none⟩, ⟨some 23, .len (.t 22), none⟩, ⟨some 24, .mv (.v (.int .i64 0)), none⟩])
 (.blk 0 (.loop (.seq (.ops [⟨some 25, .bin .lss (.t 24) (.t 23), none⟩])
   (.seq (.ite (.t 25) .skip
   (.exit 0))
   (.seq (.blk 1 (.seq (.ops [⟨some 26, .mv (.t 24), none⟩, ⟨some 27, .iad 1 (.t 22) (.t 24), none⟩, ⟨some 28, .load 1 false (.t 27), none⟩, ⟨some 5, .mv (.t 26), none⟩, ⟨some 6, .mv (.t 28), none⟩])
    (.seq (.ops [⟨some 29, .mv (.t 6), none⟩, ⟨some 30, .fad 0 (.t 2), none⟩, ⟨some 31, .fad 6 (.t 30), none⟩, ⟨some 32, .load 1 false (.t 31), none⟩, ⟨some 33, .call 34 [.t 29, .v (.int .i64 (-1)), .t 32], none⟩, ⟨some 34, .not (.t 33), none⟩, ⟨some 35, .mv (.t 34), none⟩, ⟨some 36, .fad 1 (.t 3), some (35, false)⟩, ⟨some 37, .load 1 false (.t 36), some (35, false)⟩, ⟨some 38, .mv (.t 5), some (35, false)⟩, ⟨some 39, .iad 1 (.t 37) (.t 38), some (35, false)⟩, ⟨some 40, .load 1 false (.t 39), some (35, false)⟩, ⟨some 41, .call 34 [.t 40, .v (.int .i64 0), .v (.int .i64 4)], some (35, false)⟩, ⟨some 42, .not (.t 41), some (35, false)⟩, ⟨some 43, .pick (.t 35) (.v (.bool true)) (.t 42), none⟩, ⟨some 44, .mv (.t 43), none⟩, ⟨some 45, .mv (.t 6), some (44, false)⟩, ⟨some 46, .bin .eql (.t 45) (.v (.int .i64 (-1))), some (44, false)⟩, ⟨some 47, .mv (.t 46), some (44, false)⟩, ⟨some 48, .fad 1 (.t 3), some (47, true)⟩, ⟨some 49, .load 1 false (.t 48), some (47, true)⟩, ⟨some 50, .mv (.t 5), some (47, true)⟩, ⟨some 51, .iad 1 (.t 49) (.t 50), some (47, true)⟩, ⟨some 52, .load 1 false (.t 51), some (47, true)⟩, ⟨some 53, .bin .neq (.t 52) (.v (.int .i64 0)), some (47, true)⟩, ⟨some 54, .pick (.t 47) (.t 53) (.v (.bool false)), some (44, false)⟩, ⟨some 55, .pick (.t 44) (.v (.bool true)) (.t 54), none⟩])
    (.ite (.t 55) (.seq (.ops [⟨some 4, .mv (.v (.bool false)), none⟩])
     .ret)
    .skip))))
   (.ops [⟨some 56, .bin .add (.t 24) (.v (.int .i64 1)), none⟩, ⟨some 24, .mv (.t 56), none⟩])))))))
 (.seq (.ops [⟨some 4, .mv (.v (.bool true)), none⟩])
 .ret))))
noncomputable def X.i_goodMemory (p0 : TBoard) (p1 : TMemory) : Option Bool :=
  ((X.i_sizeOf p0).bind fun v7 => (bif ((p1.Turns.length : Int) != v7) then some false else ((X.i_sizeOf p0).bind fun v10 => (bif ((p1.Counts.length : Int) != v10) then some false else ((loop (fun (x42 : Int) => ((bif (decide (x42 < (p1.Turns.length : Int))) then ((at' zI p1.Turns x42).bind fun v45 => ((X.i_inRange v45 (-1) p0.Rules.Turns).bind fun v47 => (bif (!v47) then some (Sum.inr (Sum.inr false)) else ((at' zI p1.Counts x42).bind fun v50 => ((X.i_inRange v50 0 4).bind fun v52 => (bif (!v52) then some (Sum.inr (Sum.inr false)) else (bif (v45 == (-1)) then (bif (v50 != 0) then some (Sum.inr (Sum.inr false)) else some (Sum.inl (W (x42 + 1)))) else some (Sum.inl (W (x42 + 1)))))))))) else some (Sum.inr (Sum.inl ()))) : Option (Int ⊕ (Unit ⊕ Bool)))) 0).bind fun y57 => (Sum.elim (fun (y59 : Unit) => some true) (fun (y60 : Bool) => some y60) y57))))))
theorem i_goodMemory_ok (p0 : TBoard) (p1 : TMemory) (r : Bool) (H : X.i_goodMemory p0 p1 = some r) : FnOk Tryd.prog gl 33 [.agg (eTBoard p0), .agg (eTMemory p1)] (cB r) := by
  unfold X.i_goodMemory at H
  refine fn_in (fn := Tryd.f33) (ir := i_goodMemory_ir) (s1 := lit [(4, cB r)] []) glL Tryd.func33 (by kernel_rfl) (by kernel_rfl) (by kernel_rfl) (by kernel_rfl) (by kernel_rfl) ?_
  refine seq_ops [] [] [(2, .c (.pk 2 0)), (3, .c (.pk 3 0))] [(2, .var (eTBoard p0) false), (3, .var (eTMemory p1) false)] (fun t => t) (by kernel_rfl) ?_
  refine seq_in ?_
  obtain ⟨v7, h8, H⟩ := ofBind H
  rcases ofCond H with ⟨c9, H⟩ | ⟨c9, H⟩
  · refine seq_draw [.res (cI v7), .g true, .g true, .g true, .g true, .g true, .g true, .g true] [] [(2, .c (.pk 2 0)), (3, .c (.pk 3 0)), (20, cB true)] [(2, .var (eTBoard p0) false), (3, .var (eTMemory p1) false)] (fun t => aI (i_sizeOf_ok p0 v7 h8) (aI trivial (aI (rfl : ([] : List Nat) = []) (aI c9 (aI c9 (aI c9 (aI c9 (aI c9 (aI c9 (aI c9 (t))))))))))) (by kernel_rfl) ?_
    refine ite_t (rfl : (true : Bool) = true) (by kernel_rfl) ?_
    refine seq_ops [] [] [(4, cB false)] [] (fun t => t) (by kernel_rfl) ?_
    refine ends_ret ?_
    obtain rfl := Option.some.inj H
    exact And.intro (.inl rfl) rfl
  · obtain ⟨v10, h11, H⟩ := ofBind H
    refine seq_draw [.res (cI v7), .g false, .g false, .g false, .g false, .g false, .res (cI v10), .g false, .g false] [] [(2, .c (.pk 2 0)), (3, .c (.pk 3 0)), (20, cB ((p1.Counts.length : Int) != v10))] [(2, .var (eTBoard p0) false), (3, .var (eTMemory p1) false)] (fun t => aI (i_sizeOf_ok p0 v7 h8) (aI trivial (aI (rfl : ([] : List Nat) = []) (aI c9 (aI c9 (aI c9 (aI c9 (aI c9 (aI (i_sizeOf_ok p0 v10 h11) (aI trivial (aI (rfl : ([] : List Nat) = []) (aI c9 (aI c9 (t)))))))))))))) (by kernel_rfl) ?_
    rcases ofCond H with ⟨c12, H⟩ | ⟨c12, H⟩
    · refine ite_t c12 (by kernel_rfl) ?_
      refine seq_ops [] [] [(4, cB false)] [] (fun t => t) (by kernel_rfl) ?_
      refine ends_ret ?_
      obtain rfl := Option.some.inj H
      exact And.intro (.inl rfl) rfl
    · refine ite_f c12 (by kernel_rfl) ?_
      refine ends_skip ?_
      change EndsI _ _ _ _ _ _
      refine seq_in ?_
      refine seq_ops [] [] [(2, .c (.pk 2 0)), (3, .c (.pk 3 0)), (22, .c (dat 1 eI zI p1.Turns)), (23, cI (p1.Turns.length : Int)), (24, cI 0)] [(2, .var (eTBoard p0) false), (3, .var (eTMemory p1) false)] (fun t => lI p1.Turns (t)) (by kernel_rfl) ?_
      refine ends_blk ?_
      obtain ⟨y57, h58, H⟩ := ofBind H
      refine loop_in (fun (x : Int) => lit [(2, .c (.pk 2 0)), (3, .c (.pk 3 0)), (22, .c (dat 1 eI zI p1.Turns)), (23, cI (p1.Turns.length : Int)), (24, cI x)] [(2, .var (eTBoard p0) false), (3, .var (eTMemory p1) false)]) (orJ (fun (z : Unit) => At (.exit 0) (lit [] [])) (fun (z : Bool) => At .ret (lit [(4, cB z)] []))) h58 ?_ ?_
      · clear H h58
        intro x42 y0 H
        refine seq_ops [] [] [(2, .c (.pk 2 0)), (3, .c (.pk 3 0)), (22, .c (dat 1 eI zI p1.Turns)), (23, cI (p1.Turns.length : Int)), (24, cI x42), (25, cB (decide (x42 < (p1.Turns.length : Int))))] [(2, .var (eTBoard p0) false), (3, .var (eTMemory p1) false)] (fun t => t) (by kernel_rfl) ?_
        refine seq_in ?_
        rcases ofCond H with ⟨c44, H⟩ | ⟨c44, H⟩
        · refine ite_t c44 (by kernel_rfl) ?_
          refine ends_skip ?_
          change EndsI _ _ _ _ _ _
          refine seq_in ?_
          refine ends_blk ?_
          obtain ⟨v45, h46, H⟩ := ofBind H
          refine seq_ops [.cs (eI v45)] [] [(2, .c (.pk 2 0)), (3, .c (.pk 3 0)), (5, cI x42), (6, cI v45), (22, .c (dat 1 eI zI p1.Turns)), (23, cI (p1.Turns.length : Int)), (24, cI x42)] [(2, .var (eTBoard p0) false), (3, .var (eTMemory p1) false)] (fun t => aI (at_lt h46) (aI (at_enc (enc := eI) h46) (t))) (by kernel_rfl) ?_
          obtain ⟨v47, h48, H⟩ := ofBind H
          rcases ofCond H with ⟨c49, H⟩ | ⟨c49, H⟩
          · refine seq_ops [.res (cB v47), .g true, .g true, .g true, .g true, .g true, .g true, .g true, .g true, .g true, .g true, .g true, .g true, .g true] [] [(2, .c (.pk 2 0)), (3, .c (.pk 3 0)), (22, .c (dat 1 eI zI p1.Turns)), (23, cI (p1.Turns.length : Int)), (24, cI x42), (55, cB true)] [(2, .var (eTBoard p0) false), (3, .var (eTMemory p1) false)] (fun t => aI (i_inRange_ok v45 (-1) p0.Rules.Turns v47 h48) (aI c49 (aI c49 (aI c49 (aI c49 (aI c49 (aI c49 (aI c49 (aI c49 (aI (rfl : (true : Bool) = true) (aI (rfl : (true : Bool) = true) (aI (rfl : (true : Bool) = true) (aI (rfl : (true : Bool) = true) (aI (rfl : (true : Bool) = true) (t))))))))))))))) (by kernel_rfl) ?_
            refine ite_t (rfl : (true : Bool) = true) (by kernel_rfl) ?_
            refine seq_ops [] [] [(4, cB false)] [] (fun t => t) (by kernel_rfl) ?_
            refine ends_ret ?_
            obtain rfl := Option.some.inj H
            exact And.intro (by simp) (And.intro rfl rfl)
          · obtain ⟨v50, h51, H⟩ := ofBind H
            obtain ⟨v52, h53, H⟩ := ofBind H
            rcases ofCond H with ⟨c54, H⟩ | ⟨c54, H⟩
            · refine seq_ops [.res (cB v47), .g false, .g false, .g false, .g false, .cs (eI v50), .g false, .g false, .res (cB v52), .g false, .g false, .g true, .g true, .g true, .g true, .g true] [] [(2, .c (.pk 2 0)), (3, .c (.pk 3 0)), (22, .c (dat 1 eI zI p1.Turns)), (23, cI (p1.Turns.length : Int)), (24, cI x42), (55, cB true)] [(2, .var (eTBoard p0) false), (3, .var (eTMemory p1) false)] (fun t => aI (i_inRange_ok v45 (-1) p0.Rules.Turns v47 h48) (aI c49 (aI c49 (aI c49 (aI c49 (aI (at_lt h51) (aI (at_enc (enc := eI) h51) (aI c49 (aI c49 (aI (i_inRange_ok v50 0 4 v52 h53) (aI c49 (aI c49 (aI c54 (aI c54 (aI c54 (aI c54 (aI c54 (t)))))))))))))))))) (by kernel_rfl) ?_
              refine ite_t (rfl : (true : Bool) = true) (by kernel_rfl) ?_
              refine seq_ops [] [] [(4, cB false)] [] (fun t => t) (by kernel_rfl) ?_
              refine ends_ret ?_
              obtain rfl := Option.some.inj H
              exact And.intro (by simp) (And.intro rfl rfl)
            · rcases ofCond H with ⟨c55, H⟩ | ⟨c55, H⟩
              · refine seq_ops [.res (cB v47), .g false, .g false, .g false, .g false, .cs (eI v50), .g false, .g false, .res (cB v52), .g false, .g false, .g false, .g false, .g false, .g true, .g true, .g true, .g true, .cs (eI v50), .g true, .g true, .g false, .g true, .g false] [] [(2, .c (.pk 2 0)), (3, .c (.pk 3 0)), (22, .c (dat 1 eI zI p1.Turns)), (23, cI (p1.Turns.length : Int)), (24, cI x42), (55, cB (v50 != 0))] [(2, .var (eTBoard p0) false), (3, .var (eTMemory p1) false)] (fun t => aI (i_inRange_ok v45 (-1) p0.Rules.Turns v47 h48) (aI c49 (aI c49 (aI c49 (aI c49 (aI (at_lt h51) (aI (at_enc (enc := eI) h51) (aI c49 (aI c49 (aI (i_inRange_ok v50 0 4 v52 h53) (aI c49 (aI c49 (aI c54 (aI c54 (aI c54 (aI c55 (aI c55 (aI c55 (aI c55 (aI (at_lt h51) (aI (at_enc (enc := eI) h51) (aI c55 (aI c55 (aI c54 (aI c55 (aI c54 (t))))))))))))))))))))))))))) (by kernel_rfl) ?_
                rcases ofCond H with ⟨c56, H⟩ | ⟨c56, H⟩
                · refine ite_t c56 (by kernel_rfl) ?_
                  refine seq_ops [] [] [(4, cB false)] [] (fun t => t) (by kernel_rfl) ?_
                  refine ends_ret ?_
                  obtain rfl := Option.some.inj H
                  exact And.intro (by simp) (And.intro rfl rfl)
                · refine ite_f c56 (by kernel_rfl) ?_
                  refine ends_skip ?_
                  change EndsI _ _ _ _ _ _
                  refine one_ops [] [] [(2, .c (.pk 2 0)), (3, .c (.pk 3 0)), (22, .c (dat 1 eI zI p1.Turns)), (23, cI (p1.Turns.length : Int)), (24, cI (W (x42 + 1)))] [(2, .var (eTBoard p0) false), (3, .var (eTMemory p1) false)] (fun t => t) (by kernel_rfl) ?_
                  obtain rfl := Option.some.inj H
                  exact And.intro rfl rfl
              · refine seq_ops [.res (cB v47), .g false, .g false, .g false, .g false, .cs (eI v50), .g false, .g false, .res (cB v52), .g false, .g false, .g false, .g false, .g false, .g false, .g false, .g false, .g false, .g false, .g false, .g false, .g false, .g false] [] [(2, .c (.pk 2 0)), (3, .c (.pk 3 0)), (22, .c (dat 1 eI zI p1.Turns)), (23, cI (p1.Turns.length : Int)), (24, cI x42), (55, cB false)] [(2, .var (eTBoard p0) false), (3, .var (eTMemory p1) false)] (fun t => aI (i_inRange_ok v45 (-1) p0.Rules.Turns v47 h48) (aI c49 (aI c49 (aI c49 (aI c49 (aI (at_lt h51) (aI (at_enc (enc := eI) h51) (aI c49 (aI c49 (aI (i_inRange_ok v50 0 4 v52 h53) (aI c49 (aI c49 (aI c54 (aI c54 (aI c54 (aI c55 (aI c55 (aI c55 (aI c55 (aI c55 (aI c55 (aI c54 (aI c55 (aI c54 (t))))))))))))))))))))))))) (by kernel_rfl) ?_
                refine ite_f (rfl : (false : Bool) = false) (by kernel_rfl) ?_
                refine ends_skip ?_
                change EndsI _ _ _ _ _ _
                refine one_ops [] [] [(2, .c (.pk 2 0)), (3, .c (.pk 3 0)), (22, .c (dat 1 eI zI p1.Turns)), (23, cI (p1.Turns.length : Int)), (24, cI (W (x42 + 1)))] [(2, .var (eTBoard p0) false), (3, .var (eTMemory p1) false)] (fun t => t) (by kernel_rfl) ?_
                obtain rfl := Option.some.inj H
                exact And.intro rfl rfl
        · refine ite_f c44 (by kernel_rfl) ?_
          refine tell [] [] [] (fun t => t) (by kernel_rfl) ?_
          refine ends_exit ?_
          obtain rfl := Option.some.inj H
          exact And.intro (by simp) (And.intro rfl rfl)
      · clear h58
        cases y57 with
        | inl y59 =>
          replace H := ofInl H
          intro e s q
          obtain ⟨rfl, rfl⟩ := q
          change EndsI _ _ _ _ _ _
          refine seq_ops [] [] [(4, cB true)] [] (fun t => t) (by kernel_rfl) ?_
          refine ends_ret ?_
          obtain rfl := Option.some.inj H
          exact And.intro (.inl rfl) rfl
        | inr y60 =>
          replace H := ofInr H
          intro e s q
          obtain ⟨rfl, rfl⟩ := q
          obtain rfl := Option.some.inj H
          exact And.intro (.inl rfl) rfl

def i_hexesThat_ir : S :=
 (.seq (.ops [⟨some 2, .box 12 (.t 0), none⟩, ⟨some 4, .mv (.v (.nil)), none⟩])
 (.seq (.ops [⟨some 7, .bsl 1 [], none⟩, ⟨some 5, .mv (.t 7), none⟩])
 (.seq (.seq (.ops [⟨some 8, .fad 7 (.t 2), none⟩, ⟨some 9, .fad 2 (.t 8), none⟩, ⟨some 10, .load 1 false (.t 9), none⟩, ⟨some 11, .len (.t 10), none⟩, ⟨some 12, .mv (.v (.int .i64 0)), none⟩])
 (.blk 0 (.loop (.seq (.ops [⟨some 13, .bin .lss (.t 12) (.t 11), none⟩])
   (.seq (.ite (.t 13) .skip
   (.exit 0))
   (.seq (.blk 1 (.seq (.ops [⟨some 14, .mv (.t 12), none⟩, ⟨some 6, .mv (.t 14), none⟩])
    (.seq (.ops [⟨some 15, .mv (.t 1), none⟩, ⟨some 16, .mv (.t 6), none⟩, ⟨some 17, .cald (.t 15) [.t 16], none⟩])
    (.ite (.t 17) (.ops [⟨some 18, .mv (.t 5), none⟩, ⟨some 19, .mv (.t 6), none⟩, ⟨some 20, .bsl 1 [.t 19], none⟩, ⟨some 21, .app 1 8 (.t 18) (.t 20), none⟩, ⟨some 5, .mv (.t 21), none⟩])
    .skip))))
   (.ops [⟨some 22, .bin .add (.t 12) (.v (.int .i64 1)), none⟩, ⟨some 12, .mv (.t 22), none⟩])))))))
 (.seq (.ops [⟨some 23, .mv (.t 5), none⟩, ⟨some 4, .mv (.t 23), none⟩])
 .ret))))
noncomputable def X.i_hexesThat (p0 : TBoard) (f1 : Int → Option Bool) : Option (List Int) :=
  ((loop (fun (x14 : (Int × (List Int))) => ((bif (decide (x14.1 < (p0.Map.Terrain.length : Int))) then ((f1 x14.1).bind fun v17 => (bif v17 then (if (x14.2 ++ ([x14.1] : List Int)).length ≤ LIM then some (Sum.inl ((W (x14.1 + 1)), (x14.2 ++ ([x14.1] : List Int)))) else none) else some (Sum.inl ((W (x14.1 + 1)), x14.2)))) else some (Sum.inr x14.2)) : Option ((Int × (List Int)) ⊕ (List Int)))) (0, ([] : List Int))).bind fun y21 => some y21)
theorem i_hexesThat_c1_ok (p0 : TBoard) (cf1 : FuncId) (cs1_0 : List AC) (f1 : Int → Option Bool) (hf1 : ∀ q0 r, f1 q0 = some r → FnOk Tryd.prog gl cf1 [cI q0, .c (.pd cs1_0 0)] (cB r)) (r : (List Int)) (H : X.i_hexesThat p0 f1 = some r) : FnOk Tryd.prog gl 35 [.agg (eTBoard p0), .c (.clo cf1 [.pd cs1_0 0])] (.c (dat 1 eI zI r)) := by
  unfold X.i_hexesThat at H
  refine fn_in (fn := Tryd.f35) (ir := i_hexesThat_ir) (s1 := lit [(4, .c (dat 1 eI zI r))] []) glL Tryd.func35 (by kernel_rfl) (by kernel_rfl) (by kernel_rfl) (by kernel_rfl) (by kernel_rfl) ?_
  refine seq_ops [] [] [(1, .c (.clo cf1 [.pd cs1_0 0])), (2, .c (.pk 2 0))] [(2, .var (eTBoard p0) false)] (fun t => t) (by kernel_rfl) ?_
  refine seq_ops [.fn ([] : List Int).length (fF eI zI ([] : List Int))] [] [(1, .c (.clo cf1 [.pd cs1_0 0])), (2, .c (.pk 2 0)), (5, .c (.own 7 1 0 (([] : List Int).length)))] [(2, .var (eTBoard p0) false), (7, .arr 1 (([] : List Int).length) (fF eI zI ([] : List Int)) false)] (fun t => aI (rfl : ([] : List Int).length = 0) (aI (fF_lit eI zI ([] : List Int)) (t))) (by kernel_rfl) ?_
  refine seq_in ?_
  refine seq_ops [] [] [(1, .c (.clo cf1 [.pd cs1_0 0])), (5, .c (.own 7 1 0 (([] : List Int).length))), (11, cI (p0.Map.Terrain.length : Int)), (12, cI 0)] [(7, .arr 1 (([] : List Int).length) (fF eI zI ([] : List Int)) false)] (fun t => lI p0.Map.Terrain (t)) (by kernel_rfl) ?_
  refine ends_blk ?_
  obtain ⟨y21, h22, H⟩ := ofBind H
  refine tell [.ren 7 1001] [(1, .c (.clo cf1 [.pd cs1_0 0])), (5, .c (.own 1001 1 0 (([] : List Int).length))), (11, cI (p0.Map.Terrain.length : Int)), (12, cI 0)] [(1001, .arr 1 (([] : List Int).length) (fF eI zI ([] : List Int)) false)] (fun t => t) (by kernel_rfl) ?_
  refine loop_in (fun (x : (Int × (List Int))) => lit [(1, .c (.clo cf1 [.pd cs1_0 0])), (5, .c (.own 1001 1 0 x.2.length)), (11, cI (p0.Map.Terrain.length : Int)), (12, cI x.1)] [(1001, .arr 1 x.2.length (fF eI zI x.2) false)]) (fun (z : (List Int)) => At (.exit 0) (lit [(5, .c (.own 1001 1 0 z.length))] [(1001, .arr 1 z.length (fF eI zI z) false)])) h22 ?_ ?_
  · clear H h22
    intro x14 y0 H
    refine seq_ops [] [] [(1, .c (.clo cf1 [.pd cs1_0 0])), (5, .c (.own 1001 1 0 x14.2.length)), (11, cI (p0.Map.Terrain.length : Int)), (12, cI x14.1), (13, cB (decide (x14.1 < (p0.Map.Terrain.length : Int))))] [(1001, .arr 1 x14.2.length (fF eI zI x14.2) false)] (fun t => t) (by kernel_rfl) ?_
    refine seq_in ?_
    rcases ofCond H with ⟨c16, H⟩ | ⟨c16, H⟩
    · refine ite_t c16 (by kernel_rfl) ?_
      refine ends_skip ?_
      change EndsI _ _ _ _ _ _
      refine seq_in ?_
      refine ends_blk ?_
      refine seq_ops [] [] [(1, .c (.clo cf1 [.pd cs1_0 0])), (5, .c (.own 1001 1 0 x14.2.length)), (6, cI x14.1), (11, cI (p0.Map.Terrain.length : Int)), (12, cI x14.1)] [(1001, .arr 1 x14.2.length (fF eI zI x14.2) false)] (fun t => t) (by kernel_rfl) ?_
      obtain ⟨v17, h18, H⟩ := ofBind H
      refine seq_ops [.res (cB v17)] [] [(1, .c (.clo cf1 [.pd cs1_0 0])), (5, .c (.own 1001 1 0 x14.2.length)), (6, cI x14.1), (11, cI (p0.Map.Terrain.length : Int)), (12, cI x14.1), (17, cB v17)] [(1001, .arr 1 x14.2.length (fF eI zI x14.2) false)] (fun t => aI (hf1 x14.1 v17 h18) (t)) (by kernel_rfl) ?_
      rcases ofCond H with ⟨c19, H⟩ | ⟨c19, H⟩
      · refine ite_t c19 (by kernel_rfl) ?_
        obtain ⟨g20, H⟩ := ofIf H
        refine one_ops [.fn ([x14.1] : List Int).length (fF eI zI ([x14.1] : List Int)), .fn (x14.2 ++ ([x14.1] : List Int)).length (fF eI zI (x14.2 ++ ([x14.1] : List Int)))] [] [(1, .c (.clo cf1 [.pd cs1_0 0])), (5, .c (.own 21 1 0 ((x14.2 ++ ([x14.1] : List Int)).length))), (11, cI (p0.Map.Terrain.length : Int)), (12, cI x14.1)] [(21, .arr 1 ((x14.2 ++ ([x14.1] : List Int)).length) (fF eI zI (x14.2 ++ ([x14.1] : List Int))) false)] (fun t => aI (rfl : ([x14.1] : List Int).length = 1) (aI (fF_lit eI zI ([x14.1] : List Int)) (aI (And.intro (Nat.le_refl x14.2.length) (And.intro (@List.length_append _ x14.2 ([x14.1] : List Int)) g20)) (aI (fF_appL eI zI x14.2 ([x14.1] : List Int)) (aI (fF_appR eI zI x14.2 ([x14.1] : List Int)) (t)))))) (by kernel_rfl) ?_
        change EndsI _ _ _ _ _ _
        refine one_ops [] [.ren 21 1001] [(1, .c (.clo cf1 [.pd cs1_0 0])), (5, .c (.own 1001 1 0 ((x14.2 ++ ([x14.1] : List Int)).length))), (11, cI (p0.Map.Terrain.length : Int)), (12, cI (W (x14.1 + 1)))] [(1001, .arr 1 ((x14.2 ++ ([x14.1] : List Int)).length) (fF eI zI (x14.2 ++ ([x14.1] : List Int))) false)] (fun t => t) (by kernel_rfl) ?_
        obtain rfl := Option.some.inj H
        exact And.intro rfl rfl
      · refine ite_f c19 (by kernel_rfl) ?_
        refine ends_skip ?_
        change EndsI _ _ _ _ _ _
        refine one_ops [] [] [(1, .c (.clo cf1 [.pd cs1_0 0])), (5, .c (.own 1001 1 0 x14.2.length)), (11, cI (p0.Map.Terrain.length : Int)), (12, cI (W (x14.1 + 1)))] [(1001, .arr 1 x14.2.length (fF eI zI x14.2) false)] (fun t => t) (by kernel_rfl) ?_
        obtain rfl := Option.some.inj H
        exact And.intro rfl rfl
    · refine ite_f c16 (by kernel_rfl) ?_
      refine tell [] [(5, .c (.own 1001 1 0 x14.2.length))] [(1001, .arr 1 x14.2.length (fF eI zI x14.2) false)] (fun t => t) (by kernel_rfl) ?_
      refine ends_exit ?_
      obtain rfl := Option.some.inj H
      exact And.intro (by simp) (And.intro rfl rfl)
  · clear h22
    intro e s q
    obtain ⟨rfl, rfl⟩ := q
    change EndsI _ _ _ _ _ _
    refine seq_ops [] [] [(4, .c (.own 1001 1 0 y21.length))] [(1001, .arr 1 y21.length (fF eI zI y21) false)] (fun t => t) (by kernel_rfl) ?_
    refine tell [.frz 4] [(4, .c (dat 1 eI zI y21))] [] (fun t => aI (Nat.le_refl y21.length) (t)) (by kernel_rfl) ?_
    refine ends_ret ?_
    obtain rfl := Option.some.inj H
    exact And.intro (.inl rfl) rfl

def i_SuspectedHexes_1_ir : S :=
 (.seq (.ops [⟨some 3, .mv (.v (.bool false)), none⟩])
 (.seq (.ops [⟨some 4, .fad 1 (.t 1), none⟩, ⟨some 5, .load 1 false (.t 4), none⟩, ⟨some 6, .mv (.t 0), none⟩, ⟨some 7, .iad 1 (.t 5) (.t 6), none⟩, ⟨some 8, .load 1 false (.t 7), none⟩, ⟨some 9, .bin .gtr (.t 8) (.v (.int .i64 0)), none⟩, ⟨some 3, .mv (.t 9), none⟩])
 .ret))
noncomputable def X.i_SuspectedHexes_1 (p0 : Int) (p1 : TMemory) : Option Bool :=
  ((at' zI p1.Counts p0).bind fun v1 => some (decide (v1 > 0)))
theorem i_SuspectedHexes_1_ok (p0 : Int) (p1 : TMemory) (r : Bool) (H : X.i_SuspectedHexes_1 p0 p1 = some r) : FnOk Tryd.prog gl 41 [cI p0, .c (.pd (eTMemory p1) 0)] (cB r) := by
  unfold X.i_SuspectedHexes_1 at H
  refine fn_in (fn := Tryd.f41) (ir := i_SuspectedHexes_1_ir) (s1 := lit [(3, cB r)] []) glL Tryd.func41 (by kernel_rfl) (by kernel_rfl) (by kernel_rfl) (by kernel_rfl) (by kernel_rfl) ?_
  refine seq_ops [] [] [(0, cI p0), (1, .c (.pd (eTMemory p1) 0))] [] (fun t => t) (by kernel_rfl) ?_
  obtain ⟨v1, h2, H⟩ := ofBind H
  refine seq_ops [.cs (eI v1)] [] [(3, cB (decide (v1 > 0)))] [] (fun t => aI (at_lt h2) (aI (at_enc (enc := eI) h2) (t))) (by kernel_rfl) ?_
  refine ends_ret ?_
  obtain rfl := Option.some.inj H
  exact And.intro (.inl rfl) rfl

def i_SuspectedHexes_ir : S :=
 (.seq (.ops [⟨some 2, .box 12 (.t 0), none⟩, ⟨some 3, .box 2 (.t 1), none⟩, ⟨some 4, .mv (.v (.nil)), none⟩, ⟨some 5, .mv (.v (.bool false)), none⟩])
 (.seq (.seq (.ops [⟨some 6, .load 12 true (.t 2), none⟩, ⟨some 7, .call 32 [.t 6], none⟩, ⟨some 8, .not (.t 7), none⟩, ⟨some 9, .mv (.t 8), none⟩, ⟨some 10, .load 12 true (.t 2), some (9, false)⟩, ⟨some 11, .load 2 true (.t 3), some (9, false)⟩, ⟨some 12, .call 33 [.t 10, .t 11], some (9, false)⟩, ⟨some 13, .not (.t 12), some (9, false)⟩, ⟨some 14, .pick (.t 9) (.v (.bool true)) (.t 13), none⟩])
 (.ite (.t 14) (.seq (.ops [⟨some 4, .mv (.v (.nil)), none⟩, ⟨some 5, .mv (.v (.bool false)), none⟩])
  .ret)
 .skip))
 (.seq (.ops [⟨some 15, .load 12 true (.t 2), none⟩, ⟨some 16, .clo 41 [.t 3], none⟩, ⟨some 17, .call 35 [.t 15, .t 16], none⟩, ⟨some 4, .mv (.t 17), none⟩, ⟨some 5, .mv (.v (.bool true)), none⟩])
 .ret)))
noncomputable def X.i_SuspectedHexes (p0 : TBoard) (p1 : TMemory) : Option ((List Int) × Bool) :=
  ((X.i_IsBoard p0).bind fun v1 => (bif (!v1) then some (([] : List Int), false) else ((X.i_goodMemory p0 p1).bind fun v4 => (bif (!v4) then some (([] : List Int), false) else ((X.i_hexesThat p0 (fun q0 => X.i_SuspectedHexes_1 q0 p1)).bind fun v7 => some (v7, true))))))
theorem i_SuspectedHexes_ok (p0 : TBoard) (p1 : TMemory) (r : ((List Int) × Bool)) (H : X.i_SuspectedHexes p0 p1 = some r) : FnOk Tryd.prog gl 20 [.agg (eTBoard p0), .agg (eTMemory p1)] (.tup [(false, [dat 1 eI zI r.1]), (false, [.bool r.2])]) := by
  unfold X.i_SuspectedHexes at H
  refine fn_in (fn := Tryd.f20) (ir := i_SuspectedHexes_ir) (s1 := lit [(4, .c (dat 1 eI zI r.1)), (5, cB r.2)] []) glL Tryd.func20 (by kernel_rfl) (by kernel_rfl) (by kernel_rfl) (by kernel_rfl) (by kernel_rfl) ?_
  refine seq_ops [] [] [(2, .c (.pk 2 0)), (3, .c (.pk 3 0))] [(2, .var (eTBoard p0) false), (3, .var (eTMemory p1) false)] (fun t => t) (by kernel_rfl) ?_
  refine seq_in ?_
  obtain ⟨v1, h2, H⟩ := ofBind H
  rcases ofCond H with ⟨c3, H⟩ | ⟨c3, H⟩
  · refine seq_ops [.res (cB v1), .g true, .g true, .g true, .g true, .g true] [] [(2, .c (.pk 2 0)), (3, .c (.pk 3 0)), (14, cB true)] [(2, .var (eTBoard p0) false), (3, .var (eTMemory p1) false)] (fun t => aI (i_IsBoard_ok p0 v1 h2) (aI c3 (aI c3 (aI c3 (aI c3 (aI c3 (t))))))) (by kernel_rfl) ?_
    refine ite_t (rfl : (true : Bool) = true) (by kernel_rfl) ?_
    refine seq_ops [] [] [(4, .c (.nil)), (5, cB false)] [] (fun t => t) (by kernel_rfl) ?_
    refine tell [.nld 4 1 (fF eI zI ([] : List Int))] [(4, .c (dat 1 eI zI ([] : List Int))), (5, cB false)] [] (fun t => t) (by kernel_rfl) ?_
    refine ends_ret ?_
    obtain rfl := Option.some.inj H
    exact And.intro (.inl rfl) rfl
  · obtain ⟨v4, h5, H⟩ := ofBind H
    refine seq_ops [.res (cB v1), .g false, .g false, .g false, .res (cB v4), .g false, .g false] [] [(2, .c (.pk 2 0)), (3, .c (.pk 3 0)), (14, cB (!v4))] [(2, .var (eTBoard p0) false), (3, .var (eTMemory p1) false)] (fun t => aI (i_IsBoard_ok p0 v1 h2) (aI c3 (aI c3 (aI c3 (aI (i_goodMemory_ok p0 p1 v4 h5) (aI c3 (aI c3 (t)))))))) (by kernel_rfl) ?_
    rcases ofCond H with ⟨c6, H⟩ | ⟨c6, H⟩
    · refine ite_t c6 (by kernel_rfl) ?_
      refine seq_ops [] [] [(4, .c (.nil)), (5, cB false)] [] (fun t => t) (by kernel_rfl) ?_
      refine tell [.nld 4 1 (fF eI zI ([] : List Int))] [(4, .c (dat 1 eI zI ([] : List Int))), (5, cB false)] [] (fun t => t) (by kernel_rfl) ?_
      refine ends_ret ?_
      obtain rfl := Option.some.inj H
      exact And.intro (.inl rfl) rfl
    · refine ite_f c6 (by kernel_rfl) ?_
      refine ends_skip ?_
      change EndsI _ _ _ _ _ _
      obtain ⟨v7, h8, H⟩ := ofBind H
      refine seq_ops [.res (.c (dat 1 eI zI v7))] [] [(4, .c (dat 1 eI zI v7)), (5, cB true)] [] (fun t => aI (i_hexesThat_c1_ok p0 (41) (eTMemory p1) (fun q0 => X.i_SuspectedHexes_1 q0 p1) (fun q0 r h => i_SuspectedHexes_1_ok q0 p1 r h) v7 h8) (t)) (by kernel_rfl) ?_
      refine ends_ret ?_
      obtain rfl := Option.some.inj H
      exact And.intro (.inl rfl) rfl

theorem i_hexesThat_Mdf_c1_ok (p0 : TBoard) (cf1 : FuncId) (cs1_0 : List AC) (f1 : Int → Option Bool) (hf1 : ∀ q0 r, f1 q0 = some r → FnOk Tryd.prog gl cf1 [cI q0, .c (.pd cs1_0 0)] (cB r)) (r : (List Int)) (H : X.i_hexesThat p0 f1 = some r) : FnMu Tryd.prog gl 35 [.agg (eTBoard p0), .c (.clo cf1 [.pd cs1_0 0])] [] (.c (.own 900000 1 0 r.length)) [(900000, .arr 1 r.length (fF eI zI r) false)] := by
  unfold X.i_hexesThat at H
  refine fn_mu (fn := Tryd.f35) (ir := i_hexesThat_ir) (E' := [(4, .c (.own 900000 1 0 r.length))]) (E1 := [(900000, .arr 1 r.length (fF eI zI r) false)]) glL Tryd.func35 (by kernel_rfl) (by kernel_rfl) (by kernel_rfl) (by kernel_rfl) (by kernel_rfl) ?_
  refine seq_ops [] [] [(1, .c (.clo cf1 [.pd cs1_0 0])), (2, .c (.pk 2 0))] [(2, .var (eTBoard p0) false)] (fun t => t) (by kernel_rfl) ?_
  refine seq_ops [.fn ([] : List Int).length (fF eI zI ([] : List Int))] [] [(1, .c (.clo cf1 [.pd cs1_0 0])), (2, .c (.pk 2 0)), (5, .c (.own 7 1 0 (([] : List Int).length)))] [(2, .var (eTBoard p0) false), (7, .arr 1 (([] : List Int).length) (fF eI zI ([] : List Int)) false)] (fun t => aI (rfl : ([] : List Int).length = 0) (aI (fF_lit eI zI ([] : List Int)) (t))) (by kernel_rfl) ?_
  refine seq_in ?_
  refine seq_ops [] [] [(1, .c (.clo cf1 [.pd cs1_0 0])), (5, .c (.own 7 1 0 (([] : List Int).length))), (11, cI (p0.Map.Terrain.length : Int)), (12, cI 0)] [(7, .arr 1 (([] : List Int).length) (fF eI zI ([] : List Int)) false)] (fun t => lI p0.Map.Terrain (t)) (by kernel_rfl) ?_
  refine ends_blk ?_
  obtain ⟨y21, h22, H⟩ := ofBind H
  refine tell [.ren 7 1001] [(1, .c (.clo cf1 [.pd cs1_0 0])), (5, .c (.own 1001 1 0 (([] : List Int).length))), (11, cI (p0.Map.Terrain.length : Int)), (12, cI 0)] [(1001, .arr 1 (([] : List Int).length) (fF eI zI ([] : List Int)) false)] (fun t => t) (by kernel_rfl) ?_
  refine loop_in (fun (x : (Int × (List Int))) => lit [(1, .c (.clo cf1 [.pd cs1_0 0])), (5, .c (.own 1001 1 0 x.2.length)), (11, cI (p0.Map.Terrain.length : Int)), (12, cI x.1)] [(1001, .arr 1 x.2.length (fF eI zI x.2) false)]) (fun (z : (List Int)) => At (.exit 0) (lit [(5, .c (.own 1001 1 0 z.length))] [(1001, .arr 1 z.length (fF eI zI z) false)])) h22 ?_ ?_
  · clear H h22
    intro x14 y0 H
    refine seq_ops [] [] [(1, .c (.clo cf1 [.pd cs1_0 0])), (5, .c (.own 1001 1 0 x14.2.length)), (11, cI (p0.Map.Terrain.length : Int)), (12, cI x14.1), (13, cB (decide (x14.1 < (p0.Map.Terrain.length : Int))))] [(1001, .arr 1 x14.2.length (fF eI zI x14.2) false)] (fun t => t) (by kernel_rfl) ?_
    refine seq_in ?_
    rcases ofCond H with ⟨c16, H⟩ | ⟨c16, H⟩
    · refine ite_t c16 (by kernel_rfl) ?_
      refine ends_skip ?_
      change EndsI _ _ _ _ _ _
      refine seq_in ?_
      refine ends_blk ?_
      refine seq_ops [] [] [(1, .c (.clo cf1 [.pd cs1_0 0])), (5, .c (.own 1001 1 0 x14.2.length)), (6, cI x14.1), (11, cI (p0.Map.Terrain.length : Int)), (12, cI x14.1)] [(1001, .arr 1 x14.2.length (fF eI zI x14.2) false)] (fun t => t) (by kernel_rfl) ?_
      obtain ⟨v17, h18, H⟩ := ofBind H
      refine seq_ops [.res (cB v17)] [] [(1, .c (.clo cf1 [.pd cs1_0 0])), (5, .c (.own 1001 1 0 x14.2.length)), (6, cI x14.1), (11, cI (p0.Map.Terrain.length : Int)), (12, cI x14.1), (17, cB v17)] [(1001, .arr 1 x14.2.length (fF eI zI x14.2) false)] (fun t => aI (hf1 x14.1 v17 h18) (t)) (by kernel_rfl) ?_
      rcases ofCond H with ⟨c19, H⟩ | ⟨c19, H⟩
      · refine ite_t c19 (by kernel_rfl) ?_
        obtain ⟨g20, H⟩ := ofIf H
        refine one_ops [.fn ([x14.1] : List Int).length (fF eI zI ([x14.1] : List Int)), .fn (x14.2 ++ ([x14.1] : List Int)).length (fF eI zI (x14.2 ++ ([x14.1] : List Int)))] [] [(1, .c (.clo cf1 [.pd cs1_0 0])), (5, .c (.own 21 1 0 ((x14.2 ++ ([x14.1] : List Int)).length))), (11, cI (p0.Map.Terrain.length : Int)), (12, cI x14.1)] [(21, .arr 1 ((x14.2 ++ ([x14.1] : List Int)).length) (fF eI zI (x14.2 ++ ([x14.1] : List Int))) false)] (fun t => aI (rfl : ([x14.1] : List Int).length = 1) (aI (fF_lit eI zI ([x14.1] : List Int)) (aI (And.intro (Nat.le_refl x14.2.length) (And.intro (@List.length_append _ x14.2 ([x14.1] : List Int)) g20)) (aI (fF_appL eI zI x14.2 ([x14.1] : List Int)) (aI (fF_appR eI zI x14.2 ([x14.1] : List Int)) (t)))))) (by kernel_rfl) ?_
        change EndsI _ _ _ _ _ _
        refine one_ops [] [.ren 21 1001] [(1, .c (.clo cf1 [.pd cs1_0 0])), (5, .c (.own 1001 1 0 ((x14.2 ++ ([x14.1] : List Int)).length))), (11, cI (p0.Map.Terrain.length : Int)), (12, cI (W (x14.1 + 1)))] [(1001, .arr 1 ((x14.2 ++ ([x14.1] : List Int)).length) (fF eI zI (x14.2 ++ ([x14.1] : List Int))) false)] (fun t => t) (by kernel_rfl) ?_
        obtain rfl := Option.some.inj H
        exact And.intro rfl rfl
      · refine ite_f c19 (by kernel_rfl) ?_
        refine ends_skip ?_
        change EndsI _ _ _ _ _ _
        refine one_ops [] [] [(1, .c (.clo cf1 [.pd cs1_0 0])), (5, .c (.own 1001 1 0 x14.2.length)), (11, cI (p0.Map.Terrain.length : Int)), (12, cI (W (x14.1 + 1)))] [(1001, .arr 1 x14.2.length (fF eI zI x14.2) false)] (fun t => t) (by kernel_rfl) ?_
        obtain rfl := Option.some.inj H
        exact And.intro rfl rfl
    · refine ite_f c16 (by kernel_rfl) ?_
      refine tell [] [(5, .c (.own 1001 1 0 x14.2.length))] [(1001, .arr 1 x14.2.length (fF eI zI x14.2) false)] (fun t => t) (by kernel_rfl) ?_
      refine ends_exit ?_
      obtain rfl := Option.some.inj H
      exact And.intro (by simp) (And.intro rfl rfl)
  · clear h22
    intro e s q
    obtain ⟨rfl, rfl⟩ := q
    change EndsI _ _ _ _ _ _
    refine seq_ops [] [] [(4, .c (.own 1001 1 0 y21.length))] [(1001, .arr 1 y21.length (fF eI zI y21) false)] (fun t => t) (by kernel_rfl) ?_
    refine tell [.ren 1001 900000] [(4, .c (.own 900000 1 0 y21.length))] [(900000, .arr 1 y21.length (fF eI zI y21) false)] (fun t => t) (by kernel_rfl) ?_
    refine ends_ret ?_
    obtain rfl := Option.some.inj H
    exact And.intro (.inl rfl) rfl

theorem i_SuspectedHexes_Mdd_ok (p0 : TBoard) (p1 : TMemory) (r : ((List Int) × Bool)) (H : X.i_SuspectedHexes p0 p1 = some r) : FnMu Tryd.prog gl 20 [.agg (eTBoard p0), .agg (eTMemory p1)] [] (.tup [(false, [.own 900000 1 0 r.1.length]), (false, [.bool r.2])]) [(900000, .arr 1 r.1.length (fF eI zI r.1) false)] := by
  unfold X.i_SuspectedHexes at H
  refine fn_mu (fn := Tryd.f20) (ir := i_SuspectedHexes_ir) (E' := [(4, .c (.own 900000 1 0 r.1.length)), (5, cB r.2)]) (E1 := [(900000, .arr 1 r.1.length (fF eI zI r.1) false)]) glL Tryd.func20 (by kernel_rfl) (by kernel_rfl) (by kernel_rfl) (by kernel_rfl) (by kernel_rfl) ?_
  refine seq_ops [] [] [(2, .c (.pk 2 0)), (3, .c (.pk 3 0))] [(2, .var (eTBoard p0) false), (3, .var (eTMemory p1) false)] (fun t => t) (by kernel_rfl) ?_
  refine seq_in ?_
  obtain ⟨v1, h2, H⟩ := ofBind H
  rcases ofCond H with ⟨c3, H⟩ | ⟨c3, H⟩
  · refine seq_ops [.res (cB v1), .g true, .g true, .g true, .g true, .g true] [] [(2, .c (.pk 2 0)), (3, .c (.pk 3 0)), (14, cB true)] [(2, .var (eTBoard p0) false), (3, .var (eTMemory p1) false)] (fun t => aI (i_IsBoard_ok p0 v1 h2) (aI c3 (aI c3 (aI c3 (aI c3 (aI c3 (t))))))) (by kernel_rfl) ?_
    refine ite_t (rfl : (true : Bool) = true) (by kernel_rfl) ?_
    refine seq_ops [] [] [(4, .c (.nil)), (5, cB false)] [] (fun t => t) (by kernel_rfl) ?_
    refine tell [.nlo 4 900000 1 (fF eI zI ([] : List Int))] [(4, .c (.own 900000 1 0 (([] : List Int).length))), (5, cB false)] [(900000, .arr 1 (([] : List Int).length) (fF eI zI ([] : List Int)) false)] (fun t => aI (by decide : 0 < 1) (t)) (by kernel_rfl) ?_
    refine ends_ret ?_
    obtain rfl := Option.some.inj H
    exact And.intro (.inl rfl) rfl
  · obtain ⟨v4, h5, H⟩ := ofBind H
    refine seq_ops [.res (cB v1), .g false, .g false, .g false, .res (cB v4), .g false, .g false] [] [(2, .c (.pk 2 0)), (3, .c (.pk 3 0)), (14, cB (!v4))] [(2, .var (eTBoard p0) false), (3, .var (eTMemory p1) false)] (fun t => aI (i_IsBoard_ok p0 v1 h2) (aI c3 (aI c3 (aI c3 (aI (i_goodMemory_ok p0 p1 v4 h5) (aI c3 (aI c3 (t)))))))) (by kernel_rfl) ?_
    rcases ofCond H with ⟨c6, H⟩ | ⟨c6, H⟩
    · refine ite_t c6 (by kernel_rfl) ?_
      refine seq_ops [] [] [(4, .c (.nil)), (5, cB false)] [] (fun t => t) (by kernel_rfl) ?_
      refine tell [.nlo 4 900000 1 (fF eI zI ([] : List Int))] [(4, .c (.own 900000 1 0 (([] : List Int).length))), (5, cB false)] [(900000, .arr 1 (([] : List Int).length) (fF eI zI ([] : List Int)) false)] (fun t => aI (by decide : 0 < 1) (t)) (by kernel_rfl) ?_
      refine ends_ret ?_
      obtain rfl := Option.some.inj H
      exact And.intro (.inl rfl) rfl
    · refine ite_f c6 (by kernel_rfl) ?_
      refine ends_skip ?_
      change EndsI _ _ _ _ _ _
      obtain ⟨v7, h8, H⟩ := ofBind H
      refine seq_ops [.mu [] [(900000, 1001)] (.c (.own 900000 1 0 v7.length)) [(900000, .arr 1 v7.length (fF eI zI v7) false)]] [] [(4, .c (.own 1001 1 0 v7.length)), (5, cB true)] [(1001, .arr 1 v7.length (fF eI zI v7) false)] (fun t => aI (i_hexesThat_Mdf_c1_ok p0 (41) (eTMemory p1) (fun q0 => X.i_SuspectedHexes_1 q0 p1) (fun q0 r h => i_SuspectedHexes_1_ok q0 p1 r h) v7 h8) (t)) (by kernel_rfl) ?_
      refine tell [.ren 1001 900000] [(4, .c (.own 900000 1 0 v7.length)), (5, cB true)] [(900000, .arr 1 v7.length (fF eI zI v7) false)] (fun t => t) (by kernel_rfl) ?_
      refine ends_ret ?_
      obtain rfl := Option.some.inj H
      exact And.intro (.inl rfl) rfl

end Go.Proofs.YtociagbpecpcnaaDoor.X0
