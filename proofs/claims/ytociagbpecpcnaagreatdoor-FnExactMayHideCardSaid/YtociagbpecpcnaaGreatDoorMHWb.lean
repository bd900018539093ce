/- What each Go function that FnExactMayHide reaches computes, and that it returns so; no condition. -/
import Derived.Test.YtociagbpecpcnaaGreatDoorMHWa
set_option linter.unusedVariables false
set_option linter.unusedSimpArgs false
set_option maxRecDepth 100000
namespace Go.Proofs.YtociagbpecpcnaaGreatDoor.X0
open Go Go.RowKit Go.Proofs.YtociagbpecpcnaaGreatDoor.Ab Go.Proofs

def s_rKind_ir : S :=
 (.seq (.ops [⟨some 4, .mv (.v (.int .i64 0)), none⟩])
 (.seq (.seq (.ops [⟨some 7, .mv (.t 0), none⟩, ⟨some 8, .len (.t 7), none⟩, ⟨some 9, .mv (.v (.int .i64 0)), none⟩])
 (.blk 0 (.loop (.seq (.ops [⟨some 10, .bin .lss (.t 9) (.t 8), none⟩])
   (.seq (.ite (.t 10) .skip
   (.exit 0))
   (.seq (.blk 1 (.seq (.ops [⟨some 11, .mv (.t 9), none⟩, ⟨some 12, .iad 6 (.t 7) (.t 9), none⟩, ⟨some 13, .load 6 true (.t 12), none⟩, ⟨some 6, .alloc [.str [], .int .i64 0, .int .i64 0, .int .i64 0, .bool false, .int .i64 0], none⟩, ⟨some 5, .mv (.t 11), none⟩, ⟨none, .store 6 (.t 6) (.t 13), none⟩])
    (.seq (.ops [⟨some 14, .fad 0 (.t 6), none⟩, ⟨some 15, .load 1 false (.t 14), none⟩, ⟨some 16, .mv (.t 1), none⟩, ⟨some 17, .bin .eql (.t 15) (.t 16), none⟩])
    (.ite (.t 17) (.seq (.ops [⟨some 18, .mv (.t 5), none⟩, ⟨some 4, .mv (.t 18), none⟩])
     .ret)
    .skip))))
   (.ops [⟨some 19, .bin .add (.t 9) (.v (.int .i64 1)), none⟩, ⟨some 9, .mv (.t 19), none⟩])))))))
 (.seq (.ops [⟨some 4, .mv (.v (.int .i64 (-1))), none⟩])
 .ret)))
noncomputable def X.s_rKind (p0 : (List TKind)) (p1 : (List UInt8)) : Option Int :=
  ((loop (fun (x12 : Int) => ((bif (decide (x12 < (p0.length : Int))) then ((at' zTKind p0 x12).bind fun v15 => (bif (v15.Name == p1) then some (Sum.inr (Sum.inr x12)) else some (Sum.inl (W (x12 + 1))))) else some (Sum.inr (Sum.inl ()))) : Option (Int ⊕ (Unit ⊕ Int)))) 0).bind fun y18 => (Sum.elim (fun (y20 : Unit) => some (-1)) (fun (y21 : Int) => some y21) y18))
theorem s_rKind_ok (p0 : (List TKind)) (p1 : (List UInt8)) (r : Int) (H : X.s_rKind p0 p1 = some r) : FnOk Tryz.prog gl 211 [.c (dat 6 eTKind zTKind p0), .c (.str p1)] (cI r) := by
  unfold X.s_rKind at H
  refine fn_in (fn := Tryz.f211) (ir := s_rKind_ir) (s1 := lit [(4, cI r)] []) glL Tryz.func211 (by kernel_rfl) (by kernel_rfl) (by kernel_rfl) (by kernel_rfl) (by kernel_rfl) ?_
  refine seq_ops [] [] [(0, .c (dat 6 eTKind zTKind p0)), (1, .c (.str p1))] [] (fun t => t) (by kernel_rfl) ?_
  refine seq_in ?_
  refine seq_ops [] [] [(1, .c (.str p1)), (7, .c (dat 6 eTKind zTKind p0)), (8, cI (p0.length : Int)), (9, cI 0)] [] (fun t => lI p0 (t)) (by kernel_rfl) ?_
  refine ends_blk ?_
  obtain ⟨y18, h19, H⟩ := ofBind H
  refine loop_in (fun (x : Int) => lit [(1, .c (.str p1)), (7, .c (dat 6 eTKind zTKind p0)), (8, cI (p0.length : Int)), (9, cI x)] []) (orJ (fun (z : Unit) => At (.exit 0) (lit [] [])) (fun (z : Int) => At .ret (lit [(4, cI z)] []))) h19 ?_ ?_
  · clear H h19
    intro x12 y0 H
    refine seq_ops [] [] [(1, .c (.str p1)), (7, .c (dat 6 eTKind zTKind p0)), (8, cI (p0.length : Int)), (9, cI x12), (10, cB (decide (x12 < (p0.length : Int))))] [] (fun t => t) (by kernel_rfl) ?_
    refine seq_in ?_
    rcases ofCond H with ⟨c14, H⟩ | ⟨c14, H⟩
    · refine ite_t c14 (by kernel_rfl) ?_
      refine ends_skip ?_
      change EndsI _ _ _ _ _ _
      refine seq_in ?_
      refine ends_blk ?_
      obtain ⟨v15, h16, H⟩ := ofBind H
      refine seq_ops [.cs (eTKind v15)] [] [(1, .c (.str p1)), (5, cI x12), (6, .c (.pk 6 0)), (7, .c (dat 6 eTKind zTKind p0)), (8, cI (p0.length : Int)), (9, cI x12)] [(6, .var (eTKind v15) false)] (fun t => aI (at_lt h16) (aI (at_enc (enc := eTKind) h16) (t))) (by kernel_rfl) ?_
      refine seq_ops [] [] [(1, .c (.str p1)), (5, cI x12), (7, .c (dat 6 eTKind zTKind p0)), (8, cI (p0.length : Int)), (9, cI x12), (17, cB (v15.Name == p1))] [] (fun t => t) (by kernel_rfl) ?_
      rcases ofCond H with ⟨c17, H⟩ | ⟨c17, H⟩
      · refine ite_t c17 (by kernel_rfl) ?_
        refine seq_ops [] [] [(4, cI x12)] [] (fun t => t) (by kernel_rfl) ?_
        refine ends_ret ?_
        obtain rfl := Option.some.inj H
        exact And.intro (by simp) (And.intro rfl rfl)
      · refine ite_f c17 (by kernel_rfl) ?_
        refine ends_skip ?_
        change EndsI _ _ _ _ _ _
        refine one_ops [] [] [(1, .c (.str p1)), (7, .c (dat 6 eTKind zTKind p0)), (8, cI (p0.length : Int)), (9, cI (W (x12 + 1)))] [] (fun t => t) (by kernel_rfl) ?_
        obtain rfl := Option.some.inj H
        exact And.intro rfl rfl
    · refine ite_f c14 (by kernel_rfl) ?_
      refine tell [] [] [] (fun t => t) (by kernel_rfl) ?_
      refine ends_exit ?_
      obtain rfl := Option.some.inj H
      exact And.intro (by simp) (And.intro rfl rfl)
  · clear h19
    cases y18 with
    | inl y20 =>
      replace H := ofInl H
      intro e s q
      obtain ⟨rfl, rfl⟩ := q
      change EndsI _ _ _ _ _ _
      refine seq_ops [] [] [(4, cI (-1))] [] (fun t => t) (by kernel_rfl) ?_
      refine ends_ret ?_
      obtain rfl := Option.some.inj H
      exact And.intro (.inl rfl) rfl
    | inr y21 =>
      replace H := ofInr H
      intro e s q
      obtain ⟨rfl, rfl⟩ := q
      obtain rfl := Option.some.inj H
      exact And.intro (.inl rfl) rfl

def s_rGood_ir : S :=
 (.seq (.ops [⟨some 1, .box 7 (.t 0), none⟩, ⟨some 2, .mv (.v (.bool false)), none⟩])
 (.seq (.seq (.ops [⟨some 7, .fad 0 (.t 1), none⟩, ⟨some 8, .load 1 false (.t 7), none⟩, ⟨some 9, .len (.t 8), none⟩, ⟨some 10, .call 124 [.t 9, .v (.int .i64 1), .v (.int .i64 6)], none⟩, ⟨some 11, .not (.t 10), none⟩, ⟨some 12, .mv (.t 11), none⟩, ⟨some 13, .fad 1 (.t 1), some (12, false)⟩, ⟨some 14, .load 1 false (.t 13), some (12, false)⟩, ⟨some 15, .len (.t 14), some (12, false)⟩, ⟨some 16, .call 124 [.t 15, .v (.int .i64 1), .v (.int .i64 4)], some (12, false)⟩, ⟨some 17, .not (.t 16), some (12, false)⟩, ⟨some 18, .pick (.t 12) (.v (.bool true)) (.t 17), none⟩])
 (.ite (.t 18) (.seq (.ops [⟨some 2, .mv (.v (.bool false)), none⟩])
  .ret)
 .skip))
 (.seq (.seq (.ops [⟨some 19, .fad 0 (.t 1), none⟩, ⟨some 20, .load 1 false (.t 19), none⟩, ⟨some 21, .len (.t 20), none⟩, ⟨some 22, .mv (.v (.int .i64 0)), none⟩])
 (.blk 0 (.loop (.seq (.ops [⟨some 23, .bin .lss (.t 22) (.t 21), none⟩])
   (.seq (.ite (.t 23) .skip
   (.exit 0))
   (.seq (.blk 1 (.seq (.ops [⟨some 24, .mv (.t 22), none⟩, ⟨some 25, .iad 5 (.t 20) (.t 22), none⟩, ⟨some 26, .load 5 true (.t 25), none⟩, ⟨some 4, .alloc [.str [], .nil, .int .i64 0, .int .i64 0, .bool false], none⟩, ⟨some 3, .mv (.t 24), none⟩, ⟨none, .store 5 (.t 4) (.t 26), none⟩])
    (.seq (.ops [⟨some 27, .fad 0 (.t 4), none⟩, ⟨some 28, .load 1 false (.t 27), none⟩, ⟨some 29, .call 209 [.t 28], none⟩, ⟨some 30, .not (.t 29), none⟩, ⟨some 31, .mv (.t 30), none⟩, ⟨some 32, .fad 0 (.t 1), some (31, false)⟩, ⟨some 33, .load 1 false (.t 32), some (31, false)⟩, ⟨some 34, .fad 0 (.t 4), some (31, false)⟩, ⟨some 35, .load 1 false (.t 34), some (31, false)⟩, ⟨some 36, .call 210 [.t 33, .t 35], some (31, false)⟩, ⟨some 37, .mv (.t 3), some (31, false)⟩, ⟨some 38, .bin .neq (.t 36) (.t 37), some (31, false)⟩, ⟨some 39, .pick (.t 31) (.v (.bool true)) (.t 38), none⟩, ⟨some 40, .mv (.t 39), none⟩, ⟨some 41, .fad 1 (.t 4), some (40, false)⟩, ⟨some 42, .load 1 false (.t 41), some (40, false)⟩, ⟨some 43, .len (.t 42), some (40, false)⟩, ⟨some 44, .fad 1 (.t 1), some (40, false)⟩, ⟨some 45, .load 1 false (.t 44), some (40, false)⟩, ⟨some 46, .len (.t 45), some (40, false)⟩, ⟨some 47, .bin .neq (.t 43) (.t 46), some (40, false)⟩, ⟨some 48, .pick (.t 40) (.v (.bool true)) (.t 47), none⟩, ⟨some 49, .mv (.t 48), none⟩, ⟨some 50, .fad 1 (.t 4), some (49, false)⟩, ⟨some 51, .load 1 false (.t 50), some (49, false)⟩, ⟨some 52, .call 166 [.t 51, .v (.int .i64 0), .v (.int .i64 9)], some (49, false)⟩, ⟨some 53, .not (.t 52), some (49, false)⟩, ⟨some 54, .pick (.t 49) (.v (.bool true)) (.t 53), none⟩, ⟨some 55, .mv (.t 54), none⟩, ⟨some 56, .fad 2 (.t 4), some (55, false)⟩, ⟨some 57, .load 1 false (.t 56), some (55, false)⟩, ⟨some 58, .call 124 [.t 57, .v (.int .i64 (-3)), .v (.int .i64 3)], some (55, false)⟩, ⟨some 59, .not (.t 58), some (55, false)⟩, ⟨some 60, .pick (.t 55) (.v (.bool true)) (.t 59), none⟩, ⟨some 61, .mv (.t 60), none⟩, ⟨some 62, .fad 3 (.t 4), some (61, false)⟩, ⟨some 63, .load 1 false (.t 62), some (61, false)⟩, ⟨some 64, .call 124 [.t 63, .v (.int .i64 0), .v (.int .i64 3)], some (61, false)⟩, ⟨some 65, .not (.t 64), some (61, false)⟩, ⟨some 66, .pick (.t 61) (.v (.bool true)) (.t 65), none⟩])
    (.ite (.t 66) (.seq (.ops [⟨some 2, .mv (.v (.bool false)), none⟩])
     .ret)
    .skip))))
   (.ops [⟨some 67, .bin .add (.t 22) (.v (.int .i64 1)), none⟩, ⟨some 22, .mv (.t 67), none⟩])))))))
 (.seq (.seq (.ops [⟨some 68, .fad 1 (.t 1), none⟩, ⟨some 69, .load 1 false (.t 68), none⟩, ⟨some 70, .len (.t 69), none⟩, ⟨some 71, .mv (.v (.int .i64 0)), none⟩])
 (.blk 2 (.loop (.seq (.ops [⟨some 72, .bin .lss (.t 71) (.t 70), none⟩])
   (.seq (.ite (.t 72) .skip
   (.exit 2))
   (.seq (.blk 3 (.seq (.ops [⟨some 73, .mv (.t 71), none⟩, ⟨some 74, .iad 6 (.t 69) (.t 71), none⟩, ⟨some 75, .load 6 true (.t 74), none⟩, ⟨some 6, .alloc [.str [], .int .i64 0, .int .i64 0, .int .i64 0, .bool false, .int .i64 0], none⟩, ⟨some 5, .mv (.t 73), none⟩, ⟨none, .store 6 (.t 6) (.t 75), none⟩])
    (.seq (.ops [⟨some 76, .fad 0 (.t 6), none⟩, ⟨some 77, .load 1 false (.t 76), none⟩, ⟨some 78, .call 209 [.t 77], none⟩, ⟨some 79, .not (.t 78), none⟩, ⟨some 80, .mv (.t 79), none⟩, ⟨some 81, .fad 1 (.t 1), some (80, false)⟩, ⟨some 82, .load 1 false (.t 81), some (80, false)⟩, ⟨some 83, .fad 0 (.t 6), some (80, false)⟩, ⟨some 84, .load 1 false (.t 83), some (80, false)⟩, ⟨some 85, .call 211 [.t 82, .t 84], some (80, false)⟩, ⟨some 86, .mv (.t 5), some (80, false)⟩, ⟨some 87, .bin .neq (.t 85) (.t 86), some (80, false)⟩, ⟨some 88, .pick (.t 80) (.v (.bool true)) (.t 87), none⟩, ⟨some 89, .mv (.t 88), none⟩, ⟨some 90, .fad 1 (.t 6), some (89, false)⟩, ⟨some 91, .load 1 false (.t 90), some (89, false)⟩, ⟨some 92, .call 124 [.t 91, .v (.int .i64 1), .v (.int .i64 9)], some (89, false)⟩, ⟨some 93, .not (.t 92), some (89, false)⟩, ⟨some 94, .pick (.t 89) (.v (.bool true)) (.t 93), none⟩, ⟨some 95, .mv (.t 94), none⟩, ⟨some 96, .fad 2 (.t 6), some (95, false)⟩, ⟨some 97, .load 1 false (.t 96), some (95, false)⟩, ⟨some 98, .call 124 [.t 97, .v (.int .i64 0), .v (.int .i64 9)], some (95, false)⟩, ⟨some 99, .not (.t 98), some (95, false)⟩, ⟨some 100, .pick (.t 95) (.v (.bool true)) (.t 99), none⟩, ⟨some 101, .mv (.t 100), none⟩, ⟨some 102, .fad 3 (.t 6), some (101, false)⟩, ⟨some 103, .load 1 false (.t 102), some (101, false)⟩, ⟨some 104, .call 124 [.t 103, .v (.int .i64 1), .v (.int .i64 4)], some (101, false)⟩, ⟨some 105, .not (.t 104), some (101, false)⟩, ⟨some 106, .pick (.t 101) (.v (.bool true)) (.t 105), none⟩, ⟨some 107, .mv (.t 106), none⟩, ⟨some 108, .fad 5 (.t 6), some (107, false)⟩, ⟨some 109, .load 1 false (.t 108), some (107, false)⟩, ⟨some 110, .call 124 [.t 109, .v (.int .i64 0), .v (.int .i64 4)], some (107, false)⟩, ⟨some 111, .not (.t 110), some (107, false)⟩, ⟨some 112, .pick (.t 107) (.v (.bool true)) (.t 111), none⟩])
    (.ite (.t 112) (.seq (.ops [⟨some 2, .mv (.v (.bool false)), none⟩])
     .ret)
    .skip))))
   (.ops [⟨some 113, .bin .add (.t 71) (.v (.int .i64 1)), none⟩, ⟨some 71, .mv (.t 113), none⟩])))))))
 (.seq (.ops [⟨some 114, .fad 2 (.t 1), none⟩, ⟨some 115, .load 1 false (.t 114), none⟩, ⟨some 116, .call 124 [.t 115, .v (.int .i64 1), .v (.int .i64 4)], none⟩, ⟨some 117, .mv (.t 116), none⟩, ⟨some 118, .fad 3 (.t 1), some (117, true)⟩, ⟨some 119, .load 1 false (.t 118), some (117, true)⟩, ⟨some 120, .call 124 [.t 119, .v (.int .i64 0), .v (.int .i64 9)], some (117, true)⟩, ⟨some 121, .pick (.t 117) (.t 120) (.v (.bool false)), none⟩, ⟨some 122, .mv (.t 121), none⟩, ⟨some 123, .fad 4 (.t 1), some (122, true)⟩, ⟨some 124, .load 1 false (.t 123), some (122, true)⟩, ⟨some 125, .call 124 [.t 124, .v (.int .i64 1), .v (.int .i64 9)], some (122, true)⟩, ⟨some 126, .pick (.t 122) (.t 125) (.v (.bool false)), none⟩, ⟨some 127, .mv (.t 126), none⟩, ⟨some 128, .fad 5 (.t 1), some (127, true)⟩, ⟨some 129, .load 1 false (.t 128), some (127, true)⟩, ⟨some 130, .call 124 [.t 129, .v (.int .i64 0), .v (.int .i64 20)], some (127, true)⟩, ⟨some 131, .pick (.t 127) (.t 130) (.v (.bool false)), none⟩, ⟨some 132, .mv (.t 131), none⟩, ⟨some 133, .fad 6 (.t 1), some (132, true)⟩, ⟨some 134, .load 1 false (.t 133), some (132, true)⟩, ⟨some 135, .call 124 [.t 134, .v (.int .i64 1), .v (.int .i64 30)], some (132, true)⟩, ⟨some 136, .pick (.t 132) (.t 135) (.v (.bool false)), none⟩, ⟨some 2, .mv (.t 136), none⟩])
 .ret)))))
noncomputable def X.s_rGood (p0 : TRules) : Option Bool :=
  ((X.s_l1In (p0.Terrains.length : Int) 1 6).bind fun v7 => (bif (!v7) then some false else ((X.s_l1In (p0.Kinds.length : Int) 1 4).bind fun v10 => (bif (!v10) then some false else ((loop (fun (x120 : Int) => ((bif (decide (x120 < (p0.Terrains.length : Int))) then ((at' zTTerrain p0.Terrains x120).bind fun v123 => ((X.s_rName v123.Name).bind fun v125 => (bif (!v125) then some (Sum.inr (Sum.inr false)) else ((X.s_rTerrain p0.Terrains v123.Name).bind fun v128 => (bif (v128 != x120) then some (Sum.inr (Sum.inr false)) else (bif ((v123.Cost.length : Int) != (p0.Kinds.length : Int)) then some (Sum.inr (Sum.inr false)) else ((X.s_l1All v123.Cost 0 9).bind fun v132 => (bif (!v132) then some (Sum.inr (Sum.inr false)) else ((X.s_l1In v123.Shift (-3) 3).bind fun v135 => (bif (!v135) then some (Sum.inr (Sum.inr false)) else ((X.s_l1In v123.Height 0 3).bind fun v138 => (bif (!v138) then some (Sum.inr (Sum.inr false)) else some (Sum.inl (W (x120 + 1))))))))))))))) else some (Sum.inr (Sum.inl ()))) : Option (Int ⊕ (Unit ⊕ Bool)))) 0).bind fun y141 => (Sum.elim (fun (y143 : Unit) => ((loop (fun (x262 : Int) => ((bif (decide (x262 < (p0.Kinds.length : Int))) then ((at' zTKind p0.Kinds x262).bind fun v265 => ((X.s_rName v265.Name).bind fun v267 => (bif (!v267) then some (Sum.inr (Sum.inr false)) else ((X.s_rKind p0.Kinds v265.Name).bind fun v270 => (bif (v270 != x262) then some (Sum.inr (Sum.inr false)) else ((X.s_l1In v265.Strength 1 9).bind fun v273 => (bif (!v273) then some (Sum.inr (Sum.inr false)) else ((X.s_l1In v265.Moves 0 9).bind fun v276 => (bif (!v276) then some (Sum.inr (Sum.inr false)) else ((X.s_l1In v265.Steps 1 4).bind fun v279 => (bif (!v279) then some (Sum.inr (Sum.inr false)) else ((X.s_l1In v265.View 0 4).bind fun v282 => (bif (!v282) then some (Sum.inr (Sum.inr false)) else some (Sum.inl (W (x262 + 1)))))))))))))))) else some (Sum.inr (Sum.inl ()))) : Option (Int ⊕ (Unit ⊕ Bool)))) 0).bind fun y285 => (Sum.elim (fun (y287 : Unit) => ((X.s_l1In p0.Stack 1 4).bind fun v289 => (bif v289 then ((X.s_l1In p0.River 0 9).bind fun v292 => (bif v292 then ((X.s_l1In p0.Road 1 9).bind fun v295 => (bif v295 then ((X.s_l1In p0.Supply 0 20).bind fun v298 => (bif v298 then ((X.s_l1In p0.Turns 1 30).bind fun v301 => some v301) else some false)) else some false)) else some false)) else some false))) (fun (y288 : Bool) => some y288) y285))) (fun (y144 : Bool) => some y144) y141))))))
theorem s_rGood_ok (p0 : TRules) (r : Bool) (H : X.s_rGood p0 = some r) : FnOk Tryz.prog gl 188 [.agg (eTRules p0)] (cB r) := by
  unfold X.s_rGood at H
  refine fn_in (fn := Tryz.f188) (ir := s_rGood_ir) (s1 := lit [(2, cB r)] []) glL Tryz.func188 (by kernel_rfl) (by kernel_rfl) (by kernel_rfl) (by kernel_rfl) (by kernel_rfl) ?_
  refine seq_ops [] [] [(1, .c (.pk 1 0))] [(1, .var (eTRules p0) false)] (fun t => t) (by kernel_rfl) ?_
  refine seq_in ?_
  obtain ⟨v7, h8, H⟩ := ofBind H
  rcases ofCond H with ⟨c9, H⟩ | ⟨c9, H⟩
  · refine seq_ops [.res (cB v7), .g true, .g true, .g true, .g true, .g true, .g true] [] [(1, .c (.pk 1 0)), (18, cB true)] [(1, .var (eTRules p0) false)] (fun t => lI p0.Terrains (aI (s_l1In_ok (p0.Terrains.length : Int) 1 6 v7 h8) (aI c9 (aI c9 (aI c9 (aI c9 (aI c9 (aI c9 (t))))))))) (by kernel_rfl) ?_
    refine ite_t (rfl : (true : Bool) = true) (by kernel_rfl) ?_
    refine seq_ops [] [] [(2, cB false)] [] (fun t => t) (by kernel_rfl) ?_
    refine ends_ret ?_
    obtain rfl := Option.some.inj H
    exact And.intro (.inl rfl) rfl
  · obtain ⟨v10, h11, H⟩ := ofBind H
    refine seq_ops [.res (cB v7), .g false, .g false, .g false, .g false, .res (cB v10), .g false, .g false] [] [(1, .c (.pk 1 0)), (18, cB (!v10))] [(1, .var (eTRules p0) false)] (fun t => lI p0.Terrains (aI (s_l1In_ok (p0.Terrains.length : Int) 1 6 v7 h8) (aI c9 (aI c9 (aI c9 (lI p0.Kinds (aI c9 (aI (s_l1In_ok (p0.Kinds.length : Int) 1 4 v10 h11) (aI c9 (aI c9 (t))))))))))) (by kernel_rfl) ?_
    rcases ofCond H with ⟨c12, H⟩ | ⟨c12, H⟩
    · refine ite_t c12 (by kernel_rfl) ?_
      refine seq_ops [] [] [(2, cB false)] [] (fun t => t) (by kernel_rfl) ?_
      refine ends_ret ?_
      obtain rfl := Option.some.inj H
      exact And.intro (.inl rfl) rfl
    · refine ite_f c12 (by kernel_rfl) ?_
      refine ends_skip ?_
      change EndsI _ _ _ _ _ _
      refine seq_in ?_
      refine seq_ops [] [] [(1, .c (.pk 1 0)), (20, .c (dat 5 eTTerrain zTTerrain p0.Terrains)), (21, cI (p0.Terrains.length : Int)), (22, cI 0)] [(1, .var (eTRules p0) false)] (fun t => lI p0.Terrains (t)) (by kernel_rfl) ?_
      refine ends_blk ?_
      obtain ⟨y141, h142, H⟩ := ofBind H
      refine loop_in (fun (x : Int) => lit [(1, .c (.pk 1 0)), (20, .c (dat 5 eTTerrain zTTerrain p0.Terrains)), (21, cI (p0.Terrains.length : Int)), (22, cI x)] [(1, .var (eTRules p0) false)]) (orJ (fun (z : Unit) => At (.exit 0) (lit [(1, .c (.pk 1 0))] [(1, .var (eTRules p0) false)])) (fun (z : Bool) => At .ret (lit [(2, cB z)] []))) h142 ?_ ?_
      · clear H h142
        intro x120 y0 H
        refine seq_ops [] [] [(1, .c (.pk 1 0)), (20, .c (dat 5 eTTerrain zTTerrain p0.Terrains)), (21, cI (p0.Terrains.length : Int)), (22, cI x120), (23, cB (decide (x120 < (p0.Terrains.length : Int))))] [(1, .var (eTRules p0) false)] (fun t => t) (by kernel_rfl) ?_
        refine seq_in ?_
        rcases ofCond H with ⟨c122, H⟩ | ⟨c122, H⟩
        · refine ite_t c122 (by kernel_rfl) ?_
          refine ends_skip ?_
          change EndsI _ _ _ _ _ _
          refine seq_in ?_
          refine ends_blk ?_
          obtain ⟨v123, h124, H⟩ := ofBind H
          refine seq_ops [.cs (eTTerrain v123)] [] [(1, .c (.pk 1 0)), (3, cI x120), (4, .c (.pk 4 0)), (20, .c (dat 5 eTTerrain zTTerrain p0.Terrains)), (21, cI (p0.Terrains.length : Int)), (22, cI x120)] [(1, .var (eTRules p0) false), (4, .var (eTTerrain v123) false)] (fun t => aI (at_lt h124) (aI (at_enc (enc := eTTerrain) h124) (t))) (by kernel_rfl) ?_
          obtain ⟨v125, h126, H⟩ := ofBind H
          rcases ofCond H with ⟨c127, H⟩ | ⟨c127, H⟩
          · refine seq_ops [.res (cB v125), .g true, .g true, .g true, .g true, .g true, .g true, .g true, .g true, .g true, .g true, .g true, .g true, .g true, .g true, .g true, .g true, .g true, .g true, .g true, .g true, .g true, .g true, .g true, .g true, .g true, .g true, .g true, .g true, .g true, .g true, .g true] [] [(1, .c (.pk 1 0)), (20, .c (dat 5 eTTerrain zTTerrain p0.Terrains)), (21, cI (p0.Terrains.length : Int)), (22, cI x120), (66, cB true)] [(1, .var (eTRules p0) false)] (fun t => aI (s_rName_ok v123.Name v125 h126) (aI c127 (aI c127 (aI c127 (aI c127 (aI c127 (aI c127 (aI c127 (aI c127 (aI (rfl : (true : Bool) = true) (aI (rfl : (true : Bool) = true) (aI (rfl : (true : Bool) = true) (aI (rfl : (true : Bool) = true) (aI (rfl : (true : Bool) = true) (aI (rfl : (true : Bool) = true) (aI (rfl : (true : Bool) = true) (aI (rfl : (true : Bool) = true) (aI (rfl : (true : Bool) = true) (aI (rfl : (true : Bool) = true) (aI (rfl : (true : Bool) = true) (aI (rfl : (true : Bool) = true) (aI (rfl : (true : Bool) = true) (aI (rfl : (true : Bool) = true) (aI (rfl : (true : Bool) = true) (aI (rfl : (true : Bool) = true) (aI (rfl : (true : Bool) = true) (aI (rfl : (true : Bool) = true) (aI (rfl : (true : Bool) = true) (aI (rfl : (true : Bool) = true) (aI (rfl : (true : Bool) = true) (aI (rfl : (true : Bool) = true) (aI (rfl : (true : Bool) = true) (t))))))))))))))))))))))))))))))))) (by kernel_rfl) ?_
            refine ite_t (rfl : (true : Bool) = true) (by kernel_rfl) ?_
            refine seq_ops [] [] [(2, cB false)] [] (fun t => t) (by kernel_rfl) ?_
            refine ends_ret ?_
            obtain rfl := Option.some.inj H
            exact And.intro (by simp) (And.intro rfl rfl)
          · obtain ⟨v128, h129, H⟩ := ofBind H
            rcases ofCond H with ⟨c130, H⟩ | ⟨c130, H⟩
            · refine seq_ops [.res (cB v125), .g false, .g false, .g false, .g false, .g false, .res (cI v128), .g false, .g false, .g false, .g true, .g true, .g true, .g true, .g true, .g true, .g true, .g true, .g true, .g true, .g true, .g true, .g true, .g true, .g true, .g true, .g true, .g true, .g true, .g true, .g true, .g true, .g true] [] [(1, .c (.pk 1 0)), (20, .c (dat 5 eTTerrain zTTerrain p0.Terrains)), (21, cI (p0.Terrains.length : Int)), (22, cI x120), (66, cB true)] [(1, .var (eTRules p0) false)] (fun t => aI (s_rName_ok v123.Name v125 h126) (aI c127 (aI c127 (aI c127 (aI c127 (aI c127 (aI (s_rTerrain_ok p0.Terrains v123.Name v128 h129) (aI c127 (aI c127 (aI c127 (aI c130 (aI c130 (aI c130 (aI c130 (aI c130 (aI c130 (aI c130 (aI c130 (aI (rfl : (true : Bool) = true) (aI (rfl : (true : Bool) = true) (aI (rfl : (true : Bool) = true) (aI (rfl : (true : Bool) = true) (aI (rfl : (true : Bool) = true) (aI (rfl : (true : Bool) = true) (aI (rfl : (true : Bool) = true) (aI (rfl : (true : Bool) = true) (aI (rfl : (true : Bool) = true) (aI (rfl : (true : Bool) = true) (aI (rfl : (true : Bool) = true) (aI (rfl : (true : Bool) = true) (aI (rfl : (true : Bool) = true) (aI (rfl : (true : Bool) = true) (aI (rfl : (true : Bool) = true) (t)))))))))))))))))))))))))))))))))) (by kernel_rfl) ?_
              refine ite_t (rfl : (true : Bool) = true) (by kernel_rfl) ?_
              refine seq_ops [] [] [(2, cB false)] [] (fun t => t) (by kernel_rfl) ?_
              refine ends_ret ?_
              obtain rfl := Option.some.inj H
              exact And.intro (by simp) (And.intro rfl rfl)
            · rcases ofCond H with ⟨c131, H⟩ | ⟨c131, H⟩
              · refine seq_ops [.res (cB v125), .g false, .g false, .g false, .g false, .g false, .res (cI v128), .g false, .g false, .g false, .g false, .g false, .g false, .g false, .g false, .g false, .g false, .g false, .g true, .g true, .g true, .g true, .g true, .g true, .g true, .g true, .g true, .g true, .g true, .g true, .g true, .g true, .g true] [] [(1, .c (.pk 1 0)), (20, .c (dat 5 eTTerrain zTTerrain p0.Terrains)), (21, cI (p0.Terrains.length : Int)), (22, cI x120), (66, cB true)] [(1, .var (eTRules p0) false)] (fun t => aI (s_rName_ok v123.Name v125 h126) (aI c127 (aI c127 (aI c127 (aI c127 (aI c127 (aI (s_rTerrain_ok p0.Terrains v123.Name v128 h129) (aI c127 (aI c127 (aI c127 (aI c130 (aI c130 (aI c130 (lI v123.Cost (aI c130 (aI c130 (aI c130 (lI p0.Kinds (aI c130 (aI c130 (aI c131 (aI c131 (aI c131 (aI c131 (aI c131 (aI (rfl : (true : Bool) = true) (aI (rfl : (true : Bool) = true) (aI (rfl : (true : Bool) = true) (aI (rfl : (true : Bool) = true) (aI (rfl : (true : Bool) = true) (aI (rfl : (true : Bool) = true) (aI (rfl : (true : Bool) = true) (aI (rfl : (true : Bool) = true) (aI (rfl : (true : Bool) = true) (aI (rfl : (true : Bool) = true) (t)))))))))))))))))))))))))))))))))))) (by kernel_rfl) ?_
                refine ite_t (rfl : (true : Bool) = true) (by kernel_rfl) ?_
                refine seq_ops [] [] [(2, cB false)] [] (fun t => t) (by kernel_rfl) ?_
                refine ends_ret ?_
                obtain rfl := Option.some.inj H
                exact And.intro (by simp) (And.intro rfl rfl)
              · obtain ⟨v132, h133, H⟩ := ofBind H
                rcases ofCond H with ⟨c134, H⟩ | ⟨c134, H⟩
                · refine seq_ops [.res (cB v125), .g false, .g false, .g false, .g false, .g false, .res (cI v128), .g false, .g false, .g false, .g false, .g false, .g false, .g false, .g false, .g false, .g false, .g false, .g false, .g false, .g false, .res (cB v132), .g false, .g false, .g true, .g true, .g true, .g true, .g true, .g true, .g true, .g true, .g true, .g true] [] [(1, .c (.pk 1 0)), (20, .c (dat 5 eTTerrain zTTerrain p0.Terrains)), (21, cI (p0.Terrains.length : Int)), (22, cI x120), (66, cB true)] [(1, .var (eTRules p0) false)] (fun t => aI (s_rName_ok v123.Name v125 h126) (aI c127 (aI c127 (aI c127 (aI c127 (aI c127 (aI (s_rTerrain_ok p0.Terrains v123.Name v128 h129) (aI c127 (aI c127 (aI c127 (aI c130 (aI c130 (aI c130 (lI v123.Cost (aI c130 (aI c130 (aI c130 (lI p0.Kinds (aI c130 (aI c130 (aI c131 (aI c131 (aI c131 (aI (s_l1All_ok v123.Cost 0 9 v132 h133) (aI c131 (aI c131 (aI c134 (aI c134 (aI c134 (aI c134 (aI c134 (aI (rfl : (true : Bool) = true) (aI (rfl : (true : Bool) = true) (aI (rfl : (true : Bool) = true) (aI (rfl : (true : Bool) = true) (aI (rfl : (true : Bool) = true) (t))))))))))))))))))))))))))))))))))))) (by kernel_rfl) ?_
                  refine ite_t (rfl : (true : Bool) = true) (by kernel_rfl) ?_
                  refine seq_ops [] [] [(2, cB false)] [] (fun t => t) (by kernel_rfl) ?_
                  refine ends_ret ?_
                  obtain rfl := Option.some.inj H
                  exact And.intro (by simp) (And.intro rfl rfl)
                · obtain ⟨v135, h136, H⟩ := ofBind H
                  rcases ofCond H with ⟨c137, H⟩ | ⟨c137, H⟩
                  · refine seq_ops [.res (cB v125), .g false, .g false, .g false, .g false, .g false, .res (cI v128), .g false, .g false, .g false, .g false, .g false, .g false, .g false, .g false, .g false, .g false, .g false, .g false, .g false, .g false, .res (cB v132), .g false, .g false, .g false, .g false, .g false, .res (cB v135), .g false, .g false, .g true, .g true, .g true, .g true, .g true] [] [(1, .c (.pk 1 0)), (20, .c (dat 5 eTTerrain zTTerrain p0.Terrains)), (21, cI (p0.Terrains.length : Int)), (22, cI x120), (66, cB true)] [(1, .var (eTRules p0) false)] (fun t => aI (s_rName_ok v123.Name v125 h126) (aI c127 (aI c127 (aI c127 (aI c127 (aI c127 (aI (s_rTerrain_ok p0.Terrains v123.Name v128 h129) (aI c127 (aI c127 (aI c127 (aI c130 (aI c130 (aI c130 (lI v123.Cost (aI c130 (aI c130 (aI c130 (lI p0.Kinds (aI c130 (aI c130 (aI c131 (aI c131 (aI c131 (aI (s_l1All_ok v123.Cost 0 9 v132 h133) (aI c131 (aI c131 (aI c134 (aI c134 (aI c134 (aI (s_l1In_ok v123.Shift (-3) 3 v135 h136) (aI c134 (aI c134 (aI c137 (aI c137 (aI c137 (aI c137 (aI c137 (t)))))))))))))))))))))))))))))))))))))) (by kernel_rfl) ?_
                    refine ite_t (rfl : (true : Bool) = true) (by kernel_rfl) ?_
                    refine seq_ops [] [] [(2, cB false)] [] (fun t => t) (by kernel_rfl) ?_
                    refine ends_ret ?_
                    obtain rfl := Option.some.inj H
                    exact And.intro (by simp) (And.intro rfl rfl)
                  · obtain ⟨v138, h139, H⟩ := ofBind H
                    refine seq_ops [.res (cB v125), .g false, .g false, .g false, .g false, .g false, .res (cI v128), .g false, .g false, .g false, .g false, .g false, .g false, .g false, .g false, .g false, .g false, .g false, .g false, .g false, .g false, .res (cB v132), .g false, .g false, .g false, .g false, .g false, .res (cB v135), .g false, .g false, .g false, .g false, .g false, .res (cB v138), .g false, .g false] [] [(1, .c (.pk 1 0)), (20, .c (dat 5 eTTerrain zTTerrain p0.Terrains)), (21, cI (p0.Terrains.length : Int)), (22, cI x120), (66, cB (!v138))] [(1, .var (eTRules p0) false)] (fun t => aI (s_rName_ok v123.Name v125 h126) (aI c127 (aI c127 (aI c127 (aI c127 (aI c127 (aI (s_rTerrain_ok p0.Terrains v123.Name v128 h129) (aI c127 (aI c127 (aI c127 (aI c130 (aI c130 (aI c130 (lI v123.Cost (aI c130 (aI c130 (aI c130 (lI p0.Kinds (aI c130 (aI c130 (aI c131 (aI c131 (aI c131 (aI (s_l1All_ok v123.Cost 0 9 v132 h133) (aI c131 (aI c131 (aI c134 (aI c134 (aI c134 (aI (s_l1In_ok v123.Shift (-3) 3 v135 h136) (aI c134 (aI c134 (aI c137 (aI c137 (aI c137 (aI (s_l1In_ok v123.Height 0 3 v138 h139) (aI c137 (aI c137 (t))))))))))))))))))))))))))))))))))))))) (by kernel_rfl) ?_
                    rcases ofCond H with ⟨c140, H⟩ | ⟨c140, H⟩
                    · refine ite_t c140 (by kernel_rfl) ?_
                      refine seq_ops [] [] [(2, cB false)] [] (fun t => t) (by kernel_rfl) ?_
                      refine ends_ret ?_
                      obtain rfl := Option.some.inj H
                      exact And.intro (by simp) (And.intro rfl rfl)
                    · refine ite_f c140 (by kernel_rfl) ?_
                      refine ends_skip ?_
                      change EndsI _ _ _ _ _ _
                      refine one_ops [] [] [(1, .c (.pk 1 0)), (20, .c (dat 5 eTTerrain zTTerrain p0.Terrains)), (21, cI (p0.Terrains.length : Int)), (22, cI (W (x120 + 1)))] [(1, .var (eTRules p0) false)] (fun t => t) (by kernel_rfl) ?_
                      obtain rfl := Option.some.inj H
                      exact And.intro rfl rfl
        · refine ite_f c122 (by kernel_rfl) ?_
          refine tell [] [(1, .c (.pk 1 0))] [(1, .var (eTRules p0) false)] (fun t => t) (by kernel_rfl) ?_
          refine ends_exit ?_
          obtain rfl := Option.some.inj H
          exact And.intro (by simp) (And.intro rfl rfl)
      · clear h142
        cases y141 with
        | inl y143 =>
          replace H := ofInl H
          intro e s q
          obtain ⟨rfl, rfl⟩ := q
          change EndsI _ _ _ _ _ _
          refine seq_in ?_
          refine seq_ops [] [] [(1, .c (.pk 1 0)), (69, .c (dat 6 eTKind zTKind p0.Kinds)), (70, cI (p0.Kinds.length : Int)), (71, cI 0)] [(1, .var (eTRules p0) false)] (fun t => lI p0.Kinds (t)) (by kernel_rfl) ?_
          refine ends_blk ?_
          obtain ⟨y285, h286, H⟩ := ofBind H
          refine loop_in (fun (x : Int) => lit [(1, .c (.pk 1 0)), (69, .c (dat 6 eTKind zTKind p0.Kinds)), (70, cI (p0.Kinds.length : Int)), (71, cI x)] [(1, .var (eTRules p0) false)]) (orJ (fun (z : Unit) => At (.exit 2) (lit [(1, .c (.pk 1 0))] [(1, .var (eTRules p0) false)])) (fun (z : Bool) => At .ret (lit [(2, cB z)] []))) h286 ?_ ?_
          · clear H h286
            intro x262 y0 H
            refine seq_ops [] [] [(1, .c (.pk 1 0)), (69, .c (dat 6 eTKind zTKind p0.Kinds)), (70, cI (p0.Kinds.length : Int)), (71, cI x262), (72, cB (decide (x262 < (p0.Kinds.length : Int))))] [(1, .var (eTRules p0) false)] (fun t => t) (by kernel_rfl) ?_
            refine seq_in ?_
            rcases ofCond H with ⟨c264, H⟩ | ⟨c264, H⟩
            · refine ite_t c264 (by kernel_rfl) ?_
              refine ends_skip ?_
              change EndsI _ _ _ _ _ _
              refine seq_in ?_
              refine ends_blk ?_
              obtain ⟨v265, h266, H⟩ := ofBind H
              refine seq_ops [.cs (eTKind v265)] [] [(1, .c (.pk 1 0)), (5, cI x262), (6, .c (.pk 6 0)), (69, .c (dat 6 eTKind zTKind p0.Kinds)), (70, cI (p0.Kinds.length : Int)), (71, cI x262)] [(1, .var (eTRules p0) false), (6, .var (eTKind v265) false)] (fun t => aI (at_lt h266) (aI (at_enc (enc := eTKind) h266) (t))) (by kernel_rfl) ?_
              obtain ⟨v267, h268, H⟩ := ofBind H
              rcases ofCond H with ⟨c269, H⟩ | ⟨c269, H⟩
              · refine seq_ops [.res (cB v267), .g true, .g true, .g true, .g true, .g true, .g true, .g true, .g true, .g true, .g true, .g true, .g true, .g true, .g true, .g true, .g true, .g true, .g true, .g true, .g true, .g true, .g true, .g true, .g true, .g true, .g true, .g true, .g true] [] [(1, .c (.pk 1 0)), (69, .c (dat 6 eTKind zTKind p0.Kinds)), (70, cI (p0.Kinds.length : Int)), (71, cI x262), (112, cB true)] [(1, .var (eTRules p0) false)] (fun t => aI (s_rName_ok v265.Name v267 h268) (aI c269 (aI c269 (aI c269 (aI c269 (aI c269 (aI c269 (aI c269 (aI c269 (aI (rfl : (true : Bool) = true) (aI (rfl : (true : Bool) = true) (aI (rfl : (true : Bool) = true) (aI (rfl : (true : Bool) = true) (aI (rfl : (true : Bool) = true) (aI (rfl : (true : Bool) = true) (aI (rfl : (true : Bool) = true) (aI (rfl : (true : Bool) = true) (aI (rfl : (true : Bool) = true) (aI (rfl : (true : Bool) = true) (aI (rfl : (true : Bool) = true) (aI (rfl : (true : Bool) = true) (aI (rfl : (true : Bool) = true) (aI (rfl : (true : Bool) = true) (aI (rfl : (true : Bool) = true) (aI (rfl : (true : Bool) = true) (aI (rfl : (true : Bool) = true) (aI (rfl : (true : Bool) = true) (aI (rfl : (true : Bool) = true) (aI (rfl : (true : Bool) = true) (t)))))))))))))))))))))))))))))) (by kernel_rfl) ?_
                refine ite_t (rfl : (true : Bool) = true) (by kernel_rfl) ?_
                refine seq_ops [] [] [(2, cB false)] [] (fun t => t) (by kernel_rfl) ?_
                refine ends_ret ?_
                obtain rfl := Option.some.inj H
                exact And.intro (by simp) (And.intro rfl rfl)
              · obtain ⟨v270, h271, H⟩ := ofBind H
                rcases ofCond H with ⟨c272, H⟩ | ⟨c272, H⟩
                · refine seq_ops [.res (cB v267), .g false, .g false, .g false, .g false, .g false, .res (cI v270), .g false, .g false, .g false, .g true, .g true, .g true, .g true, .g true, .g true, .g true, .g true, .g true, .g true, .g true, .g true, .g true, .g true, .g true, .g true, .g true, .g true, .g true, .g true] [] [(1, .c (.pk 1 0)), (69, .c (dat 6 eTKind zTKind p0.Kinds)), (70, cI (p0.Kinds.length : Int)), (71, cI x262), (112, cB true)] [(1, .var (eTRules p0) false)] (fun t => aI (s_rName_ok v265.Name v267 h268) (aI c269 (aI c269 (aI c269 (aI c269 (aI c269 (aI (s_rKind_ok p0.Kinds v265.Name v270 h271) (aI c269 (aI c269 (aI c269 (aI c272 (aI c272 (aI c272 (aI c272 (aI c272 (aI (rfl : (true : Bool) = true) (aI (rfl : (true : Bool) = true) (aI (rfl : (true : Bool) = true) (aI (rfl : (true : Bool) = true) (aI (rfl : (true : Bool) = true) (aI (rfl : (true : Bool) = true) (aI (rfl : (true : Bool) = true) (aI (rfl : (true : Bool) = true) (aI (rfl : (true : Bool) = true) (aI (rfl : (true : Bool) = true) (aI (rfl : (true : Bool) = true) (aI (rfl : (true : Bool) = true) (aI (rfl : (true : Bool) = true) (aI (rfl : (true : Bool) = true) (aI (rfl : (true : Bool) = true) (t))))))))))))))))))))))))))))))) (by kernel_rfl) ?_
                  refine ite_t (rfl : (true : Bool) = true) (by kernel_rfl) ?_
                  refine seq_ops [] [] [(2, cB false)] [] (fun t => t) (by kernel_rfl) ?_
                  refine ends_ret ?_
                  obtain rfl := Option.some.inj H
                  exact And.intro (by simp) (And.intro rfl rfl)
                · obtain ⟨v273, h274, H⟩ := ofBind H
                  rcases ofCond H with ⟨c275, H⟩ | ⟨c275, H⟩
                  · refine seq_ops [.res (cB v267), .g false, .g false, .g false, .g false, .g false, .res (cI v270), .g false, .g false, .g false, .g false, .g false, .g false, .res (cB v273), .g false, .g false, .g true, .g true, .g true, .g true, .g true, .g true, .g true, .g true, .g true, .g true, .g true, .g true, .g true, .g true, .g true] [] [(1, .c (.pk 1 0)), (69, .c (dat 6 eTKind zTKind p0.Kinds)), (70, cI (p0.Kinds.length : Int)), (71, cI x262), (112, cB true)] [(1, .var (eTRules p0) false)] (fun t => aI (s_rName_ok v265.Name v267 h268) (aI c269 (aI c269 (aI c269 (aI c269 (aI c269 (aI (s_rKind_ok p0.Kinds v265.Name v270 h271) (aI c269 (aI c269 (aI c269 (aI c272 (aI c272 (aI c272 (aI (s_l1In_ok v265.Strength 1 9 v273 h274) (aI c272 (aI c272 (aI c275 (aI c275 (aI c275 (aI c275 (aI c275 (aI (rfl : (true : Bool) = true) (aI (rfl : (true : Bool) = true) (aI (rfl : (true : Bool) = true) (aI (rfl : (true : Bool) = true) (aI (rfl : (true : Bool) = true) (aI (rfl : (true : Bool) = true) (aI (rfl : (true : Bool) = true) (aI (rfl : (true : Bool) = true) (aI (rfl : (true : Bool) = true) (aI (rfl : (true : Bool) = true) (t)))))))))))))))))))))))))))))))) (by kernel_rfl) ?_
                    refine ite_t (rfl : (true : Bool) = true) (by kernel_rfl) ?_
                    refine seq_ops [] [] [(2, cB false)] [] (fun t => t) (by kernel_rfl) ?_
                    refine ends_ret ?_
                    obtain rfl := Option.some.inj H
                    exact And.intro (by simp) (And.intro rfl rfl)
                  · obtain ⟨v276, h277, H⟩ := ofBind H
                    rcases ofCond H with ⟨c278, H⟩ | ⟨c278, H⟩
                    · refine seq_ops [.res (cB v267), .g false, .g false, .g false, .g false, .g false, .res (cI v270), .g false, .g false, .g false, .g false, .g false, .g false, .res (cB v273), .g false, .g false, .g false, .g false, .g false, .res (cB v276), .g false, .g false, .g true, .g true, .g true, .g true, .g true, .g true, .g true, .g true, .g true, .g true] [] [(1, .c (.pk 1 0)), (69, .c (dat 6 eTKind zTKind p0.Kinds)), (70, cI (p0.Kinds.length : Int)), (71, cI x262), (112, cB true)] [(1, .var (eTRules p0) false)] (fun t => aI (s_rName_ok v265.Name v267 h268) (aI c269 (aI c269 (aI c269 (aI c269 (aI c269 (aI (s_rKind_ok p0.Kinds v265.Name v270 h271) (aI c269 (aI c269 (aI c269 (aI c272 (aI c272 (aI c272 (aI (s_l1In_ok v265.Strength 1 9 v273 h274) (aI c272 (aI c272 (aI c275 (aI c275 (aI c275 (aI (s_l1In_ok v265.Moves 0 9 v276 h277) (aI c275 (aI c275 (aI c278 (aI c278 (aI c278 (aI c278 (aI c278 (aI (rfl : (true : Bool) = true) (aI (rfl : (true : Bool) = true) (aI (rfl : (true : Bool) = true) (aI (rfl : (true : Bool) = true) (aI (rfl : (true : Bool) = true) (t))))))))))))))))))))))))))))))))) (by kernel_rfl) ?_
                      refine ite_t (rfl : (true : Bool) = true) (by kernel_rfl) ?_
                      refine seq_ops [] [] [(2, cB false)] [] (fun t => t) (by kernel_rfl) ?_
                      refine ends_ret ?_
                      obtain rfl := Option.some.inj H
                      exact And.intro (by simp) (And.intro rfl rfl)
                    · obtain ⟨v279, h280, H⟩ := ofBind H
                      rcases ofCond H with ⟨c281, H⟩ | ⟨c281, H⟩
                      · refine seq_ops [.res (cB v267), .g false, .g false, .g false, .g false, .g false, .res (cI v270), .g false, .g false, .g false, .g false, .g false, .g false, .res (cB v273), .g false, .g false, .g false, .g false, .g false, .res (cB v276), .g false, .g false, .g false, .g false, .g false, .res (cB v279), .g false, .g false, .g true, .g true, .g true, .g true, .g true] [] [(1, .c (.pk 1 0)), (69, .c (dat 6 eTKind zTKind p0.Kinds)), (70, cI (p0.Kinds.length : Int)), (71, cI x262), (112, cB true)] [(1, .var (eTRules p0) false)] (fun t => aI (s_rName_ok v265.Name v267 h268) (aI c269 (aI c269 (aI c269 (aI c269 (aI c269 (aI (s_rKind_ok p0.Kinds v265.Name v270 h271) (aI c269 (aI c269 (aI c269 (aI c272 (aI c272 (aI c272 (aI (s_l1In_ok v265.Strength 1 9 v273 h274) (aI c272 (aI c272 (aI c275 (aI c275 (aI c275 (aI (s_l1In_ok v265.Moves 0 9 v276 h277) (aI c275 (aI c275 (aI c278 (aI c278 (aI c278 (aI (s_l1In_ok v265.Steps 1 4 v279 h280) (aI c278 (aI c278 (aI c281 (aI c281 (aI c281 (aI c281 (aI c281 (t)))))))))))))))))))))))))))))))))) (by kernel_rfl) ?_
                        refine ite_t (rfl : (true : Bool) = true) (by kernel_rfl) ?_
                        refine seq_ops [] [] [(2, cB false)] [] (fun t => t) (by kernel_rfl) ?_
                        refine ends_ret ?_
                        obtain rfl := Option.some.inj H
                        exact And.intro (by simp) (And.intro rfl rfl)
                      · obtain ⟨v282, h283, H⟩ := ofBind H
                        refine seq_ops [.res (cB v267), .g false, .g false, .g false, .g false, .g false, .res (cI v270), .g false, .g false, .g false, .g false, .g false, .g false, .res (cB v273), .g false, .g false, .g false, .g false, .g false, .res (cB v276), .g false, .g false, .g false, .g false, .g false, .res (cB v279), .g false, .g false, .g false, .g false, .g false, .res (cB v282), .g false, .g false] [] [(1, .c (.pk 1 0)), (69, .c (dat 6 eTKind zTKind p0.Kinds)), (70, cI (p0.Kinds.length : Int)), (71, cI x262), (112, cB (!v282))] [(1, .var (eTRules p0) false)] (fun t => aI (s_rName_ok v265.Name v267 h268) (aI c269 (aI c269 (aI c269 (aI c269 (aI c269 (aI (s_rKind_ok p0.Kinds v265.Name v270 h271) (aI c269 (aI c269 (aI c269 (aI c272 (aI c272 (aI c272 (aI (s_l1In_ok v265.Strength 1 9 v273 h274) (aI c272 (aI c272 (aI c275 (aI c275 (aI c275 (aI (s_l1In_ok v265.Moves 0 9 v276 h277) (aI c275 (aI c275 (aI c278 (aI c278 (aI c278 (aI (s_l1In_ok v265.Steps 1 4 v279 h280) (aI c278 (aI c278 (aI c281 (aI c281 (aI c281 (aI (s_l1In_ok v265.View 0 4 v282 h283) (aI c281 (aI c281 (t))))))))))))))))))))))))))))))))))) (by kernel_rfl) ?_
                        rcases ofCond H with ⟨c284, H⟩ | ⟨c284, H⟩
                        · refine ite_t c284 (by kernel_rfl) ?_
                          refine seq_ops [] [] [(2, cB false)] [] (fun t => t) (by kernel_rfl) ?_
                          refine ends_ret ?_
                          obtain rfl := Option.some.inj H
                          exact And.intro (by simp) (And.intro rfl rfl)
                        · refine ite_f c284 (by kernel_rfl) ?_
                          refine ends_skip ?_
                          change EndsI _ _ _ _ _ _
                          refine one_ops [] [] [(1, .c (.pk 1 0)), (69, .c (dat 6 eTKind zTKind p0.Kinds)), (70, cI (p0.Kinds.length : Int)), (71, cI (W (x262 + 1)))] [(1, .var (eTRules p0) false)] (fun t => t) (by kernel_rfl) ?_
                          obtain rfl := Option.some.inj H
                          exact And.intro rfl rfl
            · refine ite_f c264 (by kernel_rfl) ?_
              refine tell [] [(1, .c (.pk 1 0))] [(1, .var (eTRules p0) false)] (fun t => t) (by kernel_rfl) ?_
              refine ends_exit ?_
              obtain rfl := Option.some.inj H
              exact And.intro (by simp) (And.intro rfl rfl)
          · clear h286
            cases y285 with
            | inl y287 =>
              replace H := ofInl H
              intro e s q
              obtain ⟨rfl, rfl⟩ := q
              change EndsI _ _ _ _ _ _
              obtain ⟨v289, h290, H⟩ := ofBind H
              rcases ofCond H with ⟨c291, H⟩ | ⟨c291, H⟩
              · obtain ⟨v292, h293, H⟩ := ofBind H
                rcases ofCond H with ⟨c294, H⟩ | ⟨c294, H⟩
                · obtain ⟨v295, h296, H⟩ := ofBind H
                  rcases ofCond H with ⟨c297, H⟩ | ⟨c297, H⟩
                  · obtain ⟨v298, h299, H⟩ := ofBind H
                    rcases ofCond H with ⟨c300, H⟩ | ⟨c300, H⟩
                    · obtain ⟨v301, h302, H⟩ := ofBind H
                      refine seq_ops [.res (cB v289), .g true, .g true, .g true, .res (cB v292), .g true, .g true, .g true, .g true, .res (cB v295), .g true, .g true, .g true, .g true, .res (cB v298), .g true, .g true, .g true, .g true, .res (cB v301), .g true] [] [(2, cB v301)] [] (fun t => aI (s_l1In_ok p0.Stack 1 4 v289 h290) (aI c291 (aI c291 (aI c291 (aI (s_l1In_ok p0.River 0 9 v292 h293) (aI c291 (aI c294 (aI c294 (aI c294 (aI (s_l1In_ok p0.Road 1 9 v295 h296) (aI c294 (aI c297 (aI c297 (aI c297 (aI (s_l1In_ok p0.Supply 0 20 v298 h299) (aI c297 (aI c300 (aI c300 (aI c300 (aI (s_l1In_ok p0.Turns 1 30 v301 h302) (aI c300 (t)))))))))))))))))))))) (by kernel_rfl) ?_
                      refine ends_ret ?_
                      obtain rfl := Option.some.inj H
                      exact And.intro (.inl rfl) rfl
                    · refine seq_ops [.res (cB v289), .g true, .g true, .g true, .res (cB v292), .g true, .g true, .g true, .g true, .res (cB v295), .g true, .g true, .g true, .g true, .res (cB v298), .g true, .g false, .g false, .g false, .g false] [] [(2, cB false)] [] (fun t => aI (s_l1In_ok p0.Stack 1 4 v289 h290) (aI c291 (aI c291 (aI c291 (aI (s_l1In_ok p0.River 0 9 v292 h293) (aI c291 (aI c294 (aI c294 (aI c294 (aI (s_l1In_ok p0.Road 1 9 v295 h296) (aI c294 (aI c297 (aI c297 (aI c297 (aI (s_l1In_ok p0.Supply 0 20 v298 h299) (aI c297 (aI c300 (aI c300 (aI c300 (aI c300 (t))))))))))))))))))))) (by kernel_rfl) ?_
                      refine ends_ret ?_
                      obtain rfl := Option.some.inj H
                      exact And.intro (.inl rfl) rfl
                  · refine seq_ops [.res (cB v289), .g true, .g true, .g true, .res (cB v292), .g true, .g true, .g true, .g true, .res (cB v295), .g true, .g false, .g false, .g false, .g false, .g false, .g false, .g false, .g false] [] [(2, cB false)] [] (fun t => aI (s_l1In_ok p0.Stack 1 4 v289 h290) (aI c291 (aI c291 (aI c291 (aI (s_l1In_ok p0.River 0 9 v292 h293) (aI c291 (aI c294 (aI c294 (aI c294 (aI (s_l1In_ok p0.Road 1 9 v295 h296) (aI c294 (aI c297 (aI c297 (aI c297 (aI c297 (aI (rfl : (false : Bool) = false) (aI (rfl : (false : Bool) = false) (aI (rfl : (false : Bool) = false) (aI (rfl : (false : Bool) = false) (t)))))))))))))))))))) (by kernel_rfl) ?_
                    refine ends_ret ?_
                    obtain rfl := Option.some.inj H
                    exact And.intro (.inl rfl) rfl
                · refine seq_ops [.res (cB v289), .g true, .g true, .g true, .res (cB v292), .g true, .g false, .g false, .g false, .g false, .g false, .g false, .g false, .g false, .g false, .g false, .g false, .g false] [] [(2, cB false)] [] (fun t => aI (s_l1In_ok p0.Stack 1 4 v289 h290) (aI c291 (aI c291 (aI c291 (aI (s_l1In_ok p0.River 0 9 v292 h293) (aI c291 (aI c294 (aI c294 (aI c294 (aI c294 (aI (rfl : (false : Bool) = false) (aI (rfl : (false : Bool) = false) (aI (rfl : (false : Bool) = false) (aI (rfl : (false : Bool) = false) (aI (rfl : (false : Bool) = false) (aI (rfl : (false : Bool) = false) (aI (rfl : (false : Bool) = false) (aI (rfl : (false : Bool) = false) (t))))))))))))))))))) (by kernel_rfl) ?_
                  refine ends_ret ?_
                  obtain rfl := Option.some.inj H
                  exact And.intro (.inl rfl) rfl
              · refine seq_ops [.res (cB v289), .g false, .g false, .g false, .g false, .g false, .g false, .g false, .g false, .g false, .g false, .g false, .g false, .g false, .g false, .g false, .g false] [] [(2, cB false)] [] (fun t => aI (s_l1In_ok p0.Stack 1 4 v289 h290) (aI c291 (aI c291 (aI c291 (aI c291 (aI (rfl : (false : Bool) = false) (aI (rfl : (false : Bool) = false) (aI (rfl : (false : Bool) = false) (aI (rfl : (false : Bool) = false) (aI (rfl : (false : Bool) = false) (aI (rfl : (false : Bool) = false) (aI (rfl : (false : Bool) = false) (aI (rfl : (false : Bool) = false) (aI (rfl : (false : Bool) = false) (aI (rfl : (false : Bool) = false) (aI (rfl : (false : Bool) = false) (aI (rfl : (false : Bool) = false) (t)))))))))))))))))) (by kernel_rfl) ?_
                refine ends_ret ?_
                obtain rfl := Option.some.inj H
                exact And.intro (.inl rfl) rfl
            | inr y288 =>
              replace H := ofInr H
              intro e s q
              obtain ⟨rfl, rfl⟩ := q
              obtain rfl := Option.some.inj H
              exact And.intro (.inl rfl) rfl
        | inr y144 =>
          replace H := ofInr H
          intro e s q
          obtain ⟨rfl, rfl⟩ := q
          obtain rfl := Option.some.inj H
          exact And.intro (.inl rfl) rfl

def s_mSize_ir : S :=
 (.seq (.ops [⟨some 1, .box 5 (.t 0), none⟩, ⟨some 2, .mv (.v (.int .i64 0)), none⟩])
 (.seq (.ops [⟨some 3, .fad 0 (.t 1), none⟩, ⟨some 4, .load 1 false (.t 3), none⟩, ⟨some 5, .fad 1 (.t 1), none⟩, ⟨some 6, .load 1 false (.t 5), none⟩, ⟨some 7, .bin .mul (.t 4) (.t 6), none⟩, ⟨some 2, .mv (.t 7), none⟩])
 .ret))
noncomputable def X.s_mSize (p0 : TMap) : Option Int :=
  some (W (p0.Width * p0.Height))
theorem s_mSize_ok (p0 : TMap) (r : Int) (H : X.s_mSize p0 = some r) : FnOk Tryz.prog gl 142 [.agg (eTMap p0)] (cI r) := by
  unfold X.s_mSize at H
  refine fn_in (fn := Tryz.f142) (ir := s_mSize_ir) (s1 := lit [(2, cI r)] []) glL Tryz.func142 (by kernel_rfl) (by kernel_rfl) (by kernel_rfl) (by kernel_rfl) (by kernel_rfl) ?_
  refine seq_ops [] [] [(1, .c (.pk 1 0))] [(1, .var (eTMap p0) false)] (fun t => t) (by kernel_rfl) ?_
  refine seq_ops [] [] [(2, cI (W (p0.Width * p0.Height)))] [] (fun t => t) (by kernel_rfl) ?_
  refine ends_ret ?_
  obtain rfl := Option.some.inj H
  exact And.intro (.inl rfl) rfl

def s_mIndex_ir : S :=
 (.seq (.ops [⟨some 2, .box 5 (.t 0), none⟩, ⟨some 3, .box 2 (.t 1), none⟩, ⟨some 4, .mv (.v (.int .i64 0)), none⟩])
 (.seq (.seq (.ops [⟨some 5, .fad 0 (.t 3), none⟩, ⟨some 6, .load 1 false (.t 5), none⟩, ⟨some 7, .fad 0 (.t 2), none⟩, ⟨some 8, .load 1 false (.t 7), none⟩, ⟨some 9, .bin .sub (.t 8) (.v (.int .i64 1)), none⟩, ⟨some 10, .call 124 [.t 6, .v (.int .i64 0), .t 9], none⟩, ⟨some 11, .not (.t 10), none⟩, ⟨some 12, .mv (.t 11), none⟩, ⟨some 13, .fad 1 (.t 3), some (12, false)⟩, ⟨some 14, .load 1 false (.t 13), some (12, false)⟩, ⟨some 15, .fad 1 (.t 2), some (12, false)⟩, ⟨some 16, .load 1 false (.t 15), some (12, false)⟩, ⟨some 17, .bin .sub (.t 16) (.v (.int .i64 1)), some (12, false)⟩, ⟨some 18, .call 124 [.t 14, .v (.int .i64 0), .t 17], some (12, false)⟩, ⟨some 19, .not (.t 18), some (12, false)⟩, ⟨some 20, .pick (.t 12) (.v (.bool true)) (.t 19), none⟩])
 (.ite (.t 20) (.seq (.ops [⟨some 4, .mv (.v (.int .i64 (-1))), none⟩])
  .ret)
 .skip))
 (.seq (.ops [⟨some 21, .fad 1 (.t 3), none⟩, ⟨some 22, .load 1 false (.t 21), none⟩, ⟨some 23, .fad 0 (.t 2), none⟩, ⟨some 24, .load 1 false (.t 23), none⟩, ⟨some 25, .bin .mul (.t 22) (.t 24), none⟩, ⟨some 26, .fad 0 (.t 3), none⟩, ⟨some 27, .load 1 false (.t 26), none⟩, ⟨some 28, .bin .add (.t 25) (.t 27), none⟩, ⟨some 4, .mv (.t 28), none⟩])
 .ret)))
noncomputable def X.s_mIndex (p0 : TMap) (p1 : THex) : Option Int :=
  ((X.s_l1In p1.Q 0 (W (p0.Width - 1))).bind fun v7 => (bif (!v7) then some (-1) else ((X.s_l1In p1.R 0 (W (p0.Height - 1))).bind fun v10 => (bif (!v10) then some (-1) else some (W ((W (p1.R * p0.Width)) + p1.Q))))))
theorem s_mIndex_ok (p0 : TMap) (p1 : THex) (r : Int) (H : X.s_mIndex p0 p1 = some r) : FnOk Tryz.prog gl 125 [.agg (eTMap p0), .agg (eTHex p1)] (cI r) := by
  unfold X.s_mIndex at H
  refine fn_in (fn := Tryz.f125) (ir := s_mIndex_ir) (s1 := lit [(4, cI r)] []) glL Tryz.func125 (by kernel_rfl) (by kernel_rfl) (by kernel_rfl) (by kernel_rfl) (by kernel_rfl) ?_
  refine seq_ops [] [] [(2, .c (.pk 2 0)), (3, .c (.pk 3 0))] [(2, .var (eTMap p0) false), (3, .var (eTHex p1) false)] (fun t => t) (by kernel_rfl) ?_
  refine seq_in ?_
  obtain ⟨v7, h8, H⟩ := ofBind H
  rcases ofCond H with ⟨c9, H⟩ | ⟨c9, H⟩
  · refine seq_ops [.res (cB v7), .g true, .g true, .g true, .g true, .g true, .g true, .g true, .g true] [] [(2, .c (.pk 2 0)), (3, .c (.pk 3 0)), (20, cB true)] [(2, .var (eTMap p0) false), (3, .var (eTHex p1) false)] (fun t => aI (s_l1In_ok p1.Q 0 (W (p0.Width - 1)) v7 h8) (aI c9 (aI c9 (aI c9 (aI c9 (aI c9 (aI c9 (aI c9 (aI c9 (t)))))))))) (by kernel_rfl) ?_
    refine ite_t (rfl : (true : Bool) = true) (by kernel_rfl) ?_
    refine seq_ops [] [] [(4, cI (-1))] [] (fun t => t) (by kernel_rfl) ?_
    refine ends_ret ?_
    obtain rfl := Option.some.inj H
    exact And.intro (.inl rfl) rfl
  · obtain ⟨v10, h11, H⟩ := ofBind H
    refine seq_ops [.res (cB v7), .g false, .g false, .g false, .g false, .g false, .g false, .res (cB v10), .g false, .g false] [] [(2, .c (.pk 2 0)), (3, .c (.pk 3 0)), (20, cB (!v10))] [(2, .var (eTMap p0) false), (3, .var (eTHex p1) false)] (fun t => aI (s_l1In_ok p1.Q 0 (W (p0.Width - 1)) v7 h8) (aI c9 (aI c9 (aI c9 (aI c9 (aI c9 (aI c9 (aI (s_l1In_ok p1.R 0 (W (p0.Height - 1)) v10 h11) (aI c9 (aI c9 (t))))))))))) (by kernel_rfl) ?_
    rcases ofCond H with ⟨c12, H⟩ | ⟨c12, H⟩
    · refine ite_t c12 (by kernel_rfl) ?_
      refine seq_ops [] [] [(4, cI (-1))] [] (fun t => t) (by kernel_rfl) ?_
      refine ends_ret ?_
      obtain rfl := Option.some.inj H
      exact And.intro (.inl rfl) rfl
    · refine ite_f c12 (by kernel_rfl) ?_
      refine ends_skip ?_
      change EndsI _ _ _ _ _ _
      refine seq_ops [] [] [(4, cI (W ((W (p1.R * p0.Width)) + p1.Q)))] [] (fun t => t) (by kernel_rfl) ?_
      refine ends_ret ?_
      obtain rfl := Option.some.inj H
      exact And.intro (.inl rfl) rfl

def s_hStep_ir : S :=
 (.seq (.ops [⟨some 2, .box 2 (.t 0), none⟩, ⟨some 4, .alloc [.int .i64 0, .int .i64 0], none⟩])
 (.seq (.draw 15 [⟨some 5, .fad 0 (.t 2), none⟩, ⟨some 6, .load 1 false (.t 5), none⟩, ⟨some 7, .bsl 1 [.v (.int .i64 1), .v (.int .i64 1), .v (.int .i64 0), .v (.int .i64 (-1)), .v (.int .i64 (-1)), .v (.int .i64 0)], none⟩, ⟨some 8, .mv (.t 1), none⟩, ⟨some 9, .iad 1 (.t 7) (.t 8), none⟩, ⟨some 10, .load 1 false (.t 9), none⟩, ⟨some 11, .bin .add (.t 6) (.t 10), none⟩, ⟨some 12, .fad 1 (.t 2), none⟩, ⟨some 13, .load 1 false (.t 12), none⟩, ⟨some 14, .bsl 1 [.v (.int .i64 0), .v (.int .i64 (-1)), .v (.int .i64 (-1)), .v (.int .i64 0), .v (.int .i64 1), .v (.int .i64 1)], none⟩, ⟨some 15, .mv (.t 1), none⟩, ⟨some 16, .iad 1 (.t 14) (.t 15), none⟩, ⟨some 17, .load 1 false (.t 16), none⟩, ⟨some 18, .bin .add (.t 13) (.t 17), none⟩, ⟨some 19, .build [.int .i64 0, .int .i64 0] [(0, 1, .t 11), (1, 1, .t 18)], none⟩, ⟨none, .store 2 (.t 4) (.t 19), none⟩])
 .ret))
noncomputable def X.s_hStep (p0 : THex) (p1 : Int) : Option THex :=
  (if 0 ≤ p1 ∧ p1 < (([1, 1, 0, -1, -1, 0] : List Int).length : Int) then (if 0 ≤ p1 ∧ p1 < (([0, -1, -1, 0, 1, 1] : List Int).length : Int) then some (THex.mk (W (p0.Q + (([1, 1, 0, -1, -1, 0] : List Int).getD p1.toNat zI))) (W (p0.R + (([0, -1, -1, 0, 1, 1] : List Int).getD p1.toNat zI)))) else none) else none)
theorem s_hStep_ok (p0 : THex) (p1 : Int) (r : THex) (H : X.s_hStep p0 p1 = some r) : FnOk Tryz.prog gl 126 [.agg (eTHex p0), cI p1] (.agg (eTHex r)) := by
  unfold X.s_hStep at H
  refine fn_in (fn := Tryz.f126) (ir := s_hStep_ir) (s1 := lit [(4, .c (.pk 4 0))] [(4, .var (eTHex r) false)]) glL Tryz.func126 (by kernel_rfl) (by kernel_rfl) (by kernel_rfl) (by kernel_rfl) (by kernel_rfl) ?_
  refine seq_ops [] [] [(1, cI p1), (2, .c (.pk 2 0)), (4, .c (.pk 4 0))] [(2, .var (eTHex p0) false), (4, .var [.int .i64 0, .int .i64 0] false)] (fun t => t) (by kernel_rfl) ?_
  obtain ⟨g1, H⟩ := ofIf H
  obtain ⟨g2, H⟩ := ofIf H
  refine seq_draw [.no, .fn ([1, 1, 0, -1, -1, 0] : List Int).length (fF eI zI ([1, 1, 0, -1, -1, 0] : List Int)), .no, .no, .fn ([0, -1, -1, 0, 1, 1] : List Int).length (fF eI zI ([0, -1, -1, 0, 1, 1] : List Int)), .no] [] [(4, .c (.pk 4 0))] [(4, .var [.int .i64 (W (p0.Q + (([1, 1, 0, -1, -1, 0] : List Int).getD p1.toNat zI))), .int .i64 (W (p0.R + (([0, -1, -1, 0, 1, 1] : List Int).getD p1.toNat zI)))] false)] (fun t => aI (rfl : ([1, 1, 0, -1, -1, 0] : List Int).length = 6) (aI (rfl : true = true) (aI (fF_lit eI zI ([1, 1, 0, -1, -1, 0] : List Int)) (aI g1 (aI (nat_lt g1) (aI (rfl : ([] : List Nat) = []) (aI (rfl : ([0, -1, -1, 0, 1, 1] : List Int).length = 6) (aI (rfl : true = true) (aI (fF_lit eI zI ([0, -1, -1, 0, 1, 1] : List Int)) (aI g2 (aI (nat_lt g2) (aI (rfl : ([] : List Nat) = []) (t))))))))))))) (by kernel_rfl) ?_
  refine ends_ret ?_
  obtain rfl := Option.some.inj H
  exact And.intro (.inl rfl) rfl

def s_mHex_ir : S :=
 (.seq (.ops [⟨some 2, .box 5 (.t 0), none⟩, ⟨some 4, .alloc [.int .i64 0, .int .i64 0], none⟩])
 (.seq (.draw 9 [⟨some 5, .mv (.t 1), none⟩, ⟨some 6, .fad 0 (.t 2), none⟩, ⟨some 7, .load 1 false (.t 6), none⟩, ⟨some 8, .bin .rem (.t 5) (.t 7), none⟩, ⟨some 9, .mv (.t 1), none⟩, ⟨some 10, .fad 0 (.t 2), none⟩, ⟨some 11, .load 1 false (.t 10), none⟩, ⟨some 12, .bin .quo (.t 9) (.t 11), none⟩, ⟨some 13, .build [.int .i64 0, .int .i64 0] [(0, 1, .t 8), (1, 1, .t 12)], none⟩, ⟨none, .store 2 (.t 4) (.t 13), none⟩])
 .ret))
noncomputable def X.s_mHex (p0 : TMap) (p1 : Int) : Option THex :=
  (if p0.Width ≠ 0 then (if p0.Width ≠ 0 then some (THex.mk (Int.tmod p1 p0.Width) (W (Int.tdiv p1 p0.Width))) else none) else none)
theorem s_mHex_ok (p0 : TMap) (p1 : Int) (r : THex) (H : X.s_mHex p0 p1 = some r) : FnOk Tryz.prog gl 127 [.agg (eTMap p0), cI p1] (.agg (eTHex r)) := by
  unfold X.s_mHex at H
  refine fn_in (fn := Tryz.f127) (ir := s_mHex_ir) (s1 := lit [(4, .c (.pk 4 0))] [(4, .var (eTHex r) false)]) glL Tryz.func127 (by kernel_rfl) (by kernel_rfl) (by kernel_rfl) (by kernel_rfl) (by kernel_rfl) ?_
  refine seq_ops [] [] [(1, cI p1), (2, .c (.pk 2 0)), (4, .c (.pk 4 0))] [(2, .var (eTMap p0) false), (4, .var [.int .i64 0, .int .i64 0] false)] (fun t => t) (by kernel_rfl) ?_
  obtain ⟨g1, H⟩ := ofIf H
  obtain ⟨g2, H⟩ := ofIf H
  refine seq_draw [] [] [(4, .c (.pk 4 0))] [(4, .var [.int .i64 (Int.tmod p1 p0.Width), .int .i64 (W (Int.tdiv p1 p0.Width))] false)] (fun t => aI g1 (aI g2 (t))) (by kernel_rfl) ?_
  refine ends_ret ?_
  obtain rfl := Option.some.inj H
  exact And.intro (.inl rfl) rfl

def s_mNext_ir : S :=
 (.seq (.ops [⟨some 3, .box 5 (.t 0), none⟩, ⟨some 6, .mv (.v (.int .i64 0)), none⟩])
 (.seq (.draw 8 [⟨some 7, .load 5 true (.t 3), none⟩, ⟨some 8, .load 5 true (.t 3), none⟩, ⟨some 9, .mv (.t 1), none⟩, ⟨some 10, .call 127 [.t 8, .t 9], none⟩, ⟨some 11, .mv (.t 2), none⟩, ⟨some 12, .call 126 [.t 10, .t 11], none⟩, ⟨some 13, .call 125 [.t 7, .t 12], none⟩, ⟨some 6, .mv (.t 13), none⟩])
 .ret))
noncomputable def X.s_mNext (p0 : TMap) (p1 : Int) (p2 : Int) : Option Int :=
  ((X.s_mHex p0 p1).bind fun v1 => ((X.s_hStep v1 p2).bind fun v3 => ((X.s_mIndex p0 v3).bind fun v5 => some v5)))
theorem s_mNext_ok (p0 : TMap) (p1 : Int) (p2 : Int) (r : Int) (H : X.s_mNext p0 p1 p2 = some r) : FnOk Tryz.prog gl 62 [.agg (eTMap p0), cI p1, cI p2] (cI r) := by
  unfold X.s_mNext at H
  refine fn_in (fn := Tryz.f62) (ir := s_mNext_ir) (s1 := lit [(6, cI r)] []) glL Tryz.func62 (by kernel_rfl) (by kernel_rfl) (by kernel_rfl) (by kernel_rfl) (by kernel_rfl) ?_
  refine seq_ops [] [] [(1, cI p1), (2, cI p2), (3, .c (.pk 3 0))] [(3, .var (eTMap p0) false)] (fun t => t) (by kernel_rfl) ?_
  obtain ⟨v1, h2, H⟩ := ofBind H
  obtain ⟨v3, h4, H⟩ := ofBind H
  obtain ⟨v5, h6, H⟩ := ofBind H
  refine seq_draw [.res (.agg (eTHex v1)), .res (.agg (eTHex v3)), .res (cI v5)] [] [(6, cI v5)] [] (fun t => aI (s_mHex_ok p0 p1 v1 h2) (aI trivial (aI (rfl : ([] : List Nat) = []) (aI (s_hStep_ok v1 p2 v3 h4) (aI trivial (aI (rfl : ([] : List Nat) = []) (aI (s_mIndex_ok p0 v3 v5 h6) (aI trivial (aI (rfl : ([] : List Nat) = []) (t)))))))))) (by kernel_rfl) ?_
  refine ends_ret ?_
  obtain rfl := Option.some.inj H
  exact And.intro (.inl rfl) rfl

def s_l1Rising_ir : S :=
 (.seq (.ops [⟨some 6, .mv (.v (.bool false)), none⟩])
 (.seq (.seq (.ops [⟨some 9, .mv (.t 0), none⟩, ⟨some 10, .len (.t 9), none⟩, ⟨some 11, .mv (.v (.int .i64 0)), none⟩])
 (.blk 0 (.loop (.seq (.ops [⟨some 12, .bin .lss (.t 11) (.t 10), none⟩])
   (.seq (.ite (.t 12) .skip
   (.exit 0))
   (.seq (.blk 1 (.seq (.ops [⟨some 13, .mv (.t 11), none⟩, ⟨some 14, .iad 1 (.t 9) (.t 11), none⟩, ⟨some 15, .load 1 false (.t 14), none⟩, ⟨some 7, .mv (.t 13), none⟩, ⟨some 8, .mv (.t 15), none⟩])
    (.seq (.ops [⟨some 16, .mv (.t 8), none⟩, ⟨some 17, .mv (.t 1), none⟩, ⟨some 18, .mv (.t 2), none⟩, ⟨some 19, .call 124 [.t 16, .t 17, .t 18], none⟩, ⟨some 20, .not (.t 19), none⟩, ⟨some 21, .mv (.t 20), none⟩, ⟨some 22, .mv (.t 7), some (21, false)⟩, ⟨some 23, .bin .gtr (.t 22) (.v (.int .i64 0)), some (21, false)⟩, ⟨some 24, .mv (.t 23), some (21, false)⟩, ⟨some 25, .mv (.t 0), some (24, true)⟩, ⟨some 26, .mv (.t 7), some (24, true)⟩, ⟨some 27, .bin .sub (.t 26) (.v (.int .i64 1)), some (24, true)⟩, ⟨some 28, .iad 1 (.t 25) (.t 27), some (24, true)⟩, ⟨some 29, .load 1 false (.t 28), some (24, true)⟩, ⟨some 30, .mv (.t 8), some (24, true)⟩, ⟨some 31, .bin .geq (.t 29) (.t 30), some (24, true)⟩, ⟨some 32, .pick (.t 24) (.t 31) (.v (.bool false)), some (21, false)⟩, ⟨some 33, .pick (.t 21) (.v (.bool true)) (.t 32), none⟩])
    (.ite (.t 33) (.seq (.ops [⟨some 6, .mv (.v (.bool false)), none⟩])
     .ret)
    .skip))))
   (.ops [⟨some 34, .bin .add (.t 11) (.v (.int .i64 1)), none⟩, ⟨some 11, .mv (.t 34), none⟩])))))))
 (.seq (.ops [⟨some 6, .mv (.v (.bool true)), none⟩])
 .ret)))
noncomputable def X.s_l1Rising (p0 : (List Int)) (p1 : Int) (p2 : Int) : Option Bool :=
  ((loop (fun (x24 : Int) => ((bif (decide (x24 < (p0.length : Int))) then ((at' zI p0 x24).bind fun v27 => ((X.s_l1In v27 p1 p2).bind fun v29 => (bif (!v29) then some (Sum.inr (Sum.inr false)) else (bif (decide (x24 > 0)) then ((at' zI p0 (W (x24 - 1))).bind fun v33 => (bif (decide (v33 ≥ v27)) then some (Sum.inr (Sum.inr false)) else some (Sum.inl (W (x24 + 1))))) else some (Sum.inl (W (x24 + 1))))))) else some (Sum.inr (Sum.inl ()))) : Option (Int ⊕ (Unit ⊕ Bool)))) 0).bind fun y36 => (Sum.elim (fun (y38 : Unit) => some true) (fun (y39 : Bool) => some y39) y36))
theorem s_l1Rising_ok (p0 : (List Int)) (p1 : Int) (p2 : Int) (r : Bool) (H : X.s_l1Rising p0 p1 p2 = some r) : FnOk Tryz.prog gl 190 [.c (dat 1 eI zI p0), cI p1, cI p2] (cB r) := by
  unfold X.s_l1Rising at H
  refine fn_in (fn := Tryz.f190) (ir := s_l1Rising_ir) (s1 := lit [(6, cB r)] []) glL Tryz.func190 (by kernel_rfl) (by kernel_rfl) (by kernel_rfl) (by kernel_rfl) (by kernel_rfl) ?_
  refine seq_ops [] [] [(0, .c (dat 1 eI zI p0)), (1, cI p1), (2, cI p2)] [] (fun t => t) (by kernel_rfl) ?_
  refine seq_in ?_
  refine seq_ops [] [] [(0, .c (dat 1 eI zI p0)), (1, cI p1), (2, cI p2), (9, .c (dat 1 eI zI p0)), (10, cI (p0.length : Int)), (11, cI 0)] [] (fun t => lI p0 (t)) (by kernel_rfl) ?_
  refine ends_blk ?_
  obtain ⟨y36, h37, H⟩ := ofBind H
  refine loop_in (fun (x : Int) => lit [(0, .c (dat 1 eI zI p0)), (1, cI p1), (2, cI p2), (9, .c (dat 1 eI zI p0)), (10, cI (p0.length : Int)), (11, cI x)] []) (orJ (fun (z : Unit) => At (.exit 0) (lit [] [])) (fun (z : Bool) => At .ret (lit [(6, cB z)] []))) h37 ?_ ?_
  · clear H h37
    intro x24 y0 H
    refine seq_ops [] [] [(0, .c (dat 1 eI zI p0)), (1, cI p1), (2, cI p2), (9, .c (dat 1 eI zI p0)), (10, cI (p0.length : Int)), (11, cI x24), (12, cB (decide (x24 < (p0.length : Int))))] [] (fun t => t) (by kernel_rfl) ?_
    refine seq_in ?_
    rcases ofCond H with ⟨c26, H⟩ | ⟨c26, H⟩
    · refine ite_t c26 (by kernel_rfl) ?_
      refine ends_skip ?_
      change EndsI _ _ _ _ _ _
      refine seq_in ?_
      refine ends_blk ?_
      obtain ⟨v27, h28, H⟩ := ofBind H
      refine seq_ops [.cs (eI v27)] [] [(0, .c (dat 1 eI zI p0)), (1, cI p1), (2, cI p2), (7, cI x24), (8, cI v27), (9, .c (dat 1 eI zI p0)), (10, cI (p0.length : Int)), (11, cI x24)] [] (fun t => aI (at_lt h28) (aI (at_enc (enc := eI) h28) (t))) (by kernel_rfl) ?_
      obtain ⟨v29, h30, H⟩ := ofBind H
      rcases ofCond H with ⟨c31, H⟩ | ⟨c31, H⟩
      · refine seq_ops [.res (cB v29), .g true, .g true, .g true, .g true, .g true] [] [(0, .c (dat 1 eI zI p0)), (1, cI p1), (2, cI p2), (9, .c (dat 1 eI zI p0)), (10, cI (p0.length : Int)), (11, cI x24), (33, cB true)] [] (fun t => aI (s_l1In_ok v27 p1 p2 v29 h30) (aI c31 (aI c31 (aI c31 (aI c31 (aI c31 (t))))))) (by kernel_rfl) ?_
        refine ite_t (rfl : (true : Bool) = true) (by kernel_rfl) ?_
        refine seq_ops [] [] [(6, cB false)] [] (fun t => t) (by kernel_rfl) ?_
        refine ends_ret ?_
        obtain rfl := Option.some.inj H
        exact And.intro (by simp) (And.intro rfl rfl)
      · rcases ofCond H with ⟨c32, H⟩ | ⟨c32, H⟩
        · obtain ⟨v33, h34, H⟩ := ofBind H
          refine seq_ops [.res (cB v29), .g false, .g false, .g false, .g true, .g true, .g true, .g true, .cs (eI v33), .g true, .g true, .g true, .g false, .g true, .g false] [] [(0, .c (dat 1 eI zI p0)), (1, cI p1), (2, cI p2), (9, .c (dat 1 eI zI p0)), (10, cI (p0.length : Int)), (11, cI x24), (33, cB (decide (v33 ≥ v27)))] [] (fun t => aI (s_l1In_ok v27 p1 p2 v29 h30) (aI c31 (aI c31 (aI c31 (aI c32 (aI c32 (aI c32 (aI c32 (aI (at_lt h34) (aI (at_enc (enc := eI) h34) (aI c32 (aI c32 (aI c32 (aI c31 (aI c32 (aI c31 (t))))))))))))))))) (by kernel_rfl) ?_
          rcases ofCond H with ⟨c35, H⟩ | ⟨c35, H⟩
          · refine ite_t c35 (by kernel_rfl) ?_
            refine seq_ops [] [] [(6, cB false)] [] (fun t => t) (by kernel_rfl) ?_
            refine ends_ret ?_
            obtain rfl := Option.some.inj H
            exact And.intro (by simp) (And.intro rfl rfl)
          · refine ite_f c35 (by kernel_rfl) ?_
            refine ends_skip ?_
            change EndsI _ _ _ _ _ _
            refine one_ops [] [] [(0, .c (dat 1 eI zI p0)), (1, cI p1), (2, cI p2), (9, .c (dat 1 eI zI p0)), (10, cI (p0.length : Int)), (11, cI (W (x24 + 1)))] [] (fun t => t) (by kernel_rfl) ?_
            obtain rfl := Option.some.inj H
            exact And.intro rfl rfl
        · refine seq_ops [.res (cB v29), .g false, .g false, .g false, .g false, .g false, .g false, .g false, .g false, .g false, .g false, .g false, .g false, .g false] [] [(0, .c (dat 1 eI zI p0)), (1, cI p1), (2, cI p2), (9, .c (dat 1 eI zI p0)), (10, cI (p0.length : Int)), (11, cI x24), (33, cB false)] [] (fun t => aI (s_l1In_ok v27 p1 p2 v29 h30) (aI c31 (aI c31 (aI c31 (aI c32 (aI c32 (aI c32 (aI c32 (aI c32 (aI c32 (aI c32 (aI c31 (aI c32 (aI c31 (t))))))))))))))) (by kernel_rfl) ?_
          refine ite_f (rfl : (false : Bool) = false) (by kernel_rfl) ?_
          refine ends_skip ?_
          change EndsI _ _ _ _ _ _
          refine one_ops [] [] [(0, .c (dat 1 eI zI p0)), (1, cI p1), (2, cI p2), (9, .c (dat 1 eI zI p0)), (10, cI (p0.length : Int)), (11, cI (W (x24 + 1)))] [] (fun t => t) (by kernel_rfl) ?_
          obtain rfl := Option.some.inj H
          exact And.intro rfl rfl
    · refine ite_f c26 (by kernel_rfl) ?_
      refine tell [] [] [] (fun t => t) (by kernel_rfl) ?_
      refine ends_exit ?_
      obtain rfl := Option.some.inj H
      exact And.intro (by simp) (And.intro rfl rfl)
  · clear h37
    cases y36 with
    | inl y38 =>
      replace H := ofInl H
      intro e s q
      obtain ⟨rfl, rfl⟩ := q
      change EndsI _ _ _ _ _ _
      refine seq_ops [] [] [(6, cB true)] [] (fun t => t) (by kernel_rfl) ?_
      refine ends_ret ?_
      obtain rfl := Option.some.inj H
      exact And.intro (.inl rfl) rfl
    | inr y39 =>
      replace H := ofInr H
      intro e s q
      obtain ⟨rfl, rfl⟩ := q
      obtain rfl := Option.some.inj H
      exact And.intro (.inl rfl) rfl

def s_mEdges_ir : S :=
 (.seq (.ops [⟨some 2, .box 5 (.t 0), none⟩, ⟨some 4, .mv (.v (.bool false)), none⟩])
 (.seq (.seq (.ops [⟨some 7, .mv (.t 1), none⟩, ⟨some 8, .len (.t 7), none⟩, ⟨some 9, .mv (.v (.int .i64 0)), none⟩])
 (.blk 0 (.loop (.seq (.ops [⟨some 10, .bin .lss (.t 9) (.t 8), none⟩])
   (.seq (.ite (.t 10) .skip
   (.exit 0))
   (.seq (.blk 1 (.seq (.ops [⟨some 11, .iad 1 (.t 7) (.t 9), none⟩, ⟨some 12, .load 1 false (.t 11), none⟩, ⟨some 6, .mv (.t 12), none⟩])
    (.seq (.ops [⟨some 13, .mv (.t 6), none⟩, ⟨some 14, .load 5 true (.t 2), none⟩, ⟨some 15, .call 142 [.t 14], none⟩, ⟨some 16, .bin .mul (.v (.int .i64 3)) (.t 15), none⟩, ⟨some 17, .bin .sub (.t 16) (.v (.int .i64 1)), none⟩, ⟨some 18, .call 124 [.t 13, .v (.int .i64 0), .t 17], none⟩, ⟨some 19, .not (.t 18), none⟩, ⟨some 20, .mv (.t 19), none⟩, ⟨some 21, .load 5 true (.t 2), some (20, false)⟩, ⟨some 22, .mv (.t 6), some (20, false)⟩, ⟨some 23, .bin .quo (.t 22) (.v (.int .i64 3)), some (20, false)⟩, ⟨some 24, .mv (.t 6), some (20, false)⟩, ⟨some 25, .bin .rem (.t 24) (.v (.int .i64 3)), some (20, false)⟩, ⟨some 26, .call 62 [.t 21, .t 23, .t 25], some (20, false)⟩, ⟨some 27, .bin .lss (.t 26) (.v (.int .i64 0)), some (20, false)⟩, ⟨some 28, .pick (.t 20) (.v (.bool true)) (.t 27), none⟩])
    (.ite (.t 28) (.seq (.ops [⟨some 4, .mv (.v (.bool false)), none⟩])
     .ret)
    .skip))))
   (.ops [⟨some 29, .bin .add (.t 9) (.v (.int .i64 1)), none⟩, ⟨some 9, .mv (.t 29), none⟩])))))))
 (.seq (.ops [⟨some 30, .mv (.t 1), none⟩, ⟨some 31, .load 5 true (.t 2), none⟩, ⟨some 32, .call 142 [.t 31], none⟩, ⟨some 33, .bin .mul (.v (.int .i64 3)) (.t 32), none⟩, ⟨some 34, .bin .sub (.t 33) (.v (.int .i64 1)), none⟩, ⟨some 35, .call 190 [.t 30, .v (.int .i64 0), .t 34], none⟩, ⟨some 4, .mv (.t 35), none⟩])
 .ret)))
noncomputable def X.s_mEdges (p0 : TMap) (p1 : (List Int)) : Option Bool :=
  ((loop (fun (x68 : Int) => ((bif (decide (x68 < (p1.length : Int))) then ((at' zI p1 x68).bind fun v71 => ((X.s_mSize p0).bind fun v73 => ((X.s_l1In v71 0 (W ((W (3 * v73)) - 1))).bind fun v75 => (bif (!v75) then some (Sum.inr (Sum.inr false)) else ((X.s_mNext p0 (W (Int.tdiv v71 3)) (Int.tmod v71 3)).bind fun v78 => (bif (decide (v78 < 0)) then some (Sum.inr (Sum.inr false)) else some (Sum.inl (W (x68 + 1))))))))) else some (Sum.inr (Sum.inl ()))) : Option (Int ⊕ (Unit ⊕ Bool)))) 0).bind fun y81 => (Sum.elim (fun (y83 : Unit) => ((X.s_mSize p0).bind fun v85 => ((X.s_l1Rising p1 0 (W ((W (3 * v85)) - 1))).bind fun v87 => some v87))) (fun (y84 : Bool) => some y84) y81))
theorem s_mEdges_ok (p0 : TMap) (p1 : (List Int)) (r : Bool) (H : X.s_mEdges p0 p1 = some r) : FnOk Tryz.prog gl 212 [.agg (eTMap p0), .c (dat 1 eI zI p1)] (cB r) := by
  unfold X.s_mEdges at H
  refine fn_in (fn := Tryz.f212) (ir := s_mEdges_ir) (s1 := lit [(4, cB r)] []) glL Tryz.func212 (by kernel_rfl) (by kernel_rfl) (by kernel_rfl) (by kernel_rfl) (by kernel_rfl) ?_
  refine seq_ops [] [] [(1, .c (dat 1 eI zI p1)), (2, .c (.pk 2 0))] [(2, .var (eTMap p0) false)] (fun t => t) (by kernel_rfl) ?_
  refine seq_in ?_
  refine seq_ops [] [] [(1, .c (dat 1 eI zI p1)), (2, .c (.pk 2 0)), (7, .c (dat 1 eI zI p1)), (8, cI (p1.length : Int)), (9, cI 0)] [(2, .var (eTMap p0) false)] (fun t => lI p1 (t)) (by kernel_rfl) ?_
  refine ends_blk ?_
  obtain ⟨y81, h82, H⟩ := ofBind H
  refine loop_in (fun (x : Int) => lit [(1, .c (dat 1 eI zI p1)), (2, .c (.pk 2 0)), (7, .c (dat 1 eI zI p1)), (8, cI (p1.length : Int)), (9, cI x)] [(2, .var (eTMap p0) false)]) (orJ (fun (z : Unit) => At (.exit 0) (lit [(1, .c (dat 1 eI zI p1)), (2, .c (.pk 2 0))] [(2, .var (eTMap p0) false)])) (fun (z : Bool) => At .ret (lit [(4, cB z)] []))) h82 ?_ ?_
  · clear H h82
    intro x68 y0 H
    refine seq_ops [] [] [(1, .c (dat 1 eI zI p1)), (2, .c (.pk 2 0)), (7, .c (dat 1 eI zI p1)), (8, cI (p1.length : Int)), (9, cI x68), (10, cB (decide (x68 < (p1.length : Int))))] [(2, .var (eTMap p0) false)] (fun t => t) (by kernel_rfl) ?_
    refine seq_in ?_
    rcases ofCond H with ⟨c70, H⟩ | ⟨c70, H⟩
    · refine ite_t c70 (by kernel_rfl) ?_
      refine ends_skip ?_
      change EndsI _ _ _ _ _ _
      refine seq_in ?_
      refine ends_blk ?_
      obtain ⟨v71, h72, H⟩ := ofBind H
      refine seq_ops [.cs (eI v71)] [] [(1, .c (dat 1 eI zI p1)), (2, .c (.pk 2 0)), (6, cI v71), (7, .c (dat 1 eI zI p1)), (8, cI (p1.length : Int)), (9, cI x68)] [(2, .var (eTMap p0) false)] (fun t => aI (at_lt h72) (aI (at_enc (enc := eI) h72) (t))) (by kernel_rfl) ?_
      obtain ⟨v73, h74, H⟩ := ofBind H
      obtain ⟨v75, h76, H⟩ := ofBind H
      rcases ofCond H with ⟨c77, H⟩ | ⟨c77, H⟩
      · refine seq_ops [.res (cI v73), .res (cB v75), .g true, .g true, .g true, .g true, .g true, .g true, .g true, .g true] [] [(1, .c (dat 1 eI zI p1)), (2, .c (.pk 2 0)), (7, .c (dat 1 eI zI p1)), (8, cI (p1.length : Int)), (9, cI x68), (28, cB true)] [(2, .var (eTMap p0) false)] (fun t => aI (s_mSize_ok p0 v73 h74) (aI (s_l1In_ok v71 0 (W ((W (3 * v73)) - 1)) v75 h76) (aI c77 (aI c77 (aI c77 (aI c77 (aI c77 (aI c77 (aI c77 (aI c77 (t))))))))))) (by kernel_rfl) ?_
        refine ite_t (rfl : (true : Bool) = true) (by kernel_rfl) ?_
        refine seq_ops [] [] [(4, cB false)] [] (fun t => t) (by kernel_rfl) ?_
        refine ends_ret ?_
        obtain rfl := Option.some.inj H
        exact And.intro (by simp) (And.intro rfl rfl)
      · obtain ⟨v78, h79, H⟩ := ofBind H
        refine seq_ops [.res (cI v73), .res (cB v75), .g false, .g false, .g false, .g false, .g false, .g false, .res (cI v78), .g false, .g false] [] [(1, .c (dat 1 eI zI p1)), (2, .c (.pk 2 0)), (7, .c (dat 1 eI zI p1)), (8, cI (p1.length : Int)), (9, cI x68), (28, cB (decide (v78 < 0)))] [(2, .var (eTMap p0) false)] (fun t => aI (s_mSize_ok p0 v73 h74) (aI (s_l1In_ok v71 0 (W ((W (3 * v73)) - 1)) v75 h76) (aI c77 (aI c77 (aI c77 (aI (by decide : (3 : Int) ≠ 0) (aI c77 (aI c77 (aI (by decide : (3 : Int) ≠ 0) (aI c77 (aI (s_mNext_ok p0 (W (Int.tdiv v71 3)) (Int.tmod v71 3) v78 h79) (aI c77 (aI c77 (t)))))))))))))) (by kernel_rfl) ?_
        rcases ofCond H with ⟨c80, H⟩ | ⟨c80, H⟩
        · refine ite_t c80 (by kernel_rfl) ?_
          refine seq_ops [] [] [(4, cB false)] [] (fun t => t) (by kernel_rfl) ?_
          refine ends_ret ?_
          obtain rfl := Option.some.inj H
          exact And.intro (by simp) (And.intro rfl rfl)
        · refine ite_f c80 (by kernel_rfl) ?_
          refine ends_skip ?_
          change EndsI _ _ _ _ _ _
          refine one_ops [] [] [(1, .c (dat 1 eI zI p1)), (2, .c (.pk 2 0)), (7, .c (dat 1 eI zI p1)), (8, cI (p1.length : Int)), (9, cI (W (x68 + 1)))] [(2, .var (eTMap p0) false)] (fun t => t) (by kernel_rfl) ?_
          obtain rfl := Option.some.inj H
          exact And.intro rfl rfl
    · refine ite_f c70 (by kernel_rfl) ?_
      refine tell [] [(1, .c (dat 1 eI zI p1)), (2, .c (.pk 2 0))] [(2, .var (eTMap p0) false)] (fun t => t) (by kernel_rfl) ?_
      refine ends_exit ?_
      obtain rfl := Option.some.inj H
      exact And.intro (by simp) (And.intro rfl rfl)
  · clear h82
    cases y81 with
    | inl y83 =>
      replace H := ofInl H
      intro e s q
      obtain ⟨rfl, rfl⟩ := q
      change EndsI _ _ _ _ _ _
      obtain ⟨v85, h86, H⟩ := ofBind H
      obtain ⟨v87, h88, H⟩ := ofBind H
      refine seq_ops [.res (cI v85), .res (cB v87)] [] [(4, cB v87)] [] (fun t => aI (s_mSize_ok p0 v85 h86) (aI (s_l1Rising_ok p1 0 (W ((W (3 * v85)) - 1)) v87 h88) (t))) (by kernel_rfl) ?_
      refine ends_ret ?_
      obtain rfl := Option.some.inj H
      exact And.intro (.inl rfl) rfl
    | inr y84 =>
      replace H := ofInr H
      intro e s q
      obtain ⟨rfl, rfl⟩ := q
      obtain rfl := Option.some.inj H
      exact And.intro (.inl rfl) rfl

def s_mGood_ir : S :=
 (.seq (.ops [⟨some 1, .box 5 (.t 0), none⟩, ⟨some 2, .mv (.v (.bool false)), none⟩])
 (.seq (.draw 34 [⟨some 3, .fad 0 (.t 1), none⟩, ⟨some 4, .load 1 false (.t 3), none⟩, ⟨some 5, .call 124 [.t 4, .v (.int .i64 1), .v (.int .i64 10)], none⟩, ⟨some 6, .mv (.t 5), none⟩, ⟨some 7, .fad 1 (.t 1), some (6, true)⟩, ⟨some 8, .load 1 false (.t 7), some (6, true)⟩, ⟨some 9, .call 124 [.t 8, .v (.int .i64 1), .v (.int .i64 10)], some (6, true)⟩, ⟨some 10, .pick (.t 6) (.t 9) (.v (.bool false)), none⟩, ⟨some 11, .mv (.t 10), none⟩, ⟨some 12, .fad 2 (.t 1), some (11, true)⟩, ⟨some 13, .load 1 false (.t 12), some (11, true)⟩, ⟨some 14, .len (.t 13), some (11, true)⟩, ⟨some 15, .load 5 true (.t 1), some (11, true)⟩, ⟨some 16, .call 142 [.t 15], some (11, true)⟩, ⟨some 17, .bin .eql (.t 14) (.t 16), some (11, true)⟩, ⟨some 18, .pick (.t 11) (.t 17) (.v (.bool false)), none⟩, ⟨some 19, .mv (.t 18), none⟩, ⟨some 20, .fad 2 (.t 1), some (19, true)⟩, ⟨some 21, .load 1 false (.t 20), some (19, true)⟩, ⟨some 22, .call 166 [.t 21, .v (.int .i64 0), .v (.int .i64 5)], some (19, true)⟩, ⟨some 23, .pick (.t 19) (.t 22) (.v (.bool false)), none⟩, ⟨some 24, .mv (.t 23), none⟩, ⟨some 25, .load 5 true (.t 1), some (24, true)⟩, ⟨some 26, .fad 3 (.t 1), some (24, true)⟩, ⟨some 27, .load 1 false (.t 26), some (24, true)⟩, ⟨some 28, .call 212 [.t 25, .t 27], some (24, true)⟩, ⟨some 29, .pick (.t 24) (.t 28) (.v (.bool false)), none⟩, ⟨some 30, .mv (.t 29), none⟩, ⟨some 31, .load 5 true (.t 1), some (30, true)⟩, ⟨some 32, .fad 4 (.t 1), some (30, true)⟩, ⟨some 33, .load 1 false (.t 32), some (30, true)⟩, ⟨some 34, .call 212 [.t 31, .t 33], some (30, true)⟩, ⟨some 35, .pick (.t 30) (.t 34) (.v (.bool false)), none⟩, ⟨some 2, .mv (.t 35), none⟩])
 .ret))
noncomputable def X.s_mGood (p0 : TMap) : Option Bool :=
  ((X.s_l1In p0.Width 1 10).bind fun v1 => (bif v1 then ((X.s_l1In p0.Height 1 10).bind fun v4 => (bif v4 then ((X.s_mSize p0).bind fun v7 => (bif ((p0.Terrain.length : Int) == v7) then ((X.s_l1All p0.Terrain 0 5).bind fun v10 => (bif v10 then ((X.s_mEdges p0 p0.Rivers).bind fun v13 => (bif v13 then ((X.s_mEdges p0 p0.Roads).bind fun v16 => some v16) else some false)) else some false)) else some false)) else some false)) else some false))
theorem s_mGood_ok (p0 : TMap) (r : Bool) (H : X.s_mGood p0 = some r) : FnOk Tryz.prog gl 189 [.agg (eTMap p0)] (cB r) := by
  unfold X.s_mGood at H
  refine fn_in (fn := Tryz.f189) (ir := s_mGood_ir) (s1 := lit [(2, cB r)] []) glL Tryz.func189 (by kernel_rfl) (by kernel_rfl) (by kernel_rfl) (by kernel_rfl) (by kernel_rfl) ?_
  refine seq_ops [] [] [(1, .c (.pk 1 0))] [(1, .var (eTMap p0) false)] (fun t => t) (by kernel_rfl) ?_
  obtain ⟨v1, h2, H⟩ := ofBind H
  rcases ofCond H with ⟨c3, H⟩ | ⟨c3, H⟩
  · obtain ⟨v4, h5, H⟩ := ofBind H
    rcases ofCond H with ⟨c6, H⟩ | ⟨c6, H⟩
    · obtain ⟨v7, h8, H⟩ := ofBind H
      rcases ofCond H with ⟨c9, H⟩ | ⟨c9, H⟩
      · obtain ⟨v10, h11, H⟩ := ofBind H
        rcases ofCond H with ⟨c12, H⟩ | ⟨c12, H⟩
        · obtain ⟨v13, h14, H⟩ := ofBind H
          rcases ofCond H with ⟨c15, H⟩ | ⟨c15, H⟩
          · obtain ⟨v16, h17, H⟩ := ofBind H
            refine seq_draw [.res (cB v1), .g true, .g true, .g true, .res (cB v4), .g true, .g true, .g true, .g true, .g true, .g true, .res (cI v7), .g true, .g true, .g true, .g true, .g true, .res (cB v10), .g true, .g true, .g true, .g true, .g true, .res (cB v13), .g true, .g true, .g true, .g true, .g true, .res (cB v16), .g true] [] [(2, cB v16)] [] (fun t => aI (s_l1In_ok p0.Width 1 10 v1 h2) (aI trivial (aI (rfl : ([] : List Nat) = []) (aI c3 (aI c3 (aI c3 (aI (s_l1In_ok p0.Height 1 10 v4 h5) (aI trivial (aI (rfl : ([] : List Nat) = []) (aI c3 (aI c6 (aI c6 (aI c6 (aI c6 (aI c6 (aI (s_mSize_ok p0 v7 h8) (aI trivial (aI (rfl : ([] : List Nat) = []) (aI c6 (aI c6 (aI c9 (aI c9 (aI c9 (aI (s_l1All_ok p0.Terrain 0 5 v10 h11) (aI trivial (aI (rfl : ([] : List Nat) = []) (aI c9 (aI c12 (aI c12 (aI c12 (aI c12 (aI (s_mEdges_ok p0 p0.Rivers v13 h14) (aI trivial (aI (rfl : ([] : List Nat) = []) (aI c12 (aI c15 (aI c15 (aI c15 (aI c15 (aI (s_mEdges_ok p0 p0.Roads v16 h17) (aI trivial (aI (rfl : ([] : List Nat) = []) (aI c15 (t)))))))))))))))))))))))))))))))))))))))))))) (by kernel_rfl) ?_
            refine ends_ret ?_
            obtain rfl := Option.some.inj H
            exact And.intro (.inl rfl) rfl
          · refine seq_draw [.res (cB v1), .g true, .g true, .g true, .res (cB v4), .g true, .g true, .g true, .g true, .g true, .g true, .res (cI v7), .g true, .g true, .g true, .g true, .g true, .res (cB v10), .g true, .g true, .g true, .g true, .g true, .res (cB v13), .g true, .g false, .g false, .g false, .g false, .g false] [] [(2, cB false)] [] (fun t => aI (s_l1In_ok p0.Width 1 10 v1 h2) (aI trivial (aI (rfl : ([] : List Nat) = []) (aI c3 (aI c3 (aI c3 (aI (s_l1In_ok p0.Height 1 10 v4 h5) (aI trivial (aI (rfl : ([] : List Nat) = []) (aI c3 (aI c6 (aI c6 (aI c6 (aI c6 (aI c6 (aI (s_mSize_ok p0 v7 h8) (aI trivial (aI (rfl : ([] : List Nat) = []) (aI c6 (aI c6 (aI c9 (aI c9 (aI c9 (aI (s_l1All_ok p0.Terrain 0 5 v10 h11) (aI trivial (aI (rfl : ([] : List Nat) = []) (aI c9 (aI c12 (aI c12 (aI c12 (aI c12 (aI (s_mEdges_ok p0 p0.Rivers v13 h14) (aI trivial (aI (rfl : ([] : List Nat) = []) (aI c12 (aI c15 (aI c15 (aI c15 (aI c15 (aI c15 (t))))))))))))))))))))))))))))))))))))))))) (by kernel_rfl) ?_
            refine ends_ret ?_
            obtain rfl := Option.some.inj H
            exact And.intro (.inl rfl) rfl
        · refine seq_draw [.res (cB v1), .g true, .g true, .g true, .res (cB v4), .g true, .g true, .g true, .g true, .g true, .g true, .res (cI v7), .g true, .g true, .g true, .g true, .g true, .res (cB v10), .g true, .g false, .g false, .g false, .g false, .g false, .g false, .g false, .g false, .g false, .g false] [] [(2, cB false)] [] (fun t => aI (s_l1In_ok p0.Width 1 10 v1 h2) (aI trivial (aI (rfl : ([] : List Nat) = []) (aI c3 (aI c3 (aI c3 (aI (s_l1In_ok p0.Height 1 10 v4 h5) (aI trivial (aI (rfl : ([] : List Nat) = []) (aI c3 (aI c6 (aI c6 (aI c6 (aI c6 (aI c6 (aI (s_mSize_ok p0 v7 h8) (aI trivial (aI (rfl : ([] : List Nat) = []) (aI c6 (aI c6 (aI c9 (aI c9 (aI c9 (aI (s_l1All_ok p0.Terrain 0 5 v10 h11) (aI trivial (aI (rfl : ([] : List Nat) = []) (aI c9 (aI c12 (aI c12 (aI c12 (aI c12 (aI c12 (aI (rfl : (false : Bool) = false) (aI (rfl : (false : Bool) = false) (aI (rfl : (false : Bool) = false) (aI (rfl : (false : Bool) = false) (aI (rfl : (false : Bool) = false) (t)))))))))))))))))))))))))))))))))))))) (by kernel_rfl) ?_
          refine ends_ret ?_
          obtain rfl := Option.some.inj H
          exact And.intro (.inl rfl) rfl
      · refine seq_draw [.res (cB v1), .g true, .g true, .g true, .res (cB v4), .g true, .g true, .g true, .g true, .g true, .g true, .res (cI v7), .g true, .g true, .g false, .g false, .g false, .g false, .g false, .g false, .g false, .g false, .g false, .g false, .g false, .g false, .g false, .g false] [] [(2, cB false)] [] (fun t => aI (s_l1In_ok p0.Width 1 10 v1 h2) (aI trivial (aI (rfl : ([] : List Nat) = []) (aI c3 (aI c3 (aI c3 (aI (s_l1In_ok p0.Height 1 10 v4 h5) (aI trivial (aI (rfl : ([] : List Nat) = []) (aI c3 (aI c6 (aI c6 (aI c6 (aI c6 (aI c6 (aI (s_mSize_ok p0 v7 h8) (aI trivial (aI (rfl : ([] : List Nat) = []) (aI c6 (aI c6 (aI c9 (aI c9 (aI c9 (aI c9 (aI (rfl : (false : Bool) = false) (aI (rfl : (false : Bool) = false) (aI (rfl : (false : Bool) = false) (aI (rfl : (false : Bool) = false) (aI (rfl : (false : Bool) = false) (aI (rfl : (false : Bool) = false) (aI (rfl : (false : Bool) = false) (aI (rfl : (false : Bool) = false) (aI (rfl : (false : Bool) = false) (aI (rfl : (false : Bool) = false) (t))))))))))))))))))))))))))))))))))) (by kernel_rfl) ?_
        refine ends_ret ?_
        obtain rfl := Option.some.inj H
        exact And.intro (.inl rfl) rfl
    · refine seq_draw [.res (cB v1), .g true, .g true, .g true, .res (cB v4), .g true, .g false, .g false, .g false, .g false, .g false, .g false, .g false, .g false, .g false, .g false, .g false, .g false, .g false, .g false, .g false, .g false, .g false, .g false, .g false, .g false, .g false] [] [(2, cB false)] [] (fun t => aI (s_l1In_ok p0.Width 1 10 v1 h2) (aI trivial (aI (rfl : ([] : List Nat) = []) (aI c3 (aI c3 (aI c3 (aI (s_l1In_ok p0.Height 1 10 v4 h5) (aI trivial (aI (rfl : ([] : List Nat) = []) (aI c3 (aI c6 (aI c6 (aI c6 (aI c6 (aI c6 (aI c6 (aI c6 (aI (rfl : (false : Bool) = false) (aI (rfl : (false : Bool) = false) (aI (rfl : (false : Bool) = false) (aI (rfl : (false : Bool) = false) (aI (rfl : (false : Bool) = false) (aI (rfl : (false : Bool) = false) (aI (rfl : (false : Bool) = false) (aI (rfl : (false : Bool) = false) (aI (rfl : (false : Bool) = false) (aI (rfl : (false : Bool) = false) (aI (rfl : (false : Bool) = false) (aI (rfl : (false : Bool) = false) (aI (rfl : (false : Bool) = false) (aI (rfl : (false : Bool) = false) (t)))))))))))))))))))))))))))))))) (by kernel_rfl) ?_
      refine ends_ret ?_
      obtain rfl := Option.some.inj H
      exact And.intro (.inl rfl) rfl
  · refine seq_draw [.res (cB v1), .g false, .g false, .g false, .g false, .g false, .g false, .g false, .g false, .g false, .g false, .g false, .g false, .g false, .g false, .g false, .g false, .g false, .g false, .g false, .g false, .g false, .g false, .g false, .g false, .g false] [] [(2, cB false)] [] (fun t => aI (s_l1In_ok p0.Width 1 10 v1 h2) (aI trivial (aI (rfl : ([] : List Nat) = []) (aI c3 (aI c3 (aI c3 (aI c3 (aI (rfl : (false : Bool) = false) (aI (rfl : (false : Bool) = false) (aI (rfl : (false : Bool) = false) (aI (rfl : (false : Bool) = false) (aI (rfl : (false : Bool) = false) (aI (rfl : (false : Bool) = false) (aI (rfl : (false : Bool) = false) (aI (rfl : (false : Bool) = false) (aI (rfl : (false : Bool) = false) (aI (rfl : (false : Bool) = false) (aI (rfl : (false : Bool) = false) (aI (rfl : (false : Bool) = false) (aI (rfl : (false : Bool) = false) (aI (rfl : (false : Bool) = false) (aI (rfl : (false : Bool) = false) (aI (rfl : (false : Bool) = false) (aI (rfl : (false : Bool) = false) (aI (rfl : (false : Bool) = false) (aI (rfl : (false : Bool) = false) (aI (rfl : (false : Bool) = false) (aI (rfl : (false : Bool) = false) (t))))))))))))))))))))))))))))) (by kernel_rfl) ?_
    refine ends_ret ?_
    obtain rfl := Option.some.inj H
    exact And.intro (.inl rfl) rfl

def s_bGood_ir : S :=
 (.seq (.ops [⟨some 1, .box 12 (.t 0), none⟩, ⟨some 2, .mv (.v (.bool false)), none⟩])
 (.seq (.ops [⟨some 3, .fad 0 (.t 1), none⟩, ⟨some 4, .load 7 true (.t 3), none⟩, ⟨some 5, .call 188 [.t 4], none⟩, ⟨some 6, .mv (.t 5), none⟩, ⟨some 7, .fad 7 (.t 1), some (6, true)⟩, ⟨some 8, .load 5 true (.t 7), some (6, true)⟩, ⟨some 9, .call 189 [.t 8], some (6, true)⟩, ⟨some 10, .pick (.t 6) (.t 9) (.v (.bool false)), none⟩, ⟨some 11, .mv (.t 10), none⟩, ⟨some 12, .fad 7 (.t 1), some (11, true)⟩, ⟨some 13, .fad 2 (.t 12), some (11, true)⟩, ⟨some 14, .load 1 false (.t 13), some (11, true)⟩, ⟨some 15, .fad 0 (.t 1), some (11, true)⟩, ⟨some 16, .fad 0 (.t 15), some (11, true)⟩, ⟨some 17, .load 1 false (.t 16), some (11, true)⟩, ⟨some 18, .len (.t 17), some (11, true)⟩, ⟨some 19, .bin .sub (.t 18) (.v (.int .i64 1)), some (11, true)⟩, ⟨some 20, .call 166 [.t 14, .v (.int .i64 0), .t 19], some (11, true)⟩, ⟨some 21, .pick (.t 11) (.t 20) (.v (.bool false)), none⟩, ⟨some 2, .mv (.t 21), none⟩])
 .ret))
noncomputable def X.s_bGood (p0 : TBoard) : Option Bool :=
  ((X.s_rGood p0.Rules).bind fun v1 => (bif v1 then ((X.s_mGood p0.Map).bind fun v4 => (bif v4 then ((X.s_l1All p0.Map.Terrain 0 (W ((p0.Rules.Terrains.length : Int) - 1))).bind fun v7 => some v7) else some false)) else some false))
theorem s_bGood_ok (p0 : TBoard) (r : Bool) (H : X.s_bGood p0 = some r) : FnOk Tryz.prog gl 140 [.agg (eTBoard p0)] (cB r) := by
  unfold X.s_bGood at H
  refine fn_in (fn := Tryz.f140) (ir := s_bGood_ir) (s1 := lit [(2, cB r)] []) glL Tryz.func140 (by kernel_rfl) (by kernel_rfl) (by kernel_rfl) (by kernel_rfl) (by kernel_rfl) ?_
  refine seq_ops [] [] [(1, .c (.pk 1 0))] [(1, .var (eTBoard p0) false)] (fun t => t) (by kernel_rfl) ?_
  obtain ⟨v1, h2, H⟩ := ofBind H
  rcases ofCond H with ⟨c3, H⟩ | ⟨c3, H⟩
  · obtain ⟨v4, h5, H⟩ := ofBind H
    rcases ofCond H with ⟨c6, H⟩ | ⟨c6, H⟩
    · obtain ⟨v7, h8, H⟩ := ofBind H
      refine seq_ops [.res (cB v1), .g true, .g true, .g true, .res (cB v4), .g true, .g true, .g true, .g true, .g true, .g true, .g true, .g true, .g true, .g true, .res (cB v7), .g true] [] [(2, cB v7)] [] (fun t => aI (s_rGood_ok p0.Rules v1 h2) (aI c3 (aI c3 (aI c3 (aI (s_mGood_ok p0.Map v4 h5) (aI c3 (aI c6 (aI c6 (aI c6 (aI c6 (aI c6 (aI c6 (aI c6 (lI p0.Rules.Terrains (aI c6 (aI c6 (aI (s_l1All_ok p0.Map.Terrain 0 (W ((p0.Rules.Terrains.length : Int) - 1)) v7 h8) (aI c6 (t))))))))))))))))))) (by kernel_rfl) ?_
      refine ends_ret ?_
      obtain rfl := Option.some.inj H
      exact And.intro (.inl rfl) rfl
    · refine seq_ops [.res (cB v1), .g true, .g true, .g true, .res (cB v4), .g true, .g false, .g false, .g false, .g false, .g false, .g false, .g false, .g false, .g false, .g false] [] [(2, cB false)] [] (fun t => aI (s_rGood_ok p0.Rules v1 h2) (aI c3 (aI c3 (aI c3 (aI (s_mGood_ok p0.Map v4 h5) (aI c3 (aI c6 (aI c6 (aI c6 (aI c6 (aI c6 (aI c6 (aI c6 (aI c6 (aI c6 (aI c6 (t))))))))))))))))) (by kernel_rfl) ?_
      refine ends_ret ?_
      obtain rfl := Option.some.inj H
      exact And.intro (.inl rfl) rfl
  · refine seq_ops [.res (cB v1), .g false, .g false, .g false, .g false, .g false, .g false, .g false, .g false, .g false, .g false, .g false, .g false, .g false, .g false] [] [(2, cB false)] [] (fun t => aI (s_rGood_ok p0.Rules v1 h2) (aI c3 (aI c3 (aI c3 (aI c3 (aI (rfl : (false : Bool) = false) (aI (rfl : (false : Bool) = false) (aI (rfl : (false : Bool) = false) (aI (rfl : (false : Bool) = false) (aI (rfl : (false : Bool) = false) (aI (rfl : (false : Bool) = false) (aI (rfl : (false : Bool) = false) (aI (rfl : (false : Bool) = false) (aI (rfl : (false : Bool) = false) (aI (rfl : (false : Bool) = false) (t)))))))))))))))) (by kernel_rfl) ?_
    refine ends_ret ?_
    obtain rfl := Option.some.inj H
    exact And.intro (.inl rfl) rfl

def s_l1Has_ir : S :=
 (.seq (.ops [⟨some 4, .mv (.v (.bool false)), none⟩])
 (.seq (.seq (.ops [⟨some 7, .mv (.t 0), none⟩, ⟨some 8, .len (.t 7), none⟩, ⟨some 9, .mv (.v (.int .i64 0)), none⟩])
 (.blk 0 (.loop (.seq (.ops [⟨some 10, .bin .lss (.t 9) (.t 8), none⟩])
   (.seq (.ite (.t 10) .skip
   (.exit 0))
   (.seq (.blk 1 (.seq (.ops [⟨some 11, .iad 1 (.t 7) (.t 9), none⟩, ⟨some 12, .load 1 false (.t 11), none⟩, ⟨some 6, .mv (.t 12), none⟩])
    (.seq (.ops [⟨some 13, .mv (.t 6), none⟩, ⟨some 14, .mv (.t 1), none⟩, ⟨some 15, .bin .eql (.t 13) (.t 14), none⟩])
    (.ite (.t 15) (.seq (.ops [⟨some 4, .mv (.v (.bool true)), none⟩])
     .ret)
    .skip))))
   (.ops [⟨some 16, .bin .add (.t 9) (.v (.int .i64 1)), none⟩, ⟨some 9, .mv (.t 16), none⟩])))))))
 (.seq (.ops [⟨some 4, .mv (.v (.bool false)), none⟩])
 .ret)))
noncomputable def X.s_l1Has (p0 : (List Int)) (p1 : Int) : Option Bool :=
  ((loop (fun (x12 : Int) => ((bif (decide (x12 < (p0.length : Int))) then ((at' zI p0 x12).bind fun v15 => (bif (v15 == p1) then some (Sum.inr (Sum.inr true)) else some (Sum.inl (W (x12 + 1))))) else some (Sum.inr (Sum.inl ()))) : Option (Int ⊕ (Unit ⊕ Bool)))) 0).bind fun y18 => (Sum.elim (fun (y20 : Unit) => some false) (fun (y21 : Bool) => some y21) y18))
theorem s_l1Has_ok (p0 : (List Int)) (p1 : Int) (r : Bool) (H : X.s_l1Has p0 p1 = some r) : FnOk Tryz.prog gl 106 [.c (dat 1 eI zI p0), cI p1] (cB r) := by
  unfold X.s_l1Has at H
  refine fn_in (fn := Tryz.f106) (ir := s_l1Has_ir) (s1 := lit [(4, cB r)] []) glL Tryz.func106 (by kernel_rfl) (by kernel_rfl) (by kernel_rfl) (by kernel_rfl) (by kernel_rfl) ?_
  refine seq_ops [] [] [(0, .c (dat 1 eI zI p0)), (1, cI p1)] [] (fun t => t) (by kernel_rfl) ?_
  refine seq_in ?_
  refine seq_ops [] [] [(1, cI p1), (7, .c (dat 1 eI zI p0)), (8, cI (p0.length : Int)), (9, cI 0)] [] (fun t => lI p0 (t)) (by kernel_rfl) ?_
  refine ends_blk ?_
  obtain ⟨y18, h19, H⟩ := ofBind H
  refine loop_in (fun (x : Int) => lit [(1, cI p1), (7, .c (dat 1 eI zI p0)), (8, cI (p0.length : Int)), (9, cI x)] []) (orJ (fun (z : Unit) => At (.exit 0) (lit [] [])) (fun (z : Bool) => At .ret (lit [(4, cB z)] []))) h19 ?_ ?_
  · clear H h19
    intro x12 y0 H
    refine seq_ops [] [] [(1, cI p1), (7, .c (dat 1 eI zI p0)), (8, cI (p0.length : Int)), (9, cI x12), (10, cB (decide (x12 < (p0.length : Int))))] [] (fun t => t) (by kernel_rfl) ?_
    refine seq_in ?_
    rcases ofCond H with ⟨c14, H⟩ | ⟨c14, H⟩
    · refine ite_t c14 (by kernel_rfl) ?_
      refine ends_skip ?_
      change EndsI _ _ _ _ _ _
      refine seq_in ?_
      refine ends_blk ?_
      obtain ⟨v15, h16, H⟩ := ofBind H
      refine seq_ops [.cs (eI v15)] [] [(1, cI p1), (6, cI v15), (7, .c (dat 1 eI zI p0)), (8, cI (p0.length : Int)), (9, cI x12)] [] (fun t => aI (at_lt h16) (aI (at_enc (enc := eI) h16) (t))) (by kernel_rfl) ?_
      refine seq_ops [] [] [(1, cI p1), (7, .c (dat 1 eI zI p0)), (8, cI (p0.length : Int)), (9, cI x12), (15, cB (v15 == p1))] [] (fun t => t) (by kernel_rfl) ?_
      rcases ofCond H with ⟨c17, H⟩ | ⟨c17, H⟩
      · refine ite_t c17 (by kernel_rfl) ?_
        refine seq_ops [] [] [(4, cB true)] [] (fun t => t) (by kernel_rfl) ?_
        refine ends_ret ?_
        obtain rfl := Option.some.inj H
        exact And.intro (by simp) (And.intro rfl rfl)
      · refine ite_f c17 (by kernel_rfl) ?_
        refine ends_skip ?_
        change EndsI _ _ _ _ _ _
        refine one_ops [] [] [(1, cI p1), (7, .c (dat 1 eI zI p0)), (8, cI (p0.length : Int)), (9, cI (W (x12 + 1)))] [] (fun t => t) (by kernel_rfl) ?_
        obtain rfl := Option.some.inj H
        exact And.intro rfl rfl
    · refine ite_f c14 (by kernel_rfl) ?_
      refine tell [] [] [] (fun t => t) (by kernel_rfl) ?_
      refine ends_exit ?_
      obtain rfl := Option.some.inj H
      exact And.intro (by simp) (And.intro rfl rfl)
  · clear h19
    cases y18 with
    | inl y20 =>
      replace H := ofInl H
      intro e s q
      obtain ⟨rfl, rfl⟩ := q
      change EndsI _ _ _ _ _ _
      refine seq_ops [] [] [(4, cB false)] [] (fun t => t) (by kernel_rfl) ?_
      refine ends_ret ?_
      obtain rfl := Option.some.inj H
      exact And.intro (.inl rfl) rfl
    | inr y21 =>
      replace H := ofInr H
      intro e s q
      obtain ⟨rfl, rfl⟩ := q
      obtain rfl := Option.some.inj H
      exact And.intro (.inl rfl) rfl

def s_bTerrain_ir : S :=
 (.seq (.ops [⟨some 2, .box 12 (.t 0), none⟩, ⟨some 4, .alloc [.str [], .nil, .int .i64 0, .int .i64 0, .bool false], none⟩])
 (.seq (.draw 11 [⟨some 5, .fad 0 (.t 2), none⟩, ⟨some 6, .fad 0 (.t 5), none⟩, ⟨some 7, .load 1 false (.t 6), none⟩, ⟨some 8, .fad 7 (.t 2), none⟩, ⟨some 9, .fad 2 (.t 8), none⟩, ⟨some 10, .load 1 false (.t 9), none⟩, ⟨some 11, .mv (.t 1), none⟩, ⟨some 12, .iad 1 (.t 10) (.t 11), none⟩, ⟨some 13, .load 1 false (.t 12), none⟩, ⟨some 14, .iad 5 (.t 7) (.t 13), none⟩, ⟨some 15, .load 5 true (.t 14), none⟩, ⟨none, .store 5 (.t 4) (.t 15), none⟩])
 .ret))
noncomputable def X.s_bTerrain (p0 : TBoard) (p1 : Int) : Option TTerrain :=
  ((at' zI p0.Map.Terrain p1).bind fun v1 => ((at' zTTerrain p0.Rules.Terrains v1).bind fun v3 => some v3))
theorem s_bTerrain_ok (p0 : TBoard) (p1 : Int) (r : TTerrain) (H : X.s_bTerrain p0 p1 = some r) : FnOk Tryz.prog gl 197 [.agg (eTBoard p0), cI p1] (.agg (eTTerrain r)) := by
  unfold X.s_bTerrain at H
  refine fn_in (fn := Tryz.f197) (ir := s_bTerrain_ir) (s1 := lit [(4, .c (.pk 4 0))] [(4, .var (eTTerrain r) false)]) glL Tryz.func197 (by kernel_rfl) (by kernel_rfl) (by kernel_rfl) (by kernel_rfl) (by kernel_rfl) ?_
  refine seq_ops [] [] [(1, cI p1), (2, .c (.pk 2 0)), (4, .c (.pk 4 0))] [(2, .var (eTBoard p0) false), (4, .var [.str [], .nil, .int .i64 0, .int .i64 0, .bool false] false)] (fun t => t) (by kernel_rfl) ?_
  obtain ⟨v1, h2, H⟩ := ofBind H
  obtain ⟨v3, h4, H⟩ := ofBind H
  refine seq_draw [.cs (eI v1), .cs (eTTerrain v3)] [] [(4, .c (.pk 4 0))] [(4, .var (eTTerrain v3) false)] (fun t => aI (at_lt h2) (aI (at_enc (enc := eI) h2) (aI (rfl : ([] : List Nat) = []) (aI (at_lt h4) (aI (at_enc (enc := eTTerrain) h4) (aI (rfl : ([] : List Nat) = []) (t))))))) (by kernel_rfl) ?_
  refine ends_ret ?_
  obtain rfl := Option.some.inj H
  exact And.intro (.inl rfl) rfl

def s_bCost_ir : S :=
 (.seq (.ops [⟨some 3, .box 12 (.t 0), none⟩, ⟨some 6, .mv (.v (.int .i64 0)), none⟩])
 (.seq (.ops [⟨some 7, .load 12 true (.t 3), none⟩, ⟨some 8, .mv (.t 2), none⟩, ⟨some 9, .call 197 [.t 7, .t 8], none⟩, ⟨some 10, .fld 1 1 false (.t 9), none⟩, ⟨some 11, .mv (.t 1), none⟩, ⟨some 12, .iad 1 (.t 10) (.t 11), none⟩, ⟨some 13, .load 1 false (.t 12), none⟩, ⟨some 6, .mv (.t 13), none⟩])
 .ret))
noncomputable def X.s_bCost (p0 : TBoard) (p1 : Int) (p2 : Int) : Option Int :=
  ((X.s_bTerrain p0 p2).bind fun v1 => ((at' zI v1.Cost p1).bind fun v3 => some v3))
theorem s_bCost_ok (p0 : TBoard) (p1 : Int) (p2 : Int) (r : Int) (H : X.s_bCost p0 p1 p2 = some r) : FnOk Tryz.prog gl 153 [.agg (eTBoard p0), cI p1, cI p2] (cI r) := by
  unfold X.s_bCost at H
  refine fn_in (fn := Tryz.f153) (ir := s_bCost_ir) (s1 := lit [(6, cI r)] []) glL Tryz.func153 (by kernel_rfl) (by kernel_rfl) (by kernel_rfl) (by kernel_rfl) (by kernel_rfl) ?_
  refine seq_ops [] [] [(1, cI p1), (2, cI p2), (3, .c (.pk 3 0))] [(3, .var (eTBoard p0) false)] (fun t => t) (by kernel_rfl) ?_
  obtain ⟨v1, h2, H⟩ := ofBind H
  obtain ⟨v3, h4, H⟩ := ofBind H
  refine seq_ops [.res (.agg (eTTerrain v1)), .cs (eI v3)] [] [(6, cI v3)] [] (fun t => aI (s_bTerrain_ok p0 p2 v1 h2) (aI (at_lt h4) (aI (at_enc (enc := eI) h4) (t)))) (by kernel_rfl) ?_
  refine ends_ret ?_
  obtain rfl := Option.some.inj H
  exact And.intro (.inl rfl) rfl

def s_sUnit_ir : S :=
 (.seq (.ops [⟨some 2, .box 12 (.t 0), none⟩, ⟨some 3, .box 4 (.t 1), none⟩, ⟨some 4, .mv (.v (.bool false)), none⟩])
 (.seq (.seq (.draw 29 [⟨some 5, .fad 0 (.t 3), none⟩, ⟨some 6, .load 1 false (.t 5), none⟩, ⟨some 7, .call 124 [.t 6, .v (.int .i64 0), .v (.int .i64 1)], none⟩, ⟨some 8, .not (.t 7), none⟩, ⟨some 9, .mv (.t 8), none⟩, ⟨some 10, .fad 1 (.t 3), some (9, false)⟩, ⟨some 11, .load 1 false (.t 10), some (9, false)⟩, ⟨some 12, .fad 0 (.t 2), some (9, false)⟩, ⟨some 13, .fad 1 (.t 12), some (9, false)⟩, ⟨some 14, .load 1 false (.t 13), some (9, false)⟩, ⟨some 15, .len (.t 14), some (9, false)⟩, ⟨some 16, .bin .sub (.t 15) (.v (.int .i64 1)), some (9, false)⟩, ⟨some 17, .call 124 [.t 11, .v (.int .i64 0), .t 16], some (9, false)⟩, ⟨some 18, .not (.t 17), some (9, false)⟩, ⟨some 19, .pick (.t 9) (.v (.bool true)) (.t 18), none⟩, ⟨some 20, .mv (.t 19), none⟩, ⟨some 21, .fad 3 (.t 3), some (20, false)⟩, ⟨some 22, .load 1 false (.t 21), some (20, false)⟩, ⟨some 23, .fad 0 (.t 2), some (20, false)⟩, ⟨some 24, .fad 1 (.t 23), some (20, false)⟩, ⟨some 25, .load 1 false (.t 24), some (20, false)⟩, ⟨some 26, .fad 1 (.t 3), some (20, false)⟩, ⟨some 27, .load 1 false (.t 26), some (20, false)⟩, ⟨some 28, .iad 6 (.t 25) (.t 27), some (20, false)⟩, ⟨some 29, .fad 3 (.t 28), some (20, false)⟩, ⟨some 30, .load 1 false (.t 29), some (20, false)⟩, ⟨some 31, .call 124 [.t 22, .v (.int .i64 0), .t 30], some (20, false)⟩, ⟨some 32, .not (.t 31), some (20, false)⟩, ⟨some 33, .pick (.t 20) (.v (.bool true)) (.t 32), none⟩])
 (.ite (.t 33) (.seq (.ops [⟨some 4, .mv (.v (.bool false)), none⟩])
  .ret)
 .skip))
 (.seq (.draw 27 [⟨some 34, .fad 2 (.t 3), none⟩, ⟨some 35, .load 1 false (.t 34), none⟩, ⟨some 36, .bin .eql (.t 35) (.v (.int .i64 (-1))), none⟩, ⟨some 37, .mv (.t 36), none⟩, ⟨some 38, .fad 3 (.t 3), some (37, false)⟩, ⟨some 39, .load 1 false (.t 38), some (37, false)⟩, ⟨some 40, .bin .gtr (.t 39) (.v (.int .i64 0)), some (37, false)⟩, ⟨some 41, .mv (.t 40), some (37, false)⟩, ⟨some 42, .fad 2 (.t 3), some (41, true)⟩, ⟨some 43, .load 1 false (.t 42), some (41, true)⟩, ⟨some 44, .fad 7 (.t 2), some (41, true)⟩, ⟨some 45, .load 5 true (.t 44), some (41, true)⟩, ⟨some 46, .call 142 [.t 45], some (41, true)⟩, ⟨some 47, .bin .sub (.t 46) (.v (.int .i64 1)), some (41, true)⟩, ⟨some 48, .call 124 [.t 43, .v (.int .i64 0), .t 47], some (41, true)⟩, ⟨some 49, .pick (.t 41) (.t 48) (.v (.bool false)), some (37, false)⟩, ⟨some 50, .mv (.t 49), some (37, false)⟩, ⟨some 51, .load 12 true (.t 2), some (50, true)⟩, ⟨some 52, .fad 1 (.t 3), some (50, true)⟩, ⟨some 53, .load 1 false (.t 52), some (50, true)⟩, ⟨some 54, .fad 2 (.t 3), some (50, true)⟩, ⟨some 55, .load 1 false (.t 54), some (50, true)⟩, ⟨some 56, .call 153 [.t 51, .t 53, .t 55], some (50, true)⟩, ⟨some 57, .bin .gtr (.t 56) (.v (.int .i64 0)), some (50, true)⟩, ⟨some 58, .pick (.t 50) (.t 57) (.v (.bool false)), some (37, false)⟩, ⟨some 59, .pick (.t 37) (.v (.bool true)) (.t 58), none⟩, ⟨some 4, .mv (.t 59), none⟩])
 .ret)))
noncomputable def X.s_sUnit (p0 : TBoard) (p1 : TUnit) : Option Bool :=
  ((X.s_l1In p1.Side 0 1).bind fun v12 => (bif (!v12) then some false else ((X.s_l1In p1.Kind 0 (W ((p0.Rules.Kinds.length : Int) - 1))).bind fun v15 => (bif (!v15) then some false else ((at' zTKind p0.Rules.Kinds p1.Kind).bind fun v18 => ((X.s_l1In p1.Steps 0 v18.Steps).bind fun v20 => (bif (!v20) then some false else (bif (p1.At == (-1)) then some true else (bif (decide (p1.Steps > 0)) then ((X.s_mSize p0.Map).bind fun v25 => ((X.s_l1In p1.At 0 (W (v25 - 1))).bind fun v27 => (bif v27 then ((X.s_bCost p0 p1.Kind p1.At).bind fun v30 => some (decide (v30 > 0))) else some false))) else some false)))))))))
theorem s_sUnit_ok (p0 : TBoard) (p1 : TUnit) (r : Bool) (H : X.s_sUnit p0 p1 = some r) : FnOk Tryz.prog gl 177 [.agg (eTBoard p0), .agg (eTUnit p1)] (cB r) := by
  unfold X.s_sUnit at H
  refine fn_in (fn := Tryz.f177) (ir := s_sUnit_ir) (s1 := lit [(4, cB r)] []) glL Tryz.func177 (by kernel_rfl) (by kernel_rfl) (by kernel_rfl) (by kernel_rfl) (by kernel_rfl) ?_
  refine seq_ops [] [] [(2, .c (.pk 2 0)), (3, .c (.pk 3 0))] [(2, .var (eTBoard p0) false), (3, .var (eTUnit p1) false)] (fun t => t) (by kernel_rfl) ?_
  refine seq_in ?_
  obtain ⟨v12, h13, H⟩ := ofBind H
  rcases ofCond H with ⟨c14, H⟩ | ⟨c14, H⟩
  · refine seq_draw [.res (cB v12), .g true, .g true, .g true, .g true, .g true, .g true, .g true, .g true, .g true, .g true, .g true, .g true, .g true, .g true, .g true, .g true, .g true, .g true, .g true, .g true, .g true, .g true, .g true] [] [(2, .c (.pk 2 0)), (3, .c (.pk 3 0)), (33, cB true)] [(2, .var (eTBoard p0) false), (3, .var (eTUnit p1) false)] (fun t => aI (s_l1In_ok p1.Side 0 1 v12 h13) (aI trivial (aI (rfl : ([] : List Nat) = []) (aI c14 (aI c14 (aI c14 (aI c14 (aI c14 (aI c14 (aI c14 (aI c14 (aI c14 (aI c14 (aI (rfl : (true : Bool) = true) (aI (rfl : (true : Bool) = true) (aI (rfl : (true : Bool) = true) (aI (rfl : (true : Bool) = true) (aI (rfl : (true : Bool) = true) (aI (rfl : (true : Bool) = true) (aI (rfl : (true : Bool) = true) (aI (rfl : (true : Bool) = true) (aI (rfl : (true : Bool) = true) (aI (rfl : (true : Bool) = true) (aI (rfl : (true : Bool) = true) (aI (rfl : (true : Bool) = true) (aI (rfl : (true : Bool) = true) (t))))))))))))))))))))))))))) (by kernel_rfl) ?_
    refine ite_t (rfl : (true : Bool) = true) (by kernel_rfl) ?_
    refine seq_ops [] [] [(4, cB false)] [] (fun t => t) (by kernel_rfl) ?_
    refine ends_ret ?_
    obtain rfl := Option.some.inj H
    exact And.intro (.inl rfl) rfl
  · obtain ⟨v15, h16, H⟩ := ofBind H
    rcases ofCond H with ⟨c17, H⟩ | ⟨c17, H⟩
    · refine seq_draw [.res (cB v12), .g false, .g false, .g false, .g false, .g false, .g false, .g false, .g false, .res (cB v15), .g false, .g false, .g true, .g true, .g true, .g true, .g true, .g true, .g true, .g true, .g true, .g true, .g true, .g true, .g true] [] [(2, .c (.pk 2 0)), (3, .c (.pk 3 0)), (33, cB true)] [(2, .var (eTBoard p0) false), (3, .var (eTUnit p1) false)] (fun t => aI (s_l1In_ok p1.Side 0 1 v12 h13) (aI trivial (aI (rfl : ([] : List Nat) = []) (aI c14 (aI c14 (aI c14 (aI c14 (aI c14 (aI c14 (aI c14 (aI c14 (aI (s_l1In_ok p1.Kind 0 (W ((p0.Rules.Kinds.length : Int) - 1)) v15 h16) (aI trivial (aI (rfl : ([] : List Nat) = []) (aI c14 (aI c14 (aI c17 (aI c17 (aI c17 (aI c17 (aI c17 (aI c17 (aI c17 (aI c17 (aI c17 (aI c17 (aI c17 (aI c17 (aI c17 (t)))))))))))))))))))))))))))))) (by kernel_rfl) ?_
      refine ite_t (rfl : (true : Bool) = true) (by kernel_rfl) ?_
      refine seq_ops [] [] [(4, cB false)] [] (fun t => t) (by kernel_rfl) ?_
      refine ends_ret ?_
      obtain rfl := Option.some.inj H
      exact And.intro (.inl rfl) rfl
    · obtain ⟨v18, h19, H⟩ := ofBind H
      obtain ⟨v20, h21, H⟩ := ofBind H
      refine seq_draw [.res (cB v12), .g false, .g false, .g false, .g false, .g false, .g false, .g false, .g false, .res (cB v15), .g false, .g false, .g false, .g false, .g false, .g false, .g false, .g false, .g false, .g false, .cs (eTKind v18), .g false, .g false, .g false, .res (cB v20), .g false, .g false] [] [(2, .c (.pk 2 0)), (3, .c (.pk 3 0)), (33, cB (!v20))] [(2, .var (eTBoard p0) false), (3, .var (eTUnit p1) false)] (fun t => aI (s_l1In_ok p1.Side 0 1 v12 h13) (aI trivial (aI (rfl : ([] : List Nat) = []) (aI c14 (aI c14 (aI c14 (aI c14 (aI c14 (aI c14 (aI c14 (aI c14 (aI (s_l1In_ok p1.Kind 0 (W ((p0.Rules.Kinds.length : Int) - 1)) v15 h16) (aI trivial (aI (rfl : ([] : List Nat) = []) (aI c14 (aI c14 (aI c17 (aI c17 (aI c17 (aI c17 (aI c17 (aI c17 (aI c17 (aI c17 (aI (at_lt h19) (aI (at_enc (enc := eTKind) h19) (aI c17 (aI c17 (aI (rfl : ([] : List Nat) = []) (aI c17 (aI (s_l1In_ok p1.Steps 0 v18.Steps v20 h21) (aI trivial (aI (rfl : ([] : List Nat) = []) (aI c17 (aI c17 (t)))))))))))))))))))))))))))))))))))) (by kernel_rfl) ?_
      rcases ofCond H with ⟨c22, H⟩ | ⟨c22, H⟩
      · refine ite_t c22 (by kernel_rfl) ?_
        refine seq_ops [] [] [(4, cB false)] [] (fun t => t) (by kernel_rfl) ?_
        refine ends_ret ?_
        obtain rfl := Option.some.inj H
        exact And.intro (.inl rfl) rfl
      · refine ite_f c22 (by kernel_rfl) ?_
        refine ends_skip ?_
        change EndsI _ _ _ _ _ _
        rcases ofCond H with ⟨c23, H⟩ | ⟨c23, H⟩
        · refine seq_draw [.g true, .g true, .g true, .g true, .g true, .g true, .g true, .g true] [] [(4, cB true)] [] (fun t => aI c23 (aI c23 (aI c23 (aI c23 (aI c23 (aI c23 (aI c23 (aI c23 (t))))))))) (by kernel_rfl) ?_
          refine ends_ret ?_
          obtain rfl := Option.some.inj H
          exact And.intro (.inl rfl) rfl
        · rcases ofCond H with ⟨c24, H⟩ | ⟨c24, H⟩
          · obtain ⟨v25, h26, H⟩ := ofBind H
            obtain ⟨v27, h28, H⟩ := ofBind H
            rcases ofCond H with ⟨c29, H⟩ | ⟨c29, H⟩
            · obtain ⟨v30, h31, H⟩ := ofBind H
              refine seq_draw [.g false, .g false, .g false, .g false, .g true, .g true, .g true, .g true, .g true, .res (cI v25), .g true, .g true, .res (cB v27), .g false, .g true, .g false, .g true, .g true, .g true, .g true, .g true, .g true, .res (cI v30), .g true, .g false, .g true, .g false] [] [(4, cB (decide (v30 > 0)))] [] (fun t => aI c23 (aI c23 (aI c23 (aI c23 (aI c24 (aI c24 (aI c24 (aI c24 (aI c24 (aI (s_mSize_ok p0.Map v25 h26) (aI trivial (aI (rfl : ([] : List Nat) = []) (aI c24 (aI c24 (aI (s_l1In_ok p1.At 0 (W (v25 - 1)) v27 h28) (aI trivial (aI (rfl : ([] : List Nat) = []) (aI c23 (aI c24 (aI c23 (aI c29 (aI c29 (aI c29 (aI c29 (aI c29 (aI c29 (aI (s_bCost_ok p0 p1.Kind p1.At v30 h31) (aI trivial (aI (rfl : ([] : List Nat) = []) (aI c29 (aI c23 (aI c29 (aI c23 (t)))))))))))))))))))))))))))))))))) (by kernel_rfl) ?_
              refine ends_ret ?_
              obtain rfl := Option.some.inj H
              exact And.intro (.inl rfl) rfl
            · refine seq_draw [.g false, .g false, .g false, .g false, .g true, .g true, .g true, .g true, .g true, .res (cI v25), .g true, .g true, .res (cB v27), .g false, .g true, .g false, .g false, .g false, .g false, .g false, .g false, .g false, .g false, .g false, .g false, .g false] [] [(4, cB false)] [] (fun t => aI c23 (aI c23 (aI c23 (aI c23 (aI c24 (aI c24 (aI c24 (aI c24 (aI c24 (aI (s_mSize_ok p0.Map v25 h26) (aI trivial (aI (rfl : ([] : List Nat) = []) (aI c24 (aI c24 (aI (s_l1In_ok p1.At 0 (W (v25 - 1)) v27 h28) (aI trivial (aI (rfl : ([] : List Nat) = []) (aI c23 (aI c24 (aI c23 (aI c29 (aI c29 (aI c29 (aI c29 (aI c29 (aI c29 (aI c29 (aI c23 (aI c29 (aI c23 (t))))))))))))))))))))))))))))))) (by kernel_rfl) ?_
              refine ends_ret ?_
              obtain rfl := Option.some.inj H
              exact And.intro (.inl rfl) rfl
          · refine seq_draw [.g false, .g false, .g false, .g false, .g false, .g false, .g false, .g false, .g false, .g false, .g false, .g false, .g false, .g false, .g false, .g false, .g false, .g false, .g false, .g false, .g false, .g false, .g false, .g false] [] [(4, cB false)] [] (fun t => aI c23 (aI c23 (aI c23 (aI c23 (aI c24 (aI c24 (aI c24 (aI c24 (aI c24 (aI c24 (aI c24 (aI c23 (aI c24 (aI c23 (aI (rfl : (false : Bool) = false) (aI (rfl : (false : Bool) = false) (aI (rfl : (false : Bool) = false) (aI (rfl : (false : Bool) = false) (aI (rfl : (false : Bool) = false) (aI (rfl : (false : Bool) = false) (aI (rfl : (false : Bool) = false) (aI c23 (aI (rfl : (false : Bool) = false) (aI c23 (t))))))))))))))))))))))))) (by kernel_rfl) ?_
            refine ends_ret ?_
            obtain rfl := Option.some.inj H
            exact And.intro (.inl rfl) rfl

def s_yUnits_ir : S :=
 (.seq (.ops [⟨some 3, .box 12 (.t 0), none⟩, ⟨some 6, .mv (.v (.bool false)), none⟩])
 (.seq (.seq (.ops [⟨some 9, .mv (.t 1), none⟩, ⟨some 10, .len (.t 9), none⟩, ⟨some 11, .mv (.v (.int .i64 0)), none⟩])
 (.blk 0 (.loop (.seq (.ops [⟨some 12, .bin .lss (.t 11) (.t 10), none⟩])
   (.seq (.ite (.t 12) .skip
   (.exit 0))
   (.seq (.blk 1 (.seq (.ops [⟨some 13, .iad 4 (.t 9) (.t 11), none⟩, ⟨some 14, .load 4 true (.t 13), none⟩, ⟨some 8, .alloc [.int .i64 0, .int .i64 0, .int .i64 0, .int .i64 0], none⟩, ⟨none, .store 4 (.t 8) (.t 14), none⟩])
    (.seq (.ops [⟨some 15, .fad 0 (.t 8), none⟩, ⟨some 16, .load 1 false (.t 15), none⟩, ⟨some 17, .mv (.t 2), none⟩, ⟨some 18, .bin .neq (.t 16) (.t 17), none⟩, ⟨some 19, .mv (.t 18), none⟩, ⟨some 20, .load 12 true (.t 3), some (19, false)⟩, ⟨some 21, .load 4 true (.t 8), some (19, false)⟩, ⟨some 22, .call 177 [.t 20, .t 21], some (19, false)⟩, ⟨some 23, .not (.t 22), some (19, false)⟩, ⟨some 24, .pick (.t 19) (.v (.bool true)) (.t 23), none⟩])
    (.ite (.t 24) (.seq (.ops [⟨some 6, .mv (.v (.bool false)), none⟩])
     .ret)
    .skip))))
   (.ops [⟨some 25, .bin .add (.t 11) (.v (.int .i64 1)), none⟩, ⟨some 11, .mv (.t 25), none⟩])))))))
 (.seq (.ops [⟨some 26, .mv (.t 1), none⟩, ⟨some 27, .len (.t 26), none⟩, ⟨some 28, .bin .leq (.t 27) (.v (.int .i64 12)), none⟩, ⟨some 6, .mv (.t 28), none⟩])
 .ret)))
noncomputable def X.s_yUnits (p0 : TBoard) (p1 : (List TUnit)) (p2 : Int) : Option Bool :=
  ((loop (fun (x18 : Int) => ((bif (decide (x18 < (p1.length : Int))) then ((at' zTUnit p1 x18).bind fun v21 => (bif (v21.Side != p2) then some (Sum.inr (Sum.inr false)) else ((X.s_sUnit p0 v21).bind fun v24 => (bif (!v24) then some (Sum.inr (Sum.inr false)) else some (Sum.inl (W (x18 + 1))))))) else some (Sum.inr (Sum.inl ()))) : Option (Int ⊕ (Unit ⊕ Bool)))) 0).bind fun y27 => (Sum.elim (fun (y29 : Unit) => some (decide ((p1.length : Int) ≤ 12))) (fun (y30 : Bool) => some y30) y27))
theorem s_yUnits_ok (p0 : TBoard) (p1 : (List TUnit)) (p2 : Int) (r : Bool) (H : X.s_yUnits p0 p1 p2 = some r) : FnOk Tryz.prog gl 191 [.agg (eTBoard p0), .c (dat 4 eTUnit zTUnit p1), cI p2] (cB r) := by
  unfold X.s_yUnits at H
  refine fn_in (fn := Tryz.f191) (ir := s_yUnits_ir) (s1 := lit [(6, cB r)] []) glL Tryz.func191 (by kernel_rfl) (by kernel_rfl) (by kernel_rfl) (by kernel_rfl) (by kernel_rfl) ?_
  refine seq_ops [] [] [(1, .c (dat 4 eTUnit zTUnit p1)), (2, cI p2), (3, .c (.pk 3 0))] [(3, .var (eTBoard p0) false)] (fun t => t) (by kernel_rfl) ?_
  refine seq_in ?_
  refine seq_ops [] [] [(1, .c (dat 4 eTUnit zTUnit p1)), (2, cI p2), (3, .c (.pk 3 0)), (9, .c (dat 4 eTUnit zTUnit p1)), (10, cI (p1.length : Int)), (11, cI 0)] [(3, .var (eTBoard p0) false)] (fun t => lI p1 (t)) (by kernel_rfl) ?_
  refine ends_blk ?_
  obtain ⟨y27, h28, H⟩ := ofBind H
  refine loop_in (fun (x : Int) => lit [(1, .c (dat 4 eTUnit zTUnit p1)), (2, cI p2), (3, .c (.pk 3 0)), (9, .c (dat 4 eTUnit zTUnit p1)), (10, cI (p1.length : Int)), (11, cI x)] [(3, .var (eTBoard p0) false)]) (orJ (fun (z : Unit) => At (.exit 0) (lit [(1, .c (dat 4 eTUnit zTUnit p1))] [])) (fun (z : Bool) => At .ret (lit [(6, cB z)] []))) h28 ?_ ?_
  · clear H h28
    intro x18 y0 H
    refine seq_ops [] [] [(1, .c (dat 4 eTUnit zTUnit p1)), (2, cI p2), (3, .c (.pk 3 0)), (9, .c (dat 4 eTUnit zTUnit p1)), (10, cI (p1.length : Int)), (11, cI x18), (12, cB (decide (x18 < (p1.length : Int))))] [(3, .var (eTBoard p0) false)] (fun t => t) (by kernel_rfl) ?_
    refine seq_in ?_
    rcases ofCond H with ⟨c20, H⟩ | ⟨c20, H⟩
    · refine ite_t c20 (by kernel_rfl) ?_
      refine ends_skip ?_
      change EndsI _ _ _ _ _ _
      refine seq_in ?_
      refine ends_blk ?_
      obtain ⟨v21, h22, H⟩ := ofBind H
      refine seq_ops [.cs (eTUnit v21)] [] [(1, .c (dat 4 eTUnit zTUnit p1)), (2, cI p2), (3, .c (.pk 3 0)), (8, .c (.pk 8 0)), (9, .c (dat 4 eTUnit zTUnit p1)), (10, cI (p1.length : Int)), (11, cI x18)] [(3, .var (eTBoard p0) false), (8, .var (eTUnit v21) false)] (fun t => aI (at_lt h22) (aI (at_enc (enc := eTUnit) h22) (t))) (by kernel_rfl) ?_
      rcases ofCond H with ⟨c23, H⟩ | ⟨c23, H⟩
      · refine seq_ops [.g true, .g true, .g true, .g true, .g true] [] [(1, .c (dat 4 eTUnit zTUnit p1)), (2, cI p2), (3, .c (.pk 3 0)), (9, .c (dat 4 eTUnit zTUnit p1)), (10, cI (p1.length : Int)), (11, cI x18), (24, cB true)] [(3, .var (eTBoard p0) false)] (fun t => aI c23 (aI c23 (aI c23 (aI c23 (aI c23 (t)))))) (by kernel_rfl) ?_
        refine ite_t (rfl : (true : Bool) = true) (by kernel_rfl) ?_
        refine seq_ops [] [] [(6, cB false)] [] (fun t => t) (by kernel_rfl) ?_
        refine ends_ret ?_
        obtain rfl := Option.some.inj H
        exact And.intro (by simp) (And.intro rfl rfl)
      · obtain ⟨v24, h25, H⟩ := ofBind H
        refine seq_ops [.g false, .g false, .g false, .res (cB v24), .g false, .g false] [] [(1, .c (dat 4 eTUnit zTUnit p1)), (2, cI p2), (3, .c (.pk 3 0)), (9, .c (dat 4 eTUnit zTUnit p1)), (10, cI (p1.length : Int)), (11, cI x18), (24, cB (!v24))] [(3, .var (eTBoard p0) false)] (fun t => aI c23 (aI c23 (aI c23 (aI (s_sUnit_ok p0 v21 v24 h25) (aI c23 (aI c23 (t))))))) (by kernel_rfl) ?_
        rcases ofCond H with ⟨c26, H⟩ | ⟨c26, H⟩
        · refine ite_t c26 (by kernel_rfl) ?_
          refine seq_ops [] [] [(6, cB false)] [] (fun t => t) (by kernel_rfl) ?_
          refine ends_ret ?_
          obtain rfl := Option.some.inj H
          exact And.intro (by simp) (And.intro rfl rfl)
        · refine ite_f c26 (by kernel_rfl) ?_
          refine ends_skip ?_
          change EndsI _ _ _ _ _ _
          refine one_ops [] [] [(1, .c (dat 4 eTUnit zTUnit p1)), (2, cI p2), (3, .c (.pk 3 0)), (9, .c (dat 4 eTUnit zTUnit p1)), (10, cI (p1.length : Int)), (11, cI (W (x18 + 1)))] [(3, .var (eTBoard p0) false)] (fun t => t) (by kernel_rfl) ?_
          obtain rfl := Option.some.inj H
          exact And.intro rfl rfl
    · refine ite_f c20 (by kernel_rfl) ?_
      refine tell [] [(1, .c (dat 4 eTUnit zTUnit p1))] [] (fun t => t) (by kernel_rfl) ?_
      refine ends_exit ?_
      obtain rfl := Option.some.inj H
      exact And.intro (by simp) (And.intro rfl rfl)
  · clear h28
    cases y27 with
    | inl y29 =>
      replace H := ofInl H
      intro e s q
      obtain ⟨rfl, rfl⟩ := q
      change EndsI _ _ _ _ _ _
      refine seq_ops [] [] [(6, cB (decide ((p1.length : Int) ≤ 12)))] [] (fun t => lI p1 (t)) (by kernel_rfl) ?_
      refine ends_ret ?_
      obtain rfl := Option.some.inj H
      exact And.intro (.inl rfl) rfl
    | inr y30 =>
      replace H := ofInr H
      intro e s q
      obtain ⟨rfl, rfl⟩ := q
      obtain rfl := Option.some.inj H
      exact And.intro (.inl rfl) rfl

def s_fgBefore_ir : S :=
 (.seq (.ops [⟨some 2, .box 4 (.t 0), none⟩, ⟨some 3, .box 4 (.t 1), none⟩, ⟨some 4, .mv (.v (.bool false)), none⟩])
 (.seq (.blk 0 (.seq (.ops [⟨some 6, .fad 2 (.t 2), none⟩, ⟨some 7, .load 1 false (.t 6), none⟩, ⟨some 8, .fad 2 (.t 3), none⟩, ⟨some 9, .load 1 false (.t 8), none⟩, ⟨some 10, .bin .neq (.t 7) (.t 9), none⟩, ⟨some 5, .mv (.t 10), none⟩])
  (.ite (.t 5) (.seq (.ops [⟨some 11, .fad 2 (.t 2), none⟩, ⟨some 12, .load 1 false (.t 11), none⟩, ⟨some 13, .fad 2 (.t 3), none⟩, ⟨some 14, .load 1 false (.t 13), none⟩, ⟨some 15, .bin .lss (.t 12) (.t 14), none⟩, ⟨some 4, .mv (.t 15), none⟩])
   .ret)
  (.seq (.ops [⟨some 17, .fad 1 (.t 2), none⟩, ⟨some 18, .load 1 false (.t 17), none⟩, ⟨some 19, .fad 1 (.t 3), none⟩, ⟨some 20, .load 1 false (.t 19), none⟩, ⟨some 21, .bin .neq (.t 18) (.t 20), none⟩, ⟨some 16, .mv (.t 21), none⟩])
   (.ite (.t 16) (.seq (.ops [⟨some 22, .fad 1 (.t 2), none⟩, ⟨some 23, .load 1 false (.t 22), none⟩, ⟨some 24, .fad 1 (.t 3), none⟩, ⟨some 25, .load 1 false (.t 24), none⟩, ⟨some 26, .bin .lss (.t 23) (.t 25), none⟩, ⟨some 4, .mv (.t 26), none⟩])
    .ret)
   .skip)))))
 (.seq (.ops [⟨some 27, .fad 3 (.t 2), none⟩, ⟨some 28, .load 1 false (.t 27), none⟩, ⟨some 29, .fad 3 (.t 3), none⟩, ⟨some 30, .load 1 false (.t 29), none⟩, ⟨some 31, .bin .lss (.t 28) (.t 30), none⟩, ⟨some 4, .mv (.t 31), none⟩])
 .ret)))
noncomputable def X.s_fgBefore (p0 : TUnit) (p1 : TUnit) : Option Bool :=
  (bif (p0.At != p1.At) then some (decide (p0.At < p1.At)) else (bif (p0.Kind != p1.Kind) then some (decide (p0.Kind < p1.Kind)) else some (decide (p0.Steps < p1.Steps))))
theorem s_fgBefore_ok (p0 : TUnit) (p1 : TUnit) (r : Bool) (H : X.s_fgBefore p0 p1 = some r) : FnOk Tryz.prog gl 192 [.agg (eTUnit p0), .agg (eTUnit p1)] (cB r) := by
  unfold X.s_fgBefore at H
  refine fn_in (fn := Tryz.f192) (ir := s_fgBefore_ir) (s1 := lit [(4, cB r)] []) glL Tryz.func192 (by kernel_rfl) (by kernel_rfl) (by kernel_rfl) (by kernel_rfl) (by kernel_rfl) ?_
  refine seq_ops [] [] [(2, .c (.pk 2 0)), (3, .c (.pk 3 0))] [(2, .var (eTUnit p0) false), (3, .var (eTUnit p1) false)] (fun t => t) (by kernel_rfl) ?_
  refine seq_in ?_
  refine ends_blk ?_
  refine seq_ops [] [] [(2, .c (.pk 2 0)), (3, .c (.pk 3 0)), (5, cB (p0.At != p1.At))] [(2, .var (eTUnit p0) false), (3, .var (eTUnit p1) false)] (fun t => t) (by kernel_rfl) ?_
  rcases ofCond H with ⟨c1, H⟩ | ⟨c1, H⟩
  · refine ite_t c1 (by kernel_rfl) ?_
    refine seq_ops [] [] [(4, cB (decide (p0.At < p1.At)))] [] (fun t => t) (by kernel_rfl) ?_
    refine ends_ret ?_
    obtain rfl := Option.some.inj H
    exact And.intro (.inl rfl) rfl
  · refine ite_f c1 (by kernel_rfl) ?_
    refine seq_ops [] [] [(2, .c (.pk 2 0)), (3, .c (.pk 3 0)), (16, cB (p0.Kind != p1.Kind))] [(2, .var (eTUnit p0) false), (3, .var (eTUnit p1) false)] (fun t => t) (by kernel_rfl) ?_
    rcases ofCond H with ⟨c2, H⟩ | ⟨c2, H⟩
    · refine ite_t c2 (by kernel_rfl) ?_
      refine seq_ops [] [] [(4, cB (decide (p0.Kind < p1.Kind)))] [] (fun t => t) (by kernel_rfl) ?_
      refine ends_ret ?_
      obtain rfl := Option.some.inj H
      exact And.intro (.inl rfl) rfl
    · refine ite_f c2 (by kernel_rfl) ?_
      refine ends_skip ?_
      change EndsI _ _ _ _ _ _
      refine seq_ops [] [] [(4, cB (decide (p0.Steps < p1.Steps)))] [] (fun t => t) (by kernel_rfl) ?_
      refine ends_ret ?_
      obtain rfl := Option.some.inj H
      exact And.intro (.inl rfl) rfl

def s_yGood_ir : S :=
 (.seq (.ops [⟨some 2, .box 12 (.t 0), none⟩, ⟨some 3, .box 6 (.t 1), none⟩, ⟨some 4, .mv (.v (.bool false)), none⟩])
 (.seq (.seq (.draw 48 [⟨some 7, .fad 0 (.t 3), none⟩, ⟨some 8, .load 1 false (.t 7), none⟩, ⟨some 9, .call 124 [.t 8, .v (.int .i64 0), .v (.int .i64 1)], none⟩, ⟨some 10, .not (.t 9), none⟩, ⟨some 11, .mv (.t 10), none⟩, ⟨some 12, .fad 1 (.t 3), some (11, false)⟩, ⟨some 13, .load 1 false (.t 12), some (11, false)⟩, ⟨some 14, .fad 0 (.t 2), some (11, false)⟩, ⟨some 15, .fad 6 (.t 14), some (11, false)⟩, ⟨some 16, .load 1 false (.t 15), some (11, false)⟩, ⟨some 17, .call 124 [.t 13, .v (.int .i64 0), .t 16], some (11, false)⟩, ⟨some 18, .not (.t 17), some (11, false)⟩, ⟨some 19, .pick (.t 11) (.v (.bool true)) (.t 18), none⟩, ⟨some 20, .mv (.t 19), none⟩, ⟨some 21, .fad 2 (.t 3), some (20, false)⟩, ⟨some 22, .load 1 false (.t 21), some (20, false)⟩, ⟨some 23, .call 124 [.t 22, .v (.int .i64 0), .v (.int .i64 2)], some (20, false)⟩, ⟨some 24, .not (.t 23), some (20, false)⟩, ⟨some 25, .pick (.t 20) (.v (.bool true)) (.t 24), none⟩, ⟨some 26, .mv (.t 25), none⟩, ⟨some 27, .fad 3 (.t 3), some (26, false)⟩, ⟨some 28, .load 1 false (.t 27), some (26, false)⟩, ⟨some 29, .fad 7 (.t 2), some (26, false)⟩, ⟨some 30, .load 5 true (.t 29), some (26, false)⟩, ⟨some 31, .call 142 [.t 30], some (26, false)⟩, ⟨some 32, .bin .sub (.t 31) (.v (.int .i64 1)), some (26, false)⟩, ⟨some 33, .call 190 [.t 28, .v (.int .i64 0), .t 32], some (26, false)⟩, ⟨some 34, .not (.t 33), some (26, false)⟩, ⟨some 35, .pick (.t 26) (.v (.bool true)) (.t 34), none⟩, ⟨some 36, .mv (.t 35), none⟩, ⟨some 37, .load 12 true (.t 2), some (36, false)⟩, ⟨some 38, .fad 4 (.t 3), some (36, false)⟩, ⟨some 39, .load 1 false (.t 38), some (36, false)⟩, ⟨some 40, .fad 0 (.t 3), some (36, false)⟩, ⟨some 41, .load 1 false (.t 40), some (36, false)⟩, ⟨some 42, .call 191 [.t 37, .t 39, .t 41], some (36, false)⟩, ⟨some 43, .not (.t 42), some (36, false)⟩, ⟨some 44, .pick (.t 36) (.v (.bool true)) (.t 43), none⟩, ⟨some 45, .mv (.t 44), none⟩, ⟨some 46, .load 12 true (.t 2), some (45, false)⟩, ⟨some 47, .fad 5 (.t 3), some (45, false)⟩, ⟨some 48, .load 1 false (.t 47), some (45, false)⟩, ⟨some 49, .fad 0 (.t 3), some (45, false)⟩, ⟨some 50, .load 1 false (.t 49), some (45, false)⟩, ⟨some 51, .bin .sub (.v (.int .i64 1)) (.t 50), some (45, false)⟩, ⟨some 52, .call 191 [.t 46, .t 48, .t 51], some (45, false)⟩, ⟨some 53, .not (.t 52), some (45, false)⟩, ⟨some 54, .pick (.t 45) (.v (.bool true)) (.t 53), none⟩])
 (.ite (.t 54) (.seq (.ops [⟨some 4, .mv (.v (.bool false)), none⟩])
  .ret)
 .skip))
 (.seq (.seq (.ops [⟨some 55, .fad 5 (.t 3), none⟩, ⟨some 56, .load 1 false (.t 55), none⟩, ⟨some 57, .len (.t 56), none⟩, ⟨some 58, .mv (.v (.int .i64 0)), none⟩])
 (.blk 0 (.loop (.seq (.ops [⟨some 59, .bin .lss (.t 58) (.t 57), none⟩])
   (.seq (.ite (.t 59) .skip
   (.exit 0))
   (.seq (.blk 1 (.seq (.ops [⟨some 60, .mv (.t 58), none⟩, ⟨some 61, .iad 4 (.t 56) (.t 58), none⟩, ⟨some 62, .load 4 true (.t 61), none⟩, ⟨some 6, .alloc [.int .i64 0, .int .i64 0, .int .i64 0, .int .i64 0], none⟩, ⟨some 5, .mv (.t 60), none⟩, ⟨none, .store 4 (.t 6) (.t 62), none⟩])
    (.seq (.draw 20 [⟨some 63, .fad 3 (.t 3), none⟩, ⟨some 64, .load 1 false (.t 63), none⟩, ⟨some 65, .fad 2 (.t 6), none⟩, ⟨some 66, .load 1 false (.t 65), none⟩, ⟨some 67, .call 106 [.t 64, .t 66], none⟩, ⟨some 68, .not (.t 67), none⟩, ⟨some 69, .mv (.t 68), none⟩, ⟨some 70, .mv (.t 5), some (69, false)⟩, ⟨some 71, .bin .gtr (.t 70) (.v (.int .i64 0)), some (69, false)⟩, ⟨some 72, .mv (.t 71), some (69, false)⟩, ⟨some 73, .load 4 true (.t 6), some (72, true)⟩, ⟨some 74, .fad 5 (.t 3), some (72, true)⟩, ⟨some 75, .load 1 false (.t 74), some (72, true)⟩, ⟨some 76, .mv (.t 5), some (72, true)⟩, ⟨some 77, .bin .sub (.t 76) (.v (.int .i64 1)), some (72, true)⟩, ⟨some 78, .iad 4 (.t 75) (.t 77), some (72, true)⟩, ⟨some 79, .load 4 true (.t 78), some (72, true)⟩, ⟨some 80, .call 192 [.t 73, .t 79], some (72, true)⟩, ⟨some 81, .pick (.t 72) (.t 80) (.v (.bool false)), some (69, false)⟩, ⟨some 82, .pick (.t 69) (.v (.bool true)) (.t 81), none⟩])
    (.ite (.t 82) (.seq (.ops [⟨some 4, .mv (.v (.bool false)), none⟩])
     .ret)
    .skip))))
   (.ops [⟨some 83, .bin .add (.t 58) (.v (.int .i64 1)), none⟩, ⟨some 58, .mv (.t 83), none⟩])))))))
 (.seq (.ops [⟨some 4, .mv (.v (.bool true)), none⟩])
 .ret))))
noncomputable def X.s_yGood (p0 : TBoard) (p1 : TView) : Option Bool :=
  ((X.s_l1In p1.Side 0 1).bind fun v21 => (bif (!v21) then some false else ((X.s_l1In p1.Turn 0 p0.Rules.Turns).bind fun v24 => (bif (!v24) then some false else ((X.s_l1In p1.Weather 0 2).bind fun v27 => (bif (!v27) then some false else ((X.s_mSize p0.Map).bind fun v30 => ((X.s_l1Rising p1.Seen 0 (W (v30 - 1))).bind fun v32 => (bif (!v32) then some false else ((X.s_yUnits p0 p1.Own p1.Side).bind fun v35 => (bif (!v35) then some false else ((X.s_yUnits p0 p1.Enemies (W (1 - p1.Side))).bind fun v38 => (bif (!v38) then some false else ((loop (fun (x68 : Int) => ((bif (decide (x68 < (p1.Enemies.length : Int))) then ((at' zTUnit p1.Enemies x68).bind fun v71 => ((X.s_l1Has p1.Seen v71.At).bind fun v73 => (bif (!v73) then some (Sum.inr (Sum.inr false)) else (bif (decide (x68 > 0)) then ((at' zTUnit p1.Enemies (W (x68 - 1))).bind fun v77 => ((X.s_fgBefore v71 v77).bind fun v79 => (bif v79 then some (Sum.inr (Sum.inr false)) else some (Sum.inl (W (x68 + 1)))))) else some (Sum.inl (W (x68 + 1))))))) else some (Sum.inr (Sum.inl ()))) : Option (Int ⊕ (Unit ⊕ Bool)))) 0).bind fun y82 => (Sum.elim (fun (y84 : Unit) => some true) (fun (y85 : Bool) => some y85) y82)))))))))))))))
theorem s_yGood_ok (p0 : TBoard) (p1 : TView) (r : Bool) (H : X.s_yGood p0 p1 = some r) : FnOk Tryz.prog gl 141 [.agg (eTBoard p0), .agg (eTView p1)] (cB r) := by
  unfold X.s_yGood at H
  refine fn_in (fn := Tryz.f141) (ir := s_yGood_ir) (s1 := lit [(4, cB r)] []) glL Tryz.func141 (by kernel_rfl) (by kernel_rfl) (by kernel_rfl) (by kernel_rfl) (by kernel_rfl) ?_
  refine seq_ops [] [] [(2, .c (.pk 2 0)), (3, .c (.pk 3 0))] [(2, .var (eTBoard p0) false), (3, .var (eTView p1) false)] (fun t => t) (by kernel_rfl) ?_
  refine seq_in ?_
  obtain ⟨v21, h22, H⟩ := ofBind H
  rcases ofCond H with ⟨c23, H⟩ | ⟨c23, H⟩
  · refine seq_draw [.res (cB v21), .g true, .g true, .g true, .g true, .g true, .g true, .g true, .g true, .g true, .g true, .g true, .g true, .g true, .g true, .g true, .g true, .g true, .g true, .g true, .g true, .g true, .g true, .g true, .g true, .g true, .g true, .g true, .g true, .g true, .g true, .g true, .g true, .g true, .g true, .g true, .g true, .g true, .g true, .g true] [] [(3, .c (.pk 3 0)), (54, cB true)] [(3, .var (eTView p1) false)] (fun t => aI (s_l1In_ok p1.Side 0 1 v21 h22) (aI trivial (aI (rfl : ([] : List Nat) = []) (aI c23 (aI c23 (aI c23 (aI c23 (aI c23 (aI c23 (aI c23 (aI c23 (aI (rfl : (true : Bool) = true) (aI (rfl : (true : Bool) = true) (aI (rfl : (true : Bool) = true) (aI (rfl : (true : Bool) = true) (aI (rfl : (true : Bool) = true) (aI (rfl : (true : Bool) = true) (aI (rfl : (true : Bool) = true) (aI (rfl : (true : Bool) = true) (aI (rfl : (true : Bool) = true) (aI (rfl : (true : Bool) = true) (aI (rfl : (true : Bool) = true) (aI (rfl : (true : Bool) = true) (aI (rfl : (true : Bool) = true) (aI (rfl : (true : Bool) = true) (aI (rfl : (true : Bool) = true) (aI (rfl : (true : Bool) = true) (aI (rfl : (true : Bool) = true) (aI (rfl : (true : Bool) = true) (aI (rfl : (true : Bool) = true) (aI (rfl : (true : Bool) = true) (aI (rfl : (true : Bool) = true) (aI (rfl : (true : Bool) = true) (aI (rfl : (true : Bool) = true) (aI (rfl : (true : Bool) = true) (aI (rfl : (true : Bool) = true) (aI (rfl : (true : Bool) = true) (aI (rfl : (true : Bool) = true) (aI (rfl : (true : Bool) = true) (aI (rfl : (true : Bool) = true) (aI (rfl : (true : Bool) = true) (aI (rfl : (true : Bool) = true) (t))))))))))))))))))))))))))))))))))))))))))) (by kernel_rfl) ?_
    refine ite_t (rfl : (true : Bool) = true) (by kernel_rfl) ?_
    refine seq_ops [] [] [(4, cB false)] [] (fun t => t) (by kernel_rfl) ?_
    refine ends_ret ?_
    obtain rfl := Option.some.inj H
    exact And.intro (.inl rfl) rfl
  · obtain ⟨v24, h25, H⟩ := ofBind H
    rcases ofCond H with ⟨c26, H⟩ | ⟨c26, H⟩
    · refine seq_draw [.res (cB v21), .g false, .g false, .g false, .g false, .g false, .g false, .res (cB v24), .g false, .g false, .g true, .g true, .g true, .g true, .g true, .g true, .g true, .g true, .g true, .g true, .g true, .g true, .g true, .g true, .g true, .g true, .g true, .g true, .g true, .g true, .g true, .g true, .g true, .g true, .g true, .g true, .g true, .g true, .g true, .g true, .g true] [] [(3, .c (.pk 3 0)), (54, cB true)] [(3, .var (eTView p1) false)] (fun t => aI (s_l1In_ok p1.Side 0 1 v21 h22) (aI trivial (aI (rfl : ([] : List Nat) = []) (aI c23 (aI c23 (aI c23 (aI c23 (aI c23 (aI c23 (aI (s_l1In_ok p1.Turn 0 p0.Rules.Turns v24 h25) (aI trivial (aI (rfl : ([] : List Nat) = []) (aI c23 (aI c23 (aI c26 (aI c26 (aI c26 (aI c26 (aI c26 (aI (rfl : (true : Bool) = true) (aI (rfl : (true : Bool) = true) (aI (rfl : (true : Bool) = true) (aI (rfl : (true : Bool) = true) (aI (rfl : (true : Bool) = true) (aI (rfl : (true : Bool) = true) (aI (rfl : (true : Bool) = true) (aI (rfl : (true : Bool) = true) (aI (rfl : (true : Bool) = true) (aI (rfl : (true : Bool) = true) (aI (rfl : (true : Bool) = true) (aI (rfl : (true : Bool) = true) (aI (rfl : (true : Bool) = true) (aI (rfl : (true : Bool) = true) (aI (rfl : (true : Bool) = true) (aI (rfl : (true : Bool) = true) (aI (rfl : (true : Bool) = true) (aI (rfl : (true : Bool) = true) (aI (rfl : (true : Bool) = true) (aI (rfl : (true : Bool) = true) (aI (rfl : (true : Bool) = true) (aI (rfl : (true : Bool) = true) (aI (rfl : (true : Bool) = true) (aI (rfl : (true : Bool) = true) (aI (rfl : (true : Bool) = true) (aI (rfl : (true : Bool) = true) (t)))))))))))))))))))))))))))))))))))))))))))))) (by kernel_rfl) ?_
      refine ite_t (rfl : (true : Bool) = true) (by kernel_rfl) ?_
      refine seq_ops [] [] [(4, cB false)] [] (fun t => t) (by kernel_rfl) ?_
      refine ends_ret ?_
      obtain rfl := Option.some.inj H
      exact And.intro (.inl rfl) rfl
    · obtain ⟨v27, h28, H⟩ := ofBind H
      rcases ofCond H with ⟨c29, H⟩ | ⟨c29, H⟩
      · refine seq_draw [.res (cB v21), .g false, .g false, .g false, .g false, .g false, .g false, .res (cB v24), .g false, .g false, .g false, .g false, .g false, .res (cB v27), .g false, .g false, .g true, .g true, .g true, .g true, .g true, .g true, .g true, .g true, .g true, .g true, .g true, .g true, .g true, .g true, .g true, .g true, .g true, .g true, .g true, .g true, .g true, .g true, .g true, .g true, .g true, .g true] [] [(3, .c (.pk 3 0)), (54, cB true)] [(3, .var (eTView p1) false)] (fun t => aI (s_l1In_ok p1.Side 0 1 v21 h22) (aI trivial (aI (rfl : ([] : List Nat) = []) (aI c23 (aI c23 (aI c23 (aI c23 (aI c23 (aI c23 (aI (s_l1In_ok p1.Turn 0 p0.Rules.Turns v24 h25) (aI trivial (aI (rfl : ([] : List Nat) = []) (aI c23 (aI c23 (aI c26 (aI c26 (aI c26 (aI (s_l1In_ok p1.Weather 0 2 v27 h28) (aI trivial (aI (rfl : ([] : List Nat) = []) (aI c26 (aI c26 (aI c29 (aI c29 (aI c29 (aI c29 (aI c29 (aI c29 (aI c29 (aI c29 (aI c29 (aI (rfl : (true : Bool) = true) (aI (rfl : (true : Bool) = true) (aI (rfl : (true : Bool) = true) (aI (rfl : (true : Bool) = true) (aI (rfl : (true : Bool) = true) (aI (rfl : (true : Bool) = true) (aI (rfl : (true : Bool) = true) (aI (rfl : (true : Bool) = true) (aI (rfl : (true : Bool) = true) (aI (rfl : (true : Bool) = true) (aI (rfl : (true : Bool) = true) (aI (rfl : (true : Bool) = true) (aI (rfl : (true : Bool) = true) (aI (rfl : (true : Bool) = true) (aI (rfl : (true : Bool) = true) (aI (rfl : (true : Bool) = true) (aI (rfl : (true : Bool) = true) (t))))))))))))))))))))))))))))))))))))))))))))))))) (by kernel_rfl) ?_
        refine ite_t (rfl : (true : Bool) = true) (by kernel_rfl) ?_
        refine seq_ops [] [] [(4, cB false)] [] (fun t => t) (by kernel_rfl) ?_
        refine ends_ret ?_
        obtain rfl := Option.some.inj H
        exact And.intro (.inl rfl) rfl
      · obtain ⟨v30, h31, H⟩ := ofBind H
        obtain ⟨v32, h33, H⟩ := ofBind H
        rcases ofCond H with ⟨c34, H⟩ | ⟨c34, H⟩
        · refine seq_draw [.res (cB v21), .g false, .g false, .g false, .g false, .g false, .g false, .res (cB v24), .g false, .g false, .g false, .g false, .g false, .res (cB v27), .g false, .g false, .g false, .g false, .g false, .g false, .g false, .res (cI v30), .g false, .g false, .res (cB v32), .g false, .g false, .g true, .g true, .g true, .g true, .g true, .g true, .g true, .g true, .g true, .g true, .g true, .g true, .g true, .g true, .g true, .g true, .g true] [] [(3, .c (.pk 3 0)), (54, cB true)] [(3, .var (eTView p1) false)] (fun t => aI (s_l1In_ok p1.Side 0 1 v21 h22) (aI trivial (aI (rfl : ([] : List Nat) = []) (aI c23 (aI c23 (aI c23 (aI c23 (aI c23 (aI c23 (aI (s_l1In_ok p1.Turn 0 p0.Rules.Turns v24 h25) (aI trivial (aI (rfl : ([] : List Nat) = []) (aI c23 (aI c23 (aI c26 (aI c26 (aI c26 (aI (s_l1In_ok p1.Weather 0 2 v27 h28) (aI trivial (aI (rfl : ([] : List Nat) = []) (aI c26 (aI c26 (aI c29 (aI c29 (aI c29 (aI c29 (aI c29 (aI (s_mSize_ok p0.Map v30 h31) (aI trivial (aI (rfl : ([] : List Nat) = []) (aI c29 (aI c29 (aI (s_l1Rising_ok p1.Seen 0 (W (v30 - 1)) v32 h33) (aI trivial (aI (rfl : ([] : List Nat) = []) (aI c29 (aI c29 (aI c34 (aI c34 (aI c34 (aI c34 (aI c34 (aI c34 (aI c34 (aI c34 (aI (rfl : (true : Bool) = true) (aI (rfl : (true : Bool) = true) (aI (rfl : (true : Bool) = true) (aI (rfl : (true : Bool) = true) (aI (rfl : (true : Bool) = true) (aI (rfl : (true : Bool) = true) (aI (rfl : (true : Bool) = true) (aI (rfl : (true : Bool) = true) (aI (rfl : (true : Bool) = true) (t))))))))))))))))))))))))))))))))))))))))))))))))))))))) (by kernel_rfl) ?_
          refine ite_t (rfl : (true : Bool) = true) (by kernel_rfl) ?_
          refine seq_ops [] [] [(4, cB false)] [] (fun t => t) (by kernel_rfl) ?_
          refine ends_ret ?_
          obtain rfl := Option.some.inj H
          exact And.intro (.inl rfl) rfl
        · obtain ⟨v35, h36, H⟩ := ofBind H
          rcases ofCond H with ⟨c37, H⟩ | ⟨c37, H⟩
          · refine seq_draw [.res (cB v21), .g false, .g false, .g false, .g false, .g false, .g false, .res (cB v24), .g false, .g false, .g false, .g false, .g false, .res (cB v27), .g false, .g false, .g false, .g false, .g false, .g false, .g false, .res (cI v30), .g false, .g false, .res (cB v32), .g false, .g false, .g false, .g false, .g false, .g false, .g false, .g false, .res (cB v35), .g false, .g false, .g true, .g true, .g true, .g true, .g true, .g true, .g true, .g true, .g true] [] [(3, .c (.pk 3 0)), (54, cB true)] [(3, .var (eTView p1) false)] (fun t => aI (s_l1In_ok p1.Side 0 1 v21 h22) (aI trivial (aI (rfl : ([] : List Nat) = []) (aI c23 (aI c23 (aI c23 (aI c23 (aI c23 (aI c23 (aI (s_l1In_ok p1.Turn 0 p0.Rules.Turns v24 h25) (aI trivial (aI (rfl : ([] : List Nat) = []) (aI c23 (aI c23 (aI c26 (aI c26 (aI c26 (aI (s_l1In_ok p1.Weather 0 2 v27 h28) (aI trivial (aI (rfl : ([] : List Nat) = []) (aI c26 (aI c26 (aI c29 (aI c29 (aI c29 (aI c29 (aI c29 (aI (s_mSize_ok p0.Map v30 h31) (aI trivial (aI (rfl : ([] : List Nat) = []) (aI c29 (aI c29 (aI (s_l1Rising_ok p1.Seen 0 (W (v30 - 1)) v32 h33) (aI trivial (aI (rfl : ([] : List Nat) = []) (aI c29 (aI c29 (aI c34 (aI c34 (aI c34 (aI c34 (aI c34 (aI c34 (aI (s_yUnits_ok p0 p1.Own p1.Side v35 h36) (aI trivial (aI (rfl : ([] : List Nat) = []) (aI c34 (aI c34 (aI c37 (aI c37 (aI c37 (aI c37 (aI c37 (aI c37 (aI c37 (aI c37 (aI c37 (t)))))))))))))))))))))))))))))))))))))))))))))))))))))))))) (by kernel_rfl) ?_
            refine ite_t (rfl : (true : Bool) = true) (by kernel_rfl) ?_
            refine seq_ops [] [] [(4, cB false)] [] (fun t => t) (by kernel_rfl) ?_
            refine ends_ret ?_
            obtain rfl := Option.some.inj H
            exact And.intro (.inl rfl) rfl
          · obtain ⟨v38, h39, H⟩ := ofBind H
            refine seq_draw [.res (cB v21), .g false, .g false, .g false, .g false, .g false, .g false, .res (cB v24), .g false, .g false, .g false, .g false, .g false, .res (cB v27), .g false, .g false, .g false, .g false, .g false, .g false, .g false, .res (cI v30), .g false, .g false, .res (cB v32), .g false, .g false, .g false, .g false, .g false, .g false, .g false, .g false, .res (cB v35), .g false, .g false, .g false, .g false, .g false, .g false, .g false, .g false, .g false, .res (cB v38), .g false, .g false] [] [(3, .c (.pk 3 0)), (54, cB (!v38))] [(3, .var (eTView p1) false)] (fun t => aI (s_l1In_ok p1.Side 0 1 v21 h22) (aI trivial (aI (rfl : ([] : List Nat) = []) (aI c23 (aI c23 (aI c23 (aI c23 (aI c23 (aI c23 (aI (s_l1In_ok p1.Turn 0 p0.Rules.Turns v24 h25) (aI trivial (aI (rfl : ([] : List Nat) = []) (aI c23 (aI c23 (aI c26 (aI c26 (aI c26 (aI (s_l1In_ok p1.Weather 0 2 v27 h28) (aI trivial (aI (rfl : ([] : List Nat) = []) (aI c26 (aI c26 (aI c29 (aI c29 (aI c29 (aI c29 (aI c29 (aI (s_mSize_ok p0.Map v30 h31) (aI trivial (aI (rfl : ([] : List Nat) = []) (aI c29 (aI c29 (aI (s_l1Rising_ok p1.Seen 0 (W (v30 - 1)) v32 h33) (aI trivial (aI (rfl : ([] : List Nat) = []) (aI c29 (aI c29 (aI c34 (aI c34 (aI c34 (aI c34 (aI c34 (aI c34 (aI (s_yUnits_ok p0 p1.Own p1.Side v35 h36) (aI trivial (aI (rfl : ([] : List Nat) = []) (aI c34 (aI c34 (aI c37 (aI c37 (aI c37 (aI c37 (aI c37 (aI c37 (aI c37 (aI (s_yUnits_ok p0 p1.Enemies (W (1 - p1.Side)) v38 h39) (aI trivial (aI (rfl : ([] : List Nat) = []) (aI c37 (aI c37 (t))))))))))))))))))))))))))))))))))))))))))))))))))))))))))))) (by kernel_rfl) ?_
            rcases ofCond H with ⟨c40, H⟩ | ⟨c40, H⟩
            · refine ite_t c40 (by kernel_rfl) ?_
              refine seq_ops [] [] [(4, cB false)] [] (fun t => t) (by kernel_rfl) ?_
              refine ends_ret ?_
              obtain rfl := Option.some.inj H
              exact And.intro (.inl rfl) rfl
            · refine ite_f c40 (by kernel_rfl) ?_
              refine ends_skip ?_
              change EndsI _ _ _ _ _ _
              refine seq_in ?_
              refine seq_ops [] [] [(3, .c (.pk 3 0)), (56, .c (dat 4 eTUnit zTUnit p1.Enemies)), (57, cI (p1.Enemies.length : Int)), (58, cI 0)] [(3, .var (eTView p1) false)] (fun t => lI p1.Enemies (t)) (by kernel_rfl) ?_
              refine ends_blk ?_
              obtain ⟨y82, h83, H⟩ := ofBind H
              refine loop_in (fun (x : Int) => lit [(3, .c (.pk 3 0)), (56, .c (dat 4 eTUnit zTUnit p1.Enemies)), (57, cI (p1.Enemies.length : Int)), (58, cI x)] [(3, .var (eTView p1) false)]) (orJ (fun (z : Unit) => At (.exit 0) (lit [] [])) (fun (z : Bool) => At .ret (lit [(4, cB z)] []))) h83 ?_ ?_
              · clear H h83
                intro x68 y0 H
                refine seq_ops [] [] [(3, .c (.pk 3 0)), (56, .c (dat 4 eTUnit zTUnit p1.Enemies)), (57, cI (p1.Enemies.length : Int)), (58, cI x68), (59, cB (decide (x68 < (p1.Enemies.length : Int))))] [(3, .var (eTView p1) false)] (fun t => t) (by kernel_rfl) ?_
                refine seq_in ?_
                rcases ofCond H with ⟨c70, H⟩ | ⟨c70, H⟩
                · refine ite_t c70 (by kernel_rfl) ?_
                  refine ends_skip ?_
                  change EndsI _ _ _ _ _ _
                  refine seq_in ?_
                  refine ends_blk ?_
                  obtain ⟨v71, h72, H⟩ := ofBind H
                  refine seq_ops [.cs (eTUnit v71)] [] [(3, .c (.pk 3 0)), (5, cI x68), (6, .c (.pk 6 0)), (56, .c (dat 4 eTUnit zTUnit p1.Enemies)), (57, cI (p1.Enemies.length : Int)), (58, cI x68)] [(3, .var (eTView p1) false), (6, .var (eTUnit v71) false)] (fun t => aI (at_lt h72) (aI (at_enc (enc := eTUnit) h72) (t))) (by kernel_rfl) ?_
                  obtain ⟨v73, h74, H⟩ := ofBind H
                  rcases ofCond H with ⟨c75, H⟩ | ⟨c75, H⟩
                  · refine seq_draw [.res (cB v73), .g true, .g true, .g true, .g true, .g true] [] [(3, .c (.pk 3 0)), (56, .c (dat 4 eTUnit zTUnit p1.Enemies)), (57, cI (p1.Enemies.length : Int)), (58, cI x68), (82, cB true)] [(3, .var (eTView p1) false)] (fun t => aI (s_l1Has_ok p1.Seen v71.At v73 h74) (aI trivial (aI (rfl : ([] : List Nat) = []) (aI c75 (aI c75 (aI c75 (aI c75 (aI c75 (t))))))))) (by kernel_rfl) ?_
                    refine ite_t (rfl : (true : Bool) = true) (by kernel_rfl) ?_
                    refine seq_ops [] [] [(4, cB false)] [] (fun t => t) (by kernel_rfl) ?_
                    refine ends_ret ?_
                    obtain rfl := Option.some.inj H
                    exact And.intro (by simp) (And.intro rfl rfl)
                  · rcases ofCond H with ⟨c76, H⟩ | ⟨c76, H⟩
                    · obtain ⟨v77, h78, H⟩ := ofBind H
                      obtain ⟨v79, h80, H⟩ := ofBind H
                      refine seq_draw [.res (cB v73), .g false, .g false, .g false, .g true, .g true, .g true, .g true, .g true, .g true, .cs (eTUnit v77), .g true, .g true, .res (cB v79), .g false, .g true, .g false] [] [(3, .c (.pk 3 0)), (56, .c (dat 4 eTUnit zTUnit p1.Enemies)), (57, cI (p1.Enemies.length : Int)), (58, cI x68), (82, cB v79)] [(3, .var (eTView p1) false)] (fun t => aI (s_l1Has_ok p1.Seen v71.At v73 h74) (aI trivial (aI (rfl : ([] : List Nat) = []) (aI c75 (aI c75 (aI c75 (aI c76 (aI c76 (aI c76 (aI c76 (aI c76 (aI c76 (aI (at_lt h78) (aI (at_enc (enc := eTUnit) h78) (aI c76 (aI (rfl : ([] : List Nat) = []) (aI c76 (aI (s_fgBefore_ok v71 v77 v79 h80) (aI trivial (aI (rfl : ([] : List Nat) = []) (aI c75 (aI c76 (aI c75 (t)))))))))))))))))))))))) (by kernel_rfl) ?_
                      rcases ofCond H with ⟨c81, H⟩ | ⟨c81, H⟩
                      · refine ite_t c81 (by kernel_rfl) ?_
                        refine seq_ops [] [] [(4, cB false)] [] (fun t => t) (by kernel_rfl) ?_
                        refine ends_ret ?_
                        obtain rfl := Option.some.inj H
                        exact And.intro (by simp) (And.intro rfl rfl)
                      · refine ite_f c81 (by kernel_rfl) ?_
                        refine ends_skip ?_
                        change EndsI _ _ _ _ _ _
                        refine one_ops [] [] [(3, .c (.pk 3 0)), (56, .c (dat 4 eTUnit zTUnit p1.Enemies)), (57, cI (p1.Enemies.length : Int)), (58, cI (W (x68 + 1)))] [(3, .var (eTView p1) false)] (fun t => t) (by kernel_rfl) ?_
                        obtain rfl := Option.some.inj H
                        exact And.intro rfl rfl
                    · refine seq_draw [.res (cB v73), .g false, .g false, .g false, .g false, .g false, .g false, .g false, .g false, .g false, .g false, .g false, .g false, .g false, .g false] [] [(3, .c (.pk 3 0)), (56, .c (dat 4 eTUnit zTUnit p1.Enemies)), (57, cI (p1.Enemies.length : Int)), (58, cI x68), (82, cB false)] [(3, .var (eTView p1) false)] (fun t => aI (s_l1Has_ok p1.Seen v71.At v73 h74) (aI trivial (aI (rfl : ([] : List Nat) = []) (aI c75 (aI c75 (aI c75 (aI c76 (aI c76 (aI c76 (aI c76 (aI c76 (aI c76 (aI c76 (aI c76 (aI c75 (aI c76 (aI c75 (t)))))))))))))))))) (by kernel_rfl) ?_
                      refine ite_f (rfl : (false : Bool) = false) (by kernel_rfl) ?_
                      refine ends_skip ?_
                      change EndsI _ _ _ _ _ _
                      refine one_ops [] [] [(3, .c (.pk 3 0)), (56, .c (dat 4 eTUnit zTUnit p1.Enemies)), (57, cI (p1.Enemies.length : Int)), (58, cI (W (x68 + 1)))] [(3, .var (eTView p1) false)] (fun t => t) (by kernel_rfl) ?_
                      obtain rfl := Option.some.inj H
                      exact And.intro rfl rfl
                · refine ite_f c70 (by kernel_rfl) ?_
                  refine tell [] [] [] (fun t => t) (by kernel_rfl) ?_
                  refine ends_exit ?_
                  obtain rfl := Option.some.inj H
                  exact And.intro (by simp) (And.intro rfl rfl)
              · clear h83
                cases y82 with
                | inl y84 =>
                  replace H := ofInl H
                  intro e s q
                  obtain ⟨rfl, rfl⟩ := q
                  change EndsI _ _ _ _ _ _
                  refine seq_ops [] [] [(4, cB true)] [] (fun t => t) (by kernel_rfl) ?_
                  refine ends_ret ?_
                  obtain rfl := Option.some.inj H
                  exact And.intro (.inl rfl) rfl
                | inr y85 =>
                  replace H := ofInr H
                  intro e s q
                  obtain ⟨rfl, rfl⟩ := q
                  obtain rfl := Option.some.inj H
                  exact And.intro (.inl rfl) rfl

def s_yAsked_ir : S :=
 (.seq (.ops [⟨some 2, .box 12 (.t 0), none⟩, ⟨some 3, .box 6 (.t 1), none⟩, ⟨some 4, .mv (.v (.bool false)), none⟩])
 (.seq (.ops [⟨some 5, .load 12 true (.t 2), none⟩, ⟨some 6, .call 140 [.t 5], none⟩, ⟨some 7, .mv (.t 6), none⟩, ⟨some 8, .load 12 true (.t 2), some (7, true)⟩, ⟨some 9, .load 6 true (.t 3), some (7, true)⟩, ⟨some 10, .call 141 [.t 8, .t 9], some (7, true)⟩, ⟨some 11, .pick (.t 7) (.t 10) (.v (.bool false)), none⟩, ⟨some 4, .mv (.t 11), none⟩])
 .ret))
noncomputable def X.s_yAsked (p0 : TBoard) (p1 : TView) : Option Bool :=
  ((X.s_bGood p0).bind fun v1 => (bif v1 then ((X.s_yGood p0 p1).bind fun v4 => some v4) else some false))
theorem s_yAsked_ok (p0 : TBoard) (p1 : TView) (r : Bool) (H : X.s_yAsked p0 p1 = some r) : FnOk Tryz.prog gl 80 [.agg (eTBoard p0), .agg (eTView p1)] (cB r) := by
  unfold X.s_yAsked at H
  refine fn_in (fn := Tryz.f80) (ir := s_yAsked_ir) (s1 := lit [(4, cB r)] []) glL Tryz.func80 (by kernel_rfl) (by kernel_rfl) (by kernel_rfl) (by kernel_rfl) (by kernel_rfl) ?_
  refine seq_ops [] [] [(2, .c (.pk 2 0)), (3, .c (.pk 3 0))] [(2, .var (eTBoard p0) false), (3, .var (eTView p1) false)] (fun t => t) (by kernel_rfl) ?_
  obtain ⟨v1, h2, H⟩ := ofBind H
  rcases ofCond H with ⟨c3, H⟩ | ⟨c3, H⟩
  · obtain ⟨v4, h5, H⟩ := ofBind H
    refine seq_ops [.res (cB v1), .g true, .g true, .g true, .res (cB v4), .g true] [] [(4, cB v4)] [] (fun t => aI (s_bGood_ok p0 v1 h2) (aI c3 (aI c3 (aI c3 (aI (s_yGood_ok p0 p1 v4 h5) (aI c3 (t))))))) (by kernel_rfl) ?_
    refine ends_ret ?_
    obtain rfl := Option.some.inj H
    exact And.intro (.inl rfl) rfl
  · refine seq_ops [.res (cB v1), .g false, .g false, .g false, .g false] [] [(4, cB false)] [] (fun t => aI (s_bGood_ok p0 v1 h2) (aI c3 (aI c3 (aI c3 (aI c3 (t)))))) (by kernel_rfl) ?_
    refine ends_ret ?_
    obtain rfl := Option.some.inj H
    exact And.intro (.inl rfl) rfl

def s_bAt_ir : S :=
 (.seq (.ops [⟨some 3, .box 12 (.t 0), none⟩, ⟨some 6, .mv (.v (.bool false)), none⟩])
 (.seq (.ops [⟨some 7, .load 12 true (.t 3), none⟩, ⟨some 8, .call 140 [.t 7], none⟩, ⟨some 9, .mv (.t 8), none⟩, ⟨some 10, .mv (.t 1), some (9, true)⟩, ⟨some 11, .fad 0 (.t 3), some (9, true)⟩, ⟨some 12, .fad 1 (.t 11), some (9, true)⟩, ⟨some 13, .load 1 false (.t 12), some (9, true)⟩, ⟨some 14, .len (.t 13), some (9, true)⟩, ⟨some 15, .bin .sub (.t 14) (.v (.int .i64 1)), some (9, true)⟩, ⟨some 16, .call 124 [.t 10, .v (.int .i64 0), .t 15], some (9, true)⟩, ⟨some 17, .pick (.t 9) (.t 16) (.v (.bool false)), none⟩, ⟨some 18, .mv (.t 17), none⟩, ⟨some 19, .mv (.t 2), some (18, true)⟩, ⟨some 20, .fad 7 (.t 3), some (18, true)⟩, ⟨some 21, .load 5 true (.t 20), some (18, true)⟩, ⟨some 22, .call 142 [.t 21], some (18, true)⟩, ⟨some 23, .bin .sub (.t 22) (.v (.int .i64 1)), some (18, true)⟩, ⟨some 24, .call 124 [.t 19, .v (.int .i64 0), .t 23], some (18, true)⟩, ⟨some 25, .pick (.t 18) (.t 24) (.v (.bool false)), none⟩, ⟨some 6, .mv (.t 25), none⟩])
 .ret))
noncomputable def X.s_bAt (p0 : TBoard) (p1 : Int) (p2 : Int) : Option Bool :=
  ((X.s_bGood p0).bind fun v1 => (bif v1 then ((X.s_l1In p1 0 (W ((p0.Rules.Kinds.length : Int) - 1))).bind fun v4 => (bif v4 then ((X.s_mSize p0.Map).bind fun v7 => ((X.s_l1In p2 0 (W (v7 - 1))).bind fun v9 => some v9)) else some false)) else some false))
theorem s_bAt_ok (p0 : TBoard) (p1 : Int) (p2 : Int) (r : Bool) (H : X.s_bAt p0 p1 p2 = some r) : FnOk Tryz.prog gl 92 [.agg (eTBoard p0), cI p1, cI p2] (cB r) := by
  unfold X.s_bAt at H
  refine fn_in (fn := Tryz.f92) (ir := s_bAt_ir) (s1 := lit [(6, cB r)] []) glL Tryz.func92 (by kernel_rfl) (by kernel_rfl) (by kernel_rfl) (by kernel_rfl) (by kernel_rfl) ?_
  refine seq_ops [] [] [(1, cI p1), (2, cI p2), (3, .c (.pk 3 0))] [(3, .var (eTBoard p0) false)] (fun t => t) (by kernel_rfl) ?_
  obtain ⟨v1, h2, H⟩ := ofBind H
  rcases ofCond H with ⟨c3, H⟩ | ⟨c3, H⟩
  · obtain ⟨v4, h5, H⟩ := ofBind H
    rcases ofCond H with ⟨c6, H⟩ | ⟨c6, H⟩
    · obtain ⟨v7, h8, H⟩ := ofBind H
      obtain ⟨v9, h10, H⟩ := ofBind H
      refine seq_ops [.res (cB v1), .g true, .g true, .g true, .g true, .g true, .g true, .g true, .res (cB v4), .g true, .g true, .g true, .g true, .g true, .res (cI v7), .g true, .g true, .res (cB v9), .g true] [] [(6, cB v9)] [] (fun t => aI (s_bGood_ok p0 v1 h2) (aI c3 (aI c3 (aI c3 (aI c3 (aI c3 (lI p0.Rules.Kinds (aI c3 (aI c3 (aI (s_l1In_ok p1 0 (W ((p0.Rules.Kinds.length : Int) - 1)) v4 h5) (aI c3 (aI c6 (aI c6 (aI c6 (aI c6 (aI (s_mSize_ok p0.Map v7 h8) (aI c6 (aI c6 (aI (s_l1In_ok p2 0 (W (v7 - 1)) v9 h10) (aI c6 (t))))))))))))))))))))) (by kernel_rfl) ?_
      refine ends_ret ?_
      obtain rfl := Option.some.inj H
      exact And.intro (.inl rfl) rfl
    · refine seq_ops [.res (cB v1), .g true, .g true, .g true, .g true, .g true, .g true, .g true, .res (cB v4), .g true, .g false, .g false, .g false, .g false, .g false, .g false, .g false] [] [(6, cB false)] [] (fun t => aI (s_bGood_ok p0 v1 h2) (aI c3 (aI c3 (aI c3 (aI c3 (aI c3 (lI p0.Rules.Kinds (aI c3 (aI c3 (aI (s_l1In_ok p1 0 (W ((p0.Rules.Kinds.length : Int) - 1)) v4 h5) (aI c3 (aI c6 (aI c6 (aI c6 (aI c6 (aI c6 (aI c6 (aI c6 (t))))))))))))))))))) (by kernel_rfl) ?_
      refine ends_ret ?_
      obtain rfl := Option.some.inj H
      exact And.intro (.inl rfl) rfl
  · refine seq_ops [.res (cB v1), .g false, .g false, .g false, .g false, .g false, .g false, .g false, .g false, .g false, .g false, .g false, .g false, .g false, .g false, .g false] [] [(6, cB false)] [] (fun t => aI (s_bGood_ok p0 v1 h2) (aI c3 (aI c3 (aI c3 (aI c3 (aI c3 (aI c3 (aI c3 (aI c3 (aI (rfl : (false : Bool) = false) (aI (rfl : (false : Bool) = false) (aI (rfl : (false : Bool) = false) (aI (rfl : (false : Bool) = false) (aI (rfl : (false : Bool) = false) (aI (rfl : (false : Bool) = false) (aI (rfl : (false : Bool) = false) (t))))))))))))))))) (by kernel_rfl) ?_
    refine ends_ret ?_
    obtain rfl := Option.some.inj H
    exact And.intro (.inl rfl) rfl

def s_yUnseen_ir : S :=
 (.seq (.ops [⟨some 2, .box 12 (.t 0), none⟩, ⟨some 3, .box 6 (.t 1), none⟩, ⟨some 4, .mv (.v (.nil)), none⟩])
 (.seq (.ops [⟨some 5, .mv (.v (.nil)), none⟩])
 (.seq (.seq (.ops [⟨some 6, .mv (.v (.int .i64 0)), none⟩])
 (.blk 0 (.loop (.seq (.seq (.ops [⟨some 7, .mv (.t 6), none⟩, ⟨some 8, .fad 7 (.t 2), none⟩, ⟨some 9, .load 5 true (.t 8), none⟩, ⟨some 10, .call 142 [.t 9], none⟩, ⟨some 11, .bin .lss (.t 7) (.t 10), none⟩])
   (.ite (.t 11) .skip
   (.exit 0)))
   (.seq (.blk 1 (.seq (.ops [⟨some 14, .fad 3 (.t 3), none⟩, ⟨some 15, .load 1 false (.t 14), none⟩, ⟨some 16, .mv (.t 6), none⟩, ⟨some 17, .call 106 [.t 15, .t 16], none⟩, ⟨some 18, .not (.t 17), none⟩])
    (.ite (.t 18) (.ops [⟨some 19, .mv (.t 5), none⟩, ⟨some 20, .mv (.t 6), none⟩, ⟨some 21, .bsl 1 [.t 20], none⟩, ⟨some 22, .app 1 8 (.t 19) (.t 21), none⟩, ⟨some 5, .mv (.t 22), none⟩])
    .skip)))
   (.ops [⟨some 12, .mv (.t 6), none⟩, ⟨some 13, .bin .add (.t 12) (.v (.int .i64 1)), none⟩, ⟨some 6, .mv (.t 13), none⟩]))))))
 (.seq (.ops [⟨some 23, .mv (.t 5), none⟩, ⟨some 4, .mv (.t 23), none⟩])
 .ret))))
noncomputable def X.s_yUnseen (p0 : TBoard) (p1 : TView) : Option (List Int) :=
  ((loop (fun (x22 : (Int × (List Int))) => (((X.s_mSize p0.Map).bind fun v26 => (bif (decide (x22.1 < v26)) then ((X.s_l1Has p1.Seen x22.1).bind fun v29 => (bif (!v29) then (if (x22.2 ++ ([x22.1] : List Int)).length ≤ LIM then some (Sum.inl ((W (x22.1 + 1)), (x22.2 ++ ([x22.1] : List Int)))) else none) else some (Sum.inl ((W (x22.1 + 1)), x22.2)))) else some (Sum.inr x22.2))) : Option ((Int × (List Int)) ⊕ (List Int)))) (0, ([] : List Int))).bind fun y33 => some y33)
theorem s_yUnseen_ok (p0 : TBoard) (p1 : TView) (r : (List Int)) (H : X.s_yUnseen p0 p1 = some r) : FnOk Tryz.prog gl 81 [.agg (eTBoard p0), .agg (eTView p1)] (.c (dat 1 eI zI r)) := by
  unfold X.s_yUnseen at H
  refine fn_in (fn := Tryz.f81) (ir := s_yUnseen_ir) (s1 := lit [(4, .c (dat 1 eI zI r))] []) glL Tryz.func81 (by kernel_rfl) (by kernel_rfl) (by kernel_rfl) (by kernel_rfl) (by kernel_rfl) ?_
  refine seq_ops [] [] [(2, .c (.pk 2 0)), (3, .c (.pk 3 0))] [(2, .var (eTBoard p0) false), (3, .var (eTView p1) false)] (fun t => t) (by kernel_rfl) ?_
  refine seq_ops [] [] [(2, .c (.pk 2 0)), (3, .c (.pk 3 0)), (5, .c (.nil))] [(2, .var (eTBoard p0) false), (3, .var (eTView p1) false)] (fun t => t) (by kernel_rfl) ?_
  refine seq_in ?_
  refine seq_ops [] [] [(2, .c (.pk 2 0)), (3, .c (.pk 3 0)), (5, .c (.nil)), (6, cI 0)] [(2, .var (eTBoard p0) false), (3, .var (eTView p1) false)] (fun t => t) (by kernel_rfl) ?_
  refine ends_blk ?_
  obtain ⟨y33, h34, H⟩ := ofBind H
  refine tell [.nlo 5 1001 1 (fF eI zI ([] : List Int))] [(2, .c (.pk 2 0)), (3, .c (.pk 3 0)), (5, .c (.own 1001 1 0 (([] : List Int).length))), (6, cI 0)] [(2, .var (eTBoard p0) false), (3, .var (eTView p1) false), (1001, .arr 1 (([] : List Int).length) (fF eI zI ([] : List Int)) false)] (fun t => aI (by decide : 0 < 1) (t)) (by kernel_rfl) ?_
  refine loop_in (fun (x : (Int × (List Int))) => lit [(2, .c (.pk 2 0)), (3, .c (.pk 3 0)), (5, .c (.own 1001 1 0 x.2.length)), (6, cI x.1)] [(2, .var (eTBoard p0) false), (3, .var (eTView p1) false), (1001, .arr 1 x.2.length (fF eI zI x.2) false)]) (fun (z : (List Int)) => At (.exit 0) (lit [(5, .c (.own 1001 1 0 z.length))] [(1001, .arr 1 z.length (fF eI zI z) false)])) h34 ?_ ?_
  · clear H h34
    intro x22 y0 H
    refine seq_in ?_
    obtain ⟨v26, h27, H⟩ := ofBind H
    refine seq_ops [.res (cI v26)] [] [(2, .c (.pk 2 0)), (3, .c (.pk 3 0)), (5, .c (.own 1001 1 0 x22.2.length)), (6, cI x22.1), (11, cB (decide (x22.1 < v26)))] [(2, .var (eTBoard p0) false), (3, .var (eTView p1) false), (1001, .arr 1 x22.2.length (fF eI zI x22.2) false)] (fun t => aI (s_mSize_ok p0.Map v26 h27) (t)) (by kernel_rfl) ?_
    rcases ofCond H with ⟨c28, H⟩ | ⟨c28, H⟩
    · refine ite_t c28 (by kernel_rfl) ?_
      refine ends_skip ?_
      change EndsI _ _ _ _ _ _
      refine seq_in ?_
      refine ends_blk ?_
      obtain ⟨v29, h30, H⟩ := ofBind H
      refine seq_ops [.res (cB v29)] [] [(2, .c (.pk 2 0)), (3, .c (.pk 3 0)), (5, .c (.own 1001 1 0 x22.2.length)), (6, cI x22.1), (18, cB (!v29))] [(2, .var (eTBoard p0) false), (3, .var (eTView p1) false), (1001, .arr 1 x22.2.length (fF eI zI x22.2) false)] (fun t => aI (s_l1Has_ok p1.Seen x22.1 v29 h30) (t)) (by kernel_rfl) ?_
      rcases ofCond H with ⟨c31, H⟩ | ⟨c31, H⟩
      · refine ite_t c31 (by kernel_rfl) ?_
        obtain ⟨g32, H⟩ := ofIf H
        refine one_ops [.fn ([x22.1] : List Int).length (fF eI zI ([x22.1] : List Int)), .fn (x22.2 ++ ([x22.1] : List Int)).length (fF eI zI (x22.2 ++ ([x22.1] : List Int)))] [] [(2, .c (.pk 2 0)), (3, .c (.pk 3 0)), (5, .c (.own 22 1 0 ((x22.2 ++ ([x22.1] : List Int)).length))), (6, cI x22.1)] [(2, .var (eTBoard p0) false), (3, .var (eTView p1) false), (22, .arr 1 ((x22.2 ++ ([x22.1] : List Int)).length) (fF eI zI (x22.2 ++ ([x22.1] : List Int))) false)] (fun t => aI (rfl : ([x22.1] : List Int).length = 1) (aI (fF_lit eI zI ([x22.1] : List Int)) (aI (And.intro (Nat.le_refl x22.2.length) (And.intro (@List.length_append _ x22.2 ([x22.1] : List Int)) g32)) (aI (fF_appL eI zI x22.2 ([x22.1] : List Int)) (aI (fF_appR eI zI x22.2 ([x22.1] : List Int)) (t)))))) (by kernel_rfl) ?_
        change EndsI _ _ _ _ _ _
        refine one_ops [] [.ren 22 1001] [(2, .c (.pk 2 0)), (3, .c (.pk 3 0)), (5, .c (.own 1001 1 0 ((x22.2 ++ ([x22.1] : List Int)).length))), (6, cI (W (x22.1 + 1)))] [(2, .var (eTBoard p0) false), (3, .var (eTView p1) false), (1001, .arr 1 ((x22.2 ++ ([x22.1] : List Int)).length) (fF eI zI (x22.2 ++ ([x22.1] : List Int))) false)] (fun t => t) (by kernel_rfl) ?_
        obtain rfl := Option.some.inj H
        exact And.intro rfl rfl
      · refine ite_f c31 (by kernel_rfl) ?_
        refine ends_skip ?_
        change EndsI _ _ _ _ _ _
        refine one_ops [] [] [(2, .c (.pk 2 0)), (3, .c (.pk 3 0)), (5, .c (.own 1001 1 0 x22.2.length)), (6, cI (W (x22.1 + 1)))] [(2, .var (eTBoard p0) false), (3, .var (eTView p1) false), (1001, .arr 1 x22.2.length (fF eI zI x22.2) false)] (fun t => t) (by kernel_rfl) ?_
        obtain rfl := Option.some.inj H
        exact And.intro rfl rfl
    · refine ite_f c28 (by kernel_rfl) ?_
      refine tell [] [(5, .c (.own 1001 1 0 x22.2.length))] [(1001, .arr 1 x22.2.length (fF eI zI x22.2) false)] (fun t => t) (by kernel_rfl) ?_
      refine ends_exit ?_
      obtain rfl := Option.some.inj H
      exact And.intro (by simp) (And.intro rfl rfl)
  · clear h34
    intro e s q
    obtain ⟨rfl, rfl⟩ := q
    change EndsI _ _ _ _ _ _
    refine seq_ops [] [] [(4, .c (.own 1001 1 0 y33.length))] [(1001, .arr 1 y33.length (fF eI zI y33) false)] (fun t => t) (by kernel_rfl) ?_
    refine tell [.frz 4] [(4, .c (dat 1 eI zI y33))] [] (fun t => aI (Nat.le_refl y33.length) (t)) (by kernel_rfl) ?_
    refine ends_ret ?_
    obtain rfl := Option.some.inj H
    exact And.intro (.inl rfl) rfl

def s_yHide_ir : S :=
 (.seq (.ops [⟨some 3, .box 12 (.t 0), none⟩, ⟨some 4, .box 6 (.t 1), none⟩, ⟨some 6, .mv (.v (.nil)), none⟩])
 (.seq (.ops [⟨some 7, .mv (.v (.nil)), none⟩])
 (.seq (.seq (.ops [⟨some 13, .load 12 true (.t 3), none⟩, ⟨some 14, .load 6 true (.t 4), none⟩, ⟨some 15, .call 81 [.t 13, .t 14], none⟩, ⟨some 16, .len (.t 15), none⟩, ⟨some 17, .mv (.v (.int .i64 0)), none⟩])
 (.blk 0 (.loop (.seq (.ops [⟨some 18, .bin .lss (.t 17) (.t 16), none⟩])
   (.seq (.ite (.t 18) .skip
   (.exit 0))
   (.seq (.blk 1 (.seq (.ops [⟨some 19, .iad 1 (.t 15) (.t 17), none⟩, ⟨some 20, .load 1 false (.t 19), none⟩, ⟨some 9, .mv (.t 20), none⟩])
    (.seq (.ops [⟨some 21, .load 12 true (.t 3), none⟩, ⟨some 22, .mv (.t 2), none⟩, ⟨some 23, .mv (.t 9), none⟩, ⟨some 24, .call 153 [.t 21, .t 22, .t 23], none⟩, ⟨some 25, .bin .gtr (.t 24) (.v (.int .i64 0)), none⟩, ⟨some 10, .mv (.t 25), none⟩])
    (.seq (.seq (.ops [⟨some 26, .fad 4 (.t 4), none⟩, ⟨some 27, .load 1 false (.t 26), none⟩, ⟨some 28, .len (.t 27), none⟩, ⟨some 29, .mv (.v (.int .i64 0)), none⟩])
    (.blk 2 (.loop (.seq (.ops [⟨some 30, .bin .lss (.t 29) (.t 28), none⟩])
      (.seq (.ite (.t 30) .skip
      (.exit 2))
      (.seq (.blk 3 (.seq (.ops [⟨some 31, .iad 4 (.t 27) (.t 29), none⟩, ⟨some 32, .load 4 true (.t 31), none⟩, ⟨some 12, .alloc [.int .i64 0, .int .i64 0, .int .i64 0, .int .i64 0], none⟩, ⟨none, .store 4 (.t 12) (.t 32), none⟩])
       (.ops [⟨some 33, .mv (.t 10), none⟩, ⟨some 34, .mv (.t 33), none⟩, ⟨some 35, .fad 2 (.t 12), some (34, true)⟩, ⟨some 36, .load 1 false (.t 35), some (34, true)⟩, ⟨some 37, .mv (.t 9), some (34, true)⟩, ⟨some 38, .bin .neq (.t 36) (.t 37), some (34, true)⟩, ⟨some 39, .pick (.t 34) (.t 38) (.v (.bool false)), none⟩, ⟨some 10, .mv (.t 39), none⟩])))
      (.ops [⟨some 40, .bin .add (.t 29) (.v (.int .i64 1)), none⟩, ⟨some 29, .mv (.t 40), none⟩])))))))
    (.seq (.ops [⟨some 41, .mv (.t 10), none⟩])
    (.ite (.t 41) (.ops [⟨some 42, .mv (.t 7), none⟩, ⟨some 43, .mv (.t 9), none⟩, ⟨some 44, .bsl 1 [.t 43], none⟩, ⟨some 45, .app 1 8 (.t 42) (.t 44), none⟩, ⟨some 7, .mv (.t 45), none⟩])
    .skip))))))
   (.ops [⟨some 46, .bin .add (.t 17) (.v (.int .i64 1)), none⟩, ⟨some 17, .mv (.t 46), none⟩])))))))
 (.seq (.ops [⟨some 47, .mv (.t 7), none⟩, ⟨some 6, .mv (.t 47), none⟩])
 .ret))))
noncomputable def X.s_yHide (p0 : TBoard) (p1 : TView) (p2 : Int) : Option (List Int) :=
  ((X.s_yUnseen p0 p1).bind fun v1 => ((loop (fun (x96 : (Int × (List Int))) => ((bif (decide (x96.1 < (v1.length : Int))) then ((at' zI v1 x96.1).bind fun v99 => ((X.s_bCost p0 p2 v99).bind fun v101 => ((loop (fun (x133 : (Bool × Int × (List Int))) => ((bif (decide (x133.2.1 < (p1.Own.length : Int))) then ((at' zTUnit p1.Own x133.2.1).bind fun v136 => (bif x133.1 then some (Sum.inl ((v136.At != v99), (W (x133.2.1 + 1)), x133.2.2)) else some (Sum.inl (false, (W (x133.2.1 + 1)), x133.2.2)))) else some (Sum.inr (x133.1, x133.2.2))) : Option ((Bool × Int × (List Int)) ⊕ (Bool × (List Int))))) ((decide (v101 > 0)), 0, x96.2)).bind fun y139 => (bif y139.1 then (if (y139.2 ++ ([v99] : List Int)).length ≤ LIM then some (Sum.inl ((W (x96.1 + 1)), (y139.2 ++ ([v99] : List Int)))) else none) else some (Sum.inl ((W (x96.1 + 1)), y139.2)))))) else some (Sum.inr x96.2)) : Option ((Int × (List Int)) ⊕ (List Int)))) (0, ([] : List Int))).bind fun y143 => some y143))
theorem s_yHide_ok (p0 : TBoard) (p1 : TView) (p2 : Int) (r : (List Int)) (H : X.s_yHide p0 p1 p2 = some r) : FnOk Tryz.prog gl 93 [.agg (eTBoard p0), .agg (eTView p1), cI p2] (.c (dat 1 eI zI r)) := by
  unfold X.s_yHide at H
  refine fn_in (fn := Tryz.f93) (ir := s_yHide_ir) (s1 := lit [(6, .c (dat 1 eI zI r))] []) glL Tryz.func93 (by kernel_rfl) (by kernel_rfl) (by kernel_rfl) (by kernel_rfl) (by kernel_rfl) ?_
  refine seq_ops [] [] [(2, cI p2), (3, .c (.pk 3 0)), (4, .c (.pk 4 0))] [(3, .var (eTBoard p0) false), (4, .var (eTView p1) false)] (fun t => t) (by kernel_rfl) ?_
  refine seq_ops [] [] [(2, cI p2), (3, .c (.pk 3 0)), (4, .c (.pk 4 0)), (7, .c (.nil))] [(3, .var (eTBoard p0) false), (4, .var (eTView p1) false)] (fun t => t) (by kernel_rfl) ?_
  refine seq_in ?_
  obtain ⟨v1, h2, H⟩ := ofBind H
  refine seq_ops [.res (.c (dat 1 eI zI v1))] [] [(2, cI p2), (3, .c (.pk 3 0)), (4, .c (.pk 4 0)), (7, .c (.nil)), (15, .c (dat 1 eI zI v1)), (16, cI (v1.length : Int)), (17, cI 0)] [(3, .var (eTBoard p0) false), (4, .var (eTView p1) false)] (fun t => aI (s_yUnseen_ok p0 p1 v1 h2) (lI v1 (t))) (by kernel_rfl) ?_
  refine ends_blk ?_
  obtain ⟨y143, h144, H⟩ := ofBind H
  refine tell [.nlo 7 1001 1 (fF eI zI ([] : List Int))] [(2, cI p2), (3, .c (.pk 3 0)), (4, .c (.pk 4 0)), (7, .c (.own 1001 1 0 (([] : List Int).length))), (15, .c (dat 1 eI zI v1)), (16, cI (v1.length : Int)), (17, cI 0)] [(3, .var (eTBoard p0) false), (4, .var (eTView p1) false), (1001, .arr 1 (([] : List Int).length) (fF eI zI ([] : List Int)) false)] (fun t => aI (by decide : 0 < 1) (t)) (by kernel_rfl) ?_
  refine loop_in (fun (x : (Int × (List Int))) => lit [(2, cI p2), (3, .c (.pk 3 0)), (4, .c (.pk 4 0)), (7, .c (.own 1001 1 0 x.2.length)), (15, .c (dat 1 eI zI v1)), (16, cI (v1.length : Int)), (17, cI x.1)] [(3, .var (eTBoard p0) false), (4, .var (eTView p1) false), (1001, .arr 1 x.2.length (fF eI zI x.2) false)]) (fun (z : (List Int)) => At (.exit 0) (lit [(7, .c (.own 1001 1 0 z.length))] [(1001, .arr 1 z.length (fF eI zI z) false)])) h144 ?_ ?_
  · clear H h144
    intro x96 y0 H
    refine seq_ops [] [] [(2, cI p2), (3, .c (.pk 3 0)), (4, .c (.pk 4 0)), (7, .c (.own 1001 1 0 x96.2.length)), (15, .c (dat 1 eI zI v1)), (16, cI (v1.length : Int)), (17, cI x96.1), (18, cB (decide (x96.1 < (v1.length : Int))))] [(3, .var (eTBoard p0) false), (4, .var (eTView p1) false), (1001, .arr 1 x96.2.length (fF eI zI x96.2) false)] (fun t => t) (by kernel_rfl) ?_
    refine seq_in ?_
    rcases ofCond H with ⟨c98, H⟩ | ⟨c98, H⟩
    · refine ite_t c98 (by kernel_rfl) ?_
      refine ends_skip ?_
      change EndsI _ _ _ _ _ _
      refine seq_in ?_
      refine ends_blk ?_
      obtain ⟨v99, h100, H⟩ := ofBind H
      refine seq_ops [.cs (eI v99)] [] [(2, cI p2), (3, .c (.pk 3 0)), (4, .c (.pk 4 0)), (7, .c (.own 1001 1 0 x96.2.length)), (9, cI v99), (15, .c (dat 1 eI zI v1)), (16, cI (v1.length : Int)), (17, cI x96.1)] [(3, .var (eTBoard p0) false), (4, .var (eTView p1) false), (1001, .arr 1 x96.2.length (fF eI zI x96.2) false)] (fun t => aI (at_lt h100) (aI (at_enc (enc := eI) h100) (t))) (by kernel_rfl) ?_
      obtain ⟨v101, h102, H⟩ := ofBind H
      refine seq_ops [.res (cI v101)] [] [(2, cI p2), (3, .c (.pk 3 0)), (4, .c (.pk 4 0)), (7, .c (.own 1001 1 0 x96.2.length)), (9, cI v99), (10, cB (decide (v101 > 0))), (15, .c (dat 1 eI zI v1)), (16, cI (v1.length : Int)), (17, cI x96.1)] [(3, .var (eTBoard p0) false), (4, .var (eTView p1) false), (1001, .arr 1 x96.2.length (fF eI zI x96.2) false)] (fun t => aI (s_bCost_ok p0 p2 v99 v101 h102) (t)) (by kernel_rfl) ?_
      refine seq_in ?_
      refine seq_ops [] [] [(2, cI p2), (3, .c (.pk 3 0)), (4, .c (.pk 4 0)), (7, .c (.own 1001 1 0 x96.2.length)), (9, cI v99), (10, cB (decide (v101 > 0))), (15, .c (dat 1 eI zI v1)), (16, cI (v1.length : Int)), (17, cI x96.1), (27, .c (dat 4 eTUnit zTUnit p1.Own)), (28, cI (p1.Own.length : Int)), (29, cI 0)] [(3, .var (eTBoard p0) false), (4, .var (eTView p1) false), (1001, .arr 1 x96.2.length (fF eI zI x96.2) false)] (fun t => lI p1.Own (t)) (by kernel_rfl) ?_
      refine ends_blk ?_
      obtain ⟨y139, h140, H⟩ := ofBind H
      refine loop_in (fun (x : (Bool × Int × (List Int))) => lit [(2, cI p2), (3, .c (.pk 3 0)), (4, .c (.pk 4 0)), (7, .c (.own 1001 1 0 x.2.2.length)), (9, cI v99), (10, cB x.1), (15, .c (dat 1 eI zI v1)), (16, cI (v1.length : Int)), (17, cI x96.1), (27, .c (dat 4 eTUnit zTUnit p1.Own)), (28, cI (p1.Own.length : Int)), (29, cI x.2.1)] [(3, .var (eTBoard p0) false), (4, .var (eTView p1) false), (1001, .arr 1 x.2.2.length (fF eI zI x.2.2) false)]) (fun (z : (Bool × (List Int))) => At (.exit 2) (lit [(2, cI p2), (3, .c (.pk 3 0)), (4, .c (.pk 4 0)), (7, .c (.own 1001 1 0 z.2.length)), (9, cI v99), (10, cB z.1), (15, .c (dat 1 eI zI v1)), (16, cI (v1.length : Int)), (17, cI x96.1)] [(3, .var (eTBoard p0) false), (4, .var (eTView p1) false), (1001, .arr 1 z.2.length (fF eI zI z.2) false)])) h140 ?_ ?_
      · clear H h140
        intro x133 y0 H
        refine seq_ops [] [] [(2, cI p2), (3, .c (.pk 3 0)), (4, .c (.pk 4 0)), (7, .c (.own 1001 1 0 x133.2.2.length)), (9, cI v99), (10, cB x133.1), (15, .c (dat 1 eI zI v1)), (16, cI (v1.length : Int)), (17, cI x96.1), (27, .c (dat 4 eTUnit zTUnit p1.Own)), (28, cI (p1.Own.length : Int)), (29, cI x133.2.1), (30, cB (decide (x133.2.1 < (p1.Own.length : Int))))] [(3, .var (eTBoard p0) false), (4, .var (eTView p1) false), (1001, .arr 1 x133.2.2.length (fF eI zI x133.2.2) false)] (fun t => t) (by kernel_rfl) ?_
        refine seq_in ?_
        rcases ofCond H with ⟨c135, H⟩ | ⟨c135, H⟩
        · refine ite_t c135 (by kernel_rfl) ?_
          refine ends_skip ?_
          change EndsI _ _ _ _ _ _
          refine seq_in ?_
          refine ends_blk ?_
          obtain ⟨v136, h137, H⟩ := ofBind H
          refine seq_ops [.cs (eTUnit v136)] [] [(2, cI p2), (3, .c (.pk 3 0)), (4, .c (.pk 4 0)), (7, .c (.own 1001 1 0 x133.2.2.length)), (9, cI v99), (10, cB x133.1), (12, .c (.pk 12 0)), (15, .c (dat 1 eI zI v1)), (16, cI (v1.length : Int)), (17, cI x96.1), (27, .c (dat 4 eTUnit zTUnit p1.Own)), (28, cI (p1.Own.length : Int)), (29, cI x133.2.1)] [(3, .var (eTBoard p0) false), (4, .var (eTView p1) false), (12, .var (eTUnit v136) false), (1001, .arr 1 x133.2.2.length (fF eI zI x133.2.2) false)] (fun t => aI (at_lt h137) (aI (at_enc (enc := eTUnit) h137) (t))) (by kernel_rfl) ?_
          rcases ofCond H with ⟨c138, H⟩ | ⟨c138, H⟩
          · refine one_ops [.g true, .g true, .g true, .g true, .g true] [] [(2, cI p2), (3, .c (.pk 3 0)), (4, .c (.pk 4 0)), (7, .c (.own 1001 1 0 x133.2.2.length)), (9, cI v99), (10, cB (v136.At != v99)), (15, .c (dat 1 eI zI v1)), (16, cI (v1.length : Int)), (17, cI x96.1), (27, .c (dat 4 eTUnit zTUnit p1.Own)), (28, cI (p1.Own.length : Int)), (29, cI x133.2.1)] [(3, .var (eTBoard p0) false), (4, .var (eTView p1) false), (1001, .arr 1 x133.2.2.length (fF eI zI x133.2.2) false)] (fun t => aI c138 (aI c138 (aI c138 (aI c138 (aI c138 (t)))))) (by kernel_rfl) ?_
            change EndsI _ _ _ _ _ _
            refine one_ops [] [] [(2, cI p2), (3, .c (.pk 3 0)), (4, .c (.pk 4 0)), (7, .c (.own 1001 1 0 x133.2.2.length)), (9, cI v99), (10, cB (v136.At != v99)), (15, .c (dat 1 eI zI v1)), (16, cI (v1.length : Int)), (17, cI x96.1), (27, .c (dat 4 eTUnit zTUnit p1.Own)), (28, cI (p1.Own.length : Int)), (29, cI (W (x133.2.1 + 1)))] [(3, .var (eTBoard p0) false), (4, .var (eTView p1) false), (1001, .arr 1 x133.2.2.length (fF eI zI x133.2.2) false)] (fun t => t) (by kernel_rfl) ?_
            obtain rfl := Option.some.inj H
            exact And.intro rfl rfl
          · refine one_ops [.g false, .g false, .g false, .g false, .g false] [] [(2, cI p2), (3, .c (.pk 3 0)), (4, .c (.pk 4 0)), (7, .c (.own 1001 1 0 x133.2.2.length)), (9, cI v99), (10, cB false), (15, .c (dat 1 eI zI v1)), (16, cI (v1.length : Int)), (17, cI x96.1), (27, .c (dat 4 eTUnit zTUnit p1.Own)), (28, cI (p1.Own.length : Int)), (29, cI x133.2.1)] [(3, .var (eTBoard p0) false), (4, .var (eTView p1) false), (1001, .arr 1 x133.2.2.length (fF eI zI x133.2.2) false)] (fun t => aI c138 (aI c138 (aI c138 (aI c138 (aI c138 (t)))))) (by kernel_rfl) ?_
            change EndsI _ _ _ _ _ _
            refine one_ops [] [] [(2, cI p2), (3, .c (.pk 3 0)), (4, .c (.pk 4 0)), (7, .c (.own 1001 1 0 x133.2.2.length)), (9, cI v99), (10, cB false), (15, .c (dat 1 eI zI v1)), (16, cI (v1.length : Int)), (17, cI x96.1), (27, .c (dat 4 eTUnit zTUnit p1.Own)), (28, cI (p1.Own.length : Int)), (29, cI (W (x133.2.1 + 1)))] [(3, .var (eTBoard p0) false), (4, .var (eTView p1) false), (1001, .arr 1 x133.2.2.length (fF eI zI x133.2.2) false)] (fun t => t) (by kernel_rfl) ?_
            obtain rfl := Option.some.inj H
            exact And.intro rfl rfl
        · refine ite_f c135 (by kernel_rfl) ?_
          refine tell [] [(2, cI p2), (3, .c (.pk 3 0)), (4, .c (.pk 4 0)), (7, .c (.own 1001 1 0 x133.2.2.length)), (9, cI v99), (10, cB x133.1), (15, .c (dat 1 eI zI v1)), (16, cI (v1.length : Int)), (17, cI x96.1)] [(3, .var (eTBoard p0) false), (4, .var (eTView p1) false), (1001, .arr 1 x133.2.2.length (fF eI zI x133.2.2) false)] (fun t => t) (by kernel_rfl) ?_
          refine ends_exit ?_
          obtain rfl := Option.some.inj H
          exact And.intro (by simp) (And.intro rfl rfl)
      · clear h140
        intro e s q
        obtain ⟨rfl, rfl⟩ := q
        change EndsI _ _ _ _ _ _
        refine seq_ops [] [] [(2, cI p2), (3, .c (.pk 3 0)), (4, .c (.pk 4 0)), (7, .c (.own 1001 1 0 y139.2.length)), (9, cI v99), (15, .c (dat 1 eI zI v1)), (16, cI (v1.length : Int)), (17, cI x96.1), (41, cB y139.1)] [(3, .var (eTBoard p0) false), (4, .var (eTView p1) false), (1001, .arr 1 y139.2.length (fF eI zI y139.2) false)] (fun t => t) (by kernel_rfl) ?_
        rcases ofCond H with ⟨c141, H⟩ | ⟨c141, H⟩
        · refine ite_t c141 (by kernel_rfl) ?_
          obtain ⟨g142, H⟩ := ofIf H
          refine one_ops [.fn ([v99] : List Int).length (fF eI zI ([v99] : List Int)), .fn (y139.2 ++ ([v99] : List Int)).length (fF eI zI (y139.2 ++ ([v99] : List Int)))] [] [(2, cI p2), (3, .c (.pk 3 0)), (4, .c (.pk 4 0)), (7, .c (.own 45 1 0 ((y139.2 ++ ([v99] : List Int)).length))), (15, .c (dat 1 eI zI v1)), (16, cI (v1.length : Int)), (17, cI x96.1)] [(3, .var (eTBoard p0) false), (4, .var (eTView p1) false), (45, .arr 1 ((y139.2 ++ ([v99] : List Int)).length) (fF eI zI (y139.2 ++ ([v99] : List Int))) false)] (fun t => aI (rfl : ([v99] : List Int).length = 1) (aI (fF_lit eI zI ([v99] : List Int)) (aI (And.intro (Nat.le_refl y139.2.length) (And.intro (@List.length_append _ y139.2 ([v99] : List Int)) g142)) (aI (fF_appL eI zI y139.2 ([v99] : List Int)) (aI (fF_appR eI zI y139.2 ([v99] : List Int)) (t)))))) (by kernel_rfl) ?_
          change EndsI _ _ _ _ _ _
          refine one_ops [] [.ren 45 1001] [(2, cI p2), (3, .c (.pk 3 0)), (4, .c (.pk 4 0)), (7, .c (.own 1001 1 0 ((y139.2 ++ ([v99] : List Int)).length))), (15, .c (dat 1 eI zI v1)), (16, cI (v1.length : Int)), (17, cI (W (x96.1 + 1)))] [(3, .var (eTBoard p0) false), (4, .var (eTView p1) false), (1001, .arr 1 ((y139.2 ++ ([v99] : List Int)).length) (fF eI zI (y139.2 ++ ([v99] : List Int))) false)] (fun t => t) (by kernel_rfl) ?_
          obtain rfl := Option.some.inj H
          exact And.intro rfl rfl
        · refine ite_f c141 (by kernel_rfl) ?_
          refine ends_skip ?_
          change EndsI _ _ _ _ _ _
          refine one_ops [] [] [(2, cI p2), (3, .c (.pk 3 0)), (4, .c (.pk 4 0)), (7, .c (.own 1001 1 0 y139.2.length)), (15, .c (dat 1 eI zI v1)), (16, cI (v1.length : Int)), (17, cI (W (x96.1 + 1)))] [(3, .var (eTBoard p0) false), (4, .var (eTView p1) false), (1001, .arr 1 y139.2.length (fF eI zI y139.2) false)] (fun t => t) (by kernel_rfl) ?_
          obtain rfl := Option.some.inj H
          exact And.intro rfl rfl
    · refine ite_f c98 (by kernel_rfl) ?_
      refine tell [] [(7, .c (.own 1001 1 0 x96.2.length))] [(1001, .arr 1 x96.2.length (fF eI zI x96.2) false)] (fun t => t) (by kernel_rfl) ?_
      refine ends_exit ?_
      obtain rfl := Option.some.inj H
      exact And.intro (by simp) (And.intro rfl rfl)
  · clear h144
    intro e s q
    obtain ⟨rfl, rfl⟩ := q
    change EndsI _ _ _ _ _ _
    refine seq_ops [] [] [(6, .c (.own 1001 1 0 y143.length))] [(1001, .arr 1 y143.length (fF eI zI y143) false)] (fun t => t) (by kernel_rfl) ?_
    refine tell [.frz 6] [(6, .c (dat 1 eI zI y143))] [] (fun t => aI (Nat.le_refl y143.length) (t)) (by kernel_rfl) ?_
    refine ends_ret ?_
    obtain rfl := Option.some.inj H
    exact And.intro (.inl rfl) rfl

def s_MayHide_ir : S :=
 (.seq (.ops [⟨some 3, .box 12 (.t 0), none⟩, ⟨some 4, .box 6 (.t 1), none⟩, ⟨some 6, .mv (.v (.nil)), none⟩, ⟨some 7, .mv (.v (.bool false)), none⟩])
 (.seq (.seq (.ops [⟨some 8, .load 12 true (.t 3), none⟩, ⟨some 9, .load 6 true (.t 4), none⟩, ⟨some 10, .call 80 [.t 8, .t 9], none⟩, ⟨some 11, .not (.t 10), none⟩, ⟨some 12, .mv (.t 11), none⟩, ⟨some 13, .load 12 true (.t 3), some (12, false)⟩, ⟨some 14, .mv (.t 2), some (12, false)⟩, ⟨some 15, .call 92 [.t 13, .t 14, .v (.int .i64 0)], some (12, false)⟩, ⟨some 16, .not (.t 15), some (12, false)⟩, ⟨some 17, .pick (.t 12) (.v (.bool true)) (.t 16), none⟩])
 (.ite (.t 17) (.seq (.ops [⟨some 6, .mv (.v (.nil)), none⟩, ⟨some 7, .mv (.v (.bool false)), none⟩])
  .ret)
 .skip))
 (.seq (.ops [⟨some 18, .load 12 true (.t 3), none⟩, ⟨some 19, .load 6 true (.t 4), none⟩, ⟨some 20, .mv (.t 2), none⟩, ⟨some 21, .call 93 [.t 18, .t 19, .t 20], none⟩, ⟨some 6, .mv (.t 21), none⟩, ⟨some 7, .mv (.v (.bool true)), none⟩])
 .ret)))
noncomputable def X.s_MayHide (p0 : TBoard) (p1 : TView) (p2 : Int) : Option ((List Int) × Bool) :=
  ((X.s_yAsked p0 p1).bind fun v1 => (bif (!v1) then some (([] : List Int), false) else ((X.s_bAt p0 p2 0).bind fun v4 => (bif (!v4) then some (([] : List Int), false) else ((X.s_yHide p0 p1 p2).bind fun v7 => some (v7, true))))))
theorem s_MayHide_ok (p0 : TBoard) (p1 : TView) (p2 : Int) (r : ((List Int) × Bool)) (H : X.s_MayHide p0 p1 p2 = some r) : FnOk Tryz.prog gl 33 [.agg (eTBoard p0), .agg (eTView p1), cI p2] (.tup [(false, [dat 1 eI zI r.1]), (false, [.bool r.2])]) := by
  unfold X.s_MayHide at H
  refine fn_in (fn := Tryz.f33) (ir := s_MayHide_ir) (s1 := lit [(6, .c (dat 1 eI zI r.1)), (7, cB r.2)] []) glL Tryz.func33 (by kernel_rfl) (by kernel_rfl) (by kernel_rfl) (by kernel_rfl) (by kernel_rfl) ?_
  refine seq_ops [] [] [(2, cI p2), (3, .c (.pk 3 0)), (4, .c (.pk 4 0))] [(3, .var (eTBoard p0) false), (4, .var (eTView p1) false)] (fun t => t) (by kernel_rfl) ?_
  refine seq_in ?_
  obtain ⟨v1, h2, H⟩ := ofBind H
  rcases ofCond H with ⟨c3, H⟩ | ⟨c3, H⟩
  · refine seq_ops [.res (cB v1), .g true, .g true, .g true, .g true, .g true] [] [(2, cI p2), (3, .c (.pk 3 0)), (4, .c (.pk 4 0)), (17, cB true)] [(3, .var (eTBoard p0) false), (4, .var (eTView p1) false)] (fun t => aI (s_yAsked_ok p0 p1 v1 h2) (aI c3 (aI c3 (aI c3 (aI c3 (aI c3 (t))))))) (by kernel_rfl) ?_
    refine ite_t (rfl : (true : Bool) = true) (by kernel_rfl) ?_
    refine seq_ops [] [] [(6, .c (.nil)), (7, cB false)] [] (fun t => t) (by kernel_rfl) ?_
    refine tell [.nld 6 1 (fF eI zI ([] : List Int))] [(6, .c (dat 1 eI zI ([] : List Int))), (7, cB false)] [] (fun t => t) (by kernel_rfl) ?_
    refine ends_ret ?_
    obtain rfl := Option.some.inj H
    exact And.intro (.inl rfl) rfl
  · obtain ⟨v4, h5, H⟩ := ofBind H
    refine seq_ops [.res (cB v1), .g false, .g false, .g false, .res (cB v4), .g false, .g false] [] [(2, cI p2), (3, .c (.pk 3 0)), (4, .c (.pk 4 0)), (17, cB (!v4))] [(3, .var (eTBoard p0) false), (4, .var (eTView p1) false)] (fun t => aI (s_yAsked_ok p0 p1 v1 h2) (aI c3 (aI c3 (aI c3 (aI (s_bAt_ok p0 p2 0 v4 h5) (aI c3 (aI c3 (t)))))))) (by kernel_rfl) ?_
    rcases ofCond H with ⟨c6, H⟩ | ⟨c6, H⟩
    · refine ite_t c6 (by kernel_rfl) ?_
      refine seq_ops [] [] [(6, .c (.nil)), (7, cB false)] [] (fun t => t) (by kernel_rfl) ?_
      refine tell [.nld 6 1 (fF eI zI ([] : List Int))] [(6, .c (dat 1 eI zI ([] : List Int))), (7, cB false)] [] (fun t => t) (by kernel_rfl) ?_
      refine ends_ret ?_
      obtain rfl := Option.some.inj H
      exact And.intro (.inl rfl) rfl
    · refine ite_f c6 (by kernel_rfl) ?_
      refine ends_skip ?_
      change EndsI _ _ _ _ _ _
      obtain ⟨v7, h8, H⟩ := ofBind H
      refine seq_ops [.res (.c (dat 1 eI zI v7))] [] [(6, .c (dat 1 eI zI v7)), (7, cB true)] [] (fun t => aI (s_yHide_ok p0 p1 p2 v7 h8) (t)) (by kernel_rfl) ?_
      refine ends_ret ?_
      obtain rfl := Option.some.inj H
      exact And.intro (.inl rfl) rfl

def g_IndexFunc_int_ir : S :=
 (.seq (.ops [⟨some 4, .mv (.v (.int .i64 0)), none⟩])
 (.seq (.seq (.ops [⟨some 6, .mv (.t 0), none⟩, ⟨some 7, .len (.t 6), none⟩, ⟨some 8, .mv (.v (.int .i64 0)), none⟩])
 (.blk 0 (.loop (.seq (.ops [⟨some 9, .bin .lss (.t 8) (.t 7), none⟩])
   (.seq (.ite (.t 9) .skip
   (.exit 0))
   (.seq (.blk 1 (.seq (.ops [⟨some 10, .mv (.t 8), none⟩, ⟨some 5, .mv (.t 10), none⟩])
    (.seq (.ops [⟨some 11, .mv (.t 1), none⟩, ⟨some 12, .mv (.t 0), none⟩, ⟨some 13, .mv (.t 5), none⟩, ⟨some 14, .iad 1 (.t 12) (.t 13), none⟩, ⟨some 15, .load 1 false (.t 14), none⟩, ⟨some 16, .cald (.t 11) [.t 15], none⟩])
    (.ite (.t 16) (.seq (.ops [⟨some 17, .mv (.t 5), none⟩, ⟨some 4, .mv (.t 17), none⟩])
     .ret)
    .skip))))
   (.ops [⟨some 18, .bin .add (.t 8) (.v (.int .i64 1)), none⟩, ⟨some 8, .mv (.t 18), none⟩])))))))
 (.seq (.ops [⟨some 4, .mv (.v (.int .i64 (-1))), none⟩])
 .ret)))
noncomputable def X.g_IndexFunc_int (p0 : (List Int)) (f1 : Int → Option Bool) : Option Int :=
  ((loop (fun (x16 : Int) => ((bif (decide (x16 < (p0.length : Int))) then ((at' zI p0 x16).bind fun v19 => ((f1 v19).bind fun v21 => (bif v21 then some (Sum.inr (Sum.inr x16)) else some (Sum.inl (W (x16 + 1)))))) else some (Sum.inr (Sum.inl ()))) : Option (Int ⊕ (Unit ⊕ Int)))) 0).bind fun y24 => (Sum.elim (fun (y26 : Unit) => some (-1)) (fun (y27 : Int) => some y27) y24))
theorem g_IndexFunc_int_c1_ok (p0 : (List Int)) (cf1 : FuncId) (cs1_0 : List AC) (f1 : Int → Option Bool) (hf1 : ∀ q0 r, f1 q0 = some r → FnOk Tryz.prog gl cf1 [cI q0, .c (.pd cs1_0 0)] (cB r)) (r : Int) (H : X.g_IndexFunc_int p0 f1 = some r) : FnOk Tryz.prog gl 134 [.c (dat 1 eI zI p0), .c (.clo cf1 [.pd cs1_0 0])] (cI r) := by
  unfold X.g_IndexFunc_int at H
  refine fn_in (fn := Tryz.f134) (ir := g_IndexFunc_int_ir) (s1 := lit [(4, cI r)] []) glL Tryz.func134 (by kernel_rfl) (by kernel_rfl) (by kernel_rfl) (by kernel_rfl) (by kernel_rfl) ?_
  refine seq_ops [] [] [(0, .c (dat 1 eI zI p0)), (1, .c (.clo cf1 [.pd cs1_0 0]))] [] (fun t => t) (by kernel_rfl) ?_
  refine seq_in ?_
  refine seq_ops [] [] [(0, .c (dat 1 eI zI p0)), (1, .c (.clo cf1 [.pd cs1_0 0])), (7, cI (p0.length : Int)), (8, cI 0)] [] (fun t => lI p0 (t)) (by kernel_rfl) ?_
  refine ends_blk ?_
  obtain ⟨y24, h25, H⟩ := ofBind H
  refine loop_in (fun (x : Int) => lit [(0, .c (dat 1 eI zI p0)), (1, .c (.clo cf1 [.pd cs1_0 0])), (7, cI (p0.length : Int)), (8, cI x)] []) (orJ (fun (z : Unit) => At (.exit 0) (lit [] [])) (fun (z : Int) => At .ret (lit [(4, cI z)] []))) h25 ?_ ?_
  · clear H h25
    intro x16 y0 H
    refine seq_ops [] [] [(0, .c (dat 1 eI zI p0)), (1, .c (.clo cf1 [.pd cs1_0 0])), (7, cI (p0.length : Int)), (8, cI x16), (9, cB (decide (x16 < (p0.length : Int))))] [] (fun t => t) (by kernel_rfl) ?_
    refine seq_in ?_
    rcases ofCond H with ⟨c18, H⟩ | ⟨c18, H⟩
    · refine ite_t c18 (by kernel_rfl) ?_
      refine ends_skip ?_
      change EndsI _ _ _ _ _ _
      refine seq_in ?_
      refine ends_blk ?_
      refine seq_ops [] [] [(0, .c (dat 1 eI zI p0)), (1, .c (.clo cf1 [.pd cs1_0 0])), (5, cI x16), (7, cI (p0.length : Int)), (8, cI x16)] [] (fun t => t) (by kernel_rfl) ?_
      obtain ⟨v19, h20, H⟩ := ofBind H
      obtain ⟨v21, h22, H⟩ := ofBind H
      refine seq_ops [.cs (eI v19), .res (cB v21)] [] [(0, .c (dat 1 eI zI p0)), (1, .c (.clo cf1 [.pd cs1_0 0])), (5, cI x16), (7, cI (p0.length : Int)), (8, cI x16), (16, cB v21)] [] (fun t => aI (at_lt h20) (aI (at_enc (enc := eI) h20) (aI (hf1 v19 v21 h22) (t)))) (by kernel_rfl) ?_
      rcases ofCond H with ⟨c23, H⟩ | ⟨c23, H⟩
      · refine ite_t c23 (by kernel_rfl) ?_
        refine seq_ops [] [] [(4, cI x16)] [] (fun t => t) (by kernel_rfl) ?_
        refine ends_ret ?_
        obtain rfl := Option.some.inj H
        exact And.intro (by simp) (And.intro rfl rfl)
      · refine ite_f c23 (by kernel_rfl) ?_
        refine ends_skip ?_
        change EndsI _ _ _ _ _ _
        refine one_ops [] [] [(0, .c (dat 1 eI zI p0)), (1, .c (.clo cf1 [.pd cs1_0 0])), (7, cI (p0.length : Int)), (8, cI (W (x16 + 1)))] [] (fun t => t) (by kernel_rfl) ?_
        obtain rfl := Option.some.inj H
        exact And.intro rfl rfl
    · refine ite_f c18 (by kernel_rfl) ?_
      refine tell [] [] [] (fun t => t) (by kernel_rfl) ?_
      refine ends_exit ?_
      obtain rfl := Option.some.inj H
      exact And.intro (by simp) (And.intro rfl rfl)
  · clear h25
    cases y24 with
    | inl y26 =>
      replace H := ofInl H
      intro e s q
      obtain ⟨rfl, rfl⟩ := q
      change EndsI _ _ _ _ _ _
      refine seq_ops [] [] [(4, cI (-1))] [] (fun t => t) (by kernel_rfl) ?_
      refine ends_ret ?_
      obtain rfl := Option.some.inj H
      exact And.intro (.inl rfl) rfl
    | inr y27 =>
      replace H := ofInr H
      intro e s q
      obtain ⟨rfl, rfl⟩ := q
      obtain rfl := Option.some.inj H
      exact And.intro (.inl rfl) rfl

def g_ContainsFunc_int_ir : S :=
 (.seq (.ops [⟨some 4, .mv (.v (.bool false)), none⟩])
 (.seq (.ops [⟨some 5, .mv (.t 0), none⟩, ⟨some 6, .mv (.t 1), none⟩, ⟨some 7, .call 134 [.t 5, .t 6], none⟩, ⟨some 8, .bin .geq (.t 7) (.v (.int .i64 0)), none⟩, ⟨some 4, .mv (.t 8), none⟩])
 .ret))
noncomputable def X.g_ContainsFunc_int (p0 : (List Int)) (f1 : Int → Option Bool) : Option Bool :=
  ((X.g_IndexFunc_int p0 f1).bind fun v1 => some (decide (v1 ≥ 0)))
theorem g_ContainsFunc_int_c1_ok (p0 : (List Int)) (cf1 : FuncId) (cs1_0 : List AC) (f1 : Int → Option Bool) (hf1 : ∀ q0 r, f1 q0 = some r → FnOk Tryz.prog gl cf1 [cI q0, .c (.pd cs1_0 0)] (cB r)) (r : Bool) (H : X.g_ContainsFunc_int p0 f1 = some r) : FnOk Tryz.prog gl 70 [.c (dat 1 eI zI p0), .c (.clo cf1 [.pd cs1_0 0])] (cB r) := by
  unfold X.g_ContainsFunc_int at H
  refine fn_in (fn := Tryz.f70) (ir := g_ContainsFunc_int_ir) (s1 := lit [(4, cB r)] []) glL Tryz.func70 (by kernel_rfl) (by kernel_rfl) (by kernel_rfl) (by kernel_rfl) (by kernel_rfl) ?_
  refine seq_ops [] [] [(0, .c (dat 1 eI zI p0)), (1, .c (.clo cf1 [.pd cs1_0 0]))] [] (fun t => t) (by kernel_rfl) ?_
  obtain ⟨v1, h2, H⟩ := ofBind H
  refine seq_ops [.res (cI v1)] [] [(4, cB (decide (v1 ≥ 0)))] [] (fun t => aI (g_IndexFunc_int_c1_ok p0 (cf1) (cs1_0) f1 hf1 v1 h2) (t)) (by kernel_rfl) ?_
  refine ends_ret ?_
  obtain rfl := Option.some.inj H
  exact And.intro (.inl rfl) rfl

def g_Index_int_ir : S :=
 (.seq (.ops [⟨some 4, .mv (.v (.int .i64 0)), none⟩])
 (.seq (.seq (.ops [⟨some 6, .mv (.t 0), none⟩, ⟨some 7, .len (.t 6), none⟩, ⟨some 8, .mv (.v (.int .i64 0)), none⟩])
 (.blk 0 (.loop (.seq (.ops [⟨some 9, .bin .lss (.t 8) (.t 7), none⟩])
   (.seq (.ite (.t 9) .skip
   (.exit 0))
   (.seq (.blk 1 (.seq (.ops [⟨some 10, .mv (.t 8), none⟩, ⟨some 5, .mv (.t 10), none⟩])
    (.seq (.ops [⟨some 11, .mv (.t 1), none⟩, ⟨some 12, .mv (.t 0), none⟩, ⟨some 13, .mv (.t 5), none⟩, ⟨some 14, .iad 1 (.t 12) (.t 13), none⟩, ⟨some 15, .load 1 false (.t 14), none⟩, ⟨some 16, .bin .eql (.t 11) (.t 15), none⟩])
    (.ite (.t 16) (.seq (.ops [⟨some 17, .mv (.t 5), none⟩, ⟨some 4, .mv (.t 17), none⟩])
     .ret)
    .skip))))
   (.ops [⟨some 18, .bin .add (.t 8) (.v (.int .i64 1)), none⟩, ⟨some 8, .mv (.t 18), none⟩])))))))
 (.seq (.ops [⟨some 4, .mv (.v (.int .i64 (-1))), none⟩])
 .ret)))
noncomputable def X.g_Index_int (p0 : (List Int)) (p1 : Int) : Option Int :=
  ((loop (fun (x12 : Int) => ((bif (decide (x12 < (p0.length : Int))) then ((at' zI p0 x12).bind fun v15 => (bif (p1 == v15) then some (Sum.inr (Sum.inr x12)) else some (Sum.inl (W (x12 + 1))))) else some (Sum.inr (Sum.inl ()))) : Option (Int ⊕ (Unit ⊕ Int)))) 0).bind fun y18 => (Sum.elim (fun (y20 : Unit) => some (-1)) (fun (y21 : Int) => some y21) y18))
theorem g_Index_int_ok (p0 : (List Int)) (p1 : Int) (r : Int) (H : X.g_Index_int p0 p1 = some r) : FnOk Tryz.prog gl 144 [.c (dat 1 eI zI p0), cI p1] (cI r) := by
  unfold X.g_Index_int at H
  refine fn_in (fn := Tryz.f144) (ir := g_Index_int_ir) (s1 := lit [(4, cI r)] []) glL Tryz.func144 (by kernel_rfl) (by kernel_rfl) (by kernel_rfl) (by kernel_rfl) (by kernel_rfl) ?_
  refine seq_ops [] [] [(0, .c (dat 1 eI zI p0)), (1, cI p1)] [] (fun t => t) (by kernel_rfl) ?_
  refine seq_in ?_
  refine seq_ops [] [] [(0, .c (dat 1 eI zI p0)), (1, cI p1), (7, cI (p0.length : Int)), (8, cI 0)] [] (fun t => lI p0 (t)) (by kernel_rfl) ?_
  refine ends_blk ?_
  obtain ⟨y18, h19, H⟩ := ofBind H
  refine loop_in (fun (x : Int) => lit [(0, .c (dat 1 eI zI p0)), (1, cI p1), (7, cI (p0.length : Int)), (8, cI x)] []) (orJ (fun (z : Unit) => At (.exit 0) (lit [] [])) (fun (z : Int) => At .ret (lit [(4, cI z)] []))) h19 ?_ ?_
  · clear H h19
    intro x12 y0 H
    refine seq_ops [] [] [(0, .c (dat 1 eI zI p0)), (1, cI p1), (7, cI (p0.length : Int)), (8, cI x12), (9, cB (decide (x12 < (p0.length : Int))))] [] (fun t => t) (by kernel_rfl) ?_
    refine seq_in ?_
    rcases ofCond H with ⟨c14, H⟩ | ⟨c14, H⟩
    · refine ite_t c14 (by kernel_rfl) ?_
      refine ends_skip ?_
      change EndsI _ _ _ _ _ _
      refine seq_in ?_
      refine ends_blk ?_
      refine seq_ops [] [] [(0, .c (dat 1 eI zI p0)), (1, cI p1), (5, cI x12), (7, cI (p0.length : Int)), (8, cI x12)] [] (fun t => t) (by kernel_rfl) ?_
      obtain ⟨v15, h16, H⟩ := ofBind H
      refine seq_ops [.cs (eI v15)] [] [(0, .c (dat 1 eI zI p0)), (1, cI p1), (5, cI x12), (7, cI (p0.length : Int)), (8, cI x12), (16, cB (p1 == v15))] [] (fun t => aI (at_lt h16) (aI (at_enc (enc := eI) h16) (t))) (by kernel_rfl) ?_
      rcases ofCond H with ⟨c17, H⟩ | ⟨c17, H⟩
      · refine ite_t c17 (by kernel_rfl) ?_
        refine seq_ops [] [] [(4, cI x12)] [] (fun t => t) (by kernel_rfl) ?_
        refine ends_ret ?_
        obtain rfl := Option.some.inj H
        exact And.intro (by simp) (And.intro rfl rfl)
      · refine ite_f c17 (by kernel_rfl) ?_
        refine ends_skip ?_
        change EndsI _ _ _ _ _ _
        refine one_ops [] [] [(0, .c (dat 1 eI zI p0)), (1, cI p1), (7, cI (p0.length : Int)), (8, cI (W (x12 + 1)))] [] (fun t => t) (by kernel_rfl) ?_
        obtain rfl := Option.some.inj H
        exact And.intro rfl rfl
    · refine ite_f c14 (by kernel_rfl) ?_
      refine tell [] [] [] (fun t => t) (by kernel_rfl) ?_
      refine ends_exit ?_
      obtain rfl := Option.some.inj H
      exact And.intro (by simp) (And.intro rfl rfl)
  · clear h19
    cases y18 with
    | inl y20 =>
      replace H := ofInl H
      intro e s q
      obtain ⟨rfl, rfl⟩ := q
      change EndsI _ _ _ _ _ _
      refine seq_ops [] [] [(4, cI (-1))] [] (fun t => t) (by kernel_rfl) ?_
      refine ends_ret ?_
      obtain rfl := Option.some.inj H
      exact And.intro (.inl rfl) rfl
    | inr y21 =>
      replace H := ofInr H
      intro e s q
      obtain ⟨rfl, rfl⟩ := q
      obtain rfl := Option.some.inj H
      exact And.intro (.inl rfl) rfl

def g_Contains_int_ir : S :=
 (.seq (.ops [⟨some 4, .mv (.v (.bool false)), none⟩])
 (.seq (.ops [⟨some 5, .mv (.t 0), none⟩, ⟨some 6, .mv (.t 1), none⟩, ⟨some 7, .call 144 [.t 5, .t 6], none⟩, ⟨some 8, .bin .geq (.t 7) (.v (.int .i64 0)), none⟩, ⟨some 4, .mv (.t 8), none⟩])
 .ret))
noncomputable def X.g_Contains_int (p0 : (List Int)) (p1 : Int) : Option Bool :=
  ((X.g_Index_int p0 p1).bind fun v1 => some (decide (v1 ≥ 0)))
theorem g_Contains_int_ok (p0 : (List Int)) (p1 : Int) (r : Bool) (H : X.g_Contains_int p0 p1 = some r) : FnOk Tryz.prog gl 86 [.c (dat 1 eI zI p0), cI p1] (cB r) := by
  unfold X.g_Contains_int at H
  refine fn_in (fn := Tryz.f86) (ir := g_Contains_int_ir) (s1 := lit [(4, cB r)] []) glL Tryz.func86 (by kernel_rfl) (by kernel_rfl) (by kernel_rfl) (by kernel_rfl) (by kernel_rfl) ?_
  refine seq_ops [] [] [(0, .c (dat 1 eI zI p0)), (1, cI p1)] [] (fun t => t) (by kernel_rfl) ?_
  obtain ⟨v1, h2, H⟩ := ofBind H
  refine seq_ops [.res (cI v1)] [] [(4, cB (decide (v1 ≥ 0)))] [] (fun t => aI (g_Index_int_ok p0 p1 v1 h2) (t)) (by kernel_rfl) ?_
  refine ends_ret ?_
  obtain rfl := Option.some.inj H
  exact And.intro (.inl rfl) rfl

def i_inRange_ir : S :=
 (.seq (.ops [⟨some 6, .mv (.v (.bool false)), none⟩])
 (.seq (.ops [⟨some 7, .mv (.t 1), none⟩, ⟨some 8, .mv (.t 0), none⟩, ⟨some 9, .bin .leq (.t 7) (.t 8), none⟩, ⟨some 10, .mv (.t 9), none⟩, ⟨some 11, .mv (.t 0), some (10, true)⟩, ⟨some 12, .mv (.t 2), some (10, true)⟩, ⟨some 13, .bin .leq (.t 11) (.t 12), some (10, true)⟩, ⟨some 14, .pick (.t 10) (.t 13) (.v (.bool false)), none⟩, ⟨some 6, .mv (.t 14), none⟩])
 .ret))
noncomputable def X.i_inRange (p0 : Int) (p1 : Int) (p2 : Int) : Option Bool :=
  (bif (decide (p1 ≤ p0)) then some (decide (p0 ≤ p2)) else some false)
theorem i_inRange_ok (p0 : Int) (p1 : Int) (p2 : Int) (r : Bool) (H : X.i_inRange p0 p1 p2 = some r) : FnOk Tryz.prog gl 145 [cI p0, cI p1, cI p2] (cB r) := by
  unfold X.i_inRange at H
  refine fn_in (fn := Tryz.f145) (ir := i_inRange_ir) (s1 := lit [(6, cB r)] []) glL Tryz.func145 (by kernel_rfl) (by kernel_rfl) (by kernel_rfl) (by kernel_rfl) (by kernel_rfl) ?_
  refine seq_ops [] [] [(0, cI p0), (1, cI p1), (2, cI p2)] [] (fun t => t) (by kernel_rfl) ?_
  rcases ofCond H with ⟨c1, H⟩ | ⟨c1, H⟩
  · refine seq_ops [.g true, .g true, .g true, .g true] [] [(6, cB (decide (p0 ≤ p2)))] [] (fun t => aI c1 (aI c1 (aI c1 (aI c1 (t))))) (by kernel_rfl) ?_
    refine ends_ret ?_
    obtain rfl := Option.some.inj H
    exact And.intro (.inl rfl) rfl
  · refine seq_ops [.g false, .g false, .g false, .g false] [] [(6, cB false)] [] (fun t => aI c1 (aI c1 (aI c1 (aI c1 (t))))) (by kernel_rfl) ?_
    refine ends_ret ?_
    obtain rfl := Option.some.inj H
    exact And.intro (.inl rfl) rfl

def i_isSide_ir : S :=
 (.seq (.ops [⟨some 2, .mv (.v (.bool false)), none⟩])
 (.seq (.ops [⟨some 3, .mv (.t 0), none⟩, ⟨some 4, .call 145 [.t 3, .v (.int .i64 0), .v (.int .i64 1)], none⟩, ⟨some 2, .mv (.t 4), none⟩])
 .ret))
noncomputable def X.i_isSide (p0 : Int) : Option Bool :=
  ((X.i_inRange p0 0 1).bind fun v1 => some v1)
theorem i_isSide_ok (p0 : Int) (r : Bool) (H : X.i_isSide p0 = some r) : FnOk Tryz.prog gl 132 [cI p0] (cB r) := by
  unfold X.i_isSide at H
  refine fn_in (fn := Tryz.f132) (ir := i_isSide_ir) (s1 := lit [(2, cB r)] []) glL Tryz.func132 (by kernel_rfl) (by kernel_rfl) (by kernel_rfl) (by kernel_rfl) (by kernel_rfl) ?_
  refine seq_ops [] [] [(0, cI p0)] [] (fun t => t) (by kernel_rfl) ?_
  obtain ⟨v1, h2, H⟩ := ofBind H
  refine seq_ops [.res (cB v1)] [] [(2, cB v1)] [] (fun t => aI (i_inRange_ok p0 0 1 v1 h2) (t)) (by kernel_rfl) ?_
  refine ends_ret ?_
  obtain rfl := Option.some.inj H
  exact And.intro (.inl rfl) rfl

def i_isWeather_ir : S :=
 (.seq (.ops [⟨some 2, .mv (.v (.bool false)), none⟩])
 (.seq (.ops [⟨some 3, .mv (.t 0), none⟩, ⟨some 4, .call 145 [.t 3, .v (.int .i64 0), .v (.int .i64 2)], none⟩, ⟨some 2, .mv (.t 4), none⟩])
 .ret))
noncomputable def X.i_isWeather (p0 : Int) : Option Bool :=
  ((X.i_inRange p0 0 2).bind fun v1 => some v1)
theorem i_isWeather_ok (p0 : Int) (r : Bool) (H : X.i_isWeather p0 = some r) : FnOk Tryz.prog gl 146 [cI p0] (cB r) := by
  unfold X.i_isWeather at H
  refine fn_in (fn := Tryz.f146) (ir := i_isWeather_ir) (s1 := lit [(2, cB r)] []) glL Tryz.func146 (by kernel_rfl) (by kernel_rfl) (by kernel_rfl) (by kernel_rfl) (by kernel_rfl) ?_
  refine seq_ops [] [] [(0, cI p0)] [] (fun t => t) (by kernel_rfl) ?_
  obtain ⟨v1, h2, H⟩ := ofBind H
  refine seq_ops [.res (cB v1)] [] [(2, cB v1)] [] (fun t => aI (i_inRange_ok p0 0 2 v1 h2) (t)) (by kernel_rfl) ?_
  refine ends_ret ?_
  obtain rfl := Option.some.inj H
  exact And.intro (.inl rfl) rfl

def i_increasing_ir : S :=
 (.seq (.ops [⟨some 2, .mv (.v (.bool false)), none⟩])
 (.seq (.seq (.ops [⟨some 3, .mv (.v (.int .i64 1)), none⟩])
 (.blk 0 (.loop (.seq (.seq (.ops [⟨some 4, .mv (.t 3), none⟩, ⟨some 5, .mv (.t 0), none⟩, ⟨some 6, .len (.t 5), none⟩, ⟨some 7, .bin .lss (.t 4) (.t 6), none⟩])
   (.ite (.t 7) .skip
   (.exit 0)))
   (.seq (.blk 1 (.seq (.draw 10 [⟨some 10, .mv (.t 0), none⟩, ⟨some 11, .mv (.t 3), none⟩, ⟨some 12, .bin .sub (.t 11) (.v (.int .i64 1)), none⟩, ⟨some 13, .iad 1 (.t 10) (.t 12), none⟩, ⟨some 14, .load 1 false (.t 13), none⟩, ⟨some 15, .mv (.t 0), none⟩, ⟨some 16, .mv (.t 3), none⟩, ⟨some 17, .iad 1 (.t 15) (.t 16), none⟩, ⟨some 18, .load 1 false (.t 17), none⟩, ⟨some 19, .bin .geq (.t 14) (.t 18), none⟩])
    (.ite (.t 19) (.seq (.ops [⟨some 2, .mv (.v (.bool false)), none⟩])
     .ret)
    .skip)))
   (.ops [⟨some 8, .mv (.t 3), none⟩, ⟨some 9, .bin .add (.t 8) (.v (.int .i64 1)), none⟩, ⟨some 3, .mv (.t 9), none⟩]))))))
 (.seq (.ops [⟨some 2, .mv (.v (.bool true)), none⟩])
 .ret)))
noncomputable def X.i_increasing (p0 : (List Int)) : Option Bool :=
  ((loop (fun (x16 : Int) => ((bif (decide (x16 < (p0.length : Int))) then ((at' zI p0 (W (x16 - 1))).bind fun v19 => ((at' zI p0 x16).bind fun v21 => (bif (decide (v19 ≥ v21)) then some (Sum.inr (Sum.inr false)) else some (Sum.inl (W (x16 + 1)))))) else some (Sum.inr (Sum.inl ()))) : Option (Int ⊕ (Unit ⊕ Bool)))) 1).bind fun y24 => (Sum.elim (fun (y26 : Unit) => some true) (fun (y27 : Bool) => some y27) y24))
theorem i_increasing_ok (p0 : (List Int)) (r : Bool) (H : X.i_increasing p0 = some r) : FnOk Tryz.prog gl 147 [.c (dat 1 eI zI p0)] (cB r) := by
  unfold X.i_increasing at H
  refine fn_in (fn := Tryz.f147) (ir := i_increasing_ir) (s1 := lit [(2, cB r)] []) glL Tryz.func147 (by kernel_rfl) (by kernel_rfl) (by kernel_rfl) (by kernel_rfl) (by kernel_rfl) ?_
  refine seq_ops [] [] [(0, .c (dat 1 eI zI p0))] [] (fun t => t) (by kernel_rfl) ?_
  refine seq_in ?_
  refine seq_ops [] [] [(0, .c (dat 1 eI zI p0)), (3, cI 1)] [] (fun t => t) (by kernel_rfl) ?_
  refine ends_blk ?_
  obtain ⟨y24, h25, H⟩ := ofBind H
  refine loop_in (fun (x : Int) => lit [(0, .c (dat 1 eI zI p0)), (3, cI x)] []) (orJ (fun (z : Unit) => At (.exit 0) (lit [] [])) (fun (z : Bool) => At .ret (lit [(2, cB z)] []))) h25 ?_ ?_
  · clear H h25
    intro x16 y0 H
    refine seq_in ?_
    refine seq_ops [] [] [(0, .c (dat 1 eI zI p0)), (3, cI x16), (7, cB (decide (x16 < (p0.length : Int))))] [] (fun t => lI p0 (t)) (by kernel_rfl) ?_
    rcases ofCond H with ⟨c18, H⟩ | ⟨c18, H⟩
    · refine ite_t c18 (by kernel_rfl) ?_
      refine ends_skip ?_
      change EndsI _ _ _ _ _ _
      refine seq_in ?_
      refine ends_blk ?_
      obtain ⟨v19, h20, H⟩ := ofBind H
      obtain ⟨v21, h22, H⟩ := ofBind H
      refine seq_draw [.cs (eI v19), .cs (eI v21)] [] [(0, .c (dat 1 eI zI p0)), (3, cI x16), (19, cB (decide (v19 ≥ v21)))] [] (fun t => aI (at_lt h20) (aI (at_enc (enc := eI) h20) (aI (rfl : ([] : List Nat) = []) (aI (at_lt h22) (aI (at_enc (enc := eI) h22) (aI (rfl : ([] : List Nat) = []) (t))))))) (by kernel_rfl) ?_
      rcases ofCond H with ⟨c23, H⟩ | ⟨c23, H⟩
      · refine ite_t c23 (by kernel_rfl) ?_
        refine seq_ops [] [] [(2, cB false)] [] (fun t => t) (by kernel_rfl) ?_
        refine ends_ret ?_
        obtain rfl := Option.some.inj H
        exact And.intro (by simp) (And.intro rfl rfl)
      · refine ite_f c23 (by kernel_rfl) ?_
        refine ends_skip ?_
        change EndsI _ _ _ _ _ _
        refine one_ops [] [] [(0, .c (dat 1 eI zI p0)), (3, cI (W (x16 + 1)))] [] (fun t => t) (by kernel_rfl) ?_
        obtain rfl := Option.some.inj H
        exact And.intro rfl rfl
    · refine ite_f c18 (by kernel_rfl) ?_
      refine tell [] [] [] (fun t => t) (by kernel_rfl) ?_
      refine ends_exit ?_
      obtain rfl := Option.some.inj H
      exact And.intro (by simp) (And.intro rfl rfl)
  · clear h25
    cases y24 with
    | inl y26 =>
      replace H := ofInl H
      intro e s q
      obtain ⟨rfl, rfl⟩ := q
      change EndsI _ _ _ _ _ _
      refine seq_ops [] [] [(2, cB true)] [] (fun t => t) (by kernel_rfl) ?_
      refine ends_ret ?_
      obtain rfl := Option.some.inj H
      exact And.intro (.inl rfl) rfl
    | inr y27 =>
      replace H := ofInr H
      intro e s q
      obtain ⟨rfl, rfl⟩ := q
      obtain rfl := Option.some.inj H
      exact And.intro (.inl rfl) rfl

def i_isIndex_ir : S :=
 (.seq (.ops [⟨some 4, .mv (.v (.bool false)), none⟩])
 (.seq (.ops [⟨some 5, .mv (.t 0), none⟩, ⟨some 6, .mv (.t 1), none⟩, ⟨some 7, .bin .sub (.t 6) (.v (.int .i64 1)), none⟩, ⟨some 8, .call 145 [.t 5, .v (.int .i64 0), .t 7], none⟩, ⟨some 4, .mv (.t 8), none⟩])
 .ret))
noncomputable def X.i_isIndex (p0 : Int) (p1 : Int) : Option Bool :=
  ((X.i_inRange p0 0 (W (p1 - 1))).bind fun v1 => some v1)
theorem i_isIndex_ok (p0 : Int) (p1 : Int) (r : Bool) (H : X.i_isIndex p0 p1 = some r) : FnOk Tryz.prog gl 115 [cI p0, cI p1] (cB r) := by
  unfold X.i_isIndex at H
  refine fn_in (fn := Tryz.f115) (ir := i_isIndex_ir) (s1 := lit [(4, cB r)] []) glL Tryz.func115 (by kernel_rfl) (by kernel_rfl) (by kernel_rfl) (by kernel_rfl) (by kernel_rfl) ?_
  refine seq_ops [] [] [(0, cI p0), (1, cI p1)] [] (fun t => t) (by kernel_rfl) ?_
  obtain ⟨v1, h2, H⟩ := ofBind H
  refine seq_ops [.res (cB v1)] [] [(4, cB v1)] [] (fun t => aI (i_inRange_ok p0 0 (W (p1 - 1)) v1 h2) (t)) (by kernel_rfl) ?_
  refine ends_ret ?_
  obtain rfl := Option.some.inj H
  exact And.intro (.inl rfl) rfl

def i_sizeOf_ir : S :=
 (.seq (.ops [⟨some 1, .box 12 (.t 0), none⟩, ⟨some 2, .mv (.v (.int .i64 0)), none⟩])
 (.seq (.ops [⟨some 3, .fad 7 (.t 1), none⟩, ⟨some 4, .fad 2 (.t 3), none⟩, ⟨some 5, .load 1 false (.t 4), none⟩, ⟨some 6, .len (.t 5), none⟩, ⟨some 2, .mv (.t 6), none⟩])
 .ret))
noncomputable def X.i_sizeOf (p0 : TBoard) : Option Int :=
  some (p0.Map.Terrain.length : Int)
theorem i_sizeOf_ok (p0 : TBoard) (r : Int) (H : X.i_sizeOf p0 = some r) : FnOk Tryz.prog gl 116 [.agg (eTBoard p0)] (cI r) := by
  unfold X.i_sizeOf at H
  refine fn_in (fn := Tryz.f116) (ir := i_sizeOf_ir) (s1 := lit [(2, cI r)] []) glL Tryz.func116 (by kernel_rfl) (by kernel_rfl) (by kernel_rfl) (by kernel_rfl) (by kernel_rfl) ?_
  refine seq_ops [] [] [(1, .c (.pk 1 0))] [(1, .var (eTBoard p0) false)] (fun t => t) (by kernel_rfl) ?_
  refine seq_ops [] [] [(2, cI (p0.Map.Terrain.length : Int))] [] (fun t => lI p0.Map.Terrain (t)) (by kernel_rfl) ?_
  refine ends_ret ?_
  obtain rfl := Option.some.inj H
  exact And.intro (.inl rfl) rfl

def i_goodView_1_ir : S :=
 (.seq (.ops [⟨some 3, .mv (.v (.bool false)), none⟩])
 (.seq (.ops [⟨some 4, .mv (.t 0), none⟩, ⟨some 5, .load 12 true (.t 1), none⟩, ⟨some 6, .call 116 [.t 5], none⟩, ⟨some 7, .call 115 [.t 4, .t 6], none⟩, ⟨some 8, .not (.t 7), none⟩, ⟨some 3, .mv (.t 8), none⟩])
 .ret))
noncomputable def X.i_goodView_1 (p0 : Int) (p1 : TBoard) : Option Bool :=
  ((X.i_sizeOf p1).bind fun v1 => ((X.i_isIndex p0 v1).bind fun v3 => some (!v3)))
theorem i_goodView_1_ok (p0 : Int) (p1 : TBoard) (r : Bool) (H : X.i_goodView_1 p0 p1 = some r) : FnOk Tryz.prog gl 148 [cI p0, .c (.pd (eTBoard p1) 0)] (cB r) := by
  unfold X.i_goodView_1 at H
  refine fn_in (fn := Tryz.f148) (ir := i_goodView_1_ir) (s1 := lit [(3, cB r)] []) glL Tryz.func148 (by kernel_rfl) (by kernel_rfl) (by kernel_rfl) (by kernel_rfl) (by kernel_rfl) ?_
  refine seq_ops [] [] [(0, cI p0), (1, .c (.pd (eTBoard p1) 0))] [] (fun t => t) (by kernel_rfl) ?_
  obtain ⟨v1, h2, H⟩ := ofBind H
  obtain ⟨v3, h4, H⟩ := ofBind H
  refine seq_ops [.res (cI v1), .res (cB v3)] [] [(3, cB (!v3))] [] (fun t => aI (i_sizeOf_ok p1 v1 h2) (aI (i_isIndex_ok p0 v1 v3 h4) (t))) (by kernel_rfl) ?_
  refine ends_ret ?_
  obtain rfl := Option.some.inj H
  exact And.intro (.inl rfl) rfl

def i_terrainAt_ir : S :=
 (.seq (.ops [⟨some 2, .box 12 (.t 0), none⟩, ⟨some 4, .alloc [.str [], .nil, .int .i64 0, .int .i64 0, .bool false], none⟩])
 (.seq (.draw 11 [⟨some 5, .fad 0 (.t 2), none⟩, ⟨some 6, .fad 0 (.t 5), none⟩, ⟨some 7, .load 1 false (.t 6), none⟩, ⟨some 8, .fad 7 (.t 2), none⟩, ⟨some 9, .fad 2 (.t 8), none⟩, ⟨some 10, .load 1 false (.t 9), none⟩, ⟨some 11, .mv (.t 1), none⟩, ⟨some 12, .iad 1 (.t 10) (.t 11), none⟩, ⟨some 13, .load 1 false (.t 12), none⟩, ⟨some 14, .iad 5 (.t 7) (.t 13), none⟩, ⟨some 15, .load 5 true (.t 14), none⟩, ⟨none, .store 5 (.t 4) (.t 15), none⟩])
 .ret))
noncomputable def X.i_terrainAt (p0 : TBoard) (p1 : Int) : Option TTerrain :=
  ((at' zI p0.Map.Terrain p1).bind fun v1 => ((at' zTTerrain p0.Rules.Terrains v1).bind fun v3 => some v3))
theorem i_terrainAt_ok (p0 : TBoard) (p1 : Int) (r : TTerrain) (H : X.i_terrainAt p0 p1 = some r) : FnOk Tryz.prog gl 199 [.agg (eTBoard p0), cI p1] (.agg (eTTerrain r)) := by
  unfold X.i_terrainAt at H
  refine fn_in (fn := Tryz.f199) (ir := i_terrainAt_ir) (s1 := lit [(4, .c (.pk 4 0))] [(4, .var (eTTerrain r) false)]) glL Tryz.func199 (by kernel_rfl) (by kernel_rfl) (by kernel_rfl) (by kernel_rfl) (by kernel_rfl) ?_
  refine seq_ops [] [] [(1, cI p1), (2, .c (.pk 2 0)), (4, .c (.pk 4 0))] [(2, .var (eTBoard p0) false), (4, .var [.str [], .nil, .int .i64 0, .int .i64 0, .bool false] false)] (fun t => t) (by kernel_rfl) ?_
  obtain ⟨v1, h2, H⟩ := ofBind H
  obtain ⟨v3, h4, H⟩ := ofBind H
  refine seq_draw [.cs (eI v1), .cs (eTTerrain v3)] [] [(4, .c (.pk 4 0))] [(4, .var (eTTerrain v3) false)] (fun t => aI (at_lt h2) (aI (at_enc (enc := eI) h2) (aI (rfl : ([] : List Nat) = []) (aI (at_lt h4) (aI (at_enc (enc := eTTerrain) h4) (aI (rfl : ([] : List Nat) = []) (t))))))) (by kernel_rfl) ?_
  refine ends_ret ?_
  obtain rfl := Option.some.inj H
  exact And.intro (.inl rfl) rfl

def i_enterCost_ir : S :=
 (.seq (.ops [⟨some 3, .box 12 (.t 0), none⟩, ⟨some 6, .mv (.v (.int .i64 0)), none⟩])
 (.seq (.ops [⟨some 7, .load 12 true (.t 3), none⟩, ⟨some 8, .mv (.t 2), none⟩, ⟨some 9, .call 199 [.t 7, .t 8], none⟩, ⟨some 10, .fld 1 1 false (.t 9), none⟩, ⟨some 11, .mv (.t 1), none⟩, ⟨some 12, .iad 1 (.t 10) (.t 11), none⟩, ⟨some 13, .load 1 false (.t 12), none⟩, ⟨some 6, .mv (.t 13), none⟩])
 .ret))
noncomputable def X.i_enterCost (p0 : TBoard) (p1 : Int) (p2 : Int) : Option Int :=
  ((X.i_terrainAt p0 p2).bind fun v1 => ((at' zI v1.Cost p1).bind fun v3 => some v3))
theorem i_enterCost_ok (p0 : TBoard) (p1 : Int) (p2 : Int) (r : Int) (H : X.i_enterCost p0 p1 p2 = some r) : FnOk Tryz.prog gl 157 [.agg (eTBoard p0), cI p1, cI p2] (cI r) := by
  unfold X.i_enterCost at H
  refine fn_in (fn := Tryz.f157) (ir := i_enterCost_ir) (s1 := lit [(6, cI r)] []) glL Tryz.func157 (by kernel_rfl) (by kernel_rfl) (by kernel_rfl) (by kernel_rfl) (by kernel_rfl) ?_
  refine seq_ops [] [] [(1, cI p1), (2, cI p2), (3, .c (.pk 3 0))] [(3, .var (eTBoard p0) false)] (fun t => t) (by kernel_rfl) ?_
  obtain ⟨v1, h2, H⟩ := ofBind H
  obtain ⟨v3, h4, H⟩ := ofBind H
  refine seq_ops [.res (.agg (eTTerrain v1)), .cs (eI v3)] [] [(6, cI v3)] [] (fun t => aI (i_terrainAt_ok p0 p2 v1 h2) (aI (at_lt h4) (aI (at_enc (enc := eI) h4) (t)))) (by kernel_rfl) ?_
  refine ends_ret ?_
  obtain rfl := Option.some.inj H
  exact And.intro (.inl rfl) rfl

def i_goodUnit_ir : S :=
 (.seq (.ops [⟨some 2, .box 12 (.t 0), none⟩, ⟨some 3, .box 4 (.t 1), none⟩, ⟨some 4, .mv (.v (.bool false)), none⟩])
 (.seq (.seq (.draw 28 [⟨some 5, .fad 0 (.t 3), none⟩, ⟨some 6, .load 1 false (.t 5), none⟩, ⟨some 7, .call 132 [.t 6], none⟩, ⟨some 8, .not (.t 7), none⟩, ⟨some 9, .mv (.t 8), none⟩, ⟨some 10, .fad 1 (.t 3), some (9, false)⟩, ⟨some 11, .load 1 false (.t 10), some (9, false)⟩, ⟨some 12, .fad 0 (.t 2), some (9, false)⟩, ⟨some 13, .fad 1 (.t 12), some (9, false)⟩, ⟨some 14, .load 1 false (.t 13), some (9, false)⟩, ⟨some 15, .len (.t 14), some (9, false)⟩, ⟨some 16, .call 115 [.t 11, .t 15], some (9, false)⟩, ⟨some 17, .not (.t 16), some (9, false)⟩, ⟨some 18, .pick (.t 9) (.v (.bool true)) (.t 17), none⟩, ⟨some 19, .mv (.t 18), none⟩, ⟨some 20, .fad 3 (.t 3), some (19, false)⟩, ⟨some 21, .load 1 false (.t 20), some (19, false)⟩, ⟨some 22, .fad 0 (.t 2), some (19, false)⟩, ⟨some 23, .fad 1 (.t 22), some (19, false)⟩, ⟨some 24, .load 1 false (.t 23), some (19, false)⟩, ⟨some 25, .fad 1 (.t 3), some (19, false)⟩, ⟨some 26, .load 1 false (.t 25), some (19, false)⟩, ⟨some 27, .iad 6 (.t 24) (.t 26), some (19, false)⟩, ⟨some 28, .fad 3 (.t 27), some (19, false)⟩, ⟨some 29, .load 1 false (.t 28), some (19, false)⟩, ⟨some 30, .call 145 [.t 21, .v (.int .i64 0), .t 29], some (19, false)⟩, ⟨some 31, .not (.t 30), some (19, false)⟩, ⟨some 32, .pick (.t 19) (.v (.bool true)) (.t 31), none⟩])
 (.ite (.t 32) (.seq (.ops [⟨some 4, .mv (.v (.bool false)), none⟩])
  .ret)
 .skip))
 (.seq (.seq (.ops [⟨some 33, .fad 2 (.t 3), none⟩, ⟨some 34, .load 1 false (.t 33), none⟩, ⟨some 35, .bin .eql (.t 34) (.v (.int .i64 (-1))), none⟩])
 (.ite (.t 35) (.seq (.ops [⟨some 4, .mv (.v (.bool true)), none⟩])
  .ret)
 .skip))
 (.seq (.draw 20 [⟨some 36, .fad 3 (.t 3), none⟩, ⟨some 37, .load 1 false (.t 36), none⟩, ⟨some 38, .bin .gtr (.t 37) (.v (.int .i64 0)), none⟩, ⟨some 39, .mv (.t 38), none⟩, ⟨some 40, .fad 2 (.t 3), some (39, true)⟩, ⟨some 41, .load 1 false (.t 40), some (39, true)⟩, ⟨some 42, .load 12 true (.t 2), some (39, true)⟩, ⟨some 43, .call 116 [.t 42], some (39, true)⟩, ⟨some 44, .call 115 [.t 41, .t 43], some (39, true)⟩, ⟨some 45, .pick (.t 39) (.t 44) (.v (.bool false)), none⟩, ⟨some 46, .mv (.t 45), none⟩, ⟨some 47, .load 12 true (.t 2), some (46, true)⟩, ⟨some 48, .fad 1 (.t 3), some (46, true)⟩, ⟨some 49, .load 1 false (.t 48), some (46, true)⟩, ⟨some 50, .fad 2 (.t 3), some (46, true)⟩, ⟨some 51, .load 1 false (.t 50), some (46, true)⟩, ⟨some 52, .call 157 [.t 47, .t 49, .t 51], some (46, true)⟩, ⟨some 53, .bin .neq (.t 52) (.v (.int .i64 0)), some (46, true)⟩, ⟨some 54, .pick (.t 46) (.t 53) (.v (.bool false)), none⟩, ⟨some 4, .mv (.t 54), none⟩])
 .ret))))
noncomputable def X.i_goodUnit (p0 : TBoard) (p1 : TUnit) : Option Bool :=
  ((X.i_isSide p1.Side).bind fun v12 => (bif (!v12) then some false else ((X.i_isIndex p1.Kind (p0.Rules.Kinds.length : Int)).bind fun v15 => (bif (!v15) then some false else ((at' zTKind p0.Rules.Kinds p1.Kind).bind fun v18 => ((X.i_inRange p1.Steps 0 v18.Steps).bind fun v20 => (bif (!v20) then some false else (bif (p1.At == (-1)) then some true else (bif (decide (p1.Steps > 0)) then ((X.i_sizeOf p0).bind fun v26 => ((X.i_isIndex p1.At v26).bind fun v28 => (bif v28 then ((X.i_enterCost p0 p1.Kind p1.At).bind fun v31 => some (v31 != 0)) else some false))) else some false)))))))))
theorem i_goodUnit_ok (p0 : TBoard) (p1 : TUnit) (r : Bool) (H : X.i_goodUnit p0 p1 = some r) : FnOk Tryz.prog gl 149 [.agg (eTBoard p0), .agg (eTUnit p1)] (cB r) := by
  unfold X.i_goodUnit at H
  refine fn_in (fn := Tryz.f149) (ir := i_goodUnit_ir) (s1 := lit [(4, cB r)] []) glL Tryz.func149 (by kernel_rfl) (by kernel_rfl) (by kernel_rfl) (by kernel_rfl) (by kernel_rfl) ?_
  refine seq_ops [] [] [(2, .c (.pk 2 0)), (3, .c (.pk 3 0))] [(2, .var (eTBoard p0) false), (3, .var (eTUnit p1) false)] (fun t => t) (by kernel_rfl) ?_
  refine seq_in ?_
  obtain ⟨v12, h13, H⟩ := ofBind H
  rcases ofCond H with ⟨c14, H⟩ | ⟨c14, H⟩
  · refine seq_draw [.res (cB v12), .g true, .g true, .g true, .g true, .g true, .g true, .g true, .g true, .g true, .g true, .g true, .g true, .g true, .g true, .g true, .g true, .g true, .g true, .g true, .g true, .g true, .g true] [] [(2, .c (.pk 2 0)), (3, .c (.pk 3 0)), (32, cB true)] [(2, .var (eTBoard p0) false), (3, .var (eTUnit p1) false)] (fun t => aI (i_isSide_ok p1.Side v12 h13) (aI trivial (aI (rfl : ([] : List Nat) = []) (aI c14 (aI c14 (aI c14 (aI c14 (aI c14 (aI c14 (aI c14 (aI c14 (aI c14 (aI (rfl : (true : Bool) = true) (aI (rfl : (true : Bool) = true) (aI (rfl : (true : Bool) = true) (aI (rfl : (true : Bool) = true) (aI (rfl : (true : Bool) = true) (aI (rfl : (true : Bool) = true) (aI (rfl : (true : Bool) = true) (aI (rfl : (true : Bool) = true) (aI (rfl : (true : Bool) = true) (aI (rfl : (true : Bool) = true) (aI (rfl : (true : Bool) = true) (aI (rfl : (true : Bool) = true) (aI (rfl : (true : Bool) = true) (t)))))))))))))))))))))))))) (by kernel_rfl) ?_
    refine ite_t (rfl : (true : Bool) = true) (by kernel_rfl) ?_
    refine seq_ops [] [] [(4, cB false)] [] (fun t => t) (by kernel_rfl) ?_
    refine ends_ret ?_
    obtain rfl := Option.some.inj H
    exact And.intro (.inl rfl) rfl
  · obtain ⟨v15, h16, H⟩ := ofBind H
    rcases ofCond H with ⟨c17, H⟩ | ⟨c17, H⟩
    · refine seq_draw [.res (cB v12), .g false, .g false, .g false, .g false, .g false, .g false, .g false, .res (cB v15), .g false, .g false, .g true, .g true, .g true, .g true, .g true, .g true, .g true, .g true, .g true, .g true, .g true, .g true, .g true] [] [(2, .c (.pk 2 0)), (3, .c (.pk 3 0)), (32, cB true)] [(2, .var (eTBoard p0) false), (3, .var (eTUnit p1) false)] (fun t => aI (i_isSide_ok p1.Side v12 h13) (aI trivial (aI (rfl : ([] : List Nat) = []) (aI c14 (aI c14 (aI c14 (aI c14 (aI c14 (aI c14 (aI c14 (aI (i_isIndex_ok p1.Kind (p0.Rules.Kinds.length : Int) v15 h16) (aI trivial (aI (rfl : ([] : List Nat) = []) (aI c14 (aI c14 (aI c17 (aI c17 (aI c17 (aI c17 (aI c17 (aI c17 (aI c17 (aI c17 (aI c17 (aI c17 (aI c17 (aI c17 (aI c17 (t))))))))))))))))))))))))))))) (by kernel_rfl) ?_
      refine ite_t (rfl : (true : Bool) = true) (by kernel_rfl) ?_
      refine seq_ops [] [] [(4, cB false)] [] (fun t => t) (by kernel_rfl) ?_
      refine ends_ret ?_
      obtain rfl := Option.some.inj H
      exact And.intro (.inl rfl) rfl
    · obtain ⟨v18, h19, H⟩ := ofBind H
      obtain ⟨v20, h21, H⟩ := ofBind H
      refine seq_draw [.res (cB v12), .g false, .g false, .g false, .g false, .g false, .g false, .g false, .res (cB v15), .g false, .g false, .g false, .g false, .g false, .g false, .g false, .g false, .g false, .g false, .cs (eTKind v18), .g false, .g false, .g false, .res (cB v20), .g false, .g false] [] [(2, .c (.pk 2 0)), (3, .c (.pk 3 0)), (32, cB (!v20))] [(2, .var (eTBoard p0) false), (3, .var (eTUnit p1) false)] (fun t => aI (i_isSide_ok p1.Side v12 h13) (aI trivial (aI (rfl : ([] : List Nat) = []) (aI c14 (aI c14 (aI c14 (aI c14 (aI c14 (aI c14 (aI c14 (aI (i_isIndex_ok p1.Kind (p0.Rules.Kinds.length : Int) v15 h16) (aI trivial (aI (rfl : ([] : List Nat) = []) (aI c14 (aI c14 (aI c17 (aI c17 (aI c17 (aI c17 (aI c17 (aI c17 (aI c17 (aI c17 (aI (at_lt h19) (aI (at_enc (enc := eTKind) h19) (aI c17 (aI c17 (aI (rfl : ([] : List Nat) = []) (aI c17 (aI (i_inRange_ok p1.Steps 0 v18.Steps v20 h21) (aI trivial (aI (rfl : ([] : List Nat) = []) (aI c17 (aI c17 (t))))))))))))))))))))))))))))))))))) (by kernel_rfl) ?_
      rcases ofCond H with ⟨c22, H⟩ | ⟨c22, H⟩
      · refine ite_t c22 (by kernel_rfl) ?_
        refine seq_ops [] [] [(4, cB false)] [] (fun t => t) (by kernel_rfl) ?_
        refine ends_ret ?_
        obtain rfl := Option.some.inj H
        exact And.intro (.inl rfl) rfl
      · refine ite_f c22 (by kernel_rfl) ?_
        refine ends_skip ?_
        change EndsI _ _ _ _ _ _
        refine seq_in ?_
        refine seq_ops [] [] [(2, .c (.pk 2 0)), (3, .c (.pk 3 0)), (35, cB (p1.At == (-1)))] [(2, .var (eTBoard p0) false), (3, .var (eTUnit p1) false)] (fun t => t) (by kernel_rfl) ?_
        rcases ofCond H with ⟨c24, H⟩ | ⟨c24, H⟩
        · refine ite_t c24 (by kernel_rfl) ?_
          refine seq_ops [] [] [(4, cB true)] [] (fun t => t) (by kernel_rfl) ?_
          refine ends_ret ?_
          obtain rfl := Option.some.inj H
          exact And.intro (.inl rfl) rfl
        · refine ite_f c24 (by kernel_rfl) ?_
          refine ends_skip ?_
          change EndsI _ _ _ _ _ _
          rcases ofCond H with ⟨c25, H⟩ | ⟨c25, H⟩
          · obtain ⟨v26, h27, H⟩ := ofBind H
            obtain ⟨v28, h29, H⟩ := ofBind H
            rcases ofCond H with ⟨c30, H⟩ | ⟨c30, H⟩
            · obtain ⟨v31, h32, H⟩ := ofBind H
              refine seq_draw [.g true, .g true, .g true, .g true, .res (cI v26), .g true, .res (cB v28), .g true, .g true, .g true, .g true, .g true, .g true, .g true, .res (cI v31), .g true, .g true] [] [(4, cB (v31 != 0))] [] (fun t => aI c25 (aI c25 (aI c25 (aI c25 (aI (i_sizeOf_ok p0 v26 h27) (aI trivial (aI (rfl : ([] : List Nat) = []) (aI c25 (aI (i_isIndex_ok p1.At v26 v28 h29) (aI trivial (aI (rfl : ([] : List Nat) = []) (aI c25 (aI c30 (aI c30 (aI c30 (aI c30 (aI c30 (aI c30 (aI (i_enterCost_ok p0 p1.Kind p1.At v31 h32) (aI trivial (aI (rfl : ([] : List Nat) = []) (aI c30 (aI c30 (t)))))))))))))))))))))))) (by kernel_rfl) ?_
              refine ends_ret ?_
              obtain rfl := Option.some.inj H
              exact And.intro (.inl rfl) rfl
            · refine seq_draw [.g true, .g true, .g true, .g true, .res (cI v26), .g true, .res (cB v28), .g true, .g false, .g false, .g false, .g false, .g false, .g false, .g false, .g false] [] [(4, cB false)] [] (fun t => aI c25 (aI c25 (aI c25 (aI c25 (aI (i_sizeOf_ok p0 v26 h27) (aI trivial (aI (rfl : ([] : List Nat) = []) (aI c25 (aI (i_isIndex_ok p1.At v26 v28 h29) (aI trivial (aI (rfl : ([] : List Nat) = []) (aI c25 (aI c30 (aI c30 (aI c30 (aI c30 (aI c30 (aI c30 (aI c30 (aI c30 (t))))))))))))))))))))) (by kernel_rfl) ?_
              refine ends_ret ?_
              obtain rfl := Option.some.inj H
              exact And.intro (.inl rfl) rfl
          · refine seq_draw [.g false, .g false, .g false, .g false, .g false, .g false, .g false, .g false, .g false, .g false, .g false, .g false, .g false, .g false] [] [(4, cB false)] [] (fun t => aI c25 (aI c25 (aI c25 (aI c25 (aI c25 (aI c25 (aI (rfl : (false : Bool) = false) (aI (rfl : (false : Bool) = false) (aI (rfl : (false : Bool) = false) (aI (rfl : (false : Bool) = false) (aI (rfl : (false : Bool) = false) (aI (rfl : (false : Bool) = false) (aI (rfl : (false : Bool) = false) (aI (rfl : (false : Bool) = false) (t))))))))))))))) (by kernel_rfl) ?_
            refine ends_ret ?_
            obtain rfl := Option.some.inj H
            exact And.intro (.inl rfl) rfl

def g_IsSortedFunc_Unit_ir : S :=
 (.seq (.ops [⟨some 4, .mv (.v (.bool false)), none⟩])
 (.seq (.seq (.ops [⟨some 6, .mv (.t 0), none⟩, ⟨some 7, .len (.t 6), none⟩, ⟨some 8, .bin .sub (.t 7) (.v (.int .i64 1)), none⟩, ⟨some 5, .mv (.t 8), none⟩])
 (.blk 0 (.loop (.seq (.seq (.ops [⟨some 9, .mv (.t 5), none⟩, ⟨some 10, .bin .gtr (.t 9) (.v (.int .i64 0)), none⟩])
   (.ite (.t 10) .skip
   (.exit 0)))
   (.seq (.blk 1 (.seq (.draw 12 [⟨some 13, .mv (.t 1), none⟩, ⟨some 14, .mv (.t 0), none⟩, ⟨some 15, .mv (.t 5), none⟩, ⟨some 16, .iad 4 (.t 14) (.t 15), none⟩, ⟨some 17, .load 4 true (.t 16), none⟩, ⟨some 18, .mv (.t 0), none⟩, ⟨some 19, .mv (.t 5), none⟩, ⟨some 20, .bin .sub (.t 19) (.v (.int .i64 1)), none⟩, ⟨some 21, .iad 4 (.t 18) (.t 20), none⟩, ⟨some 22, .load 4 true (.t 21), none⟩, ⟨some 23, .cald (.t 13) [.t 17, .t 22], none⟩, ⟨some 24, .bin .lss (.t 23) (.v (.int .i64 0)), none⟩])
    (.ite (.t 24) (.seq (.ops [⟨some 4, .mv (.v (.bool false)), none⟩])
     .ret)
    .skip)))
   (.ops [⟨some 11, .mv (.t 5), none⟩, ⟨some 12, .bin .sub (.t 11) (.v (.int .i64 1)), none⟩, ⟨some 5, .mv (.t 12), none⟩]))))))
 (.seq (.ops [⟨some 4, .mv (.v (.bool true)), none⟩])
 .ret)))
noncomputable def X.g_IsSortedFunc_Unit (p0 : (List TUnit)) (f1 : TUnit → TUnit → Option Int) : Option Bool :=
  ((loop (fun (x20 : Int) => ((bif (decide (x20 > 0)) then ((at' zTUnit p0 x20).bind fun v23 => ((at' zTUnit p0 (W (x20 - 1))).bind fun v25 => ((f1 v23 v25).bind fun v27 => (bif (decide (v27 < 0)) then some (Sum.inr (Sum.inr false)) else some (Sum.inl (W (x20 - 1))))))) else some (Sum.inr (Sum.inl ()))) : Option (Int ⊕ (Unit ⊕ Bool)))) (W ((p0.length : Int) - 1))).bind fun y30 => (Sum.elim (fun (y32 : Unit) => some true) (fun (y33 : Bool) => some y33) y30))
theorem g_IsSortedFunc_Unit_c0_ok (p0 : (List TUnit)) (cf1 : FuncId) (f1 : TUnit → TUnit → Option Int) (hf1 : ∀ q0 q1 r, f1 q0 q1 = some r → FnOk Tryz.prog gl cf1 [.agg (eTUnit q0), .agg (eTUnit q1)] (cI r)) (r : Bool) (H : X.g_IsSortedFunc_Unit p0 f1 = some r) : FnOk Tryz.prog gl 150 [.c (dat 4 eTUnit zTUnit p0), .c (.clo cf1 [])] (cB r) := by
  unfold X.g_IsSortedFunc_Unit at H
  refine fn_in (fn := Tryz.f150) (ir := g_IsSortedFunc_Unit_ir) (s1 := lit [(4, cB r)] []) glL Tryz.func150 (by kernel_rfl) (by kernel_rfl) (by kernel_rfl) (by kernel_rfl) (by kernel_rfl) ?_
  refine seq_ops [] [] [(0, .c (dat 4 eTUnit zTUnit p0)), (1, .c (.clo cf1 []))] [] (fun t => t) (by kernel_rfl) ?_
  refine seq_in ?_
  refine seq_ops [] [] [(0, .c (dat 4 eTUnit zTUnit p0)), (1, .c (.clo cf1 [])), (5, cI (W ((p0.length : Int) - 1)))] [] (fun t => lI p0 (t)) (by kernel_rfl) ?_
  refine ends_blk ?_
  obtain ⟨y30, h31, H⟩ := ofBind H
  refine loop_in (fun (x : Int) => lit [(0, .c (dat 4 eTUnit zTUnit p0)), (1, .c (.clo cf1 [])), (5, cI x)] []) (orJ (fun (z : Unit) => At (.exit 0) (lit [] [])) (fun (z : Bool) => At .ret (lit [(4, cB z)] []))) h31 ?_ ?_
  · clear H h31
    intro x20 y0 H
    refine seq_in ?_
    refine seq_ops [] [] [(0, .c (dat 4 eTUnit zTUnit p0)), (1, .c (.clo cf1 [])), (5, cI x20), (10, cB (decide (x20 > 0)))] [] (fun t => t) (by kernel_rfl) ?_
    rcases ofCond H with ⟨c22, H⟩ | ⟨c22, H⟩
    · refine ite_t c22 (by kernel_rfl) ?_
      refine ends_skip ?_
      change EndsI _ _ _ _ _ _
      refine seq_in ?_
      refine ends_blk ?_
      obtain ⟨v23, h24, H⟩ := ofBind H
      obtain ⟨v25, h26, H⟩ := ofBind H
      obtain ⟨v27, h28, H⟩ := ofBind H
      refine seq_draw [.cs (eTUnit v23), .cs (eTUnit v25), .res (cI v27)] [] [(0, .c (dat 4 eTUnit zTUnit p0)), (1, .c (.clo cf1 [])), (5, cI x20), (24, cB (decide (v27 < 0)))] [] (fun t => aI (at_lt h24) (aI (at_enc (enc := eTUnit) h24) (aI (rfl : ([] : List Nat) = []) (aI (at_lt h26) (aI (at_enc (enc := eTUnit) h26) (aI (rfl : ([] : List Nat) = []) (aI (hf1 v23 v25 v27 h28) (aI trivial (aI (rfl : ([] : List Nat) = []) (t)))))))))) (by kernel_rfl) ?_
      rcases ofCond H with ⟨c29, H⟩ | ⟨c29, H⟩
      · refine ite_t c29 (by kernel_rfl) ?_
        refine seq_ops [] [] [(4, cB false)] [] (fun t => t) (by kernel_rfl) ?_
        refine ends_ret ?_
        obtain rfl := Option.some.inj H
        exact And.intro (by simp) (And.intro rfl rfl)
      · refine ite_f c29 (by kernel_rfl) ?_
        refine ends_skip ?_
        change EndsI _ _ _ _ _ _
        refine one_ops [] [] [(0, .c (dat 4 eTUnit zTUnit p0)), (1, .c (.clo cf1 [])), (5, cI (W (x20 - 1)))] [] (fun t => t) (by kernel_rfl) ?_
        obtain rfl := Option.some.inj H
        exact And.intro rfl rfl
    · refine ite_f c22 (by kernel_rfl) ?_
      refine tell [] [] [] (fun t => t) (by kernel_rfl) ?_
      refine ends_exit ?_
      obtain rfl := Option.some.inj H
      exact And.intro (by simp) (And.intro rfl rfl)
  · clear h31
    cases y30 with
    | inl y32 =>
      replace H := ofInl H
      intro e s q
      obtain ⟨rfl, rfl⟩ := q
      change EndsI _ _ _ _ _ _
      refine seq_ops [] [] [(4, cB true)] [] (fun t => t) (by kernel_rfl) ?_
      refine ends_ret ?_
      obtain rfl := Option.some.inj H
      exact And.intro (.inl rfl) rfl
    | inr y33 =>
      replace H := ofInr H
      intro e s q
      obtain ⟨rfl, rfl⟩ := q
      obtain rfl := Option.some.inj H
      exact And.intro (.inl rfl) rfl

def i_compareUnits_ir : S :=
 (.seq (.ops [⟨some 2, .box 4 (.t 0), none⟩, ⟨some 3, .box 4 (.t 1), none⟩, ⟨some 4, .mv (.v (.int .i64 0)), none⟩])
 (.seq (.seq (.ops [⟨some 5, .fad 2 (.t 2), none⟩, ⟨some 6, .load 1 false (.t 5), none⟩, ⟨some 7, .fad 2 (.t 3), none⟩, ⟨some 8, .load 1 false (.t 7), none⟩, ⟨some 9, .bin .neq (.t 6) (.t 8), none⟩])
 (.ite (.t 9) (.seq (.ops [⟨some 10, .fad 2 (.t 2), none⟩, ⟨some 11, .load 1 false (.t 10), none⟩, ⟨some 12, .fad 2 (.t 3), none⟩, ⟨some 13, .load 1 false (.t 12), none⟩, ⟨some 14, .bin .sub (.t 11) (.t 13), none⟩, ⟨some 4, .mv (.t 14), none⟩])
  .ret)
 .skip))
 (.seq (.seq (.ops [⟨some 15, .fad 1 (.t 2), none⟩, ⟨some 16, .load 1 false (.t 15), none⟩, ⟨some 17, .fad 1 (.t 3), none⟩, ⟨some 18, .load 1 false (.t 17), none⟩, ⟨some 19, .bin .neq (.t 16) (.t 18), none⟩])
 (.ite (.t 19) (.seq (.ops [⟨some 20, .fad 1 (.t 2), none⟩, ⟨some 21, .load 1 false (.t 20), none⟩, ⟨some 22, .fad 1 (.t 3), none⟩, ⟨some 23, .load 1 false (.t 22), none⟩, ⟨some 24, .bin .sub (.t 21) (.t 23), none⟩, ⟨some 4, .mv (.t 24), none⟩])
  .ret)
 .skip))
 (.seq (.ops [⟨some 25, .fad 3 (.t 2), none⟩, ⟨some 26, .load 1 false (.t 25), none⟩, ⟨some 27, .fad 3 (.t 3), none⟩, ⟨some 28, .load 1 false (.t 27), none⟩, ⟨some 29, .bin .sub (.t 26) (.t 28), none⟩, ⟨some 4, .mv (.t 29), none⟩])
 .ret))))
noncomputable def X.i_compareUnits (p0 : TUnit) (p1 : TUnit) : Option Int :=
  (bif (p0.At != p1.At) then some (W (p0.At - p1.At)) else (bif (p0.Kind != p1.Kind) then some (W (p0.Kind - p1.Kind)) else some (W (p0.Steps - p1.Steps))))
theorem i_compareUnits_ok (p0 : TUnit) (p1 : TUnit) (r : Int) (H : X.i_compareUnits p0 p1 = some r) : FnOk Tryz.prog gl 151 [.agg (eTUnit p0), .agg (eTUnit p1)] (cI r) := by
  unfold X.i_compareUnits at H
  refine fn_in (fn := Tryz.f151) (ir := i_compareUnits_ir) (s1 := lit [(4, cI r)] []) glL Tryz.func151 (by kernel_rfl) (by kernel_rfl) (by kernel_rfl) (by kernel_rfl) (by kernel_rfl) ?_
  refine seq_ops [] [] [(2, .c (.pk 2 0)), (3, .c (.pk 3 0))] [(2, .var (eTUnit p0) false), (3, .var (eTUnit p1) false)] (fun t => t) (by kernel_rfl) ?_
  refine seq_in ?_
  refine seq_ops [] [] [(2, .c (.pk 2 0)), (3, .c (.pk 3 0)), (9, cB (p0.At != p1.At))] [(2, .var (eTUnit p0) false), (3, .var (eTUnit p1) false)] (fun t => t) (by kernel_rfl) ?_
  rcases ofCond H with ⟨c2, H⟩ | ⟨c2, H⟩
  · refine ite_t c2 (by kernel_rfl) ?_
    refine seq_ops [] [] [(4, cI (W (p0.At - p1.At)))] [] (fun t => t) (by kernel_rfl) ?_
    refine ends_ret ?_
    obtain rfl := Option.some.inj H
    exact And.intro (.inl rfl) rfl
  · refine ite_f c2 (by kernel_rfl) ?_
    refine ends_skip ?_
    change EndsI _ _ _ _ _ _
    refine seq_in ?_
    refine seq_ops [] [] [(2, .c (.pk 2 0)), (3, .c (.pk 3 0)), (19, cB (p0.Kind != p1.Kind))] [(2, .var (eTUnit p0) false), (3, .var (eTUnit p1) false)] (fun t => t) (by kernel_rfl) ?_
    rcases ofCond H with ⟨c3, H⟩ | ⟨c3, H⟩
    · refine ite_t c3 (by kernel_rfl) ?_
      refine seq_ops [] [] [(4, cI (W (p0.Kind - p1.Kind)))] [] (fun t => t) (by kernel_rfl) ?_
      refine ends_ret ?_
      obtain rfl := Option.some.inj H
      exact And.intro (.inl rfl) rfl
    · refine ite_f c3 (by kernel_rfl) ?_
      refine ends_skip ?_
      change EndsI _ _ _ _ _ _
      refine seq_ops [] [] [(4, cI (W (p0.Steps - p1.Steps)))] [] (fun t => t) (by kernel_rfl) ?_
      refine ends_ret ?_
      obtain rfl := Option.some.inj H
      exact And.intro (.inl rfl) rfl

def i_goodView_ir : S :=
 (.seq (.ops [⟨some 2, .box 12 (.t 0), none⟩, ⟨some 3, .box 6 (.t 1), none⟩, ⟨some 4, .mv (.v (.bool false)), none⟩])
 (.seq (.seq (.ops [⟨some 9, .fad 0 (.t 3), none⟩, ⟨some 10, .load 1 false (.t 9), none⟩, ⟨some 11, .call 132 [.t 10], none⟩, ⟨some 12, .not (.t 11), none⟩, ⟨some 13, .mv (.t 12), none⟩, ⟨some 14, .fad 1 (.t 3), some (13, false)⟩, ⟨some 15, .load 1 false (.t 14), some (13, false)⟩, ⟨some 16, .fad 0 (.t 2), some (13, false)⟩, ⟨some 17, .fad 6 (.t 16), some (13, false)⟩, ⟨some 18, .load 1 false (.t 17), some (13, false)⟩, ⟨some 19, .call 145 [.t 15, .v (.int .i64 0), .t 18], some (13, false)⟩, ⟨some 20, .not (.t 19), some (13, false)⟩, ⟨some 21, .pick (.t 13) (.v (.bool true)) (.t 20), none⟩, ⟨some 22, .mv (.t 21), none⟩, ⟨some 23, .fad 2 (.t 3), some (22, false)⟩, ⟨some 24, .load 1 false (.t 23), some (22, false)⟩, ⟨some 25, .call 146 [.t 24], some (22, false)⟩, ⟨some 26, .not (.t 25), some (22, false)⟩, ⟨some 27, .pick (.t 22) (.v (.bool true)) (.t 26), none⟩, ⟨some 28, .mv (.t 27), none⟩, ⟨some 29, .fad 3 (.t 3), some (28, false)⟩, ⟨some 30, .load 1 false (.t 29), some (28, false)⟩, ⟨some 31, .call 147 [.t 30], some (28, false)⟩, ⟨some 32, .not (.t 31), some (28, false)⟩, ⟨some 33, .pick (.t 28) (.v (.bool true)) (.t 32), none⟩, ⟨some 34, .mv (.t 33), none⟩, ⟨some 35, .fad 4 (.t 3), some (34, false)⟩, ⟨some 36, .load 1 false (.t 35), some (34, false)⟩, ⟨some 37, .len (.t 36), some (34, false)⟩, ⟨some 38, .bin .gtr (.t 37) (.v (.int .i64 12)), some (34, false)⟩, ⟨some 39, .pick (.t 34) (.v (.bool true)) (.t 38), none⟩, ⟨some 40, .mv (.t 39), none⟩, ⟨some 41, .fad 5 (.t 3), some (40, false)⟩, ⟨some 42, .load 1 false (.t 41), some (40, false)⟩, ⟨some 43, .len (.t 42), some (40, false)⟩, ⟨some 44, .bin .gtr (.t 43) (.v (.int .i64 12)), some (40, false)⟩, ⟨some 45, .pick (.t 40) (.v (.bool true)) (.t 44), none⟩])
 (.ite (.t 45) (.seq (.ops [⟨some 4, .mv (.v (.bool false)), none⟩])
  .ret)
 .skip))
 (.seq (.seq (.ops [⟨some 46, .fad 3 (.t 3), none⟩, ⟨some 47, .load 1 false (.t 46), none⟩, ⟨some 48, .clo 148 [.t 2], none⟩, ⟨some 49, .call 70 [.t 47, .t 48], none⟩])
 (.ite (.t 49) (.seq (.ops [⟨some 4, .mv (.v (.bool false)), none⟩])
  .ret)
 .skip))
 (.seq (.seq (.ops [⟨some 50, .fad 4 (.t 3), none⟩, ⟨some 51, .load 1 false (.t 50), none⟩, ⟨some 52, .len (.t 51), none⟩, ⟨some 53, .mv (.v (.int .i64 0)), none⟩])
 (.blk 0 (.loop (.seq (.ops [⟨some 54, .bin .lss (.t 53) (.t 52), none⟩])
   (.seq (.ite (.t 54) .skip
   (.exit 0))
   (.seq (.blk 1 (.seq (.ops [⟨some 55, .iad 4 (.t 51) (.t 53), none⟩, ⟨some 56, .load 4 true (.t 55), none⟩, ⟨some 6, .alloc [.int .i64 0, .int .i64 0, .int .i64 0, .int .i64 0], none⟩, ⟨none, .store 4 (.t 6) (.t 56), none⟩])
    (.seq (.ops [⟨some 57, .load 12 true (.t 2), none⟩, ⟨some 58, .load 4 true (.t 6), none⟩, ⟨some 59, .call 149 [.t 57, .t 58], none⟩, ⟨some 60, .not (.t 59), none⟩, ⟨some 61, .mv (.t 60), none⟩, ⟨some 62, .fad 0 (.t 6), some (61, false)⟩, ⟨some 63, .load 1 false (.t 62), some (61, false)⟩, ⟨some 64, .fad 0 (.t 3), some (61, false)⟩, ⟨some 65, .load 1 false (.t 64), some (61, false)⟩, ⟨some 66, .bin .neq (.t 63) (.t 65), some (61, false)⟩, ⟨some 67, .pick (.t 61) (.v (.bool true)) (.t 66), none⟩])
    (.ite (.t 67) (.seq (.ops [⟨some 4, .mv (.v (.bool false)), none⟩])
     .ret)
    .skip))))
   (.ops [⟨some 68, .bin .add (.t 53) (.v (.int .i64 1)), none⟩, ⟨some 53, .mv (.t 68), none⟩])))))))
 (.seq (.seq (.ops [⟨some 69, .fad 5 (.t 3), none⟩, ⟨some 70, .load 1 false (.t 69), none⟩, ⟨some 71, .len (.t 70), none⟩, ⟨some 72, .mv (.v (.int .i64 0)), none⟩])
 (.blk 2 (.loop (.seq (.ops [⟨some 73, .bin .lss (.t 72) (.t 71), none⟩])
   (.seq (.ite (.t 73) .skip
   (.exit 2))
   (.seq (.blk 3 (.seq (.ops [⟨some 74, .iad 4 (.t 70) (.t 72), none⟩, ⟨some 75, .load 4 true (.t 74), none⟩, ⟨some 8, .alloc [.int .i64 0, .int .i64 0, .int .i64 0, .int .i64 0], none⟩, ⟨none, .store 4 (.t 8) (.t 75), none⟩])
    (.seq (.ops [⟨some 76, .load 12 true (.t 2), none⟩, ⟨some 77, .load 4 true (.t 8), none⟩, ⟨some 78, .call 149 [.t 76, .t 77], none⟩, ⟨some 79, .not (.t 78), none⟩, ⟨some 80, .mv (.t 79), none⟩, ⟨some 81, .fad 0 (.t 8), some (80, false)⟩, ⟨some 82, .load 1 false (.t 81), some (80, false)⟩, ⟨some 83, .fad 0 (.t 3), some (80, false)⟩, ⟨some 84, .load 1 false (.t 83), some (80, false)⟩, ⟨some 85, .bin .eql (.t 82) (.t 84), some (80, false)⟩, ⟨some 86, .pick (.t 80) (.v (.bool true)) (.t 85), none⟩, ⟨some 87, .mv (.t 86), none⟩, ⟨some 88, .fad 3 (.t 3), some (87, false)⟩, ⟨some 89, .load 1 false (.t 88), some (87, false)⟩, ⟨some 90, .fad 2 (.t 8), some (87, false)⟩, ⟨some 91, .load 1 false (.t 90), some (87, false)⟩, ⟨some 92, .call 86 [.t 89, .t 91], some (87, false)⟩, ⟨some 93, .not (.t 92), some (87, false)⟩, ⟨some 94, .pick (.t 87) (.v (.bool true)) (.t 93), none⟩])
    (.ite (.t 94) (.seq (.ops [⟨some 4, .mv (.v (.bool false)), none⟩])
     .ret)
    .skip))))
   (.ops [⟨some 95, .bin .add (.t 72) (.v (.int .i64 1)), none⟩, ⟨some 72, .mv (.t 95), none⟩])))))))
 (.seq (.ops [⟨some 96, .fad 5 (.t 3), none⟩, ⟨some 97, .load 1 false (.t 96), none⟩, ⟨some 98, .call 150 [.t 97, .f 151], none⟩, ⟨some 4, .mv (.t 98), none⟩])
 .ret))))))
noncomputable def X.i_goodView (p0 : TBoard) (p1 : TView) : Option Bool :=
  ((X.i_isSide p1.Side).bind fun v15 => (bif (!v15) then some false else ((X.i_inRange p1.Turn 0 p0.Rules.Turns).bind fun v18 => (bif (!v18) then some false else ((X.i_isWeather p1.Weather).bind fun v21 => (bif (!v21) then some false else ((X.i_increasing p1.Seen).bind fun v24 => (bif (!v24) then some false else (bif (decide ((p1.Own.length : Int) > 12)) then some false else (bif (decide ((p1.Enemies.length : Int) > 12)) then some false else ((X.g_ContainsFunc_int p1.Seen (fun q0 => X.i_goodView_1 q0 p0)).bind fun v32 => (bif v32 then some false else ((loop (fun (x82 : Int) => ((bif (decide (x82 < (p1.Own.length : Int))) then ((at' zTUnit p1.Own x82).bind fun v85 => ((X.i_goodUnit p0 v85).bind fun v87 => (bif (!v87) then some (Sum.inr (Sum.inr false)) else (bif (v85.Side != p1.Side) then some (Sum.inr (Sum.inr false)) else some (Sum.inl (W (x82 + 1))))))) else some (Sum.inr (Sum.inl ()))) : Option (Int ⊕ (Unit ⊕ Bool)))) 0).bind fun y91 => (Sum.elim (fun (y93 : Unit) => ((loop (fun (x118 : Int) => ((bif (decide (x118 < (p1.Enemies.length : Int))) then ((at' zTUnit p1.Enemies x118).bind fun v121 => ((X.i_goodUnit p0 v121).bind fun v123 => (bif (!v123) then some (Sum.inr (Sum.inr false)) else (bif (v121.Side == p1.Side) then some (Sum.inr (Sum.inr false)) else ((X.g_Contains_int p1.Seen v121.At).bind fun v127 => (bif (!v127) then some (Sum.inr (Sum.inr false)) else some (Sum.inl (W (x118 + 1))))))))) else some (Sum.inr (Sum.inl ()))) : Option (Int ⊕ (Unit ⊕ Bool)))) 0).bind fun y130 => (Sum.elim (fun (y132 : Unit) => ((X.g_IsSortedFunc_Unit p1.Enemies (fun q0 q1 => X.i_compareUnits q0 q1)).bind fun v134 => some v134)) (fun (y133 : Bool) => some y133) y130))) (fun (y94 : Bool) => some y94) y91))))))))))))))
theorem i_goodView_ok (p0 : TBoard) (p1 : TView) (r : Bool) (H : X.i_goodView p0 p1 = some r) : FnOk Tryz.prog gl 89 [.agg (eTBoard p0), .agg (eTView p1)] (cB r) := by
  unfold X.i_goodView at H
  refine fn_in (fn := Tryz.f89) (ir := i_goodView_ir) (s1 := lit [(4, cB r)] []) glL Tryz.func89 (by kernel_rfl) (by kernel_rfl) (by kernel_rfl) (by kernel_rfl) (by kernel_rfl) ?_
  refine seq_ops [] [] [(2, .c (.pk 2 0)), (3, .c (.pk 3 0))] [(2, .var (eTBoard p0) false), (3, .var (eTView p1) false)] (fun t => t) (by kernel_rfl) ?_
  refine seq_in ?_
  obtain ⟨v15, h16, H⟩ := ofBind H
  rcases ofCond H with ⟨c17, H⟩ | ⟨c17, H⟩
  · refine seq_ops [.res (cB v15), .g true, .g true, .g true, .g true, .g true, .g true, .g true, .g true, .g true, .g true, .g true, .g true, .g true, .g true, .g true, .g true, .g true, .g true, .g true, .g true, .g true, .g true, .g true, .g true, .g true, .g true, .g true, .g true] [] [(2, .c (.pk 2 0)), (3, .c (.pk 3 0)), (45, cB true)] [(2, .var (eTBoard p0) false), (3, .var (eTView p1) false)] (fun t => aI (i_isSide_ok p1.Side v15 h16) (aI c17 (aI c17 (aI c17 (aI c17 (aI c17 (aI c17 (aI c17 (aI c17 (aI (rfl : (true : Bool) = true) (aI (rfl : (true : Bool) = true) (aI (rfl : (true : Bool) = true) (aI (rfl : (true : Bool) = true) (aI (rfl : (true : Bool) = true) (aI (rfl : (true : Bool) = true) (aI (rfl : (true : Bool) = true) (aI (rfl : (true : Bool) = true) (aI (rfl : (true : Bool) = true) (aI (rfl : (true : Bool) = true) (aI (rfl : (true : Bool) = true) (aI (rfl : (true : Bool) = true) (aI (rfl : (true : Bool) = true) (aI (rfl : (true : Bool) = true) (aI (rfl : (true : Bool) = true) (aI (rfl : (true : Bool) = true) (aI (rfl : (true : Bool) = true) (aI (rfl : (true : Bool) = true) (aI (rfl : (true : Bool) = true) (aI (rfl : (true : Bool) = true) (t)))))))))))))))))))))))))))))) (by kernel_rfl) ?_
    refine ite_t (rfl : (true : Bool) = true) (by kernel_rfl) ?_
    refine seq_ops [] [] [(4, cB false)] [] (fun t => t) (by kernel_rfl) ?_
    refine ends_ret ?_
    obtain rfl := Option.some.inj H
    exact And.intro (.inl rfl) rfl
  · obtain ⟨v18, h19, H⟩ := ofBind H
    rcases ofCond H with ⟨c20, H⟩ | ⟨c20, H⟩
    · refine seq_ops [.res (cB v15), .g false, .g false, .g false, .g false, .g false, .g false, .res (cB v18), .g false, .g false, .g true, .g true, .g true, .g true, .g true, .g true, .g true, .g true, .g true, .g true, .g true, .g true, .g true, .g true, .g true, .g true, .g true, .g true, .g true, .g true] [] [(2, .c (.pk 2 0)), (3, .c (.pk 3 0)), (45, cB true)] [(2, .var (eTBoard p0) false), (3, .var (eTView p1) false)] (fun t => aI (i_isSide_ok p1.Side v15 h16) (aI c17 (aI c17 (aI c17 (aI c17 (aI c17 (aI c17 (aI (i_inRange_ok p1.Turn 0 p0.Rules.Turns v18 h19) (aI c17 (aI c17 (aI c20 (aI c20 (aI c20 (aI c20 (aI c20 (aI (rfl : (true : Bool) = true) (aI (rfl : (true : Bool) = true) (aI (rfl : (true : Bool) = true) (aI (rfl : (true : Bool) = true) (aI (rfl : (true : Bool) = true) (aI (rfl : (true : Bool) = true) (aI (rfl : (true : Bool) = true) (aI (rfl : (true : Bool) = true) (aI (rfl : (true : Bool) = true) (aI (rfl : (true : Bool) = true) (aI (rfl : (true : Bool) = true) (aI (rfl : (true : Bool) = true) (aI (rfl : (true : Bool) = true) (aI (rfl : (true : Bool) = true) (aI (rfl : (true : Bool) = true) (t))))))))))))))))))))))))))))))) (by kernel_rfl) ?_
      refine ite_t (rfl : (true : Bool) = true) (by kernel_rfl) ?_
      refine seq_ops [] [] [(4, cB false)] [] (fun t => t) (by kernel_rfl) ?_
      refine ends_ret ?_
      obtain rfl := Option.some.inj H
      exact And.intro (.inl rfl) rfl
    · obtain ⟨v21, h22, H⟩ := ofBind H
      rcases ofCond H with ⟨c23, H⟩ | ⟨c23, H⟩
      · refine seq_ops [.res (cB v15), .g false, .g false, .g false, .g false, .g false, .g false, .res (cB v18), .g false, .g false, .g false, .g false, .g false, .res (cB v21), .g false, .g false, .g true, .g true, .g true, .g true, .g true, .g true, .g true, .g true, .g true, .g true, .g true, .g true, .g true, .g true, .g true] [] [(2, .c (.pk 2 0)), (3, .c (.pk 3 0)), (45, cB true)] [(2, .var (eTBoard p0) false), (3, .var (eTView p1) false)] (fun t => aI (i_isSide_ok p1.Side v15 h16) (aI c17 (aI c17 (aI c17 (aI c17 (aI c17 (aI c17 (aI (i_inRange_ok p1.Turn 0 p0.Rules.Turns v18 h19) (aI c17 (aI c17 (aI c20 (aI c20 (aI c20 (aI (i_isWeather_ok p1.Weather v21 h22) (aI c20 (aI c20 (aI c23 (aI c23 (aI c23 (aI c23 (aI c23 (aI (rfl : (true : Bool) = true) (aI (rfl : (true : Bool) = true) (aI (rfl : (true : Bool) = true) (aI (rfl : (true : Bool) = true) (aI (rfl : (true : Bool) = true) (aI (rfl : (true : Bool) = true) (aI (rfl : (true : Bool) = true) (aI (rfl : (true : Bool) = true) (aI (rfl : (true : Bool) = true) (aI (rfl : (true : Bool) = true) (t)))))))))))))))))))))))))))))))) (by kernel_rfl) ?_
        refine ite_t (rfl : (true : Bool) = true) (by kernel_rfl) ?_
        refine seq_ops [] [] [(4, cB false)] [] (fun t => t) (by kernel_rfl) ?_
        refine ends_ret ?_
        obtain rfl := Option.some.inj H
        exact And.intro (.inl rfl) rfl
      · obtain ⟨v24, h25, H⟩ := ofBind H
        rcases ofCond H with ⟨c26, H⟩ | ⟨c26, H⟩
        · refine seq_ops [.res (cB v15), .g false, .g false, .g false, .g false, .g false, .g false, .res (cB v18), .g false, .g false, .g false, .g false, .g false, .res (cB v21), .g false, .g false, .g false, .g false, .g false, .res (cB v24), .g false, .g false, .g true, .g true, .g true, .g true, .g true, .g true, .g true, .g true, .g true, .g true] [] [(2, .c (.pk 2 0)), (3, .c (.pk 3 0)), (45, cB true)] [(2, .var (eTBoard p0) false), (3, .var (eTView p1) false)] (fun t => aI (i_isSide_ok p1.Side v15 h16) (aI c17 (aI c17 (aI c17 (aI c17 (aI c17 (aI c17 (aI (i_inRange_ok p1.Turn 0 p0.Rules.Turns v18 h19) (aI c17 (aI c17 (aI c20 (aI c20 (aI c20 (aI (i_isWeather_ok p1.Weather v21 h22) (aI c20 (aI c20 (aI c23 (aI c23 (aI c23 (aI (i_increasing_ok p1.Seen v24 h25) (aI c23 (aI c23 (aI c26 (aI c26 (aI c26 (aI c26 (aI c26 (aI (rfl : (true : Bool) = true) (aI (rfl : (true : Bool) = true) (aI (rfl : (true : Bool) = true) (aI (rfl : (true : Bool) = true) (aI (rfl : (true : Bool) = true) (t))))))))))))))))))))))))))))))))) (by kernel_rfl) ?_
          refine ite_t (rfl : (true : Bool) = true) (by kernel_rfl) ?_
          refine seq_ops [] [] [(4, cB false)] [] (fun t => t) (by kernel_rfl) ?_
          refine ends_ret ?_
          obtain rfl := Option.some.inj H
          exact And.intro (.inl rfl) rfl
        · rcases ofCond H with ⟨c27, H⟩ | ⟨c27, H⟩
          · refine seq_ops [.res (cB v15), .g false, .g false, .g false, .g false, .g false, .g false, .res (cB v18), .g false, .g false, .g false, .g false, .g false, .res (cB v21), .g false, .g false, .g false, .g false, .g false, .res (cB v24), .g false, .g false, .g false, .g false, .g false, .g false, .g false, .g true, .g true, .g true, .g true, .g true] [] [(2, .c (.pk 2 0)), (3, .c (.pk 3 0)), (45, cB true)] [(2, .var (eTBoard p0) false), (3, .var (eTView p1) false)] (fun t => aI (i_isSide_ok p1.Side v15 h16) (aI c17 (aI c17 (aI c17 (aI c17 (aI c17 (aI c17 (aI (i_inRange_ok p1.Turn 0 p0.Rules.Turns v18 h19) (aI c17 (aI c17 (aI c20 (aI c20 (aI c20 (aI (i_isWeather_ok p1.Weather v21 h22) (aI c20 (aI c20 (aI c23 (aI c23 (aI c23 (aI (i_increasing_ok p1.Seen v24 h25) (aI c23 (aI c23 (aI c26 (aI c26 (aI c26 (lI p1.Own (aI c26 (aI c26 (aI c27 (aI c27 (aI c27 (aI c27 (aI c27 (t)))))))))))))))))))))))))))))))))) (by kernel_rfl) ?_
            refine ite_t (rfl : (true : Bool) = true) (by kernel_rfl) ?_
            refine seq_ops [] [] [(4, cB false)] [] (fun t => t) (by kernel_rfl) ?_
            refine ends_ret ?_
            obtain rfl := Option.some.inj H
            exact And.intro (.inl rfl) rfl
          · refine seq_ops [.res (cB v15), .g false, .g false, .g false, .g false, .g false, .g false, .res (cB v18), .g false, .g false, .g false, .g false, .g false, .res (cB v21), .g false, .g false, .g false, .g false, .g false, .res (cB v24), .g false, .g false, .g false, .g false, .g false, .g false, .g false, .g false, .g false, .g false, .g false, .g false] [] [(2, .c (.pk 2 0)), (3, .c (.pk 3 0)), (45, cB (decide ((p1.Enemies.length : Int) > 12)))] [(2, .var (eTBoard p0) false), (3, .var (eTView p1) false)] (fun t => aI (i_isSide_ok p1.Side v15 h16) (aI c17 (aI c17 (aI c17 (aI c17 (aI c17 (aI c17 (aI (i_inRange_ok p1.Turn 0 p0.Rules.Turns v18 h19) (aI c17 (aI c17 (aI c20 (aI c20 (aI c20 (aI (i_isWeather_ok p1.Weather v21 h22) (aI c20 (aI c20 (aI c23 (aI c23 (aI c23 (aI (i_increasing_ok p1.Seen v24 h25) (aI c23 (aI c23 (aI c26 (aI c26 (aI c26 (lI p1.Own (aI c26 (aI c26 (aI c27 (aI c27 (aI c27 (lI p1.Enemies (aI c27 (aI c27 (t))))))))))))))))))))))))))))))))))) (by kernel_rfl) ?_
            rcases ofCond H with ⟨c28, H⟩ | ⟨c28, H⟩
            · refine ite_t c28 (by kernel_rfl) ?_
              refine seq_ops [] [] [(4, cB false)] [] (fun t => t) (by kernel_rfl) ?_
              refine ends_ret ?_
              obtain rfl := Option.some.inj H
              exact And.intro (.inl rfl) rfl
            · refine ite_f c28 (by kernel_rfl) ?_
              refine ends_skip ?_
              change EndsI _ _ _ _ _ _
              refine seq_in ?_
              obtain ⟨v32, h33, H⟩ := ofBind H
              refine seq_ops [.res (cB v32)] [] [(2, .c (.pk 2 0)), (3, .c (.pk 3 0)), (49, cB v32)] [(2, .var (eTBoard p0) false), (3, .var (eTView p1) false)] (fun t => aI (g_ContainsFunc_int_c1_ok p1.Seen (148) (eTBoard p0) (fun q0 => X.i_goodView_1 q0 p0) (fun q0 r h => i_goodView_1_ok q0 p0 r h) v32 h33) (t)) (by kernel_rfl) ?_
              rcases ofCond H with ⟨c34, H⟩ | ⟨c34, H⟩
              · refine ite_t c34 (by kernel_rfl) ?_
                refine seq_ops [] [] [(4, cB false)] [] (fun t => t) (by kernel_rfl) ?_
                refine ends_ret ?_
                obtain rfl := Option.some.inj H
                exact And.intro (.inl rfl) rfl
              · refine ite_f c34 (by kernel_rfl) ?_
                refine ends_skip ?_
                change EndsI _ _ _ _ _ _
                refine seq_in ?_
                refine seq_ops [] [] [(2, .c (.pk 2 0)), (3, .c (.pk 3 0)), (51, .c (dat 4 eTUnit zTUnit p1.Own)), (52, cI (p1.Own.length : Int)), (53, cI 0)] [(2, .var (eTBoard p0) false), (3, .var (eTView p1) false)] (fun t => lI p1.Own (t)) (by kernel_rfl) ?_
                refine ends_blk ?_
                obtain ⟨y91, h92, H⟩ := ofBind H
                refine loop_in (fun (x : Int) => lit [(2, .c (.pk 2 0)), (3, .c (.pk 3 0)), (51, .c (dat 4 eTUnit zTUnit p1.Own)), (52, cI (p1.Own.length : Int)), (53, cI x)] [(2, .var (eTBoard p0) false), (3, .var (eTView p1) false)]) (orJ (fun (z : Unit) => At (.exit 0) (lit [(2, .c (.pk 2 0)), (3, .c (.pk 3 0))] [(2, .var (eTBoard p0) false), (3, .var (eTView p1) false)])) (fun (z : Bool) => At .ret (lit [(4, cB z)] []))) h92 ?_ ?_
                · clear H h92
                  intro x82 y0 H
                  refine seq_ops [] [] [(2, .c (.pk 2 0)), (3, .c (.pk 3 0)), (51, .c (dat 4 eTUnit zTUnit p1.Own)), (52, cI (p1.Own.length : Int)), (53, cI x82), (54, cB (decide (x82 < (p1.Own.length : Int))))] [(2, .var (eTBoard p0) false), (3, .var (eTView p1) false)] (fun t => t) (by kernel_rfl) ?_
                  refine seq_in ?_
                  rcases ofCond H with ⟨c84, H⟩ | ⟨c84, H⟩
                  · refine ite_t c84 (by kernel_rfl) ?_
                    refine ends_skip ?_
                    change EndsI _ _ _ _ _ _
                    refine seq_in ?_
                    refine ends_blk ?_
                    obtain ⟨v85, h86, H⟩ := ofBind H
                    refine seq_ops [.cs (eTUnit v85)] [] [(2, .c (.pk 2 0)), (3, .c (.pk 3 0)), (6, .c (.pk 6 0)), (51, .c (dat 4 eTUnit zTUnit p1.Own)), (52, cI (p1.Own.length : Int)), (53, cI x82)] [(2, .var (eTBoard p0) false), (3, .var (eTView p1) false), (6, .var (eTUnit v85) false)] (fun t => aI (at_lt h86) (aI (at_enc (enc := eTUnit) h86) (t))) (by kernel_rfl) ?_
                    obtain ⟨v87, h88, H⟩ := ofBind H
                    rcases ofCond H with ⟨c89, H⟩ | ⟨c89, H⟩
                    · refine seq_ops [.res (cB v87), .g true, .g true, .g true, .g true, .g true, .g true] [] [(2, .c (.pk 2 0)), (3, .c (.pk 3 0)), (51, .c (dat 4 eTUnit zTUnit p1.Own)), (52, cI (p1.Own.length : Int)), (53, cI x82), (67, cB true)] [(2, .var (eTBoard p0) false), (3, .var (eTView p1) false)] (fun t => aI (i_goodUnit_ok p0 v85 v87 h88) (aI c89 (aI c89 (aI c89 (aI c89 (aI c89 (aI c89 (t)))))))) (by kernel_rfl) ?_
                      refine ite_t (rfl : (true : Bool) = true) (by kernel_rfl) ?_
                      refine seq_ops [] [] [(4, cB false)] [] (fun t => t) (by kernel_rfl) ?_
                      refine ends_ret ?_
                      obtain rfl := Option.some.inj H
                      exact And.intro (by simp) (And.intro rfl rfl)
                    · refine seq_ops [.res (cB v87), .g false, .g false, .g false, .g false, .g false, .g false] [] [(2, .c (.pk 2 0)), (3, .c (.pk 3 0)), (51, .c (dat 4 eTUnit zTUnit p1.Own)), (52, cI (p1.Own.length : Int)), (53, cI x82), (67, cB (v85.Side != p1.Side))] [(2, .var (eTBoard p0) false), (3, .var (eTView p1) false)] (fun t => aI (i_goodUnit_ok p0 v85 v87 h88) (aI c89 (aI c89 (aI c89 (aI c89 (aI c89 (aI c89 (t)))))))) (by kernel_rfl) ?_
                      rcases ofCond H with ⟨c90, H⟩ | ⟨c90, H⟩
                      · refine ite_t c90 (by kernel_rfl) ?_
                        refine seq_ops [] [] [(4, cB false)] [] (fun t => t) (by kernel_rfl) ?_
                        refine ends_ret ?_
                        obtain rfl := Option.some.inj H
                        exact And.intro (by simp) (And.intro rfl rfl)
                      · refine ite_f c90 (by kernel_rfl) ?_
                        refine ends_skip ?_
                        change EndsI _ _ _ _ _ _
                        refine one_ops [] [] [(2, .c (.pk 2 0)), (3, .c (.pk 3 0)), (51, .c (dat 4 eTUnit zTUnit p1.Own)), (52, cI (p1.Own.length : Int)), (53, cI (W (x82 + 1)))] [(2, .var (eTBoard p0) false), (3, .var (eTView p1) false)] (fun t => t) (by kernel_rfl) ?_
                        obtain rfl := Option.some.inj H
                        exact And.intro rfl rfl
                  · refine ite_f c84 (by kernel_rfl) ?_
                    refine tell [] [(2, .c (.pk 2 0)), (3, .c (.pk 3 0))] [(2, .var (eTBoard p0) false), (3, .var (eTView p1) false)] (fun t => t) (by kernel_rfl) ?_
                    refine ends_exit ?_
                    obtain rfl := Option.some.inj H
                    exact And.intro (by simp) (And.intro rfl rfl)
                · clear h92
                  cases y91 with
                  | inl y93 =>
                    replace H := ofInl H
                    intro e s q
                    obtain ⟨rfl, rfl⟩ := q
                    change EndsI _ _ _ _ _ _
                    refine seq_in ?_
                    refine seq_ops [] [] [(2, .c (.pk 2 0)), (3, .c (.pk 3 0)), (70, .c (dat 4 eTUnit zTUnit p1.Enemies)), (71, cI (p1.Enemies.length : Int)), (72, cI 0)] [(2, .var (eTBoard p0) false), (3, .var (eTView p1) false)] (fun t => lI p1.Enemies (t)) (by kernel_rfl) ?_
                    refine ends_blk ?_
                    obtain ⟨y130, h131, H⟩ := ofBind H
                    refine loop_in (fun (x : Int) => lit [(2, .c (.pk 2 0)), (3, .c (.pk 3 0)), (70, .c (dat 4 eTUnit zTUnit p1.Enemies)), (71, cI (p1.Enemies.length : Int)), (72, cI x)] [(2, .var (eTBoard p0) false), (3, .var (eTView p1) false)]) (orJ (fun (z : Unit) => At (.exit 2) (lit [(3, .c (.pk 3 0))] [(3, .var (eTView p1) false)])) (fun (z : Bool) => At .ret (lit [(4, cB z)] []))) h131 ?_ ?_
                    · clear H h131
                      intro x118 y0 H
                      refine seq_ops [] [] [(2, .c (.pk 2 0)), (3, .c (.pk 3 0)), (70, .c (dat 4 eTUnit zTUnit p1.Enemies)), (71, cI (p1.Enemies.length : Int)), (72, cI x118), (73, cB (decide (x118 < (p1.Enemies.length : Int))))] [(2, .var (eTBoard p0) false), (3, .var (eTView p1) false)] (fun t => t) (by kernel_rfl) ?_
                      refine seq_in ?_
                      rcases ofCond H with ⟨c120, H⟩ | ⟨c120, H⟩
                      · refine ite_t c120 (by kernel_rfl) ?_
                        refine ends_skip ?_
                        change EndsI _ _ _ _ _ _
                        refine seq_in ?_
                        refine ends_blk ?_
                        obtain ⟨v121, h122, H⟩ := ofBind H
                        refine seq_ops [.cs (eTUnit v121)] [] [(2, .c (.pk 2 0)), (3, .c (.pk 3 0)), (8, .c (.pk 8 0)), (70, .c (dat 4 eTUnit zTUnit p1.Enemies)), (71, cI (p1.Enemies.length : Int)), (72, cI x118)] [(2, .var (eTBoard p0) false), (3, .var (eTView p1) false), (8, .var (eTUnit v121) false)] (fun t => aI (at_lt h122) (aI (at_enc (enc := eTUnit) h122) (t))) (by kernel_rfl) ?_
                        obtain ⟨v123, h124, H⟩ := ofBind H
                        rcases ofCond H with ⟨c125, H⟩ | ⟨c125, H⟩
                        · refine seq_ops [.res (cB v123), .g true, .g true, .g true, .g true, .g true, .g true, .g true, .g true, .g true, .g true, .g true, .g true, .g true] [] [(2, .c (.pk 2 0)), (3, .c (.pk 3 0)), (70, .c (dat 4 eTUnit zTUnit p1.Enemies)), (71, cI (p1.Enemies.length : Int)), (72, cI x118), (94, cB true)] [(2, .var (eTBoard p0) false), (3, .var (eTView p1) false)] (fun t => aI (i_goodUnit_ok p0 v121 v123 h124) (aI c125 (aI c125 (aI c125 (aI c125 (aI c125 (aI c125 (aI (rfl : (true : Bool) = true) (aI (rfl : (true : Bool) = true) (aI (rfl : (true : Bool) = true) (aI (rfl : (true : Bool) = true) (aI (rfl : (true : Bool) = true) (aI (rfl : (true : Bool) = true) (aI (rfl : (true : Bool) = true) (t))))))))))))))) (by kernel_rfl) ?_
                          refine ite_t (rfl : (true : Bool) = true) (by kernel_rfl) ?_
                          refine seq_ops [] [] [(4, cB false)] [] (fun t => t) (by kernel_rfl) ?_
                          refine ends_ret ?_
                          obtain rfl := Option.some.inj H
                          exact And.intro (by simp) (And.intro rfl rfl)
                        · rcases ofCond H with ⟨c126, H⟩ | ⟨c126, H⟩
                          · refine seq_ops [.res (cB v123), .g false, .g false, .g false, .g false, .g false, .g false, .g true, .g true, .g true, .g true, .g true, .g true, .g true] [] [(2, .c (.pk 2 0)), (3, .c (.pk 3 0)), (70, .c (dat 4 eTUnit zTUnit p1.Enemies)), (71, cI (p1.Enemies.length : Int)), (72, cI x118), (94, cB true)] [(2, .var (eTBoard p0) false), (3, .var (eTView p1) false)] (fun t => aI (i_goodUnit_ok p0 v121 v123 h124) (aI c125 (aI c125 (aI c125 (aI c125 (aI c125 (aI c125 (aI c126 (aI c126 (aI c126 (aI c126 (aI c126 (aI c126 (aI c126 (t))))))))))))))) (by kernel_rfl) ?_
                            refine ite_t (rfl : (true : Bool) = true) (by kernel_rfl) ?_
                            refine seq_ops [] [] [(4, cB false)] [] (fun t => t) (by kernel_rfl) ?_
                            refine ends_ret ?_
                            obtain rfl := Option.some.inj H
                            exact And.intro (by simp) (And.intro rfl rfl)
                          · obtain ⟨v127, h128, H⟩ := ofBind H
                            refine seq_ops [.res (cB v123), .g false, .g false, .g false, .g false, .g false, .g false, .g false, .g false, .g false, .g false, .g false, .res (cB v127), .g false, .g false] [] [(2, .c (.pk 2 0)), (3, .c (.pk 3 0)), (70, .c (dat 4 eTUnit zTUnit p1.Enemies)), (71, cI (p1.Enemies.length : Int)), (72, cI x118), (94, cB (!v127))] [(2, .var (eTBoard p0) false), (3, .var (eTView p1) false)] (fun t => aI (i_goodUnit_ok p0 v121 v123 h124) (aI c125 (aI c125 (aI c125 (aI c125 (aI c125 (aI c125 (aI c126 (aI c126 (aI c126 (aI c126 (aI c126 (aI (g_Contains_int_ok p1.Seen v121.At v127 h128) (aI c126 (aI c126 (t)))))))))))))))) (by kernel_rfl) ?_
                            rcases ofCond H with ⟨c129, H⟩ | ⟨c129, H⟩
                            · refine ite_t c129 (by kernel_rfl) ?_
                              refine seq_ops [] [] [(4, cB false)] [] (fun t => t) (by kernel_rfl) ?_
                              refine ends_ret ?_
                              obtain rfl := Option.some.inj H
                              exact And.intro (by simp) (And.intro rfl rfl)
                            · refine ite_f c129 (by kernel_rfl) ?_
                              refine ends_skip ?_
                              change EndsI _ _ _ _ _ _
                              refine one_ops [] [] [(2, .c (.pk 2 0)), (3, .c (.pk 3 0)), (70, .c (dat 4 eTUnit zTUnit p1.Enemies)), (71, cI (p1.Enemies.length : Int)), (72, cI (W (x118 + 1)))] [(2, .var (eTBoard p0) false), (3, .var (eTView p1) false)] (fun t => t) (by kernel_rfl) ?_
                              obtain rfl := Option.some.inj H
                              exact And.intro rfl rfl
                      · refine ite_f c120 (by kernel_rfl) ?_
                        refine tell [] [(3, .c (.pk 3 0))] [(3, .var (eTView p1) false)] (fun t => t) (by kernel_rfl) ?_
                        refine ends_exit ?_
                        obtain rfl := Option.some.inj H
                        exact And.intro (by simp) (And.intro rfl rfl)
                    · clear h131
                      cases y130 with
                      | inl y132 =>
                        replace H := ofInl H
                        intro e s q
                        obtain ⟨rfl, rfl⟩ := q
                        change EndsI _ _ _ _ _ _
                        obtain ⟨v134, h135, H⟩ := ofBind H
                        refine seq_ops [.res (cB v134)] [] [(4, cB v134)] [] (fun t => aI (g_IsSortedFunc_Unit_c0_ok p1.Enemies (151) (fun q0 q1 => X.i_compareUnits q0 q1) (fun q0 q1 r h => i_compareUnits_ok q0 q1 r h) v134 h135) (t)) (by kernel_rfl) ?_
                        refine ends_ret ?_
                        obtain rfl := Option.some.inj H
                        exact And.intro (.inl rfl) rfl
                      | inr y133 =>
                        replace H := ofInr H
                        intro e s q
                        obtain ⟨rfl, rfl⟩ := q
                        obtain rfl := Option.some.inj H
                        exact And.intro (.inl rfl) rfl
                  | inr y94 =>
                    replace H := ofInr H
                    intro e s q
                    obtain ⟨rfl, rfl⟩ := q
                    obtain rfl := Option.some.inj H
                    exact And.intro (.inl rfl) rfl

theorem g_IndexFunc_int_c0_ok (p0 : (List Int)) (cf1 : FuncId) (f1 : Int → Option Bool) (hf1 : ∀ q0 r, f1 q0 = some r → FnOk Tryz.prog gl cf1 [cI q0] (cB r)) (r : Int) (H : X.g_IndexFunc_int p0 f1 = some r) : FnOk Tryz.prog gl 134 [.c (dat 1 eI zI p0), .c (.clo cf1 [])] (cI r) := by
  unfold X.g_IndexFunc_int at H
  refine fn_in (fn := Tryz.f134) (ir := g_IndexFunc_int_ir) (s1 := lit [(4, cI r)] []) glL Tryz.func134 (by kernel_rfl) (by kernel_rfl) (by kernel_rfl) (by kernel_rfl) (by kernel_rfl) ?_
  refine seq_ops [] [] [(0, .c (dat 1 eI zI p0)), (1, .c (.clo cf1 []))] [] (fun t => t) (by kernel_rfl) ?_
  refine seq_in ?_
  refine seq_ops [] [] [(0, .c (dat 1 eI zI p0)), (1, .c (.clo cf1 [])), (7, cI (p0.length : Int)), (8, cI 0)] [] (fun t => lI p0 (t)) (by kernel_rfl) ?_
  refine ends_blk ?_
  obtain ⟨y24, h25, H⟩ := ofBind H
  refine loop_in (fun (x : Int) => lit [(0, .c (dat 1 eI zI p0)), (1, .c (.clo cf1 [])), (7, cI (p0.length : Int)), (8, cI x)] []) (orJ (fun (z : Unit) => At (.exit 0) (lit [] [])) (fun (z : Int) => At .ret (lit [(4, cI z)] []))) h25 ?_ ?_
  · clear H h25
    intro x16 y0 H
    refine seq_ops [] [] [(0, .c (dat 1 eI zI p0)), (1, .c (.clo cf1 [])), (7, cI (p0.length : Int)), (8, cI x16), (9, cB (decide (x16 < (p0.length : Int))))] [] (fun t => t) (by kernel_rfl) ?_
    refine seq_in ?_
    rcases ofCond H with ⟨c18, H⟩ | ⟨c18, H⟩
    · refine ite_t c18 (by kernel_rfl) ?_
      refine ends_skip ?_
      change EndsI _ _ _ _ _ _
      refine seq_in ?_
      refine ends_blk ?_
      refine seq_ops [] [] [(0, .c (dat 1 eI zI p0)), (1, .c (.clo cf1 [])), (5, cI x16), (7, cI (p0.length : Int)), (8, cI x16)] [] (fun t => t) (by kernel_rfl) ?_
      obtain ⟨v19, h20, H⟩ := ofBind H
      obtain ⟨v21, h22, H⟩ := ofBind H
      refine seq_ops [.cs (eI v19), .res (cB v21)] [] [(0, .c (dat 1 eI zI p0)), (1, .c (.clo cf1 [])), (5, cI x16), (7, cI (p0.length : Int)), (8, cI x16), (16, cB v21)] [] (fun t => aI (at_lt h20) (aI (at_enc (enc := eI) h20) (aI (hf1 v19 v21 h22) (t)))) (by kernel_rfl) ?_
      rcases ofCond H with ⟨c23, H⟩ | ⟨c23, H⟩
      · refine ite_t c23 (by kernel_rfl) ?_
        refine seq_ops [] [] [(4, cI x16)] [] (fun t => t) (by kernel_rfl) ?_
        refine ends_ret ?_
        obtain rfl := Option.some.inj H
        exact And.intro (by simp) (And.intro rfl rfl)
      · refine ite_f c23 (by kernel_rfl) ?_
        refine ends_skip ?_
        change EndsI _ _ _ _ _ _
        refine one_ops [] [] [(0, .c (dat 1 eI zI p0)), (1, .c (.clo cf1 [])), (7, cI (p0.length : Int)), (8, cI (W (x16 + 1)))] [] (fun t => t) (by kernel_rfl) ?_
        obtain rfl := Option.some.inj H
        exact And.intro rfl rfl
    · refine ite_f c18 (by kernel_rfl) ?_
      refine tell [] [] [] (fun t => t) (by kernel_rfl) ?_
      refine ends_exit ?_
      obtain rfl := Option.some.inj H
      exact And.intro (by simp) (And.intro rfl rfl)
  · clear h25
    cases y24 with
    | inl y26 =>
      replace H := ofInl H
      intro e s q
      obtain ⟨rfl, rfl⟩ := q
      change EndsI _ _ _ _ _ _
      refine seq_ops [] [] [(4, cI (-1))] [] (fun t => t) (by kernel_rfl) ?_
      refine ends_ret ?_
      obtain rfl := Option.some.inj H
      exact And.intro (.inl rfl) rfl
    | inr y27 =>
      replace H := ofInr H
      intro e s q
      obtain ⟨rfl, rfl⟩ := q
      obtain rfl := Option.some.inj H
      exact And.intro (.inl rfl) rfl

theorem g_ContainsFunc_int_c0_ok (p0 : (List Int)) (cf1 : FuncId) (f1 : Int → Option Bool) (hf1 : ∀ q0 r, f1 q0 = some r → FnOk Tryz.prog gl cf1 [cI q0] (cB r)) (r : Bool) (H : X.g_ContainsFunc_int p0 f1 = some r) : FnOk Tryz.prog gl 70 [.c (dat 1 eI zI p0), .c (.clo cf1 [])] (cB r) := by
  unfold X.g_ContainsFunc_int at H
  refine fn_in (fn := Tryz.f70) (ir := g_ContainsFunc_int_ir) (s1 := lit [(4, cB r)] []) glL Tryz.func70 (by kernel_rfl) (by kernel_rfl) (by kernel_rfl) (by kernel_rfl) (by kernel_rfl) ?_
  refine seq_ops [] [] [(0, .c (dat 1 eI zI p0)), (1, .c (.clo cf1 []))] [] (fun t => t) (by kernel_rfl) ?_
  obtain ⟨v1, h2, H⟩ := ofBind H
  refine seq_ops [.res (cI v1)] [] [(4, cB (decide (v1 ≥ 0)))] [] (fun t => aI (g_IndexFunc_int_c0_ok p0 (cf1) f1 hf1 v1 h2) (t)) (by kernel_rfl) ?_
  refine ends_ret ?_
  obtain rfl := Option.some.inj H
  exact And.intro (.inl rfl) rfl

def i_isName_ir : S :=
 (.seq (.ops [⟨some 2, .mv (.v (.bool false)), none⟩])
 (.seq (.seq (.ops [⟨some 3, .mv (.v (.int .i64 0)), none⟩])
 (.blk 0 (.loop (.seq (.seq (.ops [⟨some 4, .mv (.t 3), none⟩, ⟨some 5, .mv (.t 0), none⟩, ⟨some 6, .lens (.t 5), none⟩, ⟨some 7, .bin .lss (.t 4) (.t 6), none⟩])
   (.ite (.t 7) .skip
   (.exit 0)))
   (.seq (.blk 1 (.seq (.ops [⟨some 10, .mv (.t 0), none⟩, ⟨some 11, .mv (.t 3), none⟩, ⟨some 12, .ixs (.t 10) (.t 11), none⟩, ⟨some 13, .bin .lss (.t 12) (.v (.int .u8 97)), none⟩, ⟨some 14, .mv (.t 13), none⟩, ⟨some 15, .mv (.t 0), some (14, false)⟩, ⟨some 16, .mv (.t 3), some (14, false)⟩, ⟨some 17, .ixs (.t 15) (.t 16), some (14, false)⟩, ⟨some 18, .bin .gtr (.t 17) (.v (.int .u8 122)), some (14, false)⟩, ⟨some 19, .pick (.t 14) (.v (.bool true)) (.t 18), none⟩])
    (.ite (.t 19) (.seq (.ops [⟨some 2, .mv (.v (.bool false)), none⟩])
     .ret)
    .skip)))
   (.ops [⟨some 8, .mv (.t 3), none⟩, ⟨some 9, .bin .add (.t 8) (.v (.int .i64 1)), none⟩, ⟨some 3, .mv (.t 9), none⟩]))))))
 (.seq (.ops [⟨some 20, .mv (.t 0), none⟩, ⟨some 21, .lens (.t 20), none⟩, ⟨some 22, .call 145 [.t 21, .v (.int .i64 1), .v (.int .i64 8)], none⟩, ⟨some 2, .mv (.t 22), none⟩])
 .ret)))
noncomputable def X.i_isName (p0 : (List UInt8)) : Option Bool :=
  ((loop (fun (x14 : Int) => ((bif (decide (x14 < (p0.length : Int))) then (if 0 ≤ x14 ∧ x14 < (p0.length : Int) then (bif (decide ((((p0.getD x14.toNat 0).toNat : Nat) : Int) < 97)) then some (Sum.inr (Sum.inr false)) else (if 0 ≤ x14 ∧ x14 < (p0.length : Int) then (bif (decide ((((p0.getD x14.toNat 0).toNat : Nat) : Int) > 122)) then some (Sum.inr (Sum.inr false)) else some (Sum.inl (W (x14 + 1)))) else none)) else none) else some (Sum.inr (Sum.inl ()))) : Option (Int ⊕ (Unit ⊕ Bool)))) 0).bind fun y21 => (Sum.elim (fun (y23 : Unit) => ((X.i_inRange (p0.length : Int) 1 8).bind fun v25 => some v25)) (fun (y24 : Bool) => some y24) y21))
theorem i_isName_ok (p0 : (List UInt8)) (r : Bool) (H : X.i_isName p0 = some r) : FnOk Tryz.prog gl 223 [.c (.str p0)] (cB r) := by
  unfold X.i_isName at H
  refine fn_in (fn := Tryz.f223) (ir := i_isName_ir) (s1 := lit [(2, cB r)] []) glL Tryz.func223 (by kernel_rfl) (by kernel_rfl) (by kernel_rfl) (by kernel_rfl) (by kernel_rfl) ?_
  refine seq_ops [] [] [(0, .c (.str p0))] [] (fun t => t) (by kernel_rfl) ?_
  refine seq_in ?_
  refine seq_ops [] [] [(0, .c (.str p0)), (3, cI 0)] [] (fun t => t) (by kernel_rfl) ?_
  refine ends_blk ?_
  obtain ⟨y21, h22, H⟩ := ofBind H
  refine loop_in (fun (x : Int) => lit [(0, .c (.str p0)), (3, cI x)] []) (orJ (fun (z : Unit) => At (.exit 0) (lit [(0, .c (.str p0))] [])) (fun (z : Bool) => At .ret (lit [(2, cB z)] []))) h22 ?_ ?_
  · clear H h22
    intro x14 y0 H
    refine seq_in ?_
    refine seq_ops [] [] [(0, .c (.str p0)), (3, cI x14), (7, cB (decide (x14 < (p0.length : Int))))] [] (fun t => t) (by kernel_rfl) ?_
    rcases ofCond H with ⟨c16, H⟩ | ⟨c16, H⟩
    · refine ite_t c16 (by kernel_rfl) ?_
      refine ends_skip ?_
      change EndsI _ _ _ _ _ _
      refine seq_in ?_
      refine ends_blk ?_
      obtain ⟨g17, H⟩ := ofIf H
      rcases ofCond H with ⟨c18, H⟩ | ⟨c18, H⟩
      · refine seq_ops [.g true, .g true, .g true, .g true, .g true] [] [(0, .c (.str p0)), (3, cI x14), (19, cB true)] [] (fun t => aI g17 (aI c18 (aI c18 (aI c18 (aI c18 (aI c18 (t))))))) (by kernel_rfl) ?_
        refine ite_t (rfl : (true : Bool) = true) (by kernel_rfl) ?_
        refine seq_ops [] [] [(2, cB false)] [] (fun t => t) (by kernel_rfl) ?_
        refine ends_ret ?_
        obtain rfl := Option.some.inj H
        exact And.intro (by simp) (And.intro rfl rfl)
      · obtain ⟨g19, H⟩ := ofIf H
        refine seq_ops [.g false, .g false, .g false, .g false, .g false] [] [(0, .c (.str p0)), (3, cI x14), (19, cB (decide ((((p0.getD x14.toNat 0).toNat : Nat) : Int) > 122)))] [] (fun t => aI g17 (aI c18 (aI c18 (aI c18 (aI g19 (aI c18 (aI c18 (t)))))))) (by kernel_rfl) ?_
        rcases ofCond H with ⟨c20, H⟩ | ⟨c20, H⟩
        · refine ite_t c20 (by kernel_rfl) ?_
          refine seq_ops [] [] [(2, cB false)] [] (fun t => t) (by kernel_rfl) ?_
          refine ends_ret ?_
          obtain rfl := Option.some.inj H
          exact And.intro (by simp) (And.intro rfl rfl)
        · refine ite_f c20 (by kernel_rfl) ?_
          refine ends_skip ?_
          change EndsI _ _ _ _ _ _
          refine one_ops [] [] [(0, .c (.str p0)), (3, cI (W (x14 + 1)))] [] (fun t => t) (by kernel_rfl) ?_
          obtain rfl := Option.some.inj H
          exact And.intro rfl rfl
    · refine ite_f c16 (by kernel_rfl) ?_
      refine tell [] [(0, .c (.str p0))] [] (fun t => t) (by kernel_rfl) ?_
      refine ends_exit ?_
      obtain rfl := Option.some.inj H
      exact And.intro (by simp) (And.intro rfl rfl)
  · clear h22
    cases y21 with
    | inl y23 =>
      replace H := ofInl H
      intro e s q
      obtain ⟨rfl, rfl⟩ := q
      change EndsI _ _ _ _ _ _
      obtain ⟨v25, h26, H⟩ := ofBind H
      refine seq_ops [.res (cB v25)] [] [(2, cB v25)] [] (fun t => aI (i_inRange_ok (p0.length : Int) 1 8 v25 h26) (t)) (by kernel_rfl) ?_
      refine ends_ret ?_
      obtain rfl := Option.some.inj H
      exact And.intro (.inl rfl) rfl
    | inr y24 =>
      replace H := ofInr H
      intro e s q
      obtain ⟨rfl, rfl⟩ := q
      obtain rfl := Option.some.inj H
      exact And.intro (.inl rfl) rfl

def i_goodTerrain_1_ir : S :=
 (.seq (.ops [⟨some 2, .mv (.v (.bool false)), none⟩])
 (.seq (.ops [⟨some 3, .mv (.t 0), none⟩, ⟨some 4, .call 145 [.t 3, .v (.int .i64 0), .v (.int .i64 9)], none⟩, ⟨some 5, .not (.t 4), none⟩, ⟨some 2, .mv (.t 5), none⟩])
 .ret))
noncomputable def X.i_goodTerrain_1 (p0 : Int) : Option Bool :=
  ((X.i_inRange p0 0 9).bind fun v1 => some (!v1))
theorem i_goodTerrain_1_ok (p0 : Int) (r : Bool) (H : X.i_goodTerrain_1 p0 = some r) : FnOk Tryz.prog gl 224 [cI p0] (cB r) := by
  unfold X.i_goodTerrain_1 at H
  refine fn_in (fn := Tryz.f224) (ir := i_goodTerrain_1_ir) (s1 := lit [(2, cB r)] []) glL Tryz.func224 (by kernel_rfl) (by kernel_rfl) (by kernel_rfl) (by kernel_rfl) (by kernel_rfl) ?_
  refine seq_ops [] [] [(0, cI p0)] [] (fun t => t) (by kernel_rfl) ?_
  obtain ⟨v1, h2, H⟩ := ofBind H
  refine seq_ops [.res (cB v1)] [] [(2, cB (!v1))] [] (fun t => aI (i_inRange_ok p0 0 9 v1 h2) (t)) (by kernel_rfl) ?_
  refine ends_ret ?_
  obtain rfl := Option.some.inj H
  exact And.intro (.inl rfl) rfl

def i_goodTerrain_ir : S :=
 (.seq (.ops [⟨some 2, .box 5 (.t 0), none⟩, ⟨some 4, .mv (.v (.bool false)), none⟩])
 (.seq (.seq (.ops [⟨some 5, .fad 0 (.t 2), none⟩, ⟨some 6, .load 1 false (.t 5), none⟩, ⟨some 7, .call 223 [.t 6], none⟩, ⟨some 8, .not (.t 7), none⟩, ⟨some 9, .mv (.t 8), none⟩, ⟨some 10, .fad 1 (.t 2), some (9, false)⟩, ⟨some 11, .load 1 false (.t 10), some (9, false)⟩, ⟨some 12, .len (.t 11), some (9, false)⟩, ⟨some 13, .mv (.t 1), some (9, false)⟩, ⟨some 14, .bin .neq (.t 12) (.t 13), some (9, false)⟩, ⟨some 15, .pick (.t 9) (.v (.bool true)) (.t 14), none⟩, ⟨some 16, .mv (.t 15), none⟩, ⟨some 17, .fad 2 (.t 2), some (16, false)⟩, ⟨some 18, .load 1 false (.t 17), some (16, false)⟩, ⟨some 19, .call 145 [.t 18, .v (.int .i64 (-3)), .v (.int .i64 3)], some (16, false)⟩, ⟨some 20, .not (.t 19), some (16, false)⟩, ⟨some 21, .pick (.t 16) (.v (.bool true)) (.t 20), none⟩, ⟨some 22, .mv (.t 21), none⟩, ⟨some 23, .fad 3 (.t 2), some (22, false)⟩, ⟨some 24, .load 1 false (.t 23), some (22, false)⟩, ⟨some 25, .call 145 [.t 24, .v (.int .i64 0), .v (.int .i64 3)], some (22, false)⟩, ⟨some 26, .not (.t 25), some (22, false)⟩, ⟨some 27, .pick (.t 22) (.v (.bool true)) (.t 26), none⟩])
 (.ite (.t 27) (.seq (.ops [⟨some 4, .mv (.v (.bool false)), none⟩])
  .ret)
 .skip))
 (.seq (.ops [⟨some 28, .fad 1 (.t 2), none⟩, ⟨some 29, .load 1 false (.t 28), none⟩, ⟨some 30, .call 70 [.t 29, .f 224], none⟩, ⟨some 31, .not (.t 30), none⟩, ⟨some 4, .mv (.t 31), none⟩])
 .ret)))
noncomputable def X.i_goodTerrain (p0 : TTerrain) (p1 : Int) : Option Bool :=
  ((X.i_isName p0.Name).bind fun v1 => (bif (!v1) then some false else (bif ((p0.Cost.length : Int) != p1) then some false else ((X.i_inRange p0.Shift (-3) 3).bind fun v5 => (bif (!v5) then some false else ((X.i_inRange p0.Height 0 3).bind fun v8 => (bif (!v8) then some false else ((X.g_ContainsFunc_int p0.Cost (fun q0 => X.i_goodTerrain_1 q0)).bind fun v11 => some (!v11)))))))))
theorem i_goodTerrain_ok (p0 : TTerrain) (p1 : Int) (r : Bool) (H : X.i_goodTerrain p0 p1 = some r) : FnOk Tryz.prog gl 213 [.agg (eTTerrain p0), cI p1] (cB r) := by
  unfold X.i_goodTerrain at H
  refine fn_in (fn := Tryz.f213) (ir := i_goodTerrain_ir) (s1 := lit [(4, cB r)] []) glL Tryz.func213 (by kernel_rfl) (by kernel_rfl) (by kernel_rfl) (by kernel_rfl) (by kernel_rfl) ?_
  refine seq_ops [] [] [(1, cI p1), (2, .c (.pk 2 0))] [(2, .var (eTTerrain p0) false)] (fun t => t) (by kernel_rfl) ?_
  refine seq_in ?_
  obtain ⟨v1, h2, H⟩ := ofBind H
  rcases ofCond H with ⟨c3, H⟩ | ⟨c3, H⟩
  · refine seq_ops [.res (cB v1), .g true, .g true, .g true, .g true, .g true, .g true, .g true, .g true, .g true, .g true, .g true, .g true, .g true, .g true, .g true, .g true] [] [(2, .c (.pk 2 0)), (27, cB true)] [(2, .var (eTTerrain p0) false)] (fun t => aI (i_isName_ok p0.Name v1 h2) (aI c3 (aI c3 (aI c3 (aI c3 (aI c3 (aI c3 (aI (rfl : (true : Bool) = true) (aI (rfl : (true : Bool) = true) (aI (rfl : (true : Bool) = true) (aI (rfl : (true : Bool) = true) (aI (rfl : (true : Bool) = true) (aI (rfl : (true : Bool) = true) (aI (rfl : (true : Bool) = true) (aI (rfl : (true : Bool) = true) (aI (rfl : (true : Bool) = true) (aI (rfl : (true : Bool) = true) (t)))))))))))))))))) (by kernel_rfl) ?_
    refine ite_t (rfl : (true : Bool) = true) (by kernel_rfl) ?_
    refine seq_ops [] [] [(4, cB false)] [] (fun t => t) (by kernel_rfl) ?_
    refine ends_ret ?_
    obtain rfl := Option.some.inj H
    exact And.intro (.inl rfl) rfl
  · rcases ofCond H with ⟨c4, H⟩ | ⟨c4, H⟩
    · refine seq_ops [.res (cB v1), .g false, .g false, .g false, .g false, .g false, .g false, .g true, .g true, .g true, .g true, .g true, .g true, .g true, .g true, .g true, .g true] [] [(2, .c (.pk 2 0)), (27, cB true)] [(2, .var (eTTerrain p0) false)] (fun t => aI (i_isName_ok p0.Name v1 h2) (aI c3 (aI c3 (aI c3 (lI p0.Cost (aI c3 (aI c3 (aI c3 (aI c4 (aI c4 (aI c4 (aI c4 (aI c4 (aI (rfl : (true : Bool) = true) (aI (rfl : (true : Bool) = true) (aI (rfl : (true : Bool) = true) (aI (rfl : (true : Bool) = true) (aI (rfl : (true : Bool) = true) (t))))))))))))))))))) (by kernel_rfl) ?_
      refine ite_t (rfl : (true : Bool) = true) (by kernel_rfl) ?_
      refine seq_ops [] [] [(4, cB false)] [] (fun t => t) (by kernel_rfl) ?_
      refine ends_ret ?_
      obtain rfl := Option.some.inj H
      exact And.intro (.inl rfl) rfl
    · obtain ⟨v5, h6, H⟩ := ofBind H
      rcases ofCond H with ⟨c7, H⟩ | ⟨c7, H⟩
      · refine seq_ops [.res (cB v1), .g false, .g false, .g false, .g false, .g false, .g false, .g false, .g false, .g false, .res (cB v5), .g false, .g false, .g true, .g true, .g true, .g true, .g true] [] [(2, .c (.pk 2 0)), (27, cB true)] [(2, .var (eTTerrain p0) false)] (fun t => aI (i_isName_ok p0.Name v1 h2) (aI c3 (aI c3 (aI c3 (lI p0.Cost (aI c3 (aI c3 (aI c3 (aI c4 (aI c4 (aI c4 (aI (i_inRange_ok p0.Shift (-3) 3 v5 h6) (aI c4 (aI c4 (aI c7 (aI c7 (aI c7 (aI c7 (aI c7 (t)))))))))))))))))))) (by kernel_rfl) ?_
        refine ite_t (rfl : (true : Bool) = true) (by kernel_rfl) ?_
        refine seq_ops [] [] [(4, cB false)] [] (fun t => t) (by kernel_rfl) ?_
        refine ends_ret ?_
        obtain rfl := Option.some.inj H
        exact And.intro (.inl rfl) rfl
      · obtain ⟨v8, h9, H⟩ := ofBind H
        refine seq_ops [.res (cB v1), .g false, .g false, .g false, .g false, .g false, .g false, .g false, .g false, .g false, .res (cB v5), .g false, .g false, .g false, .g false, .g false, .res (cB v8), .g false, .g false] [] [(2, .c (.pk 2 0)), (27, cB (!v8))] [(2, .var (eTTerrain p0) false)] (fun t => aI (i_isName_ok p0.Name v1 h2) (aI c3 (aI c3 (aI c3 (lI p0.Cost (aI c3 (aI c3 (aI c3 (aI c4 (aI c4 (aI c4 (aI (i_inRange_ok p0.Shift (-3) 3 v5 h6) (aI c4 (aI c4 (aI c7 (aI c7 (aI c7 (aI (i_inRange_ok p0.Height 0 3 v8 h9) (aI c7 (aI c7 (t))))))))))))))))))))) (by kernel_rfl) ?_
        rcases ofCond H with ⟨c10, H⟩ | ⟨c10, H⟩
        · refine ite_t c10 (by kernel_rfl) ?_
          refine seq_ops [] [] [(4, cB false)] [] (fun t => t) (by kernel_rfl) ?_
          refine ends_ret ?_
          obtain rfl := Option.some.inj H
          exact And.intro (.inl rfl) rfl
        · refine ite_f c10 (by kernel_rfl) ?_
          refine ends_skip ?_
          change EndsI _ _ _ _ _ _
          obtain ⟨v11, h12, H⟩ := ofBind H
          refine seq_ops [.res (cB v11)] [] [(4, cB (!v11))] [] (fun t => aI (g_ContainsFunc_int_c0_ok p0.Cost (224) (fun q0 => X.i_goodTerrain_1 q0) (fun q0 r h => i_goodTerrain_1_ok q0 r h) v11 h12) (t)) (by kernel_rfl) ?_
          refine ends_ret ?_
          obtain rfl := Option.some.inj H
          exact And.intro (.inl rfl) rfl

def g_IndexFunc_Terrain_ir : S :=
 (.seq (.ops [⟨some 4, .mv (.v (.int .i64 0)), none⟩])
 (.seq (.seq (.ops [⟨some 6, .mv (.t 0), none⟩, ⟨some 7, .len (.t 6), none⟩, ⟨some 8, .mv (.v (.int .i64 0)), none⟩])
 (.blk 0 (.loop (.seq (.ops [⟨some 9, .bin .lss (.t 8) (.t 7), none⟩])
   (.seq (.ite (.t 9) .skip
   (.exit 0))
   (.seq (.blk 1 (.seq (.ops [⟨some 10, .mv (.t 8), none⟩, ⟨some 5, .mv (.t 10), none⟩])
    (.seq (.ops [⟨some 11, .mv (.t 1), none⟩, ⟨some 12, .mv (.t 0), none⟩, ⟨some 13, .mv (.t 5), none⟩, ⟨some 14, .iad 5 (.t 12) (.t 13), none⟩, ⟨some 15, .load 5 true (.t 14), none⟩, ⟨some 16, .cald (.t 11) [.t 15], none⟩])
    (.ite (.t 16) (.seq (.ops [⟨some 17, .mv (.t 5), none⟩, ⟨some 4, .mv (.t 17), none⟩])
     .ret)
    .skip))))
   (.ops [⟨some 18, .bin .add (.t 8) (.v (.int .i64 1)), none⟩, ⟨some 8, .mv (.t 18), none⟩])))))))
 (.seq (.ops [⟨some 4, .mv (.v (.int .i64 (-1))), none⟩])
 .ret)))
noncomputable def X.g_IndexFunc_Terrain (p0 : (List TTerrain)) (f1 : TTerrain → Option Bool) : Option Int :=
  ((loop (fun (x16 : Int) => ((bif (decide (x16 < (p0.length : Int))) then ((at' zTTerrain p0 x16).bind fun v19 => ((f1 v19).bind fun v21 => (bif v21 then some (Sum.inr (Sum.inr x16)) else some (Sum.inl (W (x16 + 1)))))) else some (Sum.inr (Sum.inl ()))) : Option (Int ⊕ (Unit ⊕ Int)))) 0).bind fun y24 => (Sum.elim (fun (y26 : Unit) => some (-1)) (fun (y27 : Int) => some y27) y24))
theorem g_IndexFunc_Terrain_c1_ok (p0 : (List TTerrain)) (cf1 : FuncId) (cs1_0 : List AC) (f1 : TTerrain → Option Bool) (hf1 : ∀ q0 r, f1 q0 = some r → FnOk Tryz.prog gl cf1 [.agg (eTTerrain q0), .c (.pd cs1_0 0)] (cB r)) (r : Int) (H : X.g_IndexFunc_Terrain p0 f1 = some r) : FnOk Tryz.prog gl 225 [.c (dat 5 eTTerrain zTTerrain p0), .c (.clo cf1 [.pd cs1_0 0])] (cI r) := by
  unfold X.g_IndexFunc_Terrain at H
  refine fn_in (fn := Tryz.f225) (ir := g_IndexFunc_Terrain_ir) (s1 := lit [(4, cI r)] []) glL Tryz.func225 (by kernel_rfl) (by kernel_rfl) (by kernel_rfl) (by kernel_rfl) (by kernel_rfl) ?_
  refine seq_ops [] [] [(0, .c (dat 5 eTTerrain zTTerrain p0)), (1, .c (.clo cf1 [.pd cs1_0 0]))] [] (fun t => t) (by kernel_rfl) ?_
  refine seq_in ?_
  refine seq_ops [] [] [(0, .c (dat 5 eTTerrain zTTerrain p0)), (1, .c (.clo cf1 [.pd cs1_0 0])), (7, cI (p0.length : Int)), (8, cI 0)] [] (fun t => lI p0 (t)) (by kernel_rfl) ?_
  refine ends_blk ?_
  obtain ⟨y24, h25, H⟩ := ofBind H
  refine loop_in (fun (x : Int) => lit [(0, .c (dat 5 eTTerrain zTTerrain p0)), (1, .c (.clo cf1 [.pd cs1_0 0])), (7, cI (p0.length : Int)), (8, cI x)] []) (orJ (fun (z : Unit) => At (.exit 0) (lit [] [])) (fun (z : Int) => At .ret (lit [(4, cI z)] []))) h25 ?_ ?_
  · clear H h25
    intro x16 y0 H
    refine seq_ops [] [] [(0, .c (dat 5 eTTerrain zTTerrain p0)), (1, .c (.clo cf1 [.pd cs1_0 0])), (7, cI (p0.length : Int)), (8, cI x16), (9, cB (decide (x16 < (p0.length : Int))))] [] (fun t => t) (by kernel_rfl) ?_
    refine seq_in ?_
    rcases ofCond H with ⟨c18, H⟩ | ⟨c18, H⟩
    · refine ite_t c18 (by kernel_rfl) ?_
      refine ends_skip ?_
      change EndsI _ _ _ _ _ _
      refine seq_in ?_
      refine ends_blk ?_
      refine seq_ops [] [] [(0, .c (dat 5 eTTerrain zTTerrain p0)), (1, .c (.clo cf1 [.pd cs1_0 0])), (5, cI x16), (7, cI (p0.length : Int)), (8, cI x16)] [] (fun t => t) (by kernel_rfl) ?_
      obtain ⟨v19, h20, H⟩ := ofBind H
      obtain ⟨v21, h22, H⟩ := ofBind H
      refine seq_ops [.cs (eTTerrain v19), .res (cB v21)] [] [(0, .c (dat 5 eTTerrain zTTerrain p0)), (1, .c (.clo cf1 [.pd cs1_0 0])), (5, cI x16), (7, cI (p0.length : Int)), (8, cI x16), (16, cB v21)] [] (fun t => aI (at_lt h20) (aI (at_enc (enc := eTTerrain) h20) (aI (hf1 v19 v21 h22) (t)))) (by kernel_rfl) ?_
      rcases ofCond H with ⟨c23, H⟩ | ⟨c23, H⟩
      · refine ite_t c23 (by kernel_rfl) ?_
        refine seq_ops [] [] [(4, cI x16)] [] (fun t => t) (by kernel_rfl) ?_
        refine ends_ret ?_
        obtain rfl := Option.some.inj H
        exact And.intro (by simp) (And.intro rfl rfl)
      · refine ite_f c23 (by kernel_rfl) ?_
        refine ends_skip ?_
        change EndsI _ _ _ _ _ _
        refine one_ops [] [] [(0, .c (dat 5 eTTerrain zTTerrain p0)), (1, .c (.clo cf1 [.pd cs1_0 0])), (7, cI (p0.length : Int)), (8, cI (W (x16 + 1)))] [] (fun t => t) (by kernel_rfl) ?_
        obtain rfl := Option.some.inj H
        exact And.intro rfl rfl
    · refine ite_f c18 (by kernel_rfl) ?_
      refine tell [] [] [] (fun t => t) (by kernel_rfl) ?_
      refine ends_exit ?_
      obtain rfl := Option.some.inj H
      exact And.intro (by simp) (And.intro rfl rfl)
  · clear h25
    cases y24 with
    | inl y26 =>
      replace H := ofInl H
      intro e s q
      obtain ⟨rfl, rfl⟩ := q
      change EndsI _ _ _ _ _ _
      refine seq_ops [] [] [(4, cI (-1))] [] (fun t => t) (by kernel_rfl) ?_
      refine ends_ret ?_
      obtain rfl := Option.some.inj H
      exact And.intro (.inl rfl) rfl
    | inr y27 =>
      replace H := ofInr H
      intro e s q
      obtain ⟨rfl, rfl⟩ := q
      obtain rfl := Option.some.inj H
      exact And.intro (.inl rfl) rfl

end Go.Proofs.YtociagbpecpcnaaGreatDoor.X0
