/- What each Go function that FnExactIsMachine reaches computes, and that it returns so; no condition. -/
import Derived.Test.YtihggbgmdlhlcaaGreatDoorIMWb
set_option linter.unusedVariables false
set_option linter.unusedSimpArgs false
set_option maxRecDepth 100000
namespace Go.Proofs.YtihggbgmdlhlcaaGreatDoor.X0
open Go Go.RowKit Go.Proofs.YtihggbgmdlhlcaaGreatDoor.Ab Go.Proofs

def i_goodState_ir : S :=
 (.seq (.ops [⟨some 2, .box 12 (.t 0), none⟩, ⟨some 3, .box 3 (.t 1), none⟩, ⟨some 4, .mv (.v (.bool false)), none⟩])
 (.seq (.seq (.ops [⟨some 8, .fad 0 (.t 3), none⟩, ⟨some 9, .load 1 false (.t 8), none⟩, ⟨some 10, .fad 0 (.t 2), none⟩, ⟨some 11, .fad 6 (.t 10), none⟩, ⟨some 12, .load 1 false (.t 11), none⟩, ⟨some 13, .call 71 [.t 9, .v (.int .i64 0), .t 12], none⟩, ⟨some 14, .not (.t 13), none⟩, ⟨some 15, .mv (.t 14), none⟩, ⟨some 16, .fad 1 (.t 3), some (15, false)⟩, ⟨some 17, .load 1 false (.t 16), some (15, false)⟩, ⟨some 18, .call 71 [.t 17, .v (.int .i64 0), .v (.int .i64 2)], some (15, false)⟩, ⟨some 19, .not (.t 18), some (15, false)⟩, ⟨some 20, .pick (.t 15) (.v (.bool true)) (.t 19), none⟩, ⟨some 21, .mv (.t 20), none⟩, ⟨some 22, .fad 2 (.t 3), some (21, false)⟩, ⟨some 23, .load 1 false (.t 22), some (21, false)⟩, ⟨some 24, .len (.t 23), some (21, false)⟩, ⟨some 25, .bin .gtr (.t 24) (.v (.int .i64 12)), some (21, false)⟩, ⟨some 26, .pick (.t 21) (.v (.bool true)) (.t 25), none⟩])
 (.ite (.t 26) (.seq (.ops [⟨some 4, .mv (.v (.bool false)), none⟩])
  .ret)
 .skip))
 (.seq (.ops [⟨some 27, .load 12 true (.t 2), none⟩, ⟨some 28, .call 91 [.t 27], none⟩, ⟨some 29, .msl 2 16 [.int .i64 0, .int .i64 0] (.t 28), none⟩, ⟨some 5, .mv (.t 29), none⟩])
 (.seq (.seq (.ops [⟨some 30, .fad 2 (.t 3), none⟩, ⟨some 31, .load 1 false (.t 30), none⟩, ⟨some 32, .len (.t 31), none⟩, ⟨some 33, .mv (.v (.int .i64 0)), none⟩])
 (.blk 0 (.loop (.seq (.ops [⟨some 34, .bin .lss (.t 33) (.t 32), none⟩])
   (.seq (.ite (.t 34) .skip
   (.exit 0))
   (.seq (.blk 1 (.seq (.ops [⟨some 35, .iad 4 (.t 31) (.t 33), none⟩, ⟨some 36, .load 4 true (.t 35), none⟩, ⟨some 7, .alloc [.int .i64 0, .int .i64 0, .int .i64 0, .int .i64 0], none⟩, ⟨none, .store 4 (.t 7) (.t 36), none⟩])
    (.seq (.seq (.ops [⟨some 37, .load 12 true (.t 2), none⟩, ⟨some 38, .load 4 true (.t 7), none⟩, ⟨some 39, .call 210 [.t 37, .t 38], none⟩, ⟨some 40, .not (.t 39), none⟩])
    (.ite (.t 40) (.seq (.ops [⟨some 4, .mv (.v (.bool false)), none⟩])
     .ret)
    .skip))
    (.seq (.seq (.ops [⟨some 41, .fad 2 (.t 7), none⟩, ⟨some 42, .load 1 false (.t 41), none⟩, ⟨some 43, .bin .lss (.t 42) (.v (.int .i64 0)), none⟩])
    (.ite (.t 43) (.exit 1)
    .skip))
    (.seq (.draw 11 [⟨some 44, .mv (.t 5), none⟩, ⟨some 45, .fad 2 (.t 7), none⟩, ⟨some 46, .load 1 false (.t 45), none⟩, ⟨some 47, .fad 0 (.t 7), none⟩, ⟨some 48, .load 1 false (.t 47), none⟩, ⟨some 49, .iad 2 (.t 44) (.t 46), none⟩, ⟨some 50, .iar 2 1 (.t 49) (.t 48), none⟩, ⟨some 51, .load 1 false (.t 50), none⟩, ⟨some 52, .bin .add (.t 51) (.v (.int .i64 1)), none⟩, ⟨some 53, .iad 2 (.t 44) (.t 46), none⟩, ⟨some 54, .iar 2 1 (.t 53) (.t 48), none⟩, ⟨none, .store 1 (.t 54) (.t 52), none⟩])
    (.seq (.draw 24 [⟨some 55, .mv (.t 5), none⟩, ⟨some 56, .fad 2 (.t 7), none⟩, ⟨some 57, .load 1 false (.t 56), none⟩, ⟨some 58, .fad 0 (.t 7), none⟩, ⟨some 59, .load 1 false (.t 58), none⟩, ⟨some 60, .bin .sub (.v (.int .i64 1)) (.t 59), none⟩, ⟨some 61, .iad 2 (.t 55) (.t 57), none⟩, ⟨some 62, .iar 2 1 (.t 61) (.t 60), none⟩, ⟨some 63, .load 1 false (.t 62), none⟩, ⟨some 64, .bin .gtr (.t 63) (.v (.int .i64 0)), none⟩, ⟨some 65, .mv (.t 64), none⟩, ⟨some 66, .mv (.t 5), some (65, false)⟩, ⟨some 67, .fad 2 (.t 7), some (65, false)⟩, ⟨some 68, .load 1 false (.t 67), some (65, false)⟩, ⟨some 69, .fad 0 (.t 7), some (65, false)⟩, ⟨some 70, .load 1 false (.t 69), some (65, false)⟩, ⟨some 71, .iad 2 (.t 66) (.t 68), some (65, false)⟩, ⟨some 72, .iar 2 1 (.t 71) (.t 70), some (65, false)⟩, ⟨some 73, .load 1 false (.t 72), some (65, false)⟩, ⟨some 74, .fad 0 (.t 2), some (65, false)⟩, ⟨some 75, .fad 2 (.t 74), some (65, false)⟩, ⟨some 76, .load 1 false (.t 75), some (65, false)⟩, ⟨some 77, .bin .gtr (.t 73) (.t 76), some (65, false)⟩, ⟨some 78, .pick (.t 65) (.v (.bool true)) (.t 77), none⟩])
    (.ite (.t 78) (.seq (.ops [⟨some 4, .mv (.v (.bool false)), none⟩])
     .ret)
    .skip)))))))
   (.ops [⟨some 79, .bin .add (.t 33) (.v (.int .i64 1)), none⟩, ⟨some 33, .mv (.t 79), none⟩])))))))
 (.seq (.ops [⟨some 4, .mv (.v (.bool true)), none⟩])
 .ret)))))
noncomputable def X.i_goodState (p0 : TBoard) (p1 : TState) : Option Bool :=
  ((X.i_inRange p1.Turn 0 p0.Rules.Turns).bind fun v8 => (bif (!v8) then some false else ((X.i_inRange p1.Weather 0 2).bind fun v11 => (bif (!v11) then some false else (bif (decide ((p1.Units.length : Int) > 12)) then some false else ((X.i_sizeOf p0).bind fun v15 => (if 0 ≤ v15 ∧ v15.toNat ≤ LIM then ((loop (fun (x85 : (Int × (List A2_I))) => ((bif (decide (x85.1 < (p1.Units.length : Int))) then ((at' zTUnit p1.Units x85.1).bind fun v88 => ((X.i_goodUnit p0 v88).bind fun v93 => (bif (!v93) then some (Sum.inr (Sum.inr false)) else (bif (decide (v88.At < 0)) then some (Sum.inl ((W (x85.1 + 1)), x85.2)) else (if 0 ≤ v88.At ∧ v88.At < (x85.2.length : Int) then (if v88.Side = ((0 : Nat) : Int) then (if (W (1 - v88.Side)) = ((0 : Nat) : Int) then (bif (decide (((x85.2.set v88.At.toNat (A2_I.mk (W ((x85.2.getD v88.At.toNat zA2_I).a0 + 1)) ((x85.2.getD v88.At.toNat zA2_I).a1))).getD v88.At.toNat zA2_I).a0 > 0)) then some (Sum.inr (Sum.inr false)) else (bif (decide (((x85.2.set v88.At.toNat (A2_I.mk (W ((x85.2.getD v88.At.toNat zA2_I).a0 + 1)) ((x85.2.getD v88.At.toNat zA2_I).a1))).getD v88.At.toNat zA2_I).a0 > p0.Rules.Stack)) then some (Sum.inr (Sum.inr false)) else some (Sum.inl ((W (x85.1 + 1)), (x85.2.set v88.At.toNat (A2_I.mk (W ((x85.2.getD v88.At.toNat zA2_I).a0 + 1)) ((x85.2.getD v88.At.toNat zA2_I).a1))))))) else (if (W (1 - v88.Side)) = ((1 : Nat) : Int) then (bif (decide (((x85.2.set v88.At.toNat (A2_I.mk (W ((x85.2.getD v88.At.toNat zA2_I).a0 + 1)) ((x85.2.getD v88.At.toNat zA2_I).a1))).getD v88.At.toNat zA2_I).a1 > 0)) then some (Sum.inr (Sum.inr false)) else (bif (decide (((x85.2.set v88.At.toNat (A2_I.mk (W ((x85.2.getD v88.At.toNat zA2_I).a0 + 1)) ((x85.2.getD v88.At.toNat zA2_I).a1))).getD v88.At.toNat zA2_I).a0 > p0.Rules.Stack)) then some (Sum.inr (Sum.inr false)) else some (Sum.inl ((W (x85.1 + 1)), (x85.2.set v88.At.toNat (A2_I.mk (W ((x85.2.getD v88.At.toNat zA2_I).a0 + 1)) ((x85.2.getD v88.At.toNat zA2_I).a1))))))) else none)) else (if v88.Side = ((1 : Nat) : Int) then (if (W (1 - v88.Side)) = ((0 : Nat) : Int) then (bif (decide (((x85.2.set v88.At.toNat (A2_I.mk ((x85.2.getD v88.At.toNat zA2_I).a0) (W ((x85.2.getD v88.At.toNat zA2_I).a1 + 1)))).getD v88.At.toNat zA2_I).a0 > 0)) then some (Sum.inr (Sum.inr false)) else (bif (decide (((x85.2.set v88.At.toNat (A2_I.mk ((x85.2.getD v88.At.toNat zA2_I).a0) (W ((x85.2.getD v88.At.toNat zA2_I).a1 + 1)))).getD v88.At.toNat zA2_I).a1 > p0.Rules.Stack)) then some (Sum.inr (Sum.inr false)) else some (Sum.inl ((W (x85.1 + 1)), (x85.2.set v88.At.toNat (A2_I.mk ((x85.2.getD v88.At.toNat zA2_I).a0) (W ((x85.2.getD v88.At.toNat zA2_I).a1 + 1)))))))) else (if (W (1 - v88.Side)) = ((1 : Nat) : Int) then (bif (decide (((x85.2.set v88.At.toNat (A2_I.mk ((x85.2.getD v88.At.toNat zA2_I).a0) (W ((x85.2.getD v88.At.toNat zA2_I).a1 + 1)))).getD v88.At.toNat zA2_I).a1 > 0)) then some (Sum.inr (Sum.inr false)) else (bif (decide (((x85.2.set v88.At.toNat (A2_I.mk ((x85.2.getD v88.At.toNat zA2_I).a0) (W ((x85.2.getD v88.At.toNat zA2_I).a1 + 1)))).getD v88.At.toNat zA2_I).a1 > p0.Rules.Stack)) then some (Sum.inr (Sum.inr false)) else some (Sum.inl ((W (x85.1 + 1)), (x85.2.set v88.At.toNat (A2_I.mk ((x85.2.getD v88.At.toNat zA2_I).a0) (W ((x85.2.getD v88.At.toNat zA2_I).a1 + 1)))))))) else none)) else none)) else none))))) else some (Sum.inr (Sum.inl ()))) : Option ((Int × (List A2_I)) ⊕ (Unit ⊕ Bool)))) (0, (List.replicate v15.toNat zA2_I))).bind fun y119 => (Sum.elim (fun (y121 : Unit) => some true) (fun (y122 : Bool) => some y122) y119)) else none)))))))
theorem i_goodState_ok (p0 : TBoard) (p1 : TState) (r : Bool) (H : X.i_goodState p0 p1 = some r) : FnOk Tryz.prog gl 177 [.agg (eTBoard p0), .agg (eTState p1)] (cB r) := by
  unfold X.i_goodState at H
  refine fn_in (fn := Tryz.f177) (ir := i_goodState_ir) (s1 := lit [(4, cB r)] []) Tryz.func177 (by kernel_rfl) (by kernel_rfl) (by kernel_rfl) (by kernel_rfl) (by kernel_rfl) ?_
  refine seq_ops [] [] [(2, .c (.pk 2 0)), (3, .c (.pk 3 0))] [(2, .var (eTBoard p0) false), (3, .var (eTState p1) false)] (fun t => t) (by kernel_rfl) ?_
  refine seq_in ?_
  obtain ⟨v8, h9, H⟩ := ofBind H
  rcases ofCond H with ⟨c10, H⟩ | ⟨c10, H⟩
  · refine seq_ops [.res (cB v8), .g true, .g true, .g true, .g true, .g true, .g true, .g true, .g true, .g true, .g true] [] [(2, .c (.pk 2 0)), (3, .c (.pk 3 0)), (26, cB true)] [(2, .var (eTBoard p0) false), (3, .var (eTState p1) false)] (fun t => aI (i_inRange_ok p1.Turn 0 p0.Rules.Turns v8 h9) (aI c10 (aI c10 (aI c10 (aI c10 (aI c10 (aI (rfl : (true : Bool) = true) (aI (rfl : (true : Bool) = true) (aI (rfl : (true : Bool) = true) (aI (rfl : (true : Bool) = true) (aI (rfl : (true : Bool) = true) (t)))))))))))) (by kernel_rfl) ?_
    refine ite_t (rfl : (true : Bool) = true) (by kernel_rfl) ?_
    refine seq_ops [] [] [(4, cB false)] [] (fun t => t) (by kernel_rfl) ?_
    refine ends_ret ?_
    obtain rfl := Option.some.inj H
    exact And.intro (.inl rfl) rfl
  · obtain ⟨v11, h12, H⟩ := ofBind H
    rcases ofCond H with ⟨c13, H⟩ | ⟨c13, H⟩
    · refine seq_ops [.res (cB v8), .g false, .g false, .g false, .res (cB v11), .g false, .g false, .g true, .g true, .g true, .g true, .g true] [] [(2, .c (.pk 2 0)), (3, .c (.pk 3 0)), (26, cB true)] [(2, .var (eTBoard p0) false), (3, .var (eTState p1) false)] (fun t => aI (i_inRange_ok p1.Turn 0 p0.Rules.Turns v8 h9) (aI c10 (aI c10 (aI c10 (aI (i_inRange_ok p1.Weather 0 2 v11 h12) (aI c10 (aI c10 (aI c13 (aI c13 (aI c13 (aI c13 (aI c13 (t))))))))))))) (by kernel_rfl) ?_
      refine ite_t (rfl : (true : Bool) = true) (by kernel_rfl) ?_
      refine seq_ops [] [] [(4, cB false)] [] (fun t => t) (by kernel_rfl) ?_
      refine ends_ret ?_
      obtain rfl := Option.some.inj H
      exact And.intro (.inl rfl) rfl
    · refine seq_ops [.res (cB v8), .g false, .g false, .g false, .res (cB v11), .g false, .g false, .g false, .g false, .g false, .g false, .g false] [] [(2, .c (.pk 2 0)), (3, .c (.pk 3 0)), (26, cB (decide ((p1.Units.length : Int) > 12)))] [(2, .var (eTBoard p0) false), (3, .var (eTState p1) false)] (fun t => aI (i_inRange_ok p1.Turn 0 p0.Rules.Turns v8 h9) (aI c10 (aI c10 (aI c10 (aI (i_inRange_ok p1.Weather 0 2 v11 h12) (aI c10 (aI c10 (aI c13 (aI c13 (aI c13 (lI p1.Units (aI c13 (aI c13 (t)))))))))))))) (by kernel_rfl) ?_
      rcases ofCond H with ⟨c14, H⟩ | ⟨c14, H⟩
      · refine ite_t c14 (by kernel_rfl) ?_
        refine seq_ops [] [] [(4, cB false)] [] (fun t => t) (by kernel_rfl) ?_
        refine ends_ret ?_
        obtain rfl := Option.some.inj H
        exact And.intro (.inl rfl) rfl
      · refine ite_f c14 (by kernel_rfl) ?_
        refine ends_skip ?_
        change EndsI _ _ _ _ _ _
        obtain ⟨v15, h16, H⟩ := ofBind H
        obtain ⟨g17, H⟩ := ofIf H
        refine seq_ops [.res (cI v15), .fn (List.replicate v15.toNat zA2_I).length (fF eA2_I zA2_I (List.replicate v15.toNat zA2_I))] [] [(2, .c (.pk 2 0)), (3, .c (.pk 3 0)), (5, .c (.own 29 2 0 ((List.replicate v15.toNat zA2_I).length)))] [(2, .var (eTBoard p0) false), (3, .var (eTState p1) false), (29, .arr 2 ((List.replicate v15.toNat zA2_I).length) (fF eA2_I zA2_I (List.replicate v15.toNat zA2_I)) false)] (fun t => aI (i_sizeOf_ok p0 v15 h16) (aI (And.intro g17.1 (And.intro (List.length_replicate (n := v15.toNat) (a := zA2_I)).symm (Nat.le_trans (Nat.le_of_eq List.length_replicate) g17.2 : (List.replicate v15.toNat zA2_I).length ≤ LIM))) (aI (fF_rep eA2_I zA2_I zA2_I v15.toNat) (t)))) (by kernel_rfl) ?_
        refine seq_in ?_
        refine seq_ops [] [] [(2, .c (.pk 2 0)), (5, .c (.own 29 2 0 ((List.replicate v15.toNat zA2_I).length))), (31, .c (dat 4 eTUnit zTUnit p1.Units)), (32, cI (p1.Units.length : Int)), (33, cI 0)] [(2, .var (eTBoard p0) false), (29, .arr 2 ((List.replicate v15.toNat zA2_I).length) (fF eA2_I zA2_I (List.replicate v15.toNat zA2_I)) false)] (fun t => lI p1.Units (t)) (by kernel_rfl) ?_
        refine ends_blk ?_
        obtain ⟨y119, h120, H⟩ := ofBind H
        refine loop_in (fun (x : (Int × (List A2_I))) => lit [(2, .c (.pk 2 0)), (5, .c (.own 29 2 0 x.2.length)), (31, .c (dat 4 eTUnit zTUnit p1.Units)), (32, cI (p1.Units.length : Int)), (33, cI x.1)] [(2, .var (eTBoard p0) false), (29, .arr 2 x.2.length (fF eA2_I zA2_I x.2) false)]) (orJ (fun (z : Unit) => At (.exit 0) (lit [] [])) (fun (z : Bool) => At .ret (lit [(4, cB z)] []))) h120 ?_ ?_
        · clear H h120
          intro x85 y0 H
          refine seq_ops [] [] [(2, .c (.pk 2 0)), (5, .c (.own 29 2 0 x85.2.length)), (31, .c (dat 4 eTUnit zTUnit p1.Units)), (32, cI (p1.Units.length : Int)), (33, cI x85.1), (34, cB (decide (x85.1 < (p1.Units.length : Int))))] [(2, .var (eTBoard p0) false), (29, .arr 2 x85.2.length (fF eA2_I zA2_I x85.2) false)] (fun t => t) (by kernel_rfl) ?_
          refine seq_in ?_
          rcases ofCond H with ⟨c87, H⟩ | ⟨c87, H⟩
          · refine ite_t c87 (by kernel_rfl) ?_
            refine ends_skip ?_
            change EndsI _ _ _ _ _ _
            refine seq_in ?_
            refine ends_blk ?_
            obtain ⟨v88, h89, H⟩ := ofBind H
            refine seq_ops [.cs (eTUnit v88)] [] [(2, .c (.pk 2 0)), (5, .c (.own 29 2 0 x85.2.length)), (7, .c (.pk 7 0)), (31, .c (dat 4 eTUnit zTUnit p1.Units)), (32, cI (p1.Units.length : Int)), (33, cI x85.1)] [(2, .var (eTBoard p0) false), (7, .var (eTUnit v88) false), (29, .arr 2 x85.2.length (fF eA2_I zA2_I x85.2) false)] (fun t => aI (at_lt h89) (aI (at_enc (enc := eTUnit) h89) (t))) (by kernel_rfl) ?_
            refine seq_in ?_
            obtain ⟨v93, h94, H⟩ := ofBind H
            refine seq_ops [.res (cB v93)] [] [(2, .c (.pk 2 0)), (5, .c (.own 29 2 0 x85.2.length)), (7, .c (.pk 7 0)), (31, .c (dat 4 eTUnit zTUnit p1.Units)), (32, cI (p1.Units.length : Int)), (33, cI x85.1), (40, cB (!v93))] [(2, .var (eTBoard p0) false), (7, .var (eTUnit v88) false), (29, .arr 2 x85.2.length (fF eA2_I zA2_I x85.2) false)] (fun t => aI (i_goodUnit_ok p0 v88 v93 h94) (t)) (by kernel_rfl) ?_
            rcases ofCond H with ⟨c95, H⟩ | ⟨c95, H⟩
            · refine ite_t c95 (by kernel_rfl) ?_
              refine seq_ops [] [] [(4, cB false)] [] (fun t => t) (by kernel_rfl) ?_
              refine ends_ret ?_
              obtain rfl := Option.some.inj H
              exact And.intro (by simp) (And.intro rfl rfl)
            · refine ite_f c95 (by kernel_rfl) ?_
              refine ends_skip ?_
              change EndsI _ _ _ _ _ _
              refine seq_in ?_
              refine seq_ops [] [] [(2, .c (.pk 2 0)), (5, .c (.own 29 2 0 x85.2.length)), (7, .c (.pk 7 0)), (31, .c (dat 4 eTUnit zTUnit p1.Units)), (32, cI (p1.Units.length : Int)), (33, cI x85.1), (43, cB (decide (v88.At < 0)))] [(2, .var (eTBoard p0) false), (7, .var (eTUnit v88) false), (29, .arr 2 x85.2.length (fF eA2_I zA2_I x85.2) false)] (fun t => t) (by kernel_rfl) ?_
              rcases ofCond H with ⟨c97, H⟩ | ⟨c97, H⟩
              · refine ite_t c97 (by kernel_rfl) ?_
                refine ends_exit ?_
                change EndsI _ _ _ _ _ _
                refine one_ops [] [] [(2, .c (.pk 2 0)), (5, .c (.own 29 2 0 x85.2.length)), (31, .c (dat 4 eTUnit zTUnit p1.Units)), (32, cI (p1.Units.length : Int)), (33, cI (W (x85.1 + 1)))] [(2, .var (eTBoard p0) false), (29, .arr 2 x85.2.length (fF eA2_I zA2_I x85.2) false)] (fun t => t) (by kernel_rfl) ?_
                obtain rfl := Option.some.inj H
                exact And.intro rfl rfl
              · refine ite_f c97 (by kernel_rfl) ?_
                refine ends_skip ?_
                change EndsI _ _ _ _ _ _
                obtain ⟨g98, H⟩ := ofIf H
                rcases ofIte H with ⟨c99, H⟩ | ⟨c118, H⟩
                · refine seq_draw [.no, .nat 0, .no, .nat 0, .fn 0 (fF eA2_I zA2_I (x85.2.set v88.At.toNat (A2_I.mk (W ((x85.2.getD v88.At.toNat zA2_I).a0 + 1)) ((x85.2.getD v88.At.toNat zA2_I).a1))))] [] [(2, .c (.pk 2 0)), (5, .c (.own 29 2 0 x85.2.length)), (7, .c (.pk 7 0)), (31, .c (dat 4 eTUnit zTUnit p1.Units)), (32, cI (p1.Units.length : Int)), (33, cI x85.1)] [(2, .var (eTBoard p0) false), (7, .var (eTUnit v88) false), (29, .arr 2 x85.2.length (fF eA2_I zA2_I (x85.2.set v88.At.toNat (A2_I.mk (W ((x85.2.getD v88.At.toNat zA2_I).a0 + 1)) ((x85.2.getD v88.At.toNat zA2_I).a1)))) false)] (fun t => aI g98 (aI (And.intro c99 (by decide : 0 < 2)) (aI (nat_lt g98) (aI (rfl : ([] : List Nat) = []) (aI g98 (aI (And.intro c99 (by decide : 0 < 2)) (aI (rfl : true = true) (aI (nat_lt g98) (aI (by decide : 0 + 1 ≤ 2) (aI (fF_set eA2_I zA2_I x85.2 v88.At.toNat (A2_I.mk (W ((x85.2.getD v88.At.toNat zA2_I).a0 + 1)) ((x85.2.getD v88.At.toNat zA2_I).a1)) (nat_lt g98) x85.2.length) (t))))))))))) (by kernel_rfl) ?_
                  rcases ofIte H with ⟨c100, H⟩ | ⟨c107, H⟩
                  · rcases ofCond H with ⟨c101, H⟩ | ⟨c101, H⟩
                    · refine seq_draw [.no, .nat 0, .g true, .g true, .g true, .g true, .g true, .g true, .g true, .g true, .g true, .g true, .g true, .g true, .g true] [] [(2, .c (.pk 2 0)), (5, .c (.own 29 2 0 x85.2.length)), (31, .c (dat 4 eTUnit zTUnit p1.Units)), (32, cI (p1.Units.length : Int)), (33, cI x85.1), (78, cB true)] [(2, .var (eTBoard p0) false), (29, .arr 2 x85.2.length (fF eA2_I zA2_I (x85.2.set v88.At.toNat (A2_I.mk (W ((x85.2.getD v88.At.toNat zA2_I).a0 + 1)) ((x85.2.getD v88.At.toNat zA2_I).a1)))) false)] (fun t => aI g98 (aI (And.intro c100 (by decide : 0 < 2)) (aI (nat_lt g98) (aI (rfl : ([] : List Nat) = []) (aI c101 (aI c101 (aI c101 (aI c101 (aI c101 (aI c101 (aI c101 (aI c101 (aI c101 (aI c101 (aI c101 (aI c101 (aI c101 (t)))))))))))))))))) (by kernel_rfl) ?_
                      refine ite_t (rfl : (true : Bool) = true) (by kernel_rfl) ?_
                      refine seq_ops [] [] [(4, cB false)] [] (fun t => t) (by kernel_rfl) ?_
                      refine ends_ret ?_
                      obtain rfl := Option.some.inj H
                      exact And.intro (by simp) (And.intro rfl rfl)
                    · refine seq_draw [.no, .nat 0, .g false, .g false, .g false, .g false, .g false, .g false, .no, .g false, .nat 0, .g false, .g false, .g false, .g false, .g false, .g false] [] [(2, .c (.pk 2 0)), (5, .c (.own 29 2 0 x85.2.length)), (31, .c (dat 4 eTUnit zTUnit p1.Units)), (32, cI (p1.Units.length : Int)), (33, cI x85.1), (78, cB (decide (((x85.2.set v88.At.toNat (A2_I.mk (W ((x85.2.getD v88.At.toNat zA2_I).a0 + 1)) ((x85.2.getD v88.At.toNat zA2_I).a1))).getD v88.At.toNat zA2_I).a0 > p0.Rules.Stack)))] [(2, .var (eTBoard p0) false), (29, .arr 2 x85.2.length (fF eA2_I zA2_I (x85.2.set v88.At.toNat (A2_I.mk (W ((x85.2.getD v88.At.toNat zA2_I).a0 + 1)) ((x85.2.getD v88.At.toNat zA2_I).a1)))) false)] (fun t => aI g98 (aI (And.intro c100 (by decide : 0 < 2)) (aI (nat_lt g98) (aI (rfl : ([] : List Nat) = []) (aI c101 (aI c101 (aI c101 (aI c101 (aI c101 (aI c101 (aI g98 (aI c101 (aI (And.intro c99 (by decide : 0 < 2)) (aI c101 (aI (nat_lt g98) (aI (rfl : ([] : List Nat) = []) (aI c101 (aI c101 (aI c101 (aI c101 (aI c101 (t)))))))))))))))))))))) (by kernel_rfl) ?_
                      rcases ofCond H with ⟨c102, H⟩ | ⟨c102, H⟩
                      · refine ite_t c102 (by kernel_rfl) ?_
                        refine seq_ops [] [] [(4, cB false)] [] (fun t => t) (by kernel_rfl) ?_
                        refine ends_ret ?_
                        obtain rfl := Option.some.inj H
                        exact And.intro (by simp) (And.intro rfl rfl)
                      · refine ite_f c102 (by kernel_rfl) ?_
                        refine ends_skip ?_
                        change EndsI _ _ _ _ _ _
                        refine one_ops [] [.rel 5 ((x85.2.set v88.At.toNat (A2_I.mk (W ((x85.2.getD v88.At.toNat zA2_I).a0 + 1)) ((x85.2.getD v88.At.toNat zA2_I).a1))).length), .rep 29 ((x85.2.set v88.At.toNat (A2_I.mk (W ((x85.2.getD v88.At.toNat zA2_I).a0 + 1)) ((x85.2.getD v88.At.toNat zA2_I).a1))).length) (fF eA2_I zA2_I (x85.2.set v88.At.toNat (A2_I.mk (W ((x85.2.getD v88.At.toNat zA2_I).a0 + 1)) ((x85.2.getD v88.At.toNat zA2_I).a1))))] [(2, .c (.pk 2 0)), (5, .c (.own 29 2 0 ((x85.2.set v88.At.toNat (A2_I.mk (W ((x85.2.getD v88.At.toNat zA2_I).a0 + 1)) ((x85.2.getD v88.At.toNat zA2_I).a1))).length))), (31, .c (dat 4 eTUnit zTUnit p1.Units)), (32, cI (p1.Units.length : Int)), (33, cI (W (x85.1 + 1)))] [(2, .var (eTBoard p0) false), (29, .arr 2 ((x85.2.set v88.At.toNat (A2_I.mk (W ((x85.2.getD v88.At.toNat zA2_I).a0 + 1)) ((x85.2.getD v88.At.toNat zA2_I).a1))).length) (fF eA2_I zA2_I (x85.2.set v88.At.toNat (A2_I.mk (W ((x85.2.getD v88.At.toNat zA2_I).a0 + 1)) ((x85.2.getD v88.At.toNat zA2_I).a1)))) false)] (fun t => aI (by simp : x85.2.length = (x85.2.set v88.At.toNat (A2_I.mk (W ((x85.2.getD v88.At.toNat zA2_I).a0 + 1)) ((x85.2.getD v88.At.toNat zA2_I).a1))).length) (aI (Nat.le_of_eq (by simp : (x85.2.set v88.At.toNat (A2_I.mk (W ((x85.2.getD v88.At.toNat zA2_I).a0 + 1)) ((x85.2.getD v88.At.toNat zA2_I).a1))).length = x85.2.length)) (aI (fun _ _ => rfl : ∀ i, i < (x85.2.set v88.At.toNat (A2_I.mk (W ((x85.2.getD v88.At.toNat zA2_I).a0 + 1)) ((x85.2.getD v88.At.toNat zA2_I).a1))).length → (fF eA2_I zA2_I (x85.2.set v88.At.toNat (A2_I.mk (W ((x85.2.getD v88.At.toNat zA2_I).a0 + 1)) ((x85.2.getD v88.At.toNat zA2_I).a1)))) i = (fF eA2_I zA2_I (x85.2.set v88.At.toNat (A2_I.mk (W ((x85.2.getD v88.At.toNat zA2_I).a0 + 1)) ((x85.2.getD v88.At.toNat zA2_I).a1)))) i) (t)))) (by kernel_rfl) ?_
                        obtain rfl := Option.some.inj H
                        exact And.intro rfl rfl
                  · rcases ofIte H with ⟨c103, H⟩ | ⟨c106, H⟩
                    · rcases ofCond H with ⟨c104, H⟩ | ⟨c104, H⟩
                      · refine seq_draw [.no, .nat 1, .g true, .g true, .g true, .g true, .g true, .g true, .g true, .g true, .g true, .g true, .g true, .g true, .g true] [] [(2, .c (.pk 2 0)), (5, .c (.own 29 2 0 x85.2.length)), (31, .c (dat 4 eTUnit zTUnit p1.Units)), (32, cI (p1.Units.length : Int)), (33, cI x85.1), (78, cB true)] [(2, .var (eTBoard p0) false), (29, .arr 2 x85.2.length (fF eA2_I zA2_I (x85.2.set v88.At.toNat (A2_I.mk (W ((x85.2.getD v88.At.toNat zA2_I).a0 + 1)) ((x85.2.getD v88.At.toNat zA2_I).a1)))) false)] (fun t => aI g98 (aI (And.intro c103 (by decide : 1 < 2)) (aI (nat_lt g98) (aI (rfl : ([] : List Nat) = []) (aI c104 (aI c104 (aI c104 (aI c104 (aI c104 (aI c104 (aI c104 (aI c104 (aI c104 (aI c104 (aI c104 (aI c104 (aI c104 (t)))))))))))))))))) (by kernel_rfl) ?_
                        refine ite_t (rfl : (true : Bool) = true) (by kernel_rfl) ?_
                        refine seq_ops [] [] [(4, cB false)] [] (fun t => t) (by kernel_rfl) ?_
                        refine ends_ret ?_
                        obtain rfl := Option.some.inj H
                        exact And.intro (by simp) (And.intro rfl rfl)
                      · refine seq_draw [.no, .nat 1, .g false, .g false, .g false, .g false, .g false, .g false, .no, .g false, .nat 0, .g false, .g false, .g false, .g false, .g false, .g false] [] [(2, .c (.pk 2 0)), (5, .c (.own 29 2 0 x85.2.length)), (31, .c (dat 4 eTUnit zTUnit p1.Units)), (32, cI (p1.Units.length : Int)), (33, cI x85.1), (78, cB (decide (((x85.2.set v88.At.toNat (A2_I.mk (W ((x85.2.getD v88.At.toNat zA2_I).a0 + 1)) ((x85.2.getD v88.At.toNat zA2_I).a1))).getD v88.At.toNat zA2_I).a0 > p0.Rules.Stack)))] [(2, .var (eTBoard p0) false), (29, .arr 2 x85.2.length (fF eA2_I zA2_I (x85.2.set v88.At.toNat (A2_I.mk (W ((x85.2.getD v88.At.toNat zA2_I).a0 + 1)) ((x85.2.getD v88.At.toNat zA2_I).a1)))) false)] (fun t => aI g98 (aI (And.intro c103 (by decide : 1 < 2)) (aI (nat_lt g98) (aI (rfl : ([] : List Nat) = []) (aI c104 (aI c104 (aI c104 (aI c104 (aI c104 (aI c104 (aI g98 (aI c104 (aI (And.intro c99 (by decide : 0 < 2)) (aI c104 (aI (nat_lt g98) (aI (rfl : ([] : List Nat) = []) (aI c104 (aI c104 (aI c104 (aI c104 (aI c104 (t)))))))))))))))))))))) (by kernel_rfl) ?_
                        rcases ofCond H with ⟨c105, H⟩ | ⟨c105, H⟩
                        · refine ite_t c105 (by kernel_rfl) ?_
                          refine seq_ops [] [] [(4, cB false)] [] (fun t => t) (by kernel_rfl) ?_
                          refine ends_ret ?_
                          obtain rfl := Option.some.inj H
                          exact And.intro (by simp) (And.intro rfl rfl)
                        · refine ite_f c105 (by kernel_rfl) ?_
                          refine ends_skip ?_
                          change EndsI _ _ _ _ _ _
                          refine one_ops [] [.rel 5 ((x85.2.set v88.At.toNat (A2_I.mk (W ((x85.2.getD v88.At.toNat zA2_I).a0 + 1)) ((x85.2.getD v88.At.toNat zA2_I).a1))).length), .rep 29 ((x85.2.set v88.At.toNat (A2_I.mk (W ((x85.2.getD v88.At.toNat zA2_I).a0 + 1)) ((x85.2.getD v88.At.toNat zA2_I).a1))).length) (fF eA2_I zA2_I (x85.2.set v88.At.toNat (A2_I.mk (W ((x85.2.getD v88.At.toNat zA2_I).a0 + 1)) ((x85.2.getD v88.At.toNat zA2_I).a1))))] [(2, .c (.pk 2 0)), (5, .c (.own 29 2 0 ((x85.2.set v88.At.toNat (A2_I.mk (W ((x85.2.getD v88.At.toNat zA2_I).a0 + 1)) ((x85.2.getD v88.At.toNat zA2_I).a1))).length))), (31, .c (dat 4 eTUnit zTUnit p1.Units)), (32, cI (p1.Units.length : Int)), (33, cI (W (x85.1 + 1)))] [(2, .var (eTBoard p0) false), (29, .arr 2 ((x85.2.set v88.At.toNat (A2_I.mk (W ((x85.2.getD v88.At.toNat zA2_I).a0 + 1)) ((x85.2.getD v88.At.toNat zA2_I).a1))).length) (fF eA2_I zA2_I (x85.2.set v88.At.toNat (A2_I.mk (W ((x85.2.getD v88.At.toNat zA2_I).a0 + 1)) ((x85.2.getD v88.At.toNat zA2_I).a1)))) false)] (fun t => aI (by simp : x85.2.length = (x85.2.set v88.At.toNat (A2_I.mk (W ((x85.2.getD v88.At.toNat zA2_I).a0 + 1)) ((x85.2.getD v88.At.toNat zA2_I).a1))).length) (aI (Nat.le_of_eq (by simp : (x85.2.set v88.At.toNat (A2_I.mk (W ((x85.2.getD v88.At.toNat zA2_I).a0 + 1)) ((x85.2.getD v88.At.toNat zA2_I).a1))).length = x85.2.length)) (aI (fun _ _ => rfl : ∀ i, i < (x85.2.set v88.At.toNat (A2_I.mk (W ((x85.2.getD v88.At.toNat zA2_I).a0 + 1)) ((x85.2.getD v88.At.toNat zA2_I).a1))).length → (fF eA2_I zA2_I (x85.2.set v88.At.toNat (A2_I.mk (W ((x85.2.getD v88.At.toNat zA2_I).a0 + 1)) ((x85.2.getD v88.At.toNat zA2_I).a1)))) i = (fF eA2_I zA2_I (x85.2.set v88.At.toNat (A2_I.mk (W ((x85.2.getD v88.At.toNat zA2_I).a0 + 1)) ((x85.2.getD v88.At.toNat zA2_I).a1)))) i) (t)))) (by kernel_rfl) ?_
                          obtain rfl := Option.some.inj H
                          exact And.intro rfl rfl
                    · cases H
                · rcases ofIte H with ⟨c108, H⟩ | ⟨c117, H⟩
                  · refine seq_draw [.no, .nat 1, .no, .nat 1, .fn 0 (fF eA2_I zA2_I (x85.2.set v88.At.toNat (A2_I.mk ((x85.2.getD v88.At.toNat zA2_I).a0) (W ((x85.2.getD v88.At.toNat zA2_I).a1 + 1)))))] [] [(2, .c (.pk 2 0)), (5, .c (.own 29 2 0 x85.2.length)), (7, .c (.pk 7 0)), (31, .c (dat 4 eTUnit zTUnit p1.Units)), (32, cI (p1.Units.length : Int)), (33, cI x85.1)] [(2, .var (eTBoard p0) false), (7, .var (eTUnit v88) false), (29, .arr 2 x85.2.length (fF eA2_I zA2_I (x85.2.set v88.At.toNat (A2_I.mk ((x85.2.getD v88.At.toNat zA2_I).a0) (W ((x85.2.getD v88.At.toNat zA2_I).a1 + 1))))) false)] (fun t => aI g98 (aI (And.intro c108 (by decide : 1 < 2)) (aI (nat_lt g98) (aI (rfl : ([] : List Nat) = []) (aI g98 (aI (And.intro c108 (by decide : 1 < 2)) (aI (rfl : true = true) (aI (nat_lt g98) (aI (by decide : 1 + 1 ≤ 2) (aI (fF_set eA2_I zA2_I x85.2 v88.At.toNat (A2_I.mk ((x85.2.getD v88.At.toNat zA2_I).a0) (W ((x85.2.getD v88.At.toNat zA2_I).a1 + 1))) (nat_lt g98) x85.2.length) (t))))))))))) (by kernel_rfl) ?_
                    rcases ofIte H with ⟨c109, H⟩ | ⟨c116, H⟩
                    · rcases ofCond H with ⟨c110, H⟩ | ⟨c110, H⟩
                      · refine seq_draw [.no, .nat 0, .g true, .g true, .g true, .g true, .g true, .g true, .g true, .g true, .g true, .g true, .g true, .g true, .g true] [] [(2, .c (.pk 2 0)), (5, .c (.own 29 2 0 x85.2.length)), (31, .c (dat 4 eTUnit zTUnit p1.Units)), (32, cI (p1.Units.length : Int)), (33, cI x85.1), (78, cB true)] [(2, .var (eTBoard p0) false), (29, .arr 2 x85.2.length (fF eA2_I zA2_I (x85.2.set v88.At.toNat (A2_I.mk ((x85.2.getD v88.At.toNat zA2_I).a0) (W ((x85.2.getD v88.At.toNat zA2_I).a1 + 1))))) false)] (fun t => aI g98 (aI (And.intro c109 (by decide : 0 < 2)) (aI (nat_lt g98) (aI (rfl : ([] : List Nat) = []) (aI c110 (aI c110 (aI c110 (aI c110 (aI c110 (aI c110 (aI c110 (aI c110 (aI c110 (aI c110 (aI c110 (aI c110 (aI c110 (t)))))))))))))))))) (by kernel_rfl) ?_
                        refine ite_t (rfl : (true : Bool) = true) (by kernel_rfl) ?_
                        refine seq_ops [] [] [(4, cB false)] [] (fun t => t) (by kernel_rfl) ?_
                        refine ends_ret ?_
                        obtain rfl := Option.some.inj H
                        exact And.intro (by simp) (And.intro rfl rfl)
                      · refine seq_draw [.no, .nat 0, .g false, .g false, .g false, .g false, .g false, .g false, .no, .g false, .nat 1, .g false, .g false, .g false, .g false, .g false, .g false] [] [(2, .c (.pk 2 0)), (5, .c (.own 29 2 0 x85.2.length)), (31, .c (dat 4 eTUnit zTUnit p1.Units)), (32, cI (p1.Units.length : Int)), (33, cI x85.1), (78, cB (decide (((x85.2.set v88.At.toNat (A2_I.mk ((x85.2.getD v88.At.toNat zA2_I).a0) (W ((x85.2.getD v88.At.toNat zA2_I).a1 + 1)))).getD v88.At.toNat zA2_I).a1 > p0.Rules.Stack)))] [(2, .var (eTBoard p0) false), (29, .arr 2 x85.2.length (fF eA2_I zA2_I (x85.2.set v88.At.toNat (A2_I.mk ((x85.2.getD v88.At.toNat zA2_I).a0) (W ((x85.2.getD v88.At.toNat zA2_I).a1 + 1))))) false)] (fun t => aI g98 (aI (And.intro c109 (by decide : 0 < 2)) (aI (nat_lt g98) (aI (rfl : ([] : List Nat) = []) (aI c110 (aI c110 (aI c110 (aI c110 (aI c110 (aI c110 (aI g98 (aI c110 (aI (And.intro c108 (by decide : 1 < 2)) (aI c110 (aI (nat_lt g98) (aI (rfl : ([] : List Nat) = []) (aI c110 (aI c110 (aI c110 (aI c110 (aI c110 (t)))))))))))))))))))))) (by kernel_rfl) ?_
                        rcases ofCond H with ⟨c111, H⟩ | ⟨c111, H⟩
                        · refine ite_t c111 (by kernel_rfl) ?_
                          refine seq_ops [] [] [(4, cB false)] [] (fun t => t) (by kernel_rfl) ?_
                          refine ends_ret ?_
                          obtain rfl := Option.some.inj H
                          exact And.intro (by simp) (And.intro rfl rfl)
                        · refine ite_f c111 (by kernel_rfl) ?_
                          refine ends_skip ?_
                          change EndsI _ _ _ _ _ _
                          refine one_ops [] [.rel 5 ((x85.2.set v88.At.toNat (A2_I.mk ((x85.2.getD v88.At.toNat zA2_I).a0) (W ((x85.2.getD v88.At.toNat zA2_I).a1 + 1)))).length), .rep 29 ((x85.2.set v88.At.toNat (A2_I.mk ((x85.2.getD v88.At.toNat zA2_I).a0) (W ((x85.2.getD v88.At.toNat zA2_I).a1 + 1)))).length) (fF eA2_I zA2_I (x85.2.set v88.At.toNat (A2_I.mk ((x85.2.getD v88.At.toNat zA2_I).a0) (W ((x85.2.getD v88.At.toNat zA2_I).a1 + 1)))))] [(2, .c (.pk 2 0)), (5, .c (.own 29 2 0 ((x85.2.set v88.At.toNat (A2_I.mk ((x85.2.getD v88.At.toNat zA2_I).a0) (W ((x85.2.getD v88.At.toNat zA2_I).a1 + 1)))).length))), (31, .c (dat 4 eTUnit zTUnit p1.Units)), (32, cI (p1.Units.length : Int)), (33, cI (W (x85.1 + 1)))] [(2, .var (eTBoard p0) false), (29, .arr 2 ((x85.2.set v88.At.toNat (A2_I.mk ((x85.2.getD v88.At.toNat zA2_I).a0) (W ((x85.2.getD v88.At.toNat zA2_I).a1 + 1)))).length) (fF eA2_I zA2_I (x85.2.set v88.At.toNat (A2_I.mk ((x85.2.getD v88.At.toNat zA2_I).a0) (W ((x85.2.getD v88.At.toNat zA2_I).a1 + 1))))) false)] (fun t => aI (by simp : x85.2.length = (x85.2.set v88.At.toNat (A2_I.mk ((x85.2.getD v88.At.toNat zA2_I).a0) (W ((x85.2.getD v88.At.toNat zA2_I).a1 + 1)))).length) (aI (Nat.le_of_eq (by simp : (x85.2.set v88.At.toNat (A2_I.mk ((x85.2.getD v88.At.toNat zA2_I).a0) (W ((x85.2.getD v88.At.toNat zA2_I).a1 + 1)))).length = x85.2.length)) (aI (fun _ _ => rfl : ∀ i, i < (x85.2.set v88.At.toNat (A2_I.mk ((x85.2.getD v88.At.toNat zA2_I).a0) (W ((x85.2.getD v88.At.toNat zA2_I).a1 + 1)))).length → (fF eA2_I zA2_I (x85.2.set v88.At.toNat (A2_I.mk ((x85.2.getD v88.At.toNat zA2_I).a0) (W ((x85.2.getD v88.At.toNat zA2_I).a1 + 1))))) i = (fF eA2_I zA2_I (x85.2.set v88.At.toNat (A2_I.mk ((x85.2.getD v88.At.toNat zA2_I).a0) (W ((x85.2.getD v88.At.toNat zA2_I).a1 + 1))))) i) (t)))) (by kernel_rfl) ?_
                          obtain rfl := Option.some.inj H
                          exact And.intro rfl rfl
                    · rcases ofIte H with ⟨c112, H⟩ | ⟨c115, H⟩
                      · rcases ofCond H with ⟨c113, H⟩ | ⟨c113, H⟩
                        · refine seq_draw [.no, .nat 1, .g true, .g true, .g true, .g true, .g true, .g true, .g true, .g true, .g true, .g true, .g true, .g true, .g true] [] [(2, .c (.pk 2 0)), (5, .c (.own 29 2 0 x85.2.length)), (31, .c (dat 4 eTUnit zTUnit p1.Units)), (32, cI (p1.Units.length : Int)), (33, cI x85.1), (78, cB true)] [(2, .var (eTBoard p0) false), (29, .arr 2 x85.2.length (fF eA2_I zA2_I (x85.2.set v88.At.toNat (A2_I.mk ((x85.2.getD v88.At.toNat zA2_I).a0) (W ((x85.2.getD v88.At.toNat zA2_I).a1 + 1))))) false)] (fun t => aI g98 (aI (And.intro c112 (by decide : 1 < 2)) (aI (nat_lt g98) (aI (rfl : ([] : List Nat) = []) (aI c113 (aI c113 (aI c113 (aI c113 (aI c113 (aI c113 (aI c113 (aI c113 (aI c113 (aI c113 (aI c113 (aI c113 (aI c113 (t)))))))))))))))))) (by kernel_rfl) ?_
                          refine ite_t (rfl : (true : Bool) = true) (by kernel_rfl) ?_
                          refine seq_ops [] [] [(4, cB false)] [] (fun t => t) (by kernel_rfl) ?_
                          refine ends_ret ?_
                          obtain rfl := Option.some.inj H
                          exact And.intro (by simp) (And.intro rfl rfl)
                        · refine seq_draw [.no, .nat 1, .g false, .g false, .g false, .g false, .g false, .g false, .no, .g false, .nat 1, .g false, .g false, .g false, .g false, .g false, .g false] [] [(2, .c (.pk 2 0)), (5, .c (.own 29 2 0 x85.2.length)), (31, .c (dat 4 eTUnit zTUnit p1.Units)), (32, cI (p1.Units.length : Int)), (33, cI x85.1), (78, cB (decide (((x85.2.set v88.At.toNat (A2_I.mk ((x85.2.getD v88.At.toNat zA2_I).a0) (W ((x85.2.getD v88.At.toNat zA2_I).a1 + 1)))).getD v88.At.toNat zA2_I).a1 > p0.Rules.Stack)))] [(2, .var (eTBoard p0) false), (29, .arr 2 x85.2.length (fF eA2_I zA2_I (x85.2.set v88.At.toNat (A2_I.mk ((x85.2.getD v88.At.toNat zA2_I).a0) (W ((x85.2.getD v88.At.toNat zA2_I).a1 + 1))))) false)] (fun t => aI g98 (aI (And.intro c112 (by decide : 1 < 2)) (aI (nat_lt g98) (aI (rfl : ([] : List Nat) = []) (aI c113 (aI c113 (aI c113 (aI c113 (aI c113 (aI c113 (aI g98 (aI c113 (aI (And.intro c108 (by decide : 1 < 2)) (aI c113 (aI (nat_lt g98) (aI (rfl : ([] : List Nat) = []) (aI c113 (aI c113 (aI c113 (aI c113 (aI c113 (t)))))))))))))))))))))) (by kernel_rfl) ?_
                          rcases ofCond H with ⟨c114, H⟩ | ⟨c114, H⟩
                          · refine ite_t c114 (by kernel_rfl) ?_
                            refine seq_ops [] [] [(4, cB false)] [] (fun t => t) (by kernel_rfl) ?_
                            refine ends_ret ?_
                            obtain rfl := Option.some.inj H
                            exact And.intro (by simp) (And.intro rfl rfl)
                          · refine ite_f c114 (by kernel_rfl) ?_
                            refine ends_skip ?_
                            change EndsI _ _ _ _ _ _
                            refine one_ops [] [.rel 5 ((x85.2.set v88.At.toNat (A2_I.mk ((x85.2.getD v88.At.toNat zA2_I).a0) (W ((x85.2.getD v88.At.toNat zA2_I).a1 + 1)))).length), .rep 29 ((x85.2.set v88.At.toNat (A2_I.mk ((x85.2.getD v88.At.toNat zA2_I).a0) (W ((x85.2.getD v88.At.toNat zA2_I).a1 + 1)))).length) (fF eA2_I zA2_I (x85.2.set v88.At.toNat (A2_I.mk ((x85.2.getD v88.At.toNat zA2_I).a0) (W ((x85.2.getD v88.At.toNat zA2_I).a1 + 1)))))] [(2, .c (.pk 2 0)), (5, .c (.own 29 2 0 ((x85.2.set v88.At.toNat (A2_I.mk ((x85.2.getD v88.At.toNat zA2_I).a0) (W ((x85.2.getD v88.At.toNat zA2_I).a1 + 1)))).length))), (31, .c (dat 4 eTUnit zTUnit p1.Units)), (32, cI (p1.Units.length : Int)), (33, cI (W (x85.1 + 1)))] [(2, .var (eTBoard p0) false), (29, .arr 2 ((x85.2.set v88.At.toNat (A2_I.mk ((x85.2.getD v88.At.toNat zA2_I).a0) (W ((x85.2.getD v88.At.toNat zA2_I).a1 + 1)))).length) (fF eA2_I zA2_I (x85.2.set v88.At.toNat (A2_I.mk ((x85.2.getD v88.At.toNat zA2_I).a0) (W ((x85.2.getD v88.At.toNat zA2_I).a1 + 1))))) false)] (fun t => aI (by simp : x85.2.length = (x85.2.set v88.At.toNat (A2_I.mk ((x85.2.getD v88.At.toNat zA2_I).a0) (W ((x85.2.getD v88.At.toNat zA2_I).a1 + 1)))).length) (aI (Nat.le_of_eq (by simp : (x85.2.set v88.At.toNat (A2_I.mk ((x85.2.getD v88.At.toNat zA2_I).a0) (W ((x85.2.getD v88.At.toNat zA2_I).a1 + 1)))).length = x85.2.length)) (aI (fun _ _ => rfl : ∀ i, i < (x85.2.set v88.At.toNat (A2_I.mk ((x85.2.getD v88.At.toNat zA2_I).a0) (W ((x85.2.getD v88.At.toNat zA2_I).a1 + 1)))).length → (fF eA2_I zA2_I (x85.2.set v88.At.toNat (A2_I.mk ((x85.2.getD v88.At.toNat zA2_I).a0) (W ((x85.2.getD v88.At.toNat zA2_I).a1 + 1))))) i = (fF eA2_I zA2_I (x85.2.set v88.At.toNat (A2_I.mk ((x85.2.getD v88.At.toNat zA2_I).a0) (W ((x85.2.getD v88.At.toNat zA2_I).a1 + 1))))) i) (t)))) (by kernel_rfl) ?_
                            obtain rfl := Option.some.inj H
                            exact And.intro rfl rfl
                      · cases H
                  · cases H
          · refine ite_f c87 (by kernel_rfl) ?_
            refine tell [] [] [] (fun t => t) (by kernel_rfl) ?_
            refine ends_exit ?_
            obtain rfl := Option.some.inj H
            exact And.intro (by simp) (And.intro rfl rfl)
        · clear h120
          cases y119 with
          | inl y121 =>
            replace H := ofInl H
            intro e s q
            obtain ⟨rfl, rfl⟩ := q
            change EndsI _ _ _ _ _ _
            refine seq_ops [] [] [(4, cB true)] [] (fun t => t) (by kernel_rfl) ?_
            refine ends_ret ?_
            obtain rfl := Option.some.inj H
            exact And.intro (.inl rfl) rfl
          | inr y122 =>
            replace H := ofInr H
            intro e s q
            obtain ⟨rfl, rfl⟩ := q
            obtain rfl := Option.some.inj H
            exact And.intro (.inl rfl) rfl

def i_goodReactions_ir : S :=
 (.seq (.ops [⟨some 3, .box 12 (.t 0), none⟩, ⟨some 4, .box 3 (.t 1), none⟩, ⟨some 6, .mv (.v (.bool false)), none⟩])
 (.seq (.seq (.ops [⟨some 9, .mv (.t 2), none⟩, ⟨some 10, .len (.t 9), none⟩, ⟨some 11, .bin .gtr (.t 10) (.v (.int .i64 12)), none⟩])
 (.ite (.t 11) (.seq (.ops [⟨some 6, .mv (.v (.bool false)), none⟩])
  .ret)
 .skip))
 (.seq (.seq (.ops [⟨some 12, .mv (.t 2), none⟩, ⟨some 13, .len (.t 12), none⟩, ⟨some 14, .mv (.v (.int .i64 0)), none⟩])
 (.blk 0 (.loop (.seq (.ops [⟨some 15, .bin .lss (.t 14) (.t 13), none⟩])
   (.seq (.ite (.t 15) .skip
   (.exit 0))
   (.seq (.blk 1 (.seq (.ops [⟨some 16, .iad 3 (.t 12) (.t 14), none⟩, ⟨some 17, .load 3 true (.t 16), none⟩, ⟨some 8, .alloc [.int .i64 0, .int .i64 0, .int .i64 0], none⟩, ⟨none, .store 3 (.t 8) (.t 17), none⟩])
    (.seq (.draw 21 [⟨some 18, .fad 0 (.t 8), none⟩, ⟨some 19, .load 1 false (.t 18), none⟩, ⟨some 20, .fad 2 (.t 4), none⟩, ⟨some 21, .load 1 false (.t 20), none⟩, ⟨some 22, .len (.t 21), none⟩, ⟨some 23, .call 90 [.t 19, .t 22], none⟩, ⟨some 24, .not (.t 23), none⟩, ⟨some 25, .mv (.t 24), none⟩, ⟨some 26, .fad 1 (.t 8), some (25, false)⟩, ⟨some 27, .load 1 false (.t 26), some (25, false)⟩, ⟨some 28, .load 12 true (.t 3), some (25, false)⟩, ⟨some 29, .call 91 [.t 28], some (25, false)⟩, ⟨some 30, .call 90 [.t 27, .t 29], some (25, false)⟩, ⟨some 31, .not (.t 30), some (25, false)⟩, ⟨some 32, .pick (.t 25) (.v (.bool true)) (.t 31), none⟩, ⟨some 33, .mv (.t 32), none⟩, ⟨some 34, .fad 2 (.t 8), some (33, false)⟩, ⟨some 35, .load 1 false (.t 34), some (33, false)⟩, ⟨some 36, .call 71 [.t 35, .v (.int .i64 0), .v (.int .i64 1)], some (33, false)⟩, ⟨some 37, .not (.t 36), some (33, false)⟩, ⟨some 38, .pick (.t 33) (.v (.bool true)) (.t 37), none⟩])
    (.ite (.t 38) (.seq (.ops [⟨some 6, .mv (.v (.bool false)), none⟩])
     .ret)
    .skip))))
   (.ops [⟨some 39, .bin .add (.t 14) (.v (.int .i64 1)), none⟩, ⟨some 14, .mv (.t 39), none⟩])))))))
 (.seq (.ops [⟨some 6, .mv (.v (.bool true)), none⟩])
 .ret))))
noncomputable def X.i_goodReactions (p0 : TBoard) (p1 : TState) (p2 : (List TReaction)) : Option Bool :=
  (bif (decide ((p2.length : Int) > 12)) then some false else ((loop (fun (x34 : Int) => ((bif (decide (x34 < (p2.length : Int))) then ((at' zTReaction p2 x34).bind fun v37 => ((X.i_isIndex v37.Unit (p1.Units.length : Int)).bind fun v39 => (bif (!v39) then some (Sum.inr (Sum.inr false)) else ((X.i_sizeOf p0).bind fun v42 => ((X.i_isIndex v37.Watch v42).bind fun v44 => (bif (!v44) then some (Sum.inr (Sum.inr false)) else ((X.i_inRange v37.Kind 0 1).bind fun v47 => (bif (!v47) then some (Sum.inr (Sum.inr false)) else some (Sum.inl (W (x34 + 1))))))))))) else some (Sum.inr (Sum.inl ()))) : Option (Int ⊕ (Unit ⊕ Bool)))) 0).bind fun y50 => (Sum.elim (fun (y52 : Unit) => some true) (fun (y53 : Bool) => some y53) y50)))
theorem i_goodReactions_ok (p0 : TBoard) (p1 : TState) (p2 : (List TReaction)) (r : Bool) (H : X.i_goodReactions p0 p1 p2 = some r) : FnOk Tryz.prog gl 178 [.agg (eTBoard p0), .agg (eTState p1), .c (dat 3 eTReaction zTReaction p2)] (cB r) := by
  unfold X.i_goodReactions at H
  refine fn_in (fn := Tryz.f178) (ir := i_goodReactions_ir) (s1 := lit [(6, cB r)] []) Tryz.func178 (by kernel_rfl) (by kernel_rfl) (by kernel_rfl) (by kernel_rfl) (by kernel_rfl) ?_
  refine seq_ops [] [] [(2, .c (dat 3 eTReaction zTReaction p2)), (3, .c (.pk 3 0)), (4, .c (.pk 4 0))] [(3, .var (eTBoard p0) false), (4, .var (eTState p1) false)] (fun t => t) (by kernel_rfl) ?_
  refine seq_in ?_
  refine seq_ops [] [] [(2, .c (dat 3 eTReaction zTReaction p2)), (3, .c (.pk 3 0)), (4, .c (.pk 4 0)), (11, cB (decide ((p2.length : Int) > 12)))] [(3, .var (eTBoard p0) false), (4, .var (eTState p1) false)] (fun t => lI p2 (t)) (by kernel_rfl) ?_
  rcases ofCond H with ⟨c2, H⟩ | ⟨c2, H⟩
  · refine ite_t c2 (by kernel_rfl) ?_
    refine seq_ops [] [] [(6, cB false)] [] (fun t => t) (by kernel_rfl) ?_
    refine ends_ret ?_
    obtain rfl := Option.some.inj H
    exact And.intro (.inl rfl) rfl
  · refine ite_f c2 (by kernel_rfl) ?_
    refine ends_skip ?_
    change EndsI _ _ _ _ _ _
    refine seq_in ?_
    refine seq_ops [] [] [(3, .c (.pk 3 0)), (4, .c (.pk 4 0)), (12, .c (dat 3 eTReaction zTReaction p2)), (13, cI (p2.length : Int)), (14, cI 0)] [(3, .var (eTBoard p0) false), (4, .var (eTState p1) false)] (fun t => lI p2 (t)) (by kernel_rfl) ?_
    refine ends_blk ?_
    obtain ⟨y50, h51, H⟩ := ofBind H
    refine loop_in (fun (x : Int) => lit [(3, .c (.pk 3 0)), (4, .c (.pk 4 0)), (12, .c (dat 3 eTReaction zTReaction p2)), (13, cI (p2.length : Int)), (14, cI x)] [(3, .var (eTBoard p0) false), (4, .var (eTState p1) false)]) (orJ (fun (z : Unit) => At (.exit 0) (lit [] [])) (fun (z : Bool) => At .ret (lit [(6, cB z)] []))) h51 ?_ ?_
    · clear H h51
      intro x34 y0 H
      refine seq_ops [] [] [(3, .c (.pk 3 0)), (4, .c (.pk 4 0)), (12, .c (dat 3 eTReaction zTReaction p2)), (13, cI (p2.length : Int)), (14, cI x34), (15, cB (decide (x34 < (p2.length : Int))))] [(3, .var (eTBoard p0) false), (4, .var (eTState p1) false)] (fun t => t) (by kernel_rfl) ?_
      refine seq_in ?_
      rcases ofCond H with ⟨c36, H⟩ | ⟨c36, H⟩
      · refine ite_t c36 (by kernel_rfl) ?_
        refine ends_skip ?_
        change EndsI _ _ _ _ _ _
        refine seq_in ?_
        refine ends_blk ?_
        obtain ⟨v37, h38, H⟩ := ofBind H
        refine seq_ops [.cs (eTReaction v37)] [] [(3, .c (.pk 3 0)), (4, .c (.pk 4 0)), (8, .c (.pk 8 0)), (12, .c (dat 3 eTReaction zTReaction p2)), (13, cI (p2.length : Int)), (14, cI x34)] [(3, .var (eTBoard p0) false), (4, .var (eTState p1) false), (8, .var (eTReaction v37) false)] (fun t => aI (at_lt h38) (aI (at_enc (enc := eTReaction) h38) (t))) (by kernel_rfl) ?_
        obtain ⟨v39, h40, H⟩ := ofBind H
        rcases ofCond H with ⟨c41, H⟩ | ⟨c41, H⟩
        · refine seq_draw [.res (cB v39), .g true, .g true, .g true, .g true, .g true, .g true, .g true, .g true, .g true, .g true, .g true, .g true] [] [(3, .c (.pk 3 0)), (4, .c (.pk 4 0)), (12, .c (dat 3 eTReaction zTReaction p2)), (13, cI (p2.length : Int)), (14, cI x34), (38, cB true)] [(3, .var (eTBoard p0) false), (4, .var (eTState p1) false)] (fun t => aI (i_isIndex_ok v37.Unit (p1.Units.length : Int) v39 h40) (aI trivial (aI (rfl : ([] : List Nat) = []) (aI c41 (aI c41 (aI c41 (aI c41 (aI c41 (aI c41 (aI c41 (aI (rfl : (true : Bool) = true) (aI (rfl : (true : Bool) = true) (aI (rfl : (true : Bool) = true) (aI (rfl : (true : Bool) = true) (aI (rfl : (true : Bool) = true) (t)))))))))))))))) (by kernel_rfl) ?_
          refine ite_t (rfl : (true : Bool) = true) (by kernel_rfl) ?_
          refine seq_ops [] [] [(6, cB false)] [] (fun t => t) (by kernel_rfl) ?_
          refine ends_ret ?_
          obtain rfl := Option.some.inj H
          exact And.intro (by simp) (And.intro rfl rfl)
        · obtain ⟨v42, h43, H⟩ := ofBind H
          obtain ⟨v44, h45, H⟩ := ofBind H
          rcases ofCond H with ⟨c46, H⟩ | ⟨c46, H⟩
          · refine seq_draw [.res (cB v39), .g false, .g false, .g false, .g false, .res (cI v42), .g false, .res (cB v44), .g false, .g false, .g true, .g true, .g true, .g true, .g true] [] [(3, .c (.pk 3 0)), (4, .c (.pk 4 0)), (12, .c (dat 3 eTReaction zTReaction p2)), (13, cI (p2.length : Int)), (14, cI x34), (38, cB true)] [(3, .var (eTBoard p0) false), (4, .var (eTState p1) false)] (fun t => aI (i_isIndex_ok v37.Unit (p1.Units.length : Int) v39 h40) (aI trivial (aI (rfl : ([] : List Nat) = []) (aI c41 (aI c41 (aI c41 (aI c41 (aI (i_sizeOf_ok p0 v42 h43) (aI trivial (aI (rfl : ([] : List Nat) = []) (aI c41 (aI (i_isIndex_ok v37.Watch v42 v44 h45) (aI trivial (aI (rfl : ([] : List Nat) = []) (aI c41 (aI c41 (aI c46 (aI c46 (aI c46 (aI c46 (aI c46 (t)))))))))))))))))))))) (by kernel_rfl) ?_
            refine ite_t (rfl : (true : Bool) = true) (by kernel_rfl) ?_
            refine seq_ops [] [] [(6, cB false)] [] (fun t => t) (by kernel_rfl) ?_
            refine ends_ret ?_
            obtain rfl := Option.some.inj H
            exact And.intro (by simp) (And.intro rfl rfl)
          · obtain ⟨v47, h48, H⟩ := ofBind H
            refine seq_draw [.res (cB v39), .g false, .g false, .g false, .g false, .res (cI v42), .g false, .res (cB v44), .g false, .g false, .g false, .g false, .g false, .res (cB v47), .g false, .g false] [] [(3, .c (.pk 3 0)), (4, .c (.pk 4 0)), (12, .c (dat 3 eTReaction zTReaction p2)), (13, cI (p2.length : Int)), (14, cI x34), (38, cB (!v47))] [(3, .var (eTBoard p0) false), (4, .var (eTState p1) false)] (fun t => aI (i_isIndex_ok v37.Unit (p1.Units.length : Int) v39 h40) (aI trivial (aI (rfl : ([] : List Nat) = []) (aI c41 (aI c41 (aI c41 (aI c41 (aI (i_sizeOf_ok p0 v42 h43) (aI trivial (aI (rfl : ([] : List Nat) = []) (aI c41 (aI (i_isIndex_ok v37.Watch v42 v44 h45) (aI trivial (aI (rfl : ([] : List Nat) = []) (aI c41 (aI c41 (aI c46 (aI c46 (aI c46 (aI (i_inRange_ok v37.Kind 0 1 v47 h48) (aI trivial (aI (rfl : ([] : List Nat) = []) (aI c46 (aI c46 (t))))))))))))))))))))))))) (by kernel_rfl) ?_
            rcases ofCond H with ⟨c49, H⟩ | ⟨c49, H⟩
            · refine ite_t c49 (by kernel_rfl) ?_
              refine seq_ops [] [] [(6, cB false)] [] (fun t => t) (by kernel_rfl) ?_
              refine ends_ret ?_
              obtain rfl := Option.some.inj H
              exact And.intro (by simp) (And.intro rfl rfl)
            · refine ite_f c49 (by kernel_rfl) ?_
              refine ends_skip ?_
              change EndsI _ _ _ _ _ _
              refine one_ops [] [] [(3, .c (.pk 3 0)), (4, .c (.pk 4 0)), (12, .c (dat 3 eTReaction zTReaction p2)), (13, cI (p2.length : Int)), (14, cI (W (x34 + 1)))] [(3, .var (eTBoard p0) false), (4, .var (eTState p1) false)] (fun t => t) (by kernel_rfl) ?_
              obtain rfl := Option.some.inj H
              exact And.intro rfl rfl
      · refine ite_f c36 (by kernel_rfl) ?_
        refine tell [] [] [] (fun t => t) (by kernel_rfl) ?_
        refine ends_exit ?_
        obtain rfl := Option.some.inj H
        exact And.intro (by simp) (And.intro rfl rfl)
    · clear h51
      cases y50 with
      | inl y52 =>
        replace H := ofInl H
        intro e s q
        obtain ⟨rfl, rfl⟩ := q
        change EndsI _ _ _ _ _ _
        refine seq_ops [] [] [(6, cB true)] [] (fun t => t) (by kernel_rfl) ?_
        refine ends_ret ?_
        obtain rfl := Option.some.inj H
        exact And.intro (.inl rfl) rfl
      | inr y53 =>
        replace H := ofInr H
        intro e s q
        obtain ⟨rfl, rfl⟩ := q
        obtain rfl := Option.some.inj H
        exact And.intro (.inl rfl) rfl

def g_Index_int_ir : S :=
 (.seq (.ops [⟨some 4, .mv (.v (.int .i64 0)), none⟩])
 (.seq (.seq (.ops [⟨some 6, .mv (.t 0), none⟩, ⟨some 7, .len (.t 6), none⟩, ⟨some 8, .mv (.v (.int .i64 0)), none⟩])
 (.blk 0 (.loop (.seq (.ops [⟨some 9, .bin .lss (.t 8) (.t 7), none⟩])
   (.seq (.ite (.t 9) .skip
   (.exit 0))
   (.seq (.blk 1 (.seq (.ops [⟨some 10, .mv (.t 8), none⟩, ⟨some 5, .mv (.t 10), none⟩])
    (.seq (.ops [⟨some 11, .mv (.t 1), none⟩, ⟨some 12, .mv (.t 0), none⟩, ⟨some 13, .mv (.t 5), none⟩, ⟨some 14, .iad 1 (.t 12) (.t 13), none⟩, ⟨some 15, .load 1 false (.t 14), none⟩, ⟨some 16, .bin .eql (.t 11) (.t 15), none⟩])
    (.ite (.t 16) (.seq (.ops [⟨some 17, .mv (.t 5), none⟩, ⟨some 4, .mv (.t 17), none⟩])
     .ret)
    .skip))))
   (.ops [⟨some 18, .bin .add (.t 8) (.v (.int .i64 1)), none⟩, ⟨some 8, .mv (.t 18), none⟩])))))))
 (.seq (.ops [⟨some 4, .mv (.v (.int .i64 (-1))), none⟩])
 .ret)))
noncomputable def X.g_Index_int (p0 : (List Int)) (p1 : Int) : Option Int :=
  ((loop (fun (x12 : Int) => ((bif (decide (x12 < (p0.length : Int))) then ((at' zI p0 x12).bind fun v15 => (bif (p1 == v15) then some (Sum.inr (Sum.inr x12)) else some (Sum.inl (W (x12 + 1))))) else some (Sum.inr (Sum.inl ()))) : Option (Int ⊕ (Unit ⊕ Int)))) 0).bind fun y18 => (Sum.elim (fun (y20 : Unit) => some (-1)) (fun (y21 : Int) => some y21) y18))
theorem g_Index_int_ok (p0 : (List Int)) (p1 : Int) (r : Int) (H : X.g_Index_int p0 p1 = some r) : FnOk Tryz.prog gl 202 [.c (dat 1 eI zI p0), cI p1] (cI r) := by
  unfold X.g_Index_int at H
  refine fn_in (fn := Tryz.f202) (ir := g_Index_int_ir) (s1 := lit [(4, cI r)] []) Tryz.func202 (by kernel_rfl) (by kernel_rfl) (by kernel_rfl) (by kernel_rfl) (by kernel_rfl) ?_
  refine seq_ops [] [] [(0, .c (dat 1 eI zI p0)), (1, cI p1)] [] (fun t => t) (by kernel_rfl) ?_
  refine seq_in ?_
  refine seq_ops [] [] [(0, .c (dat 1 eI zI p0)), (1, cI p1), (7, cI (p0.length : Int)), (8, cI 0)] [] (fun t => lI p0 (t)) (by kernel_rfl) ?_
  refine ends_blk ?_
  obtain ⟨y18, h19, H⟩ := ofBind H
  refine loop_in (fun (x : Int) => lit [(0, .c (dat 1 eI zI p0)), (1, cI p1), (7, cI (p0.length : Int)), (8, cI x)] []) (orJ (fun (z : Unit) => At (.exit 0) (lit [] [])) (fun (z : Int) => At .ret (lit [(4, cI z)] []))) h19 ?_ ?_
  · clear H h19
    intro x12 y0 H
    refine seq_ops [] [] [(0, .c (dat 1 eI zI p0)), (1, cI p1), (7, cI (p0.length : Int)), (8, cI x12), (9, cB (decide (x12 < (p0.length : Int))))] [] (fun t => t) (by kernel_rfl) ?_
    refine seq_in ?_
    rcases ofCond H with ⟨c14, H⟩ | ⟨c14, H⟩
    · refine ite_t c14 (by kernel_rfl) ?_
      refine ends_skip ?_
      change EndsI _ _ _ _ _ _
      refine seq_in ?_
      refine ends_blk ?_
      refine seq_ops [] [] [(0, .c (dat 1 eI zI p0)), (1, cI p1), (5, cI x12), (7, cI (p0.length : Int)), (8, cI x12)] [] (fun t => t) (by kernel_rfl) ?_
      obtain ⟨v15, h16, H⟩ := ofBind H
      refine seq_ops [.cs (eI v15)] [] [(0, .c (dat 1 eI zI p0)), (1, cI p1), (5, cI x12), (7, cI (p0.length : Int)), (8, cI x12), (16, cB (p1 == v15))] [] (fun t => aI (at_lt h16) (aI (at_enc (enc := eI) h16) (t))) (by kernel_rfl) ?_
      rcases ofCond H with ⟨c17, H⟩ | ⟨c17, H⟩
      · refine ite_t c17 (by kernel_rfl) ?_
        refine seq_ops [] [] [(4, cI x12)] [] (fun t => t) (by kernel_rfl) ?_
        refine ends_ret ?_
        obtain rfl := Option.some.inj H
        exact And.intro (by simp) (And.intro rfl rfl)
      · refine ite_f c17 (by kernel_rfl) ?_
        refine ends_skip ?_
        change EndsI _ _ _ _ _ _
        refine one_ops [] [] [(0, .c (dat 1 eI zI p0)), (1, cI p1), (7, cI (p0.length : Int)), (8, cI (W (x12 + 1)))] [] (fun t => t) (by kernel_rfl) ?_
        obtain rfl := Option.some.inj H
        exact And.intro rfl rfl
    · refine ite_f c14 (by kernel_rfl) ?_
      refine tell [] [] [] (fun t => t) (by kernel_rfl) ?_
      refine ends_exit ?_
      obtain rfl := Option.some.inj H
      exact And.intro (by simp) (And.intro rfl rfl)
  · clear h19
    cases y18 with
    | inl y20 =>
      replace H := ofInl H
      intro e s q
      obtain ⟨rfl, rfl⟩ := q
      change EndsI _ _ _ _ _ _
      refine seq_ops [] [] [(4, cI (-1))] [] (fun t => t) (by kernel_rfl) ?_
      refine ends_ret ?_
      obtain rfl := Option.some.inj H
      exact And.intro (.inl rfl) rfl
    | inr y21 =>
      replace H := ofInr H
      intro e s q
      obtain ⟨rfl, rfl⟩ := q
      obtain rfl := Option.some.inj H
      exact And.intro (.inl rfl) rfl

def g_Contains_int_ir : S :=
 (.seq (.ops [⟨some 4, .mv (.v (.bool false)), none⟩])
 (.seq (.ops [⟨some 5, .mv (.t 0), none⟩, ⟨some 6, .mv (.t 1), none⟩, ⟨some 7, .call 202 [.t 5, .t 6], none⟩, ⟨some 8, .bin .geq (.t 7) (.v (.int .i64 0)), none⟩, ⟨some 4, .mv (.t 8), none⟩])
 .ret))
noncomputable def X.g_Contains_int (p0 : (List Int)) (p1 : Int) : Option Bool :=
  ((X.g_Index_int p0 p1).bind fun v1 => some (decide (v1 ≥ 0)))
theorem g_Contains_int_ok (p0 : (List Int)) (p1 : Int) (r : Bool) (H : X.g_Contains_int p0 p1 = some r) : FnOk Tryz.prog gl 142 [.c (dat 1 eI zI p0), cI p1] (cB r) := by
  unfold X.g_Contains_int at H
  refine fn_in (fn := Tryz.f142) (ir := g_Contains_int_ir) (s1 := lit [(4, cB r)] []) Tryz.func142 (by kernel_rfl) (by kernel_rfl) (by kernel_rfl) (by kernel_rfl) (by kernel_rfl) ?_
  refine seq_ops [] [] [(0, .c (dat 1 eI zI p0)), (1, cI p1)] [] (fun t => t) (by kernel_rfl) ?_
  obtain ⟨v1, h2, H⟩ := ofBind H
  refine seq_ops [.res (cI v1)] [] [(4, cB (decide (v1 ≥ 0)))] [] (fun t => aI (g_Index_int_ok p0 p1 v1 h2) (t)) (by kernel_rfl) ?_
  refine ends_ret ?_
  obtain rfl := Option.some.inj H
  exact And.intro (.inl rfl) rfl

def i_different_ir : S :=
 (.seq (.ops [⟨some 2, .mv (.v (.bool false)), none⟩])
 (.seq (.seq (.ops [⟨some 5, .mv (.t 0), none⟩, ⟨some 6, .len (.t 5), none⟩, ⟨some 7, .mv (.v (.int .i64 0)), none⟩])
 (.blk 0 (.loop (.seq (.ops [⟨some 8, .bin .lss (.t 7) (.t 6), none⟩])
   (.seq (.ite (.t 8) .skip
   (.exit 0))
   (.seq (.blk 1 (.seq (.ops [⟨some 9, .mv (.t 7), none⟩, ⟨some 10, .iad 1 (.t 5) (.t 7), none⟩, ⟨some 11, .load 1 false (.t 10), none⟩, ⟨some 3, .mv (.t 9), none⟩, ⟨some 4, .mv (.t 11), none⟩])
    (.seq (.ops [⟨some 12, .mv (.t 0), none⟩, ⟨some 13, .mv (.t 3), none⟩, ⟨some 14, .slc 1 (.t 12) none (some (.t 13)), none⟩, ⟨some 15, .mv (.t 4), none⟩, ⟨some 16, .call 142 [.t 14, .t 15], none⟩])
    (.ite (.t 16) (.seq (.ops [⟨some 2, .mv (.v (.bool false)), none⟩])
     .ret)
    .skip))))
   (.ops [⟨some 17, .bin .add (.t 7) (.v (.int .i64 1)), none⟩, ⟨some 7, .mv (.t 17), none⟩])))))))
 (.seq (.ops [⟨some 2, .mv (.v (.bool true)), none⟩])
 .ret)))
noncomputable def X.i_different (p0 : (List Int)) : Option Bool :=
  ((loop (fun (x18 : Int) => ((bif (decide (x18 < (p0.length : Int))) then ((at' zI p0 x18).bind fun v21 => (if 0 ≤ (0 : Int) ∧ (0 : Int) ≤ x18 ∧ x18 ≤ (p0.length : Int) then ((X.g_Contains_int ((p0.drop (0 : Int).toNat).take (x18.toNat - (0 : Int).toNat)) v21).bind fun v24 => (bif v24 then some (Sum.inr (Sum.inr false)) else some (Sum.inl (W (x18 + 1))))) else none)) else some (Sum.inr (Sum.inl ()))) : Option (Int ⊕ (Unit ⊕ Bool)))) 0).bind fun y27 => (Sum.elim (fun (y29 : Unit) => some true) (fun (y30 : Bool) => some y30) y27))
theorem i_different_ok (p0 : (List Int)) (r : Bool) (H : X.i_different p0 = some r) : FnOk Tryz.prog gl 179 [.c (dat 1 eI zI p0)] (cB r) := by
  unfold X.i_different at H
  refine fn_in (fn := Tryz.f179) (ir := i_different_ir) (s1 := lit [(2, cB r)] []) Tryz.func179 (by kernel_rfl) (by kernel_rfl) (by kernel_rfl) (by kernel_rfl) (by kernel_rfl) ?_
  refine seq_ops [] [] [(0, .c (dat 1 eI zI p0))] [] (fun t => t) (by kernel_rfl) ?_
  refine seq_in ?_
  refine seq_ops [] [] [(0, .c (dat 1 eI zI p0)), (5, .c (dat 1 eI zI p0)), (6, cI (p0.length : Int)), (7, cI 0)] [] (fun t => lI p0 (t)) (by kernel_rfl) ?_
  refine ends_blk ?_
  obtain ⟨y27, h28, H⟩ := ofBind H
  refine loop_in (fun (x : Int) => lit [(0, .c (dat 1 eI zI p0)), (5, .c (dat 1 eI zI p0)), (6, cI (p0.length : Int)), (7, cI x)] []) (orJ (fun (z : Unit) => At (.exit 0) (lit [] [])) (fun (z : Bool) => At .ret (lit [(2, cB z)] []))) h28 ?_ ?_
  · clear H h28
    intro x18 y0 H
    refine seq_ops [] [] [(0, .c (dat 1 eI zI p0)), (5, .c (dat 1 eI zI p0)), (6, cI (p0.length : Int)), (7, cI x18), (8, cB (decide (x18 < (p0.length : Int))))] [] (fun t => t) (by kernel_rfl) ?_
    refine seq_in ?_
    rcases ofCond H with ⟨c20, H⟩ | ⟨c20, H⟩
    · refine ite_t c20 (by kernel_rfl) ?_
      refine ends_skip ?_
      change EndsI _ _ _ _ _ _
      refine seq_in ?_
      refine ends_blk ?_
      obtain ⟨v21, h22, H⟩ := ofBind H
      refine seq_ops [.cs (eI v21)] [] [(0, .c (dat 1 eI zI p0)), (3, cI x18), (4, cI v21), (5, .c (dat 1 eI zI p0)), (6, cI (p0.length : Int)), (7, cI x18)] [] (fun t => aI (at_lt h22) (aI (at_enc (enc := eI) h22) (t))) (by kernel_rfl) ?_
      obtain ⟨g23, H⟩ := ofIf H
      obtain ⟨v24, h25, H⟩ := ofBind H
      refine seq_ops [.fn ((p0.drop (0 : Int).toNat).take (x18.toNat - (0 : Int).toNat)).length (fF eI zI ((p0.drop (0 : Int).toNat).take (x18.toNat - (0 : Int).toNat))), .res (cB v24)] [] [(0, .c (dat 1 eI zI p0)), (5, .c (dat 1 eI zI p0)), (6, cI (p0.length : Int)), (7, cI x18), (16, cB v24)] [] (fun t => aI g23 (aI (len_drop p0 (0 : Int) x18 g23) (aI (fF_drop eI zI p0 (0 : Int) x18 g23) (aI (g_Contains_int_ok ((p0.drop (0 : Int).toNat).take (x18.toNat - (0 : Int).toNat)) v21 v24 h25) (t))))) (by kernel_rfl) ?_
      rcases ofCond H with ⟨c26, H⟩ | ⟨c26, H⟩
      · refine ite_t c26 (by kernel_rfl) ?_
        refine seq_ops [] [] [(2, cB false)] [] (fun t => t) (by kernel_rfl) ?_
        refine ends_ret ?_
        obtain rfl := Option.some.inj H
        exact And.intro (by simp) (And.intro rfl rfl)
      · refine ite_f c26 (by kernel_rfl) ?_
        refine ends_skip ?_
        change EndsI _ _ _ _ _ _
        refine one_ops [] [] [(0, .c (dat 1 eI zI p0)), (5, .c (dat 1 eI zI p0)), (6, cI (p0.length : Int)), (7, cI (W (x18 + 1)))] [] (fun t => t) (by kernel_rfl) ?_
        obtain rfl := Option.some.inj H
        exact And.intro rfl rfl
    · refine ite_f c20 (by kernel_rfl) ?_
      refine tell [] [] [] (fun t => t) (by kernel_rfl) ?_
      refine ends_exit ?_
      obtain rfl := Option.some.inj H
      exact And.intro (by simp) (And.intro rfl rfl)
  · clear h28
    cases y27 with
    | inl y29 =>
      replace H := ofInl H
      intro e s q
      obtain ⟨rfl, rfl⟩ := q
      change EndsI _ _ _ _ _ _
      refine seq_ops [] [] [(2, cB true)] [] (fun t => t) (by kernel_rfl) ?_
      refine ends_ret ?_
      obtain rfl := Option.some.inj H
      exact And.intro (.inl rfl) rfl
    | inr y30 =>
      replace H := ofInr H
      intro e s q
      obtain ⟨rfl, rfl⟩ := q
      obtain rfl := Option.some.inj H
      exact And.intro (.inl rfl) rfl

def i_goodMachine_1_ir : S :=
 (.seq (.ops [⟨some 3, .mv (.v (.bool false)), none⟩])
 (.seq (.ops [⟨some 4, .mv (.t 0), none⟩, ⟨some 5, .load 1 false (.t 1), none⟩, ⟨some 6, .len (.t 5), none⟩, ⟨some 7, .call 90 [.t 4, .t 6], none⟩, ⟨some 8, .not (.t 7), none⟩, ⟨some 3, .mv (.t 8), none⟩])
 .ret))
noncomputable def X.i_goodMachine_1 (p0 : Int) (p1 : (List TReaction)) : Option Bool :=
  ((X.i_isIndex p0 (p1.length : Int)).bind fun v1 => some (!v1))
theorem i_goodMachine_1_ok (p0 : Int) (p1 : (List TReaction)) (r : Bool) (H : X.i_goodMachine_1 p0 p1 = some r) : FnOk Tryz.prog gl 180 [cI p0, .c (.pd (eLTReaction p1) 0)] (cB r) := by
  unfold X.i_goodMachine_1 at H
  refine fn_in (fn := Tryz.f180) (ir := i_goodMachine_1_ir) (s1 := lit [(3, cB r)] []) Tryz.func180 (by kernel_rfl) (by kernel_rfl) (by kernel_rfl) (by kernel_rfl) (by kernel_rfl) ?_
  refine seq_ops [] [] [(0, cI p0), (1, .c (.pd (eLTReaction p1) 0))] [] (fun t => t) (by kernel_rfl) ?_
  obtain ⟨v1, h2, H⟩ := ofBind H
  refine seq_ops [.res (cB v1)] [] [(3, cB (!v1))] [] (fun t => lI p1 (aI (i_isIndex_ok p0 (p1.length : Int) v1 h2) (t))) (by kernel_rfl) ?_
  refine ends_ret ?_
  obtain rfl := Option.some.inj H
  exact And.intro (.inl rfl) rfl

def i_goodMachine_2_ir : S :=
 (.seq (.ops [⟨some 3, .mv (.v (.bool false)), none⟩])
 (.seq (.ops [⟨some 4, .mv (.t 0), none⟩, ⟨some 5, .load 1 false (.t 1), none⟩, ⟨some 6, .len (.t 5), none⟩, ⟨some 7, .bin .sub (.t 6) (.v (.int .i64 1)), none⟩, ⟨some 8, .call 71 [.t 4, .v (.int .i64 (-1)), .t 7], none⟩, ⟨some 9, .not (.t 8), none⟩, ⟨some 3, .mv (.t 9), none⟩])
 .ret))
noncomputable def X.i_goodMachine_2 (p0 : Int) (p1 : (List TReaction)) : Option Bool :=
  ((X.i_inRange p0 (-1) (W ((p1.length : Int) - 1))).bind fun v1 => some (!v1))
theorem i_goodMachine_2_ok (p0 : Int) (p1 : (List TReaction)) (r : Bool) (H : X.i_goodMachine_2 p0 p1 = some r) : FnOk Tryz.prog gl 181 [cI p0, .c (.pd (eLTReaction p1) 0)] (cB r) := by
  unfold X.i_goodMachine_2 at H
  refine fn_in (fn := Tryz.f181) (ir := i_goodMachine_2_ir) (s1 := lit [(3, cB r)] []) Tryz.func181 (by kernel_rfl) (by kernel_rfl) (by kernel_rfl) (by kernel_rfl) (by kernel_rfl) ?_
  refine seq_ops [] [] [(0, cI p0), (1, .c (.pd (eLTReaction p1) 0))] [] (fun t => t) (by kernel_rfl) ?_
  obtain ⟨v1, h2, H⟩ := ofBind H
  refine seq_ops [.res (cB v1)] [] [(3, cB (!v1))] [] (fun t => lI p1 (aI (i_inRange_ok p0 (-1) (W ((p1.length : Int) - 1)) v1 h2) (t))) (by kernel_rfl) ?_
  refine ends_ret ?_
  obtain rfl := Option.some.inj H
  exact And.intro (.inl rfl) rfl

def i_goodStack_ir : S :=
 (.seq (.ops [⟨some 2, .box 12 (.t 0), none⟩, ⟨some 3, .box 6 (.t 1), none⟩, ⟨some 4, .mv (.v (.bool false)), none⟩])
 (.seq (.ops [⟨some 8, .bsl 1 [], none⟩, ⟨some 5, .mv (.t 8), none⟩])
 (.seq (.seq (.ops [⟨some 9, .fad 0 (.t 3), none⟩, ⟨some 10, .load 1 false (.t 9), none⟩, ⟨some 11, .len (.t 10), none⟩, ⟨some 12, .mv (.v (.int .i64 0)), none⟩])
 (.blk 0 (.loop (.seq (.ops [⟨some 13, .bin .lss (.t 12) (.t 11), none⟩])
   (.seq (.ite (.t 13) .skip
   (.exit 0))
   (.seq (.blk 1 (.seq (.ops [⟨some 14, .mv (.t 12), none⟩, ⟨some 15, .iad 3 (.t 10) (.t 12), none⟩, ⟨some 16, .load 3 true (.t 15), none⟩, ⟨some 7, .alloc [.int .i64 0, .int .i64 0, .int .i64 0], none⟩, ⟨some 6, .mv (.t 14), none⟩, ⟨none, .store 3 (.t 7) (.t 16), none⟩])
    (.seq (.seq (.draw 16 [⟨some 17, .fad 0 (.t 7), none⟩, ⟨some 18, .load 1 false (.t 17), none⟩, ⟨some 19, .fad 2 (.t 3), none⟩, ⟨some 20, .fad 2 (.t 19), none⟩, ⟨some 21, .load 1 false (.t 20), none⟩, ⟨some 22, .len (.t 21), none⟩, ⟨some 23, .call 90 [.t 18, .t 22], none⟩, ⟨some 24, .not (.t 23), none⟩, ⟨some 25, .mv (.t 24), none⟩, ⟨some 26, .fad 1 (.t 7), some (25, false)⟩, ⟨some 27, .load 1 false (.t 26), some (25, false)⟩, ⟨some 28, .load 12 true (.t 2), some (25, false)⟩, ⟨some 29, .call 91 [.t 28], some (25, false)⟩, ⟨some 30, .call 90 [.t 27, .t 29], some (25, false)⟩, ⟨some 31, .not (.t 30), some (25, false)⟩, ⟨some 32, .pick (.t 25) (.v (.bool true)) (.t 31), none⟩])
    (.ite (.t 32) (.seq (.ops [⟨some 4, .mv (.v (.bool false)), none⟩])
     .ret)
    .skip))
    (.seq (.seq (.ops [⟨some 33, .mv (.t 6), none⟩, ⟨some 34, .bin .eql (.t 33) (.v (.int .i64 0)), none⟩])
    (.ite (.t 34) (.seq (.seq (.ops [⟨some 35, .fad 2 (.t 7), none⟩, ⟨some 36, .load 1 false (.t 35), none⟩, ⟨some 37, .bin .neq (.t 36) (.v (.int .i64 (-1))), none⟩])
     (.ite (.t 37) (.seq (.ops [⟨some 4, .mv (.v (.bool false)), none⟩])
      .ret)
     .skip))
     (.exit 1))
    .skip))
    (.seq (.seq (.ops [⟨some 38, .fad 1 (.t 3), none⟩, ⟨some 39, .load 1 false (.t 38), none⟩, ⟨some 40, .fad 2 (.t 7), none⟩, ⟨some 41, .load 1 false (.t 40), none⟩, ⟨some 42, .call 142 [.t 39, .t 41], none⟩, ⟨some 43, .not (.t 42), none⟩])
    (.ite (.t 43) (.seq (.ops [⟨some 4, .mv (.v (.bool false)), none⟩])
     .ret)
    .skip))
    (.ops [⟨some 44, .mv (.t 5), none⟩, ⟨some 45, .fad 2 (.t 7), none⟩, ⟨some 46, .load 1 false (.t 45), none⟩, ⟨some 47, .bsl 1 [.t 46], none⟩, ⟨some 48, .app 1 8 (.t 44) (.t 47), none⟩, ⟨some 5, .mv (.t 48), none⟩]))))))
   (.ops [⟨some 49, .bin .add (.t 12) (.v (.int .i64 1)), none⟩, ⟨some 12, .mv (.t 49), none⟩])))))))
 (.seq (.ops [⟨some 50, .mv (.t 5), none⟩, ⟨some 51, .call 179 [.t 50], none⟩, ⟨some 4, .mv (.t 51), none⟩])
 .ret))))
noncomputable def X.i_goodStack (p0 : TBoard) (p1 : TMachine) : Option Bool :=
  ((loop (fun (x58 : (Int × (List Int))) => ((bif (decide (x58.1 < (p1.Stack.length : Int))) then ((at' zTFrame p1.Stack x58.1).bind fun v61 => ((X.i_isIndex v61.Unit (p1.State.Units.length : Int)).bind fun v71 => (bif (!v71) then some (Sum.inr (Sum.inr false)) else ((X.i_sizeOf p0).bind fun v74 => ((X.i_isIndex v61.At v74).bind fun v76 => (bif (!v76) then some (Sum.inr (Sum.inr false)) else (bif (x58.1 == 0) then (bif (v61.By != (-1)) then some (Sum.inr (Sum.inr false)) else some (Sum.inl ((W (x58.1 + 1)), x58.2))) else ((X.g_Contains_int p1.Used v61.By).bind fun v83 => (bif (!v83) then some (Sum.inr (Sum.inr false)) else (if (x58.2 ++ ([v61.By] : List Int)).length ≤ LIM then some (Sum.inl ((W (x58.1 + 1)), (x58.2 ++ ([v61.By] : List Int)))) else none)))))))))) else some (Sum.inr (Sum.inl x58.2))) : Option ((Int × (List Int)) ⊕ ((List Int) ⊕ Bool)))) (0, ([] : List Int))).bind fun y87 => (Sum.elim (fun (y89 : (List Int)) => ((X.i_different y89).bind fun v91 => some v91)) (fun (y90 : Bool) => some y90) y87))
theorem i_goodStack_ok (p0 : TBoard) (p1 : TMachine) (r : Bool) (H : X.i_goodStack p0 p1 = some r) : FnOk Tryz.prog gl 182 [.agg (eTBoard p0), .agg (eTMachine p1)] (cB r) := by
  unfold X.i_goodStack at H
  refine fn_in (fn := Tryz.f182) (ir := i_goodStack_ir) (s1 := lit [(4, cB r)] []) Tryz.func182 (by kernel_rfl) (by kernel_rfl) (by kernel_rfl) (by kernel_rfl) (by kernel_rfl) ?_
  refine seq_ops [] [] [(2, .c (.pk 2 0)), (3, .c (.pk 3 0))] [(2, .var (eTBoard p0) false), (3, .var (eTMachine p1) false)] (fun t => t) (by kernel_rfl) ?_
  refine seq_ops [.fn ([] : List Int).length (fF eI zI ([] : List Int))] [] [(2, .c (.pk 2 0)), (3, .c (.pk 3 0)), (5, .c (.own 8 1 0 (([] : List Int).length)))] [(2, .var (eTBoard p0) false), (3, .var (eTMachine p1) false), (8, .arr 1 (([] : List Int).length) (fF eI zI ([] : List Int)) false)] (fun t => aI (rfl : ([] : List Int).length = 0) (aI (fF_lit eI zI ([] : List Int)) (t))) (by kernel_rfl) ?_
  refine seq_in ?_
  refine seq_ops [] [] [(2, .c (.pk 2 0)), (3, .c (.pk 3 0)), (5, .c (.own 8 1 0 (([] : List Int).length))), (10, .c (dat 3 eTFrame zTFrame p1.Stack)), (11, cI (p1.Stack.length : Int)), (12, cI 0)] [(2, .var (eTBoard p0) false), (3, .var (eTMachine p1) false), (8, .arr 1 (([] : List Int).length) (fF eI zI ([] : List Int)) false)] (fun t => lI p1.Stack (t)) (by kernel_rfl) ?_
  refine ends_blk ?_
  obtain ⟨y87, h88, H⟩ := ofBind H
  refine tell [.ren 8 1001] [(2, .c (.pk 2 0)), (3, .c (.pk 3 0)), (5, .c (.own 1001 1 0 (([] : List Int).length))), (10, .c (dat 3 eTFrame zTFrame p1.Stack)), (11, cI (p1.Stack.length : Int)), (12, cI 0)] [(2, .var (eTBoard p0) false), (3, .var (eTMachine p1) false), (1001, .arr 1 (([] : List Int).length) (fF eI zI ([] : List Int)) false)] (fun t => t) (by kernel_rfl) ?_
  refine loop_in (fun (x : (Int × (List Int))) => lit [(2, .c (.pk 2 0)), (3, .c (.pk 3 0)), (5, .c (.own 1001 1 0 x.2.length)), (10, .c (dat 3 eTFrame zTFrame p1.Stack)), (11, cI (p1.Stack.length : Int)), (12, cI x.1)] [(2, .var (eTBoard p0) false), (3, .var (eTMachine p1) false), (1001, .arr 1 x.2.length (fF eI zI x.2) false)]) (orJ (fun (z : (List Int)) => At (.exit 0) (lit [(5, .c (.own 1001 1 0 z.length))] [(1001, .arr 1 z.length (fF eI zI z) false)])) (fun (z : Bool) => At .ret (lit [(4, cB z)] []))) h88 ?_ ?_
  · clear H h88
    intro x58 y0 H
    refine seq_ops [] [] [(2, .c (.pk 2 0)), (3, .c (.pk 3 0)), (5, .c (.own 1001 1 0 x58.2.length)), (10, .c (dat 3 eTFrame zTFrame p1.Stack)), (11, cI (p1.Stack.length : Int)), (12, cI x58.1), (13, cB (decide (x58.1 < (p1.Stack.length : Int))))] [(2, .var (eTBoard p0) false), (3, .var (eTMachine p1) false), (1001, .arr 1 x58.2.length (fF eI zI x58.2) false)] (fun t => t) (by kernel_rfl) ?_
    refine seq_in ?_
    rcases ofCond H with ⟨c60, H⟩ | ⟨c60, H⟩
    · refine ite_t c60 (by kernel_rfl) ?_
      refine ends_skip ?_
      change EndsI _ _ _ _ _ _
      refine seq_in ?_
      refine ends_blk ?_
      obtain ⟨v61, h62, H⟩ := ofBind H
      refine seq_ops [.cs (eTFrame v61)] [] [(2, .c (.pk 2 0)), (3, .c (.pk 3 0)), (5, .c (.own 1001 1 0 x58.2.length)), (6, cI x58.1), (7, .c (.pk 7 0)), (10, .c (dat 3 eTFrame zTFrame p1.Stack)), (11, cI (p1.Stack.length : Int)), (12, cI x58.1)] [(2, .var (eTBoard p0) false), (3, .var (eTMachine p1) false), (7, .var (eTFrame v61) false), (1001, .arr 1 x58.2.length (fF eI zI x58.2) false)] (fun t => aI (at_lt h62) (aI (at_enc (enc := eTFrame) h62) (t))) (by kernel_rfl) ?_
      refine seq_in ?_
      obtain ⟨v71, h72, H⟩ := ofBind H
      rcases ofCond H with ⟨c73, H⟩ | ⟨c73, H⟩
      · refine seq_draw [.res (cB v71), .g true, .g true, .g true, .g true, .g true, .g true, .g true] [] [(2, .c (.pk 2 0)), (3, .c (.pk 3 0)), (5, .c (.own 1001 1 0 x58.2.length)), (6, cI x58.1), (7, .c (.pk 7 0)), (10, .c (dat 3 eTFrame zTFrame p1.Stack)), (11, cI (p1.Stack.length : Int)), (12, cI x58.1), (32, cB true)] [(2, .var (eTBoard p0) false), (3, .var (eTMachine p1) false), (7, .var (eTFrame v61) false), (1001, .arr 1 x58.2.length (fF eI zI x58.2) false)] (fun t => aI (i_isIndex_ok v61.Unit (p1.State.Units.length : Int) v71 h72) (aI trivial (aI (rfl : ([] : List Nat) = []) (aI c73 (aI c73 (aI c73 (aI c73 (aI c73 (aI c73 (aI c73 (t))))))))))) (by kernel_rfl) ?_
        refine ite_t (rfl : (true : Bool) = true) (by kernel_rfl) ?_
        refine seq_ops [] [] [(4, cB false)] [] (fun t => t) (by kernel_rfl) ?_
        refine ends_ret ?_
        obtain rfl := Option.some.inj H
        exact And.intro (by simp) (And.intro rfl rfl)
      · obtain ⟨v74, h75, H⟩ := ofBind H
        obtain ⟨v76, h77, H⟩ := ofBind H
        refine seq_draw [.res (cB v71), .g false, .g false, .g false, .g false, .res (cI v74), .g false, .res (cB v76), .g false, .g false] [] [(2, .c (.pk 2 0)), (3, .c (.pk 3 0)), (5, .c (.own 1001 1 0 x58.2.length)), (6, cI x58.1), (7, .c (.pk 7 0)), (10, .c (dat 3 eTFrame zTFrame p1.Stack)), (11, cI (p1.Stack.length : Int)), (12, cI x58.1), (32, cB (!v76))] [(2, .var (eTBoard p0) false), (3, .var (eTMachine p1) false), (7, .var (eTFrame v61) false), (1001, .arr 1 x58.2.length (fF eI zI x58.2) false)] (fun t => aI (i_isIndex_ok v61.Unit (p1.State.Units.length : Int) v71 h72) (aI trivial (aI (rfl : ([] : List Nat) = []) (aI c73 (aI c73 (aI c73 (aI c73 (aI (i_sizeOf_ok p0 v74 h75) (aI trivial (aI (rfl : ([] : List Nat) = []) (aI c73 (aI (i_isIndex_ok v61.At v74 v76 h77) (aI trivial (aI (rfl : ([] : List Nat) = []) (aI c73 (aI c73 (t))))))))))))))))) (by kernel_rfl) ?_
        rcases ofCond H with ⟨c78, H⟩ | ⟨c78, H⟩
        · refine ite_t c78 (by kernel_rfl) ?_
          refine seq_ops [] [] [(4, cB false)] [] (fun t => t) (by kernel_rfl) ?_
          refine ends_ret ?_
          obtain rfl := Option.some.inj H
          exact And.intro (by simp) (And.intro rfl rfl)
        · refine ite_f c78 (by kernel_rfl) ?_
          refine ends_skip ?_
          change EndsI _ _ _ _ _ _
          refine seq_in ?_
          refine seq_ops [] [] [(2, .c (.pk 2 0)), (3, .c (.pk 3 0)), (5, .c (.own 1001 1 0 x58.2.length)), (7, .c (.pk 7 0)), (10, .c (dat 3 eTFrame zTFrame p1.Stack)), (11, cI (p1.Stack.length : Int)), (12, cI x58.1), (34, cB (x58.1 == 0))] [(2, .var (eTBoard p0) false), (3, .var (eTMachine p1) false), (7, .var (eTFrame v61) false), (1001, .arr 1 x58.2.length (fF eI zI x58.2) false)] (fun t => t) (by kernel_rfl) ?_
          rcases ofCond H with ⟨c81, H⟩ | ⟨c81, H⟩
          · refine ite_t c81 (by kernel_rfl) ?_
            refine seq_in ?_
            refine seq_ops [] [] [(2, .c (.pk 2 0)), (3, .c (.pk 3 0)), (5, .c (.own 1001 1 0 x58.2.length)), (10, .c (dat 3 eTFrame zTFrame p1.Stack)), (11, cI (p1.Stack.length : Int)), (12, cI x58.1), (37, cB (v61.By != (-1)))] [(2, .var (eTBoard p0) false), (3, .var (eTMachine p1) false), (1001, .arr 1 x58.2.length (fF eI zI x58.2) false)] (fun t => t) (by kernel_rfl) ?_
            rcases ofCond H with ⟨c82, H⟩ | ⟨c82, H⟩
            · refine ite_t c82 (by kernel_rfl) ?_
              refine seq_ops [] [] [(4, cB false)] [] (fun t => t) (by kernel_rfl) ?_
              refine ends_ret ?_
              obtain rfl := Option.some.inj H
              exact And.intro (by simp) (And.intro rfl rfl)
            · refine ite_f c82 (by kernel_rfl) ?_
              refine ends_skip ?_
              change EndsI _ _ _ _ _ _
              refine ends_exit ?_
              change EndsI _ _ _ _ _ _
              refine one_ops [] [] [(2, .c (.pk 2 0)), (3, .c (.pk 3 0)), (5, .c (.own 1001 1 0 x58.2.length)), (10, .c (dat 3 eTFrame zTFrame p1.Stack)), (11, cI (p1.Stack.length : Int)), (12, cI (W (x58.1 + 1)))] [(2, .var (eTBoard p0) false), (3, .var (eTMachine p1) false), (1001, .arr 1 x58.2.length (fF eI zI x58.2) false)] (fun t => t) (by kernel_rfl) ?_
              obtain rfl := Option.some.inj H
              exact And.intro rfl rfl
          · refine ite_f c81 (by kernel_rfl) ?_
            refine ends_skip ?_
            change EndsI _ _ _ _ _ _
            refine seq_in ?_
            obtain ⟨v83, h84, H⟩ := ofBind H
            refine seq_ops [.res (cB v83)] [] [(2, .c (.pk 2 0)), (3, .c (.pk 3 0)), (5, .c (.own 1001 1 0 x58.2.length)), (7, .c (.pk 7 0)), (10, .c (dat 3 eTFrame zTFrame p1.Stack)), (11, cI (p1.Stack.length : Int)), (12, cI x58.1), (43, cB (!v83))] [(2, .var (eTBoard p0) false), (3, .var (eTMachine p1) false), (7, .var (eTFrame v61) false), (1001, .arr 1 x58.2.length (fF eI zI x58.2) false)] (fun t => aI (g_Contains_int_ok p1.Used v61.By v83 h84) (t)) (by kernel_rfl) ?_
            rcases ofCond H with ⟨c85, H⟩ | ⟨c85, H⟩
            · refine ite_t c85 (by kernel_rfl) ?_
              refine seq_ops [] [] [(4, cB false)] [] (fun t => t) (by kernel_rfl) ?_
              refine ends_ret ?_
              obtain rfl := Option.some.inj H
              exact And.intro (by simp) (And.intro rfl rfl)
            · refine ite_f c85 (by kernel_rfl) ?_
              refine ends_skip ?_
              change EndsI _ _ _ _ _ _
              obtain ⟨g86, H⟩ := ofIf H
              refine one_ops [.fn ([v61.By] : List Int).length (fF eI zI ([v61.By] : List Int)), .fn (x58.2 ++ ([v61.By] : List Int)).length (fF eI zI (x58.2 ++ ([v61.By] : List Int)))] [] [(2, .c (.pk 2 0)), (3, .c (.pk 3 0)), (5, .c (.own 48 1 0 ((x58.2 ++ ([v61.By] : List Int)).length))), (10, .c (dat 3 eTFrame zTFrame p1.Stack)), (11, cI (p1.Stack.length : Int)), (12, cI x58.1)] [(2, .var (eTBoard p0) false), (3, .var (eTMachine p1) false), (48, .arr 1 ((x58.2 ++ ([v61.By] : List Int)).length) (fF eI zI (x58.2 ++ ([v61.By] : List Int))) false)] (fun t => aI (rfl : ([v61.By] : List Int).length = 1) (aI (fF_lit eI zI ([v61.By] : List Int)) (aI (And.intro (Nat.le_refl x58.2.length) (And.intro (@List.length_append _ x58.2 ([v61.By] : List Int)) g86)) (aI (fF_appL eI zI x58.2 ([v61.By] : List Int)) (aI (fF_appR eI zI x58.2 ([v61.By] : List Int)) (t)))))) (by kernel_rfl) ?_
              change EndsI _ _ _ _ _ _
              refine one_ops [] [.ren 48 1001] [(2, .c (.pk 2 0)), (3, .c (.pk 3 0)), (5, .c (.own 1001 1 0 ((x58.2 ++ ([v61.By] : List Int)).length))), (10, .c (dat 3 eTFrame zTFrame p1.Stack)), (11, cI (p1.Stack.length : Int)), (12, cI (W (x58.1 + 1)))] [(2, .var (eTBoard p0) false), (3, .var (eTMachine p1) false), (1001, .arr 1 ((x58.2 ++ ([v61.By] : List Int)).length) (fF eI zI (x58.2 ++ ([v61.By] : List Int))) false)] (fun t => t) (by kernel_rfl) ?_
              obtain rfl := Option.some.inj H
              exact And.intro rfl rfl
    · refine ite_f c60 (by kernel_rfl) ?_
      refine tell [] [(5, .c (.own 1001 1 0 x58.2.length))] [(1001, .arr 1 x58.2.length (fF eI zI x58.2) false)] (fun t => t) (by kernel_rfl) ?_
      refine ends_exit ?_
      obtain rfl := Option.some.inj H
      exact And.intro (by simp) (And.intro rfl rfl)
  · clear h88
    cases y87 with
    | inl y89 =>
      replace H := ofInl H
      intro e s q
      obtain ⟨rfl, rfl⟩ := q
      change EndsI _ _ _ _ _ _
      obtain ⟨v91, h92, H⟩ := ofBind H
      refine seq_ops [.res (cB v91)] [] [(4, cB v91)] [] (fun t => aI (Nat.le_refl y89.length) (aI (i_different_ok y89 v91 h92) (t))) (by kernel_rfl) ?_
      refine ends_ret ?_
      obtain rfl := Option.some.inj H
      exact And.intro (.inl rfl) rfl
    | inr y90 =>
      replace H := ofInr H
      intro e s q
      obtain ⟨rfl, rfl⟩ := q
      obtain rfl := Option.some.inj H
      exact And.intro (.inl rfl) rfl

def i_goodMachine_ir : S :=
 (.seq (.ops [⟨some 3, .box 12 (.t 0), none⟩, ⟨some 4, .box 1 (.t 1), none⟩, ⟨some 5, .box 6 (.t 2), none⟩, ⟨some 6, .mv (.v (.bool false)), none⟩])
 (.seq (.seq (.ops [⟨some 7, .load 12 true (.t 3), none⟩, ⟨some 8, .fad 2 (.t 5), none⟩, ⟨some 9, .load 3 true (.t 8), none⟩, ⟨some 10, .call 177 [.t 7, .t 9], none⟩, ⟨some 11, .not (.t 10), none⟩, ⟨some 12, .mv (.t 11), none⟩, ⟨some 13, .load 12 true (.t 3), some (12, false)⟩, ⟨some 14, .fad 2 (.t 5), some (12, false)⟩, ⟨some 15, .load 3 true (.t 14), some (12, false)⟩, ⟨some 16, .load 1 false (.t 4), some (12, false)⟩, ⟨some 17, .call 178 [.t 13, .t 15, .t 16], some (12, false)⟩, ⟨some 18, .not (.t 17), some (12, false)⟩, ⟨some 19, .pick (.t 12) (.v (.bool true)) (.t 18), none⟩, ⟨some 20, .mv (.t 19), none⟩, ⟨some 21, .fad 1 (.t 5), some (20, false)⟩, ⟨some 22, .load 1 false (.t 21), some (20, false)⟩, ⟨some 23, .call 179 [.t 22], some (20, false)⟩, ⟨some 24, .not (.t 23), some (20, false)⟩, ⟨some 25, .pick (.t 20) (.v (.bool true)) (.t 24), none⟩])
 (.ite (.t 25) (.seq (.ops [⟨some 6, .mv (.v (.bool false)), none⟩])
  .ret)
 .skip))
 (.seq (.seq (.ops [⟨some 26, .fad 1 (.t 5), none⟩, ⟨some 27, .load 1 false (.t 26), none⟩, ⟨some 28, .clo 180 [.t 4], none⟩, ⟨some 29, .call 175 [.t 27, .t 28], none⟩, ⟨some 30, .mv (.t 29), none⟩, ⟨some 31, .fad 5 (.t 5), some (30, false)⟩, ⟨some 32, .load 1 false (.t 31), some (30, false)⟩, ⟨some 33, .clo 181 [.t 4], some (30, false)⟩, ⟨some 34, .call 175 [.t 32, .t 33], some (30, false)⟩, ⟨some 35, .pick (.t 30) (.v (.bool true)) (.t 34), none⟩])
 (.ite (.t 35) (.seq (.ops [⟨some 6, .mv (.v (.bool false)), none⟩])
  .ret)
 .skip))
 (.seq (.ops [⟨some 36, .load 12 true (.t 3), none⟩, ⟨some 37, .load 6 true (.t 5), none⟩, ⟨some 38, .call 182 [.t 36, .t 37], none⟩, ⟨some 39, .mv (.t 38), none⟩, ⟨some 40, .fad 0 (.t 5), some (39, true)⟩, ⟨some 41, .load 1 false (.t 40), some (39, true)⟩, ⟨some 42, .len (.t 41), some (39, true)⟩, ⟨some 43, .fad 5 (.t 5), some (39, true)⟩, ⟨some 44, .load 1 false (.t 43), some (39, true)⟩, ⟨some 45, .len (.t 44), some (39, true)⟩, ⟨some 46, .bin .add (.t 42) (.t 45), some (39, true)⟩, ⟨some 47, .fad 1 (.t 5), some (39, true)⟩, ⟨some 48, .load 1 false (.t 47), some (39, true)⟩, ⟨some 49, .len (.t 48), some (39, true)⟩, ⟨some 50, .bin .add (.t 49) (.v (.int .i64 1)), some (39, true)⟩, ⟨some 51, .bin .leq (.t 46) (.t 50), some (39, true)⟩, ⟨some 52, .pick (.t 39) (.t 51) (.v (.bool false)), none⟩, ⟨some 6, .mv (.t 52), none⟩])
 .ret))))
noncomputable def X.i_goodMachine (p0 : TBoard) (p1 : (List TReaction)) (p2 : TMachine) : Option Bool :=
  ((X.i_goodState p0 p2.State).bind fun v10 => (bif (!v10) then some false else ((X.i_goodReactions p0 p2.State p1).bind fun v13 => (bif (!v13) then some false else ((X.i_different p2.Used).bind fun v16 => (bif (!v16) then some false else ((X.g_ContainsFunc_int p2.Used (fun q0 => X.i_goodMachine_1 q0 p1)).bind fun v25 => (bif v25 then some false else ((X.g_ContainsFunc_int p2.Log (fun q0 => X.i_goodMachine_2 q0 p1)).bind fun v28 => (bif v28 then some false else ((X.i_goodStack p0 p2).bind fun v31 => (bif v31 then some (decide ((W ((p2.Stack.length : Int) + (p2.Log.length : Int))) ≤ (W ((p2.Used.length : Int) + 1)))) else some false))))))))))))
theorem i_goodMachine_ok (p0 : TBoard) (p1 : (List TReaction)) (p2 : TMachine) (r : Bool) (H : X.i_goodMachine p0 p1 p2 = some r) : FnOk Tryz.prog gl 111 [.agg (eTBoard p0), .c (dat 3 eTReaction zTReaction p1), .agg (eTMachine p2)] (cB r) := by
  unfold X.i_goodMachine at H
  refine fn_in (fn := Tryz.f111) (ir := i_goodMachine_ir) (s1 := lit [(6, cB r)] []) Tryz.func111 (by kernel_rfl) (by kernel_rfl) (by kernel_rfl) (by kernel_rfl) (by kernel_rfl) ?_
  refine seq_ops [] [] [(3, .c (.pk 3 0)), (4, .c (.pk 4 0)), (5, .c (.pk 5 0))] [(3, .var (eTBoard p0) false), (4, .var [dat 3 eTReaction zTReaction p1] false), (5, .var (eTMachine p2) false)] (fun t => t) (by kernel_rfl) ?_
  refine seq_in ?_
  obtain ⟨v10, h11, H⟩ := ofBind H
  rcases ofCond H with ⟨c12, H⟩ | ⟨c12, H⟩
  · refine seq_ops [.res (cB v10), .g true, .g true, .g true, .g true, .g true, .g true, .g true, .g true, .g true, .g true, .g true, .g true] [] [(3, .c (.pk 3 0)), (4, .c (.pk 4 0)), (5, .c (.pk 5 0)), (25, cB true)] [(3, .var (eTBoard p0) false), (4, .var [dat 3 eTReaction zTReaction p1] false), (5, .var (eTMachine p2) false)] (fun t => aI (i_goodState_ok p0 p2.State v10 h11) (aI c12 (aI c12 (aI c12 (aI c12 (aI c12 (aI c12 (aI c12 (aI (rfl : (true : Bool) = true) (aI (rfl : (true : Bool) = true) (aI (rfl : (true : Bool) = true) (aI (rfl : (true : Bool) = true) (aI (rfl : (true : Bool) = true) (t)))))))))))))) (by kernel_rfl) ?_
    refine ite_t (rfl : (true : Bool) = true) (by kernel_rfl) ?_
    refine seq_ops [] [] [(6, cB false)] [] (fun t => t) (by kernel_rfl) ?_
    refine ends_ret ?_
    obtain rfl := Option.some.inj H
    exact And.intro (.inl rfl) rfl
  · obtain ⟨v13, h14, H⟩ := ofBind H
    rcases ofCond H with ⟨c15, H⟩ | ⟨c15, H⟩
    · refine seq_ops [.res (cB v10), .g false, .g false, .g false, .g false, .g false, .res (cB v13), .g false, .g false, .g true, .g true, .g true, .g true, .g true] [] [(3, .c (.pk 3 0)), (4, .c (.pk 4 0)), (5, .c (.pk 5 0)), (25, cB true)] [(3, .var (eTBoard p0) false), (4, .var [dat 3 eTReaction zTReaction p1] false), (5, .var (eTMachine p2) false)] (fun t => aI (i_goodState_ok p0 p2.State v10 h11) (aI c12 (aI c12 (aI c12 (aI c12 (aI c12 (aI (i_goodReactions_ok p0 p2.State p1 v13 h14) (aI c12 (aI c12 (aI c15 (aI c15 (aI c15 (aI c15 (aI c15 (t))))))))))))))) (by kernel_rfl) ?_
      refine ite_t (rfl : (true : Bool) = true) (by kernel_rfl) ?_
      refine seq_ops [] [] [(6, cB false)] [] (fun t => t) (by kernel_rfl) ?_
      refine ends_ret ?_
      obtain rfl := Option.some.inj H
      exact And.intro (.inl rfl) rfl
    · obtain ⟨v16, h17, H⟩ := ofBind H
      refine seq_ops [.res (cB v10), .g false, .g false, .g false, .g false, .g false, .res (cB v13), .g false, .g false, .g false, .g false, .g false, .res (cB v16), .g false, .g false] [] [(3, .c (.pk 3 0)), (4, .c (.pk 4 0)), (5, .c (.pk 5 0)), (25, cB (!v16))] [(3, .var (eTBoard p0) false), (4, .var [dat 3 eTReaction zTReaction p1] false), (5, .var (eTMachine p2) false)] (fun t => aI (i_goodState_ok p0 p2.State v10 h11) (aI c12 (aI c12 (aI c12 (aI c12 (aI c12 (aI (i_goodReactions_ok p0 p2.State p1 v13 h14) (aI c12 (aI c12 (aI c15 (aI c15 (aI c15 (aI (i_different_ok p2.Used v16 h17) (aI c15 (aI c15 (t)))))))))))))))) (by kernel_rfl) ?_
      rcases ofCond H with ⟨c18, H⟩ | ⟨c18, H⟩
      · refine ite_t c18 (by kernel_rfl) ?_
        refine seq_ops [] [] [(6, cB false)] [] (fun t => t) (by kernel_rfl) ?_
        refine ends_ret ?_
        obtain rfl := Option.some.inj H
        exact And.intro (.inl rfl) rfl
      · refine ite_f c18 (by kernel_rfl) ?_
        refine ends_skip ?_
        change EndsI _ _ _ _ _ _
        refine seq_in ?_
        obtain ⟨v25, h26, H⟩ := ofBind H
        rcases ofCond H with ⟨c27, H⟩ | ⟨c27, H⟩
        · refine seq_ops [.res (cB v25), .g true, .g true, .g true, .g true, .g true] [] [(3, .c (.pk 3 0)), (5, .c (.pk 5 0)), (35, cB true)] [(3, .var (eTBoard p0) false), (5, .var (eTMachine p2) false)] (fun t => aI (g_ContainsFunc_int_c1_ok p2.Used (180) (eLTReaction p1) (fun q0 => X.i_goodMachine_1 q0 p1) (fun q0 r h => i_goodMachine_1_ok q0 p1 r h) v25 h26) (aI c27 (aI c27 (aI c27 (aI c27 (aI c27 (t))))))) (by kernel_rfl) ?_
          refine ite_t (rfl : (true : Bool) = true) (by kernel_rfl) ?_
          refine seq_ops [] [] [(6, cB false)] [] (fun t => t) (by kernel_rfl) ?_
          refine ends_ret ?_
          obtain rfl := Option.some.inj H
          exact And.intro (.inl rfl) rfl
        · obtain ⟨v28, h29, H⟩ := ofBind H
          refine seq_ops [.res (cB v25), .g false, .g false, .g false, .g false, .res (cB v28), .g false] [] [(3, .c (.pk 3 0)), (5, .c (.pk 5 0)), (35, cB v28)] [(3, .var (eTBoard p0) false), (5, .var (eTMachine p2) false)] (fun t => aI (g_ContainsFunc_int_c1_ok p2.Used (180) (eLTReaction p1) (fun q0 => X.i_goodMachine_1 q0 p1) (fun q0 r h => i_goodMachine_1_ok q0 p1 r h) v25 h26) (aI c27 (aI c27 (aI c27 (aI c27 (aI (g_ContainsFunc_int_c1_ok p2.Log (181) (eLTReaction p1) (fun q0 => X.i_goodMachine_2 q0 p1) (fun q0 r h => i_goodMachine_2_ok q0 p1 r h) v28 h29) (aI c27 (t)))))))) (by kernel_rfl) ?_
          rcases ofCond H with ⟨c30, H⟩ | ⟨c30, H⟩
          · refine ite_t c30 (by kernel_rfl) ?_
            refine seq_ops [] [] [(6, cB false)] [] (fun t => t) (by kernel_rfl) ?_
            refine ends_ret ?_
            obtain rfl := Option.some.inj H
            exact And.intro (.inl rfl) rfl
          · refine ite_f c30 (by kernel_rfl) ?_
            refine ends_skip ?_
            change EndsI _ _ _ _ _ _
            obtain ⟨v31, h32, H⟩ := ofBind H
            rcases ofCond H with ⟨c33, H⟩ | ⟨c33, H⟩
            · refine seq_ops [.res (cB v31), .g true, .g true, .g true, .g true, .g true, .g true, .g true, .g true, .g true, .g true, .g true, .g true, .g true] [] [(6, cB (decide ((W ((p2.Stack.length : Int) + (p2.Log.length : Int))) ≤ (W ((p2.Used.length : Int) + 1)))))] [] (fun t => aI (i_goodStack_ok p0 p2 v31 h32) (aI c33 (aI c33 (aI c33 (lI p2.Stack (aI c33 (aI c33 (aI c33 (lI p2.Log (aI c33 (aI c33 (aI c33 (aI c33 (lI p2.Used (aI c33 (aI c33 (aI c33 (t)))))))))))))))))) (by kernel_rfl) ?_
              refine ends_ret ?_
              obtain rfl := Option.some.inj H
              exact And.intro (.inl rfl) rfl
            · refine seq_ops [.res (cB v31), .g false, .g false, .g false, .g false, .g false, .g false, .g false, .g false, .g false, .g false, .g false, .g false, .g false] [] [(6, cB false)] [] (fun t => aI (i_goodStack_ok p0 p2 v31 h32) (aI c33 (aI c33 (aI c33 (aI c33 (aI c33 (aI c33 (aI c33 (aI c33 (aI c33 (aI c33 (aI c33 (aI c33 (aI c33 (t))))))))))))))) (by kernel_rfl) ?_
              refine ends_ret ?_
              obtain rfl := Option.some.inj H
              exact And.intro (.inl rfl) rfl

def i_IsMachine_ir : S :=
 (.seq (.ops [⟨some 3, .box 12 (.t 0), none⟩, ⟨some 5, .box 6 (.t 2), none⟩, ⟨some 6, .mv (.v (.bool false)), none⟩, ⟨some 7, .mv (.v (.bool false)), none⟩])
 (.seq (.seq (.ops [⟨some 8, .load 12 true (.t 3), none⟩, ⟨some 9, .call 110 [.t 8], none⟩, ⟨some 10, .not (.t 9), none⟩])
 (.ite (.t 10) (.seq (.ops [⟨some 6, .mv (.v (.bool false)), none⟩, ⟨some 7, .mv (.v (.bool false)), none⟩])
  .ret)
 .skip))
 (.seq (.ops [⟨some 11, .load 12 true (.t 3), none⟩, ⟨some 12, .mv (.t 1), none⟩, ⟨some 13, .load 6 true (.t 5), none⟩, ⟨some 14, .call 111 [.t 11, .t 12, .t 13], none⟩, ⟨some 6, .mv (.t 14), none⟩, ⟨some 7, .mv (.v (.bool true)), none⟩])
 .ret)))
noncomputable def X.i_IsMachine (p0 : TBoard) (p1 : (List TReaction)) (p2 : TMachine) : Option (Bool × Bool) :=
  ((X.i_IsBoard p0).bind fun v1 => (bif (!v1) then some (false, false) else ((X.i_goodMachine p0 p1 p2).bind fun v4 => some (v4, true))))
theorem i_IsMachine_ok (p0 : TBoard) (p1 : (List TReaction)) (p2 : TMachine) (r : (Bool × Bool)) (H : X.i_IsMachine p0 p1 p2 = some r) : FnOk Tryz.prog gl 44 [.agg (eTBoard p0), .c (dat 3 eTReaction zTReaction p1), .agg (eTMachine p2)] (.tup [(false, [.bool r.1]), (false, [.bool r.2])]) := by
  unfold X.i_IsMachine at H
  refine fn_in (fn := Tryz.f44) (ir := i_IsMachine_ir) (s1 := lit [(6, cB r.1), (7, cB r.2)] []) Tryz.func44 (by kernel_rfl) (by kernel_rfl) (by kernel_rfl) (by kernel_rfl) (by kernel_rfl) ?_
  refine seq_ops [] [] [(1, .c (dat 3 eTReaction zTReaction p1)), (3, .c (.pk 3 0)), (5, .c (.pk 5 0))] [(3, .var (eTBoard p0) false), (5, .var (eTMachine p2) false)] (fun t => t) (by kernel_rfl) ?_
  refine seq_in ?_
  obtain ⟨v1, h2, H⟩ := ofBind H
  refine seq_ops [.res (cB v1)] [] [(1, .c (dat 3 eTReaction zTReaction p1)), (3, .c (.pk 3 0)), (5, .c (.pk 5 0)), (10, cB (!v1))] [(3, .var (eTBoard p0) false), (5, .var (eTMachine p2) false)] (fun t => aI (i_IsBoard_ok p0 v1 h2) (t)) (by kernel_rfl) ?_
  rcases ofCond H with ⟨c3, H⟩ | ⟨c3, H⟩
  · refine ite_t c3 (by kernel_rfl) ?_
    refine seq_ops [] [] [(6, cB false), (7, cB false)] [] (fun t => t) (by kernel_rfl) ?_
    refine ends_ret ?_
    obtain rfl := Option.some.inj H
    exact And.intro (.inl rfl) rfl
  · refine ite_f c3 (by kernel_rfl) ?_
    refine ends_skip ?_
    change EndsI _ _ _ _ _ _
    obtain ⟨v4, h5, H⟩ := ofBind H
    refine seq_ops [.res (cB v4)] [] [(6, cB v4), (7, cB true)] [] (fun t => aI (i_goodMachine_ok p0 p1 p2 v4 h5) (t)) (by kernel_rfl) ?_
    refine ends_ret ?_
    obtain rfl := Option.some.inj H
    exact And.intro (.inl rfl) rfl

def l_eqReaction_ir : S :=
 (.seq (.ops [⟨some 2, .box 3 (.t 0), none⟩, ⟨some 3, .box 3 (.t 1), none⟩, ⟨some 4, .mv (.v (.bool false)), none⟩])
 (.seq (.seq (.ops [⟨some 5, .fad 0 (.t 2), none⟩, ⟨some 6, .load 1 false (.t 5), none⟩, ⟨some 7, .fad 0 (.t 3), none⟩, ⟨some 8, .load 1 false (.t 7), none⟩, ⟨some 9, .bin .neq (.t 6) (.t 8), none⟩])
 (.ite (.t 9) (.seq (.ops [⟨some 4, .mv (.v (.bool false)), none⟩])
  .ret)
 .skip))
 (.seq (.seq (.ops [⟨some 10, .fad 1 (.t 2), none⟩, ⟨some 11, .load 1 false (.t 10), none⟩, ⟨some 12, .fad 1 (.t 3), none⟩, ⟨some 13, .load 1 false (.t 12), none⟩, ⟨some 14, .bin .neq (.t 11) (.t 13), none⟩])
 (.ite (.t 14) (.seq (.ops [⟨some 4, .mv (.v (.bool false)), none⟩])
  .ret)
 .skip))
 (.seq (.seq (.ops [⟨some 15, .fad 2 (.t 2), none⟩, ⟨some 16, .load 1 false (.t 15), none⟩, ⟨some 17, .fad 2 (.t 3), none⟩, ⟨some 18, .load 1 false (.t 17), none⟩, ⟨some 19, .bin .neq (.t 16) (.t 18), none⟩])
 (.ite (.t 19) (.seq (.ops [⟨some 4, .mv (.v (.bool false)), none⟩])
  .ret)
 .skip))
 (.seq (.ops [⟨some 4, .mv (.v (.bool true)), none⟩])
 .ret)))))
noncomputable def X.l_eqReaction (p0 : TReaction) (p1 : TReaction) : Option Bool :=
  (bif (p0.Unit != p1.Unit) then some false else (bif (p0.Watch != p1.Watch) then some false else (bif (p0.Kind != p1.Kind) then some false else some true)))
theorem l_eqReaction_ok (p0 : TReaction) (p1 : TReaction) (r : Bool) (H : X.l_eqReaction p0 p1 = some r) : FnOk Tryz.prog gl 112 [.agg (eTReaction p0), .agg (eTReaction p1)] (cB r) := by
  unfold X.l_eqReaction at H
  refine fn_in (fn := Tryz.f112) (ir := l_eqReaction_ir) (s1 := lit [(4, cB r)] []) Tryz.func112 (by kernel_rfl) (by kernel_rfl) (by kernel_rfl) (by kernel_rfl) (by kernel_rfl) ?_
  refine seq_ops [] [] [(2, .c (.pk 2 0)), (3, .c (.pk 3 0))] [(2, .var (eTReaction p0) false), (3, .var (eTReaction p1) false)] (fun t => t) (by kernel_rfl) ?_
  refine seq_in ?_
  refine seq_ops [] [] [(2, .c (.pk 2 0)), (3, .c (.pk 3 0)), (9, cB (p0.Unit != p1.Unit))] [(2, .var (eTReaction p0) false), (3, .var (eTReaction p1) false)] (fun t => t) (by kernel_rfl) ?_
  rcases ofCond H with ⟨c2, H⟩ | ⟨c2, H⟩
  · refine ite_t c2 (by kernel_rfl) ?_
    refine seq_ops [] [] [(4, cB false)] [] (fun t => t) (by kernel_rfl) ?_
    refine ends_ret ?_
    obtain rfl := Option.some.inj H
    exact And.intro (.inl rfl) rfl
  · refine ite_f c2 (by kernel_rfl) ?_
    refine ends_skip ?_
    change EndsI _ _ _ _ _ _
    refine seq_in ?_
    refine seq_ops [] [] [(2, .c (.pk 2 0)), (3, .c (.pk 3 0)), (14, cB (p0.Watch != p1.Watch))] [(2, .var (eTReaction p0) false), (3, .var (eTReaction p1) false)] (fun t => t) (by kernel_rfl) ?_
    rcases ofCond H with ⟨c4, H⟩ | ⟨c4, H⟩
    · refine ite_t c4 (by kernel_rfl) ?_
      refine seq_ops [] [] [(4, cB false)] [] (fun t => t) (by kernel_rfl) ?_
      refine ends_ret ?_
      obtain rfl := Option.some.inj H
      exact And.intro (.inl rfl) rfl
    · refine ite_f c4 (by kernel_rfl) ?_
      refine ends_skip ?_
      change EndsI _ _ _ _ _ _
      refine seq_in ?_
      refine seq_ops [] [] [(19, cB (p0.Kind != p1.Kind))] [] (fun t => t) (by kernel_rfl) ?_
      rcases ofCond H with ⟨c5, H⟩ | ⟨c5, H⟩
      · refine ite_t c5 (by kernel_rfl) ?_
        refine seq_ops [] [] [(4, cB false)] [] (fun t => t) (by kernel_rfl) ?_
        refine ends_ret ?_
        obtain rfl := Option.some.inj H
        exact And.intro (.inl rfl) rfl
      · refine ite_f c5 (by kernel_rfl) ?_
        refine ends_skip ?_
        change EndsI _ _ _ _ _ _
        refine seq_ops [] [] [(4, cB true)] [] (fun t => t) (by kernel_rfl) ?_
        refine ends_ret ?_
        obtain rfl := Option.some.inj H
        exact And.intro (.inl rfl) rfl

def l_eqReactionS_ir : S :=
 (.seq (.ops [⟨some 4, .mv (.v (.bool false)), none⟩])
 (.seq (.seq (.ops [⟨some 6, .mv (.t 0), none⟩, ⟨some 7, .len (.t 6), none⟩, ⟨some 8, .mv (.t 1), none⟩, ⟨some 9, .len (.t 8), none⟩, ⟨some 10, .bin .neq (.t 7) (.t 9), none⟩])
 (.ite (.t 10) (.seq (.ops [⟨some 4, .mv (.v (.bool false)), none⟩])
  .ret)
 .skip))
 (.seq (.seq (.ops [⟨some 5, .mv (.v (.int .i64 0)), none⟩])
 (.blk 0 (.loop (.seq (.seq (.ops [⟨some 11, .mv (.t 5), none⟩, ⟨some 12, .mv (.t 0), none⟩, ⟨some 13, .len (.t 12), none⟩, ⟨some 14, .bin .lss (.t 11) (.t 13), none⟩])
   (.ite (.t 14) .skip
   (.exit 0)))
   (.seq (.blk 1 (.seq (.draw 10 [⟨some 17, .mv (.t 0), none⟩, ⟨some 18, .mv (.t 5), none⟩, ⟨some 19, .iad 3 (.t 17) (.t 18), none⟩, ⟨some 20, .load 3 true (.t 19), none⟩, ⟨some 21, .mv (.t 1), none⟩, ⟨some 22, .mv (.t 5), none⟩, ⟨some 23, .iad 3 (.t 21) (.t 22), none⟩, ⟨some 24, .load 3 true (.t 23), none⟩, ⟨some 25, .call 112 [.t 20, .t 24], none⟩, ⟨some 26, .not (.t 25), none⟩])
    (.ite (.t 26) (.seq (.ops [⟨some 4, .mv (.v (.bool false)), none⟩])
     .ret)
    .skip)))
   (.ops [⟨some 15, .mv (.t 5), none⟩, ⟨some 16, .bin .add (.t 15) (.v (.int .i64 1)), none⟩, ⟨some 5, .mv (.t 16), none⟩]))))))
 (.seq (.ops [⟨some 4, .mv (.v (.bool true)), none⟩])
 .ret))))
noncomputable def X.l_eqReactionS (p0 : (List TReaction)) (p1 : (List TReaction)) : Option Bool :=
  (bif ((p0.length : Int) != (p1.length : Int)) then some false else ((loop (fun (x22 : Int) => ((bif (decide (x22 < (p0.length : Int))) then ((at' zTReaction p0 x22).bind fun v25 => ((at' zTReaction p1 x22).bind fun v27 => ((X.l_eqReaction v25 v27).bind fun v29 => (bif (!v29) then some (Sum.inr (Sum.inr false)) else some (Sum.inl (W (x22 + 1))))))) else some (Sum.inr (Sum.inl ()))) : Option (Int ⊕ (Unit ⊕ Bool)))) 0).bind fun y32 => (Sum.elim (fun (y34 : Unit) => some true) (fun (y35 : Bool) => some y35) y32)))
theorem l_eqReactionS_ok (p0 : (List TReaction)) (p1 : (List TReaction)) (r : Bool) (H : X.l_eqReactionS p0 p1 = some r) : FnOk Tryz.prog gl 45 [.c (dat 3 eTReaction zTReaction p0), .c (dat 3 eTReaction zTReaction p1)] (cB r) := by
  unfold X.l_eqReactionS at H
  refine fn_in (fn := Tryz.f45) (ir := l_eqReactionS_ir) (s1 := lit [(4, cB r)] []) Tryz.func45 (by kernel_rfl) (by kernel_rfl) (by kernel_rfl) (by kernel_rfl) (by kernel_rfl) ?_
  refine seq_ops [] [] [(0, .c (dat 3 eTReaction zTReaction p0)), (1, .c (dat 3 eTReaction zTReaction p1))] [] (fun t => t) (by kernel_rfl) ?_
  refine seq_in ?_
  refine seq_ops [] [] [(0, .c (dat 3 eTReaction zTReaction p0)), (1, .c (dat 3 eTReaction zTReaction p1)), (10, cB ((p0.length : Int) != (p1.length : Int)))] [] (fun t => lI p0 (lI p1 (t))) (by kernel_rfl) ?_
  rcases ofCond H with ⟨c2, H⟩ | ⟨c2, H⟩
  · refine ite_t c2 (by kernel_rfl) ?_
    refine seq_ops [] [] [(4, cB false)] [] (fun t => t) (by kernel_rfl) ?_
    refine ends_ret ?_
    obtain rfl := Option.some.inj H
    exact And.intro (.inl rfl) rfl
  · refine ite_f c2 (by kernel_rfl) ?_
    refine ends_skip ?_
    change EndsI _ _ _ _ _ _
    refine seq_in ?_
    refine seq_ops [] [] [(0, .c (dat 3 eTReaction zTReaction p0)), (1, .c (dat 3 eTReaction zTReaction p1)), (5, cI 0)] [] (fun t => t) (by kernel_rfl) ?_
    refine ends_blk ?_
    obtain ⟨y32, h33, H⟩ := ofBind H
    refine loop_in (fun (x : Int) => lit [(0, .c (dat 3 eTReaction zTReaction p0)), (1, .c (dat 3 eTReaction zTReaction p1)), (5, cI x)] []) (orJ (fun (z : Unit) => At (.exit 0) (lit [] [])) (fun (z : Bool) => At .ret (lit [(4, cB z)] []))) h33 ?_ ?_
    · clear H h33
      intro x22 y0 H
      refine seq_in ?_
      refine seq_ops [] [] [(0, .c (dat 3 eTReaction zTReaction p0)), (1, .c (dat 3 eTReaction zTReaction p1)), (5, cI x22), (14, cB (decide (x22 < (p0.length : Int))))] [] (fun t => lI p0 (t)) (by kernel_rfl) ?_
      rcases ofCond H with ⟨c24, H⟩ | ⟨c24, H⟩
      · refine ite_t c24 (by kernel_rfl) ?_
        refine ends_skip ?_
        change EndsI _ _ _ _ _ _
        refine seq_in ?_
        refine ends_blk ?_
        obtain ⟨v25, h26, H⟩ := ofBind H
        obtain ⟨v27, h28, H⟩ := ofBind H
        obtain ⟨v29, h30, H⟩ := ofBind H
        refine seq_draw [.cs (eTReaction v25), .cs (eTReaction v27), .res (cB v29)] [] [(0, .c (dat 3 eTReaction zTReaction p0)), (1, .c (dat 3 eTReaction zTReaction p1)), (5, cI x22), (26, cB (!v29))] [] (fun t => aI (at_lt h26) (aI (at_enc (enc := eTReaction) h26) (aI (rfl : ([] : List Nat) = []) (aI (at_lt h28) (aI (at_enc (enc := eTReaction) h28) (aI (rfl : ([] : List Nat) = []) (aI (l_eqReaction_ok v25 v27 v29 h30) (aI trivial (aI (rfl : ([] : List Nat) = []) (t)))))))))) (by kernel_rfl) ?_
        rcases ofCond H with ⟨c31, H⟩ | ⟨c31, H⟩
        · refine ite_t c31 (by kernel_rfl) ?_
          refine seq_ops [] [] [(4, cB false)] [] (fun t => t) (by kernel_rfl) ?_
          refine ends_ret ?_
          obtain rfl := Option.some.inj H
          exact And.intro (by simp) (And.intro rfl rfl)
        · refine ite_f c31 (by kernel_rfl) ?_
          refine ends_skip ?_
          change EndsI _ _ _ _ _ _
          refine one_ops [] [] [(0, .c (dat 3 eTReaction zTReaction p0)), (1, .c (dat 3 eTReaction zTReaction p1)), (5, cI (W (x22 + 1)))] [] (fun t => t) (by kernel_rfl) ?_
          obtain rfl := Option.some.inj H
          exact And.intro rfl rfl
      · refine ite_f c24 (by kernel_rfl) ?_
        refine tell [] [] [] (fun t => t) (by kernel_rfl) ?_
        refine ends_exit ?_
        obtain rfl := Option.some.inj H
        exact And.intro (by simp) (And.intro rfl rfl)
    · clear h33
      cases y32 with
      | inl y34 =>
        replace H := ofInl H
        intro e s q
        obtain ⟨rfl, rfl⟩ := q
        change EndsI _ _ _ _ _ _
        refine seq_ops [] [] [(4, cB true)] [] (fun t => t) (by kernel_rfl) ?_
        refine ends_ret ?_
        obtain rfl := Option.some.inj H
        exact And.intro (.inl rfl) rfl
      | inr y35 =>
        replace H := ofInr H
        intro e s q
        obtain ⟨rfl, rfl⟩ := q
        obtain rfl := Option.some.inj H
        exact And.intro (.inl rfl) rfl

def l_eqUnit_ir : S :=
 (.seq (.ops [⟨some 2, .box 4 (.t 0), none⟩, ⟨some 3, .box 4 (.t 1), none⟩, ⟨some 4, .mv (.v (.bool false)), none⟩])
 (.seq (.seq (.ops [⟨some 5, .fad 0 (.t 2), none⟩, ⟨some 6, .load 1 false (.t 5), none⟩, ⟨some 7, .fad 0 (.t 3), none⟩, ⟨some 8, .load 1 false (.t 7), none⟩, ⟨some 9, .bin .neq (.t 6) (.t 8), none⟩])
 (.ite (.t 9) (.seq (.ops [⟨some 4, .mv (.v (.bool false)), none⟩])
  .ret)
 .skip))
 (.seq (.seq (.ops [⟨some 10, .fad 1 (.t 2), none⟩, ⟨some 11, .load 1 false (.t 10), none⟩, ⟨some 12, .fad 1 (.t 3), none⟩, ⟨some 13, .load 1 false (.t 12), none⟩, ⟨some 14, .bin .neq (.t 11) (.t 13), none⟩])
 (.ite (.t 14) (.seq (.ops [⟨some 4, .mv (.v (.bool false)), none⟩])
  .ret)
 .skip))
 (.seq (.seq (.ops [⟨some 15, .fad 2 (.t 2), none⟩, ⟨some 16, .load 1 false (.t 15), none⟩, ⟨some 17, .fad 2 (.t 3), none⟩, ⟨some 18, .load 1 false (.t 17), none⟩, ⟨some 19, .bin .neq (.t 16) (.t 18), none⟩])
 (.ite (.t 19) (.seq (.ops [⟨some 4, .mv (.v (.bool false)), none⟩])
  .ret)
 .skip))
 (.seq (.seq (.ops [⟨some 20, .fad 3 (.t 2), none⟩, ⟨some 21, .load 1 false (.t 20), none⟩, ⟨some 22, .fad 3 (.t 3), none⟩, ⟨some 23, .load 1 false (.t 22), none⟩, ⟨some 24, .bin .neq (.t 21) (.t 23), none⟩])
 (.ite (.t 24) (.seq (.ops [⟨some 4, .mv (.v (.bool false)), none⟩])
  .ret)
 .skip))
 (.seq (.ops [⟨some 4, .mv (.v (.bool true)), none⟩])
 .ret))))))
noncomputable def X.l_eqUnit (p0 : TUnit) (p1 : TUnit) : Option Bool :=
  (bif (p0.Side != p1.Side) then some false else (bif (p0.Kind != p1.Kind) then some false else (bif (p0.At != p1.At) then some false else (bif (p0.Steps != p1.Steps) then some false else some true))))
theorem l_eqUnit_ok (p0 : TUnit) (p1 : TUnit) (r : Bool) (H : X.l_eqUnit p0 p1 = some r) : FnOk Tryz.prog gl 146 [.agg (eTUnit p0), .agg (eTUnit p1)] (cB r) := by
  unfold X.l_eqUnit at H
  refine fn_in (fn := Tryz.f146) (ir := l_eqUnit_ir) (s1 := lit [(4, cB r)] []) Tryz.func146 (by kernel_rfl) (by kernel_rfl) (by kernel_rfl) (by kernel_rfl) (by kernel_rfl) ?_
  refine seq_ops [] [] [(2, .c (.pk 2 0)), (3, .c (.pk 3 0))] [(2, .var (eTUnit p0) false), (3, .var (eTUnit p1) false)] (fun t => t) (by kernel_rfl) ?_
  refine seq_in ?_
  refine seq_ops [] [] [(2, .c (.pk 2 0)), (3, .c (.pk 3 0)), (9, cB (p0.Side != p1.Side))] [(2, .var (eTUnit p0) false), (3, .var (eTUnit p1) false)] (fun t => t) (by kernel_rfl) ?_
  rcases ofCond H with ⟨c2, H⟩ | ⟨c2, H⟩
  · refine ite_t c2 (by kernel_rfl) ?_
    refine seq_ops [] [] [(4, cB false)] [] (fun t => t) (by kernel_rfl) ?_
    refine ends_ret ?_
    obtain rfl := Option.some.inj H
    exact And.intro (.inl rfl) rfl
  · refine ite_f c2 (by kernel_rfl) ?_
    refine ends_skip ?_
    change EndsI _ _ _ _ _ _
    refine seq_in ?_
    refine seq_ops [] [] [(2, .c (.pk 2 0)), (3, .c (.pk 3 0)), (14, cB (p0.Kind != p1.Kind))] [(2, .var (eTUnit p0) false), (3, .var (eTUnit p1) false)] (fun t => t) (by kernel_rfl) ?_
    rcases ofCond H with ⟨c4, H⟩ | ⟨c4, H⟩
    · refine ite_t c4 (by kernel_rfl) ?_
      refine seq_ops [] [] [(4, cB false)] [] (fun t => t) (by kernel_rfl) ?_
      refine ends_ret ?_
      obtain rfl := Option.some.inj H
      exact And.intro (.inl rfl) rfl
    · refine ite_f c4 (by kernel_rfl) ?_
      refine ends_skip ?_
      change EndsI _ _ _ _ _ _
      refine seq_in ?_
      refine seq_ops [] [] [(2, .c (.pk 2 0)), (3, .c (.pk 3 0)), (19, cB (p0.At != p1.At))] [(2, .var (eTUnit p0) false), (3, .var (eTUnit p1) false)] (fun t => t) (by kernel_rfl) ?_
      rcases ofCond H with ⟨c6, H⟩ | ⟨c6, H⟩
      · refine ite_t c6 (by kernel_rfl) ?_
        refine seq_ops [] [] [(4, cB false)] [] (fun t => t) (by kernel_rfl) ?_
        refine ends_ret ?_
        obtain rfl := Option.some.inj H
        exact And.intro (.inl rfl) rfl
      · refine ite_f c6 (by kernel_rfl) ?_
        refine ends_skip ?_
        change EndsI _ _ _ _ _ _
        refine seq_in ?_
        refine seq_ops [] [] [(24, cB (p0.Steps != p1.Steps))] [] (fun t => t) (by kernel_rfl) ?_
        rcases ofCond H with ⟨c7, H⟩ | ⟨c7, H⟩
        · refine ite_t c7 (by kernel_rfl) ?_
          refine seq_ops [] [] [(4, cB false)] [] (fun t => t) (by kernel_rfl) ?_
          refine ends_ret ?_
          obtain rfl := Option.some.inj H
          exact And.intro (.inl rfl) rfl
        · refine ite_f c7 (by kernel_rfl) ?_
          refine ends_skip ?_
          change EndsI _ _ _ _ _ _
          refine seq_ops [] [] [(4, cB true)] [] (fun t => t) (by kernel_rfl) ?_
          refine ends_ret ?_
          obtain rfl := Option.some.inj H
          exact And.intro (.inl rfl) rfl

def l_eqUnitS_ir : S :=
 (.seq (.ops [⟨some 4, .mv (.v (.bool false)), none⟩])
 (.seq (.seq (.ops [⟨some 6, .mv (.t 0), none⟩, ⟨some 7, .len (.t 6), none⟩, ⟨some 8, .mv (.t 1), none⟩, ⟨some 9, .len (.t 8), none⟩, ⟨some 10, .bin .neq (.t 7) (.t 9), none⟩])
 (.ite (.t 10) (.seq (.ops [⟨some 4, .mv (.v (.bool false)), none⟩])
  .ret)
 .skip))
 (.seq (.seq (.ops [⟨some 5, .mv (.v (.int .i64 0)), none⟩])
 (.blk 0 (.loop (.seq (.seq (.ops [⟨some 11, .mv (.t 5), none⟩, ⟨some 12, .mv (.t 0), none⟩, ⟨some 13, .len (.t 12), none⟩, ⟨some 14, .bin .lss (.t 11) (.t 13), none⟩])
   (.ite (.t 14) .skip
   (.exit 0)))
   (.seq (.blk 1 (.seq (.draw 10 [⟨some 17, .mv (.t 0), none⟩, ⟨some 18, .mv (.t 5), none⟩, ⟨some 19, .iad 4 (.t 17) (.t 18), none⟩, ⟨some 20, .load 4 true (.t 19), none⟩, ⟨some 21, .mv (.t 1), none⟩, ⟨some 22, .mv (.t 5), none⟩, ⟨some 23, .iad 4 (.t 21) (.t 22), none⟩, ⟨some 24, .load 4 true (.t 23), none⟩, ⟨some 25, .call 146 [.t 20, .t 24], none⟩, ⟨some 26, .not (.t 25), none⟩])
    (.ite (.t 26) (.seq (.ops [⟨some 4, .mv (.v (.bool false)), none⟩])
     .ret)
    .skip)))
   (.ops [⟨some 15, .mv (.t 5), none⟩, ⟨some 16, .bin .add (.t 15) (.v (.int .i64 1)), none⟩, ⟨some 5, .mv (.t 16), none⟩]))))))
 (.seq (.ops [⟨some 4, .mv (.v (.bool true)), none⟩])
 .ret))))
noncomputable def X.l_eqUnitS (p0 : (List TUnit)) (p1 : (List TUnit)) : Option Bool :=
  (bif ((p0.length : Int) != (p1.length : Int)) then some false else ((loop (fun (x22 : Int) => ((bif (decide (x22 < (p0.length : Int))) then ((at' zTUnit p0 x22).bind fun v25 => ((at' zTUnit p1 x22).bind fun v27 => ((X.l_eqUnit v25 v27).bind fun v29 => (bif (!v29) then some (Sum.inr (Sum.inr false)) else some (Sum.inl (W (x22 + 1))))))) else some (Sum.inr (Sum.inl ()))) : Option (Int ⊕ (Unit ⊕ Bool)))) 0).bind fun y32 => (Sum.elim (fun (y34 : Unit) => some true) (fun (y35 : Bool) => some y35) y32)))
theorem l_eqUnitS_ok (p0 : (List TUnit)) (p1 : (List TUnit)) (r : Bool) (H : X.l_eqUnitS p0 p1 = some r) : FnOk Tryz.prog gl 75 [.c (dat 4 eTUnit zTUnit p0), .c (dat 4 eTUnit zTUnit p1)] (cB r) := by
  unfold X.l_eqUnitS at H
  refine fn_in (fn := Tryz.f75) (ir := l_eqUnitS_ir) (s1 := lit [(4, cB r)] []) Tryz.func75 (by kernel_rfl) (by kernel_rfl) (by kernel_rfl) (by kernel_rfl) (by kernel_rfl) ?_
  refine seq_ops [] [] [(0, .c (dat 4 eTUnit zTUnit p0)), (1, .c (dat 4 eTUnit zTUnit p1))] [] (fun t => t) (by kernel_rfl) ?_
  refine seq_in ?_
  refine seq_ops [] [] [(0, .c (dat 4 eTUnit zTUnit p0)), (1, .c (dat 4 eTUnit zTUnit p1)), (10, cB ((p0.length : Int) != (p1.length : Int)))] [] (fun t => lI p0 (lI p1 (t))) (by kernel_rfl) ?_
  rcases ofCond H with ⟨c2, H⟩ | ⟨c2, H⟩
  · refine ite_t c2 (by kernel_rfl) ?_
    refine seq_ops [] [] [(4, cB false)] [] (fun t => t) (by kernel_rfl) ?_
    refine ends_ret ?_
    obtain rfl := Option.some.inj H
    exact And.intro (.inl rfl) rfl
  · refine ite_f c2 (by kernel_rfl) ?_
    refine ends_skip ?_
    change EndsI _ _ _ _ _ _
    refine seq_in ?_
    refine seq_ops [] [] [(0, .c (dat 4 eTUnit zTUnit p0)), (1, .c (dat 4 eTUnit zTUnit p1)), (5, cI 0)] [] (fun t => t) (by kernel_rfl) ?_
    refine ends_blk ?_
    obtain ⟨y32, h33, H⟩ := ofBind H
    refine loop_in (fun (x : Int) => lit [(0, .c (dat 4 eTUnit zTUnit p0)), (1, .c (dat 4 eTUnit zTUnit p1)), (5, cI x)] []) (orJ (fun (z : Unit) => At (.exit 0) (lit [] [])) (fun (z : Bool) => At .ret (lit [(4, cB z)] []))) h33 ?_ ?_
    · clear H h33
      intro x22 y0 H
      refine seq_in ?_
      refine seq_ops [] [] [(0, .c (dat 4 eTUnit zTUnit p0)), (1, .c (dat 4 eTUnit zTUnit p1)), (5, cI x22), (14, cB (decide (x22 < (p0.length : Int))))] [] (fun t => lI p0 (t)) (by kernel_rfl) ?_
      rcases ofCond H with ⟨c24, H⟩ | ⟨c24, H⟩
      · refine ite_t c24 (by kernel_rfl) ?_
        refine ends_skip ?_
        change EndsI _ _ _ _ _ _
        refine seq_in ?_
        refine ends_blk ?_
        obtain ⟨v25, h26, H⟩ := ofBind H
        obtain ⟨v27, h28, H⟩ := ofBind H
        obtain ⟨v29, h30, H⟩ := ofBind H
        refine seq_draw [.cs (eTUnit v25), .cs (eTUnit v27), .res (cB v29)] [] [(0, .c (dat 4 eTUnit zTUnit p0)), (1, .c (dat 4 eTUnit zTUnit p1)), (5, cI x22), (26, cB (!v29))] [] (fun t => aI (at_lt h26) (aI (at_enc (enc := eTUnit) h26) (aI (rfl : ([] : List Nat) = []) (aI (at_lt h28) (aI (at_enc (enc := eTUnit) h28) (aI (rfl : ([] : List Nat) = []) (aI (l_eqUnit_ok v25 v27 v29 h30) (aI trivial (aI (rfl : ([] : List Nat) = []) (t)))))))))) (by kernel_rfl) ?_
        rcases ofCond H with ⟨c31, H⟩ | ⟨c31, H⟩
        · refine ite_t c31 (by kernel_rfl) ?_
          refine seq_ops [] [] [(4, cB false)] [] (fun t => t) (by kernel_rfl) ?_
          refine ends_ret ?_
          obtain rfl := Option.some.inj H
          exact And.intro (by simp) (And.intro rfl rfl)
        · refine ite_f c31 (by kernel_rfl) ?_
          refine ends_skip ?_
          change EndsI _ _ _ _ _ _
          refine one_ops [] [] [(0, .c (dat 4 eTUnit zTUnit p0)), (1, .c (dat 4 eTUnit zTUnit p1)), (5, cI (W (x22 + 1)))] [] (fun t => t) (by kernel_rfl) ?_
          obtain rfl := Option.some.inj H
          exact And.intro rfl rfl
      · refine ite_f c24 (by kernel_rfl) ?_
        refine tell [] [] [] (fun t => t) (by kernel_rfl) ?_
        refine ends_exit ?_
        obtain rfl := Option.some.inj H
        exact And.intro (by simp) (And.intro rfl rfl)
    · clear h33
      cases y32 with
      | inl y34 =>
        replace H := ofInl H
        intro e s q
        obtain ⟨rfl, rfl⟩ := q
        change EndsI _ _ _ _ _ _
        refine seq_ops [] [] [(4, cB true)] [] (fun t => t) (by kernel_rfl) ?_
        refine ends_ret ?_
        obtain rfl := Option.some.inj H
        exact And.intro (.inl rfl) rfl
      | inr y35 =>
        replace H := ofInr H
        intro e s q
        obtain ⟨rfl, rfl⟩ := q
        obtain rfl := Option.some.inj H
        exact And.intro (.inl rfl) rfl

def l_eqState_ir : S :=
 (.seq (.ops [⟨some 2, .box 3 (.t 0), none⟩, ⟨some 3, .box 3 (.t 1), none⟩, ⟨some 4, .mv (.v (.bool false)), none⟩])
 (.seq (.seq (.ops [⟨some 5, .fad 0 (.t 2), none⟩, ⟨some 6, .load 1 false (.t 5), none⟩, ⟨some 7, .fad 0 (.t 3), none⟩, ⟨some 8, .load 1 false (.t 7), none⟩, ⟨some 9, .bin .neq (.t 6) (.t 8), none⟩])
 (.ite (.t 9) (.seq (.ops [⟨some 4, .mv (.v (.bool false)), none⟩])
  .ret)
 .skip))
 (.seq (.seq (.ops [⟨some 10, .fad 1 (.t 2), none⟩, ⟨some 11, .load 1 false (.t 10), none⟩, ⟨some 12, .fad 1 (.t 3), none⟩, ⟨some 13, .load 1 false (.t 12), none⟩, ⟨some 14, .bin .neq (.t 11) (.t 13), none⟩])
 (.ite (.t 14) (.seq (.ops [⟨some 4, .mv (.v (.bool false)), none⟩])
  .ret)
 .skip))
 (.seq (.seq (.ops [⟨some 15, .fad 2 (.t 2), none⟩, ⟨some 16, .load 1 false (.t 15), none⟩, ⟨some 17, .fad 2 (.t 3), none⟩, ⟨some 18, .load 1 false (.t 17), none⟩, ⟨some 19, .call 75 [.t 16, .t 18], none⟩, ⟨some 20, .not (.t 19), none⟩])
 (.ite (.t 20) (.seq (.ops [⟨some 4, .mv (.v (.bool false)), none⟩])
  .ret)
 .skip))
 (.seq (.ops [⟨some 4, .mv (.v (.bool true)), none⟩])
 .ret)))))
noncomputable def X.l_eqState (p0 : TState) (p1 : TState) : Option Bool :=
  (bif (p0.Turn != p1.Turn) then some false else (bif (p0.Weather != p1.Weather) then some false else ((X.l_eqUnitS p0.Units p1.Units).bind fun v5 => (bif (!v5) then some false else some true))))
theorem l_eqState_ok (p0 : TState) (p1 : TState) (r : Bool) (H : X.l_eqState p0 p1 = some r) : FnOk Tryz.prog gl 29 [.agg (eTState p0), .agg (eTState p1)] (cB r) := by
  unfold X.l_eqState at H
  refine fn_in (fn := Tryz.f29) (ir := l_eqState_ir) (s1 := lit [(4, cB r)] []) Tryz.func29 (by kernel_rfl) (by kernel_rfl) (by kernel_rfl) (by kernel_rfl) (by kernel_rfl) ?_
  refine seq_ops [] [] [(2, .c (.pk 2 0)), (3, .c (.pk 3 0))] [(2, .var (eTState p0) false), (3, .var (eTState p1) false)] (fun t => t) (by kernel_rfl) ?_
  refine seq_in ?_
  refine seq_ops [] [] [(2, .c (.pk 2 0)), (3, .c (.pk 3 0)), (9, cB (p0.Turn != p1.Turn))] [(2, .var (eTState p0) false), (3, .var (eTState p1) false)] (fun t => t) (by kernel_rfl) ?_
  rcases ofCond H with ⟨c2, H⟩ | ⟨c2, H⟩
  · refine ite_t c2 (by kernel_rfl) ?_
    refine seq_ops [] [] [(4, cB false)] [] (fun t => t) (by kernel_rfl) ?_
    refine ends_ret ?_
    obtain rfl := Option.some.inj H
    exact And.intro (.inl rfl) rfl
  · refine ite_f c2 (by kernel_rfl) ?_
    refine ends_skip ?_
    change EndsI _ _ _ _ _ _
    refine seq_in ?_
    refine seq_ops [] [] [(2, .c (.pk 2 0)), (3, .c (.pk 3 0)), (14, cB (p0.Weather != p1.Weather))] [(2, .var (eTState p0) false), (3, .var (eTState p1) false)] (fun t => t) (by kernel_rfl) ?_
    rcases ofCond H with ⟨c4, H⟩ | ⟨c4, H⟩
    · refine ite_t c4 (by kernel_rfl) ?_
      refine seq_ops [] [] [(4, cB false)] [] (fun t => t) (by kernel_rfl) ?_
      refine ends_ret ?_
      obtain rfl := Option.some.inj H
      exact And.intro (.inl rfl) rfl
    · refine ite_f c4 (by kernel_rfl) ?_
      refine ends_skip ?_
      change EndsI _ _ _ _ _ _
      refine seq_in ?_
      obtain ⟨v5, h6, H⟩ := ofBind H
      refine seq_ops [.res (cB v5)] [] [(20, cB (!v5))] [] (fun t => aI (l_eqUnitS_ok p0.Units p1.Units v5 h6) (t)) (by kernel_rfl) ?_
      rcases ofCond H with ⟨c7, H⟩ | ⟨c7, H⟩
      · refine ite_t c7 (by kernel_rfl) ?_
        refine seq_ops [] [] [(4, cB false)] [] (fun t => t) (by kernel_rfl) ?_
        refine ends_ret ?_
        obtain rfl := Option.some.inj H
        exact And.intro (.inl rfl) rfl
      · refine ite_f c7 (by kernel_rfl) ?_
        refine ends_skip ?_
        change EndsI _ _ _ _ _ _
        refine seq_ops [] [] [(4, cB true)] [] (fun t => t) (by kernel_rfl) ?_
        refine ends_ret ?_
        obtain rfl := Option.some.inj H
        exact And.intro (.inl rfl) rfl

def l_eqFrame_ir : S :=
 (.seq (.ops [⟨some 2, .box 3 (.t 0), none⟩, ⟨some 3, .box 3 (.t 1), none⟩, ⟨some 4, .mv (.v (.bool false)), none⟩])
 (.seq (.seq (.ops [⟨some 5, .fad 0 (.t 2), none⟩, ⟨some 6, .load 1 false (.t 5), none⟩, ⟨some 7, .fad 0 (.t 3), none⟩, ⟨some 8, .load 1 false (.t 7), none⟩, ⟨some 9, .bin .neq (.t 6) (.t 8), none⟩])
 (.ite (.t 9) (.seq (.ops [⟨some 4, .mv (.v (.bool false)), none⟩])
  .ret)
 .skip))
 (.seq (.seq (.ops [⟨some 10, .fad 1 (.t 2), none⟩, ⟨some 11, .load 1 false (.t 10), none⟩, ⟨some 12, .fad 1 (.t 3), none⟩, ⟨some 13, .load 1 false (.t 12), none⟩, ⟨some 14, .bin .neq (.t 11) (.t 13), none⟩])
 (.ite (.t 14) (.seq (.ops [⟨some 4, .mv (.v (.bool false)), none⟩])
  .ret)
 .skip))
 (.seq (.seq (.ops [⟨some 15, .fad 2 (.t 2), none⟩, ⟨some 16, .load 1 false (.t 15), none⟩, ⟨some 17, .fad 2 (.t 3), none⟩, ⟨some 18, .load 1 false (.t 17), none⟩, ⟨some 19, .bin .neq (.t 16) (.t 18), none⟩])
 (.ite (.t 19) (.seq (.ops [⟨some 4, .mv (.v (.bool false)), none⟩])
  .ret)
 .skip))
 (.seq (.ops [⟨some 4, .mv (.v (.bool true)), none⟩])
 .ret)))))
noncomputable def X.l_eqFrame (p0 : TFrame) (p1 : TFrame) : Option Bool :=
  (bif (p0.Unit != p1.Unit) then some false else (bif (p0.At != p1.At) then some false else (bif (p0.By != p1.By) then some false else some true)))
theorem l_eqFrame_ok (p0 : TFrame) (p1 : TFrame) (r : Bool) (H : X.l_eqFrame p0 p1 = some r) : FnOk Tryz.prog gl 183 [.agg (eTFrame p0), .agg (eTFrame p1)] (cB r) := by
  unfold X.l_eqFrame at H
  refine fn_in (fn := Tryz.f183) (ir := l_eqFrame_ir) (s1 := lit [(4, cB r)] []) Tryz.func183 (by kernel_rfl) (by kernel_rfl) (by kernel_rfl) (by kernel_rfl) (by kernel_rfl) ?_
  refine seq_ops [] [] [(2, .c (.pk 2 0)), (3, .c (.pk 3 0))] [(2, .var (eTFrame p0) false), (3, .var (eTFrame p1) false)] (fun t => t) (by kernel_rfl) ?_
  refine seq_in ?_
  refine seq_ops [] [] [(2, .c (.pk 2 0)), (3, .c (.pk 3 0)), (9, cB (p0.Unit != p1.Unit))] [(2, .var (eTFrame p0) false), (3, .var (eTFrame p1) false)] (fun t => t) (by kernel_rfl) ?_
  rcases ofCond H with ⟨c2, H⟩ | ⟨c2, H⟩
  · refine ite_t c2 (by kernel_rfl) ?_
    refine seq_ops [] [] [(4, cB false)] [] (fun t => t) (by kernel_rfl) ?_
    refine ends_ret ?_
    obtain rfl := Option.some.inj H
    exact And.intro (.inl rfl) rfl
  · refine ite_f c2 (by kernel_rfl) ?_
    refine ends_skip ?_
    change EndsI _ _ _ _ _ _
    refine seq_in ?_
    refine seq_ops [] [] [(2, .c (.pk 2 0)), (3, .c (.pk 3 0)), (14, cB (p0.At != p1.At))] [(2, .var (eTFrame p0) false), (3, .var (eTFrame p1) false)] (fun t => t) (by kernel_rfl) ?_
    rcases ofCond H with ⟨c4, H⟩ | ⟨c4, H⟩
    · refine ite_t c4 (by kernel_rfl) ?_
      refine seq_ops [] [] [(4, cB false)] [] (fun t => t) (by kernel_rfl) ?_
      refine ends_ret ?_
      obtain rfl := Option.some.inj H
      exact And.intro (.inl rfl) rfl
    · refine ite_f c4 (by kernel_rfl) ?_
      refine ends_skip ?_
      change EndsI _ _ _ _ _ _
      refine seq_in ?_
      refine seq_ops [] [] [(19, cB (p0.By != p1.By))] [] (fun t => t) (by kernel_rfl) ?_
      rcases ofCond H with ⟨c5, H⟩ | ⟨c5, H⟩
      · refine ite_t c5 (by kernel_rfl) ?_
        refine seq_ops [] [] [(4, cB false)] [] (fun t => t) (by kernel_rfl) ?_
        refine ends_ret ?_
        obtain rfl := Option.some.inj H
        exact And.intro (.inl rfl) rfl
      · refine ite_f c5 (by kernel_rfl) ?_
        refine ends_skip ?_
        change EndsI _ _ _ _ _ _
        refine seq_ops [] [] [(4, cB true)] [] (fun t => t) (by kernel_rfl) ?_
        refine ends_ret ?_
        obtain rfl := Option.some.inj H
        exact And.intro (.inl rfl) rfl

def l_eqFrameS_ir : S :=
 (.seq (.ops [⟨some 4, .mv (.v (.bool false)), none⟩])
 (.seq (.seq (.ops [⟨some 6, .mv (.t 0), none⟩, ⟨some 7, .len (.t 6), none⟩, ⟨some 8, .mv (.t 1), none⟩, ⟨some 9, .len (.t 8), none⟩, ⟨some 10, .bin .neq (.t 7) (.t 9), none⟩])
 (.ite (.t 10) (.seq (.ops [⟨some 4, .mv (.v (.bool false)), none⟩])
  .ret)
 .skip))
 (.seq (.seq (.ops [⟨some 5, .mv (.v (.int .i64 0)), none⟩])
 (.blk 0 (.loop (.seq (.seq (.ops [⟨some 11, .mv (.t 5), none⟩, ⟨some 12, .mv (.t 0), none⟩, ⟨some 13, .len (.t 12), none⟩, ⟨some 14, .bin .lss (.t 11) (.t 13), none⟩])
   (.ite (.t 14) .skip
   (.exit 0)))
   (.seq (.blk 1 (.seq (.draw 10 [⟨some 17, .mv (.t 0), none⟩, ⟨some 18, .mv (.t 5), none⟩, ⟨some 19, .iad 3 (.t 17) (.t 18), none⟩, ⟨some 20, .load 3 true (.t 19), none⟩, ⟨some 21, .mv (.t 1), none⟩, ⟨some 22, .mv (.t 5), none⟩, ⟨some 23, .iad 3 (.t 21) (.t 22), none⟩, ⟨some 24, .load 3 true (.t 23), none⟩, ⟨some 25, .call 183 [.t 20, .t 24], none⟩, ⟨some 26, .not (.t 25), none⟩])
    (.ite (.t 26) (.seq (.ops [⟨some 4, .mv (.v (.bool false)), none⟩])
     .ret)
    .skip)))
   (.ops [⟨some 15, .mv (.t 5), none⟩, ⟨some 16, .bin .add (.t 15) (.v (.int .i64 1)), none⟩, ⟨some 5, .mv (.t 16), none⟩]))))))
 (.seq (.ops [⟨some 4, .mv (.v (.bool true)), none⟩])
 .ret))))
noncomputable def X.l_eqFrameS (p0 : (List TFrame)) (p1 : (List TFrame)) : Option Bool :=
  (bif ((p0.length : Int) != (p1.length : Int)) then some false else ((loop (fun (x22 : Int) => ((bif (decide (x22 < (p0.length : Int))) then ((at' zTFrame p0 x22).bind fun v25 => ((at' zTFrame p1 x22).bind fun v27 => ((X.l_eqFrame v25 v27).bind fun v29 => (bif (!v29) then some (Sum.inr (Sum.inr false)) else some (Sum.inl (W (x22 + 1))))))) else some (Sum.inr (Sum.inl ()))) : Option (Int ⊕ (Unit ⊕ Bool)))) 0).bind fun y32 => (Sum.elim (fun (y34 : Unit) => some true) (fun (y35 : Bool) => some y35) y32)))
theorem l_eqFrameS_ok (p0 : (List TFrame)) (p1 : (List TFrame)) (r : Bool) (H : X.l_eqFrameS p0 p1 = some r) : FnOk Tryz.prog gl 113 [.c (dat 3 eTFrame zTFrame p0), .c (dat 3 eTFrame zTFrame p1)] (cB r) := by
  unfold X.l_eqFrameS at H
  refine fn_in (fn := Tryz.f113) (ir := l_eqFrameS_ir) (s1 := lit [(4, cB r)] []) Tryz.func113 (by kernel_rfl) (by kernel_rfl) (by kernel_rfl) (by kernel_rfl) (by kernel_rfl) ?_
  refine seq_ops [] [] [(0, .c (dat 3 eTFrame zTFrame p0)), (1, .c (dat 3 eTFrame zTFrame p1))] [] (fun t => t) (by kernel_rfl) ?_
  refine seq_in ?_
  refine seq_ops [] [] [(0, .c (dat 3 eTFrame zTFrame p0)), (1, .c (dat 3 eTFrame zTFrame p1)), (10, cB ((p0.length : Int) != (p1.length : Int)))] [] (fun t => lI p0 (lI p1 (t))) (by kernel_rfl) ?_
  rcases ofCond H with ⟨c2, H⟩ | ⟨c2, H⟩
  · refine ite_t c2 (by kernel_rfl) ?_
    refine seq_ops [] [] [(4, cB false)] [] (fun t => t) (by kernel_rfl) ?_
    refine ends_ret ?_
    obtain rfl := Option.some.inj H
    exact And.intro (.inl rfl) rfl
  · refine ite_f c2 (by kernel_rfl) ?_
    refine ends_skip ?_
    change EndsI _ _ _ _ _ _
    refine seq_in ?_
    refine seq_ops [] [] [(0, .c (dat 3 eTFrame zTFrame p0)), (1, .c (dat 3 eTFrame zTFrame p1)), (5, cI 0)] [] (fun t => t) (by kernel_rfl) ?_
    refine ends_blk ?_
    obtain ⟨y32, h33, H⟩ := ofBind H
    refine loop_in (fun (x : Int) => lit [(0, .c (dat 3 eTFrame zTFrame p0)), (1, .c (dat 3 eTFrame zTFrame p1)), (5, cI x)] []) (orJ (fun (z : Unit) => At (.exit 0) (lit [] [])) (fun (z : Bool) => At .ret (lit [(4, cB z)] []))) h33 ?_ ?_
    · clear H h33
      intro x22 y0 H
      refine seq_in ?_
      refine seq_ops [] [] [(0, .c (dat 3 eTFrame zTFrame p0)), (1, .c (dat 3 eTFrame zTFrame p1)), (5, cI x22), (14, cB (decide (x22 < (p0.length : Int))))] [] (fun t => lI p0 (t)) (by kernel_rfl) ?_
      rcases ofCond H with ⟨c24, H⟩ | ⟨c24, H⟩
      · refine ite_t c24 (by kernel_rfl) ?_
        refine ends_skip ?_
        change EndsI _ _ _ _ _ _
        refine seq_in ?_
        refine ends_blk ?_
        obtain ⟨v25, h26, H⟩ := ofBind H
        obtain ⟨v27, h28, H⟩ := ofBind H
        obtain ⟨v29, h30, H⟩ := ofBind H
        refine seq_draw [.cs (eTFrame v25), .cs (eTFrame v27), .res (cB v29)] [] [(0, .c (dat 3 eTFrame zTFrame p0)), (1, .c (dat 3 eTFrame zTFrame p1)), (5, cI x22), (26, cB (!v29))] [] (fun t => aI (at_lt h26) (aI (at_enc (enc := eTFrame) h26) (aI (rfl : ([] : List Nat) = []) (aI (at_lt h28) (aI (at_enc (enc := eTFrame) h28) (aI (rfl : ([] : List Nat) = []) (aI (l_eqFrame_ok v25 v27 v29 h30) (aI trivial (aI (rfl : ([] : List Nat) = []) (t)))))))))) (by kernel_rfl) ?_
        rcases ofCond H with ⟨c31, H⟩ | ⟨c31, H⟩
        · refine ite_t c31 (by kernel_rfl) ?_
          refine seq_ops [] [] [(4, cB false)] [] (fun t => t) (by kernel_rfl) ?_
          refine ends_ret ?_
          obtain rfl := Option.some.inj H
          exact And.intro (by simp) (And.intro rfl rfl)
        · refine ite_f c31 (by kernel_rfl) ?_
          refine ends_skip ?_
          change EndsI _ _ _ _ _ _
          refine one_ops [] [] [(0, .c (dat 3 eTFrame zTFrame p0)), (1, .c (dat 3 eTFrame zTFrame p1)), (5, cI (W (x22 + 1)))] [] (fun t => t) (by kernel_rfl) ?_
          obtain rfl := Option.some.inj H
          exact And.intro rfl rfl
      · refine ite_f c24 (by kernel_rfl) ?_
        refine tell [] [] [] (fun t => t) (by kernel_rfl) ?_
        refine ends_exit ?_
        obtain rfl := Option.some.inj H
        exact And.intro (by simp) (And.intro rfl rfl)
    · clear h33
      cases y32 with
      | inl y34 =>
        replace H := ofInl H
        intro e s q
        obtain ⟨rfl, rfl⟩ := q
        change EndsI _ _ _ _ _ _
        refine seq_ops [] [] [(4, cB true)] [] (fun t => t) (by kernel_rfl) ?_
        refine ends_ret ?_
        obtain rfl := Option.some.inj H
        exact And.intro (.inl rfl) rfl
      | inr y35 =>
        replace H := ofInr H
        intro e s q
        obtain ⟨rfl, rfl⟩ := q
        obtain rfl := Option.some.inj H
        exact And.intro (.inl rfl) rfl

def l_eqMachine_ir : S :=
 (.seq (.ops [⟨some 2, .box 6 (.t 0), none⟩, ⟨some 3, .box 6 (.t 1), none⟩, ⟨some 4, .mv (.v (.bool false)), none⟩])
 (.seq (.seq (.ops [⟨some 5, .fad 0 (.t 2), none⟩, ⟨some 6, .load 1 false (.t 5), none⟩, ⟨some 7, .fad 0 (.t 3), none⟩, ⟨some 8, .load 1 false (.t 7), none⟩, ⟨some 9, .call 113 [.t 6, .t 8], none⟩, ⟨some 10, .not (.t 9), none⟩])
 (.ite (.t 10) (.seq (.ops [⟨some 4, .mv (.v (.bool false)), none⟩])
  .ret)
 .skip))
 (.seq (.seq (.ops [⟨some 11, .fad 1 (.t 2), none⟩, ⟨some 12, .load 1 false (.t 11), none⟩, ⟨some 13, .fad 1 (.t 3), none⟩, ⟨some 14, .load 1 false (.t 13), none⟩, ⟨some 15, .call 50 [.t 12, .t 14], none⟩, ⟨some 16, .not (.t 15), none⟩])
 (.ite (.t 16) (.seq (.ops [⟨some 4, .mv (.v (.bool false)), none⟩])
  .ret)
 .skip))
 (.seq (.seq (.ops [⟨some 17, .fad 2 (.t 2), none⟩, ⟨some 18, .load 3 true (.t 17), none⟩, ⟨some 19, .fad 2 (.t 3), none⟩, ⟨some 20, .load 3 true (.t 19), none⟩, ⟨some 21, .call 29 [.t 18, .t 20], none⟩, ⟨some 22, .not (.t 21), none⟩])
 (.ite (.t 22) (.seq (.ops [⟨some 4, .mv (.v (.bool false)), none⟩])
  .ret)
 .skip))
 (.seq (.seq (.ops [⟨some 23, .fad 5 (.t 2), none⟩, ⟨some 24, .load 1 false (.t 23), none⟩, ⟨some 25, .fad 5 (.t 3), none⟩, ⟨some 26, .load 1 false (.t 25), none⟩, ⟨some 27, .call 50 [.t 24, .t 26], none⟩, ⟨some 28, .not (.t 27), none⟩])
 (.ite (.t 28) (.seq (.ops [⟨some 4, .mv (.v (.bool false)), none⟩])
  .ret)
 .skip))
 (.seq (.ops [⟨some 4, .mv (.v (.bool true)), none⟩])
 .ret))))))
noncomputable def X.l_eqMachine (p0 : TMachine) (p1 : TMachine) : Option Bool :=
  ((X.l_eqFrameS p0.Stack p1.Stack).bind fun v4 => (bif (!v4) then some false else ((X.l_eqIntS p0.Used p1.Used).bind fun v10 => (bif (!v10) then some false else ((X.l_eqState p0.State p1.State).bind fun v16 => (bif (!v16) then some false else ((X.l_eqIntS p0.Log p1.Log).bind fun v19 => (bif (!v19) then some false else some true))))))))
theorem l_eqMachine_ok (p0 : TMachine) (p1 : TMachine) (r : Bool) (H : X.l_eqMachine p0 p1 = some r) : FnOk Tryz.prog gl 46 [.agg (eTMachine p0), .agg (eTMachine p1)] (cB r) := by
  unfold X.l_eqMachine at H
  refine fn_in (fn := Tryz.f46) (ir := l_eqMachine_ir) (s1 := lit [(4, cB r)] []) Tryz.func46 (by kernel_rfl) (by kernel_rfl) (by kernel_rfl) (by kernel_rfl) (by kernel_rfl) ?_
  refine seq_ops [] [] [(2, .c (.pk 2 0)), (3, .c (.pk 3 0))] [(2, .var (eTMachine p0) false), (3, .var (eTMachine p1) false)] (fun t => t) (by kernel_rfl) ?_
  refine seq_in ?_
  obtain ⟨v4, h5, H⟩ := ofBind H
  refine seq_ops [.res (cB v4)] [] [(2, .c (.pk 2 0)), (3, .c (.pk 3 0)), (10, cB (!v4))] [(2, .var (eTMachine p0) false), (3, .var (eTMachine p1) false)] (fun t => aI (l_eqFrameS_ok p0.Stack p1.Stack v4 h5) (t)) (by kernel_rfl) ?_
  rcases ofCond H with ⟨c6, H⟩ | ⟨c6, H⟩
  · refine ite_t c6 (by kernel_rfl) ?_
    refine seq_ops [] [] [(4, cB false)] [] (fun t => t) (by kernel_rfl) ?_
    refine ends_ret ?_
    obtain rfl := Option.some.inj H
    exact And.intro (.inl rfl) rfl
  · refine ite_f c6 (by kernel_rfl) ?_
    refine ends_skip ?_
    change EndsI _ _ _ _ _ _
    refine seq_in ?_
    obtain ⟨v10, h11, H⟩ := ofBind H
    refine seq_ops [.res (cB v10)] [] [(2, .c (.pk 2 0)), (3, .c (.pk 3 0)), (16, cB (!v10))] [(2, .var (eTMachine p0) false), (3, .var (eTMachine p1) false)] (fun t => aI (l_eqIntS_ok p0.Used p1.Used v10 h11) (t)) (by kernel_rfl) ?_
    rcases ofCond H with ⟨c12, H⟩ | ⟨c12, H⟩
    · refine ite_t c12 (by kernel_rfl) ?_
      refine seq_ops [] [] [(4, cB false)] [] (fun t => t) (by kernel_rfl) ?_
      refine ends_ret ?_
      obtain rfl := Option.some.inj H
      exact And.intro (.inl rfl) rfl
    · refine ite_f c12 (by kernel_rfl) ?_
      refine ends_skip ?_
      change EndsI _ _ _ _ _ _
      refine seq_in ?_
      obtain ⟨v16, h17, H⟩ := ofBind H
      refine seq_ops [.res (cB v16)] [] [(2, .c (.pk 2 0)), (3, .c (.pk 3 0)), (22, cB (!v16))] [(2, .var (eTMachine p0) false), (3, .var (eTMachine p1) false)] (fun t => aI (l_eqState_ok p0.State p1.State v16 h17) (t)) (by kernel_rfl) ?_
      rcases ofCond H with ⟨c18, H⟩ | ⟨c18, H⟩
      · refine ite_t c18 (by kernel_rfl) ?_
        refine seq_ops [] [] [(4, cB false)] [] (fun t => t) (by kernel_rfl) ?_
        refine ends_ret ?_
        obtain rfl := Option.some.inj H
        exact And.intro (.inl rfl) rfl
      · refine ite_f c18 (by kernel_rfl) ?_
        refine ends_skip ?_
        change EndsI _ _ _ _ _ _
        refine seq_in ?_
        obtain ⟨v19, h20, H⟩ := ofBind H
        refine seq_ops [.res (cB v19)] [] [(28, cB (!v19))] [] (fun t => aI (l_eqIntS_ok p0.Log p1.Log v19 h20) (t)) (by kernel_rfl) ?_
        rcases ofCond H with ⟨c21, H⟩ | ⟨c21, H⟩
        · refine ite_t c21 (by kernel_rfl) ?_
          refine seq_ops [] [] [(4, cB false)] [] (fun t => t) (by kernel_rfl) ?_
          refine ends_ret ?_
          obtain rfl := Option.some.inj H
          exact And.intro (.inl rfl) rfl
        · refine ite_f c21 (by kernel_rfl) ?_
          refine ends_skip ?_
          change EndsI _ _ _ _ _ _
          refine seq_ops [] [] [(4, cB true)] [] (fun t => t) (by kernel_rfl) ?_
          refine ends_ret ?_
          obtain rfl := Option.some.inj H
          exact And.intro (.inl rfl) rfl

def l_FnExactIsMachine_ir : S :=
 (.seq (.ops [⟨some 3, .box 12 (.t 0), none⟩, ⟨some 5, .box 6 (.t 2), none⟩, ⟨some 6, .mv (.v (.bool false)), none⟩])
 (.seq (.ops [⟨some 7, .mv (.v (.int .i64 1048576)), none⟩])
 (.seq (.ops [⟨some 15, .load 12 true (.t 3), none⟩, ⟨some 16, .mv (.t 7), none⟩, ⟨some 17, .call 15 [.t 15, .t 16], none⟩, ⟨some 7, .mv (.t 17), none⟩])
 (.seq (.seq (.ops [⟨some 18, .mv (.t 7), none⟩, ⟨some 19, .bin .lss (.t 18) (.v (.int .i64 0)), none⟩])
 (.ite (.t 19) (.seq (.ops [⟨some 6, .mv (.v (.bool true)), none⟩])
  .ret)
 .skip))
 (.seq (.ops [⟨some 20, .mv (.t 1), none⟩, ⟨some 21, .mv (.t 7), none⟩, ⟨some 22, .call 39 [.t 20, .t 21], none⟩, ⟨some 7, .mv (.t 22), none⟩])
 (.seq (.seq (.ops [⟨some 23, .mv (.t 7), none⟩, ⟨some 24, .bin .lss (.t 23) (.v (.int .i64 0)), none⟩])
 (.ite (.t 24) (.seq (.ops [⟨some 6, .mv (.v (.bool true)), none⟩])
  .ret)
 .skip))
 (.seq (.ops [⟨some 25, .load 6 true (.t 5), none⟩, ⟨some 26, .mv (.t 7), none⟩, ⟨some 27, .call 40 [.t 25, .t 26], none⟩, ⟨some 7, .mv (.t 27), none⟩])
 (.seq (.seq (.ops [⟨some 28, .mv (.t 7), none⟩, ⟨some 29, .bin .lss (.t 28) (.v (.int .i64 0)), none⟩])
 (.ite (.t 29) (.seq (.ops [⟨some 6, .mv (.v (.bool true)), none⟩])
  .ret)
 .skip))
 (.seq (.draw 12 [⟨some 31, .load 12 true (.t 3), none⟩, ⟨some 32, .call 18 [.t 31], none⟩, ⟨some 33, .mv (.t 1), none⟩, ⟨some 34, .call 42 [.t 33], none⟩, ⟨some 35, .load 6 true (.t 5), none⟩, ⟨some 36, .call 43 [.t 35], none⟩, ⟨some 37, .call 41 [.t 32, .t 34, .t 36], none⟩, ⟨some 30, .mv (.t 37), none⟩, ⟨some 38, .ext (.t 30) 0, none⟩, ⟨some 39, .ext (.t 30) 1, none⟩, ⟨some 8, .mv (.t 38), none⟩, ⟨some 9, .mv (.t 39), none⟩])
 (.seq (.ops [⟨some 40, .load 12 true (.t 3), none⟩, ⟨some 41, .call 18 [.t 40], none⟩, ⟨some 10, .alloc [.nil, .nil, .int .i64 0, .int .i64 0, .int .i64 0, .int .i64 0, .int .i64 0, .int .i64 0, .int .i64 0, .nil, .nil, .nil], none⟩, ⟨none, .store 12 (.t 10) (.t 41), none⟩])
 (.seq (.ops [⟨some 42, .mv (.t 1), none⟩, ⟨some 43, .call 42 [.t 42], none⟩, ⟨some 11, .mv (.t 43), none⟩])
 (.seq (.ops [⟨some 44, .load 6 true (.t 5), none⟩, ⟨some 45, .call 43 [.t 44], none⟩, ⟨some 12, .alloc [.nil, .nil, .int .i64 0, .int .i64 0, .nil, .nil], none⟩, ⟨none, .store 6 (.t 12) (.t 45), none⟩])
 (.seq (.ops [⟨some 47, .load 12 true (.t 10), none⟩, ⟨some 48, .mv (.t 11), none⟩, ⟨some 49, .load 6 true (.t 12), none⟩, ⟨some 50, .call 44 [.t 47, .t 48, .t 49], none⟩, ⟨some 46, .mv (.t 50), none⟩, ⟨some 51, .ext (.t 46) 0, none⟩, ⟨some 52, .ext (.t 46) 1, none⟩, ⟨some 13, .mv (.t 51), none⟩, ⟨some 14, .mv (.t 52), none⟩])
 (.seq (.seq (.ops [⟨some 53, .mv (.t 13), none⟩, ⟨some 54, .mv (.t 8), none⟩, ⟨some 55, .bqe true (.t 53) (.t 54), none⟩, ⟨some 56, .mv (.t 55), none⟩, ⟨some 57, .mv (.t 14), some (56, false)⟩, ⟨some 58, .mv (.t 9), some (56, false)⟩, ⟨some 59, .bqe true (.t 57) (.t 58), some (56, false)⟩, ⟨some 60, .pick (.t 56) (.v (.bool true)) (.t 59), none⟩])
 (.ite (.t 60) (.seq (.ops [⟨some 6, .mv (.v (.bool false)), none⟩])
  .ret)
 .skip))
 (.seq (.seq (.draw 5 [⟨some 61, .load 12 true (.t 10), none⟩, ⟨some 62, .load 12 true (.t 3), none⟩, ⟨some 63, .call 18 [.t 62], none⟩, ⟨some 64, .call 21 [.t 61, .t 63], none⟩, ⟨some 65, .not (.t 64), none⟩])
 (.ite (.t 65) (.seq (.ops [⟨some 6, .mv (.v (.bool false)), none⟩])
  .ret)
 .skip))
 (.seq (.seq (.ops [⟨some 66, .mv (.t 11), none⟩, ⟨some 67, .mv (.t 1), none⟩, ⟨some 68, .call 42 [.t 67], none⟩, ⟨some 69, .call 45 [.t 66, .t 68], none⟩, ⟨some 70, .not (.t 69), none⟩])
 (.ite (.t 70) (.seq (.ops [⟨some 6, .mv (.v (.bool false)), none⟩])
  .ret)
 .skip))
 (.seq (.seq (.draw 5 [⟨some 71, .load 6 true (.t 12), none⟩, ⟨some 72, .load 6 true (.t 5), none⟩, ⟨some 73, .call 43 [.t 72], none⟩, ⟨some 74, .call 46 [.t 71, .t 73], none⟩, ⟨some 75, .not (.t 74), none⟩])
 (.ite (.t 75) (.seq (.ops [⟨some 6, .mv (.v (.bool false)), none⟩])
  .ret)
 .skip))
 (.seq (.ops [⟨some 6, .mv (.v (.bool true)), none⟩])
 .ret))))))))))))))))))
noncomputable def X.l_FnExactIsMachine (p0 : TBoard) (p1 : (List TReaction)) (p2 : TMachine) : Option Bool :=
  ((X.l_szBoard p0 1048576).bind fun v1 => (bif (decide (v1 < 0)) then some true else ((X.l_szReactionS p1 v1).bind fun v5 => (bif (decide (v5 < 0)) then some true else ((X.l_szMachine p2 v5).bind fun v9 => (bif (decide (v9 < 0)) then some true else ((X.l_toBoard p0).bind fun v13 => ((X.l_toReactionS p1).bind fun v15 => ((X.l_toMachine p2).bind fun v17 => ((X.s_IsMachine v13 v15 v17).bind fun v19 => ((X.l_toBoard p0).bind fun v21 => ((X.l_toReactionS p1).bind fun v23 => ((X.l_toMachine p2).bind fun v25 => ((X.i_IsMachine v21 v23 v25).bind fun v27 => (bif (!(v27.1 == v19.1)) then some false else (bif (!(v27.2 == v19.2)) then some false else ((X.l_toBoard p0).bind fun v38 => ((X.l_eqBoard v21 v38).bind fun v40 => (bif (!v40) then some false else ((X.l_toReactionS p1).bind fun v48 => ((X.l_eqReactionS v23 v48).bind fun v50 => (bif (!v50) then some false else ((X.l_toMachine p2).bind fun v53 => ((X.l_eqMachine v25 v53).bind fun v55 => (bif (!v55) then some false else some true)))))))))))))))))))))))))
theorem l_FnExactIsMachine_ok (p0 : TBoard) (p1 : (List TReaction)) (p2 : TMachine) (r : Bool) (H : X.l_FnExactIsMachine p0 p1 p2 = some r) : FnOk Tryz.prog gl 9 [.agg (eTBoard p0), .c (dat 3 eTReaction zTReaction p1), .agg (eTMachine p2)] (cB r) := by
  unfold X.l_FnExactIsMachine at H
  refine fn_in (fn := Tryz.f9) (ir := l_FnExactIsMachine_ir) (s1 := lit [(6, cB r)] []) Tryz.func9 (by kernel_rfl) (by kernel_rfl) (by kernel_rfl) (by kernel_rfl) (by kernel_rfl) ?_
  refine seq_ops [] [] [(1, .c (dat 3 eTReaction zTReaction p1)), (3, .c (.pk 3 0)), (5, .c (.pk 5 0))] [(3, .var (eTBoard p0) false), (5, .var (eTMachine p2) false)] (fun t => t) (by kernel_rfl) ?_
  refine seq_ops [] [] [(1, .c (dat 3 eTReaction zTReaction p1)), (3, .c (.pk 3 0)), (5, .c (.pk 5 0)), (7, cI 1048576)] [(3, .var (eTBoard p0) false), (5, .var (eTMachine p2) false)] (fun t => t) (by kernel_rfl) ?_
  obtain ⟨v1, h2, H⟩ := ofBind H
  refine seq_ops [.res (cI v1)] [] [(1, .c (dat 3 eTReaction zTReaction p1)), (3, .c (.pk 3 0)), (5, .c (.pk 5 0)), (7, cI v1)] [(3, .var (eTBoard p0) false), (5, .var (eTMachine p2) false)] (fun t => aI (l_szBoard_ok p0 1048576 v1 h2) (t)) (by kernel_rfl) ?_
  refine seq_in ?_
  refine seq_ops [] [] [(1, .c (dat 3 eTReaction zTReaction p1)), (3, .c (.pk 3 0)), (5, .c (.pk 5 0)), (7, cI v1), (19, cB (decide (v1 < 0)))] [(3, .var (eTBoard p0) false), (5, .var (eTMachine p2) false)] (fun t => t) (by kernel_rfl) ?_
  rcases ofCond H with ⟨c4, H⟩ | ⟨c4, H⟩
  · refine ite_t c4 (by kernel_rfl) ?_
    refine seq_ops [] [] [(6, cB true)] [] (fun t => t) (by kernel_rfl) ?_
    refine ends_ret ?_
    obtain rfl := Option.some.inj H
    exact And.intro (.inl rfl) rfl
  · refine ite_f c4 (by kernel_rfl) ?_
    refine ends_skip ?_
    change EndsI _ _ _ _ _ _
    obtain ⟨v5, h6, H⟩ := ofBind H
    refine seq_ops [.res (cI v5)] [] [(1, .c (dat 3 eTReaction zTReaction p1)), (3, .c (.pk 3 0)), (5, .c (.pk 5 0)), (7, cI v5)] [(3, .var (eTBoard p0) false), (5, .var (eTMachine p2) false)] (fun t => aI (l_szReactionS_ok p1 v1 v5 h6) (t)) (by kernel_rfl) ?_
    refine seq_in ?_
    refine seq_ops [] [] [(1, .c (dat 3 eTReaction zTReaction p1)), (3, .c (.pk 3 0)), (5, .c (.pk 5 0)), (7, cI v5), (24, cB (decide (v5 < 0)))] [(3, .var (eTBoard p0) false), (5, .var (eTMachine p2) false)] (fun t => t) (by kernel_rfl) ?_
    rcases ofCond H with ⟨c8, H⟩ | ⟨c8, H⟩
    · refine ite_t c8 (by kernel_rfl) ?_
      refine seq_ops [] [] [(6, cB true)] [] (fun t => t) (by kernel_rfl) ?_
      refine ends_ret ?_
      obtain rfl := Option.some.inj H
      exact And.intro (.inl rfl) rfl
    · refine ite_f c8 (by kernel_rfl) ?_
      refine ends_skip ?_
      change EndsI _ _ _ _ _ _
      obtain ⟨v9, h10, H⟩ := ofBind H
      refine seq_ops [.res (cI v9)] [] [(1, .c (dat 3 eTReaction zTReaction p1)), (3, .c (.pk 3 0)), (5, .c (.pk 5 0)), (7, cI v9)] [(3, .var (eTBoard p0) false), (5, .var (eTMachine p2) false)] (fun t => aI (l_szMachine_ok p2 v5 v9 h10) (t)) (by kernel_rfl) ?_
      refine seq_in ?_
      refine seq_ops [] [] [(1, .c (dat 3 eTReaction zTReaction p1)), (3, .c (.pk 3 0)), (5, .c (.pk 5 0)), (29, cB (decide (v9 < 0)))] [(3, .var (eTBoard p0) false), (5, .var (eTMachine p2) false)] (fun t => t) (by kernel_rfl) ?_
      rcases ofCond H with ⟨c12, H⟩ | ⟨c12, H⟩
      · refine ite_t c12 (by kernel_rfl) ?_
        refine seq_ops [] [] [(6, cB true)] [] (fun t => t) (by kernel_rfl) ?_
        refine ends_ret ?_
        obtain rfl := Option.some.inj H
        exact And.intro (.inl rfl) rfl
      · refine ite_f c12 (by kernel_rfl) ?_
        refine ends_skip ?_
        change EndsI _ _ _ _ _ _
        obtain ⟨v13, h14, H⟩ := ofBind H
        obtain ⟨v15, h16, H⟩ := ofBind H
        obtain ⟨v17, h18, H⟩ := ofBind H
        obtain ⟨v19, h20, H⟩ := ofBind H
        refine seq_draw [.res (.agg (eTBoard v13)), .res (.c (dat 3 eTReaction zTReaction v15)), .res (.agg (eTMachine v17)), .res (.tup [(false, [.bool v19.1]), (false, [.bool v19.2])])] [] [(1, .c (dat 3 eTReaction zTReaction p1)), (3, .c (.pk 3 0)), (5, .c (.pk 5 0)), (8, cB v19.1), (9, cB v19.2)] [(3, .var (eTBoard p0) false), (5, .var (eTMachine p2) false)] (fun t => aI (l_toBoard_ok p0 v13 h14) (aI (rfl : ([] : List Nat) = []) (aI (rfl : ([] : List Nat) = []) (aI (l_toReactionS_ok p1 v15 h16) (aI (rfl : ([] : List Nat) = []) (aI (rfl : ([] : List Nat) = []) (aI (l_toMachine_ok p2 v17 h18) (aI (rfl : ([] : List Nat) = []) (aI (rfl : ([] : List Nat) = []) (aI (s_IsMachine_ok v13 v15 v17 v19 h20) (aI trivial (aI (rfl : ([] : List Nat) = []) (t))))))))))))) (by kernel_rfl) ?_
        obtain ⟨v21, h22, H⟩ := ofBind H
        refine seq_ops [.res (.agg (eTBoard v21))] [] [(1, .c (dat 3 eTReaction zTReaction p1)), (3, .c (.pk 3 0)), (5, .c (.pk 5 0)), (8, cB v19.1), (9, cB v19.2), (10, .c (.pk 10 0))] [(3, .var (eTBoard p0) false), (5, .var (eTMachine p2) false), (10, .var (eTBoard v21) false)] (fun t => aI (l_toBoard_ok p0 v21 h22) (t)) (by kernel_rfl) ?_
        obtain ⟨v23, h24, H⟩ := ofBind H
        refine seq_ops [.res (.c (dat 3 eTReaction zTReaction v23))] [] [(1, .c (dat 3 eTReaction zTReaction p1)), (3, .c (.pk 3 0)), (5, .c (.pk 5 0)), (8, cB v19.1), (9, cB v19.2), (10, .c (.pk 10 0)), (11, .c (dat 3 eTReaction zTReaction v23))] [(3, .var (eTBoard p0) false), (5, .var (eTMachine p2) false), (10, .var (eTBoard v21) false)] (fun t => aI (l_toReactionS_ok p1 v23 h24) (t)) (by kernel_rfl) ?_
        obtain ⟨v25, h26, H⟩ := ofBind H
        refine seq_ops [.res (.agg (eTMachine v25))] [] [(1, .c (dat 3 eTReaction zTReaction p1)), (3, .c (.pk 3 0)), (5, .c (.pk 5 0)), (8, cB v19.1), (9, cB v19.2), (10, .c (.pk 10 0)), (11, .c (dat 3 eTReaction zTReaction v23)), (12, .c (.pk 12 0))] [(3, .var (eTBoard p0) false), (5, .var (eTMachine p2) false), (10, .var (eTBoard v21) false), (12, .var (eTMachine v25) false)] (fun t => aI (l_toMachine_ok p2 v25 h26) (t)) (by kernel_rfl) ?_
        obtain ⟨v27, h28, H⟩ := ofBind H
        refine seq_ops [.res (.tup [(false, [.bool v27.1]), (false, [.bool v27.2])])] [] [(1, .c (dat 3 eTReaction zTReaction p1)), (3, .c (.pk 3 0)), (5, .c (.pk 5 0)), (8, cB v19.1), (9, cB v19.2), (10, .c (.pk 10 0)), (11, .c (dat 3 eTReaction zTReaction v23)), (12, .c (.pk 12 0)), (13, cB v27.1), (14, cB v27.2)] [(3, .var (eTBoard p0) false), (5, .var (eTMachine p2) false), (10, .var (eTBoard v21) false), (12, .var (eTMachine v25) false)] (fun t => aI (i_IsMachine_ok v21 v23 v25 v27 h28) (t)) (by kernel_rfl) ?_
        refine seq_in ?_
        rcases ofCond H with ⟨c31, H⟩ | ⟨c31, H⟩
        · refine seq_ops [.g true, .g true, .g true, .g true] [] [(1, .c (dat 3 eTReaction zTReaction p1)), (3, .c (.pk 3 0)), (5, .c (.pk 5 0)), (10, .c (.pk 10 0)), (11, .c (dat 3 eTReaction zTReaction v23)), (12, .c (.pk 12 0)), (60, cB true)] [(3, .var (eTBoard p0) false), (5, .var (eTMachine p2) false), (10, .var (eTBoard v21) false), (12, .var (eTMachine v25) false)] (fun t => aI c31 (aI c31 (aI c31 (aI c31 (t))))) (by kernel_rfl) ?_
          refine ite_t (rfl : (true : Bool) = true) (by kernel_rfl) ?_
          refine seq_ops [] [] [(6, cB false)] [] (fun t => t) (by kernel_rfl) ?_
          refine ends_ret ?_
          obtain rfl := Option.some.inj H
          exact And.intro (.inl rfl) rfl
        · refine seq_ops [.g false, .g false, .g false, .g false] [] [(1, .c (dat 3 eTReaction zTReaction p1)), (3, .c (.pk 3 0)), (5, .c (.pk 5 0)), (10, .c (.pk 10 0)), (11, .c (dat 3 eTReaction zTReaction v23)), (12, .c (.pk 12 0)), (60, cB (!(v27.2 == v19.2)))] [(3, .var (eTBoard p0) false), (5, .var (eTMachine p2) false), (10, .var (eTBoard v21) false), (12, .var (eTMachine v25) false)] (fun t => aI c31 (aI c31 (aI c31 (aI c31 (t))))) (by kernel_rfl) ?_
          rcases ofCond H with ⟨c32, H⟩ | ⟨c32, H⟩
          · refine ite_t c32 (by kernel_rfl) ?_
            refine seq_ops [] [] [(6, cB false)] [] (fun t => t) (by kernel_rfl) ?_
            refine ends_ret ?_
            obtain rfl := Option.some.inj H
            exact And.intro (.inl rfl) rfl
          · refine ite_f c32 (by kernel_rfl) ?_
            refine ends_skip ?_
            change EndsI _ _ _ _ _ _
            refine seq_in ?_
            obtain ⟨v38, h39, H⟩ := ofBind H
            obtain ⟨v40, h41, H⟩ := ofBind H
            refine seq_draw [.res (.agg (eTBoard v38)), .res (cB v40)] [] [(1, .c (dat 3 eTReaction zTReaction p1)), (5, .c (.pk 5 0)), (11, .c (dat 3 eTReaction zTReaction v23)), (12, .c (.pk 12 0)), (65, cB (!v40))] [(5, .var (eTMachine p2) false), (12, .var (eTMachine v25) false)] (fun t => aI (l_toBoard_ok p0 v38 h39) (aI (rfl : ([] : List Nat) = []) (aI (rfl : ([] : List Nat) = []) (aI (l_eqBoard_ok v21 v38 v40 h41) (aI trivial (aI (rfl : ([] : List Nat) = []) (t))))))) (by kernel_rfl) ?_
            rcases ofCond H with ⟨c42, H⟩ | ⟨c42, H⟩
            · refine ite_t c42 (by kernel_rfl) ?_
              refine seq_ops [] [] [(6, cB false)] [] (fun t => t) (by kernel_rfl) ?_
              refine ends_ret ?_
              obtain rfl := Option.some.inj H
              exact And.intro (.inl rfl) rfl
            · refine ite_f c42 (by kernel_rfl) ?_
              refine ends_skip ?_
              change EndsI _ _ _ _ _ _
              refine seq_in ?_
              obtain ⟨v48, h49, H⟩ := ofBind H
              obtain ⟨v50, h51, H⟩ := ofBind H
              refine seq_ops [.res (.c (dat 3 eTReaction zTReaction v48)), .res (cB v50)] [] [(5, .c (.pk 5 0)), (12, .c (.pk 12 0)), (70, cB (!v50))] [(5, .var (eTMachine p2) false), (12, .var (eTMachine v25) false)] (fun t => aI (l_toReactionS_ok p1 v48 h49) (aI (l_eqReactionS_ok v23 v48 v50 h51) (t))) (by kernel_rfl) ?_
              rcases ofCond H with ⟨c52, H⟩ | ⟨c52, H⟩
              · refine ite_t c52 (by kernel_rfl) ?_
                refine seq_ops [] [] [(6, cB false)] [] (fun t => t) (by kernel_rfl) ?_
                refine ends_ret ?_
                obtain rfl := Option.some.inj H
                exact And.intro (.inl rfl) rfl
              · refine ite_f c52 (by kernel_rfl) ?_
                refine ends_skip ?_
                change EndsI _ _ _ _ _ _
                refine seq_in ?_
                obtain ⟨v53, h54, H⟩ := ofBind H
                obtain ⟨v55, h56, H⟩ := ofBind H
                refine seq_draw [.res (.agg (eTMachine v53)), .res (cB v55)] [] [(75, cB (!v55))] [] (fun t => aI (l_toMachine_ok p2 v53 h54) (aI (rfl : ([] : List Nat) = []) (aI (rfl : ([] : List Nat) = []) (aI (l_eqMachine_ok v25 v53 v55 h56) (aI trivial (aI (rfl : ([] : List Nat) = []) (t))))))) (by kernel_rfl) ?_
                rcases ofCond H with ⟨c57, H⟩ | ⟨c57, H⟩
                · refine ite_t c57 (by kernel_rfl) ?_
                  refine seq_ops [] [] [(6, cB false)] [] (fun t => t) (by kernel_rfl) ?_
                  refine ends_ret ?_
                  obtain rfl := Option.some.inj H
                  exact And.intro (.inl rfl) rfl
                · refine ite_f c57 (by kernel_rfl) ?_
                  refine ends_skip ?_
                  change EndsI _ _ _ _ _ _
                  refine seq_ops [] [] [(6, cB true)] [] (fun t => t) (by kernel_rfl) ?_
                  refine ends_ret ?_
                  obtain rfl := Option.some.inj H
                  exact And.intro (.inl rfl) rfl

end Go.Proofs.YtihggbgmdlhlcaaGreatDoor.X0
