/- What each Go function that FnExactSideWorth reaches computes, and that it returns so; no condition. -/
import Derived.Test.YtihggbgmdlhlcaaGreatDoorSWWa
set_option linter.unusedVariables false
set_option linter.unusedSimpArgs false
set_option maxRecDepth 100000
namespace Go.Proofs.YtihggbgmdlhlcaaGreatDoor.X0
open Go Go.RowKit Go.Proofs.YtihggbgmdlhlcaaGreatDoor.Ab Go.Proofs

def s_sUnit_ir : S :=
 (.seq (.ops [⟨some 2, .box 12 (.t 0), none⟩, ⟨some 3, .box 4 (.t 1), none⟩, ⟨some 4, .mv (.v (.bool false)), none⟩])
 (.seq (.seq (.draw 29 [⟨some 5, .fad 0 (.t 3), none⟩, ⟨some 6, .load 1 false (.t 5), none⟩, ⟨some 7, .call 65 [.t 6, .v (.int .i64 0), .v (.int .i64 1)], none⟩, ⟨some 8, .not (.t 7), none⟩, ⟨some 9, .mv (.t 8), none⟩, ⟨some 10, .fad 1 (.t 3), some (9, false)⟩, ⟨some 11, .load 1 false (.t 10), some (9, false)⟩, ⟨some 12, .fad 0 (.t 2), some (9, false)⟩, ⟨some 13, .fad 1 (.t 12), some (9, false)⟩, ⟨some 14, .load 1 false (.t 13), some (9, false)⟩, ⟨some 15, .len (.t 14), some (9, false)⟩, ⟨some 16, .bin .sub (.t 15) (.v (.int .i64 1)), some (9, false)⟩, ⟨some 17, .call 65 [.t 11, .v (.int .i64 0), .t 16], some (9, false)⟩, ⟨some 18, .not (.t 17), some (9, false)⟩, ⟨some 19, .pick (.t 9) (.v (.bool true)) (.t 18), none⟩, ⟨some 20, .mv (.t 19), none⟩, ⟨some 21, .fad 3 (.t 3), some (20, false)⟩, ⟨some 22, .load 1 false (.t 21), some (20, false)⟩, ⟨some 23, .fad 0 (.t 2), some (20, false)⟩, ⟨some 24, .fad 1 (.t 23), some (20, false)⟩, ⟨some 25, .load 1 false (.t 24), some (20, false)⟩, ⟨some 26, .fad 1 (.t 3), some (20, false)⟩, ⟨some 27, .load 1 false (.t 26), some (20, false)⟩, ⟨some 28, .iad 6 (.t 25) (.t 27), some (20, false)⟩, ⟨some 29, .fad 3 (.t 28), some (20, false)⟩, ⟨some 30, .load 1 false (.t 29), some (20, false)⟩, ⟨some 31, .call 65 [.t 22, .v (.int .i64 0), .t 30], some (20, false)⟩, ⟨some 32, .not (.t 31), some (20, false)⟩, ⟨some 33, .pick (.t 20) (.v (.bool true)) (.t 32), none⟩])
 (.ite (.t 33) (.seq (.ops [⟨some 4, .mv (.v (.bool false)), none⟩])
  .ret)
 .skip))
 (.seq (.draw 27 [⟨some 34, .fad 2 (.t 3), none⟩, ⟨some 35, .load 1 false (.t 34), none⟩, ⟨some 36, .bin .eql (.t 35) (.v (.int .i64 (-1))), none⟩, ⟨some 37, .mv (.t 36), none⟩, ⟨some 38, .fad 3 (.t 3), some (37, false)⟩, ⟨some 39, .load 1 false (.t 38), some (37, false)⟩, ⟨some 40, .bin .gtr (.t 39) (.v (.int .i64 0)), some (37, false)⟩, ⟨some 41, .mv (.t 40), some (37, false)⟩, ⟨some 42, .fad 2 (.t 3), some (41, true)⟩, ⟨some 43, .load 1 false (.t 42), some (41, true)⟩, ⟨some 44, .fad 7 (.t 2), some (41, true)⟩, ⟨some 45, .load 5 true (.t 44), some (41, true)⟩, ⟨some 46, .call 132 [.t 45], some (41, true)⟩, ⟨some 47, .bin .sub (.t 46) (.v (.int .i64 1)), some (41, true)⟩, ⟨some 48, .call 65 [.t 43, .v (.int .i64 0), .t 47], some (41, true)⟩, ⟨some 49, .pick (.t 41) (.t 48) (.v (.bool false)), some (37, false)⟩, ⟨some 50, .mv (.t 49), some (37, false)⟩, ⟨some 51, .load 12 true (.t 2), some (50, true)⟩, ⟨some 52, .fad 1 (.t 3), some (50, true)⟩, ⟨some 53, .load 1 false (.t 52), some (50, true)⟩, ⟨some 54, .fad 2 (.t 3), some (50, true)⟩, ⟨some 55, .load 1 false (.t 54), some (50, true)⟩, ⟨some 56, .call 134 [.t 51, .t 53, .t 55], some (50, true)⟩, ⟨some 57, .bin .gtr (.t 56) (.v (.int .i64 0)), some (50, true)⟩, ⟨some 58, .pick (.t 50) (.t 57) (.v (.bool false)), some (37, false)⟩, ⟨some 59, .pick (.t 37) (.v (.bool true)) (.t 58), none⟩, ⟨some 4, .mv (.t 59), none⟩])
 .ret)))
noncomputable def X.s_sUnit (p0 : TBoard) (p1 : TUnit) : Option Bool :=
  ((X.s_l1In p1.Side 0 1).bind fun v12 => (bif (!v12) then some false else ((X.s_l1In p1.Kind 0 (W ((p0.Rules.Kinds.length : Int) - 1))).bind fun v15 => (bif (!v15) then some false else ((at' zTKind p0.Rules.Kinds p1.Kind).bind fun v18 => ((X.s_l1In p1.Steps 0 v18.Steps).bind fun v20 => (bif (!v20) then some false else (bif (p1.At == (-1)) then some true else (bif (decide (p1.Steps > 0)) then ((X.s_mSize p0.Map).bind fun v25 => ((X.s_l1In p1.At 0 (W (v25 - 1))).bind fun v27 => (bif v27 then ((X.s_bCost p0 p1.Kind p1.At).bind fun v30 => some (decide (v30 > 0))) else some false))) else some false)))))))))
theorem s_sUnit_ok (p0 : TBoard) (p1 : TUnit) (r : Bool) (H : X.s_sUnit p0 p1 = some r) : FnOk Tryz.prog gl 206 [.agg (eTBoard p0), .agg (eTUnit p1)] (cB r) := by
  unfold X.s_sUnit at H
  refine fn_in (fn := Tryz.f206) (ir := s_sUnit_ir) (s1 := lit [(4, cB r)] []) Tryz.func206 (by kernel_rfl) (by kernel_rfl) (by kernel_rfl) (by kernel_rfl) (by kernel_rfl) ?_
  refine seq_ops [] [] [(2, .c (.pk 2 0)), (3, .c (.pk 3 0))] [(2, .var (eTBoard p0) false), (3, .var (eTUnit p1) false)] (fun t => t) (by kernel_rfl) ?_
  refine seq_in ?_
  obtain ⟨v12, h13, H⟩ := ofBind H
  rcases ofCond H with ⟨c14, H⟩ | ⟨c14, H⟩
  · refine seq_draw [.res (cB v12), .g true, .g true, .g true, .g true, .g true, .g true, .g true, .g true, .g true, .g true, .g true, .g true, .g true, .g true, .g true, .g true, .g true, .g true, .g true, .g true, .g true, .g true, .g true] [] [(2, .c (.pk 2 0)), (3, .c (.pk 3 0)), (33, cB true)] [(2, .var (eTBoard p0) false), (3, .var (eTUnit p1) false)] (fun t => aI (s_l1In_ok p1.Side 0 1 v12 h13) (aI trivial (aI (rfl : ([] : List Nat) = []) (aI c14 (aI c14 (aI c14 (aI c14 (aI c14 (aI c14 (aI c14 (aI c14 (aI c14 (aI c14 (aI (rfl : (true : Bool) = true) (aI (rfl : (true : Bool) = true) (aI (rfl : (true : Bool) = true) (aI (rfl : (true : Bool) = true) (aI (rfl : (true : Bool) = true) (aI (rfl : (true : Bool) = true) (aI (rfl : (true : Bool) = true) (aI (rfl : (true : Bool) = true) (aI (rfl : (true : Bool) = true) (aI (rfl : (true : Bool) = true) (aI (rfl : (true : Bool) = true) (aI (rfl : (true : Bool) = true) (aI (rfl : (true : Bool) = true) (t))))))))))))))))))))))))))) (by kernel_rfl) ?_
    refine ite_t (rfl : (true : Bool) = true) (by kernel_rfl) ?_
    refine seq_ops [] [] [(4, cB false)] [] (fun t => t) (by kernel_rfl) ?_
    refine ends_ret ?_
    obtain rfl := Option.some.inj H
    exact And.intro (.inl rfl) rfl
  · obtain ⟨v15, h16, H⟩ := ofBind H
    rcases ofCond H with ⟨c17, H⟩ | ⟨c17, H⟩
    · refine seq_draw [.res (cB v12), .g false, .g false, .g false, .g false, .g false, .g false, .g false, .g false, .res (cB v15), .g false, .g false, .g true, .g true, .g true, .g true, .g true, .g true, .g true, .g true, .g true, .g true, .g true, .g true, .g true] [] [(2, .c (.pk 2 0)), (3, .c (.pk 3 0)), (33, cB true)] [(2, .var (eTBoard p0) false), (3, .var (eTUnit p1) false)] (fun t => aI (s_l1In_ok p1.Side 0 1 v12 h13) (aI trivial (aI (rfl : ([] : List Nat) = []) (aI c14 (aI c14 (aI c14 (aI c14 (aI c14 (aI c14 (aI c14 (aI c14 (aI (s_l1In_ok p1.Kind 0 (W ((p0.Rules.Kinds.length : Int) - 1)) v15 h16) (aI trivial (aI (rfl : ([] : List Nat) = []) (aI c14 (aI c14 (aI c17 (aI c17 (aI c17 (aI c17 (aI c17 (aI c17 (aI c17 (aI c17 (aI c17 (aI c17 (aI c17 (aI c17 (aI c17 (t)))))))))))))))))))))))))))))) (by kernel_rfl) ?_
      refine ite_t (rfl : (true : Bool) = true) (by kernel_rfl) ?_
      refine seq_ops [] [] [(4, cB false)] [] (fun t => t) (by kernel_rfl) ?_
      refine ends_ret ?_
      obtain rfl := Option.some.inj H
      exact And.intro (.inl rfl) rfl
    · obtain ⟨v18, h19, H⟩ := ofBind H
      obtain ⟨v20, h21, H⟩ := ofBind H
      refine seq_draw [.res (cB v12), .g false, .g false, .g false, .g false, .g false, .g false, .g false, .g false, .res (cB v15), .g false, .g false, .g false, .g false, .g false, .g false, .g false, .g false, .g false, .g false, .cs (eTKind v18), .g false, .g false, .g false, .res (cB v20), .g false, .g false] [] [(2, .c (.pk 2 0)), (3, .c (.pk 3 0)), (33, cB (!v20))] [(2, .var (eTBoard p0) false), (3, .var (eTUnit p1) false)] (fun t => aI (s_l1In_ok p1.Side 0 1 v12 h13) (aI trivial (aI (rfl : ([] : List Nat) = []) (aI c14 (aI c14 (aI c14 (aI c14 (aI c14 (aI c14 (aI c14 (aI c14 (aI (s_l1In_ok p1.Kind 0 (W ((p0.Rules.Kinds.length : Int) - 1)) v15 h16) (aI trivial (aI (rfl : ([] : List Nat) = []) (aI c14 (aI c14 (aI c17 (aI c17 (aI c17 (aI c17 (aI c17 (aI c17 (aI c17 (aI c17 (aI (at_lt h19) (aI (at_enc (enc := eTKind) h19) (aI c17 (aI c17 (aI (rfl : ([] : List Nat) = []) (aI c17 (aI (s_l1In_ok p1.Steps 0 v18.Steps v20 h21) (aI trivial (aI (rfl : ([] : List Nat) = []) (aI c17 (aI c17 (t)))))))))))))))))))))))))))))))))))) (by kernel_rfl) ?_
      rcases ofCond H with ⟨c22, H⟩ | ⟨c22, H⟩
      · refine ite_t c22 (by kernel_rfl) ?_
        refine seq_ops [] [] [(4, cB false)] [] (fun t => t) (by kernel_rfl) ?_
        refine ends_ret ?_
        obtain rfl := Option.some.inj H
        exact And.intro (.inl rfl) rfl
      · refine ite_f c22 (by kernel_rfl) ?_
        refine ends_skip ?_
        change EndsI _ _ _ _ _ _
        rcases ofCond H with ⟨c23, H⟩ | ⟨c23, H⟩
        · refine seq_draw [.g true, .g true, .g true, .g true, .g true, .g true, .g true, .g true] [] [(4, cB true)] [] (fun t => aI c23 (aI c23 (aI c23 (aI c23 (aI c23 (aI c23 (aI c23 (aI c23 (t))))))))) (by kernel_rfl) ?_
          refine ends_ret ?_
          obtain rfl := Option.some.inj H
          exact And.intro (.inl rfl) rfl
        · rcases ofCond H with ⟨c24, H⟩ | ⟨c24, H⟩
          · obtain ⟨v25, h26, H⟩ := ofBind H
            obtain ⟨v27, h28, H⟩ := ofBind H
            rcases ofCond H with ⟨c29, H⟩ | ⟨c29, H⟩
            · obtain ⟨v30, h31, H⟩ := ofBind H
              refine seq_draw [.g false, .g false, .g false, .g false, .g true, .g true, .g true, .g true, .g true, .res (cI v25), .g true, .g true, .res (cB v27), .g false, .g true, .g false, .g true, .g true, .g true, .g true, .g true, .g true, .res (cI v30), .g true, .g false, .g true, .g false] [] [(4, cB (decide (v30 > 0)))] [] (fun t => aI c23 (aI c23 (aI c23 (aI c23 (aI c24 (aI c24 (aI c24 (aI c24 (aI c24 (aI (s_mSize_ok p0.Map v25 h26) (aI trivial (aI (rfl : ([] : List Nat) = []) (aI c24 (aI c24 (aI (s_l1In_ok p1.At 0 (W (v25 - 1)) v27 h28) (aI trivial (aI (rfl : ([] : List Nat) = []) (aI c23 (aI c24 (aI c23 (aI c29 (aI c29 (aI c29 (aI c29 (aI c29 (aI c29 (aI (s_bCost_ok p0 p1.Kind p1.At v30 h31) (aI trivial (aI (rfl : ([] : List Nat) = []) (aI c29 (aI c23 (aI c29 (aI c23 (t)))))))))))))))))))))))))))))))))) (by kernel_rfl) ?_
              refine ends_ret ?_
              obtain rfl := Option.some.inj H
              exact And.intro (.inl rfl) rfl
            · refine seq_draw [.g false, .g false, .g false, .g false, .g true, .g true, .g true, .g true, .g true, .res (cI v25), .g true, .g true, .res (cB v27), .g false, .g true, .g false, .g false, .g false, .g false, .g false, .g false, .g false, .g false, .g false, .g false, .g false] [] [(4, cB false)] [] (fun t => aI c23 (aI c23 (aI c23 (aI c23 (aI c24 (aI c24 (aI c24 (aI c24 (aI c24 (aI (s_mSize_ok p0.Map v25 h26) (aI trivial (aI (rfl : ([] : List Nat) = []) (aI c24 (aI c24 (aI (s_l1In_ok p1.At 0 (W (v25 - 1)) v27 h28) (aI trivial (aI (rfl : ([] : List Nat) = []) (aI c23 (aI c24 (aI c23 (aI c29 (aI c29 (aI c29 (aI c29 (aI c29 (aI c29 (aI c29 (aI c23 (aI c29 (aI c23 (t))))))))))))))))))))))))))))))) (by kernel_rfl) ?_
              refine ends_ret ?_
              obtain rfl := Option.some.inj H
              exact And.intro (.inl rfl) rfl
          · refine seq_draw [.g false, .g false, .g false, .g false, .g false, .g false, .g false, .g false, .g false, .g false, .g false, .g false, .g false, .g false, .g false, .g false, .g false, .g false, .g false, .g false, .g false, .g false, .g false, .g false] [] [(4, cB false)] [] (fun t => aI c23 (aI c23 (aI c23 (aI c23 (aI c24 (aI c24 (aI c24 (aI c24 (aI c24 (aI c24 (aI c24 (aI c23 (aI c24 (aI c23 (aI (rfl : (false : Bool) = false) (aI (rfl : (false : Bool) = false) (aI (rfl : (false : Bool) = false) (aI (rfl : (false : Bool) = false) (aI (rfl : (false : Bool) = false) (aI (rfl : (false : Bool) = false) (aI (rfl : (false : Bool) = false) (aI c23 (aI (rfl : (false : Bool) = false) (aI c23 (t))))))))))))))))))))))))) (by kernel_rfl) ?_
            refine ends_ret ?_
            obtain rfl := Option.some.inj H
            exact And.intro (.inl rfl) rfl

def s_sAt_ir : S :=
 (.seq (.ops [⟨some 3, .box 3 (.t 0), none⟩, ⟨some 6, .mv (.v (.nil)), none⟩])
 (.seq (.ops [⟨some 7, .mv (.v (.nil)), none⟩])
 (.seq (.seq (.ops [⟨some 10, .fad 2 (.t 3), none⟩, ⟨some 11, .load 1 false (.t 10), none⟩, ⟨some 12, .len (.t 11), none⟩, ⟨some 13, .mv (.v (.int .i64 0)), none⟩])
 (.blk 0 (.loop (.seq (.ops [⟨some 14, .bin .lss (.t 13) (.t 12), none⟩])
   (.seq (.ite (.t 14) .skip
   (.exit 0))
   (.seq (.blk 1 (.seq (.ops [⟨some 15, .mv (.t 13), none⟩, ⟨some 16, .iad 4 (.t 11) (.t 13), none⟩, ⟨some 17, .load 4 true (.t 16), none⟩, ⟨some 9, .alloc [.int .i64 0, .int .i64 0, .int .i64 0, .int .i64 0], none⟩, ⟨some 8, .mv (.t 15), none⟩, ⟨none, .store 4 (.t 9) (.t 17), none⟩])
    (.seq (.ops [⟨some 18, .fad 2 (.t 9), none⟩, ⟨some 19, .load 1 false (.t 18), none⟩, ⟨some 20, .mv (.t 1), none⟩, ⟨some 21, .bin .eql (.t 19) (.t 20), none⟩, ⟨some 22, .mv (.t 21), none⟩, ⟨some 23, .fad 0 (.t 9), some (22, true)⟩, ⟨some 24, .load 1 false (.t 23), some (22, true)⟩, ⟨some 25, .mv (.t 2), some (22, true)⟩, ⟨some 26, .bin .eql (.t 24) (.t 25), some (22, true)⟩, ⟨some 27, .pick (.t 22) (.t 26) (.v (.bool false)), none⟩])
    (.ite (.t 27) (.ops [⟨some 28, .mv (.t 7), none⟩, ⟨some 29, .mv (.t 8), none⟩, ⟨some 30, .bsl 1 [.t 29], none⟩, ⟨some 31, .app 1 8 (.t 28) (.t 30), none⟩, ⟨some 7, .mv (.t 31), none⟩])
    .skip))))
   (.ops [⟨some 32, .bin .add (.t 13) (.v (.int .i64 1)), none⟩, ⟨some 13, .mv (.t 32), none⟩])))))))
 (.seq (.ops [⟨some 33, .mv (.t 7), none⟩, ⟨some 6, .mv (.t 33), none⟩])
 .ret))))
noncomputable def X.s_sAt (p0 : TState) (p1 : Int) (p2 : Int) : Option (List Int) :=
  ((loop (fun (x16 : (Int × (List Int))) => ((bif (decide (x16.1 < (p0.Units.length : Int))) then ((at' zTUnit p0.Units x16.1).bind fun v19 => (bif (v19.At == p1) then (bif (v19.Side == p2) then (if (x16.2 ++ ([x16.1] : List Int)).length ≤ LIM then some (Sum.inl ((W (x16.1 + 1)), (x16.2 ++ ([x16.1] : List Int)))) else none) else some (Sum.inl ((W (x16.1 + 1)), x16.2))) else some (Sum.inl ((W (x16.1 + 1)), x16.2)))) else some (Sum.inr x16.2)) : Option ((Int × (List Int)) ⊕ (List Int)))) (0, ([] : List Int))).bind fun y24 => some y24)
theorem s_sAt_ok (p0 : TState) (p1 : Int) (p2 : Int) (r : (List Int)) (H : X.s_sAt p0 p1 p2 = some r) : FnOk Tryz.prog gl 207 [.agg (eTState p0), cI p1, cI p2] (.c (dat 1 eI zI r)) := by
  unfold X.s_sAt at H
  refine fn_in (fn := Tryz.f207) (ir := s_sAt_ir) (s1 := lit [(6, .c (dat 1 eI zI r))] []) Tryz.func207 (by kernel_rfl) (by kernel_rfl) (by kernel_rfl) (by kernel_rfl) (by kernel_rfl) ?_
  refine seq_ops [] [] [(1, cI p1), (2, cI p2), (3, .c (.pk 3 0))] [(3, .var (eTState p0) false)] (fun t => t) (by kernel_rfl) ?_
  refine seq_ops [] [] [(1, cI p1), (2, cI p2), (3, .c (.pk 3 0)), (7, .c (.nil))] [(3, .var (eTState p0) false)] (fun t => t) (by kernel_rfl) ?_
  refine seq_in ?_
  refine seq_ops [] [] [(1, cI p1), (2, cI p2), (7, .c (.nil)), (11, .c (dat 4 eTUnit zTUnit p0.Units)), (12, cI (p0.Units.length : Int)), (13, cI 0)] [] (fun t => lI p0.Units (t)) (by kernel_rfl) ?_
  refine ends_blk ?_
  obtain ⟨y24, h25, H⟩ := ofBind H
  refine tell [.nlo 7 1001 1 (fF eI zI ([] : List Int))] [(1, cI p1), (2, cI p2), (7, .c (.own 1001 1 0 (([] : List Int).length))), (11, .c (dat 4 eTUnit zTUnit p0.Units)), (12, cI (p0.Units.length : Int)), (13, cI 0)] [(1001, .arr 1 (([] : List Int).length) (fF eI zI ([] : List Int)) false)] (fun t => aI (by decide : 0 < 1) (t)) (by kernel_rfl) ?_
  refine loop_in (fun (x : (Int × (List Int))) => lit [(1, cI p1), (2, cI p2), (7, .c (.own 1001 1 0 x.2.length)), (11, .c (dat 4 eTUnit zTUnit p0.Units)), (12, cI (p0.Units.length : Int)), (13, cI x.1)] [(1001, .arr 1 x.2.length (fF eI zI x.2) false)]) (fun (z : (List Int)) => At (.exit 0) (lit [(7, .c (.own 1001 1 0 z.length))] [(1001, .arr 1 z.length (fF eI zI z) false)])) h25 ?_ ?_
  · clear H h25
    intro x16 y0 H
    refine seq_ops [] [] [(1, cI p1), (2, cI p2), (7, .c (.own 1001 1 0 x16.2.length)), (11, .c (dat 4 eTUnit zTUnit p0.Units)), (12, cI (p0.Units.length : Int)), (13, cI x16.1), (14, cB (decide (x16.1 < (p0.Units.length : Int))))] [(1001, .arr 1 x16.2.length (fF eI zI x16.2) false)] (fun t => t) (by kernel_rfl) ?_
    refine seq_in ?_
    rcases ofCond H with ⟨c18, H⟩ | ⟨c18, H⟩
    · refine ite_t c18 (by kernel_rfl) ?_
      refine ends_skip ?_
      change EndsI _ _ _ _ _ _
      refine seq_in ?_
      refine ends_blk ?_
      obtain ⟨v19, h20, H⟩ := ofBind H
      refine seq_ops [.cs (eTUnit v19)] [] [(1, cI p1), (2, cI p2), (7, .c (.own 1001 1 0 x16.2.length)), (8, cI x16.1), (9, .c (.pk 9 0)), (11, .c (dat 4 eTUnit zTUnit p0.Units)), (12, cI (p0.Units.length : Int)), (13, cI x16.1)] [(9, .var (eTUnit v19) false), (1001, .arr 1 x16.2.length (fF eI zI x16.2) false)] (fun t => aI (at_lt h20) (aI (at_enc (enc := eTUnit) h20) (t))) (by kernel_rfl) ?_
      rcases ofCond H with ⟨c21, H⟩ | ⟨c21, H⟩
      · refine seq_ops [.g true, .g true, .g true, .g true, .g true] [] [(1, cI p1), (2, cI p2), (7, .c (.own 1001 1 0 x16.2.length)), (8, cI x16.1), (11, .c (dat 4 eTUnit zTUnit p0.Units)), (12, cI (p0.Units.length : Int)), (13, cI x16.1), (27, cB (v19.Side == p2))] [(1001, .arr 1 x16.2.length (fF eI zI x16.2) false)] (fun t => aI c21 (aI c21 (aI c21 (aI c21 (aI c21 (t)))))) (by kernel_rfl) ?_
        rcases ofCond H with ⟨c22, H⟩ | ⟨c22, H⟩
        · refine ite_t c22 (by kernel_rfl) ?_
          obtain ⟨g23, H⟩ := ofIf H
          refine one_ops [.fn ([x16.1] : List Int).length (fF eI zI ([x16.1] : List Int)), .fn (x16.2 ++ ([x16.1] : List Int)).length (fF eI zI (x16.2 ++ ([x16.1] : List Int)))] [] [(1, cI p1), (2, cI p2), (7, .c (.own 31 1 0 ((x16.2 ++ ([x16.1] : List Int)).length))), (11, .c (dat 4 eTUnit zTUnit p0.Units)), (12, cI (p0.Units.length : Int)), (13, cI x16.1)] [(31, .arr 1 ((x16.2 ++ ([x16.1] : List Int)).length) (fF eI zI (x16.2 ++ ([x16.1] : List Int))) false)] (fun t => aI (rfl : ([x16.1] : List Int).length = 1) (aI (fF_lit eI zI ([x16.1] : List Int)) (aI (And.intro (Nat.le_refl x16.2.length) (And.intro (@List.length_append _ x16.2 ([x16.1] : List Int)) g23)) (aI (fF_appL eI zI x16.2 ([x16.1] : List Int)) (aI (fF_appR eI zI x16.2 ([x16.1] : List Int)) (t)))))) (by kernel_rfl) ?_
          change EndsI _ _ _ _ _ _
          refine one_ops [] [.ren 31 1001] [(1, cI p1), (2, cI p2), (7, .c (.own 1001 1 0 ((x16.2 ++ ([x16.1] : List Int)).length))), (11, .c (dat 4 eTUnit zTUnit p0.Units)), (12, cI (p0.Units.length : Int)), (13, cI (W (x16.1 + 1)))] [(1001, .arr 1 ((x16.2 ++ ([x16.1] : List Int)).length) (fF eI zI (x16.2 ++ ([x16.1] : List Int))) false)] (fun t => t) (by kernel_rfl) ?_
          obtain rfl := Option.some.inj H
          exact And.intro rfl rfl
        · refine ite_f c22 (by kernel_rfl) ?_
          refine ends_skip ?_
          change EndsI _ _ _ _ _ _
          refine one_ops [] [] [(1, cI p1), (2, cI p2), (7, .c (.own 1001 1 0 x16.2.length)), (11, .c (dat 4 eTUnit zTUnit p0.Units)), (12, cI (p0.Units.length : Int)), (13, cI (W (x16.1 + 1)))] [(1001, .arr 1 x16.2.length (fF eI zI x16.2) false)] (fun t => t) (by kernel_rfl) ?_
          obtain rfl := Option.some.inj H
          exact And.intro rfl rfl
      · refine seq_ops [.g false, .g false, .g false, .g false, .g false] [] [(1, cI p1), (2, cI p2), (7, .c (.own 1001 1 0 x16.2.length)), (8, cI x16.1), (11, .c (dat 4 eTUnit zTUnit p0.Units)), (12, cI (p0.Units.length : Int)), (13, cI x16.1), (27, cB false)] [(1001, .arr 1 x16.2.length (fF eI zI x16.2) false)] (fun t => aI c21 (aI c21 (aI c21 (aI c21 (aI c21 (t)))))) (by kernel_rfl) ?_
        refine ite_f (rfl : (false : Bool) = false) (by kernel_rfl) ?_
        refine ends_skip ?_
        change EndsI _ _ _ _ _ _
        refine one_ops [] [] [(1, cI p1), (2, cI p2), (7, .c (.own 1001 1 0 x16.2.length)), (11, .c (dat 4 eTUnit zTUnit p0.Units)), (12, cI (p0.Units.length : Int)), (13, cI (W (x16.1 + 1)))] [(1001, .arr 1 x16.2.length (fF eI zI x16.2) false)] (fun t => t) (by kernel_rfl) ?_
        obtain rfl := Option.some.inj H
        exact And.intro rfl rfl
    · refine ite_f c18 (by kernel_rfl) ?_
      refine tell [] [(7, .c (.own 1001 1 0 x16.2.length))] [(1001, .arr 1 x16.2.length (fF eI zI x16.2) false)] (fun t => t) (by kernel_rfl) ?_
      refine ends_exit ?_
      obtain rfl := Option.some.inj H
      exact And.intro (by simp) (And.intro rfl rfl)
  · clear h25
    intro e s q
    obtain ⟨rfl, rfl⟩ := q
    change EndsI _ _ _ _ _ _
    refine seq_ops [] [] [(6, .c (.own 1001 1 0 y24.length))] [(1001, .arr 1 y24.length (fF eI zI y24) false)] (fun t => t) (by kernel_rfl) ?_
    refine tell [.frz 6] [(6, .c (dat 1 eI zI y24))] [] (fun t => aI (Nat.le_refl y24.length) (t)) (by kernel_rfl) ?_
    refine ends_ret ?_
    obtain rfl := Option.some.inj H
    exact And.intro (.inl rfl) rfl

def s_sGood_ir : S :=
 (.seq (.ops [⟨some 2, .box 12 (.t 0), none⟩, ⟨some 3, .box 3 (.t 1), none⟩, ⟨some 4, .mv (.v (.bool false)), none⟩])
 (.seq (.seq (.ops [⟨some 9, .load 12 true (.t 2), none⟩, ⟨some 10, .call 106 [.t 9], none⟩, ⟨some 11, .not (.t 10), none⟩, ⟨some 12, .mv (.t 11), none⟩, ⟨some 13, .fad 0 (.t 3), some (12, false)⟩, ⟨some 14, .load 1 false (.t 13), some (12, false)⟩, ⟨some 15, .fad 0 (.t 2), some (12, false)⟩, ⟨some 16, .fad 6 (.t 15), some (12, false)⟩, ⟨some 17, .load 1 false (.t 16), some (12, false)⟩, ⟨some 18, .call 65 [.t 14, .v (.int .i64 0), .t 17], some (12, false)⟩, ⟨some 19, .not (.t 18), some (12, false)⟩, ⟨some 20, .pick (.t 12) (.v (.bool true)) (.t 19), none⟩, ⟨some 21, .mv (.t 20), none⟩, ⟨some 22, .fad 1 (.t 3), some (21, false)⟩, ⟨some 23, .load 1 false (.t 22), some (21, false)⟩, ⟨some 24, .call 65 [.t 23, .v (.int .i64 0), .v (.int .i64 2)], some (21, false)⟩, ⟨some 25, .not (.t 24), some (21, false)⟩, ⟨some 26, .pick (.t 21) (.v (.bool true)) (.t 25), none⟩, ⟨some 27, .mv (.t 26), none⟩, ⟨some 28, .fad 2 (.t 3), some (27, false)⟩, ⟨some 29, .load 1 false (.t 28), some (27, false)⟩, ⟨some 30, .len (.t 29), some (27, false)⟩, ⟨some 31, .bin .gtr (.t 30) (.v (.int .i64 12)), some (27, false)⟩, ⟨some 32, .pick (.t 27) (.v (.bool true)) (.t 31), none⟩])
 (.ite (.t 32) (.seq (.ops [⟨some 4, .mv (.v (.bool false)), none⟩])
  .ret)
 .skip))
 (.seq (.seq (.ops [⟨some 33, .fad 2 (.t 3), none⟩, ⟨some 34, .load 1 false (.t 33), none⟩, ⟨some 35, .len (.t 34), none⟩, ⟨some 36, .mv (.v (.int .i64 0)), none⟩])
 (.blk 0 (.loop (.seq (.ops [⟨some 37, .bin .lss (.t 36) (.t 35), none⟩])
   (.seq (.ite (.t 37) .skip
   (.exit 0))
   (.seq (.blk 1 (.seq (.ops [⟨some 38, .iad 4 (.t 34) (.t 36), none⟩, ⟨some 39, .load 4 true (.t 38), none⟩, ⟨some 6, .alloc [.int .i64 0, .int .i64 0, .int .i64 0, .int .i64 0], none⟩, ⟨none, .store 4 (.t 6) (.t 39), none⟩])
    (.seq (.ops [⟨some 40, .load 12 true (.t 2), none⟩, ⟨some 41, .load 4 true (.t 6), none⟩, ⟨some 42, .call 206 [.t 40, .t 41], none⟩, ⟨some 43, .not (.t 42), none⟩])
    (.ite (.t 43) (.seq (.ops [⟨some 4, .mv (.v (.bool false)), none⟩])
     .ret)
    .skip))))
   (.ops [⟨some 44, .bin .add (.t 36) (.v (.int .i64 1)), none⟩, ⟨some 36, .mv (.t 44), none⟩])))))))
 (.seq (.seq (.ops [⟨some 45, .fad 2 (.t 3), none⟩, ⟨some 46, .load 1 false (.t 45), none⟩, ⟨some 47, .len (.t 46), none⟩, ⟨some 48, .mv (.v (.int .i64 0)), none⟩])
 (.blk 2 (.loop (.seq (.ops [⟨some 49, .bin .lss (.t 48) (.t 47), none⟩])
   (.seq (.ite (.t 49) .skip
   (.exit 2))
   (.seq (.blk 3 (.seq (.ops [⟨some 50, .iad 4 (.t 46) (.t 48), none⟩, ⟨some 51, .load 4 true (.t 50), none⟩, ⟨some 8, .alloc [.int .i64 0, .int .i64 0, .int .i64 0, .int .i64 0], none⟩, ⟨none, .store 4 (.t 8) (.t 51), none⟩])
    (.seq (.draw 27 [⟨some 52, .fad 2 (.t 8), none⟩, ⟨some 53, .load 1 false (.t 52), none⟩, ⟨some 54, .bin .geq (.t 53) (.v (.int .i64 0)), none⟩, ⟨some 55, .mv (.t 54), none⟩, ⟨some 56, .load 3 true (.t 3), some (55, true)⟩, ⟨some 57, .fad 2 (.t 8), some (55, true)⟩, ⟨some 58, .load 1 false (.t 57), some (55, true)⟩, ⟨some 59, .fad 0 (.t 8), some (55, true)⟩, ⟨some 60, .load 1 false (.t 59), some (55, true)⟩, ⟨some 61, .bin .sub (.v (.int .i64 1)) (.t 60), some (55, true)⟩, ⟨some 62, .call 207 [.t 56, .t 58, .t 61], some (55, true)⟩, ⟨some 63, .len (.t 62), some (55, true)⟩, ⟨some 64, .bin .gtr (.t 63) (.v (.int .i64 0)), some (55, true)⟩, ⟨some 65, .mv (.t 64), some (55, true)⟩, ⟨some 66, .load 3 true (.t 3), some (65, false)⟩, ⟨some 67, .fad 2 (.t 8), some (65, false)⟩, ⟨some 68, .load 1 false (.t 67), some (65, false)⟩, ⟨some 69, .fad 0 (.t 8), some (65, false)⟩, ⟨some 70, .load 1 false (.t 69), some (65, false)⟩, ⟨some 71, .call 207 [.t 66, .t 68, .t 70], some (65, false)⟩, ⟨some 72, .len (.t 71), some (65, false)⟩, ⟨some 73, .fad 0 (.t 2), some (65, false)⟩, ⟨some 74, .fad 2 (.t 73), some (65, false)⟩, ⟨some 75, .load 1 false (.t 74), some (65, false)⟩, ⟨some 76, .bin .gtr (.t 72) (.t 75), some (65, false)⟩, ⟨some 77, .pick (.t 65) (.v (.bool true)) (.t 76), some (55, true)⟩, ⟨some 78, .pick (.t 55) (.t 77) (.v (.bool false)), none⟩])
    (.ite (.t 78) (.seq (.ops [⟨some 4, .mv (.v (.bool false)), none⟩])
     .ret)
    .skip))))
   (.ops [⟨some 79, .bin .add (.t 48) (.v (.int .i64 1)), none⟩, ⟨some 48, .mv (.t 79), none⟩])))))))
 (.seq (.ops [⟨some 4, .mv (.v (.bool true)), none⟩])
 .ret)))))
noncomputable def X.s_sGood (p0 : TBoard) (p1 : TState) : Option Bool :=
  ((X.s_bGood p0).bind fun v11 => (bif (!v11) then some false else ((X.s_l1In p1.Turn 0 p0.Rules.Turns).bind fun v14 => (bif (!v14) then some false else ((X.s_l1In p1.Weather 0 2).bind fun v17 => (bif (!v17) then some false else (bif (decide ((p1.Units.length : Int) > 12)) then some false else ((loop (fun (x63 : Int) => ((bif (decide (x63 < (p1.Units.length : Int))) then ((at' zTUnit p1.Units x63).bind fun v66 => ((X.s_sUnit p0 v66).bind fun v68 => (bif (!v68) then some (Sum.inr (Sum.inr false)) else some (Sum.inl (W (x63 + 1)))))) else some (Sum.inr (Sum.inl ()))) : Option (Int ⊕ (Unit ⊕ Bool)))) 0).bind fun y71 => (Sum.elim (fun (y73 : Unit) => ((loop (fun (x98 : Int) => ((bif (decide (x98 < (p1.Units.length : Int))) then ((at' zTUnit p1.Units x98).bind fun v101 => (bif (decide (v101.At ≥ 0)) then ((X.s_sAt p1 v101.At (W (1 - v101.Side))).bind fun v104 => (bif (decide ((v104.length : Int) > 0)) then some (Sum.inr (Sum.inr false)) else ((X.s_sAt p1 v101.At v101.Side).bind fun v107 => (bif (decide ((v107.length : Int) > p0.Rules.Stack)) then some (Sum.inr (Sum.inr false)) else some (Sum.inl (W (x98 + 1))))))) else some (Sum.inl (W (x98 + 1))))) else some (Sum.inr (Sum.inl ()))) : Option (Int ⊕ (Unit ⊕ Bool)))) 0).bind fun y110 => (Sum.elim (fun (y112 : Unit) => some true) (fun (y113 : Bool) => some y113) y110))) (fun (y74 : Bool) => some y74) y71)))))))))
theorem s_sGood_ok (p0 : TBoard) (p1 : TState) (r : Bool) (H : X.s_sGood p0 p1 = some r) : FnOk Tryz.prog gl 147 [.agg (eTBoard p0), .agg (eTState p1)] (cB r) := by
  unfold X.s_sGood at H
  refine fn_in (fn := Tryz.f147) (ir := s_sGood_ir) (s1 := lit [(4, cB r)] []) Tryz.func147 (by kernel_rfl) (by kernel_rfl) (by kernel_rfl) (by kernel_rfl) (by kernel_rfl) ?_
  refine seq_ops [] [] [(2, .c (.pk 2 0)), (3, .c (.pk 3 0))] [(2, .var (eTBoard p0) false), (3, .var (eTState p1) false)] (fun t => t) (by kernel_rfl) ?_
  refine seq_in ?_
  obtain ⟨v11, h12, H⟩ := ofBind H
  rcases ofCond H with ⟨c13, H⟩ | ⟨c13, H⟩
  · refine seq_ops [.res (cB v11), .g true, .g true, .g true, .g true, .g true, .g true, .g true, .g true, .g true, .g true, .g true, .g true, .g true, .g true, .g true, .g true, .g true, .g true] [] [(2, .c (.pk 2 0)), (3, .c (.pk 3 0)), (32, cB true)] [(2, .var (eTBoard p0) false), (3, .var (eTState p1) false)] (fun t => aI (s_bGood_ok p0 v11 h12) (aI c13 (aI c13 (aI c13 (aI c13 (aI c13 (aI c13 (aI c13 (aI c13 (aI (rfl : (true : Bool) = true) (aI (rfl : (true : Bool) = true) (aI (rfl : (true : Bool) = true) (aI (rfl : (true : Bool) = true) (aI (rfl : (true : Bool) = true) (aI (rfl : (true : Bool) = true) (aI (rfl : (true : Bool) = true) (aI (rfl : (true : Bool) = true) (aI (rfl : (true : Bool) = true) (aI (rfl : (true : Bool) = true) (t)))))))))))))))))))) (by kernel_rfl) ?_
    refine ite_t (rfl : (true : Bool) = true) (by kernel_rfl) ?_
    refine seq_ops [] [] [(4, cB false)] [] (fun t => t) (by kernel_rfl) ?_
    refine ends_ret ?_
    obtain rfl := Option.some.inj H
    exact And.intro (.inl rfl) rfl
  · obtain ⟨v14, h15, H⟩ := ofBind H
    rcases ofCond H with ⟨c16, H⟩ | ⟨c16, H⟩
    · refine seq_ops [.res (cB v11), .g false, .g false, .g false, .g false, .g false, .g false, .res (cB v14), .g false, .g false, .g true, .g true, .g true, .g true, .g true, .g true, .g true, .g true, .g true, .g true] [] [(2, .c (.pk 2 0)), (3, .c (.pk 3 0)), (32, cB true)] [(2, .var (eTBoard p0) false), (3, .var (eTState p1) false)] (fun t => aI (s_bGood_ok p0 v11 h12) (aI c13 (aI c13 (aI c13 (aI c13 (aI c13 (aI c13 (aI (s_l1In_ok p1.Turn 0 p0.Rules.Turns v14 h15) (aI c13 (aI c13 (aI c16 (aI c16 (aI c16 (aI c16 (aI c16 (aI (rfl : (true : Bool) = true) (aI (rfl : (true : Bool) = true) (aI (rfl : (true : Bool) = true) (aI (rfl : (true : Bool) = true) (aI (rfl : (true : Bool) = true) (t))))))))))))))))))))) (by kernel_rfl) ?_
      refine ite_t (rfl : (true : Bool) = true) (by kernel_rfl) ?_
      refine seq_ops [] [] [(4, cB false)] [] (fun t => t) (by kernel_rfl) ?_
      refine ends_ret ?_
      obtain rfl := Option.some.inj H
      exact And.intro (.inl rfl) rfl
    · obtain ⟨v17, h18, H⟩ := ofBind H
      rcases ofCond H with ⟨c19, H⟩ | ⟨c19, H⟩
      · refine seq_ops [.res (cB v11), .g false, .g false, .g false, .g false, .g false, .g false, .res (cB v14), .g false, .g false, .g false, .g false, .g false, .res (cB v17), .g false, .g false, .g true, .g true, .g true, .g true, .g true] [] [(2, .c (.pk 2 0)), (3, .c (.pk 3 0)), (32, cB true)] [(2, .var (eTBoard p0) false), (3, .var (eTState p1) false)] (fun t => aI (s_bGood_ok p0 v11 h12) (aI c13 (aI c13 (aI c13 (aI c13 (aI c13 (aI c13 (aI (s_l1In_ok p1.Turn 0 p0.Rules.Turns v14 h15) (aI c13 (aI c13 (aI c16 (aI c16 (aI c16 (aI (s_l1In_ok p1.Weather 0 2 v17 h18) (aI c16 (aI c16 (aI c19 (aI c19 (aI c19 (aI c19 (aI c19 (t)))))))))))))))))))))) (by kernel_rfl) ?_
        refine ite_t (rfl : (true : Bool) = true) (by kernel_rfl) ?_
        refine seq_ops [] [] [(4, cB false)] [] (fun t => t) (by kernel_rfl) ?_
        refine ends_ret ?_
        obtain rfl := Option.some.inj H
        exact And.intro (.inl rfl) rfl
      · refine seq_ops [.res (cB v11), .g false, .g false, .g false, .g false, .g false, .g false, .res (cB v14), .g false, .g false, .g false, .g false, .g false, .res (cB v17), .g false, .g false, .g false, .g false, .g false, .g false, .g false] [] [(2, .c (.pk 2 0)), (3, .c (.pk 3 0)), (32, cB (decide ((p1.Units.length : Int) > 12)))] [(2, .var (eTBoard p0) false), (3, .var (eTState p1) false)] (fun t => aI (s_bGood_ok p0 v11 h12) (aI c13 (aI c13 (aI c13 (aI c13 (aI c13 (aI c13 (aI (s_l1In_ok p1.Turn 0 p0.Rules.Turns v14 h15) (aI c13 (aI c13 (aI c16 (aI c16 (aI c16 (aI (s_l1In_ok p1.Weather 0 2 v17 h18) (aI c16 (aI c16 (aI c19 (aI c19 (aI c19 (lI p1.Units (aI c19 (aI c19 (t))))))))))))))))))))))) (by kernel_rfl) ?_
        rcases ofCond H with ⟨c20, H⟩ | ⟨c20, H⟩
        · refine ite_t c20 (by kernel_rfl) ?_
          refine seq_ops [] [] [(4, cB false)] [] (fun t => t) (by kernel_rfl) ?_
          refine ends_ret ?_
          obtain rfl := Option.some.inj H
          exact And.intro (.inl rfl) rfl
        · refine ite_f c20 (by kernel_rfl) ?_
          refine ends_skip ?_
          change EndsI _ _ _ _ _ _
          refine seq_in ?_
          refine seq_ops [] [] [(2, .c (.pk 2 0)), (3, .c (.pk 3 0)), (34, .c (dat 4 eTUnit zTUnit p1.Units)), (35, cI (p1.Units.length : Int)), (36, cI 0)] [(2, .var (eTBoard p0) false), (3, .var (eTState p1) false)] (fun t => lI p1.Units (t)) (by kernel_rfl) ?_
          refine ends_blk ?_
          obtain ⟨y71, h72, H⟩ := ofBind H
          refine loop_in (fun (x : Int) => lit [(2, .c (.pk 2 0)), (3, .c (.pk 3 0)), (34, .c (dat 4 eTUnit zTUnit p1.Units)), (35, cI (p1.Units.length : Int)), (36, cI x)] [(2, .var (eTBoard p0) false), (3, .var (eTState p1) false)]) (orJ (fun (z : Unit) => At (.exit 0) (lit [(2, .c (.pk 2 0)), (3, .c (.pk 3 0))] [(2, .var (eTBoard p0) false), (3, .var (eTState p1) false)])) (fun (z : Bool) => At .ret (lit [(4, cB z)] []))) h72 ?_ ?_
          · clear H h72
            intro x63 y0 H
            refine seq_ops [] [] [(2, .c (.pk 2 0)), (3, .c (.pk 3 0)), (34, .c (dat 4 eTUnit zTUnit p1.Units)), (35, cI (p1.Units.length : Int)), (36, cI x63), (37, cB (decide (x63 < (p1.Units.length : Int))))] [(2, .var (eTBoard p0) false), (3, .var (eTState p1) false)] (fun t => t) (by kernel_rfl) ?_
            refine seq_in ?_
            rcases ofCond H with ⟨c65, H⟩ | ⟨c65, H⟩
            · refine ite_t c65 (by kernel_rfl) ?_
              refine ends_skip ?_
              change EndsI _ _ _ _ _ _
              refine seq_in ?_
              refine ends_blk ?_
              obtain ⟨v66, h67, H⟩ := ofBind H
              refine seq_ops [.cs (eTUnit v66)] [] [(2, .c (.pk 2 0)), (3, .c (.pk 3 0)), (6, .c (.pk 6 0)), (34, .c (dat 4 eTUnit zTUnit p1.Units)), (35, cI (p1.Units.length : Int)), (36, cI x63)] [(2, .var (eTBoard p0) false), (3, .var (eTState p1) false), (6, .var (eTUnit v66) false)] (fun t => aI (at_lt h67) (aI (at_enc (enc := eTUnit) h67) (t))) (by kernel_rfl) ?_
              obtain ⟨v68, h69, H⟩ := ofBind H
              refine seq_ops [.res (cB v68)] [] [(2, .c (.pk 2 0)), (3, .c (.pk 3 0)), (34, .c (dat 4 eTUnit zTUnit p1.Units)), (35, cI (p1.Units.length : Int)), (36, cI x63), (43, cB (!v68))] [(2, .var (eTBoard p0) false), (3, .var (eTState p1) false)] (fun t => aI (s_sUnit_ok p0 v66 v68 h69) (t)) (by kernel_rfl) ?_
              rcases ofCond H with ⟨c70, H⟩ | ⟨c70, H⟩
              · refine ite_t c70 (by kernel_rfl) ?_
                refine seq_ops [] [] [(4, cB false)] [] (fun t => t) (by kernel_rfl) ?_
                refine ends_ret ?_
                obtain rfl := Option.some.inj H
                exact And.intro (by simp) (And.intro rfl rfl)
              · refine ite_f c70 (by kernel_rfl) ?_
                refine ends_skip ?_
                change EndsI _ _ _ _ _ _
                refine one_ops [] [] [(2, .c (.pk 2 0)), (3, .c (.pk 3 0)), (34, .c (dat 4 eTUnit zTUnit p1.Units)), (35, cI (p1.Units.length : Int)), (36, cI (W (x63 + 1)))] [(2, .var (eTBoard p0) false), (3, .var (eTState p1) false)] (fun t => t) (by kernel_rfl) ?_
                obtain rfl := Option.some.inj H
                exact And.intro rfl rfl
            · refine ite_f c65 (by kernel_rfl) ?_
              refine tell [] [(2, .c (.pk 2 0)), (3, .c (.pk 3 0))] [(2, .var (eTBoard p0) false), (3, .var (eTState p1) false)] (fun t => t) (by kernel_rfl) ?_
              refine ends_exit ?_
              obtain rfl := Option.some.inj H
              exact And.intro (by simp) (And.intro rfl rfl)
          · clear h72
            cases y71 with
            | inl y73 =>
              replace H := ofInl H
              intro e s q
              obtain ⟨rfl, rfl⟩ := q
              change EndsI _ _ _ _ _ _
              refine seq_in ?_
              refine seq_ops [] [] [(2, .c (.pk 2 0)), (3, .c (.pk 3 0)), (46, .c (dat 4 eTUnit zTUnit p1.Units)), (47, cI (p1.Units.length : Int)), (48, cI 0)] [(2, .var (eTBoard p0) false), (3, .var (eTState p1) false)] (fun t => lI p1.Units (t)) (by kernel_rfl) ?_
              refine ends_blk ?_
              obtain ⟨y110, h111, H⟩ := ofBind H
              refine loop_in (fun (x : Int) => lit [(2, .c (.pk 2 0)), (3, .c (.pk 3 0)), (46, .c (dat 4 eTUnit zTUnit p1.Units)), (47, cI (p1.Units.length : Int)), (48, cI x)] [(2, .var (eTBoard p0) false), (3, .var (eTState p1) false)]) (orJ (fun (z : Unit) => At (.exit 2) (lit [] [])) (fun (z : Bool) => At .ret (lit [(4, cB z)] []))) h111 ?_ ?_
              · clear H h111
                intro x98 y0 H
                refine seq_ops [] [] [(2, .c (.pk 2 0)), (3, .c (.pk 3 0)), (46, .c (dat 4 eTUnit zTUnit p1.Units)), (47, cI (p1.Units.length : Int)), (48, cI x98), (49, cB (decide (x98 < (p1.Units.length : Int))))] [(2, .var (eTBoard p0) false), (3, .var (eTState p1) false)] (fun t => t) (by kernel_rfl) ?_
                refine seq_in ?_
                rcases ofCond H with ⟨c100, H⟩ | ⟨c100, H⟩
                · refine ite_t c100 (by kernel_rfl) ?_
                  refine ends_skip ?_
                  change EndsI _ _ _ _ _ _
                  refine seq_in ?_
                  refine ends_blk ?_
                  obtain ⟨v101, h102, H⟩ := ofBind H
                  refine seq_ops [.cs (eTUnit v101)] [] [(2, .c (.pk 2 0)), (3, .c (.pk 3 0)), (8, .c (.pk 8 0)), (46, .c (dat 4 eTUnit zTUnit p1.Units)), (47, cI (p1.Units.length : Int)), (48, cI x98)] [(2, .var (eTBoard p0) false), (3, .var (eTState p1) false), (8, .var (eTUnit v101) false)] (fun t => aI (at_lt h102) (aI (at_enc (enc := eTUnit) h102) (t))) (by kernel_rfl) ?_
                  rcases ofCond H with ⟨c103, H⟩ | ⟨c103, H⟩
                  · obtain ⟨v104, h105, H⟩ := ofBind H
                    rcases ofCond H with ⟨c106, H⟩ | ⟨c106, H⟩
                    · refine seq_draw [.g true, .g true, .g true, .g true, .g true, .g true, .g true, .res (.c (dat 1 eI zI v104)), .g true, .g true, .g true, .g true, .g true, .g true, .g true, .g true, .g true, .g true, .g true, .g true, .g true, .g true, .g true, .g true, .g true] [] [(2, .c (.pk 2 0)), (3, .c (.pk 3 0)), (46, .c (dat 4 eTUnit zTUnit p1.Units)), (47, cI (p1.Units.length : Int)), (48, cI x98), (78, cB true)] [(2, .var (eTBoard p0) false), (3, .var (eTState p1) false)] (fun t => aI c103 (aI c103 (aI c103 (aI c103 (aI c103 (aI c103 (aI c103 (aI (s_sAt_ok p1 v101.At (W (1 - v101.Side)) v104 h105) (aI (rfl : ([] : List Nat) = []) (aI (rfl : ([] : List Nat) = []) (aI c103 (aI c103 (aI c103 (aI c106 (aI c106 (aI c106 (aI c106 (aI c106 (aI c106 (aI c106 (aI c106 (aI c106 (aI c106 (aI c106 (aI c103 (aI c106 (aI c103 (t)))))))))))))))))))))))))))) (by kernel_rfl) ?_
                      refine ite_t (rfl : (true : Bool) = true) (by kernel_rfl) ?_
                      refine seq_ops [] [] [(4, cB false)] [] (fun t => t) (by kernel_rfl) ?_
                      refine ends_ret ?_
                      obtain rfl := Option.some.inj H
                      exact And.intro (by simp) (And.intro rfl rfl)
                    · obtain ⟨v107, h108, H⟩ := ofBind H
                      refine seq_draw [.g true, .g true, .g true, .g true, .g true, .g true, .g true, .res (.c (dat 1 eI zI v104)), .g true, .g true, .g true, .g false, .g false, .g false, .g false, .g false, .g false, .res (.c (dat 1 eI zI v107)), .g false, .g false, .g false, .g false, .g false, .g true, .g false, .g true] [] [(2, .c (.pk 2 0)), (3, .c (.pk 3 0)), (46, .c (dat 4 eTUnit zTUnit p1.Units)), (47, cI (p1.Units.length : Int)), (48, cI x98), (78, cB (decide ((v107.length : Int) > p0.Rules.Stack)))] [(2, .var (eTBoard p0) false), (3, .var (eTState p1) false)] (fun t => aI c103 (aI c103 (aI c103 (aI c103 (aI c103 (aI c103 (aI c103 (aI (s_sAt_ok p1 v101.At (W (1 - v101.Side)) v104 h105) (aI (rfl : ([] : List Nat) = []) (aI (rfl : ([] : List Nat) = []) (aI c103 (aI c103 (aI c103 (aI c106 (aI c106 (aI c106 (aI c106 (aI c106 (aI c106 (aI (s_sAt_ok p1 v101.At v101.Side v107 h108) (aI (rfl : ([] : List Nat) = []) (aI (rfl : ([] : List Nat) = []) (aI c106 (aI c106 (aI c106 (aI c106 (aI c106 (aI c103 (aI c106 (aI c103 (t))))))))))))))))))))))))))))))) (by kernel_rfl) ?_
                      rcases ofCond H with ⟨c109, H⟩ | ⟨c109, H⟩
                      · refine ite_t c109 (by kernel_rfl) ?_
                        refine seq_ops [] [] [(4, cB false)] [] (fun t => t) (by kernel_rfl) ?_
                        refine ends_ret ?_
                        obtain rfl := Option.some.inj H
                        exact And.intro (by simp) (And.intro rfl rfl)
                      · refine ite_f c109 (by kernel_rfl) ?_
                        refine ends_skip ?_
                        change EndsI _ _ _ _ _ _
                        refine one_ops [] [] [(2, .c (.pk 2 0)), (3, .c (.pk 3 0)), (46, .c (dat 4 eTUnit zTUnit p1.Units)), (47, cI (p1.Units.length : Int)), (48, cI (W (x98 + 1)))] [(2, .var (eTBoard p0) false), (3, .var (eTState p1) false)] (fun t => t) (by kernel_rfl) ?_
                        obtain rfl := Option.some.inj H
                        exact And.intro rfl rfl
                  · refine seq_draw [.g false, .g false, .g false, .g false, .g false, .g false, .g false, .g false, .g false, .g false, .g false, .g false] [] [(2, .c (.pk 2 0)), (3, .c (.pk 3 0)), (46, .c (dat 4 eTUnit zTUnit p1.Units)), (47, cI (p1.Units.length : Int)), (48, cI x98), (78, cB false)] [(2, .var (eTBoard p0) false), (3, .var (eTState p1) false)] (fun t => aI c103 (aI c103 (aI c103 (aI c103 (aI c103 (aI c103 (aI c103 (aI c103 (aI c103 (aI c103 (aI c103 (aI c103 (t))))))))))))) (by kernel_rfl) ?_
                    refine ite_f (rfl : (false : Bool) = false) (by kernel_rfl) ?_
                    refine ends_skip ?_
                    change EndsI _ _ _ _ _ _
                    refine one_ops [] [] [(2, .c (.pk 2 0)), (3, .c (.pk 3 0)), (46, .c (dat 4 eTUnit zTUnit p1.Units)), (47, cI (p1.Units.length : Int)), (48, cI (W (x98 + 1)))] [(2, .var (eTBoard p0) false), (3, .var (eTState p1) false)] (fun t => t) (by kernel_rfl) ?_
                    obtain rfl := Option.some.inj H
                    exact And.intro rfl rfl
                · refine ite_f c100 (by kernel_rfl) ?_
                  refine tell [] [] [] (fun t => t) (by kernel_rfl) ?_
                  refine ends_exit ?_
                  obtain rfl := Option.some.inj H
                  exact And.intro (by simp) (And.intro rfl rfl)
              · clear h111
                cases y110 with
                | inl y112 =>
                  replace H := ofInl H
                  intro e s q
                  obtain ⟨rfl, rfl⟩ := q
                  change EndsI _ _ _ _ _ _
                  refine seq_ops [] [] [(4, cB true)] [] (fun t => t) (by kernel_rfl) ?_
                  refine ends_ret ?_
                  obtain rfl := Option.some.inj H
                  exact And.intro (.inl rfl) rfl
                | inr y113 =>
                  replace H := ofInr H
                  intro e s q
                  obtain ⟨rfl, rfl⟩ := q
                  obtain rfl := Option.some.inj H
                  exact And.intro (.inl rfl) rfl
            | inr y74 =>
              replace H := ofInr H
              intro e s q
              obtain ⟨rfl, rfl⟩ := q
              obtain rfl := Option.some.inj H
              exact And.intro (.inl rfl) rfl

def s_fgSide_ir : S :=
 (.seq (.ops [⟨some 3, .box 12 (.t 0), none⟩, ⟨some 4, .box 3 (.t 1), none⟩, ⟨some 6, .mv (.v (.bool false)), none⟩])
 (.seq (.ops [⟨some 7, .load 12 true (.t 3), none⟩, ⟨some 8, .load 3 true (.t 4), none⟩, ⟨some 9, .call 147 [.t 7, .t 8], none⟩, ⟨some 10, .mv (.t 9), none⟩, ⟨some 11, .mv (.t 2), some (10, true)⟩, ⟨some 12, .call 65 [.t 11, .v (.int .i64 0), .v (.int .i64 1)], some (10, true)⟩, ⟨some 13, .pick (.t 10) (.t 12) (.v (.bool false)), none⟩, ⟨some 6, .mv (.t 13), none⟩])
 .ret))
noncomputable def X.s_fgSide (p0 : TBoard) (p1 : TState) (p2 : Int) : Option Bool :=
  ((X.s_sGood p0 p1).bind fun v1 => (bif v1 then ((X.s_l1In p2 0 1).bind fun v4 => some v4) else some false))
theorem s_fgSide_ok (p0 : TBoard) (p1 : TState) (p2 : Int) (r : Bool) (H : X.s_fgSide p0 p1 p2 = some r) : FnOk Tryz.prog gl 97 [.agg (eTBoard p0), .agg (eTState p1), cI p2] (cB r) := by
  unfold X.s_fgSide at H
  refine fn_in (fn := Tryz.f97) (ir := s_fgSide_ir) (s1 := lit [(6, cB r)] []) Tryz.func97 (by kernel_rfl) (by kernel_rfl) (by kernel_rfl) (by kernel_rfl) (by kernel_rfl) ?_
  refine seq_ops [] [] [(2, cI p2), (3, .c (.pk 3 0)), (4, .c (.pk 4 0))] [(3, .var (eTBoard p0) false), (4, .var (eTState p1) false)] (fun t => t) (by kernel_rfl) ?_
  obtain ⟨v1, h2, H⟩ := ofBind H
  rcases ofCond H with ⟨c3, H⟩ | ⟨c3, H⟩
  · obtain ⟨v4, h5, H⟩ := ofBind H
    refine seq_ops [.res (cB v1), .g true, .g true, .res (cB v4), .g true] [] [(6, cB v4)] [] (fun t => aI (s_sGood_ok p0 p1 v1 h2) (aI c3 (aI c3 (aI (s_l1In_ok p2 0 1 v4 h5) (aI c3 (t)))))) (by kernel_rfl) ?_
    refine ends_ret ?_
    obtain rfl := Option.some.inj H
    exact And.intro (.inl rfl) rfl
  · refine seq_ops [.res (cB v1), .g false, .g false, .g false] [] [(6, cB false)] [] (fun t => aI (s_sGood_ok p0 p1 v1 h2) (aI c3 (aI c3 (aI c3 (t))))) (by kernel_rfl) ?_
    refine ends_ret ?_
    obtain rfl := Option.some.inj H
    exact And.intro (.inl rfl) rfl

def s_jSources_ir : S :=
 (.seq (.ops [⟨some 2, .box 12 (.t 0), none⟩, ⟨some 4, .mv (.v (.bool false)), none⟩])
 (.seq (.ops [⟨some 5, .mv (.t 1), none⟩, ⟨some 6, .len (.t 5), none⟩, ⟨some 7, .bin .leq (.t 6) (.v (.int .i64 6)), none⟩, ⟨some 8, .mv (.t 7), none⟩, ⟨some 9, .mv (.t 1), some (8, true)⟩, ⟨some 10, .fad 7 (.t 2), some (8, true)⟩, ⟨some 11, .load 5 true (.t 10), some (8, true)⟩, ⟨some 12, .call 132 [.t 11], some (8, true)⟩, ⟨some 13, .bin .sub (.t 12) (.v (.int .i64 1)), some (8, true)⟩, ⟨some 14, .call 184 [.t 9, .v (.int .i64 0), .t 13], some (8, true)⟩, ⟨some 15, .pick (.t 8) (.t 14) (.v (.bool false)), none⟩, ⟨some 4, .mv (.t 15), none⟩])
 .ret))
noncomputable def X.s_jSources (p0 : TBoard) (p1 : (List Int)) : Option Bool :=
  (bif (decide ((p1.length : Int) ≤ 6)) then ((X.s_mSize p0.Map).bind fun v2 => ((X.s_l1Rising p1 0 (W (v2 - 1))).bind fun v4 => some v4)) else some false)
theorem s_jSources_ok (p0 : TBoard) (p1 : (List Int)) (r : Bool) (H : X.s_jSources p0 p1 = some r) : FnOk Tryz.prog gl 114 [.agg (eTBoard p0), .c (dat 1 eI zI p1)] (cB r) := by
  unfold X.s_jSources at H
  refine fn_in (fn := Tryz.f114) (ir := s_jSources_ir) (s1 := lit [(4, cB r)] []) Tryz.func114 (by kernel_rfl) (by kernel_rfl) (by kernel_rfl) (by kernel_rfl) (by kernel_rfl) ?_
  refine seq_ops [] [] [(1, .c (dat 1 eI zI p1)), (2, .c (.pk 2 0))] [(2, .var (eTBoard p0) false)] (fun t => t) (by kernel_rfl) ?_
  rcases ofCond H with ⟨c1, H⟩ | ⟨c1, H⟩
  · obtain ⟨v2, h3, H⟩ := ofBind H
    obtain ⟨v4, h5, H⟩ := ofBind H
    refine seq_ops [.g true, .g true, .g true, .g true, .res (cI v2), .g true, .g true, .res (cB v4), .g true] [] [(4, cB v4)] [] (fun t => lI p1 (aI c1 (aI c1 (aI c1 (aI c1 (aI (s_mSize_ok p0.Map v2 h3) (aI c1 (aI c1 (aI (s_l1Rising_ok p1 0 (W (v2 - 1)) v4 h5) (aI c1 (t))))))))))) (by kernel_rfl) ?_
    refine ends_ret ?_
    obtain rfl := Option.some.inj H
    exact And.intro (.inl rfl) rfl
  · refine seq_ops [.g false, .g false, .g false, .g false, .g false, .g false, .g false] [] [(4, cB false)] [] (fun t => lI p1 (aI c1 (aI c1 (aI c1 (aI c1 (aI c1 (aI c1 (aI c1 (t))))))))) (by kernel_rfl) ?_
    refine ends_ret ?_
    obtain rfl := Option.some.inj H
    exact And.intro (.inl rfl) rfl

def s_uWorth_ir : S :=
 (.seq (.ops [⟨some 4, .box 12 (.t 0), none⟩, ⟨some 5, .box 3 (.t 1), none⟩, ⟨some 8, .mv (.v (.int .i64 0)), none⟩])
 (.seq (.ops [⟨some 11, .fad 2 (.t 5), none⟩, ⟨some 12, .load 1 false (.t 11), none⟩, ⟨some 13, .mv (.t 2), none⟩, ⟨some 14, .iad 4 (.t 12) (.t 13), none⟩, ⟨some 15, .load 4 true (.t 14), none⟩, ⟨some 9, .alloc [.int .i64 0, .int .i64 0, .int .i64 0, .int .i64 0], none⟩, ⟨none, .store 4 (.t 9) (.t 15), none⟩])
 (.seq (.seq (.ops [⟨some 16, .fad 2 (.t 9), none⟩, ⟨some 17, .load 1 false (.t 16), none⟩, ⟨some 18, .bin .lss (.t 17) (.v (.int .i64 0)), none⟩])
 (.ite (.t 18) (.seq (.ops [⟨some 8, .mv (.v (.int .i64 0)), none⟩])
  .ret)
 .skip))
 (.seq (.draw 12 [⟨some 19, .fad 0 (.t 4), none⟩, ⟨some 20, .fad 1 (.t 19), none⟩, ⟨some 21, .load 1 false (.t 20), none⟩, ⟨some 22, .fad 1 (.t 9), none⟩, ⟨some 23, .load 1 false (.t 22), none⟩, ⟨some 24, .iad 6 (.t 21) (.t 23), none⟩, ⟨some 25, .fad 1 (.t 24), none⟩, ⟨some 26, .load 1 false (.t 25), none⟩, ⟨some 27, .fad 3 (.t 9), none⟩, ⟨some 28, .load 1 false (.t 27), none⟩, ⟨some 29, .bin .mul (.t 26) (.t 28), none⟩, ⟨some 10, .mv (.t 29), none⟩])
 (.seq (.seq (.ops [⟨some 30, .mv (.t 3), none⟩])
 (.ite (.t 30) (.seq (.ops [⟨some 31, .mv (.t 10), none⟩, ⟨some 32, .bin .mul (.v (.int .i64 3)) (.t 31), none⟩, ⟨some 8, .mv (.t 32), none⟩])
  .ret)
 .skip))
 (.seq (.ops [⟨some 33, .mv (.t 10), none⟩, ⟨some 8, .mv (.t 33), none⟩])
 .ret))))))
noncomputable def X.s_uWorth (p0 : TBoard) (p1 : TState) (p2 : Int) (p3 : Bool) : Option Int :=
  ((at' zTUnit p1.Units p2).bind fun v1 => (bif (decide (v1.At < 0)) then some 0 else ((at' zTKind p0.Rules.Kinds v1.Kind).bind fun v5 => (bif p3 then some (W (3 * (W (v5.Strength * v1.Steps)))) else some (W (v5.Strength * v1.Steps))))))
theorem s_uWorth_ok (p0 : TBoard) (p1 : TState) (p2 : Int) (p3 : Bool) (r : Int) (H : X.s_uWorth p0 p1 p2 p3 = some r) : FnOk Tryz.prog gl 115 [.agg (eTBoard p0), .agg (eTState p1), cI p2, cB p3] (cI r) := by
  unfold X.s_uWorth at H
  refine fn_in (fn := Tryz.f115) (ir := s_uWorth_ir) (s1 := lit [(8, cI r)] []) Tryz.func115 (by kernel_rfl) (by kernel_rfl) (by kernel_rfl) (by kernel_rfl) (by kernel_rfl) ?_
  refine seq_ops [] [] [(2, cI p2), (3, cB p3), (4, .c (.pk 4 0)), (5, .c (.pk 5 0))] [(4, .var (eTBoard p0) false), (5, .var (eTState p1) false)] (fun t => t) (by kernel_rfl) ?_
  obtain ⟨v1, h2, H⟩ := ofBind H
  refine seq_ops [.cs (eTUnit v1)] [] [(3, cB p3), (4, .c (.pk 4 0)), (9, .c (.pk 9 0))] [(4, .var (eTBoard p0) false), (9, .var (eTUnit v1) false)] (fun t => aI (at_lt h2) (aI (at_enc (enc := eTUnit) h2) (t))) (by kernel_rfl) ?_
  refine seq_in ?_
  refine seq_ops [] [] [(3, cB p3), (4, .c (.pk 4 0)), (9, .c (.pk 9 0)), (18, cB (decide (v1.At < 0)))] [(4, .var (eTBoard p0) false), (9, .var (eTUnit v1) false)] (fun t => t) (by kernel_rfl) ?_
  rcases ofCond H with ⟨c4, H⟩ | ⟨c4, H⟩
  · refine ite_t c4 (by kernel_rfl) ?_
    refine seq_ops [] [] [(8, cI 0)] [] (fun t => t) (by kernel_rfl) ?_
    refine ends_ret ?_
    obtain rfl := Option.some.inj H
    exact And.intro (.inl rfl) rfl
  · refine ite_f c4 (by kernel_rfl) ?_
    refine ends_skip ?_
    change EndsI _ _ _ _ _ _
    obtain ⟨v5, h6, H⟩ := ofBind H
    refine seq_draw [.cs (eTKind v5)] [] [(3, cB p3), (10, cI (W (v5.Strength * v1.Steps)))] [] (fun t => aI (at_lt h6) (aI (at_enc (enc := eTKind) h6) (aI (rfl : ([] : List Nat) = []) (t)))) (by kernel_rfl) ?_
    refine seq_in ?_
    refine seq_ops [] [] [(10, cI (W (v5.Strength * v1.Steps))), (30, cB p3)] [] (fun t => t) (by kernel_rfl) ?_
    rcases ofCond H with ⟨c7, H⟩ | ⟨c7, H⟩
    · refine ite_t c7 (by kernel_rfl) ?_
      refine seq_ops [] [] [(8, cI (W (3 * (W (v5.Strength * v1.Steps)))))] [] (fun t => t) (by kernel_rfl) ?_
      refine ends_ret ?_
      obtain rfl := Option.some.inj H
      exact And.intro (.inl rfl) rfl
    · refine ite_f c7 (by kernel_rfl) ?_
      refine ends_skip ?_
      change EndsI _ _ _ _ _ _
      refine seq_ops [] [] [(8, cI (W (v5.Strength * v1.Steps)))] [] (fun t => t) (by kernel_rfl) ?_
      refine ends_ret ?_
      obtain rfl := Option.some.inj H
      exact And.intro (.inl rfl) rfl

def s_sOwner_ir : S :=
 (.seq (.ops [⟨some 2, .box 3 (.t 0), none⟩, ⟨some 4, .mv (.v (.int .i64 0)), none⟩])
 (.seq (.seq (.ops [⟨some 7, .fad 2 (.t 2), none⟩, ⟨some 8, .load 1 false (.t 7), none⟩, ⟨some 9, .len (.t 8), none⟩, ⟨some 10, .mv (.v (.int .i64 0)), none⟩])
 (.blk 0 (.loop (.seq (.ops [⟨some 11, .bin .lss (.t 10) (.t 9), none⟩])
   (.seq (.ite (.t 11) .skip
   (.exit 0))
   (.seq (.blk 1 (.seq (.ops [⟨some 12, .iad 4 (.t 8) (.t 10), none⟩, ⟨some 13, .load 4 true (.t 12), none⟩, ⟨some 6, .alloc [.int .i64 0, .int .i64 0, .int .i64 0, .int .i64 0], none⟩, ⟨none, .store 4 (.t 6) (.t 13), none⟩])
    (.seq (.ops [⟨some 14, .fad 2 (.t 6), none⟩, ⟨some 15, .load 1 false (.t 14), none⟩, ⟨some 16, .mv (.t 1), none⟩, ⟨some 17, .bin .eql (.t 15) (.t 16), none⟩])
    (.ite (.t 17) (.seq (.ops [⟨some 18, .fad 0 (.t 6), none⟩, ⟨some 19, .load 1 false (.t 18), none⟩, ⟨some 4, .mv (.t 19), none⟩])
     .ret)
    .skip))))
   (.ops [⟨some 20, .bin .add (.t 10) (.v (.int .i64 1)), none⟩, ⟨some 10, .mv (.t 20), none⟩])))))))
 (.seq (.ops [⟨some 4, .mv (.v (.int .i64 (-1))), none⟩])
 .ret)))
noncomputable def X.s_sOwner (p0 : TState) (p1 : Int) : Option Int :=
  ((loop (fun (x12 : Int) => ((bif (decide (x12 < (p0.Units.length : Int))) then ((at' zTUnit p0.Units x12).bind fun v15 => (bif (v15.At == p1) then some (Sum.inr (Sum.inr v15.Side)) else some (Sum.inl (W (x12 + 1))))) else some (Sum.inr (Sum.inl ()))) : Option (Int ⊕ (Unit ⊕ Int)))) 0).bind fun y18 => (Sum.elim (fun (y20 : Unit) => some (-1)) (fun (y21 : Int) => some y21) y18))
theorem s_sOwner_ok (p0 : TState) (p1 : Int) (r : Int) (H : X.s_sOwner p0 p1 = some r) : FnOk Tryz.prog gl 215 [.agg (eTState p0), cI p1] (cI r) := by
  unfold X.s_sOwner at H
  refine fn_in (fn := Tryz.f215) (ir := s_sOwner_ir) (s1 := lit [(4, cI r)] []) Tryz.func215 (by kernel_rfl) (by kernel_rfl) (by kernel_rfl) (by kernel_rfl) (by kernel_rfl) ?_
  refine seq_ops [] [] [(1, cI p1), (2, .c (.pk 2 0))] [(2, .var (eTState p0) false)] (fun t => t) (by kernel_rfl) ?_
  refine seq_in ?_
  refine seq_ops [] [] [(1, cI p1), (8, .c (dat 4 eTUnit zTUnit p0.Units)), (9, cI (p0.Units.length : Int)), (10, cI 0)] [] (fun t => lI p0.Units (t)) (by kernel_rfl) ?_
  refine ends_blk ?_
  obtain ⟨y18, h19, H⟩ := ofBind H
  refine loop_in (fun (x : Int) => lit [(1, cI p1), (8, .c (dat 4 eTUnit zTUnit p0.Units)), (9, cI (p0.Units.length : Int)), (10, cI x)] []) (orJ (fun (z : Unit) => At (.exit 0) (lit [] [])) (fun (z : Int) => At .ret (lit [(4, cI z)] []))) h19 ?_ ?_
  · clear H h19
    intro x12 y0 H
    refine seq_ops [] [] [(1, cI p1), (8, .c (dat 4 eTUnit zTUnit p0.Units)), (9, cI (p0.Units.length : Int)), (10, cI x12), (11, cB (decide (x12 < (p0.Units.length : Int))))] [] (fun t => t) (by kernel_rfl) ?_
    refine seq_in ?_
    rcases ofCond H with ⟨c14, H⟩ | ⟨c14, H⟩
    · refine ite_t c14 (by kernel_rfl) ?_
      refine ends_skip ?_
      change EndsI _ _ _ _ _ _
      refine seq_in ?_
      refine ends_blk ?_
      obtain ⟨v15, h16, H⟩ := ofBind H
      refine seq_ops [.cs (eTUnit v15)] [] [(1, cI p1), (6, .c (.pk 6 0)), (8, .c (dat 4 eTUnit zTUnit p0.Units)), (9, cI (p0.Units.length : Int)), (10, cI x12)] [(6, .var (eTUnit v15) false)] (fun t => aI (at_lt h16) (aI (at_enc (enc := eTUnit) h16) (t))) (by kernel_rfl) ?_
      refine seq_ops [] [] [(1, cI p1), (6, .c (.pk 6 0)), (8, .c (dat 4 eTUnit zTUnit p0.Units)), (9, cI (p0.Units.length : Int)), (10, cI x12), (17, cB (v15.At == p1))] [(6, .var (eTUnit v15) false)] (fun t => t) (by kernel_rfl) ?_
      rcases ofCond H with ⟨c17, H⟩ | ⟨c17, H⟩
      · refine ite_t c17 (by kernel_rfl) ?_
        refine seq_ops [] [] [(4, cI v15.Side)] [] (fun t => t) (by kernel_rfl) ?_
        refine ends_ret ?_
        obtain rfl := Option.some.inj H
        exact And.intro (by simp) (And.intro rfl rfl)
      · refine ite_f c17 (by kernel_rfl) ?_
        refine ends_skip ?_
        change EndsI _ _ _ _ _ _
        refine one_ops [] [] [(1, cI p1), (8, .c (dat 4 eTUnit zTUnit p0.Units)), (9, cI (p0.Units.length : Int)), (10, cI (W (x12 + 1)))] [] (fun t => t) (by kernel_rfl) ?_
        obtain rfl := Option.some.inj H
        exact And.intro rfl rfl
    · refine ite_f c14 (by kernel_rfl) ?_
      refine tell [] [] [] (fun t => t) (by kernel_rfl) ?_
      refine ends_exit ?_
      obtain rfl := Option.some.inj H
      exact And.intro (by simp) (And.intro rfl rfl)
  · clear h19
    cases y18 with
    | inl y20 =>
      replace H := ofInl H
      intro e s q
      obtain ⟨rfl, rfl⟩ := q
      change EndsI _ _ _ _ _ _
      refine seq_ops [] [] [(4, cI (-1))] [] (fun t => t) (by kernel_rfl) ?_
      refine ends_ret ?_
      obtain rfl := Option.some.inj H
      exact And.intro (.inl rfl) rfl
    | inr y21 =>
      replace H := ofInr H
      intro e s q
      obtain ⟨rfl, rfl⟩ := q
      obtain rfl := Option.some.inj H
      exact And.intro (.inl rfl) rfl

def s_l1Has_ir : S :=
 (.seq (.ops [⟨some 4, .mv (.v (.bool false)), none⟩])
 (.seq (.seq (.ops [⟨some 7, .mv (.t 0), none⟩, ⟨some 8, .len (.t 7), none⟩, ⟨some 9, .mv (.v (.int .i64 0)), none⟩])
 (.blk 0 (.loop (.seq (.ops [⟨some 10, .bin .lss (.t 9) (.t 8), none⟩])
   (.seq (.ite (.t 10) .skip
   (.exit 0))
   (.seq (.blk 1 (.seq (.ops [⟨some 11, .iad 1 (.t 7) (.t 9), none⟩, ⟨some 12, .load 1 false (.t 11), none⟩, ⟨some 6, .mv (.t 12), none⟩])
    (.seq (.ops [⟨some 13, .mv (.t 6), none⟩, ⟨some 14, .mv (.t 1), none⟩, ⟨some 15, .bin .eql (.t 13) (.t 14), none⟩])
    (.ite (.t 15) (.seq (.ops [⟨some 4, .mv (.v (.bool true)), none⟩])
     .ret)
    .skip))))
   (.ops [⟨some 16, .bin .add (.t 9) (.v (.int .i64 1)), none⟩, ⟨some 9, .mv (.t 16), none⟩])))))))
 (.seq (.ops [⟨some 4, .mv (.v (.bool false)), none⟩])
 .ret)))
noncomputable def X.s_l1Has (p0 : (List Int)) (p1 : Int) : Option Bool :=
  ((loop (fun (x12 : Int) => ((bif (decide (x12 < (p0.length : Int))) then ((at' zI p0 x12).bind fun v15 => (bif (v15 == p1) then some (Sum.inr (Sum.inr true)) else some (Sum.inl (W (x12 + 1))))) else some (Sum.inr (Sum.inl ()))) : Option (Int ⊕ (Unit ⊕ Bool)))) 0).bind fun y18 => (Sum.elim (fun (y20 : Unit) => some false) (fun (y21 : Bool) => some y21) y18))
theorem s_l1Has_ok (p0 : (List Int)) (p1 : Int) (r : Bool) (H : X.s_l1Has p0 p1 = some r) : FnOk Tryz.prog gl 88 [.c (dat 1 eI zI p0), cI p1] (cB r) := by
  unfold X.s_l1Has at H
  refine fn_in (fn := Tryz.f88) (ir := s_l1Has_ir) (s1 := lit [(4, cB r)] []) Tryz.func88 (by kernel_rfl) (by kernel_rfl) (by kernel_rfl) (by kernel_rfl) (by kernel_rfl) ?_
  refine seq_ops [] [] [(0, .c (dat 1 eI zI p0)), (1, cI p1)] [] (fun t => t) (by kernel_rfl) ?_
  refine seq_in ?_
  refine seq_ops [] [] [(1, cI p1), (7, .c (dat 1 eI zI p0)), (8, cI (p0.length : Int)), (9, cI 0)] [] (fun t => lI p0 (t)) (by kernel_rfl) ?_
  refine ends_blk ?_
  obtain ⟨y18, h19, H⟩ := ofBind H
  refine loop_in (fun (x : Int) => lit [(1, cI p1), (7, .c (dat 1 eI zI p0)), (8, cI (p0.length : Int)), (9, cI x)] []) (orJ (fun (z : Unit) => At (.exit 0) (lit [] [])) (fun (z : Bool) => At .ret (lit [(4, cB z)] []))) h19 ?_ ?_
  · clear H h19
    intro x12 y0 H
    refine seq_ops [] [] [(1, cI p1), (7, .c (dat 1 eI zI p0)), (8, cI (p0.length : Int)), (9, cI x12), (10, cB (decide (x12 < (p0.length : Int))))] [] (fun t => t) (by kernel_rfl) ?_
    refine seq_in ?_
    rcases ofCond H with ⟨c14, H⟩ | ⟨c14, H⟩
    · refine ite_t c14 (by kernel_rfl) ?_
      refine ends_skip ?_
      change EndsI _ _ _ _ _ _
      refine seq_in ?_
      refine ends_blk ?_
      obtain ⟨v15, h16, H⟩ := ofBind H
      refine seq_ops [.cs (eI v15)] [] [(1, cI p1), (6, cI v15), (7, .c (dat 1 eI zI p0)), (8, cI (p0.length : Int)), (9, cI x12)] [] (fun t => aI (at_lt h16) (aI (at_enc (enc := eI) h16) (t))) (by kernel_rfl) ?_
      refine seq_ops [] [] [(1, cI p1), (7, .c (dat 1 eI zI p0)), (8, cI (p0.length : Int)), (9, cI x12), (15, cB (v15 == p1))] [] (fun t => t) (by kernel_rfl) ?_
      rcases ofCond H with ⟨c17, H⟩ | ⟨c17, H⟩
      · refine ite_t c17 (by kernel_rfl) ?_
        refine seq_ops [] [] [(4, cB true)] [] (fun t => t) (by kernel_rfl) ?_
        refine ends_ret ?_
        obtain rfl := Option.some.inj H
        exact And.intro (by simp) (And.intro rfl rfl)
      · refine ite_f c17 (by kernel_rfl) ?_
        refine ends_skip ?_
        change EndsI _ _ _ _ _ _
        refine one_ops [] [] [(1, cI p1), (7, .c (dat 1 eI zI p0)), (8, cI (p0.length : Int)), (9, cI (W (x12 + 1)))] [] (fun t => t) (by kernel_rfl) ?_
        obtain rfl := Option.some.inj H
        exact And.intro rfl rfl
    · refine ite_f c14 (by kernel_rfl) ?_
      refine tell [] [] [] (fun t => t) (by kernel_rfl) ?_
      refine ends_exit ?_
      obtain rfl := Option.some.inj H
      exact And.intro (by simp) (And.intro rfl rfl)
  · clear h19
    cases y18 with
    | inl y20 =>
      replace H := ofInl H
      intro e s q
      obtain ⟨rfl, rfl⟩ := q
      change EndsI _ _ _ _ _ _
      refine seq_ops [] [] [(4, cB false)] [] (fun t => t) (by kernel_rfl) ?_
      refine ends_ret ?_
      obtain rfl := Option.some.inj H
      exact And.intro (.inl rfl) rfl
    | inr y21 =>
      replace H := ofInr H
      intro e s q
      obtain ⟨rfl, rfl⟩ := q
      obtain rfl := Option.some.inj H
      exact And.intro (.inl rfl) rfl

def s_mEdge_ir : S :=
 (.seq (.ops [⟨some 3, .box 5 (.t 0), none⟩, ⟨some 6, .mv (.v (.int .i64 0)), none⟩])
 (.seq (.seq (.ops [⟨some 7, .mv (.t 2), none⟩, ⟨some 8, .bin .lss (.t 7) (.v (.int .i64 3)), none⟩])
 (.ite (.t 8) (.seq (.ops [⟨some 9, .mv (.t 1), none⟩, ⟨some 10, .bin .mul (.v (.int .i64 3)) (.t 9), none⟩, ⟨some 11, .mv (.t 2), none⟩, ⟨some 12, .bin .add (.t 10) (.t 11), none⟩, ⟨some 6, .mv (.t 12), none⟩])
  .ret)
 .skip))
 (.seq (.ops [⟨some 13, .load 5 true (.t 3), none⟩, ⟨some 14, .mv (.t 1), none⟩, ⟨some 15, .mv (.t 2), none⟩, ⟨some 16, .call 87 [.t 13, .t 14, .t 15], none⟩, ⟨some 17, .bin .mul (.v (.int .i64 3)) (.t 16), none⟩, ⟨some 18, .mv (.t 2), none⟩, ⟨some 19, .bin .add (.t 17) (.t 18), none⟩, ⟨some 20, .bin .sub (.t 19) (.v (.int .i64 3)), none⟩, ⟨some 6, .mv (.t 20), none⟩])
 .ret)))
noncomputable def X.s_mEdge (p0 : TMap) (p1 : Int) (p2 : Int) : Option Int :=
  (bif (decide (p2 < 3)) then some (W ((W (3 * p1)) + p2)) else ((X.s_mNext p0 p1 p2).bind fun v3 => some (W ((W ((W (3 * v3)) + p2)) - 3))))
theorem s_mEdge_ok (p0 : TMap) (p1 : Int) (p2 : Int) (r : Int) (H : X.s_mEdge p0 p1 p2 = some r) : FnOk Tryz.prog gl 239 [.agg (eTMap p0), cI p1, cI p2] (cI r) := by
  unfold X.s_mEdge at H
  refine fn_in (fn := Tryz.f239) (ir := s_mEdge_ir) (s1 := lit [(6, cI r)] []) Tryz.func239 (by kernel_rfl) (by kernel_rfl) (by kernel_rfl) (by kernel_rfl) (by kernel_rfl) ?_
  refine seq_ops [] [] [(1, cI p1), (2, cI p2), (3, .c (.pk 3 0))] [(3, .var (eTMap p0) false)] (fun t => t) (by kernel_rfl) ?_
  refine seq_in ?_
  refine seq_ops [] [] [(1, cI p1), (2, cI p2), (3, .c (.pk 3 0)), (8, cB (decide (p2 < 3)))] [(3, .var (eTMap p0) false)] (fun t => t) (by kernel_rfl) ?_
  rcases ofCond H with ⟨c2, H⟩ | ⟨c2, H⟩
  · refine ite_t c2 (by kernel_rfl) ?_
    refine seq_ops [] [] [(6, cI (W ((W (3 * p1)) + p2)))] [] (fun t => t) (by kernel_rfl) ?_
    refine ends_ret ?_
    obtain rfl := Option.some.inj H
    exact And.intro (.inl rfl) rfl
  · refine ite_f c2 (by kernel_rfl) ?_
    refine ends_skip ?_
    change EndsI _ _ _ _ _ _
    obtain ⟨v3, h4, H⟩ := ofBind H
    refine seq_ops [.res (cI v3)] [] [(6, cI (W ((W ((W (3 * v3)) + p2)) - 3)))] [] (fun t => aI (s_mNext_ok p0 p1 p2 v3 h4) (t)) (by kernel_rfl) ?_
    refine ends_ret ?_
    obtain rfl := Option.some.inj H
    exact And.intro (.inl rfl) rfl

def s_mRoad_ir : S :=
 (.seq (.ops [⟨some 3, .box 5 (.t 0), none⟩, ⟨some 6, .mv (.v (.bool false)), none⟩])
 (.seq (.draw 8 [⟨some 7, .fad 4 (.t 3), none⟩, ⟨some 8, .load 1 false (.t 7), none⟩, ⟨some 9, .load 5 true (.t 3), none⟩, ⟨some 10, .mv (.t 1), none⟩, ⟨some 11, .mv (.t 2), none⟩, ⟨some 12, .call 239 [.t 9, .t 10, .t 11], none⟩, ⟨some 13, .call 88 [.t 8, .t 12], none⟩, ⟨some 6, .mv (.t 13), none⟩])
 .ret))
noncomputable def X.s_mRoad (p0 : TMap) (p1 : Int) (p2 : Int) : Option Bool :=
  ((X.s_mEdge p0 p1 p2).bind fun v1 => ((X.s_l1Has p0.Roads v1).bind fun v3 => some v3))
theorem s_mRoad_ok (p0 : TMap) (p1 : Int) (p2 : Int) (r : Bool) (H : X.s_mRoad p0 p1 p2 = some r) : FnOk Tryz.prog gl 219 [.agg (eTMap p0), cI p1, cI p2] (cB r) := by
  unfold X.s_mRoad at H
  refine fn_in (fn := Tryz.f219) (ir := s_mRoad_ir) (s1 := lit [(6, cB r)] []) Tryz.func219 (by kernel_rfl) (by kernel_rfl) (by kernel_rfl) (by kernel_rfl) (by kernel_rfl) ?_
  refine seq_ops [] [] [(1, cI p1), (2, cI p2), (3, .c (.pk 3 0))] [(3, .var (eTMap p0) false)] (fun t => t) (by kernel_rfl) ?_
  obtain ⟨v1, h2, H⟩ := ofBind H
  obtain ⟨v3, h4, H⟩ := ofBind H
  refine seq_draw [.res (cI v1), .res (cB v3)] [] [(6, cB v3)] [] (fun t => aI (s_mEdge_ok p0 p1 p2 v1 h2) (aI trivial (aI (rfl : ([] : List Nat) = []) (aI (s_l1Has_ok p0.Roads v1 v3 h4) (aI trivial (aI (rfl : ([] : List Nat) = []) (t))))))) (by kernel_rfl) ?_
  refine ends_ret ?_
  obtain rfl := Option.some.inj H
  exact And.intro (.inl rfl) rfl

def s_mRiver_ir : S :=
 (.seq (.ops [⟨some 3, .box 5 (.t 0), none⟩, ⟨some 6, .mv (.v (.bool false)), none⟩])
 (.seq (.draw 8 [⟨some 7, .fad 3 (.t 3), none⟩, ⟨some 8, .load 1 false (.t 7), none⟩, ⟨some 9, .load 5 true (.t 3), none⟩, ⟨some 10, .mv (.t 1), none⟩, ⟨some 11, .mv (.t 2), none⟩, ⟨some 12, .call 239 [.t 9, .t 10, .t 11], none⟩, ⟨some 13, .call 88 [.t 8, .t 12], none⟩, ⟨some 6, .mv (.t 13), none⟩])
 .ret))
noncomputable def X.s_mRiver (p0 : TMap) (p1 : Int) (p2 : Int) : Option Bool :=
  ((X.s_mEdge p0 p1 p2).bind fun v1 => ((X.s_l1Has p0.Rivers v1).bind fun v3 => some v3))
theorem s_mRiver_ok (p0 : TMap) (p1 : Int) (p2 : Int) (r : Bool) (H : X.s_mRiver p0 p1 p2 = some r) : FnOk Tryz.prog gl 221 [.agg (eTMap p0), cI p1, cI p2] (cB r) := by
  unfold X.s_mRiver at H
  refine fn_in (fn := Tryz.f221) (ir := s_mRiver_ir) (s1 := lit [(6, cB r)] []) Tryz.func221 (by kernel_rfl) (by kernel_rfl) (by kernel_rfl) (by kernel_rfl) (by kernel_rfl) ?_
  refine seq_ops [] [] [(1, cI p1), (2, cI p2), (3, .c (.pk 3 0))] [(3, .var (eTMap p0) false)] (fun t => t) (by kernel_rfl) ?_
  obtain ⟨v1, h2, H⟩ := ofBind H
  obtain ⟨v3, h4, H⟩ := ofBind H
  refine seq_draw [.res (cI v1), .res (cB v3)] [] [(6, cB v3)] [] (fun t => aI (s_mEdge_ok p0 p1 p2 v1 h2) (aI trivial (aI (rfl : ([] : List Nat) = []) (aI (s_l1Has_ok p0.Rivers v1 v3 h4) (aI trivial (aI (rfl : ([] : List Nat) = []) (t))))))) (by kernel_rfl) ?_
  refine ends_ret ?_
  obtain rfl := Option.some.inj H
  exact And.intro (.inl rfl) rfl

def s_zExerts_ir : S :=
 (.seq (.ops [⟨some 4, .box 12 (.t 0), none⟩, ⟨some 5, .box 3 (.t 1), none⟩, ⟨some 8, .mv (.v (.bool false)), none⟩])
 (.seq (.ops [⟨some 11, .fad 2 (.t 5), none⟩, ⟨some 12, .load 1 false (.t 11), none⟩, ⟨some 13, .mv (.t 2), none⟩, ⟨some 14, .iad 4 (.t 12) (.t 13), none⟩, ⟨some 15, .load 4 true (.t 14), none⟩, ⟨some 9, .alloc [.int .i64 0, .int .i64 0, .int .i64 0, .int .i64 0], none⟩, ⟨none, .store 4 (.t 9) (.t 15), none⟩])
 (.seq (.seq (.ops [⟨some 16, .fad 2 (.t 9), none⟩, ⟨some 17, .load 1 false (.t 16), none⟩, ⟨some 18, .bin .lss (.t 17) (.v (.int .i64 0)), none⟩, ⟨some 19, .mv (.t 18), none⟩, ⟨some 20, .fad 0 (.t 4), some (19, false)⟩, ⟨some 21, .fad 1 (.t 20), some (19, false)⟩, ⟨some 22, .load 1 false (.t 21), some (19, false)⟩, ⟨some 23, .fad 1 (.t 9), some (19, false)⟩, ⟨some 24, .load 1 false (.t 23), some (19, false)⟩, ⟨some 25, .iad 6 (.t 22) (.t 24), some (19, false)⟩, ⟨some 26, .fad 4 (.t 25), some (19, false)⟩, ⟨some 27, .load 1 false (.t 26), some (19, false)⟩, ⟨some 28, .not (.t 27), some (19, false)⟩, ⟨some 29, .pick (.t 19) (.v (.bool true)) (.t 28), none⟩, ⟨some 30, .mv (.t 29), none⟩, ⟨some 31, .load 12 true (.t 4), some (30, false)⟩, ⟨some 32, .fad 1 (.t 9), some (30, false)⟩, ⟨some 33, .load 1 false (.t 32), some (30, false)⟩, ⟨some 34, .mv (.t 3), some (30, false)⟩, ⟨some 35, .call 134 [.t 31, .t 33, .t 34], some (30, false)⟩, ⟨some 36, .bin .eql (.t 35) (.v (.int .i64 0)), some (30, false)⟩, ⟨some 37, .pick (.t 30) (.v (.bool true)) (.t 36), none⟩])
 (.ite (.t 37) (.seq (.ops [⟨some 8, .mv (.v (.bool false)), none⟩])
  .ret)
 .skip))
 (.seq (.seq (.ops [⟨some 10, .mv (.v (.int .i64 0)), none⟩])
 (.blk 0 (.loop (.seq (.seq (.ops [⟨some 38, .mv (.t 10), none⟩, ⟨some 39, .bin .lss (.t 38) (.v (.int .i64 6)), none⟩])
   (.ite (.t 39) .skip
   (.exit 0)))
   (.seq (.blk 1 (.seq (.ops [⟨some 42, .fad 7 (.t 4), none⟩, ⟨some 43, .load 5 true (.t 42), none⟩, ⟨some 44, .fad 2 (.t 9), none⟩, ⟨some 45, .load 1 false (.t 44), none⟩, ⟨some 46, .mv (.t 10), none⟩, ⟨some 47, .call 87 [.t 43, .t 45, .t 46], none⟩, ⟨some 48, .mv (.t 3), none⟩, ⟨some 49, .bin .eql (.t 47) (.t 48), none⟩])
    (.ite (.t 49) (.seq (.ops [⟨some 50, .fad 7 (.t 4), none⟩, ⟨some 51, .load 5 true (.t 50), none⟩, ⟨some 52, .fad 2 (.t 9), none⟩, ⟨some 53, .load 1 false (.t 52), none⟩, ⟨some 54, .mv (.t 10), none⟩, ⟨some 55, .call 221 [.t 51, .t 53, .t 54], none⟩, ⟨some 56, .not (.t 55), none⟩, ⟨some 57, .mv (.t 56), none⟩, ⟨some 58, .fad 7 (.t 4), some (57, false)⟩, ⟨some 59, .load 5 true (.t 58), some (57, false)⟩, ⟨some 60, .fad 2 (.t 9), some (57, false)⟩, ⟨some 61, .load 1 false (.t 60), some (57, false)⟩, ⟨some 62, .mv (.t 10), some (57, false)⟩, ⟨some 63, .call 219 [.t 59, .t 61, .t 62], some (57, false)⟩, ⟨some 64, .pick (.t 57) (.v (.bool true)) (.t 63), none⟩, ⟨some 8, .mv (.t 64), none⟩])
     .ret)
    .skip)))
   (.ops [⟨some 40, .mv (.t 10), none⟩, ⟨some 41, .bin .add (.t 40) (.v (.int .i64 1)), none⟩, ⟨some 10, .mv (.t 41), none⟩]))))))
 (.seq (.ops [⟨some 8, .mv (.v (.bool false)), none⟩])
 .ret)))))
noncomputable def X.s_zExerts (p0 : TBoard) (p1 : TState) (p2 : Int) (p3 : Int) : Option Bool :=
  ((at' zTUnit p1.Units p2).bind fun v1 => (bif (decide (v1.At < 0)) then some false else ((at' zTKind p0.Rules.Kinds v1.Kind).bind fun v11 => (bif (!v11.Zone) then some false else ((X.s_bCost p0 v1.Kind p3).bind fun v14 => (bif (v14 == 0) then some false else ((loop (fun (x38 : Int) => ((bif (decide (x38 < 6)) then ((X.s_mNext p0.Map v1.At x38).bind fun v41 => (bif (v41 == p3) then ((X.s_mRiver p0.Map v1.At x38).bind fun v44 => (bif (!v44) then some (Sum.inr (Sum.inr true)) else ((X.s_mRoad p0.Map v1.At x38).bind fun v47 => some (Sum.inr (Sum.inr v47))))) else some (Sum.inl (W (x38 + 1))))) else some (Sum.inr (Sum.inl ()))) : Option (Int ⊕ (Unit ⊕ Bool)))) 0).bind fun y49 => (Sum.elim (fun (y51 : Unit) => some false) (fun (y52 : Bool) => some y52) y49))))))))
theorem s_zExerts_ok (p0 : TBoard) (p1 : TState) (p2 : Int) (p3 : Int) (r : Bool) (H : X.s_zExerts p0 p1 p2 p3 = some r) : FnOk Tryz.prog gl 251 [.agg (eTBoard p0), .agg (eTState p1), cI p2, cI p3] (cB r) := by
  unfold X.s_zExerts at H
  refine fn_in (fn := Tryz.f251) (ir := s_zExerts_ir) (s1 := lit [(8, cB r)] []) Tryz.func251 (by kernel_rfl) (by kernel_rfl) (by kernel_rfl) (by kernel_rfl) (by kernel_rfl) ?_
  refine seq_ops [] [] [(2, cI p2), (3, cI p3), (4, .c (.pk 4 0)), (5, .c (.pk 5 0))] [(4, .var (eTBoard p0) false), (5, .var (eTState p1) false)] (fun t => t) (by kernel_rfl) ?_
  obtain ⟨v1, h2, H⟩ := ofBind H
  refine seq_ops [.cs (eTUnit v1)] [] [(3, cI p3), (4, .c (.pk 4 0)), (9, .c (.pk 9 0))] [(4, .var (eTBoard p0) false), (9, .var (eTUnit v1) false)] (fun t => aI (at_lt h2) (aI (at_enc (enc := eTUnit) h2) (t))) (by kernel_rfl) ?_
  refine seq_in ?_
  rcases ofCond H with ⟨c10, H⟩ | ⟨c10, H⟩
  · refine seq_ops [.g true, .g true, .g true, .g true, .g true, .g true, .g true, .g true, .g true, .g true, .g true, .g true, .g true, .g true, .g true, .g true, .g true] [] [(3, cI p3), (4, .c (.pk 4 0)), (9, .c (.pk 9 0)), (37, cB true)] [(4, .var (eTBoard p0) false), (9, .var (eTUnit v1) false)] (fun t => aI c10 (aI c10 (aI c10 (aI c10 (aI c10 (aI c10 (aI c10 (aI c10 (aI c10 (aI c10 (aI (rfl : (true : Bool) = true) (aI (rfl : (true : Bool) = true) (aI (rfl : (true : Bool) = true) (aI (rfl : (true : Bool) = true) (aI (rfl : (true : Bool) = true) (aI (rfl : (true : Bool) = true) (aI (rfl : (true : Bool) = true) (t)))))))))))))))))) (by kernel_rfl) ?_
    refine ite_t (rfl : (true : Bool) = true) (by kernel_rfl) ?_
    refine seq_ops [] [] [(8, cB false)] [] (fun t => t) (by kernel_rfl) ?_
    refine ends_ret ?_
    obtain rfl := Option.some.inj H
    exact And.intro (.inl rfl) rfl
  · obtain ⟨v11, h12, H⟩ := ofBind H
    rcases ofCond H with ⟨c13, H⟩ | ⟨c13, H⟩
    · refine seq_ops [.g false, .g false, .g false, .g false, .g false, .g false, .cs (eTKind v11), .g false, .g false, .g false, .g false, .g true, .g true, .g true, .g true, .g true, .g true, .g true] [] [(3, cI p3), (4, .c (.pk 4 0)), (9, .c (.pk 9 0)), (37, cB true)] [(4, .var (eTBoard p0) false), (9, .var (eTUnit v1) false)] (fun t => aI c10 (aI c10 (aI c10 (aI c10 (aI c10 (aI c10 (aI (at_lt h12) (aI (at_enc (enc := eTKind) h12) (aI c10 (aI c10 (aI c10 (aI c10 (aI c13 (aI c13 (aI c13 (aI c13 (aI c13 (aI c13 (aI c13 (t)))))))))))))))))))) (by kernel_rfl) ?_
      refine ite_t (rfl : (true : Bool) = true) (by kernel_rfl) ?_
      refine seq_ops [] [] [(8, cB false)] [] (fun t => t) (by kernel_rfl) ?_
      refine ends_ret ?_
      obtain rfl := Option.some.inj H
      exact And.intro (.inl rfl) rfl
    · obtain ⟨v14, h15, H⟩ := ofBind H
      refine seq_ops [.g false, .g false, .g false, .g false, .g false, .g false, .cs (eTKind v11), .g false, .g false, .g false, .g false, .g false, .g false, .g false, .g false, .g false, .res (cI v14), .g false, .g false] [] [(3, cI p3), (4, .c (.pk 4 0)), (9, .c (.pk 9 0)), (37, cB (v14 == 0))] [(4, .var (eTBoard p0) false), (9, .var (eTUnit v1) false)] (fun t => aI c10 (aI c10 (aI c10 (aI c10 (aI c10 (aI c10 (aI (at_lt h12) (aI (at_enc (enc := eTKind) h12) (aI c10 (aI c10 (aI c10 (aI c10 (aI c13 (aI c13 (aI c13 (aI c13 (aI c13 (aI (s_bCost_ok p0 v1.Kind p3 v14 h15) (aI c13 (aI c13 (t))))))))))))))))))))) (by kernel_rfl) ?_
      rcases ofCond H with ⟨c16, H⟩ | ⟨c16, H⟩
      · refine ite_t c16 (by kernel_rfl) ?_
        refine seq_ops [] [] [(8, cB false)] [] (fun t => t) (by kernel_rfl) ?_
        refine ends_ret ?_
        obtain rfl := Option.some.inj H
        exact And.intro (.inl rfl) rfl
      · refine ite_f c16 (by kernel_rfl) ?_
        refine ends_skip ?_
        change EndsI _ _ _ _ _ _
        refine seq_in ?_
        refine seq_ops [] [] [(3, cI p3), (4, .c (.pk 4 0)), (9, .c (.pk 9 0)), (10, cI 0)] [(4, .var (eTBoard p0) false), (9, .var (eTUnit v1) false)] (fun t => t) (by kernel_rfl) ?_
        refine ends_blk ?_
        obtain ⟨y49, h50, H⟩ := ofBind H
        refine loop_in (fun (x : Int) => lit [(3, cI p3), (4, .c (.pk 4 0)), (9, .c (.pk 9 0)), (10, cI x)] [(4, .var (eTBoard p0) false), (9, .var (eTUnit v1) false)]) (orJ (fun (z : Unit) => At (.exit 0) (lit [] [])) (fun (z : Bool) => At .ret (lit [(8, cB z)] []))) h50 ?_ ?_
        · clear H h50
          intro x38 y0 H
          refine seq_in ?_
          refine seq_ops [] [] [(3, cI p3), (4, .c (.pk 4 0)), (9, .c (.pk 9 0)), (10, cI x38), (39, cB (decide (x38 < 6)))] [(4, .var (eTBoard p0) false), (9, .var (eTUnit v1) false)] (fun t => t) (by kernel_rfl) ?_
          rcases ofCond H with ⟨c40, H⟩ | ⟨c40, H⟩
          · refine ite_t c40 (by kernel_rfl) ?_
            refine ends_skip ?_
            change EndsI _ _ _ _ _ _
            refine seq_in ?_
            refine ends_blk ?_
            obtain ⟨v41, h42, H⟩ := ofBind H
            refine seq_ops [.res (cI v41)] [] [(3, cI p3), (4, .c (.pk 4 0)), (9, .c (.pk 9 0)), (10, cI x38), (49, cB (v41 == p3))] [(4, .var (eTBoard p0) false), (9, .var (eTUnit v1) false)] (fun t => aI (s_mNext_ok p0.Map v1.At x38 v41 h42) (t)) (by kernel_rfl) ?_
            rcases ofCond H with ⟨c43, H⟩ | ⟨c43, H⟩
            · refine ite_t c43 (by kernel_rfl) ?_
              obtain ⟨v44, h45, H⟩ := ofBind H
              rcases ofCond H with ⟨c46, H⟩ | ⟨c46, H⟩
              · refine seq_ops [.res (cB v44), .g true, .g true, .g true, .g true, .g true, .g true, .g true] [] [(8, cB true)] [] (fun t => aI (s_mRiver_ok p0.Map v1.At x38 v44 h45) (aI c46 (aI c46 (aI c46 (aI c46 (aI c46 (aI c46 (aI c46 (t))))))))) (by kernel_rfl) ?_
                refine ends_ret ?_
                obtain rfl := Option.some.inj H
                exact And.intro (by simp) (And.intro rfl rfl)
              · obtain ⟨v47, h48, H⟩ := ofBind H
                refine seq_ops [.res (cB v44), .g false, .g false, .g false, .g false, .g false, .g false, .res (cB v47), .g false] [] [(8, cB v47)] [] (fun t => aI (s_mRiver_ok p0.Map v1.At x38 v44 h45) (aI c46 (aI c46 (aI c46 (aI c46 (aI c46 (aI c46 (aI (s_mRoad_ok p0.Map v1.At x38 v47 h48) (aI c46 (t)))))))))) (by kernel_rfl) ?_
                refine ends_ret ?_
                obtain rfl := Option.some.inj H
                exact And.intro (by simp) (And.intro rfl rfl)
            · refine ite_f c43 (by kernel_rfl) ?_
              refine ends_skip ?_
              change EndsI _ _ _ _ _ _
              refine one_ops [] [] [(3, cI p3), (4, .c (.pk 4 0)), (9, .c (.pk 9 0)), (10, cI (W (x38 + 1)))] [(4, .var (eTBoard p0) false), (9, .var (eTUnit v1) false)] (fun t => t) (by kernel_rfl) ?_
              obtain rfl := Option.some.inj H
              exact And.intro rfl rfl
          · refine ite_f c40 (by kernel_rfl) ?_
            refine tell [] [] [] (fun t => t) (by kernel_rfl) ?_
            refine ends_exit ?_
            obtain rfl := Option.some.inj H
            exact And.intro (by simp) (And.intro rfl rfl)
        · clear h50
          cases y49 with
          | inl y51 =>
            replace H := ofInl H
            intro e s q
            obtain ⟨rfl, rfl⟩ := q
            change EndsI _ _ _ _ _ _
            refine seq_ops [] [] [(8, cB false)] [] (fun t => t) (by kernel_rfl) ?_
            refine ends_ret ?_
            obtain rfl := Option.some.inj H
            exact And.intro (.inl rfl) rfl
          | inr y52 =>
            replace H := ofInr H
            intro e s q
            obtain ⟨rfl, rfl⟩ := q
            obtain rfl := Option.some.inj H
            exact And.intro (.inl rfl) rfl

def s_zSources_ir : S :=
 (.seq (.ops [⟨some 4, .box 12 (.t 0), none⟩, ⟨some 5, .box 3 (.t 1), none⟩, ⟨some 8, .mv (.v (.nil)), none⟩])
 (.seq (.ops [⟨some 9, .mv (.v (.nil)), none⟩])
 (.seq (.seq (.ops [⟨some 12, .fad 2 (.t 5), none⟩, ⟨some 13, .load 1 false (.t 12), none⟩, ⟨some 14, .len (.t 13), none⟩, ⟨some 15, .mv (.v (.int .i64 0)), none⟩])
 (.blk 0 (.loop (.seq (.ops [⟨some 16, .bin .lss (.t 15) (.t 14), none⟩])
   (.seq (.ite (.t 16) .skip
   (.exit 0))
   (.seq (.blk 1 (.seq (.ops [⟨some 17, .mv (.t 15), none⟩, ⟨some 18, .iad 4 (.t 13) (.t 15), none⟩, ⟨some 19, .load 4 true (.t 18), none⟩, ⟨some 11, .alloc [.int .i64 0, .int .i64 0, .int .i64 0, .int .i64 0], none⟩, ⟨some 10, .mv (.t 17), none⟩, ⟨none, .store 4 (.t 11) (.t 19), none⟩])
    (.seq (.ops [⟨some 20, .fad 0 (.t 11), none⟩, ⟨some 21, .load 1 false (.t 20), none⟩, ⟨some 22, .mv (.t 2), none⟩, ⟨some 23, .bin .eql (.t 21) (.t 22), none⟩, ⟨some 24, .mv (.t 23), none⟩, ⟨some 25, .load 12 true (.t 4), some (24, true)⟩, ⟨some 26, .load 3 true (.t 5), some (24, true)⟩, ⟨some 27, .mv (.t 10), some (24, true)⟩, ⟨some 28, .mv (.t 3), some (24, true)⟩, ⟨some 29, .call 251 [.t 25, .t 26, .t 27, .t 28], some (24, true)⟩, ⟨some 30, .pick (.t 24) (.t 29) (.v (.bool false)), none⟩])
    (.ite (.t 30) (.ops [⟨some 31, .mv (.t 9), none⟩, ⟨some 32, .mv (.t 10), none⟩, ⟨some 33, .bsl 1 [.t 32], none⟩, ⟨some 34, .app 1 8 (.t 31) (.t 33), none⟩, ⟨some 9, .mv (.t 34), none⟩])
    .skip))))
   (.ops [⟨some 35, .bin .add (.t 15) (.v (.int .i64 1)), none⟩, ⟨some 15, .mv (.t 35), none⟩])))))))
 (.seq (.ops [⟨some 36, .mv (.t 9), none⟩, ⟨some 8, .mv (.t 36), none⟩])
 .ret))))
noncomputable def X.s_zSources (p0 : TBoard) (p1 : TState) (p2 : Int) (p3 : Int) : Option (List Int) :=
  ((loop (fun (x20 : (Int × (List Int))) => ((bif (decide (x20.1 < (p1.Units.length : Int))) then ((at' zTUnit p1.Units x20.1).bind fun v23 => (bif (v23.Side == p2) then ((X.s_zExerts p0 p1 x20.1 p3).bind fun v26 => (bif v26 then (if (x20.2 ++ ([x20.1] : List Int)).length ≤ LIM then some (Sum.inl ((W (x20.1 + 1)), (x20.2 ++ ([x20.1] : List Int)))) else none) else some (Sum.inl ((W (x20.1 + 1)), x20.2)))) else some (Sum.inl ((W (x20.1 + 1)), x20.2)))) else some (Sum.inr x20.2)) : Option ((Int × (List Int)) ⊕ (List Int)))) (0, ([] : List Int))).bind fun y30 => some y30)
theorem s_zSources_ok (p0 : TBoard) (p1 : TState) (p2 : Int) (p3 : Int) (r : (List Int)) (H : X.s_zSources p0 p1 p2 p3 = some r) : FnOk Tryz.prog gl 237 [.agg (eTBoard p0), .agg (eTState p1), cI p2, cI p3] (.c (dat 1 eI zI r)) := by
  unfold X.s_zSources at H
  refine fn_in (fn := Tryz.f237) (ir := s_zSources_ir) (s1 := lit [(8, .c (dat 1 eI zI r))] []) Tryz.func237 (by kernel_rfl) (by kernel_rfl) (by kernel_rfl) (by kernel_rfl) (by kernel_rfl) ?_
  refine seq_ops [] [] [(2, cI p2), (3, cI p3), (4, .c (.pk 4 0)), (5, .c (.pk 5 0))] [(4, .var (eTBoard p0) false), (5, .var (eTState p1) false)] (fun t => t) (by kernel_rfl) ?_
  refine seq_ops [] [] [(2, cI p2), (3, cI p3), (4, .c (.pk 4 0)), (5, .c (.pk 5 0)), (9, .c (.nil))] [(4, .var (eTBoard p0) false), (5, .var (eTState p1) false)] (fun t => t) (by kernel_rfl) ?_
  refine seq_in ?_
  refine seq_ops [] [] [(2, cI p2), (3, cI p3), (4, .c (.pk 4 0)), (5, .c (.pk 5 0)), (9, .c (.nil)), (13, .c (dat 4 eTUnit zTUnit p1.Units)), (14, cI (p1.Units.length : Int)), (15, cI 0)] [(4, .var (eTBoard p0) false), (5, .var (eTState p1) false)] (fun t => lI p1.Units (t)) (by kernel_rfl) ?_
  refine ends_blk ?_
  obtain ⟨y30, h31, H⟩ := ofBind H
  refine tell [.nlo 9 1001 1 (fF eI zI ([] : List Int))] [(2, cI p2), (3, cI p3), (4, .c (.pk 4 0)), (5, .c (.pk 5 0)), (9, .c (.own 1001 1 0 (([] : List Int).length))), (13, .c (dat 4 eTUnit zTUnit p1.Units)), (14, cI (p1.Units.length : Int)), (15, cI 0)] [(4, .var (eTBoard p0) false), (5, .var (eTState p1) false), (1001, .arr 1 (([] : List Int).length) (fF eI zI ([] : List Int)) false)] (fun t => aI (by decide : 0 < 1) (t)) (by kernel_rfl) ?_
  refine loop_in (fun (x : (Int × (List Int))) => lit [(2, cI p2), (3, cI p3), (4, .c (.pk 4 0)), (5, .c (.pk 5 0)), (9, .c (.own 1001 1 0 x.2.length)), (13, .c (dat 4 eTUnit zTUnit p1.Units)), (14, cI (p1.Units.length : Int)), (15, cI x.1)] [(4, .var (eTBoard p0) false), (5, .var (eTState p1) false), (1001, .arr 1 x.2.length (fF eI zI x.2) false)]) (fun (z : (List Int)) => At (.exit 0) (lit [(9, .c (.own 1001 1 0 z.length))] [(1001, .arr 1 z.length (fF eI zI z) false)])) h31 ?_ ?_
  · clear H h31
    intro x20 y0 H
    refine seq_ops [] [] [(2, cI p2), (3, cI p3), (4, .c (.pk 4 0)), (5, .c (.pk 5 0)), (9, .c (.own 1001 1 0 x20.2.length)), (13, .c (dat 4 eTUnit zTUnit p1.Units)), (14, cI (p1.Units.length : Int)), (15, cI x20.1), (16, cB (decide (x20.1 < (p1.Units.length : Int))))] [(4, .var (eTBoard p0) false), (5, .var (eTState p1) false), (1001, .arr 1 x20.2.length (fF eI zI x20.2) false)] (fun t => t) (by kernel_rfl) ?_
    refine seq_in ?_
    rcases ofCond H with ⟨c22, H⟩ | ⟨c22, H⟩
    · refine ite_t c22 (by kernel_rfl) ?_
      refine ends_skip ?_
      change EndsI _ _ _ _ _ _
      refine seq_in ?_
      refine ends_blk ?_
      obtain ⟨v23, h24, H⟩ := ofBind H
      refine seq_ops [.cs (eTUnit v23)] [] [(2, cI p2), (3, cI p3), (4, .c (.pk 4 0)), (5, .c (.pk 5 0)), (9, .c (.own 1001 1 0 x20.2.length)), (10, cI x20.1), (11, .c (.pk 11 0)), (13, .c (dat 4 eTUnit zTUnit p1.Units)), (14, cI (p1.Units.length : Int)), (15, cI x20.1)] [(4, .var (eTBoard p0) false), (5, .var (eTState p1) false), (11, .var (eTUnit v23) false), (1001, .arr 1 x20.2.length (fF eI zI x20.2) false)] (fun t => aI (at_lt h24) (aI (at_enc (enc := eTUnit) h24) (t))) (by kernel_rfl) ?_
      rcases ofCond H with ⟨c25, H⟩ | ⟨c25, H⟩
      · obtain ⟨v26, h27, H⟩ := ofBind H
        refine seq_ops [.g true, .g true, .g true, .g true, .g true, .res (cB v26), .g true] [] [(2, cI p2), (3, cI p3), (4, .c (.pk 4 0)), (5, .c (.pk 5 0)), (9, .c (.own 1001 1 0 x20.2.length)), (10, cI x20.1), (13, .c (dat 4 eTUnit zTUnit p1.Units)), (14, cI (p1.Units.length : Int)), (15, cI x20.1), (30, cB v26)] [(4, .var (eTBoard p0) false), (5, .var (eTState p1) false), (1001, .arr 1 x20.2.length (fF eI zI x20.2) false)] (fun t => aI c25 (aI c25 (aI c25 (aI c25 (aI c25 (aI (s_zExerts_ok p0 p1 x20.1 p3 v26 h27) (aI c25 (t)))))))) (by kernel_rfl) ?_
        rcases ofCond H with ⟨c28, H⟩ | ⟨c28, H⟩
        · refine ite_t c28 (by kernel_rfl) ?_
          obtain ⟨g29, H⟩ := ofIf H
          refine one_ops [.fn ([x20.1] : List Int).length (fF eI zI ([x20.1] : List Int)), .fn (x20.2 ++ ([x20.1] : List Int)).length (fF eI zI (x20.2 ++ ([x20.1] : List Int)))] [] [(2, cI p2), (3, cI p3), (4, .c (.pk 4 0)), (5, .c (.pk 5 0)), (9, .c (.own 34 1 0 ((x20.2 ++ ([x20.1] : List Int)).length))), (13, .c (dat 4 eTUnit zTUnit p1.Units)), (14, cI (p1.Units.length : Int)), (15, cI x20.1)] [(4, .var (eTBoard p0) false), (5, .var (eTState p1) false), (34, .arr 1 ((x20.2 ++ ([x20.1] : List Int)).length) (fF eI zI (x20.2 ++ ([x20.1] : List Int))) false)] (fun t => aI (rfl : ([x20.1] : List Int).length = 1) (aI (fF_lit eI zI ([x20.1] : List Int)) (aI (And.intro (Nat.le_refl x20.2.length) (And.intro (@List.length_append _ x20.2 ([x20.1] : List Int)) g29)) (aI (fF_appL eI zI x20.2 ([x20.1] : List Int)) (aI (fF_appR eI zI x20.2 ([x20.1] : List Int)) (t)))))) (by kernel_rfl) ?_
          change EndsI _ _ _ _ _ _
          refine one_ops [] [.ren 34 1001] [(2, cI p2), (3, cI p3), (4, .c (.pk 4 0)), (5, .c (.pk 5 0)), (9, .c (.own 1001 1 0 ((x20.2 ++ ([x20.1] : List Int)).length))), (13, .c (dat 4 eTUnit zTUnit p1.Units)), (14, cI (p1.Units.length : Int)), (15, cI (W (x20.1 + 1)))] [(4, .var (eTBoard p0) false), (5, .var (eTState p1) false), (1001, .arr 1 ((x20.2 ++ ([x20.1] : List Int)).length) (fF eI zI (x20.2 ++ ([x20.1] : List Int))) false)] (fun t => t) (by kernel_rfl) ?_
          obtain rfl := Option.some.inj H
          exact And.intro rfl rfl
        · refine ite_f c28 (by kernel_rfl) ?_
          refine ends_skip ?_
          change EndsI _ _ _ _ _ _
          refine one_ops [] [] [(2, cI p2), (3, cI p3), (4, .c (.pk 4 0)), (5, .c (.pk 5 0)), (9, .c (.own 1001 1 0 x20.2.length)), (13, .c (dat 4 eTUnit zTUnit p1.Units)), (14, cI (p1.Units.length : Int)), (15, cI (W (x20.1 + 1)))] [(4, .var (eTBoard p0) false), (5, .var (eTState p1) false), (1001, .arr 1 x20.2.length (fF eI zI x20.2) false)] (fun t => t) (by kernel_rfl) ?_
          obtain rfl := Option.some.inj H
          exact And.intro rfl rfl
      · refine seq_ops [.g false, .g false, .g false, .g false, .g false, .g false] [] [(2, cI p2), (3, cI p3), (4, .c (.pk 4 0)), (5, .c (.pk 5 0)), (9, .c (.own 1001 1 0 x20.2.length)), (10, cI x20.1), (13, .c (dat 4 eTUnit zTUnit p1.Units)), (14, cI (p1.Units.length : Int)), (15, cI x20.1), (30, cB false)] [(4, .var (eTBoard p0) false), (5, .var (eTState p1) false), (1001, .arr 1 x20.2.length (fF eI zI x20.2) false)] (fun t => aI c25 (aI c25 (aI c25 (aI c25 (aI c25 (aI c25 (t))))))) (by kernel_rfl) ?_
        refine ite_f (rfl : (false : Bool) = false) (by kernel_rfl) ?_
        refine ends_skip ?_
        change EndsI _ _ _ _ _ _
        refine one_ops [] [] [(2, cI p2), (3, cI p3), (4, .c (.pk 4 0)), (5, .c (.pk 5 0)), (9, .c (.own 1001 1 0 x20.2.length)), (13, .c (dat 4 eTUnit zTUnit p1.Units)), (14, cI (p1.Units.length : Int)), (15, cI (W (x20.1 + 1)))] [(4, .var (eTBoard p0) false), (5, .var (eTState p1) false), (1001, .arr 1 x20.2.length (fF eI zI x20.2) false)] (fun t => t) (by kernel_rfl) ?_
        obtain rfl := Option.some.inj H
        exact And.intro rfl rfl
    · refine ite_f c22 (by kernel_rfl) ?_
      refine tell [] [(9, .c (.own 1001 1 0 x20.2.length))] [(1001, .arr 1 x20.2.length (fF eI zI x20.2) false)] (fun t => t) (by kernel_rfl) ?_
      refine ends_exit ?_
      obtain rfl := Option.some.inj H
      exact And.intro (by simp) (And.intro rfl rfl)
  · clear h31
    intro e s q
    obtain ⟨rfl, rfl⟩ := q
    change EndsI _ _ _ _ _ _
    refine seq_ops [] [] [(8, .c (.own 1001 1 0 y30.length))] [(1001, .arr 1 y30.length (fF eI zI y30) false)] (fun t => t) (by kernel_rfl) ?_
    refine tell [.frz 8] [(8, .c (dat 1 eI zI y30))] [] (fun t => aI (Nat.le_refl y30.length) (t)) (by kernel_rfl) ?_
    refine ends_ret ?_
    obtain rfl := Option.some.inj H
    exact And.intro (.inl rfl) rfl

def s_zIn_ir : S :=
 (.seq (.ops [⟨some 4, .box 12 (.t 0), none⟩, ⟨some 5, .box 3 (.t 1), none⟩, ⟨some 8, .mv (.v (.bool false)), none⟩])
 (.seq (.ops [⟨some 9, .load 12 true (.t 4), none⟩, ⟨some 10, .load 3 true (.t 5), none⟩, ⟨some 11, .mv (.t 3), none⟩, ⟨some 12, .mv (.t 2), none⟩, ⟨some 13, .call 237 [.t 9, .t 10, .t 11, .t 12], none⟩, ⟨some 14, .len (.t 13), none⟩, ⟨some 15, .bin .gtr (.t 14) (.v (.int .i64 0)), none⟩, ⟨some 8, .mv (.t 15), none⟩])
 .ret))
noncomputable def X.s_zIn (p0 : TBoard) (p1 : TState) (p2 : Int) (p3 : Int) : Option Bool :=
  ((X.s_zSources p0 p1 p3 p2).bind fun v1 => some (decide ((v1.length : Int) > 0)))
theorem s_zIn_ok (p0 : TBoard) (p1 : TState) (p2 : Int) (p3 : Int) (r : Bool) (H : X.s_zIn p0 p1 p2 p3 = some r) : FnOk Tryz.prog gl 216 [.agg (eTBoard p0), .agg (eTState p1), cI p2, cI p3] (cB r) := by
  unfold X.s_zIn at H
  refine fn_in (fn := Tryz.f216) (ir := s_zIn_ir) (s1 := lit [(8, cB r)] []) Tryz.func216 (by kernel_rfl) (by kernel_rfl) (by kernel_rfl) (by kernel_rfl) (by kernel_rfl) ?_
  refine seq_ops [] [] [(2, cI p2), (3, cI p3), (4, .c (.pk 4 0)), (5, .c (.pk 5 0))] [(4, .var (eTBoard p0) false), (5, .var (eTState p1) false)] (fun t => t) (by kernel_rfl) ?_
  obtain ⟨v1, h2, H⟩ := ofBind H
  refine seq_ops [.res (.c (dat 1 eI zI v1))] [] [(8, cB (decide ((v1.length : Int) > 0)))] [] (fun t => aI (s_zSources_ok p0 p1 p3 p2 v1 h2) (lI v1 (t))) (by kernel_rfl) ?_
  refine ends_ret ?_
  obtain rfl := Option.some.inj H
  exact And.intro (.inl rfl) rfl

def s_jBlocked_ir : S :=
 (.seq (.ops [⟨some 4, .box 12 (.t 0), none⟩, ⟨some 5, .box 3 (.t 1), none⟩, ⟨some 8, .mv (.v (.bool false)), none⟩])
 (.seq (.ops [⟨some 10, .load 3 true (.t 5), none⟩, ⟨some 11, .mv (.t 3), none⟩, ⟨some 12, .call 215 [.t 10, .t 11], none⟩, ⟨some 9, .mv (.t 12), none⟩])
 (.seq (.ops [⟨some 13, .mv (.t 9), none⟩, ⟨some 14, .mv (.t 2), none⟩, ⟨some 15, .bin .sub (.v (.int .i64 1)) (.t 14), none⟩, ⟨some 16, .bin .eql (.t 13) (.t 15), none⟩, ⟨some 17, .mv (.t 16), none⟩, ⟨some 18, .mv (.t 9), some (17, false)⟩, ⟨some 19, .bin .lss (.t 18) (.v (.int .i64 0)), some (17, false)⟩, ⟨some 20, .mv (.t 19), some (17, false)⟩, ⟨some 21, .load 12 true (.t 4), some (20, true)⟩, ⟨some 22, .load 3 true (.t 5), some (20, true)⟩, ⟨some 23, .mv (.t 3), some (20, true)⟩, ⟨some 24, .mv (.t 2), some (20, true)⟩, ⟨some 25, .bin .sub (.v (.int .i64 1)) (.t 24), some (20, true)⟩, ⟨some 26, .call 216 [.t 21, .t 22, .t 23, .t 25], some (20, true)⟩, ⟨some 27, .pick (.t 20) (.t 26) (.v (.bool false)), some (17, false)⟩, ⟨some 28, .pick (.t 17) (.v (.bool true)) (.t 27), none⟩, ⟨some 8, .mv (.t 28), none⟩])
 .ret)))
noncomputable def X.s_jBlocked (p0 : TBoard) (p1 : TState) (p2 : Int) (p3 : Int) : Option Bool :=
  ((X.s_sOwner p1 p3).bind fun v1 => (bif (v1 == (W (1 - p2))) then some true else (bif (decide (v1 < 0)) then ((X.s_zIn p0 p1 p3 (W (1 - p2))).bind fun v5 => some v5) else some false)))
theorem s_jBlocked_ok (p0 : TBoard) (p1 : TState) (p2 : Int) (p3 : Int) (r : Bool) (H : X.s_jBlocked p0 p1 p2 p3 = some r) : FnOk Tryz.prog gl 248 [.agg (eTBoard p0), .agg (eTState p1), cI p2, cI p3] (cB r) := by
  unfold X.s_jBlocked at H
  refine fn_in (fn := Tryz.f248) (ir := s_jBlocked_ir) (s1 := lit [(8, cB r)] []) Tryz.func248 (by kernel_rfl) (by kernel_rfl) (by kernel_rfl) (by kernel_rfl) (by kernel_rfl) ?_
  refine seq_ops [] [] [(2, cI p2), (3, cI p3), (4, .c (.pk 4 0)), (5, .c (.pk 5 0))] [(4, .var (eTBoard p0) false), (5, .var (eTState p1) false)] (fun t => t) (by kernel_rfl) ?_
  obtain ⟨v1, h2, H⟩ := ofBind H
  refine seq_ops [.res (cI v1)] [] [(2, cI p2), (3, cI p3), (4, .c (.pk 4 0)), (5, .c (.pk 5 0)), (9, cI v1)] [(4, .var (eTBoard p0) false), (5, .var (eTState p1) false)] (fun t => aI (s_sOwner_ok p1 p3 v1 h2) (t)) (by kernel_rfl) ?_
  rcases ofCond H with ⟨c3, H⟩ | ⟨c3, H⟩
  · refine seq_ops [.g true, .g true, .g true, .g true, .g true] [] [(8, cB true)] [] (fun t => aI c3 (aI c3 (aI c3 (aI c3 (aI c3 (t)))))) (by kernel_rfl) ?_
    refine ends_ret ?_
    obtain rfl := Option.some.inj H
    exact And.intro (.inl rfl) rfl
  · rcases ofCond H with ⟨c4, H⟩ | ⟨c4, H⟩
    · obtain ⟨v5, h6, H⟩ := ofBind H
      refine seq_ops [.g false, .g false, .g false, .g true, .g true, .g true, .g true, .g true, .g true, .res (cB v5), .g false, .g true, .g false] [] [(8, cB v5)] [] (fun t => aI c3 (aI c3 (aI c3 (aI c4 (aI c4 (aI c4 (aI c4 (aI c4 (aI c4 (aI (s_zIn_ok p0 p1 p3 (W (1 - p2)) v5 h6) (aI c3 (aI c4 (aI c3 (t)))))))))))))) (by kernel_rfl) ?_
      refine ends_ret ?_
      obtain rfl := Option.some.inj H
      exact And.intro (.inl rfl) rfl
    · refine seq_ops [.g false, .g false, .g false, .g false, .g false, .g false, .g false, .g false, .g false, .g false, .g false, .g false] [] [(8, cB false)] [] (fun t => aI c3 (aI c3 (aI c3 (aI c4 (aI c4 (aI c4 (aI c4 (aI c4 (aI c4 (aI c3 (aI c4 (aI c3 (t))))))))))))) (by kernel_rfl) ?_
      refine ends_ret ?_
      obtain rfl := Option.some.inj H
      exact And.intro (.inl rfl) rfl

def s_jOpen_ir : S :=
 (.seq (.ops [⟨some 4, .box 12 (.t 0), none⟩, ⟨some 5, .box 3 (.t 1), none⟩, ⟨some 8, .mv (.v (.nil)), none⟩])
 (.seq (.ops [⟨some 11, .fad 7 (.t 4), none⟩, ⟨some 12, .load 5 true (.t 11), none⟩, ⟨some 13, .call 132 [.t 12], none⟩, ⟨some 14, .msl 1 1 [.bool false] (.t 13), none⟩, ⟨some 9, .mv (.t 14), none⟩])
 (.seq (.seq (.ops [⟨some 15, .mv (.t 9), none⟩, ⟨some 16, .len (.t 15), none⟩, ⟨some 17, .mv (.v (.int .i64 0)), none⟩])
 (.blk 0 (.loop (.seq (.ops [⟨some 18, .bin .lss (.t 17) (.t 16), none⟩])
   (.seq (.ite (.t 18) .skip
   (.exit 0))
   (.seq (.blk 1 (.seq (.ops [⟨some 19, .mv (.t 17), none⟩, ⟨some 10, .mv (.t 19), none⟩])
    (.ops [⟨some 20, .mv (.t 9), none⟩, ⟨some 21, .mv (.t 10), none⟩, ⟨some 22, .load 12 true (.t 4), none⟩, ⟨some 23, .mv (.t 3), none⟩, ⟨some 24, .mv (.t 10), none⟩, ⟨some 25, .call 134 [.t 22, .t 23, .t 24], none⟩, ⟨some 26, .bin .gtr (.t 25) (.v (.int .i64 0)), none⟩, ⟨some 27, .mv (.t 26), none⟩, ⟨some 28, .load 12 true (.t 4), some (27, true)⟩, ⟨some 29, .load 3 true (.t 5), some (27, true)⟩, ⟨some 30, .mv (.t 2), some (27, true)⟩, ⟨some 31, .mv (.t 10), some (27, true)⟩, ⟨some 32, .call 248 [.t 28, .t 29, .t 30, .t 31], some (27, true)⟩, ⟨some 33, .not (.t 32), some (27, true)⟩, ⟨some 34, .pick (.t 27) (.t 33) (.v (.bool false)), none⟩, ⟨some 35, .iad 1 (.t 20) (.t 21), none⟩, ⟨none, .store 1 (.t 35) (.t 34), none⟩])))
   (.ops [⟨some 36, .bin .add (.t 17) (.v (.int .i64 1)), none⟩, ⟨some 17, .mv (.t 36), none⟩])))))))
 (.seq (.ops [⟨some 37, .mv (.t 9), none⟩, ⟨some 8, .mv (.t 37), none⟩])
 .ret))))
noncomputable def X.s_jOpen (p0 : TBoard) (p1 : TState) (p2 : Int) (p3 : Int) : Option (List Bool) :=
  ((X.s_mSize p0.Map).bind fun v1 => (if 0 ≤ v1 ∧ v1.toNat ≤ LIM then ((loop (fun (x23 : (Int × (List Bool))) => ((bif (decide (x23.1 < ((List.replicate v1.toNat zB).length : Int))) then ((X.s_bCost p0 p3 x23.1).bind fun v26 => (bif (decide (v26 > 0)) then ((X.s_jBlocked p0 p1 p2 x23.1).bind fun v29 => (if 0 ≤ x23.1 ∧ x23.1 < (x23.2.length : Int) then some (Sum.inl ((W (x23.1 + 1)), (x23.2.set x23.1.toNat (!v29)))) else none)) else (if 0 ≤ x23.1 ∧ x23.1 < (x23.2.length : Int) then some (Sum.inl ((W (x23.1 + 1)), (x23.2.set x23.1.toNat false))) else none))) else some (Sum.inr x23.2)) : Option ((Int × (List Bool)) ⊕ (List Bool)))) (0, (List.replicate v1.toNat zB))).bind fun y33 => some y33) else none))
theorem s_jOpen_ok (p0 : TBoard) (p1 : TState) (p2 : Int) (p3 : Int) (r : (List Bool)) (H : X.s_jOpen p0 p1 p2 p3 = some r) : FnOk Tryz.prog gl 233 [.agg (eTBoard p0), .agg (eTState p1), cI p2, cI p3] (.c (dat 1 eB zB r)) := by
  unfold X.s_jOpen at H
  refine fn_in (fn := Tryz.f233) (ir := s_jOpen_ir) (s1 := lit [(8, .c (dat 1 eB zB r))] []) Tryz.func233 (by kernel_rfl) (by kernel_rfl) (by kernel_rfl) (by kernel_rfl) (by kernel_rfl) ?_
  refine seq_ops [] [] [(2, cI p2), (3, cI p3), (4, .c (.pk 4 0)), (5, .c (.pk 5 0))] [(4, .var (eTBoard p0) false), (5, .var (eTState p1) false)] (fun t => t) (by kernel_rfl) ?_
  obtain ⟨v1, h2, H⟩ := ofBind H
  obtain ⟨g3, H⟩ := ofIf H
  refine seq_ops [.res (cI v1), .fn (List.replicate v1.toNat zB).length (fF eB zB (List.replicate v1.toNat zB))] [] [(2, cI p2), (3, cI p3), (4, .c (.pk 4 0)), (5, .c (.pk 5 0)), (9, .c (.own 14 1 0 ((List.replicate v1.toNat zB).length)))] [(4, .var (eTBoard p0) false), (5, .var (eTState p1) false), (14, .arr 1 ((List.replicate v1.toNat zB).length) (fF eB zB (List.replicate v1.toNat zB)) false)] (fun t => aI (s_mSize_ok p0.Map v1 h2) (aI (And.intro g3.1 (And.intro (List.length_replicate (n := v1.toNat) (a := zB)).symm (Nat.le_trans (Nat.le_of_eq List.length_replicate) g3.2 : (List.replicate v1.toNat zB).length ≤ LIM))) (aI (fF_rep eB zB zB v1.toNat) (t)))) (by kernel_rfl) ?_
  refine seq_in ?_
  refine seq_ops [] [] [(2, cI p2), (3, cI p3), (4, .c (.pk 4 0)), (5, .c (.pk 5 0)), (9, .c (.own 14 1 0 ((List.replicate v1.toNat zB).length))), (16, cI ((List.replicate v1.toNat zB).length : Int)), (17, cI 0)] [(4, .var (eTBoard p0) false), (5, .var (eTState p1) false), (14, .arr 1 ((List.replicate v1.toNat zB).length) (fF eB zB (List.replicate v1.toNat zB)) false)] (fun t => (fun (_ : (List.replicate v1.toNat zB).length ≤ maxLen) => t)) (by kernel_rfl) ?_
  refine ends_blk ?_
  obtain ⟨y33, h34, H⟩ := ofBind H
  refine loop_in (fun (x : (Int × (List Bool))) => lit [(2, cI p2), (3, cI p3), (4, .c (.pk 4 0)), (5, .c (.pk 5 0)), (9, .c (.own 14 1 0 x.2.length)), (16, cI ((List.replicate v1.toNat zB).length : Int)), (17, cI x.1)] [(4, .var (eTBoard p0) false), (5, .var (eTState p1) false), (14, .arr 1 x.2.length (fF eB zB x.2) false)]) (fun (z : (List Bool)) => At (.exit 0) (lit [(9, .c (.own 14 1 0 z.length))] [(14, .arr 1 z.length (fF eB zB z) false)])) h34 ?_ ?_
  · clear H h34
    intro x23 y0 H
    refine seq_ops [] [] [(2, cI p2), (3, cI p3), (4, .c (.pk 4 0)), (5, .c (.pk 5 0)), (9, .c (.own 14 1 0 x23.2.length)), (16, cI ((List.replicate v1.toNat zB).length : Int)), (17, cI x23.1), (18, cB (decide (x23.1 < ((List.replicate v1.toNat zB).length : Int))))] [(4, .var (eTBoard p0) false), (5, .var (eTState p1) false), (14, .arr 1 x23.2.length (fF eB zB x23.2) false)] (fun t => t) (by kernel_rfl) ?_
    refine seq_in ?_
    rcases ofCond H with ⟨c25, H⟩ | ⟨c25, H⟩
    · refine ite_t c25 (by kernel_rfl) ?_
      refine ends_skip ?_
      change EndsI _ _ _ _ _ _
      refine seq_in ?_
      refine ends_blk ?_
      refine seq_ops [] [] [(2, cI p2), (3, cI p3), (4, .c (.pk 4 0)), (5, .c (.pk 5 0)), (9, .c (.own 14 1 0 x23.2.length)), (10, cI x23.1), (16, cI ((List.replicate v1.toNat zB).length : Int)), (17, cI x23.1)] [(4, .var (eTBoard p0) false), (5, .var (eTState p1) false), (14, .arr 1 x23.2.length (fF eB zB x23.2) false)] (fun t => t) (by kernel_rfl) ?_
      obtain ⟨v26, h27, H⟩ := ofBind H
      rcases ofCond H with ⟨c28, H⟩ | ⟨c28, H⟩
      · obtain ⟨v29, h30, H⟩ := ofBind H
        obtain ⟨g31, H⟩ := ofIf H
        refine one_ops [.res (cI v26), .g true, .g true, .g true, .g true, .g true, .res (cB v29), .g true, .g true, .no, .fn 0 (fF eB zB (x23.2.set x23.1.toNat (!v29)))] [] [(2, cI p2), (3, cI p3), (4, .c (.pk 4 0)), (5, .c (.pk 5 0)), (9, .c (.own 14 1 0 x23.2.length)), (16, cI ((List.replicate v1.toNat zB).length : Int)), (17, cI x23.1)] [(4, .var (eTBoard p0) false), (5, .var (eTState p1) false), (14, .arr 1 x23.2.length (fF eB zB (x23.2.set x23.1.toNat (!v29))) false)] (fun t => aI (s_bCost_ok p0 p3 x23.1 v26 h27) (aI c28 (aI c28 (aI c28 (aI c28 (aI c28 (aI (s_jBlocked_ok p0 p1 p2 x23.1 v29 h30) (aI c28 (aI c28 (aI g31 (aI (rfl : true = true) (aI (nat_lt g31) (aI (by decide : 0 + 1 ≤ 1) (aI (fF_set eB zB x23.2 x23.1.toNat (!v29) (nat_lt g31) x23.2.length) (t))))))))))))))) (by kernel_rfl) ?_
        change EndsI _ _ _ _ _ _
        refine one_ops [] [.rel 9 ((x23.2.set x23.1.toNat (!v29)).length), .rep 14 ((x23.2.set x23.1.toNat (!v29)).length) (fF eB zB (x23.2.set x23.1.toNat (!v29)))] [(2, cI p2), (3, cI p3), (4, .c (.pk 4 0)), (5, .c (.pk 5 0)), (9, .c (.own 14 1 0 ((x23.2.set x23.1.toNat (!v29)).length))), (16, cI ((List.replicate v1.toNat zB).length : Int)), (17, cI (W (x23.1 + 1)))] [(4, .var (eTBoard p0) false), (5, .var (eTState p1) false), (14, .arr 1 ((x23.2.set x23.1.toNat (!v29)).length) (fF eB zB (x23.2.set x23.1.toNat (!v29))) false)] (fun t => aI (by simp : x23.2.length = (x23.2.set x23.1.toNat (!v29)).length) (aI (Nat.le_of_eq (by simp : (x23.2.set x23.1.toNat (!v29)).length = x23.2.length)) (aI (fun _ _ => rfl : ∀ i, i < (x23.2.set x23.1.toNat (!v29)).length → (fF eB zB (x23.2.set x23.1.toNat (!v29))) i = (fF eB zB (x23.2.set x23.1.toNat (!v29))) i) (t)))) (by kernel_rfl) ?_
        obtain rfl := Option.some.inj H
        exact And.intro rfl rfl
      · obtain ⟨g32, H⟩ := ofIf H
        refine one_ops [.res (cI v26), .g false, .g false, .g false, .g false, .g false, .g false, .g false, .no, .fn 0 (fF eB zB (x23.2.set x23.1.toNat false))] [] [(2, cI p2), (3, cI p3), (4, .c (.pk 4 0)), (5, .c (.pk 5 0)), (9, .c (.own 14 1 0 x23.2.length)), (16, cI ((List.replicate v1.toNat zB).length : Int)), (17, cI x23.1)] [(4, .var (eTBoard p0) false), (5, .var (eTState p1) false), (14, .arr 1 x23.2.length (fF eB zB (x23.2.set x23.1.toNat false)) false)] (fun t => aI (s_bCost_ok p0 p3 x23.1 v26 h27) (aI c28 (aI c28 (aI c28 (aI c28 (aI c28 (aI c28 (aI c28 (aI g32 (aI (rfl : true = true) (aI (nat_lt g32) (aI (by decide : 0 + 1 ≤ 1) (aI (fF_set eB zB x23.2 x23.1.toNat false (nat_lt g32) x23.2.length) (t)))))))))))))) (by kernel_rfl) ?_
        change EndsI _ _ _ _ _ _
        refine one_ops [] [.rel 9 ((x23.2.set x23.1.toNat false).length), .rep 14 ((x23.2.set x23.1.toNat false).length) (fF eB zB (x23.2.set x23.1.toNat false))] [(2, cI p2), (3, cI p3), (4, .c (.pk 4 0)), (5, .c (.pk 5 0)), (9, .c (.own 14 1 0 ((x23.2.set x23.1.toNat false).length))), (16, cI ((List.replicate v1.toNat zB).length : Int)), (17, cI (W (x23.1 + 1)))] [(4, .var (eTBoard p0) false), (5, .var (eTState p1) false), (14, .arr 1 ((x23.2.set x23.1.toNat false).length) (fF eB zB (x23.2.set x23.1.toNat false)) false)] (fun t => aI (by simp : x23.2.length = (x23.2.set x23.1.toNat false).length) (aI (Nat.le_of_eq (by simp : (x23.2.set x23.1.toNat false).length = x23.2.length)) (aI (fun _ _ => rfl : ∀ i, i < (x23.2.set x23.1.toNat false).length → (fF eB zB (x23.2.set x23.1.toNat false)) i = (fF eB zB (x23.2.set x23.1.toNat false)) i) (t)))) (by kernel_rfl) ?_
        obtain rfl := Option.some.inj H
        exact And.intro rfl rfl
    · refine ite_f c25 (by kernel_rfl) ?_
      refine tell [] [(9, .c (.own 14 1 0 x23.2.length))] [(14, .arr 1 x23.2.length (fF eB zB x23.2) false)] (fun t => t) (by kernel_rfl) ?_
      refine ends_exit ?_
      obtain rfl := Option.some.inj H
      exact And.intro (by simp) (And.intro rfl rfl)
  · clear h34
    intro e s q
    obtain ⟨rfl, rfl⟩ := q
    change EndsI _ _ _ _ _ _
    refine seq_ops [] [] [(8, .c (.own 14 1 0 y33.length))] [(14, .arr 1 y33.length (fF eB zB y33) false)] (fun t => t) (by kernel_rfl) ?_
    refine tell [.frz 8] [(8, .c (dat 1 eB zB y33))] [] (fun t => aI (Nat.le_refl y33.length) (t)) (by kernel_rfl) ?_
    refine ends_ret ?_
    obtain rfl := Option.some.inj H
    exact And.intro (.inl rfl) rfl

def s_jFar_ir : S :=
 (.seq (.ops [⟨some 3, .box 5 (.t 0), none⟩, ⟨some 6, .mv (.v (.nil)), none⟩])
 (.seq (.ops [⟨some 15, .mv (.t 1), none⟩, ⟨some 16, .len (.t 15), none⟩, ⟨some 17, .msl 1 8 [.int .i64 0] (.t 16), none⟩, ⟨some 7, .mv (.t 17), none⟩])
 (.seq (.seq (.ops [⟨some 18, .mv (.t 7), none⟩, ⟨some 19, .len (.t 18), none⟩, ⟨some 20, .mv (.v (.int .i64 0)), none⟩])
 (.blk 0 (.loop (.seq (.ops [⟨some 21, .bin .lss (.t 20) (.t 19), none⟩])
   (.seq (.ite (.t 21) .skip
   (.exit 0))
   (.seq (.blk 1 (.seq (.ops [⟨some 22, .mv (.t 20), none⟩, ⟨some 8, .mv (.t 22), none⟩])
    (.ops [⟨some 23, .mv (.t 7), none⟩, ⟨some 24, .mv (.t 8), none⟩, ⟨some 25, .iad 1 (.t 23) (.t 24), none⟩, ⟨none, .store 1 (.t 25) (.v (.int .i64 (-1))), none⟩])))
   (.ops [⟨some 26, .bin .add (.t 20) (.v (.int .i64 1)), none⟩, ⟨some 20, .mv (.t 26), none⟩])))))))
 (.seq (.ops [⟨some 9, .mv (.v (.nil)), none⟩])
 (.seq (.seq (.ops [⟨some 27, .mv (.t 2), none⟩, ⟨some 28, .len (.t 27), none⟩, ⟨some 29, .mv (.v (.int .i64 0)), none⟩])
 (.blk 2 (.loop (.seq (.ops [⟨some 30, .bin .lss (.t 29) (.t 28), none⟩])
   (.seq (.ite (.t 30) .skip
   (.exit 2))
   (.seq (.blk 3 (.seq (.ops [⟨some 31, .iad 1 (.t 27) (.t 29), none⟩, ⟨some 32, .load 1 false (.t 31), none⟩, ⟨some 11, .mv (.t 32), none⟩])
    (.seq (.ops [⟨some 33, .mv (.t 1), none⟩, ⟨some 34, .mv (.t 11), none⟩, ⟨some 35, .iad 1 (.t 33) (.t 34), none⟩, ⟨some 36, .load 1 false (.t 35), none⟩])
    (.ite (.t 36) (.seq (.ops [⟨some 37, .mv (.t 7), none⟩, ⟨some 38, .mv (.t 11), none⟩, ⟨some 39, .iad 1 (.t 37) (.t 38), none⟩, ⟨none, .store 1 (.t 39) (.v (.int .i64 0)), none⟩])
     (.ops [⟨some 40, .mv (.t 9), none⟩, ⟨some 41, .mv (.t 11), none⟩, ⟨some 42, .bsl 1 [.t 41], none⟩, ⟨some 43, .app 1 8 (.t 40) (.t 42), none⟩, ⟨some 9, .mv (.t 43), none⟩]))
    .skip))))
   (.ops [⟨some 44, .bin .add (.t 29) (.v (.int .i64 1)), none⟩, ⟨some 29, .mv (.t 44), none⟩])))))))
 (.seq (.seq (.ops [⟨some 12, .mv (.v (.int .i64 0)), none⟩])
 (.blk 4 (.loop (.seq (.seq (.ops [⟨some 45, .mv (.t 12), none⟩, ⟨some 46, .mv (.t 9), none⟩, ⟨some 47, .len (.t 46), none⟩, ⟨some 48, .bin .lss (.t 45) (.t 47), none⟩])
   (.ite (.t 48) .skip
   (.exit 4)))
   (.seq (.blk 5 (.seq (.ops [⟨some 13, .mv (.v (.int .i64 0)), none⟩])
    (.blk 6 (.loop (.seq (.seq (.ops [⟨some 51, .mv (.t 13), none⟩, ⟨some 52, .bin .lss (.t 51) (.v (.int .i64 6)), none⟩])
      (.ite (.t 52) .skip
      (.exit 6)))
      (.seq (.blk 7 (.seq (.draw 8 [⟨some 55, .load 5 true (.t 3), none⟩, ⟨some 56, .mv (.t 9), none⟩, ⟨some 57, .mv (.t 12), none⟩, ⟨some 58, .iad 1 (.t 56) (.t 57), none⟩, ⟨some 59, .load 1 false (.t 58), none⟩, ⟨some 60, .mv (.t 13), none⟩, ⟨some 61, .call 87 [.t 55, .t 59, .t 60], none⟩, ⟨some 14, .mv (.t 61), none⟩])
       (.seq (.ops [⟨some 62, .mv (.t 14), none⟩, ⟨some 63, .bin .geq (.t 62) (.v (.int .i64 0)), none⟩, ⟨some 64, .mv (.t 63), none⟩, ⟨some 65, .mv (.t 1), some (64, true)⟩, ⟨some 66, .mv (.t 14), some (64, true)⟩, ⟨some 67, .iad 1 (.t 65) (.t 66), some (64, true)⟩, ⟨some 68, .load 1 false (.t 67), some (64, true)⟩, ⟨some 69, .pick (.t 64) (.t 68) (.v (.bool false)), none⟩, ⟨some 70, .mv (.t 69), none⟩, ⟨some 71, .mv (.t 7), some (70, true)⟩, ⟨some 72, .mv (.t 14), some (70, true)⟩, ⟨some 73, .iad 1 (.t 71) (.t 72), some (70, true)⟩, ⟨some 74, .load 1 false (.t 73), some (70, true)⟩, ⟨some 75, .bin .lss (.t 74) (.v (.int .i64 0)), some (70, true)⟩, ⟨some 76, .pick (.t 70) (.t 75) (.v (.bool false)), none⟩])
       (.ite (.t 76) (.seq (.ops [⟨some 77, .mv (.t 7), none⟩, ⟨some 78, .mv (.t 14), none⟩, ⟨some 79, .mv (.t 7), none⟩, ⟨some 80, .mv (.t 9), none⟩, ⟨some 81, .mv (.t 12), none⟩, ⟨some 82, .iad 1 (.t 80) (.t 81), none⟩, ⟨some 83, .load 1 false (.t 82), none⟩, ⟨some 84, .iad 1 (.t 79) (.t 83), none⟩, ⟨some 85, .load 1 false (.t 84), none⟩, ⟨some 86, .bin .add (.t 85) (.v (.int .i64 1)), none⟩, ⟨some 87, .iad 1 (.t 77) (.t 78), none⟩, ⟨none, .store 1 (.t 87) (.t 86), none⟩])
        (.ops [⟨some 88, .mv (.t 9), none⟩, ⟨some 89, .mv (.t 14), none⟩, ⟨some 90, .bsl 1 [.t 89], none⟩, ⟨some 91, .app 1 8 (.t 88) (.t 90), none⟩, ⟨some 9, .mv (.t 91), none⟩]))
       .skip))))
      (.ops [⟨some 53, .mv (.t 13), none⟩, ⟨some 54, .bin .add (.t 53) (.v (.int .i64 1)), none⟩, ⟨some 13, .mv (.t 54), none⟩])))))))
   (.ops [⟨some 49, .mv (.t 12), none⟩, ⟨some 50, .bin .add (.t 49) (.v (.int .i64 1)), none⟩, ⟨some 12, .mv (.t 50), none⟩]))))))
 (.seq (.ops [⟨some 92, .mv (.t 7), none⟩, ⟨some 6, .mv (.t 92), none⟩])
 .ret)))))))
noncomputable def X.s_jFar (p0 : TMap) (p1 : (List Bool)) (p2 : (List Int)) : Option (List Int) :=
  (if 0 ≤ (p1.length : Int) ∧ (p1.length : Int).toNat ≤ LIM then ((loop (fun (x22 : (Int × (List Int))) => ((bif (decide (x22.1 < ((List.replicate (p1.length : Int).toNat zI).length : Int))) then (if 0 ≤ x22.1 ∧ x22.1 < (x22.2.length : Int) then some (Sum.inl ((W (x22.1 + 1)), (x22.2.set x22.1.toNat (-1)))) else none) else some (Sum.inr x22.2)) : Option ((Int × (List Int)) ⊕ (List Int)))) (0, (List.replicate (p1.length : Int).toNat zI))).bind fun y26 => ((loop (fun (x78 : (Int × (List Int) × (List Int))) => ((bif (decide (x78.1 < (p2.length : Int))) then ((at' zI p2 x78.1).bind fun v81 => ((at' zB p1 v81).bind fun v83 => (bif v83 then (if 0 ≤ v81 ∧ v81 < (x78.2.1.length : Int) then (if (x78.2.2 ++ ([v81] : List Int)).length ≤ LIM then some (Sum.inl ((W (x78.1 + 1)), (x78.2.1.set v81.toNat 0), (x78.2.2 ++ ([v81] : List Int)))) else none) else none) else some (Sum.inl ((W (x78.1 + 1)), x78.2.1, x78.2.2))))) else some (Sum.inr (x78.2.1, x78.2.2))) : Option ((Int × (List Int) × (List Int)) ⊕ ((List Int) × (List Int))))) (0, y26, ([] : List Int))).bind fun y88 => ((loop (fun (x181 : (Int × (List Int) × (List Int))) => ((bif (decide (x181.1 < (x181.2.2.length : Int))) then ((loop (fun (x211 : (Int × (List Int) × (List Int))) => ((bif (decide (x211.1 < 6)) then (if 0 ≤ x181.1 ∧ x181.1 < (x211.2.2.length : Int) then ((X.s_mNext p0 (x211.2.2.getD x181.1.toNat zI) x211.1).bind fun v215 => (bif (decide (v215 ≥ 0)) then ((at' zB p1 v215).bind fun v218 => (bif v218 then (if 0 ≤ v215 ∧ v215 < (x211.2.1.length : Int) then (bif (decide ((x211.2.1.getD v215.toNat zI) < 0)) then (if 0 ≤ (x211.2.2.getD x181.1.toNat zI) ∧ (x211.2.2.getD x181.1.toNat zI) < (x211.2.1.length : Int) then (if (x211.2.2 ++ ([v215] : List Int)).length ≤ LIM then some (Sum.inl ((W (x211.1 + 1)), (x211.2.1.set v215.toNat (W ((x211.2.1.getD ((x211.2.2.getD x181.1.toNat zI).toNat) zI) + 1))), (x211.2.2 ++ ([v215] : List Int)))) else none) else none) else some (Sum.inl ((W (x211.1 + 1)), x211.2.1, x211.2.2))) else none) else some (Sum.inl ((W (x211.1 + 1)), x211.2.1, x211.2.2)))) else some (Sum.inl ((W (x211.1 + 1)), x211.2.1, x211.2.2)))) else none) else some (Sum.inr (x211.2.1, x211.2.2))) : Option ((Int × (List Int) × (List Int)) ⊕ ((List Int) × (List Int))))) (0, x181.2.1, x181.2.2)).bind fun y225 => some (Sum.inl ((W (x181.1 + 1)), y225.1, y225.2))) else some (Sum.inr x181.2.1)) : Option ((Int × (List Int) × (List Int)) ⊕ (List Int)))) (0, y88.1, y88.2)).bind fun y227 => some y227))) else none)
theorem s_jFar_ok (p0 : TMap) (p1 : (List Bool)) (p2 : (List Int)) (r : (List Int)) (H : X.s_jFar p0 p1 p2 = some r) : FnOk Tryz.prog gl 234 [.agg (eTMap p0), .c (dat 1 eB zB p1), .c (dat 1 eI zI p2)] (.c (dat 1 eI zI r)) := by
  unfold X.s_jFar at H
  refine fn_in (fn := Tryz.f234) (ir := s_jFar_ir) (s1 := lit [(6, .c (dat 1 eI zI r))] []) Tryz.func234 (by kernel_rfl) (by kernel_rfl) (by kernel_rfl) (by kernel_rfl) (by kernel_rfl) ?_
  refine seq_ops [] [] [(1, .c (dat 1 eB zB p1)), (2, .c (dat 1 eI zI p2)), (3, .c (.pk 3 0))] [(3, .var (eTMap p0) false)] (fun t => t) (by kernel_rfl) ?_
  obtain ⟨g1, H⟩ := ofIf H
  refine seq_ops [.fn (List.replicate (p1.length : Int).toNat zI).length (fF eI zI (List.replicate (p1.length : Int).toNat zI))] [] [(1, .c (dat 1 eB zB p1)), (2, .c (dat 1 eI zI p2)), (3, .c (.pk 3 0)), (7, .c (.own 17 1 0 ((List.replicate (p1.length : Int).toNat zI).length)))] [(3, .var (eTMap p0) false), (17, .arr 1 ((List.replicate (p1.length : Int).toNat zI).length) (fF eI zI (List.replicate (p1.length : Int).toNat zI)) false)] (fun t => lI p1 (aI (And.intro g1.1 (And.intro (List.length_replicate (n := (p1.length : Int).toNat) (a := zI)).symm (Nat.le_trans (Nat.le_of_eq List.length_replicate) g1.2 : (List.replicate (p1.length : Int).toNat zI).length ≤ LIM))) (aI (fF_rep eI zI zI (p1.length : Int).toNat) (t)))) (by kernel_rfl) ?_
  refine seq_in ?_
  refine seq_ops [] [] [(1, .c (dat 1 eB zB p1)), (2, .c (dat 1 eI zI p2)), (3, .c (.pk 3 0)), (7, .c (.own 17 1 0 ((List.replicate (p1.length : Int).toNat zI).length))), (19, cI ((List.replicate (p1.length : Int).toNat zI).length : Int)), (20, cI 0)] [(3, .var (eTMap p0) false), (17, .arr 1 ((List.replicate (p1.length : Int).toNat zI).length) (fF eI zI (List.replicate (p1.length : Int).toNat zI)) false)] (fun t => (fun (_ : (List.replicate (p1.length : Int).toNat zI).length ≤ maxLen) => t)) (by kernel_rfl) ?_
  refine ends_blk ?_
  obtain ⟨y26, h27, H⟩ := ofBind H
  refine loop_in (fun (x : (Int × (List Int))) => lit [(1, .c (dat 1 eB zB p1)), (2, .c (dat 1 eI zI p2)), (3, .c (.pk 3 0)), (7, .c (.own 17 1 0 x.2.length)), (19, cI ((List.replicate (p1.length : Int).toNat zI).length : Int)), (20, cI x.1)] [(3, .var (eTMap p0) false), (17, .arr 1 x.2.length (fF eI zI x.2) false)]) (fun (z : (List Int)) => At (.exit 0) (lit [(1, .c (dat 1 eB zB p1)), (2, .c (dat 1 eI zI p2)), (3, .c (.pk 3 0)), (7, .c (.own 17 1 0 z.length))] [(3, .var (eTMap p0) false), (17, .arr 1 z.length (fF eI zI z) false)])) h27 ?_ ?_
  · clear H h27
    intro x22 y0 H
    refine seq_ops [] [] [(1, .c (dat 1 eB zB p1)), (2, .c (dat 1 eI zI p2)), (3, .c (.pk 3 0)), (7, .c (.own 17 1 0 x22.2.length)), (19, cI ((List.replicate (p1.length : Int).toNat zI).length : Int)), (20, cI x22.1), (21, cB (decide (x22.1 < ((List.replicate (p1.length : Int).toNat zI).length : Int))))] [(3, .var (eTMap p0) false), (17, .arr 1 x22.2.length (fF eI zI x22.2) false)] (fun t => t) (by kernel_rfl) ?_
    refine seq_in ?_
    rcases ofCond H with ⟨c24, H⟩ | ⟨c24, H⟩
    · refine ite_t c24 (by kernel_rfl) ?_
      refine ends_skip ?_
      change EndsI _ _ _ _ _ _
      refine seq_in ?_
      refine ends_blk ?_
      refine seq_ops [] [] [(1, .c (dat 1 eB zB p1)), (2, .c (dat 1 eI zI p2)), (3, .c (.pk 3 0)), (7, .c (.own 17 1 0 x22.2.length)), (8, cI x22.1), (19, cI ((List.replicate (p1.length : Int).toNat zI).length : Int)), (20, cI x22.1)] [(3, .var (eTMap p0) false), (17, .arr 1 x22.2.length (fF eI zI x22.2) false)] (fun t => t) (by kernel_rfl) ?_
      obtain ⟨g25, H⟩ := ofIf H
      refine one_ops [.no, .fn 0 (fF eI zI (x22.2.set x22.1.toNat (-1)))] [] [(1, .c (dat 1 eB zB p1)), (2, .c (dat 1 eI zI p2)), (3, .c (.pk 3 0)), (7, .c (.own 17 1 0 x22.2.length)), (19, cI ((List.replicate (p1.length : Int).toNat zI).length : Int)), (20, cI x22.1)] [(3, .var (eTMap p0) false), (17, .arr 1 x22.2.length (fF eI zI (x22.2.set x22.1.toNat (-1))) false)] (fun t => aI g25 (aI (rfl : true = true) (aI (nat_lt g25) (aI (by decide : 0 + 1 ≤ 1) (aI (fF_set eI zI x22.2 x22.1.toNat (-1) (nat_lt g25) x22.2.length) (t)))))) (by kernel_rfl) ?_
      change EndsI _ _ _ _ _ _
      refine one_ops [] [.rel 7 ((x22.2.set x22.1.toNat (-1)).length), .rep 17 ((x22.2.set x22.1.toNat (-1)).length) (fF eI zI (x22.2.set x22.1.toNat (-1)))] [(1, .c (dat 1 eB zB p1)), (2, .c (dat 1 eI zI p2)), (3, .c (.pk 3 0)), (7, .c (.own 17 1 0 ((x22.2.set x22.1.toNat (-1)).length))), (19, cI ((List.replicate (p1.length : Int).toNat zI).length : Int)), (20, cI (W (x22.1 + 1)))] [(3, .var (eTMap p0) false), (17, .arr 1 ((x22.2.set x22.1.toNat (-1)).length) (fF eI zI (x22.2.set x22.1.toNat (-1))) false)] (fun t => aI (by simp : x22.2.length = (x22.2.set x22.1.toNat (-1)).length) (aI (Nat.le_of_eq (by simp : (x22.2.set x22.1.toNat (-1)).length = x22.2.length)) (aI (fun _ _ => rfl : ∀ i, i < (x22.2.set x22.1.toNat (-1)).length → (fF eI zI (x22.2.set x22.1.toNat (-1))) i = (fF eI zI (x22.2.set x22.1.toNat (-1))) i) (t)))) (by kernel_rfl) ?_
      obtain rfl := Option.some.inj H
      exact And.intro rfl rfl
    · refine ite_f c24 (by kernel_rfl) ?_
      refine tell [] [(1, .c (dat 1 eB zB p1)), (2, .c (dat 1 eI zI p2)), (3, .c (.pk 3 0)), (7, .c (.own 17 1 0 x22.2.length))] [(3, .var (eTMap p0) false), (17, .arr 1 x22.2.length (fF eI zI x22.2) false)] (fun t => t) (by kernel_rfl) ?_
      refine ends_exit ?_
      obtain rfl := Option.some.inj H
      exact And.intro (by simp) (And.intro rfl rfl)
  · clear h27
    intro e s q
    obtain ⟨rfl, rfl⟩ := q
    change EndsI _ _ _ _ _ _
    refine seq_ops [] [] [(1, .c (dat 1 eB zB p1)), (2, .c (dat 1 eI zI p2)), (3, .c (.pk 3 0)), (7, .c (.own 17 1 0 y26.length)), (9, .c (.nil))] [(3, .var (eTMap p0) false), (17, .arr 1 y26.length (fF eI zI y26) false)] (fun t => t) (by kernel_rfl) ?_
    refine seq_in ?_
    refine seq_ops [] [] [(1, .c (dat 1 eB zB p1)), (3, .c (.pk 3 0)), (7, .c (.own 17 1 0 y26.length)), (9, .c (.nil)), (27, .c (dat 1 eI zI p2)), (28, cI (p2.length : Int)), (29, cI 0)] [(3, .var (eTMap p0) false), (17, .arr 1 y26.length (fF eI zI y26) false)] (fun t => lI p2 (t)) (by kernel_rfl) ?_
    refine ends_blk ?_
    obtain ⟨y88, h89, H⟩ := ofBind H
    refine tell [.nlo 9 1002 1 (fF eI zI ([] : List Int))] [(1, .c (dat 1 eB zB p1)), (3, .c (.pk 3 0)), (7, .c (.own 17 1 0 y26.length)), (9, .c (.own 1002 1 0 (([] : List Int).length))), (27, .c (dat 1 eI zI p2)), (28, cI (p2.length : Int)), (29, cI 0)] [(3, .var (eTMap p0) false), (17, .arr 1 y26.length (fF eI zI y26) false), (1002, .arr 1 (([] : List Int).length) (fF eI zI ([] : List Int)) false)] (fun t => aI (by decide : 0 < 1) (t)) (by kernel_rfl) ?_
    refine loop_in (fun (x : (Int × (List Int) × (List Int))) => lit [(1, .c (dat 1 eB zB p1)), (3, .c (.pk 3 0)), (7, .c (.own 17 1 0 x.2.1.length)), (9, .c (.own 1002 1 0 x.2.2.length)), (27, .c (dat 1 eI zI p2)), (28, cI (p2.length : Int)), (29, cI x.1)] [(3, .var (eTMap p0) false), (17, .arr 1 x.2.1.length (fF eI zI x.2.1) false), (1002, .arr 1 x.2.2.length (fF eI zI x.2.2) false)]) (fun (z : ((List Int) × (List Int))) => At (.exit 2) (lit [(1, .c (dat 1 eB zB p1)), (3, .c (.pk 3 0)), (7, .c (.own 17 1 0 z.1.length)), (9, .c (.own 1002 1 0 z.2.length))] [(3, .var (eTMap p0) false), (17, .arr 1 z.1.length (fF eI zI z.1) false), (1002, .arr 1 z.2.length (fF eI zI z.2) false)])) h89 ?_ ?_
    · clear H h89
      intro x78 y0 H
      refine seq_ops [] [] [(1, .c (dat 1 eB zB p1)), (3, .c (.pk 3 0)), (7, .c (.own 17 1 0 x78.2.1.length)), (9, .c (.own 1002 1 0 x78.2.2.length)), (27, .c (dat 1 eI zI p2)), (28, cI (p2.length : Int)), (29, cI x78.1), (30, cB (decide (x78.1 < (p2.length : Int))))] [(3, .var (eTMap p0) false), (17, .arr 1 x78.2.1.length (fF eI zI x78.2.1) false), (1002, .arr 1 x78.2.2.length (fF eI zI x78.2.2) false)] (fun t => t) (by kernel_rfl) ?_
      refine seq_in ?_
      rcases ofCond H with ⟨c80, H⟩ | ⟨c80, H⟩
      · refine ite_t c80 (by kernel_rfl) ?_
        refine ends_skip ?_
        change EndsI _ _ _ _ _ _
        refine seq_in ?_
        refine ends_blk ?_
        obtain ⟨v81, h82, H⟩ := ofBind H
        refine seq_ops [.cs (eI v81)] [] [(1, .c (dat 1 eB zB p1)), (3, .c (.pk 3 0)), (7, .c (.own 17 1 0 x78.2.1.length)), (9, .c (.own 1002 1 0 x78.2.2.length)), (11, cI v81), (27, .c (dat 1 eI zI p2)), (28, cI (p2.length : Int)), (29, cI x78.1)] [(3, .var (eTMap p0) false), (17, .arr 1 x78.2.1.length (fF eI zI x78.2.1) false), (1002, .arr 1 x78.2.2.length (fF eI zI x78.2.2) false)] (fun t => aI (at_lt h82) (aI (at_enc (enc := eI) h82) (t))) (by kernel_rfl) ?_
        obtain ⟨v83, h84, H⟩ := ofBind H
        refine seq_ops [.cs (eB v83)] [] [(1, .c (dat 1 eB zB p1)), (3, .c (.pk 3 0)), (7, .c (.own 17 1 0 x78.2.1.length)), (9, .c (.own 1002 1 0 x78.2.2.length)), (11, cI v81), (27, .c (dat 1 eI zI p2)), (28, cI (p2.length : Int)), (29, cI x78.1), (36, cB v83)] [(3, .var (eTMap p0) false), (17, .arr 1 x78.2.1.length (fF eI zI x78.2.1) false), (1002, .arr 1 x78.2.2.length (fF eI zI x78.2.2) false)] (fun t => aI (at_lt h84) (aI (at_enc (enc := eB) h84) (t))) (by kernel_rfl) ?_
        rcases ofCond H with ⟨c85, H⟩ | ⟨c85, H⟩
        · refine ite_t c85 (by kernel_rfl) ?_
          obtain ⟨g86, H⟩ := ofIf H
          refine seq_ops [.no, .fn 0 (fF eI zI (x78.2.1.set v81.toNat 0))] [] [(1, .c (dat 1 eB zB p1)), (3, .c (.pk 3 0)), (7, .c (.own 17 1 0 x78.2.1.length)), (9, .c (.own 1002 1 0 x78.2.2.length)), (11, cI v81), (27, .c (dat 1 eI zI p2)), (28, cI (p2.length : Int)), (29, cI x78.1)] [(3, .var (eTMap p0) false), (17, .arr 1 x78.2.1.length (fF eI zI (x78.2.1.set v81.toNat 0)) false), (1002, .arr 1 x78.2.2.length (fF eI zI x78.2.2) false)] (fun t => aI g86 (aI (rfl : true = true) (aI (nat_lt g86) (aI (by decide : 0 + 1 ≤ 1) (aI (fF_set eI zI x78.2.1 v81.toNat 0 (nat_lt g86) x78.2.1.length) (t)))))) (by kernel_rfl) ?_
          obtain ⟨g87, H⟩ := ofIf H
          refine one_ops [.fn ([v81] : List Int).length (fF eI zI ([v81] : List Int)), .fn (x78.2.2 ++ ([v81] : List Int)).length (fF eI zI (x78.2.2 ++ ([v81] : List Int)))] [] [(1, .c (dat 1 eB zB p1)), (3, .c (.pk 3 0)), (7, .c (.own 17 1 0 x78.2.1.length)), (9, .c (.own 43 1 0 ((x78.2.2 ++ ([v81] : List Int)).length))), (27, .c (dat 1 eI zI p2)), (28, cI (p2.length : Int)), (29, cI x78.1)] [(3, .var (eTMap p0) false), (17, .arr 1 x78.2.1.length (fF eI zI (x78.2.1.set v81.toNat 0)) false), (43, .arr 1 ((x78.2.2 ++ ([v81] : List Int)).length) (fF eI zI (x78.2.2 ++ ([v81] : List Int))) false)] (fun t => aI (rfl : ([v81] : List Int).length = 1) (aI (fF_lit eI zI ([v81] : List Int)) (aI (And.intro (Nat.le_refl x78.2.2.length) (And.intro (@List.length_append _ x78.2.2 ([v81] : List Int)) g87)) (aI (fF_appL eI zI x78.2.2 ([v81] : List Int)) (aI (fF_appR eI zI x78.2.2 ([v81] : List Int)) (t)))))) (by kernel_rfl) ?_
          change EndsI _ _ _ _ _ _
          refine one_ops [] [.rel 7 ((x78.2.1.set v81.toNat 0).length), .rep 17 ((x78.2.1.set v81.toNat 0).length) (fF eI zI (x78.2.1.set v81.toNat 0)), .ren 43 1002] [(1, .c (dat 1 eB zB p1)), (3, .c (.pk 3 0)), (7, .c (.own 17 1 0 ((x78.2.1.set v81.toNat 0).length))), (9, .c (.own 1002 1 0 ((x78.2.2 ++ ([v81] : List Int)).length))), (27, .c (dat 1 eI zI p2)), (28, cI (p2.length : Int)), (29, cI (W (x78.1 + 1)))] [(3, .var (eTMap p0) false), (17, .arr 1 ((x78.2.1.set v81.toNat 0).length) (fF eI zI (x78.2.1.set v81.toNat 0)) false), (1002, .arr 1 ((x78.2.2 ++ ([v81] : List Int)).length) (fF eI zI (x78.2.2 ++ ([v81] : List Int))) false)] (fun t => aI (by simp : x78.2.1.length = (x78.2.1.set v81.toNat 0).length) (aI (Nat.le_of_eq (by simp : (x78.2.1.set v81.toNat 0).length = x78.2.1.length)) (aI (fun _ _ => rfl : ∀ i, i < (x78.2.1.set v81.toNat 0).length → (fF eI zI (x78.2.1.set v81.toNat 0)) i = (fF eI zI (x78.2.1.set v81.toNat 0)) i) (t)))) (by kernel_rfl) ?_
          obtain rfl := Option.some.inj H
          exact And.intro rfl rfl
        · refine ite_f c85 (by kernel_rfl) ?_
          refine ends_skip ?_
          change EndsI _ _ _ _ _ _
          refine one_ops [] [] [(1, .c (dat 1 eB zB p1)), (3, .c (.pk 3 0)), (7, .c (.own 17 1 0 x78.2.1.length)), (9, .c (.own 1002 1 0 x78.2.2.length)), (27, .c (dat 1 eI zI p2)), (28, cI (p2.length : Int)), (29, cI (W (x78.1 + 1)))] [(3, .var (eTMap p0) false), (17, .arr 1 x78.2.1.length (fF eI zI x78.2.1) false), (1002, .arr 1 x78.2.2.length (fF eI zI x78.2.2) false)] (fun t => t) (by kernel_rfl) ?_
          obtain rfl := Option.some.inj H
          exact And.intro rfl rfl
      · refine ite_f c80 (by kernel_rfl) ?_
        refine tell [] [(1, .c (dat 1 eB zB p1)), (3, .c (.pk 3 0)), (7, .c (.own 17 1 0 x78.2.1.length)), (9, .c (.own 1002 1 0 x78.2.2.length))] [(3, .var (eTMap p0) false), (17, .arr 1 x78.2.1.length (fF eI zI x78.2.1) false), (1002, .arr 1 x78.2.2.length (fF eI zI x78.2.2) false)] (fun t => t) (by kernel_rfl) ?_
        refine ends_exit ?_
        obtain rfl := Option.some.inj H
        exact And.intro (by simp) (And.intro rfl rfl)
    · clear h89
      intro e s q
      obtain ⟨rfl, rfl⟩ := q
      change EndsI _ _ _ _ _ _
      refine seq_in ?_
      refine seq_ops [] [] [(1, .c (dat 1 eB zB p1)), (3, .c (.pk 3 0)), (7, .c (.own 17 1 0 y88.1.length)), (9, .c (.own 1002 1 0 y88.2.length)), (12, cI 0)] [(3, .var (eTMap p0) false), (17, .arr 1 y88.1.length (fF eI zI y88.1) false), (1002, .arr 1 y88.2.length (fF eI zI y88.2) false)] (fun t => t) (by kernel_rfl) ?_
      refine ends_blk ?_
      obtain ⟨y227, h228, H⟩ := ofBind H
      refine loop_in (fun (x : (Int × (List Int) × (List Int))) => lit [(1, .c (dat 1 eB zB p1)), (3, .c (.pk 3 0)), (7, .c (.own 17 1 0 x.2.1.length)), (9, .c (.own 1002 1 0 x.2.2.length)), (12, cI x.1)] [(3, .var (eTMap p0) false), (17, .arr 1 x.2.1.length (fF eI zI x.2.1) false), (1002, .arr 1 x.2.2.length (fF eI zI x.2.2) false)]) (fun (z : (List Int)) => At (.exit 4) (lit [(7, .c (.own 17 1 0 z.length))] [(17, .arr 1 z.length (fF eI zI z) false)])) h228 ?_ ?_
      · clear H h228
        intro x181 y0 H
        refine seq_in ?_
        refine seq_ops [] [] [(1, .c (dat 1 eB zB p1)), (3, .c (.pk 3 0)), (7, .c (.own 17 1 0 x181.2.1.length)), (9, .c (.own 1002 1 0 x181.2.2.length)), (12, cI x181.1), (48, cB (decide (x181.1 < (x181.2.2.length : Int))))] [(3, .var (eTMap p0) false), (17, .arr 1 x181.2.1.length (fF eI zI x181.2.1) false), (1002, .arr 1 x181.2.2.length (fF eI zI x181.2.2) false)] (fun t => lI x181.2.2 (t)) (by kernel_rfl) ?_
        rcases ofCond H with ⟨c183, H⟩ | ⟨c183, H⟩
        · refine ite_t c183 (by kernel_rfl) ?_
          refine ends_skip ?_
          change EndsI _ _ _ _ _ _
          refine seq_in ?_
          refine ends_blk ?_
          refine seq_ops [] [] [(1, .c (dat 1 eB zB p1)), (3, .c (.pk 3 0)), (7, .c (.own 17 1 0 x181.2.1.length)), (9, .c (.own 1002 1 0 x181.2.2.length)), (12, cI x181.1), (13, cI 0)] [(3, .var (eTMap p0) false), (17, .arr 1 x181.2.1.length (fF eI zI x181.2.1) false), (1002, .arr 1 x181.2.2.length (fF eI zI x181.2.2) false)] (fun t => t) (by kernel_rfl) ?_
          refine ends_blk ?_
          obtain ⟨y225, h226, H⟩ := ofBind H
          refine loop_in (fun (x : (Int × (List Int) × (List Int))) => lit [(1, .c (dat 1 eB zB p1)), (3, .c (.pk 3 0)), (7, .c (.own 17 1 0 x.2.1.length)), (9, .c (.own 1002 1 0 x.2.2.length)), (12, cI x181.1), (13, cI x.1)] [(3, .var (eTMap p0) false), (17, .arr 1 x.2.1.length (fF eI zI x.2.1) false), (1002, .arr 1 x.2.2.length (fF eI zI x.2.2) false)]) (fun (z : ((List Int) × (List Int))) => At (.exit 6) (lit [(1, .c (dat 1 eB zB p1)), (3, .c (.pk 3 0)), (7, .c (.own 17 1 0 z.1.length)), (9, .c (.own 1002 1 0 z.2.length)), (12, cI x181.1)] [(3, .var (eTMap p0) false), (17, .arr 1 z.1.length (fF eI zI z.1) false), (1002, .arr 1 z.2.length (fF eI zI z.2) false)])) h226 ?_ ?_
          · clear H h226
            intro x211 y0 H
            refine seq_in ?_
            refine seq_ops [] [] [(1, .c (dat 1 eB zB p1)), (3, .c (.pk 3 0)), (7, .c (.own 17 1 0 x211.2.1.length)), (9, .c (.own 1002 1 0 x211.2.2.length)), (12, cI x181.1), (13, cI x211.1), (52, cB (decide (x211.1 < 6)))] [(3, .var (eTMap p0) false), (17, .arr 1 x211.2.1.length (fF eI zI x211.2.1) false), (1002, .arr 1 x211.2.2.length (fF eI zI x211.2.2) false)] (fun t => t) (by kernel_rfl) ?_
            rcases ofCond H with ⟨c213, H⟩ | ⟨c213, H⟩
            · refine ite_t c213 (by kernel_rfl) ?_
              refine ends_skip ?_
              change EndsI _ _ _ _ _ _
              refine seq_in ?_
              refine ends_blk ?_
              obtain ⟨g214, H⟩ := ofIf H
              obtain ⟨v215, h216, H⟩ := ofBind H
              refine seq_draw [.no, .res (cI v215)] [] [(1, .c (dat 1 eB zB p1)), (3, .c (.pk 3 0)), (7, .c (.own 17 1 0 x211.2.1.length)), (9, .c (.own 1002 1 0 x211.2.2.length)), (12, cI x181.1), (13, cI x211.1), (14, cI v215)] [(3, .var (eTMap p0) false), (17, .arr 1 x211.2.1.length (fF eI zI x211.2.1) false), (1002, .arr 1 x211.2.2.length (fF eI zI x211.2.2) false)] (fun t => aI g214 (aI (nat_lt g214) (aI (rfl : ([] : List Nat) = []) (aI (s_mNext_ok p0 (x211.2.2.getD x181.1.toNat zI) x211.1 v215 h216) (aI trivial (aI (rfl : ([] : List Nat) = []) (t))))))) (by kernel_rfl) ?_
              rcases ofCond H with ⟨c217, H⟩ | ⟨c217, H⟩
              · obtain ⟨v218, h219, H⟩ := ofBind H
                rcases ofCond H with ⟨c220, H⟩ | ⟨c220, H⟩
                · obtain ⟨g221, H⟩ := ofIf H
                  refine seq_ops [.g true, .g true, .g true, .cs (eB v218), .g true, .g true, .g true, .g true, .g true, .no, .g true, .g true, .g true] [] [(1, .c (dat 1 eB zB p1)), (3, .c (.pk 3 0)), (7, .c (.own 17 1 0 x211.2.1.length)), (9, .c (.own 1002 1 0 x211.2.2.length)), (12, cI x181.1), (13, cI x211.1), (14, cI v215), (76, cB (decide ((x211.2.1.getD v215.toNat zI) < 0)))] [(3, .var (eTMap p0) false), (17, .arr 1 x211.2.1.length (fF eI zI x211.2.1) false), (1002, .arr 1 x211.2.2.length (fF eI zI x211.2.2) false)] (fun t => aI c217 (aI c217 (aI c217 (aI (at_lt h219) (aI (at_enc (enc := eB) h219) (aI c217 (aI c217 (aI c220 (aI c220 (aI c220 (aI g221 (aI c220 (aI (nat_lt g221) (aI c220 (aI c220 (t)))))))))))))))) (by kernel_rfl) ?_
                  rcases ofCond H with ⟨c222, H⟩ | ⟨c222, H⟩
                  · refine ite_t c222 (by kernel_rfl) ?_
                    obtain ⟨g223, H⟩ := ofIf H
                    refine seq_ops [.no, .no, .no, .fn 0 (fF eI zI (x211.2.1.set v215.toNat (W ((x211.2.1.getD ((x211.2.2.getD x181.1.toNat zI).toNat) zI) + 1))))] [] [(1, .c (dat 1 eB zB p1)), (3, .c (.pk 3 0)), (7, .c (.own 17 1 0 x211.2.1.length)), (9, .c (.own 1002 1 0 x211.2.2.length)), (12, cI x181.1), (13, cI x211.1), (14, cI v215)] [(3, .var (eTMap p0) false), (17, .arr 1 x211.2.1.length (fF eI zI (x211.2.1.set v215.toNat (W ((x211.2.1.getD ((x211.2.2.getD x181.1.toNat zI).toNat) zI) + 1)))) false), (1002, .arr 1 x211.2.2.length (fF eI zI x211.2.2) false)] (fun t => aI g214 (aI (nat_lt g214) (aI g223 (aI (nat_lt g223) (aI g221 (aI (rfl : true = true) (aI (nat_lt g221) (aI (by decide : 0 + 1 ≤ 1) (aI (fF_set eI zI x211.2.1 v215.toNat (W ((x211.2.1.getD ((x211.2.2.getD x181.1.toNat zI).toNat) zI) + 1)) (nat_lt g221) x211.2.1.length) (t)))))))))) (by kernel_rfl) ?_
                    obtain ⟨g224, H⟩ := ofIf H
                    refine one_ops [.fn ([v215] : List Int).length (fF eI zI ([v215] : List Int)), .fn (x211.2.2 ++ ([v215] : List Int)).length (fF eI zI (x211.2.2 ++ ([v215] : List Int)))] [] [(1, .c (dat 1 eB zB p1)), (3, .c (.pk 3 0)), (7, .c (.own 17 1 0 x211.2.1.length)), (9, .c (.own 91 1 0 ((x211.2.2 ++ ([v215] : List Int)).length))), (12, cI x181.1), (13, cI x211.1)] [(3, .var (eTMap p0) false), (17, .arr 1 x211.2.1.length (fF eI zI (x211.2.1.set v215.toNat (W ((x211.2.1.getD ((x211.2.2.getD x181.1.toNat zI).toNat) zI) + 1)))) false), (91, .arr 1 ((x211.2.2 ++ ([v215] : List Int)).length) (fF eI zI (x211.2.2 ++ ([v215] : List Int))) false)] (fun t => aI (rfl : ([v215] : List Int).length = 1) (aI (fF_lit eI zI ([v215] : List Int)) (aI (And.intro (Nat.le_refl x211.2.2.length) (And.intro (@List.length_append _ x211.2.2 ([v215] : List Int)) g224)) (aI (fF_appL eI zI x211.2.2 ([v215] : List Int)) (aI (fF_appR eI zI x211.2.2 ([v215] : List Int)) (t)))))) (by kernel_rfl) ?_
                    change EndsI _ _ _ _ _ _
                    refine one_ops [] [.rel 7 ((x211.2.1.set v215.toNat (W ((x211.2.1.getD ((x211.2.2.getD x181.1.toNat zI).toNat) zI) + 1))).length), .rep 17 ((x211.2.1.set v215.toNat (W ((x211.2.1.getD ((x211.2.2.getD x181.1.toNat zI).toNat) zI) + 1))).length) (fF eI zI (x211.2.1.set v215.toNat (W ((x211.2.1.getD ((x211.2.2.getD x181.1.toNat zI).toNat) zI) + 1)))), .ren 91 1002] [(1, .c (dat 1 eB zB p1)), (3, .c (.pk 3 0)), (7, .c (.own 17 1 0 ((x211.2.1.set v215.toNat (W ((x211.2.1.getD ((x211.2.2.getD x181.1.toNat zI).toNat) zI) + 1))).length))), (9, .c (.own 1002 1 0 ((x211.2.2 ++ ([v215] : List Int)).length))), (12, cI x181.1), (13, cI (W (x211.1 + 1)))] [(3, .var (eTMap p0) false), (17, .arr 1 ((x211.2.1.set v215.toNat (W ((x211.2.1.getD ((x211.2.2.getD x181.1.toNat zI).toNat) zI) + 1))).length) (fF eI zI (x211.2.1.set v215.toNat (W ((x211.2.1.getD ((x211.2.2.getD x181.1.toNat zI).toNat) zI) + 1)))) false), (1002, .arr 1 ((x211.2.2 ++ ([v215] : List Int)).length) (fF eI zI (x211.2.2 ++ ([v215] : List Int))) false)] (fun t => aI (by simp : x211.2.1.length = (x211.2.1.set v215.toNat (W ((x211.2.1.getD ((x211.2.2.getD x181.1.toNat zI).toNat) zI) + 1))).length) (aI (Nat.le_of_eq (by simp : (x211.2.1.set v215.toNat (W ((x211.2.1.getD ((x211.2.2.getD x181.1.toNat zI).toNat) zI) + 1))).length = x211.2.1.length)) (aI (fun _ _ => rfl : ∀ i, i < (x211.2.1.set v215.toNat (W ((x211.2.1.getD ((x211.2.2.getD x181.1.toNat zI).toNat) zI) + 1))).length → (fF eI zI (x211.2.1.set v215.toNat (W ((x211.2.1.getD ((x211.2.2.getD x181.1.toNat zI).toNat) zI) + 1)))) i = (fF eI zI (x211.2.1.set v215.toNat (W ((x211.2.1.getD ((x211.2.2.getD x181.1.toNat zI).toNat) zI) + 1)))) i) (t)))) (by kernel_rfl) ?_
                    obtain rfl := Option.some.inj H
                    exact And.intro rfl rfl
                  · refine ite_f c222 (by kernel_rfl) ?_
                    refine ends_skip ?_
                    change EndsI _ _ _ _ _ _
                    refine one_ops [] [] [(1, .c (dat 1 eB zB p1)), (3, .c (.pk 3 0)), (7, .c (.own 17 1 0 x211.2.1.length)), (9, .c (.own 1002 1 0 x211.2.2.length)), (12, cI x181.1), (13, cI (W (x211.1 + 1)))] [(3, .var (eTMap p0) false), (17, .arr 1 x211.2.1.length (fF eI zI x211.2.1) false), (1002, .arr 1 x211.2.2.length (fF eI zI x211.2.2) false)] (fun t => t) (by kernel_rfl) ?_
                    obtain rfl := Option.some.inj H
                    exact And.intro rfl rfl
                · refine seq_ops [.g true, .g true, .g true, .cs (eB v218), .g true, .g true, .g false, .g false, .g false, .g false, .g false, .g false] [] [(1, .c (dat 1 eB zB p1)), (3, .c (.pk 3 0)), (7, .c (.own 17 1 0 x211.2.1.length)), (9, .c (.own 1002 1 0 x211.2.2.length)), (12, cI x181.1), (13, cI x211.1), (14, cI v215), (76, cB false)] [(3, .var (eTMap p0) false), (17, .arr 1 x211.2.1.length (fF eI zI x211.2.1) false), (1002, .arr 1 x211.2.2.length (fF eI zI x211.2.2) false)] (fun t => aI c217 (aI c217 (aI c217 (aI (at_lt h219) (aI (at_enc (enc := eB) h219) (aI c217 (aI c217 (aI c220 (aI c220 (aI c220 (aI c220 (aI c220 (aI c220 (t)))))))))))))) (by kernel_rfl) ?_
                  refine ite_f (rfl : (false : Bool) = false) (by kernel_rfl) ?_
                  refine ends_skip ?_
                  change EndsI _ _ _ _ _ _
                  refine one_ops [] [] [(1, .c (dat 1 eB zB p1)), (3, .c (.pk 3 0)), (7, .c (.own 17 1 0 x211.2.1.length)), (9, .c (.own 1002 1 0 x211.2.2.length)), (12, cI x181.1), (13, cI (W (x211.1 + 1)))] [(3, .var (eTMap p0) false), (17, .arr 1 x211.2.1.length (fF eI zI x211.2.1) false), (1002, .arr 1 x211.2.2.length (fF eI zI x211.2.2) false)] (fun t => t) (by kernel_rfl) ?_
                  obtain rfl := Option.some.inj H
                  exact And.intro rfl rfl
              · refine seq_ops [.g false, .g false, .g false, .g false, .g false, .g false, .g false, .g false, .g false, .g false, .g false] [] [(1, .c (dat 1 eB zB p1)), (3, .c (.pk 3 0)), (7, .c (.own 17 1 0 x211.2.1.length)), (9, .c (.own 1002 1 0 x211.2.2.length)), (12, cI x181.1), (13, cI x211.1), (14, cI v215), (76, cB false)] [(3, .var (eTMap p0) false), (17, .arr 1 x211.2.1.length (fF eI zI x211.2.1) false), (1002, .arr 1 x211.2.2.length (fF eI zI x211.2.2) false)] (fun t => aI c217 (aI c217 (aI c217 (aI c217 (aI c217 (aI (rfl : (false : Bool) = false) (aI (rfl : (false : Bool) = false) (aI (rfl : (false : Bool) = false) (aI (rfl : (false : Bool) = false) (aI (rfl : (false : Bool) = false) (aI (rfl : (false : Bool) = false) (t)))))))))))) (by kernel_rfl) ?_
                refine ite_f (rfl : (false : Bool) = false) (by kernel_rfl) ?_
                refine ends_skip ?_
                change EndsI _ _ _ _ _ _
                refine one_ops [] [] [(1, .c (dat 1 eB zB p1)), (3, .c (.pk 3 0)), (7, .c (.own 17 1 0 x211.2.1.length)), (9, .c (.own 1002 1 0 x211.2.2.length)), (12, cI x181.1), (13, cI (W (x211.1 + 1)))] [(3, .var (eTMap p0) false), (17, .arr 1 x211.2.1.length (fF eI zI x211.2.1) false), (1002, .arr 1 x211.2.2.length (fF eI zI x211.2.2) false)] (fun t => t) (by kernel_rfl) ?_
                obtain rfl := Option.some.inj H
                exact And.intro rfl rfl
            · refine ite_f c213 (by kernel_rfl) ?_
              refine tell [] [(1, .c (dat 1 eB zB p1)), (3, .c (.pk 3 0)), (7, .c (.own 17 1 0 x211.2.1.length)), (9, .c (.own 1002 1 0 x211.2.2.length)), (12, cI x181.1)] [(3, .var (eTMap p0) false), (17, .arr 1 x211.2.1.length (fF eI zI x211.2.1) false), (1002, .arr 1 x211.2.2.length (fF eI zI x211.2.2) false)] (fun t => t) (by kernel_rfl) ?_
              refine ends_exit ?_
              obtain rfl := Option.some.inj H
              exact And.intro (by simp) (And.intro rfl rfl)
          · clear h226
            intro e s q
            obtain ⟨rfl, rfl⟩ := q
            change EndsI _ _ _ _ _ _
            refine one_ops [] [] [(1, .c (dat 1 eB zB p1)), (3, .c (.pk 3 0)), (7, .c (.own 17 1 0 y225.1.length)), (9, .c (.own 1002 1 0 y225.2.length)), (12, cI (W (x181.1 + 1)))] [(3, .var (eTMap p0) false), (17, .arr 1 y225.1.length (fF eI zI y225.1) false), (1002, .arr 1 y225.2.length (fF eI zI y225.2) false)] (fun t => t) (by kernel_rfl) ?_
            obtain rfl := Option.some.inj H
            exact And.intro rfl rfl
        · refine ite_f c183 (by kernel_rfl) ?_
          refine tell [] [(7, .c (.own 17 1 0 x181.2.1.length))] [(17, .arr 1 x181.2.1.length (fF eI zI x181.2.1) false)] (fun t => t) (by kernel_rfl) ?_
          refine ends_exit ?_
          obtain rfl := Option.some.inj H
          exact And.intro (by simp) (And.intro rfl rfl)
      · clear h228
        intro e s q
        obtain ⟨rfl, rfl⟩ := q
        change EndsI _ _ _ _ _ _
        refine seq_ops [] [] [(6, .c (.own 17 1 0 y227.length))] [(17, .arr 1 y227.length (fF eI zI y227) false)] (fun t => t) (by kernel_rfl) ?_
        refine tell [.frz 6] [(6, .c (dat 1 eI zI y227))] [] (fun t => aI (Nat.le_refl y227.length) (t)) (by kernel_rfl) ?_
        refine ends_ret ?_
        obtain rfl := Option.some.inj H
        exact And.intro (.inl rfl) rfl

def s_jUnit_ir : S :=
 (.seq (.ops [⟨some 4, .box 12 (.t 0), none⟩, ⟨some 5, .box 3 (.t 1), none⟩, ⟨some 8, .mv (.v (.nil)), none⟩, ⟨some 9, .mv (.v (.nil)), none⟩])
 (.seq (.ops [⟨some 12, .fad 2 (.t 5), none⟩, ⟨some 13, .load 1 false (.t 12), none⟩, ⟨some 14, .mv (.t 2), none⟩, ⟨some 15, .iad 4 (.t 13) (.t 14), none⟩, ⟨some 16, .load 4 true (.t 15), none⟩, ⟨some 10, .alloc [.int .i64 0, .int .i64 0, .int .i64 0, .int .i64 0], none⟩, ⟨none, .store 4 (.t 10) (.t 16), none⟩])
 (.seq (.ops [⟨some 17, .load 12 true (.t 4), none⟩, ⟨some 18, .load 3 true (.t 5), none⟩, ⟨some 19, .fad 0 (.t 10), none⟩, ⟨some 20, .load 1 false (.t 19), none⟩, ⟨some 21, .fad 1 (.t 10), none⟩, ⟨some 22, .load 1 false (.t 21), none⟩, ⟨some 23, .call 233 [.t 17, .t 18, .t 20, .t 22], none⟩, ⟨some 11, .mv (.t 23), none⟩])
 (.seq (.ops [⟨some 24, .mv (.t 11), none⟩, ⟨some 25, .fad 7 (.t 4), none⟩, ⟨some 26, .load 5 true (.t 25), none⟩, ⟨some 27, .mv (.t 11), none⟩, ⟨some 28, .mv (.t 3), none⟩, ⟨some 29, .call 234 [.t 26, .t 27, .t 28], none⟩, ⟨some 8, .mv (.t 24), none⟩, ⟨some 9, .mv (.t 29), none⟩])
 .ret))))
noncomputable def X.s_jUnit (p0 : TBoard) (p1 : TState) (p2 : Int) (p3 : (List Int)) : Option ((List Bool) × (List Int)) :=
  ((at' zTUnit p1.Units p2).bind fun v1 => ((X.s_jOpen p0 p1 v1.Side v1.Kind).bind fun v3 => ((X.s_jFar p0.Map v3 p3).bind fun v5 => some (v3, v5))))
theorem s_jUnit_ok (p0 : TBoard) (p1 : TState) (p2 : Int) (p3 : (List Int)) (r : ((List Bool) × (List Int))) (H : X.s_jUnit p0 p1 p2 p3 = some r) : FnOk Tryz.prog gl 185 [.agg (eTBoard p0), .agg (eTState p1), cI p2, .c (dat 1 eI zI p3)] (.tup [(false, [dat 1 eB zB r.1]), (false, [dat 1 eI zI r.2])]) := by
  unfold X.s_jUnit at H
  refine fn_in (fn := Tryz.f185) (ir := s_jUnit_ir) (s1 := lit [(8, .c (dat 1 eB zB r.1)), (9, .c (dat 1 eI zI r.2))] []) Tryz.func185 (by kernel_rfl) (by kernel_rfl) (by kernel_rfl) (by kernel_rfl) (by kernel_rfl) ?_
  refine seq_ops [] [] [(2, cI p2), (3, .c (dat 1 eI zI p3)), (4, .c (.pk 4 0)), (5, .c (.pk 5 0))] [(4, .var (eTBoard p0) false), (5, .var (eTState p1) false)] (fun t => t) (by kernel_rfl) ?_
  obtain ⟨v1, h2, H⟩ := ofBind H
  refine seq_ops [.cs (eTUnit v1)] [] [(3, .c (dat 1 eI zI p3)), (4, .c (.pk 4 0)), (5, .c (.pk 5 0)), (10, .c (.pk 10 0))] [(4, .var (eTBoard p0) false), (5, .var (eTState p1) false), (10, .var (eTUnit v1) false)] (fun t => aI (at_lt h2) (aI (at_enc (enc := eTUnit) h2) (t))) (by kernel_rfl) ?_
  obtain ⟨v3, h4, H⟩ := ofBind H
  refine seq_ops [.res (.c (dat 1 eB zB v3))] [] [(3, .c (dat 1 eI zI p3)), (4, .c (.pk 4 0)), (11, .c (dat 1 eB zB v3))] [(4, .var (eTBoard p0) false)] (fun t => aI (s_jOpen_ok p0 p1 v1.Side v1.Kind v3 h4) (t)) (by kernel_rfl) ?_
  obtain ⟨v5, h6, H⟩ := ofBind H
  refine seq_ops [.res (.c (dat 1 eI zI v5))] [] [(8, .c (dat 1 eB zB v3)), (9, .c (dat 1 eI zI v5))] [] (fun t => aI (s_jFar_ok p0.Map v3 p3 v5 h6) (t)) (by kernel_rfl) ?_
  refine ends_ret ?_
  obtain rfl := Option.some.inj H
  exact And.intro (.inl rfl) rfl

def s_jIn_ir : S :=
 (.seq (.ops [⟨some 4, .box 12 (.t 0), none⟩, ⟨some 5, .box 3 (.t 1), none⟩, ⟨some 8, .mv (.v (.bool false)), none⟩])
 (.seq (.ops [⟨some 12, .fad 2 (.t 5), none⟩, ⟨some 13, .load 1 false (.t 12), none⟩, ⟨some 14, .mv (.t 2), none⟩, ⟨some 15, .iad 4 (.t 13) (.t 14), none⟩, ⟨some 16, .load 4 true (.t 15), none⟩, ⟨some 9, .alloc [.int .i64 0, .int .i64 0, .int .i64 0, .int .i64 0], none⟩, ⟨none, .store 4 (.t 9) (.t 16), none⟩])
 (.seq (.seq (.ops [⟨some 17, .fad 2 (.t 9), none⟩, ⟨some 18, .load 1 false (.t 17), none⟩, ⟨some 19, .bin .lss (.t 18) (.v (.int .i64 0)), none⟩])
 (.ite (.t 19) (.seq (.ops [⟨some 8, .mv (.v (.bool false)), none⟩])
  .ret)
 .skip))
 (.seq (.ops [⟨some 21, .load 12 true (.t 4), none⟩, ⟨some 22, .load 3 true (.t 5), none⟩, ⟨some 23, .mv (.t 2), none⟩, ⟨some 24, .mv (.t 3), none⟩, ⟨some 25, .call 185 [.t 21, .t 22, .t 23, .t 24], none⟩, ⟨some 20, .mv (.t 25), none⟩, ⟨some 26, .ext (.t 20) 0, none⟩, ⟨some 27, .ext (.t 20) 1, none⟩, ⟨some 10, .mv (.t 26), none⟩, ⟨some 11, .mv (.t 27), none⟩])
 (.seq (.draw 10 [⟨some 28, .mv (.t 11), none⟩, ⟨some 29, .fad 2 (.t 9), none⟩, ⟨some 30, .load 1 false (.t 29), none⟩, ⟨some 31, .iad 1 (.t 28) (.t 30), none⟩, ⟨some 32, .load 1 false (.t 31), none⟩, ⟨some 33, .fad 0 (.t 4), none⟩, ⟨some 34, .fad 5 (.t 33), none⟩, ⟨some 35, .load 1 false (.t 34), none⟩, ⟨some 36, .call 65 [.t 32, .v (.int .i64 0), .t 35], none⟩, ⟨some 8, .mv (.t 36), none⟩])
 .ret)))))
noncomputable def X.s_jIn (p0 : TBoard) (p1 : TState) (p2 : Int) (p3 : (List Int)) : Option Bool :=
  ((at' zTUnit p1.Units p2).bind fun v1 => (bif (decide (v1.At < 0)) then some false else ((X.s_jUnit p0 p1 p2 p3).bind fun v5 => ((at' zI v5.2 v1.At).bind fun v7 => ((X.s_l1In v7 0 p0.Rules.Supply).bind fun v9 => some v9)))))
theorem s_jIn_ok (p0 : TBoard) (p1 : TState) (p2 : Int) (p3 : (List Int)) (r : Bool) (H : X.s_jIn p0 p1 p2 p3 = some r) : FnOk Tryz.prog gl 116 [.agg (eTBoard p0), .agg (eTState p1), cI p2, .c (dat 1 eI zI p3)] (cB r) := by
  unfold X.s_jIn at H
  refine fn_in (fn := Tryz.f116) (ir := s_jIn_ir) (s1 := lit [(8, cB r)] []) Tryz.func116 (by kernel_rfl) (by kernel_rfl) (by kernel_rfl) (by kernel_rfl) (by kernel_rfl) ?_
  refine seq_ops [] [] [(2, cI p2), (3, .c (dat 1 eI zI p3)), (4, .c (.pk 4 0)), (5, .c (.pk 5 0))] [(4, .var (eTBoard p0) false), (5, .var (eTState p1) false)] (fun t => t) (by kernel_rfl) ?_
  obtain ⟨v1, h2, H⟩ := ofBind H
  refine seq_ops [.cs (eTUnit v1)] [] [(2, cI p2), (3, .c (dat 1 eI zI p3)), (4, .c (.pk 4 0)), (5, .c (.pk 5 0)), (9, .c (.pk 9 0))] [(4, .var (eTBoard p0) false), (5, .var (eTState p1) false), (9, .var (eTUnit v1) false)] (fun t => aI (at_lt h2) (aI (at_enc (enc := eTUnit) h2) (t))) (by kernel_rfl) ?_
  refine seq_in ?_
  refine seq_ops [] [] [(2, cI p2), (3, .c (dat 1 eI zI p3)), (4, .c (.pk 4 0)), (5, .c (.pk 5 0)), (9, .c (.pk 9 0)), (19, cB (decide (v1.At < 0)))] [(4, .var (eTBoard p0) false), (5, .var (eTState p1) false), (9, .var (eTUnit v1) false)] (fun t => t) (by kernel_rfl) ?_
  rcases ofCond H with ⟨c4, H⟩ | ⟨c4, H⟩
  · refine ite_t c4 (by kernel_rfl) ?_
    refine seq_ops [] [] [(8, cB false)] [] (fun t => t) (by kernel_rfl) ?_
    refine ends_ret ?_
    obtain rfl := Option.some.inj H
    exact And.intro (.inl rfl) rfl
  · refine ite_f c4 (by kernel_rfl) ?_
    refine ends_skip ?_
    change EndsI _ _ _ _ _ _
    obtain ⟨v5, h6, H⟩ := ofBind H
    refine seq_ops [.res (.tup [(false, [dat 1 eB zB v5.1]), (false, [dat 1 eI zI v5.2])])] [] [(4, .c (.pk 4 0)), (9, .c (.pk 9 0)), (11, .c (dat 1 eI zI v5.2))] [(4, .var (eTBoard p0) false), (9, .var (eTUnit v1) false)] (fun t => aI (s_jUnit_ok p0 p1 p2 p3 v5 h6) (t)) (by kernel_rfl) ?_
    obtain ⟨v7, h8, H⟩ := ofBind H
    obtain ⟨v9, h10, H⟩ := ofBind H
    refine seq_draw [.cs (eI v7), .res (cB v9)] [] [(8, cB v9)] [] (fun t => aI (at_lt h8) (aI (at_enc (enc := eI) h8) (aI (rfl : ([] : List Nat) = []) (aI (s_l1In_ok v7 0 p0.Rules.Supply v9 h10) (aI trivial (aI (rfl : ([] : List Nat) = []) (t))))))) (by kernel_rfl) ?_
    refine ends_ret ?_
    obtain rfl := Option.some.inj H
    exact And.intro (.inl rfl) rfl

def s_sOf_ir : S :=
 (.seq (.ops [⟨some 2, .box 3 (.t 0), none⟩, ⟨some 4, .mv (.v (.nil)), none⟩])
 (.seq (.ops [⟨some 5, .mv (.v (.nil)), none⟩])
 (.seq (.seq (.ops [⟨some 8, .fad 2 (.t 2), none⟩, ⟨some 9, .load 1 false (.t 8), none⟩, ⟨some 10, .len (.t 9), none⟩, ⟨some 11, .mv (.v (.int .i64 0)), none⟩])
 (.blk 0 (.loop (.seq (.ops [⟨some 12, .bin .lss (.t 11) (.t 10), none⟩])
   (.seq (.ite (.t 12) .skip
   (.exit 0))
   (.seq (.blk 1 (.seq (.ops [⟨some 13, .mv (.t 11), none⟩, ⟨some 14, .iad 4 (.t 9) (.t 11), none⟩, ⟨some 15, .load 4 true (.t 14), none⟩, ⟨some 7, .alloc [.int .i64 0, .int .i64 0, .int .i64 0, .int .i64 0], none⟩, ⟨some 6, .mv (.t 13), none⟩, ⟨none, .store 4 (.t 7) (.t 15), none⟩])
    (.seq (.ops [⟨some 16, .fad 0 (.t 7), none⟩, ⟨some 17, .load 1 false (.t 16), none⟩, ⟨some 18, .mv (.t 1), none⟩, ⟨some 19, .bin .eql (.t 17) (.t 18), none⟩, ⟨some 20, .mv (.t 19), none⟩, ⟨some 21, .fad 2 (.t 7), some (20, true)⟩, ⟨some 22, .load 1 false (.t 21), some (20, true)⟩, ⟨some 23, .bin .geq (.t 22) (.v (.int .i64 0)), some (20, true)⟩, ⟨some 24, .pick (.t 20) (.t 23) (.v (.bool false)), none⟩])
    (.ite (.t 24) (.ops [⟨some 25, .mv (.t 5), none⟩, ⟨some 26, .mv (.t 6), none⟩, ⟨some 27, .bsl 1 [.t 26], none⟩, ⟨some 28, .app 1 8 (.t 25) (.t 27), none⟩, ⟨some 5, .mv (.t 28), none⟩])
    .skip))))
   (.ops [⟨some 29, .bin .add (.t 11) (.v (.int .i64 1)), none⟩, ⟨some 11, .mv (.t 29), none⟩])))))))
 (.seq (.ops [⟨some 30, .mv (.t 5), none⟩, ⟨some 4, .mv (.t 30), none⟩])
 .ret))))
noncomputable def X.s_sOf (p0 : TState) (p1 : Int) : Option (List Int) :=
  ((loop (fun (x16 : (Int × (List Int))) => ((bif (decide (x16.1 < (p0.Units.length : Int))) then ((at' zTUnit p0.Units x16.1).bind fun v19 => (bif (v19.Side == p1) then (bif (decide (v19.At ≥ 0)) then (if (x16.2 ++ ([x16.1] : List Int)).length ≤ LIM then some (Sum.inl ((W (x16.1 + 1)), (x16.2 ++ ([x16.1] : List Int)))) else none) else some (Sum.inl ((W (x16.1 + 1)), x16.2))) else some (Sum.inl ((W (x16.1 + 1)), x16.2)))) else some (Sum.inr x16.2)) : Option ((Int × (List Int)) ⊕ (List Int)))) (0, ([] : List Int))).bind fun y24 => some y24)
theorem s_sOf_ok (p0 : TState) (p1 : Int) (r : (List Int)) (H : X.s_sOf p0 p1 = some r) : FnOk Tryz.prog gl 188 [.agg (eTState p0), cI p1] (.c (dat 1 eI zI r)) := by
  unfold X.s_sOf at H
  refine fn_in (fn := Tryz.f188) (ir := s_sOf_ir) (s1 := lit [(4, .c (dat 1 eI zI r))] []) Tryz.func188 (by kernel_rfl) (by kernel_rfl) (by kernel_rfl) (by kernel_rfl) (by kernel_rfl) ?_
  refine seq_ops [] [] [(1, cI p1), (2, .c (.pk 2 0))] [(2, .var (eTState p0) false)] (fun t => t) (by kernel_rfl) ?_
  refine seq_ops [] [] [(1, cI p1), (2, .c (.pk 2 0)), (5, .c (.nil))] [(2, .var (eTState p0) false)] (fun t => t) (by kernel_rfl) ?_
  refine seq_in ?_
  refine seq_ops [] [] [(1, cI p1), (5, .c (.nil)), (9, .c (dat 4 eTUnit zTUnit p0.Units)), (10, cI (p0.Units.length : Int)), (11, cI 0)] [] (fun t => lI p0.Units (t)) (by kernel_rfl) ?_
  refine ends_blk ?_
  obtain ⟨y24, h25, H⟩ := ofBind H
  refine tell [.nlo 5 1001 1 (fF eI zI ([] : List Int))] [(1, cI p1), (5, .c (.own 1001 1 0 (([] : List Int).length))), (9, .c (dat 4 eTUnit zTUnit p0.Units)), (10, cI (p0.Units.length : Int)), (11, cI 0)] [(1001, .arr 1 (([] : List Int).length) (fF eI zI ([] : List Int)) false)] (fun t => aI (by decide : 0 < 1) (t)) (by kernel_rfl) ?_
  refine loop_in (fun (x : (Int × (List Int))) => lit [(1, cI p1), (5, .c (.own 1001 1 0 x.2.length)), (9, .c (dat 4 eTUnit zTUnit p0.Units)), (10, cI (p0.Units.length : Int)), (11, cI x.1)] [(1001, .arr 1 x.2.length (fF eI zI x.2) false)]) (fun (z : (List Int)) => At (.exit 0) (lit [(5, .c (.own 1001 1 0 z.length))] [(1001, .arr 1 z.length (fF eI zI z) false)])) h25 ?_ ?_
  · clear H h25
    intro x16 y0 H
    refine seq_ops [] [] [(1, cI p1), (5, .c (.own 1001 1 0 x16.2.length)), (9, .c (dat 4 eTUnit zTUnit p0.Units)), (10, cI (p0.Units.length : Int)), (11, cI x16.1), (12, cB (decide (x16.1 < (p0.Units.length : Int))))] [(1001, .arr 1 x16.2.length (fF eI zI x16.2) false)] (fun t => t) (by kernel_rfl) ?_
    refine seq_in ?_
    rcases ofCond H with ⟨c18, H⟩ | ⟨c18, H⟩
    · refine ite_t c18 (by kernel_rfl) ?_
      refine ends_skip ?_
      change EndsI _ _ _ _ _ _
      refine seq_in ?_
      refine ends_blk ?_
      obtain ⟨v19, h20, H⟩ := ofBind H
      refine seq_ops [.cs (eTUnit v19)] [] [(1, cI p1), (5, .c (.own 1001 1 0 x16.2.length)), (6, cI x16.1), (7, .c (.pk 7 0)), (9, .c (dat 4 eTUnit zTUnit p0.Units)), (10, cI (p0.Units.length : Int)), (11, cI x16.1)] [(7, .var (eTUnit v19) false), (1001, .arr 1 x16.2.length (fF eI zI x16.2) false)] (fun t => aI (at_lt h20) (aI (at_enc (enc := eTUnit) h20) (t))) (by kernel_rfl) ?_
      rcases ofCond H with ⟨c21, H⟩ | ⟨c21, H⟩
      · refine seq_ops [.g true, .g true, .g true, .g true] [] [(1, cI p1), (5, .c (.own 1001 1 0 x16.2.length)), (6, cI x16.1), (9, .c (dat 4 eTUnit zTUnit p0.Units)), (10, cI (p0.Units.length : Int)), (11, cI x16.1), (24, cB (decide (v19.At ≥ 0)))] [(1001, .arr 1 x16.2.length (fF eI zI x16.2) false)] (fun t => aI c21 (aI c21 (aI c21 (aI c21 (t))))) (by kernel_rfl) ?_
        rcases ofCond H with ⟨c22, H⟩ | ⟨c22, H⟩
        · refine ite_t c22 (by kernel_rfl) ?_
          obtain ⟨g23, H⟩ := ofIf H
          refine one_ops [.fn ([x16.1] : List Int).length (fF eI zI ([x16.1] : List Int)), .fn (x16.2 ++ ([x16.1] : List Int)).length (fF eI zI (x16.2 ++ ([x16.1] : List Int)))] [] [(1, cI p1), (5, .c (.own 28 1 0 ((x16.2 ++ ([x16.1] : List Int)).length))), (9, .c (dat 4 eTUnit zTUnit p0.Units)), (10, cI (p0.Units.length : Int)), (11, cI x16.1)] [(28, .arr 1 ((x16.2 ++ ([x16.1] : List Int)).length) (fF eI zI (x16.2 ++ ([x16.1] : List Int))) false)] (fun t => aI (rfl : ([x16.1] : List Int).length = 1) (aI (fF_lit eI zI ([x16.1] : List Int)) (aI (And.intro (Nat.le_refl x16.2.length) (And.intro (@List.length_append _ x16.2 ([x16.1] : List Int)) g23)) (aI (fF_appL eI zI x16.2 ([x16.1] : List Int)) (aI (fF_appR eI zI x16.2 ([x16.1] : List Int)) (t)))))) (by kernel_rfl) ?_
          change EndsI _ _ _ _ _ _
          refine one_ops [] [.ren 28 1001] [(1, cI p1), (5, .c (.own 1001 1 0 ((x16.2 ++ ([x16.1] : List Int)).length))), (9, .c (dat 4 eTUnit zTUnit p0.Units)), (10, cI (p0.Units.length : Int)), (11, cI (W (x16.1 + 1)))] [(1001, .arr 1 ((x16.2 ++ ([x16.1] : List Int)).length) (fF eI zI (x16.2 ++ ([x16.1] : List Int))) false)] (fun t => t) (by kernel_rfl) ?_
          obtain rfl := Option.some.inj H
          exact And.intro rfl rfl
        · refine ite_f c22 (by kernel_rfl) ?_
          refine ends_skip ?_
          change EndsI _ _ _ _ _ _
          refine one_ops [] [] [(1, cI p1), (5, .c (.own 1001 1 0 x16.2.length)), (9, .c (dat 4 eTUnit zTUnit p0.Units)), (10, cI (p0.Units.length : Int)), (11, cI (W (x16.1 + 1)))] [(1001, .arr 1 x16.2.length (fF eI zI x16.2) false)] (fun t => t) (by kernel_rfl) ?_
          obtain rfl := Option.some.inj H
          exact And.intro rfl rfl
      · refine seq_ops [.g false, .g false, .g false, .g false] [] [(1, cI p1), (5, .c (.own 1001 1 0 x16.2.length)), (6, cI x16.1), (9, .c (dat 4 eTUnit zTUnit p0.Units)), (10, cI (p0.Units.length : Int)), (11, cI x16.1), (24, cB false)] [(1001, .arr 1 x16.2.length (fF eI zI x16.2) false)] (fun t => aI c21 (aI c21 (aI c21 (aI c21 (t))))) (by kernel_rfl) ?_
        refine ite_f (rfl : (false : Bool) = false) (by kernel_rfl) ?_
        refine ends_skip ?_
        change EndsI _ _ _ _ _ _
        refine one_ops [] [] [(1, cI p1), (5, .c (.own 1001 1 0 x16.2.length)), (9, .c (dat 4 eTUnit zTUnit p0.Units)), (10, cI (p0.Units.length : Int)), (11, cI (W (x16.1 + 1)))] [(1001, .arr 1 x16.2.length (fF eI zI x16.2) false)] (fun t => t) (by kernel_rfl) ?_
        obtain rfl := Option.some.inj H
        exact And.intro rfl rfl
    · refine ite_f c18 (by kernel_rfl) ?_
      refine tell [] [(5, .c (.own 1001 1 0 x16.2.length))] [(1001, .arr 1 x16.2.length (fF eI zI x16.2) false)] (fun t => t) (by kernel_rfl) ?_
      refine ends_exit ?_
      obtain rfl := Option.some.inj H
      exact And.intro (by simp) (And.intro rfl rfl)
  · clear h25
    intro e s q
    obtain ⟨rfl, rfl⟩ := q
    change EndsI _ _ _ _ _ _
    refine seq_ops [] [] [(4, .c (.own 1001 1 0 y24.length))] [(1001, .arr 1 y24.length (fF eI zI y24) false)] (fun t => t) (by kernel_rfl) ?_
    refine tell [.frz 4] [(4, .c (dat 1 eI zI y24))] [] (fun t => aI (Nat.le_refl y24.length) (t)) (by kernel_rfl) ?_
    refine ends_ret ?_
    obtain rfl := Option.some.inj H
    exact And.intro (.inl rfl) rfl

def s_uSide_ir : S :=
 (.seq (.ops [⟨some 4, .box 12 (.t 0), none⟩, ⟨some 5, .box 3 (.t 1), none⟩, ⟨some 8, .mv (.v (.int .i64 0)), none⟩])
 (.seq (.ops [⟨some 9, .mv (.v (.int .i64 0)), none⟩])
 (.seq (.seq (.ops [⟨some 12, .load 3 true (.t 5), none⟩, ⟨some 13, .mv (.t 2), none⟩, ⟨some 14, .call 188 [.t 12, .t 13], none⟩, ⟨some 15, .len (.t 14), none⟩, ⟨some 16, .mv (.v (.int .i64 0)), none⟩])
 (.blk 0 (.loop (.seq (.ops [⟨some 17, .bin .lss (.t 16) (.t 15), none⟩])
   (.seq (.ite (.t 17) .skip
   (.exit 0))
   (.seq (.blk 1 (.seq (.ops [⟨some 18, .iad 1 (.t 14) (.t 16), none⟩, ⟨some 19, .load 1 false (.t 18), none⟩, ⟨some 11, .mv (.t 19), none⟩])
    (.draw 12 [⟨some 20, .mv (.t 9), none⟩, ⟨some 21, .load 12 true (.t 4), none⟩, ⟨some 22, .load 3 true (.t 5), none⟩, ⟨some 23, .mv (.t 11), none⟩, ⟨some 24, .load 12 true (.t 4), none⟩, ⟨some 25, .load 3 true (.t 5), none⟩, ⟨some 26, .mv (.t 11), none⟩, ⟨some 27, .mv (.t 3), none⟩, ⟨some 28, .call 116 [.t 24, .t 25, .t 26, .t 27], none⟩, ⟨some 29, .call 115 [.t 21, .t 22, .t 23, .t 28], none⟩, ⟨some 30, .bin .add (.t 20) (.t 29), none⟩, ⟨some 9, .mv (.t 30), none⟩])))
   (.ops [⟨some 31, .bin .add (.t 16) (.v (.int .i64 1)), none⟩, ⟨some 16, .mv (.t 31), none⟩])))))))
 (.seq (.ops [⟨some 32, .mv (.t 9), none⟩, ⟨some 8, .mv (.t 32), none⟩])
 .ret))))
noncomputable def X.s_uSide (p0 : TBoard) (p1 : TState) (p2 : Int) (p3 : (List Int)) : Option Int :=
  ((X.s_sOf p1 p2).bind fun v1 => ((loop (fun (x20 : (Int × Int)) => ((bif (decide (x20.2 < (v1.length : Int))) then ((at' zI v1 x20.2).bind fun v23 => ((X.s_jIn p0 p1 v23 p3).bind fun v25 => ((X.s_uWorth p0 p1 v23 v25).bind fun v27 => some (Sum.inl ((W (x20.1 + v27)), (W (x20.2 + 1))))))) else some (Sum.inr x20.1)) : Option ((Int × Int) ⊕ Int))) (0, 0)).bind fun y29 => some y29))
theorem s_uSide_ok (p0 : TBoard) (p1 : TState) (p2 : Int) (p3 : (List Int)) (r : Int) (H : X.s_uSide p0 p1 p2 p3 = some r) : FnOk Tryz.prog gl 121 [.agg (eTBoard p0), .agg (eTState p1), cI p2, .c (dat 1 eI zI p3)] (cI r) := by
  unfold X.s_uSide at H
  refine fn_in (fn := Tryz.f121) (ir := s_uSide_ir) (s1 := lit [(8, cI r)] []) Tryz.func121 (by kernel_rfl) (by kernel_rfl) (by kernel_rfl) (by kernel_rfl) (by kernel_rfl) ?_
  refine seq_ops [] [] [(2, cI p2), (3, .c (dat 1 eI zI p3)), (4, .c (.pk 4 0)), (5, .c (.pk 5 0))] [(4, .var (eTBoard p0) false), (5, .var (eTState p1) false)] (fun t => t) (by kernel_rfl) ?_
  refine seq_ops [] [] [(2, cI p2), (3, .c (dat 1 eI zI p3)), (4, .c (.pk 4 0)), (5, .c (.pk 5 0)), (9, cI 0)] [(4, .var (eTBoard p0) false), (5, .var (eTState p1) false)] (fun t => t) (by kernel_rfl) ?_
  refine seq_in ?_
  obtain ⟨v1, h2, H⟩ := ofBind H
  refine seq_ops [.res (.c (dat 1 eI zI v1))] [] [(3, .c (dat 1 eI zI p3)), (4, .c (.pk 4 0)), (5, .c (.pk 5 0)), (9, cI 0), (14, .c (dat 1 eI zI v1)), (15, cI (v1.length : Int)), (16, cI 0)] [(4, .var (eTBoard p0) false), (5, .var (eTState p1) false)] (fun t => aI (s_sOf_ok p1 p2 v1 h2) (lI v1 (t))) (by kernel_rfl) ?_
  refine ends_blk ?_
  obtain ⟨y29, h30, H⟩ := ofBind H
  refine loop_in (fun (x : (Int × Int)) => lit [(3, .c (dat 1 eI zI p3)), (4, .c (.pk 4 0)), (5, .c (.pk 5 0)), (9, cI x.1), (14, .c (dat 1 eI zI v1)), (15, cI (v1.length : Int)), (16, cI x.2)] [(4, .var (eTBoard p0) false), (5, .var (eTState p1) false)]) (fun (z : Int) => At (.exit 0) (lit [(9, cI z)] [])) h30 ?_ ?_
  · clear H h30
    intro x20 y0 H
    refine seq_ops [] [] [(3, .c (dat 1 eI zI p3)), (4, .c (.pk 4 0)), (5, .c (.pk 5 0)), (9, cI x20.1), (14, .c (dat 1 eI zI v1)), (15, cI (v1.length : Int)), (16, cI x20.2), (17, cB (decide (x20.2 < (v1.length : Int))))] [(4, .var (eTBoard p0) false), (5, .var (eTState p1) false)] (fun t => t) (by kernel_rfl) ?_
    refine seq_in ?_
    rcases ofCond H with ⟨c22, H⟩ | ⟨c22, H⟩
    · refine ite_t c22 (by kernel_rfl) ?_
      refine ends_skip ?_
      change EndsI _ _ _ _ _ _
      refine seq_in ?_
      refine ends_blk ?_
      obtain ⟨v23, h24, H⟩ := ofBind H
      refine seq_ops [.cs (eI v23)] [] [(3, .c (dat 1 eI zI p3)), (4, .c (.pk 4 0)), (5, .c (.pk 5 0)), (9, cI x20.1), (11, cI v23), (14, .c (dat 1 eI zI v1)), (15, cI (v1.length : Int)), (16, cI x20.2)] [(4, .var (eTBoard p0) false), (5, .var (eTState p1) false)] (fun t => aI (at_lt h24) (aI (at_enc (enc := eI) h24) (t))) (by kernel_rfl) ?_
      obtain ⟨v25, h26, H⟩ := ofBind H
      obtain ⟨v27, h28, H⟩ := ofBind H
      refine one_draw [.res (cB v25), .res (cI v27)] [] [(3, .c (dat 1 eI zI p3)), (4, .c (.pk 4 0)), (5, .c (.pk 5 0)), (9, cI (W (x20.1 + v27))), (14, .c (dat 1 eI zI v1)), (15, cI (v1.length : Int)), (16, cI x20.2)] [(4, .var (eTBoard p0) false), (5, .var (eTState p1) false)] (fun t => aI (s_jIn_ok p0 p1 v23 p3 v25 h26) (aI trivial (aI (rfl : ([] : List Nat) = []) (aI (s_uWorth_ok p0 p1 v23 v25 v27 h28) (aI trivial (aI (rfl : ([] : List Nat) = []) (t))))))) (by kernel_rfl) ?_
      change EndsI _ _ _ _ _ _
      refine one_ops [] [] [(3, .c (dat 1 eI zI p3)), (4, .c (.pk 4 0)), (5, .c (.pk 5 0)), (9, cI (W (x20.1 + v27))), (14, .c (dat 1 eI zI v1)), (15, cI (v1.length : Int)), (16, cI (W (x20.2 + 1)))] [(4, .var (eTBoard p0) false), (5, .var (eTState p1) false)] (fun t => t) (by kernel_rfl) ?_
      obtain rfl := Option.some.inj H
      exact And.intro rfl rfl
    · refine ite_f c22 (by kernel_rfl) ?_
      refine tell [] [(9, cI x20.1)] [] (fun t => t) (by kernel_rfl) ?_
      refine ends_exit ?_
      obtain rfl := Option.some.inj H
      exact And.intro (by simp) (And.intro rfl rfl)
  · clear h30
    intro e s q
    obtain ⟨rfl, rfl⟩ := q
    change EndsI _ _ _ _ _ _
    refine seq_ops [] [] [(8, cI y29)] [] (fun t => t) (by kernel_rfl) ?_
    refine ends_ret ?_
    obtain rfl := Option.some.inj H
    exact And.intro (.inl rfl) rfl

def s_SideWorth_ir : S :=
 (.seq (.ops [⟨some 4, .box 12 (.t 0), none⟩, ⟨some 5, .box 3 (.t 1), none⟩, ⟨some 8, .mv (.v (.int .i64 0)), none⟩, ⟨some 9, .mv (.v (.bool false)), none⟩])
 (.seq (.seq (.ops [⟨some 10, .load 12 true (.t 4), none⟩, ⟨some 11, .load 3 true (.t 5), none⟩, ⟨some 12, .mv (.t 2), none⟩, ⟨some 13, .call 97 [.t 10, .t 11, .t 12], none⟩, ⟨some 14, .not (.t 13), none⟩, ⟨some 15, .mv (.t 14), none⟩, ⟨some 16, .load 12 true (.t 4), some (15, false)⟩, ⟨some 17, .mv (.t 3), some (15, false)⟩, ⟨some 18, .call 114 [.t 16, .t 17], some (15, false)⟩, ⟨some 19, .not (.t 18), some (15, false)⟩, ⟨some 20, .pick (.t 15) (.v (.bool true)) (.t 19), none⟩])
 (.ite (.t 20) (.seq (.ops [⟨some 8, .mv (.v (.int .i64 0)), none⟩, ⟨some 9, .mv (.v (.bool false)), none⟩])
  .ret)
 .skip))
 (.seq (.ops [⟨some 21, .load 12 true (.t 4), none⟩, ⟨some 22, .load 3 true (.t 5), none⟩, ⟨some 23, .mv (.t 2), none⟩, ⟨some 24, .mv (.t 3), none⟩, ⟨some 25, .call 121 [.t 21, .t 22, .t 23, .t 24], none⟩, ⟨some 8, .mv (.t 25), none⟩, ⟨some 9, .mv (.v (.bool true)), none⟩])
 .ret)))
noncomputable def X.s_SideWorth (p0 : TBoard) (p1 : TState) (p2 : Int) (p3 : (List Int)) : Option (Int × Bool) :=
  ((X.s_fgSide p0 p1 p2).bind fun v7 => (bif (!v7) then some (0, false) else ((X.s_jSources p0 p3).bind fun v10 => (bif (!v10) then some (0, false) else ((X.s_uSide p0 p1 p2 p3).bind fun v13 => some (v13, true))))))
theorem s_SideWorth_ok (p0 : TBoard) (p1 : TState) (p2 : Int) (p3 : (List Int)) (r : (Int × Bool)) (H : X.s_SideWorth p0 p1 p2 p3 = some r) : FnOk Tryz.prog gl 53 [.agg (eTBoard p0), .agg (eTState p1), cI p2, .c (dat 1 eI zI p3)] (.tup [(false, [.int .i64 r.1]), (false, [.bool r.2])]) := by
  unfold X.s_SideWorth at H
  refine fn_in (fn := Tryz.f53) (ir := s_SideWorth_ir) (s1 := lit [(8, cI r.1), (9, cB r.2)] []) Tryz.func53 (by kernel_rfl) (by kernel_rfl) (by kernel_rfl) (by kernel_rfl) (by kernel_rfl) ?_
  refine seq_ops [] [] [(2, cI p2), (3, .c (dat 1 eI zI p3)), (4, .c (.pk 4 0)), (5, .c (.pk 5 0))] [(4, .var (eTBoard p0) false), (5, .var (eTState p1) false)] (fun t => t) (by kernel_rfl) ?_
  refine seq_in ?_
  obtain ⟨v7, h8, H⟩ := ofBind H
  rcases ofCond H with ⟨c9, H⟩ | ⟨c9, H⟩
  · refine seq_ops [.res (cB v7), .g true, .g true, .g true, .g true, .g true] [] [(2, cI p2), (3, .c (dat 1 eI zI p3)), (4, .c (.pk 4 0)), (5, .c (.pk 5 0)), (20, cB true)] [(4, .var (eTBoard p0) false), (5, .var (eTState p1) false)] (fun t => aI (s_fgSide_ok p0 p1 p2 v7 h8) (aI c9 (aI c9 (aI c9 (aI c9 (aI c9 (t))))))) (by kernel_rfl) ?_
    refine ite_t (rfl : (true : Bool) = true) (by kernel_rfl) ?_
    refine seq_ops [] [] [(8, cI 0), (9, cB false)] [] (fun t => t) (by kernel_rfl) ?_
    refine ends_ret ?_
    obtain rfl := Option.some.inj H
    exact And.intro (.inl rfl) rfl
  · obtain ⟨v10, h11, H⟩ := ofBind H
    refine seq_ops [.res (cB v7), .g false, .g false, .g false, .res (cB v10), .g false, .g false] [] [(2, cI p2), (3, .c (dat 1 eI zI p3)), (4, .c (.pk 4 0)), (5, .c (.pk 5 0)), (20, cB (!v10))] [(4, .var (eTBoard p0) false), (5, .var (eTState p1) false)] (fun t => aI (s_fgSide_ok p0 p1 p2 v7 h8) (aI c9 (aI c9 (aI c9 (aI (s_jSources_ok p0 p3 v10 h11) (aI c9 (aI c9 (t)))))))) (by kernel_rfl) ?_
    rcases ofCond H with ⟨c12, H⟩ | ⟨c12, H⟩
    · refine ite_t c12 (by kernel_rfl) ?_
      refine seq_ops [] [] [(8, cI 0), (9, cB false)] [] (fun t => t) (by kernel_rfl) ?_
      refine ends_ret ?_
      obtain rfl := Option.some.inj H
      exact And.intro (.inl rfl) rfl
    · refine ite_f c12 (by kernel_rfl) ?_
      refine ends_skip ?_
      change EndsI _ _ _ _ _ _
      obtain ⟨v13, h14, H⟩ := ofBind H
      refine seq_ops [.res (cI v13)] [] [(8, cI v13), (9, cB true)] [] (fun t => aI (s_uSide_ok p0 p1 p2 p3 v13 h14) (t)) (by kernel_rfl) ?_
      refine ends_ret ?_
      obtain rfl := Option.some.inj H
      exact And.intro (.inl rfl) rfl

def i_inRange_ir : S :=
 (.seq (.ops [⟨some 6, .mv (.v (.bool false)), none⟩])
 (.seq (.ops [⟨some 7, .mv (.t 1), none⟩, ⟨some 8, .mv (.t 0), none⟩, ⟨some 9, .bin .leq (.t 7) (.t 8), none⟩, ⟨some 10, .mv (.t 9), none⟩, ⟨some 11, .mv (.t 0), some (10, true)⟩, ⟨some 12, .mv (.t 2), some (10, true)⟩, ⟨some 13, .bin .leq (.t 11) (.t 12), some (10, true)⟩, ⟨some 14, .pick (.t 10) (.t 13) (.v (.bool false)), none⟩, ⟨some 6, .mv (.t 14), none⟩])
 .ret))
noncomputable def X.i_inRange (p0 : Int) (p1 : Int) (p2 : Int) : Option Bool :=
  (bif (decide (p1 ≤ p0)) then some (decide (p0 ≤ p2)) else some false)
theorem i_inRange_ok (p0 : Int) (p1 : Int) (p2 : Int) (r : Bool) (H : X.i_inRange p0 p1 p2 = some r) : FnOk Tryz.prog gl 71 [cI p0, cI p1, cI p2] (cB r) := by
  unfold X.i_inRange at H
  refine fn_in (fn := Tryz.f71) (ir := i_inRange_ir) (s1 := lit [(6, cB r)] []) Tryz.func71 (by kernel_rfl) (by kernel_rfl) (by kernel_rfl) (by kernel_rfl) (by kernel_rfl) ?_
  refine seq_ops [] [] [(0, cI p0), (1, cI p1), (2, cI p2)] [] (fun t => t) (by kernel_rfl) ?_
  rcases ofCond H with ⟨c1, H⟩ | ⟨c1, H⟩
  · refine seq_ops [.g true, .g true, .g true, .g true] [] [(6, cB (decide (p0 ≤ p2)))] [] (fun t => aI c1 (aI c1 (aI c1 (aI c1 (t))))) (by kernel_rfl) ?_
    refine ends_ret ?_
    obtain rfl := Option.some.inj H
    exact And.intro (.inl rfl) rfl
  · refine seq_ops [.g false, .g false, .g false, .g false] [] [(6, cB false)] [] (fun t => aI c1 (aI c1 (aI c1 (aI c1 (t))))) (by kernel_rfl) ?_
    refine ends_ret ?_
    obtain rfl := Option.some.inj H
    exact And.intro (.inl rfl) rfl

def i_isSide_ir : S :=
 (.seq (.ops [⟨some 2, .mv (.v (.bool false)), none⟩])
 (.seq (.ops [⟨some 3, .mv (.t 0), none⟩, ⟨some 4, .call 71 [.t 3, .v (.int .i64 0), .v (.int .i64 1)], none⟩, ⟨some 2, .mv (.t 4), none⟩])
 .ret))
noncomputable def X.i_isSide (p0 : Int) : Option Bool :=
  ((X.i_inRange p0 0 1).bind fun v1 => some v1)
theorem i_isSide_ok (p0 : Int) (r : Bool) (H : X.i_isSide p0 = some r) : FnOk Tryz.prog gl 127 [cI p0] (cB r) := by
  unfold X.i_isSide at H
  refine fn_in (fn := Tryz.f127) (ir := i_isSide_ir) (s1 := lit [(2, cB r)] []) Tryz.func127 (by kernel_rfl) (by kernel_rfl) (by kernel_rfl) (by kernel_rfl) (by kernel_rfl) ?_
  refine seq_ops [] [] [(0, cI p0)] [] (fun t => t) (by kernel_rfl) ?_
  obtain ⟨v1, h2, H⟩ := ofBind H
  refine seq_ops [.res (cB v1)] [] [(2, cB v1)] [] (fun t => aI (i_inRange_ok p0 0 1 v1 h2) (t)) (by kernel_rfl) ?_
  refine ends_ret ?_
  obtain rfl := Option.some.inj H
  exact And.intro (.inl rfl) rfl

def g_IndexFunc_int_ir : S :=
 (.seq (.ops [⟨some 4, .mv (.v (.int .i64 0)), none⟩])
 (.seq (.seq (.ops [⟨some 6, .mv (.t 0), none⟩, ⟨some 7, .len (.t 6), none⟩, ⟨some 8, .mv (.v (.int .i64 0)), none⟩])
 (.blk 0 (.loop (.seq (.ops [⟨some 9, .bin .lss (.t 8) (.t 7), none⟩])
   (.seq (.ite (.t 9) .skip
   (.exit 0))
   (.seq (.blk 1 (.seq (.ops [⟨some 10, .mv (.t 8), none⟩, ⟨some 5, .mv (.t 10), none⟩])
    (.seq (.ops [⟨some 11, .mv (.t 1), none⟩, ⟨some 12, .mv (.t 0), none⟩, ⟨some 13, .mv (.t 5), none⟩, ⟨some 14, .iad 1 (.t 12) (.t 13), none⟩, ⟨some 15, .load 1 false (.t 14), none⟩, ⟨some 16, .cald (.t 11) [.t 15], none⟩])
    (.ite (.t 16) (.seq (.ops [⟨some 17, .mv (.t 5), none⟩, ⟨some 4, .mv (.t 17), none⟩])
     .ret)
    .skip))))
   (.ops [⟨some 18, .bin .add (.t 8) (.v (.int .i64 1)), none⟩, ⟨some 8, .mv (.t 18), none⟩])))))))
 (.seq (.ops [⟨some 4, .mv (.v (.int .i64 (-1))), none⟩])
 .ret)))
noncomputable def X.g_IndexFunc_int (p0 : (List Int)) (f1 : Int → Option Bool) : Option Int :=
  ((loop (fun (x16 : Int) => ((bif (decide (x16 < (p0.length : Int))) then ((at' zI p0 x16).bind fun v19 => ((f1 v19).bind fun v21 => (bif v21 then some (Sum.inr (Sum.inr x16)) else some (Sum.inl (W (x16 + 1)))))) else some (Sum.inr (Sum.inl ()))) : Option (Int ⊕ (Unit ⊕ Int)))) 0).bind fun y24 => (Sum.elim (fun (y26 : Unit) => some (-1)) (fun (y27 : Int) => some y27) y24))
theorem g_IndexFunc_int_c0_ok (p0 : (List Int)) (cf1 : FuncId) (f1 : Int → Option Bool) (hf1 : ∀ q0 r, f1 q0 = some r → FnOk Tryz.prog gl cf1 [cI q0] (cB r)) (r : Int) (H : X.g_IndexFunc_int p0 f1 = some r) : FnOk Tryz.prog gl 232 [.c (dat 1 eI zI p0), .c (.clo cf1 [])] (cI r) := by
  unfold X.g_IndexFunc_int at H
  refine fn_in (fn := Tryz.f232) (ir := g_IndexFunc_int_ir) (s1 := lit [(4, cI r)] []) Tryz.func232 (by kernel_rfl) (by kernel_rfl) (by kernel_rfl) (by kernel_rfl) (by kernel_rfl) ?_
  refine seq_ops [] [] [(0, .c (dat 1 eI zI p0)), (1, .c (.clo cf1 []))] [] (fun t => t) (by kernel_rfl) ?_
  refine seq_in ?_
  refine seq_ops [] [] [(0, .c (dat 1 eI zI p0)), (1, .c (.clo cf1 [])), (7, cI (p0.length : Int)), (8, cI 0)] [] (fun t => lI p0 (t)) (by kernel_rfl) ?_
  refine ends_blk ?_
  obtain ⟨y24, h25, H⟩ := ofBind H
  refine loop_in (fun (x : Int) => lit [(0, .c (dat 1 eI zI p0)), (1, .c (.clo cf1 [])), (7, cI (p0.length : Int)), (8, cI x)] []) (orJ (fun (z : Unit) => At (.exit 0) (lit [] [])) (fun (z : Int) => At .ret (lit [(4, cI z)] []))) h25 ?_ ?_
  · clear H h25
    intro x16 y0 H
    refine seq_ops [] [] [(0, .c (dat 1 eI zI p0)), (1, .c (.clo cf1 [])), (7, cI (p0.length : Int)), (8, cI x16), (9, cB (decide (x16 < (p0.length : Int))))] [] (fun t => t) (by kernel_rfl) ?_
    refine seq_in ?_
    rcases ofCond H with ⟨c18, H⟩ | ⟨c18, H⟩
    · refine ite_t c18 (by kernel_rfl) ?_
      refine ends_skip ?_
      change EndsI _ _ _ _ _ _
      refine seq_in ?_
      refine ends_blk ?_
      refine seq_ops [] [] [(0, .c (dat 1 eI zI p0)), (1, .c (.clo cf1 [])), (5, cI x16), (7, cI (p0.length : Int)), (8, cI x16)] [] (fun t => t) (by kernel_rfl) ?_
      obtain ⟨v19, h20, H⟩ := ofBind H
      obtain ⟨v21, h22, H⟩ := ofBind H
      refine seq_ops [.cs (eI v19), .res (cB v21)] [] [(0, .c (dat 1 eI zI p0)), (1, .c (.clo cf1 [])), (5, cI x16), (7, cI (p0.length : Int)), (8, cI x16), (16, cB v21)] [] (fun t => aI (at_lt h20) (aI (at_enc (enc := eI) h20) (aI (hf1 v19 v21 h22) (t)))) (by kernel_rfl) ?_
      rcases ofCond H with ⟨c23, H⟩ | ⟨c23, H⟩
      · refine ite_t c23 (by kernel_rfl) ?_
        refine seq_ops [] [] [(4, cI x16)] [] (fun t => t) (by kernel_rfl) ?_
        refine ends_ret ?_
        obtain rfl := Option.some.inj H
        exact And.intro (by simp) (And.intro rfl rfl)
      · refine ite_f c23 (by kernel_rfl) ?_
        refine ends_skip ?_
        change EndsI _ _ _ _ _ _
        refine one_ops [] [] [(0, .c (dat 1 eI zI p0)), (1, .c (.clo cf1 [])), (7, cI (p0.length : Int)), (8, cI (W (x16 + 1)))] [] (fun t => t) (by kernel_rfl) ?_
        obtain rfl := Option.some.inj H
        exact And.intro rfl rfl
    · refine ite_f c18 (by kernel_rfl) ?_
      refine tell [] [] [] (fun t => t) (by kernel_rfl) ?_
      refine ends_exit ?_
      obtain rfl := Option.some.inj H
      exact And.intro (by simp) (And.intro rfl rfl)
  · clear h25
    cases y24 with
    | inl y26 =>
      replace H := ofInl H
      intro e s q
      obtain ⟨rfl, rfl⟩ := q
      change EndsI _ _ _ _ _ _
      refine seq_ops [] [] [(4, cI (-1))] [] (fun t => t) (by kernel_rfl) ?_
      refine ends_ret ?_
      obtain rfl := Option.some.inj H
      exact And.intro (.inl rfl) rfl
    | inr y27 =>
      replace H := ofInr H
      intro e s q
      obtain ⟨rfl, rfl⟩ := q
      obtain rfl := Option.some.inj H
      exact And.intro (.inl rfl) rfl

def g_ContainsFunc_int_ir : S :=
 (.seq (.ops [⟨some 4, .mv (.v (.bool false)), none⟩])
 (.seq (.ops [⟨some 5, .mv (.t 0), none⟩, ⟨some 6, .mv (.t 1), none⟩, ⟨some 7, .call 232 [.t 5, .t 6], none⟩, ⟨some 8, .bin .geq (.t 7) (.v (.int .i64 0)), none⟩, ⟨some 4, .mv (.t 8), none⟩])
 .ret))
noncomputable def X.g_ContainsFunc_int (p0 : (List Int)) (f1 : Int → Option Bool) : Option Bool :=
  ((X.g_IndexFunc_int p0 f1).bind fun v1 => some (decide (v1 ≥ 0)))
theorem g_ContainsFunc_int_c0_ok (p0 : (List Int)) (cf1 : FuncId) (f1 : Int → Option Bool) (hf1 : ∀ q0 r, f1 q0 = some r → FnOk Tryz.prog gl cf1 [cI q0] (cB r)) (r : Bool) (H : X.g_ContainsFunc_int p0 f1 = some r) : FnOk Tryz.prog gl 175 [.c (dat 1 eI zI p0), .c (.clo cf1 [])] (cB r) := by
  unfold X.g_ContainsFunc_int at H
  refine fn_in (fn := Tryz.f175) (ir := g_ContainsFunc_int_ir) (s1 := lit [(4, cB r)] []) Tryz.func175 (by kernel_rfl) (by kernel_rfl) (by kernel_rfl) (by kernel_rfl) (by kernel_rfl) ?_
  refine seq_ops [] [] [(0, .c (dat 1 eI zI p0)), (1, .c (.clo cf1 []))] [] (fun t => t) (by kernel_rfl) ?_
  obtain ⟨v1, h2, H⟩ := ofBind H
  refine seq_ops [.res (cI v1)] [] [(4, cB (decide (v1 ≥ 0)))] [] (fun t => aI (g_IndexFunc_int_c0_ok p0 (cf1) f1 hf1 v1 h2) (t)) (by kernel_rfl) ?_
  refine ends_ret ?_
  obtain rfl := Option.some.inj H
  exact And.intro (.inl rfl) rfl

def i_isName_ir : S :=
 (.seq (.ops [⟨some 2, .mv (.v (.bool false)), none⟩])
 (.seq (.seq (.ops [⟨some 3, .mv (.v (.int .i64 0)), none⟩])
 (.blk 0 (.loop (.seq (.seq (.ops [⟨some 4, .mv (.t 3), none⟩, ⟨some 5, .mv (.t 0), none⟩, ⟨some 6, .lens (.t 5), none⟩, ⟨some 7, .bin .lss (.t 4) (.t 6), none⟩])
   (.ite (.t 7) .skip
   (.exit 0)))
   (.seq (.blk 1 (.seq (.ops [⟨some 10, .mv (.t 0), none⟩, ⟨some 11, .mv (.t 3), none⟩, ⟨some 12, .ixs (.t 10) (.t 11), none⟩, ⟨some 13, .bin .lss (.t 12) (.v (.int .u8 97)), none⟩, ⟨some 14, .mv (.t 13), none⟩, ⟨some 15, .mv (.t 0), some (14, false)⟩, ⟨some 16, .mv (.t 3), some (14, false)⟩, ⟨some 17, .ixs (.t 15) (.t 16), some (14, false)⟩, ⟨some 18, .bin .gtr (.t 17) (.v (.int .u8 122)), some (14, false)⟩, ⟨some 19, .pick (.t 14) (.v (.bool true)) (.t 18), none⟩])
    (.ite (.t 19) (.seq (.ops [⟨some 2, .mv (.v (.bool false)), none⟩])
     .ret)
    .skip)))
   (.ops [⟨some 8, .mv (.t 3), none⟩, ⟨some 9, .bin .add (.t 8) (.v (.int .i64 1)), none⟩, ⟨some 3, .mv (.t 9), none⟩]))))))
 (.seq (.ops [⟨some 20, .mv (.t 0), none⟩, ⟨some 21, .lens (.t 20), none⟩, ⟨some 22, .call 71 [.t 21, .v (.int .i64 1), .v (.int .i64 8)], none⟩, ⟨some 2, .mv (.t 22), none⟩])
 .ret)))
noncomputable def X.i_isName (p0 : (List UInt8)) : Option Bool :=
  ((loop (fun (x14 : Int) => ((bif (decide (x14 < (p0.length : Int))) then (if 0 ≤ x14 ∧ x14 < (p0.length : Int) then (bif (decide ((((p0.getD x14.toNat 0).toNat : Nat) : Int) < 97)) then some (Sum.inr (Sum.inr false)) else (if 0 ≤ x14 ∧ x14 < (p0.length : Int) then (bif (decide ((((p0.getD x14.toNat 0).toNat : Nat) : Int) > 122)) then some (Sum.inr (Sum.inr false)) else some (Sum.inl (W (x14 + 1)))) else none)) else none) else some (Sum.inr (Sum.inl ()))) : Option (Int ⊕ (Unit ⊕ Bool)))) 0).bind fun y21 => (Sum.elim (fun (y23 : Unit) => ((X.i_inRange (p0.length : Int) 1 8).bind fun v25 => some v25)) (fun (y24 : Bool) => some y24) y21))
theorem i_isName_ok (p0 : (List UInt8)) (r : Bool) (H : X.i_isName p0 = some r) : FnOk Tryz.prog gl 242 [.c (.str p0)] (cB r) := by
  unfold X.i_isName at H
  refine fn_in (fn := Tryz.f242) (ir := i_isName_ir) (s1 := lit [(2, cB r)] []) Tryz.func242 (by kernel_rfl) (by kernel_rfl) (by kernel_rfl) (by kernel_rfl) (by kernel_rfl) ?_
  refine seq_ops [] [] [(0, .c (.str p0))] [] (fun t => t) (by kernel_rfl) ?_
  refine seq_in ?_
  refine seq_ops [] [] [(0, .c (.str p0)), (3, cI 0)] [] (fun t => t) (by kernel_rfl) ?_
  refine ends_blk ?_
  obtain ⟨y21, h22, H⟩ := ofBind H
  refine loop_in (fun (x : Int) => lit [(0, .c (.str p0)), (3, cI x)] []) (orJ (fun (z : Unit) => At (.exit 0) (lit [(0, .c (.str p0))] [])) (fun (z : Bool) => At .ret (lit [(2, cB z)] []))) h22 ?_ ?_
  · clear H h22
    intro x14 y0 H
    refine seq_in ?_
    refine seq_ops [] [] [(0, .c (.str p0)), (3, cI x14), (7, cB (decide (x14 < (p0.length : Int))))] [] (fun t => t) (by kernel_rfl) ?_
    rcases ofCond H with ⟨c16, H⟩ | ⟨c16, H⟩
    · refine ite_t c16 (by kernel_rfl) ?_
      refine ends_skip ?_
      change EndsI _ _ _ _ _ _
      refine seq_in ?_
      refine ends_blk ?_
      obtain ⟨g17, H⟩ := ofIf H
      rcases ofCond H with ⟨c18, H⟩ | ⟨c18, H⟩
      · refine seq_ops [.g true, .g true, .g true, .g true, .g true] [] [(0, .c (.str p0)), (3, cI x14), (19, cB true)] [] (fun t => aI g17 (aI c18 (aI c18 (aI c18 (aI c18 (aI c18 (t))))))) (by kernel_rfl) ?_
        refine ite_t (rfl : (true : Bool) = true) (by kernel_rfl) ?_
        refine seq_ops [] [] [(2, cB false)] [] (fun t => t) (by kernel_rfl) ?_
        refine ends_ret ?_
        obtain rfl := Option.some.inj H
        exact And.intro (by simp) (And.intro rfl rfl)
      · obtain ⟨g19, H⟩ := ofIf H
        refine seq_ops [.g false, .g false, .g false, .g false, .g false] [] [(0, .c (.str p0)), (3, cI x14), (19, cB (decide ((((p0.getD x14.toNat 0).toNat : Nat) : Int) > 122)))] [] (fun t => aI g17 (aI c18 (aI c18 (aI c18 (aI g19 (aI c18 (aI c18 (t)))))))) (by kernel_rfl) ?_
        rcases ofCond H with ⟨c20, H⟩ | ⟨c20, H⟩
        · refine ite_t c20 (by kernel_rfl) ?_
          refine seq_ops [] [] [(2, cB false)] [] (fun t => t) (by kernel_rfl) ?_
          refine ends_ret ?_
          obtain rfl := Option.some.inj H
          exact And.intro (by simp) (And.intro rfl rfl)
        · refine ite_f c20 (by kernel_rfl) ?_
          refine ends_skip ?_
          change EndsI _ _ _ _ _ _
          refine one_ops [] [] [(0, .c (.str p0)), (3, cI (W (x14 + 1)))] [] (fun t => t) (by kernel_rfl) ?_
          obtain rfl := Option.some.inj H
          exact And.intro rfl rfl
    · refine ite_f c16 (by kernel_rfl) ?_
      refine tell [] [(0, .c (.str p0))] [] (fun t => t) (by kernel_rfl) ?_
      refine ends_exit ?_
      obtain rfl := Option.some.inj H
      exact And.intro (by simp) (And.intro rfl rfl)
  · clear h22
    cases y21 with
    | inl y23 =>
      replace H := ofInl H
      intro e s q
      obtain ⟨rfl, rfl⟩ := q
      change EndsI _ _ _ _ _ _
      obtain ⟨v25, h26, H⟩ := ofBind H
      refine seq_ops [.res (cB v25)] [] [(2, cB v25)] [] (fun t => aI (i_inRange_ok (p0.length : Int) 1 8 v25 h26) (t)) (by kernel_rfl) ?_
      refine ends_ret ?_
      obtain rfl := Option.some.inj H
      exact And.intro (.inl rfl) rfl
    | inr y24 =>
      replace H := ofInr H
      intro e s q
      obtain ⟨rfl, rfl⟩ := q
      obtain rfl := Option.some.inj H
      exact And.intro (.inl rfl) rfl

def i_goodTerrain_1_ir : S :=
 (.seq (.ops [⟨some 2, .mv (.v (.bool false)), none⟩])
 (.seq (.ops [⟨some 3, .mv (.t 0), none⟩, ⟨some 4, .call 71 [.t 3, .v (.int .i64 0), .v (.int .i64 9)], none⟩, ⟨some 5, .not (.t 4), none⟩, ⟨some 2, .mv (.t 5), none⟩])
 .ret))
noncomputable def X.i_goodTerrain_1 (p0 : Int) : Option Bool :=
  ((X.i_inRange p0 0 9).bind fun v1 => some (!v1))
theorem i_goodTerrain_1_ok (p0 : Int) (r : Bool) (H : X.i_goodTerrain_1 p0 = some r) : FnOk Tryz.prog gl 243 [cI p0] (cB r) := by
  unfold X.i_goodTerrain_1 at H
  refine fn_in (fn := Tryz.f243) (ir := i_goodTerrain_1_ir) (s1 := lit [(2, cB r)] []) Tryz.func243 (by kernel_rfl) (by kernel_rfl) (by kernel_rfl) (by kernel_rfl) (by kernel_rfl) ?_
  refine seq_ops [] [] [(0, cI p0)] [] (fun t => t) (by kernel_rfl) ?_
  obtain ⟨v1, h2, H⟩ := ofBind H
  refine seq_ops [.res (cB v1)] [] [(2, cB (!v1))] [] (fun t => aI (i_inRange_ok p0 0 9 v1 h2) (t)) (by kernel_rfl) ?_
  refine ends_ret ?_
  obtain rfl := Option.some.inj H
  exact And.intro (.inl rfl) rfl

def i_goodTerrain_ir : S :=
 (.seq (.ops [⟨some 2, .box 5 (.t 0), none⟩, ⟨some 4, .mv (.v (.bool false)), none⟩])
 (.seq (.seq (.ops [⟨some 5, .fad 0 (.t 2), none⟩, ⟨some 6, .load 1 false (.t 5), none⟩, ⟨some 7, .call 242 [.t 6], none⟩, ⟨some 8, .not (.t 7), none⟩, ⟨some 9, .mv (.t 8), none⟩, ⟨some 10, .fad 1 (.t 2), some (9, false)⟩, ⟨some 11, .load 1 false (.t 10), some (9, false)⟩, ⟨some 12, .len (.t 11), some (9, false)⟩, ⟨some 13, .mv (.t 1), some (9, false)⟩, ⟨some 14, .bin .neq (.t 12) (.t 13), some (9, false)⟩, ⟨some 15, .pick (.t 9) (.v (.bool true)) (.t 14), none⟩, ⟨some 16, .mv (.t 15), none⟩, ⟨some 17, .fad 2 (.t 2), some (16, false)⟩, ⟨some 18, .load 1 false (.t 17), some (16, false)⟩, ⟨some 19, .call 71 [.t 18, .v (.int .i64 (-3)), .v (.int .i64 3)], some (16, false)⟩, ⟨some 20, .not (.t 19), some (16, false)⟩, ⟨some 21, .pick (.t 16) (.v (.bool true)) (.t 20), none⟩, ⟨some 22, .mv (.t 21), none⟩, ⟨some 23, .fad 3 (.t 2), some (22, false)⟩, ⟨some 24, .load 1 false (.t 23), some (22, false)⟩, ⟨some 25, .call 71 [.t 24, .v (.int .i64 0), .v (.int .i64 3)], some (22, false)⟩, ⟨some 26, .not (.t 25), some (22, false)⟩, ⟨some 27, .pick (.t 22) (.v (.bool true)) (.t 26), none⟩])
 (.ite (.t 27) (.seq (.ops [⟨some 4, .mv (.v (.bool false)), none⟩])
  .ret)
 .skip))
 (.seq (.ops [⟨some 28, .fad 1 (.t 2), none⟩, ⟨some 29, .load 1 false (.t 28), none⟩, ⟨some 30, .call 175 [.t 29, .f 243], none⟩, ⟨some 31, .not (.t 30), none⟩, ⟨some 4, .mv (.t 31), none⟩])
 .ret)))
noncomputable def X.i_goodTerrain (p0 : TTerrain) (p1 : Int) : Option Bool :=
  ((X.i_isName p0.Name).bind fun v1 => (bif (!v1) then some false else (bif ((p0.Cost.length : Int) != p1) then some false else ((X.i_inRange p0.Shift (-3) 3).bind fun v5 => (bif (!v5) then some false else ((X.i_inRange p0.Height 0 3).bind fun v8 => (bif (!v8) then some false else ((X.g_ContainsFunc_int p0.Cost (fun q0 => X.i_goodTerrain_1 q0)).bind fun v11 => some (!v11)))))))))
theorem i_goodTerrain_ok (p0 : TTerrain) (p1 : Int) (r : Bool) (H : X.i_goodTerrain p0 p1 = some r) : FnOk Tryz.prog gl 227 [.agg (eTTerrain p0), cI p1] (cB r) := by
  unfold X.i_goodTerrain at H
  refine fn_in (fn := Tryz.f227) (ir := i_goodTerrain_ir) (s1 := lit [(4, cB r)] []) Tryz.func227 (by kernel_rfl) (by kernel_rfl) (by kernel_rfl) (by kernel_rfl) (by kernel_rfl) ?_
  refine seq_ops [] [] [(1, cI p1), (2, .c (.pk 2 0))] [(2, .var (eTTerrain p0) false)] (fun t => t) (by kernel_rfl) ?_
  refine seq_in ?_
  obtain ⟨v1, h2, H⟩ := ofBind H
  rcases ofCond H with ⟨c3, H⟩ | ⟨c3, H⟩
  · refine seq_ops [.res (cB v1), .g true, .g true, .g true, .g true, .g true, .g true, .g true, .g true, .g true, .g true, .g true, .g true, .g true, .g true, .g true, .g true] [] [(2, .c (.pk 2 0)), (27, cB true)] [(2, .var (eTTerrain p0) false)] (fun t => aI (i_isName_ok p0.Name v1 h2) (aI c3 (aI c3 (aI c3 (aI c3 (aI c3 (aI c3 (aI (rfl : (true : Bool) = true) (aI (rfl : (true : Bool) = true) (aI (rfl : (true : Bool) = true) (aI (rfl : (true : Bool) = true) (aI (rfl : (true : Bool) = true) (aI (rfl : (true : Bool) = true) (aI (rfl : (true : Bool) = true) (aI (rfl : (true : Bool) = true) (aI (rfl : (true : Bool) = true) (aI (rfl : (true : Bool) = true) (t)))))))))))))))))) (by kernel_rfl) ?_
    refine ite_t (rfl : (true : Bool) = true) (by kernel_rfl) ?_
    refine seq_ops [] [] [(4, cB false)] [] (fun t => t) (by kernel_rfl) ?_
    refine ends_ret ?_
    obtain rfl := Option.some.inj H
    exact And.intro (.inl rfl) rfl
  · rcases ofCond H with ⟨c4, H⟩ | ⟨c4, H⟩
    · refine seq_ops [.res (cB v1), .g false, .g false, .g false, .g false, .g false, .g false, .g true, .g true, .g true, .g true, .g true, .g true, .g true, .g true, .g true, .g true] [] [(2, .c (.pk 2 0)), (27, cB true)] [(2, .var (eTTerrain p0) false)] (fun t => aI (i_isName_ok p0.Name v1 h2) (aI c3 (aI c3 (aI c3 (lI p0.Cost (aI c3 (aI c3 (aI c3 (aI c4 (aI c4 (aI c4 (aI c4 (aI c4 (aI (rfl : (true : Bool) = true) (aI (rfl : (true : Bool) = true) (aI (rfl : (true : Bool) = true) (aI (rfl : (true : Bool) = true) (aI (rfl : (true : Bool) = true) (t))))))))))))))))))) (by kernel_rfl) ?_
      refine ite_t (rfl : (true : Bool) = true) (by kernel_rfl) ?_
      refine seq_ops [] [] [(4, cB false)] [] (fun t => t) (by kernel_rfl) ?_
      refine ends_ret ?_
      obtain rfl := Option.some.inj H
      exact And.intro (.inl rfl) rfl
    · obtain ⟨v5, h6, H⟩ := ofBind H
      rcases ofCond H with ⟨c7, H⟩ | ⟨c7, H⟩
      · refine seq_ops [.res (cB v1), .g false, .g false, .g false, .g false, .g false, .g false, .g false, .g false, .g false, .res (cB v5), .g false, .g false, .g true, .g true, .g true, .g true, .g true] [] [(2, .c (.pk 2 0)), (27, cB true)] [(2, .var (eTTerrain p0) false)] (fun t => aI (i_isName_ok p0.Name v1 h2) (aI c3 (aI c3 (aI c3 (lI p0.Cost (aI c3 (aI c3 (aI c3 (aI c4 (aI c4 (aI c4 (aI (i_inRange_ok p0.Shift (-3) 3 v5 h6) (aI c4 (aI c4 (aI c7 (aI c7 (aI c7 (aI c7 (aI c7 (t)))))))))))))))))))) (by kernel_rfl) ?_
        refine ite_t (rfl : (true : Bool) = true) (by kernel_rfl) ?_
        refine seq_ops [] [] [(4, cB false)] [] (fun t => t) (by kernel_rfl) ?_
        refine ends_ret ?_
        obtain rfl := Option.some.inj H
        exact And.intro (.inl rfl) rfl
      · obtain ⟨v8, h9, H⟩ := ofBind H
        refine seq_ops [.res (cB v1), .g false, .g false, .g false, .g false, .g false, .g false, .g false, .g false, .g false, .res (cB v5), .g false, .g false, .g false, .g false, .g false, .res (cB v8), .g false, .g false] [] [(2, .c (.pk 2 0)), (27, cB (!v8))] [(2, .var (eTTerrain p0) false)] (fun t => aI (i_isName_ok p0.Name v1 h2) (aI c3 (aI c3 (aI c3 (lI p0.Cost (aI c3 (aI c3 (aI c3 (aI c4 (aI c4 (aI c4 (aI (i_inRange_ok p0.Shift (-3) 3 v5 h6) (aI c4 (aI c4 (aI c7 (aI c7 (aI c7 (aI (i_inRange_ok p0.Height 0 3 v8 h9) (aI c7 (aI c7 (t))))))))))))))))))))) (by kernel_rfl) ?_
        rcases ofCond H with ⟨c10, H⟩ | ⟨c10, H⟩
        · refine ite_t c10 (by kernel_rfl) ?_
          refine seq_ops [] [] [(4, cB false)] [] (fun t => t) (by kernel_rfl) ?_
          refine ends_ret ?_
          obtain rfl := Option.some.inj H
          exact And.intro (.inl rfl) rfl
        · refine ite_f c10 (by kernel_rfl) ?_
          refine ends_skip ?_
          change EndsI _ _ _ _ _ _
          obtain ⟨v11, h12, H⟩ := ofBind H
          refine seq_ops [.res (cB v11)] [] [(4, cB (!v11))] [] (fun t => aI (g_ContainsFunc_int_c0_ok p0.Cost (243) (fun q0 => X.i_goodTerrain_1 q0) (fun q0 r h => i_goodTerrain_1_ok q0 r h) v11 h12) (t)) (by kernel_rfl) ?_
          refine ends_ret ?_
          obtain rfl := Option.some.inj H
          exact And.intro (.inl rfl) rfl

def g_IndexFunc_Terrain_ir : S :=
 (.seq (.ops [⟨some 4, .mv (.v (.int .i64 0)), none⟩])
 (.seq (.seq (.ops [⟨some 6, .mv (.t 0), none⟩, ⟨some 7, .len (.t 6), none⟩, ⟨some 8, .mv (.v (.int .i64 0)), none⟩])
 (.blk 0 (.loop (.seq (.ops [⟨some 9, .bin .lss (.t 8) (.t 7), none⟩])
   (.seq (.ite (.t 9) .skip
   (.exit 0))
   (.seq (.blk 1 (.seq (.ops [⟨some 10, .mv (.t 8), none⟩, ⟨some 5, .mv (.t 10), none⟩])
    (.seq (.ops [⟨some 11, .mv (.t 1), none⟩, ⟨some 12, .mv (.t 0), none⟩, ⟨some 13, .mv (.t 5), none⟩, ⟨some 14, .iad 5 (.t 12) (.t 13), none⟩, ⟨some 15, .load 5 true (.t 14), none⟩, ⟨some 16, .cald (.t 11) [.t 15], none⟩])
    (.ite (.t 16) (.seq (.ops [⟨some 17, .mv (.t 5), none⟩, ⟨some 4, .mv (.t 17), none⟩])
     .ret)
    .skip))))
   (.ops [⟨some 18, .bin .add (.t 8) (.v (.int .i64 1)), none⟩, ⟨some 8, .mv (.t 18), none⟩])))))))
 (.seq (.ops [⟨some 4, .mv (.v (.int .i64 (-1))), none⟩])
 .ret)))
noncomputable def X.g_IndexFunc_Terrain (p0 : (List TTerrain)) (f1 : TTerrain → Option Bool) : Option Int :=
  ((loop (fun (x16 : Int) => ((bif (decide (x16 < (p0.length : Int))) then ((at' zTTerrain p0 x16).bind fun v19 => ((f1 v19).bind fun v21 => (bif v21 then some (Sum.inr (Sum.inr x16)) else some (Sum.inl (W (x16 + 1)))))) else some (Sum.inr (Sum.inl ()))) : Option (Int ⊕ (Unit ⊕ Int)))) 0).bind fun y24 => (Sum.elim (fun (y26 : Unit) => some (-1)) (fun (y27 : Int) => some y27) y24))
theorem g_IndexFunc_Terrain_c1_ok (p0 : (List TTerrain)) (cf1 : FuncId) (cs1_0 : List AC) (f1 : TTerrain → Option Bool) (hf1 : ∀ q0 r, f1 q0 = some r → FnOk Tryz.prog gl cf1 [.agg (eTTerrain q0), .c (.pd cs1_0 0)] (cB r)) (r : Int) (H : X.g_IndexFunc_Terrain p0 f1 = some r) : FnOk Tryz.prog gl 244 [.c (dat 5 eTTerrain zTTerrain p0), .c (.clo cf1 [.pd cs1_0 0])] (cI r) := by
  unfold X.g_IndexFunc_Terrain at H
  refine fn_in (fn := Tryz.f244) (ir := g_IndexFunc_Terrain_ir) (s1 := lit [(4, cI r)] []) Tryz.func244 (by kernel_rfl) (by kernel_rfl) (by kernel_rfl) (by kernel_rfl) (by kernel_rfl) ?_
  refine seq_ops [] [] [(0, .c (dat 5 eTTerrain zTTerrain p0)), (1, .c (.clo cf1 [.pd cs1_0 0]))] [] (fun t => t) (by kernel_rfl) ?_
  refine seq_in ?_
  refine seq_ops [] [] [(0, .c (dat 5 eTTerrain zTTerrain p0)), (1, .c (.clo cf1 [.pd cs1_0 0])), (7, cI (p0.length : Int)), (8, cI 0)] [] (fun t => lI p0 (t)) (by kernel_rfl) ?_
  refine ends_blk ?_
  obtain ⟨y24, h25, H⟩ := ofBind H
  refine loop_in (fun (x : Int) => lit [(0, .c (dat 5 eTTerrain zTTerrain p0)), (1, .c (.clo cf1 [.pd cs1_0 0])), (7, cI (p0.length : Int)), (8, cI x)] []) (orJ (fun (z : Unit) => At (.exit 0) (lit [] [])) (fun (z : Int) => At .ret (lit [(4, cI z)] []))) h25 ?_ ?_
  · clear H h25
    intro x16 y0 H
    refine seq_ops [] [] [(0, .c (dat 5 eTTerrain zTTerrain p0)), (1, .c (.clo cf1 [.pd cs1_0 0])), (7, cI (p0.length : Int)), (8, cI x16), (9, cB (decide (x16 < (p0.length : Int))))] [] (fun t => t) (by kernel_rfl) ?_
    refine seq_in ?_
    rcases ofCond H with ⟨c18, H⟩ | ⟨c18, H⟩
    · refine ite_t c18 (by kernel_rfl) ?_
      refine ends_skip ?_
      change EndsI _ _ _ _ _ _
      refine seq_in ?_
      refine ends_blk ?_
      refine seq_ops [] [] [(0, .c (dat 5 eTTerrain zTTerrain p0)), (1, .c (.clo cf1 [.pd cs1_0 0])), (5, cI x16), (7, cI (p0.length : Int)), (8, cI x16)] [] (fun t => t) (by kernel_rfl) ?_
      obtain ⟨v19, h20, H⟩ := ofBind H
      obtain ⟨v21, h22, H⟩ := ofBind H
      refine seq_ops [.cs (eTTerrain v19), .res (cB v21)] [] [(0, .c (dat 5 eTTerrain zTTerrain p0)), (1, .c (.clo cf1 [.pd cs1_0 0])), (5, cI x16), (7, cI (p0.length : Int)), (8, cI x16), (16, cB v21)] [] (fun t => aI (at_lt h20) (aI (at_enc (enc := eTTerrain) h20) (aI (hf1 v19 v21 h22) (t)))) (by kernel_rfl) ?_
      rcases ofCond H with ⟨c23, H⟩ | ⟨c23, H⟩
      · refine ite_t c23 (by kernel_rfl) ?_
        refine seq_ops [] [] [(4, cI x16)] [] (fun t => t) (by kernel_rfl) ?_
        refine ends_ret ?_
        obtain rfl := Option.some.inj H
        exact And.intro (by simp) (And.intro rfl rfl)
      · refine ite_f c23 (by kernel_rfl) ?_
        refine ends_skip ?_
        change EndsI _ _ _ _ _ _
        refine one_ops [] [] [(0, .c (dat 5 eTTerrain zTTerrain p0)), (1, .c (.clo cf1 [.pd cs1_0 0])), (7, cI (p0.length : Int)), (8, cI (W (x16 + 1)))] [] (fun t => t) (by kernel_rfl) ?_
        obtain rfl := Option.some.inj H
        exact And.intro rfl rfl
    · refine ite_f c18 (by kernel_rfl) ?_
      refine tell [] [] [] (fun t => t) (by kernel_rfl) ?_
      refine ends_exit ?_
      obtain rfl := Option.some.inj H
      exact And.intro (by simp) (And.intro rfl rfl)
  · clear h25
    cases y24 with
    | inl y26 =>
      replace H := ofInl H
      intro e s q
      obtain ⟨rfl, rfl⟩ := q
      change EndsI _ _ _ _ _ _
      refine seq_ops [] [] [(4, cI (-1))] [] (fun t => t) (by kernel_rfl) ?_
      refine ends_ret ?_
      obtain rfl := Option.some.inj H
      exact And.intro (.inl rfl) rfl
    | inr y27 =>
      replace H := ofInr H
      intro e s q
      obtain ⟨rfl, rfl⟩ := q
      obtain rfl := Option.some.inj H
      exact And.intro (.inl rfl) rfl

def i_terrainIndex_1_ir : S :=
 (.seq (.ops [⟨some 2, .box 5 (.t 0), none⟩, ⟨some 3, .mv (.v (.bool false)), none⟩])
 (.seq (.ops [⟨some 4, .fad 0 (.t 2), none⟩, ⟨some 5, .load 1 false (.t 4), none⟩, ⟨some 6, .load 1 false (.t 1), none⟩, ⟨some 7, .bin .eql (.t 5) (.t 6), none⟩, ⟨some 3, .mv (.t 7), none⟩])
 .ret))
noncomputable def X.i_terrainIndex_1 (p0 : TTerrain) (p1 : (List UInt8)) : Option Bool :=
  some (p0.Name == p1)
theorem i_terrainIndex_1_ok (p0 : TTerrain) (p1 : (List UInt8)) (r : Bool) (H : X.i_terrainIndex_1 p0 p1 = some r) : FnOk Tryz.prog gl 245 [.agg (eTTerrain p0), .c (.pd (eS p1) 0)] (cB r) := by
  unfold X.i_terrainIndex_1 at H
  refine fn_in (fn := Tryz.f245) (ir := i_terrainIndex_1_ir) (s1 := lit [(3, cB r)] []) Tryz.func245 (by kernel_rfl) (by kernel_rfl) (by kernel_rfl) (by kernel_rfl) (by kernel_rfl) ?_
  refine seq_ops [] [] [(1, .c (.pd (eS p1) 0)), (2, .c (.pk 2 0))] [(2, .var (eTTerrain p0) false)] (fun t => t) (by kernel_rfl) ?_
  refine seq_ops [] [] [(3, cB (p0.Name == p1))] [] (fun t => t) (by kernel_rfl) ?_
  refine ends_ret ?_
  obtain rfl := Option.some.inj H
  exact And.intro (.inl rfl) rfl

def i_terrainIndex_ir : S :=
 (.seq (.ops [⟨some 3, .box 1 (.t 1), none⟩, ⟨some 4, .mv (.v (.int .i64 0)), none⟩])
 (.seq (.ops [⟨some 5, .mv (.t 0), none⟩, ⟨some 6, .clo 245 [.t 3], none⟩, ⟨some 7, .call 244 [.t 5, .t 6], none⟩, ⟨some 4, .mv (.t 7), none⟩])
 .ret))
noncomputable def X.i_terrainIndex (p0 : (List TTerrain)) (p1 : (List UInt8)) : Option Int :=
  ((X.g_IndexFunc_Terrain p0 (fun q0 => X.i_terrainIndex_1 q0 p1)).bind fun v1 => some v1)
theorem i_terrainIndex_ok (p0 : (List TTerrain)) (p1 : (List UInt8)) (r : Int) (H : X.i_terrainIndex p0 p1 = some r) : FnOk Tryz.prog gl 228 [.c (dat 5 eTTerrain zTTerrain p0), .c (.str p1)] (cI r) := by
  unfold X.i_terrainIndex at H
  refine fn_in (fn := Tryz.f228) (ir := i_terrainIndex_ir) (s1 := lit [(4, cI r)] []) Tryz.func228 (by kernel_rfl) (by kernel_rfl) (by kernel_rfl) (by kernel_rfl) (by kernel_rfl) ?_
  refine seq_ops [] [] [(0, .c (dat 5 eTTerrain zTTerrain p0)), (3, .c (.pk 3 0))] [(3, .var [.str p1] false)] (fun t => t) (by kernel_rfl) ?_
  obtain ⟨v1, h2, H⟩ := ofBind H
  refine seq_ops [.res (cI v1)] [] [(4, cI v1)] [] (fun t => aI (g_IndexFunc_Terrain_c1_ok p0 (245) (eS p1) (fun q0 => X.i_terrainIndex_1 q0 p1) (fun q0 r h => i_terrainIndex_1_ok q0 p1 r h) v1 h2) (t)) (by kernel_rfl) ?_
  refine ends_ret ?_
  obtain rfl := Option.some.inj H
  exact And.intro (.inl rfl) rfl

def i_goodKind_ir : S :=
 (.seq (.ops [⟨some 1, .box 6 (.t 0), none⟩, ⟨some 2, .mv (.v (.bool false)), none⟩])
 (.seq (.ops [⟨some 3, .fad 0 (.t 1), none⟩, ⟨some 4, .load 1 false (.t 3), none⟩, ⟨some 5, .call 242 [.t 4], none⟩, ⟨some 6, .mv (.t 5), none⟩, ⟨some 7, .fad 1 (.t 1), some (6, true)⟩, ⟨some 8, .load 1 false (.t 7), some (6, true)⟩, ⟨some 9, .call 71 [.t 8, .v (.int .i64 1), .v (.int .i64 9)], some (6, true)⟩, ⟨some 10, .pick (.t 6) (.t 9) (.v (.bool false)), none⟩, ⟨some 11, .mv (.t 10), none⟩, ⟨some 12, .fad 2 (.t 1), some (11, true)⟩, ⟨some 13, .load 1 false (.t 12), some (11, true)⟩, ⟨some 14, .call 71 [.t 13, .v (.int .i64 0), .v (.int .i64 9)], some (11, true)⟩, ⟨some 15, .pick (.t 11) (.t 14) (.v (.bool false)), none⟩, ⟨some 16, .mv (.t 15), none⟩, ⟨some 17, .fad 3 (.t 1), some (16, true)⟩, ⟨some 18, .load 1 false (.t 17), some (16, true)⟩, ⟨some 19, .call 71 [.t 18, .v (.int .i64 1), .v (.int .i64 4)], some (16, true)⟩, ⟨some 20, .pick (.t 16) (.t 19) (.v (.bool false)), none⟩, ⟨some 21, .mv (.t 20), none⟩, ⟨some 22, .fad 5 (.t 1), some (21, true)⟩, ⟨some 23, .load 1 false (.t 22), some (21, true)⟩, ⟨some 24, .call 71 [.t 23, .v (.int .i64 0), .v (.int .i64 4)], some (21, true)⟩, ⟨some 25, .pick (.t 21) (.t 24) (.v (.bool false)), none⟩, ⟨some 2, .mv (.t 25), none⟩])
 .ret))
noncomputable def X.i_goodKind (p0 : TKind) : Option Bool :=
  ((X.i_isName p0.Name).bind fun v1 => (bif v1 then ((X.i_inRange p0.Strength 1 9).bind fun v4 => (bif v4 then ((X.i_inRange p0.Moves 0 9).bind fun v7 => (bif v7 then ((X.i_inRange p0.Steps 1 4).bind fun v10 => (bif v10 then ((X.i_inRange p0.View 0 4).bind fun v13 => some v13) else some false)) else some false)) else some false)) else some false))
theorem i_goodKind_ok (p0 : TKind) (r : Bool) (H : X.i_goodKind p0 = some r) : FnOk Tryz.prog gl 229 [.agg (eTKind p0)] (cB r) := by
  unfold X.i_goodKind at H
  refine fn_in (fn := Tryz.f229) (ir := i_goodKind_ir) (s1 := lit [(2, cB r)] []) Tryz.func229 (by kernel_rfl) (by kernel_rfl) (by kernel_rfl) (by kernel_rfl) (by kernel_rfl) ?_
  refine seq_ops [] [] [(1, .c (.pk 1 0))] [(1, .var (eTKind p0) false)] (fun t => t) (by kernel_rfl) ?_
  obtain ⟨v1, h2, H⟩ := ofBind H
  rcases ofCond H with ⟨c3, H⟩ | ⟨c3, H⟩
  · obtain ⟨v4, h5, H⟩ := ofBind H
    rcases ofCond H with ⟨c6, H⟩ | ⟨c6, H⟩
    · obtain ⟨v7, h8, H⟩ := ofBind H
      rcases ofCond H with ⟨c9, H⟩ | ⟨c9, H⟩
      · obtain ⟨v10, h11, H⟩ := ofBind H
        rcases ofCond H with ⟨c12, H⟩ | ⟨c12, H⟩
        · obtain ⟨v13, h14, H⟩ := ofBind H
          refine seq_ops [.res (cB v1), .g true, .g true, .g true, .res (cB v4), .g true, .g true, .g true, .g true, .res (cB v7), .g true, .g true, .g true, .g true, .res (cB v10), .g true, .g true, .g true, .g true, .res (cB v13), .g true] [] [(2, cB v13)] [] (fun t => aI (i_isName_ok p0.Name v1 h2) (aI c3 (aI c3 (aI c3 (aI (i_inRange_ok p0.Strength 1 9 v4 h5) (aI c3 (aI c6 (aI c6 (aI c6 (aI (i_inRange_ok p0.Moves 0 9 v7 h8) (aI c6 (aI c9 (aI c9 (aI c9 (aI (i_inRange_ok p0.Steps 1 4 v10 h11) (aI c9 (aI c12 (aI c12 (aI c12 (aI (i_inRange_ok p0.View 0 4 v13 h14) (aI c12 (t)))))))))))))))))))))) (by kernel_rfl) ?_
          refine ends_ret ?_
          obtain rfl := Option.some.inj H
          exact And.intro (.inl rfl) rfl
        · refine seq_ops [.res (cB v1), .g true, .g true, .g true, .res (cB v4), .g true, .g true, .g true, .g true, .res (cB v7), .g true, .g true, .g true, .g true, .res (cB v10), .g true, .g false, .g false, .g false, .g false] [] [(2, cB false)] [] (fun t => aI (i_isName_ok p0.Name v1 h2) (aI c3 (aI c3 (aI c3 (aI (i_inRange_ok p0.Strength 1 9 v4 h5) (aI c3 (aI c6 (aI c6 (aI c6 (aI (i_inRange_ok p0.Moves 0 9 v7 h8) (aI c6 (aI c9 (aI c9 (aI c9 (aI (i_inRange_ok p0.Steps 1 4 v10 h11) (aI c9 (aI c12 (aI c12 (aI c12 (aI c12 (t))))))))))))))))))))) (by kernel_rfl) ?_
          refine ends_ret ?_
          obtain rfl := Option.some.inj H
          exact And.intro (.inl rfl) rfl
      · refine seq_ops [.res (cB v1), .g true, .g true, .g true, .res (cB v4), .g true, .g true, .g true, .g true, .res (cB v7), .g true, .g false, .g false, .g false, .g false, .g false, .g false, .g false, .g false] [] [(2, cB false)] [] (fun t => aI (i_isName_ok p0.Name v1 h2) (aI c3 (aI c3 (aI c3 (aI (i_inRange_ok p0.Strength 1 9 v4 h5) (aI c3 (aI c6 (aI c6 (aI c6 (aI (i_inRange_ok p0.Moves 0 9 v7 h8) (aI c6 (aI c9 (aI c9 (aI c9 (aI c9 (aI (rfl : (false : Bool) = false) (aI (rfl : (false : Bool) = false) (aI (rfl : (false : Bool) = false) (aI (rfl : (false : Bool) = false) (t)))))))))))))))))))) (by kernel_rfl) ?_
        refine ends_ret ?_
        obtain rfl := Option.some.inj H
        exact And.intro (.inl rfl) rfl
    · refine seq_ops [.res (cB v1), .g true, .g true, .g true, .res (cB v4), .g true, .g false, .g false, .g false, .g false, .g false, .g false, .g false, .g false, .g false, .g false, .g false, .g false] [] [(2, cB false)] [] (fun t => aI (i_isName_ok p0.Name v1 h2) (aI c3 (aI c3 (aI c3 (aI (i_inRange_ok p0.Strength 1 9 v4 h5) (aI c3 (aI c6 (aI c6 (aI c6 (aI c6 (aI (rfl : (false : Bool) = false) (aI (rfl : (false : Bool) = false) (aI (rfl : (false : Bool) = false) (aI (rfl : (false : Bool) = false) (aI (rfl : (false : Bool) = false) (aI (rfl : (false : Bool) = false) (aI (rfl : (false : Bool) = false) (aI (rfl : (false : Bool) = false) (t))))))))))))))))))) (by kernel_rfl) ?_
      refine ends_ret ?_
      obtain rfl := Option.some.inj H
      exact And.intro (.inl rfl) rfl
  · refine seq_ops [.res (cB v1), .g false, .g false, .g false, .g false, .g false, .g false, .g false, .g false, .g false, .g false, .g false, .g false, .g false, .g false, .g false, .g false] [] [(2, cB false)] [] (fun t => aI (i_isName_ok p0.Name v1 h2) (aI c3 (aI c3 (aI c3 (aI c3 (aI (rfl : (false : Bool) = false) (aI (rfl : (false : Bool) = false) (aI (rfl : (false : Bool) = false) (aI (rfl : (false : Bool) = false) (aI (rfl : (false : Bool) = false) (aI (rfl : (false : Bool) = false) (aI (rfl : (false : Bool) = false) (aI (rfl : (false : Bool) = false) (aI (rfl : (false : Bool) = false) (aI (rfl : (false : Bool) = false) (aI (rfl : (false : Bool) = false) (aI (rfl : (false : Bool) = false) (t)))))))))))))))))) (by kernel_rfl) ?_
    refine ends_ret ?_
    obtain rfl := Option.some.inj H
    exact And.intro (.inl rfl) rfl

def g_IndexFunc_Kind_ir : S :=
 (.seq (.ops [⟨some 4, .mv (.v (.int .i64 0)), none⟩])
 (.seq (.seq (.ops [⟨some 6, .mv (.t 0), none⟩, ⟨some 7, .len (.t 6), none⟩, ⟨some 8, .mv (.v (.int .i64 0)), none⟩])
 (.blk 0 (.loop (.seq (.ops [⟨some 9, .bin .lss (.t 8) (.t 7), none⟩])
   (.seq (.ite (.t 9) .skip
   (.exit 0))
   (.seq (.blk 1 (.seq (.ops [⟨some 10, .mv (.t 8), none⟩, ⟨some 5, .mv (.t 10), none⟩])
    (.seq (.ops [⟨some 11, .mv (.t 1), none⟩, ⟨some 12, .mv (.t 0), none⟩, ⟨some 13, .mv (.t 5), none⟩, ⟨some 14, .iad 6 (.t 12) (.t 13), none⟩, ⟨some 15, .load 6 true (.t 14), none⟩, ⟨some 16, .cald (.t 11) [.t 15], none⟩])
    (.ite (.t 16) (.seq (.ops [⟨some 17, .mv (.t 5), none⟩, ⟨some 4, .mv (.t 17), none⟩])
     .ret)
    .skip))))
   (.ops [⟨some 18, .bin .add (.t 8) (.v (.int .i64 1)), none⟩, ⟨some 8, .mv (.t 18), none⟩])))))))
 (.seq (.ops [⟨some 4, .mv (.v (.int .i64 (-1))), none⟩])
 .ret)))
noncomputable def X.g_IndexFunc_Kind (p0 : (List TKind)) (f1 : TKind → Option Bool) : Option Int :=
  ((loop (fun (x16 : Int) => ((bif (decide (x16 < (p0.length : Int))) then ((at' zTKind p0 x16).bind fun v19 => ((f1 v19).bind fun v21 => (bif v21 then some (Sum.inr (Sum.inr x16)) else some (Sum.inl (W (x16 + 1)))))) else some (Sum.inr (Sum.inl ()))) : Option (Int ⊕ (Unit ⊕ Int)))) 0).bind fun y24 => (Sum.elim (fun (y26 : Unit) => some (-1)) (fun (y27 : Int) => some y27) y24))
theorem g_IndexFunc_Kind_c1_ok (p0 : (List TKind)) (cf1 : FuncId) (cs1_0 : List AC) (f1 : TKind → Option Bool) (hf1 : ∀ q0 r, f1 q0 = some r → FnOk Tryz.prog gl cf1 [.agg (eTKind q0), .c (.pd cs1_0 0)] (cB r)) (r : Int) (H : X.g_IndexFunc_Kind p0 f1 = some r) : FnOk Tryz.prog gl 246 [.c (dat 6 eTKind zTKind p0), .c (.clo cf1 [.pd cs1_0 0])] (cI r) := by
  unfold X.g_IndexFunc_Kind at H
  refine fn_in (fn := Tryz.f246) (ir := g_IndexFunc_Kind_ir) (s1 := lit [(4, cI r)] []) Tryz.func246 (by kernel_rfl) (by kernel_rfl) (by kernel_rfl) (by kernel_rfl) (by kernel_rfl) ?_
  refine seq_ops [] [] [(0, .c (dat 6 eTKind zTKind p0)), (1, .c (.clo cf1 [.pd cs1_0 0]))] [] (fun t => t) (by kernel_rfl) ?_
  refine seq_in ?_
  refine seq_ops [] [] [(0, .c (dat 6 eTKind zTKind p0)), (1, .c (.clo cf1 [.pd cs1_0 0])), (7, cI (p0.length : Int)), (8, cI 0)] [] (fun t => lI p0 (t)) (by kernel_rfl) ?_
  refine ends_blk ?_
  obtain ⟨y24, h25, H⟩ := ofBind H
  refine loop_in (fun (x : Int) => lit [(0, .c (dat 6 eTKind zTKind p0)), (1, .c (.clo cf1 [.pd cs1_0 0])), (7, cI (p0.length : Int)), (8, cI x)] []) (orJ (fun (z : Unit) => At (.exit 0) (lit [] [])) (fun (z : Int) => At .ret (lit [(4, cI z)] []))) h25 ?_ ?_
  · clear H h25
    intro x16 y0 H
    refine seq_ops [] [] [(0, .c (dat 6 eTKind zTKind p0)), (1, .c (.clo cf1 [.pd cs1_0 0])), (7, cI (p0.length : Int)), (8, cI x16), (9, cB (decide (x16 < (p0.length : Int))))] [] (fun t => t) (by kernel_rfl) ?_
    refine seq_in ?_
    rcases ofCond H with ⟨c18, H⟩ | ⟨c18, H⟩
    · refine ite_t c18 (by kernel_rfl) ?_
      refine ends_skip ?_
      change EndsI _ _ _ _ _ _
      refine seq_in ?_
      refine ends_blk ?_
      refine seq_ops [] [] [(0, .c (dat 6 eTKind zTKind p0)), (1, .c (.clo cf1 [.pd cs1_0 0])), (5, cI x16), (7, cI (p0.length : Int)), (8, cI x16)] [] (fun t => t) (by kernel_rfl) ?_
      obtain ⟨v19, h20, H⟩ := ofBind H
      obtain ⟨v21, h22, H⟩ := ofBind H
      refine seq_ops [.cs (eTKind v19), .res (cB v21)] [] [(0, .c (dat 6 eTKind zTKind p0)), (1, .c (.clo cf1 [.pd cs1_0 0])), (5, cI x16), (7, cI (p0.length : Int)), (8, cI x16), (16, cB v21)] [] (fun t => aI (at_lt h20) (aI (at_enc (enc := eTKind) h20) (aI (hf1 v19 v21 h22) (t)))) (by kernel_rfl) ?_
      rcases ofCond H with ⟨c23, H⟩ | ⟨c23, H⟩
      · refine ite_t c23 (by kernel_rfl) ?_
        refine seq_ops [] [] [(4, cI x16)] [] (fun t => t) (by kernel_rfl) ?_
        refine ends_ret ?_
        obtain rfl := Option.some.inj H
        exact And.intro (by simp) (And.intro rfl rfl)
      · refine ite_f c23 (by kernel_rfl) ?_
        refine ends_skip ?_
        change EndsI _ _ _ _ _ _
        refine one_ops [] [] [(0, .c (dat 6 eTKind zTKind p0)), (1, .c (.clo cf1 [.pd cs1_0 0])), (7, cI (p0.length : Int)), (8, cI (W (x16 + 1)))] [] (fun t => t) (by kernel_rfl) ?_
        obtain rfl := Option.some.inj H
        exact And.intro rfl rfl
    · refine ite_f c18 (by kernel_rfl) ?_
      refine tell [] [] [] (fun t => t) (by kernel_rfl) ?_
      refine ends_exit ?_
      obtain rfl := Option.some.inj H
      exact And.intro (by simp) (And.intro rfl rfl)
  · clear h25
    cases y24 with
    | inl y26 =>
      replace H := ofInl H
      intro e s q
      obtain ⟨rfl, rfl⟩ := q
      change EndsI _ _ _ _ _ _
      refine seq_ops [] [] [(4, cI (-1))] [] (fun t => t) (by kernel_rfl) ?_
      refine ends_ret ?_
      obtain rfl := Option.some.inj H
      exact And.intro (.inl rfl) rfl
    | inr y27 =>
      replace H := ofInr H
      intro e s q
      obtain ⟨rfl, rfl⟩ := q
      obtain rfl := Option.some.inj H
      exact And.intro (.inl rfl) rfl

def i_kindIndex_1_ir : S :=
 (.seq (.ops [⟨some 2, .box 6 (.t 0), none⟩, ⟨some 3, .mv (.v (.bool false)), none⟩])
 (.seq (.ops [⟨some 4, .fad 0 (.t 2), none⟩, ⟨some 5, .load 1 false (.t 4), none⟩, ⟨some 6, .load 1 false (.t 1), none⟩, ⟨some 7, .bin .eql (.t 5) (.t 6), none⟩, ⟨some 3, .mv (.t 7), none⟩])
 .ret))
noncomputable def X.i_kindIndex_1 (p0 : TKind) (p1 : (List UInt8)) : Option Bool :=
  some (p0.Name == p1)
theorem i_kindIndex_1_ok (p0 : TKind) (p1 : (List UInt8)) (r : Bool) (H : X.i_kindIndex_1 p0 p1 = some r) : FnOk Tryz.prog gl 247 [.agg (eTKind p0), .c (.pd (eS p1) 0)] (cB r) := by
  unfold X.i_kindIndex_1 at H
  refine fn_in (fn := Tryz.f247) (ir := i_kindIndex_1_ir) (s1 := lit [(3, cB r)] []) Tryz.func247 (by kernel_rfl) (by kernel_rfl) (by kernel_rfl) (by kernel_rfl) (by kernel_rfl) ?_
  refine seq_ops [] [] [(1, .c (.pd (eS p1) 0)), (2, .c (.pk 2 0))] [(2, .var (eTKind p0) false)] (fun t => t) (by kernel_rfl) ?_
  refine seq_ops [] [] [(3, cB (p0.Name == p1))] [] (fun t => t) (by kernel_rfl) ?_
  refine ends_ret ?_
  obtain rfl := Option.some.inj H
  exact And.intro (.inl rfl) rfl

def i_kindIndex_ir : S :=
 (.seq (.ops [⟨some 3, .box 1 (.t 1), none⟩, ⟨some 4, .mv (.v (.int .i64 0)), none⟩])
 (.seq (.ops [⟨some 5, .mv (.t 0), none⟩, ⟨some 6, .clo 247 [.t 3], none⟩, ⟨some 7, .call 246 [.t 5, .t 6], none⟩, ⟨some 4, .mv (.t 7), none⟩])
 .ret))
noncomputable def X.i_kindIndex (p0 : (List TKind)) (p1 : (List UInt8)) : Option Int :=
  ((X.g_IndexFunc_Kind p0 (fun q0 => X.i_kindIndex_1 q0 p1)).bind fun v1 => some v1)
theorem i_kindIndex_ok (p0 : (List TKind)) (p1 : (List UInt8)) (r : Int) (H : X.i_kindIndex p0 p1 = some r) : FnOk Tryz.prog gl 230 [.c (dat 6 eTKind zTKind p0), .c (.str p1)] (cI r) := by
  unfold X.i_kindIndex at H
  refine fn_in (fn := Tryz.f230) (ir := i_kindIndex_ir) (s1 := lit [(4, cI r)] []) Tryz.func230 (by kernel_rfl) (by kernel_rfl) (by kernel_rfl) (by kernel_rfl) (by kernel_rfl) ?_
  refine seq_ops [] [] [(0, .c (dat 6 eTKind zTKind p0)), (3, .c (.pk 3 0))] [(3, .var [.str p1] false)] (fun t => t) (by kernel_rfl) ?_
  obtain ⟨v1, h2, H⟩ := ofBind H
  refine seq_ops [.res (cI v1)] [] [(4, cI v1)] [] (fun t => aI (g_IndexFunc_Kind_c1_ok p0 (247) (eS p1) (fun q0 => X.i_kindIndex_1 q0 p1) (fun q0 r h => i_kindIndex_1_ok q0 p1 r h) v1 h2) (t)) (by kernel_rfl) ?_
  refine ends_ret ?_
  obtain rfl := Option.some.inj H
  exact And.intro (.inl rfl) rfl

def i_IsRules_ir : S :=
 (.seq (.ops [⟨some 1, .box 7 (.t 0), none⟩, ⟨some 2, .mv (.v (.bool false)), none⟩])
 (.seq (.seq (.ops [⟨some 7, .fad 0 (.t 1), none⟩, ⟨some 8, .load 1 false (.t 7), none⟩, ⟨some 9, .len (.t 8), none⟩, ⟨some 10, .call 71 [.t 9, .v (.int .i64 1), .v (.int .i64 6)], none⟩, ⟨some 11, .not (.t 10), none⟩, ⟨some 12, .mv (.t 11), none⟩, ⟨some 13, .fad 1 (.t 1), some (12, false)⟩, ⟨some 14, .load 1 false (.t 13), some (12, false)⟩, ⟨some 15, .len (.t 14), some (12, false)⟩, ⟨some 16, .call 71 [.t 15, .v (.int .i64 1), .v (.int .i64 4)], some (12, false)⟩, ⟨some 17, .not (.t 16), some (12, false)⟩, ⟨some 18, .pick (.t 12) (.v (.bool true)) (.t 17), none⟩])
 (.ite (.t 18) (.seq (.ops [⟨some 2, .mv (.v (.bool false)), none⟩])
  .ret)
 .skip))
 (.seq (.seq (.ops [⟨some 19, .fad 0 (.t 1), none⟩, ⟨some 20, .load 1 false (.t 19), none⟩, ⟨some 21, .len (.t 20), none⟩, ⟨some 22, .mv (.v (.int .i64 0)), none⟩])
 (.blk 0 (.loop (.seq (.ops [⟨some 23, .bin .lss (.t 22) (.t 21), none⟩])
   (.seq (.ite (.t 23) .skip
   (.exit 0))
   (.seq (.blk 1 (.seq (.ops [⟨some 24, .mv (.t 22), none⟩, ⟨some 25, .iad 5 (.t 20) (.t 22), none⟩, ⟨some 26, .load 5 true (.t 25), none⟩, ⟨some 4, .alloc [.str [], .nil, .int .i64 0, .int .i64 0, .bool false], none⟩, ⟨some 3, .mv (.t 24), none⟩, ⟨none, .store 5 (.t 4) (.t 26), none⟩])
    (.seq (.ops [⟨some 27, .load 5 true (.t 4), none⟩, ⟨some 28, .fad 1 (.t 1), none⟩, ⟨some 29, .load 1 false (.t 28), none⟩, ⟨some 30, .len (.t 29), none⟩, ⟨some 31, .call 227 [.t 27, .t 30], none⟩, ⟨some 32, .not (.t 31), none⟩, ⟨some 33, .mv (.t 32), none⟩, ⟨some 34, .fad 0 (.t 1), some (33, false)⟩, ⟨some 35, .load 1 false (.t 34), some (33, false)⟩, ⟨some 36, .fad 0 (.t 4), some (33, false)⟩, ⟨some 37, .load 1 false (.t 36), some (33, false)⟩, ⟨some 38, .call 228 [.t 35, .t 37], some (33, false)⟩, ⟨some 39, .mv (.t 3), some (33, false)⟩, ⟨some 40, .bin .neq (.t 38) (.t 39), some (33, false)⟩, ⟨some 41, .pick (.t 33) (.v (.bool true)) (.t 40), none⟩])
    (.ite (.t 41) (.seq (.ops [⟨some 2, .mv (.v (.bool false)), none⟩])
     .ret)
    .skip))))
   (.ops [⟨some 42, .bin .add (.t 22) (.v (.int .i64 1)), none⟩, ⟨some 22, .mv (.t 42), none⟩])))))))
 (.seq (.seq (.ops [⟨some 43, .fad 1 (.t 1), none⟩, ⟨some 44, .load 1 false (.t 43), none⟩, ⟨some 45, .len (.t 44), none⟩, ⟨some 46, .mv (.v (.int .i64 0)), none⟩])
 (.blk 2 (.loop (.seq (.ops [⟨some 47, .bin .lss (.t 46) (.t 45), none⟩])
   (.seq (.ite (.t 47) .skip
   (.exit 2))
   (.seq (.blk 3 (.seq (.ops [⟨some 48, .mv (.t 46), none⟩, ⟨some 49, .iad 6 (.t 44) (.t 46), none⟩, ⟨some 50, .load 6 true (.t 49), none⟩, ⟨some 6, .alloc [.str [], .int .i64 0, .int .i64 0, .int .i64 0, .bool false, .int .i64 0], none⟩, ⟨some 5, .mv (.t 48), none⟩, ⟨none, .store 6 (.t 6) (.t 50), none⟩])
    (.seq (.ops [⟨some 51, .load 6 true (.t 6), none⟩, ⟨some 52, .call 229 [.t 51], none⟩, ⟨some 53, .not (.t 52), none⟩, ⟨some 54, .mv (.t 53), none⟩, ⟨some 55, .fad 1 (.t 1), some (54, false)⟩, ⟨some 56, .load 1 false (.t 55), some (54, false)⟩, ⟨some 57, .fad 0 (.t 6), some (54, false)⟩, ⟨some 58, .load 1 false (.t 57), some (54, false)⟩, ⟨some 59, .call 230 [.t 56, .t 58], some (54, false)⟩, ⟨some 60, .mv (.t 5), some (54, false)⟩, ⟨some 61, .bin .neq (.t 59) (.t 60), some (54, false)⟩, ⟨some 62, .pick (.t 54) (.v (.bool true)) (.t 61), none⟩])
    (.ite (.t 62) (.seq (.ops [⟨some 2, .mv (.v (.bool false)), none⟩])
     .ret)
    .skip))))
   (.ops [⟨some 63, .bin .add (.t 46) (.v (.int .i64 1)), none⟩, ⟨some 46, .mv (.t 63), none⟩])))))))
 (.seq (.ops [⟨some 64, .fad 2 (.t 1), none⟩, ⟨some 65, .load 1 false (.t 64), none⟩, ⟨some 66, .call 71 [.t 65, .v (.int .i64 1), .v (.int .i64 4)], none⟩, ⟨some 67, .mv (.t 66), none⟩, ⟨some 68, .fad 3 (.t 1), some (67, true)⟩, ⟨some 69, .load 1 false (.t 68), some (67, true)⟩, ⟨some 70, .call 71 [.t 69, .v (.int .i64 0), .v (.int .i64 9)], some (67, true)⟩, ⟨some 71, .pick (.t 67) (.t 70) (.v (.bool false)), none⟩, ⟨some 72, .mv (.t 71), none⟩, ⟨some 73, .fad 4 (.t 1), some (72, true)⟩, ⟨some 74, .load 1 false (.t 73), some (72, true)⟩, ⟨some 75, .call 71 [.t 74, .v (.int .i64 1), .v (.int .i64 9)], some (72, true)⟩, ⟨some 76, .pick (.t 72) (.t 75) (.v (.bool false)), none⟩, ⟨some 77, .mv (.t 76), none⟩, ⟨some 78, .fad 5 (.t 1), some (77, true)⟩, ⟨some 79, .load 1 false (.t 78), some (77, true)⟩, ⟨some 80, .call 71 [.t 79, .v (.int .i64 0), .v (.int .i64 20)], some (77, true)⟩, ⟨some 81, .pick (.t 77) (.t 80) (.v (.bool false)), none⟩, ⟨some 82, .mv (.t 81), none⟩, ⟨some 83, .fad 6 (.t 1), some (82, true)⟩, ⟨some 84, .load 1 false (.t 83), some (82, true)⟩, ⟨some 85, .call 71 [.t 84, .v (.int .i64 1), .v (.int .i64 30)], some (82, true)⟩, ⟨some 86, .pick (.t 82) (.t 85) (.v (.bool false)), none⟩, ⟨some 2, .mv (.t 86), none⟩])
 .ret)))))
noncomputable def X.i_IsRules (p0 : TRules) : Option Bool :=
  ((X.i_inRange (p0.Terrains.length : Int) 1 6).bind fun v7 => (bif (!v7) then some false else ((X.i_inRange (p0.Kinds.length : Int) 1 4).bind fun v10 => (bif (!v10) then some false else ((loop (fun (x70 : Int) => ((bif (decide (x70 < (p0.Terrains.length : Int))) then ((at' zTTerrain p0.Terrains x70).bind fun v73 => ((X.i_goodTerrain v73 (p0.Kinds.length : Int)).bind fun v75 => (bif (!v75) then some (Sum.inr (Sum.inr false)) else ((X.i_terrainIndex p0.Terrains v73.Name).bind fun v78 => (bif (v78 != x70) then some (Sum.inr (Sum.inr false)) else some (Sum.inl (W (x70 + 1)))))))) else some (Sum.inr (Sum.inl ()))) : Option (Int ⊕ (Unit ⊕ Bool)))) 0).bind fun y81 => (Sum.elim (fun (y83 : Unit) => ((loop (fun (x142 : Int) => ((bif (decide (x142 < (p0.Kinds.length : Int))) then ((at' zTKind p0.Kinds x142).bind fun v145 => ((X.i_goodKind v145).bind fun v147 => (bif (!v147) then some (Sum.inr (Sum.inr false)) else ((X.i_kindIndex p0.Kinds v145.Name).bind fun v150 => (bif (v150 != x142) then some (Sum.inr (Sum.inr false)) else some (Sum.inl (W (x142 + 1)))))))) else some (Sum.inr (Sum.inl ()))) : Option (Int ⊕ (Unit ⊕ Bool)))) 0).bind fun y153 => (Sum.elim (fun (y155 : Unit) => ((X.i_inRange p0.Stack 1 4).bind fun v157 => (bif v157 then ((X.i_inRange p0.River 0 9).bind fun v160 => (bif v160 then ((X.i_inRange p0.Road 1 9).bind fun v163 => (bif v163 then ((X.i_inRange p0.Supply 0 20).bind fun v166 => (bif v166 then ((X.i_inRange p0.Turns 1 30).bind fun v169 => some v169) else some false)) else some false)) else some false)) else some false))) (fun (y156 : Bool) => some y156) y153))) (fun (y84 : Bool) => some y84) y81))))))
theorem i_IsRules_ok (p0 : TRules) (r : Bool) (H : X.i_IsRules p0 = some r) : FnOk Tryz.prog gl 173 [.agg (eTRules p0)] (cB r) := by
  unfold X.i_IsRules at H
  refine fn_in (fn := Tryz.f173) (ir := i_IsRules_ir) (s1 := lit [(2, cB r)] []) Tryz.func173 (by kernel_rfl) (by kernel_rfl) (by kernel_rfl) (by kernel_rfl) (by kernel_rfl) ?_
  refine seq_ops [] [] [(1, .c (.pk 1 0))] [(1, .var (eTRules p0) false)] (fun t => t) (by kernel_rfl) ?_
  refine seq_in ?_
  obtain ⟨v7, h8, H⟩ := ofBind H
  rcases ofCond H with ⟨c9, H⟩ | ⟨c9, H⟩
  · refine seq_ops [.res (cB v7), .g true, .g true, .g true, .g true, .g true, .g true] [] [(1, .c (.pk 1 0)), (18, cB true)] [(1, .var (eTRules p0) false)] (fun t => lI p0.Terrains (aI (i_inRange_ok (p0.Terrains.length : Int) 1 6 v7 h8) (aI c9 (aI c9 (aI c9 (aI c9 (aI c9 (aI c9 (t))))))))) (by kernel_rfl) ?_
    refine ite_t (rfl : (true : Bool) = true) (by kernel_rfl) ?_
    refine seq_ops [] [] [(2, cB false)] [] (fun t => t) (by kernel_rfl) ?_
    refine ends_ret ?_
    obtain rfl := Option.some.inj H
    exact And.intro (.inl rfl) rfl
  · obtain ⟨v10, h11, H⟩ := ofBind H
    refine seq_ops [.res (cB v7), .g false, .g false, .g false, .g false, .res (cB v10), .g false, .g false] [] [(1, .c (.pk 1 0)), (18, cB (!v10))] [(1, .var (eTRules p0) false)] (fun t => lI p0.Terrains (aI (i_inRange_ok (p0.Terrains.length : Int) 1 6 v7 h8) (aI c9 (aI c9 (aI c9 (lI p0.Kinds (aI c9 (aI (i_inRange_ok (p0.Kinds.length : Int) 1 4 v10 h11) (aI c9 (aI c9 (t))))))))))) (by kernel_rfl) ?_
    rcases ofCond H with ⟨c12, H⟩ | ⟨c12, H⟩
    · refine ite_t c12 (by kernel_rfl) ?_
      refine seq_ops [] [] [(2, cB false)] [] (fun t => t) (by kernel_rfl) ?_
      refine ends_ret ?_
      obtain rfl := Option.some.inj H
      exact And.intro (.inl rfl) rfl
    · refine ite_f c12 (by kernel_rfl) ?_
      refine ends_skip ?_
      change EndsI _ _ _ _ _ _
      refine seq_in ?_
      refine seq_ops [] [] [(1, .c (.pk 1 0)), (20, .c (dat 5 eTTerrain zTTerrain p0.Terrains)), (21, cI (p0.Terrains.length : Int)), (22, cI 0)] [(1, .var (eTRules p0) false)] (fun t => lI p0.Terrains (t)) (by kernel_rfl) ?_
      refine ends_blk ?_
      obtain ⟨y81, h82, H⟩ := ofBind H
      refine loop_in (fun (x : Int) => lit [(1, .c (.pk 1 0)), (20, .c (dat 5 eTTerrain zTTerrain p0.Terrains)), (21, cI (p0.Terrains.length : Int)), (22, cI x)] [(1, .var (eTRules p0) false)]) (orJ (fun (z : Unit) => At (.exit 0) (lit [(1, .c (.pk 1 0))] [(1, .var (eTRules p0) false)])) (fun (z : Bool) => At .ret (lit [(2, cB z)] []))) h82 ?_ ?_
      · clear H h82
        intro x70 y0 H
        refine seq_ops [] [] [(1, .c (.pk 1 0)), (20, .c (dat 5 eTTerrain zTTerrain p0.Terrains)), (21, cI (p0.Terrains.length : Int)), (22, cI x70), (23, cB (decide (x70 < (p0.Terrains.length : Int))))] [(1, .var (eTRules p0) false)] (fun t => t) (by kernel_rfl) ?_
        refine seq_in ?_
        rcases ofCond H with ⟨c72, H⟩ | ⟨c72, H⟩
        · refine ite_t c72 (by kernel_rfl) ?_
          refine ends_skip ?_
          change EndsI _ _ _ _ _ _
          refine seq_in ?_
          refine ends_blk ?_
          obtain ⟨v73, h74, H⟩ := ofBind H
          refine seq_ops [.cs (eTTerrain v73)] [] [(1, .c (.pk 1 0)), (3, cI x70), (4, .c (.pk 4 0)), (20, .c (dat 5 eTTerrain zTTerrain p0.Terrains)), (21, cI (p0.Terrains.length : Int)), (22, cI x70)] [(1, .var (eTRules p0) false), (4, .var (eTTerrain v73) false)] (fun t => aI (at_lt h74) (aI (at_enc (enc := eTTerrain) h74) (t))) (by kernel_rfl) ?_
          obtain ⟨v75, h76, H⟩ := ofBind H
          rcases ofCond H with ⟨c77, H⟩ | ⟨c77, H⟩
          · refine seq_ops [.res (cB v75), .g true, .g true, .g true, .g true, .g true, .g true, .g true, .g true] [] [(1, .c (.pk 1 0)), (20, .c (dat 5 eTTerrain zTTerrain p0.Terrains)), (21, cI (p0.Terrains.length : Int)), (22, cI x70), (41, cB true)] [(1, .var (eTRules p0) false)] (fun t => lI p0.Kinds (aI (i_goodTerrain_ok v73 (p0.Kinds.length : Int) v75 h76) (aI c77 (aI c77 (aI c77 (aI c77 (aI c77 (aI c77 (aI c77 (aI c77 (t))))))))))) (by kernel_rfl) ?_
            refine ite_t (rfl : (true : Bool) = true) (by kernel_rfl) ?_
            refine seq_ops [] [] [(2, cB false)] [] (fun t => t) (by kernel_rfl) ?_
            refine ends_ret ?_
            obtain rfl := Option.some.inj H
            exact And.intro (by simp) (And.intro rfl rfl)
          · obtain ⟨v78, h79, H⟩ := ofBind H
            refine seq_ops [.res (cB v75), .g false, .g false, .g false, .g false, .g false, .res (cI v78), .g false, .g false, .g false] [] [(1, .c (.pk 1 0)), (20, .c (dat 5 eTTerrain zTTerrain p0.Terrains)), (21, cI (p0.Terrains.length : Int)), (22, cI x70), (41, cB (v78 != x70))] [(1, .var (eTRules p0) false)] (fun t => lI p0.Kinds (aI (i_goodTerrain_ok v73 (p0.Kinds.length : Int) v75 h76) (aI c77 (aI c77 (aI c77 (aI c77 (aI c77 (aI (i_terrainIndex_ok p0.Terrains v73.Name v78 h79) (aI c77 (aI c77 (aI c77 (t)))))))))))) (by kernel_rfl) ?_
            rcases ofCond H with ⟨c80, H⟩ | ⟨c80, H⟩
            · refine ite_t c80 (by kernel_rfl) ?_
              refine seq_ops [] [] [(2, cB false)] [] (fun t => t) (by kernel_rfl) ?_
              refine ends_ret ?_
              obtain rfl := Option.some.inj H
              exact And.intro (by simp) (And.intro rfl rfl)
            · refine ite_f c80 (by kernel_rfl) ?_
              refine ends_skip ?_
              change EndsI _ _ _ _ _ _
              refine one_ops [] [] [(1, .c (.pk 1 0)), (20, .c (dat 5 eTTerrain zTTerrain p0.Terrains)), (21, cI (p0.Terrains.length : Int)), (22, cI (W (x70 + 1)))] [(1, .var (eTRules p0) false)] (fun t => t) (by kernel_rfl) ?_
              obtain rfl := Option.some.inj H
              exact And.intro rfl rfl
        · refine ite_f c72 (by kernel_rfl) ?_
          refine tell [] [(1, .c (.pk 1 0))] [(1, .var (eTRules p0) false)] (fun t => t) (by kernel_rfl) ?_
          refine ends_exit ?_
          obtain rfl := Option.some.inj H
          exact And.intro (by simp) (And.intro rfl rfl)
      · clear h82
        cases y81 with
        | inl y83 =>
          replace H := ofInl H
          intro e s q
          obtain ⟨rfl, rfl⟩ := q
          change EndsI _ _ _ _ _ _
          refine seq_in ?_
          refine seq_ops [] [] [(1, .c (.pk 1 0)), (44, .c (dat 6 eTKind zTKind p0.Kinds)), (45, cI (p0.Kinds.length : Int)), (46, cI 0)] [(1, .var (eTRules p0) false)] (fun t => lI p0.Kinds (t)) (by kernel_rfl) ?_
          refine ends_blk ?_
          obtain ⟨y153, h154, H⟩ := ofBind H
          refine loop_in (fun (x : Int) => lit [(1, .c (.pk 1 0)), (44, .c (dat 6 eTKind zTKind p0.Kinds)), (45, cI (p0.Kinds.length : Int)), (46, cI x)] [(1, .var (eTRules p0) false)]) (orJ (fun (z : Unit) => At (.exit 2) (lit [(1, .c (.pk 1 0))] [(1, .var (eTRules p0) false)])) (fun (z : Bool) => At .ret (lit [(2, cB z)] []))) h154 ?_ ?_
          · clear H h154
            intro x142 y0 H
            refine seq_ops [] [] [(1, .c (.pk 1 0)), (44, .c (dat 6 eTKind zTKind p0.Kinds)), (45, cI (p0.Kinds.length : Int)), (46, cI x142), (47, cB (decide (x142 < (p0.Kinds.length : Int))))] [(1, .var (eTRules p0) false)] (fun t => t) (by kernel_rfl) ?_
            refine seq_in ?_
            rcases ofCond H with ⟨c144, H⟩ | ⟨c144, H⟩
            · refine ite_t c144 (by kernel_rfl) ?_
              refine ends_skip ?_
              change EndsI _ _ _ _ _ _
              refine seq_in ?_
              refine ends_blk ?_
              obtain ⟨v145, h146, H⟩ := ofBind H
              refine seq_ops [.cs (eTKind v145)] [] [(1, .c (.pk 1 0)), (5, cI x142), (6, .c (.pk 6 0)), (44, .c (dat 6 eTKind zTKind p0.Kinds)), (45, cI (p0.Kinds.length : Int)), (46, cI x142)] [(1, .var (eTRules p0) false), (6, .var (eTKind v145) false)] (fun t => aI (at_lt h146) (aI (at_enc (enc := eTKind) h146) (t))) (by kernel_rfl) ?_
              obtain ⟨v147, h148, H⟩ := ofBind H
              rcases ofCond H with ⟨c149, H⟩ | ⟨c149, H⟩
              · refine seq_ops [.res (cB v147), .g true, .g true, .g true, .g true, .g true, .g true, .g true, .g true] [] [(1, .c (.pk 1 0)), (44, .c (dat 6 eTKind zTKind p0.Kinds)), (45, cI (p0.Kinds.length : Int)), (46, cI x142), (62, cB true)] [(1, .var (eTRules p0) false)] (fun t => aI (i_goodKind_ok v145 v147 h148) (aI c149 (aI c149 (aI c149 (aI c149 (aI c149 (aI c149 (aI c149 (aI c149 (t)))))))))) (by kernel_rfl) ?_
                refine ite_t (rfl : (true : Bool) = true) (by kernel_rfl) ?_
                refine seq_ops [] [] [(2, cB false)] [] (fun t => t) (by kernel_rfl) ?_
                refine ends_ret ?_
                obtain rfl := Option.some.inj H
                exact And.intro (by simp) (And.intro rfl rfl)
              · obtain ⟨v150, h151, H⟩ := ofBind H
                refine seq_ops [.res (cB v147), .g false, .g false, .g false, .g false, .g false, .res (cI v150), .g false, .g false, .g false] [] [(1, .c (.pk 1 0)), (44, .c (dat 6 eTKind zTKind p0.Kinds)), (45, cI (p0.Kinds.length : Int)), (46, cI x142), (62, cB (v150 != x142))] [(1, .var (eTRules p0) false)] (fun t => aI (i_goodKind_ok v145 v147 h148) (aI c149 (aI c149 (aI c149 (aI c149 (aI c149 (aI (i_kindIndex_ok p0.Kinds v145.Name v150 h151) (aI c149 (aI c149 (aI c149 (t))))))))))) (by kernel_rfl) ?_
                rcases ofCond H with ⟨c152, H⟩ | ⟨c152, H⟩
                · refine ite_t c152 (by kernel_rfl) ?_
                  refine seq_ops [] [] [(2, cB false)] [] (fun t => t) (by kernel_rfl) ?_
                  refine ends_ret ?_
                  obtain rfl := Option.some.inj H
                  exact And.intro (by simp) (And.intro rfl rfl)
                · refine ite_f c152 (by kernel_rfl) ?_
                  refine ends_skip ?_
                  change EndsI _ _ _ _ _ _
                  refine one_ops [] [] [(1, .c (.pk 1 0)), (44, .c (dat 6 eTKind zTKind p0.Kinds)), (45, cI (p0.Kinds.length : Int)), (46, cI (W (x142 + 1)))] [(1, .var (eTRules p0) false)] (fun t => t) (by kernel_rfl) ?_
                  obtain rfl := Option.some.inj H
                  exact And.intro rfl rfl
            · refine ite_f c144 (by kernel_rfl) ?_
              refine tell [] [(1, .c (.pk 1 0))] [(1, .var (eTRules p0) false)] (fun t => t) (by kernel_rfl) ?_
              refine ends_exit ?_
              obtain rfl := Option.some.inj H
              exact And.intro (by simp) (And.intro rfl rfl)
          · clear h154
            cases y153 with
            | inl y155 =>
              replace H := ofInl H
              intro e s q
              obtain ⟨rfl, rfl⟩ := q
              change EndsI _ _ _ _ _ _
              obtain ⟨v157, h158, H⟩ := ofBind H
              rcases ofCond H with ⟨c159, H⟩ | ⟨c159, H⟩
              · obtain ⟨v160, h161, H⟩ := ofBind H
                rcases ofCond H with ⟨c162, H⟩ | ⟨c162, H⟩
                · obtain ⟨v163, h164, H⟩ := ofBind H
                  rcases ofCond H with ⟨c165, H⟩ | ⟨c165, H⟩
                  · obtain ⟨v166, h167, H⟩ := ofBind H
                    rcases ofCond H with ⟨c168, H⟩ | ⟨c168, H⟩
                    · obtain ⟨v169, h170, H⟩ := ofBind H
                      refine seq_ops [.res (cB v157), .g true, .g true, .g true, .res (cB v160), .g true, .g true, .g true, .g true, .res (cB v163), .g true, .g true, .g true, .g true, .res (cB v166), .g true, .g true, .g true, .g true, .res (cB v169), .g true] [] [(2, cB v169)] [] (fun t => aI (i_inRange_ok p0.Stack 1 4 v157 h158) (aI c159 (aI c159 (aI c159 (aI (i_inRange_ok p0.River 0 9 v160 h161) (aI c159 (aI c162 (aI c162 (aI c162 (aI (i_inRange_ok p0.Road 1 9 v163 h164) (aI c162 (aI c165 (aI c165 (aI c165 (aI (i_inRange_ok p0.Supply 0 20 v166 h167) (aI c165 (aI c168 (aI c168 (aI c168 (aI (i_inRange_ok p0.Turns 1 30 v169 h170) (aI c168 (t)))))))))))))))))))))) (by kernel_rfl) ?_
                      refine ends_ret ?_
                      obtain rfl := Option.some.inj H
                      exact And.intro (.inl rfl) rfl
                    · refine seq_ops [.res (cB v157), .g true, .g true, .g true, .res (cB v160), .g true, .g true, .g true, .g true, .res (cB v163), .g true, .g true, .g true, .g true, .res (cB v166), .g true, .g false, .g false, .g false, .g false] [] [(2, cB false)] [] (fun t => aI (i_inRange_ok p0.Stack 1 4 v157 h158) (aI c159 (aI c159 (aI c159 (aI (i_inRange_ok p0.River 0 9 v160 h161) (aI c159 (aI c162 (aI c162 (aI c162 (aI (i_inRange_ok p0.Road 1 9 v163 h164) (aI c162 (aI c165 (aI c165 (aI c165 (aI (i_inRange_ok p0.Supply 0 20 v166 h167) (aI c165 (aI c168 (aI c168 (aI c168 (aI c168 (t))))))))))))))))))))) (by kernel_rfl) ?_
                      refine ends_ret ?_
                      obtain rfl := Option.some.inj H
                      exact And.intro (.inl rfl) rfl
                  · refine seq_ops [.res (cB v157), .g true, .g true, .g true, .res (cB v160), .g true, .g true, .g true, .g true, .res (cB v163), .g true, .g false, .g false, .g false, .g false, .g false, .g false, .g false, .g false] [] [(2, cB false)] [] (fun t => aI (i_inRange_ok p0.Stack 1 4 v157 h158) (aI c159 (aI c159 (aI c159 (aI (i_inRange_ok p0.River 0 9 v160 h161) (aI c159 (aI c162 (aI c162 (aI c162 (aI (i_inRange_ok p0.Road 1 9 v163 h164) (aI c162 (aI c165 (aI c165 (aI c165 (aI c165 (aI (rfl : (false : Bool) = false) (aI (rfl : (false : Bool) = false) (aI (rfl : (false : Bool) = false) (aI (rfl : (false : Bool) = false) (t)))))))))))))))))))) (by kernel_rfl) ?_
                    refine ends_ret ?_
                    obtain rfl := Option.some.inj H
                    exact And.intro (.inl rfl) rfl
                · refine seq_ops [.res (cB v157), .g true, .g true, .g true, .res (cB v160), .g true, .g false, .g false, .g false, .g false, .g false, .g false, .g false, .g false, .g false, .g false, .g false, .g false] [] [(2, cB false)] [] (fun t => aI (i_inRange_ok p0.Stack 1 4 v157 h158) (aI c159 (aI c159 (aI c159 (aI (i_inRange_ok p0.River 0 9 v160 h161) (aI c159 (aI c162 (aI c162 (aI c162 (aI c162 (aI (rfl : (false : Bool) = false) (aI (rfl : (false : Bool) = false) (aI (rfl : (false : Bool) = false) (aI (rfl : (false : Bool) = false) (aI (rfl : (false : Bool) = false) (aI (rfl : (false : Bool) = false) (aI (rfl : (false : Bool) = false) (aI (rfl : (false : Bool) = false) (t))))))))))))))))))) (by kernel_rfl) ?_
                  refine ends_ret ?_
                  obtain rfl := Option.some.inj H
                  exact And.intro (.inl rfl) rfl
              · refine seq_ops [.res (cB v157), .g false, .g false, .g false, .g false, .g false, .g false, .g false, .g false, .g false, .g false, .g false, .g false, .g false, .g false, .g false, .g false] [] [(2, cB false)] [] (fun t => aI (i_inRange_ok p0.Stack 1 4 v157 h158) (aI c159 (aI c159 (aI c159 (aI c159 (aI (rfl : (false : Bool) = false) (aI (rfl : (false : Bool) = false) (aI (rfl : (false : Bool) = false) (aI (rfl : (false : Bool) = false) (aI (rfl : (false : Bool) = false) (aI (rfl : (false : Bool) = false) (aI (rfl : (false : Bool) = false) (aI (rfl : (false : Bool) = false) (aI (rfl : (false : Bool) = false) (aI (rfl : (false : Bool) = false) (aI (rfl : (false : Bool) = false) (aI (rfl : (false : Bool) = false) (t)))))))))))))))))) (by kernel_rfl) ?_
                refine ends_ret ?_
                obtain rfl := Option.some.inj H
                exact And.intro (.inl rfl) rfl
            | inr y156 =>
              replace H := ofInr H
              intro e s q
              obtain ⟨rfl, rfl⟩ := q
              obtain rfl := Option.some.inj H
              exact And.intro (.inl rfl) rfl
        | inr y84 =>
          replace H := ofInr H
          intro e s q
          obtain ⟨rfl, rfl⟩ := q
          obtain rfl := Option.some.inj H
          exact And.intro (.inl rfl) rfl

def i_isIndex_ir : S :=
 (.seq (.ops [⟨some 4, .mv (.v (.bool false)), none⟩])
 (.seq (.ops [⟨some 5, .mv (.t 0), none⟩, ⟨some 6, .mv (.t 1), none⟩, ⟨some 7, .bin .sub (.t 6) (.v (.int .i64 1)), none⟩, ⟨some 8, .call 71 [.t 5, .v (.int .i64 0), .t 7], none⟩, ⟨some 4, .mv (.t 8), none⟩])
 .ret))
noncomputable def X.i_isIndex (p0 : Int) (p1 : Int) : Option Bool :=
  ((X.i_inRange p0 0 (W (p1 - 1))).bind fun v1 => some v1)
theorem i_isIndex_ok (p0 : Int) (p1 : Int) (r : Bool) (H : X.i_isIndex p0 p1 = some r) : FnOk Tryz.prog gl 90 [cI p0, cI p1] (cB r) := by
  unfold X.i_isIndex at H
  refine fn_in (fn := Tryz.f90) (ir := i_isIndex_ir) (s1 := lit [(4, cB r)] []) Tryz.func90 (by kernel_rfl) (by kernel_rfl) (by kernel_rfl) (by kernel_rfl) (by kernel_rfl) ?_
  refine seq_ops [] [] [(0, cI p0), (1, cI p1)] [] (fun t => t) (by kernel_rfl) ?_
  obtain ⟨v1, h2, H⟩ := ofBind H
  refine seq_ops [.res (cB v1)] [] [(4, cB v1)] [] (fun t => aI (i_inRange_ok p0 0 (W (p1 - 1)) v1 h2) (t)) (by kernel_rfl) ?_
  refine ends_ret ?_
  obtain rfl := Option.some.inj H
  exact And.intro (.inl rfl) rfl

def i_increasing_ir : S :=
 (.seq (.ops [⟨some 2, .mv (.v (.bool false)), none⟩])
 (.seq (.seq (.ops [⟨some 3, .mv (.v (.int .i64 1)), none⟩])
 (.blk 0 (.loop (.seq (.seq (.ops [⟨some 4, .mv (.t 3), none⟩, ⟨some 5, .mv (.t 0), none⟩, ⟨some 6, .len (.t 5), none⟩, ⟨some 7, .bin .lss (.t 4) (.t 6), none⟩])
   (.ite (.t 7) .skip
   (.exit 0)))
   (.seq (.blk 1 (.seq (.draw 10 [⟨some 10, .mv (.t 0), none⟩, ⟨some 11, .mv (.t 3), none⟩, ⟨some 12, .bin .sub (.t 11) (.v (.int .i64 1)), none⟩, ⟨some 13, .iad 1 (.t 10) (.t 12), none⟩, ⟨some 14, .load 1 false (.t 13), none⟩, ⟨some 15, .mv (.t 0), none⟩, ⟨some 16, .mv (.t 3), none⟩, ⟨some 17, .iad 1 (.t 15) (.t 16), none⟩, ⟨some 18, .load 1 false (.t 17), none⟩, ⟨some 19, .bin .geq (.t 14) (.t 18), none⟩])
    (.ite (.t 19) (.seq (.ops [⟨some 2, .mv (.v (.bool false)), none⟩])
     .ret)
    .skip)))
   (.ops [⟨some 8, .mv (.t 3), none⟩, ⟨some 9, .bin .add (.t 8) (.v (.int .i64 1)), none⟩, ⟨some 3, .mv (.t 9), none⟩]))))))
 (.seq (.ops [⟨some 2, .mv (.v (.bool true)), none⟩])
 .ret)))
noncomputable def X.i_increasing (p0 : (List Int)) : Option Bool :=
  ((loop (fun (x16 : Int) => ((bif (decide (x16 < (p0.length : Int))) then ((at' zI p0 (W (x16 - 1))).bind fun v19 => ((at' zI p0 x16).bind fun v21 => (bif (decide (v19 ≥ v21)) then some (Sum.inr (Sum.inr false)) else some (Sum.inl (W (x16 + 1)))))) else some (Sum.inr (Sum.inl ()))) : Option (Int ⊕ (Unit ⊕ Bool)))) 1).bind fun y24 => (Sum.elim (fun (y26 : Unit) => some true) (fun (y27 : Bool) => some y27) y24))
theorem i_increasing_ok (p0 : (List Int)) (r : Bool) (H : X.i_increasing p0 = some r) : FnOk Tryz.prog gl 189 [.c (dat 1 eI zI p0)] (cB r) := by
  unfold X.i_increasing at H
  refine fn_in (fn := Tryz.f189) (ir := i_increasing_ir) (s1 := lit [(2, cB r)] []) Tryz.func189 (by kernel_rfl) (by kernel_rfl) (by kernel_rfl) (by kernel_rfl) (by kernel_rfl) ?_
  refine seq_ops [] [] [(0, .c (dat 1 eI zI p0))] [] (fun t => t) (by kernel_rfl) ?_
  refine seq_in ?_
  refine seq_ops [] [] [(0, .c (dat 1 eI zI p0)), (3, cI 1)] [] (fun t => t) (by kernel_rfl) ?_
  refine ends_blk ?_
  obtain ⟨y24, h25, H⟩ := ofBind H
  refine loop_in (fun (x : Int) => lit [(0, .c (dat 1 eI zI p0)), (3, cI x)] []) (orJ (fun (z : Unit) => At (.exit 0) (lit [] [])) (fun (z : Bool) => At .ret (lit [(2, cB z)] []))) h25 ?_ ?_
  · clear H h25
    intro x16 y0 H
    refine seq_in ?_
    refine seq_ops [] [] [(0, .c (dat 1 eI zI p0)), (3, cI x16), (7, cB (decide (x16 < (p0.length : Int))))] [] (fun t => lI p0 (t)) (by kernel_rfl) ?_
    rcases ofCond H with ⟨c18, H⟩ | ⟨c18, H⟩
    · refine ite_t c18 (by kernel_rfl) ?_
      refine ends_skip ?_
      change EndsI _ _ _ _ _ _
      refine seq_in ?_
      refine ends_blk ?_
      obtain ⟨v19, h20, H⟩ := ofBind H
      obtain ⟨v21, h22, H⟩ := ofBind H
      refine seq_draw [.cs (eI v19), .cs (eI v21)] [] [(0, .c (dat 1 eI zI p0)), (3, cI x16), (19, cB (decide (v19 ≥ v21)))] [] (fun t => aI (at_lt h20) (aI (at_enc (enc := eI) h20) (aI (rfl : ([] : List Nat) = []) (aI (at_lt h22) (aI (at_enc (enc := eI) h22) (aI (rfl : ([] : List Nat) = []) (t))))))) (by kernel_rfl) ?_
      rcases ofCond H with ⟨c23, H⟩ | ⟨c23, H⟩
      · refine ite_t c23 (by kernel_rfl) ?_
        refine seq_ops [] [] [(2, cB false)] [] (fun t => t) (by kernel_rfl) ?_
        refine ends_ret ?_
        obtain rfl := Option.some.inj H
        exact And.intro (by simp) (And.intro rfl rfl)
      · refine ite_f c23 (by kernel_rfl) ?_
        refine ends_skip ?_
        change EndsI _ _ _ _ _ _
        refine one_ops [] [] [(0, .c (dat 1 eI zI p0)), (3, cI (W (x16 + 1)))] [] (fun t => t) (by kernel_rfl) ?_
        obtain rfl := Option.some.inj H
        exact And.intro rfl rfl
    · refine ite_f c18 (by kernel_rfl) ?_
      refine tell [] [] [] (fun t => t) (by kernel_rfl) ?_
      refine ends_exit ?_
      obtain rfl := Option.some.inj H
      exact And.intro (by simp) (And.intro rfl rfl)
  · clear h25
    cases y24 with
    | inl y26 =>
      replace H := ofInl H
      intro e s q
      obtain ⟨rfl, rfl⟩ := q
      change EndsI _ _ _ _ _ _
      refine seq_ops [] [] [(2, cB true)] [] (fun t => t) (by kernel_rfl) ?_
      refine ends_ret ?_
      obtain rfl := Option.some.inj H
      exact And.intro (.inl rfl) rfl
    | inr y27 =>
      replace H := ofInr H
      intro e s q
      obtain ⟨rfl, rfl⟩ := q
      obtain rfl := Option.some.inj H
      exact And.intro (.inl rfl) rfl

def i_hexOf_ir : S :=
 (.seq (.ops [⟨some 2, .box 5 (.t 0), none⟩, ⟨some 4, .alloc [.int .i64 0, .int .i64 0], none⟩])
 (.seq (.draw 9 [⟨some 5, .mv (.t 1), none⟩, ⟨some 6, .fad 0 (.t 2), none⟩, ⟨some 7, .load 1 false (.t 6), none⟩, ⟨some 8, .bin .rem (.t 5) (.t 7), none⟩, ⟨some 9, .mv (.t 1), none⟩, ⟨some 10, .fad 0 (.t 2), none⟩, ⟨some 11, .load 1 false (.t 10), none⟩, ⟨some 12, .bin .quo (.t 9) (.t 11), none⟩, ⟨some 13, .build [.int .i64 0, .int .i64 0] [(0, 1, .t 8), (1, 1, .t 12)], none⟩, ⟨none, .store 2 (.t 4) (.t 13), none⟩])
 .ret))
noncomputable def X.i_hexOf (p0 : TMap) (p1 : Int) : Option THex :=
  (if p0.Width ≠ 0 then (if p0.Width ≠ 0 then some (THex.mk (Int.tmod p1 p0.Width) (W (Int.tdiv p1 p0.Width))) else none) else none)
theorem i_hexOf_ok (p0 : TMap) (p1 : Int) (r : THex) (H : X.i_hexOf p0 p1 = some r) : FnOk Tryz.prog gl 85 [.agg (eTMap p0), cI p1] (.agg (eTHex r)) := by
  unfold X.i_hexOf at H
  refine fn_in (fn := Tryz.f85) (ir := i_hexOf_ir) (s1 := lit [(4, .c (.pk 4 0))] [(4, .var (eTHex r) false)]) Tryz.func85 (by kernel_rfl) (by kernel_rfl) (by kernel_rfl) (by kernel_rfl) (by kernel_rfl) ?_
  refine seq_ops [] [] [(1, cI p1), (2, .c (.pk 2 0)), (4, .c (.pk 4 0))] [(2, .var (eTMap p0) false), (4, .var [.int .i64 0, .int .i64 0] false)] (fun t => t) (by kernel_rfl) ?_
  obtain ⟨g1, H⟩ := ofIf H
  obtain ⟨g2, H⟩ := ofIf H
  refine seq_draw [] [] [(4, .c (.pk 4 0))] [(4, .var [.int .i64 (Int.tmod p1 p0.Width), .int .i64 (W (Int.tdiv p1 p0.Width))] false)] (fun t => aI g1 (aI g2 (t))) (by kernel_rfl) ?_
  refine ends_ret ?_
  obtain rfl := Option.some.inj H
  exact And.intro (.inl rfl) rfl

def i_indexOf_ir : S :=
 (.seq (.ops [⟨some 2, .box 5 (.t 0), none⟩, ⟨some 3, .box 2 (.t 1), none⟩, ⟨some 4, .mv (.v (.int .i64 0)), none⟩])
 (.seq (.seq (.ops [⟨some 5, .fad 0 (.t 3), none⟩, ⟨some 6, .load 1 false (.t 5), none⟩, ⟨some 7, .fad 0 (.t 2), none⟩, ⟨some 8, .load 1 false (.t 7), none⟩, ⟨some 9, .call 90 [.t 6, .t 8], none⟩, ⟨some 10, .not (.t 9), none⟩, ⟨some 11, .mv (.t 10), none⟩, ⟨some 12, .fad 1 (.t 3), some (11, false)⟩, ⟨some 13, .load 1 false (.t 12), some (11, false)⟩, ⟨some 14, .fad 1 (.t 2), some (11, false)⟩, ⟨some 15, .load 1 false (.t 14), some (11, false)⟩, ⟨some 16, .call 90 [.t 13, .t 15], some (11, false)⟩, ⟨some 17, .not (.t 16), some (11, false)⟩, ⟨some 18, .pick (.t 11) (.v (.bool true)) (.t 17), none⟩])
 (.ite (.t 18) (.seq (.ops [⟨some 4, .mv (.v (.int .i64 (-1))), none⟩])
  .ret)
 .skip))
 (.seq (.ops [⟨some 19, .fad 1 (.t 3), none⟩, ⟨some 20, .load 1 false (.t 19), none⟩, ⟨some 21, .fad 0 (.t 2), none⟩, ⟨some 22, .load 1 false (.t 21), none⟩, ⟨some 23, .bin .mul (.t 20) (.t 22), none⟩, ⟨some 24, .fad 0 (.t 3), none⟩, ⟨some 25, .load 1 false (.t 24), none⟩, ⟨some 26, .bin .add (.t 23) (.t 25), none⟩, ⟨some 4, .mv (.t 26), none⟩])
 .ret)))
noncomputable def X.i_indexOf (p0 : TMap) (p1 : THex) : Option Int :=
  ((X.i_isIndex p1.Q p0.Width).bind fun v7 => (bif (!v7) then some (-1) else ((X.i_isIndex p1.R p0.Height).bind fun v10 => (bif (!v10) then some (-1) else some (W ((W (p1.R * p0.Width)) + p1.Q))))))
theorem i_indexOf_ok (p0 : TMap) (p1 : THex) (r : Int) (H : X.i_indexOf p0 p1 = some r) : FnOk Tryz.prog gl 213 [.agg (eTMap p0), .agg (eTHex p1)] (cI r) := by
  unfold X.i_indexOf at H
  refine fn_in (fn := Tryz.f213) (ir := i_indexOf_ir) (s1 := lit [(4, cI r)] []) Tryz.func213 (by kernel_rfl) (by kernel_rfl) (by kernel_rfl) (by kernel_rfl) (by kernel_rfl) ?_
  refine seq_ops [] [] [(2, .c (.pk 2 0)), (3, .c (.pk 3 0))] [(2, .var (eTMap p0) false), (3, .var (eTHex p1) false)] (fun t => t) (by kernel_rfl) ?_
  refine seq_in ?_
  obtain ⟨v7, h8, H⟩ := ofBind H
  rcases ofCond H with ⟨c9, H⟩ | ⟨c9, H⟩
  · refine seq_ops [.res (cB v7), .g true, .g true, .g true, .g true, .g true, .g true, .g true] [] [(2, .c (.pk 2 0)), (3, .c (.pk 3 0)), (18, cB true)] [(2, .var (eTMap p0) false), (3, .var (eTHex p1) false)] (fun t => aI (i_isIndex_ok p1.Q p0.Width v7 h8) (aI c9 (aI c9 (aI c9 (aI c9 (aI c9 (aI c9 (aI c9 (t))))))))) (by kernel_rfl) ?_
    refine ite_t (rfl : (true : Bool) = true) (by kernel_rfl) ?_
    refine seq_ops [] [] [(4, cI (-1))] [] (fun t => t) (by kernel_rfl) ?_
    refine ends_ret ?_
    obtain rfl := Option.some.inj H
    exact And.intro (.inl rfl) rfl
  · obtain ⟨v10, h11, H⟩ := ofBind H
    refine seq_ops [.res (cB v7), .g false, .g false, .g false, .g false, .g false, .res (cB v10), .g false, .g false] [] [(2, .c (.pk 2 0)), (3, .c (.pk 3 0)), (18, cB (!v10))] [(2, .var (eTMap p0) false), (3, .var (eTHex p1) false)] (fun t => aI (i_isIndex_ok p1.Q p0.Width v7 h8) (aI c9 (aI c9 (aI c9 (aI c9 (aI c9 (aI (i_isIndex_ok p1.R p0.Height v10 h11) (aI c9 (aI c9 (t)))))))))) (by kernel_rfl) ?_
    rcases ofCond H with ⟨c12, H⟩ | ⟨c12, H⟩
    · refine ite_t c12 (by kernel_rfl) ?_
      refine seq_ops [] [] [(4, cI (-1))] [] (fun t => t) (by kernel_rfl) ?_
      refine ends_ret ?_
      obtain rfl := Option.some.inj H
      exact And.intro (.inl rfl) rfl
    · refine ite_f c12 (by kernel_rfl) ?_
      refine ends_skip ?_
      change EndsI _ _ _ _ _ _
      refine seq_ops [] [] [(4, cI (W ((W (p1.R * p0.Width)) + p1.Q)))] [] (fun t => t) (by kernel_rfl) ?_
      refine ends_ret ?_
      obtain rfl := Option.some.inj H
      exact And.intro (.inl rfl) rfl

def i_stepBy_ir : S :=
 (.seq (.ops [⟨some 3, .box 2 (.t 0), none⟩, ⟨some 6, .alloc [.int .i64 0, .int .i64 0], none⟩])
 (.seq (.draw 19 [⟨some 7, .fad 0 (.t 3), none⟩, ⟨some 8, .load 1 false (.t 7), none⟩, ⟨some 9, .mv (.t 2), none⟩, ⟨some 10, .mv (.t 1), none⟩, ⟨some 11, .iar 6 2 (.g 0) (.t 10), none⟩, ⟨some 12, .fad 0 (.t 11), none⟩, ⟨some 13, .load 1 false (.t 12), none⟩, ⟨some 14, .bin .mul (.t 9) (.t 13), none⟩, ⟨some 15, .bin .add (.t 8) (.t 14), none⟩, ⟨some 16, .fad 1 (.t 3), none⟩, ⟨some 17, .load 1 false (.t 16), none⟩, ⟨some 18, .mv (.t 2), none⟩, ⟨some 19, .mv (.t 1), none⟩, ⟨some 20, .iar 6 2 (.g 0) (.t 19), none⟩, ⟨some 21, .fad 1 (.t 20), none⟩, ⟨some 22, .load 1 false (.t 21), none⟩, ⟨some 23, .bin .mul (.t 18) (.t 22), none⟩, ⟨some 24, .bin .add (.t 17) (.t 23), none⟩, ⟨some 25, .build [.int .i64 0, .int .i64 0] [(0, 1, .t 15), (1, 1, .t 24)], none⟩, ⟨none, .store 2 (.t 6) (.t 25), none⟩])
 .ret))
noncomputable def X.i_stepBy (p0 : THex) (p1 : Int) (p2 : Int) : Option THex :=
  ((at' zTHex dirs p1).bind fun v1 => some (THex.mk (W (p0.Q + (W (p2 * v1.Q)))) (W (p0.R + (W (p2 * v1.R))))))
theorem i_stepBy_ok (p0 : THex) (p1 : Int) (p2 : Int) (r : THex) (H : X.i_stepBy p0 p1 p2 = some r) : FnOk Tryz.prog gl 214 [.agg (eTHex p0), cI p1, cI p2] (.agg (eTHex r)) := by
  unfold X.i_stepBy at H
  refine fn_in (fn := Tryz.f214) (ir := i_stepBy_ir) (s1 := lit [(6, .c (.pk 6 0))] [(6, .var (eTHex r) false)]) Tryz.func214 (by kernel_rfl) (by kernel_rfl) (by kernel_rfl) (by kernel_rfl) (by kernel_rfl) ?_
  refine seq_ops [] [] [(1, cI p1), (2, cI p2), (3, .c (.pk 3 0)), (6, .c (.pk 6 0))] [(3, .var (eTHex p0) false), (6, .var [.int .i64 0, .int .i64 0] false)] (fun t => t) (by kernel_rfl) ?_
  obtain ⟨v1, h2, H⟩ := ofBind H
  refine seq_draw [.cs (eTHex v1), .cs (eTHex v1)] [] [(6, .c (.pk 6 0))] [(6, .var [.int .i64 (W (p0.Q + (W (p2 * v1.Q)))), .int .i64 (W (p0.R + (W (p2 * v1.R))))] false)] (fun t => aI (at_lt h2) (aI (dirs_at h2) (aI (rfl : ([] : List Nat) = []) (aI (at_lt h2) (aI (dirs_at h2) (aI (rfl : ([] : List Nat) = []) (t))))))) (by kernel_rfl) ?_
  refine ends_ret ?_
  obtain rfl := Option.some.inj H
  exact And.intro (.inl rfl) rfl

def i_nextTo_ir : S :=
 (.seq (.ops [⟨some 3, .box 5 (.t 0), none⟩, ⟨some 6, .mv (.v (.int .i64 0)), none⟩])
 (.seq (.draw 8 [⟨some 7, .load 5 true (.t 3), none⟩, ⟨some 8, .load 5 true (.t 3), none⟩, ⟨some 9, .mv (.t 1), none⟩, ⟨some 10, .call 85 [.t 8, .t 9], none⟩, ⟨some 11, .mv (.t 2), none⟩, ⟨some 12, .call 214 [.t 10, .t 11, .v (.int .i64 1)], none⟩, ⟨some 13, .call 213 [.t 7, .t 12], none⟩, ⟨some 6, .mv (.t 13), none⟩])
 .ret))
noncomputable def X.i_nextTo (p0 : TMap) (p1 : Int) (p2 : Int) : Option Int :=
  ((X.i_hexOf p0 p1).bind fun v1 => ((X.i_stepBy v1 p2 1).bind fun v3 => ((X.i_indexOf p0 v3).bind fun v5 => some v5)))
theorem i_nextTo_ok (p0 : TMap) (p1 : Int) (p2 : Int) (r : Int) (H : X.i_nextTo p0 p1 p2 = some r) : FnOk Tryz.prog gl 158 [.agg (eTMap p0), cI p1, cI p2] (cI r) := by
  unfold X.i_nextTo at H
  refine fn_in (fn := Tryz.f158) (ir := i_nextTo_ir) (s1 := lit [(6, cI r)] []) Tryz.func158 (by kernel_rfl) (by kernel_rfl) (by kernel_rfl) (by kernel_rfl) (by kernel_rfl) ?_
  refine seq_ops [] [] [(1, cI p1), (2, cI p2), (3, .c (.pk 3 0))] [(3, .var (eTMap p0) false)] (fun t => t) (by kernel_rfl) ?_
  obtain ⟨v1, h2, H⟩ := ofBind H
  obtain ⟨v3, h4, H⟩ := ofBind H
  obtain ⟨v5, h6, H⟩ := ofBind H
  refine seq_draw [.res (.agg (eTHex v1)), .res (.agg (eTHex v3)), .res (cI v5)] [] [(6, cI v5)] [] (fun t => aI (i_hexOf_ok p0 p1 v1 h2) (aI trivial (aI (rfl : ([] : List Nat) = []) (aI (i_stepBy_ok v1 p2 1 v3 h4) (aI trivial (aI (rfl : ([] : List Nat) = []) (aI (i_indexOf_ok p0 v3 v5 h6) (aI trivial (aI (rfl : ([] : List Nat) = []) (t)))))))))) (by kernel_rfl) ?_
  refine ends_ret ?_
  obtain rfl := Option.some.inj H
  exact And.intro (.inl rfl) rfl

def i_isEdge_ir : S :=
 (.seq (.ops [⟨some 2, .box 5 (.t 0), none⟩, ⟨some 4, .mv (.v (.bool false)), none⟩])
 (.seq (.ops [⟨some 5, .mv (.t 1), none⟩, ⟨some 6, .fad 0 (.t 2), none⟩, ⟨some 7, .load 1 false (.t 6), none⟩, ⟨some 8, .bin .mul (.v (.int .i64 3)) (.t 7), none⟩, ⟨some 9, .fad 1 (.t 2), none⟩, ⟨some 10, .load 1 false (.t 9), none⟩, ⟨some 11, .bin .mul (.t 8) (.t 10), none⟩, ⟨some 12, .bin .sub (.t 11) (.v (.int .i64 1)), none⟩, ⟨some 13, .call 71 [.t 5, .v (.int .i64 0), .t 12], none⟩, ⟨some 14, .mv (.t 13), none⟩, ⟨some 15, .load 5 true (.t 2), some (14, true)⟩, ⟨some 16, .mv (.t 1), some (14, true)⟩, ⟨some 17, .bin .quo (.t 16) (.v (.int .i64 3)), some (14, true)⟩, ⟨some 18, .mv (.t 1), some (14, true)⟩, ⟨some 19, .bin .rem (.t 18) (.v (.int .i64 3)), some (14, true)⟩, ⟨some 20, .call 158 [.t 15, .t 17, .t 19], some (14, true)⟩, ⟨some 21, .bin .geq (.t 20) (.v (.int .i64 0)), some (14, true)⟩, ⟨some 22, .pick (.t 14) (.t 21) (.v (.bool false)), none⟩, ⟨some 4, .mv (.t 22), none⟩])
 .ret))
noncomputable def X.i_isEdge (p0 : TMap) (p1 : Int) : Option Bool :=
  ((X.i_inRange p1 0 (W ((W ((W (3 * p0.Width)) * p0.Height)) - 1))).bind fun v1 => (bif v1 then ((X.i_nextTo p0 (W (Int.tdiv p1 3)) (Int.tmod p1 3)).bind fun v4 => some (decide (v4 ≥ 0))) else some false))
theorem i_isEdge_ok (p0 : TMap) (p1 : Int) (r : Bool) (H : X.i_isEdge p0 p1 = some r) : FnOk Tryz.prog gl 231 [.agg (eTMap p0), cI p1] (cB r) := by
  unfold X.i_isEdge at H
  refine fn_in (fn := Tryz.f231) (ir := i_isEdge_ir) (s1 := lit [(4, cB r)] []) Tryz.func231 (by kernel_rfl) (by kernel_rfl) (by kernel_rfl) (by kernel_rfl) (by kernel_rfl) ?_
  refine seq_ops [] [] [(1, cI p1), (2, .c (.pk 2 0))] [(2, .var (eTMap p0) false)] (fun t => t) (by kernel_rfl) ?_
  obtain ⟨v1, h2, H⟩ := ofBind H
  rcases ofCond H with ⟨c3, H⟩ | ⟨c3, H⟩
  · obtain ⟨v4, h5, H⟩ := ofBind H
    refine seq_ops [.res (cB v1), .g true, .g true, .g true, .g true, .g true, .g true, .res (cI v4), .g true, .g true] [] [(4, cB (decide (v4 ≥ 0)))] [] (fun t => aI (i_inRange_ok p1 0 (W ((W ((W (3 * p0.Width)) * p0.Height)) - 1)) v1 h2) (aI c3 (aI c3 (aI c3 (aI (by decide : (3 : Int) ≠ 0) (aI c3 (aI c3 (aI (by decide : (3 : Int) ≠ 0) (aI c3 (aI (i_nextTo_ok p0 (W (Int.tdiv p1 3)) (Int.tmod p1 3) v4 h5) (aI c3 (aI c3 (t))))))))))))) (by kernel_rfl) ?_
    refine ends_ret ?_
    obtain rfl := Option.some.inj H
    exact And.intro (.inl rfl) rfl
  · refine seq_ops [.res (cB v1), .g false, .g false, .g false, .g false, .g false, .g false, .g false, .g false] [] [(4, cB false)] [] (fun t => aI (i_inRange_ok p1 0 (W ((W ((W (3 * p0.Width)) * p0.Height)) - 1)) v1 h2) (aI c3 (aI c3 (aI c3 (aI c3 (aI c3 (aI c3 (aI c3 (aI c3 (t)))))))))) (by kernel_rfl) ?_
    refine ends_ret ?_
    obtain rfl := Option.some.inj H
    exact And.intro (.inl rfl) rfl

end Go.Proofs.YtihggbgmdlhlcaaGreatDoor.X0
