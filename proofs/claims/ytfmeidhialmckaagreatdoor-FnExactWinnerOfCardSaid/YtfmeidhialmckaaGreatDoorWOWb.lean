/- What each Go function that FnExactWinnerOf reaches computes, and that it returns so; no condition. -/
import Derived.Test.YtfmeidhialmckaaGreatDoorWOWa
set_option linter.unusedVariables false
set_option linter.unusedSimpArgs false
set_option maxRecDepth 100000
namespace Go.Proofs.YtfmeidhialmckaaGreatDoor.X0
open Go Go.RowKit Go.Proofs.YtfmeidhialmckaaGreatDoor.Ab Go.Proofs

def s_sUnit_ir : S :=
 (.seq (.ops [⟨some 2, .box 12 (.t 0), none⟩, ⟨some 3, .box 4 (.t 1), none⟩, ⟨some 4, .mv (.v (.bool false)), none⟩])
 (.seq (.seq (.draw 29 [⟨some 5, .fad 0 (.t 3), none⟩, ⟨some 6, .load 1 false (.t 5), none⟩, ⟨some 7, .call 63 [.t 6, .v (.int .i64 0), .v (.int .i64 1)], none⟩, ⟨some 8, .not (.t 7), none⟩, ⟨some 9, .mv (.t 8), none⟩, ⟨some 10, .fad 1 (.t 3), some (9, false)⟩, ⟨some 11, .load 1 false (.t 10), some (9, false)⟩, ⟨some 12, .fad 0 (.t 2), some (9, false)⟩, ⟨some 13, .fad 1 (.t 12), some (9, false)⟩, ⟨some 14, .load 1 false (.t 13), some (9, false)⟩, ⟨some 15, .len (.t 14), some (9, false)⟩, ⟨some 16, .bin .sub (.t 15) (.v (.int .i64 1)), some (9, false)⟩, ⟨some 17, .call 63 [.t 11, .v (.int .i64 0), .t 16], some (9, false)⟩, ⟨some 18, .not (.t 17), some (9, false)⟩, ⟨some 19, .pick (.t 9) (.v (.bool true)) (.t 18), none⟩, ⟨some 20, .mv (.t 19), none⟩, ⟨some 21, .fad 3 (.t 3), some (20, false)⟩, ⟨some 22, .load 1 false (.t 21), some (20, false)⟩, ⟨some 23, .fad 0 (.t 2), some (20, false)⟩, ⟨some 24, .fad 1 (.t 23), some (20, false)⟩, ⟨some 25, .load 1 false (.t 24), some (20, false)⟩, ⟨some 26, .fad 1 (.t 3), some (20, false)⟩, ⟨some 27, .load 1 false (.t 26), some (20, false)⟩, ⟨some 28, .iad 6 (.t 25) (.t 27), some (20, false)⟩, ⟨some 29, .fad 3 (.t 28), some (20, false)⟩, ⟨some 30, .load 1 false (.t 29), some (20, false)⟩, ⟨some 31, .call 63 [.t 22, .v (.int .i64 0), .t 30], some (20, false)⟩, ⟨some 32, .not (.t 31), some (20, false)⟩, ⟨some 33, .pick (.t 20) (.v (.bool true)) (.t 32), none⟩])
 (.ite (.t 33) (.seq (.ops [⟨some 4, .mv (.v (.bool false)), none⟩])
  .ret)
 .skip))
 (.seq (.draw 27 [⟨some 34, .fad 2 (.t 3), none⟩, ⟨some 35, .load 1 false (.t 34), none⟩, ⟨some 36, .bin .eql (.t 35) (.v (.int .i64 (-1))), none⟩, ⟨some 37, .mv (.t 36), none⟩, ⟨some 38, .fad 3 (.t 3), some (37, false)⟩, ⟨some 39, .load 1 false (.t 38), some (37, false)⟩, ⟨some 40, .bin .gtr (.t 39) (.v (.int .i64 0)), some (37, false)⟩, ⟨some 41, .mv (.t 40), some (37, false)⟩, ⟨some 42, .fad 2 (.t 3), some (41, true)⟩, ⟨some 43, .load 1 false (.t 42), some (41, true)⟩, ⟨some 44, .fad 7 (.t 2), some (41, true)⟩, ⟨some 45, .load 5 true (.t 44), some (41, true)⟩, ⟨some 46, .call 124 [.t 45], some (41, true)⟩, ⟨some 47, .bin .sub (.t 46) (.v (.int .i64 1)), some (41, true)⟩, ⟨some 48, .call 63 [.t 43, .v (.int .i64 0), .t 47], some (41, true)⟩, ⟨some 49, .pick (.t 41) (.t 48) (.v (.bool false)), some (37, false)⟩, ⟨some 50, .mv (.t 49), some (37, false)⟩, ⟨some 51, .load 12 true (.t 2), some (50, true)⟩, ⟨some 52, .fad 1 (.t 3), some (50, true)⟩, ⟨some 53, .load 1 false (.t 52), some (50, true)⟩, ⟨some 54, .fad 2 (.t 3), some (50, true)⟩, ⟨some 55, .load 1 false (.t 54), some (50, true)⟩, ⟨some 56, .call 182 [.t 51, .t 53, .t 55], some (50, true)⟩, ⟨some 57, .bin .gtr (.t 56) (.v (.int .i64 0)), some (50, true)⟩, ⟨some 58, .pick (.t 50) (.t 57) (.v (.bool false)), some (37, false)⟩, ⟨some 59, .pick (.t 37) (.v (.bool true)) (.t 58), none⟩, ⟨some 4, .mv (.t 59), none⟩])
 .ret)))
noncomputable def X.s_sUnit (p0 : TBoard) (p1 : TUnit) : Option Bool :=
  ((X.s_l1In p1.Side 0 1).bind fun v12 => (bif (!v12) then some false else ((X.s_l1In p1.Kind 0 (W ((p0.Rules.Kinds.length : Int) - 1))).bind fun v15 => (bif (!v15) then some false else ((at' zTKind p0.Rules.Kinds p1.Kind).bind fun v18 => ((X.s_l1In p1.Steps 0 v18.Steps).bind fun v20 => (bif (!v20) then some false else (bif (p1.At == (-1)) then some true else (bif (decide (p1.Steps > 0)) then ((X.s_mSize p0.Map).bind fun v25 => ((X.s_l1In p1.At 0 (W (v25 - 1))).bind fun v27 => (bif v27 then ((X.s_bCost p0 p1.Kind p1.At).bind fun v30 => some (decide (v30 > 0))) else some false))) else some false)))))))))
theorem s_sUnit_ok (p0 : TBoard) (p1 : TUnit) (r : Bool) (H : X.s_sUnit p0 p1 = some r) : FnOk Tryz.prog gl 164 [.agg (eTBoard p0), .agg (eTUnit p1)] (cB r) := by
  unfold X.s_sUnit at H
  refine fn_in (fn := Tryz.f164) (ir := s_sUnit_ir) (s1 := lit [(4, cB r)] []) Tryz.func164 (by kernel_rfl) (by kernel_rfl) (by kernel_rfl) (by kernel_rfl) (by kernel_rfl) ?_
  refine seq_ops [] [] [(2, .c (.pk 2 0)), (3, .c (.pk 3 0))] [(2, .var (eTBoard p0) false), (3, .var (eTUnit p1) false)] (fun t => t) (by kernel_rfl) ?_
  refine seq_in ?_
  obtain ⟨v12, h13, H⟩ := ofBind H
  rcases ofCond H with ⟨c14, H⟩ | ⟨c14, H⟩
  · refine seq_draw [.res (cB v12), .g true, .g true, .g true, .g true, .g true, .g true, .g true, .g true, .g true, .g true, .g true, .g true, .g true, .g true, .g true, .g true, .g true, .g true, .g true, .g true, .g true, .g true, .g true] [] [(2, .c (.pk 2 0)), (3, .c (.pk 3 0)), (33, cB true)] [(2, .var (eTBoard p0) false), (3, .var (eTUnit p1) false)] (fun t => aI (s_l1In_ok p1.Side 0 1 v12 h13) (aI trivial (aI (rfl : ([] : List Nat) = []) (aI c14 (aI c14 (aI c14 (aI c14 (aI c14 (aI c14 (aI c14 (aI c14 (aI c14 (aI c14 (aI (rfl : (true : Bool) = true) (aI (rfl : (true : Bool) = true) (aI (rfl : (true : Bool) = true) (aI (rfl : (true : Bool) = true) (aI (rfl : (true : Bool) = true) (aI (rfl : (true : Bool) = true) (aI (rfl : (true : Bool) = true) (aI (rfl : (true : Bool) = true) (aI (rfl : (true : Bool) = true) (aI (rfl : (true : Bool) = true) (aI (rfl : (true : Bool) = true) (aI (rfl : (true : Bool) = true) (aI (rfl : (true : Bool) = true) (t))))))))))))))))))))))))))) (by kernel_rfl) ?_
    refine ite_t (rfl : (true : Bool) = true) (by kernel_rfl) ?_
    refine seq_ops [] [] [(4, cB false)] [] (fun t => t) (by kernel_rfl) ?_
    refine ends_ret ?_
    obtain rfl := Option.some.inj H
    exact And.intro (.inl rfl) rfl
  · obtain ⟨v15, h16, H⟩ := ofBind H
    rcases ofCond H with ⟨c17, H⟩ | ⟨c17, H⟩
    · refine seq_draw [.res (cB v12), .g false, .g false, .g false, .g false, .g false, .g false, .g false, .g false, .res (cB v15), .g false, .g false, .g true, .g true, .g true, .g true, .g true, .g true, .g true, .g true, .g true, .g true, .g true, .g true, .g true] [] [(2, .c (.pk 2 0)), (3, .c (.pk 3 0)), (33, cB true)] [(2, .var (eTBoard p0) false), (3, .var (eTUnit p1) false)] (fun t => aI (s_l1In_ok p1.Side 0 1 v12 h13) (aI trivial (aI (rfl : ([] : List Nat) = []) (aI c14 (aI c14 (aI c14 (aI c14 (aI c14 (aI c14 (aI c14 (aI c14 (aI (s_l1In_ok p1.Kind 0 (W ((p0.Rules.Kinds.length : Int) - 1)) v15 h16) (aI trivial (aI (rfl : ([] : List Nat) = []) (aI c14 (aI c14 (aI c17 (aI c17 (aI c17 (aI c17 (aI c17 (aI c17 (aI c17 (aI c17 (aI c17 (aI c17 (aI c17 (aI c17 (aI c17 (t)))))))))))))))))))))))))))))) (by kernel_rfl) ?_
      refine ite_t (rfl : (true : Bool) = true) (by kernel_rfl) ?_
      refine seq_ops [] [] [(4, cB false)] [] (fun t => t) (by kernel_rfl) ?_
      refine ends_ret ?_
      obtain rfl := Option.some.inj H
      exact And.intro (.inl rfl) rfl
    · obtain ⟨v18, h19, H⟩ := ofBind H
      obtain ⟨v20, h21, H⟩ := ofBind H
      refine seq_draw [.res (cB v12), .g false, .g false, .g false, .g false, .g false, .g false, .g false, .g false, .res (cB v15), .g false, .g false, .g false, .g false, .g false, .g false, .g false, .g false, .g false, .g false, .cs (eTKind v18), .g false, .g false, .g false, .res (cB v20), .g false, .g false] [] [(2, .c (.pk 2 0)), (3, .c (.pk 3 0)), (33, cB (!v20))] [(2, .var (eTBoard p0) false), (3, .var (eTUnit p1) false)] (fun t => aI (s_l1In_ok p1.Side 0 1 v12 h13) (aI trivial (aI (rfl : ([] : List Nat) = []) (aI c14 (aI c14 (aI c14 (aI c14 (aI c14 (aI c14 (aI c14 (aI c14 (aI (s_l1In_ok p1.Kind 0 (W ((p0.Rules.Kinds.length : Int) - 1)) v15 h16) (aI trivial (aI (rfl : ([] : List Nat) = []) (aI c14 (aI c14 (aI c17 (aI c17 (aI c17 (aI c17 (aI c17 (aI c17 (aI c17 (aI c17 (aI (at_lt h19) (aI (at_enc (enc := eTKind) h19) (aI c17 (aI c17 (aI (rfl : ([] : List Nat) = []) (aI c17 (aI (s_l1In_ok p1.Steps 0 v18.Steps v20 h21) (aI trivial (aI (rfl : ([] : List Nat) = []) (aI c17 (aI c17 (t)))))))))))))))))))))))))))))))))))) (by kernel_rfl) ?_
      rcases ofCond H with ⟨c22, H⟩ | ⟨c22, H⟩
      · refine ite_t c22 (by kernel_rfl) ?_
        refine seq_ops [] [] [(4, cB false)] [] (fun t => t) (by kernel_rfl) ?_
        refine ends_ret ?_
        obtain rfl := Option.some.inj H
        exact And.intro (.inl rfl) rfl
      · refine ite_f c22 (by kernel_rfl) ?_
        refine ends_skip ?_
        change EndsI _ _ _ _ _ _
        rcases ofCond H with ⟨c23, H⟩ | ⟨c23, H⟩
        · refine seq_draw [.g true, .g true, .g true, .g true, .g true, .g true, .g true, .g true] [] [(4, cB true)] [] (fun t => aI c23 (aI c23 (aI c23 (aI c23 (aI c23 (aI c23 (aI c23 (aI c23 (t))))))))) (by kernel_rfl) ?_
          refine ends_ret ?_
          obtain rfl := Option.some.inj H
          exact And.intro (.inl rfl) rfl
        · rcases ofCond H with ⟨c24, H⟩ | ⟨c24, H⟩
          · obtain ⟨v25, h26, H⟩ := ofBind H
            obtain ⟨v27, h28, H⟩ := ofBind H
            rcases ofCond H with ⟨c29, H⟩ | ⟨c29, H⟩
            · obtain ⟨v30, h31, H⟩ := ofBind H
              refine seq_draw [.g false, .g false, .g false, .g false, .g true, .g true, .g true, .g true, .g true, .res (cI v25), .g true, .g true, .res (cB v27), .g false, .g true, .g false, .g true, .g true, .g true, .g true, .g true, .g true, .res (cI v30), .g true, .g false, .g true, .g false] [] [(4, cB (decide (v30 > 0)))] [] (fun t => aI c23 (aI c23 (aI c23 (aI c23 (aI c24 (aI c24 (aI c24 (aI c24 (aI c24 (aI (s_mSize_ok p0.Map v25 h26) (aI trivial (aI (rfl : ([] : List Nat) = []) (aI c24 (aI c24 (aI (s_l1In_ok p1.At 0 (W (v25 - 1)) v27 h28) (aI trivial (aI (rfl : ([] : List Nat) = []) (aI c23 (aI c24 (aI c23 (aI c29 (aI c29 (aI c29 (aI c29 (aI c29 (aI c29 (aI (s_bCost_ok p0 p1.Kind p1.At v30 h31) (aI trivial (aI (rfl : ([] : List Nat) = []) (aI c29 (aI c23 (aI c29 (aI c23 (t)))))))))))))))))))))))))))))))))) (by kernel_rfl) ?_
              refine ends_ret ?_
              obtain rfl := Option.some.inj H
              exact And.intro (.inl rfl) rfl
            · refine seq_draw [.g false, .g false, .g false, .g false, .g true, .g true, .g true, .g true, .g true, .res (cI v25), .g true, .g true, .res (cB v27), .g false, .g true, .g false, .g false, .g false, .g false, .g false, .g false, .g false, .g false, .g false, .g false, .g false] [] [(4, cB false)] [] (fun t => aI c23 (aI c23 (aI c23 (aI c23 (aI c24 (aI c24 (aI c24 (aI c24 (aI c24 (aI (s_mSize_ok p0.Map v25 h26) (aI trivial (aI (rfl : ([] : List Nat) = []) (aI c24 (aI c24 (aI (s_l1In_ok p1.At 0 (W (v25 - 1)) v27 h28) (aI trivial (aI (rfl : ([] : List Nat) = []) (aI c23 (aI c24 (aI c23 (aI c29 (aI c29 (aI c29 (aI c29 (aI c29 (aI c29 (aI c29 (aI c23 (aI c29 (aI c23 (t))))))))))))))))))))))))))))))) (by kernel_rfl) ?_
              refine ends_ret ?_
              obtain rfl := Option.some.inj H
              exact And.intro (.inl rfl) rfl
          · refine seq_draw [.g false, .g false, .g false, .g false, .g false, .g false, .g false, .g false, .g false, .g false, .g false, .g false, .g false, .g false, .g false, .g false, .g false, .g false, .g false, .g false, .g false, .g false, .g false, .g false] [] [(4, cB false)] [] (fun t => aI c23 (aI c23 (aI c23 (aI c23 (aI c24 (aI c24 (aI c24 (aI c24 (aI c24 (aI c24 (aI c24 (aI c23 (aI c24 (aI c23 (aI (rfl : (false : Bool) = false) (aI (rfl : (false : Bool) = false) (aI (rfl : (false : Bool) = false) (aI (rfl : (false : Bool) = false) (aI (rfl : (false : Bool) = false) (aI (rfl : (false : Bool) = false) (aI (rfl : (false : Bool) = false) (aI c23 (aI (rfl : (false : Bool) = false) (aI c23 (t))))))))))))))))))))))))) (by kernel_rfl) ?_
            refine ends_ret ?_
            obtain rfl := Option.some.inj H
            exact And.intro (.inl rfl) rfl

def s_sAt_ir : S :=
 (.seq (.ops [⟨some 3, .box 3 (.t 0), none⟩, ⟨some 6, .mv (.v (.nil)), none⟩])
 (.seq (.ops [⟨some 7, .mv (.v (.nil)), none⟩])
 (.seq (.seq (.ops [⟨some 10, .fad 2 (.t 3), none⟩, ⟨some 11, .load 1 false (.t 10), none⟩, ⟨some 12, .len (.t 11), none⟩, ⟨some 13, .mv (.v (.int .i64 0)), none⟩])
 (.blk 0 (.loop (.seq (.ops [⟨some 14, .bin .lss (.t 13) (.t 12), none⟩])
   (.seq (.ite (.t 14) .skip
   (.exit 0))
   (.seq (.blk 1 (.seq (.ops [⟨some 15, .mv (.t 13), none⟩, ⟨some 16, .iad 4 (.t 11) (.t 13), none⟩, ⟨some 17, .load 4 true (.t 16), none⟩, ⟨some 9, .alloc [.int .i64 0, .int .i64 0, .int .i64 0, .int .i64 0], none⟩, ⟨some 8, .mv (.t 15), none⟩, ⟨none, .store 4 (.t 9) (.t 17), none⟩])
    (.seq (.ops [⟨some 18, .fad 2 (.t 9), none⟩, ⟨some 19, .load 1 false (.t 18), none⟩, ⟨some 20, .mv (.t 1), none⟩, ⟨some 21, .bin .eql (.t 19) (.t 20), none⟩, ⟨some 22, .mv (.t 21), none⟩, ⟨some 23, .fad 0 (.t 9), some (22, true)⟩, ⟨some 24, .load 1 false (.t 23), some (22, true)⟩, ⟨some 25, .mv (.t 2), some (22, true)⟩, ⟨some 26, .bin .eql (.t 24) (.t 25), some (22, true)⟩, ⟨some 27, .pick (.t 22) (.t 26) (.v (.bool false)), none⟩])
    (.ite (.t 27) (.ops [⟨some 28, .mv (.t 7), none⟩, ⟨some 29, .mv (.t 8), none⟩, ⟨some 30, .bsl 1 [.t 29], none⟩, ⟨some 31, .app 1 8 (.t 28) (.t 30), none⟩, ⟨some 7, .mv (.t 31), none⟩])
    .skip))))
   (.ops [⟨some 32, .bin .add (.t 13) (.v (.int .i64 1)), none⟩, ⟨some 13, .mv (.t 32), none⟩])))))))
 (.seq (.ops [⟨some 33, .mv (.t 7), none⟩, ⟨some 6, .mv (.t 33), none⟩])
 .ret))))
noncomputable def X.s_sAt (p0 : TState) (p1 : Int) (p2 : Int) : Option (List Int) :=
  ((loop (fun (x16 : (Int × (List Int))) => ((bif (decide (x16.1 < (p0.Units.length : Int))) then ((at' zTUnit p0.Units x16.1).bind fun v19 => (bif (v19.At == p1) then (bif (v19.Side == p2) then (if (x16.2 ++ ([x16.1] : List Int)).length ≤ LIM then some (Sum.inl ((W (x16.1 + 1)), (x16.2 ++ ([x16.1] : List Int)))) else none) else some (Sum.inl ((W (x16.1 + 1)), x16.2))) else some (Sum.inl ((W (x16.1 + 1)), x16.2)))) else some (Sum.inr x16.2)) : Option ((Int × (List Int)) ⊕ (List Int)))) (0, ([] : List Int))).bind fun y24 => some y24)
theorem s_sAt_ok (p0 : TState) (p1 : Int) (p2 : Int) (r : (List Int)) (H : X.s_sAt p0 p1 p2 = some r) : FnOk Tryz.prog gl 165 [.agg (eTState p0), cI p1, cI p2] (.c (dat 1 eI zI r)) := by
  unfold X.s_sAt at H
  refine fn_in (fn := Tryz.f165) (ir := s_sAt_ir) (s1 := lit [(6, .c (dat 1 eI zI r))] []) Tryz.func165 (by kernel_rfl) (by kernel_rfl) (by kernel_rfl) (by kernel_rfl) (by kernel_rfl) ?_
  refine seq_ops [] [] [(1, cI p1), (2, cI p2), (3, .c (.pk 3 0))] [(3, .var (eTState p0) false)] (fun t => t) (by kernel_rfl) ?_
  refine seq_ops [] [] [(1, cI p1), (2, cI p2), (3, .c (.pk 3 0)), (7, .c (.nil))] [(3, .var (eTState p0) false)] (fun t => t) (by kernel_rfl) ?_
  refine seq_in ?_
  refine seq_ops [] [] [(1, cI p1), (2, cI p2), (7, .c (.nil)), (11, .c (dat 4 eTUnit zTUnit p0.Units)), (12, cI (p0.Units.length : Int)), (13, cI 0)] [] (fun t => lI p0.Units (t)) (by kernel_rfl) ?_
  refine ends_blk ?_
  obtain ⟨y24, h25, H⟩ := ofBind H
  refine tell [.nlo 7 1001 1 (fF eI zI ([] : List Int))] [(1, cI p1), (2, cI p2), (7, .c (.own 1001 1 0 (([] : List Int).length))), (11, .c (dat 4 eTUnit zTUnit p0.Units)), (12, cI (p0.Units.length : Int)), (13, cI 0)] [(1001, .arr 1 (([] : List Int).length) (fF eI zI ([] : List Int)) false)] (fun t => aI (by decide : 0 < 1) (t)) (by kernel_rfl) ?_
  refine loop_in (fun (x : (Int × (List Int))) => lit [(1, cI p1), (2, cI p2), (7, .c (.own 1001 1 0 x.2.length)), (11, .c (dat 4 eTUnit zTUnit p0.Units)), (12, cI (p0.Units.length : Int)), (13, cI x.1)] [(1001, .arr 1 x.2.length (fF eI zI x.2) false)]) (fun (z : (List Int)) => At (.exit 0) (lit [(7, .c (.own 1001 1 0 z.length))] [(1001, .arr 1 z.length (fF eI zI z) false)])) h25 ?_ ?_
  · clear H h25
    intro x16 y0 H
    refine seq_ops [] [] [(1, cI p1), (2, cI p2), (7, .c (.own 1001 1 0 x16.2.length)), (11, .c (dat 4 eTUnit zTUnit p0.Units)), (12, cI (p0.Units.length : Int)), (13, cI x16.1), (14, cB (decide (x16.1 < (p0.Units.length : Int))))] [(1001, .arr 1 x16.2.length (fF eI zI x16.2) false)] (fun t => t) (by kernel_rfl) ?_
    refine seq_in ?_
    rcases ofCond H with ⟨c18, H⟩ | ⟨c18, H⟩
    · refine ite_t c18 (by kernel_rfl) ?_
      refine ends_skip ?_
      change EndsI _ _ _ _ _ _
      refine seq_in ?_
      refine ends_blk ?_
      obtain ⟨v19, h20, H⟩ := ofBind H
      refine seq_ops [.cs (eTUnit v19)] [] [(1, cI p1), (2, cI p2), (7, .c (.own 1001 1 0 x16.2.length)), (8, cI x16.1), (9, .c (.pk 9 0)), (11, .c (dat 4 eTUnit zTUnit p0.Units)), (12, cI (p0.Units.length : Int)), (13, cI x16.1)] [(9, .var (eTUnit v19) false), (1001, .arr 1 x16.2.length (fF eI zI x16.2) false)] (fun t => aI (at_lt h20) (aI (at_enc (enc := eTUnit) h20) (t))) (by kernel_rfl) ?_
      rcases ofCond H with ⟨c21, H⟩ | ⟨c21, H⟩
      · refine seq_ops [.g true, .g true, .g true, .g true, .g true] [] [(1, cI p1), (2, cI p2), (7, .c (.own 1001 1 0 x16.2.length)), (8, cI x16.1), (11, .c (dat 4 eTUnit zTUnit p0.Units)), (12, cI (p0.Units.length : Int)), (13, cI x16.1), (27, cB (v19.Side == p2))] [(1001, .arr 1 x16.2.length (fF eI zI x16.2) false)] (fun t => aI c21 (aI c21 (aI c21 (aI c21 (aI c21 (t)))))) (by kernel_rfl) ?_
        rcases ofCond H with ⟨c22, H⟩ | ⟨c22, H⟩
        · refine ite_t c22 (by kernel_rfl) ?_
          obtain ⟨g23, H⟩ := ofIf H
          refine one_ops [.fn ([x16.1] : List Int).length (fF eI zI ([x16.1] : List Int)), .fn (x16.2 ++ ([x16.1] : List Int)).length (fF eI zI (x16.2 ++ ([x16.1] : List Int)))] [] [(1, cI p1), (2, cI p2), (7, .c (.own 31 1 0 ((x16.2 ++ ([x16.1] : List Int)).length))), (11, .c (dat 4 eTUnit zTUnit p0.Units)), (12, cI (p0.Units.length : Int)), (13, cI x16.1)] [(31, .arr 1 ((x16.2 ++ ([x16.1] : List Int)).length) (fF eI zI (x16.2 ++ ([x16.1] : List Int))) false)] (fun t => aI (rfl : ([x16.1] : List Int).length = 1) (aI (fF_lit eI zI ([x16.1] : List Int)) (aI (And.intro (Nat.le_refl x16.2.length) (And.intro (@List.length_append _ x16.2 ([x16.1] : List Int)) g23)) (aI (fF_appL eI zI x16.2 ([x16.1] : List Int)) (aI (fF_appR eI zI x16.2 ([x16.1] : List Int)) (t)))))) (by kernel_rfl) ?_
          change EndsI _ _ _ _ _ _
          refine one_ops [] [.ren 31 1001] [(1, cI p1), (2, cI p2), (7, .c (.own 1001 1 0 ((x16.2 ++ ([x16.1] : List Int)).length))), (11, .c (dat 4 eTUnit zTUnit p0.Units)), (12, cI (p0.Units.length : Int)), (13, cI (W (x16.1 + 1)))] [(1001, .arr 1 ((x16.2 ++ ([x16.1] : List Int)).length) (fF eI zI (x16.2 ++ ([x16.1] : List Int))) false)] (fun t => t) (by kernel_rfl) ?_
          obtain rfl := Option.some.inj H
          exact And.intro rfl rfl
        · refine ite_f c22 (by kernel_rfl) ?_
          refine ends_skip ?_
          change EndsI _ _ _ _ _ _
          refine one_ops [] [] [(1, cI p1), (2, cI p2), (7, .c (.own 1001 1 0 x16.2.length)), (11, .c (dat 4 eTUnit zTUnit p0.Units)), (12, cI (p0.Units.length : Int)), (13, cI (W (x16.1 + 1)))] [(1001, .arr 1 x16.2.length (fF eI zI x16.2) false)] (fun t => t) (by kernel_rfl) ?_
          obtain rfl := Option.some.inj H
          exact And.intro rfl rfl
      · refine seq_ops [.g false, .g false, .g false, .g false, .g false] [] [(1, cI p1), (2, cI p2), (7, .c (.own 1001 1 0 x16.2.length)), (8, cI x16.1), (11, .c (dat 4 eTUnit zTUnit p0.Units)), (12, cI (p0.Units.length : Int)), (13, cI x16.1), (27, cB false)] [(1001, .arr 1 x16.2.length (fF eI zI x16.2) false)] (fun t => aI c21 (aI c21 (aI c21 (aI c21 (aI c21 (t)))))) (by kernel_rfl) ?_
        refine ite_f (rfl : (false : Bool) = false) (by kernel_rfl) ?_
        refine ends_skip ?_
        change EndsI _ _ _ _ _ _
        refine one_ops [] [] [(1, cI p1), (2, cI p2), (7, .c (.own 1001 1 0 x16.2.length)), (11, .c (dat 4 eTUnit zTUnit p0.Units)), (12, cI (p0.Units.length : Int)), (13, cI (W (x16.1 + 1)))] [(1001, .arr 1 x16.2.length (fF eI zI x16.2) false)] (fun t => t) (by kernel_rfl) ?_
        obtain rfl := Option.some.inj H
        exact And.intro rfl rfl
    · refine ite_f c18 (by kernel_rfl) ?_
      refine tell [] [(7, .c (.own 1001 1 0 x16.2.length))] [(1001, .arr 1 x16.2.length (fF eI zI x16.2) false)] (fun t => t) (by kernel_rfl) ?_
      refine ends_exit ?_
      obtain rfl := Option.some.inj H
      exact And.intro (by simp) (And.intro rfl rfl)
  · clear h25
    intro e s q
    obtain ⟨rfl, rfl⟩ := q
    change EndsI _ _ _ _ _ _
    refine seq_ops [] [] [(6, .c (.own 1001 1 0 y24.length))] [(1001, .arr 1 y24.length (fF eI zI y24) false)] (fun t => t) (by kernel_rfl) ?_
    refine tell [.frz 6] [(6, .c (dat 1 eI zI y24))] [] (fun t => aI (Nat.le_refl y24.length) (t)) (by kernel_rfl) ?_
    refine ends_ret ?_
    obtain rfl := Option.some.inj H
    exact And.intro (.inl rfl) rfl

def s_sGood_ir : S :=
 (.seq (.ops [⟨some 2, .box 12 (.t 0), none⟩, ⟨some 3, .box 3 (.t 1), none⟩, ⟨some 4, .mv (.v (.bool false)), none⟩])
 (.seq (.seq (.ops [⟨some 9, .load 12 true (.t 2), none⟩, ⟨some 10, .call 158 [.t 9], none⟩, ⟨some 11, .not (.t 10), none⟩, ⟨some 12, .mv (.t 11), none⟩, ⟨some 13, .fad 0 (.t 3), some (12, false)⟩, ⟨some 14, .load 1 false (.t 13), some (12, false)⟩, ⟨some 15, .fad 0 (.t 2), some (12, false)⟩, ⟨some 16, .fad 6 (.t 15), some (12, false)⟩, ⟨some 17, .load 1 false (.t 16), some (12, false)⟩, ⟨some 18, .call 63 [.t 14, .v (.int .i64 0), .t 17], some (12, false)⟩, ⟨some 19, .not (.t 18), some (12, false)⟩, ⟨some 20, .pick (.t 12) (.v (.bool true)) (.t 19), none⟩, ⟨some 21, .mv (.t 20), none⟩, ⟨some 22, .fad 1 (.t 3), some (21, false)⟩, ⟨some 23, .load 1 false (.t 22), some (21, false)⟩, ⟨some 24, .call 63 [.t 23, .v (.int .i64 0), .v (.int .i64 2)], some (21, false)⟩, ⟨some 25, .not (.t 24), some (21, false)⟩, ⟨some 26, .pick (.t 21) (.v (.bool true)) (.t 25), none⟩, ⟨some 27, .mv (.t 26), none⟩, ⟨some 28, .fad 2 (.t 3), some (27, false)⟩, ⟨some 29, .load 1 false (.t 28), some (27, false)⟩, ⟨some 30, .len (.t 29), some (27, false)⟩, ⟨some 31, .bin .gtr (.t 30) (.v (.int .i64 12)), some (27, false)⟩, ⟨some 32, .pick (.t 27) (.v (.bool true)) (.t 31), none⟩])
 (.ite (.t 32) (.seq (.ops [⟨some 4, .mv (.v (.bool false)), none⟩])
  .ret)
 .skip))
 (.seq (.seq (.ops [⟨some 33, .fad 2 (.t 3), none⟩, ⟨some 34, .load 1 false (.t 33), none⟩, ⟨some 35, .len (.t 34), none⟩, ⟨some 36, .mv (.v (.int .i64 0)), none⟩])
 (.blk 0 (.loop (.seq (.ops [⟨some 37, .bin .lss (.t 36) (.t 35), none⟩])
   (.seq (.ite (.t 37) .skip
   (.exit 0))
   (.seq (.blk 1 (.seq (.ops [⟨some 38, .iad 4 (.t 34) (.t 36), none⟩, ⟨some 39, .load 4 true (.t 38), none⟩, ⟨some 6, .alloc [.int .i64 0, .int .i64 0, .int .i64 0, .int .i64 0], none⟩, ⟨none, .store 4 (.t 6) (.t 39), none⟩])
    (.seq (.ops [⟨some 40, .load 12 true (.t 2), none⟩, ⟨some 41, .load 4 true (.t 6), none⟩, ⟨some 42, .call 164 [.t 40, .t 41], none⟩, ⟨some 43, .not (.t 42), none⟩])
    (.ite (.t 43) (.seq (.ops [⟨some 4, .mv (.v (.bool false)), none⟩])
     .ret)
    .skip))))
   (.ops [⟨some 44, .bin .add (.t 36) (.v (.int .i64 1)), none⟩, ⟨some 36, .mv (.t 44), none⟩])))))))
 (.seq (.seq (.ops [⟨some 45, .fad 2 (.t 3), none⟩, ⟨some 46, .load 1 false (.t 45), none⟩, ⟨some 47, .len (.t 46), none⟩, ⟨some 48, .mv (.v (.int .i64 0)), none⟩])
 (.blk 2 (.loop (.seq (.ops [⟨some 49, .bin .lss (.t 48) (.t 47), none⟩])
   (.seq (.ite (.t 49) .skip
   (.exit 2))
   (.seq (.blk 3 (.seq (.ops [⟨some 50, .iad 4 (.t 46) (.t 48), none⟩, ⟨some 51, .load 4 true (.t 50), none⟩, ⟨some 8, .alloc [.int .i64 0, .int .i64 0, .int .i64 0, .int .i64 0], none⟩, ⟨none, .store 4 (.t 8) (.t 51), none⟩])
    (.seq (.draw 27 [⟨some 52, .fad 2 (.t 8), none⟩, ⟨some 53, .load 1 false (.t 52), none⟩, ⟨some 54, .bin .geq (.t 53) (.v (.int .i64 0)), none⟩, ⟨some 55, .mv (.t 54), none⟩, ⟨some 56, .load 3 true (.t 3), some (55, true)⟩, ⟨some 57, .fad 2 (.t 8), some (55, true)⟩, ⟨some 58, .load 1 false (.t 57), some (55, true)⟩, ⟨some 59, .fad 0 (.t 8), some (55, true)⟩, ⟨some 60, .load 1 false (.t 59), some (55, true)⟩, ⟨some 61, .bin .sub (.v (.int .i64 1)) (.t 60), some (55, true)⟩, ⟨some 62, .call 165 [.t 56, .t 58, .t 61], some (55, true)⟩, ⟨some 63, .len (.t 62), some (55, true)⟩, ⟨some 64, .bin .gtr (.t 63) (.v (.int .i64 0)), some (55, true)⟩, ⟨some 65, .mv (.t 64), some (55, true)⟩, ⟨some 66, .load 3 true (.t 3), some (65, false)⟩, ⟨some 67, .fad 2 (.t 8), some (65, false)⟩, ⟨some 68, .load 1 false (.t 67), some (65, false)⟩, ⟨some 69, .fad 0 (.t 8), some (65, false)⟩, ⟨some 70, .load 1 false (.t 69), some (65, false)⟩, ⟨some 71, .call 165 [.t 66, .t 68, .t 70], some (65, false)⟩, ⟨some 72, .len (.t 71), some (65, false)⟩, ⟨some 73, .fad 0 (.t 2), some (65, false)⟩, ⟨some 74, .fad 2 (.t 73), some (65, false)⟩, ⟨some 75, .load 1 false (.t 74), some (65, false)⟩, ⟨some 76, .bin .gtr (.t 72) (.t 75), some (65, false)⟩, ⟨some 77, .pick (.t 65) (.v (.bool true)) (.t 76), some (55, true)⟩, ⟨some 78, .pick (.t 55) (.t 77) (.v (.bool false)), none⟩])
    (.ite (.t 78) (.seq (.ops [⟨some 4, .mv (.v (.bool false)), none⟩])
     .ret)
    .skip))))
   (.ops [⟨some 79, .bin .add (.t 48) (.v (.int .i64 1)), none⟩, ⟨some 48, .mv (.t 79), none⟩])))))))
 (.seq (.ops [⟨some 4, .mv (.v (.bool true)), none⟩])
 .ret)))))
noncomputable def X.s_sGood (p0 : TBoard) (p1 : TState) : Option Bool :=
  ((X.s_bGood p0).bind fun v11 => (bif (!v11) then some false else ((X.s_l1In p1.Turn 0 p0.Rules.Turns).bind fun v14 => (bif (!v14) then some false else ((X.s_l1In p1.Weather 0 2).bind fun v17 => (bif (!v17) then some false else (bif (decide ((p1.Units.length : Int) > 12)) then some false else ((loop (fun (x63 : Int) => ((bif (decide (x63 < (p1.Units.length : Int))) then ((at' zTUnit p1.Units x63).bind fun v66 => ((X.s_sUnit p0 v66).bind fun v68 => (bif (!v68) then some (Sum.inr (Sum.inr false)) else some (Sum.inl (W (x63 + 1)))))) else some (Sum.inr (Sum.inl ()))) : Option (Int ⊕ (Unit ⊕ Bool)))) 0).bind fun y71 => (Sum.elim (fun (y73 : Unit) => ((loop (fun (x98 : Int) => ((bif (decide (x98 < (p1.Units.length : Int))) then ((at' zTUnit p1.Units x98).bind fun v101 => (bif (decide (v101.At ≥ 0)) then ((X.s_sAt p1 v101.At (W (1 - v101.Side))).bind fun v104 => (bif (decide ((v104.length : Int) > 0)) then some (Sum.inr (Sum.inr false)) else ((X.s_sAt p1 v101.At v101.Side).bind fun v107 => (bif (decide ((v107.length : Int) > p0.Rules.Stack)) then some (Sum.inr (Sum.inr false)) else some (Sum.inl (W (x98 + 1))))))) else some (Sum.inl (W (x98 + 1))))) else some (Sum.inr (Sum.inl ()))) : Option (Int ⊕ (Unit ⊕ Bool)))) 0).bind fun y110 => (Sum.elim (fun (y112 : Unit) => some true) (fun (y113 : Bool) => some y113) y110))) (fun (y74 : Bool) => some y74) y71)))))))))
theorem s_sGood_ok (p0 : TBoard) (p1 : TState) (r : Bool) (H : X.s_sGood p0 p1 = some r) : FnOk Tryz.prog gl 100 [.agg (eTBoard p0), .agg (eTState p1)] (cB r) := by
  unfold X.s_sGood at H
  refine fn_in (fn := Tryz.f100) (ir := s_sGood_ir) (s1 := lit [(4, cB r)] []) Tryz.func100 (by kernel_rfl) (by kernel_rfl) (by kernel_rfl) (by kernel_rfl) (by kernel_rfl) ?_
  refine seq_ops [] [] [(2, .c (.pk 2 0)), (3, .c (.pk 3 0))] [(2, .var (eTBoard p0) false), (3, .var (eTState p1) false)] (fun t => t) (by kernel_rfl) ?_
  refine seq_in ?_
  obtain ⟨v11, h12, H⟩ := ofBind H
  rcases ofCond H with ⟨c13, H⟩ | ⟨c13, H⟩
  · refine seq_ops [.res (cB v11), .g true, .g true, .g true, .g true, .g true, .g true, .g true, .g true, .g true, .g true, .g true, .g true, .g true, .g true, .g true, .g true, .g true, .g true] [] [(2, .c (.pk 2 0)), (3, .c (.pk 3 0)), (32, cB true)] [(2, .var (eTBoard p0) false), (3, .var (eTState p1) false)] (fun t => aI (s_bGood_ok p0 v11 h12) (aI c13 (aI c13 (aI c13 (aI c13 (aI c13 (aI c13 (aI c13 (aI c13 (aI (rfl : (true : Bool) = true) (aI (rfl : (true : Bool) = true) (aI (rfl : (true : Bool) = true) (aI (rfl : (true : Bool) = true) (aI (rfl : (true : Bool) = true) (aI (rfl : (true : Bool) = true) (aI (rfl : (true : Bool) = true) (aI (rfl : (true : Bool) = true) (aI (rfl : (true : Bool) = true) (aI (rfl : (true : Bool) = true) (t)))))))))))))))))))) (by kernel_rfl) ?_
    refine ite_t (rfl : (true : Bool) = true) (by kernel_rfl) ?_
    refine seq_ops [] [] [(4, cB false)] [] (fun t => t) (by kernel_rfl) ?_
    refine ends_ret ?_
    obtain rfl := Option.some.inj H
    exact And.intro (.inl rfl) rfl
  · obtain ⟨v14, h15, H⟩ := ofBind H
    rcases ofCond H with ⟨c16, H⟩ | ⟨c16, H⟩
    · refine seq_ops [.res (cB v11), .g false, .g false, .g false, .g false, .g false, .g false, .res (cB v14), .g false, .g false, .g true, .g true, .g true, .g true, .g true, .g true, .g true, .g true, .g true, .g true] [] [(2, .c (.pk 2 0)), (3, .c (.pk 3 0)), (32, cB true)] [(2, .var (eTBoard p0) false), (3, .var (eTState p1) false)] (fun t => aI (s_bGood_ok p0 v11 h12) (aI c13 (aI c13 (aI c13 (aI c13 (aI c13 (aI c13 (aI (s_l1In_ok p1.Turn 0 p0.Rules.Turns v14 h15) (aI c13 (aI c13 (aI c16 (aI c16 (aI c16 (aI c16 (aI c16 (aI (rfl : (true : Bool) = true) (aI (rfl : (true : Bool) = true) (aI (rfl : (true : Bool) = true) (aI (rfl : (true : Bool) = true) (aI (rfl : (true : Bool) = true) (t))))))))))))))))))))) (by kernel_rfl) ?_
      refine ite_t (rfl : (true : Bool) = true) (by kernel_rfl) ?_
      refine seq_ops [] [] [(4, cB false)] [] (fun t => t) (by kernel_rfl) ?_
      refine ends_ret ?_
      obtain rfl := Option.some.inj H
      exact And.intro (.inl rfl) rfl
    · obtain ⟨v17, h18, H⟩ := ofBind H
      rcases ofCond H with ⟨c19, H⟩ | ⟨c19, H⟩
      · refine seq_ops [.res (cB v11), .g false, .g false, .g false, .g false, .g false, .g false, .res (cB v14), .g false, .g false, .g false, .g false, .g false, .res (cB v17), .g false, .g false, .g true, .g true, .g true, .g true, .g true] [] [(2, .c (.pk 2 0)), (3, .c (.pk 3 0)), (32, cB true)] [(2, .var (eTBoard p0) false), (3, .var (eTState p1) false)] (fun t => aI (s_bGood_ok p0 v11 h12) (aI c13 (aI c13 (aI c13 (aI c13 (aI c13 (aI c13 (aI (s_l1In_ok p1.Turn 0 p0.Rules.Turns v14 h15) (aI c13 (aI c13 (aI c16 (aI c16 (aI c16 (aI (s_l1In_ok p1.Weather 0 2 v17 h18) (aI c16 (aI c16 (aI c19 (aI c19 (aI c19 (aI c19 (aI c19 (t)))))))))))))))))))))) (by kernel_rfl) ?_
        refine ite_t (rfl : (true : Bool) = true) (by kernel_rfl) ?_
        refine seq_ops [] [] [(4, cB false)] [] (fun t => t) (by kernel_rfl) ?_
        refine ends_ret ?_
        obtain rfl := Option.some.inj H
        exact And.intro (.inl rfl) rfl
      · refine seq_ops [.res (cB v11), .g false, .g false, .g false, .g false, .g false, .g false, .res (cB v14), .g false, .g false, .g false, .g false, .g false, .res (cB v17), .g false, .g false, .g false, .g false, .g false, .g false, .g false] [] [(2, .c (.pk 2 0)), (3, .c (.pk 3 0)), (32, cB (decide ((p1.Units.length : Int) > 12)))] [(2, .var (eTBoard p0) false), (3, .var (eTState p1) false)] (fun t => aI (s_bGood_ok p0 v11 h12) (aI c13 (aI c13 (aI c13 (aI c13 (aI c13 (aI c13 (aI (s_l1In_ok p1.Turn 0 p0.Rules.Turns v14 h15) (aI c13 (aI c13 (aI c16 (aI c16 (aI c16 (aI (s_l1In_ok p1.Weather 0 2 v17 h18) (aI c16 (aI c16 (aI c19 (aI c19 (aI c19 (lI p1.Units (aI c19 (aI c19 (t))))))))))))))))))))))) (by kernel_rfl) ?_
        rcases ofCond H with ⟨c20, H⟩ | ⟨c20, H⟩
        · refine ite_t c20 (by kernel_rfl) ?_
          refine seq_ops [] [] [(4, cB false)] [] (fun t => t) (by kernel_rfl) ?_
          refine ends_ret ?_
          obtain rfl := Option.some.inj H
          exact And.intro (.inl rfl) rfl
        · refine ite_f c20 (by kernel_rfl) ?_
          refine ends_skip ?_
          change EndsI _ _ _ _ _ _
          refine seq_in ?_
          refine seq_ops [] [] [(2, .c (.pk 2 0)), (3, .c (.pk 3 0)), (34, .c (dat 4 eTUnit zTUnit p1.Units)), (35, cI (p1.Units.length : Int)), (36, cI 0)] [(2, .var (eTBoard p0) false), (3, .var (eTState p1) false)] (fun t => lI p1.Units (t)) (by kernel_rfl) ?_
          refine ends_blk ?_
          obtain ⟨y71, h72, H⟩ := ofBind H
          refine loop_in (fun (x : Int) => lit [(2, .c (.pk 2 0)), (3, .c (.pk 3 0)), (34, .c (dat 4 eTUnit zTUnit p1.Units)), (35, cI (p1.Units.length : Int)), (36, cI x)] [(2, .var (eTBoard p0) false), (3, .var (eTState p1) false)]) (orJ (fun (z : Unit) => At (.exit 0) (lit [(2, .c (.pk 2 0)), (3, .c (.pk 3 0))] [(2, .var (eTBoard p0) false), (3, .var (eTState p1) false)])) (fun (z : Bool) => At .ret (lit [(4, cB z)] []))) h72 ?_ ?_
          · clear H h72
            intro x63 y0 H
            refine seq_ops [] [] [(2, .c (.pk 2 0)), (3, .c (.pk 3 0)), (34, .c (dat 4 eTUnit zTUnit p1.Units)), (35, cI (p1.Units.length : Int)), (36, cI x63), (37, cB (decide (x63 < (p1.Units.length : Int))))] [(2, .var (eTBoard p0) false), (3, .var (eTState p1) false)] (fun t => t) (by kernel_rfl) ?_
            refine seq_in ?_
            rcases ofCond H with ⟨c65, H⟩ | ⟨c65, H⟩
            · refine ite_t c65 (by kernel_rfl) ?_
              refine ends_skip ?_
              change EndsI _ _ _ _ _ _
              refine seq_in ?_
              refine ends_blk ?_
              obtain ⟨v66, h67, H⟩ := ofBind H
              refine seq_ops [.cs (eTUnit v66)] [] [(2, .c (.pk 2 0)), (3, .c (.pk 3 0)), (6, .c (.pk 6 0)), (34, .c (dat 4 eTUnit zTUnit p1.Units)), (35, cI (p1.Units.length : Int)), (36, cI x63)] [(2, .var (eTBoard p0) false), (3, .var (eTState p1) false), (6, .var (eTUnit v66) false)] (fun t => aI (at_lt h67) (aI (at_enc (enc := eTUnit) h67) (t))) (by kernel_rfl) ?_
              obtain ⟨v68, h69, H⟩ := ofBind H
              refine seq_ops [.res (cB v68)] [] [(2, .c (.pk 2 0)), (3, .c (.pk 3 0)), (34, .c (dat 4 eTUnit zTUnit p1.Units)), (35, cI (p1.Units.length : Int)), (36, cI x63), (43, cB (!v68))] [(2, .var (eTBoard p0) false), (3, .var (eTState p1) false)] (fun t => aI (s_sUnit_ok p0 v66 v68 h69) (t)) (by kernel_rfl) ?_
              rcases ofCond H with ⟨c70, H⟩ | ⟨c70, H⟩
              · refine ite_t c70 (by kernel_rfl) ?_
                refine seq_ops [] [] [(4, cB false)] [] (fun t => t) (by kernel_rfl) ?_
                refine ends_ret ?_
                obtain rfl := Option.some.inj H
                exact And.intro (by simp) (And.intro rfl rfl)
              · refine ite_f c70 (by kernel_rfl) ?_
                refine ends_skip ?_
                change EndsI _ _ _ _ _ _
                refine one_ops [] [] [(2, .c (.pk 2 0)), (3, .c (.pk 3 0)), (34, .c (dat 4 eTUnit zTUnit p1.Units)), (35, cI (p1.Units.length : Int)), (36, cI (W (x63 + 1)))] [(2, .var (eTBoard p0) false), (3, .var (eTState p1) false)] (fun t => t) (by kernel_rfl) ?_
                obtain rfl := Option.some.inj H
                exact And.intro rfl rfl
            · refine ite_f c65 (by kernel_rfl) ?_
              refine tell [] [(2, .c (.pk 2 0)), (3, .c (.pk 3 0))] [(2, .var (eTBoard p0) false), (3, .var (eTState p1) false)] (fun t => t) (by kernel_rfl) ?_
              refine ends_exit ?_
              obtain rfl := Option.some.inj H
              exact And.intro (by simp) (And.intro rfl rfl)
          · clear h72
            cases y71 with
            | inl y73 =>
              replace H := ofInl H
              intro e s q
              obtain ⟨rfl, rfl⟩ := q
              change EndsI _ _ _ _ _ _
              refine seq_in ?_
              refine seq_ops [] [] [(2, .c (.pk 2 0)), (3, .c (.pk 3 0)), (46, .c (dat 4 eTUnit zTUnit p1.Units)), (47, cI (p1.Units.length : Int)), (48, cI 0)] [(2, .var (eTBoard p0) false), (3, .var (eTState p1) false)] (fun t => lI p1.Units (t)) (by kernel_rfl) ?_
              refine ends_blk ?_
              obtain ⟨y110, h111, H⟩ := ofBind H
              refine loop_in (fun (x : Int) => lit [(2, .c (.pk 2 0)), (3, .c (.pk 3 0)), (46, .c (dat 4 eTUnit zTUnit p1.Units)), (47, cI (p1.Units.length : Int)), (48, cI x)] [(2, .var (eTBoard p0) false), (3, .var (eTState p1) false)]) (orJ (fun (z : Unit) => At (.exit 2) (lit [] [])) (fun (z : Bool) => At .ret (lit [(4, cB z)] []))) h111 ?_ ?_
              · clear H h111
                intro x98 y0 H
                refine seq_ops [] [] [(2, .c (.pk 2 0)), (3, .c (.pk 3 0)), (46, .c (dat 4 eTUnit zTUnit p1.Units)), (47, cI (p1.Units.length : Int)), (48, cI x98), (49, cB (decide (x98 < (p1.Units.length : Int))))] [(2, .var (eTBoard p0) false), (3, .var (eTState p1) false)] (fun t => t) (by kernel_rfl) ?_
                refine seq_in ?_
                rcases ofCond H with ⟨c100, H⟩ | ⟨c100, H⟩
                · refine ite_t c100 (by kernel_rfl) ?_
                  refine ends_skip ?_
                  change EndsI _ _ _ _ _ _
                  refine seq_in ?_
                  refine ends_blk ?_
                  obtain ⟨v101, h102, H⟩ := ofBind H
                  refine seq_ops [.cs (eTUnit v101)] [] [(2, .c (.pk 2 0)), (3, .c (.pk 3 0)), (8, .c (.pk 8 0)), (46, .c (dat 4 eTUnit zTUnit p1.Units)), (47, cI (p1.Units.length : Int)), (48, cI x98)] [(2, .var (eTBoard p0) false), (3, .var (eTState p1) false), (8, .var (eTUnit v101) false)] (fun t => aI (at_lt h102) (aI (at_enc (enc := eTUnit) h102) (t))) (by kernel_rfl) ?_
                  rcases ofCond H with ⟨c103, H⟩ | ⟨c103, H⟩
                  · obtain ⟨v104, h105, H⟩ := ofBind H
                    rcases ofCond H with ⟨c106, H⟩ | ⟨c106, H⟩
                    · refine seq_draw [.g true, .g true, .g true, .g true, .g true, .g true, .g true, .res (.c (dat 1 eI zI v104)), .g true, .g true, .g true, .g true, .g true, .g true, .g true, .g true, .g true, .g true, .g true, .g true, .g true, .g true, .g true, .g true, .g true] [] [(2, .c (.pk 2 0)), (3, .c (.pk 3 0)), (46, .c (dat 4 eTUnit zTUnit p1.Units)), (47, cI (p1.Units.length : Int)), (48, cI x98), (78, cB true)] [(2, .var (eTBoard p0) false), (3, .var (eTState p1) false)] (fun t => aI c103 (aI c103 (aI c103 (aI c103 (aI c103 (aI c103 (aI c103 (aI (s_sAt_ok p1 v101.At (W (1 - v101.Side)) v104 h105) (aI (rfl : ([] : List Nat) = []) (aI (rfl : ([] : List Nat) = []) (aI c103 (aI c103 (aI c103 (aI c106 (aI c106 (aI c106 (aI c106 (aI c106 (aI c106 (aI c106 (aI c106 (aI c106 (aI c106 (aI c106 (aI c103 (aI c106 (aI c103 (t)))))))))))))))))))))))))))) (by kernel_rfl) ?_
                      refine ite_t (rfl : (true : Bool) = true) (by kernel_rfl) ?_
                      refine seq_ops [] [] [(4, cB false)] [] (fun t => t) (by kernel_rfl) ?_
                      refine ends_ret ?_
                      obtain rfl := Option.some.inj H
                      exact And.intro (by simp) (And.intro rfl rfl)
                    · obtain ⟨v107, h108, H⟩ := ofBind H
                      refine seq_draw [.g true, .g true, .g true, .g true, .g true, .g true, .g true, .res (.c (dat 1 eI zI v104)), .g true, .g true, .g true, .g false, .g false, .g false, .g false, .g false, .g false, .res (.c (dat 1 eI zI v107)), .g false, .g false, .g false, .g false, .g false, .g true, .g false, .g true] [] [(2, .c (.pk 2 0)), (3, .c (.pk 3 0)), (46, .c (dat 4 eTUnit zTUnit p1.Units)), (47, cI (p1.Units.length : Int)), (48, cI x98), (78, cB (decide ((v107.length : Int) > p0.Rules.Stack)))] [(2, .var (eTBoard p0) false), (3, .var (eTState p1) false)] (fun t => aI c103 (aI c103 (aI c103 (aI c103 (aI c103 (aI c103 (aI c103 (aI (s_sAt_ok p1 v101.At (W (1 - v101.Side)) v104 h105) (aI (rfl : ([] : List Nat) = []) (aI (rfl : ([] : List Nat) = []) (aI c103 (aI c103 (aI c103 (aI c106 (aI c106 (aI c106 (aI c106 (aI c106 (aI c106 (aI (s_sAt_ok p1 v101.At v101.Side v107 h108) (aI (rfl : ([] : List Nat) = []) (aI (rfl : ([] : List Nat) = []) (aI c106 (aI c106 (aI c106 (aI c106 (aI c106 (aI c103 (aI c106 (aI c103 (t))))))))))))))))))))))))))))))) (by kernel_rfl) ?_
                      rcases ofCond H with ⟨c109, H⟩ | ⟨c109, H⟩
                      · refine ite_t c109 (by kernel_rfl) ?_
                        refine seq_ops [] [] [(4, cB false)] [] (fun t => t) (by kernel_rfl) ?_
                        refine ends_ret ?_
                        obtain rfl := Option.some.inj H
                        exact And.intro (by simp) (And.intro rfl rfl)
                      · refine ite_f c109 (by kernel_rfl) ?_
                        refine ends_skip ?_
                        change EndsI _ _ _ _ _ _
                        refine one_ops [] [] [(2, .c (.pk 2 0)), (3, .c (.pk 3 0)), (46, .c (dat 4 eTUnit zTUnit p1.Units)), (47, cI (p1.Units.length : Int)), (48, cI (W (x98 + 1)))] [(2, .var (eTBoard p0) false), (3, .var (eTState p1) false)] (fun t => t) (by kernel_rfl) ?_
                        obtain rfl := Option.some.inj H
                        exact And.intro rfl rfl
                  · refine seq_draw [.g false, .g false, .g false, .g false, .g false, .g false, .g false, .g false, .g false, .g false, .g false, .g false] [] [(2, .c (.pk 2 0)), (3, .c (.pk 3 0)), (46, .c (dat 4 eTUnit zTUnit p1.Units)), (47, cI (p1.Units.length : Int)), (48, cI x98), (78, cB false)] [(2, .var (eTBoard p0) false), (3, .var (eTState p1) false)] (fun t => aI c103 (aI c103 (aI c103 (aI c103 (aI c103 (aI c103 (aI c103 (aI c103 (aI c103 (aI c103 (aI c103 (aI c103 (t))))))))))))) (by kernel_rfl) ?_
                    refine ite_f (rfl : (false : Bool) = false) (by kernel_rfl) ?_
                    refine ends_skip ?_
                    change EndsI _ _ _ _ _ _
                    refine one_ops [] [] [(2, .c (.pk 2 0)), (3, .c (.pk 3 0)), (46, .c (dat 4 eTUnit zTUnit p1.Units)), (47, cI (p1.Units.length : Int)), (48, cI (W (x98 + 1)))] [(2, .var (eTBoard p0) false), (3, .var (eTState p1) false)] (fun t => t) (by kernel_rfl) ?_
                    obtain rfl := Option.some.inj H
                    exact And.intro rfl rfl
                · refine ite_f c100 (by kernel_rfl) ?_
                  refine tell [] [] [] (fun t => t) (by kernel_rfl) ?_
                  refine ends_exit ?_
                  obtain rfl := Option.some.inj H
                  exact And.intro (by simp) (And.intro rfl rfl)
              · clear h111
                cases y110 with
                | inl y112 =>
                  replace H := ofInl H
                  intro e s q
                  obtain ⟨rfl, rfl⟩ := q
                  change EndsI _ _ _ _ _ _
                  refine seq_ops [] [] [(4, cB true)] [] (fun t => t) (by kernel_rfl) ?_
                  refine ends_ret ?_
                  obtain rfl := Option.some.inj H
                  exact And.intro (.inl rfl) rfl
                | inr y113 =>
                  replace H := ofInr H
                  intro e s q
                  obtain ⟨rfl, rfl⟩ := q
                  obtain rfl := Option.some.inj H
                  exact And.intro (.inl rfl) rfl
            | inr y74 =>
              replace H := ofInr H
              intro e s q
              obtain ⟨rfl, rfl⟩ := q
              obtain rfl := Option.some.inj H
              exact And.intro (.inl rfl) rfl

def s_vcGood_ir : S :=
 (.seq (.ops [⟨some 2, .box 12 (.t 0), none⟩, ⟨some 3, .box 3 (.t 1), none⟩, ⟨some 4, .mv (.v (.bool false)), none⟩])
 (.seq (.seq (.ops [⟨some 7, .load 12 true (.t 2), none⟩, ⟨some 8, .call 158 [.t 7], none⟩, ⟨some 9, .not (.t 8), none⟩, ⟨some 10, .mv (.t 9), none⟩, ⟨some 11, .fad 0 (.t 3), some (10, false)⟩, ⟨some 12, .load 1 false (.t 11), some (10, false)⟩, ⟨some 13, .len (.t 12), some (10, false)⟩, ⟨some 14, .bin .gtr (.t 13) (.v (.int .i64 12)), some (10, false)⟩, ⟨some 15, .pick (.t 10) (.v (.bool true)) (.t 14), none⟩, ⟨some 16, .mv (.t 15), none⟩, ⟨some 17, .fad 1 (.t 3), some (16, false)⟩, ⟨some 18, .load 1 false (.t 17), some (16, false)⟩, ⟨some 19, .call 63 [.t 18, .v (.int .i64 0), .v (.int .i64 9)], some (16, false)⟩, ⟨some 20, .not (.t 19), some (16, false)⟩, ⟨some 21, .pick (.t 16) (.v (.bool true)) (.t 20), none⟩, ⟨some 22, .mv (.t 21), none⟩, ⟨some 23, .fad 2 (.t 3), some (22, false)⟩, ⟨some 24, .load 1 false (.t 23), some (22, false)⟩, ⟨some 25, .call 63 [.t 24, .v (.int .i64 0), .v (.int .i64 200)], some (22, false)⟩, ⟨some 26, .not (.t 25), some (22, false)⟩, ⟨some 27, .pick (.t 22) (.v (.bool true)) (.t 26), none⟩])
 (.ite (.t 27) (.seq (.ops [⟨some 4, .mv (.v (.bool false)), none⟩])
  .ret)
 .skip))
 (.seq (.seq (.ops [⟨some 28, .fad 0 (.t 3), none⟩, ⟨some 29, .load 1 false (.t 28), none⟩, ⟨some 30, .len (.t 29), none⟩, ⟨some 31, .mv (.v (.int .i64 0)), none⟩])
 (.blk 0 (.loop (.seq (.ops [⟨some 32, .bin .lss (.t 31) (.t 30), none⟩])
   (.seq (.ite (.t 32) .skip
   (.exit 0))
   (.seq (.blk 1 (.seq (.ops [⟨some 33, .mv (.t 31), none⟩, ⟨some 34, .iad 2 (.t 29) (.t 31), none⟩, ⟨some 35, .load 2 true (.t 34), none⟩, ⟨some 6, .alloc [.int .i64 0, .int .i64 0], none⟩, ⟨some 5, .mv (.t 33), none⟩, ⟨none, .store 2 (.t 6) (.t 35), none⟩])
    (.seq (.draw 30 [⟨some 36, .fad 0 (.t 6), none⟩, ⟨some 37, .load 1 false (.t 36), none⟩, ⟨some 38, .fad 7 (.t 2), none⟩, ⟨some 39, .load 5 true (.t 38), none⟩, ⟨some 40, .call 124 [.t 39], none⟩, ⟨some 41, .bin .sub (.t 40) (.v (.int .i64 1)), none⟩, ⟨some 42, .call 63 [.t 37, .v (.int .i64 0), .t 41], none⟩, ⟨some 43, .not (.t 42), none⟩, ⟨some 44, .mv (.t 43), none⟩, ⟨some 45, .fad 1 (.t 6), some (44, false)⟩, ⟨some 46, .load 1 false (.t 45), some (44, false)⟩, ⟨some 47, .call 63 [.t 46, .v (.int .i64 1), .v (.int .i64 20)], some (44, false)⟩, ⟨some 48, .not (.t 47), some (44, false)⟩, ⟨some 49, .pick (.t 44) (.v (.bool true)) (.t 48), none⟩, ⟨some 50, .mv (.t 49), none⟩, ⟨some 51, .mv (.t 5), some (50, false)⟩, ⟨some 52, .bin .gtr (.t 51) (.v (.int .i64 0)), some (50, false)⟩, ⟨some 53, .mv (.t 52), some (50, false)⟩, ⟨some 54, .fad 0 (.t 3), some (53, true)⟩, ⟨some 55, .load 1 false (.t 54), some (53, true)⟩, ⟨some 56, .mv (.t 5), some (53, true)⟩, ⟨some 57, .bin .sub (.t 56) (.v (.int .i64 1)), some (53, true)⟩, ⟨some 58, .iad 2 (.t 55) (.t 57), some (53, true)⟩, ⟨some 59, .fad 0 (.t 58), some (53, true)⟩, ⟨some 60, .load 1 false (.t 59), some (53, true)⟩, ⟨some 61, .fad 0 (.t 6), some (53, true)⟩, ⟨some 62, .load 1 false (.t 61), some (53, true)⟩, ⟨some 63, .bin .geq (.t 60) (.t 62), some (53, true)⟩, ⟨some 64, .pick (.t 53) (.t 63) (.v (.bool false)), some (50, false)⟩, ⟨some 65, .pick (.t 50) (.v (.bool true)) (.t 64), none⟩])
    (.ite (.t 65) (.seq (.ops [⟨some 4, .mv (.v (.bool false)), none⟩])
     .ret)
    .skip))))
   (.ops [⟨some 66, .bin .add (.t 31) (.v (.int .i64 1)), none⟩, ⟨some 31, .mv (.t 66), none⟩])))))))
 (.seq (.ops [⟨some 4, .mv (.v (.bool true)), none⟩])
 .ret))))
noncomputable def X.s_vcGood (p0 : TBoard) (p1 : TConditions) : Option Bool :=
  ((X.s_bGood p0).bind fun v11 => (bif (!v11) then some false else (bif (decide ((p1.Goals.length : Int) > 12)) then some false else ((X.s_l1In p1.Step 0 9).bind fun v15 => (bif (!v15) then some false else ((X.s_l1In p1.Margin 0 200).bind fun v18 => (bif (!v18) then some false else ((loop (fun (x54 : Int) => ((bif (decide (x54 < (p1.Goals.length : Int))) then ((at' zTGoal p1.Goals x54).bind fun v57 => ((X.s_mSize p0.Map).bind fun v59 => ((X.s_l1In v57.At 0 (W (v59 - 1))).bind fun v61 => (bif (!v61) then some (Sum.inr (Sum.inr false)) else ((X.s_l1In v57.Points 1 20).bind fun v64 => (bif (!v64) then some (Sum.inr (Sum.inr false)) else (bif (decide (x54 > 0)) then ((at' zTGoal p1.Goals (W (x54 - 1))).bind fun v68 => (bif (decide (v68.At ≥ v57.At)) then some (Sum.inr (Sum.inr false)) else some (Sum.inl (W (x54 + 1))))) else some (Sum.inl (W (x54 + 1)))))))))) else some (Sum.inr (Sum.inl ()))) : Option (Int ⊕ (Unit ⊕ Bool)))) 0).bind fun y71 => (Sum.elim (fun (y73 : Unit) => some true) (fun (y74 : Bool) => some y74) y71)))))))))
theorem s_vcGood_ok (p0 : TBoard) (p1 : TConditions) (r : Bool) (H : X.s_vcGood p0 p1 = some r) : FnOk Tryz.prog gl 150 [.agg (eTBoard p0), .agg (eTConditions p1)] (cB r) := by
  unfold X.s_vcGood at H
  refine fn_in (fn := Tryz.f150) (ir := s_vcGood_ir) (s1 := lit [(4, cB r)] []) Tryz.func150 (by kernel_rfl) (by kernel_rfl) (by kernel_rfl) (by kernel_rfl) (by kernel_rfl) ?_
  refine seq_ops [] [] [(2, .c (.pk 2 0)), (3, .c (.pk 3 0))] [(2, .var (eTBoard p0) false), (3, .var (eTConditions p1) false)] (fun t => t) (by kernel_rfl) ?_
  refine seq_in ?_
  obtain ⟨v11, h12, H⟩ := ofBind H
  rcases ofCond H with ⟨c13, H⟩ | ⟨c13, H⟩
  · refine seq_ops [.res (cB v11), .g true, .g true, .g true, .g true, .g true, .g true, .g true, .g true, .g true, .g true, .g true, .g true, .g true, .g true, .g true] [] [(2, .c (.pk 2 0)), (3, .c (.pk 3 0)), (27, cB true)] [(2, .var (eTBoard p0) false), (3, .var (eTConditions p1) false)] (fun t => aI (s_bGood_ok p0 v11 h12) (aI c13 (aI c13 (aI c13 (aI c13 (aI c13 (aI (rfl : (true : Bool) = true) (aI (rfl : (true : Bool) = true) (aI (rfl : (true : Bool) = true) (aI (rfl : (true : Bool) = true) (aI (rfl : (true : Bool) = true) (aI (rfl : (true : Bool) = true) (aI (rfl : (true : Bool) = true) (aI (rfl : (true : Bool) = true) (aI (rfl : (true : Bool) = true) (aI (rfl : (true : Bool) = true) (t))))))))))))))))) (by kernel_rfl) ?_
    refine ite_t (rfl : (true : Bool) = true) (by kernel_rfl) ?_
    refine seq_ops [] [] [(4, cB false)] [] (fun t => t) (by kernel_rfl) ?_
    refine ends_ret ?_
    obtain rfl := Option.some.inj H
    exact And.intro (.inl rfl) rfl
  · rcases ofCond H with ⟨c14, H⟩ | ⟨c14, H⟩
    · refine seq_ops [.res (cB v11), .g false, .g false, .g false, .g false, .g false, .g true, .g true, .g true, .g true, .g true, .g true, .g true, .g true, .g true, .g true] [] [(2, .c (.pk 2 0)), (3, .c (.pk 3 0)), (27, cB true)] [(2, .var (eTBoard p0) false), (3, .var (eTConditions p1) false)] (fun t => aI (s_bGood_ok p0 v11 h12) (aI c13 (aI c13 (aI c13 (lI p1.Goals (aI c13 (aI c13 (aI c14 (aI c14 (aI c14 (aI c14 (aI c14 (aI (rfl : (true : Bool) = true) (aI (rfl : (true : Bool) = true) (aI (rfl : (true : Bool) = true) (aI (rfl : (true : Bool) = true) (aI (rfl : (true : Bool) = true) (t)))))))))))))))))) (by kernel_rfl) ?_
      refine ite_t (rfl : (true : Bool) = true) (by kernel_rfl) ?_
      refine seq_ops [] [] [(4, cB false)] [] (fun t => t) (by kernel_rfl) ?_
      refine ends_ret ?_
      obtain rfl := Option.some.inj H
      exact And.intro (.inl rfl) rfl
    · obtain ⟨v15, h16, H⟩ := ofBind H
      rcases ofCond H with ⟨c17, H⟩ | ⟨c17, H⟩
      · refine seq_ops [.res (cB v11), .g false, .g false, .g false, .g false, .g false, .g false, .g false, .g false, .res (cB v15), .g false, .g false, .g true, .g true, .g true, .g true, .g true] [] [(2, .c (.pk 2 0)), (3, .c (.pk 3 0)), (27, cB true)] [(2, .var (eTBoard p0) false), (3, .var (eTConditions p1) false)] (fun t => aI (s_bGood_ok p0 v11 h12) (aI c13 (aI c13 (aI c13 (lI p1.Goals (aI c13 (aI c13 (aI c14 (aI c14 (aI c14 (aI (s_l1In_ok p1.Step 0 9 v15 h16) (aI c14 (aI c14 (aI c17 (aI c17 (aI c17 (aI c17 (aI c17 (t))))))))))))))))))) (by kernel_rfl) ?_
        refine ite_t (rfl : (true : Bool) = true) (by kernel_rfl) ?_
        refine seq_ops [] [] [(4, cB false)] [] (fun t => t) (by kernel_rfl) ?_
        refine ends_ret ?_
        obtain rfl := Option.some.inj H
        exact And.intro (.inl rfl) rfl
      · obtain ⟨v18, h19, H⟩ := ofBind H
        refine seq_ops [.res (cB v11), .g false, .g false, .g false, .g false, .g false, .g false, .g false, .g false, .res (cB v15), .g false, .g false, .g false, .g false, .g false, .res (cB v18), .g false, .g false] [] [(2, .c (.pk 2 0)), (3, .c (.pk 3 0)), (27, cB (!v18))] [(2, .var (eTBoard p0) false), (3, .var (eTConditions p1) false)] (fun t => aI (s_bGood_ok p0 v11 h12) (aI c13 (aI c13 (aI c13 (lI p1.Goals (aI c13 (aI c13 (aI c14 (aI c14 (aI c14 (aI (s_l1In_ok p1.Step 0 9 v15 h16) (aI c14 (aI c14 (aI c17 (aI c17 (aI c17 (aI (s_l1In_ok p1.Margin 0 200 v18 h19) (aI c17 (aI c17 (t)))))))))))))))))))) (by kernel_rfl) ?_
        rcases ofCond H with ⟨c20, H⟩ | ⟨c20, H⟩
        · refine ite_t c20 (by kernel_rfl) ?_
          refine seq_ops [] [] [(4, cB false)] [] (fun t => t) (by kernel_rfl) ?_
          refine ends_ret ?_
          obtain rfl := Option.some.inj H
          exact And.intro (.inl rfl) rfl
        · refine ite_f c20 (by kernel_rfl) ?_
          refine ends_skip ?_
          change EndsI _ _ _ _ _ _
          refine seq_in ?_
          refine seq_ops [] [] [(2, .c (.pk 2 0)), (3, .c (.pk 3 0)), (29, .c (dat 2 eTGoal zTGoal p1.Goals)), (30, cI (p1.Goals.length : Int)), (31, cI 0)] [(2, .var (eTBoard p0) false), (3, .var (eTConditions p1) false)] (fun t => lI p1.Goals (t)) (by kernel_rfl) ?_
          refine ends_blk ?_
          obtain ⟨y71, h72, H⟩ := ofBind H
          refine loop_in (fun (x : Int) => lit [(2, .c (.pk 2 0)), (3, .c (.pk 3 0)), (29, .c (dat 2 eTGoal zTGoal p1.Goals)), (30, cI (p1.Goals.length : Int)), (31, cI x)] [(2, .var (eTBoard p0) false), (3, .var (eTConditions p1) false)]) (orJ (fun (z : Unit) => At (.exit 0) (lit [] [])) (fun (z : Bool) => At .ret (lit [(4, cB z)] []))) h72 ?_ ?_
          · clear H h72
            intro x54 y0 H
            refine seq_ops [] [] [(2, .c (.pk 2 0)), (3, .c (.pk 3 0)), (29, .c (dat 2 eTGoal zTGoal p1.Goals)), (30, cI (p1.Goals.length : Int)), (31, cI x54), (32, cB (decide (x54 < (p1.Goals.length : Int))))] [(2, .var (eTBoard p0) false), (3, .var (eTConditions p1) false)] (fun t => t) (by kernel_rfl) ?_
            refine seq_in ?_
            rcases ofCond H with ⟨c56, H⟩ | ⟨c56, H⟩
            · refine ite_t c56 (by kernel_rfl) ?_
              refine ends_skip ?_
              change EndsI _ _ _ _ _ _
              refine seq_in ?_
              refine ends_blk ?_
              obtain ⟨v57, h58, H⟩ := ofBind H
              refine seq_ops [.cs (eTGoal v57)] [] [(2, .c (.pk 2 0)), (3, .c (.pk 3 0)), (5, cI x54), (6, .c (.pk 6 0)), (29, .c (dat 2 eTGoal zTGoal p1.Goals)), (30, cI (p1.Goals.length : Int)), (31, cI x54)] [(2, .var (eTBoard p0) false), (3, .var (eTConditions p1) false), (6, .var (eTGoal v57) false)] (fun t => aI (at_lt h58) (aI (at_enc (enc := eTGoal) h58) (t))) (by kernel_rfl) ?_
              obtain ⟨v59, h60, H⟩ := ofBind H
              obtain ⟨v61, h62, H⟩ := ofBind H
              rcases ofCond H with ⟨c63, H⟩ | ⟨c63, H⟩
              · refine seq_draw [.res (cI v59), .res (cB v61), .g true, .g true, .g true, .g true, .g true, .g true, .g true, .g true, .g true, .g true] [] [(2, .c (.pk 2 0)), (3, .c (.pk 3 0)), (29, .c (dat 2 eTGoal zTGoal p1.Goals)), (30, cI (p1.Goals.length : Int)), (31, cI x54), (65, cB true)] [(2, .var (eTBoard p0) false), (3, .var (eTConditions p1) false)] (fun t => aI (s_mSize_ok p0.Map v59 h60) (aI trivial (aI (rfl : ([] : List Nat) = []) (aI (s_l1In_ok v57.At 0 (W (v59 - 1)) v61 h62) (aI trivial (aI (rfl : ([] : List Nat) = []) (aI c63 (aI c63 (aI c63 (aI c63 (aI c63 (aI (rfl : (true : Bool) = true) (aI (rfl : (true : Bool) = true) (aI (rfl : (true : Bool) = true) (aI (rfl : (true : Bool) = true) (aI (rfl : (true : Bool) = true) (t))))))))))))))))) (by kernel_rfl) ?_
                refine ite_t (rfl : (true : Bool) = true) (by kernel_rfl) ?_
                refine seq_ops [] [] [(4, cB false)] [] (fun t => t) (by kernel_rfl) ?_
                refine ends_ret ?_
                obtain rfl := Option.some.inj H
                exact And.intro (by simp) (And.intro rfl rfl)
              · obtain ⟨v64, h65, H⟩ := ofBind H
                rcases ofCond H with ⟨c66, H⟩ | ⟨c66, H⟩
                · refine seq_draw [.res (cI v59), .res (cB v61), .g false, .g false, .g false, .res (cB v64), .g false, .g false, .g true, .g true, .g true, .g true, .g true] [] [(2, .c (.pk 2 0)), (3, .c (.pk 3 0)), (29, .c (dat 2 eTGoal zTGoal p1.Goals)), (30, cI (p1.Goals.length : Int)), (31, cI x54), (65, cB true)] [(2, .var (eTBoard p0) false), (3, .var (eTConditions p1) false)] (fun t => aI (s_mSize_ok p0.Map v59 h60) (aI trivial (aI (rfl : ([] : List Nat) = []) (aI (s_l1In_ok v57.At 0 (W (v59 - 1)) v61 h62) (aI trivial (aI (rfl : ([] : List Nat) = []) (aI c63 (aI c63 (aI c63 (aI (s_l1In_ok v57.Points 1 20 v64 h65) (aI trivial (aI (rfl : ([] : List Nat) = []) (aI c63 (aI c63 (aI c66 (aI c66 (aI c66 (aI c66 (aI c66 (t)))))))))))))))))))) (by kernel_rfl) ?_
                  refine ite_t (rfl : (true : Bool) = true) (by kernel_rfl) ?_
                  refine seq_ops [] [] [(4, cB false)] [] (fun t => t) (by kernel_rfl) ?_
                  refine ends_ret ?_
                  obtain rfl := Option.some.inj H
                  exact And.intro (by simp) (And.intro rfl rfl)
                · rcases ofCond H with ⟨c67, H⟩ | ⟨c67, H⟩
                  · obtain ⟨v68, h69, H⟩ := ofBind H
                    refine seq_draw [.res (cI v59), .res (cB v61), .g false, .g false, .g false, .res (cB v64), .g false, .g false, .g false, .g false, .g false, .g true, .g true, .g true, .g true, .g true, .cs (eTGoal v68), .g true, .g true, .g true, .g true, .g true, .g false, .g true, .g false] [] [(2, .c (.pk 2 0)), (3, .c (.pk 3 0)), (29, .c (dat 2 eTGoal zTGoal p1.Goals)), (30, cI (p1.Goals.length : Int)), (31, cI x54), (65, cB (decide (v68.At ≥ v57.At)))] [(2, .var (eTBoard p0) false), (3, .var (eTConditions p1) false)] (fun t => aI (s_mSize_ok p0.Map v59 h60) (aI trivial (aI (rfl : ([] : List Nat) = []) (aI (s_l1In_ok v57.At 0 (W (v59 - 1)) v61 h62) (aI trivial (aI (rfl : ([] : List Nat) = []) (aI c63 (aI c63 (aI c63 (aI (s_l1In_ok v57.Points 1 20 v64 h65) (aI trivial (aI (rfl : ([] : List Nat) = []) (aI c63 (aI c63 (aI c66 (aI c66 (aI c66 (aI c67 (aI c67 (aI c67 (aI c67 (aI c67 (aI (at_lt h69) (aI (at_enc (enc := eTGoal) h69) (aI c67 (aI c67 (aI (rfl : ([] : List Nat) = []) (aI c67 (aI c67 (aI c67 (aI c66 (aI c67 (aI c66 (t)))))))))))))))))))))))))))))))))) (by kernel_rfl) ?_
                    rcases ofCond H with ⟨c70, H⟩ | ⟨c70, H⟩
                    · refine ite_t c70 (by kernel_rfl) ?_
                      refine seq_ops [] [] [(4, cB false)] [] (fun t => t) (by kernel_rfl) ?_
                      refine ends_ret ?_
                      obtain rfl := Option.some.inj H
                      exact And.intro (by simp) (And.intro rfl rfl)
                    · refine ite_f c70 (by kernel_rfl) ?_
                      refine ends_skip ?_
                      change EndsI _ _ _ _ _ _
                      refine one_ops [] [] [(2, .c (.pk 2 0)), (3, .c (.pk 3 0)), (29, .c (dat 2 eTGoal zTGoal p1.Goals)), (30, cI (p1.Goals.length : Int)), (31, cI (W (x54 + 1)))] [(2, .var (eTBoard p0) false), (3, .var (eTConditions p1) false)] (fun t => t) (by kernel_rfl) ?_
                      obtain rfl := Option.some.inj H
                      exact And.intro rfl rfl
                  · refine seq_draw [.res (cI v59), .res (cB v61), .g false, .g false, .g false, .res (cB v64), .g false, .g false, .g false, .g false, .g false, .g false, .g false, .g false, .g false, .g false, .g false, .g false, .g false, .g false, .g false, .g false, .g false, .g false] [] [(2, .c (.pk 2 0)), (3, .c (.pk 3 0)), (29, .c (dat 2 eTGoal zTGoal p1.Goals)), (30, cI (p1.Goals.length : Int)), (31, cI x54), (65, cB false)] [(2, .var (eTBoard p0) false), (3, .var (eTConditions p1) false)] (fun t => aI (s_mSize_ok p0.Map v59 h60) (aI trivial (aI (rfl : ([] : List Nat) = []) (aI (s_l1In_ok v57.At 0 (W (v59 - 1)) v61 h62) (aI trivial (aI (rfl : ([] : List Nat) = []) (aI c63 (aI c63 (aI c63 (aI (s_l1In_ok v57.Points 1 20 v64 h65) (aI trivial (aI (rfl : ([] : List Nat) = []) (aI c63 (aI c63 (aI c66 (aI c66 (aI c66 (aI c67 (aI c67 (aI c67 (aI c67 (aI c67 (aI c67 (aI c67 (aI c67 (aI c67 (aI c67 (aI c66 (aI c67 (aI c66 (t))))))))))))))))))))))))))))))) (by kernel_rfl) ?_
                    refine ite_f (rfl : (false : Bool) = false) (by kernel_rfl) ?_
                    refine ends_skip ?_
                    change EndsI _ _ _ _ _ _
                    refine one_ops [] [] [(2, .c (.pk 2 0)), (3, .c (.pk 3 0)), (29, .c (dat 2 eTGoal zTGoal p1.Goals)), (30, cI (p1.Goals.length : Int)), (31, cI (W (x54 + 1)))] [(2, .var (eTBoard p0) false), (3, .var (eTConditions p1) false)] (fun t => t) (by kernel_rfl) ?_
                    obtain rfl := Option.some.inj H
                    exact And.intro rfl rfl
            · refine ite_f c56 (by kernel_rfl) ?_
              refine tell [] [] [] (fun t => t) (by kernel_rfl) ?_
              refine ends_exit ?_
              obtain rfl := Option.some.inj H
              exact And.intro (by simp) (And.intro rfl rfl)
          · clear h72
            cases y71 with
            | inl y73 =>
              replace H := ofInl H
              intro e s q
              obtain ⟨rfl, rfl⟩ := q
              change EndsI _ _ _ _ _ _
              refine seq_ops [] [] [(4, cB true)] [] (fun t => t) (by kernel_rfl) ?_
              refine ends_ret ?_
              obtain rfl := Option.some.inj H
              exact And.intro (.inl rfl) rfl
            | inr y74 =>
              replace H := ofInr H
              intro e s q
              obtain ⟨rfl, rfl⟩ := q
              obtain rfl := Option.some.inj H
              exact And.intro (.inl rfl) rfl

def s_vcInput_ir : S :=
 (.seq (.ops [⟨some 3, .box 12 (.t 0), none⟩, ⟨some 4, .box 3 (.t 1), none⟩, ⟨some 5, .box 3 (.t 2), none⟩, ⟨some 6, .mv (.v (.bool false)), none⟩])
 (.seq (.ops [⟨some 7, .load 12 true (.t 3), none⟩, ⟨some 8, .load 3 true (.t 4), none⟩, ⟨some 9, .call 100 [.t 7, .t 8], none⟩, ⟨some 10, .mv (.t 9), none⟩, ⟨some 11, .load 12 true (.t 3), some (10, true)⟩, ⟨some 12, .load 3 true (.t 5), some (10, true)⟩, ⟨some 13, .call 150 [.t 11, .t 12], some (10, true)⟩, ⟨some 14, .pick (.t 10) (.t 13) (.v (.bool false)), none⟩, ⟨some 6, .mv (.t 14), none⟩])
 .ret))
noncomputable def X.s_vcInput (p0 : TBoard) (p1 : TState) (p2 : TConditions) : Option Bool :=
  ((X.s_sGood p0 p1).bind fun v1 => (bif v1 then ((X.s_vcGood p0 p2).bind fun v4 => some v4) else some false))
theorem s_vcInput_ok (p0 : TBoard) (p1 : TState) (p2 : TConditions) (r : Bool) (H : X.s_vcInput p0 p1 p2 = some r) : FnOk Tryz.prog gl 89 [.agg (eTBoard p0), .agg (eTState p1), .agg (eTConditions p2)] (cB r) := by
  unfold X.s_vcInput at H
  refine fn_in (fn := Tryz.f89) (ir := s_vcInput_ir) (s1 := lit [(6, cB r)] []) Tryz.func89 (by kernel_rfl) (by kernel_rfl) (by kernel_rfl) (by kernel_rfl) (by kernel_rfl) ?_
  refine seq_ops [] [] [(3, .c (.pk 3 0)), (4, .c (.pk 4 0)), (5, .c (.pk 5 0))] [(3, .var (eTBoard p0) false), (4, .var (eTState p1) false), (5, .var (eTConditions p2) false)] (fun t => t) (by kernel_rfl) ?_
  obtain ⟨v1, h2, H⟩ := ofBind H
  rcases ofCond H with ⟨c3, H⟩ | ⟨c3, H⟩
  · obtain ⟨v4, h5, H⟩ := ofBind H
    refine seq_ops [.res (cB v1), .g true, .g true, .g true, .res (cB v4), .g true] [] [(6, cB v4)] [] (fun t => aI (s_sGood_ok p0 p1 v1 h2) (aI c3 (aI c3 (aI c3 (aI (s_vcGood_ok p0 p2 v4 h5) (aI c3 (t))))))) (by kernel_rfl) ?_
    refine ends_ret ?_
    obtain rfl := Option.some.inj H
    exact And.intro (.inl rfl) rfl
  · refine seq_ops [.res (cB v1), .g false, .g false, .g false, .g false] [] [(6, cB false)] [] (fun t => aI (s_sGood_ok p0 p1 v1 h2) (aI c3 (aI c3 (aI c3 (aI c3 (t)))))) (by kernel_rfl) ?_
    refine ends_ret ?_
    obtain rfl := Option.some.inj H
    exact And.intro (.inl rfl) rfl

def s_sOf_ir : S :=
 (.seq (.ops [⟨some 2, .box 3 (.t 0), none⟩, ⟨some 4, .mv (.v (.nil)), none⟩])
 (.seq (.ops [⟨some 5, .mv (.v (.nil)), none⟩])
 (.seq (.seq (.ops [⟨some 8, .fad 2 (.t 2), none⟩, ⟨some 9, .load 1 false (.t 8), none⟩, ⟨some 10, .len (.t 9), none⟩, ⟨some 11, .mv (.v (.int .i64 0)), none⟩])
 (.blk 0 (.loop (.seq (.ops [⟨some 12, .bin .lss (.t 11) (.t 10), none⟩])
   (.seq (.ite (.t 12) .skip
   (.exit 0))
   (.seq (.blk 1 (.seq (.ops [⟨some 13, .mv (.t 11), none⟩, ⟨some 14, .iad 4 (.t 9) (.t 11), none⟩, ⟨some 15, .load 4 true (.t 14), none⟩, ⟨some 7, .alloc [.int .i64 0, .int .i64 0, .int .i64 0, .int .i64 0], none⟩, ⟨some 6, .mv (.t 13), none⟩, ⟨none, .store 4 (.t 7) (.t 15), none⟩])
    (.seq (.ops [⟨some 16, .fad 0 (.t 7), none⟩, ⟨some 17, .load 1 false (.t 16), none⟩, ⟨some 18, .mv (.t 1), none⟩, ⟨some 19, .bin .eql (.t 17) (.t 18), none⟩, ⟨some 20, .mv (.t 19), none⟩, ⟨some 21, .fad 2 (.t 7), some (20, true)⟩, ⟨some 22, .load 1 false (.t 21), some (20, true)⟩, ⟨some 23, .bin .geq (.t 22) (.v (.int .i64 0)), some (20, true)⟩, ⟨some 24, .pick (.t 20) (.t 23) (.v (.bool false)), none⟩])
    (.ite (.t 24) (.ops [⟨some 25, .mv (.t 5), none⟩, ⟨some 26, .mv (.t 6), none⟩, ⟨some 27, .bsl 1 [.t 26], none⟩, ⟨some 28, .app 1 8 (.t 25) (.t 27), none⟩, ⟨some 5, .mv (.t 28), none⟩])
    .skip))))
   (.ops [⟨some 29, .bin .add (.t 11) (.v (.int .i64 1)), none⟩, ⟨some 11, .mv (.t 29), none⟩])))))))
 (.seq (.ops [⟨some 30, .mv (.t 5), none⟩, ⟨some 4, .mv (.t 30), none⟩])
 .ret))))
noncomputable def X.s_sOf (p0 : TState) (p1 : Int) : Option (List Int) :=
  ((loop (fun (x16 : (Int × (List Int))) => ((bif (decide (x16.1 < (p0.Units.length : Int))) then ((at' zTUnit p0.Units x16.1).bind fun v19 => (bif (v19.Side == p1) then (bif (decide (v19.At ≥ 0)) then (if (x16.2 ++ ([x16.1] : List Int)).length ≤ LIM then some (Sum.inl ((W (x16.1 + 1)), (x16.2 ++ ([x16.1] : List Int)))) else none) else some (Sum.inl ((W (x16.1 + 1)), x16.2))) else some (Sum.inl ((W (x16.1 + 1)), x16.2)))) else some (Sum.inr x16.2)) : Option ((Int × (List Int)) ⊕ (List Int)))) (0, ([] : List Int))).bind fun y24 => some y24)
theorem s_sOf_ok (p0 : TState) (p1 : Int) (r : (List Int)) (H : X.s_sOf p0 p1 = some r) : FnOk Tryz.prog gl 151 [.agg (eTState p0), cI p1] (.c (dat 1 eI zI r)) := by
  unfold X.s_sOf at H
  refine fn_in (fn := Tryz.f151) (ir := s_sOf_ir) (s1 := lit [(4, .c (dat 1 eI zI r))] []) Tryz.func151 (by kernel_rfl) (by kernel_rfl) (by kernel_rfl) (by kernel_rfl) (by kernel_rfl) ?_
  refine seq_ops [] [] [(1, cI p1), (2, .c (.pk 2 0))] [(2, .var (eTState p0) false)] (fun t => t) (by kernel_rfl) ?_
  refine seq_ops [] [] [(1, cI p1), (2, .c (.pk 2 0)), (5, .c (.nil))] [(2, .var (eTState p0) false)] (fun t => t) (by kernel_rfl) ?_
  refine seq_in ?_
  refine seq_ops [] [] [(1, cI p1), (5, .c (.nil)), (9, .c (dat 4 eTUnit zTUnit p0.Units)), (10, cI (p0.Units.length : Int)), (11, cI 0)] [] (fun t => lI p0.Units (t)) (by kernel_rfl) ?_
  refine ends_blk ?_
  obtain ⟨y24, h25, H⟩ := ofBind H
  refine tell [.nlo 5 1001 1 (fF eI zI ([] : List Int))] [(1, cI p1), (5, .c (.own 1001 1 0 (([] : List Int).length))), (9, .c (dat 4 eTUnit zTUnit p0.Units)), (10, cI (p0.Units.length : Int)), (11, cI 0)] [(1001, .arr 1 (([] : List Int).length) (fF eI zI ([] : List Int)) false)] (fun t => aI (by decide : 0 < 1) (t)) (by kernel_rfl) ?_
  refine loop_in (fun (x : (Int × (List Int))) => lit [(1, cI p1), (5, .c (.own 1001 1 0 x.2.length)), (9, .c (dat 4 eTUnit zTUnit p0.Units)), (10, cI (p0.Units.length : Int)), (11, cI x.1)] [(1001, .arr 1 x.2.length (fF eI zI x.2) false)]) (fun (z : (List Int)) => At (.exit 0) (lit [(5, .c (.own 1001 1 0 z.length))] [(1001, .arr 1 z.length (fF eI zI z) false)])) h25 ?_ ?_
  · clear H h25
    intro x16 y0 H
    refine seq_ops [] [] [(1, cI p1), (5, .c (.own 1001 1 0 x16.2.length)), (9, .c (dat 4 eTUnit zTUnit p0.Units)), (10, cI (p0.Units.length : Int)), (11, cI x16.1), (12, cB (decide (x16.1 < (p0.Units.length : Int))))] [(1001, .arr 1 x16.2.length (fF eI zI x16.2) false)] (fun t => t) (by kernel_rfl) ?_
    refine seq_in ?_
    rcases ofCond H with ⟨c18, H⟩ | ⟨c18, H⟩
    · refine ite_t c18 (by kernel_rfl) ?_
      refine ends_skip ?_
      change EndsI _ _ _ _ _ _
      refine seq_in ?_
      refine ends_blk ?_
      obtain ⟨v19, h20, H⟩ := ofBind H
      refine seq_ops [.cs (eTUnit v19)] [] [(1, cI p1), (5, .c (.own 1001 1 0 x16.2.length)), (6, cI x16.1), (7, .c (.pk 7 0)), (9, .c (dat 4 eTUnit zTUnit p0.Units)), (10, cI (p0.Units.length : Int)), (11, cI x16.1)] [(7, .var (eTUnit v19) false), (1001, .arr 1 x16.2.length (fF eI zI x16.2) false)] (fun t => aI (at_lt h20) (aI (at_enc (enc := eTUnit) h20) (t))) (by kernel_rfl) ?_
      rcases ofCond H with ⟨c21, H⟩ | ⟨c21, H⟩
      · refine seq_ops [.g true, .g true, .g true, .g true] [] [(1, cI p1), (5, .c (.own 1001 1 0 x16.2.length)), (6, cI x16.1), (9, .c (dat 4 eTUnit zTUnit p0.Units)), (10, cI (p0.Units.length : Int)), (11, cI x16.1), (24, cB (decide (v19.At ≥ 0)))] [(1001, .arr 1 x16.2.length (fF eI zI x16.2) false)] (fun t => aI c21 (aI c21 (aI c21 (aI c21 (t))))) (by kernel_rfl) ?_
        rcases ofCond H with ⟨c22, H⟩ | ⟨c22, H⟩
        · refine ite_t c22 (by kernel_rfl) ?_
          obtain ⟨g23, H⟩ := ofIf H
          refine one_ops [.fn ([x16.1] : List Int).length (fF eI zI ([x16.1] : List Int)), .fn (x16.2 ++ ([x16.1] : List Int)).length (fF eI zI (x16.2 ++ ([x16.1] : List Int)))] [] [(1, cI p1), (5, .c (.own 28 1 0 ((x16.2 ++ ([x16.1] : List Int)).length))), (9, .c (dat 4 eTUnit zTUnit p0.Units)), (10, cI (p0.Units.length : Int)), (11, cI x16.1)] [(28, .arr 1 ((x16.2 ++ ([x16.1] : List Int)).length) (fF eI zI (x16.2 ++ ([x16.1] : List Int))) false)] (fun t => aI (rfl : ([x16.1] : List Int).length = 1) (aI (fF_lit eI zI ([x16.1] : List Int)) (aI (And.intro (Nat.le_refl x16.2.length) (And.intro (@List.length_append _ x16.2 ([x16.1] : List Int)) g23)) (aI (fF_appL eI zI x16.2 ([x16.1] : List Int)) (aI (fF_appR eI zI x16.2 ([x16.1] : List Int)) (t)))))) (by kernel_rfl) ?_
          change EndsI _ _ _ _ _ _
          refine one_ops [] [.ren 28 1001] [(1, cI p1), (5, .c (.own 1001 1 0 ((x16.2 ++ ([x16.1] : List Int)).length))), (9, .c (dat 4 eTUnit zTUnit p0.Units)), (10, cI (p0.Units.length : Int)), (11, cI (W (x16.1 + 1)))] [(1001, .arr 1 ((x16.2 ++ ([x16.1] : List Int)).length) (fF eI zI (x16.2 ++ ([x16.1] : List Int))) false)] (fun t => t) (by kernel_rfl) ?_
          obtain rfl := Option.some.inj H
          exact And.intro rfl rfl
        · refine ite_f c22 (by kernel_rfl) ?_
          refine ends_skip ?_
          change EndsI _ _ _ _ _ _
          refine one_ops [] [] [(1, cI p1), (5, .c (.own 1001 1 0 x16.2.length)), (9, .c (dat 4 eTUnit zTUnit p0.Units)), (10, cI (p0.Units.length : Int)), (11, cI (W (x16.1 + 1)))] [(1001, .arr 1 x16.2.length (fF eI zI x16.2) false)] (fun t => t) (by kernel_rfl) ?_
          obtain rfl := Option.some.inj H
          exact And.intro rfl rfl
      · refine seq_ops [.g false, .g false, .g false, .g false] [] [(1, cI p1), (5, .c (.own 1001 1 0 x16.2.length)), (6, cI x16.1), (9, .c (dat 4 eTUnit zTUnit p0.Units)), (10, cI (p0.Units.length : Int)), (11, cI x16.1), (24, cB false)] [(1001, .arr 1 x16.2.length (fF eI zI x16.2) false)] (fun t => aI c21 (aI c21 (aI c21 (aI c21 (t))))) (by kernel_rfl) ?_
        refine ite_f (rfl : (false : Bool) = false) (by kernel_rfl) ?_
        refine ends_skip ?_
        change EndsI _ _ _ _ _ _
        refine one_ops [] [] [(1, cI p1), (5, .c (.own 1001 1 0 x16.2.length)), (9, .c (dat 4 eTUnit zTUnit p0.Units)), (10, cI (p0.Units.length : Int)), (11, cI (W (x16.1 + 1)))] [(1001, .arr 1 x16.2.length (fF eI zI x16.2) false)] (fun t => t) (by kernel_rfl) ?_
        obtain rfl := Option.some.inj H
        exact And.intro rfl rfl
    · refine ite_f c18 (by kernel_rfl) ?_
      refine tell [] [(5, .c (.own 1001 1 0 x16.2.length))] [(1001, .arr 1 x16.2.length (fF eI zI x16.2) false)] (fun t => t) (by kernel_rfl) ?_
      refine ends_exit ?_
      obtain rfl := Option.some.inj H
      exact And.intro (by simp) (And.intro rfl rfl)
  · clear h25
    intro e s q
    obtain ⟨rfl, rfl⟩ := q
    change EndsI _ _ _ _ _ _
    refine seq_ops [] [] [(4, .c (.own 1001 1 0 y24.length))] [(1001, .arr 1 y24.length (fF eI zI y24) false)] (fun t => t) (by kernel_rfl) ?_
    refine tell [.frz 4] [(4, .c (dat 1 eI zI y24))] [] (fun t => aI (Nat.le_refl y24.length) (t)) (by kernel_rfl) ?_
    refine ends_ret ?_
    obtain rfl := Option.some.inj H
    exact And.intro (.inl rfl) rfl

def s_vcSteps_ir : S :=
 (.seq (.ops [⟨some 3, .box 12 (.t 0), none⟩, ⟨some 4, .box 3 (.t 1), none⟩, ⟨some 6, .mv (.v (.int .i64 0)), none⟩, ⟨some 7, .mv (.v (.int .i64 0)), none⟩])
 (.seq (.ops [⟨some 8, .mv (.v (.int .i64 0)), none⟩, ⟨some 9, .mv (.v (.int .i64 0)), none⟩])
 (.seq (.seq (.ops [⟨some 12, .fad 2 (.t 4), none⟩, ⟨some 13, .load 1 false (.t 12), none⟩, ⟨some 14, .len (.t 13), none⟩, ⟨some 15, .mv (.v (.int .i64 0)), none⟩])
 (.blk 0 (.loop (.seq (.ops [⟨some 16, .bin .lss (.t 15) (.t 14), none⟩])
   (.seq (.ite (.t 16) .skip
   (.exit 0))
   (.seq (.blk 1 (.seq (.ops [⟨some 17, .iad 4 (.t 13) (.t 15), none⟩, ⟨some 18, .load 4 true (.t 17), none⟩, ⟨some 11, .alloc [.int .i64 0, .int .i64 0, .int .i64 0, .int .i64 0], none⟩, ⟨none, .store 4 (.t 11) (.t 18), none⟩])
    (.seq (.ops [⟨some 19, .fad 0 (.t 11), none⟩, ⟨some 20, .load 1 false (.t 19), none⟩, ⟨some 21, .mv (.t 2), none⟩, ⟨some 22, .bin .eql (.t 20) (.t 21), none⟩])
    (.ite (.t 22) (.seq (.ops [⟨some 23, .mv (.t 8), none⟩, ⟨some 24, .fad 0 (.t 3), none⟩, ⟨some 25, .fad 1 (.t 24), none⟩, ⟨some 26, .load 1 false (.t 25), none⟩, ⟨some 27, .fad 1 (.t 11), none⟩, ⟨some 28, .load 1 false (.t 27), none⟩, ⟨some 29, .iad 6 (.t 26) (.t 28), none⟩, ⟨some 30, .fad 3 (.t 29), none⟩, ⟨some 31, .load 1 false (.t 30), none⟩, ⟨some 32, .bin .add (.t 23) (.t 31), none⟩, ⟨some 8, .mv (.t 32), none⟩])
     (.draw 14 [⟨some 33, .mv (.t 9), none⟩, ⟨some 34, .fad 0 (.t 3), none⟩, ⟨some 35, .fad 1 (.t 34), none⟩, ⟨some 36, .load 1 false (.t 35), none⟩, ⟨some 37, .fad 1 (.t 11), none⟩, ⟨some 38, .load 1 false (.t 37), none⟩, ⟨some 39, .iad 6 (.t 36) (.t 38), none⟩, ⟨some 40, .fad 3 (.t 39), none⟩, ⟨some 41, .load 1 false (.t 40), none⟩, ⟨some 42, .fad 3 (.t 11), none⟩, ⟨some 43, .load 1 false (.t 42), none⟩, ⟨some 44, .bin .sub (.t 41) (.t 43), none⟩, ⟨some 45, .bin .add (.t 33) (.t 44), none⟩, ⟨some 9, .mv (.t 45), none⟩]))
    .skip))))
   (.ops [⟨some 46, .bin .add (.t 15) (.v (.int .i64 1)), none⟩, ⟨some 15, .mv (.t 46), none⟩])))))))
 (.seq (.ops [⟨some 47, .mv (.t 8), none⟩, ⟨some 48, .mv (.t 9), none⟩, ⟨some 6, .mv (.t 47), none⟩, ⟨some 7, .mv (.t 48), none⟩])
 .ret))))
noncomputable def X.s_vcSteps (p0 : TBoard) (p1 : TState) (p2 : Int) : Option (Int × Int) :=
  ((loop (fun (x16 : (Int × Int × Int)) => ((bif (decide (x16.2.2 < (p1.Units.length : Int))) then ((at' zTUnit p1.Units x16.2.2).bind fun v19 => (bif (v19.Side == p2) then ((at' zTKind p0.Rules.Kinds v19.Kind).bind fun v22 => some (Sum.inl ((W (x16.1 + v22.Steps)), (W (x16.2.1 + (W (v22.Steps - v19.Steps)))), (W (x16.2.2 + 1))))) else some (Sum.inl (x16.1, x16.2.1, (W (x16.2.2 + 1)))))) else some (Sum.inr (x16.1, x16.2.1))) : Option ((Int × Int × Int) ⊕ (Int × Int)))) (0, 0, 0)).bind fun y24 => some (y24.1, y24.2))
theorem s_vcSteps_ok (p0 : TBoard) (p1 : TState) (p2 : Int) (r : (Int × Int)) (H : X.s_vcSteps p0 p1 p2 = some r) : FnOk Tryz.prog gl 207 [.agg (eTBoard p0), .agg (eTState p1), cI p2] (.tup [(false, [.int .i64 r.1]), (false, [.int .i64 r.2])]) := by
  unfold X.s_vcSteps at H
  refine fn_in (fn := Tryz.f207) (ir := s_vcSteps_ir) (s1 := lit [(6, cI r.1), (7, cI r.2)] []) Tryz.func207 (by kernel_rfl) (by kernel_rfl) (by kernel_rfl) (by kernel_rfl) (by kernel_rfl) ?_
  refine seq_ops [] [] [(2, cI p2), (3, .c (.pk 3 0)), (4, .c (.pk 4 0))] [(3, .var (eTBoard p0) false), (4, .var (eTState p1) false)] (fun t => t) (by kernel_rfl) ?_
  refine seq_ops [] [] [(2, cI p2), (3, .c (.pk 3 0)), (4, .c (.pk 4 0)), (8, cI 0), (9, cI 0)] [(3, .var (eTBoard p0) false), (4, .var (eTState p1) false)] (fun t => t) (by kernel_rfl) ?_
  refine seq_in ?_
  refine seq_ops [] [] [(2, cI p2), (3, .c (.pk 3 0)), (8, cI 0), (9, cI 0), (13, .c (dat 4 eTUnit zTUnit p1.Units)), (14, cI (p1.Units.length : Int)), (15, cI 0)] [(3, .var (eTBoard p0) false)] (fun t => lI p1.Units (t)) (by kernel_rfl) ?_
  refine ends_blk ?_
  obtain ⟨y24, h25, H⟩ := ofBind H
  refine loop_in (fun (x : (Int × Int × Int)) => lit [(2, cI p2), (3, .c (.pk 3 0)), (8, cI x.1), (9, cI x.2.1), (13, .c (dat 4 eTUnit zTUnit p1.Units)), (14, cI (p1.Units.length : Int)), (15, cI x.2.2)] [(3, .var (eTBoard p0) false)]) (fun (z : (Int × Int)) => At (.exit 0) (lit [(8, cI z.1), (9, cI z.2)] [])) h25 ?_ ?_
  · clear H h25
    intro x16 y0 H
    refine seq_ops [] [] [(2, cI p2), (3, .c (.pk 3 0)), (8, cI x16.1), (9, cI x16.2.1), (13, .c (dat 4 eTUnit zTUnit p1.Units)), (14, cI (p1.Units.length : Int)), (15, cI x16.2.2), (16, cB (decide (x16.2.2 < (p1.Units.length : Int))))] [(3, .var (eTBoard p0) false)] (fun t => t) (by kernel_rfl) ?_
    refine seq_in ?_
    rcases ofCond H with ⟨c18, H⟩ | ⟨c18, H⟩
    · refine ite_t c18 (by kernel_rfl) ?_
      refine ends_skip ?_
      change EndsI _ _ _ _ _ _
      refine seq_in ?_
      refine ends_blk ?_
      obtain ⟨v19, h20, H⟩ := ofBind H
      refine seq_ops [.cs (eTUnit v19)] [] [(2, cI p2), (3, .c (.pk 3 0)), (8, cI x16.1), (9, cI x16.2.1), (11, .c (.pk 11 0)), (13, .c (dat 4 eTUnit zTUnit p1.Units)), (14, cI (p1.Units.length : Int)), (15, cI x16.2.2)] [(3, .var (eTBoard p0) false), (11, .var (eTUnit v19) false)] (fun t => aI (at_lt h20) (aI (at_enc (enc := eTUnit) h20) (t))) (by kernel_rfl) ?_
      refine seq_ops [] [] [(2, cI p2), (3, .c (.pk 3 0)), (8, cI x16.1), (9, cI x16.2.1), (11, .c (.pk 11 0)), (13, .c (dat 4 eTUnit zTUnit p1.Units)), (14, cI (p1.Units.length : Int)), (15, cI x16.2.2), (22, cB (v19.Side == p2))] [(3, .var (eTBoard p0) false), (11, .var (eTUnit v19) false)] (fun t => t) (by kernel_rfl) ?_
      rcases ofCond H with ⟨c21, H⟩ | ⟨c21, H⟩
      · refine ite_t c21 (by kernel_rfl) ?_
        obtain ⟨v22, h23, H⟩ := ofBind H
        refine seq_ops [.cs (eTKind v22)] [] [(2, cI p2), (3, .c (.pk 3 0)), (8, cI (W (x16.1 + v22.Steps))), (9, cI x16.2.1), (11, .c (.pk 11 0)), (13, .c (dat 4 eTUnit zTUnit p1.Units)), (14, cI (p1.Units.length : Int)), (15, cI x16.2.2)] [(3, .var (eTBoard p0) false), (11, .var (eTUnit v19) false)] (fun t => aI (at_lt h23) (aI (at_enc (enc := eTKind) h23) (t))) (by kernel_rfl) ?_
        refine one_draw [.cs (eTKind v22)] [] [(2, cI p2), (3, .c (.pk 3 0)), (8, cI (W (x16.1 + v22.Steps))), (9, cI (W (x16.2.1 + (W (v22.Steps - v19.Steps))))), (13, .c (dat 4 eTUnit zTUnit p1.Units)), (14, cI (p1.Units.length : Int)), (15, cI x16.2.2)] [(3, .var (eTBoard p0) false)] (fun t => aI (at_lt h23) (aI (at_enc (enc := eTKind) h23) (aI (rfl : ([] : List Nat) = []) (t)))) (by kernel_rfl) ?_
        change EndsI _ _ _ _ _ _
        refine one_ops [] [] [(2, cI p2), (3, .c (.pk 3 0)), (8, cI (W (x16.1 + v22.Steps))), (9, cI (W (x16.2.1 + (W (v22.Steps - v19.Steps))))), (13, .c (dat 4 eTUnit zTUnit p1.Units)), (14, cI (p1.Units.length : Int)), (15, cI (W (x16.2.2 + 1)))] [(3, .var (eTBoard p0) false)] (fun t => t) (by kernel_rfl) ?_
        obtain rfl := Option.some.inj H
        exact And.intro rfl rfl
      · refine ite_f c21 (by kernel_rfl) ?_
        refine ends_skip ?_
        change EndsI _ _ _ _ _ _
        refine one_ops [] [] [(2, cI p2), (3, .c (.pk 3 0)), (8, cI x16.1), (9, cI x16.2.1), (13, .c (dat 4 eTUnit zTUnit p1.Units)), (14, cI (p1.Units.length : Int)), (15, cI (W (x16.2.2 + 1)))] [(3, .var (eTBoard p0) false)] (fun t => t) (by kernel_rfl) ?_
        obtain rfl := Option.some.inj H
        exact And.intro rfl rfl
    · refine ite_f c18 (by kernel_rfl) ?_
      refine tell [] [(8, cI x16.1), (9, cI x16.2.1)] [] (fun t => t) (by kernel_rfl) ?_
      refine ends_exit ?_
      obtain rfl := Option.some.inj H
      exact And.intro (by simp) (And.intro rfl rfl)
  · clear h25
    intro e s q
    obtain ⟨rfl, rfl⟩ := q
    change EndsI _ _ _ _ _ _
    refine seq_ops [] [] [(6, cI y24.1), (7, cI y24.2)] [] (fun t => t) (by kernel_rfl) ?_
    refine ends_ret ?_
    obtain rfl := Option.some.inj H
    exact And.intro (.inl rfl) rfl

def s_sOwner_ir : S :=
 (.seq (.ops [⟨some 2, .box 3 (.t 0), none⟩, ⟨some 4, .mv (.v (.int .i64 0)), none⟩])
 (.seq (.seq (.ops [⟨some 7, .fad 2 (.t 2), none⟩, ⟨some 8, .load 1 false (.t 7), none⟩, ⟨some 9, .len (.t 8), none⟩, ⟨some 10, .mv (.v (.int .i64 0)), none⟩])
 (.blk 0 (.loop (.seq (.ops [⟨some 11, .bin .lss (.t 10) (.t 9), none⟩])
   (.seq (.ite (.t 11) .skip
   (.exit 0))
   (.seq (.blk 1 (.seq (.ops [⟨some 12, .iad 4 (.t 8) (.t 10), none⟩, ⟨some 13, .load 4 true (.t 12), none⟩, ⟨some 6, .alloc [.int .i64 0, .int .i64 0, .int .i64 0, .int .i64 0], none⟩, ⟨none, .store 4 (.t 6) (.t 13), none⟩])
    (.seq (.ops [⟨some 14, .fad 2 (.t 6), none⟩, ⟨some 15, .load 1 false (.t 14), none⟩, ⟨some 16, .mv (.t 1), none⟩, ⟨some 17, .bin .eql (.t 15) (.t 16), none⟩])
    (.ite (.t 17) (.seq (.ops [⟨some 18, .fad 0 (.t 6), none⟩, ⟨some 19, .load 1 false (.t 18), none⟩, ⟨some 4, .mv (.t 19), none⟩])
     .ret)
    .skip))))
   (.ops [⟨some 20, .bin .add (.t 10) (.v (.int .i64 1)), none⟩, ⟨some 10, .mv (.t 20), none⟩])))))))
 (.seq (.ops [⟨some 4, .mv (.v (.int .i64 (-1))), none⟩])
 .ret)))
noncomputable def X.s_sOwner (p0 : TState) (p1 : Int) : Option Int :=
  ((loop (fun (x12 : Int) => ((bif (decide (x12 < (p0.Units.length : Int))) then ((at' zTUnit p0.Units x12).bind fun v15 => (bif (v15.At == p1) then some (Sum.inr (Sum.inr v15.Side)) else some (Sum.inl (W (x12 + 1))))) else some (Sum.inr (Sum.inl ()))) : Option (Int ⊕ (Unit ⊕ Int)))) 0).bind fun y18 => (Sum.elim (fun (y20 : Unit) => some (-1)) (fun (y21 : Int) => some y21) y18))
theorem s_sOwner_ok (p0 : TState) (p1 : Int) (r : Int) (H : X.s_sOwner p0 p1 = some r) : FnOk Tryz.prog gl 291 [.agg (eTState p0), cI p1] (cI r) := by
  unfold X.s_sOwner at H
  refine fn_in (fn := Tryz.f291) (ir := s_sOwner_ir) (s1 := lit [(4, cI r)] []) Tryz.func291 (by kernel_rfl) (by kernel_rfl) (by kernel_rfl) (by kernel_rfl) (by kernel_rfl) ?_
  refine seq_ops [] [] [(1, cI p1), (2, .c (.pk 2 0))] [(2, .var (eTState p0) false)] (fun t => t) (by kernel_rfl) ?_
  refine seq_in ?_
  refine seq_ops [] [] [(1, cI p1), (8, .c (dat 4 eTUnit zTUnit p0.Units)), (9, cI (p0.Units.length : Int)), (10, cI 0)] [] (fun t => lI p0.Units (t)) (by kernel_rfl) ?_
  refine ends_blk ?_
  obtain ⟨y18, h19, H⟩ := ofBind H
  refine loop_in (fun (x : Int) => lit [(1, cI p1), (8, .c (dat 4 eTUnit zTUnit p0.Units)), (9, cI (p0.Units.length : Int)), (10, cI x)] []) (orJ (fun (z : Unit) => At (.exit 0) (lit [] [])) (fun (z : Int) => At .ret (lit [(4, cI z)] []))) h19 ?_ ?_
  · clear H h19
    intro x12 y0 H
    refine seq_ops [] [] [(1, cI p1), (8, .c (dat 4 eTUnit zTUnit p0.Units)), (9, cI (p0.Units.length : Int)), (10, cI x12), (11, cB (decide (x12 < (p0.Units.length : Int))))] [] (fun t => t) (by kernel_rfl) ?_
    refine seq_in ?_
    rcases ofCond H with ⟨c14, H⟩ | ⟨c14, H⟩
    · refine ite_t c14 (by kernel_rfl) ?_
      refine ends_skip ?_
      change EndsI _ _ _ _ _ _
      refine seq_in ?_
      refine ends_blk ?_
      obtain ⟨v15, h16, H⟩ := ofBind H
      refine seq_ops [.cs (eTUnit v15)] [] [(1, cI p1), (6, .c (.pk 6 0)), (8, .c (dat 4 eTUnit zTUnit p0.Units)), (9, cI (p0.Units.length : Int)), (10, cI x12)] [(6, .var (eTUnit v15) false)] (fun t => aI (at_lt h16) (aI (at_enc (enc := eTUnit) h16) (t))) (by kernel_rfl) ?_
      refine seq_ops [] [] [(1, cI p1), (6, .c (.pk 6 0)), (8, .c (dat 4 eTUnit zTUnit p0.Units)), (9, cI (p0.Units.length : Int)), (10, cI x12), (17, cB (v15.At == p1))] [(6, .var (eTUnit v15) false)] (fun t => t) (by kernel_rfl) ?_
      rcases ofCond H with ⟨c17, H⟩ | ⟨c17, H⟩
      · refine ite_t c17 (by kernel_rfl) ?_
        refine seq_ops [] [] [(4, cI v15.Side)] [] (fun t => t) (by kernel_rfl) ?_
        refine ends_ret ?_
        obtain rfl := Option.some.inj H
        exact And.intro (by simp) (And.intro rfl rfl)
      · refine ite_f c17 (by kernel_rfl) ?_
        refine ends_skip ?_
        change EndsI _ _ _ _ _ _
        refine one_ops [] [] [(1, cI p1), (8, .c (dat 4 eTUnit zTUnit p0.Units)), (9, cI (p0.Units.length : Int)), (10, cI (W (x12 + 1)))] [] (fun t => t) (by kernel_rfl) ?_
        obtain rfl := Option.some.inj H
        exact And.intro rfl rfl
    · refine ite_f c14 (by kernel_rfl) ?_
      refine tell [] [] [] (fun t => t) (by kernel_rfl) ?_
      refine ends_exit ?_
      obtain rfl := Option.some.inj H
      exact And.intro (by simp) (And.intro rfl rfl)
  · clear h19
    cases y18 with
    | inl y20 =>
      replace H := ofInl H
      intro e s q
      obtain ⟨rfl, rfl⟩ := q
      change EndsI _ _ _ _ _ _
      refine seq_ops [] [] [(4, cI (-1))] [] (fun t => t) (by kernel_rfl) ?_
      refine ends_ret ?_
      obtain rfl := Option.some.inj H
      exact And.intro (.inl rfl) rfl
    | inr y21 =>
      replace H := ofInr H
      intro e s q
      obtain ⟨rfl, rfl⟩ := q
      obtain rfl := Option.some.inj H
      exact And.intro (.inl rfl) rfl

def s_l1Has_ir : S :=
 (.seq (.ops [⟨some 4, .mv (.v (.bool false)), none⟩])
 (.seq (.seq (.ops [⟨some 7, .mv (.t 0), none⟩, ⟨some 8, .len (.t 7), none⟩, ⟨some 9, .mv (.v (.int .i64 0)), none⟩])
 (.blk 0 (.loop (.seq (.ops [⟨some 10, .bin .lss (.t 9) (.t 8), none⟩])
   (.seq (.ite (.t 10) .skip
   (.exit 0))
   (.seq (.blk 1 (.seq (.ops [⟨some 11, .iad 1 (.t 7) (.t 9), none⟩, ⟨some 12, .load 1 false (.t 11), none⟩, ⟨some 6, .mv (.t 12), none⟩])
    (.seq (.ops [⟨some 13, .mv (.t 6), none⟩, ⟨some 14, .mv (.t 1), none⟩, ⟨some 15, .bin .eql (.t 13) (.t 14), none⟩])
    (.ite (.t 15) (.seq (.ops [⟨some 4, .mv (.v (.bool true)), none⟩])
     .ret)
    .skip))))
   (.ops [⟨some 16, .bin .add (.t 9) (.v (.int .i64 1)), none⟩, ⟨some 9, .mv (.t 16), none⟩])))))))
 (.seq (.ops [⟨some 4, .mv (.v (.bool false)), none⟩])
 .ret)))
noncomputable def X.s_l1Has (p0 : (List Int)) (p1 : Int) : Option Bool :=
  ((loop (fun (x12 : Int) => ((bif (decide (x12 < (p0.length : Int))) then ((at' zI p0 x12).bind fun v15 => (bif (v15 == p1) then some (Sum.inr (Sum.inr true)) else some (Sum.inl (W (x12 + 1))))) else some (Sum.inr (Sum.inl ()))) : Option (Int ⊕ (Unit ⊕ Bool)))) 0).bind fun y18 => (Sum.elim (fun (y20 : Unit) => some false) (fun (y21 : Bool) => some y21) y18))
theorem s_l1Has_ok (p0 : (List Int)) (p1 : Int) (r : Bool) (H : X.s_l1Has p0 p1 = some r) : FnOk Tryz.prog gl 81 [.c (dat 1 eI zI p0), cI p1] (cB r) := by
  unfold X.s_l1Has at H
  refine fn_in (fn := Tryz.f81) (ir := s_l1Has_ir) (s1 := lit [(4, cB r)] []) Tryz.func81 (by kernel_rfl) (by kernel_rfl) (by kernel_rfl) (by kernel_rfl) (by kernel_rfl) ?_
  refine seq_ops [] [] [(0, .c (dat 1 eI zI p0)), (1, cI p1)] [] (fun t => t) (by kernel_rfl) ?_
  refine seq_in ?_
  refine seq_ops [] [] [(1, cI p1), (7, .c (dat 1 eI zI p0)), (8, cI (p0.length : Int)), (9, cI 0)] [] (fun t => lI p0 (t)) (by kernel_rfl) ?_
  refine ends_blk ?_
  obtain ⟨y18, h19, H⟩ := ofBind H
  refine loop_in (fun (x : Int) => lit [(1, cI p1), (7, .c (dat 1 eI zI p0)), (8, cI (p0.length : Int)), (9, cI x)] []) (orJ (fun (z : Unit) => At (.exit 0) (lit [] [])) (fun (z : Bool) => At .ret (lit [(4, cB z)] []))) h19 ?_ ?_
  · clear H h19
    intro x12 y0 H
    refine seq_ops [] [] [(1, cI p1), (7, .c (dat 1 eI zI p0)), (8, cI (p0.length : Int)), (9, cI x12), (10, cB (decide (x12 < (p0.length : Int))))] [] (fun t => t) (by kernel_rfl) ?_
    refine seq_in ?_
    rcases ofCond H with ⟨c14, H⟩ | ⟨c14, H⟩
    · refine ite_t c14 (by kernel_rfl) ?_
      refine ends_skip ?_
      change EndsI _ _ _ _ _ _
      refine seq_in ?_
      refine ends_blk ?_
      obtain ⟨v15, h16, H⟩ := ofBind H
      refine seq_ops [.cs (eI v15)] [] [(1, cI p1), (6, cI v15), (7, .c (dat 1 eI zI p0)), (8, cI (p0.length : Int)), (9, cI x12)] [] (fun t => aI (at_lt h16) (aI (at_enc (enc := eI) h16) (t))) (by kernel_rfl) ?_
      refine seq_ops [] [] [(1, cI p1), (7, .c (dat 1 eI zI p0)), (8, cI (p0.length : Int)), (9, cI x12), (15, cB (v15 == p1))] [] (fun t => t) (by kernel_rfl) ?_
      rcases ofCond H with ⟨c17, H⟩ | ⟨c17, H⟩
      · refine ite_t c17 (by kernel_rfl) ?_
        refine seq_ops [] [] [(4, cB true)] [] (fun t => t) (by kernel_rfl) ?_
        refine ends_ret ?_
        obtain rfl := Option.some.inj H
        exact And.intro (by simp) (And.intro rfl rfl)
      · refine ite_f c17 (by kernel_rfl) ?_
        refine ends_skip ?_
        change EndsI _ _ _ _ _ _
        refine one_ops [] [] [(1, cI p1), (7, .c (dat 1 eI zI p0)), (8, cI (p0.length : Int)), (9, cI (W (x12 + 1)))] [] (fun t => t) (by kernel_rfl) ?_
        obtain rfl := Option.some.inj H
        exact And.intro rfl rfl
    · refine ite_f c14 (by kernel_rfl) ?_
      refine tell [] [] [] (fun t => t) (by kernel_rfl) ?_
      refine ends_exit ?_
      obtain rfl := Option.some.inj H
      exact And.intro (by simp) (And.intro rfl rfl)
  · clear h19
    cases y18 with
    | inl y20 =>
      replace H := ofInl H
      intro e s q
      obtain ⟨rfl, rfl⟩ := q
      change EndsI _ _ _ _ _ _
      refine seq_ops [] [] [(4, cB false)] [] (fun t => t) (by kernel_rfl) ?_
      refine ends_ret ?_
      obtain rfl := Option.some.inj H
      exact And.intro (.inl rfl) rfl
    | inr y21 =>
      replace H := ofInr H
      intro e s q
      obtain ⟨rfl, rfl⟩ := q
      obtain rfl := Option.some.inj H
      exact And.intro (.inl rfl) rfl

def s_mEdge_ir : S :=
 (.seq (.ops [⟨some 3, .box 5 (.t 0), none⟩, ⟨some 6, .mv (.v (.int .i64 0)), none⟩])
 (.seq (.seq (.ops [⟨some 7, .mv (.t 2), none⟩, ⟨some 8, .bin .lss (.t 7) (.v (.int .i64 3)), none⟩])
 (.ite (.t 8) (.seq (.ops [⟨some 9, .mv (.t 1), none⟩, ⟨some 10, .bin .mul (.v (.int .i64 3)) (.t 9), none⟩, ⟨some 11, .mv (.t 2), none⟩, ⟨some 12, .bin .add (.t 10) (.t 11), none⟩, ⟨some 6, .mv (.t 12), none⟩])
  .ret)
 .skip))
 (.seq (.ops [⟨some 13, .load 5 true (.t 3), none⟩, ⟨some 14, .mv (.t 1), none⟩, ⟨some 15, .mv (.t 2), none⟩, ⟨some 16, .call 126 [.t 13, .t 14, .t 15], none⟩, ⟨some 17, .bin .mul (.v (.int .i64 3)) (.t 16), none⟩, ⟨some 18, .mv (.t 2), none⟩, ⟨some 19, .bin .add (.t 17) (.t 18), none⟩, ⟨some 20, .bin .sub (.t 19) (.v (.int .i64 3)), none⟩, ⟨some 6, .mv (.t 20), none⟩])
 .ret)))
noncomputable def X.s_mEdge (p0 : TMap) (p1 : Int) (p2 : Int) : Option Int :=
  (bif (decide (p2 < 3)) then some (W ((W (3 * p1)) + p2)) else ((X.s_mNext p0 p1 p2).bind fun v3 => some (W ((W ((W (3 * v3)) + p2)) - 3))))
theorem s_mEdge_ok (p0 : TMap) (p1 : Int) (p2 : Int) (r : Int) (H : X.s_mEdge p0 p1 p2 = some r) : FnOk Tryz.prog gl 237 [.agg (eTMap p0), cI p1, cI p2] (cI r) := by
  unfold X.s_mEdge at H
  refine fn_in (fn := Tryz.f237) (ir := s_mEdge_ir) (s1 := lit [(6, cI r)] []) Tryz.func237 (by kernel_rfl) (by kernel_rfl) (by kernel_rfl) (by kernel_rfl) (by kernel_rfl) ?_
  refine seq_ops [] [] [(1, cI p1), (2, cI p2), (3, .c (.pk 3 0))] [(3, .var (eTMap p0) false)] (fun t => t) (by kernel_rfl) ?_
  refine seq_in ?_
  refine seq_ops [] [] [(1, cI p1), (2, cI p2), (3, .c (.pk 3 0)), (8, cB (decide (p2 < 3)))] [(3, .var (eTMap p0) false)] (fun t => t) (by kernel_rfl) ?_
  rcases ofCond H with ⟨c2, H⟩ | ⟨c2, H⟩
  · refine ite_t c2 (by kernel_rfl) ?_
    refine seq_ops [] [] [(6, cI (W ((W (3 * p1)) + p2)))] [] (fun t => t) (by kernel_rfl) ?_
    refine ends_ret ?_
    obtain rfl := Option.some.inj H
    exact And.intro (.inl rfl) rfl
  · refine ite_f c2 (by kernel_rfl) ?_
    refine ends_skip ?_
    change EndsI _ _ _ _ _ _
    obtain ⟨v3, h4, H⟩ := ofBind H
    refine seq_ops [.res (cI v3)] [] [(6, cI (W ((W ((W (3 * v3)) + p2)) - 3)))] [] (fun t => aI (s_mNext_ok p0 p1 p2 v3 h4) (t)) (by kernel_rfl) ?_
    refine ends_ret ?_
    obtain rfl := Option.some.inj H
    exact And.intro (.inl rfl) rfl

def s_mRoad_ir : S :=
 (.seq (.ops [⟨some 3, .box 5 (.t 0), none⟩, ⟨some 6, .mv (.v (.bool false)), none⟩])
 (.seq (.draw 8 [⟨some 7, .fad 4 (.t 3), none⟩, ⟨some 8, .load 1 false (.t 7), none⟩, ⟨some 9, .load 5 true (.t 3), none⟩, ⟨some 10, .mv (.t 1), none⟩, ⟨some 11, .mv (.t 2), none⟩, ⟨some 12, .call 237 [.t 9, .t 10, .t 11], none⟩, ⟨some 13, .call 81 [.t 8, .t 12], none⟩, ⟨some 6, .mv (.t 13), none⟩])
 .ret))
noncomputable def X.s_mRoad (p0 : TMap) (p1 : Int) (p2 : Int) : Option Bool :=
  ((X.s_mEdge p0 p1 p2).bind fun v1 => ((X.s_l1Has p0.Roads v1).bind fun v3 => some v3))
theorem s_mRoad_ok (p0 : TMap) (p1 : Int) (p2 : Int) (r : Bool) (H : X.s_mRoad p0 p1 p2 = some r) : FnOk Tryz.prog gl 183 [.agg (eTMap p0), cI p1, cI p2] (cB r) := by
  unfold X.s_mRoad at H
  refine fn_in (fn := Tryz.f183) (ir := s_mRoad_ir) (s1 := lit [(6, cB r)] []) Tryz.func183 (by kernel_rfl) (by kernel_rfl) (by kernel_rfl) (by kernel_rfl) (by kernel_rfl) ?_
  refine seq_ops [] [] [(1, cI p1), (2, cI p2), (3, .c (.pk 3 0))] [(3, .var (eTMap p0) false)] (fun t => t) (by kernel_rfl) ?_
  obtain ⟨v1, h2, H⟩ := ofBind H
  obtain ⟨v3, h4, H⟩ := ofBind H
  refine seq_draw [.res (cI v1), .res (cB v3)] [] [(6, cB v3)] [] (fun t => aI (s_mEdge_ok p0 p1 p2 v1 h2) (aI trivial (aI (rfl : ([] : List Nat) = []) (aI (s_l1Has_ok p0.Roads v1 v3 h4) (aI trivial (aI (rfl : ([] : List Nat) = []) (t))))))) (by kernel_rfl) ?_
  refine ends_ret ?_
  obtain rfl := Option.some.inj H
  exact And.intro (.inl rfl) rfl

def s_mRiver_ir : S :=
 (.seq (.ops [⟨some 3, .box 5 (.t 0), none⟩, ⟨some 6, .mv (.v (.bool false)), none⟩])
 (.seq (.draw 8 [⟨some 7, .fad 3 (.t 3), none⟩, ⟨some 8, .load 1 false (.t 7), none⟩, ⟨some 9, .load 5 true (.t 3), none⟩, ⟨some 10, .mv (.t 1), none⟩, ⟨some 11, .mv (.t 2), none⟩, ⟨some 12, .call 237 [.t 9, .t 10, .t 11], none⟩, ⟨some 13, .call 81 [.t 8, .t 12], none⟩, ⟨some 6, .mv (.t 13), none⟩])
 .ret))
noncomputable def X.s_mRiver (p0 : TMap) (p1 : Int) (p2 : Int) : Option Bool :=
  ((X.s_mEdge p0 p1 p2).bind fun v1 => ((X.s_l1Has p0.Rivers v1).bind fun v3 => some v3))
theorem s_mRiver_ok (p0 : TMap) (p1 : Int) (p2 : Int) (r : Bool) (H : X.s_mRiver p0 p1 p2 = some r) : FnOk Tryz.prog gl 185 [.agg (eTMap p0), cI p1, cI p2] (cB r) := by
  unfold X.s_mRiver at H
  refine fn_in (fn := Tryz.f185) (ir := s_mRiver_ir) (s1 := lit [(6, cB r)] []) Tryz.func185 (by kernel_rfl) (by kernel_rfl) (by kernel_rfl) (by kernel_rfl) (by kernel_rfl) ?_
  refine seq_ops [] [] [(1, cI p1), (2, cI p2), (3, .c (.pk 3 0))] [(3, .var (eTMap p0) false)] (fun t => t) (by kernel_rfl) ?_
  obtain ⟨v1, h2, H⟩ := ofBind H
  obtain ⟨v3, h4, H⟩ := ofBind H
  refine seq_draw [.res (cI v1), .res (cB v3)] [] [(6, cB v3)] [] (fun t => aI (s_mEdge_ok p0 p1 p2 v1 h2) (aI trivial (aI (rfl : ([] : List Nat) = []) (aI (s_l1Has_ok p0.Rivers v1 v3 h4) (aI trivial (aI (rfl : ([] : List Nat) = []) (t))))))) (by kernel_rfl) ?_
  refine ends_ret ?_
  obtain rfl := Option.some.inj H
  exact And.intro (.inl rfl) rfl

def s_zExerts_ir : S :=
 (.seq (.ops [⟨some 4, .box 12 (.t 0), none⟩, ⟨some 5, .box 3 (.t 1), none⟩, ⟨some 8, .mv (.v (.bool false)), none⟩])
 (.seq (.ops [⟨some 11, .fad 2 (.t 5), none⟩, ⟨some 12, .load 1 false (.t 11), none⟩, ⟨some 13, .mv (.t 2), none⟩, ⟨some 14, .iad 4 (.t 12) (.t 13), none⟩, ⟨some 15, .load 4 true (.t 14), none⟩, ⟨some 9, .alloc [.int .i64 0, .int .i64 0, .int .i64 0, .int .i64 0], none⟩, ⟨none, .store 4 (.t 9) (.t 15), none⟩])
 (.seq (.seq (.ops [⟨some 16, .fad 2 (.t 9), none⟩, ⟨some 17, .load 1 false (.t 16), none⟩, ⟨some 18, .bin .lss (.t 17) (.v (.int .i64 0)), none⟩, ⟨some 19, .mv (.t 18), none⟩, ⟨some 20, .fad 0 (.t 4), some (19, false)⟩, ⟨some 21, .fad 1 (.t 20), some (19, false)⟩, ⟨some 22, .load 1 false (.t 21), some (19, false)⟩, ⟨some 23, .fad 1 (.t 9), some (19, false)⟩, ⟨some 24, .load 1 false (.t 23), some (19, false)⟩, ⟨some 25, .iad 6 (.t 22) (.t 24), some (19, false)⟩, ⟨some 26, .fad 4 (.t 25), some (19, false)⟩, ⟨some 27, .load 1 false (.t 26), some (19, false)⟩, ⟨some 28, .not (.t 27), some (19, false)⟩, ⟨some 29, .pick (.t 19) (.v (.bool true)) (.t 28), none⟩, ⟨some 30, .mv (.t 29), none⟩, ⟨some 31, .load 12 true (.t 4), some (30, false)⟩, ⟨some 32, .fad 1 (.t 9), some (30, false)⟩, ⟨some 33, .load 1 false (.t 32), some (30, false)⟩, ⟨some 34, .mv (.t 3), some (30, false)⟩, ⟨some 35, .call 182 [.t 31, .t 33, .t 34], some (30, false)⟩, ⟨some 36, .bin .eql (.t 35) (.v (.int .i64 0)), some (30, false)⟩, ⟨some 37, .pick (.t 30) (.v (.bool true)) (.t 36), none⟩])
 (.ite (.t 37) (.seq (.ops [⟨some 8, .mv (.v (.bool false)), none⟩])
  .ret)
 .skip))
 (.seq (.seq (.ops [⟨some 10, .mv (.v (.int .i64 0)), none⟩])
 (.blk 0 (.loop (.seq (.seq (.ops [⟨some 38, .mv (.t 10), none⟩, ⟨some 39, .bin .lss (.t 38) (.v (.int .i64 6)), none⟩])
   (.ite (.t 39) .skip
   (.exit 0)))
   (.seq (.blk 1 (.seq (.ops [⟨some 42, .fad 7 (.t 4), none⟩, ⟨some 43, .load 5 true (.t 42), none⟩, ⟨some 44, .fad 2 (.t 9), none⟩, ⟨some 45, .load 1 false (.t 44), none⟩, ⟨some 46, .mv (.t 10), none⟩, ⟨some 47, .call 126 [.t 43, .t 45, .t 46], none⟩, ⟨some 48, .mv (.t 3), none⟩, ⟨some 49, .bin .eql (.t 47) (.t 48), none⟩])
    (.ite (.t 49) (.seq (.ops [⟨some 50, .fad 7 (.t 4), none⟩, ⟨some 51, .load 5 true (.t 50), none⟩, ⟨some 52, .fad 2 (.t 9), none⟩, ⟨some 53, .load 1 false (.t 52), none⟩, ⟨some 54, .mv (.t 10), none⟩, ⟨some 55, .call 185 [.t 51, .t 53, .t 54], none⟩, ⟨some 56, .not (.t 55), none⟩, ⟨some 57, .mv (.t 56), none⟩, ⟨some 58, .fad 7 (.t 4), some (57, false)⟩, ⟨some 59, .load 5 true (.t 58), some (57, false)⟩, ⟨some 60, .fad 2 (.t 9), some (57, false)⟩, ⟨some 61, .load 1 false (.t 60), some (57, false)⟩, ⟨some 62, .mv (.t 10), some (57, false)⟩, ⟨some 63, .call 183 [.t 59, .t 61, .t 62], some (57, false)⟩, ⟨some 64, .pick (.t 57) (.v (.bool true)) (.t 63), none⟩, ⟨some 8, .mv (.t 64), none⟩])
     .ret)
    .skip)))
   (.ops [⟨some 40, .mv (.t 10), none⟩, ⟨some 41, .bin .add (.t 40) (.v (.int .i64 1)), none⟩, ⟨some 10, .mv (.t 41), none⟩]))))))
 (.seq (.ops [⟨some 8, .mv (.v (.bool false)), none⟩])
 .ret)))))
noncomputable def X.s_zExerts (p0 : TBoard) (p1 : TState) (p2 : Int) (p3 : Int) : Option Bool :=
  ((at' zTUnit p1.Units p2).bind fun v1 => (bif (decide (v1.At < 0)) then some false else ((at' zTKind p0.Rules.Kinds v1.Kind).bind fun v11 => (bif (!v11.Zone) then some false else ((X.s_bCost p0 v1.Kind p3).bind fun v14 => (bif (v14 == 0) then some false else ((loop (fun (x38 : Int) => ((bif (decide (x38 < 6)) then ((X.s_mNext p0.Map v1.At x38).bind fun v41 => (bif (v41 == p3) then ((X.s_mRiver p0.Map v1.At x38).bind fun v44 => (bif (!v44) then some (Sum.inr (Sum.inr true)) else ((X.s_mRoad p0.Map v1.At x38).bind fun v47 => some (Sum.inr (Sum.inr v47))))) else some (Sum.inl (W (x38 + 1))))) else some (Sum.inr (Sum.inl ()))) : Option (Int ⊕ (Unit ⊕ Bool)))) 0).bind fun y49 => (Sum.elim (fun (y51 : Unit) => some false) (fun (y52 : Bool) => some y52) y49))))))))
theorem s_zExerts_ok (p0 : TBoard) (p1 : TState) (p2 : Int) (p3 : Int) (r : Bool) (H : X.s_zExerts p0 p1 p2 p3 = some r) : FnOk Tryz.prog gl 307 [.agg (eTBoard p0), .agg (eTState p1), cI p2, cI p3] (cB r) := by
  unfold X.s_zExerts at H
  refine fn_in (fn := Tryz.f307) (ir := s_zExerts_ir) (s1 := lit [(8, cB r)] []) Tryz.func307 (by kernel_rfl) (by kernel_rfl) (by kernel_rfl) (by kernel_rfl) (by kernel_rfl) ?_
  refine seq_ops [] [] [(2, cI p2), (3, cI p3), (4, .c (.pk 4 0)), (5, .c (.pk 5 0))] [(4, .var (eTBoard p0) false), (5, .var (eTState p1) false)] (fun t => t) (by kernel_rfl) ?_
  obtain ⟨v1, h2, H⟩ := ofBind H
  refine seq_ops [.cs (eTUnit v1)] [] [(3, cI p3), (4, .c (.pk 4 0)), (9, .c (.pk 9 0))] [(4, .var (eTBoard p0) false), (9, .var (eTUnit v1) false)] (fun t => aI (at_lt h2) (aI (at_enc (enc := eTUnit) h2) (t))) (by kernel_rfl) ?_
  refine seq_in ?_
  rcases ofCond H with ⟨c10, H⟩ | ⟨c10, H⟩
  · refine seq_ops [.g true, .g true, .g true, .g true, .g true, .g true, .g true, .g true, .g true, .g true, .g true, .g true, .g true, .g true, .g true, .g true, .g true] [] [(3, cI p3), (4, .c (.pk 4 0)), (9, .c (.pk 9 0)), (37, cB true)] [(4, .var (eTBoard p0) false), (9, .var (eTUnit v1) false)] (fun t => aI c10 (aI c10 (aI c10 (aI c10 (aI c10 (aI c10 (aI c10 (aI c10 (aI c10 (aI c10 (aI (rfl : (true : Bool) = true) (aI (rfl : (true : Bool) = true) (aI (rfl : (true : Bool) = true) (aI (rfl : (true : Bool) = true) (aI (rfl : (true : Bool) = true) (aI (rfl : (true : Bool) = true) (aI (rfl : (true : Bool) = true) (t)))))))))))))))))) (by kernel_rfl) ?_
    refine ite_t (rfl : (true : Bool) = true) (by kernel_rfl) ?_
    refine seq_ops [] [] [(8, cB false)] [] (fun t => t) (by kernel_rfl) ?_
    refine ends_ret ?_
    obtain rfl := Option.some.inj H
    exact And.intro (.inl rfl) rfl
  · obtain ⟨v11, h12, H⟩ := ofBind H
    rcases ofCond H with ⟨c13, H⟩ | ⟨c13, H⟩
    · refine seq_ops [.g false, .g false, .g false, .g false, .g false, .g false, .cs (eTKind v11), .g false, .g false, .g false, .g false, .g true, .g true, .g true, .g true, .g true, .g true, .g true] [] [(3, cI p3), (4, .c (.pk 4 0)), (9, .c (.pk 9 0)), (37, cB true)] [(4, .var (eTBoard p0) false), (9, .var (eTUnit v1) false)] (fun t => aI c10 (aI c10 (aI c10 (aI c10 (aI c10 (aI c10 (aI (at_lt h12) (aI (at_enc (enc := eTKind) h12) (aI c10 (aI c10 (aI c10 (aI c10 (aI c13 (aI c13 (aI c13 (aI c13 (aI c13 (aI c13 (aI c13 (t)))))))))))))))))))) (by kernel_rfl) ?_
      refine ite_t (rfl : (true : Bool) = true) (by kernel_rfl) ?_
      refine seq_ops [] [] [(8, cB false)] [] (fun t => t) (by kernel_rfl) ?_
      refine ends_ret ?_
      obtain rfl := Option.some.inj H
      exact And.intro (.inl rfl) rfl
    · obtain ⟨v14, h15, H⟩ := ofBind H
      refine seq_ops [.g false, .g false, .g false, .g false, .g false, .g false, .cs (eTKind v11), .g false, .g false, .g false, .g false, .g false, .g false, .g false, .g false, .g false, .res (cI v14), .g false, .g false] [] [(3, cI p3), (4, .c (.pk 4 0)), (9, .c (.pk 9 0)), (37, cB (v14 == 0))] [(4, .var (eTBoard p0) false), (9, .var (eTUnit v1) false)] (fun t => aI c10 (aI c10 (aI c10 (aI c10 (aI c10 (aI c10 (aI (at_lt h12) (aI (at_enc (enc := eTKind) h12) (aI c10 (aI c10 (aI c10 (aI c10 (aI c13 (aI c13 (aI c13 (aI c13 (aI c13 (aI (s_bCost_ok p0 v1.Kind p3 v14 h15) (aI c13 (aI c13 (t))))))))))))))))))))) (by kernel_rfl) ?_
      rcases ofCond H with ⟨c16, H⟩ | ⟨c16, H⟩
      · refine ite_t c16 (by kernel_rfl) ?_
        refine seq_ops [] [] [(8, cB false)] [] (fun t => t) (by kernel_rfl) ?_
        refine ends_ret ?_
        obtain rfl := Option.some.inj H
        exact And.intro (.inl rfl) rfl
      · refine ite_f c16 (by kernel_rfl) ?_
        refine ends_skip ?_
        change EndsI _ _ _ _ _ _
        refine seq_in ?_
        refine seq_ops [] [] [(3, cI p3), (4, .c (.pk 4 0)), (9, .c (.pk 9 0)), (10, cI 0)] [(4, .var (eTBoard p0) false), (9, .var (eTUnit v1) false)] (fun t => t) (by kernel_rfl) ?_
        refine ends_blk ?_
        obtain ⟨y49, h50, H⟩ := ofBind H
        refine loop_in (fun (x : Int) => lit [(3, cI p3), (4, .c (.pk 4 0)), (9, .c (.pk 9 0)), (10, cI x)] [(4, .var (eTBoard p0) false), (9, .var (eTUnit v1) false)]) (orJ (fun (z : Unit) => At (.exit 0) (lit [] [])) (fun (z : Bool) => At .ret (lit [(8, cB z)] []))) h50 ?_ ?_
        · clear H h50
          intro x38 y0 H
          refine seq_in ?_
          refine seq_ops [] [] [(3, cI p3), (4, .c (.pk 4 0)), (9, .c (.pk 9 0)), (10, cI x38), (39, cB (decide (x38 < 6)))] [(4, .var (eTBoard p0) false), (9, .var (eTUnit v1) false)] (fun t => t) (by kernel_rfl) ?_
          rcases ofCond H with ⟨c40, H⟩ | ⟨c40, H⟩
          · refine ite_t c40 (by kernel_rfl) ?_
            refine ends_skip ?_
            change EndsI _ _ _ _ _ _
            refine seq_in ?_
            refine ends_blk ?_
            obtain ⟨v41, h42, H⟩ := ofBind H
            refine seq_ops [.res (cI v41)] [] [(3, cI p3), (4, .c (.pk 4 0)), (9, .c (.pk 9 0)), (10, cI x38), (49, cB (v41 == p3))] [(4, .var (eTBoard p0) false), (9, .var (eTUnit v1) false)] (fun t => aI (s_mNext_ok p0.Map v1.At x38 v41 h42) (t)) (by kernel_rfl) ?_
            rcases ofCond H with ⟨c43, H⟩ | ⟨c43, H⟩
            · refine ite_t c43 (by kernel_rfl) ?_
              obtain ⟨v44, h45, H⟩ := ofBind H
              rcases ofCond H with ⟨c46, H⟩ | ⟨c46, H⟩
              · refine seq_ops [.res (cB v44), .g true, .g true, .g true, .g true, .g true, .g true, .g true] [] [(8, cB true)] [] (fun t => aI (s_mRiver_ok p0.Map v1.At x38 v44 h45) (aI c46 (aI c46 (aI c46 (aI c46 (aI c46 (aI c46 (aI c46 (t))))))))) (by kernel_rfl) ?_
                refine ends_ret ?_
                obtain rfl := Option.some.inj H
                exact And.intro (by simp) (And.intro rfl rfl)
              · obtain ⟨v47, h48, H⟩ := ofBind H
                refine seq_ops [.res (cB v44), .g false, .g false, .g false, .g false, .g false, .g false, .res (cB v47), .g false] [] [(8, cB v47)] [] (fun t => aI (s_mRiver_ok p0.Map v1.At x38 v44 h45) (aI c46 (aI c46 (aI c46 (aI c46 (aI c46 (aI c46 (aI (s_mRoad_ok p0.Map v1.At x38 v47 h48) (aI c46 (t)))))))))) (by kernel_rfl) ?_
                refine ends_ret ?_
                obtain rfl := Option.some.inj H
                exact And.intro (by simp) (And.intro rfl rfl)
            · refine ite_f c43 (by kernel_rfl) ?_
              refine ends_skip ?_
              change EndsI _ _ _ _ _ _
              refine one_ops [] [] [(3, cI p3), (4, .c (.pk 4 0)), (9, .c (.pk 9 0)), (10, cI (W (x38 + 1)))] [(4, .var (eTBoard p0) false), (9, .var (eTUnit v1) false)] (fun t => t) (by kernel_rfl) ?_
              obtain rfl := Option.some.inj H
              exact And.intro rfl rfl
          · refine ite_f c40 (by kernel_rfl) ?_
            refine tell [] [] [] (fun t => t) (by kernel_rfl) ?_
            refine ends_exit ?_
            obtain rfl := Option.some.inj H
            exact And.intro (by simp) (And.intro rfl rfl)
        · clear h50
          cases y49 with
          | inl y51 =>
            replace H := ofInl H
            intro e s q
            obtain ⟨rfl, rfl⟩ := q
            change EndsI _ _ _ _ _ _
            refine seq_ops [] [] [(8, cB false)] [] (fun t => t) (by kernel_rfl) ?_
            refine ends_ret ?_
            obtain rfl := Option.some.inj H
            exact And.intro (.inl rfl) rfl
          | inr y52 =>
            replace H := ofInr H
            intro e s q
            obtain ⟨rfl, rfl⟩ := q
            obtain rfl := Option.some.inj H
            exact And.intro (.inl rfl) rfl

def s_zSources_ir : S :=
 (.seq (.ops [⟨some 4, .box 12 (.t 0), none⟩, ⟨some 5, .box 3 (.t 1), none⟩, ⟨some 8, .mv (.v (.nil)), none⟩])
 (.seq (.ops [⟨some 9, .mv (.v (.nil)), none⟩])
 (.seq (.seq (.ops [⟨some 12, .fad 2 (.t 5), none⟩, ⟨some 13, .load 1 false (.t 12), none⟩, ⟨some 14, .len (.t 13), none⟩, ⟨some 15, .mv (.v (.int .i64 0)), none⟩])
 (.blk 0 (.loop (.seq (.ops [⟨some 16, .bin .lss (.t 15) (.t 14), none⟩])
   (.seq (.ite (.t 16) .skip
   (.exit 0))
   (.seq (.blk 1 (.seq (.ops [⟨some 17, .mv (.t 15), none⟩, ⟨some 18, .iad 4 (.t 13) (.t 15), none⟩, ⟨some 19, .load 4 true (.t 18), none⟩, ⟨some 11, .alloc [.int .i64 0, .int .i64 0, .int .i64 0, .int .i64 0], none⟩, ⟨some 10, .mv (.t 17), none⟩, ⟨none, .store 4 (.t 11) (.t 19), none⟩])
    (.seq (.ops [⟨some 20, .fad 0 (.t 11), none⟩, ⟨some 21, .load 1 false (.t 20), none⟩, ⟨some 22, .mv (.t 2), none⟩, ⟨some 23, .bin .eql (.t 21) (.t 22), none⟩, ⟨some 24, .mv (.t 23), none⟩, ⟨some 25, .load 12 true (.t 4), some (24, true)⟩, ⟨some 26, .load 3 true (.t 5), some (24, true)⟩, ⟨some 27, .mv (.t 10), some (24, true)⟩, ⟨some 28, .mv (.t 3), some (24, true)⟩, ⟨some 29, .call 307 [.t 25, .t 26, .t 27, .t 28], some (24, true)⟩, ⟨some 30, .pick (.t 24) (.t 29) (.v (.bool false)), none⟩])
    (.ite (.t 30) (.ops [⟨some 31, .mv (.t 9), none⟩, ⟨some 32, .mv (.t 10), none⟩, ⟨some 33, .bsl 1 [.t 32], none⟩, ⟨some 34, .app 1 8 (.t 31) (.t 33), none⟩, ⟨some 9, .mv (.t 34), none⟩])
    .skip))))
   (.ops [⟨some 35, .bin .add (.t 15) (.v (.int .i64 1)), none⟩, ⟨some 15, .mv (.t 35), none⟩])))))))
 (.seq (.ops [⟨some 36, .mv (.t 9), none⟩, ⟨some 8, .mv (.t 36), none⟩])
 .ret))))
noncomputable def X.s_zSources (p0 : TBoard) (p1 : TState) (p2 : Int) (p3 : Int) : Option (List Int) :=
  ((loop (fun (x20 : (Int × (List Int))) => ((bif (decide (x20.1 < (p1.Units.length : Int))) then ((at' zTUnit p1.Units x20.1).bind fun v23 => (bif (v23.Side == p2) then ((X.s_zExerts p0 p1 x20.1 p3).bind fun v26 => (bif v26 then (if (x20.2 ++ ([x20.1] : List Int)).length ≤ LIM then some (Sum.inl ((W (x20.1 + 1)), (x20.2 ++ ([x20.1] : List Int)))) else none) else some (Sum.inl ((W (x20.1 + 1)), x20.2)))) else some (Sum.inl ((W (x20.1 + 1)), x20.2)))) else some (Sum.inr x20.2)) : Option ((Int × (List Int)) ⊕ (List Int)))) (0, ([] : List Int))).bind fun y30 => some y30)
theorem s_zSources_ok (p0 : TBoard) (p1 : TState) (p2 : Int) (p3 : Int) (r : (List Int)) (H : X.s_zSources p0 p1 p2 p3 = some r) : FnOk Tryz.prog gl 300 [.agg (eTBoard p0), .agg (eTState p1), cI p2, cI p3] (.c (dat 1 eI zI r)) := by
  unfold X.s_zSources at H
  refine fn_in (fn := Tryz.f300) (ir := s_zSources_ir) (s1 := lit [(8, .c (dat 1 eI zI r))] []) Tryz.func300 (by kernel_rfl) (by kernel_rfl) (by kernel_rfl) (by kernel_rfl) (by kernel_rfl) ?_
  refine seq_ops [] [] [(2, cI p2), (3, cI p3), (4, .c (.pk 4 0)), (5, .c (.pk 5 0))] [(4, .var (eTBoard p0) false), (5, .var (eTState p1) false)] (fun t => t) (by kernel_rfl) ?_
  refine seq_ops [] [] [(2, cI p2), (3, cI p3), (4, .c (.pk 4 0)), (5, .c (.pk 5 0)), (9, .c (.nil))] [(4, .var (eTBoard p0) false), (5, .var (eTState p1) false)] (fun t => t) (by kernel_rfl) ?_
  refine seq_in ?_
  refine seq_ops [] [] [(2, cI p2), (3, cI p3), (4, .c (.pk 4 0)), (5, .c (.pk 5 0)), (9, .c (.nil)), (13, .c (dat 4 eTUnit zTUnit p1.Units)), (14, cI (p1.Units.length : Int)), (15, cI 0)] [(4, .var (eTBoard p0) false), (5, .var (eTState p1) false)] (fun t => lI p1.Units (t)) (by kernel_rfl) ?_
  refine ends_blk ?_
  obtain ⟨y30, h31, H⟩ := ofBind H
  refine tell [.nlo 9 1001 1 (fF eI zI ([] : List Int))] [(2, cI p2), (3, cI p3), (4, .c (.pk 4 0)), (5, .c (.pk 5 0)), (9, .c (.own 1001 1 0 (([] : List Int).length))), (13, .c (dat 4 eTUnit zTUnit p1.Units)), (14, cI (p1.Units.length : Int)), (15, cI 0)] [(4, .var (eTBoard p0) false), (5, .var (eTState p1) false), (1001, .arr 1 (([] : List Int).length) (fF eI zI ([] : List Int)) false)] (fun t => aI (by decide : 0 < 1) (t)) (by kernel_rfl) ?_
  refine loop_in (fun (x : (Int × (List Int))) => lit [(2, cI p2), (3, cI p3), (4, .c (.pk 4 0)), (5, .c (.pk 5 0)), (9, .c (.own 1001 1 0 x.2.length)), (13, .c (dat 4 eTUnit zTUnit p1.Units)), (14, cI (p1.Units.length : Int)), (15, cI x.1)] [(4, .var (eTBoard p0) false), (5, .var (eTState p1) false), (1001, .arr 1 x.2.length (fF eI zI x.2) false)]) (fun (z : (List Int)) => At (.exit 0) (lit [(9, .c (.own 1001 1 0 z.length))] [(1001, .arr 1 z.length (fF eI zI z) false)])) h31 ?_ ?_
  · clear H h31
    intro x20 y0 H
    refine seq_ops [] [] [(2, cI p2), (3, cI p3), (4, .c (.pk 4 0)), (5, .c (.pk 5 0)), (9, .c (.own 1001 1 0 x20.2.length)), (13, .c (dat 4 eTUnit zTUnit p1.Units)), (14, cI (p1.Units.length : Int)), (15, cI x20.1), (16, cB (decide (x20.1 < (p1.Units.length : Int))))] [(4, .var (eTBoard p0) false), (5, .var (eTState p1) false), (1001, .arr 1 x20.2.length (fF eI zI x20.2) false)] (fun t => t) (by kernel_rfl) ?_
    refine seq_in ?_
    rcases ofCond H with ⟨c22, H⟩ | ⟨c22, H⟩
    · refine ite_t c22 (by kernel_rfl) ?_
      refine ends_skip ?_
      change EndsI _ _ _ _ _ _
      refine seq_in ?_
      refine ends_blk ?_
      obtain ⟨v23, h24, H⟩ := ofBind H
      refine seq_ops [.cs (eTUnit v23)] [] [(2, cI p2), (3, cI p3), (4, .c (.pk 4 0)), (5, .c (.pk 5 0)), (9, .c (.own 1001 1 0 x20.2.length)), (10, cI x20.1), (11, .c (.pk 11 0)), (13, .c (dat 4 eTUnit zTUnit p1.Units)), (14, cI (p1.Units.length : Int)), (15, cI x20.1)] [(4, .var (eTBoard p0) false), (5, .var (eTState p1) false), (11, .var (eTUnit v23) false), (1001, .arr 1 x20.2.length (fF eI zI x20.2) false)] (fun t => aI (at_lt h24) (aI (at_enc (enc := eTUnit) h24) (t))) (by kernel_rfl) ?_
      rcases ofCond H with ⟨c25, H⟩ | ⟨c25, H⟩
      · obtain ⟨v26, h27, H⟩ := ofBind H
        refine seq_ops [.g true, .g true, .g true, .g true, .g true, .res (cB v26), .g true] [] [(2, cI p2), (3, cI p3), (4, .c (.pk 4 0)), (5, .c (.pk 5 0)), (9, .c (.own 1001 1 0 x20.2.length)), (10, cI x20.1), (13, .c (dat 4 eTUnit zTUnit p1.Units)), (14, cI (p1.Units.length : Int)), (15, cI x20.1), (30, cB v26)] [(4, .var (eTBoard p0) false), (5, .var (eTState p1) false), (1001, .arr 1 x20.2.length (fF eI zI x20.2) false)] (fun t => aI c25 (aI c25 (aI c25 (aI c25 (aI c25 (aI (s_zExerts_ok p0 p1 x20.1 p3 v26 h27) (aI c25 (t)))))))) (by kernel_rfl) ?_
        rcases ofCond H with ⟨c28, H⟩ | ⟨c28, H⟩
        · refine ite_t c28 (by kernel_rfl) ?_
          obtain ⟨g29, H⟩ := ofIf H
          refine one_ops [.fn ([x20.1] : List Int).length (fF eI zI ([x20.1] : List Int)), .fn (x20.2 ++ ([x20.1] : List Int)).length (fF eI zI (x20.2 ++ ([x20.1] : List Int)))] [] [(2, cI p2), (3, cI p3), (4, .c (.pk 4 0)), (5, .c (.pk 5 0)), (9, .c (.own 34 1 0 ((x20.2 ++ ([x20.1] : List Int)).length))), (13, .c (dat 4 eTUnit zTUnit p1.Units)), (14, cI (p1.Units.length : Int)), (15, cI x20.1)] [(4, .var (eTBoard p0) false), (5, .var (eTState p1) false), (34, .arr 1 ((x20.2 ++ ([x20.1] : List Int)).length) (fF eI zI (x20.2 ++ ([x20.1] : List Int))) false)] (fun t => aI (rfl : ([x20.1] : List Int).length = 1) (aI (fF_lit eI zI ([x20.1] : List Int)) (aI (And.intro (Nat.le_refl x20.2.length) (And.intro (@List.length_append _ x20.2 ([x20.1] : List Int)) g29)) (aI (fF_appL eI zI x20.2 ([x20.1] : List Int)) (aI (fF_appR eI zI x20.2 ([x20.1] : List Int)) (t)))))) (by kernel_rfl) ?_
          change EndsI _ _ _ _ _ _
          refine one_ops [] [.ren 34 1001] [(2, cI p2), (3, cI p3), (4, .c (.pk 4 0)), (5, .c (.pk 5 0)), (9, .c (.own 1001 1 0 ((x20.2 ++ ([x20.1] : List Int)).length))), (13, .c (dat 4 eTUnit zTUnit p1.Units)), (14, cI (p1.Units.length : Int)), (15, cI (W (x20.1 + 1)))] [(4, .var (eTBoard p0) false), (5, .var (eTState p1) false), (1001, .arr 1 ((x20.2 ++ ([x20.1] : List Int)).length) (fF eI zI (x20.2 ++ ([x20.1] : List Int))) false)] (fun t => t) (by kernel_rfl) ?_
          obtain rfl := Option.some.inj H
          exact And.intro rfl rfl
        · refine ite_f c28 (by kernel_rfl) ?_
          refine ends_skip ?_
          change EndsI _ _ _ _ _ _
          refine one_ops [] [] [(2, cI p2), (3, cI p3), (4, .c (.pk 4 0)), (5, .c (.pk 5 0)), (9, .c (.own 1001 1 0 x20.2.length)), (13, .c (dat 4 eTUnit zTUnit p1.Units)), (14, cI (p1.Units.length : Int)), (15, cI (W (x20.1 + 1)))] [(4, .var (eTBoard p0) false), (5, .var (eTState p1) false), (1001, .arr 1 x20.2.length (fF eI zI x20.2) false)] (fun t => t) (by kernel_rfl) ?_
          obtain rfl := Option.some.inj H
          exact And.intro rfl rfl
      · refine seq_ops [.g false, .g false, .g false, .g false, .g false, .g false] [] [(2, cI p2), (3, cI p3), (4, .c (.pk 4 0)), (5, .c (.pk 5 0)), (9, .c (.own 1001 1 0 x20.2.length)), (10, cI x20.1), (13, .c (dat 4 eTUnit zTUnit p1.Units)), (14, cI (p1.Units.length : Int)), (15, cI x20.1), (30, cB false)] [(4, .var (eTBoard p0) false), (5, .var (eTState p1) false), (1001, .arr 1 x20.2.length (fF eI zI x20.2) false)] (fun t => aI c25 (aI c25 (aI c25 (aI c25 (aI c25 (aI c25 (t))))))) (by kernel_rfl) ?_
        refine ite_f (rfl : (false : Bool) = false) (by kernel_rfl) ?_
        refine ends_skip ?_
        change EndsI _ _ _ _ _ _
        refine one_ops [] [] [(2, cI p2), (3, cI p3), (4, .c (.pk 4 0)), (5, .c (.pk 5 0)), (9, .c (.own 1001 1 0 x20.2.length)), (13, .c (dat 4 eTUnit zTUnit p1.Units)), (14, cI (p1.Units.length : Int)), (15, cI (W (x20.1 + 1)))] [(4, .var (eTBoard p0) false), (5, .var (eTState p1) false), (1001, .arr 1 x20.2.length (fF eI zI x20.2) false)] (fun t => t) (by kernel_rfl) ?_
        obtain rfl := Option.some.inj H
        exact And.intro rfl rfl
    · refine ite_f c22 (by kernel_rfl) ?_
      refine tell [] [(9, .c (.own 1001 1 0 x20.2.length))] [(1001, .arr 1 x20.2.length (fF eI zI x20.2) false)] (fun t => t) (by kernel_rfl) ?_
      refine ends_exit ?_
      obtain rfl := Option.some.inj H
      exact And.intro (by simp) (And.intro rfl rfl)
  · clear h31
    intro e s q
    obtain ⟨rfl, rfl⟩ := q
    change EndsI _ _ _ _ _ _
    refine seq_ops [] [] [(8, .c (.own 1001 1 0 y30.length))] [(1001, .arr 1 y30.length (fF eI zI y30) false)] (fun t => t) (by kernel_rfl) ?_
    refine tell [.frz 8] [(8, .c (dat 1 eI zI y30))] [] (fun t => aI (Nat.le_refl y30.length) (t)) (by kernel_rfl) ?_
    refine ends_ret ?_
    obtain rfl := Option.some.inj H
    exact And.intro (.inl rfl) rfl

def s_zIn_ir : S :=
 (.seq (.ops [⟨some 4, .box 12 (.t 0), none⟩, ⟨some 5, .box 3 (.t 1), none⟩, ⟨some 8, .mv (.v (.bool false)), none⟩])
 (.seq (.ops [⟨some 9, .load 12 true (.t 4), none⟩, ⟨some 10, .load 3 true (.t 5), none⟩, ⟨some 11, .mv (.t 3), none⟩, ⟨some 12, .mv (.t 2), none⟩, ⟨some 13, .call 300 [.t 9, .t 10, .t 11, .t 12], none⟩, ⟨some 14, .len (.t 13), none⟩, ⟨some 15, .bin .gtr (.t 14) (.v (.int .i64 0)), none⟩, ⟨some 8, .mv (.t 15), none⟩])
 .ret))
noncomputable def X.s_zIn (p0 : TBoard) (p1 : TState) (p2 : Int) (p3 : Int) : Option Bool :=
  ((X.s_zSources p0 p1 p3 p2).bind fun v1 => some (decide ((v1.length : Int) > 0)))
theorem s_zIn_ok (p0 : TBoard) (p1 : TState) (p2 : Int) (p3 : Int) (r : Bool) (H : X.s_zIn p0 p1 p2 p3 = some r) : FnOk Tryz.prog gl 292 [.agg (eTBoard p0), .agg (eTState p1), cI p2, cI p3] (cB r) := by
  unfold X.s_zIn at H
  refine fn_in (fn := Tryz.f292) (ir := s_zIn_ir) (s1 := lit [(8, cB r)] []) Tryz.func292 (by kernel_rfl) (by kernel_rfl) (by kernel_rfl) (by kernel_rfl) (by kernel_rfl) ?_
  refine seq_ops [] [] [(2, cI p2), (3, cI p3), (4, .c (.pk 4 0)), (5, .c (.pk 5 0))] [(4, .var (eTBoard p0) false), (5, .var (eTState p1) false)] (fun t => t) (by kernel_rfl) ?_
  obtain ⟨v1, h2, H⟩ := ofBind H
  refine seq_ops [.res (.c (dat 1 eI zI v1))] [] [(8, cB (decide ((v1.length : Int) > 0)))] [] (fun t => aI (s_zSources_ok p0 p1 p3 p2 v1 h2) (lI v1 (t))) (by kernel_rfl) ?_
  refine ends_ret ?_
  obtain rfl := Option.some.inj H
  exact And.intro (.inl rfl) rfl

def s_zControl_ir : S :=
 (.seq (.ops [⟨some 3, .box 12 (.t 0), none⟩, ⟨some 4, .box 3 (.t 1), none⟩, ⟨some 6, .mv (.v (.int .i64 0)), none⟩])
 (.seq (.seq (.ops [⟨some 10, .load 3 true (.t 4), none⟩, ⟨some 11, .mv (.t 2), none⟩, ⟨some 12, .call 291 [.t 10, .t 11], none⟩, ⟨some 7, .mv (.t 12), none⟩])
 (.seq (.ops [⟨some 13, .mv (.t 7), none⟩, ⟨some 14, .bin .geq (.t 13) (.v (.int .i64 0)), none⟩])
 (.ite (.t 14) (.seq (.ops [⟨some 15, .mv (.t 7), none⟩, ⟨some 6, .mv (.t 15), none⟩])
  .ret)
 .skip)))
 (.seq (.draw 10 [⟨some 16, .load 12 true (.t 3), none⟩, ⟨some 17, .load 3 true (.t 4), none⟩, ⟨some 18, .mv (.t 2), none⟩, ⟨some 19, .call 292 [.t 16, .t 17, .t 18, .v (.int .i64 0)], none⟩, ⟨some 20, .load 12 true (.t 3), none⟩, ⟨some 21, .load 3 true (.t 4), none⟩, ⟨some 22, .mv (.t 2), none⟩, ⟨some 23, .call 292 [.t 20, .t 21, .t 22, .v (.int .i64 1)], none⟩, ⟨some 8, .mv (.t 19), none⟩, ⟨some 9, .mv (.t 23), none⟩])
 (.seq (.blk 0 (.seq (.ops [⟨some 25, .mv (.t 8), none⟩, ⟨some 26, .mv (.t 25), none⟩, ⟨some 27, .mv (.t 9), some (26, true)⟩, ⟨some 28, .pick (.t 26) (.t 27) (.v (.bool false)), none⟩, ⟨some 24, .mv (.t 28), none⟩])
  (.ite (.t 24) (.seq (.ops [⟨some 6, .mv (.v (.int .i64 2)), none⟩])
   .ret)
  (.seq (.ops [⟨some 30, .mv (.t 8), none⟩, ⟨some 29, .mv (.t 30), none⟩])
   (.ite (.t 29) (.seq (.ops [⟨some 6, .mv (.v (.int .i64 0)), none⟩])
    .ret)
   (.seq (.ops [⟨some 32, .mv (.t 9), none⟩, ⟨some 31, .mv (.t 32), none⟩])
    (.ite (.t 31) (.seq (.ops [⟨some 6, .mv (.v (.int .i64 1)), none⟩])
     .ret)
    .skip)))))))
 (.seq (.ops [⟨some 6, .mv (.v (.int .i64 (-1))), none⟩])
 .ret)))))
noncomputable def X.s_zControl (p0 : TBoard) (p1 : TState) (p2 : Int) : Option Int :=
  ((X.s_sOwner p1 p2).bind fun v4 => (bif (decide (v4 ≥ 0)) then some v4 else ((X.s_zIn p0 p1 p2 0).bind fun v7 => ((X.s_zIn p0 p1 p2 1).bind fun v9 => (bif v7 then (bif v9 then some 2 else some 0) else (bif v9 then some 1 else some (-1)))))))
theorem s_zControl_ok (p0 : TBoard) (p1 : TState) (p2 : Int) (r : Int) (H : X.s_zControl p0 p1 p2 = some r) : FnOk Tryz.prog gl 280 [.agg (eTBoard p0), .agg (eTState p1), cI p2] (cI r) := by
  unfold X.s_zControl at H
  refine fn_in (fn := Tryz.f280) (ir := s_zControl_ir) (s1 := lit [(6, cI r)] []) Tryz.func280 (by kernel_rfl) (by kernel_rfl) (by kernel_rfl) (by kernel_rfl) (by kernel_rfl) ?_
  refine seq_ops [] [] [(2, cI p2), (3, .c (.pk 3 0)), (4, .c (.pk 4 0))] [(3, .var (eTBoard p0) false), (4, .var (eTState p1) false)] (fun t => t) (by kernel_rfl) ?_
  refine seq_in ?_
  obtain ⟨v4, h5, H⟩ := ofBind H
  refine seq_ops [.res (cI v4)] [] [(2, cI p2), (3, .c (.pk 3 0)), (4, .c (.pk 4 0)), (7, cI v4)] [(3, .var (eTBoard p0) false), (4, .var (eTState p1) false)] (fun t => aI (s_sOwner_ok p1 p2 v4 h5) (t)) (by kernel_rfl) ?_
  refine seq_ops [] [] [(2, cI p2), (3, .c (.pk 3 0)), (4, .c (.pk 4 0)), (7, cI v4), (14, cB (decide (v4 ≥ 0)))] [(3, .var (eTBoard p0) false), (4, .var (eTState p1) false)] (fun t => t) (by kernel_rfl) ?_
  rcases ofCond H with ⟨c6, H⟩ | ⟨c6, H⟩
  · refine ite_t c6 (by kernel_rfl) ?_
    refine seq_ops [] [] [(6, cI v4)] [] (fun t => t) (by kernel_rfl) ?_
    refine ends_ret ?_
    obtain rfl := Option.some.inj H
    exact And.intro (.inl rfl) rfl
  · refine ite_f c6 (by kernel_rfl) ?_
    refine ends_skip ?_
    change EndsI _ _ _ _ _ _
    obtain ⟨v7, h8, H⟩ := ofBind H
    obtain ⟨v9, h10, H⟩ := ofBind H
    refine seq_draw [.res (cB v7), .res (cB v9)] [] [(8, cB v7), (9, cB v9)] [] (fun t => aI (s_zIn_ok p0 p1 p2 0 v7 h8) (aI trivial (aI (rfl : ([] : List Nat) = []) (aI (s_zIn_ok p0 p1 p2 1 v9 h10) (aI trivial (aI (rfl : ([] : List Nat) = []) (t))))))) (by kernel_rfl) ?_
    refine seq_in ?_
    refine ends_blk ?_
    rcases ofCond H with ⟨c11, H⟩ | ⟨c11, H⟩
    · refine seq_ops [.g true, .g true] [] [(8, cB v7), (9, cB v9), (24, cB v9)] [] (fun t => aI c11 (aI c11 (t))) (by kernel_rfl) ?_
      rcases ofCond H with ⟨c12, H⟩ | ⟨c12, H⟩
      · refine ite_t c12 (by kernel_rfl) ?_
        refine seq_ops [] [] [(6, cI 2)] [] (fun t => t) (by kernel_rfl) ?_
        refine ends_ret ?_
        obtain rfl := Option.some.inj H
        exact And.intro (.inl rfl) rfl
      · refine ite_f c12 (by kernel_rfl) ?_
        refine seq_ops [] [] [(9, cB v9), (29, cB v7)] [] (fun t => t) (by kernel_rfl) ?_
        refine ite_t c11 (by kernel_rfl) ?_
        refine seq_ops [] [] [(6, cI 0)] [] (fun t => t) (by kernel_rfl) ?_
        refine ends_ret ?_
        obtain rfl := Option.some.inj H
        exact And.intro (.inl rfl) rfl
    · refine seq_ops [.g false, .g false] [] [(8, cB v7), (9, cB v9), (24, cB false)] [] (fun t => aI c11 (aI c11 (t))) (by kernel_rfl) ?_
      refine ite_f (rfl : (false : Bool) = false) (by kernel_rfl) ?_
      refine seq_ops [] [] [(9, cB v9), (29, cB v7)] [] (fun t => t) (by kernel_rfl) ?_
      refine ite_f c11 (by kernel_rfl) ?_
      refine seq_ops [] [] [(31, cB v9)] [] (fun t => t) (by kernel_rfl) ?_
      rcases ofCond H with ⟨c13, H⟩ | ⟨c13, H⟩
      · refine ite_t c13 (by kernel_rfl) ?_
        refine seq_ops [] [] [(6, cI 1)] [] (fun t => t) (by kernel_rfl) ?_
        refine ends_ret ?_
        obtain rfl := Option.some.inj H
        exact And.intro (.inl rfl) rfl
      · refine ite_f c13 (by kernel_rfl) ?_
        refine ends_skip ?_
        change EndsI _ _ _ _ _ _
        refine seq_ops [] [] [(6, cI (-1))] [] (fun t => t) (by kernel_rfl) ?_
        refine ends_ret ?_
        obtain rfl := Option.some.inj H
        exact And.intro (.inl rfl) rfl

def s_vcHolder_ir : S :=
 (.seq (.ops [⟨some 3, .box 12 (.t 0), none⟩, ⟨some 4, .box 3 (.t 1), none⟩, ⟨some 6, .mv (.v (.int .i64 0)), none⟩])
 (.seq (.seq (.ops [⟨some 8, .load 12 true (.t 3), none⟩, ⟨some 9, .load 3 true (.t 4), none⟩, ⟨some 10, .mv (.t 2), none⟩, ⟨some 11, .call 280 [.t 8, .t 9, .t 10], none⟩, ⟨some 7, .mv (.t 11), none⟩])
 (.seq (.ops [⟨some 12, .mv (.t 7), none⟩, ⟨some 13, .bin .eql (.t 12) (.v (.int .i64 0)), none⟩, ⟨some 14, .mv (.t 13), none⟩, ⟨some 15, .mv (.t 7), some (14, false)⟩, ⟨some 16, .bin .eql (.t 15) (.v (.int .i64 1)), some (14, false)⟩, ⟨some 17, .pick (.t 14) (.v (.bool true)) (.t 16), none⟩])
 (.ite (.t 17) (.seq (.ops [⟨some 18, .mv (.t 7), none⟩, ⟨some 6, .mv (.t 18), none⟩])
  .ret)
 .skip)))
 (.seq (.ops [⟨some 6, .mv (.v (.int .i64 (-1))), none⟩])
 .ret)))
noncomputable def X.s_vcHolder (p0 : TBoard) (p1 : TState) (p2 : Int) : Option Int :=
  ((X.s_zControl p0 p1 p2).bind fun v1 => (bif (v1 == 0) then some v1 else (bif (v1 == 1) then some v1 else some (-1))))
theorem s_vcHolder_ok (p0 : TBoard) (p1 : TState) (p2 : Int) (r : Int) (H : X.s_vcHolder p0 p1 p2 = some r) : FnOk Tryz.prog gl 251 [.agg (eTBoard p0), .agg (eTState p1), cI p2] (cI r) := by
  unfold X.s_vcHolder at H
  refine fn_in (fn := Tryz.f251) (ir := s_vcHolder_ir) (s1 := lit [(6, cI r)] []) Tryz.func251 (by kernel_rfl) (by kernel_rfl) (by kernel_rfl) (by kernel_rfl) (by kernel_rfl) ?_
  refine seq_ops [] [] [(2, cI p2), (3, .c (.pk 3 0)), (4, .c (.pk 4 0))] [(3, .var (eTBoard p0) false), (4, .var (eTState p1) false)] (fun t => t) (by kernel_rfl) ?_
  refine seq_in ?_
  obtain ⟨v1, h2, H⟩ := ofBind H
  refine seq_ops [.res (cI v1)] [] [(7, cI v1)] [] (fun t => aI (s_zControl_ok p0 p1 p2 v1 h2) (t)) (by kernel_rfl) ?_
  rcases ofCond H with ⟨c3, H⟩ | ⟨c3, H⟩
  · refine seq_ops [.g true, .g true, .g true] [] [(7, cI v1), (17, cB true)] [] (fun t => aI c3 (aI c3 (aI c3 (t)))) (by kernel_rfl) ?_
    refine ite_t (rfl : (true : Bool) = true) (by kernel_rfl) ?_
    refine seq_ops [] [] [(6, cI v1)] [] (fun t => t) (by kernel_rfl) ?_
    refine ends_ret ?_
    obtain rfl := Option.some.inj H
    exact And.intro (.inl rfl) rfl
  · refine seq_ops [.g false, .g false, .g false] [] [(7, cI v1), (17, cB (v1 == 1))] [] (fun t => aI c3 (aI c3 (aI c3 (t)))) (by kernel_rfl) ?_
    rcases ofCond H with ⟨c4, H⟩ | ⟨c4, H⟩
    · refine ite_t c4 (by kernel_rfl) ?_
      refine seq_ops [] [] [(6, cI v1)] [] (fun t => t) (by kernel_rfl) ?_
      refine ends_ret ?_
      obtain rfl := Option.some.inj H
      exact And.intro (.inl rfl) rfl
    · refine ite_f c4 (by kernel_rfl) ?_
      refine ends_skip ?_
      change EndsI _ _ _ _ _ _
      refine seq_ops [] [] [(6, cI (-1))] [] (fun t => t) (by kernel_rfl) ?_
      refine ends_ret ?_
      obtain rfl := Option.some.inj H
      exact And.intro (.inl rfl) rfl

def s_vcGoals_ir : S :=
 (.seq (.ops [⟨some 4, .box 12 (.t 0), none⟩, ⟨some 5, .box 3 (.t 1), none⟩, ⟨some 6, .box 3 (.t 2), none⟩, ⟨some 8, .mv (.v (.int .i64 0)), none⟩])
 (.seq (.ops [⟨some 9, .mv (.v (.int .i64 0)), none⟩])
 (.seq (.seq (.ops [⟨some 12, .fad 0 (.t 6), none⟩, ⟨some 13, .load 1 false (.t 12), none⟩, ⟨some 14, .len (.t 13), none⟩, ⟨some 15, .mv (.v (.int .i64 0)), none⟩])
 (.blk 0 (.loop (.seq (.ops [⟨some 16, .bin .lss (.t 15) (.t 14), none⟩])
   (.seq (.ite (.t 16) .skip
   (.exit 0))
   (.seq (.blk 1 (.seq (.ops [⟨some 17, .iad 2 (.t 13) (.t 15), none⟩, ⟨some 18, .load 2 true (.t 17), none⟩, ⟨some 11, .alloc [.int .i64 0, .int .i64 0], none⟩, ⟨none, .store 2 (.t 11) (.t 18), none⟩])
    (.seq (.ops [⟨some 19, .load 12 true (.t 4), none⟩, ⟨some 20, .load 3 true (.t 5), none⟩, ⟨some 21, .fad 0 (.t 11), none⟩, ⟨some 22, .load 1 false (.t 21), none⟩, ⟨some 23, .call 251 [.t 19, .t 20, .t 22], none⟩, ⟨some 24, .mv (.t 3), none⟩, ⟨some 25, .bin .eql (.t 23) (.t 24), none⟩])
    (.ite (.t 25) (.ops [⟨some 26, .mv (.t 9), none⟩, ⟨some 27, .fad 1 (.t 11), none⟩, ⟨some 28, .load 1 false (.t 27), none⟩, ⟨some 29, .bin .add (.t 26) (.t 28), none⟩, ⟨some 9, .mv (.t 29), none⟩])
    .skip))))
   (.ops [⟨some 30, .bin .add (.t 15) (.v (.int .i64 1)), none⟩, ⟨some 15, .mv (.t 30), none⟩])))))))
 (.seq (.ops [⟨some 31, .mv (.t 9), none⟩, ⟨some 8, .mv (.t 31), none⟩])
 .ret))))
noncomputable def X.s_vcGoals (p0 : TBoard) (p1 : TState) (p2 : TConditions) (p3 : Int) : Option Int :=
  ((loop (fun (x16 : (Int × Int)) => ((bif (decide (x16.2 < (p2.Goals.length : Int))) then ((at' zTGoal p2.Goals x16.2).bind fun v19 => ((X.s_vcHolder p0 p1 v19.At).bind fun v21 => (bif (v21 == p3) then some (Sum.inl ((W (x16.1 + v19.Points)), (W (x16.2 + 1)))) else some (Sum.inl (x16.1, (W (x16.2 + 1))))))) else some (Sum.inr x16.1)) : Option ((Int × Int) ⊕ Int))) (0, 0)).bind fun y24 => some y24)
theorem s_vcGoals_ok (p0 : TBoard) (p1 : TState) (p2 : TConditions) (p3 : Int) (r : Int) (H : X.s_vcGoals p0 p1 p2 p3 = some r) : FnOk Tryz.prog gl 208 [.agg (eTBoard p0), .agg (eTState p1), .agg (eTConditions p2), cI p3] (cI r) := by
  unfold X.s_vcGoals at H
  refine fn_in (fn := Tryz.f208) (ir := s_vcGoals_ir) (s1 := lit [(8, cI r)] []) Tryz.func208 (by kernel_rfl) (by kernel_rfl) (by kernel_rfl) (by kernel_rfl) (by kernel_rfl) ?_
  refine seq_ops [] [] [(3, cI p3), (4, .c (.pk 4 0)), (5, .c (.pk 5 0)), (6, .c (.pk 6 0))] [(4, .var (eTBoard p0) false), (5, .var (eTState p1) false), (6, .var (eTConditions p2) false)] (fun t => t) (by kernel_rfl) ?_
  refine seq_ops [] [] [(3, cI p3), (4, .c (.pk 4 0)), (5, .c (.pk 5 0)), (6, .c (.pk 6 0)), (9, cI 0)] [(4, .var (eTBoard p0) false), (5, .var (eTState p1) false), (6, .var (eTConditions p2) false)] (fun t => t) (by kernel_rfl) ?_
  refine seq_in ?_
  refine seq_ops [] [] [(3, cI p3), (4, .c (.pk 4 0)), (5, .c (.pk 5 0)), (9, cI 0), (13, .c (dat 2 eTGoal zTGoal p2.Goals)), (14, cI (p2.Goals.length : Int)), (15, cI 0)] [(4, .var (eTBoard p0) false), (5, .var (eTState p1) false)] (fun t => lI p2.Goals (t)) (by kernel_rfl) ?_
  refine ends_blk ?_
  obtain ⟨y24, h25, H⟩ := ofBind H
  refine loop_in (fun (x : (Int × Int)) => lit [(3, cI p3), (4, .c (.pk 4 0)), (5, .c (.pk 5 0)), (9, cI x.1), (13, .c (dat 2 eTGoal zTGoal p2.Goals)), (14, cI (p2.Goals.length : Int)), (15, cI x.2)] [(4, .var (eTBoard p0) false), (5, .var (eTState p1) false)]) (fun (z : Int) => At (.exit 0) (lit [(9, cI z)] [])) h25 ?_ ?_
  · clear H h25
    intro x16 y0 H
    refine seq_ops [] [] [(3, cI p3), (4, .c (.pk 4 0)), (5, .c (.pk 5 0)), (9, cI x16.1), (13, .c (dat 2 eTGoal zTGoal p2.Goals)), (14, cI (p2.Goals.length : Int)), (15, cI x16.2), (16, cB (decide (x16.2 < (p2.Goals.length : Int))))] [(4, .var (eTBoard p0) false), (5, .var (eTState p1) false)] (fun t => t) (by kernel_rfl) ?_
    refine seq_in ?_
    rcases ofCond H with ⟨c18, H⟩ | ⟨c18, H⟩
    · refine ite_t c18 (by kernel_rfl) ?_
      refine ends_skip ?_
      change EndsI _ _ _ _ _ _
      refine seq_in ?_
      refine ends_blk ?_
      obtain ⟨v19, h20, H⟩ := ofBind H
      refine seq_ops [.cs (eTGoal v19)] [] [(3, cI p3), (4, .c (.pk 4 0)), (5, .c (.pk 5 0)), (9, cI x16.1), (11, .c (.pk 11 0)), (13, .c (dat 2 eTGoal zTGoal p2.Goals)), (14, cI (p2.Goals.length : Int)), (15, cI x16.2)] [(4, .var (eTBoard p0) false), (5, .var (eTState p1) false), (11, .var (eTGoal v19) false)] (fun t => aI (at_lt h20) (aI (at_enc (enc := eTGoal) h20) (t))) (by kernel_rfl) ?_
      obtain ⟨v21, h22, H⟩ := ofBind H
      refine seq_ops [.res (cI v21)] [] [(3, cI p3), (4, .c (.pk 4 0)), (5, .c (.pk 5 0)), (9, cI x16.1), (11, .c (.pk 11 0)), (13, .c (dat 2 eTGoal zTGoal p2.Goals)), (14, cI (p2.Goals.length : Int)), (15, cI x16.2), (25, cB (v21 == p3))] [(4, .var (eTBoard p0) false), (5, .var (eTState p1) false), (11, .var (eTGoal v19) false)] (fun t => aI (s_vcHolder_ok p0 p1 v19.At v21 h22) (t)) (by kernel_rfl) ?_
      rcases ofCond H with ⟨c23, H⟩ | ⟨c23, H⟩
      · refine ite_t c23 (by kernel_rfl) ?_
        refine one_ops [] [] [(3, cI p3), (4, .c (.pk 4 0)), (5, .c (.pk 5 0)), (9, cI (W (x16.1 + v19.Points))), (13, .c (dat 2 eTGoal zTGoal p2.Goals)), (14, cI (p2.Goals.length : Int)), (15, cI x16.2)] [(4, .var (eTBoard p0) false), (5, .var (eTState p1) false)] (fun t => t) (by kernel_rfl) ?_
        change EndsI _ _ _ _ _ _
        refine one_ops [] [] [(3, cI p3), (4, .c (.pk 4 0)), (5, .c (.pk 5 0)), (9, cI (W (x16.1 + v19.Points))), (13, .c (dat 2 eTGoal zTGoal p2.Goals)), (14, cI (p2.Goals.length : Int)), (15, cI (W (x16.2 + 1)))] [(4, .var (eTBoard p0) false), (5, .var (eTState p1) false)] (fun t => t) (by kernel_rfl) ?_
        obtain rfl := Option.some.inj H
        exact And.intro rfl rfl
      · refine ite_f c23 (by kernel_rfl) ?_
        refine ends_skip ?_
        change EndsI _ _ _ _ _ _
        refine one_ops [] [] [(3, cI p3), (4, .c (.pk 4 0)), (5, .c (.pk 5 0)), (9, cI x16.1), (13, .c (dat 2 eTGoal zTGoal p2.Goals)), (14, cI (p2.Goals.length : Int)), (15, cI (W (x16.2 + 1)))] [(4, .var (eTBoard p0) false), (5, .var (eTState p1) false)] (fun t => t) (by kernel_rfl) ?_
        obtain rfl := Option.some.inj H
        exact And.intro rfl rfl
    · refine ite_f c18 (by kernel_rfl) ?_
      refine tell [] [(9, cI x16.1)] [] (fun t => t) (by kernel_rfl) ?_
      refine ends_exit ?_
      obtain rfl := Option.some.inj H
      exact And.intro (by simp) (And.intro rfl rfl)
  · clear h25
    intro e s q
    obtain ⟨rfl, rfl⟩ := q
    change EndsI _ _ _ _ _ _
    refine seq_ops [] [] [(8, cI y24)] [] (fun t => t) (by kernel_rfl) ?_
    refine ends_ret ?_
    obtain rfl := Option.some.inj H
    exact And.intro (.inl rfl) rfl

def s_vcTotal_ir : S :=
 (.seq (.ops [⟨some 4, .box 12 (.t 0), none⟩, ⟨some 5, .box 3 (.t 1), none⟩, ⟨some 6, .box 3 (.t 2), none⟩, ⟨some 8, .mv (.v (.int .i64 0)), none⟩])
 (.seq (.ops [⟨some 12, .load 12 true (.t 4), none⟩, ⟨some 13, .load 3 true (.t 5), none⟩, ⟨some 14, .mv (.t 3), none⟩, ⟨some 15, .bin .sub (.v (.int .i64 1)) (.t 14), none⟩, ⟨some 16, .call 207 [.t 12, .t 13, .t 15], none⟩, ⟨some 11, .mv (.t 16), none⟩, ⟨some 17, .ext (.t 11) 0, none⟩, ⟨some 18, .ext (.t 11) 1, none⟩, ⟨some 9, .mv (.t 17), none⟩, ⟨some 10, .mv (.t 18), none⟩])
 (.seq (.draw 11 [⟨some 19, .load 12 true (.t 4), none⟩, ⟨some 20, .load 3 true (.t 5), none⟩, ⟨some 21, .load 3 true (.t 6), none⟩, ⟨some 22, .mv (.t 3), none⟩, ⟨some 23, .call 208 [.t 19, .t 20, .t 21, .t 22], none⟩, ⟨some 24, .fad 1 (.t 6), none⟩, ⟨some 25, .load 1 false (.t 24), none⟩, ⟨some 26, .mv (.t 10), none⟩, ⟨some 27, .bin .mul (.t 25) (.t 26), none⟩, ⟨some 28, .bin .add (.t 23) (.t 27), none⟩, ⟨some 8, .mv (.t 28), none⟩])
 .ret)))
noncomputable def X.s_vcTotal (p0 : TBoard) (p1 : TState) (p2 : TConditions) (p3 : Int) : Option Int :=
  ((X.s_vcSteps p0 p1 (W (1 - p3))).bind fun v1 => ((X.s_vcGoals p0 p1 p2 p3).bind fun v3 => some (W (v3 + (W (p2.Step * v1.2))))))
theorem s_vcTotal_ok (p0 : TBoard) (p1 : TState) (p2 : TConditions) (p3 : Int) (r : Int) (H : X.s_vcTotal p0 p1 p2 p3 = some r) : FnOk Tryz.prog gl 152 [.agg (eTBoard p0), .agg (eTState p1), .agg (eTConditions p2), cI p3] (cI r) := by
  unfold X.s_vcTotal at H
  refine fn_in (fn := Tryz.f152) (ir := s_vcTotal_ir) (s1 := lit [(8, cI r)] []) Tryz.func152 (by kernel_rfl) (by kernel_rfl) (by kernel_rfl) (by kernel_rfl) (by kernel_rfl) ?_
  refine seq_ops [] [] [(3, cI p3), (4, .c (.pk 4 0)), (5, .c (.pk 5 0)), (6, .c (.pk 6 0))] [(4, .var (eTBoard p0) false), (5, .var (eTState p1) false), (6, .var (eTConditions p2) false)] (fun t => t) (by kernel_rfl) ?_
  obtain ⟨v1, h2, H⟩ := ofBind H
  refine seq_ops [.res (.tup [(false, [.int .i64 v1.1]), (false, [.int .i64 v1.2])])] [] [(3, cI p3), (4, .c (.pk 4 0)), (5, .c (.pk 5 0)), (6, .c (.pk 6 0)), (10, cI v1.2)] [(4, .var (eTBoard p0) false), (5, .var (eTState p1) false), (6, .var (eTConditions p2) false)] (fun t => aI (s_vcSteps_ok p0 p1 (W (1 - p3)) v1 h2) (t)) (by kernel_rfl) ?_
  obtain ⟨v3, h4, H⟩ := ofBind H
  refine seq_draw [.res (cI v3)] [] [(8, cI (W (v3 + (W (p2.Step * v1.2)))))] [] (fun t => aI (s_vcGoals_ok p0 p1 p2 p3 v3 h4) (aI trivial (aI (rfl : ([] : List Nat) = []) (t)))) (by kernel_rfl) ?_
  refine ends_ret ?_
  obtain rfl := Option.some.inj H
  exact And.intro (.inl rfl) rfl

def s_l1Most_ir : S :=
 (.seq (.ops [⟨some 4, .mv (.v (.int .i64 0)), none⟩])
 (.seq (.seq (.ops [⟨some 5, .mv (.t 0), none⟩, ⟨some 6, .mv (.t 1), none⟩, ⟨some 7, .bin .gtr (.t 5) (.t 6), none⟩])
 (.ite (.t 7) (.seq (.ops [⟨some 8, .mv (.t 0), none⟩, ⟨some 4, .mv (.t 8), none⟩])
  .ret)
 .skip))
 (.seq (.ops [⟨some 9, .mv (.t 1), none⟩, ⟨some 4, .mv (.t 9), none⟩])
 .ret)))
noncomputable def X.s_l1Most (p0 : Int) (p1 : Int) : Option Int :=
  (bif (decide (p0 > p1)) then some p0 else some p1)
theorem s_l1Most_ok (p0 : Int) (p1 : Int) (r : Int) (H : X.s_l1Most p0 p1 = some r) : FnOk Tryz.prog gl 153 [cI p0, cI p1] (cI r) := by
  unfold X.s_l1Most at H
  refine fn_in (fn := Tryz.f153) (ir := s_l1Most_ir) (s1 := lit [(4, cI r)] []) Tryz.func153 (by kernel_rfl) (by kernel_rfl) (by kernel_rfl) (by kernel_rfl) (by kernel_rfl) ?_
  refine seq_ops [] [] [(0, cI p0), (1, cI p1)] [] (fun t => t) (by kernel_rfl) ?_
  refine seq_in ?_
  refine seq_ops [] [] [(0, cI p0), (1, cI p1), (7, cB (decide (p0 > p1)))] [] (fun t => t) (by kernel_rfl) ?_
  rcases ofCond H with ⟨c1, H⟩ | ⟨c1, H⟩
  · refine ite_t c1 (by kernel_rfl) ?_
    refine seq_ops [] [] [(4, cI p0)] [] (fun t => t) (by kernel_rfl) ?_
    refine ends_ret ?_
    obtain rfl := Option.some.inj H
    exact And.intro (.inl rfl) rfl
  · refine ite_f c1 (by kernel_rfl) ?_
    refine ends_skip ?_
    change EndsI _ _ _ _ _ _
    refine seq_ops [] [] [(4, cI p1)] [] (fun t => t) (by kernel_rfl) ?_
    refine ends_ret ?_
    obtain rfl := Option.some.inj H
    exact And.intro (.inl rfl) rfl

def s_vcWinner_ir : S :=
 (.seq (.ops [⟨some 3, .box 12 (.t 0), none⟩, ⟨some 4, .box 3 (.t 1), none⟩, ⟨some 5, .box 3 (.t 2), none⟩, ⟨some 6, .mv (.v (.int .i64 0)), none⟩])
 (.seq (.draw 10 [⟨some 11, .load 3 true (.t 4), none⟩, ⟨some 12, .call 151 [.t 11, .v (.int .i64 0)], none⟩, ⟨some 13, .len (.t 12), none⟩, ⟨some 14, .bin .gtr (.t 13) (.v (.int .i64 0)), none⟩, ⟨some 15, .load 3 true (.t 4), none⟩, ⟨some 16, .call 151 [.t 15, .v (.int .i64 1)], none⟩, ⟨some 17, .len (.t 16), none⟩, ⟨some 18, .bin .gtr (.t 17) (.v (.int .i64 0)), none⟩, ⟨some 7, .mv (.t 14), none⟩, ⟨some 8, .mv (.t 18), none⟩])
 (.seq (.blk 0 (.seq (.ops [⟨some 20, .mv (.t 7), none⟩, ⟨some 21, .not (.t 20), none⟩, ⟨some 22, .mv (.t 21), none⟩, ⟨some 23, .mv (.t 8), some (22, true)⟩, ⟨some 24, .not (.t 23), some (22, true)⟩, ⟨some 25, .pick (.t 22) (.t 24) (.v (.bool false)), none⟩, ⟨some 19, .mv (.t 25), none⟩])
  (.ite (.t 19) (.seq (.ops [⟨some 6, .mv (.v (.int .i64 3)), none⟩])
   .ret)
  (.seq (.ops [⟨some 27, .mv (.t 7), none⟩, ⟨some 28, .not (.t 27), none⟩, ⟨some 26, .mv (.t 28), none⟩])
   (.ite (.t 26) (.seq (.ops [⟨some 6, .mv (.v (.int .i64 2)), none⟩])
    .ret)
   (.seq (.ops [⟨some 30, .mv (.t 8), none⟩, ⟨some 31, .not (.t 30), none⟩, ⟨some 29, .mv (.t 31), none⟩])
    (.ite (.t 29) (.seq (.ops [⟨some 6, .mv (.v (.int .i64 1)), none⟩])
     .ret)
    (.seq (.ops [⟨some 33, .fad 0 (.t 4), none⟩, ⟨some 34, .load 1 false (.t 33), none⟩, ⟨some 35, .fad 0 (.t 3), none⟩, ⟨some 36, .fad 6 (.t 35), none⟩, ⟨some 37, .load 1 false (.t 36), none⟩, ⟨some 38, .bin .lss (.t 34) (.t 37), none⟩, ⟨some 32, .mv (.t 38), none⟩])
     (.ite (.t 32) (.seq (.ops [⟨some 6, .mv (.v (.int .i64 0)), none⟩])
      .ret)
     .skip)))))))))
 (.seq (.draw 10 [⟨some 39, .load 12 true (.t 3), none⟩, ⟨some 40, .load 3 true (.t 4), none⟩, ⟨some 41, .load 3 true (.t 5), none⟩, ⟨some 42, .call 152 [.t 39, .t 40, .t 41, .v (.int .i64 0)], none⟩, ⟨some 43, .load 12 true (.t 3), none⟩, ⟨some 44, .load 3 true (.t 4), none⟩, ⟨some 45, .load 3 true (.t 5), none⟩, ⟨some 46, .call 152 [.t 43, .t 44, .t 45, .v (.int .i64 1)], none⟩, ⟨some 47, .bin .sub (.t 42) (.t 46), none⟩, ⟨some 9, .mv (.t 47), none⟩])
 (.seq (.ops [⟨some 48, .fad 2 (.t 5), none⟩, ⟨some 49, .load 1 false (.t 48), none⟩, ⟨some 50, .call 153 [.t 49, .v (.int .i64 1)], none⟩, ⟨some 10, .mv (.t 50), none⟩])
 (.seq (.blk 1 (.seq (.ops [⟨some 52, .mv (.t 9), none⟩, ⟨some 53, .mv (.t 10), none⟩, ⟨some 54, .bin .geq (.t 52) (.t 53), none⟩, ⟨some 51, .mv (.t 54), none⟩])
  (.ite (.t 51) (.seq (.ops [⟨some 6, .mv (.v (.int .i64 1)), none⟩])
   .ret)
  (.seq (.ops [⟨some 56, .mv (.t 9), none⟩, ⟨some 57, .neg (.t 56), none⟩, ⟨some 58, .mv (.t 10), none⟩, ⟨some 59, .bin .geq (.t 57) (.t 58), none⟩, ⟨some 55, .mv (.t 59), none⟩])
   (.ite (.t 55) (.seq (.ops [⟨some 6, .mv (.v (.int .i64 2)), none⟩])
    .ret)
   .skip)))))
 (.seq (.ops [⟨some 6, .mv (.v (.int .i64 3)), none⟩])
 .ret)))))))
noncomputable def X.s_vcWinner (p0 : TBoard) (p1 : TState) (p2 : TConditions) : Option Int :=
  ((X.s_sOf p1 0).bind fun v1 => ((X.s_sOf p1 1).bind fun v3 => (bif (!(decide ((v1.length : Int) > 0))) then (bif (!(decide ((v3.length : Int) > 0))) then some 3 else some 2) else (bif (!(decide ((v3.length : Int) > 0))) then some 1 else (bif (decide (p1.Turn < p0.Rules.Turns)) then some 0 else ((X.s_vcTotal p0 p1 p2 0).bind fun v13 => ((X.s_vcTotal p0 p1 p2 1).bind fun v15 => ((X.s_l1Most p2.Margin 1).bind fun v17 => (bif (decide ((W (v13 - v15)) ≥ v17)) then some 1 else (bif (decide ((W (0 - (W (v13 - v15)))) ≥ v17)) then some 2 else some 3))))))))))
theorem s_vcWinner_ok (p0 : TBoard) (p1 : TState) (p2 : TConditions) (r : Int) (H : X.s_vcWinner p0 p1 p2 = some r) : FnOk Tryz.prog gl 90 [.agg (eTBoard p0), .agg (eTState p1), .agg (eTConditions p2)] (cI r) := by
  unfold X.s_vcWinner at H
  refine fn_in (fn := Tryz.f90) (ir := s_vcWinner_ir) (s1 := lit [(6, cI r)] []) Tryz.func90 (by kernel_rfl) (by kernel_rfl) (by kernel_rfl) (by kernel_rfl) (by kernel_rfl) ?_
  refine seq_ops [] [] [(3, .c (.pk 3 0)), (4, .c (.pk 4 0)), (5, .c (.pk 5 0))] [(3, .var (eTBoard p0) false), (4, .var (eTState p1) false), (5, .var (eTConditions p2) false)] (fun t => t) (by kernel_rfl) ?_
  obtain ⟨v1, h2, H⟩ := ofBind H
  obtain ⟨v3, h4, H⟩ := ofBind H
  refine seq_draw [.res (.c (dat 1 eI zI v1)), .res (.c (dat 1 eI zI v3))] [] [(3, .c (.pk 3 0)), (4, .c (.pk 4 0)), (5, .c (.pk 5 0)), (7, cB (decide ((v1.length : Int) > 0))), (8, cB (decide ((v3.length : Int) > 0)))] [(3, .var (eTBoard p0) false), (4, .var (eTState p1) false), (5, .var (eTConditions p2) false)] (fun t => aI (s_sOf_ok p1 0 v1 h2) (aI (rfl : ([] : List Nat) = []) (aI (rfl : ([] : List Nat) = []) (aI (s_sOf_ok p1 1 v3 h4) (aI (rfl : ([] : List Nat) = []) (aI (rfl : ([] : List Nat) = []) (t))))))) (by kernel_rfl) ?_
  refine seq_in ?_
  refine ends_blk ?_
  rcases ofCond H with ⟨c9, H⟩ | ⟨c9, H⟩
  · refine seq_ops [.g true, .g true, .g true] [] [(3, .c (.pk 3 0)), (4, .c (.pk 4 0)), (5, .c (.pk 5 0)), (7, cB (decide ((v1.length : Int) > 0))), (8, cB (decide ((v3.length : Int) > 0))), (19, cB (!(decide ((v3.length : Int) > 0))))] [(3, .var (eTBoard p0) false), (4, .var (eTState p1) false), (5, .var (eTConditions p2) false)] (fun t => aI c9 (aI c9 (aI c9 (t)))) (by kernel_rfl) ?_
    rcases ofCond H with ⟨c10, H⟩ | ⟨c10, H⟩
    · refine ite_t c10 (by kernel_rfl) ?_
      refine seq_ops [] [] [(6, cI 3)] [] (fun t => t) (by kernel_rfl) ?_
      refine ends_ret ?_
      obtain rfl := Option.some.inj H
      exact And.intro (.inl rfl) rfl
    · refine ite_f c10 (by kernel_rfl) ?_
      refine seq_ops [] [] [(3, .c (.pk 3 0)), (4, .c (.pk 4 0)), (5, .c (.pk 5 0)), (8, cB (decide ((v3.length : Int) > 0))), (26, cB (!(decide ((v1.length : Int) > 0))))] [(3, .var (eTBoard p0) false), (4, .var (eTState p1) false), (5, .var (eTConditions p2) false)] (fun t => t) (by kernel_rfl) ?_
      refine ite_t c9 (by kernel_rfl) ?_
      refine seq_ops [] [] [(6, cI 2)] [] (fun t => t) (by kernel_rfl) ?_
      refine ends_ret ?_
      obtain rfl := Option.some.inj H
      exact And.intro (.inl rfl) rfl
  · refine seq_ops [.g false, .g false, .g false] [] [(3, .c (.pk 3 0)), (4, .c (.pk 4 0)), (5, .c (.pk 5 0)), (7, cB (decide ((v1.length : Int) > 0))), (8, cB (decide ((v3.length : Int) > 0))), (19, cB false)] [(3, .var (eTBoard p0) false), (4, .var (eTState p1) false), (5, .var (eTConditions p2) false)] (fun t => aI c9 (aI c9 (aI c9 (t)))) (by kernel_rfl) ?_
    refine ite_f (rfl : (false : Bool) = false) (by kernel_rfl) ?_
    refine seq_ops [] [] [(3, .c (.pk 3 0)), (4, .c (.pk 4 0)), (5, .c (.pk 5 0)), (8, cB (decide ((v3.length : Int) > 0))), (26, cB (!(decide ((v1.length : Int) > 0))))] [(3, .var (eTBoard p0) false), (4, .var (eTState p1) false), (5, .var (eTConditions p2) false)] (fun t => t) (by kernel_rfl) ?_
    refine ite_f c9 (by kernel_rfl) ?_
    refine seq_ops [] [] [(3, .c (.pk 3 0)), (4, .c (.pk 4 0)), (5, .c (.pk 5 0)), (29, cB (!(decide ((v3.length : Int) > 0))))] [(3, .var (eTBoard p0) false), (4, .var (eTState p1) false), (5, .var (eTConditions p2) false)] (fun t => t) (by kernel_rfl) ?_
    rcases ofCond H with ⟨c11, H⟩ | ⟨c11, H⟩
    · refine ite_t c11 (by kernel_rfl) ?_
      refine seq_ops [] [] [(6, cI 1)] [] (fun t => t) (by kernel_rfl) ?_
      refine ends_ret ?_
      obtain rfl := Option.some.inj H
      exact And.intro (.inl rfl) rfl
    · refine ite_f c11 (by kernel_rfl) ?_
      refine seq_ops [] [] [(3, .c (.pk 3 0)), (4, .c (.pk 4 0)), (5, .c (.pk 5 0)), (32, cB (decide (p1.Turn < p0.Rules.Turns)))] [(3, .var (eTBoard p0) false), (4, .var (eTState p1) false), (5, .var (eTConditions p2) false)] (fun t => t) (by kernel_rfl) ?_
      rcases ofCond H with ⟨c12, H⟩ | ⟨c12, H⟩
      · refine ite_t c12 (by kernel_rfl) ?_
        refine seq_ops [] [] [(6, cI 0)] [] (fun t => t) (by kernel_rfl) ?_
        refine ends_ret ?_
        obtain rfl := Option.some.inj H
        exact And.intro (.inl rfl) rfl
      · refine ite_f c12 (by kernel_rfl) ?_
        refine ends_skip ?_
        change EndsI _ _ _ _ _ _
        obtain ⟨v13, h14, H⟩ := ofBind H
        obtain ⟨v15, h16, H⟩ := ofBind H
        refine seq_draw [.res (cI v13), .res (cI v15)] [] [(5, .c (.pk 5 0)), (9, cI (W (v13 - v15)))] [(5, .var (eTConditions p2) false)] (fun t => aI (s_vcTotal_ok p0 p1 p2 0 v13 h14) (aI trivial (aI (rfl : ([] : List Nat) = []) (aI (s_vcTotal_ok p0 p1 p2 1 v15 h16) (aI trivial (aI (rfl : ([] : List Nat) = []) (t))))))) (by kernel_rfl) ?_
        obtain ⟨v17, h18, H⟩ := ofBind H
        refine seq_ops [.res (cI v17)] [] [(9, cI (W (v13 - v15))), (10, cI v17)] [] (fun t => aI (s_l1Most_ok p2.Margin 1 v17 h18) (t)) (by kernel_rfl) ?_
        refine seq_in ?_
        refine ends_blk ?_
        refine seq_ops [] [] [(9, cI (W (v13 - v15))), (10, cI v17), (51, cB (decide ((W (v13 - v15)) ≥ v17)))] [] (fun t => t) (by kernel_rfl) ?_
        rcases ofCond H with ⟨c19, H⟩ | ⟨c19, H⟩
        · refine ite_t c19 (by kernel_rfl) ?_
          refine seq_ops [] [] [(6, cI 1)] [] (fun t => t) (by kernel_rfl) ?_
          refine ends_ret ?_
          obtain rfl := Option.some.inj H
          exact And.intro (.inl rfl) rfl
        · refine ite_f c19 (by kernel_rfl) ?_
          refine seq_ops [] [] [(55, cB (decide ((W (0 - (W (v13 - v15)))) ≥ v17)))] [] (fun t => t) (by kernel_rfl) ?_
          rcases ofCond H with ⟨c20, H⟩ | ⟨c20, H⟩
          · refine ite_t c20 (by kernel_rfl) ?_
            refine seq_ops [] [] [(6, cI 2)] [] (fun t => t) (by kernel_rfl) ?_
            refine ends_ret ?_
            obtain rfl := Option.some.inj H
            exact And.intro (.inl rfl) rfl
          · refine ite_f c20 (by kernel_rfl) ?_
            refine ends_skip ?_
            change EndsI _ _ _ _ _ _
            refine seq_ops [] [] [(6, cI 3)] [] (fun t => t) (by kernel_rfl) ?_
            refine ends_ret ?_
            obtain rfl := Option.some.inj H
            exact And.intro (.inl rfl) rfl

def s_WinnerOf_ir : S :=
 (.seq (.ops [⟨some 3, .box 12 (.t 0), none⟩, ⟨some 4, .box 3 (.t 1), none⟩, ⟨some 5, .box 3 (.t 2), none⟩, ⟨some 6, .mv (.v (.int .i64 0)), none⟩, ⟨some 7, .mv (.v (.bool false)), none⟩])
 (.seq (.seq (.ops [⟨some 8, .load 12 true (.t 3), none⟩, ⟨some 9, .load 3 true (.t 4), none⟩, ⟨some 10, .load 3 true (.t 5), none⟩, ⟨some 11, .call 89 [.t 8, .t 9, .t 10], none⟩, ⟨some 12, .not (.t 11), none⟩])
 (.ite (.t 12) (.seq (.ops [⟨some 6, .mv (.v (.int .i64 0)), none⟩, ⟨some 7, .mv (.v (.bool false)), none⟩])
  .ret)
 .skip))
 (.seq (.ops [⟨some 13, .load 12 true (.t 3), none⟩, ⟨some 14, .load 3 true (.t 4), none⟩, ⟨some 15, .load 3 true (.t 5), none⟩, ⟨some 16, .call 90 [.t 13, .t 14, .t 15], none⟩, ⟨some 6, .mv (.t 16), none⟩, ⟨some 7, .mv (.v (.bool true)), none⟩])
 .ret)))
noncomputable def X.s_WinnerOf (p0 : TBoard) (p1 : TState) (p2 : TConditions) : Option (Int × Bool) :=
  ((X.s_vcInput p0 p1 p2).bind fun v1 => (bif (!v1) then some (0, false) else ((X.s_vcWinner p0 p1 p2).bind fun v4 => some (v4, true))))
theorem s_WinnerOf_ok (p0 : TBoard) (p1 : TState) (p2 : TConditions) (r : (Int × Bool)) (H : X.s_WinnerOf p0 p1 p2 = some r) : FnOk Tryz.prog gl 35 [.agg (eTBoard p0), .agg (eTState p1), .agg (eTConditions p2)] (.tup [(false, [.int .i64 r.1]), (false, [.bool r.2])]) := by
  unfold X.s_WinnerOf at H
  refine fn_in (fn := Tryz.f35) (ir := s_WinnerOf_ir) (s1 := lit [(6, cI r.1), (7, cB r.2)] []) Tryz.func35 (by kernel_rfl) (by kernel_rfl) (by kernel_rfl) (by kernel_rfl) (by kernel_rfl) ?_
  refine seq_ops [] [] [(3, .c (.pk 3 0)), (4, .c (.pk 4 0)), (5, .c (.pk 5 0))] [(3, .var (eTBoard p0) false), (4, .var (eTState p1) false), (5, .var (eTConditions p2) false)] (fun t => t) (by kernel_rfl) ?_
  refine seq_in ?_
  obtain ⟨v1, h2, H⟩ := ofBind H
  refine seq_ops [.res (cB v1)] [] [(3, .c (.pk 3 0)), (4, .c (.pk 4 0)), (5, .c (.pk 5 0)), (12, cB (!v1))] [(3, .var (eTBoard p0) false), (4, .var (eTState p1) false), (5, .var (eTConditions p2) false)] (fun t => aI (s_vcInput_ok p0 p1 p2 v1 h2) (t)) (by kernel_rfl) ?_
  rcases ofCond H with ⟨c3, H⟩ | ⟨c3, H⟩
  · refine ite_t c3 (by kernel_rfl) ?_
    refine seq_ops [] [] [(6, cI 0), (7, cB false)] [] (fun t => t) (by kernel_rfl) ?_
    refine ends_ret ?_
    obtain rfl := Option.some.inj H
    exact And.intro (.inl rfl) rfl
  · refine ite_f c3 (by kernel_rfl) ?_
    refine ends_skip ?_
    change EndsI _ _ _ _ _ _
    obtain ⟨v4, h5, H⟩ := ofBind H
    refine seq_ops [.res (cI v4)] [] [(6, cI v4), (7, cB true)] [] (fun t => aI (s_vcWinner_ok p0 p1 p2 v4 h5) (t)) (by kernel_rfl) ?_
    refine ends_ret ?_
    obtain rfl := Option.some.inj H
    exact And.intro (.inl rfl) rfl

def l_toGoal_ir : S :=
 (.seq (.ops [⟨some 1, .box 2 (.t 0), none⟩, ⟨some 2, .alloc [.int .i64 0, .int .i64 0], none⟩])
 (.seq (.ops [⟨some 3, .alloc [.int .i64 0, .int .i64 0], none⟩])
 (.seq (.ops [⟨some 4, .fad 0 (.t 1), none⟩, ⟨some 5, .load 1 false (.t 4), none⟩, ⟨some 6, .fad 0 (.t 3), none⟩, ⟨none, .store 1 (.t 6) (.t 5), none⟩])
 (.seq (.ops [⟨some 7, .fad 1 (.t 1), none⟩, ⟨some 8, .load 1 false (.t 7), none⟩, ⟨some 9, .fad 1 (.t 3), none⟩, ⟨none, .store 1 (.t 9) (.t 8), none⟩])
 (.seq (.ops [⟨some 10, .load 2 true (.t 3), none⟩, ⟨none, .store 2 (.t 2) (.t 10), none⟩])
 .ret)))))
noncomputable def X.l_toGoal (p0 : TGoal) : Option TGoal :=
  some p0
theorem l_toGoal_ok (p0 : TGoal) (r : TGoal) (H : X.l_toGoal p0 = some r) : FnOk Tryz.prog gl 154 [.agg (eTGoal p0)] (.agg (eTGoal r)) := by
  unfold X.l_toGoal at H
  refine fn_in (fn := Tryz.f154) (ir := l_toGoal_ir) (s1 := lit [(2, .c (.pk 2 0))] [(2, .var (eTGoal r) false)]) Tryz.func154 (by kernel_rfl) (by kernel_rfl) (by kernel_rfl) (by kernel_rfl) (by kernel_rfl) ?_
  refine seq_ops [] [] [(1, .c (.pk 1 0)), (2, .c (.pk 2 0))] [(1, .var (eTGoal p0) false), (2, .var [.int .i64 0, .int .i64 0] false)] (fun t => t) (by kernel_rfl) ?_
  refine seq_ops [] [] [(1, .c (.pk 1 0)), (2, .c (.pk 2 0)), (3, .c (.pk 3 0))] [(1, .var (eTGoal p0) false), (2, .var [.int .i64 0, .int .i64 0] false), (3, .var [.int .i64 0, .int .i64 0] false)] (fun t => t) (by kernel_rfl) ?_
  refine seq_ops [] [] [(1, .c (.pk 1 0)), (2, .c (.pk 2 0)), (3, .c (.pk 3 0))] [(1, .var (eTGoal p0) false), (2, .var [.int .i64 0, .int .i64 0] false), (3, .var [.int .i64 p0.At, .int .i64 0] false)] (fun t => t) (by kernel_rfl) ?_
  refine seq_ops [] [] [(2, .c (.pk 2 0)), (3, .c (.pk 3 0))] [(2, .var [.int .i64 0, .int .i64 0] false), (3, .var (eTGoal p0) false)] (fun t => t) (by kernel_rfl) ?_
  refine seq_ops [] [] [(2, .c (.pk 2 0))] [(2, .var (eTGoal p0) false)] (fun t => t) (by kernel_rfl) ?_
  refine ends_ret ?_
  obtain rfl := Option.some.inj H
  exact And.intro (.inl rfl) rfl

def l_toGoalS_ir : S :=
 (.seq (.ops [⟨some 2, .mv (.v (.nil)), none⟩])
 (.seq (.ops [⟨some 5, .mv (.t 0), none⟩, ⟨some 6, .len (.t 5), none⟩, ⟨some 7, .msl 2 16 [.int .i64 0, .int .i64 0] (.t 6), none⟩, ⟨some 3, .mv (.t 7), none⟩])
 (.seq (.seq (.ops [⟨some 4, .mv (.v (.int .i64 0)), none⟩])
 (.blk 0 (.loop (.seq (.seq (.ops [⟨some 8, .mv (.t 4), none⟩, ⟨some 9, .mv (.t 0), none⟩, ⟨some 10, .len (.t 9), none⟩, ⟨some 11, .bin .lss (.t 8) (.t 10), none⟩])
   (.ite (.t 11) .skip
   (.exit 0)))
   (.seq (.blk 1 (.ops [⟨some 14, .mv (.t 3), none⟩, ⟨some 15, .mv (.t 4), none⟩, ⟨some 16, .mv (.t 0), none⟩, ⟨some 17, .mv (.t 4), none⟩, ⟨some 18, .iad 2 (.t 16) (.t 17), none⟩, ⟨some 19, .load 2 true (.t 18), none⟩, ⟨some 20, .call 154 [.t 19], none⟩, ⟨some 21, .iad 2 (.t 14) (.t 15), none⟩, ⟨none, .store 2 (.t 21) (.t 20), none⟩]))
   (.ops [⟨some 12, .mv (.t 4), none⟩, ⟨some 13, .bin .add (.t 12) (.v (.int .i64 1)), none⟩, ⟨some 4, .mv (.t 13), none⟩]))))))
 (.seq (.ops [⟨some 22, .mv (.t 3), none⟩, ⟨some 2, .mv (.t 22), none⟩])
 .ret))))
noncomputable def X.l_toGoalS (p0 : (List TGoal)) : Option (List TGoal) :=
  (if 0 ≤ (p0.length : Int) ∧ (p0.length : Int).toNat ≤ LIM then ((loop (fun (x17 : (Int × (List TGoal))) => ((bif (decide (x17.1 < (p0.length : Int))) then ((at' zTGoal p0 x17.1).bind fun v20 => ((X.l_toGoal v20).bind fun v22 => (if 0 ≤ x17.1 ∧ x17.1 < (x17.2.length : Int) then some (Sum.inl ((W (x17.1 + 1)), (x17.2.set x17.1.toNat v22))) else none))) else some (Sum.inr x17.2)) : Option ((Int × (List TGoal)) ⊕ (List TGoal)))) (0, (List.replicate (p0.length : Int).toNat zTGoal))).bind fun y25 => some y25) else none)
theorem l_toGoalS_ok (p0 : (List TGoal)) (r : (List TGoal)) (H : X.l_toGoalS p0 = some r) : FnOk Tryz.prog gl 91 [.c (dat 2 eTGoal zTGoal p0)] (.c (dat 2 eTGoal zTGoal r)) := by
  unfold X.l_toGoalS at H
  refine fn_in (fn := Tryz.f91) (ir := l_toGoalS_ir) (s1 := lit [(2, .c (dat 2 eTGoal zTGoal r))] []) Tryz.func91 (by kernel_rfl) (by kernel_rfl) (by kernel_rfl) (by kernel_rfl) (by kernel_rfl) ?_
  refine seq_ops [] [] [(0, .c (dat 2 eTGoal zTGoal p0))] [] (fun t => t) (by kernel_rfl) ?_
  obtain ⟨g1, H⟩ := ofIf H
  refine seq_ops [.fn (List.replicate (p0.length : Int).toNat zTGoal).length (fF eTGoal zTGoal (List.replicate (p0.length : Int).toNat zTGoal))] [] [(0, .c (dat 2 eTGoal zTGoal p0)), (3, .c (.own 7 2 0 ((List.replicate (p0.length : Int).toNat zTGoal).length)))] [(7, .arr 2 ((List.replicate (p0.length : Int).toNat zTGoal).length) (fF eTGoal zTGoal (List.replicate (p0.length : Int).toNat zTGoal)) false)] (fun t => lI p0 (aI (And.intro g1.1 (And.intro (List.length_replicate (n := (p0.length : Int).toNat) (a := zTGoal)).symm (Nat.le_trans (Nat.le_of_eq List.length_replicate) g1.2 : (List.replicate (p0.length : Int).toNat zTGoal).length ≤ LIM))) (aI (fF_rep eTGoal zTGoal zTGoal (p0.length : Int).toNat) (t)))) (by kernel_rfl) ?_
  refine seq_in ?_
  refine seq_ops [] [] [(0, .c (dat 2 eTGoal zTGoal p0)), (3, .c (.own 7 2 0 ((List.replicate (p0.length : Int).toNat zTGoal).length))), (4, cI 0)] [(7, .arr 2 ((List.replicate (p0.length : Int).toNat zTGoal).length) (fF eTGoal zTGoal (List.replicate (p0.length : Int).toNat zTGoal)) false)] (fun t => t) (by kernel_rfl) ?_
  refine ends_blk ?_
  obtain ⟨y25, h26, H⟩ := ofBind H
  refine loop_in (fun (x : (Int × (List TGoal))) => lit [(0, .c (dat 2 eTGoal zTGoal p0)), (3, .c (.own 7 2 0 x.2.length)), (4, cI x.1)] [(7, .arr 2 x.2.length (fF eTGoal zTGoal x.2) false)]) (fun (z : (List TGoal)) => At (.exit 0) (lit [(3, .c (.own 7 2 0 z.length))] [(7, .arr 2 z.length (fF eTGoal zTGoal z) false)])) h26 ?_ ?_
  · clear H h26
    intro x17 y0 H
    refine seq_in ?_
    refine seq_ops [] [] [(0, .c (dat 2 eTGoal zTGoal p0)), (3, .c (.own 7 2 0 x17.2.length)), (4, cI x17.1), (11, cB (decide (x17.1 < (p0.length : Int))))] [(7, .arr 2 x17.2.length (fF eTGoal zTGoal x17.2) false)] (fun t => lI p0 (t)) (by kernel_rfl) ?_
    rcases ofCond H with ⟨c19, H⟩ | ⟨c19, H⟩
    · refine ite_t c19 (by kernel_rfl) ?_
      refine ends_skip ?_
      change EndsI _ _ _ _ _ _
      refine seq_in ?_
      refine ends_blk ?_
      obtain ⟨v20, h21, H⟩ := ofBind H
      obtain ⟨v22, h23, H⟩ := ofBind H
      obtain ⟨g24, H⟩ := ofIf H
      refine one_ops [.cs (eTGoal v20), .res (.agg (eTGoal v22)), .no, .fn 0 (fF eTGoal zTGoal (x17.2.set x17.1.toNat v22))] [] [(0, .c (dat 2 eTGoal zTGoal p0)), (3, .c (.own 7 2 0 x17.2.length)), (4, cI x17.1)] [(7, .arr 2 x17.2.length (fF eTGoal zTGoal (x17.2.set x17.1.toNat v22)) false)] (fun t => aI (at_lt h21) (aI (at_enc (enc := eTGoal) h21) (aI (l_toGoal_ok v20 v22 h23) (aI g24 (aI (rfl : true = true) (aI (nat_lt g24) (aI (by decide : 0 + 2 ≤ 2) (aI (fF_set eTGoal zTGoal x17.2 x17.1.toNat v22 (nat_lt g24) x17.2.length) (t))))))))) (by kernel_rfl) ?_
      change EndsI _ _ _ _ _ _
      refine one_ops [] [.rel 3 ((x17.2.set x17.1.toNat v22).length), .rep 7 ((x17.2.set x17.1.toNat v22).length) (fF eTGoal zTGoal (x17.2.set x17.1.toNat v22))] [(0, .c (dat 2 eTGoal zTGoal p0)), (3, .c (.own 7 2 0 ((x17.2.set x17.1.toNat v22).length))), (4, cI (W (x17.1 + 1)))] [(7, .arr 2 ((x17.2.set x17.1.toNat v22).length) (fF eTGoal zTGoal (x17.2.set x17.1.toNat v22)) false)] (fun t => aI (by simp : x17.2.length = (x17.2.set x17.1.toNat v22).length) (aI (Nat.le_of_eq (by simp : (x17.2.set x17.1.toNat v22).length = x17.2.length)) (aI (fun _ _ => rfl : ∀ i, i < (x17.2.set x17.1.toNat v22).length → (fF eTGoal zTGoal (x17.2.set x17.1.toNat v22)) i = (fF eTGoal zTGoal (x17.2.set x17.1.toNat v22)) i) (t)))) (by kernel_rfl) ?_
      obtain rfl := Option.some.inj H
      exact And.intro rfl rfl
    · refine ite_f c19 (by kernel_rfl) ?_
      refine tell [] [(3, .c (.own 7 2 0 x17.2.length))] [(7, .arr 2 x17.2.length (fF eTGoal zTGoal x17.2) false)] (fun t => t) (by kernel_rfl) ?_
      refine ends_exit ?_
      obtain rfl := Option.some.inj H
      exact And.intro (by simp) (And.intro rfl rfl)
  · clear h26
    intro e s q
    obtain ⟨rfl, rfl⟩ := q
    change EndsI _ _ _ _ _ _
    refine seq_ops [] [] [(2, .c (.own 7 2 0 y25.length))] [(7, .arr 2 y25.length (fF eTGoal zTGoal y25) false)] (fun t => t) (by kernel_rfl) ?_
    refine tell [.frz 2] [(2, .c (dat 2 eTGoal zTGoal y25))] [] (fun t => aI (Nat.le_refl y25.length) (t)) (by kernel_rfl) ?_
    refine ends_ret ?_
    obtain rfl := Option.some.inj H
    exact And.intro (.inl rfl) rfl

def l_toConditions_ir : S :=
 (.seq (.ops [⟨some 1, .box 3 (.t 0), none⟩, ⟨some 2, .alloc [.nil, .int .i64 0, .int .i64 0], none⟩])
 (.seq (.ops [⟨some 3, .alloc [.nil, .int .i64 0, .int .i64 0], none⟩])
 (.seq (.ops [⟨some 4, .fad 0 (.t 1), none⟩, ⟨some 5, .load 1 false (.t 4), none⟩, ⟨some 6, .call 91 [.t 5], none⟩, ⟨some 7, .fad 0 (.t 3), none⟩, ⟨none, .store 1 (.t 7) (.t 6), none⟩])
 (.seq (.ops [⟨some 8, .fad 1 (.t 1), none⟩, ⟨some 9, .load 1 false (.t 8), none⟩, ⟨some 10, .fad 1 (.t 3), none⟩, ⟨none, .store 1 (.t 10) (.t 9), none⟩])
 (.seq (.ops [⟨some 11, .fad 2 (.t 1), none⟩, ⟨some 12, .load 1 false (.t 11), none⟩, ⟨some 13, .fad 2 (.t 3), none⟩, ⟨none, .store 1 (.t 13) (.t 12), none⟩])
 (.seq (.ops [⟨some 14, .load 3 true (.t 3), none⟩, ⟨none, .store 3 (.t 2) (.t 14), none⟩])
 .ret))))))
noncomputable def X.l_toConditions (p0 : TConditions) : Option TConditions :=
  ((X.l_toGoalS p0.Goals).bind fun v1 => some (TConditions.mk v1 p0.Step p0.Margin))
theorem l_toConditions_ok (p0 : TConditions) (r : TConditions) (H : X.l_toConditions p0 = some r) : FnOk Tryz.prog gl 36 [.agg (eTConditions p0)] (.agg (eTConditions r)) := by
  unfold X.l_toConditions at H
  refine fn_in (fn := Tryz.f36) (ir := l_toConditions_ir) (s1 := lit [(2, .c (.pk 2 0))] [(2, .var (eTConditions r) false)]) Tryz.func36 (by kernel_rfl) (by kernel_rfl) (by kernel_rfl) (by kernel_rfl) (by kernel_rfl) ?_
  refine seq_ops [] [] [(1, .c (.pk 1 0)), (2, .c (.pk 2 0))] [(1, .var (eTConditions p0) false), (2, .var [.nil, .int .i64 0, .int .i64 0] false)] (fun t => t) (by kernel_rfl) ?_
  refine seq_ops [] [] [(1, .c (.pk 1 0)), (2, .c (.pk 2 0)), (3, .c (.pk 3 0))] [(1, .var (eTConditions p0) false), (2, .var [.nil, .int .i64 0, .int .i64 0] false), (3, .var [.nil, .int .i64 0, .int .i64 0] false)] (fun t => t) (by kernel_rfl) ?_
  obtain ⟨v1, h2, H⟩ := ofBind H
  refine seq_ops [.res (.c (dat 2 eTGoal zTGoal v1))] [] [(1, .c (.pk 1 0)), (2, .c (.pk 2 0)), (3, .c (.pk 3 0))] [(1, .var (eTConditions p0) false), (2, .var [.nil, .int .i64 0, .int .i64 0] false), (3, .var [dat 2 eTGoal zTGoal v1, .int .i64 0, .int .i64 0] false)] (fun t => aI (l_toGoalS_ok p0.Goals v1 h2) (t)) (by kernel_rfl) ?_
  refine seq_ops [] [] [(1, .c (.pk 1 0)), (2, .c (.pk 2 0)), (3, .c (.pk 3 0))] [(1, .var (eTConditions p0) false), (2, .var [.nil, .int .i64 0, .int .i64 0] false), (3, .var [dat 2 eTGoal zTGoal v1, .int .i64 p0.Step, .int .i64 0] false)] (fun t => t) (by kernel_rfl) ?_
  refine seq_ops [] [] [(2, .c (.pk 2 0)), (3, .c (.pk 3 0))] [(2, .var [.nil, .int .i64 0, .int .i64 0] false), (3, .var [dat 2 eTGoal zTGoal v1, .int .i64 p0.Step, .int .i64 p0.Margin] false)] (fun t => t) (by kernel_rfl) ?_
  refine seq_ops [] [] [(2, .c (.pk 2 0))] [(2, .var [dat 2 eTGoal zTGoal v1, .int .i64 p0.Step, .int .i64 p0.Margin] false)] (fun t => t) (by kernel_rfl) ?_
  refine ends_ret ?_
  obtain rfl := Option.some.inj H
  exact And.intro (.inl rfl) rfl

def i_sizeOf_ir : S :=
 (.seq (.ops [⟨some 1, .box 12 (.t 0), none⟩, ⟨some 2, .mv (.v (.int .i64 0)), none⟩])
 (.seq (.ops [⟨some 3, .fad 7 (.t 1), none⟩, ⟨some 4, .fad 2 (.t 3), none⟩, ⟨some 5, .load 1 false (.t 4), none⟩, ⟨some 6, .len (.t 5), none⟩, ⟨some 2, .mv (.t 6), none⟩])
 .ret))
noncomputable def X.i_sizeOf (p0 : TBoard) : Option Int :=
  some (p0.Map.Terrain.length : Int)
theorem i_sizeOf_ok (p0 : TBoard) (r : Int) (H : X.i_sizeOf p0 = some r) : FnOk Tryz.prog gl 83 [.agg (eTBoard p0)] (cI r) := by
  unfold X.i_sizeOf at H
  refine fn_in (fn := Tryz.f83) (ir := i_sizeOf_ir) (s1 := lit [(2, cI r)] []) Tryz.func83 (by kernel_rfl) (by kernel_rfl) (by kernel_rfl) (by kernel_rfl) (by kernel_rfl) ?_
  refine seq_ops [] [] [(1, .c (.pk 1 0))] [(1, .var (eTBoard p0) false)] (fun t => t) (by kernel_rfl) ?_
  refine seq_ops [] [] [(2, cI (p0.Map.Terrain.length : Int))] [] (fun t => lI p0.Map.Terrain (t)) (by kernel_rfl) ?_
  refine ends_ret ?_
  obtain rfl := Option.some.inj H
  exact And.intro (.inl rfl) rfl

def i_inRange_ir : S :=
 (.seq (.ops [⟨some 6, .mv (.v (.bool false)), none⟩])
 (.seq (.ops [⟨some 7, .mv (.t 1), none⟩, ⟨some 8, .mv (.t 0), none⟩, ⟨some 9, .bin .leq (.t 7) (.t 8), none⟩, ⟨some 10, .mv (.t 9), none⟩, ⟨some 11, .mv (.t 0), some (10, true)⟩, ⟨some 12, .mv (.t 2), some (10, true)⟩, ⟨some 13, .bin .leq (.t 11) (.t 12), some (10, true)⟩, ⟨some 14, .pick (.t 10) (.t 13) (.v (.bool false)), none⟩, ⟨some 6, .mv (.t 14), none⟩])
 .ret))
noncomputable def X.i_inRange (p0 : Int) (p1 : Int) (p2 : Int) : Option Bool :=
  (bif (decide (p1 ≤ p0)) then some (decide (p0 ≤ p2)) else some false)
theorem i_inRange_ok (p0 : Int) (p1 : Int) (p2 : Int) (r : Bool) (H : X.i_inRange p0 p1 p2 = some r) : FnOk Tryz.prog gl 130 [cI p0, cI p1, cI p2] (cB r) := by
  unfold X.i_inRange at H
  refine fn_in (fn := Tryz.f130) (ir := i_inRange_ir) (s1 := lit [(6, cB r)] []) Tryz.func130 (by kernel_rfl) (by kernel_rfl) (by kernel_rfl) (by kernel_rfl) (by kernel_rfl) ?_
  refine seq_ops [] [] [(0, cI p0), (1, cI p1), (2, cI p2)] [] (fun t => t) (by kernel_rfl) ?_
  rcases ofCond H with ⟨c1, H⟩ | ⟨c1, H⟩
  · refine seq_ops [.g true, .g true, .g true, .g true] [] [(6, cB (decide (p0 ≤ p2)))] [] (fun t => aI c1 (aI c1 (aI c1 (aI c1 (t))))) (by kernel_rfl) ?_
    refine ends_ret ?_
    obtain rfl := Option.some.inj H
    exact And.intro (.inl rfl) rfl
  · refine seq_ops [.g false, .g false, .g false, .g false] [] [(6, cB false)] [] (fun t => aI c1 (aI c1 (aI c1 (aI c1 (t))))) (by kernel_rfl) ?_
    refine ends_ret ?_
    obtain rfl := Option.some.inj H
    exact And.intro (.inl rfl) rfl

def i_isIndex_ir : S :=
 (.seq (.ops [⟨some 4, .mv (.v (.bool false)), none⟩])
 (.seq (.ops [⟨some 5, .mv (.t 0), none⟩, ⟨some 6, .mv (.t 1), none⟩, ⟨some 7, .bin .sub (.t 6) (.v (.int .i64 1)), none⟩, ⟨some 8, .call 130 [.t 5, .v (.int .i64 0), .t 7], none⟩, ⟨some 4, .mv (.t 8), none⟩])
 .ret))
noncomputable def X.i_isIndex (p0 : Int) (p1 : Int) : Option Bool :=
  ((X.i_inRange p0 0 (W (p1 - 1))).bind fun v1 => some v1)
theorem i_isIndex_ok (p0 : Int) (p1 : Int) (r : Bool) (H : X.i_isIndex p0 p1 = some r) : FnOk Tryz.prog gl 82 [cI p0, cI p1] (cB r) := by
  unfold X.i_isIndex at H
  refine fn_in (fn := Tryz.f82) (ir := i_isIndex_ir) (s1 := lit [(4, cB r)] []) Tryz.func82 (by kernel_rfl) (by kernel_rfl) (by kernel_rfl) (by kernel_rfl) (by kernel_rfl) ?_
  refine seq_ops [] [] [(0, cI p0), (1, cI p1)] [] (fun t => t) (by kernel_rfl) ?_
  obtain ⟨v1, h2, H⟩ := ofBind H
  refine seq_ops [.res (cB v1)] [] [(4, cB v1)] [] (fun t => aI (i_inRange_ok p0 0 (W (p1 - 1)) v1 h2) (t)) (by kernel_rfl) ?_
  refine ends_ret ?_
  obtain rfl := Option.some.inj H
  exact And.intro (.inl rfl) rfl

def i_isSide_ir : S :=
 (.seq (.ops [⟨some 2, .mv (.v (.bool false)), none⟩])
 (.seq (.ops [⟨some 3, .mv (.t 0), none⟩, ⟨some 4, .call 130 [.t 3, .v (.int .i64 0), .v (.int .i64 1)], none⟩, ⟨some 2, .mv (.t 4), none⟩])
 .ret))
noncomputable def X.i_isSide (p0 : Int) : Option Bool :=
  ((X.i_inRange p0 0 1).bind fun v1 => some v1)
theorem i_isSide_ok (p0 : Int) (r : Bool) (H : X.i_isSide p0 = some r) : FnOk Tryz.prog gl 113 [cI p0] (cB r) := by
  unfold X.i_isSide at H
  refine fn_in (fn := Tryz.f113) (ir := i_isSide_ir) (s1 := lit [(2, cB r)] []) Tryz.func113 (by kernel_rfl) (by kernel_rfl) (by kernel_rfl) (by kernel_rfl) (by kernel_rfl) ?_
  refine seq_ops [] [] [(0, cI p0)] [] (fun t => t) (by kernel_rfl) ?_
  obtain ⟨v1, h2, H⟩ := ofBind H
  refine seq_ops [.res (cB v1)] [] [(2, cB v1)] [] (fun t => aI (i_inRange_ok p0 0 1 v1 h2) (t)) (by kernel_rfl) ?_
  refine ends_ret ?_
  obtain rfl := Option.some.inj H
  exact And.intro (.inl rfl) rfl

def i_terrainAt_ir : S :=
 (.seq (.ops [⟨some 2, .box 12 (.t 0), none⟩, ⟨some 4, .alloc [.str [], .nil, .int .i64 0, .int .i64 0, .bool false], none⟩])
 (.seq (.draw 11 [⟨some 5, .fad 0 (.t 2), none⟩, ⟨some 6, .fad 0 (.t 5), none⟩, ⟨some 7, .load 1 false (.t 6), none⟩, ⟨some 8, .fad 7 (.t 2), none⟩, ⟨some 9, .fad 2 (.t 8), none⟩, ⟨some 10, .load 1 false (.t 9), none⟩, ⟨some 11, .mv (.t 1), none⟩, ⟨some 12, .iad 1 (.t 10) (.t 11), none⟩, ⟨some 13, .load 1 false (.t 12), none⟩, ⟨some 14, .iad 5 (.t 7) (.t 13), none⟩, ⟨some 15, .load 5 true (.t 14), none⟩, ⟨none, .store 5 (.t 4) (.t 15), none⟩])
 .ret))
noncomputable def X.i_terrainAt (p0 : TBoard) (p1 : Int) : Option TTerrain :=
  ((at' zI p0.Map.Terrain p1).bind fun v1 => ((at' zTTerrain p0.Rules.Terrains v1).bind fun v3 => some v3))
theorem i_terrainAt_ok (p0 : TBoard) (p1 : Int) (r : TTerrain) (H : X.i_terrainAt p0 p1 = some r) : FnOk Tryz.prog gl 257 [.agg (eTBoard p0), cI p1] (.agg (eTTerrain r)) := by
  unfold X.i_terrainAt at H
  refine fn_in (fn := Tryz.f257) (ir := i_terrainAt_ir) (s1 := lit [(4, .c (.pk 4 0))] [(4, .var (eTTerrain r) false)]) Tryz.func257 (by kernel_rfl) (by kernel_rfl) (by kernel_rfl) (by kernel_rfl) (by kernel_rfl) ?_
  refine seq_ops [] [] [(1, cI p1), (2, .c (.pk 2 0)), (4, .c (.pk 4 0))] [(2, .var (eTBoard p0) false), (4, .var [.str [], .nil, .int .i64 0, .int .i64 0, .bool false] false)] (fun t => t) (by kernel_rfl) ?_
  obtain ⟨v1, h2, H⟩ := ofBind H
  obtain ⟨v3, h4, H⟩ := ofBind H
  refine seq_draw [.cs (eI v1), .cs (eTTerrain v3)] [] [(4, .c (.pk 4 0))] [(4, .var (eTTerrain v3) false)] (fun t => aI (at_lt h2) (aI (at_enc (enc := eI) h2) (aI (rfl : ([] : List Nat) = []) (aI (at_lt h4) (aI (at_enc (enc := eTTerrain) h4) (aI (rfl : ([] : List Nat) = []) (t))))))) (by kernel_rfl) ?_
  refine ends_ret ?_
  obtain rfl := Option.some.inj H
  exact And.intro (.inl rfl) rfl

def i_enterCost_ir : S :=
 (.seq (.ops [⟨some 3, .box 12 (.t 0), none⟩, ⟨some 6, .mv (.v (.int .i64 0)), none⟩])
 (.seq (.ops [⟨some 7, .load 12 true (.t 3), none⟩, ⟨some 8, .mv (.t 2), none⟩, ⟨some 9, .call 257 [.t 7, .t 8], none⟩, ⟨some 10, .fld 1 1 false (.t 9), none⟩, ⟨some 11, .mv (.t 1), none⟩, ⟨some 12, .iad 1 (.t 10) (.t 11), none⟩, ⟨some 13, .load 1 false (.t 12), none⟩, ⟨some 6, .mv (.t 13), none⟩])
 .ret))
noncomputable def X.i_enterCost (p0 : TBoard) (p1 : Int) (p2 : Int) : Option Int :=
  ((X.i_terrainAt p0 p2).bind fun v1 => ((at' zI v1.Cost p1).bind fun v3 => some v3))
theorem i_enterCost_ok (p0 : TBoard) (p1 : Int) (p2 : Int) (r : Int) (H : X.i_enterCost p0 p1 p2 = some r) : FnOk Tryz.prog gl 219 [.agg (eTBoard p0), cI p1, cI p2] (cI r) := by
  unfold X.i_enterCost at H
  refine fn_in (fn := Tryz.f219) (ir := i_enterCost_ir) (s1 := lit [(6, cI r)] []) Tryz.func219 (by kernel_rfl) (by kernel_rfl) (by kernel_rfl) (by kernel_rfl) (by kernel_rfl) ?_
  refine seq_ops [] [] [(1, cI p1), (2, cI p2), (3, .c (.pk 3 0))] [(3, .var (eTBoard p0) false)] (fun t => t) (by kernel_rfl) ?_
  obtain ⟨v1, h2, H⟩ := ofBind H
  obtain ⟨v3, h4, H⟩ := ofBind H
  refine seq_ops [.res (.agg (eTTerrain v1)), .cs (eI v3)] [] [(6, cI v3)] [] (fun t => aI (i_terrainAt_ok p0 p2 v1 h2) (aI (at_lt h4) (aI (at_enc (enc := eI) h4) (t)))) (by kernel_rfl) ?_
  refine ends_ret ?_
  obtain rfl := Option.some.inj H
  exact And.intro (.inl rfl) rfl

def i_goodUnit_ir : S :=
 (.seq (.ops [⟨some 2, .box 12 (.t 0), none⟩, ⟨some 3, .box 4 (.t 1), none⟩, ⟨some 4, .mv (.v (.bool false)), none⟩])
 (.seq (.seq (.draw 28 [⟨some 5, .fad 0 (.t 3), none⟩, ⟨some 6, .load 1 false (.t 5), none⟩, ⟨some 7, .call 113 [.t 6], none⟩, ⟨some 8, .not (.t 7), none⟩, ⟨some 9, .mv (.t 8), none⟩, ⟨some 10, .fad 1 (.t 3), some (9, false)⟩, ⟨some 11, .load 1 false (.t 10), some (9, false)⟩, ⟨some 12, .fad 0 (.t 2), some (9, false)⟩, ⟨some 13, .fad 1 (.t 12), some (9, false)⟩, ⟨some 14, .load 1 false (.t 13), some (9, false)⟩, ⟨some 15, .len (.t 14), some (9, false)⟩, ⟨some 16, .call 82 [.t 11, .t 15], some (9, false)⟩, ⟨some 17, .not (.t 16), some (9, false)⟩, ⟨some 18, .pick (.t 9) (.v (.bool true)) (.t 17), none⟩, ⟨some 19, .mv (.t 18), none⟩, ⟨some 20, .fad 3 (.t 3), some (19, false)⟩, ⟨some 21, .load 1 false (.t 20), some (19, false)⟩, ⟨some 22, .fad 0 (.t 2), some (19, false)⟩, ⟨some 23, .fad 1 (.t 22), some (19, false)⟩, ⟨some 24, .load 1 false (.t 23), some (19, false)⟩, ⟨some 25, .fad 1 (.t 3), some (19, false)⟩, ⟨some 26, .load 1 false (.t 25), some (19, false)⟩, ⟨some 27, .iad 6 (.t 24) (.t 26), some (19, false)⟩, ⟨some 28, .fad 3 (.t 27), some (19, false)⟩, ⟨some 29, .load 1 false (.t 28), some (19, false)⟩, ⟨some 30, .call 130 [.t 21, .v (.int .i64 0), .t 29], some (19, false)⟩, ⟨some 31, .not (.t 30), some (19, false)⟩, ⟨some 32, .pick (.t 19) (.v (.bool true)) (.t 31), none⟩])
 (.ite (.t 32) (.seq (.ops [⟨some 4, .mv (.v (.bool false)), none⟩])
  .ret)
 .skip))
 (.seq (.seq (.ops [⟨some 33, .fad 2 (.t 3), none⟩, ⟨some 34, .load 1 false (.t 33), none⟩, ⟨some 35, .bin .eql (.t 34) (.v (.int .i64 (-1))), none⟩])
 (.ite (.t 35) (.seq (.ops [⟨some 4, .mv (.v (.bool true)), none⟩])
  .ret)
 .skip))
 (.seq (.draw 20 [⟨some 36, .fad 3 (.t 3), none⟩, ⟨some 37, .load 1 false (.t 36), none⟩, ⟨some 38, .bin .gtr (.t 37) (.v (.int .i64 0)), none⟩, ⟨some 39, .mv (.t 38), none⟩, ⟨some 40, .fad 2 (.t 3), some (39, true)⟩, ⟨some 41, .load 1 false (.t 40), some (39, true)⟩, ⟨some 42, .load 12 true (.t 2), some (39, true)⟩, ⟨some 43, .call 83 [.t 42], some (39, true)⟩, ⟨some 44, .call 82 [.t 41, .t 43], some (39, true)⟩, ⟨some 45, .pick (.t 39) (.t 44) (.v (.bool false)), none⟩, ⟨some 46, .mv (.t 45), none⟩, ⟨some 47, .load 12 true (.t 2), some (46, true)⟩, ⟨some 48, .fad 1 (.t 3), some (46, true)⟩, ⟨some 49, .load 1 false (.t 48), some (46, true)⟩, ⟨some 50, .fad 2 (.t 3), some (46, true)⟩, ⟨some 51, .load 1 false (.t 50), some (46, true)⟩, ⟨some 52, .call 219 [.t 47, .t 49, .t 51], some (46, true)⟩, ⟨some 53, .bin .neq (.t 52) (.v (.int .i64 0)), some (46, true)⟩, ⟨some 54, .pick (.t 46) (.t 53) (.v (.bool false)), none⟩, ⟨some 4, .mv (.t 54), none⟩])
 .ret))))
noncomputable def X.i_goodUnit (p0 : TBoard) (p1 : TUnit) : Option Bool :=
  ((X.i_isSide p1.Side).bind fun v12 => (bif (!v12) then some false else ((X.i_isIndex p1.Kind (p0.Rules.Kinds.length : Int)).bind fun v15 => (bif (!v15) then some false else ((at' zTKind p0.Rules.Kinds p1.Kind).bind fun v18 => ((X.i_inRange p1.Steps 0 v18.Steps).bind fun v20 => (bif (!v20) then some false else (bif (p1.At == (-1)) then some true else (bif (decide (p1.Steps > 0)) then ((X.i_sizeOf p0).bind fun v26 => ((X.i_isIndex p1.At v26).bind fun v28 => (bif v28 then ((X.i_enterCost p0 p1.Kind p1.At).bind fun v31 => some (v31 != 0)) else some false))) else some false)))))))))
theorem i_goodUnit_ok (p0 : TBoard) (p1 : TUnit) (r : Bool) (H : X.i_goodUnit p0 p1 = some r) : FnOk Tryz.prog gl 161 [.agg (eTBoard p0), .agg (eTUnit p1)] (cB r) := by
  unfold X.i_goodUnit at H
  refine fn_in (fn := Tryz.f161) (ir := i_goodUnit_ir) (s1 := lit [(4, cB r)] []) Tryz.func161 (by kernel_rfl) (by kernel_rfl) (by kernel_rfl) (by kernel_rfl) (by kernel_rfl) ?_
  refine seq_ops [] [] [(2, .c (.pk 2 0)), (3, .c (.pk 3 0))] [(2, .var (eTBoard p0) false), (3, .var (eTUnit p1) false)] (fun t => t) (by kernel_rfl) ?_
  refine seq_in ?_
  obtain ⟨v12, h13, H⟩ := ofBind H
  rcases ofCond H with ⟨c14, H⟩ | ⟨c14, H⟩
  · refine seq_draw [.res (cB v12), .g true, .g true, .g true, .g true, .g true, .g true, .g true, .g true, .g true, .g true, .g true, .g true, .g true, .g true, .g true, .g true, .g true, .g true, .g true, .g true, .g true, .g true] [] [(2, .c (.pk 2 0)), (3, .c (.pk 3 0)), (32, cB true)] [(2, .var (eTBoard p0) false), (3, .var (eTUnit p1) false)] (fun t => aI (i_isSide_ok p1.Side v12 h13) (aI trivial (aI (rfl : ([] : List Nat) = []) (aI c14 (aI c14 (aI c14 (aI c14 (aI c14 (aI c14 (aI c14 (aI c14 (aI c14 (aI (rfl : (true : Bool) = true) (aI (rfl : (true : Bool) = true) (aI (rfl : (true : Bool) = true) (aI (rfl : (true : Bool) = true) (aI (rfl : (true : Bool) = true) (aI (rfl : (true : Bool) = true) (aI (rfl : (true : Bool) = true) (aI (rfl : (true : Bool) = true) (aI (rfl : (true : Bool) = true) (aI (rfl : (true : Bool) = true) (aI (rfl : (true : Bool) = true) (aI (rfl : (true : Bool) = true) (aI (rfl : (true : Bool) = true) (t)))))))))))))))))))))))))) (by kernel_rfl) ?_
    refine ite_t (rfl : (true : Bool) = true) (by kernel_rfl) ?_
    refine seq_ops [] [] [(4, cB false)] [] (fun t => t) (by kernel_rfl) ?_
    refine ends_ret ?_
    obtain rfl := Option.some.inj H
    exact And.intro (.inl rfl) rfl
  · obtain ⟨v15, h16, H⟩ := ofBind H
    rcases ofCond H with ⟨c17, H⟩ | ⟨c17, H⟩
    · refine seq_draw [.res (cB v12), .g false, .g false, .g false, .g false, .g false, .g false, .g false, .res (cB v15), .g false, .g false, .g true, .g true, .g true, .g true, .g true, .g true, .g true, .g true, .g true, .g true, .g true, .g true, .g true] [] [(2, .c (.pk 2 0)), (3, .c (.pk 3 0)), (32, cB true)] [(2, .var (eTBoard p0) false), (3, .var (eTUnit p1) false)] (fun t => aI (i_isSide_ok p1.Side v12 h13) (aI trivial (aI (rfl : ([] : List Nat) = []) (aI c14 (aI c14 (aI c14 (aI c14 (aI c14 (aI c14 (aI c14 (aI (i_isIndex_ok p1.Kind (p0.Rules.Kinds.length : Int) v15 h16) (aI trivial (aI (rfl : ([] : List Nat) = []) (aI c14 (aI c14 (aI c17 (aI c17 (aI c17 (aI c17 (aI c17 (aI c17 (aI c17 (aI c17 (aI c17 (aI c17 (aI c17 (aI c17 (aI c17 (t))))))))))))))))))))))))))))) (by kernel_rfl) ?_
      refine ite_t (rfl : (true : Bool) = true) (by kernel_rfl) ?_
      refine seq_ops [] [] [(4, cB false)] [] (fun t => t) (by kernel_rfl) ?_
      refine ends_ret ?_
      obtain rfl := Option.some.inj H
      exact And.intro (.inl rfl) rfl
    · obtain ⟨v18, h19, H⟩ := ofBind H
      obtain ⟨v20, h21, H⟩ := ofBind H
      refine seq_draw [.res (cB v12), .g false, .g false, .g false, .g false, .g false, .g false, .g false, .res (cB v15), .g false, .g false, .g false, .g false, .g false, .g false, .g false, .g false, .g false, .g false, .cs (eTKind v18), .g false, .g false, .g false, .res (cB v20), .g false, .g false] [] [(2, .c (.pk 2 0)), (3, .c (.pk 3 0)), (32, cB (!v20))] [(2, .var (eTBoard p0) false), (3, .var (eTUnit p1) false)] (fun t => aI (i_isSide_ok p1.Side v12 h13) (aI trivial (aI (rfl : ([] : List Nat) = []) (aI c14 (aI c14 (aI c14 (aI c14 (aI c14 (aI c14 (aI c14 (aI (i_isIndex_ok p1.Kind (p0.Rules.Kinds.length : Int) v15 h16) (aI trivial (aI (rfl : ([] : List Nat) = []) (aI c14 (aI c14 (aI c17 (aI c17 (aI c17 (aI c17 (aI c17 (aI c17 (aI c17 (aI c17 (aI (at_lt h19) (aI (at_enc (enc := eTKind) h19) (aI c17 (aI c17 (aI (rfl : ([] : List Nat) = []) (aI c17 (aI (i_inRange_ok p1.Steps 0 v18.Steps v20 h21) (aI trivial (aI (rfl : ([] : List Nat) = []) (aI c17 (aI c17 (t))))))))))))))))))))))))))))))))))) (by kernel_rfl) ?_
      rcases ofCond H with ⟨c22, H⟩ | ⟨c22, H⟩
      · refine ite_t c22 (by kernel_rfl) ?_
        refine seq_ops [] [] [(4, cB false)] [] (fun t => t) (by kernel_rfl) ?_
        refine ends_ret ?_
        obtain rfl := Option.some.inj H
        exact And.intro (.inl rfl) rfl
      · refine ite_f c22 (by kernel_rfl) ?_
        refine ends_skip ?_
        change EndsI _ _ _ _ _ _
        refine seq_in ?_
        refine seq_ops [] [] [(2, .c (.pk 2 0)), (3, .c (.pk 3 0)), (35, cB (p1.At == (-1)))] [(2, .var (eTBoard p0) false), (3, .var (eTUnit p1) false)] (fun t => t) (by kernel_rfl) ?_
        rcases ofCond H with ⟨c24, H⟩ | ⟨c24, H⟩
        · refine ite_t c24 (by kernel_rfl) ?_
          refine seq_ops [] [] [(4, cB true)] [] (fun t => t) (by kernel_rfl) ?_
          refine ends_ret ?_
          obtain rfl := Option.some.inj H
          exact And.intro (.inl rfl) rfl
        · refine ite_f c24 (by kernel_rfl) ?_
          refine ends_skip ?_
          change EndsI _ _ _ _ _ _
          rcases ofCond H with ⟨c25, H⟩ | ⟨c25, H⟩
          · obtain ⟨v26, h27, H⟩ := ofBind H
            obtain ⟨v28, h29, H⟩ := ofBind H
            rcases ofCond H with ⟨c30, H⟩ | ⟨c30, H⟩
            · obtain ⟨v31, h32, H⟩ := ofBind H
              refine seq_draw [.g true, .g true, .g true, .g true, .res (cI v26), .g true, .res (cB v28), .g true, .g true, .g true, .g true, .g true, .g true, .g true, .res (cI v31), .g true, .g true] [] [(4, cB (v31 != 0))] [] (fun t => aI c25 (aI c25 (aI c25 (aI c25 (aI (i_sizeOf_ok p0 v26 h27) (aI trivial (aI (rfl : ([] : List Nat) = []) (aI c25 (aI (i_isIndex_ok p1.At v26 v28 h29) (aI trivial (aI (rfl : ([] : List Nat) = []) (aI c25 (aI c30 (aI c30 (aI c30 (aI c30 (aI c30 (aI c30 (aI (i_enterCost_ok p0 p1.Kind p1.At v31 h32) (aI trivial (aI (rfl : ([] : List Nat) = []) (aI c30 (aI c30 (t)))))))))))))))))))))))) (by kernel_rfl) ?_
              refine ends_ret ?_
              obtain rfl := Option.some.inj H
              exact And.intro (.inl rfl) rfl
            · refine seq_draw [.g true, .g true, .g true, .g true, .res (cI v26), .g true, .res (cB v28), .g true, .g false, .g false, .g false, .g false, .g false, .g false, .g false, .g false] [] [(4, cB false)] [] (fun t => aI c25 (aI c25 (aI c25 (aI c25 (aI (i_sizeOf_ok p0 v26 h27) (aI trivial (aI (rfl : ([] : List Nat) = []) (aI c25 (aI (i_isIndex_ok p1.At v26 v28 h29) (aI trivial (aI (rfl : ([] : List Nat) = []) (aI c25 (aI c30 (aI c30 (aI c30 (aI c30 (aI c30 (aI c30 (aI c30 (aI c30 (t))))))))))))))))))))) (by kernel_rfl) ?_
              refine ends_ret ?_
              obtain rfl := Option.some.inj H
              exact And.intro (.inl rfl) rfl
          · refine seq_draw [.g false, .g false, .g false, .g false, .g false, .g false, .g false, .g false, .g false, .g false, .g false, .g false, .g false, .g false] [] [(4, cB false)] [] (fun t => aI c25 (aI c25 (aI c25 (aI c25 (aI c25 (aI c25 (aI (rfl : (false : Bool) = false) (aI (rfl : (false : Bool) = false) (aI (rfl : (false : Bool) = false) (aI (rfl : (false : Bool) = false) (aI (rfl : (false : Bool) = false) (aI (rfl : (false : Bool) = false) (aI (rfl : (false : Bool) = false) (aI (rfl : (false : Bool) = false) (t))))))))))))))) (by kernel_rfl) ?_
            refine ends_ret ?_
            obtain rfl := Option.some.inj H
            exact And.intro (.inl rfl) rfl

def i_goodState_ir : S :=
 (.seq (.ops [⟨some 2, .box 12 (.t 0), none⟩, ⟨some 3, .box 3 (.t 1), none⟩, ⟨some 4, .mv (.v (.bool false)), none⟩])
 (.seq (.seq (.ops [⟨some 8, .fad 0 (.t 3), none⟩, ⟨some 9, .load 1 false (.t 8), none⟩, ⟨some 10, .fad 0 (.t 2), none⟩, ⟨some 11, .fad 6 (.t 10), none⟩, ⟨some 12, .load 1 false (.t 11), none⟩, ⟨some 13, .call 130 [.t 9, .v (.int .i64 0), .t 12], none⟩, ⟨some 14, .not (.t 13), none⟩, ⟨some 15, .mv (.t 14), none⟩, ⟨some 16, .fad 1 (.t 3), some (15, false)⟩, ⟨some 17, .load 1 false (.t 16), some (15, false)⟩, ⟨some 18, .call 130 [.t 17, .v (.int .i64 0), .v (.int .i64 2)], some (15, false)⟩, ⟨some 19, .not (.t 18), some (15, false)⟩, ⟨some 20, .pick (.t 15) (.v (.bool true)) (.t 19), none⟩, ⟨some 21, .mv (.t 20), none⟩, ⟨some 22, .fad 2 (.t 3), some (21, false)⟩, ⟨some 23, .load 1 false (.t 22), some (21, false)⟩, ⟨some 24, .len (.t 23), some (21, false)⟩, ⟨some 25, .bin .gtr (.t 24) (.v (.int .i64 12)), some (21, false)⟩, ⟨some 26, .pick (.t 21) (.v (.bool true)) (.t 25), none⟩])
 (.ite (.t 26) (.seq (.ops [⟨some 4, .mv (.v (.bool false)), none⟩])
  .ret)
 .skip))
 (.seq (.ops [⟨some 27, .load 12 true (.t 2), none⟩, ⟨some 28, .call 83 [.t 27], none⟩, ⟨some 29, .msl 2 16 [.int .i64 0, .int .i64 0] (.t 28), none⟩, ⟨some 5, .mv (.t 29), none⟩])
 (.seq (.seq (.ops [⟨some 30, .fad 2 (.t 3), none⟩, ⟨some 31, .load 1 false (.t 30), none⟩, ⟨some 32, .len (.t 31), none⟩, ⟨some 33, .mv (.v (.int .i64 0)), none⟩])
 (.blk 0 (.loop (.seq (.ops [⟨some 34, .bin .lss (.t 33) (.t 32), none⟩])
   (.seq (.ite (.t 34) .skip
   (.exit 0))
   (.seq (.blk 1 (.seq (.ops [⟨some 35, .iad 4 (.t 31) (.t 33), none⟩, ⟨some 36, .load 4 true (.t 35), none⟩, ⟨some 7, .alloc [.int .i64 0, .int .i64 0, .int .i64 0, .int .i64 0], none⟩, ⟨none, .store 4 (.t 7) (.t 36), none⟩])
    (.seq (.seq (.ops [⟨some 37, .load 12 true (.t 2), none⟩, ⟨some 38, .load 4 true (.t 7), none⟩, ⟨some 39, .call 161 [.t 37, .t 38], none⟩, ⟨some 40, .not (.t 39), none⟩])
    (.ite (.t 40) (.seq (.ops [⟨some 4, .mv (.v (.bool false)), none⟩])
     .ret)
    .skip))
    (.seq (.seq (.ops [⟨some 41, .fad 2 (.t 7), none⟩, ⟨some 42, .load 1 false (.t 41), none⟩, ⟨some 43, .bin .lss (.t 42) (.v (.int .i64 0)), none⟩])
    (.ite (.t 43) (.exit 1)
    .skip))
    (.seq (.draw 11 [⟨some 44, .mv (.t 5), none⟩, ⟨some 45, .fad 2 (.t 7), none⟩, ⟨some 46, .load 1 false (.t 45), none⟩, ⟨some 47, .fad 0 (.t 7), none⟩, ⟨some 48, .load 1 false (.t 47), none⟩, ⟨some 49, .iad 2 (.t 44) (.t 46), none⟩, ⟨some 50, .iar 2 1 (.t 49) (.t 48), none⟩, ⟨some 51, .load 1 false (.t 50), none⟩, ⟨some 52, .bin .add (.t 51) (.v (.int .i64 1)), none⟩, ⟨some 53, .iad 2 (.t 44) (.t 46), none⟩, ⟨some 54, .iar 2 1 (.t 53) (.t 48), none⟩, ⟨none, .store 1 (.t 54) (.t 52), none⟩])
    (.seq (.draw 24 [⟨some 55, .mv (.t 5), none⟩, ⟨some 56, .fad 2 (.t 7), none⟩, ⟨some 57, .load 1 false (.t 56), none⟩, ⟨some 58, .fad 0 (.t 7), none⟩, ⟨some 59, .load 1 false (.t 58), none⟩, ⟨some 60, .bin .sub (.v (.int .i64 1)) (.t 59), none⟩, ⟨some 61, .iad 2 (.t 55) (.t 57), none⟩, ⟨some 62, .iar 2 1 (.t 61) (.t 60), none⟩, ⟨some 63, .load 1 false (.t 62), none⟩, ⟨some 64, .bin .gtr (.t 63) (.v (.int .i64 0)), none⟩, ⟨some 65, .mv (.t 64), none⟩, ⟨some 66, .mv (.t 5), some (65, false)⟩, ⟨some 67, .fad 2 (.t 7), some (65, false)⟩, ⟨some 68, .load 1 false (.t 67), some (65, false)⟩, ⟨some 69, .fad 0 (.t 7), some (65, false)⟩, ⟨some 70, .load 1 false (.t 69), some (65, false)⟩, ⟨some 71, .iad 2 (.t 66) (.t 68), some (65, false)⟩, ⟨some 72, .iar 2 1 (.t 71) (.t 70), some (65, false)⟩, ⟨some 73, .load 1 false (.t 72), some (65, false)⟩, ⟨some 74, .fad 0 (.t 2), some (65, false)⟩, ⟨some 75, .fad 2 (.t 74), some (65, false)⟩, ⟨some 76, .load 1 false (.t 75), some (65, false)⟩, ⟨some 77, .bin .gtr (.t 73) (.t 76), some (65, false)⟩, ⟨some 78, .pick (.t 65) (.v (.bool true)) (.t 77), none⟩])
    (.ite (.t 78) (.seq (.ops [⟨some 4, .mv (.v (.bool false)), none⟩])
     .ret)
    .skip)))))))
   (.ops [⟨some 79, .bin .add (.t 33) (.v (.int .i64 1)), none⟩, ⟨some 33, .mv (.t 79), none⟩])))))))
 (.seq (.ops [⟨some 4, .mv (.v (.bool true)), none⟩])
 .ret)))))
noncomputable def X.i_goodState (p0 : TBoard) (p1 : TState) : Option Bool :=
  ((X.i_inRange p1.Turn 0 p0.Rules.Turns).bind fun v8 => (bif (!v8) then some false else ((X.i_inRange p1.Weather 0 2).bind fun v11 => (bif (!v11) then some false else (bif (decide ((p1.Units.length : Int) > 12)) then some false else ((X.i_sizeOf p0).bind fun v15 => (if 0 ≤ v15 ∧ v15.toNat ≤ LIM then ((loop (fun (x85 : (Int × (List A2_I))) => ((bif (decide (x85.1 < (p1.Units.length : Int))) then ((at' zTUnit p1.Units x85.1).bind fun v88 => ((X.i_goodUnit p0 v88).bind fun v93 => (bif (!v93) then some (Sum.inr (Sum.inr false)) else (bif (decide (v88.At < 0)) then some (Sum.inl ((W (x85.1 + 1)), x85.2)) else (if 0 ≤ v88.At ∧ v88.At < (x85.2.length : Int) then (if v88.Side = ((0 : Nat) : Int) then (if (W (1 - v88.Side)) = ((0 : Nat) : Int) then (bif (decide (((x85.2.set v88.At.toNat (A2_I.mk (W ((x85.2.getD v88.At.toNat zA2_I).a0 + 1)) ((x85.2.getD v88.At.toNat zA2_I).a1))).getD v88.At.toNat zA2_I).a0 > 0)) then some (Sum.inr (Sum.inr false)) else (bif (decide (((x85.2.set v88.At.toNat (A2_I.mk (W ((x85.2.getD v88.At.toNat zA2_I).a0 + 1)) ((x85.2.getD v88.At.toNat zA2_I).a1))).getD v88.At.toNat zA2_I).a0 > p0.Rules.Stack)) then some (Sum.inr (Sum.inr false)) else some (Sum.inl ((W (x85.1 + 1)), (x85.2.set v88.At.toNat (A2_I.mk (W ((x85.2.getD v88.At.toNat zA2_I).a0 + 1)) ((x85.2.getD v88.At.toNat zA2_I).a1))))))) else (if (W (1 - v88.Side)) = ((1 : Nat) : Int) then (bif (decide (((x85.2.set v88.At.toNat (A2_I.mk (W ((x85.2.getD v88.At.toNat zA2_I).a0 + 1)) ((x85.2.getD v88.At.toNat zA2_I).a1))).getD v88.At.toNat zA2_I).a1 > 0)) then some (Sum.inr (Sum.inr false)) else (bif (decide (((x85.2.set v88.At.toNat (A2_I.mk (W ((x85.2.getD v88.At.toNat zA2_I).a0 + 1)) ((x85.2.getD v88.At.toNat zA2_I).a1))).getD v88.At.toNat zA2_I).a0 > p0.Rules.Stack)) then some (Sum.inr (Sum.inr false)) else some (Sum.inl ((W (x85.1 + 1)), (x85.2.set v88.At.toNat (A2_I.mk (W ((x85.2.getD v88.At.toNat zA2_I).a0 + 1)) ((x85.2.getD v88.At.toNat zA2_I).a1))))))) else none)) else (if v88.Side = ((1 : Nat) : Int) then (if (W (1 - v88.Side)) = ((0 : Nat) : Int) then (bif (decide (((x85.2.set v88.At.toNat (A2_I.mk ((x85.2.getD v88.At.toNat zA2_I).a0) (W ((x85.2.getD v88.At.toNat zA2_I).a1 + 1)))).getD v88.At.toNat zA2_I).a0 > 0)) then some (Sum.inr (Sum.inr false)) else (bif (decide (((x85.2.set v88.At.toNat (A2_I.mk ((x85.2.getD v88.At.toNat zA2_I).a0) (W ((x85.2.getD v88.At.toNat zA2_I).a1 + 1)))).getD v88.At.toNat zA2_I).a1 > p0.Rules.Stack)) then some (Sum.inr (Sum.inr false)) else some (Sum.inl ((W (x85.1 + 1)), (x85.2.set v88.At.toNat (A2_I.mk ((x85.2.getD v88.At.toNat zA2_I).a0) (W ((x85.2.getD v88.At.toNat zA2_I).a1 + 1)))))))) else (if (W (1 - v88.Side)) = ((1 : Nat) : Int) then (bif (decide (((x85.2.set v88.At.toNat (A2_I.mk ((x85.2.getD v88.At.toNat zA2_I).a0) (W ((x85.2.getD v88.At.toNat zA2_I).a1 + 1)))).getD v88.At.toNat zA2_I).a1 > 0)) then some (Sum.inr (Sum.inr false)) else (bif (decide (((x85.2.set v88.At.toNat (A2_I.mk ((x85.2.getD v88.At.toNat zA2_I).a0) (W ((x85.2.getD v88.At.toNat zA2_I).a1 + 1)))).getD v88.At.toNat zA2_I).a1 > p0.Rules.Stack)) then some (Sum.inr (Sum.inr false)) else some (Sum.inl ((W (x85.1 + 1)), (x85.2.set v88.At.toNat (A2_I.mk ((x85.2.getD v88.At.toNat zA2_I).a0) (W ((x85.2.getD v88.At.toNat zA2_I).a1 + 1)))))))) else none)) else none)) else none))))) else some (Sum.inr (Sum.inl ()))) : Option ((Int × (List A2_I)) ⊕ (Unit ⊕ Bool)))) (0, (List.replicate v15.toNat zA2_I))).bind fun y119 => (Sum.elim (fun (y121 : Unit) => some true) (fun (y122 : Bool) => some y122) y119)) else none)))))))
theorem i_goodState_ok (p0 : TBoard) (p1 : TState) (r : Bool) (H : X.i_goodState p0 p1 = some r) : FnOk Tryz.prog gl 98 [.agg (eTBoard p0), .agg (eTState p1)] (cB r) := by
  unfold X.i_goodState at H
  refine fn_in (fn := Tryz.f98) (ir := i_goodState_ir) (s1 := lit [(4, cB r)] []) Tryz.func98 (by kernel_rfl) (by kernel_rfl) (by kernel_rfl) (by kernel_rfl) (by kernel_rfl) ?_
  refine seq_ops [] [] [(2, .c (.pk 2 0)), (3, .c (.pk 3 0))] [(2, .var (eTBoard p0) false), (3, .var (eTState p1) false)] (fun t => t) (by kernel_rfl) ?_
  refine seq_in ?_
  obtain ⟨v8, h9, H⟩ := ofBind H
  rcases ofCond H with ⟨c10, H⟩ | ⟨c10, H⟩
  · refine seq_ops [.res (cB v8), .g true, .g true, .g true, .g true, .g true, .g true, .g true, .g true, .g true, .g true] [] [(2, .c (.pk 2 0)), (3, .c (.pk 3 0)), (26, cB true)] [(2, .var (eTBoard p0) false), (3, .var (eTState p1) false)] (fun t => aI (i_inRange_ok p1.Turn 0 p0.Rules.Turns v8 h9) (aI c10 (aI c10 (aI c10 (aI c10 (aI c10 (aI (rfl : (true : Bool) = true) (aI (rfl : (true : Bool) = true) (aI (rfl : (true : Bool) = true) (aI (rfl : (true : Bool) = true) (aI (rfl : (true : Bool) = true) (t)))))))))))) (by kernel_rfl) ?_
    refine ite_t (rfl : (true : Bool) = true) (by kernel_rfl) ?_
    refine seq_ops [] [] [(4, cB false)] [] (fun t => t) (by kernel_rfl) ?_
    refine ends_ret ?_
    obtain rfl := Option.some.inj H
    exact And.intro (.inl rfl) rfl
  · obtain ⟨v11, h12, H⟩ := ofBind H
    rcases ofCond H with ⟨c13, H⟩ | ⟨c13, H⟩
    · refine seq_ops [.res (cB v8), .g false, .g false, .g false, .res (cB v11), .g false, .g false, .g true, .g true, .g true, .g true, .g true] [] [(2, .c (.pk 2 0)), (3, .c (.pk 3 0)), (26, cB true)] [(2, .var (eTBoard p0) false), (3, .var (eTState p1) false)] (fun t => aI (i_inRange_ok p1.Turn 0 p0.Rules.Turns v8 h9) (aI c10 (aI c10 (aI c10 (aI (i_inRange_ok p1.Weather 0 2 v11 h12) (aI c10 (aI c10 (aI c13 (aI c13 (aI c13 (aI c13 (aI c13 (t))))))))))))) (by kernel_rfl) ?_
      refine ite_t (rfl : (true : Bool) = true) (by kernel_rfl) ?_
      refine seq_ops [] [] [(4, cB false)] [] (fun t => t) (by kernel_rfl) ?_
      refine ends_ret ?_
      obtain rfl := Option.some.inj H
      exact And.intro (.inl rfl) rfl
    · refine seq_ops [.res (cB v8), .g false, .g false, .g false, .res (cB v11), .g false, .g false, .g false, .g false, .g false, .g false, .g false] [] [(2, .c (.pk 2 0)), (3, .c (.pk 3 0)), (26, cB (decide ((p1.Units.length : Int) > 12)))] [(2, .var (eTBoard p0) false), (3, .var (eTState p1) false)] (fun t => aI (i_inRange_ok p1.Turn 0 p0.Rules.Turns v8 h9) (aI c10 (aI c10 (aI c10 (aI (i_inRange_ok p1.Weather 0 2 v11 h12) (aI c10 (aI c10 (aI c13 (aI c13 (aI c13 (lI p1.Units (aI c13 (aI c13 (t)))))))))))))) (by kernel_rfl) ?_
      rcases ofCond H with ⟨c14, H⟩ | ⟨c14, H⟩
      · refine ite_t c14 (by kernel_rfl) ?_
        refine seq_ops [] [] [(4, cB false)] [] (fun t => t) (by kernel_rfl) ?_
        refine ends_ret ?_
        obtain rfl := Option.some.inj H
        exact And.intro (.inl rfl) rfl
      · refine ite_f c14 (by kernel_rfl) ?_
        refine ends_skip ?_
        change EndsI _ _ _ _ _ _
        obtain ⟨v15, h16, H⟩ := ofBind H
        obtain ⟨g17, H⟩ := ofIf H
        refine seq_ops [.res (cI v15), .fn (List.replicate v15.toNat zA2_I).length (fF eA2_I zA2_I (List.replicate v15.toNat zA2_I))] [] [(2, .c (.pk 2 0)), (3, .c (.pk 3 0)), (5, .c (.own 29 2 0 ((List.replicate v15.toNat zA2_I).length)))] [(2, .var (eTBoard p0) false), (3, .var (eTState p1) false), (29, .arr 2 ((List.replicate v15.toNat zA2_I).length) (fF eA2_I zA2_I (List.replicate v15.toNat zA2_I)) false)] (fun t => aI (i_sizeOf_ok p0 v15 h16) (aI (And.intro g17.1 (And.intro (List.length_replicate (n := v15.toNat) (a := zA2_I)).symm (Nat.le_trans (Nat.le_of_eq List.length_replicate) g17.2 : (List.replicate v15.toNat zA2_I).length ≤ LIM))) (aI (fF_rep eA2_I zA2_I zA2_I v15.toNat) (t)))) (by kernel_rfl) ?_
        refine seq_in ?_
        refine seq_ops [] [] [(2, .c (.pk 2 0)), (5, .c (.own 29 2 0 ((List.replicate v15.toNat zA2_I).length))), (31, .c (dat 4 eTUnit zTUnit p1.Units)), (32, cI (p1.Units.length : Int)), (33, cI 0)] [(2, .var (eTBoard p0) false), (29, .arr 2 ((List.replicate v15.toNat zA2_I).length) (fF eA2_I zA2_I (List.replicate v15.toNat zA2_I)) false)] (fun t => lI p1.Units (t)) (by kernel_rfl) ?_
        refine ends_blk ?_
        obtain ⟨y119, h120, H⟩ := ofBind H
        refine loop_in (fun (x : (Int × (List A2_I))) => lit [(2, .c (.pk 2 0)), (5, .c (.own 29 2 0 x.2.length)), (31, .c (dat 4 eTUnit zTUnit p1.Units)), (32, cI (p1.Units.length : Int)), (33, cI x.1)] [(2, .var (eTBoard p0) false), (29, .arr 2 x.2.length (fF eA2_I zA2_I x.2) false)]) (orJ (fun (z : Unit) => At (.exit 0) (lit [] [])) (fun (z : Bool) => At .ret (lit [(4, cB z)] []))) h120 ?_ ?_
        · clear H h120
          intro x85 y0 H
          refine seq_ops [] [] [(2, .c (.pk 2 0)), (5, .c (.own 29 2 0 x85.2.length)), (31, .c (dat 4 eTUnit zTUnit p1.Units)), (32, cI (p1.Units.length : Int)), (33, cI x85.1), (34, cB (decide (x85.1 < (p1.Units.length : Int))))] [(2, .var (eTBoard p0) false), (29, .arr 2 x85.2.length (fF eA2_I zA2_I x85.2) false)] (fun t => t) (by kernel_rfl) ?_
          refine seq_in ?_
          rcases ofCond H with ⟨c87, H⟩ | ⟨c87, H⟩
          · refine ite_t c87 (by kernel_rfl) ?_
            refine ends_skip ?_
            change EndsI _ _ _ _ _ _
            refine seq_in ?_
            refine ends_blk ?_
            obtain ⟨v88, h89, H⟩ := ofBind H
            refine seq_ops [.cs (eTUnit v88)] [] [(2, .c (.pk 2 0)), (5, .c (.own 29 2 0 x85.2.length)), (7, .c (.pk 7 0)), (31, .c (dat 4 eTUnit zTUnit p1.Units)), (32, cI (p1.Units.length : Int)), (33, cI x85.1)] [(2, .var (eTBoard p0) false), (7, .var (eTUnit v88) false), (29, .arr 2 x85.2.length (fF eA2_I zA2_I x85.2) false)] (fun t => aI (at_lt h89) (aI (at_enc (enc := eTUnit) h89) (t))) (by kernel_rfl) ?_
            refine seq_in ?_
            obtain ⟨v93, h94, H⟩ := ofBind H
            refine seq_ops [.res (cB v93)] [] [(2, .c (.pk 2 0)), (5, .c (.own 29 2 0 x85.2.length)), (7, .c (.pk 7 0)), (31, .c (dat 4 eTUnit zTUnit p1.Units)), (32, cI (p1.Units.length : Int)), (33, cI x85.1), (40, cB (!v93))] [(2, .var (eTBoard p0) false), (7, .var (eTUnit v88) false), (29, .arr 2 x85.2.length (fF eA2_I zA2_I x85.2) false)] (fun t => aI (i_goodUnit_ok p0 v88 v93 h94) (t)) (by kernel_rfl) ?_
            rcases ofCond H with ⟨c95, H⟩ | ⟨c95, H⟩
            · refine ite_t c95 (by kernel_rfl) ?_
              refine seq_ops [] [] [(4, cB false)] [] (fun t => t) (by kernel_rfl) ?_
              refine ends_ret ?_
              obtain rfl := Option.some.inj H
              exact And.intro (by simp) (And.intro rfl rfl)
            · refine ite_f c95 (by kernel_rfl) ?_
              refine ends_skip ?_
              change EndsI _ _ _ _ _ _
              refine seq_in ?_
              refine seq_ops [] [] [(2, .c (.pk 2 0)), (5, .c (.own 29 2 0 x85.2.length)), (7, .c (.pk 7 0)), (31, .c (dat 4 eTUnit zTUnit p1.Units)), (32, cI (p1.Units.length : Int)), (33, cI x85.1), (43, cB (decide (v88.At < 0)))] [(2, .var (eTBoard p0) false), (7, .var (eTUnit v88) false), (29, .arr 2 x85.2.length (fF eA2_I zA2_I x85.2) false)] (fun t => t) (by kernel_rfl) ?_
              rcases ofCond H with ⟨c97, H⟩ | ⟨c97, H⟩
              · refine ite_t c97 (by kernel_rfl) ?_
                refine ends_exit ?_
                change EndsI _ _ _ _ _ _
                refine one_ops [] [] [(2, .c (.pk 2 0)), (5, .c (.own 29 2 0 x85.2.length)), (31, .c (dat 4 eTUnit zTUnit p1.Units)), (32, cI (p1.Units.length : Int)), (33, cI (W (x85.1 + 1)))] [(2, .var (eTBoard p0) false), (29, .arr 2 x85.2.length (fF eA2_I zA2_I x85.2) false)] (fun t => t) (by kernel_rfl) ?_
                obtain rfl := Option.some.inj H
                exact And.intro rfl rfl
              · refine ite_f c97 (by kernel_rfl) ?_
                refine ends_skip ?_
                change EndsI _ _ _ _ _ _
                obtain ⟨g98, H⟩ := ofIf H
                rcases ofIte H with ⟨c99, H⟩ | ⟨c118, H⟩
                · refine seq_draw [.no, .nat 0, .no, .nat 0, .fn 0 (fF eA2_I zA2_I (x85.2.set v88.At.toNat (A2_I.mk (W ((x85.2.getD v88.At.toNat zA2_I).a0 + 1)) ((x85.2.getD v88.At.toNat zA2_I).a1))))] [] [(2, .c (.pk 2 0)), (5, .c (.own 29 2 0 x85.2.length)), (7, .c (.pk 7 0)), (31, .c (dat 4 eTUnit zTUnit p1.Units)), (32, cI (p1.Units.length : Int)), (33, cI x85.1)] [(2, .var (eTBoard p0) false), (7, .var (eTUnit v88) false), (29, .arr 2 x85.2.length (fF eA2_I zA2_I (x85.2.set v88.At.toNat (A2_I.mk (W ((x85.2.getD v88.At.toNat zA2_I).a0 + 1)) ((x85.2.getD v88.At.toNat zA2_I).a1)))) false)] (fun t => aI g98 (aI (And.intro c99 (by decide : 0 < 2)) (aI (nat_lt g98) (aI (rfl : ([] : List Nat) = []) (aI g98 (aI (And.intro c99 (by decide : 0 < 2)) (aI (rfl : true = true) (aI (nat_lt g98) (aI (by decide : 0 + 1 ≤ 2) (aI (fF_set eA2_I zA2_I x85.2 v88.At.toNat (A2_I.mk (W ((x85.2.getD v88.At.toNat zA2_I).a0 + 1)) ((x85.2.getD v88.At.toNat zA2_I).a1)) (nat_lt g98) x85.2.length) (t))))))))))) (by kernel_rfl) ?_
                  rcases ofIte H with ⟨c100, H⟩ | ⟨c107, H⟩
                  · rcases ofCond H with ⟨c101, H⟩ | ⟨c101, H⟩
                    · refine seq_draw [.no, .nat 0, .g true, .g true, .g true, .g true, .g true, .g true, .g true, .g true, .g true, .g true, .g true, .g true, .g true] [] [(2, .c (.pk 2 0)), (5, .c (.own 29 2 0 x85.2.length)), (31, .c (dat 4 eTUnit zTUnit p1.Units)), (32, cI (p1.Units.length : Int)), (33, cI x85.1), (78, cB true)] [(2, .var (eTBoard p0) false), (29, .arr 2 x85.2.length (fF eA2_I zA2_I (x85.2.set v88.At.toNat (A2_I.mk (W ((x85.2.getD v88.At.toNat zA2_I).a0 + 1)) ((x85.2.getD v88.At.toNat zA2_I).a1)))) false)] (fun t => aI g98 (aI (And.intro c100 (by decide : 0 < 2)) (aI (nat_lt g98) (aI (rfl : ([] : List Nat) = []) (aI c101 (aI c101 (aI c101 (aI c101 (aI c101 (aI c101 (aI c101 (aI c101 (aI c101 (aI c101 (aI c101 (aI c101 (aI c101 (t)))))))))))))))))) (by kernel_rfl) ?_
                      refine ite_t (rfl : (true : Bool) = true) (by kernel_rfl) ?_
                      refine seq_ops [] [] [(4, cB false)] [] (fun t => t) (by kernel_rfl) ?_
                      refine ends_ret ?_
                      obtain rfl := Option.some.inj H
                      exact And.intro (by simp) (And.intro rfl rfl)
                    · refine seq_draw [.no, .nat 0, .g false, .g false, .g false, .g false, .g false, .g false, .no, .g false, .nat 0, .g false, .g false, .g false, .g false, .g false, .g false] [] [(2, .c (.pk 2 0)), (5, .c (.own 29 2 0 x85.2.length)), (31, .c (dat 4 eTUnit zTUnit p1.Units)), (32, cI (p1.Units.length : Int)), (33, cI x85.1), (78, cB (decide (((x85.2.set v88.At.toNat (A2_I.mk (W ((x85.2.getD v88.At.toNat zA2_I).a0 + 1)) ((x85.2.getD v88.At.toNat zA2_I).a1))).getD v88.At.toNat zA2_I).a0 > p0.Rules.Stack)))] [(2, .var (eTBoard p0) false), (29, .arr 2 x85.2.length (fF eA2_I zA2_I (x85.2.set v88.At.toNat (A2_I.mk (W ((x85.2.getD v88.At.toNat zA2_I).a0 + 1)) ((x85.2.getD v88.At.toNat zA2_I).a1)))) false)] (fun t => aI g98 (aI (And.intro c100 (by decide : 0 < 2)) (aI (nat_lt g98) (aI (rfl : ([] : List Nat) = []) (aI c101 (aI c101 (aI c101 (aI c101 (aI c101 (aI c101 (aI g98 (aI c101 (aI (And.intro c99 (by decide : 0 < 2)) (aI c101 (aI (nat_lt g98) (aI (rfl : ([] : List Nat) = []) (aI c101 (aI c101 (aI c101 (aI c101 (aI c101 (t)))))))))))))))))))))) (by kernel_rfl) ?_
                      rcases ofCond H with ⟨c102, H⟩ | ⟨c102, H⟩
                      · refine ite_t c102 (by kernel_rfl) ?_
                        refine seq_ops [] [] [(4, cB false)] [] (fun t => t) (by kernel_rfl) ?_
                        refine ends_ret ?_
                        obtain rfl := Option.some.inj H
                        exact And.intro (by simp) (And.intro rfl rfl)
                      · refine ite_f c102 (by kernel_rfl) ?_
                        refine ends_skip ?_
                        change EndsI _ _ _ _ _ _
                        refine one_ops [] [.rel 5 ((x85.2.set v88.At.toNat (A2_I.mk (W ((x85.2.getD v88.At.toNat zA2_I).a0 + 1)) ((x85.2.getD v88.At.toNat zA2_I).a1))).length), .rep 29 ((x85.2.set v88.At.toNat (A2_I.mk (W ((x85.2.getD v88.At.toNat zA2_I).a0 + 1)) ((x85.2.getD v88.At.toNat zA2_I).a1))).length) (fF eA2_I zA2_I (x85.2.set v88.At.toNat (A2_I.mk (W ((x85.2.getD v88.At.toNat zA2_I).a0 + 1)) ((x85.2.getD v88.At.toNat zA2_I).a1))))] [(2, .c (.pk 2 0)), (5, .c (.own 29 2 0 ((x85.2.set v88.At.toNat (A2_I.mk (W ((x85.2.getD v88.At.toNat zA2_I).a0 + 1)) ((x85.2.getD v88.At.toNat zA2_I).a1))).length))), (31, .c (dat 4 eTUnit zTUnit p1.Units)), (32, cI (p1.Units.length : Int)), (33, cI (W (x85.1 + 1)))] [(2, .var (eTBoard p0) false), (29, .arr 2 ((x85.2.set v88.At.toNat (A2_I.mk (W ((x85.2.getD v88.At.toNat zA2_I).a0 + 1)) ((x85.2.getD v88.At.toNat zA2_I).a1))).length) (fF eA2_I zA2_I (x85.2.set v88.At.toNat (A2_I.mk (W ((x85.2.getD v88.At.toNat zA2_I).a0 + 1)) ((x85.2.getD v88.At.toNat zA2_I).a1)))) false)] (fun t => aI (by simp : x85.2.length = (x85.2.set v88.At.toNat (A2_I.mk (W ((x85.2.getD v88.At.toNat zA2_I).a0 + 1)) ((x85.2.getD v88.At.toNat zA2_I).a1))).length) (aI (Nat.le_of_eq (by simp : (x85.2.set v88.At.toNat (A2_I.mk (W ((x85.2.getD v88.At.toNat zA2_I).a0 + 1)) ((x85.2.getD v88.At.toNat zA2_I).a1))).length = x85.2.length)) (aI (fun _ _ => rfl : ∀ i, i < (x85.2.set v88.At.toNat (A2_I.mk (W ((x85.2.getD v88.At.toNat zA2_I).a0 + 1)) ((x85.2.getD v88.At.toNat zA2_I).a1))).length → (fF eA2_I zA2_I (x85.2.set v88.At.toNat (A2_I.mk (W ((x85.2.getD v88.At.toNat zA2_I).a0 + 1)) ((x85.2.getD v88.At.toNat zA2_I).a1)))) i = (fF eA2_I zA2_I (x85.2.set v88.At.toNat (A2_I.mk (W ((x85.2.getD v88.At.toNat zA2_I).a0 + 1)) ((x85.2.getD v88.At.toNat zA2_I).a1)))) i) (t)))) (by kernel_rfl) ?_
                        obtain rfl := Option.some.inj H
                        exact And.intro rfl rfl
                  · rcases ofIte H with ⟨c103, H⟩ | ⟨c106, H⟩
                    · rcases ofCond H with ⟨c104, H⟩ | ⟨c104, H⟩
                      · refine seq_draw [.no, .nat 1, .g true, .g true, .g true, .g true, .g true, .g true, .g true, .g true, .g true, .g true, .g true, .g true, .g true] [] [(2, .c (.pk 2 0)), (5, .c (.own 29 2 0 x85.2.length)), (31, .c (dat 4 eTUnit zTUnit p1.Units)), (32, cI (p1.Units.length : Int)), (33, cI x85.1), (78, cB true)] [(2, .var (eTBoard p0) false), (29, .arr 2 x85.2.length (fF eA2_I zA2_I (x85.2.set v88.At.toNat (A2_I.mk (W ((x85.2.getD v88.At.toNat zA2_I).a0 + 1)) ((x85.2.getD v88.At.toNat zA2_I).a1)))) false)] (fun t => aI g98 (aI (And.intro c103 (by decide : 1 < 2)) (aI (nat_lt g98) (aI (rfl : ([] : List Nat) = []) (aI c104 (aI c104 (aI c104 (aI c104 (aI c104 (aI c104 (aI c104 (aI c104 (aI c104 (aI c104 (aI c104 (aI c104 (aI c104 (t)))))))))))))))))) (by kernel_rfl) ?_
                        refine ite_t (rfl : (true : Bool) = true) (by kernel_rfl) ?_
                        refine seq_ops [] [] [(4, cB false)] [] (fun t => t) (by kernel_rfl) ?_
                        refine ends_ret ?_
                        obtain rfl := Option.some.inj H
                        exact And.intro (by simp) (And.intro rfl rfl)
                      · refine seq_draw [.no, .nat 1, .g false, .g false, .g false, .g false, .g false, .g false, .no, .g false, .nat 0, .g false, .g false, .g false, .g false, .g false, .g false] [] [(2, .c (.pk 2 0)), (5, .c (.own 29 2 0 x85.2.length)), (31, .c (dat 4 eTUnit zTUnit p1.Units)), (32, cI (p1.Units.length : Int)), (33, cI x85.1), (78, cB (decide (((x85.2.set v88.At.toNat (A2_I.mk (W ((x85.2.getD v88.At.toNat zA2_I).a0 + 1)) ((x85.2.getD v88.At.toNat zA2_I).a1))).getD v88.At.toNat zA2_I).a0 > p0.Rules.Stack)))] [(2, .var (eTBoard p0) false), (29, .arr 2 x85.2.length (fF eA2_I zA2_I (x85.2.set v88.At.toNat (A2_I.mk (W ((x85.2.getD v88.At.toNat zA2_I).a0 + 1)) ((x85.2.getD v88.At.toNat zA2_I).a1)))) false)] (fun t => aI g98 (aI (And.intro c103 (by decide : 1 < 2)) (aI (nat_lt g98) (aI (rfl : ([] : List Nat) = []) (aI c104 (aI c104 (aI c104 (aI c104 (aI c104 (aI c104 (aI g98 (aI c104 (aI (And.intro c99 (by decide : 0 < 2)) (aI c104 (aI (nat_lt g98) (aI (rfl : ([] : List Nat) = []) (aI c104 (aI c104 (aI c104 (aI c104 (aI c104 (t)))))))))))))))))))))) (by kernel_rfl) ?_
                        rcases ofCond H with ⟨c105, H⟩ | ⟨c105, H⟩
                        · refine ite_t c105 (by kernel_rfl) ?_
                          refine seq_ops [] [] [(4, cB false)] [] (fun t => t) (by kernel_rfl) ?_
                          refine ends_ret ?_
                          obtain rfl := Option.some.inj H
                          exact And.intro (by simp) (And.intro rfl rfl)
                        · refine ite_f c105 (by kernel_rfl) ?_
                          refine ends_skip ?_
                          change EndsI _ _ _ _ _ _
                          refine one_ops [] [.rel 5 ((x85.2.set v88.At.toNat (A2_I.mk (W ((x85.2.getD v88.At.toNat zA2_I).a0 + 1)) ((x85.2.getD v88.At.toNat zA2_I).a1))).length), .rep 29 ((x85.2.set v88.At.toNat (A2_I.mk (W ((x85.2.getD v88.At.toNat zA2_I).a0 + 1)) ((x85.2.getD v88.At.toNat zA2_I).a1))).length) (fF eA2_I zA2_I (x85.2.set v88.At.toNat (A2_I.mk (W ((x85.2.getD v88.At.toNat zA2_I).a0 + 1)) ((x85.2.getD v88.At.toNat zA2_I).a1))))] [(2, .c (.pk 2 0)), (5, .c (.own 29 2 0 ((x85.2.set v88.At.toNat (A2_I.mk (W ((x85.2.getD v88.At.toNat zA2_I).a0 + 1)) ((x85.2.getD v88.At.toNat zA2_I).a1))).length))), (31, .c (dat 4 eTUnit zTUnit p1.Units)), (32, cI (p1.Units.length : Int)), (33, cI (W (x85.1 + 1)))] [(2, .var (eTBoard p0) false), (29, .arr 2 ((x85.2.set v88.At.toNat (A2_I.mk (W ((x85.2.getD v88.At.toNat zA2_I).a0 + 1)) ((x85.2.getD v88.At.toNat zA2_I).a1))).length) (fF eA2_I zA2_I (x85.2.set v88.At.toNat (A2_I.mk (W ((x85.2.getD v88.At.toNat zA2_I).a0 + 1)) ((x85.2.getD v88.At.toNat zA2_I).a1)))) false)] (fun t => aI (by simp : x85.2.length = (x85.2.set v88.At.toNat (A2_I.mk (W ((x85.2.getD v88.At.toNat zA2_I).a0 + 1)) ((x85.2.getD v88.At.toNat zA2_I).a1))).length) (aI (Nat.le_of_eq (by simp : (x85.2.set v88.At.toNat (A2_I.mk (W ((x85.2.getD v88.At.toNat zA2_I).a0 + 1)) ((x85.2.getD v88.At.toNat zA2_I).a1))).length = x85.2.length)) (aI (fun _ _ => rfl : ∀ i, i < (x85.2.set v88.At.toNat (A2_I.mk (W ((x85.2.getD v88.At.toNat zA2_I).a0 + 1)) ((x85.2.getD v88.At.toNat zA2_I).a1))).length → (fF eA2_I zA2_I (x85.2.set v88.At.toNat (A2_I.mk (W ((x85.2.getD v88.At.toNat zA2_I).a0 + 1)) ((x85.2.getD v88.At.toNat zA2_I).a1)))) i = (fF eA2_I zA2_I (x85.2.set v88.At.toNat (A2_I.mk (W ((x85.2.getD v88.At.toNat zA2_I).a0 + 1)) ((x85.2.getD v88.At.toNat zA2_I).a1)))) i) (t)))) (by kernel_rfl) ?_
                          obtain rfl := Option.some.inj H
                          exact And.intro rfl rfl
                    · cases H
                · rcases ofIte H with ⟨c108, H⟩ | ⟨c117, H⟩
                  · refine seq_draw [.no, .nat 1, .no, .nat 1, .fn 0 (fF eA2_I zA2_I (x85.2.set v88.At.toNat (A2_I.mk ((x85.2.getD v88.At.toNat zA2_I).a0) (W ((x85.2.getD v88.At.toNat zA2_I).a1 + 1)))))] [] [(2, .c (.pk 2 0)), (5, .c (.own 29 2 0 x85.2.length)), (7, .c (.pk 7 0)), (31, .c (dat 4 eTUnit zTUnit p1.Units)), (32, cI (p1.Units.length : Int)), (33, cI x85.1)] [(2, .var (eTBoard p0) false), (7, .var (eTUnit v88) false), (29, .arr 2 x85.2.length (fF eA2_I zA2_I (x85.2.set v88.At.toNat (A2_I.mk ((x85.2.getD v88.At.toNat zA2_I).a0) (W ((x85.2.getD v88.At.toNat zA2_I).a1 + 1))))) false)] (fun t => aI g98 (aI (And.intro c108 (by decide : 1 < 2)) (aI (nat_lt g98) (aI (rfl : ([] : List Nat) = []) (aI g98 (aI (And.intro c108 (by decide : 1 < 2)) (aI (rfl : true = true) (aI (nat_lt g98) (aI (by decide : 1 + 1 ≤ 2) (aI (fF_set eA2_I zA2_I x85.2 v88.At.toNat (A2_I.mk ((x85.2.getD v88.At.toNat zA2_I).a0) (W ((x85.2.getD v88.At.toNat zA2_I).a1 + 1))) (nat_lt g98) x85.2.length) (t))))))))))) (by kernel_rfl) ?_
                    rcases ofIte H with ⟨c109, H⟩ | ⟨c116, H⟩
                    · rcases ofCond H with ⟨c110, H⟩ | ⟨c110, H⟩
                      · refine seq_draw [.no, .nat 0, .g true, .g true, .g true, .g true, .g true, .g true, .g true, .g true, .g true, .g true, .g true, .g true, .g true] [] [(2, .c (.pk 2 0)), (5, .c (.own 29 2 0 x85.2.length)), (31, .c (dat 4 eTUnit zTUnit p1.Units)), (32, cI (p1.Units.length : Int)), (33, cI x85.1), (78, cB true)] [(2, .var (eTBoard p0) false), (29, .arr 2 x85.2.length (fF eA2_I zA2_I (x85.2.set v88.At.toNat (A2_I.mk ((x85.2.getD v88.At.toNat zA2_I).a0) (W ((x85.2.getD v88.At.toNat zA2_I).a1 + 1))))) false)] (fun t => aI g98 (aI (And.intro c109 (by decide : 0 < 2)) (aI (nat_lt g98) (aI (rfl : ([] : List Nat) = []) (aI c110 (aI c110 (aI c110 (aI c110 (aI c110 (aI c110 (aI c110 (aI c110 (aI c110 (aI c110 (aI c110 (aI c110 (aI c110 (t)))))))))))))))))) (by kernel_rfl) ?_
                        refine ite_t (rfl : (true : Bool) = true) (by kernel_rfl) ?_
                        refine seq_ops [] [] [(4, cB false)] [] (fun t => t) (by kernel_rfl) ?_
                        refine ends_ret ?_
                        obtain rfl := Option.some.inj H
                        exact And.intro (by simp) (And.intro rfl rfl)
                      · refine seq_draw [.no, .nat 0, .g false, .g false, .g false, .g false, .g false, .g false, .no, .g false, .nat 1, .g false, .g false, .g false, .g false, .g false, .g false] [] [(2, .c (.pk 2 0)), (5, .c (.own 29 2 0 x85.2.length)), (31, .c (dat 4 eTUnit zTUnit p1.Units)), (32, cI (p1.Units.length : Int)), (33, cI x85.1), (78, cB (decide (((x85.2.set v88.At.toNat (A2_I.mk ((x85.2.getD v88.At.toNat zA2_I).a0) (W ((x85.2.getD v88.At.toNat zA2_I).a1 + 1)))).getD v88.At.toNat zA2_I).a1 > p0.Rules.Stack)))] [(2, .var (eTBoard p0) false), (29, .arr 2 x85.2.length (fF eA2_I zA2_I (x85.2.set v88.At.toNat (A2_I.mk ((x85.2.getD v88.At.toNat zA2_I).a0) (W ((x85.2.getD v88.At.toNat zA2_I).a1 + 1))))) false)] (fun t => aI g98 (aI (And.intro c109 (by decide : 0 < 2)) (aI (nat_lt g98) (aI (rfl : ([] : List Nat) = []) (aI c110 (aI c110 (aI c110 (aI c110 (aI c110 (aI c110 (aI g98 (aI c110 (aI (And.intro c108 (by decide : 1 < 2)) (aI c110 (aI (nat_lt g98) (aI (rfl : ([] : List Nat) = []) (aI c110 (aI c110 (aI c110 (aI c110 (aI c110 (t)))))))))))))))))))))) (by kernel_rfl) ?_
                        rcases ofCond H with ⟨c111, H⟩ | ⟨c111, H⟩
                        · refine ite_t c111 (by kernel_rfl) ?_
                          refine seq_ops [] [] [(4, cB false)] [] (fun t => t) (by kernel_rfl) ?_
                          refine ends_ret ?_
                          obtain rfl := Option.some.inj H
                          exact And.intro (by simp) (And.intro rfl rfl)
                        · refine ite_f c111 (by kernel_rfl) ?_
                          refine ends_skip ?_
                          change EndsI _ _ _ _ _ _
                          refine one_ops [] [.rel 5 ((x85.2.set v88.At.toNat (A2_I.mk ((x85.2.getD v88.At.toNat zA2_I).a0) (W ((x85.2.getD v88.At.toNat zA2_I).a1 + 1)))).length), .rep 29 ((x85.2.set v88.At.toNat (A2_I.mk ((x85.2.getD v88.At.toNat zA2_I).a0) (W ((x85.2.getD v88.At.toNat zA2_I).a1 + 1)))).length) (fF eA2_I zA2_I (x85.2.set v88.At.toNat (A2_I.mk ((x85.2.getD v88.At.toNat zA2_I).a0) (W ((x85.2.getD v88.At.toNat zA2_I).a1 + 1)))))] [(2, .c (.pk 2 0)), (5, .c (.own 29 2 0 ((x85.2.set v88.At.toNat (A2_I.mk ((x85.2.getD v88.At.toNat zA2_I).a0) (W ((x85.2.getD v88.At.toNat zA2_I).a1 + 1)))).length))), (31, .c (dat 4 eTUnit zTUnit p1.Units)), (32, cI (p1.Units.length : Int)), (33, cI (W (x85.1 + 1)))] [(2, .var (eTBoard p0) false), (29, .arr 2 ((x85.2.set v88.At.toNat (A2_I.mk ((x85.2.getD v88.At.toNat zA2_I).a0) (W ((x85.2.getD v88.At.toNat zA2_I).a1 + 1)))).length) (fF eA2_I zA2_I (x85.2.set v88.At.toNat (A2_I.mk ((x85.2.getD v88.At.toNat zA2_I).a0) (W ((x85.2.getD v88.At.toNat zA2_I).a1 + 1))))) false)] (fun t => aI (by simp : x85.2.length = (x85.2.set v88.At.toNat (A2_I.mk ((x85.2.getD v88.At.toNat zA2_I).a0) (W ((x85.2.getD v88.At.toNat zA2_I).a1 + 1)))).length) (aI (Nat.le_of_eq (by simp : (x85.2.set v88.At.toNat (A2_I.mk ((x85.2.getD v88.At.toNat zA2_I).a0) (W ((x85.2.getD v88.At.toNat zA2_I).a1 + 1)))).length = x85.2.length)) (aI (fun _ _ => rfl : ∀ i, i < (x85.2.set v88.At.toNat (A2_I.mk ((x85.2.getD v88.At.toNat zA2_I).a0) (W ((x85.2.getD v88.At.toNat zA2_I).a1 + 1)))).length → (fF eA2_I zA2_I (x85.2.set v88.At.toNat (A2_I.mk ((x85.2.getD v88.At.toNat zA2_I).a0) (W ((x85.2.getD v88.At.toNat zA2_I).a1 + 1))))) i = (fF eA2_I zA2_I (x85.2.set v88.At.toNat (A2_I.mk ((x85.2.getD v88.At.toNat zA2_I).a0) (W ((x85.2.getD v88.At.toNat zA2_I).a1 + 1))))) i) (t)))) (by kernel_rfl) ?_
                          obtain rfl := Option.some.inj H
                          exact And.intro rfl rfl
                    · rcases ofIte H with ⟨c112, H⟩ | ⟨c115, H⟩
                      · rcases ofCond H with ⟨c113, H⟩ | ⟨c113, H⟩
                        · refine seq_draw [.no, .nat 1, .g true, .g true, .g true, .g true, .g true, .g true, .g true, .g true, .g true, .g true, .g true, .g true, .g true] [] [(2, .c (.pk 2 0)), (5, .c (.own 29 2 0 x85.2.length)), (31, .c (dat 4 eTUnit zTUnit p1.Units)), (32, cI (p1.Units.length : Int)), (33, cI x85.1), (78, cB true)] [(2, .var (eTBoard p0) false), (29, .arr 2 x85.2.length (fF eA2_I zA2_I (x85.2.set v88.At.toNat (A2_I.mk ((x85.2.getD v88.At.toNat zA2_I).a0) (W ((x85.2.getD v88.At.toNat zA2_I).a1 + 1))))) false)] (fun t => aI g98 (aI (And.intro c112 (by decide : 1 < 2)) (aI (nat_lt g98) (aI (rfl : ([] : List Nat) = []) (aI c113 (aI c113 (aI c113 (aI c113 (aI c113 (aI c113 (aI c113 (aI c113 (aI c113 (aI c113 (aI c113 (aI c113 (aI c113 (t)))))))))))))))))) (by kernel_rfl) ?_
                          refine ite_t (rfl : (true : Bool) = true) (by kernel_rfl) ?_
                          refine seq_ops [] [] [(4, cB false)] [] (fun t => t) (by kernel_rfl) ?_
                          refine ends_ret ?_
                          obtain rfl := Option.some.inj H
                          exact And.intro (by simp) (And.intro rfl rfl)
                        · refine seq_draw [.no, .nat 1, .g false, .g false, .g false, .g false, .g false, .g false, .no, .g false, .nat 1, .g false, .g false, .g false, .g false, .g false, .g false] [] [(2, .c (.pk 2 0)), (5, .c (.own 29 2 0 x85.2.length)), (31, .c (dat 4 eTUnit zTUnit p1.Units)), (32, cI (p1.Units.length : Int)), (33, cI x85.1), (78, cB (decide (((x85.2.set v88.At.toNat (A2_I.mk ((x85.2.getD v88.At.toNat zA2_I).a0) (W ((x85.2.getD v88.At.toNat zA2_I).a1 + 1)))).getD v88.At.toNat zA2_I).a1 > p0.Rules.Stack)))] [(2, .var (eTBoard p0) false), (29, .arr 2 x85.2.length (fF eA2_I zA2_I (x85.2.set v88.At.toNat (A2_I.mk ((x85.2.getD v88.At.toNat zA2_I).a0) (W ((x85.2.getD v88.At.toNat zA2_I).a1 + 1))))) false)] (fun t => aI g98 (aI (And.intro c112 (by decide : 1 < 2)) (aI (nat_lt g98) (aI (rfl : ([] : List Nat) = []) (aI c113 (aI c113 (aI c113 (aI c113 (aI c113 (aI c113 (aI g98 (aI c113 (aI (And.intro c108 (by decide : 1 < 2)) (aI c113 (aI (nat_lt g98) (aI (rfl : ([] : List Nat) = []) (aI c113 (aI c113 (aI c113 (aI c113 (aI c113 (t)))))))))))))))))))))) (by kernel_rfl) ?_
                          rcases ofCond H with ⟨c114, H⟩ | ⟨c114, H⟩
                          · refine ite_t c114 (by kernel_rfl) ?_
                            refine seq_ops [] [] [(4, cB false)] [] (fun t => t) (by kernel_rfl) ?_
                            refine ends_ret ?_
                            obtain rfl := Option.some.inj H
                            exact And.intro (by simp) (And.intro rfl rfl)
                          · refine ite_f c114 (by kernel_rfl) ?_
                            refine ends_skip ?_
                            change EndsI _ _ _ _ _ _
                            refine one_ops [] [.rel 5 ((x85.2.set v88.At.toNat (A2_I.mk ((x85.2.getD v88.At.toNat zA2_I).a0) (W ((x85.2.getD v88.At.toNat zA2_I).a1 + 1)))).length), .rep 29 ((x85.2.set v88.At.toNat (A2_I.mk ((x85.2.getD v88.At.toNat zA2_I).a0) (W ((x85.2.getD v88.At.toNat zA2_I).a1 + 1)))).length) (fF eA2_I zA2_I (x85.2.set v88.At.toNat (A2_I.mk ((x85.2.getD v88.At.toNat zA2_I).a0) (W ((x85.2.getD v88.At.toNat zA2_I).a1 + 1)))))] [(2, .c (.pk 2 0)), (5, .c (.own 29 2 0 ((x85.2.set v88.At.toNat (A2_I.mk ((x85.2.getD v88.At.toNat zA2_I).a0) (W ((x85.2.getD v88.At.toNat zA2_I).a1 + 1)))).length))), (31, .c (dat 4 eTUnit zTUnit p1.Units)), (32, cI (p1.Units.length : Int)), (33, cI (W (x85.1 + 1)))] [(2, .var (eTBoard p0) false), (29, .arr 2 ((x85.2.set v88.At.toNat (A2_I.mk ((x85.2.getD v88.At.toNat zA2_I).a0) (W ((x85.2.getD v88.At.toNat zA2_I).a1 + 1)))).length) (fF eA2_I zA2_I (x85.2.set v88.At.toNat (A2_I.mk ((x85.2.getD v88.At.toNat zA2_I).a0) (W ((x85.2.getD v88.At.toNat zA2_I).a1 + 1))))) false)] (fun t => aI (by simp : x85.2.length = (x85.2.set v88.At.toNat (A2_I.mk ((x85.2.getD v88.At.toNat zA2_I).a0) (W ((x85.2.getD v88.At.toNat zA2_I).a1 + 1)))).length) (aI (Nat.le_of_eq (by simp : (x85.2.set v88.At.toNat (A2_I.mk ((x85.2.getD v88.At.toNat zA2_I).a0) (W ((x85.2.getD v88.At.toNat zA2_I).a1 + 1)))).length = x85.2.length)) (aI (fun _ _ => rfl : ∀ i, i < (x85.2.set v88.At.toNat (A2_I.mk ((x85.2.getD v88.At.toNat zA2_I).a0) (W ((x85.2.getD v88.At.toNat zA2_I).a1 + 1)))).length → (fF eA2_I zA2_I (x85.2.set v88.At.toNat (A2_I.mk ((x85.2.getD v88.At.toNat zA2_I).a0) (W ((x85.2.getD v88.At.toNat zA2_I).a1 + 1))))) i = (fF eA2_I zA2_I (x85.2.set v88.At.toNat (A2_I.mk ((x85.2.getD v88.At.toNat zA2_I).a0) (W ((x85.2.getD v88.At.toNat zA2_I).a1 + 1))))) i) (t)))) (by kernel_rfl) ?_
                            obtain rfl := Option.some.inj H
                            exact And.intro rfl rfl
                      · cases H
                  · cases H
          · refine ite_f c87 (by kernel_rfl) ?_
            refine tell [] [] [] (fun t => t) (by kernel_rfl) ?_
            refine ends_exit ?_
            obtain rfl := Option.some.inj H
            exact And.intro (by simp) (And.intro rfl rfl)
        · clear h120
          cases y119 with
          | inl y121 =>
            replace H := ofInl H
            intro e s q
            obtain ⟨rfl, rfl⟩ := q
            change EndsI _ _ _ _ _ _
            refine seq_ops [] [] [(4, cB true)] [] (fun t => t) (by kernel_rfl) ?_
            refine ends_ret ?_
            obtain rfl := Option.some.inj H
            exact And.intro (.inl rfl) rfl
          | inr y122 =>
            replace H := ofInr H
            intro e s q
            obtain ⟨rfl, rfl⟩ := q
            obtain rfl := Option.some.inj H
            exact And.intro (.inl rfl) rfl

def g_IndexFunc_int_ir : S :=
 (.seq (.ops [⟨some 4, .mv (.v (.int .i64 0)), none⟩])
 (.seq (.seq (.ops [⟨some 6, .mv (.t 0), none⟩, ⟨some 7, .len (.t 6), none⟩, ⟨some 8, .mv (.v (.int .i64 0)), none⟩])
 (.blk 0 (.loop (.seq (.ops [⟨some 9, .bin .lss (.t 8) (.t 7), none⟩])
   (.seq (.ite (.t 9) .skip
   (.exit 0))
   (.seq (.blk 1 (.seq (.ops [⟨some 10, .mv (.t 8), none⟩, ⟨some 5, .mv (.t 10), none⟩])
    (.seq (.ops [⟨some 11, .mv (.t 1), none⟩, ⟨some 12, .mv (.t 0), none⟩, ⟨some 13, .mv (.t 5), none⟩, ⟨some 14, .iad 1 (.t 12) (.t 13), none⟩, ⟨some 15, .load 1 false (.t 14), none⟩, ⟨some 16, .cald (.t 11) [.t 15], none⟩])
    (.ite (.t 16) (.seq (.ops [⟨some 17, .mv (.t 5), none⟩, ⟨some 4, .mv (.t 17), none⟩])
     .ret)
    .skip))))
   (.ops [⟨some 18, .bin .add (.t 8) (.v (.int .i64 1)), none⟩, ⟨some 8, .mv (.t 18), none⟩])))))))
 (.seq (.ops [⟨some 4, .mv (.v (.int .i64 (-1))), none⟩])
 .ret)))
noncomputable def X.g_IndexFunc_int (p0 : (List Int)) (f1 : Int → Option Bool) : Option Int :=
  ((loop (fun (x16 : Int) => ((bif (decide (x16 < (p0.length : Int))) then ((at' zI p0 x16).bind fun v19 => ((f1 v19).bind fun v21 => (bif v21 then some (Sum.inr (Sum.inr x16)) else some (Sum.inl (W (x16 + 1)))))) else some (Sum.inr (Sum.inl ()))) : Option (Int ⊕ (Unit ⊕ Int)))) 0).bind fun y24 => (Sum.elim (fun (y26 : Unit) => some (-1)) (fun (y27 : Int) => some y27) y24))
theorem g_IndexFunc_int_c0_ok (p0 : (List Int)) (cf1 : FuncId) (f1 : Int → Option Bool) (hf1 : ∀ q0 r, f1 q0 = some r → FnOk Tryz.prog gl cf1 [cI q0] (cB r)) (r : Int) (H : X.g_IndexFunc_int p0 f1 = some r) : FnOk Tryz.prog gl 247 [.c (dat 1 eI zI p0), .c (.clo cf1 [])] (cI r) := by
  unfold X.g_IndexFunc_int at H
  refine fn_in (fn := Tryz.f247) (ir := g_IndexFunc_int_ir) (s1 := lit [(4, cI r)] []) Tryz.func247 (by kernel_rfl) (by kernel_rfl) (by kernel_rfl) (by kernel_rfl) (by kernel_rfl) ?_
  refine seq_ops [] [] [(0, .c (dat 1 eI zI p0)), (1, .c (.clo cf1 []))] [] (fun t => t) (by kernel_rfl) ?_
  refine seq_in ?_
  refine seq_ops [] [] [(0, .c (dat 1 eI zI p0)), (1, .c (.clo cf1 [])), (7, cI (p0.length : Int)), (8, cI 0)] [] (fun t => lI p0 (t)) (by kernel_rfl) ?_
  refine ends_blk ?_
  obtain ⟨y24, h25, H⟩ := ofBind H
  refine loop_in (fun (x : Int) => lit [(0, .c (dat 1 eI zI p0)), (1, .c (.clo cf1 [])), (7, cI (p0.length : Int)), (8, cI x)] []) (orJ (fun (z : Unit) => At (.exit 0) (lit [] [])) (fun (z : Int) => At .ret (lit [(4, cI z)] []))) h25 ?_ ?_
  · clear H h25
    intro x16 y0 H
    refine seq_ops [] [] [(0, .c (dat 1 eI zI p0)), (1, .c (.clo cf1 [])), (7, cI (p0.length : Int)), (8, cI x16), (9, cB (decide (x16 < (p0.length : Int))))] [] (fun t => t) (by kernel_rfl) ?_
    refine seq_in ?_
    rcases ofCond H with ⟨c18, H⟩ | ⟨c18, H⟩
    · refine ite_t c18 (by kernel_rfl) ?_
      refine ends_skip ?_
      change EndsI _ _ _ _ _ _
      refine seq_in ?_
      refine ends_blk ?_
      refine seq_ops [] [] [(0, .c (dat 1 eI zI p0)), (1, .c (.clo cf1 [])), (5, cI x16), (7, cI (p0.length : Int)), (8, cI x16)] [] (fun t => t) (by kernel_rfl) ?_
      obtain ⟨v19, h20, H⟩ := ofBind H
      obtain ⟨v21, h22, H⟩ := ofBind H
      refine seq_ops [.cs (eI v19), .res (cB v21)] [] [(0, .c (dat 1 eI zI p0)), (1, .c (.clo cf1 [])), (5, cI x16), (7, cI (p0.length : Int)), (8, cI x16), (16, cB v21)] [] (fun t => aI (at_lt h20) (aI (at_enc (enc := eI) h20) (aI (hf1 v19 v21 h22) (t)))) (by kernel_rfl) ?_
      rcases ofCond H with ⟨c23, H⟩ | ⟨c23, H⟩
      · refine ite_t c23 (by kernel_rfl) ?_
        refine seq_ops [] [] [(4, cI x16)] [] (fun t => t) (by kernel_rfl) ?_
        refine ends_ret ?_
        obtain rfl := Option.some.inj H
        exact And.intro (by simp) (And.intro rfl rfl)
      · refine ite_f c23 (by kernel_rfl) ?_
        refine ends_skip ?_
        change EndsI _ _ _ _ _ _
        refine one_ops [] [] [(0, .c (dat 1 eI zI p0)), (1, .c (.clo cf1 [])), (7, cI (p0.length : Int)), (8, cI (W (x16 + 1)))] [] (fun t => t) (by kernel_rfl) ?_
        obtain rfl := Option.some.inj H
        exact And.intro rfl rfl
    · refine ite_f c18 (by kernel_rfl) ?_
      refine tell [] [] [] (fun t => t) (by kernel_rfl) ?_
      refine ends_exit ?_
      obtain rfl := Option.some.inj H
      exact And.intro (by simp) (And.intro rfl rfl)
  · clear h25
    cases y24 with
    | inl y26 =>
      replace H := ofInl H
      intro e s q
      obtain ⟨rfl, rfl⟩ := q
      change EndsI _ _ _ _ _ _
      refine seq_ops [] [] [(4, cI (-1))] [] (fun t => t) (by kernel_rfl) ?_
      refine ends_ret ?_
      obtain rfl := Option.some.inj H
      exact And.intro (.inl rfl) rfl
    | inr y27 =>
      replace H := ofInr H
      intro e s q
      obtain ⟨rfl, rfl⟩ := q
      obtain rfl := Option.some.inj H
      exact And.intro (.inl rfl) rfl

def g_ContainsFunc_int_ir : S :=
 (.seq (.ops [⟨some 4, .mv (.v (.bool false)), none⟩])
 (.seq (.ops [⟨some 5, .mv (.t 0), none⟩, ⟨some 6, .mv (.t 1), none⟩, ⟨some 7, .call 247 [.t 5, .t 6], none⟩, ⟨some 8, .bin .geq (.t 7) (.v (.int .i64 0)), none⟩, ⟨some 4, .mv (.t 8), none⟩])
 .ret))
noncomputable def X.g_ContainsFunc_int (p0 : (List Int)) (f1 : Int → Option Bool) : Option Bool :=
  ((X.g_IndexFunc_int p0 f1).bind fun v1 => some (decide (v1 ≥ 0)))
theorem g_ContainsFunc_int_c0_ok (p0 : (List Int)) (cf1 : FuncId) (f1 : Int → Option Bool) (hf1 : ∀ q0 r, f1 q0 = some r → FnOk Tryz.prog gl cf1 [cI q0] (cB r)) (r : Bool) (H : X.g_ContainsFunc_int p0 f1 = some r) : FnOk Tryz.prog gl 193 [.c (dat 1 eI zI p0), .c (.clo cf1 [])] (cB r) := by
  unfold X.g_ContainsFunc_int at H
  refine fn_in (fn := Tryz.f193) (ir := g_ContainsFunc_int_ir) (s1 := lit [(4, cB r)] []) Tryz.func193 (by kernel_rfl) (by kernel_rfl) (by kernel_rfl) (by kernel_rfl) (by kernel_rfl) ?_
  refine seq_ops [] [] [(0, .c (dat 1 eI zI p0)), (1, .c (.clo cf1 []))] [] (fun t => t) (by kernel_rfl) ?_
  obtain ⟨v1, h2, H⟩ := ofBind H
  refine seq_ops [.res (cI v1)] [] [(4, cB (decide (v1 ≥ 0)))] [] (fun t => aI (g_IndexFunc_int_c0_ok p0 (cf1) f1 hf1 v1 h2) (t)) (by kernel_rfl) ?_
  refine ends_ret ?_
  obtain rfl := Option.some.inj H
  exact And.intro (.inl rfl) rfl

def i_isName_ir : S :=
 (.seq (.ops [⟨some 2, .mv (.v (.bool false)), none⟩])
 (.seq (.seq (.ops [⟨some 3, .mv (.v (.int .i64 0)), none⟩])
 (.blk 0 (.loop (.seq (.seq (.ops [⟨some 4, .mv (.t 3), none⟩, ⟨some 5, .mv (.t 0), none⟩, ⟨some 6, .lens (.t 5), none⟩, ⟨some 7, .bin .lss (.t 4) (.t 6), none⟩])
   (.ite (.t 7) .skip
   (.exit 0)))
   (.seq (.blk 1 (.seq (.ops [⟨some 10, .mv (.t 0), none⟩, ⟨some 11, .mv (.t 3), none⟩, ⟨some 12, .ixs (.t 10) (.t 11), none⟩, ⟨some 13, .bin .lss (.t 12) (.v (.int .u8 97)), none⟩, ⟨some 14, .mv (.t 13), none⟩, ⟨some 15, .mv (.t 0), some (14, false)⟩, ⟨some 16, .mv (.t 3), some (14, false)⟩, ⟨some 17, .ixs (.t 15) (.t 16), some (14, false)⟩, ⟨some 18, .bin .gtr (.t 17) (.v (.int .u8 122)), some (14, false)⟩, ⟨some 19, .pick (.t 14) (.v (.bool true)) (.t 18), none⟩])
    (.ite (.t 19) (.seq (.ops [⟨some 2, .mv (.v (.bool false)), none⟩])
     .ret)
    .skip)))
   (.ops [⟨some 8, .mv (.t 3), none⟩, ⟨some 9, .bin .add (.t 8) (.v (.int .i64 1)), none⟩, ⟨some 3, .mv (.t 9), none⟩]))))))
 (.seq (.ops [⟨some 20, .mv (.t 0), none⟩, ⟨some 21, .lens (.t 20), none⟩, ⟨some 22, .call 130 [.t 21, .v (.int .i64 1), .v (.int .i64 8)], none⟩, ⟨some 2, .mv (.t 22), none⟩])
 .ret)))
noncomputable def X.i_isName (p0 : (List UInt8)) : Option Bool :=
  ((loop (fun (x14 : Int) => ((bif (decide (x14 < (p0.length : Int))) then (if 0 ≤ x14 ∧ x14 < (p0.length : Int) then (bif (decide ((((p0.getD x14.toNat 0).toNat : Nat) : Int) < 97)) then some (Sum.inr (Sum.inr false)) else (if 0 ≤ x14 ∧ x14 < (p0.length : Int) then (bif (decide ((((p0.getD x14.toNat 0).toNat : Nat) : Int) > 122)) then some (Sum.inr (Sum.inr false)) else some (Sum.inl (W (x14 + 1)))) else none)) else none) else some (Sum.inr (Sum.inl ()))) : Option (Int ⊕ (Unit ⊕ Bool)))) 0).bind fun y21 => (Sum.elim (fun (y23 : Unit) => ((X.i_inRange (p0.length : Int) 1 8).bind fun v25 => some v25)) (fun (y24 : Bool) => some y24) y21))
theorem i_isName_ok (p0 : (List UInt8)) (r : Bool) (H : X.i_isName p0 = some r) : FnOk Tryz.prog gl 272 [.c (.str p0)] (cB r) := by
  unfold X.i_isName at H
  refine fn_in (fn := Tryz.f272) (ir := i_isName_ir) (s1 := lit [(2, cB r)] []) Tryz.func272 (by kernel_rfl) (by kernel_rfl) (by kernel_rfl) (by kernel_rfl) (by kernel_rfl) ?_
  refine seq_ops [] [] [(0, .c (.str p0))] [] (fun t => t) (by kernel_rfl) ?_
  refine seq_in ?_
  refine seq_ops [] [] [(0, .c (.str p0)), (3, cI 0)] [] (fun t => t) (by kernel_rfl) ?_
  refine ends_blk ?_
  obtain ⟨y21, h22, H⟩ := ofBind H
  refine loop_in (fun (x : Int) => lit [(0, .c (.str p0)), (3, cI x)] []) (orJ (fun (z : Unit) => At (.exit 0) (lit [(0, .c (.str p0))] [])) (fun (z : Bool) => At .ret (lit [(2, cB z)] []))) h22 ?_ ?_
  · clear H h22
    intro x14 y0 H
    refine seq_in ?_
    refine seq_ops [] [] [(0, .c (.str p0)), (3, cI x14), (7, cB (decide (x14 < (p0.length : Int))))] [] (fun t => t) (by kernel_rfl) ?_
    rcases ofCond H with ⟨c16, H⟩ | ⟨c16, H⟩
    · refine ite_t c16 (by kernel_rfl) ?_
      refine ends_skip ?_
      change EndsI _ _ _ _ _ _
      refine seq_in ?_
      refine ends_blk ?_
      obtain ⟨g17, H⟩ := ofIf H
      rcases ofCond H with ⟨c18, H⟩ | ⟨c18, H⟩
      · refine seq_ops [.g true, .g true, .g true, .g true, .g true] [] [(0, .c (.str p0)), (3, cI x14), (19, cB true)] [] (fun t => aI g17 (aI c18 (aI c18 (aI c18 (aI c18 (aI c18 (t))))))) (by kernel_rfl) ?_
        refine ite_t (rfl : (true : Bool) = true) (by kernel_rfl) ?_
        refine seq_ops [] [] [(2, cB false)] [] (fun t => t) (by kernel_rfl) ?_
        refine ends_ret ?_
        obtain rfl := Option.some.inj H
        exact And.intro (by simp) (And.intro rfl rfl)
      · obtain ⟨g19, H⟩ := ofIf H
        refine seq_ops [.g false, .g false, .g false, .g false, .g false] [] [(0, .c (.str p0)), (3, cI x14), (19, cB (decide ((((p0.getD x14.toNat 0).toNat : Nat) : Int) > 122)))] [] (fun t => aI g17 (aI c18 (aI c18 (aI c18 (aI g19 (aI c18 (aI c18 (t)))))))) (by kernel_rfl) ?_
        rcases ofCond H with ⟨c20, H⟩ | ⟨c20, H⟩
        · refine ite_t c20 (by kernel_rfl) ?_
          refine seq_ops [] [] [(2, cB false)] [] (fun t => t) (by kernel_rfl) ?_
          refine ends_ret ?_
          obtain rfl := Option.some.inj H
          exact And.intro (by simp) (And.intro rfl rfl)
        · refine ite_f c20 (by kernel_rfl) ?_
          refine ends_skip ?_
          change EndsI _ _ _ _ _ _
          refine one_ops [] [] [(0, .c (.str p0)), (3, cI (W (x14 + 1)))] [] (fun t => t) (by kernel_rfl) ?_
          obtain rfl := Option.some.inj H
          exact And.intro rfl rfl
    · refine ite_f c16 (by kernel_rfl) ?_
      refine tell [] [(0, .c (.str p0))] [] (fun t => t) (by kernel_rfl) ?_
      refine ends_exit ?_
      obtain rfl := Option.some.inj H
      exact And.intro (by simp) (And.intro rfl rfl)
  · clear h22
    cases y21 with
    | inl y23 =>
      replace H := ofInl H
      intro e s q
      obtain ⟨rfl, rfl⟩ := q
      change EndsI _ _ _ _ _ _
      obtain ⟨v25, h26, H⟩ := ofBind H
      refine seq_ops [.res (cB v25)] [] [(2, cB v25)] [] (fun t => aI (i_inRange_ok (p0.length : Int) 1 8 v25 h26) (t)) (by kernel_rfl) ?_
      refine ends_ret ?_
      obtain rfl := Option.some.inj H
      exact And.intro (.inl rfl) rfl
    | inr y24 =>
      replace H := ofInr H
      intro e s q
      obtain ⟨rfl, rfl⟩ := q
      obtain rfl := Option.some.inj H
      exact And.intro (.inl rfl) rfl

def i_goodTerrain_1_ir : S :=
 (.seq (.ops [⟨some 2, .mv (.v (.bool false)), none⟩])
 (.seq (.ops [⟨some 3, .mv (.t 0), none⟩, ⟨some 4, .call 130 [.t 3, .v (.int .i64 0), .v (.int .i64 9)], none⟩, ⟨some 5, .not (.t 4), none⟩, ⟨some 2, .mv (.t 5), none⟩])
 .ret))
noncomputable def X.i_goodTerrain_1 (p0 : Int) : Option Bool :=
  ((X.i_inRange p0 0 9).bind fun v1 => some (!v1))
theorem i_goodTerrain_1_ok (p0 : Int) (r : Bool) (H : X.i_goodTerrain_1 p0 = some r) : FnOk Tryz.prog gl 273 [cI p0] (cB r) := by
  unfold X.i_goodTerrain_1 at H
  refine fn_in (fn := Tryz.f273) (ir := i_goodTerrain_1_ir) (s1 := lit [(2, cB r)] []) Tryz.func273 (by kernel_rfl) (by kernel_rfl) (by kernel_rfl) (by kernel_rfl) (by kernel_rfl) ?_
  refine seq_ops [] [] [(0, cI p0)] [] (fun t => t) (by kernel_rfl) ?_
  obtain ⟨v1, h2, H⟩ := ofBind H
  refine seq_ops [.res (cB v1)] [] [(2, cB (!v1))] [] (fun t => aI (i_inRange_ok p0 0 9 v1 h2) (t)) (by kernel_rfl) ?_
  refine ends_ret ?_
  obtain rfl := Option.some.inj H
  exact And.intro (.inl rfl) rfl

def i_goodTerrain_ir : S :=
 (.seq (.ops [⟨some 2, .box 5 (.t 0), none⟩, ⟨some 4, .mv (.v (.bool false)), none⟩])
 (.seq (.seq (.ops [⟨some 5, .fad 0 (.t 2), none⟩, ⟨some 6, .load 1 false (.t 5), none⟩, ⟨some 7, .call 272 [.t 6], none⟩, ⟨some 8, .not (.t 7), none⟩, ⟨some 9, .mv (.t 8), none⟩, ⟨some 10, .fad 1 (.t 2), some (9, false)⟩, ⟨some 11, .load 1 false (.t 10), some (9, false)⟩, ⟨some 12, .len (.t 11), some (9, false)⟩, ⟨some 13, .mv (.t 1), some (9, false)⟩, ⟨some 14, .bin .neq (.t 12) (.t 13), some (9, false)⟩, ⟨some 15, .pick (.t 9) (.v (.bool true)) (.t 14), none⟩, ⟨some 16, .mv (.t 15), none⟩, ⟨some 17, .fad 2 (.t 2), some (16, false)⟩, ⟨some 18, .load 1 false (.t 17), some (16, false)⟩, ⟨some 19, .call 130 [.t 18, .v (.int .i64 (-3)), .v (.int .i64 3)], some (16, false)⟩, ⟨some 20, .not (.t 19), some (16, false)⟩, ⟨some 21, .pick (.t 16) (.v (.bool true)) (.t 20), none⟩, ⟨some 22, .mv (.t 21), none⟩, ⟨some 23, .fad 3 (.t 2), some (22, false)⟩, ⟨some 24, .load 1 false (.t 23), some (22, false)⟩, ⟨some 25, .call 130 [.t 24, .v (.int .i64 0), .v (.int .i64 3)], some (22, false)⟩, ⟨some 26, .not (.t 25), some (22, false)⟩, ⟨some 27, .pick (.t 22) (.v (.bool true)) (.t 26), none⟩])
 (.ite (.t 27) (.seq (.ops [⟨some 4, .mv (.v (.bool false)), none⟩])
  .ret)
 .skip))
 (.seq (.ops [⟨some 28, .fad 1 (.t 2), none⟩, ⟨some 29, .load 1 false (.t 28), none⟩, ⟨some 30, .call 193 [.t 29, .f 273], none⟩, ⟨some 31, .not (.t 30), none⟩, ⟨some 4, .mv (.t 31), none⟩])
 .ret)))
noncomputable def X.i_goodTerrain (p0 : TTerrain) (p1 : Int) : Option Bool :=
  ((X.i_isName p0.Name).bind fun v1 => (bif (!v1) then some false else (bif ((p0.Cost.length : Int) != p1) then some false else ((X.i_inRange p0.Shift (-3) 3).bind fun v5 => (bif (!v5) then some false else ((X.i_inRange p0.Height 0 3).bind fun v8 => (bif (!v8) then some false else ((X.g_ContainsFunc_int p0.Cost (fun q0 => X.i_goodTerrain_1 q0)).bind fun v11 => some (!v11)))))))))
theorem i_goodTerrain_ok (p0 : TTerrain) (p1 : Int) (r : Bool) (H : X.i_goodTerrain p0 p1 = some r) : FnOk Tryz.prog gl 242 [.agg (eTTerrain p0), cI p1] (cB r) := by
  unfold X.i_goodTerrain at H
  refine fn_in (fn := Tryz.f242) (ir := i_goodTerrain_ir) (s1 := lit [(4, cB r)] []) Tryz.func242 (by kernel_rfl) (by kernel_rfl) (by kernel_rfl) (by kernel_rfl) (by kernel_rfl) ?_
  refine seq_ops [] [] [(1, cI p1), (2, .c (.pk 2 0))] [(2, .var (eTTerrain p0) false)] (fun t => t) (by kernel_rfl) ?_
  refine seq_in ?_
  obtain ⟨v1, h2, H⟩ := ofBind H
  rcases ofCond H with ⟨c3, H⟩ | ⟨c3, H⟩
  · refine seq_ops [.res (cB v1), .g true, .g true, .g true, .g true, .g true, .g true, .g true, .g true, .g true, .g true, .g true, .g true, .g true, .g true, .g true, .g true] [] [(2, .c (.pk 2 0)), (27, cB true)] [(2, .var (eTTerrain p0) false)] (fun t => aI (i_isName_ok p0.Name v1 h2) (aI c3 (aI c3 (aI c3 (aI c3 (aI c3 (aI c3 (aI (rfl : (true : Bool) = true) (aI (rfl : (true : Bool) = true) (aI (rfl : (true : Bool) = true) (aI (rfl : (true : Bool) = true) (aI (rfl : (true : Bool) = true) (aI (rfl : (true : Bool) = true) (aI (rfl : (true : Bool) = true) (aI (rfl : (true : Bool) = true) (aI (rfl : (true : Bool) = true) (aI (rfl : (true : Bool) = true) (t)))))))))))))))))) (by kernel_rfl) ?_
    refine ite_t (rfl : (true : Bool) = true) (by kernel_rfl) ?_
    refine seq_ops [] [] [(4, cB false)] [] (fun t => t) (by kernel_rfl) ?_
    refine ends_ret ?_
    obtain rfl := Option.some.inj H
    exact And.intro (.inl rfl) rfl
  · rcases ofCond H with ⟨c4, H⟩ | ⟨c4, H⟩
    · refine seq_ops [.res (cB v1), .g false, .g false, .g false, .g false, .g false, .g false, .g true, .g true, .g true, .g true, .g true, .g true, .g true, .g true, .g true, .g true] [] [(2, .c (.pk 2 0)), (27, cB true)] [(2, .var (eTTerrain p0) false)] (fun t => aI (i_isName_ok p0.Name v1 h2) (aI c3 (aI c3 (aI c3 (lI p0.Cost (aI c3 (aI c3 (aI c3 (aI c4 (aI c4 (aI c4 (aI c4 (aI c4 (aI (rfl : (true : Bool) = true) (aI (rfl : (true : Bool) = true) (aI (rfl : (true : Bool) = true) (aI (rfl : (true : Bool) = true) (aI (rfl : (true : Bool) = true) (t))))))))))))))))))) (by kernel_rfl) ?_
      refine ite_t (rfl : (true : Bool) = true) (by kernel_rfl) ?_
      refine seq_ops [] [] [(4, cB false)] [] (fun t => t) (by kernel_rfl) ?_
      refine ends_ret ?_
      obtain rfl := Option.some.inj H
      exact And.intro (.inl rfl) rfl
    · obtain ⟨v5, h6, H⟩ := ofBind H
      rcases ofCond H with ⟨c7, H⟩ | ⟨c7, H⟩
      · refine seq_ops [.res (cB v1), .g false, .g false, .g false, .g false, .g false, .g false, .g false, .g false, .g false, .res (cB v5), .g false, .g false, .g true, .g true, .g true, .g true, .g true] [] [(2, .c (.pk 2 0)), (27, cB true)] [(2, .var (eTTerrain p0) false)] (fun t => aI (i_isName_ok p0.Name v1 h2) (aI c3 (aI c3 (aI c3 (lI p0.Cost (aI c3 (aI c3 (aI c3 (aI c4 (aI c4 (aI c4 (aI (i_inRange_ok p0.Shift (-3) 3 v5 h6) (aI c4 (aI c4 (aI c7 (aI c7 (aI c7 (aI c7 (aI c7 (t)))))))))))))))))))) (by kernel_rfl) ?_
        refine ite_t (rfl : (true : Bool) = true) (by kernel_rfl) ?_
        refine seq_ops [] [] [(4, cB false)] [] (fun t => t) (by kernel_rfl) ?_
        refine ends_ret ?_
        obtain rfl := Option.some.inj H
        exact And.intro (.inl rfl) rfl
      · obtain ⟨v8, h9, H⟩ := ofBind H
        refine seq_ops [.res (cB v1), .g false, .g false, .g false, .g false, .g false, .g false, .g false, .g false, .g false, .res (cB v5), .g false, .g false, .g false, .g false, .g false, .res (cB v8), .g false, .g false] [] [(2, .c (.pk 2 0)), (27, cB (!v8))] [(2, .var (eTTerrain p0) false)] (fun t => aI (i_isName_ok p0.Name v1 h2) (aI c3 (aI c3 (aI c3 (lI p0.Cost (aI c3 (aI c3 (aI c3 (aI c4 (aI c4 (aI c4 (aI (i_inRange_ok p0.Shift (-3) 3 v5 h6) (aI c4 (aI c4 (aI c7 (aI c7 (aI c7 (aI (i_inRange_ok p0.Height 0 3 v8 h9) (aI c7 (aI c7 (t))))))))))))))))))))) (by kernel_rfl) ?_
        rcases ofCond H with ⟨c10, H⟩ | ⟨c10, H⟩
        · refine ite_t c10 (by kernel_rfl) ?_
          refine seq_ops [] [] [(4, cB false)] [] (fun t => t) (by kernel_rfl) ?_
          refine ends_ret ?_
          obtain rfl := Option.some.inj H
          exact And.intro (.inl rfl) rfl
        · refine ite_f c10 (by kernel_rfl) ?_
          refine ends_skip ?_
          change EndsI _ _ _ _ _ _
          obtain ⟨v11, h12, H⟩ := ofBind H
          refine seq_ops [.res (cB v11)] [] [(4, cB (!v11))] [] (fun t => aI (g_ContainsFunc_int_c0_ok p0.Cost (273) (fun q0 => X.i_goodTerrain_1 q0) (fun q0 r h => i_goodTerrain_1_ok q0 r h) v11 h12) (t)) (by kernel_rfl) ?_
          refine ends_ret ?_
          obtain rfl := Option.some.inj H
          exact And.intro (.inl rfl) rfl

def g_IndexFunc_Terrain_ir : S :=
 (.seq (.ops [⟨some 4, .mv (.v (.int .i64 0)), none⟩])
 (.seq (.seq (.ops [⟨some 6, .mv (.t 0), none⟩, ⟨some 7, .len (.t 6), none⟩, ⟨some 8, .mv (.v (.int .i64 0)), none⟩])
 (.blk 0 (.loop (.seq (.ops [⟨some 9, .bin .lss (.t 8) (.t 7), none⟩])
   (.seq (.ite (.t 9) .skip
   (.exit 0))
   (.seq (.blk 1 (.seq (.ops [⟨some 10, .mv (.t 8), none⟩, ⟨some 5, .mv (.t 10), none⟩])
    (.seq (.ops [⟨some 11, .mv (.t 1), none⟩, ⟨some 12, .mv (.t 0), none⟩, ⟨some 13, .mv (.t 5), none⟩, ⟨some 14, .iad 5 (.t 12) (.t 13), none⟩, ⟨some 15, .load 5 true (.t 14), none⟩, ⟨some 16, .cald (.t 11) [.t 15], none⟩])
    (.ite (.t 16) (.seq (.ops [⟨some 17, .mv (.t 5), none⟩, ⟨some 4, .mv (.t 17), none⟩])
     .ret)
    .skip))))
   (.ops [⟨some 18, .bin .add (.t 8) (.v (.int .i64 1)), none⟩, ⟨some 8, .mv (.t 18), none⟩])))))))
 (.seq (.ops [⟨some 4, .mv (.v (.int .i64 (-1))), none⟩])
 .ret)))
noncomputable def X.g_IndexFunc_Terrain (p0 : (List TTerrain)) (f1 : TTerrain → Option Bool) : Option Int :=
  ((loop (fun (x16 : Int) => ((bif (decide (x16 < (p0.length : Int))) then ((at' zTTerrain p0 x16).bind fun v19 => ((f1 v19).bind fun v21 => (bif v21 then some (Sum.inr (Sum.inr x16)) else some (Sum.inl (W (x16 + 1)))))) else some (Sum.inr (Sum.inl ()))) : Option (Int ⊕ (Unit ⊕ Int)))) 0).bind fun y24 => (Sum.elim (fun (y26 : Unit) => some (-1)) (fun (y27 : Int) => some y27) y24))
theorem g_IndexFunc_Terrain_c1_ok (p0 : (List TTerrain)) (cf1 : FuncId) (cs1_0 : List AC) (f1 : TTerrain → Option Bool) (hf1 : ∀ q0 r, f1 q0 = some r → FnOk Tryz.prog gl cf1 [.agg (eTTerrain q0), .c (.pd cs1_0 0)] (cB r)) (r : Int) (H : X.g_IndexFunc_Terrain p0 f1 = some r) : FnOk Tryz.prog gl 274 [.c (dat 5 eTTerrain zTTerrain p0), .c (.clo cf1 [.pd cs1_0 0])] (cI r) := by
  unfold X.g_IndexFunc_Terrain at H
  refine fn_in (fn := Tryz.f274) (ir := g_IndexFunc_Terrain_ir) (s1 := lit [(4, cI r)] []) Tryz.func274 (by kernel_rfl) (by kernel_rfl) (by kernel_rfl) (by kernel_rfl) (by kernel_rfl) ?_
  refine seq_ops [] [] [(0, .c (dat 5 eTTerrain zTTerrain p0)), (1, .c (.clo cf1 [.pd cs1_0 0]))] [] (fun t => t) (by kernel_rfl) ?_
  refine seq_in ?_
  refine seq_ops [] [] [(0, .c (dat 5 eTTerrain zTTerrain p0)), (1, .c (.clo cf1 [.pd cs1_0 0])), (7, cI (p0.length : Int)), (8, cI 0)] [] (fun t => lI p0 (t)) (by kernel_rfl) ?_
  refine ends_blk ?_
  obtain ⟨y24, h25, H⟩ := ofBind H
  refine loop_in (fun (x : Int) => lit [(0, .c (dat 5 eTTerrain zTTerrain p0)), (1, .c (.clo cf1 [.pd cs1_0 0])), (7, cI (p0.length : Int)), (8, cI x)] []) (orJ (fun (z : Unit) => At (.exit 0) (lit [] [])) (fun (z : Int) => At .ret (lit [(4, cI z)] []))) h25 ?_ ?_
  · clear H h25
    intro x16 y0 H
    refine seq_ops [] [] [(0, .c (dat 5 eTTerrain zTTerrain p0)), (1, .c (.clo cf1 [.pd cs1_0 0])), (7, cI (p0.length : Int)), (8, cI x16), (9, cB (decide (x16 < (p0.length : Int))))] [] (fun t => t) (by kernel_rfl) ?_
    refine seq_in ?_
    rcases ofCond H with ⟨c18, H⟩ | ⟨c18, H⟩
    · refine ite_t c18 (by kernel_rfl) ?_
      refine ends_skip ?_
      change EndsI _ _ _ _ _ _
      refine seq_in ?_
      refine ends_blk ?_
      refine seq_ops [] [] [(0, .c (dat 5 eTTerrain zTTerrain p0)), (1, .c (.clo cf1 [.pd cs1_0 0])), (5, cI x16), (7, cI (p0.length : Int)), (8, cI x16)] [] (fun t => t) (by kernel_rfl) ?_
      obtain ⟨v19, h20, H⟩ := ofBind H
      obtain ⟨v21, h22, H⟩ := ofBind H
      refine seq_ops [.cs (eTTerrain v19), .res (cB v21)] [] [(0, .c (dat 5 eTTerrain zTTerrain p0)), (1, .c (.clo cf1 [.pd cs1_0 0])), (5, cI x16), (7, cI (p0.length : Int)), (8, cI x16), (16, cB v21)] [] (fun t => aI (at_lt h20) (aI (at_enc (enc := eTTerrain) h20) (aI (hf1 v19 v21 h22) (t)))) (by kernel_rfl) ?_
      rcases ofCond H with ⟨c23, H⟩ | ⟨c23, H⟩
      · refine ite_t c23 (by kernel_rfl) ?_
        refine seq_ops [] [] [(4, cI x16)] [] (fun t => t) (by kernel_rfl) ?_
        refine ends_ret ?_
        obtain rfl := Option.some.inj H
        exact And.intro (by simp) (And.intro rfl rfl)
      · refine ite_f c23 (by kernel_rfl) ?_
        refine ends_skip ?_
        change EndsI _ _ _ _ _ _
        refine one_ops [] [] [(0, .c (dat 5 eTTerrain zTTerrain p0)), (1, .c (.clo cf1 [.pd cs1_0 0])), (7, cI (p0.length : Int)), (8, cI (W (x16 + 1)))] [] (fun t => t) (by kernel_rfl) ?_
        obtain rfl := Option.some.inj H
        exact And.intro rfl rfl
    · refine ite_f c18 (by kernel_rfl) ?_
      refine tell [] [] [] (fun t => t) (by kernel_rfl) ?_
      refine ends_exit ?_
      obtain rfl := Option.some.inj H
      exact And.intro (by simp) (And.intro rfl rfl)
  · clear h25
    cases y24 with
    | inl y26 =>
      replace H := ofInl H
      intro e s q
      obtain ⟨rfl, rfl⟩ := q
      change EndsI _ _ _ _ _ _
      refine seq_ops [] [] [(4, cI (-1))] [] (fun t => t) (by kernel_rfl) ?_
      refine ends_ret ?_
      obtain rfl := Option.some.inj H
      exact And.intro (.inl rfl) rfl
    | inr y27 =>
      replace H := ofInr H
      intro e s q
      obtain ⟨rfl, rfl⟩ := q
      obtain rfl := Option.some.inj H
      exact And.intro (.inl rfl) rfl

def i_terrainIndex_1_ir : S :=
 (.seq (.ops [⟨some 2, .box 5 (.t 0), none⟩, ⟨some 3, .mv (.v (.bool false)), none⟩])
 (.seq (.ops [⟨some 4, .fad 0 (.t 2), none⟩, ⟨some 5, .load 1 false (.t 4), none⟩, ⟨some 6, .load 1 false (.t 1), none⟩, ⟨some 7, .bin .eql (.t 5) (.t 6), none⟩, ⟨some 3, .mv (.t 7), none⟩])
 .ret))
noncomputable def X.i_terrainIndex_1 (p0 : TTerrain) (p1 : (List UInt8)) : Option Bool :=
  some (p0.Name == p1)
theorem i_terrainIndex_1_ok (p0 : TTerrain) (p1 : (List UInt8)) (r : Bool) (H : X.i_terrainIndex_1 p0 p1 = some r) : FnOk Tryz.prog gl 275 [.agg (eTTerrain p0), .c (.pd (eS p1) 0)] (cB r) := by
  unfold X.i_terrainIndex_1 at H
  refine fn_in (fn := Tryz.f275) (ir := i_terrainIndex_1_ir) (s1 := lit [(3, cB r)] []) Tryz.func275 (by kernel_rfl) (by kernel_rfl) (by kernel_rfl) (by kernel_rfl) (by kernel_rfl) ?_
  refine seq_ops [] [] [(1, .c (.pd (eS p1) 0)), (2, .c (.pk 2 0))] [(2, .var (eTTerrain p0) false)] (fun t => t) (by kernel_rfl) ?_
  refine seq_ops [] [] [(3, cB (p0.Name == p1))] [] (fun t => t) (by kernel_rfl) ?_
  refine ends_ret ?_
  obtain rfl := Option.some.inj H
  exact And.intro (.inl rfl) rfl

def i_terrainIndex_ir : S :=
 (.seq (.ops [⟨some 3, .box 1 (.t 1), none⟩, ⟨some 4, .mv (.v (.int .i64 0)), none⟩])
 (.seq (.ops [⟨some 5, .mv (.t 0), none⟩, ⟨some 6, .clo 275 [.t 3], none⟩, ⟨some 7, .call 274 [.t 5, .t 6], none⟩, ⟨some 4, .mv (.t 7), none⟩])
 .ret))
noncomputable def X.i_terrainIndex (p0 : (List TTerrain)) (p1 : (List UInt8)) : Option Int :=
  ((X.g_IndexFunc_Terrain p0 (fun q0 => X.i_terrainIndex_1 q0 p1)).bind fun v1 => some v1)
theorem i_terrainIndex_ok (p0 : (List TTerrain)) (p1 : (List UInt8)) (r : Int) (H : X.i_terrainIndex p0 p1 = some r) : FnOk Tryz.prog gl 243 [.c (dat 5 eTTerrain zTTerrain p0), .c (.str p1)] (cI r) := by
  unfold X.i_terrainIndex at H
  refine fn_in (fn := Tryz.f243) (ir := i_terrainIndex_ir) (s1 := lit [(4, cI r)] []) Tryz.func243 (by kernel_rfl) (by kernel_rfl) (by kernel_rfl) (by kernel_rfl) (by kernel_rfl) ?_
  refine seq_ops [] [] [(0, .c (dat 5 eTTerrain zTTerrain p0)), (3, .c (.pk 3 0))] [(3, .var [.str p1] false)] (fun t => t) (by kernel_rfl) ?_
  obtain ⟨v1, h2, H⟩ := ofBind H
  refine seq_ops [.res (cI v1)] [] [(4, cI v1)] [] (fun t => aI (g_IndexFunc_Terrain_c1_ok p0 (275) (eS p1) (fun q0 => X.i_terrainIndex_1 q0 p1) (fun q0 r h => i_terrainIndex_1_ok q0 p1 r h) v1 h2) (t)) (by kernel_rfl) ?_
  refine ends_ret ?_
  obtain rfl := Option.some.inj H
  exact And.intro (.inl rfl) rfl

def i_goodKind_ir : S :=
 (.seq (.ops [⟨some 1, .box 6 (.t 0), none⟩, ⟨some 2, .mv (.v (.bool false)), none⟩])
 (.seq (.ops [⟨some 3, .fad 0 (.t 1), none⟩, ⟨some 4, .load 1 false (.t 3), none⟩, ⟨some 5, .call 272 [.t 4], none⟩, ⟨some 6, .mv (.t 5), none⟩, ⟨some 7, .fad 1 (.t 1), some (6, true)⟩, ⟨some 8, .load 1 false (.t 7), some (6, true)⟩, ⟨some 9, .call 130 [.t 8, .v (.int .i64 1), .v (.int .i64 9)], some (6, true)⟩, ⟨some 10, .pick (.t 6) (.t 9) (.v (.bool false)), none⟩, ⟨some 11, .mv (.t 10), none⟩, ⟨some 12, .fad 2 (.t 1), some (11, true)⟩, ⟨some 13, .load 1 false (.t 12), some (11, true)⟩, ⟨some 14, .call 130 [.t 13, .v (.int .i64 0), .v (.int .i64 9)], some (11, true)⟩, ⟨some 15, .pick (.t 11) (.t 14) (.v (.bool false)), none⟩, ⟨some 16, .mv (.t 15), none⟩, ⟨some 17, .fad 3 (.t 1), some (16, true)⟩, ⟨some 18, .load 1 false (.t 17), some (16, true)⟩, ⟨some 19, .call 130 [.t 18, .v (.int .i64 1), .v (.int .i64 4)], some (16, true)⟩, ⟨some 20, .pick (.t 16) (.t 19) (.v (.bool false)), none⟩, ⟨some 21, .mv (.t 20), none⟩, ⟨some 22, .fad 5 (.t 1), some (21, true)⟩, ⟨some 23, .load 1 false (.t 22), some (21, true)⟩, ⟨some 24, .call 130 [.t 23, .v (.int .i64 0), .v (.int .i64 4)], some (21, true)⟩, ⟨some 25, .pick (.t 21) (.t 24) (.v (.bool false)), none⟩, ⟨some 2, .mv (.t 25), none⟩])
 .ret))
noncomputable def X.i_goodKind (p0 : TKind) : Option Bool :=
  ((X.i_isName p0.Name).bind fun v1 => (bif v1 then ((X.i_inRange p0.Strength 1 9).bind fun v4 => (bif v4 then ((X.i_inRange p0.Moves 0 9).bind fun v7 => (bif v7 then ((X.i_inRange p0.Steps 1 4).bind fun v10 => (bif v10 then ((X.i_inRange p0.View 0 4).bind fun v13 => some v13) else some false)) else some false)) else some false)) else some false))
theorem i_goodKind_ok (p0 : TKind) (r : Bool) (H : X.i_goodKind p0 = some r) : FnOk Tryz.prog gl 244 [.agg (eTKind p0)] (cB r) := by
  unfold X.i_goodKind at H
  refine fn_in (fn := Tryz.f244) (ir := i_goodKind_ir) (s1 := lit [(2, cB r)] []) Tryz.func244 (by kernel_rfl) (by kernel_rfl) (by kernel_rfl) (by kernel_rfl) (by kernel_rfl) ?_
  refine seq_ops [] [] [(1, .c (.pk 1 0))] [(1, .var (eTKind p0) false)] (fun t => t) (by kernel_rfl) ?_
  obtain ⟨v1, h2, H⟩ := ofBind H
  rcases ofCond H with ⟨c3, H⟩ | ⟨c3, H⟩
  · obtain ⟨v4, h5, H⟩ := ofBind H
    rcases ofCond H with ⟨c6, H⟩ | ⟨c6, H⟩
    · obtain ⟨v7, h8, H⟩ := ofBind H
      rcases ofCond H with ⟨c9, H⟩ | ⟨c9, H⟩
      · obtain ⟨v10, h11, H⟩ := ofBind H
        rcases ofCond H with ⟨c12, H⟩ | ⟨c12, H⟩
        · obtain ⟨v13, h14, H⟩ := ofBind H
          refine seq_ops [.res (cB v1), .g true, .g true, .g true, .res (cB v4), .g true, .g true, .g true, .g true, .res (cB v7), .g true, .g true, .g true, .g true, .res (cB v10), .g true, .g true, .g true, .g true, .res (cB v13), .g true] [] [(2, cB v13)] [] (fun t => aI (i_isName_ok p0.Name v1 h2) (aI c3 (aI c3 (aI c3 (aI (i_inRange_ok p0.Strength 1 9 v4 h5) (aI c3 (aI c6 (aI c6 (aI c6 (aI (i_inRange_ok p0.Moves 0 9 v7 h8) (aI c6 (aI c9 (aI c9 (aI c9 (aI (i_inRange_ok p0.Steps 1 4 v10 h11) (aI c9 (aI c12 (aI c12 (aI c12 (aI (i_inRange_ok p0.View 0 4 v13 h14) (aI c12 (t)))))))))))))))))))))) (by kernel_rfl) ?_
          refine ends_ret ?_
          obtain rfl := Option.some.inj H
          exact And.intro (.inl rfl) rfl
        · refine seq_ops [.res (cB v1), .g true, .g true, .g true, .res (cB v4), .g true, .g true, .g true, .g true, .res (cB v7), .g true, .g true, .g true, .g true, .res (cB v10), .g true, .g false, .g false, .g false, .g false] [] [(2, cB false)] [] (fun t => aI (i_isName_ok p0.Name v1 h2) (aI c3 (aI c3 (aI c3 (aI (i_inRange_ok p0.Strength 1 9 v4 h5) (aI c3 (aI c6 (aI c6 (aI c6 (aI (i_inRange_ok p0.Moves 0 9 v7 h8) (aI c6 (aI c9 (aI c9 (aI c9 (aI (i_inRange_ok p0.Steps 1 4 v10 h11) (aI c9 (aI c12 (aI c12 (aI c12 (aI c12 (t))))))))))))))))))))) (by kernel_rfl) ?_
          refine ends_ret ?_
          obtain rfl := Option.some.inj H
          exact And.intro (.inl rfl) rfl
      · refine seq_ops [.res (cB v1), .g true, .g true, .g true, .res (cB v4), .g true, .g true, .g true, .g true, .res (cB v7), .g true, .g false, .g false, .g false, .g false, .g false, .g false, .g false, .g false] [] [(2, cB false)] [] (fun t => aI (i_isName_ok p0.Name v1 h2) (aI c3 (aI c3 (aI c3 (aI (i_inRange_ok p0.Strength 1 9 v4 h5) (aI c3 (aI c6 (aI c6 (aI c6 (aI (i_inRange_ok p0.Moves 0 9 v7 h8) (aI c6 (aI c9 (aI c9 (aI c9 (aI c9 (aI (rfl : (false : Bool) = false) (aI (rfl : (false : Bool) = false) (aI (rfl : (false : Bool) = false) (aI (rfl : (false : Bool) = false) (t)))))))))))))))))))) (by kernel_rfl) ?_
        refine ends_ret ?_
        obtain rfl := Option.some.inj H
        exact And.intro (.inl rfl) rfl
    · refine seq_ops [.res (cB v1), .g true, .g true, .g true, .res (cB v4), .g true, .g false, .g false, .g false, .g false, .g false, .g false, .g false, .g false, .g false, .g false, .g false, .g false] [] [(2, cB false)] [] (fun t => aI (i_isName_ok p0.Name v1 h2) (aI c3 (aI c3 (aI c3 (aI (i_inRange_ok p0.Strength 1 9 v4 h5) (aI c3 (aI c6 (aI c6 (aI c6 (aI c6 (aI (rfl : (false : Bool) = false) (aI (rfl : (false : Bool) = false) (aI (rfl : (false : Bool) = false) (aI (rfl : (false : Bool) = false) (aI (rfl : (false : Bool) = false) (aI (rfl : (false : Bool) = false) (aI (rfl : (false : Bool) = false) (aI (rfl : (false : Bool) = false) (t))))))))))))))))))) (by kernel_rfl) ?_
      refine ends_ret ?_
      obtain rfl := Option.some.inj H
      exact And.intro (.inl rfl) rfl
  · refine seq_ops [.res (cB v1), .g false, .g false, .g false, .g false, .g false, .g false, .g false, .g false, .g false, .g false, .g false, .g false, .g false, .g false, .g false, .g false] [] [(2, cB false)] [] (fun t => aI (i_isName_ok p0.Name v1 h2) (aI c3 (aI c3 (aI c3 (aI c3 (aI (rfl : (false : Bool) = false) (aI (rfl : (false : Bool) = false) (aI (rfl : (false : Bool) = false) (aI (rfl : (false : Bool) = false) (aI (rfl : (false : Bool) = false) (aI (rfl : (false : Bool) = false) (aI (rfl : (false : Bool) = false) (aI (rfl : (false : Bool) = false) (aI (rfl : (false : Bool) = false) (aI (rfl : (false : Bool) = false) (aI (rfl : (false : Bool) = false) (aI (rfl : (false : Bool) = false) (t)))))))))))))))))) (by kernel_rfl) ?_
    refine ends_ret ?_
    obtain rfl := Option.some.inj H
    exact And.intro (.inl rfl) rfl

def g_IndexFunc_Kind_ir : S :=
 (.seq (.ops [⟨some 4, .mv (.v (.int .i64 0)), none⟩])
 (.seq (.seq (.ops [⟨some 6, .mv (.t 0), none⟩, ⟨some 7, .len (.t 6), none⟩, ⟨some 8, .mv (.v (.int .i64 0)), none⟩])
 (.blk 0 (.loop (.seq (.ops [⟨some 9, .bin .lss (.t 8) (.t 7), none⟩])
   (.seq (.ite (.t 9) .skip
   (.exit 0))
   (.seq (.blk 1 (.seq (.ops [⟨some 10, .mv (.t 8), none⟩, ⟨some 5, .mv (.t 10), none⟩])
    (.seq (.ops [⟨some 11, .mv (.t 1), none⟩, ⟨some 12, .mv (.t 0), none⟩, ⟨some 13, .mv (.t 5), none⟩, ⟨some 14, .iad 6 (.t 12) (.t 13), none⟩, ⟨some 15, .load 6 true (.t 14), none⟩, ⟨some 16, .cald (.t 11) [.t 15], none⟩])
    (.ite (.t 16) (.seq (.ops [⟨some 17, .mv (.t 5), none⟩, ⟨some 4, .mv (.t 17), none⟩])
     .ret)
    .skip))))
   (.ops [⟨some 18, .bin .add (.t 8) (.v (.int .i64 1)), none⟩, ⟨some 8, .mv (.t 18), none⟩])))))))
 (.seq (.ops [⟨some 4, .mv (.v (.int .i64 (-1))), none⟩])
 .ret)))
noncomputable def X.g_IndexFunc_Kind (p0 : (List TKind)) (f1 : TKind → Option Bool) : Option Int :=
  ((loop (fun (x16 : Int) => ((bif (decide (x16 < (p0.length : Int))) then ((at' zTKind p0 x16).bind fun v19 => ((f1 v19).bind fun v21 => (bif v21 then some (Sum.inr (Sum.inr x16)) else some (Sum.inl (W (x16 + 1)))))) else some (Sum.inr (Sum.inl ()))) : Option (Int ⊕ (Unit ⊕ Int)))) 0).bind fun y24 => (Sum.elim (fun (y26 : Unit) => some (-1)) (fun (y27 : Int) => some y27) y24))
theorem g_IndexFunc_Kind_c1_ok (p0 : (List TKind)) (cf1 : FuncId) (cs1_0 : List AC) (f1 : TKind → Option Bool) (hf1 : ∀ q0 r, f1 q0 = some r → FnOk Tryz.prog gl cf1 [.agg (eTKind q0), .c (.pd cs1_0 0)] (cB r)) (r : Int) (H : X.g_IndexFunc_Kind p0 f1 = some r) : FnOk Tryz.prog gl 276 [.c (dat 6 eTKind zTKind p0), .c (.clo cf1 [.pd cs1_0 0])] (cI r) := by
  unfold X.g_IndexFunc_Kind at H
  refine fn_in (fn := Tryz.f276) (ir := g_IndexFunc_Kind_ir) (s1 := lit [(4, cI r)] []) Tryz.func276 (by kernel_rfl) (by kernel_rfl) (by kernel_rfl) (by kernel_rfl) (by kernel_rfl) ?_
  refine seq_ops [] [] [(0, .c (dat 6 eTKind zTKind p0)), (1, .c (.clo cf1 [.pd cs1_0 0]))] [] (fun t => t) (by kernel_rfl) ?_
  refine seq_in ?_
  refine seq_ops [] [] [(0, .c (dat 6 eTKind zTKind p0)), (1, .c (.clo cf1 [.pd cs1_0 0])), (7, cI (p0.length : Int)), (8, cI 0)] [] (fun t => lI p0 (t)) (by kernel_rfl) ?_
  refine ends_blk ?_
  obtain ⟨y24, h25, H⟩ := ofBind H
  refine loop_in (fun (x : Int) => lit [(0, .c (dat 6 eTKind zTKind p0)), (1, .c (.clo cf1 [.pd cs1_0 0])), (7, cI (p0.length : Int)), (8, cI x)] []) (orJ (fun (z : Unit) => At (.exit 0) (lit [] [])) (fun (z : Int) => At .ret (lit [(4, cI z)] []))) h25 ?_ ?_
  · clear H h25
    intro x16 y0 H
    refine seq_ops [] [] [(0, .c (dat 6 eTKind zTKind p0)), (1, .c (.clo cf1 [.pd cs1_0 0])), (7, cI (p0.length : Int)), (8, cI x16), (9, cB (decide (x16 < (p0.length : Int))))] [] (fun t => t) (by kernel_rfl) ?_
    refine seq_in ?_
    rcases ofCond H with ⟨c18, H⟩ | ⟨c18, H⟩
    · refine ite_t c18 (by kernel_rfl) ?_
      refine ends_skip ?_
      change EndsI _ _ _ _ _ _
      refine seq_in ?_
      refine ends_blk ?_
      refine seq_ops [] [] [(0, .c (dat 6 eTKind zTKind p0)), (1, .c (.clo cf1 [.pd cs1_0 0])), (5, cI x16), (7, cI (p0.length : Int)), (8, cI x16)] [] (fun t => t) (by kernel_rfl) ?_
      obtain ⟨v19, h20, H⟩ := ofBind H
      obtain ⟨v21, h22, H⟩ := ofBind H
      refine seq_ops [.cs (eTKind v19), .res (cB v21)] [] [(0, .c (dat 6 eTKind zTKind p0)), (1, .c (.clo cf1 [.pd cs1_0 0])), (5, cI x16), (7, cI (p0.length : Int)), (8, cI x16), (16, cB v21)] [] (fun t => aI (at_lt h20) (aI (at_enc (enc := eTKind) h20) (aI (hf1 v19 v21 h22) (t)))) (by kernel_rfl) ?_
      rcases ofCond H with ⟨c23, H⟩ | ⟨c23, H⟩
      · refine ite_t c23 (by kernel_rfl) ?_
        refine seq_ops [] [] [(4, cI x16)] [] (fun t => t) (by kernel_rfl) ?_
        refine ends_ret ?_
        obtain rfl := Option.some.inj H
        exact And.intro (by simp) (And.intro rfl rfl)
      · refine ite_f c23 (by kernel_rfl) ?_
        refine ends_skip ?_
        change EndsI _ _ _ _ _ _
        refine one_ops [] [] [(0, .c (dat 6 eTKind zTKind p0)), (1, .c (.clo cf1 [.pd cs1_0 0])), (7, cI (p0.length : Int)), (8, cI (W (x16 + 1)))] [] (fun t => t) (by kernel_rfl) ?_
        obtain rfl := Option.some.inj H
        exact And.intro rfl rfl
    · refine ite_f c18 (by kernel_rfl) ?_
      refine tell [] [] [] (fun t => t) (by kernel_rfl) ?_
      refine ends_exit ?_
      obtain rfl := Option.some.inj H
      exact And.intro (by simp) (And.intro rfl rfl)
  · clear h25
    cases y24 with
    | inl y26 =>
      replace H := ofInl H
      intro e s q
      obtain ⟨rfl, rfl⟩ := q
      change EndsI _ _ _ _ _ _
      refine seq_ops [] [] [(4, cI (-1))] [] (fun t => t) (by kernel_rfl) ?_
      refine ends_ret ?_
      obtain rfl := Option.some.inj H
      exact And.intro (.inl rfl) rfl
    | inr y27 =>
      replace H := ofInr H
      intro e s q
      obtain ⟨rfl, rfl⟩ := q
      obtain rfl := Option.some.inj H
      exact And.intro (.inl rfl) rfl

def i_kindIndex_1_ir : S :=
 (.seq (.ops [⟨some 2, .box 6 (.t 0), none⟩, ⟨some 3, .mv (.v (.bool false)), none⟩])
 (.seq (.ops [⟨some 4, .fad 0 (.t 2), none⟩, ⟨some 5, .load 1 false (.t 4), none⟩, ⟨some 6, .load 1 false (.t 1), none⟩, ⟨some 7, .bin .eql (.t 5) (.t 6), none⟩, ⟨some 3, .mv (.t 7), none⟩])
 .ret))
noncomputable def X.i_kindIndex_1 (p0 : TKind) (p1 : (List UInt8)) : Option Bool :=
  some (p0.Name == p1)
theorem i_kindIndex_1_ok (p0 : TKind) (p1 : (List UInt8)) (r : Bool) (H : X.i_kindIndex_1 p0 p1 = some r) : FnOk Tryz.prog gl 277 [.agg (eTKind p0), .c (.pd (eS p1) 0)] (cB r) := by
  unfold X.i_kindIndex_1 at H
  refine fn_in (fn := Tryz.f277) (ir := i_kindIndex_1_ir) (s1 := lit [(3, cB r)] []) Tryz.func277 (by kernel_rfl) (by kernel_rfl) (by kernel_rfl) (by kernel_rfl) (by kernel_rfl) ?_
  refine seq_ops [] [] [(1, .c (.pd (eS p1) 0)), (2, .c (.pk 2 0))] [(2, .var (eTKind p0) false)] (fun t => t) (by kernel_rfl) ?_
  refine seq_ops [] [] [(3, cB (p0.Name == p1))] [] (fun t => t) (by kernel_rfl) ?_
  refine ends_ret ?_
  obtain rfl := Option.some.inj H
  exact And.intro (.inl rfl) rfl

def i_kindIndex_ir : S :=
 (.seq (.ops [⟨some 3, .box 1 (.t 1), none⟩, ⟨some 4, .mv (.v (.int .i64 0)), none⟩])
 (.seq (.ops [⟨some 5, .mv (.t 0), none⟩, ⟨some 6, .clo 277 [.t 3], none⟩, ⟨some 7, .call 276 [.t 5, .t 6], none⟩, ⟨some 4, .mv (.t 7), none⟩])
 .ret))
noncomputable def X.i_kindIndex (p0 : (List TKind)) (p1 : (List UInt8)) : Option Int :=
  ((X.g_IndexFunc_Kind p0 (fun q0 => X.i_kindIndex_1 q0 p1)).bind fun v1 => some v1)
theorem i_kindIndex_ok (p0 : (List TKind)) (p1 : (List UInt8)) (r : Int) (H : X.i_kindIndex p0 p1 = some r) : FnOk Tryz.prog gl 245 [.c (dat 6 eTKind zTKind p0), .c (.str p1)] (cI r) := by
  unfold X.i_kindIndex at H
  refine fn_in (fn := Tryz.f245) (ir := i_kindIndex_ir) (s1 := lit [(4, cI r)] []) Tryz.func245 (by kernel_rfl) (by kernel_rfl) (by kernel_rfl) (by kernel_rfl) (by kernel_rfl) ?_
  refine seq_ops [] [] [(0, .c (dat 6 eTKind zTKind p0)), (3, .c (.pk 3 0))] [(3, .var [.str p1] false)] (fun t => t) (by kernel_rfl) ?_
  obtain ⟨v1, h2, H⟩ := ofBind H
  refine seq_ops [.res (cI v1)] [] [(4, cI v1)] [] (fun t => aI (g_IndexFunc_Kind_c1_ok p0 (277) (eS p1) (fun q0 => X.i_kindIndex_1 q0 p1) (fun q0 r h => i_kindIndex_1_ok q0 p1 r h) v1 h2) (t)) (by kernel_rfl) ?_
  refine ends_ret ?_
  obtain rfl := Option.some.inj H
  exact And.intro (.inl rfl) rfl

end Go.Proofs.YtfmeidhialmckaaGreatDoor.X0
