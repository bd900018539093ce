/- What each Go function that FnExactReactionsLeft reaches computes, and that it returns so; no condition. -/
import Derived.Test.YtociagbpecpcnaaGreatDoorRLWa
set_option linter.unusedVariables false
set_option linter.unusedSimpArgs false
set_option maxRecDepth 100000
namespace Go.Proofs.YtociagbpecpcnaaGreatDoor.X0
open Go Go.RowKit Go.Proofs.YtociagbpecpcnaaGreatDoor.Ab Go.Proofs

def s_sUnit_ir : S :=
 (.seq (.ops [o 2 (.box 12 (.t 0)), o 3 (.box 4 (.t 1)), o 4 (.mv (.v (.bool false)))])
 (.seq (.seq (.draw 29 [o 5 (.fad 0 (.t 3)), o 6 (.load 1 false (.t 5)), o 7 (.call 124 [.t 6, .v (.int .i64 0), .v (.int .i64 1)]), o 8 (.not (.t 7)), o 9 (.mv (.t 8)), ⟨some 10, .fad 1 (.t 3), some (9, false)⟩, ⟨some 11, .load 1 false (.t 10), some (9, false)⟩, ⟨some 12, .fad 0 (.t 2), some (9, false)⟩, ⟨some 13, .fad 1 (.t 12), some (9, false)⟩, ⟨some 14, .load 1 false (.t 13), some (9, false)⟩, ⟨some 15, .len (.t 14), some (9, false)⟩, ⟨some 16, .bin .sub (.t 15) (.v (.int .i64 1)), some (9, false)⟩, ⟨some 17, .call 124 [.t 11, .v (.int .i64 0), .t 16], some (9, false)⟩, ⟨some 18, .not (.t 17), some (9, false)⟩, o 19 (.pick (.t 9) (.v (.bool true)) (.t 18)), o 20 (.mv (.t 19)), ⟨some 21, .fad 3 (.t 3), some (20, false)⟩, ⟨some 22, .load 1 false (.t 21), some (20, false)⟩, ⟨some 23, .fad 0 (.t 2), some (20, false)⟩, ⟨some 24, .fad 1 (.t 23), some (20, false)⟩, ⟨some 25, .load 1 false (.t 24), some (20, false)⟩, ⟨some 26, .fad 1 (.t 3), some (20, false)⟩, ⟨some 27, .load 1 false (.t 26), some (20, false)⟩, ⟨some 28, .iad 6 (.t 25) (.t 27), some (20, false)⟩, ⟨some 29, .fad 3 (.t 28), some (20, false)⟩, ⟨some 30, .load 1 false (.t 29), some (20, false)⟩, ⟨some 31, .call 124 [.t 22, .v (.int .i64 0), .t 30], some (20, false)⟩, ⟨some 32, .not (.t 31), some (20, false)⟩, o 33 (.pick (.t 20) (.v (.bool true)) (.t 32))])
 (.ite (.t 33) (.seq (.ops [o 4 (.mv (.v (.bool false)))])
  .ret)
 .skip))
 (.seq (.draw 27 [o 34 (.fad 2 (.t 3)), o 35 (.load 1 false (.t 34)), o 36 (.bin .eql (.t 35) (.v (.int .i64 (-1)))), o 37 (.mv (.t 36)), ⟨some 38, .fad 3 (.t 3), some (37, false)⟩, ⟨some 39, .load 1 false (.t 38), some (37, false)⟩, ⟨some 40, .bin .gtr (.t 39) (.v (.int .i64 0)), some (37, false)⟩, ⟨some 41, .mv (.t 40), some (37, false)⟩, ⟨some 42, .fad 2 (.t 3), some (41, true)⟩, ⟨some 43, .load 1 false (.t 42), some (41, true)⟩, ⟨some 44, .fad 7 (.t 2), some (41, true)⟩, ⟨some 45, .load 5 true (.t 44), some (41, true)⟩, ⟨some 46, .call 142 [.t 45], some (41, true)⟩, ⟨some 47, .bin .sub (.t 46) (.v (.int .i64 1)), some (41, true)⟩, ⟨some 48, .call 124 [.t 43, .v (.int .i64 0), .t 47], some (41, true)⟩, ⟨some 49, .pick (.t 41) (.t 48) (.v (.bool false)), some (37, false)⟩, ⟨some 50, .mv (.t 49), some (37, false)⟩, ⟨some 51, .load 12 true (.t 2), some (50, true)⟩, ⟨some 52, .fad 1 (.t 3), some (50, true)⟩, ⟨some 53, .load 1 false (.t 52), some (50, true)⟩, ⟨some 54, .fad 2 (.t 3), some (50, true)⟩, ⟨some 55, .load 1 false (.t 54), some (50, true)⟩, ⟨some 56, .call 153 [.t 51, .t 53, .t 55], some (50, true)⟩, ⟨some 57, .bin .gtr (.t 56) (.v (.int .i64 0)), some (50, true)⟩, ⟨some 58, .pick (.t 50) (.t 57) (.v (.bool false)), some (37, false)⟩, o 59 (.pick (.t 37) (.v (.bool true)) (.t 58)), o 4 (.mv (.t 59))])
 .ret)))
noncomputable def X.s_sUnit (p0 : TBoard) (p1 : TUnit) : Option Bool :=
 ((X.s_l1In p1.Side 0 1).bind fun v12 => (bif (!v12) then some false else ((X.s_l1In p1.Kind 0 (W ((p0.Rules.Kinds.length : Int) - 1))).bind fun v15 => (bif (!v15) then some false else ((at' zTKind p0.Rules.Kinds p1.Kind).bind fun v18 => ((X.s_l1In p1.Steps 0 v18.Steps).bind fun v20 => (bif (!v20) then some false else (bif (p1.At == (-1)) then some true else (bif (decide (p1.Steps > 0)) then ((X.s_mSize p0.Map).bind fun v25 => ((X.s_l1In p1.At 0 (W (v25 - 1))).bind fun v27 => (bif v27 then ((X.s_bCost p0 p1.Kind p1.At).bind fun v30 => some (decide (v30 > 0))) else some false))) else some false)))))))))
theorem s_sUnit_ok (p0 : TBoard) (p1 : TUnit) (r : Bool) (H : X.s_sUnit p0 p1 = some r) : FnOk Tryz.prog gl 177 [.agg (eTBoard p0), .agg (eTUnit p1)] (cB r) := by
 unfold X.s_sUnit at H
 refine fi Tryz.f177 s_sUnit_ir [(4, cB r)] [] glL Tryz.func177 ?_
 refine so [] [] [(2, pk 2), (3, pk 3)] [(2, va (eTBoard p0)), (3, va (eTUnit p1))] id ?_
 refine seq_in ?_
 obtain ⟨v12, h13, H⟩ := ofBind H
 rcases ofCond H with ⟨c14, H⟩ | ⟨c14, H⟩
 ·refine sd [.res (cB v12), .g true, .g true, .g true, .g true, .g true, .g true, .g true, .g true, .g true, .g true, .g true, .g true, .g true, .g true, .g true, .g true, .g true, .g true, .g true, .g true, .g true, .g true, .g true] [] [(2, pk 2), (3, pk 3), (33, cB true)] [(2, va (eTBoard p0)), (3, va (eTUnit p1))] (fun t => aI (s_l1In_ok p1.Side 0 1 v12 h13) (aI trivial (aI (rfl : ([] : List Nat) = []) (aI c14 (aI c14 (aI c14 (aI c14 (aI c14 (aI c14 (aI c14 (aI c14 (aI c14 (aI c14 (aI (rfl : (true : Bool) = true) (aI (rfl : (true : Bool) = true) (aI (rfl : (true : Bool) = true) (aI (rfl : (true : Bool) = true) (aI (rfl : (true : Bool) = true) (aI (rfl : (true : Bool) = true) (aI (rfl : (true : Bool) = true) (aI (rfl : (true : Bool) = true) (aI (rfl : (true : Bool) = true) (aI (rfl : (true : Bool) = true) (aI (rfl : (true : Bool) = true) (aI (rfl : (true : Bool) = true) (aI (rfl : (true : Bool) = true) (t))))))))))))))))))))))))))) ?_
  refine it (rfl : (true : Bool) = true) ?_
  refine so [] [] [(4, cB false)] [] id ?_
  refine ends_ret ?_
  cases H
  exact And.intro (.inl rfl) rfl
 ·obtain ⟨v15, h16, H⟩ := ofBind H
  rcases ofCond H with ⟨c17, H⟩ | ⟨c17, H⟩
  ·refine sd [.res (cB v12), .g false, .g false, .g false, .g false, .g false, .g false, .g false, .g false, .res (cB v15), .g false, .g false, .g true, .g true, .g true, .g true, .g true, .g true, .g true, .g true, .g true, .g true, .g true, .g true, .g true] [] [(2, pk 2), (3, pk 3), (33, cB true)] [(2, va (eTBoard p0)), (3, va (eTUnit p1))] (fun t => aI (s_l1In_ok p1.Side 0 1 v12 h13) (aI trivial (aI (rfl : ([] : List Nat) = []) (aI c14 (aI c14 (aI c14 (aI c14 (aI c14 (aI c14 (aI c14 (aI c14 (aI (s_l1In_ok p1.Kind 0 (W ((p0.Rules.Kinds.length : Int) - 1)) v15 h16) (aI trivial (aI (rfl : ([] : List Nat) = []) (aI c14 (aI c14 (aI c17 (aI c17 (aI c17 (aI c17 (aI c17 (aI c17 (aI c17 (aI c17 (aI c17 (aI c17 (aI c17 (aI c17 (aI c17 (t)))))))))))))))))))))))))))))) ?_
   refine it (rfl : (true : Bool) = true) ?_
   refine so [] [] [(4, cB false)] [] id ?_
   refine ends_ret ?_
   cases H
   exact And.intro (.inl rfl) rfl
  ·obtain ⟨v18, h19, H⟩ := ofBind H
   obtain ⟨v20, h21, H⟩ := ofBind H
   refine sd [.res (cB v12), .g false, .g false, .g false, .g false, .g false, .g false, .g false, .g false, .res (cB v15), .g false, .g false, .g false, .g false, .g false, .g false, .g false, .g false, .g false, .g false, .cs (eTKind v18), .g false, .g false, .g false, .res (cB v20), .g false, .g false] [] [(2, pk 2), (3, pk 3), (33, cB (!v20))] [(2, va (eTBoard p0)), (3, va (eTUnit p1))] (fun t => aI (s_l1In_ok p1.Side 0 1 v12 h13) (aI trivial (aI (rfl : ([] : List Nat) = []) (aI c14 (aI c14 (aI c14 (aI c14 (aI c14 (aI c14 (aI c14 (aI c14 (aI (s_l1In_ok p1.Kind 0 (W ((p0.Rules.Kinds.length : Int) - 1)) v15 h16) (aI trivial (aI (rfl : ([] : List Nat) = []) (aI c14 (aI c14 (aI c17 (aI c17 (aI c17 (aI c17 (aI c17 (aI c17 (aI c17 (aI c17 (aI (at_lt h19) (aI (at_enc (enc := eTKind) h19) (aI c17 (aI c17 (aI (rfl : ([] : List Nat) = []) (aI c17 (aI (s_l1In_ok p1.Steps 0 v18.Steps v20 h21) (aI trivial (aI (rfl : ([] : List Nat) = []) (aI c17 (aI c17 (t)))))))))))))))))))))))))))))))))))) ?_
   rcases ofCond H with ⟨c22, H⟩ | ⟨c22, H⟩
   ·refine it c22 ?_
    refine so [] [] [(4, cB false)] [] id ?_
    refine ends_ret ?_
    cases H
    exact And.intro (.inl rfl) rfl
   ·refine jf c22 ?_
    refine sk ?_
    rcases ofCond H with ⟨c23, H⟩ | ⟨c23, H⟩
    ·refine sd [.g true, .g true, .g true, .g true, .g true, .g true, .g true, .g true] [] [(4, cB true)] [] (fun t => aI c23 (aI c23 (aI c23 (aI c23 (aI c23 (aI c23 (aI c23 (aI c23 (t))))))))) ?_
     refine ends_ret ?_
     cases H
     exact And.intro (.inl rfl) rfl
    ·rcases ofCond H with ⟨c24, H⟩ | ⟨c24, H⟩
     ·obtain ⟨v25, h26, H⟩ := ofBind H
      obtain ⟨v27, h28, H⟩ := ofBind H
      rcases ofCond H with ⟨c29, H⟩ | ⟨c29, H⟩
      ·obtain ⟨v30, h31, H⟩ := ofBind H
       refine sd [.g false, .g false, .g false, .g false, .g true, .g true, .g true, .g true, .g true, .res (cI v25), .g true, .g true, .res (cB v27), .g false, .g true, .g false, .g true, .g true, .g true, .g true, .g true, .g true, .res (cI v30), .g true, .g false, .g true, .g false] [] [(4, cB (decide (v30 > 0)))] [] (fun t => aI c23 (aI c23 (aI c23 (aI c23 (aI c24 (aI c24 (aI c24 (aI c24 (aI c24 (aI (s_mSize_ok p0.Map v25 h26) (aI trivial (aI (rfl : ([] : List Nat) = []) (aI c24 (aI c24 (aI (s_l1In_ok p1.At 0 (W (v25 - 1)) v27 h28) (aI trivial (aI (rfl : ([] : List Nat) = []) (aI c23 (aI c24 (aI c23 (aI c29 (aI c29 (aI c29 (aI c29 (aI c29 (aI c29 (aI (s_bCost_ok p0 p1.Kind p1.At v30 h31) (aI trivial (aI (rfl : ([] : List Nat) = []) (aI c29 (aI c23 (aI c29 (aI c23 (t)))))))))))))))))))))))))))))))))) ?_
       refine ends_ret ?_
       cases H
       exact And.intro (.inl rfl) rfl
      ·refine sd [.g false, .g false, .g false, .g false, .g true, .g true, .g true, .g true, .g true, .res (cI v25), .g true, .g true, .res (cB v27), .g false, .g true, .g false, .g false, .g false, .g false, .g false, .g false, .g false, .g false, .g false, .g false, .g false] [] [(4, cB false)] [] (fun t => aI c23 (aI c23 (aI c23 (aI c23 (aI c24 (aI c24 (aI c24 (aI c24 (aI c24 (aI (s_mSize_ok p0.Map v25 h26) (aI trivial (aI (rfl : ([] : List Nat) = []) (aI c24 (aI c24 (aI (s_l1In_ok p1.At 0 (W (v25 - 1)) v27 h28) (aI trivial (aI (rfl : ([] : List Nat) = []) (aI c23 (aI c24 (aI c23 (aI c29 (aI c29 (aI c29 (aI c29 (aI c29 (aI c29 (aI c29 (aI c23 (aI c29 (aI c23 (t))))))))))))))))))))))))))))))) ?_
       refine ends_ret ?_
       cases H
       exact And.intro (.inl rfl) rfl
     ·refine sd [.g false, .g false, .g false, .g false, .g false, .g false, .g false, .g false, .g false, .g false, .g false, .g false, .g false, .g false, .g false, .g false, .g false, .g false, .g false, .g false, .g false, .g false, .g false, .g false] [] [(4, cB false)] [] (fun t => aI c23 (aI c23 (aI c23 (aI c23 (aI c24 (aI c24 (aI c24 (aI c24 (aI c24 (aI c24 (aI c24 (aI c23 (aI c24 (aI c23 (aI (rfl : (false : Bool) = false) (aI (rfl : (false : Bool) = false) (aI (rfl : (false : Bool) = false) (aI (rfl : (false : Bool) = false) (aI (rfl : (false : Bool) = false) (aI (rfl : (false : Bool) = false) (aI (rfl : (false : Bool) = false) (aI c23 (aI (rfl : (false : Bool) = false) (aI c23 (t))))))))))))))))))))))))) ?_
      refine ends_ret ?_
      cases H
      exact And.intro (.inl rfl) rfl
def s_sAt_ir : S :=
 (.seq (.ops [o 3 (.box 3 (.t 0)), o 6 (.mv (.v (.nil)))])
 (.seq (.ops [o 7 (.mv (.v (.nil)))])
 (.seq (.seq (.ops [o 10 (.fad 2 (.t 3)), o 11 (.load 1 false (.t 10)), o 12 (.len (.t 11)), o 13 (.mv (.v (.int .i64 0)))])
 (.blk 0 (.loop (.seq (.ops [o 14 (.bin .lss (.t 13) (.t 12))])
   (.seq (.ite (.t 14) .skip
   (.exit 0))
   (.seq (.blk 1 (.seq (.ops [o 15 (.mv (.t 13)), o 16 (.iad 4 (.t 11) (.t 13)), o 17 (.load 4 true (.t 16)), o 9 (.alloc [.int .i64 0, .int .i64 0, .int .i64 0, .int .i64 0]), o 8 (.mv (.t 15)), ⟨none, .store 4 (.t 9) (.t 17), none⟩])
    (.seq (.ops [o 18 (.fad 2 (.t 9)), o 19 (.load 1 false (.t 18)), o 20 (.mv (.t 1)), o 21 (.bin .eql (.t 19) (.t 20)), o 22 (.mv (.t 21)), ⟨some 23, .fad 0 (.t 9), some (22, true)⟩, ⟨some 24, .load 1 false (.t 23), some (22, true)⟩, ⟨some 25, .mv (.t 2), some (22, true)⟩, ⟨some 26, .bin .eql (.t 24) (.t 25), some (22, true)⟩, o 27 (.pick (.t 22) (.t 26) (.v (.bool false)))])
    (.ite (.t 27) (.ops [o 28 (.mv (.t 7)), o 29 (.mv (.t 8)), o 30 (.bsl 1 [.t 29]), o 31 (.app 1 8 (.t 28) (.t 30)), o 7 (.mv (.t 31))])
    .skip))))
   (.ops [o 32 (.bin .add (.t 13) (.v (.int .i64 1))), o 13 (.mv (.t 32))])))))))
 (.seq (.ops [o 33 (.mv (.t 7)), o 6 (.mv (.t 33))])
 .ret))))
noncomputable def X.s_sAt (p0 : TState) (p1 : Int) (p2 : Int) : Option (List Int) :=
 ((loop (fun (x16 : (Int × (List Int))) => ((bif (decide (x16.1 < (p0.Units.length : Int))) then ((at' zTUnit p0.Units x16.1).bind fun v19 => (bif (v19.At == p1) then (bif (v19.Side == p2) then (if (x16.2 ++ ([x16.1] : List Int)).length ≤ LIM then some (Sum.inl ((W (x16.1 + 1)), (x16.2 ++ ([x16.1] : List Int)))) else none) else some (Sum.inl ((W (x16.1 + 1)), x16.2))) else some (Sum.inl ((W (x16.1 + 1)), x16.2)))) else some (Sum.inr x16.2)) : Option ((Int × (List Int)) ⊕ (List Int)))) (0, ([] : List Int))).bind fun y24 => some y24)
theorem s_sAt_ok (p0 : TState) (p1 : Int) (p2 : Int) (r : (List Int)) (H : X.s_sAt p0 p1 p2 = some r) : FnOk Tryz.prog gl 178 [.agg (eTState p0), cI p1, cI p2] (.c (dat 1 eI zI r)) := by
 unfold X.s_sAt at H
 refine fi Tryz.f178 s_sAt_ir [(6, dc 1 eI zI r)] [] glL Tryz.func178 ?_
 refine so [] [] [(1, cI p1), (2, cI p2), (3, pk 3)] [(3, va (eTState p0))] id ?_
 refine so [] [] [(1, cI p1), (2, cI p2), (3, pk 3), (7, .c (.nil))] [(3, va (eTState p0))] id ?_
 refine seq_in ?_
 refine so [] [] [(1, cI p1), (2, cI p2), (7, .c (.nil)), (11, dc 4 eTUnit zTUnit p0.Units), (12, cI (p0.Units.length : Int)), (13, cI 0)] [] (fun t => lI p0.Units (t)) ?_
 refine ends_blk ?_
 obtain ⟨y24, h25, H⟩ := ofBind H
 refine tl [.nlo 7 1001 1 (fF eI zI ([] : List Int))] [(1, cI p1), (2, cI p2), (7, .c (.own 1001 1 0 (([] : List Int).length))), (11, dc 4 eTUnit zTUnit p0.Units), (12, cI (p0.Units.length : Int)), (13, cI 0)] [(1001, .arr 1 (([] : List Int).length) (fF eI zI ([] : List Int)) false)] (fun t => aI (by decide : 0 < 1) (t)) ?_
 refine loop_in (fun (x : (Int × (List Int))) => lit [(1, cI p1), (2, cI p2), (7, .c (.own 1001 1 0 x.2.length)), (11, dc 4 eTUnit zTUnit p0.Units), (12, cI (p0.Units.length : Int)), (13, cI x.1)] [(1001, .arr 1 x.2.length (fF eI zI x.2) false)]) (fun (z : (List Int)) => At (.exit 0) (lit [(7, .c (.own 1001 1 0 z.length))] [(1001, .arr 1 z.length (fF eI zI z) false)])) h25 ?_ ?_
 ·clear H h25
  intro x16 y0 H
  refine so [] [] [(1, cI p1), (2, cI p2), (7, .c (.own 1001 1 0 x16.2.length)), (11, dc 4 eTUnit zTUnit p0.Units), (12, cI (p0.Units.length : Int)), (13, cI x16.1), (14, cB (decide (x16.1 < (p0.Units.length : Int))))] [(1001, .arr 1 x16.2.length (fF eI zI x16.2) false)] id ?_
  refine seq_in ?_
  rcases ofCond H with ⟨c18, H⟩ | ⟨c18, H⟩
  ·refine it c18 ?_
   refine sk ?_
   refine seq_in ?_
   refine ends_blk ?_
   obtain ⟨v19, h20, H⟩ := ofBind H
   refine so [.cs (eTUnit v19)] [] [(1, cI p1), (2, cI p2), (7, .c (.own 1001 1 0 x16.2.length)), (8, cI x16.1), (9, pk 9), (11, dc 4 eTUnit zTUnit p0.Units), (12, cI (p0.Units.length : Int)), (13, cI x16.1)] [(9, va (eTUnit v19)), (1001, .arr 1 x16.2.length (fF eI zI x16.2) false)] (fun t => aI (at_lt h20) (aI (at_enc (enc := eTUnit) h20) (t))) ?_
   rcases ofCond H with ⟨c21, H⟩ | ⟨c21, H⟩
   ·refine so [.g true, .g true, .g true, .g true, .g true] [] [(1, cI p1), (2, cI p2), (7, .c (.own 1001 1 0 x16.2.length)), (8, cI x16.1), (11, dc 4 eTUnit zTUnit p0.Units), (12, cI (p0.Units.length : Int)), (13, cI x16.1), (27, cB (v19.Side == p2))] [(1001, .arr 1 x16.2.length (fF eI zI x16.2) false)] (fun t => aI c21 (aI c21 (aI c21 (aI c21 (aI c21 (t)))))) ?_
    rcases ofCond H with ⟨c22, H⟩ | ⟨c22, H⟩
    ·refine it c22 ?_
     obtain ⟨g23, H⟩ := ofIf H
     refine oo [.fn ([x16.1] : List Int).length (fF eI zI ([x16.1] : List Int)), .fn (x16.2 ++ ([x16.1] : List Int)).length (fF eI zI (x16.2 ++ ([x16.1] : List Int)))] [] [(1, cI p1), (2, cI p2), (7, .c (.own 31 1 0 ((x16.2 ++ ([x16.1] : List Int)).length))), (11, dc 4 eTUnit zTUnit p0.Units), (12, cI (p0.Units.length : Int)), (13, cI x16.1)] [(31, .arr 1 ((x16.2 ++ ([x16.1] : List Int)).length) (fF eI zI (x16.2 ++ ([x16.1] : List Int))) false)] (fun t => aI (rfl : ([x16.1] : List Int).length = 1) (aI (fF_lit eI zI ([x16.1] : List Int)) (aI (And.intro (Nat.le_refl x16.2.length) (And.intro (@List.length_append _ x16.2 ([x16.1] : List Int)) g23)) (aI (fF_appL eI zI x16.2 ([x16.1] : List Int)) (aI (fF_appR eI zI x16.2 ([x16.1] : List Int)) (t)))))) ?_
     change EndsI _ _ _ _ _ _
     refine oo [] [.ren 31 1001] [(1, cI p1), (2, cI p2), (7, .c (.own 1001 1 0 ((x16.2 ++ ([x16.1] : List Int)).length))), (11, dc 4 eTUnit zTUnit p0.Units), (12, cI (p0.Units.length : Int)), (13, cI (W (x16.1 + 1)))] [(1001, .arr 1 ((x16.2 ++ ([x16.1] : List Int)).length) (fF eI zI (x16.2 ++ ([x16.1] : List Int))) false)] id ?_
     cases H
     exact And.intro rfl rfl
    ·refine jf c22 ?_
     refine sk ?_
     refine oo [] [] [(1, cI p1), (2, cI p2), (7, .c (.own 1001 1 0 x16.2.length)), (11, dc 4 eTUnit zTUnit p0.Units), (12, cI (p0.Units.length : Int)), (13, cI (W (x16.1 + 1)))] [(1001, .arr 1 x16.2.length (fF eI zI x16.2) false)] id ?_
     cases H
     exact And.intro rfl rfl
   ·refine so [.g false, .g false, .g false, .g false, .g false] [] [(1, cI p1), (2, cI p2), (7, .c (.own 1001 1 0 x16.2.length)), (8, cI x16.1), (11, dc 4 eTUnit zTUnit p0.Units), (12, cI (p0.Units.length : Int)), (13, cI x16.1), (27, cB false)] [(1001, .arr 1 x16.2.length (fF eI zI x16.2) false)] (fun t => aI c21 (aI c21 (aI c21 (aI c21 (aI c21 (t)))))) ?_
    refine jf (rfl : (false : Bool) = false) ?_
    refine sk ?_
    refine oo [] [] [(1, cI p1), (2, cI p2), (7, .c (.own 1001 1 0 x16.2.length)), (11, dc 4 eTUnit zTUnit p0.Units), (12, cI (p0.Units.length : Int)), (13, cI (W (x16.1 + 1)))] [(1001, .arr 1 x16.2.length (fF eI zI x16.2) false)] id ?_
    cases H
    exact And.intro rfl rfl
  ·refine jf c18 ?_
   refine tl [] [(7, .c (.own 1001 1 0 x16.2.length))] [(1001, .arr 1 x16.2.length (fF eI zI x16.2) false)] id ?_
   refine ends_exit ?_
   cases H
   exact And.intro (by simp) (And.intro rfl rfl)
 ·clear h25
  intro e s q
  obtain ⟨rfl, rfl⟩ := q
  change EndsI _ _ _ _ _ _
  refine so [] [] [(6, .c (.own 1001 1 0 y24.length))] [(1001, .arr 1 y24.length (fF eI zI y24) false)] id ?_
  refine tl [.frz 6] [(6, dc 1 eI zI y24)] [] (fun t => aI (Nat.le_refl y24.length) (t)) ?_
  refine ends_ret ?_
  cases H
  exact And.intro (.inl rfl) rfl
def s_sGood_ir : S :=
 (.seq (.ops [o 2 (.box 12 (.t 0)), o 3 (.box 3 (.t 1)), o 4 (.mv (.v (.bool false)))])
 (.seq (.seq (.ops [o 9 (.load 12 true (.t 2)), o 10 (.call 140 [.t 9]), o 11 (.not (.t 10)), o 12 (.mv (.t 11)), ⟨some 13, .fad 0 (.t 3), some (12, false)⟩, ⟨some 14, .load 1 false (.t 13), some (12, false)⟩, ⟨some 15, .fad 0 (.t 2), some (12, false)⟩, ⟨some 16, .fad 6 (.t 15), some (12, false)⟩, ⟨some 17, .load 1 false (.t 16), some (12, false)⟩, ⟨some 18, .call 124 [.t 14, .v (.int .i64 0), .t 17], some (12, false)⟩, ⟨some 19, .not (.t 18), some (12, false)⟩, o 20 (.pick (.t 12) (.v (.bool true)) (.t 19)), o 21 (.mv (.t 20)), ⟨some 22, .fad 1 (.t 3), some (21, false)⟩, ⟨some 23, .load 1 false (.t 22), some (21, false)⟩, ⟨some 24, .call 124 [.t 23, .v (.int .i64 0), .v (.int .i64 2)], some (21, false)⟩, ⟨some 25, .not (.t 24), some (21, false)⟩, o 26 (.pick (.t 21) (.v (.bool true)) (.t 25)), o 27 (.mv (.t 26)), ⟨some 28, .fad 2 (.t 3), some (27, false)⟩, ⟨some 29, .load 1 false (.t 28), some (27, false)⟩, ⟨some 30, .len (.t 29), some (27, false)⟩, ⟨some 31, .bin .gtr (.t 30) (.v (.int .i64 12)), some (27, false)⟩, o 32 (.pick (.t 27) (.v (.bool true)) (.t 31))])
 (.ite (.t 32) (.seq (.ops [o 4 (.mv (.v (.bool false)))])
  .ret)
 .skip))
 (.seq (.seq (.ops [o 33 (.fad 2 (.t 3)), o 34 (.load 1 false (.t 33)), o 35 (.len (.t 34)), o 36 (.mv (.v (.int .i64 0)))])
 (.blk 0 (.loop (.seq (.ops [o 37 (.bin .lss (.t 36) (.t 35))])
   (.seq (.ite (.t 37) .skip
   (.exit 0))
   (.seq (.blk 1 (.seq (.ops [o 38 (.iad 4 (.t 34) (.t 36)), o 39 (.load 4 true (.t 38)), o 6 (.alloc [.int .i64 0, .int .i64 0, .int .i64 0, .int .i64 0]), ⟨none, .store 4 (.t 6) (.t 39), none⟩])
    (.seq (.ops [o 40 (.load 12 true (.t 2)), o 41 (.load 4 true (.t 6)), o 42 (.call 177 [.t 40, .t 41]), o 43 (.not (.t 42))])
    (.ite (.t 43) (.seq (.ops [o 4 (.mv (.v (.bool false)))])
     .ret)
    .skip))))
   (.ops [o 44 (.bin .add (.t 36) (.v (.int .i64 1))), o 36 (.mv (.t 44))])))))))
 (.seq (.seq (.ops [o 45 (.fad 2 (.t 3)), o 46 (.load 1 false (.t 45)), o 47 (.len (.t 46)), o 48 (.mv (.v (.int .i64 0)))])
 (.blk 2 (.loop (.seq (.ops [o 49 (.bin .lss (.t 48) (.t 47))])
   (.seq (.ite (.t 49) .skip
   (.exit 2))
   (.seq (.blk 3 (.seq (.ops [o 50 (.iad 4 (.t 46) (.t 48)), o 51 (.load 4 true (.t 50)), o 8 (.alloc [.int .i64 0, .int .i64 0, .int .i64 0, .int .i64 0]), ⟨none, .store 4 (.t 8) (.t 51), none⟩])
    (.seq (.draw 27 [o 52 (.fad 2 (.t 8)), o 53 (.load 1 false (.t 52)), o 54 (.bin .geq (.t 53) (.v (.int .i64 0))), o 55 (.mv (.t 54)), ⟨some 56, .load 3 true (.t 3), some (55, true)⟩, ⟨some 57, .fad 2 (.t 8), some (55, true)⟩, ⟨some 58, .load 1 false (.t 57), some (55, true)⟩, ⟨some 59, .fad 0 (.t 8), some (55, true)⟩, ⟨some 60, .load 1 false (.t 59), some (55, true)⟩, ⟨some 61, .bin .sub (.v (.int .i64 1)) (.t 60), some (55, true)⟩, ⟨some 62, .call 178 [.t 56, .t 58, .t 61], some (55, true)⟩, ⟨some 63, .len (.t 62), some (55, true)⟩, ⟨some 64, .bin .gtr (.t 63) (.v (.int .i64 0)), some (55, true)⟩, ⟨some 65, .mv (.t 64), some (55, true)⟩, ⟨some 66, .load 3 true (.t 3), some (65, false)⟩, ⟨some 67, .fad 2 (.t 8), some (65, false)⟩, ⟨some 68, .load 1 false (.t 67), some (65, false)⟩, ⟨some 69, .fad 0 (.t 8), some (65, false)⟩, ⟨some 70, .load 1 false (.t 69), some (65, false)⟩, ⟨some 71, .call 178 [.t 66, .t 68, .t 70], some (65, false)⟩, ⟨some 72, .len (.t 71), some (65, false)⟩, ⟨some 73, .fad 0 (.t 2), some (65, false)⟩, ⟨some 74, .fad 2 (.t 73), some (65, false)⟩, ⟨some 75, .load 1 false (.t 74), some (65, false)⟩, ⟨some 76, .bin .gtr (.t 72) (.t 75), some (65, false)⟩, ⟨some 77, .pick (.t 65) (.v (.bool true)) (.t 76), some (55, true)⟩, o 78 (.pick (.t 55) (.t 77) (.v (.bool false)))])
    (.ite (.t 78) (.seq (.ops [o 4 (.mv (.v (.bool false)))])
     .ret)
    .skip))))
   (.ops [o 79 (.bin .add (.t 48) (.v (.int .i64 1))), o 48 (.mv (.t 79))])))))))
 (.seq (.ops [o 4 (.mv (.v (.bool true)))])
 .ret)))))
noncomputable def X.s_sGood (p0 : TBoard) (p1 : TState) : Option Bool :=
 ((X.s_bGood p0).bind fun v11 => (bif (!v11) then some false else ((X.s_l1In p1.Turn 0 p0.Rules.Turns).bind fun v14 => (bif (!v14) then some false else ((X.s_l1In p1.Weather 0 2).bind fun v17 => (bif (!v17) then some false else (bif (decide ((p1.Units.length : Int) > 12)) then some false else ((loop (fun (x63 : Int) => ((bif (decide (x63 < (p1.Units.length : Int))) then ((at' zTUnit p1.Units x63).bind fun v66 => ((X.s_sUnit p0 v66).bind fun v68 => (bif (!v68) then some (Sum.inr (Sum.inr false)) else some (Sum.inl (W (x63 + 1)))))) else some (Sum.inr (Sum.inl ()))) : Option (Int ⊕ (Unit ⊕ Bool)))) 0).bind fun y71 => (Sum.elim (fun (y73 : Unit) => ((loop (fun (x98 : Int) => ((bif (decide (x98 < (p1.Units.length : Int))) then ((at' zTUnit p1.Units x98).bind fun v101 => (bif (decide (v101.At ≥ 0)) then ((X.s_sAt p1 v101.At (W (1 - v101.Side))).bind fun v104 => (bif (decide ((v104.length : Int) > 0)) then some (Sum.inr (Sum.inr false)) else ((X.s_sAt p1 v101.At v101.Side).bind fun v107 => (bif (decide ((v107.length : Int) > p0.Rules.Stack)) then some (Sum.inr (Sum.inr false)) else some (Sum.inl (W (x98 + 1))))))) else some (Sum.inl (W (x98 + 1))))) else some (Sum.inr (Sum.inl ()))) : Option (Int ⊕ (Unit ⊕ Bool)))) 0).bind fun y110 => (Sum.elim (fun (y112 : Unit) => some true) (fun (y113 : Bool) => some y113) y110))) (fun (y74 : Bool) => some y74) y71)))))))))
theorem s_sGood_ok (p0 : TBoard) (p1 : TState) (r : Bool) (H : X.s_sGood p0 p1 = some r) : FnOk Tryz.prog gl 123 [.agg (eTBoard p0), .agg (eTState p1)] (cB r) := by
 unfold X.s_sGood at H
 refine fi Tryz.f123 s_sGood_ir [(4, cB r)] [] glL Tryz.func123 ?_
 refine so [] [] [(2, pk 2), (3, pk 3)] [(2, va (eTBoard p0)), (3, va (eTState p1))] id ?_
 refine seq_in ?_
 obtain ⟨v11, h12, H⟩ := ofBind H
 rcases ofCond H with ⟨c13, H⟩ | ⟨c13, H⟩
 ·refine so [.res (cB v11), .g true, .g true, .g true, .g true, .g true, .g true, .g true, .g true, .g true, .g true, .g true, .g true, .g true, .g true, .g true, .g true, .g true, .g true] [] [(2, pk 2), (3, pk 3), (32, cB true)] [(2, va (eTBoard p0)), (3, va (eTState p1))] (fun t => aI (s_bGood_ok p0 v11 h12) (aI c13 (aI c13 (aI c13 (aI c13 (aI c13 (aI c13 (aI c13 (aI c13 (aI (rfl : (true : Bool) = true) (aI (rfl : (true : Bool) = true) (aI (rfl : (true : Bool) = true) (aI (rfl : (true : Bool) = true) (aI (rfl : (true : Bool) = true) (aI (rfl : (true : Bool) = true) (aI (rfl : (true : Bool) = true) (aI (rfl : (true : Bool) = true) (aI (rfl : (true : Bool) = true) (aI (rfl : (true : Bool) = true) (t)))))))))))))))))))) ?_
  refine it (rfl : (true : Bool) = true) ?_
  refine so [] [] [(4, cB false)] [] id ?_
  refine ends_ret ?_
  cases H
  exact And.intro (.inl rfl) rfl
 ·obtain ⟨v14, h15, H⟩ := ofBind H
  rcases ofCond H with ⟨c16, H⟩ | ⟨c16, H⟩
  ·refine so [.res (cB v11), .g false, .g false, .g false, .g false, .g false, .g false, .res (cB v14), .g false, .g false, .g true, .g true, .g true, .g true, .g true, .g true, .g true, .g true, .g true, .g true] [] [(2, pk 2), (3, pk 3), (32, cB true)] [(2, va (eTBoard p0)), (3, va (eTState p1))] (fun t => aI (s_bGood_ok p0 v11 h12) (aI c13 (aI c13 (aI c13 (aI c13 (aI c13 (aI c13 (aI (s_l1In_ok p1.Turn 0 p0.Rules.Turns v14 h15) (aI c13 (aI c13 (aI c16 (aI c16 (aI c16 (aI c16 (aI c16 (aI (rfl : (true : Bool) = true) (aI (rfl : (true : Bool) = true) (aI (rfl : (true : Bool) = true) (aI (rfl : (true : Bool) = true) (aI (rfl : (true : Bool) = true) (t))))))))))))))))))))) ?_
   refine it (rfl : (true : Bool) = true) ?_
   refine so [] [] [(4, cB false)] [] id ?_
   refine ends_ret ?_
   cases H
   exact And.intro (.inl rfl) rfl
  ·obtain ⟨v17, h18, H⟩ := ofBind H
   rcases ofCond H with ⟨c19, H⟩ | ⟨c19, H⟩
   ·refine so [.res (cB v11), .g false, .g false, .g false, .g false, .g false, .g false, .res (cB v14), .g false, .g false, .g false, .g false, .g false, .res (cB v17), .g false, .g false, .g true, .g true, .g true, .g true, .g true] [] [(2, pk 2), (3, pk 3), (32, cB true)] [(2, va (eTBoard p0)), (3, va (eTState p1))] (fun t => aI (s_bGood_ok p0 v11 h12) (aI c13 (aI c13 (aI c13 (aI c13 (aI c13 (aI c13 (aI (s_l1In_ok p1.Turn 0 p0.Rules.Turns v14 h15) (aI c13 (aI c13 (aI c16 (aI c16 (aI c16 (aI (s_l1In_ok p1.Weather 0 2 v17 h18) (aI c16 (aI c16 (aI c19 (aI c19 (aI c19 (aI c19 (aI c19 (t)))))))))))))))))))))) ?_
    refine it (rfl : (true : Bool) = true) ?_
    refine so [] [] [(4, cB false)] [] id ?_
    refine ends_ret ?_
    cases H
    exact And.intro (.inl rfl) rfl
   ·refine so [.res (cB v11), .g false, .g false, .g false, .g false, .g false, .g false, .res (cB v14), .g false, .g false, .g false, .g false, .g false, .res (cB v17), .g false, .g false, .g false, .g false, .g false, .g false, .g false] [] [(2, pk 2), (3, pk 3), (32, cB (decide ((p1.Units.length : Int) > 12)))] [(2, va (eTBoard p0)), (3, va (eTState p1))] (fun t => aI (s_bGood_ok p0 v11 h12) (aI c13 (aI c13 (aI c13 (aI c13 (aI c13 (aI c13 (aI (s_l1In_ok p1.Turn 0 p0.Rules.Turns v14 h15) (aI c13 (aI c13 (aI c16 (aI c16 (aI c16 (aI (s_l1In_ok p1.Weather 0 2 v17 h18) (aI c16 (aI c16 (aI c19 (aI c19 (aI c19 (lI p1.Units (aI c19 (aI c19 (t))))))))))))))))))))))) ?_
    rcases ofCond H with ⟨c20, H⟩ | ⟨c20, H⟩
    ·refine it c20 ?_
     refine so [] [] [(4, cB false)] [] id ?_
     refine ends_ret ?_
     cases H
     exact And.intro (.inl rfl) rfl
    ·refine jf c20 ?_
     refine sk ?_
     refine seq_in ?_
     refine so [] [] [(2, pk 2), (3, pk 3), (34, dc 4 eTUnit zTUnit p1.Units), (35, cI (p1.Units.length : Int)), (36, cI 0)] [(2, va (eTBoard p0)), (3, va (eTState p1))] (fun t => lI p1.Units (t)) ?_
     refine ends_blk ?_
     obtain ⟨y71, h72, H⟩ := ofBind H
     refine loop_in (fun (x : Int) => lit [(2, pk 2), (3, pk 3), (34, dc 4 eTUnit zTUnit p1.Units), (35, cI (p1.Units.length : Int)), (36, cI x)] [(2, va (eTBoard p0)), (3, va (eTState p1))]) (orJ (fun (z : Unit) => At (.exit 0) (lit [(2, pk 2), (3, pk 3)] [(2, va (eTBoard p0)), (3, va (eTState p1))])) (fun (z : Bool) => At .ret (lit [(4, cB z)] []))) h72 ?_ ?_
     ·clear H h72
      intro x63 y0 H
      refine so [] [] [(2, pk 2), (3, pk 3), (34, dc 4 eTUnit zTUnit p1.Units), (35, cI (p1.Units.length : Int)), (36, cI x63), (37, cB (decide (x63 < (p1.Units.length : Int))))] [(2, va (eTBoard p0)), (3, va (eTState p1))] id ?_
      refine seq_in ?_
      rcases ofCond H with ⟨c65, H⟩ | ⟨c65, H⟩
      ·refine it c65 ?_
       refine sk ?_
       refine seq_in ?_
       refine ends_blk ?_
       obtain ⟨v66, h67, H⟩ := ofBind H
       refine so [.cs (eTUnit v66)] [] [(2, pk 2), (3, pk 3), (6, pk 6), (34, dc 4 eTUnit zTUnit p1.Units), (35, cI (p1.Units.length : Int)), (36, cI x63)] [(2, va (eTBoard p0)), (3, va (eTState p1)), (6, va (eTUnit v66))] (fun t => aI (at_lt h67) (aI (at_enc (enc := eTUnit) h67) (t))) ?_
       obtain ⟨v68, h69, H⟩ := ofBind H
       refine so [.res (cB v68)] [] [(2, pk 2), (3, pk 3), (34, dc 4 eTUnit zTUnit p1.Units), (35, cI (p1.Units.length : Int)), (36, cI x63), (43, cB (!v68))] [(2, va (eTBoard p0)), (3, va (eTState p1))] (fun t => aI (s_sUnit_ok p0 v66 v68 h69) (t)) ?_
       rcases ofCond H with ⟨c70, H⟩ | ⟨c70, H⟩
       ·refine it c70 ?_
        refine so [] [] [(4, cB false)] [] id ?_
        refine ends_ret ?_
        cases H
        exact And.intro (by simp) (And.intro rfl rfl)
       ·refine jf c70 ?_
        refine sk ?_
        refine oo [] [] [(2, pk 2), (3, pk 3), (34, dc 4 eTUnit zTUnit p1.Units), (35, cI (p1.Units.length : Int)), (36, cI (W (x63 + 1)))] [(2, va (eTBoard p0)), (3, va (eTState p1))] id ?_
        cases H
        exact And.intro rfl rfl
      ·refine jf c65 ?_
       refine tl [] [(2, pk 2), (3, pk 3)] [(2, va (eTBoard p0)), (3, va (eTState p1))] id ?_
       refine ends_exit ?_
       cases H
       exact And.intro (by simp) (And.intro rfl rfl)
     ·clear h72
      cases y71 with
      | inl y73 =>
       replace H := ofInl H
       intro e s q
       obtain ⟨rfl, rfl⟩ := q
       change EndsI _ _ _ _ _ _
       refine seq_in ?_
       refine so [] [] [(2, pk 2), (3, pk 3), (46, dc 4 eTUnit zTUnit p1.Units), (47, cI (p1.Units.length : Int)), (48, cI 0)] [(2, va (eTBoard p0)), (3, va (eTState p1))] (fun t => lI p1.Units (t)) ?_
       refine ends_blk ?_
       obtain ⟨y110, h111, H⟩ := ofBind H
       refine loop_in (fun (x : Int) => lit [(2, pk 2), (3, pk 3), (46, dc 4 eTUnit zTUnit p1.Units), (47, cI (p1.Units.length : Int)), (48, cI x)] [(2, va (eTBoard p0)), (3, va (eTState p1))]) (orJ (fun (z : Unit) => At (.exit 2) (lit [] [])) (fun (z : Bool) => At .ret (lit [(4, cB z)] []))) h111 ?_ ?_
       ·clear H h111
        intro x98 y0 H
        refine so [] [] [(2, pk 2), (3, pk 3), (46, dc 4 eTUnit zTUnit p1.Units), (47, cI (p1.Units.length : Int)), (48, cI x98), (49, cB (decide (x98 < (p1.Units.length : Int))))] [(2, va (eTBoard p0)), (3, va (eTState p1))] id ?_
        refine seq_in ?_
        rcases ofCond H with ⟨c100, H⟩ | ⟨c100, H⟩
        ·refine it c100 ?_
         refine sk ?_
         refine seq_in ?_
         refine ends_blk ?_
         obtain ⟨v101, h102, H⟩ := ofBind H
         refine so [.cs (eTUnit v101)] [] [(2, pk 2), (3, pk 3), (8, pk 8), (46, dc 4 eTUnit zTUnit p1.Units), (47, cI (p1.Units.length : Int)), (48, cI x98)] [(2, va (eTBoard p0)), (3, va (eTState p1)), (8, va (eTUnit v101))] (fun t => aI (at_lt h102) (aI (at_enc (enc := eTUnit) h102) (t))) ?_
         rcases ofCond H with ⟨c103, H⟩ | ⟨c103, H⟩
         ·obtain ⟨v104, h105, H⟩ := ofBind H
          rcases ofCond H with ⟨c106, H⟩ | ⟨c106, H⟩
          ·refine sd [.g true, .g true, .g true, .g true, .g true, .g true, .g true, .res (dc 1 eI zI v104), .g true, .g true, .g true, .g true, .g true, .g true, .g true, .g true, .g true, .g true, .g true, .g true, .g true, .g true, .g true, .g true, .g true] [] [(2, pk 2), (3, pk 3), (46, dc 4 eTUnit zTUnit p1.Units), (47, cI (p1.Units.length : Int)), (48, cI x98), (78, cB true)] [(2, va (eTBoard p0)), (3, va (eTState p1))] (fun t => aI c103 (aI c103 (aI c103 (aI c103 (aI c103 (aI c103 (aI c103 (aI (s_sAt_ok p1 v101.At (W (1 - v101.Side)) v104 h105) (aI (rfl : ([] : List Nat) = []) (aI (rfl : ([] : List Nat) = []) (aI c103 (aI c103 (aI c103 (aI c106 (aI c106 (aI c106 (aI c106 (aI c106 (aI c106 (aI c106 (aI c106 (aI c106 (aI c106 (aI c106 (aI c103 (aI c106 (aI c103 (t)))))))))))))))))))))))))))) ?_
           refine it (rfl : (true : Bool) = true) ?_
           refine so [] [] [(4, cB false)] [] id ?_
           refine ends_ret ?_
           cases H
           exact And.intro (by simp) (And.intro rfl rfl)
          ·obtain ⟨v107, h108, H⟩ := ofBind H
           refine sd [.g true, .g true, .g true, .g true, .g true, .g true, .g true, .res (dc 1 eI zI v104), .g true, .g true, .g true, .g false, .g false, .g false, .g false, .g false, .g false, .res (dc 1 eI zI v107), .g false, .g false, .g false, .g false, .g false, .g true, .g false, .g true] [] [(2, pk 2), (3, pk 3), (46, dc 4 eTUnit zTUnit p1.Units), (47, cI (p1.Units.length : Int)), (48, cI x98), (78, cB (decide ((v107.length : Int) > p0.Rules.Stack)))] [(2, va (eTBoard p0)), (3, va (eTState p1))] (fun t => aI c103 (aI c103 (aI c103 (aI c103 (aI c103 (aI c103 (aI c103 (aI (s_sAt_ok p1 v101.At (W (1 - v101.Side)) v104 h105) (aI (rfl : ([] : List Nat) = []) (aI (rfl : ([] : List Nat) = []) (aI c103 (aI c103 (aI c103 (aI c106 (aI c106 (aI c106 (aI c106 (aI c106 (aI c106 (aI (s_sAt_ok p1 v101.At v101.Side v107 h108) (aI (rfl : ([] : List Nat) = []) (aI (rfl : ([] : List Nat) = []) (aI c106 (aI c106 (aI c106 (aI c106 (aI c106 (aI c103 (aI c106 (aI c103 (t))))))))))))))))))))))))))))))) ?_
           rcases ofCond H with ⟨c109, H⟩ | ⟨c109, H⟩
           ·refine it c109 ?_
            refine so [] [] [(4, cB false)] [] id ?_
            refine ends_ret ?_
            cases H
            exact And.intro (by simp) (And.intro rfl rfl)
           ·refine jf c109 ?_
            refine sk ?_
            refine oo [] [] [(2, pk 2), (3, pk 3), (46, dc 4 eTUnit zTUnit p1.Units), (47, cI (p1.Units.length : Int)), (48, cI (W (x98 + 1)))] [(2, va (eTBoard p0)), (3, va (eTState p1))] id ?_
            cases H
            exact And.intro rfl rfl
         ·refine sd [.g false, .g false, .g false, .g false, .g false, .g false, .g false, .g false, .g false, .g false, .g false, .g false] [] [(2, pk 2), (3, pk 3), (46, dc 4 eTUnit zTUnit p1.Units), (47, cI (p1.Units.length : Int)), (48, cI x98), (78, cB false)] [(2, va (eTBoard p0)), (3, va (eTState p1))] (fun t => aI c103 (aI c103 (aI c103 (aI c103 (aI c103 (aI c103 (aI c103 (aI c103 (aI c103 (aI c103 (aI c103 (aI c103 (t))))))))))))) ?_
          refine jf (rfl : (false : Bool) = false) ?_
          refine sk ?_
          refine oo [] [] [(2, pk 2), (3, pk 3), (46, dc 4 eTUnit zTUnit p1.Units), (47, cI (p1.Units.length : Int)), (48, cI (W (x98 + 1)))] [(2, va (eTBoard p0)), (3, va (eTState p1))] id ?_
          cases H
          exact And.intro rfl rfl
        ·refine jf c100 ?_
         refine tl [] [] [] id ?_
         refine ends_exit ?_
         cases H
         exact And.intro (by simp) (And.intro rfl rfl)
       ·clear h111
        cases y110 with
        | inl y112 =>
         replace H := ofInl H
         intro e s q
         obtain ⟨rfl, rfl⟩ := q
         change EndsI _ _ _ _ _ _
         refine so [] [] [(4, cB true)] [] id ?_
         refine ends_ret ?_
         cases H
         exact And.intro (.inl rfl) rfl
        | inr y113 =>
         replace H := ofInr H
         intro e s q
         obtain ⟨rfl, rfl⟩ := q
         cases H
         exact And.intro (.inl rfl) rfl
      | inr y74 =>
       replace H := ofInr H
       intro e s q
       obtain ⟨rfl, rfl⟩ := q
       cases H
       exact And.intro (.inl rfl) rfl
def s_iGood_ir : S :=
 (.seq (.ops [o 3 (.box 12 (.t 0)), o 4 (.box 3 (.t 1)), o 6 (.mv (.v (.bool false)))])
 (.seq (.seq (.ops [o 9 (.load 12 true (.t 3)), o 10 (.load 3 true (.t 4)), o 11 (.call 123 [.t 9, .t 10]), o 12 (.not (.t 11)), o 13 (.mv (.t 12)), ⟨some 14, .mv (.t 2), some (13, false)⟩, ⟨some 15, .len (.t 14), some (13, false)⟩, ⟨some 16, .bin .gtr (.t 15) (.v (.int .i64 12)), some (13, false)⟩, o 17 (.pick (.t 13) (.v (.bool true)) (.t 16))])
 (.ite (.t 17) (.seq (.ops [o 6 (.mv (.v (.bool false)))])
  .ret)
 .skip))
 (.seq (.seq (.ops [o 18 (.mv (.t 2)), o 19 (.len (.t 18)), o 20 (.mv (.v (.int .i64 0)))])
 (.blk 0 (.loop (.seq (.ops [o 21 (.bin .lss (.t 20) (.t 19))])
   (.seq (.ite (.t 21) .skip
   (.exit 0))
   (.seq (.blk 1 (.seq (.ops [o 22 (.iad 3 (.t 18) (.t 20)), o 23 (.load 3 true (.t 22)), o 8 (.alloc [.int .i64 0, .int .i64 0, .int .i64 0]), ⟨none, .store 3 (.t 8) (.t 23), none⟩])
    (.seq (.draw 24 [o 24 (.fad 0 (.t 8)), o 25 (.load 1 false (.t 24)), o 26 (.fad 2 (.t 4)), o 27 (.load 1 false (.t 26)), o 28 (.len (.t 27)), o 29 (.bin .sub (.t 28) (.v (.int .i64 1))), o 30 (.call 124 [.t 25, .v (.int .i64 0), .t 29]), o 31 (.not (.t 30)), o 32 (.mv (.t 31)), ⟨some 33, .fad 1 (.t 8), some (32, false)⟩, ⟨some 34, .load 1 false (.t 33), some (32, false)⟩, ⟨some 35, .fad 7 (.t 3), some (32, false)⟩, ⟨some 36, .load 5 true (.t 35), some (32, false)⟩, ⟨some 37, .call 142 [.t 36], some (32, false)⟩, ⟨some 38, .bin .sub (.t 37) (.v (.int .i64 1)), some (32, false)⟩, ⟨some 39, .call 124 [.t 34, .v (.int .i64 0), .t 38], some (32, false)⟩, ⟨some 40, .not (.t 39), some (32, false)⟩, o 41 (.pick (.t 32) (.v (.bool true)) (.t 40)), o 42 (.mv (.t 41)), ⟨some 43, .fad 2 (.t 8), some (42, false)⟩, ⟨some 44, .load 1 false (.t 43), some (42, false)⟩, ⟨some 45, .call 124 [.t 44, .v (.int .i64 0), .v (.int .i64 1)], some (42, false)⟩, ⟨some 46, .not (.t 45), some (42, false)⟩, o 47 (.pick (.t 42) (.v (.bool true)) (.t 46))])
    (.ite (.t 47) (.seq (.ops [o 6 (.mv (.v (.bool false)))])
     .ret)
    .skip))))
   (.ops [o 48 (.bin .add (.t 20) (.v (.int .i64 1))), o 20 (.mv (.t 48))])))))))
 (.seq (.ops [o 6 (.mv (.v (.bool true)))])
 .ret))))
noncomputable def X.s_iGood (p0 : TBoard) (p1 : TState) (p2 : (List TReaction)) : Option Bool :=
 ((X.s_sGood p0 p1).bind fun v5 => (bif (!v5) then some false else (bif (decide ((p2.length : Int) > 12)) then some false else ((loop (fun (x40 : Int) => ((bif (decide (x40 < (p2.length : Int))) then ((at' zTReaction p2 x40).bind fun v43 => ((X.s_l1In v43.Unit 0 (W ((p1.Units.length : Int) - 1))).bind fun v45 => (bif (!v45) then some (Sum.inr (Sum.inr false)) else ((X.s_mSize p0.Map).bind fun v48 => ((X.s_l1In v43.Watch 0 (W (v48 - 1))).bind fun v50 => (bif (!v50) then some (Sum.inr (Sum.inr false)) else ((X.s_l1In v43.Kind 0 1).bind fun v53 => (bif (!v53) then some (Sum.inr (Sum.inr false)) else some (Sum.inl (W (x40 + 1))))))))))) else some (Sum.inr (Sum.inl ()))) : Option (Int ⊕ (Unit ⊕ Bool)))) 0).bind fun y56 => (Sum.elim (fun (y58 : Unit) => some true) (fun (y59 : Bool) => some y59) y56)))))
theorem s_iGood_ok (p0 : TBoard) (p1 : TState) (p2 : (List TReaction)) (r : Bool) (H : X.s_iGood p0 p1 p2 = some r) : FnOk Tryz.prog gl 164 [.agg (eTBoard p0), .agg (eTState p1), .c (dat 3 eTReaction zTReaction p2)] (cB r) := by
 unfold X.s_iGood at H
 refine fi Tryz.f164 s_iGood_ir [(6, cB r)] [] glL Tryz.func164 ?_
 refine so [] [] [(2, dc 3 eTReaction zTReaction p2), (3, pk 3), (4, pk 4)] [(3, va (eTBoard p0)), (4, va (eTState p1))] id ?_
 refine seq_in ?_
 obtain ⟨v5, h6, H⟩ := ofBind H
 rcases ofCond H with ⟨c7, H⟩ | ⟨c7, H⟩
 ·refine so [.res (cB v5), .g true, .g true, .g true, .g true] [] [(2, dc 3 eTReaction zTReaction p2), (3, pk 3), (4, pk 4), (17, cB true)] [(3, va (eTBoard p0)), (4, va (eTState p1))] (fun t => aI (s_sGood_ok p0 p1 v5 h6) (aI c7 (aI c7 (aI c7 (aI c7 (t)))))) ?_
  refine it (rfl : (true : Bool) = true) ?_
  refine so [] [] [(6, cB false)] [] id ?_
  refine ends_ret ?_
  cases H
  exact And.intro (.inl rfl) rfl
 ·refine so [.res (cB v5), .g false, .g false, .g false, .g false] [] [(2, dc 3 eTReaction zTReaction p2), (3, pk 3), (4, pk 4), (17, cB (decide ((p2.length : Int) > 12)))] [(3, va (eTBoard p0)), (4, va (eTState p1))] (fun t => aI (s_sGood_ok p0 p1 v5 h6) (aI c7 (aI c7 (lI p2 (aI c7 (aI c7 (t))))))) ?_
  rcases ofCond H with ⟨c8, H⟩ | ⟨c8, H⟩
  ·refine it c8 ?_
   refine so [] [] [(6, cB false)] [] id ?_
   refine ends_ret ?_
   cases H
   exact And.intro (.inl rfl) rfl
  ·refine jf c8 ?_
   refine sk ?_
   refine seq_in ?_
   refine so [] [] [(3, pk 3), (4, pk 4), (18, dc 3 eTReaction zTReaction p2), (19, cI (p2.length : Int)), (20, cI 0)] [(3, va (eTBoard p0)), (4, va (eTState p1))] (fun t => lI p2 (t)) ?_
   refine ends_blk ?_
   obtain ⟨y56, h57, H⟩ := ofBind H
   refine loop_in (fun (x : Int) => lit [(3, pk 3), (4, pk 4), (18, dc 3 eTReaction zTReaction p2), (19, cI (p2.length : Int)), (20, cI x)] [(3, va (eTBoard p0)), (4, va (eTState p1))]) (orJ (fun (z : Unit) => At (.exit 0) (lit [] [])) (fun (z : Bool) => At .ret (lit [(6, cB z)] []))) h57 ?_ ?_
   ·clear H h57
    intro x40 y0 H
    refine so [] [] [(3, pk 3), (4, pk 4), (18, dc 3 eTReaction zTReaction p2), (19, cI (p2.length : Int)), (20, cI x40), (21, cB (decide (x40 < (p2.length : Int))))] [(3, va (eTBoard p0)), (4, va (eTState p1))] id ?_
    refine seq_in ?_
    rcases ofCond H with ⟨c42, H⟩ | ⟨c42, H⟩
    ·refine it c42 ?_
     refine sk ?_
     refine seq_in ?_
     refine ends_blk ?_
     obtain ⟨v43, h44, H⟩ := ofBind H
     refine so [.cs (eTReaction v43)] [] [(3, pk 3), (4, pk 4), (8, pk 8), (18, dc 3 eTReaction zTReaction p2), (19, cI (p2.length : Int)), (20, cI x40)] [(3, va (eTBoard p0)), (4, va (eTState p1)), (8, va (eTReaction v43))] (fun t => aI (at_lt h44) (aI (at_enc (enc := eTReaction) h44) (t))) ?_
     obtain ⟨v45, h46, H⟩ := ofBind H
     rcases ofCond H with ⟨c47, H⟩ | ⟨c47, H⟩
     ·refine sd [.res (cB v45), .g true, .g true, .g true, .g true, .g true, .g true, .g true, .g true, .g true, .g true, .g true, .g true, .g true, .g true] [] [(3, pk 3), (4, pk 4), (18, dc 3 eTReaction zTReaction p2), (19, cI (p2.length : Int)), (20, cI x40), (47, cB true)] [(3, va (eTBoard p0)), (4, va (eTState p1))] (fun t => aI (s_l1In_ok v43.Unit 0 (W ((p1.Units.length : Int) - 1)) v45 h46) (aI trivial (aI (rfl : ([] : List Nat) = []) (aI c47 (aI c47 (aI c47 (aI c47 (aI c47 (aI c47 (aI c47 (aI c47 (aI c47 (aI (rfl : (true : Bool) = true) (aI (rfl : (true : Bool) = true) (aI (rfl : (true : Bool) = true) (aI (rfl : (true : Bool) = true) (aI (rfl : (true : Bool) = true) (t)))))))))))))))))) ?_
      refine it (rfl : (true : Bool) = true) ?_
      refine so [] [] [(6, cB false)] [] id ?_
      refine ends_ret ?_
      cases H
      exact And.intro (by simp) (And.intro rfl rfl)
     ·obtain ⟨v48, h49, H⟩ := ofBind H
      obtain ⟨v50, h51, H⟩ := ofBind H
      rcases ofCond H with ⟨c52, H⟩ | ⟨c52, H⟩
      ·refine sd [.res (cB v45), .g false, .g false, .g false, .g false, .g false, .res (cI v48), .g false, .g false, .res (cB v50), .g false, .g false, .g true, .g true, .g true, .g true, .g true] [] [(3, pk 3), (4, pk 4), (18, dc 3 eTReaction zTReaction p2), (19, cI (p2.length : Int)), (20, cI x40), (47, cB true)] [(3, va (eTBoard p0)), (4, va (eTState p1))] (fun t => aI (s_l1In_ok v43.Unit 0 (W ((p1.Units.length : Int) - 1)) v45 h46) (aI trivial (aI (rfl : ([] : List Nat) = []) (aI c47 (aI c47 (aI c47 (aI c47 (aI c47 (aI (s_mSize_ok p0.Map v48 h49) (aI trivial (aI (rfl : ([] : List Nat) = []) (aI c47 (aI c47 (aI (s_l1In_ok v43.Watch 0 (W (v48 - 1)) v50 h51) (aI trivial (aI (rfl : ([] : List Nat) = []) (aI c47 (aI c47 (aI c52 (aI c52 (aI c52 (aI c52 (aI c52 (t)))))))))))))))))))))))) ?_
       refine it (rfl : (true : Bool) = true) ?_
       refine so [] [] [(6, cB false)] [] id ?_
       refine ends_ret ?_
       cases H
       exact And.intro (by simp) (And.intro rfl rfl)
      ·obtain ⟨v53, h54, H⟩ := ofBind H
       refine sd [.res (cB v45), .g false, .g false, .g false, .g false, .g false, .res (cI v48), .g false, .g false, .res (cB v50), .g false, .g false, .g false, .g false, .g false, .res (cB v53), .g false, .g false] [] [(3, pk 3), (4, pk 4), (18, dc 3 eTReaction zTReaction p2), (19, cI (p2.length : Int)), (20, cI x40), (47, cB (!v53))] [(3, va (eTBoard p0)), (4, va (eTState p1))] (fun t => aI (s_l1In_ok v43.Unit 0 (W ((p1.Units.length : Int) - 1)) v45 h46) (aI trivial (aI (rfl : ([] : List Nat) = []) (aI c47 (aI c47 (aI c47 (aI c47 (aI c47 (aI (s_mSize_ok p0.Map v48 h49) (aI trivial (aI (rfl : ([] : List Nat) = []) (aI c47 (aI c47 (aI (s_l1In_ok v43.Watch 0 (W (v48 - 1)) v50 h51) (aI trivial (aI (rfl : ([] : List Nat) = []) (aI c47 (aI c47 (aI c52 (aI c52 (aI c52 (aI (s_l1In_ok v43.Kind 0 1 v53 h54) (aI trivial (aI (rfl : ([] : List Nat) = []) (aI c52 (aI c52 (t))))))))))))))))))))))))))) ?_
       rcases ofCond H with ⟨c55, H⟩ | ⟨c55, H⟩
       ·refine it c55 ?_
        refine so [] [] [(6, cB false)] [] id ?_
        refine ends_ret ?_
        cases H
        exact And.intro (by simp) (And.intro rfl rfl)
       ·refine jf c55 ?_
        refine sk ?_
        refine oo [] [] [(3, pk 3), (4, pk 4), (18, dc 3 eTReaction zTReaction p2), (19, cI (p2.length : Int)), (20, cI (W (x40 + 1)))] [(3, va (eTBoard p0)), (4, va (eTState p1))] id ?_
        cases H
        exact And.intro rfl rfl
    ·refine jf c42 ?_
     refine tl [] [] [] id ?_
     refine ends_exit ?_
     cases H
     exact And.intro (by simp) (And.intro rfl rfl)
   ·clear h57
    cases y56 with
    | inl y58 =>
     replace H := ofInl H
     intro e s q
     obtain ⟨rfl, rfl⟩ := q
     change EndsI _ _ _ _ _ _
     refine so [] [] [(6, cB true)] [] id ?_
     refine ends_ret ?_
     cases H
     exact And.intro (.inl rfl) rfl
    | inr y59 =>
     replace H := ofInr H
     intro e s q
     obtain ⟨rfl, rfl⟩ := q
     cases H
     exact And.intro (.inl rfl) rfl
def s_iDifferent_ir : S :=
 (.seq (.ops [o 4 (.mv (.v (.bool false)))])
 (.seq (.seq (.ops [o 7 (.mv (.t 0)), o 8 (.len (.t 7)), o 9 (.mv (.v (.int .i64 0)))])
 (.blk 0 (.loop (.seq (.ops [o 10 (.bin .lss (.t 9) (.t 8))])
   (.seq (.ite (.t 10) .skip
   (.exit 0))
   (.seq (.blk 1 (.seq (.ops [o 11 (.mv (.t 9)), o 12 (.iad 1 (.t 7) (.t 9)), o 13 (.load 1 false (.t 12)), o 5 (.mv (.t 11)), o 6 (.mv (.t 13))])
    (.seq (.ops [o 14 (.mv (.t 6)), o 15 (.mv (.t 1)), o 16 (.call 124 [.t 14, .v (.int .i64 0), .t 15]), o 17 (.not (.t 16)), o 18 (.mv (.t 17)), ⟨some 19, .mv (.t 0), some (18, false)⟩, ⟨some 20, .mv (.t 5), some (18, false)⟩, ⟨some 21, .slc 1 (.t 19) none (some (.t 20)), some (18, false)⟩, ⟨some 22, .mv (.t 6), some (18, false)⟩, ⟨some 23, .call 106 [.t 21, .t 22], some (18, false)⟩, o 24 (.pick (.t 18) (.v (.bool true)) (.t 23))])
    (.ite (.t 24) (.seq (.ops [o 4 (.mv (.v (.bool false)))])
     .ret)
    .skip))))
   (.ops [o 25 (.bin .add (.t 9) (.v (.int .i64 1))), o 9 (.mv (.t 25))])))))))
 (.seq (.ops [o 4 (.mv (.v (.bool true)))])
 .ret)))
noncomputable def X.s_iDifferent (p0 : (List Int)) (p1 : Int) : Option Bool :=
 ((loop (fun (x24 : Int) => ((bif (decide (x24 < (p0.length : Int))) then ((at' zI p0 x24).bind fun v27 => ((X.s_l1In v27 0 p1).bind fun v29 => (bif (!v29) then some (Sum.inr (Sum.inr false)) else (if 0 ≤ (0 : Int) ∧ (0 : Int) ≤ x24 ∧ x24 ≤ (p0.length : Int) then ((X.s_l1Has ((p0.drop (0 : Int).toNat).take (x24.toNat - (0 : Int).toNat)) v27).bind fun v33 => (bif v33 then some (Sum.inr (Sum.inr false)) else some (Sum.inl (W (x24 + 1))))) else none)))) else some (Sum.inr (Sum.inl ()))) : Option (Int ⊕ (Unit ⊕ Bool)))) 0).bind fun y36 => (Sum.elim (fun (y38 : Unit) => some true) (fun (y39 : Bool) => some y39) y36))
theorem s_iDifferent_ok (p0 : (List Int)) (p1 : Int) (r : Bool) (H : X.s_iDifferent p0 p1 = some r) : FnOk Tryz.prog gl 165 [.c (dat 1 eI zI p0), cI p1] (cB r) := by
 unfold X.s_iDifferent at H
 refine fi Tryz.f165 s_iDifferent_ir [(4, cB r)] [] glL Tryz.func165 ?_
 refine so [] [] [(0, dc 1 eI zI p0), (1, cI p1)] [] id ?_
 refine seq_in ?_
 refine so [] [] [(0, dc 1 eI zI p0), (1, cI p1), (7, dc 1 eI zI p0), (8, cI (p0.length : Int)), (9, cI 0)] [] (fun t => lI p0 (t)) ?_
 refine ends_blk ?_
 obtain ⟨y36, h37, H⟩ := ofBind H
 refine loop_in (fun (x : Int) => lit [(0, dc 1 eI zI p0), (1, cI p1), (7, dc 1 eI zI p0), (8, cI (p0.length : Int)), (9, cI x)] []) (orJ (fun (z : Unit) => At (.exit 0) (lit [] [])) (fun (z : Bool) => At .ret (lit [(4, cB z)] []))) h37 ?_ ?_
 ·clear H h37
  intro x24 y0 H
  refine so [] [] [(0, dc 1 eI zI p0), (1, cI p1), (7, dc 1 eI zI p0), (8, cI (p0.length : Int)), (9, cI x24), (10, cB (decide (x24 < (p0.length : Int))))] [] id ?_
  refine seq_in ?_
  rcases ofCond H with ⟨c26, H⟩ | ⟨c26, H⟩
  ·refine it c26 ?_
   refine sk ?_
   refine seq_in ?_
   refine ends_blk ?_
   obtain ⟨v27, h28, H⟩ := ofBind H
   refine so [.cs (eI v27)] [] [(0, dc 1 eI zI p0), (1, cI p1), (5, cI x24), (6, cI v27), (7, dc 1 eI zI p0), (8, cI (p0.length : Int)), (9, cI x24)] [] (fun t => aI (at_lt h28) (aI (at_enc (enc := eI) h28) (t))) ?_
   obtain ⟨v29, h30, H⟩ := ofBind H
   rcases ofCond H with ⟨c31, H⟩ | ⟨c31, H⟩
   ·refine so [.res (cB v29), .g true, .g true, .g true, .g true, .g true, .g true] [] [(0, dc 1 eI zI p0), (1, cI p1), (7, dc 1 eI zI p0), (8, cI (p0.length : Int)), (9, cI x24), (24, cB true)] [] (fun t => aI (s_l1In_ok v27 0 p1 v29 h30) (aI c31 (aI c31 (aI c31 (aI c31 (aI c31 (aI c31 (t)))))))) ?_
    refine it (rfl : (true : Bool) = true) ?_
    refine so [] [] [(4, cB false)] [] id ?_
    refine ends_ret ?_
    cases H
    exact And.intro (by simp) (And.intro rfl rfl)
   ·obtain ⟨g32, H⟩ := ofIf H
    obtain ⟨v33, h34, H⟩ := ofBind H
    refine so [.res (cB v29), .g false, .g false, .g false, .fn ((p0.drop (0 : Int).toNat).take (x24.toNat - (0 : Int).toNat)).length (fF eI zI ((p0.drop (0 : Int).toNat).take (x24.toNat - (0 : Int).toNat))), .g false, .g false, .res (cB v33), .g false] [] [(0, dc 1 eI zI p0), (1, cI p1), (7, dc 1 eI zI p0), (8, cI (p0.length : Int)), (9, cI x24), (24, cB v33)] [] (fun t => aI (s_l1In_ok v27 0 p1 v29 h30) (aI c31 (aI c31 (aI c31 (aI g32 (aI (len_drop p0 (0 : Int) x24 g32) (aI (fF_drop eI zI p0 (0 : Int) x24 g32) (aI c31 (aI c31 (aI (s_l1Has_ok ((p0.drop (0 : Int).toNat).take (x24.toNat - (0 : Int).toNat)) v27 v33 h34) (aI c31 (t)))))))))))) ?_
    rcases ofCond H with ⟨c35, H⟩ | ⟨c35, H⟩
    ·refine it c35 ?_
     refine so [] [] [(4, cB false)] [] id ?_
     refine ends_ret ?_
     cases H
     exact And.intro (by simp) (And.intro rfl rfl)
    ·refine jf c35 ?_
     refine sk ?_
     refine oo [] [] [(0, dc 1 eI zI p0), (1, cI p1), (7, dc 1 eI zI p0), (8, cI (p0.length : Int)), (9, cI (W (x24 + 1)))] [] id ?_
     cases H
     exact And.intro rfl rfl
  ·refine jf c26 ?_
   refine tl [] [] [] id ?_
   refine ends_exit ?_
   cases H
   exact And.intro (by simp) (And.intro rfl rfl)
 ·clear h37
  cases y36 with
  | inl y38 =>
   replace H := ofInl H
   intro e s q
   obtain ⟨rfl, rfl⟩ := q
   change EndsI _ _ _ _ _ _
   refine so [] [] [(4, cB true)] [] id ?_
   refine ends_ret ?_
   cases H
   exact And.intro (.inl rfl) rfl
  | inr y39 =>
   replace H := ofInr H
   intro e s q
   obtain ⟨rfl, rfl⟩ := q
   cases H
   exact And.intro (.inl rfl) rfl
def s_iEvent_ir : S :=
 (.seq (.ops [o 3 (.box 12 (.t 0)), o 4 (.box 3 (.t 1)), o 5 (.box 3 (.t 2)), o 6 (.mv (.v (.bool false)))])
 (.seq (.draw 17 [o 7 (.fad 0 (.t 5)), o 8 (.load 1 false (.t 7)), o 9 (.fad 2 (.t 4)), o 10 (.load 1 false (.t 9)), o 11 (.len (.t 10)), o 12 (.bin .sub (.t 11) (.v (.int .i64 1))), o 13 (.call 124 [.t 8, .v (.int .i64 0), .t 12]), o 14 (.mv (.t 13)), ⟨some 15, .fad 1 (.t 5), some (14, true)⟩, ⟨some 16, .load 1 false (.t 15), some (14, true)⟩, ⟨some 17, .fad 7 (.t 3), some (14, true)⟩, ⟨some 18, .load 5 true (.t 17), some (14, true)⟩, ⟨some 19, .call 142 [.t 18], some (14, true)⟩, ⟨some 20, .bin .sub (.t 19) (.v (.int .i64 1)), some (14, true)⟩, ⟨some 21, .call 124 [.t 16, .v (.int .i64 0), .t 20], some (14, true)⟩, o 22 (.pick (.t 14) (.t 21) (.v (.bool false))), o 6 (.mv (.t 22))])
 .ret))
noncomputable def X.s_iEvent (p0 : TBoard) (p1 : TState) (p2 : TFrame) : Option Bool :=
 ((X.s_l1In p2.Unit 0 (W ((p1.Units.length : Int) - 1))).bind fun v1 => (bif v1 then ((X.s_mSize p0.Map).bind fun v4 => ((X.s_l1In p2.At 0 (W (v4 - 1))).bind fun v6 => some v6)) else some false))
theorem s_iEvent_ok (p0 : TBoard) (p1 : TState) (p2 : TFrame) (r : Bool) (H : X.s_iEvent p0 p1 p2 = some r) : FnOk Tryz.prog gl 167 [.agg (eTBoard p0), .agg (eTState p1), .agg (eTFrame p2)] (cB r) := by
 unfold X.s_iEvent at H
 refine fi Tryz.f167 s_iEvent_ir [(6, cB r)] [] glL Tryz.func167 ?_
 refine so [] [] [(3, pk 3), (4, pk 4), (5, pk 5)] [(3, va (eTBoard p0)), (4, va (eTState p1)), (5, va (eTFrame p2))] id ?_
 obtain ⟨v1, h2, H⟩ := ofBind H
 rcases ofCond H with ⟨c3, H⟩ | ⟨c3, H⟩
 ·obtain ⟨v4, h5, H⟩ := ofBind H
  obtain ⟨v6, h7, H⟩ := ofBind H
  refine sd [.res (cB v1), .g true, .g true, .g true, .g true, .g true, .res (cI v4), .g true, .g true, .res (cB v6), .g true] [] [(6, cB v6)] [] (fun t => aI (s_l1In_ok p2.Unit 0 (W ((p1.Units.length : Int) - 1)) v1 h2) (aI trivial (aI (rfl : ([] : List Nat) = []) (aI c3 (aI c3 (aI c3 (aI c3 (aI c3 (aI (s_mSize_ok p0.Map v4 h5) (aI trivial (aI (rfl : ([] : List Nat) = []) (aI c3 (aI c3 (aI (s_l1In_ok p2.At 0 (W (v4 - 1)) v6 h7) (aI trivial (aI (rfl : ([] : List Nat) = []) (aI c3 (t)))))))))))))))))) ?_
  refine ends_ret ?_
  cases H
  exact And.intro (.inl rfl) rfl
 ·refine sd [.res (cB v1), .g false, .g false, .g false, .g false, .g false, .g false, .g false, .g false] [] [(6, cB false)] [] (fun t => aI (s_l1In_ok p2.Unit 0 (W ((p1.Units.length : Int) - 1)) v1 h2) (aI trivial (aI (rfl : ([] : List Nat) = []) (aI c3 (aI c3 (aI c3 (aI c3 (aI c3 (aI c3 (aI c3 (aI c3 (t)))))))))))) ?_
  refine ends_ret ?_
  cases H
  exact And.intro (.inl rfl) rfl
def s_iMachine_ir : S :=
 (.seq (.ops [o 3 (.box 12 (.t 0)), o 5 (.box 6 (.t 2)), o 6 (.mv (.v (.bool false)))])
 (.seq (.seq (.ops [o 10 (.load 12 true (.t 3)), o 11 (.fad 2 (.t 5)), o 12 (.load 3 true (.t 11)), o 13 (.mv (.t 1)), o 14 (.call 164 [.t 10, .t 12, .t 13]), o 15 (.not (.t 14)), o 16 (.mv (.t 15)), ⟨some 17, .fad 1 (.t 5), some (16, false)⟩, ⟨some 18, .load 1 false (.t 17), some (16, false)⟩, ⟨some 19, .mv (.t 1), some (16, false)⟩, ⟨some 20, .len (.t 19), some (16, false)⟩, ⟨some 21, .bin .sub (.t 20) (.v (.int .i64 1)), some (16, false)⟩, ⟨some 22, .call 165 [.t 18, .t 21], some (16, false)⟩, ⟨some 23, .not (.t 22), some (16, false)⟩, o 24 (.pick (.t 16) (.v (.bool true)) (.t 23)), o 25 (.mv (.t 24)), ⟨some 26, .fad 0 (.t 5), some (25, false)⟩, ⟨some 27, .load 1 false (.t 26), some (25, false)⟩, ⟨some 28, .len (.t 27), some (25, false)⟩, ⟨some 29, .fad 5 (.t 5), some (25, false)⟩, ⟨some 30, .load 1 false (.t 29), some (25, false)⟩, ⟨some 31, .len (.t 30), some (25, false)⟩, ⟨some 32, .bin .add (.t 28) (.t 31), some (25, false)⟩, ⟨some 33, .fad 1 (.t 5), some (25, false)⟩, ⟨some 34, .load 1 false (.t 33), some (25, false)⟩, ⟨some 35, .len (.t 34), some (25, false)⟩, ⟨some 36, .bin .add (.t 35) (.v (.int .i64 1)), some (25, false)⟩, ⟨some 37, .bin .gtr (.t 32) (.t 36), some (25, false)⟩, o 38 (.pick (.t 25) (.v (.bool true)) (.t 37)), o 39 (.mv (.t 38)), ⟨some 40, .fad 5 (.t 5), some (39, false)⟩, ⟨some 41, .load 1 false (.t 40), some (39, false)⟩, ⟨some 42, .mv (.t 1), some (39, false)⟩, ⟨some 43, .len (.t 42), some (39, false)⟩, ⟨some 44, .bin .sub (.t 43) (.v (.int .i64 1)), some (39, false)⟩, ⟨some 45, .call 166 [.t 41, .v (.int .i64 (-1)), .t 44], some (39, false)⟩, ⟨some 46, .not (.t 45), some (39, false)⟩, o 47 (.pick (.t 39) (.v (.bool true)) (.t 46))])
 (.ite (.t 47) (.seq (.ops [o 6 (.mv (.v (.bool false)))])
  .ret)
 .skip))
 (.seq (.ops [o 7 (.mv (.v (.nil)))])
 (.seq (.seq (.ops [o 48 (.fad 0 (.t 5)), o 49 (.load 1 false (.t 48)), o 50 (.len (.t 49)), o 51 (.mv (.v (.int .i64 0)))])
 (.blk 0 (.loop (.seq (.ops [o 52 (.bin .lss (.t 51) (.t 50))])
   (.seq (.ite (.t 52) .skip
   (.exit 0))
   (.seq (.blk 1 (.seq (.ops [o 53 (.mv (.t 51)), o 54 (.iad 3 (.t 49) (.t 51)), o 55 (.load 3 true (.t 54)), o 9 (.alloc [.int .i64 0, .int .i64 0, .int .i64 0]), o 8 (.mv (.t 53)), ⟨none, .store 3 (.t 9) (.t 55), none⟩])
    (.seq (.seq (.ops [o 56 (.load 12 true (.t 3)), o 57 (.fad 2 (.t 5)), o 58 (.load 3 true (.t 57)), o 59 (.load 3 true (.t 9)), o 60 (.call 167 [.t 56, .t 58, .t 59]), o 61 (.not (.t 60)), o 62 (.mv (.t 61)), ⟨some 63, .mv (.t 8), some (62, false)⟩, ⟨some 64, .bin .eql (.t 63) (.v (.int .i64 0)), some (62, false)⟩, ⟨some 65, .mv (.t 64), some (62, false)⟩, ⟨some 66, .fad 2 (.t 9), some (65, true)⟩, ⟨some 67, .load 1 false (.t 66), some (65, true)⟩, ⟨some 68, .bin .neq (.t 67) (.v (.int .i64 (-1))), some (65, true)⟩, ⟨some 69, .pick (.t 65) (.t 68) (.v (.bool false)), some (62, false)⟩, o 70 (.pick (.t 62) (.v (.bool true)) (.t 69)), o 71 (.mv (.t 70)), ⟨some 72, .mv (.t 8), some (71, false)⟩, ⟨some 73, .bin .gtr (.t 72) (.v (.int .i64 0)), some (71, false)⟩, ⟨some 74, .mv (.t 73), some (71, false)⟩, ⟨some 75, .fad 1 (.t 5), some (74, true)⟩, ⟨some 76, .load 1 false (.t 75), some (74, true)⟩, ⟨some 77, .fad 2 (.t 9), some (74, true)⟩, ⟨some 78, .load 1 false (.t 77), some (74, true)⟩, ⟨some 79, .call 106 [.t 76, .t 78], some (74, true)⟩, ⟨some 80, .not (.t 79), some (74, true)⟩, ⟨some 81, .mv (.t 80), some (74, true)⟩, ⟨some 82, .mv (.t 7), some (81, false)⟩, ⟨some 83, .fad 2 (.t 9), some (81, false)⟩, ⟨some 84, .load 1 false (.t 83), some (81, false)⟩, ⟨some 85, .call 106 [.t 82, .t 84], some (81, false)⟩, ⟨some 86, .pick (.t 81) (.v (.bool true)) (.t 85), some (74, true)⟩, ⟨some 87, .pick (.t 74) (.t 86) (.v (.bool false)), some (71, false)⟩, o 88 (.pick (.t 71) (.v (.bool true)) (.t 87))])
    (.ite (.t 88) (.seq (.ops [o 6 (.mv (.v (.bool false)))])
     .ret)
    .skip))
    (.ops [o 89 (.mv (.t 7)), o 90 (.fad 2 (.t 9)), o 91 (.load 1 false (.t 90)), o 92 (.bsl 1 [.t 91]), o 93 (.app 1 8 (.t 89) (.t 92)), o 7 (.mv (.t 93))]))))
   (.ops [o 94 (.bin .add (.t 51) (.v (.int .i64 1))), o 51 (.mv (.t 94))])))))))
 (.seq (.ops [o 6 (.mv (.v (.bool true)))])
 .ret)))))
noncomputable def X.s_iMachine (p0 : TBoard) (p1 : (List TReaction)) (p2 : TMachine) : Option Bool :=
 ((X.s_iGood p0 p2.State p1).bind fun v11 => (bif (!v11) then some false else ((X.s_iDifferent p2.Used (W ((p1.length : Int) - 1))).bind fun v14 => (bif (!v14) then some false else (bif (decide ((W ((p2.Stack.length : Int) + (p2.Log.length : Int))) > (W ((p2.Used.length : Int) + 1)))) then some false else ((X.s_l1All p2.Log (-1) (W ((p1.length : Int) - 1))).bind fun v18 => (bif (!v18) then some false else ((loop (fun (x76 : (Int × (List Int))) => ((bif (decide (x76.1 < (p2.Stack.length : Int))) then ((at' zTFrame p2.Stack x76.1).bind fun v79 => ((X.s_iEvent p0 p2.State v79).bind fun v81 => (bif (!v81) then some (Sum.inr (Sum.inr false)) else (bif (x76.1 == 0) then (bif (v79.By != (-1)) then some (Sum.inr (Sum.inr false)) else (bif (decide (x76.1 > 0)) then ((X.s_l1Has p2.Used v79.By).bind fun v87 => (bif (!v87) then some (Sum.inr (Sum.inr false)) else ((X.s_l1Has x76.2 v79.By).bind fun v90 => (bif v90 then some (Sum.inr (Sum.inr false)) else (if (x76.2 ++ ([v79.By] : List Int)).length ≤ LIM then some (Sum.inl ((W (x76.1 + 1)), (x76.2 ++ ([v79.By] : List Int)))) else none))))) else (if (x76.2 ++ ([v79.By] : List Int)).length ≤ LIM then some (Sum.inl ((W (x76.1 + 1)), (x76.2 ++ ([v79.By] : List Int)))) else none))) else (bif (decide (x76.1 > 0)) then ((X.s_l1Has p2.Used v79.By).bind fun v96 => (bif (!v96) then some (Sum.inr (Sum.inr false)) else ((X.s_l1Has x76.2 v79.By).bind fun v99 => (bif v99 then some (Sum.inr (Sum.inr false)) else (if (x76.2 ++ ([v79.By] : List Int)).length ≤ LIM then some (Sum.inl ((W (x76.1 + 1)), (x76.2 ++ ([v79.By] : List Int)))) else none))))) else (if (x76.2 ++ ([v79.By] : List Int)).length ≤ LIM then some (Sum.inl ((W (x76.1 + 1)), (x76.2 ++ ([v79.By] : List Int)))) else none)))))) else some (Sum.inr (Sum.inl ()))) : Option ((Int × (List Int)) ⊕ (Unit ⊕ Bool)))) (0, ([] : List Int))).bind fun y104 => (Sum.elim (fun (y106 : Unit) => some true) (fun (y107 : Bool) => some y107) y104)))))))))
theorem s_iMachine_ok (p0 : TBoard) (p1 : (List TReaction)) (p2 : TMachine) (r : Bool) (H : X.s_iMachine p0 p1 p2 = some r) : FnOk Tryz.prog gl 105 [.agg (eTBoard p0), .c (dat 3 eTReaction zTReaction p1), .agg (eTMachine p2)] (cB r) := by
 unfold X.s_iMachine at H
 refine fi Tryz.f105 s_iMachine_ir [(6, cB r)] [] glL Tryz.func105 ?_
 refine so [] [] [(1, dc 3 eTReaction zTReaction p1), (3, pk 3), (5, pk 5)] [(3, va (eTBoard p0)), (5, va (eTMachine p2))] id ?_
 refine seq_in ?_
 obtain ⟨v11, h12, H⟩ := ofBind H
 rcases ofCond H with ⟨c13, H⟩ | ⟨c13, H⟩
 ·refine so [.res (cB v11), .g true, .g true, .g true, .g true, .g true, .g true, .g true, .g true, .g true, .g true, .g true, .g true, .g true, .g true, .g true, .g true, .g true, .g true, .g true, .g true, .g true, .g true, .g true, .g true, .g true, .g true, .g true, .g true, .g true] [] [(3, pk 3), (5, pk 5), (47, cB true)] [(3, va (eTBoard p0)), (5, va (eTMachine p2))] (fun t => aI (s_iGood_ok p0 p2.State p1 v11 h12) (aI c13 (aI c13 (aI c13 (aI c13 (aI c13 (aI c13 (aI c13 (aI c13 (aI (rfl : (true : Bool) = true) (aI (rfl : (true : Bool) = true) (aI (rfl : (true : Bool) = true) (aI (rfl : (true : Bool) = true) (aI (rfl : (true : Bool) = true) (aI (rfl : (true : Bool) = true) (aI (rfl : (true : Bool) = true) (aI (rfl : (true : Bool) = true) (aI (rfl : (true : Bool) = true) (aI (rfl : (true : Bool) = true) (aI (rfl : (true : Bool) = true) (aI (rfl : (true : Bool) = true) (aI (rfl : (true : Bool) = true) (aI (rfl : (true : Bool) = true) (aI (rfl : (true : Bool) = true) (aI (rfl : (true : Bool) = true) (aI (rfl : (true : Bool) = true) (aI (rfl : (true : Bool) = true) (aI (rfl : (true : Bool) = true) (aI (rfl : (true : Bool) = true) (aI (rfl : (true : Bool) = true) (t))))))))))))))))))))))))))))))) ?_
  refine it (rfl : (true : Bool) = true) ?_
  refine so [] [] [(6, cB false)] [] id ?_
  refine ends_ret ?_
  cases H
  exact And.intro (.inl rfl) rfl
 ·obtain ⟨v14, h15, H⟩ := ofBind H
  rcases ofCond H with ⟨c16, H⟩ | ⟨c16, H⟩
  ·refine so [.res (cB v11), .g false, .g false, .g false, .g false, .g false, .g false, .res (cB v14), .g false, .g false, .g true, .g true, .g true, .g true, .g true, .g true, .g true, .g true, .g true, .g true, .g true, .g true, .g true, .g true, .g true, .g true, .g true, .g true, .g true, .g true, .g true] [] [(3, pk 3), (5, pk 5), (47, cB true)] [(3, va (eTBoard p0)), (5, va (eTMachine p2))] (fun t => aI (s_iGood_ok p0 p2.State p1 v11 h12) (aI c13 (aI c13 (aI c13 (aI c13 (lI p1 (aI c13 (aI c13 (aI (s_iDifferent_ok p2.Used (W ((p1.length : Int) - 1)) v14 h15) (aI c13 (aI c13 (aI c16 (aI c16 (aI c16 (aI c16 (aI c16 (aI c16 (aI c16 (aI c16 (aI c16 (aI c16 (aI c16 (aI c16 (aI c16 (aI (rfl : (true : Bool) = true) (aI (rfl : (true : Bool) = true) (aI (rfl : (true : Bool) = true) (aI (rfl : (true : Bool) = true) (aI (rfl : (true : Bool) = true) (aI (rfl : (true : Bool) = true) (aI (rfl : (true : Bool) = true) (aI (rfl : (true : Bool) = true) (t))))))))))))))))))))))))))))))))) ?_
   refine it (rfl : (true : Bool) = true) ?_
   refine so [] [] [(6, cB false)] [] id ?_
   refine ends_ret ?_
   cases H
   exact And.intro (.inl rfl) rfl
  ·rcases ofCond H with ⟨c17, H⟩ | ⟨c17, H⟩
   ·refine so [.res (cB v11), .g false, .g false, .g false, .g false, .g false, .g false, .res (cB v14), .g false, .g false, .g false, .g false, .g false, .g false, .g false, .g false, .g false, .g false, .g false, .g false, .g false, .g false, .g false, .g true, .g true, .g true, .g true, .g true, .g true, .g true, .g true] [] [(3, pk 3), (5, pk 5), (47, cB true)] [(3, va (eTBoard p0)), (5, va (eTMachine p2))] (fun t => aI (s_iGood_ok p0 p2.State p1 v11 h12) (aI c13 (aI c13 (aI c13 (aI c13 (lI p1 (aI c13 (aI c13 (aI (s_iDifferent_ok p2.Used (W ((p1.length : Int) - 1)) v14 h15) (aI c13 (aI c13 (aI c16 (aI c16 (aI c16 (lI p2.Stack (aI c16 (aI c16 (aI c16 (lI p2.Log (aI c16 (aI c16 (aI c16 (aI c16 (lI p2.Used (aI c16 (aI c16 (aI c16 (aI c17 (aI c17 (aI c17 (aI c17 (aI c17 (aI c17 (aI c17 (aI c17 (t)))))))))))))))))))))))))))))))))))) ?_
    refine it (rfl : (true : Bool) = true) ?_
    refine so [] [] [(6, cB false)] [] id ?_
    refine ends_ret ?_
    cases H
    exact And.intro (.inl rfl) rfl
   ·obtain ⟨v18, h19, H⟩ := ofBind H
    refine so [.res (cB v11), .g false, .g false, .g false, .g false, .g false, .g false, .res (cB v14), .g false, .g false, .g false, .g false, .g false, .g false, .g false, .g false, .g false, .g false, .g false, .g false, .g false, .g false, .g false, .g false, .g false, .g false, .g false, .g false, .g false, .res (cB v18), .g false, .g false] [] [(3, pk 3), (5, pk 5), (47, cB (!v18))] [(3, va (eTBoard p0)), (5, va (eTMachine p2))] (fun t => aI (s_iGood_ok p0 p2.State p1 v11 h12) (aI c13 (aI c13 (aI c13 (aI c13 (lI p1 (aI c13 (aI c13 (aI (s_iDifferent_ok p2.Used (W ((p1.length : Int) - 1)) v14 h15) (aI c13 (aI c13 (aI c16 (aI c16 (aI c16 (lI p2.Stack (aI c16 (aI c16 (aI c16 (lI p2.Log (aI c16 (aI c16 (aI c16 (aI c16 (lI p2.Used (aI c16 (aI c16 (aI c16 (aI c17 (aI c17 (aI c17 (aI c17 (lI p1 (aI c17 (aI c17 (aI (s_l1All_ok p2.Log (-1) (W ((p1.length : Int) - 1)) v18 h19) (aI c17 (aI c17 (t)))))))))))))))))))))))))))))))))))))) ?_
    rcases ofCond H with ⟨c20, H⟩ | ⟨c20, H⟩
    ·refine it c20 ?_
     refine so [] [] [(6, cB false)] [] id ?_
     refine ends_ret ?_
     cases H
     exact And.intro (.inl rfl) rfl
    ·refine jf c20 ?_
     refine sk ?_
     refine so [] [] [(3, pk 3), (5, pk 5), (7, .c (.nil))] [(3, va (eTBoard p0)), (5, va (eTMachine p2))] id ?_
     refine seq_in ?_
     refine so [] [] [(3, pk 3), (5, pk 5), (7, .c (.nil)), (49, dc 3 eTFrame zTFrame p2.Stack), (50, cI (p2.Stack.length : Int)), (51, cI 0)] [(3, va (eTBoard p0)), (5, va (eTMachine p2))] (fun t => lI p2.Stack (t)) ?_
     refine ends_blk ?_
     obtain ⟨y104, h105, H⟩ := ofBind H
     refine tl [.nlo 7 1001 1 (fF eI zI ([] : List Int))] [(3, pk 3), (5, pk 5), (7, .c (.own 1001 1 0 (([] : List Int).length))), (49, dc 3 eTFrame zTFrame p2.Stack), (50, cI (p2.Stack.length : Int)), (51, cI 0)] [(3, va (eTBoard p0)), (5, va (eTMachine p2)), (1001, .arr 1 (([] : List Int).length) (fF eI zI ([] : List Int)) false)] (fun t => aI (by decide : 0 < 1) (t)) ?_
     refine loop_in (fun (x : (Int × (List Int))) => lit [(3, pk 3), (5, pk 5), (7, .c (.own 1001 1 0 x.2.length)), (49, dc 3 eTFrame zTFrame p2.Stack), (50, cI (p2.Stack.length : Int)), (51, cI x.1)] [(3, va (eTBoard p0)), (5, va (eTMachine p2)), (1001, .arr 1 x.2.length (fF eI zI x.2) false)]) (orJ (fun (z : Unit) => At (.exit 0) (lit [] [])) (fun (z : Bool) => At .ret (lit [(6, cB z)] []))) h105 ?_ ?_
     ·clear H h105
      intro x76 y0 H
      refine so [] [] [(3, pk 3), (5, pk 5), (7, .c (.own 1001 1 0 x76.2.length)), (49, dc 3 eTFrame zTFrame p2.Stack), (50, cI (p2.Stack.length : Int)), (51, cI x76.1), (52, cB (decide (x76.1 < (p2.Stack.length : Int))))] [(3, va (eTBoard p0)), (5, va (eTMachine p2)), (1001, .arr 1 x76.2.length (fF eI zI x76.2) false)] id ?_
      refine seq_in ?_
      rcases ofCond H with ⟨c78, H⟩ | ⟨c78, H⟩
      ·refine it c78 ?_
       refine sk ?_
       refine seq_in ?_
       refine ends_blk ?_
       obtain ⟨v79, h80, H⟩ := ofBind H
       refine so [.cs (eTFrame v79)] [] [(3, pk 3), (5, pk 5), (7, .c (.own 1001 1 0 x76.2.length)), (8, cI x76.1), (9, pk 9), (49, dc 3 eTFrame zTFrame p2.Stack), (50, cI (p2.Stack.length : Int)), (51, cI x76.1)] [(3, va (eTBoard p0)), (5, va (eTMachine p2)), (9, va (eTFrame v79)), (1001, .arr 1 x76.2.length (fF eI zI x76.2) false)] (fun t => aI (at_lt h80) (aI (at_enc (enc := eTFrame) h80) (t))) ?_
       refine seq_in ?_
       obtain ⟨v81, h82, H⟩ := ofBind H
       rcases ofCond H with ⟨c83, H⟩ | ⟨c83, H⟩
       ·refine so [.res (cB v81), .g true, .g true, .g true, .g true, .g true, .g true, .g true, .g true, .g true, .g true] [] [(3, pk 3), (5, pk 5), (7, .c (.own 1001 1 0 x76.2.length)), (9, pk 9), (49, dc 3 eTFrame zTFrame p2.Stack), (50, cI (p2.Stack.length : Int)), (51, cI x76.1), (88, cB true)] [(3, va (eTBoard p0)), (5, va (eTMachine p2)), (9, va (eTFrame v79)), (1001, .arr 1 x76.2.length (fF eI zI x76.2) false)] (fun t => aI (s_iEvent_ok p0 p2.State v79 v81 h82) (aI c83 (aI c83 (aI c83 (aI c83 (aI c83 (aI (rfl : (true : Bool) = true) (aI (rfl : (true : Bool) = true) (aI (rfl : (true : Bool) = true) (aI (rfl : (true : Bool) = true) (aI (rfl : (true : Bool) = true) (t)))))))))))) ?_
        refine it (rfl : (true : Bool) = true) ?_
        refine so [] [] [(6, cB false)] [] id ?_
        refine ends_ret ?_
        cases H
        exact And.intro (by simp) (And.intro rfl rfl)
       ·rcases ofCond H with ⟨c84, H⟩ | ⟨c84, H⟩
        ·rcases ofCond H with ⟨c85, H⟩ | ⟨c85, H⟩
         ·refine so [.res (cB v81), .g false, .g false, .g false, .g true, .g true, .g true, .g false, .g true, .g false, .g true, .g true, .g true, .g true, .g true] [] [(3, pk 3), (5, pk 5), (7, .c (.own 1001 1 0 x76.2.length)), (9, pk 9), (49, dc 3 eTFrame zTFrame p2.Stack), (50, cI (p2.Stack.length : Int)), (51, cI x76.1), (88, cB true)] [(3, va (eTBoard p0)), (5, va (eTMachine p2)), (9, va (eTFrame v79)), (1001, .arr 1 x76.2.length (fF eI zI x76.2) false)] (fun t => aI (s_iEvent_ok p0 p2.State v79 v81 h82) (aI c83 (aI c83 (aI c83 (aI c84 (aI c84 (aI c84 (aI c83 (aI c84 (aI c83 (aI c85 (aI c85 (aI c85 (aI c85 (aI c85 (t)))))))))))))))) ?_
          refine it (rfl : (true : Bool) = true) ?_
          refine so [] [] [(6, cB false)] [] id ?_
          refine ends_ret ?_
          cases H
          exact And.intro (by simp) (And.intro rfl rfl)
         ·rcases ofCond H with ⟨c86, H⟩ | ⟨c86, H⟩
          ·obtain ⟨v87, h88, H⟩ := ofBind H
           rcases ofCond H with ⟨c89, H⟩ | ⟨c89, H⟩
           ·refine so [.res (cB v81), .g false, .g false, .g false, .g true, .g true, .g true, .g false, .g true, .g false, .g false, .g false, .g false, .g true, .g true, .g true, .g true, .g true, .res (cB v87), .g true, .g true, .g true, .g true, .g true, .g true, .g true, .g true, .g false, .g true, .g false] [] [(3, pk 3), (5, pk 5), (7, .c (.own 1001 1 0 x76.2.length)), (9, pk 9), (49, dc 3 eTFrame zTFrame p2.Stack), (50, cI (p2.Stack.length : Int)), (51, cI x76.1), (88, cB true)] [(3, va (eTBoard p0)), (5, va (eTMachine p2)), (9, va (eTFrame v79)), (1001, .arr 1 x76.2.length (fF eI zI x76.2) false)] (fun t => aI (s_iEvent_ok p0 p2.State v79 v81 h82) (aI c83 (aI c83 (aI c83 (aI c84 (aI c84 (aI c84 (aI c83 (aI c84 (aI c83 (aI c85 (aI c85 (aI c85 (aI c86 (aI c86 (aI c86 (aI c86 (aI c86 (aI (s_l1Has_ok p2.Used v79.By v87 h88) (aI c86 (aI c86 (aI c89 (aI c89 (aI c89 (aI c89 (aI c86 (aI c89 (aI c85 (aI c86 (aI c85 (t))))))))))))))))))))))))))))))) ?_
            refine it (rfl : (true : Bool) = true) ?_
            refine so [] [] [(6, cB false)] [] id ?_
            refine ends_ret ?_
            cases H
            exact And.intro (by simp) (And.intro rfl rfl)
           ·obtain ⟨v90, h91, H⟩ := ofBind H
            refine so [.res (cB v81), .g false, .g false, .g false, .g true, .g true, .g true, .g false, .g true, .g false, .g false, .g false, .g false, .g true, .g true, .g true, .g true, .g true, .res (cB v87), .g true, .g true, .g false, .g false, .g false, .g false, .res (cB v90), .g true, .g false, .g false, .g true, .g false] [] [(3, pk 3), (5, pk 5), (7, .c (.own 1001 1 0 x76.2.length)), (9, pk 9), (49, dc 3 eTFrame zTFrame p2.Stack), (50, cI (p2.Stack.length : Int)), (51, cI x76.1), (88, cB v90)] [(3, va (eTBoard p0)), (5, va (eTMachine p2)), (9, va (eTFrame v79)), (1001, .arr 1 x76.2.length (fF eI zI x76.2) false)] (fun t => aI (s_iEvent_ok p0 p2.State v79 v81 h82) (aI c83 (aI c83 (aI c83 (aI c84 (aI c84 (aI c84 (aI c83 (aI c84 (aI c83 (aI c85 (aI c85 (aI c85 (aI c86 (aI c86 (aI c86 (aI c86 (aI c86 (aI (s_l1Has_ok p2.Used v79.By v87 h88) (aI c86 (aI c86 (aI c89 (aI c89 (aI c89 (aI c89 (aI (Nat.le_refl x76.2.length) (aI (s_l1Has_ok x76.2 v79.By v90 h91) (aI c86 (aI c89 (aI c85 (aI c86 (aI c85 (t))))))))))))))))))))))))))))))))) ?_
            rcases ofCond H with ⟨c92, H⟩ | ⟨c92, H⟩
            ·refine it c92 ?_
             refine so [] [] [(6, cB false)] [] id ?_
             refine ends_ret ?_
             cases H
             exact And.intro (by simp) (And.intro rfl rfl)
            ·refine jf c92 ?_
             refine sk ?_
             obtain ⟨g93, H⟩ := ofIf H
             refine oo [.fn ([v79.By] : List Int).length (fF eI zI ([v79.By] : List Int)), .fn (x76.2 ++ ([v79.By] : List Int)).length (fF eI zI (x76.2 ++ ([v79.By] : List Int)))] [] [(3, pk 3), (5, pk 5), (7, .c (.own 93 1 0 ((x76.2 ++ ([v79.By] : List Int)).length))), (49, dc 3 eTFrame zTFrame p2.Stack), (50, cI (p2.Stack.length : Int)), (51, cI x76.1)] [(3, va (eTBoard p0)), (5, va (eTMachine p2)), (93, .arr 1 ((x76.2 ++ ([v79.By] : List Int)).length) (fF eI zI (x76.2 ++ ([v79.By] : List Int))) false)] (fun t => aI (rfl : ([v79.By] : List Int).length = 1) (aI (fF_lit eI zI ([v79.By] : List Int)) (aI (And.intro (Nat.le_refl x76.2.length) (And.intro (@List.length_append _ x76.2 ([v79.By] : List Int)) g93)) (aI (fF_appL eI zI x76.2 ([v79.By] : List Int)) (aI (fF_appR eI zI x76.2 ([v79.By] : List Int)) (t)))))) ?_
             change EndsI _ _ _ _ _ _
             refine oo [] [.ren 93 1001] [(3, pk 3), (5, pk 5), (7, .c (.own 1001 1 0 ((x76.2 ++ ([v79.By] : List Int)).length))), (49, dc 3 eTFrame zTFrame p2.Stack), (50, cI (p2.Stack.length : Int)), (51, cI (W (x76.1 + 1)))] [(3, va (eTBoard p0)), (5, va (eTMachine p2)), (1001, .arr 1 ((x76.2 ++ ([v79.By] : List Int)).length) (fF eI zI (x76.2 ++ ([v79.By] : List Int))) false)] id ?_
             cases H
             exact And.intro rfl rfl
          ·refine so [.res (cB v81), .g false, .g false, .g false, .g true, .g true, .g true, .g false, .g true, .g false, .g false, .g false, .g false, .g false, .g false, .g false, .g false, .g false, .g false, .g false, .g false, .g false, .g false, .g false] [] [(3, pk 3), (5, pk 5), (7, .c (.own 1001 1 0 x76.2.length)), (9, pk 9), (49, dc 3 eTFrame zTFrame p2.Stack), (50, cI (p2.Stack.length : Int)), (51, cI x76.1), (88, cB false)] [(3, va (eTBoard p0)), (5, va (eTMachine p2)), (9, va (eTFrame v79)), (1001, .arr 1 x76.2.length (fF eI zI x76.2) false)] (fun t => aI (s_iEvent_ok p0 p2.State v79 v81 h82) (aI c83 (aI c83 (aI c83 (aI c84 (aI c84 (aI c84 (aI c83 (aI c84 (aI c83 (aI c85 (aI c85 (aI c85 (aI c86 (aI c86 (aI c86 (aI c86 (aI c86 (aI c86 (aI c86 (aI c86 (aI c85 (aI c86 (aI c85 (t))))))))))))))))))))))))) ?_
           refine jf (rfl : (false : Bool) = false) ?_
           refine sk ?_
           obtain ⟨g94, H⟩ := ofIf H
           refine oo [.fn ([v79.By] : List Int).length (fF eI zI ([v79.By] : List Int)), .fn (x76.2 ++ ([v79.By] : List Int)).length (fF eI zI (x76.2 ++ ([v79.By] : List Int)))] [] [(3, pk 3), (5, pk 5), (7, .c (.own 93 1 0 ((x76.2 ++ ([v79.By] : List Int)).length))), (49, dc 3 eTFrame zTFrame p2.Stack), (50, cI (p2.Stack.length : Int)), (51, cI x76.1)] [(3, va (eTBoard p0)), (5, va (eTMachine p2)), (93, .arr 1 ((x76.2 ++ ([v79.By] : List Int)).length) (fF eI zI (x76.2 ++ ([v79.By] : List Int))) false)] (fun t => aI (rfl : ([v79.By] : List Int).length = 1) (aI (fF_lit eI zI ([v79.By] : List Int)) (aI (And.intro (Nat.le_refl x76.2.length) (And.intro (@List.length_append _ x76.2 ([v79.By] : List Int)) g94)) (aI (fF_appL eI zI x76.2 ([v79.By] : List Int)) (aI (fF_appR eI zI x76.2 ([v79.By] : List Int)) (t)))))) ?_
           change EndsI _ _ _ _ _ _
           refine oo [] [.ren 93 1001] [(3, pk 3), (5, pk 5), (7, .c (.own 1001 1 0 ((x76.2 ++ ([v79.By] : List Int)).length))), (49, dc 3 eTFrame zTFrame p2.Stack), (50, cI (p2.Stack.length : Int)), (51, cI (W (x76.1 + 1)))] [(3, va (eTBoard p0)), (5, va (eTMachine p2)), (1001, .arr 1 ((x76.2 ++ ([v79.By] : List Int)).length) (fF eI zI (x76.2 ++ ([v79.By] : List Int))) false)] id ?_
           cases H
           exact And.intro rfl rfl
        ·rcases ofCond H with ⟨c95, H⟩ | ⟨c95, H⟩
         ·obtain ⟨v96, h97, H⟩ := ofBind H
          rcases ofCond H with ⟨c98, H⟩ | ⟨c98, H⟩
          ·refine so [.res (cB v81), .g false, .g false, .g false, .g false, .g false, .g false, .g false, .g false, .g false, .g false, .g false, .g false, .g true, .g true, .g true, .g true, .g true, .res (cB v96), .g true, .g true, .g true, .g true, .g true, .g true, .g true, .g true, .g false, .g true, .g false] [] [(3, pk 3), (5, pk 5), (7, .c (.own 1001 1 0 x76.2.length)), (9, pk 9), (49, dc 3 eTFrame zTFrame p2.Stack), (50, cI (p2.Stack.length : Int)), (51, cI x76.1), (88, cB true)] [(3, va (eTBoard p0)), (5, va (eTMachine p2)), (9, va (eTFrame v79)), (1001, .arr 1 x76.2.length (fF eI zI x76.2) false)] (fun t => aI (s_iEvent_ok p0 p2.State v79 v81 h82) (aI c83 (aI c83 (aI c83 (aI c84 (aI c84 (aI c84 (aI c83 (aI c84 (aI c83 (aI (rfl : (false : Bool) = false) (aI (rfl : (false : Bool) = false) (aI (rfl : (false : Bool) = false) (aI c95 (aI c95 (aI c95 (aI c95 (aI c95 (aI (s_l1Has_ok p2.Used v79.By v96 h97) (aI c95 (aI c95 (aI c98 (aI c98 (aI c98 (aI c98 (aI c95 (aI c98 (aI (rfl : (false : Bool) = false) (aI c95 (aI (rfl : (false : Bool) = false) (t))))))))))))))))))))))))))))))) ?_
           refine it (rfl : (true : Bool) = true) ?_
           refine so [] [] [(6, cB false)] [] id ?_
           refine ends_ret ?_
           cases H
           exact And.intro (by simp) (And.intro rfl rfl)
          ·obtain ⟨v99, h100, H⟩ := ofBind H
           refine so [.res (cB v81), .g false, .g false, .g false, .g false, .g false, .g false, .g false, .g false, .g false, .g false, .g false, .g false, .g true, .g true, .g true, .g true, .g true, .res (cB v96), .g true, .g true, .g false, .g false, .g false, .g false, .res (cB v99), .g true, .g false, .g false, .g true, .g false] [] [(3, pk 3), (5, pk 5), (7, .c (.own 1001 1 0 x76.2.length)), (9, pk 9), (49, dc 3 eTFrame zTFrame p2.Stack), (50, cI (p2.Stack.length : Int)), (51, cI x76.1), (88, cB v99)] [(3, va (eTBoard p0)), (5, va (eTMachine p2)), (9, va (eTFrame v79)), (1001, .arr 1 x76.2.length (fF eI zI x76.2) false)] (fun t => aI (s_iEvent_ok p0 p2.State v79 v81 h82) (aI c83 (aI c83 (aI c83 (aI c84 (aI c84 (aI c84 (aI c83 (aI c84 (aI c83 (aI (rfl : (false : Bool) = false) (aI (rfl : (false : Bool) = false) (aI (rfl : (false : Bool) = false) (aI c95 (aI c95 (aI c95 (aI c95 (aI c95 (aI (s_l1Has_ok p2.Used v79.By v96 h97) (aI c95 (aI c95 (aI c98 (aI c98 (aI c98 (aI c98 (aI (Nat.le_refl x76.2.length) (aI (s_l1Has_ok x76.2 v79.By v99 h100) (aI c95 (aI c98 (aI (rfl : (false : Bool) = false) (aI c95 (aI (rfl : (false : Bool) = false) (t))))))))))))))))))))))))))))))))) ?_
           rcases ofCond H with ⟨c101, H⟩ | ⟨c101, H⟩
           ·refine it c101 ?_
            refine so [] [] [(6, cB false)] [] id ?_
            refine ends_ret ?_
            cases H
            exact And.intro (by simp) (And.intro rfl rfl)
           ·refine jf c101 ?_
            refine sk ?_
            obtain ⟨g102, H⟩ := ofIf H
            refine oo [.fn ([v79.By] : List Int).length (fF eI zI ([v79.By] : List Int)), .fn (x76.2 ++ ([v79.By] : List Int)).length (fF eI zI (x76.2 ++ ([v79.By] : List Int)))] [] [(3, pk 3), (5, pk 5), (7, .c (.own 93 1 0 ((x76.2 ++ ([v79.By] : List Int)).length))), (49, dc 3 eTFrame zTFrame p2.Stack), (50, cI (p2.Stack.length : Int)), (51, cI x76.1)] [(3, va (eTBoard p0)), (5, va (eTMachine p2)), (93, .arr 1 ((x76.2 ++ ([v79.By] : List Int)).length) (fF eI zI (x76.2 ++ ([v79.By] : List Int))) false)] (fun t => aI (rfl : ([v79.By] : List Int).length = 1) (aI (fF_lit eI zI ([v79.By] : List Int)) (aI (And.intro (Nat.le_refl x76.2.length) (And.intro (@List.length_append _ x76.2 ([v79.By] : List Int)) g102)) (aI (fF_appL eI zI x76.2 ([v79.By] : List Int)) (aI (fF_appR eI zI x76.2 ([v79.By] : List Int)) (t)))))) ?_
            change EndsI _ _ _ _ _ _
            refine oo [] [.ren 93 1001] [(3, pk 3), (5, pk 5), (7, .c (.own 1001 1 0 ((x76.2 ++ ([v79.By] : List Int)).length))), (49, dc 3 eTFrame zTFrame p2.Stack), (50, cI (p2.Stack.length : Int)), (51, cI (W (x76.1 + 1)))] [(3, va (eTBoard p0)), (5, va (eTMachine p2)), (1001, .arr 1 ((x76.2 ++ ([v79.By] : List Int)).length) (fF eI zI (x76.2 ++ ([v79.By] : List Int))) false)] id ?_
            cases H
            exact And.intro rfl rfl
         ·refine so [.res (cB v81), .g false, .g false, .g false, .g false, .g false, .g false, .g false, .g false, .g false, .g false, .g false, .g false, .g false, .g false, .g false, .g false, .g false, .g false, .g false, .g false, .g false, .g false, .g false] [] [(3, pk 3), (5, pk 5), (7, .c (.own 1001 1 0 x76.2.length)), (9, pk 9), (49, dc 3 eTFrame zTFrame p2.Stack), (50, cI (p2.Stack.length : Int)), (51, cI x76.1), (88, cB false)] [(3, va (eTBoard p0)), (5, va (eTMachine p2)), (9, va (eTFrame v79)), (1001, .arr 1 x76.2.length (fF eI zI x76.2) false)] (fun t => aI (s_iEvent_ok p0 p2.State v79 v81 h82) (aI c83 (aI c83 (aI c83 (aI c84 (aI c84 (aI c84 (aI c83 (aI c84 (aI c83 (aI (rfl : (false : Bool) = false) (aI (rfl : (false : Bool) = false) (aI (rfl : (false : Bool) = false) (aI c95 (aI c95 (aI c95 (aI c95 (aI c95 (aI c95 (aI c95 (aI c95 (aI (rfl : (false : Bool) = false) (aI c95 (aI (rfl : (false : Bool) = false) (t))))))))))))))))))))))))) ?_
          refine jf (rfl : (false : Bool) = false) ?_
          refine sk ?_
          obtain ⟨g103, H⟩ := ofIf H
          refine oo [.fn ([v79.By] : List Int).length (fF eI zI ([v79.By] : List Int)), .fn (x76.2 ++ ([v79.By] : List Int)).length (fF eI zI (x76.2 ++ ([v79.By] : List Int)))] [] [(3, pk 3), (5, pk 5), (7, .c (.own 93 1 0 ((x76.2 ++ ([v79.By] : List Int)).length))), (49, dc 3 eTFrame zTFrame p2.Stack), (50, cI (p2.Stack.length : Int)), (51, cI x76.1)] [(3, va (eTBoard p0)), (5, va (eTMachine p2)), (93, .arr 1 ((x76.2 ++ ([v79.By] : List Int)).length) (fF eI zI (x76.2 ++ ([v79.By] : List Int))) false)] (fun t => aI (rfl : ([v79.By] : List Int).length = 1) (aI (fF_lit eI zI ([v79.By] : List Int)) (aI (And.intro (Nat.le_refl x76.2.length) (And.intro (@List.length_append _ x76.2 ([v79.By] : List Int)) g103)) (aI (fF_appL eI zI x76.2 ([v79.By] : List Int)) (aI (fF_appR eI zI x76.2 ([v79.By] : List Int)) (t)))))) ?_
          change EndsI _ _ _ _ _ _
          refine oo [] [.ren 93 1001] [(3, pk 3), (5, pk 5), (7, .c (.own 1001 1 0 ((x76.2 ++ ([v79.By] : List Int)).length))), (49, dc 3 eTFrame zTFrame p2.Stack), (50, cI (p2.Stack.length : Int)), (51, cI (W (x76.1 + 1)))] [(3, va (eTBoard p0)), (5, va (eTMachine p2)), (1001, .arr 1 ((x76.2 ++ ([v79.By] : List Int)).length) (fF eI zI (x76.2 ++ ([v79.By] : List Int))) false)] id ?_
          cases H
          exact And.intro rfl rfl
      ·refine jf c78 ?_
       refine tl [] [] [] id ?_
       refine ends_exit ?_
       cases H
       exact And.intro (by simp) (And.intro rfl rfl)
     ·clear h105
      cases y104 with
      | inl y106 =>
       replace H := ofInl H
       intro e s q
       obtain ⟨rfl, rfl⟩ := q
       change EndsI _ _ _ _ _ _
       refine so [] [] [(6, cB true)] [] id ?_
       refine ends_ret ?_
       cases H
       exact And.intro (.inl rfl) rfl
      | inr y107 =>
       replace H := ofInr H
       intro e s q
       obtain ⟨rfl, rfl⟩ := q
       cases H
       exact And.intro (.inl rfl) rfl
def s_ReactionsLeft_ir : S :=
 (.seq (.ops [o 3 (.box 12 (.t 0)), o 5 (.box 6 (.t 2)), o 6 (.mv (.v (.nil))), o 7 (.mv (.v (.bool false)))])
 (.seq (.seq (.ops [o 10 (.load 12 true (.t 3)), o 11 (.mv (.t 1)), o 12 (.load 6 true (.t 5)), o 13 (.call 105 [.t 10, .t 11, .t 12]), o 14 (.not (.t 13))])
 (.ite (.t 14) (.seq (.ops [o 6 (.mv (.v (.nil))), o 7 (.mv (.v (.bool false)))])
  .ret)
 .skip))
 (.seq (.ops [o 8 (.mv (.v (.nil)))])
 (.seq (.seq (.ops [o 15 (.mv (.t 1)), o 16 (.len (.t 15)), o 17 (.mv (.v (.int .i64 0)))])
 (.blk 0 (.loop (.seq (.ops [o 18 (.bin .lss (.t 17) (.t 16))])
   (.seq (.ite (.t 18) .skip
   (.exit 0))
   (.seq (.blk 1 (.seq (.ops [o 19 (.mv (.t 17)), o 9 (.mv (.t 19))])
    (.seq (.ops [o 20 (.fad 1 (.t 5)), o 21 (.load 1 false (.t 20)), o 22 (.mv (.t 9)), o 23 (.call 106 [.t 21, .t 22]), o 24 (.not (.t 23))])
    (.ite (.t 24) (.ops [o 25 (.mv (.t 8)), o 26 (.mv (.t 9)), o 27 (.bsl 1 [.t 26]), o 28 (.app 1 8 (.t 25) (.t 27)), o 8 (.mv (.t 28))])
    .skip))))
   (.ops [o 29 (.bin .add (.t 17) (.v (.int .i64 1))), o 17 (.mv (.t 29))])))))))
 (.seq (.ops [o 30 (.mv (.t 8)), o 6 (.mv (.t 30)), o 7 (.mv (.v (.bool true)))])
 .ret)))))
noncomputable def X.s_ReactionsLeft (p0 : TBoard) (p1 : (List TReaction)) (p2 : TMachine) : Option ((List Int) × Bool) :=
 ((X.s_iMachine p0 p1 p2).bind fun v4 => (bif (!v4) then some (([] : List Int), false) else ((loop (fun (x20 : (Int × (List Int))) => ((bif (decide (x20.1 < (p1.length : Int))) then ((X.s_l1Has p2.Used x20.1).bind fun v23 => (bif (!v23) then (if (x20.2 ++ ([x20.1] : List Int)).length ≤ LIM then some (Sum.inl ((W (x20.1 + 1)), (x20.2 ++ ([x20.1] : List Int)))) else none) else some (Sum.inl ((W (x20.1 + 1)), x20.2)))) else some (Sum.inr x20.2)) : Option ((Int × (List Int)) ⊕ (List Int)))) (0, ([] : List Int))).bind fun y27 => some (y27, true))))
theorem s_ReactionsLeft_ok (p0 : TBoard) (p1 : (List TReaction)) (p2 : TMachine) (r : ((List Int) × Bool)) (H : X.s_ReactionsLeft p0 p1 p2 = some r) : FnOk Tryz.prog gl 43 [.agg (eTBoard p0), .c (dat 3 eTReaction zTReaction p1), .agg (eTMachine p2)] (.tup [(false, [dat 1 eI zI r.1]), (false, [.bool r.2])]) := by
 unfold X.s_ReactionsLeft at H
 refine fi Tryz.f43 s_ReactionsLeft_ir [(6, dc 1 eI zI r.1), (7, cB r.2)] [] glL Tryz.func43 ?_
 refine so [] [] [(1, dc 3 eTReaction zTReaction p1), (3, pk 3), (5, pk 5)] [(3, va (eTBoard p0)), (5, va (eTMachine p2))] id ?_
 refine seq_in ?_
 obtain ⟨v4, h5, H⟩ := ofBind H
 refine so [.res (cB v4)] [] [(1, dc 3 eTReaction zTReaction p1), (5, pk 5), (14, cB (!v4))] [(5, va (eTMachine p2))] (fun t => aI (s_iMachine_ok p0 p1 p2 v4 h5) (t)) ?_
 rcases ofCond H with ⟨c6, H⟩ | ⟨c6, H⟩
 ·refine it c6 ?_
  refine so [] [] [(6, .c (.nil)), (7, cB false)] [] id ?_
  refine tl [.nld 6 1 (fF eI zI ([] : List Int))] [(6, .c (dat 1 eI zI ([] : List Int))), (7, cB false)] [] id ?_
  refine ends_ret ?_
  cases H
  exact And.intro (.inl rfl) rfl
 ·refine jf c6 ?_
  refine sk ?_
  refine so [] [] [(1, dc 3 eTReaction zTReaction p1), (5, pk 5), (8, .c (.nil))] [(5, va (eTMachine p2))] id ?_
  refine seq_in ?_
  refine so [] [] [(5, pk 5), (8, .c (.nil)), (16, cI (p1.length : Int)), (17, cI 0)] [(5, va (eTMachine p2))] (fun t => lI p1 (t)) ?_
  refine ends_blk ?_
  obtain ⟨y27, h28, H⟩ := ofBind H
  refine tl [.nlo 8 1001 1 (fF eI zI ([] : List Int))] [(5, pk 5), (8, .c (.own 1001 1 0 (([] : List Int).length))), (16, cI (p1.length : Int)), (17, cI 0)] [(5, va (eTMachine p2)), (1001, .arr 1 (([] : List Int).length) (fF eI zI ([] : List Int)) false)] (fun t => aI (by decide : 0 < 1) (t)) ?_
  refine loop_in (fun (x : (Int × (List Int))) => lit [(5, pk 5), (8, .c (.own 1001 1 0 x.2.length)), (16, cI (p1.length : Int)), (17, cI x.1)] [(5, va (eTMachine p2)), (1001, .arr 1 x.2.length (fF eI zI x.2) false)]) (fun (z : (List Int)) => At (.exit 0) (lit [(8, .c (.own 1001 1 0 z.length))] [(1001, .arr 1 z.length (fF eI zI z) false)])) h28 ?_ ?_
  ·clear H h28
   intro x20 y0 H
   refine so [] [] [(5, pk 5), (8, .c (.own 1001 1 0 x20.2.length)), (16, cI (p1.length : Int)), (17, cI x20.1), (18, cB (decide (x20.1 < (p1.length : Int))))] [(5, va (eTMachine p2)), (1001, .arr 1 x20.2.length (fF eI zI x20.2) false)] id ?_
   refine seq_in ?_
   rcases ofCond H with ⟨c22, H⟩ | ⟨c22, H⟩
   ·refine it c22 ?_
    refine sk ?_
    refine seq_in ?_
    refine ends_blk ?_
    refine so [] [] [(5, pk 5), (8, .c (.own 1001 1 0 x20.2.length)), (9, cI x20.1), (16, cI (p1.length : Int)), (17, cI x20.1)] [(5, va (eTMachine p2)), (1001, .arr 1 x20.2.length (fF eI zI x20.2) false)] id ?_
    obtain ⟨v23, h24, H⟩ := ofBind H
    refine so [.res (cB v23)] [] [(5, pk 5), (8, .c (.own 1001 1 0 x20.2.length)), (9, cI x20.1), (16, cI (p1.length : Int)), (17, cI x20.1), (24, cB (!v23))] [(5, va (eTMachine p2)), (1001, .arr 1 x20.2.length (fF eI zI x20.2) false)] (fun t => aI (s_l1Has_ok p2.Used x20.1 v23 h24) (t)) ?_
    rcases ofCond H with ⟨c25, H⟩ | ⟨c25, H⟩
    ·refine it c25 ?_
     obtain ⟨g26, H⟩ := ofIf H
     refine oo [.fn ([x20.1] : List Int).length (fF eI zI ([x20.1] : List Int)), .fn (x20.2 ++ ([x20.1] : List Int)).length (fF eI zI (x20.2 ++ ([x20.1] : List Int)))] [] [(5, pk 5), (8, .c (.own 28 1 0 ((x20.2 ++ ([x20.1] : List Int)).length))), (16, cI (p1.length : Int)), (17, cI x20.1)] [(5, va (eTMachine p2)), (28, .arr 1 ((x20.2 ++ ([x20.1] : List Int)).length) (fF eI zI (x20.2 ++ ([x20.1] : List Int))) false)] (fun t => aI (rfl : ([x20.1] : List Int).length = 1) (aI (fF_lit eI zI ([x20.1] : List Int)) (aI (And.intro (Nat.le_refl x20.2.length) (And.intro (@List.length_append _ x20.2 ([x20.1] : List Int)) g26)) (aI (fF_appL eI zI x20.2 ([x20.1] : List Int)) (aI (fF_appR eI zI x20.2 ([x20.1] : List Int)) (t)))))) ?_
     change EndsI _ _ _ _ _ _
     refine oo [] [.ren 28 1001] [(5, pk 5), (8, .c (.own 1001 1 0 ((x20.2 ++ ([x20.1] : List Int)).length))), (16, cI (p1.length : Int)), (17, cI (W (x20.1 + 1)))] [(5, va (eTMachine p2)), (1001, .arr 1 ((x20.2 ++ ([x20.1] : List Int)).length) (fF eI zI (x20.2 ++ ([x20.1] : List Int))) false)] id ?_
     cases H
     exact And.intro rfl rfl
    ·refine jf c25 ?_
     refine sk ?_
     refine oo [] [] [(5, pk 5), (8, .c (.own 1001 1 0 x20.2.length)), (16, cI (p1.length : Int)), (17, cI (W (x20.1 + 1)))] [(5, va (eTMachine p2)), (1001, .arr 1 x20.2.length (fF eI zI x20.2) false)] id ?_
     cases H
     exact And.intro rfl rfl
   ·refine jf c22 ?_
    refine tl [] [(8, .c (.own 1001 1 0 x20.2.length))] [(1001, .arr 1 x20.2.length (fF eI zI x20.2) false)] id ?_
    refine ends_exit ?_
    cases H
    exact And.intro (by simp) (And.intro rfl rfl)
  ·clear h28
   intro e s q
   obtain ⟨rfl, rfl⟩ := q
   change EndsI _ _ _ _ _ _
   refine so [] [] [(6, .c (.own 1001 1 0 y27.length)), (7, cB true)] [(1001, .arr 1 y27.length (fF eI zI y27) false)] id ?_
   refine tl [.frz 6] [(6, dc 1 eI zI y27), (7, cB true)] [] (fun t => aI (Nat.le_refl y27.length) (t)) ?_
   refine ends_ret ?_
   cases H
   exact And.intro (.inl rfl) rfl
def l_toReaction_ir : S :=
 (.seq (.ops [o 1 (.box 3 (.t 0)), o 2 (.alloc [.int .i64 0, .int .i64 0, .int .i64 0])])
 (.seq (.ops [o 3 (.alloc [.int .i64 0, .int .i64 0, .int .i64 0])])
 (.seq (.ops [o 4 (.fad 0 (.t 1)), o 5 (.load 1 false (.t 4)), o 6 (.fad 0 (.t 3)), ⟨none, .store 1 (.t 6) (.t 5), none⟩])
 (.seq (.ops [o 7 (.fad 1 (.t 1)), o 8 (.load 1 false (.t 7)), o 9 (.fad 1 (.t 3)), ⟨none, .store 1 (.t 9) (.t 8), none⟩])
 (.seq (.ops [o 10 (.fad 2 (.t 1)), o 11 (.load 1 false (.t 10)), o 12 (.fad 2 (.t 3)), ⟨none, .store 1 (.t 12) (.t 11), none⟩])
 (.seq (.ops [o 13 (.load 3 true (.t 3)), ⟨none, .store 3 (.t 2) (.t 13), none⟩])
 .ret))))))
noncomputable def X.l_toReaction (p0 : TReaction) : Option TReaction :=
 some p0
theorem l_toReaction_ok (p0 : TReaction) (r : TReaction) (H : X.l_toReaction p0 = some r) : FnOk Tryz.prog gl 107 [.agg (eTReaction p0)] (.agg (eTReaction r)) := by
 unfold X.l_toReaction at H
 refine fi Tryz.f107 l_toReaction_ir [(2, pk 2)] [(2, va (eTReaction r))] glL Tryz.func107 ?_
 refine so [] [] [(1, pk 1), (2, pk 2)] [(1, va (eTReaction p0)), (2, .var [.int .i64 0, .int .i64 0, .int .i64 0] false)] id ?_
 refine so [] [] [(1, pk 1), (2, pk 2), (3, pk 3)] [(1, va (eTReaction p0)), (2, .var [.int .i64 0, .int .i64 0, .int .i64 0] false), (3, .var [.int .i64 0, .int .i64 0, .int .i64 0] false)] id ?_
 refine so [] [] [(1, pk 1), (2, pk 2), (3, pk 3)] [(1, va (eTReaction p0)), (2, .var [.int .i64 0, .int .i64 0, .int .i64 0] false), (3, .var [.int .i64 p0.Unit, .int .i64 0, .int .i64 0] false)] id ?_
 refine so [] [] [(1, pk 1), (2, pk 2), (3, pk 3)] [(1, va (eTReaction p0)), (2, .var [.int .i64 0, .int .i64 0, .int .i64 0] false), (3, .var [.int .i64 p0.Unit, .int .i64 p0.Watch, .int .i64 0] false)] id ?_
 refine so [] [] [(2, pk 2), (3, pk 3)] [(2, .var [.int .i64 0, .int .i64 0, .int .i64 0] false), (3, va (eTReaction p0))] id ?_
 refine so [] [] [(2, pk 2)] [(2, va (eTReaction p0))] id ?_
 refine ends_ret ?_
 cases H
 exact And.intro (.inl rfl) rfl
def l_toReactionS_ir : S :=
 (.seq (.ops [o 2 (.mv (.v (.nil)))])
 (.seq (.ops [o 5 (.mv (.t 0)), o 6 (.len (.t 5)), o 7 (.msl 3 24 [.int .i64 0, .int .i64 0, .int .i64 0] (.t 6)), o 3 (.mv (.t 7))])
 (.seq (.seq (.ops [o 4 (.mv (.v (.int .i64 0)))])
 (.blk 0 (.loop (.seq (.seq (.ops [o 8 (.mv (.t 4)), o 9 (.mv (.t 0)), o 10 (.len (.t 9)), o 11 (.bin .lss (.t 8) (.t 10))])
   (.ite (.t 11) .skip
   (.exit 0)))
   (.seq (.blk 1 (.ops [o 14 (.mv (.t 3)), o 15 (.mv (.t 4)), o 16 (.mv (.t 0)), o 17 (.mv (.t 4)), o 18 (.iad 3 (.t 16) (.t 17)), o 19 (.load 3 true (.t 18)), o 20 (.call 107 [.t 19]), o 21 (.iad 3 (.t 14) (.t 15)), ⟨none, .store 3 (.t 21) (.t 20), none⟩]))
   (.ops [o 12 (.mv (.t 4)), o 13 (.bin .add (.t 12) (.v (.int .i64 1))), o 4 (.mv (.t 13))]))))))
 (.seq (.ops [o 22 (.mv (.t 3)), o 2 (.mv (.t 22))])
 .ret))))
noncomputable def X.l_toReactionS (p0 : (List TReaction)) : Option (List TReaction) :=
 (if 0 ≤ (p0.length : Int) ∧ (p0.length : Int).toNat ≤ LIM then ((loop (fun (x17 : (Int × (List TReaction))) => ((bif (decide (x17.1 < (p0.length : Int))) then ((at' zTReaction p0 x17.1).bind fun v20 => ((X.l_toReaction v20).bind fun v22 => (if 0 ≤ x17.1 ∧ x17.1 < (x17.2.length : Int) then some (Sum.inl ((W (x17.1 + 1)), (x17.2.set x17.1.toNat v22))) else none))) else some (Sum.inr x17.2)) : Option ((Int × (List TReaction)) ⊕ (List TReaction)))) (0, (List.replicate (p0.length : Int).toNat zTReaction))).bind fun y25 => some y25) else none)
theorem l_toReactionS_ok (p0 : (List TReaction)) (r : (List TReaction)) (H : X.l_toReactionS p0 = some r) : FnOk Tryz.prog gl 44 [.c (dat 3 eTReaction zTReaction p0)] (.c (dat 3 eTReaction zTReaction r)) := by
 unfold X.l_toReactionS at H
 refine fi Tryz.f44 l_toReactionS_ir [(2, dc 3 eTReaction zTReaction r)] [] glL Tryz.func44 ?_
 refine so [] [] [(0, dc 3 eTReaction zTReaction p0)] [] id ?_
 obtain ⟨g1, H⟩ := ofIf H
 refine so [.fn (List.replicate (p0.length : Int).toNat zTReaction).length (fF eTReaction zTReaction (List.replicate (p0.length : Int).toNat zTReaction))] [] [(0, dc 3 eTReaction zTReaction p0), (3, .c (.own 7 3 0 ((List.replicate (p0.length : Int).toNat zTReaction).length)))] [(7, .arr 3 ((List.replicate (p0.length : Int).toNat zTReaction).length) (fF eTReaction zTReaction (List.replicate (p0.length : Int).toNat zTReaction)) false)] (fun t => lI p0 (aI (And.intro g1.1 (And.intro (List.length_replicate (n := (p0.length : Int).toNat) (a := zTReaction)).symm (Nat.le_trans (Nat.le_of_eq List.length_replicate) g1.2 : (List.replicate (p0.length : Int).toNat zTReaction).length ≤ LIM))) (aI (fF_rep eTReaction zTReaction zTReaction (p0.length : Int).toNat) (t)))) ?_
 refine seq_in ?_
 refine so [] [] [(0, dc 3 eTReaction zTReaction p0), (3, .c (.own 7 3 0 ((List.replicate (p0.length : Int).toNat zTReaction).length))), (4, cI 0)] [(7, .arr 3 ((List.replicate (p0.length : Int).toNat zTReaction).length) (fF eTReaction zTReaction (List.replicate (p0.length : Int).toNat zTReaction)) false)] id ?_
 refine ends_blk ?_
 obtain ⟨y25, h26, H⟩ := ofBind H
 refine loop_in (fun (x : (Int × (List TReaction))) => lit [(0, dc 3 eTReaction zTReaction p0), (3, .c (.own 7 3 0 x.2.length)), (4, cI x.1)] [(7, .arr 3 x.2.length (fF eTReaction zTReaction x.2) false)]) (fun (z : (List TReaction)) => At (.exit 0) (lit [(3, .c (.own 7 3 0 z.length))] [(7, .arr 3 z.length (fF eTReaction zTReaction z) false)])) h26 ?_ ?_
 ·clear H h26
  intro x17 y0 H
  refine seq_in ?_
  refine so [] [] [(0, dc 3 eTReaction zTReaction p0), (3, .c (.own 7 3 0 x17.2.length)), (4, cI x17.1), (11, cB (decide (x17.1 < (p0.length : Int))))] [(7, .arr 3 x17.2.length (fF eTReaction zTReaction x17.2) false)] (fun t => lI p0 (t)) ?_
  rcases ofCond H with ⟨c19, H⟩ | ⟨c19, H⟩
  ·refine it c19 ?_
   refine sk ?_
   refine seq_in ?_
   refine ends_blk ?_
   obtain ⟨v20, h21, H⟩ := ofBind H
   obtain ⟨v22, h23, H⟩ := ofBind H
   obtain ⟨g24, H⟩ := ofIf H
   refine oo [.cs (eTReaction v20), .res (.agg (eTReaction v22)), .no, .fn 0 (fF eTReaction zTReaction (x17.2.set x17.1.toNat v22))] [] [(0, dc 3 eTReaction zTReaction p0), (3, .c (.own 7 3 0 x17.2.length)), (4, cI x17.1)] [(7, .arr 3 x17.2.length (fF eTReaction zTReaction (x17.2.set x17.1.toNat v22)) false)] (fun t => aI (at_lt h21) (aI (at_enc (enc := eTReaction) h21) (aI (l_toReaction_ok v20 v22 h23) (aI g24 (aI (rfl : true = true) (aI (nat_lt g24) (aI (by decide : 0 + 3 ≤ 3) (aI (fF_set eTReaction zTReaction x17.2 x17.1.toNat v22 (nat_lt g24) x17.2.length) (t))))))))) ?_
   change EndsI _ _ _ _ _ _
   refine oo [] [.rel 3 ((x17.2.set x17.1.toNat v22).length), .rep 7 ((x17.2.set x17.1.toNat v22).length) (fF eTReaction zTReaction (x17.2.set x17.1.toNat v22))] [(0, dc 3 eTReaction zTReaction p0), (3, .c (.own 7 3 0 ((x17.2.set x17.1.toNat v22).length))), (4, cI (W (x17.1 + 1)))] [(7, .arr 3 ((x17.2.set x17.1.toNat v22).length) (fF eTReaction zTReaction (x17.2.set x17.1.toNat v22)) false)] (fun t => aI (by simp : x17.2.length = (x17.2.set x17.1.toNat v22).length) (aI (Nat.le_of_eq (by simp : (x17.2.set x17.1.toNat v22).length = x17.2.length)) (aI (fun _ _ => rfl : ∀ i, i < (x17.2.set x17.1.toNat v22).length → (fF eTReaction zTReaction (x17.2.set x17.1.toNat v22)) i = (fF eTReaction zTReaction (x17.2.set x17.1.toNat v22)) i) (t)))) ?_
   cases H
   exact And.intro rfl rfl
  ·refine jf c19 ?_
   refine tl [] [(3, .c (.own 7 3 0 x17.2.length))] [(7, .arr 3 x17.2.length (fF eTReaction zTReaction x17.2) false)] id ?_
   refine ends_exit ?_
   cases H
   exact And.intro (by simp) (And.intro rfl rfl)
 ·clear h26
  intro e s q
  obtain ⟨rfl, rfl⟩ := q
  change EndsI _ _ _ _ _ _
  refine so [] [] [(2, .c (.own 7 3 0 y25.length))] [(7, .arr 3 y25.length (fF eTReaction zTReaction y25) false)] id ?_
  refine tl [.frz 2] [(2, dc 3 eTReaction zTReaction y25)] [] (fun t => aI (Nat.le_refl y25.length) (t)) ?_
  refine ends_ret ?_
  cases H
  exact And.intro (.inl rfl) rfl
theorem l_toReactionS_F_ok (p0 : (List TReaction)) (r : (List TReaction)) (H : X.l_toReactionS p0 = some r) : FnOk Tryz.prog gl 44 [.c (dat 3 eTReaction zTReaction p0)] (.c (.fr (dat 3 eTReaction zTReaction r))) := by
 unfold X.l_toReactionS at H
 refine fn_fr (fn := Tryz.f44) (ir := l_toReactionS_ir) (s1 := lit [(2, .c (.own 900000 3 0 r.length))] [(900000, .arr 3 r.length (fF eTReaction zTReaction r) false)]) (res0 := .c (.own 900000 3 0 r.length)) glL Tryz.func44 (by kernel_rfl) (by kernel_rfl) (by kernel_rfl) (by kernel_rfl) (FrTo.own rfl (Nat.le_refl _) (fun i _ => ⟨rfl, rfl⟩)) ?_
 refine so [] [] [(0, dc 3 eTReaction zTReaction p0)] [] id ?_
 obtain ⟨g1, H⟩ := ofIf H
 refine so [.fn (List.replicate (p0.length : Int).toNat zTReaction).length (fF eTReaction zTReaction (List.replicate (p0.length : Int).toNat zTReaction))] [] [(0, dc 3 eTReaction zTReaction p0), (3, .c (.own 7 3 0 ((List.replicate (p0.length : Int).toNat zTReaction).length)))] [(7, .arr 3 ((List.replicate (p0.length : Int).toNat zTReaction).length) (fF eTReaction zTReaction (List.replicate (p0.length : Int).toNat zTReaction)) false)] (fun t => lI p0 (aI (And.intro g1.1 (And.intro (List.length_replicate (n := (p0.length : Int).toNat) (a := zTReaction)).symm (Nat.le_trans (Nat.le_of_eq List.length_replicate) g1.2 : (List.replicate (p0.length : Int).toNat zTReaction).length ≤ LIM))) (aI (fF_rep eTReaction zTReaction zTReaction (p0.length : Int).toNat) (t)))) ?_
 refine seq_in ?_
 refine so [] [] [(0, dc 3 eTReaction zTReaction p0), (3, .c (.own 7 3 0 ((List.replicate (p0.length : Int).toNat zTReaction).length))), (4, cI 0)] [(7, .arr 3 ((List.replicate (p0.length : Int).toNat zTReaction).length) (fF eTReaction zTReaction (List.replicate (p0.length : Int).toNat zTReaction)) false)] id ?_
 refine ends_blk ?_
 obtain ⟨y25, h26, H⟩ := ofBind H
 refine loop_in (fun (x : (Int × (List TReaction))) => lit [(0, dc 3 eTReaction zTReaction p0), (3, .c (.own 7 3 0 x.2.length)), (4, cI x.1)] [(7, .arr 3 x.2.length (fF eTReaction zTReaction x.2) false)]) (fun (z : (List TReaction)) => At (.exit 0) (lit [(3, .c (.own 7 3 0 z.length))] [(7, .arr 3 z.length (fF eTReaction zTReaction z) false)])) h26 ?_ ?_
 ·clear H h26
  intro x17 y0 H
  refine seq_in ?_
  refine so [] [] [(0, dc 3 eTReaction zTReaction p0), (3, .c (.own 7 3 0 x17.2.length)), (4, cI x17.1), (11, cB (decide (x17.1 < (p0.length : Int))))] [(7, .arr 3 x17.2.length (fF eTReaction zTReaction x17.2) false)] (fun t => lI p0 (t)) ?_
  rcases ofCond H with ⟨c19, H⟩ | ⟨c19, H⟩
  ·refine it c19 ?_
   refine sk ?_
   refine seq_in ?_
   refine ends_blk ?_
   obtain ⟨v20, h21, H⟩ := ofBind H
   obtain ⟨v22, h23, H⟩ := ofBind H
   obtain ⟨g24, H⟩ := ofIf H
   refine oo [.cs (eTReaction v20), .res (.agg (eTReaction v22)), .no, .fn 0 (fF eTReaction zTReaction (x17.2.set x17.1.toNat v22))] [] [(0, dc 3 eTReaction zTReaction p0), (3, .c (.own 7 3 0 x17.2.length)), (4, cI x17.1)] [(7, .arr 3 x17.2.length (fF eTReaction zTReaction (x17.2.set x17.1.toNat v22)) false)] (fun t => aI (at_lt h21) (aI (at_enc (enc := eTReaction) h21) (aI (l_toReaction_ok v20 v22 h23) (aI g24 (aI (rfl : true = true) (aI (nat_lt g24) (aI (by decide : 0 + 3 ≤ 3) (aI (fF_set eTReaction zTReaction x17.2 x17.1.toNat v22 (nat_lt g24) x17.2.length) (t))))))))) ?_
   change EndsI _ _ _ _ _ _
   refine oo [] [.rel 3 ((x17.2.set x17.1.toNat v22).length), .rep 7 ((x17.2.set x17.1.toNat v22).length) (fF eTReaction zTReaction (x17.2.set x17.1.toNat v22))] [(0, dc 3 eTReaction zTReaction p0), (3, .c (.own 7 3 0 ((x17.2.set x17.1.toNat v22).length))), (4, cI (W (x17.1 + 1)))] [(7, .arr 3 ((x17.2.set x17.1.toNat v22).length) (fF eTReaction zTReaction (x17.2.set x17.1.toNat v22)) false)] (fun t => aI (by simp : x17.2.length = (x17.2.set x17.1.toNat v22).length) (aI (Nat.le_of_eq (by simp : (x17.2.set x17.1.toNat v22).length = x17.2.length)) (aI (fun _ _ => rfl : ∀ i, i < (x17.2.set x17.1.toNat v22).length → (fF eTReaction zTReaction (x17.2.set x17.1.toNat v22)) i = (fF eTReaction zTReaction (x17.2.set x17.1.toNat v22)) i) (t)))) ?_
   cases H
   exact And.intro rfl rfl
  ·refine jf c19 ?_
   refine tl [] [(3, .c (.own 7 3 0 x17.2.length))] [(7, .arr 3 x17.2.length (fF eTReaction zTReaction x17.2) false)] id ?_
   refine ends_exit ?_
   cases H
   exact And.intro (by simp) (And.intro rfl rfl)
 ·clear h26
  intro e s q
  obtain ⟨rfl, rfl⟩ := q
  change EndsI _ _ _ _ _ _
  refine so [] [] [(2, .c (.own 7 3 0 y25.length))] [(7, .arr 3 y25.length (fF eTReaction zTReaction y25) false)] id ?_
  refine tl [.ren 7 900000] [(2, .c (.own 900000 3 0 y25.length))] [(900000, .arr 3 y25.length (fF eTReaction zTReaction y25) false)] id ?_
  refine ends_ret ?_
  cases H
  exact And.intro (.inl rfl) rfl
def l_toUnit_ir : S :=
 (.seq (.ops [o 1 (.box 4 (.t 0)), o 2 (.alloc [.int .i64 0, .int .i64 0, .int .i64 0, .int .i64 0])])
 (.seq (.ops [o 3 (.alloc [.int .i64 0, .int .i64 0, .int .i64 0, .int .i64 0])])
 (.seq (.ops [o 4 (.fad 0 (.t 1)), o 5 (.load 1 false (.t 4)), o 6 (.fad 0 (.t 3)), ⟨none, .store 1 (.t 6) (.t 5), none⟩])
 (.seq (.ops [o 7 (.fad 1 (.t 1)), o 8 (.load 1 false (.t 7)), o 9 (.fad 1 (.t 3)), ⟨none, .store 1 (.t 9) (.t 8), none⟩])
 (.seq (.ops [o 10 (.fad 2 (.t 1)), o 11 (.load 1 false (.t 10)), o 12 (.fad 2 (.t 3)), ⟨none, .store 1 (.t 12) (.t 11), none⟩])
 (.seq (.ops [o 13 (.fad 3 (.t 1)), o 14 (.load 1 false (.t 13)), o 15 (.fad 3 (.t 3)), ⟨none, .store 1 (.t 15) (.t 14), none⟩])
 (.seq (.ops [o 16 (.load 4 true (.t 3)), ⟨none, .store 4 (.t 2) (.t 16), none⟩])
 .ret)))))))
noncomputable def X.l_toUnit (p0 : TUnit) : Option TUnit :=
 some p0
theorem l_toUnit_ok (p0 : TUnit) (r : TUnit) (H : X.l_toUnit p0 = some r) : FnOk Tryz.prog gl 130 [.agg (eTUnit p0)] (.agg (eTUnit r)) := by
 unfold X.l_toUnit at H
 refine fi Tryz.f130 l_toUnit_ir [(2, pk 2)] [(2, va (eTUnit r))] glL Tryz.func130 ?_
 refine so [] [] [(1, pk 1), (2, pk 2)] [(1, va (eTUnit p0)), (2, .var [.int .i64 0, .int .i64 0, .int .i64 0, .int .i64 0] false)] id ?_
 refine so [] [] [(1, pk 1), (2, pk 2), (3, pk 3)] [(1, va (eTUnit p0)), (2, .var [.int .i64 0, .int .i64 0, .int .i64 0, .int .i64 0] false), (3, .var [.int .i64 0, .int .i64 0, .int .i64 0, .int .i64 0] false)] id ?_
 refine so [] [] [(1, pk 1), (2, pk 2), (3, pk 3)] [(1, va (eTUnit p0)), (2, .var [.int .i64 0, .int .i64 0, .int .i64 0, .int .i64 0] false), (3, .var [.int .i64 p0.Side, .int .i64 0, .int .i64 0, .int .i64 0] false)] id ?_
 refine so [] [] [(1, pk 1), (2, pk 2), (3, pk 3)] [(1, va (eTUnit p0)), (2, .var [.int .i64 0, .int .i64 0, .int .i64 0, .int .i64 0] false), (3, .var [.int .i64 p0.Side, .int .i64 p0.Kind, .int .i64 0, .int .i64 0] false)] id ?_
 refine so [] [] [(1, pk 1), (2, pk 2), (3, pk 3)] [(1, va (eTUnit p0)), (2, .var [.int .i64 0, .int .i64 0, .int .i64 0, .int .i64 0] false), (3, .var [.int .i64 p0.Side, .int .i64 p0.Kind, .int .i64 p0.At, .int .i64 0] false)] id ?_
 refine so [] [] [(2, pk 2), (3, pk 3)] [(2, .var [.int .i64 0, .int .i64 0, .int .i64 0, .int .i64 0] false), (3, va (eTUnit p0))] id ?_
 refine so [] [] [(2, pk 2)] [(2, va (eTUnit p0))] id ?_
 refine ends_ret ?_
 cases H
 exact And.intro (.inl rfl) rfl
def l_toUnitS_ir : S :=
 (.seq (.ops [o 2 (.mv (.v (.nil)))])
 (.seq (.ops [o 5 (.mv (.t 0)), o 6 (.len (.t 5)), o 7 (.msl 4 32 [.int .i64 0, .int .i64 0, .int .i64 0, .int .i64 0] (.t 6)), o 3 (.mv (.t 7))])
 (.seq (.seq (.ops [o 4 (.mv (.v (.int .i64 0)))])
 (.blk 0 (.loop (.seq (.seq (.ops [o 8 (.mv (.t 4)), o 9 (.mv (.t 0)), o 10 (.len (.t 9)), o 11 (.bin .lss (.t 8) (.t 10))])
   (.ite (.t 11) .skip
   (.exit 0)))
   (.seq (.blk 1 (.ops [o 14 (.mv (.t 3)), o 15 (.mv (.t 4)), o 16 (.mv (.t 0)), o 17 (.mv (.t 4)), o 18 (.iad 4 (.t 16) (.t 17)), o 19 (.load 4 true (.t 18)), o 20 (.call 130 [.t 19]), o 21 (.iad 4 (.t 14) (.t 15)), ⟨none, .store 4 (.t 21) (.t 20), none⟩]))
   (.ops [o 12 (.mv (.t 4)), o 13 (.bin .add (.t 12) (.v (.int .i64 1))), o 4 (.mv (.t 13))]))))))
 (.seq (.ops [o 22 (.mv (.t 3)), o 2 (.mv (.t 22))])
 .ret))))
noncomputable def X.l_toUnitS (p0 : (List TUnit)) : Option (List TUnit) :=
 (if 0 ≤ (p0.length : Int) ∧ (p0.length : Int).toNat ≤ LIM then ((loop (fun (x17 : (Int × (List TUnit))) => ((bif (decide (x17.1 < (p0.length : Int))) then ((at' zTUnit p0 x17.1).bind fun v20 => ((X.l_toUnit v20).bind fun v22 => (if 0 ≤ x17.1 ∧ x17.1 < (x17.2.length : Int) then some (Sum.inl ((W (x17.1 + 1)), (x17.2.set x17.1.toNat v22))) else none))) else some (Sum.inr x17.2)) : Option ((Int × (List TUnit)) ⊕ (List TUnit)))) (0, (List.replicate (p0.length : Int).toNat zTUnit))).bind fun y25 => some y25) else none)
theorem l_toUnitS_ok (p0 : (List TUnit)) (r : (List TUnit)) (H : X.l_toUnitS p0 = some r) : FnOk Tryz.prog gl 66 [.c (dat 4 eTUnit zTUnit p0)] (.c (dat 4 eTUnit zTUnit r)) := by
 unfold X.l_toUnitS at H
 refine fi Tryz.f66 l_toUnitS_ir [(2, dc 4 eTUnit zTUnit r)] [] glL Tryz.func66 ?_
 refine so [] [] [(0, dc 4 eTUnit zTUnit p0)] [] id ?_
 obtain ⟨g1, H⟩ := ofIf H
 refine so [.fn (List.replicate (p0.length : Int).toNat zTUnit).length (fF eTUnit zTUnit (List.replicate (p0.length : Int).toNat zTUnit))] [] [(0, dc 4 eTUnit zTUnit p0), (3, .c (.own 7 4 0 ((List.replicate (p0.length : Int).toNat zTUnit).length)))] [(7, .arr 4 ((List.replicate (p0.length : Int).toNat zTUnit).length) (fF eTUnit zTUnit (List.replicate (p0.length : Int).toNat zTUnit)) false)] (fun t => lI p0 (aI (And.intro g1.1 (And.intro (List.length_replicate (n := (p0.length : Int).toNat) (a := zTUnit)).symm (Nat.le_trans (Nat.le_of_eq List.length_replicate) g1.2 : (List.replicate (p0.length : Int).toNat zTUnit).length ≤ LIM))) (aI (fF_rep eTUnit zTUnit zTUnit (p0.length : Int).toNat) (t)))) ?_
 refine seq_in ?_
 refine so [] [] [(0, dc 4 eTUnit zTUnit p0), (3, .c (.own 7 4 0 ((List.replicate (p0.length : Int).toNat zTUnit).length))), (4, cI 0)] [(7, .arr 4 ((List.replicate (p0.length : Int).toNat zTUnit).length) (fF eTUnit zTUnit (List.replicate (p0.length : Int).toNat zTUnit)) false)] id ?_
 refine ends_blk ?_
 obtain ⟨y25, h26, H⟩ := ofBind H
 refine loop_in (fun (x : (Int × (List TUnit))) => lit [(0, dc 4 eTUnit zTUnit p0), (3, .c (.own 7 4 0 x.2.length)), (4, cI x.1)] [(7, .arr 4 x.2.length (fF eTUnit zTUnit x.2) false)]) (fun (z : (List TUnit)) => At (.exit 0) (lit [(3, .c (.own 7 4 0 z.length))] [(7, .arr 4 z.length (fF eTUnit zTUnit z) false)])) h26 ?_ ?_
 ·clear H h26
  intro x17 y0 H
  refine seq_in ?_
  refine so [] [] [(0, dc 4 eTUnit zTUnit p0), (3, .c (.own 7 4 0 x17.2.length)), (4, cI x17.1), (11, cB (decide (x17.1 < (p0.length : Int))))] [(7, .arr 4 x17.2.length (fF eTUnit zTUnit x17.2) false)] (fun t => lI p0 (t)) ?_
  rcases ofCond H with ⟨c19, H⟩ | ⟨c19, H⟩
  ·refine it c19 ?_
   refine sk ?_
   refine seq_in ?_
   refine ends_blk ?_
   obtain ⟨v20, h21, H⟩ := ofBind H
   obtain ⟨v22, h23, H⟩ := ofBind H
   obtain ⟨g24, H⟩ := ofIf H
   refine oo [.cs (eTUnit v20), .res (.agg (eTUnit v22)), .no, .fn 0 (fF eTUnit zTUnit (x17.2.set x17.1.toNat v22))] [] [(0, dc 4 eTUnit zTUnit p0), (3, .c (.own 7 4 0 x17.2.length)), (4, cI x17.1)] [(7, .arr 4 x17.2.length (fF eTUnit zTUnit (x17.2.set x17.1.toNat v22)) false)] (fun t => aI (at_lt h21) (aI (at_enc (enc := eTUnit) h21) (aI (l_toUnit_ok v20 v22 h23) (aI g24 (aI (rfl : true = true) (aI (nat_lt g24) (aI (by decide : 0 + 4 ≤ 4) (aI (fF_set eTUnit zTUnit x17.2 x17.1.toNat v22 (nat_lt g24) x17.2.length) (t))))))))) ?_
   change EndsI _ _ _ _ _ _
   refine oo [] [.rel 3 ((x17.2.set x17.1.toNat v22).length), .rep 7 ((x17.2.set x17.1.toNat v22).length) (fF eTUnit zTUnit (x17.2.set x17.1.toNat v22))] [(0, dc 4 eTUnit zTUnit p0), (3, .c (.own 7 4 0 ((x17.2.set x17.1.toNat v22).length))), (4, cI (W (x17.1 + 1)))] [(7, .arr 4 ((x17.2.set x17.1.toNat v22).length) (fF eTUnit zTUnit (x17.2.set x17.1.toNat v22)) false)] (fun t => aI (by simp : x17.2.length = (x17.2.set x17.1.toNat v22).length) (aI (Nat.le_of_eq (by simp : (x17.2.set x17.1.toNat v22).length = x17.2.length)) (aI (fun _ _ => rfl : ∀ i, i < (x17.2.set x17.1.toNat v22).length → (fF eTUnit zTUnit (x17.2.set x17.1.toNat v22)) i = (fF eTUnit zTUnit (x17.2.set x17.1.toNat v22)) i) (t)))) ?_
   cases H
   exact And.intro rfl rfl
  ·refine jf c19 ?_
   refine tl [] [(3, .c (.own 7 4 0 x17.2.length))] [(7, .arr 4 x17.2.length (fF eTUnit zTUnit x17.2) false)] id ?_
   refine ends_exit ?_
   cases H
   exact And.intro (by simp) (And.intro rfl rfl)
 ·clear h26
  intro e s q
  obtain ⟨rfl, rfl⟩ := q
  change EndsI _ _ _ _ _ _
  refine so [] [] [(2, .c (.own 7 4 0 y25.length))] [(7, .arr 4 y25.length (fF eTUnit zTUnit y25) false)] id ?_
  refine tl [.frz 2] [(2, dc 4 eTUnit zTUnit y25)] [] (fun t => aI (Nat.le_refl y25.length) (t)) ?_
  refine ends_ret ?_
  cases H
  exact And.intro (.inl rfl) rfl
def l_toState_ir : S :=
 (.seq (.ops [o 1 (.box 3 (.t 0)), o 2 (.alloc [.int .i64 0, .int .i64 0, .nil])])
 (.seq (.ops [o 3 (.alloc [.int .i64 0, .int .i64 0, .nil])])
 (.seq (.ops [o 4 (.fad 0 (.t 1)), o 5 (.load 1 false (.t 4)), o 6 (.fad 0 (.t 3)), ⟨none, .store 1 (.t 6) (.t 5), none⟩])
 (.seq (.ops [o 7 (.fad 1 (.t 1)), o 8 (.load 1 false (.t 7)), o 9 (.fad 1 (.t 3)), ⟨none, .store 1 (.t 9) (.t 8), none⟩])
 (.seq (.ops [o 10 (.fad 2 (.t 1)), o 11 (.load 1 false (.t 10)), o 12 (.call 66 [.t 11]), o 13 (.fad 2 (.t 3)), ⟨none, .store 1 (.t 13) (.t 12), none⟩])
 (.seq (.ops [o 14 (.load 3 true (.t 3)), ⟨none, .store 3 (.t 2) (.t 14), none⟩])
 .ret))))))
noncomputable def X.l_toState (p0 : TState) : Option TState :=
 ((X.l_toUnitS p0.Units).bind fun v1 => some (TState.mk p0.Turn p0.Weather v1))
theorem l_toState_ok (p0 : TState) (r : TState) (H : X.l_toState p0 = some r) : FnOk Tryz.prog gl 16 [.agg (eTState p0)] (.agg (eTState r)) := by
 unfold X.l_toState at H
 refine fi Tryz.f16 l_toState_ir [(2, pk 2)] [(2, va (eTState r))] glL Tryz.func16 ?_
 refine so [] [] [(1, pk 1), (2, pk 2)] [(1, va (eTState p0)), (2, .var [.int .i64 0, .int .i64 0, .nil] false)] id ?_
 refine so [] [] [(1, pk 1), (2, pk 2), (3, pk 3)] [(1, va (eTState p0)), (2, .var [.int .i64 0, .int .i64 0, .nil] false), (3, .var [.int .i64 0, .int .i64 0, .nil] false)] id ?_
 refine so [] [] [(1, pk 1), (2, pk 2), (3, pk 3)] [(1, va (eTState p0)), (2, .var [.int .i64 0, .int .i64 0, .nil] false), (3, .var [.int .i64 p0.Turn, .int .i64 0, .nil] false)] id ?_
 refine so [] [] [(1, pk 1), (2, pk 2), (3, pk 3)] [(1, va (eTState p0)), (2, .var [.int .i64 0, .int .i64 0, .nil] false), (3, .var [.int .i64 p0.Turn, .int .i64 p0.Weather, .nil] false)] id ?_
 obtain ⟨v1, h2, H⟩ := ofBind H
 refine so [.res (dc 4 eTUnit zTUnit v1)] [] [(2, pk 2), (3, pk 3)] [(2, .var [.int .i64 0, .int .i64 0, .nil] false), (3, .var [.int .i64 p0.Turn, .int .i64 p0.Weather, dat 4 eTUnit zTUnit v1] false)] (fun t => aI (l_toUnitS_ok p0.Units v1 h2) (t)) ?_
 refine so [] [] [(2, pk 2)] [(2, .var [.int .i64 p0.Turn, .int .i64 p0.Weather, dat 4 eTUnit zTUnit v1] false)] id ?_
 refine ends_ret ?_
 cases H
 exact And.intro (.inl rfl) rfl
def l_toFrame_ir : S :=
 (.seq (.ops [o 1 (.box 3 (.t 0)), o 2 (.alloc [.int .i64 0, .int .i64 0, .int .i64 0])])
 (.seq (.ops [o 3 (.alloc [.int .i64 0, .int .i64 0, .int .i64 0])])
 (.seq (.ops [o 4 (.fad 0 (.t 1)), o 5 (.load 1 false (.t 4)), o 6 (.fad 0 (.t 3)), ⟨none, .store 1 (.t 6) (.t 5), none⟩])
 (.seq (.ops [o 7 (.fad 1 (.t 1)), o 8 (.load 1 false (.t 7)), o 9 (.fad 1 (.t 3)), ⟨none, .store 1 (.t 9) (.t 8), none⟩])
 (.seq (.ops [o 10 (.fad 2 (.t 1)), o 11 (.load 1 false (.t 10)), o 12 (.fad 2 (.t 3)), ⟨none, .store 1 (.t 12) (.t 11), none⟩])
 (.seq (.ops [o 13 (.load 3 true (.t 3)), ⟨none, .store 3 (.t 2) (.t 13), none⟩])
 .ret))))))
noncomputable def X.l_toFrame (p0 : TFrame) : Option TFrame :=
 some p0
theorem l_toFrame_ok (p0 : TFrame) (r : TFrame) (H : X.l_toFrame p0 = some r) : FnOk Tryz.prog gl 168 [.agg (eTFrame p0)] (.agg (eTFrame r)) := by
 unfold X.l_toFrame at H
 refine fi Tryz.f168 l_toFrame_ir [(2, pk 2)] [(2, va (eTFrame r))] glL Tryz.func168 ?_
 refine so [] [] [(1, pk 1), (2, pk 2)] [(1, va (eTFrame p0)), (2, .var [.int .i64 0, .int .i64 0, .int .i64 0] false)] id ?_
 refine so [] [] [(1, pk 1), (2, pk 2), (3, pk 3)] [(1, va (eTFrame p0)), (2, .var [.int .i64 0, .int .i64 0, .int .i64 0] false), (3, .var [.int .i64 0, .int .i64 0, .int .i64 0] false)] id ?_
 refine so [] [] [(1, pk 1), (2, pk 2), (3, pk 3)] [(1, va (eTFrame p0)), (2, .var [.int .i64 0, .int .i64 0, .int .i64 0] false), (3, .var [.int .i64 p0.Unit, .int .i64 0, .int .i64 0] false)] id ?_
 refine so [] [] [(1, pk 1), (2, pk 2), (3, pk 3)] [(1, va (eTFrame p0)), (2, .var [.int .i64 0, .int .i64 0, .int .i64 0] false), (3, .var [.int .i64 p0.Unit, .int .i64 p0.At, .int .i64 0] false)] id ?_
 refine so [] [] [(2, pk 2), (3, pk 3)] [(2, .var [.int .i64 0, .int .i64 0, .int .i64 0] false), (3, va (eTFrame p0))] id ?_
 refine so [] [] [(2, pk 2)] [(2, va (eTFrame p0))] id ?_
 refine ends_ret ?_
 cases H
 exact And.intro (.inl rfl) rfl
def l_toFrameS_ir : S :=
 (.seq (.ops [o 2 (.mv (.v (.nil)))])
 (.seq (.ops [o 5 (.mv (.t 0)), o 6 (.len (.t 5)), o 7 (.msl 3 24 [.int .i64 0, .int .i64 0, .int .i64 0] (.t 6)), o 3 (.mv (.t 7))])
 (.seq (.seq (.ops [o 4 (.mv (.v (.int .i64 0)))])
 (.blk 0 (.loop (.seq (.seq (.ops [o 8 (.mv (.t 4)), o 9 (.mv (.t 0)), o 10 (.len (.t 9)), o 11 (.bin .lss (.t 8) (.t 10))])
   (.ite (.t 11) .skip
   (.exit 0)))
   (.seq (.blk 1 (.ops [o 14 (.mv (.t 3)), o 15 (.mv (.t 4)), o 16 (.mv (.t 0)), o 17 (.mv (.t 4)), o 18 (.iad 3 (.t 16) (.t 17)), o 19 (.load 3 true (.t 18)), o 20 (.call 168 [.t 19]), o 21 (.iad 3 (.t 14) (.t 15)), ⟨none, .store 3 (.t 21) (.t 20), none⟩]))
   (.ops [o 12 (.mv (.t 4)), o 13 (.bin .add (.t 12) (.v (.int .i64 1))), o 4 (.mv (.t 13))]))))))
 (.seq (.ops [o 22 (.mv (.t 3)), o 2 (.mv (.t 22))])
 .ret))))
noncomputable def X.l_toFrameS (p0 : (List TFrame)) : Option (List TFrame) :=
 (if 0 ≤ (p0.length : Int) ∧ (p0.length : Int).toNat ≤ LIM then ((loop (fun (x17 : (Int × (List TFrame))) => ((bif (decide (x17.1 < (p0.length : Int))) then ((at' zTFrame p0 x17.1).bind fun v20 => ((X.l_toFrame v20).bind fun v22 => (if 0 ≤ x17.1 ∧ x17.1 < (x17.2.length : Int) then some (Sum.inl ((W (x17.1 + 1)), (x17.2.set x17.1.toNat v22))) else none))) else some (Sum.inr x17.2)) : Option ((Int × (List TFrame)) ⊕ (List TFrame)))) (0, (List.replicate (p0.length : Int).toNat zTFrame))).bind fun y25 => some y25) else none)
theorem l_toFrameS_ok (p0 : (List TFrame)) (r : (List TFrame)) (H : X.l_toFrameS p0 = some r) : FnOk Tryz.prog gl 108 [.c (dat 3 eTFrame zTFrame p0)] (.c (dat 3 eTFrame zTFrame r)) := by
 unfold X.l_toFrameS at H
 refine fi Tryz.f108 l_toFrameS_ir [(2, dc 3 eTFrame zTFrame r)] [] glL Tryz.func108 ?_
 refine so [] [] [(0, dc 3 eTFrame zTFrame p0)] [] id ?_
 obtain ⟨g1, H⟩ := ofIf H
 refine so [.fn (List.replicate (p0.length : Int).toNat zTFrame).length (fF eTFrame zTFrame (List.replicate (p0.length : Int).toNat zTFrame))] [] [(0, dc 3 eTFrame zTFrame p0), (3, .c (.own 7 3 0 ((List.replicate (p0.length : Int).toNat zTFrame).length)))] [(7, .arr 3 ((List.replicate (p0.length : Int).toNat zTFrame).length) (fF eTFrame zTFrame (List.replicate (p0.length : Int).toNat zTFrame)) false)] (fun t => lI p0 (aI (And.intro g1.1 (And.intro (List.length_replicate (n := (p0.length : Int).toNat) (a := zTFrame)).symm (Nat.le_trans (Nat.le_of_eq List.length_replicate) g1.2 : (List.replicate (p0.length : Int).toNat zTFrame).length ≤ LIM))) (aI (fF_rep eTFrame zTFrame zTFrame (p0.length : Int).toNat) (t)))) ?_
 refine seq_in ?_
 refine so [] [] [(0, dc 3 eTFrame zTFrame p0), (3, .c (.own 7 3 0 ((List.replicate (p0.length : Int).toNat zTFrame).length))), (4, cI 0)] [(7, .arr 3 ((List.replicate (p0.length : Int).toNat zTFrame).length) (fF eTFrame zTFrame (List.replicate (p0.length : Int).toNat zTFrame)) false)] id ?_
 refine ends_blk ?_
 obtain ⟨y25, h26, H⟩ := ofBind H
 refine loop_in (fun (x : (Int × (List TFrame))) => lit [(0, dc 3 eTFrame zTFrame p0), (3, .c (.own 7 3 0 x.2.length)), (4, cI x.1)] [(7, .arr 3 x.2.length (fF eTFrame zTFrame x.2) false)]) (fun (z : (List TFrame)) => At (.exit 0) (lit [(3, .c (.own 7 3 0 z.length))] [(7, .arr 3 z.length (fF eTFrame zTFrame z) false)])) h26 ?_ ?_
 ·clear H h26
  intro x17 y0 H
  refine seq_in ?_
  refine so [] [] [(0, dc 3 eTFrame zTFrame p0), (3, .c (.own 7 3 0 x17.2.length)), (4, cI x17.1), (11, cB (decide (x17.1 < (p0.length : Int))))] [(7, .arr 3 x17.2.length (fF eTFrame zTFrame x17.2) false)] (fun t => lI p0 (t)) ?_
  rcases ofCond H with ⟨c19, H⟩ | ⟨c19, H⟩
  ·refine it c19 ?_
   refine sk ?_
   refine seq_in ?_
   refine ends_blk ?_
   obtain ⟨v20, h21, H⟩ := ofBind H
   obtain ⟨v22, h23, H⟩ := ofBind H
   obtain ⟨g24, H⟩ := ofIf H
   refine oo [.cs (eTFrame v20), .res (.agg (eTFrame v22)), .no, .fn 0 (fF eTFrame zTFrame (x17.2.set x17.1.toNat v22))] [] [(0, dc 3 eTFrame zTFrame p0), (3, .c (.own 7 3 0 x17.2.length)), (4, cI x17.1)] [(7, .arr 3 x17.2.length (fF eTFrame zTFrame (x17.2.set x17.1.toNat v22)) false)] (fun t => aI (at_lt h21) (aI (at_enc (enc := eTFrame) h21) (aI (l_toFrame_ok v20 v22 h23) (aI g24 (aI (rfl : true = true) (aI (nat_lt g24) (aI (by decide : 0 + 3 ≤ 3) (aI (fF_set eTFrame zTFrame x17.2 x17.1.toNat v22 (nat_lt g24) x17.2.length) (t))))))))) ?_
   change EndsI _ _ _ _ _ _
   refine oo [] [.rel 3 ((x17.2.set x17.1.toNat v22).length), .rep 7 ((x17.2.set x17.1.toNat v22).length) (fF eTFrame zTFrame (x17.2.set x17.1.toNat v22))] [(0, dc 3 eTFrame zTFrame p0), (3, .c (.own 7 3 0 ((x17.2.set x17.1.toNat v22).length))), (4, cI (W (x17.1 + 1)))] [(7, .arr 3 ((x17.2.set x17.1.toNat v22).length) (fF eTFrame zTFrame (x17.2.set x17.1.toNat v22)) false)] (fun t => aI (by simp : x17.2.length = (x17.2.set x17.1.toNat v22).length) (aI (Nat.le_of_eq (by simp : (x17.2.set x17.1.toNat v22).length = x17.2.length)) (aI (fun _ _ => rfl : ∀ i, i < (x17.2.set x17.1.toNat v22).length → (fF eTFrame zTFrame (x17.2.set x17.1.toNat v22)) i = (fF eTFrame zTFrame (x17.2.set x17.1.toNat v22)) i) (t)))) ?_
   cases H
   exact And.intro rfl rfl
  ·refine jf c19 ?_
   refine tl [] [(3, .c (.own 7 3 0 x17.2.length))] [(7, .arr 3 x17.2.length (fF eTFrame zTFrame x17.2) false)] id ?_
   refine ends_exit ?_
   cases H
   exact And.intro (by simp) (And.intro rfl rfl)
 ·clear h26
  intro e s q
  obtain ⟨rfl, rfl⟩ := q
  change EndsI _ _ _ _ _ _
  refine so [] [] [(2, .c (.own 7 3 0 y25.length))] [(7, .arr 3 y25.length (fF eTFrame zTFrame y25) false)] id ?_
  refine tl [.frz 2] [(2, dc 3 eTFrame zTFrame y25)] [] (fun t => aI (Nat.le_refl y25.length) (t)) ?_
  refine ends_ret ?_
  cases H
  exact And.intro (.inl rfl) rfl
def l_toMachine_ir : S :=
 (.seq (.ops [o 1 (.box 6 (.t 0)), o 2 (.alloc [.nil, .nil, .int .i64 0, .int .i64 0, .nil, .nil])])
 (.seq (.ops [o 3 (.alloc [.nil, .nil, .int .i64 0, .int .i64 0, .nil, .nil])])
 (.seq (.ops [o 4 (.fad 0 (.t 1)), o 5 (.load 1 false (.t 4)), o 6 (.call 108 [.t 5]), o 7 (.fad 0 (.t 3)), ⟨none, .store 1 (.t 7) (.t 6), none⟩])
 (.seq (.ops [o 8 (.fad 1 (.t 1)), o 9 (.load 1 false (.t 8)), o 10 (.call 82 [.t 9]), o 11 (.fad 1 (.t 3)), ⟨none, .store 1 (.t 11) (.t 10), none⟩])
 (.seq (.ops [o 12 (.fad 2 (.t 1)), o 13 (.load 3 true (.t 12)), o 14 (.call 16 [.t 13]), o 15 (.fad 2 (.t 3)), ⟨none, .store 3 (.t 15) (.t 14), none⟩])
 (.seq (.ops [o 16 (.fad 5 (.t 1)), o 17 (.load 1 false (.t 16)), o 18 (.call 82 [.t 17]), o 19 (.fad 5 (.t 3)), ⟨none, .store 1 (.t 19) (.t 18), none⟩])
 (.seq (.ops [o 20 (.load 6 true (.t 3)), ⟨none, .store 6 (.t 2) (.t 20), none⟩])
 .ret)))))))
noncomputable def X.l_toMachine (p0 : TMachine) : Option TMachine :=
 ((X.l_toFrameS p0.Stack).bind fun v1 => ((X.l_toIntS p0.Used).bind fun v3 => ((X.l_toState p0.State).bind fun v5 => ((X.l_toIntS p0.Log).bind fun v7 => some (TMachine.mk v1 v3 v5 v7)))))
theorem l_toMachine_ok (p0 : TMachine) (r : TMachine) (H : X.l_toMachine p0 = some r) : FnOk Tryz.prog gl 45 [.agg (eTMachine p0)] (.agg (eTMachine r)) := by
 unfold X.l_toMachine at H
 refine fi Tryz.f45 l_toMachine_ir [(2, pk 2)] [(2, va (eTMachine r))] glL Tryz.func45 ?_
 refine so [] [] [(1, pk 1), (2, pk 2)] [(1, va (eTMachine p0)), (2, .var [.nil, .nil, .int .i64 0, .int .i64 0, .nil, .nil] false)] id ?_
 refine so [] [] [(1, pk 1), (2, pk 2), (3, pk 3)] [(1, va (eTMachine p0)), (2, .var [.nil, .nil, .int .i64 0, .int .i64 0, .nil, .nil] false), (3, .var [.nil, .nil, .int .i64 0, .int .i64 0, .nil, .nil] false)] id ?_
 obtain ⟨v1, h2, H⟩ := ofBind H
 refine so [.res (dc 3 eTFrame zTFrame v1)] [] [(1, pk 1), (2, pk 2), (3, pk 3)] [(1, va (eTMachine p0)), (2, .var [.nil, .nil, .int .i64 0, .int .i64 0, .nil, .nil] false), (3, .var [dat 3 eTFrame zTFrame v1, .nil, .int .i64 0, .int .i64 0, .nil, .nil] false)] (fun t => aI (l_toFrameS_ok p0.Stack v1 h2) (t)) ?_
 obtain ⟨v3, h4, H⟩ := ofBind H
 refine so [.res (dc 1 eI zI v3)] [] [(1, pk 1), (2, pk 2), (3, pk 3)] [(1, va (eTMachine p0)), (2, .var [.nil, .nil, .int .i64 0, .int .i64 0, .nil, .nil] false), (3, .var [dat 3 eTFrame zTFrame v1, dat 1 eI zI v3, .int .i64 0, .int .i64 0, .nil, .nil] false)] (fun t => aI (l_toIntS_ok p0.Used v3 h4) (t)) ?_
 obtain ⟨v5, h6, H⟩ := ofBind H
 refine so [.res (.agg (eTState v5))] [] [(1, pk 1), (2, pk 2), (3, pk 3)] [(1, va (eTMachine p0)), (2, .var [.nil, .nil, .int .i64 0, .int .i64 0, .nil, .nil] false), (3, .var [dat 3 eTFrame zTFrame v1, dat 1 eI zI v3, .int .i64 v5.Turn, .int .i64 v5.Weather, dat 4 eTUnit zTUnit v5.Units, .nil] false)] (fun t => aI (l_toState_ok p0.State v5 h6) (t)) ?_
 obtain ⟨v7, h8, H⟩ := ofBind H
 refine so [.res (dc 1 eI zI v7)] [] [(2, pk 2), (3, pk 3)] [(2, .var [.nil, .nil, .int .i64 0, .int .i64 0, .nil, .nil] false), (3, .var [dat 3 eTFrame zTFrame v1, dat 1 eI zI v3, .int .i64 v5.Turn, .int .i64 v5.Weather, dat 4 eTUnit zTUnit v5.Units, dat 1 eI zI v7] false)] (fun t => aI (l_toIntS_ok p0.Log v7 h8) (t)) ?_
 refine so [] [] [(2, pk 2)] [(2, .var [dat 3 eTFrame zTFrame v1, dat 1 eI zI v3, .int .i64 v5.Turn, .int .i64 v5.Weather, dat 4 eTUnit zTUnit v5.Units, dat 1 eI zI v7] false)] id ?_
 refine ends_ret ?_
 cases H
 exact And.intro (.inl rfl) rfl
theorem l_toUnitS_F_ok (p0 : (List TUnit)) (r : (List TUnit)) (H : X.l_toUnitS p0 = some r) : FnOk Tryz.prog gl 66 [.c (dat 4 eTUnit zTUnit p0)] (.c (.fr (dat 4 eTUnit zTUnit r))) := by
 unfold X.l_toUnitS at H
 refine fn_fr (fn := Tryz.f66) (ir := l_toUnitS_ir) (s1 := lit [(2, .c (.own 900000 4 0 r.length))] [(900000, .arr 4 r.length (fF eTUnit zTUnit r) false)]) (res0 := .c (.own 900000 4 0 r.length)) glL Tryz.func66 (by kernel_rfl) (by kernel_rfl) (by kernel_rfl) (by kernel_rfl) (FrTo.own rfl (Nat.le_refl _) (fun i _ => ⟨rfl, rfl⟩)) ?_
 refine so [] [] [(0, dc 4 eTUnit zTUnit p0)] [] id ?_
 obtain ⟨g1, H⟩ := ofIf H
 refine so [.fn (List.replicate (p0.length : Int).toNat zTUnit).length (fF eTUnit zTUnit (List.replicate (p0.length : Int).toNat zTUnit))] [] [(0, dc 4 eTUnit zTUnit p0), (3, .c (.own 7 4 0 ((List.replicate (p0.length : Int).toNat zTUnit).length)))] [(7, .arr 4 ((List.replicate (p0.length : Int).toNat zTUnit).length) (fF eTUnit zTUnit (List.replicate (p0.length : Int).toNat zTUnit)) false)] (fun t => lI p0 (aI (And.intro g1.1 (And.intro (List.length_replicate (n := (p0.length : Int).toNat) (a := zTUnit)).symm (Nat.le_trans (Nat.le_of_eq List.length_replicate) g1.2 : (List.replicate (p0.length : Int).toNat zTUnit).length ≤ LIM))) (aI (fF_rep eTUnit zTUnit zTUnit (p0.length : Int).toNat) (t)))) ?_
 refine seq_in ?_
 refine so [] [] [(0, dc 4 eTUnit zTUnit p0), (3, .c (.own 7 4 0 ((List.replicate (p0.length : Int).toNat zTUnit).length))), (4, cI 0)] [(7, .arr 4 ((List.replicate (p0.length : Int).toNat zTUnit).length) (fF eTUnit zTUnit (List.replicate (p0.length : Int).toNat zTUnit)) false)] id ?_
 refine ends_blk ?_
 obtain ⟨y25, h26, H⟩ := ofBind H
 refine loop_in (fun (x : (Int × (List TUnit))) => lit [(0, dc 4 eTUnit zTUnit p0), (3, .c (.own 7 4 0 x.2.length)), (4, cI x.1)] [(7, .arr 4 x.2.length (fF eTUnit zTUnit x.2) false)]) (fun (z : (List TUnit)) => At (.exit 0) (lit [(3, .c (.own 7 4 0 z.length))] [(7, .arr 4 z.length (fF eTUnit zTUnit z) false)])) h26 ?_ ?_
 ·clear H h26
  intro x17 y0 H
  refine seq_in ?_
  refine so [] [] [(0, dc 4 eTUnit zTUnit p0), (3, .c (.own 7 4 0 x17.2.length)), (4, cI x17.1), (11, cB (decide (x17.1 < (p0.length : Int))))] [(7, .arr 4 x17.2.length (fF eTUnit zTUnit x17.2) false)] (fun t => lI p0 (t)) ?_
  rcases ofCond H with ⟨c19, H⟩ | ⟨c19, H⟩
  ·refine it c19 ?_
   refine sk ?_
   refine seq_in ?_
   refine ends_blk ?_
   obtain ⟨v20, h21, H⟩ := ofBind H
   obtain ⟨v22, h23, H⟩ := ofBind H
   obtain ⟨g24, H⟩ := ofIf H
   refine oo [.cs (eTUnit v20), .res (.agg (eTUnit v22)), .no, .fn 0 (fF eTUnit zTUnit (x17.2.set x17.1.toNat v22))] [] [(0, dc 4 eTUnit zTUnit p0), (3, .c (.own 7 4 0 x17.2.length)), (4, cI x17.1)] [(7, .arr 4 x17.2.length (fF eTUnit zTUnit (x17.2.set x17.1.toNat v22)) false)] (fun t => aI (at_lt h21) (aI (at_enc (enc := eTUnit) h21) (aI (l_toUnit_ok v20 v22 h23) (aI g24 (aI (rfl : true = true) (aI (nat_lt g24) (aI (by decide : 0 + 4 ≤ 4) (aI (fF_set eTUnit zTUnit x17.2 x17.1.toNat v22 (nat_lt g24) x17.2.length) (t))))))))) ?_
   change EndsI _ _ _ _ _ _
   refine oo [] [.rel 3 ((x17.2.set x17.1.toNat v22).length), .rep 7 ((x17.2.set x17.1.toNat v22).length) (fF eTUnit zTUnit (x17.2.set x17.1.toNat v22))] [(0, dc 4 eTUnit zTUnit p0), (3, .c (.own 7 4 0 ((x17.2.set x17.1.toNat v22).length))), (4, cI (W (x17.1 + 1)))] [(7, .arr 4 ((x17.2.set x17.1.toNat v22).length) (fF eTUnit zTUnit (x17.2.set x17.1.toNat v22)) false)] (fun t => aI (by simp : x17.2.length = (x17.2.set x17.1.toNat v22).length) (aI (Nat.le_of_eq (by simp : (x17.2.set x17.1.toNat v22).length = x17.2.length)) (aI (fun _ _ => rfl : ∀ i, i < (x17.2.set x17.1.toNat v22).length → (fF eTUnit zTUnit (x17.2.set x17.1.toNat v22)) i = (fF eTUnit zTUnit (x17.2.set x17.1.toNat v22)) i) (t)))) ?_
   cases H
   exact And.intro rfl rfl
  ·refine jf c19 ?_
   refine tl [] [(3, .c (.own 7 4 0 x17.2.length))] [(7, .arr 4 x17.2.length (fF eTUnit zTUnit x17.2) false)] id ?_
   refine ends_exit ?_
   cases H
   exact And.intro (by simp) (And.intro rfl rfl)
 ·clear h26
  intro e s q
  obtain ⟨rfl, rfl⟩ := q
  change EndsI _ _ _ _ _ _
  refine so [] [] [(2, .c (.own 7 4 0 y25.length))] [(7, .arr 4 y25.length (fF eTUnit zTUnit y25) false)] id ?_
  refine tl [.ren 7 900000] [(2, .c (.own 900000 4 0 y25.length))] [(900000, .arr 4 y25.length (fF eTUnit zTUnit y25) false)] id ?_
  refine ends_ret ?_
  cases H
  exact And.intro (.inl rfl) rfl
theorem l_toState_F_ok (p0 : TState) (r : TState) (H : X.l_toState p0 = some r) : FnOk Tryz.prog gl 16 [.agg (eTState p0)] (.agg [.int .i64 r.Turn, .int .i64 r.Weather, .fr (dat 4 eTUnit zTUnit r.Units)]) := by
 unfold X.l_toState at H
 refine fn_fr (fn := Tryz.f16) (ir := l_toState_ir) (s1 := lit [(2, pk 2)] [(2, .var [.int .i64 r.Turn, .int .i64 r.Weather, .fr (dat 4 eTUnit zTUnit r.Units)] false)]) (res0 := .agg [.int .i64 r.Turn, .int .i64 r.Weather, .fr (dat 4 eTUnit zTUnit r.Units)]) glL Tryz.func16 (by kernel_rfl) (by kernel_rfl) (by kernel_rfl) (by kernel_rfl) ((And.intro ((.inl ⟨rfl, rfl⟩)) (And.intro ((.inl ⟨rfl, rfl⟩)) (And.intro ((.inl ⟨rfl, rfl⟩)) trivial)))) ?_
 refine so [] [] [(1, pk 1), (2, pk 2)] [(1, va (eTState p0)), (2, .var [.int .i64 0, .int .i64 0, .nil] false)] id ?_
 refine so [] [] [(1, pk 1), (2, pk 2), (3, pk 3)] [(1, va (eTState p0)), (2, .var [.int .i64 0, .int .i64 0, .nil] false), (3, .var [.int .i64 0, .int .i64 0, .nil] false)] id ?_
 refine so [] [] [(1, pk 1), (2, pk 2), (3, pk 3)] [(1, va (eTState p0)), (2, .var [.int .i64 0, .int .i64 0, .nil] false), (3, .var [.int .i64 p0.Turn, .int .i64 0, .nil] false)] id ?_
 refine so [] [] [(1, pk 1), (2, pk 2), (3, pk 3)] [(1, va (eTState p0)), (2, .var [.int .i64 0, .int .i64 0, .nil] false), (3, .var [.int .i64 p0.Turn, .int .i64 p0.Weather, .nil] false)] id ?_
 obtain ⟨v1, h2, H⟩ := ofBind H
 refine so [.res (.c (.fr (dat 4 eTUnit zTUnit v1)))] [] [(2, pk 2), (3, pk 3)] [(2, .var [.int .i64 0, .int .i64 0, .nil] false), (3, .var [.int .i64 p0.Turn, .int .i64 p0.Weather, .fr (dat 4 eTUnit zTUnit v1)] false)] (fun t => aI (l_toUnitS_F_ok p0.Units v1 h2) (t)) ?_
 refine so [] [] [(2, pk 2)] [(2, .var [.int .i64 p0.Turn, .int .i64 p0.Weather, .fr (dat 4 eTUnit zTUnit v1)] false)] id ?_
 refine ends_ret ?_
 cases H
 exact And.intro (.inl rfl) rfl
theorem l_toFrameS_F_ok (p0 : (List TFrame)) (r : (List TFrame)) (H : X.l_toFrameS p0 = some r) : FnOk Tryz.prog gl 108 [.c (dat 3 eTFrame zTFrame p0)] (.c (.fr (dat 3 eTFrame zTFrame r))) := by
 unfold X.l_toFrameS at H
 refine fn_fr (fn := Tryz.f108) (ir := l_toFrameS_ir) (s1 := lit [(2, .c (.own 900000 3 0 r.length))] [(900000, .arr 3 r.length (fF eTFrame zTFrame r) false)]) (res0 := .c (.own 900000 3 0 r.length)) glL Tryz.func108 (by kernel_rfl) (by kernel_rfl) (by kernel_rfl) (by kernel_rfl) (FrTo.own rfl (Nat.le_refl _) (fun i _ => ⟨rfl, rfl⟩)) ?_
 refine so [] [] [(0, dc 3 eTFrame zTFrame p0)] [] id ?_
 obtain ⟨g1, H⟩ := ofIf H
 refine so [.fn (List.replicate (p0.length : Int).toNat zTFrame).length (fF eTFrame zTFrame (List.replicate (p0.length : Int).toNat zTFrame))] [] [(0, dc 3 eTFrame zTFrame p0), (3, .c (.own 7 3 0 ((List.replicate (p0.length : Int).toNat zTFrame).length)))] [(7, .arr 3 ((List.replicate (p0.length : Int).toNat zTFrame).length) (fF eTFrame zTFrame (List.replicate (p0.length : Int).toNat zTFrame)) false)] (fun t => lI p0 (aI (And.intro g1.1 (And.intro (List.length_replicate (n := (p0.length : Int).toNat) (a := zTFrame)).symm (Nat.le_trans (Nat.le_of_eq List.length_replicate) g1.2 : (List.replicate (p0.length : Int).toNat zTFrame).length ≤ LIM))) (aI (fF_rep eTFrame zTFrame zTFrame (p0.length : Int).toNat) (t)))) ?_
 refine seq_in ?_
 refine so [] [] [(0, dc 3 eTFrame zTFrame p0), (3, .c (.own 7 3 0 ((List.replicate (p0.length : Int).toNat zTFrame).length))), (4, cI 0)] [(7, .arr 3 ((List.replicate (p0.length : Int).toNat zTFrame).length) (fF eTFrame zTFrame (List.replicate (p0.length : Int).toNat zTFrame)) false)] id ?_
 refine ends_blk ?_
 obtain ⟨y25, h26, H⟩ := ofBind H
 refine loop_in (fun (x : (Int × (List TFrame))) => lit [(0, dc 3 eTFrame zTFrame p0), (3, .c (.own 7 3 0 x.2.length)), (4, cI x.1)] [(7, .arr 3 x.2.length (fF eTFrame zTFrame x.2) false)]) (fun (z : (List TFrame)) => At (.exit 0) (lit [(3, .c (.own 7 3 0 z.length))] [(7, .arr 3 z.length (fF eTFrame zTFrame z) false)])) h26 ?_ ?_
 ·clear H h26
  intro x17 y0 H
  refine seq_in ?_
  refine so [] [] [(0, dc 3 eTFrame zTFrame p0), (3, .c (.own 7 3 0 x17.2.length)), (4, cI x17.1), (11, cB (decide (x17.1 < (p0.length : Int))))] [(7, .arr 3 x17.2.length (fF eTFrame zTFrame x17.2) false)] (fun t => lI p0 (t)) ?_
  rcases ofCond H with ⟨c19, H⟩ | ⟨c19, H⟩
  ·refine it c19 ?_
   refine sk ?_
   refine seq_in ?_
   refine ends_blk ?_
   obtain ⟨v20, h21, H⟩ := ofBind H
   obtain ⟨v22, h23, H⟩ := ofBind H
   obtain ⟨g24, H⟩ := ofIf H
   refine oo [.cs (eTFrame v20), .res (.agg (eTFrame v22)), .no, .fn 0 (fF eTFrame zTFrame (x17.2.set x17.1.toNat v22))] [] [(0, dc 3 eTFrame zTFrame p0), (3, .c (.own 7 3 0 x17.2.length)), (4, cI x17.1)] [(7, .arr 3 x17.2.length (fF eTFrame zTFrame (x17.2.set x17.1.toNat v22)) false)] (fun t => aI (at_lt h21) (aI (at_enc (enc := eTFrame) h21) (aI (l_toFrame_ok v20 v22 h23) (aI g24 (aI (rfl : true = true) (aI (nat_lt g24) (aI (by decide : 0 + 3 ≤ 3) (aI (fF_set eTFrame zTFrame x17.2 x17.1.toNat v22 (nat_lt g24) x17.2.length) (t))))))))) ?_
   change EndsI _ _ _ _ _ _
   refine oo [] [.rel 3 ((x17.2.set x17.1.toNat v22).length), .rep 7 ((x17.2.set x17.1.toNat v22).length) (fF eTFrame zTFrame (x17.2.set x17.1.toNat v22))] [(0, dc 3 eTFrame zTFrame p0), (3, .c (.own 7 3 0 ((x17.2.set x17.1.toNat v22).length))), (4, cI (W (x17.1 + 1)))] [(7, .arr 3 ((x17.2.set x17.1.toNat v22).length) (fF eTFrame zTFrame (x17.2.set x17.1.toNat v22)) false)] (fun t => aI (by simp : x17.2.length = (x17.2.set x17.1.toNat v22).length) (aI (Nat.le_of_eq (by simp : (x17.2.set x17.1.toNat v22).length = x17.2.length)) (aI (fun _ _ => rfl : ∀ i, i < (x17.2.set x17.1.toNat v22).length → (fF eTFrame zTFrame (x17.2.set x17.1.toNat v22)) i = (fF eTFrame zTFrame (x17.2.set x17.1.toNat v22)) i) (t)))) ?_
   cases H
   exact And.intro rfl rfl
  ·refine jf c19 ?_
   refine tl [] [(3, .c (.own 7 3 0 x17.2.length))] [(7, .arr 3 x17.2.length (fF eTFrame zTFrame x17.2) false)] id ?_
   refine ends_exit ?_
   cases H
   exact And.intro (by simp) (And.intro rfl rfl)
 ·clear h26
  intro e s q
  obtain ⟨rfl, rfl⟩ := q
  change EndsI _ _ _ _ _ _
  refine so [] [] [(2, .c (.own 7 3 0 y25.length))] [(7, .arr 3 y25.length (fF eTFrame zTFrame y25) false)] id ?_
  refine tl [.ren 7 900000] [(2, .c (.own 900000 3 0 y25.length))] [(900000, .arr 3 y25.length (fF eTFrame zTFrame y25) false)] id ?_
  refine ends_ret ?_
  cases H
  exact And.intro (.inl rfl) rfl
theorem l_toMachine_F_ok (p0 : TMachine) (r : TMachine) (H : X.l_toMachine p0 = some r) : FnOk Tryz.prog gl 45 [.agg (eTMachine p0)] (.agg [.fr (dat 3 eTFrame zTFrame r.Stack), .fr (dat 1 eI zI r.Used), .int .i64 r.State.Turn, .int .i64 r.State.Weather, .fr (dat 4 eTUnit zTUnit r.State.Units), .fr (dat 1 eI zI r.Log)]) := by
 unfold X.l_toMachine at H
 refine fn_fr (fn := Tryz.f45) (ir := l_toMachine_ir) (s1 := lit [(2, pk 2)] [(2, .var [.fr (dat 3 eTFrame zTFrame r.Stack), .fr (dat 1 eI zI r.Used), .int .i64 r.State.Turn, .int .i64 r.State.Weather, .fr (dat 4 eTUnit zTUnit r.State.Units), .fr (dat 1 eI zI r.Log)] false)]) (res0 := .agg [.fr (dat 3 eTFrame zTFrame r.Stack), .fr (dat 1 eI zI r.Used), .int .i64 r.State.Turn, .int .i64 r.State.Weather, .fr (dat 4 eTUnit zTUnit r.State.Units), .fr (dat 1 eI zI r.Log)]) glL Tryz.func45 (by kernel_rfl) (by kernel_rfl) (by kernel_rfl) (by kernel_rfl) ((And.intro ((.inl ⟨rfl, rfl⟩)) (And.intro ((.inl ⟨rfl, rfl⟩)) (And.intro ((.inl ⟨rfl, rfl⟩)) (And.intro ((.inl ⟨rfl, rfl⟩)) (And.intro ((.inl ⟨rfl, rfl⟩)) (And.intro ((.inl ⟨rfl, rfl⟩)) trivial))))))) ?_
 refine so [] [] [(1, pk 1), (2, pk 2)] [(1, va (eTMachine p0)), (2, .var [.nil, .nil, .int .i64 0, .int .i64 0, .nil, .nil] false)] id ?_
 refine so [] [] [(1, pk 1), (2, pk 2), (3, pk 3)] [(1, va (eTMachine p0)), (2, .var [.nil, .nil, .int .i64 0, .int .i64 0, .nil, .nil] false), (3, .var [.nil, .nil, .int .i64 0, .int .i64 0, .nil, .nil] false)] id ?_
 obtain ⟨v1, h2, H⟩ := ofBind H
 refine so [.res (.c (.fr (dat 3 eTFrame zTFrame v1)))] [] [(1, pk 1), (2, pk 2), (3, pk 3)] [(1, va (eTMachine p0)), (2, .var [.nil, .nil, .int .i64 0, .int .i64 0, .nil, .nil] false), (3, .var [.fr (dat 3 eTFrame zTFrame v1), .nil, .int .i64 0, .int .i64 0, .nil, .nil] false)] (fun t => aI (l_toFrameS_F_ok p0.Stack v1 h2) (t)) ?_
 obtain ⟨v3, h4, H⟩ := ofBind H
 refine so [.res (.c (.fr (dat 1 eI zI v3)))] [] [(1, pk 1), (2, pk 2), (3, pk 3)] [(1, va (eTMachine p0)), (2, .var [.nil, .nil, .int .i64 0, .int .i64 0, .nil, .nil] false), (3, .var [.fr (dat 3 eTFrame zTFrame v1), .fr (dat 1 eI zI v3), .int .i64 0, .int .i64 0, .nil, .nil] false)] (fun t => aI (l_toIntS_F_ok p0.Used v3 h4) (t)) ?_
 obtain ⟨v5, h6, H⟩ := ofBind H
 refine so [.res (.agg [.int .i64 v5.Turn, .int .i64 v5.Weather, .fr (dat 4 eTUnit zTUnit v5.Units)])] [] [(1, pk 1), (2, pk 2), (3, pk 3)] [(1, va (eTMachine p0)), (2, .var [.nil, .nil, .int .i64 0, .int .i64 0, .nil, .nil] false), (3, .var [.fr (dat 3 eTFrame zTFrame v1), .fr (dat 1 eI zI v3), .int .i64 v5.Turn, .int .i64 v5.Weather, .fr (dat 4 eTUnit zTUnit v5.Units), .nil] false)] (fun t => aI (l_toState_F_ok p0.State v5 h6) (t)) ?_
 obtain ⟨v7, h8, H⟩ := ofBind H
 refine so [.res (.c (.fr (dat 1 eI zI v7)))] [] [(2, pk 2), (3, pk 3)] [(2, .var [.nil, .nil, .int .i64 0, .int .i64 0, .nil, .nil] false), (3, .var [.fr (dat 3 eTFrame zTFrame v1), .fr (dat 1 eI zI v3), .int .i64 v5.Turn, .int .i64 v5.Weather, .fr (dat 4 eTUnit zTUnit v5.Units), .fr (dat 1 eI zI v7)] false)] (fun t => aI (l_toIntS_F_ok p0.Log v7 h8) (t)) ?_
 refine so [] [] [(2, pk 2)] [(2, .var [.fr (dat 3 eTFrame zTFrame v1), .fr (dat 1 eI zI v3), .int .i64 v5.Turn, .int .i64 v5.Weather, .fr (dat 4 eTUnit zTUnit v5.Units), .fr (dat 1 eI zI v7)] false)] id ?_
 refine ends_ret ?_
 cases H
 exact And.intro (.inl rfl) rfl
def g_Index_int_ir : S :=
 (.seq (.ops [o 4 (.mv (.v (.int .i64 0)))])
 (.seq (.seq (.ops [o 6 (.mv (.t 0)), o 7 (.len (.t 6)), o 8 (.mv (.v (.int .i64 0)))])
 (.blk 0 (.loop (.seq (.ops [o 9 (.bin .lss (.t 8) (.t 7))])
   (.seq (.ite (.t 9) .skip
   (.exit 0))
   (.seq (.blk 1 (.seq (.ops [o 10 (.mv (.t 8)), o 5 (.mv (.t 10))])
    (.seq (.ops [o 11 (.mv (.t 1)), o 12 (.mv (.t 0)), o 13 (.mv (.t 5)), o 14 (.iad 1 (.t 12) (.t 13)), o 15 (.load 1 false (.t 14)), o 16 (.bin .eql (.t 11) (.t 15))])
    (.ite (.t 16) (.seq (.ops [o 17 (.mv (.t 5)), o 4 (.mv (.t 17))])
     .ret)
    .skip))))
   (.ops [o 18 (.bin .add (.t 8) (.v (.int .i64 1))), o 8 (.mv (.t 18))])))))))
 (.seq (.ops [o 4 (.mv (.v (.int .i64 (-1))))])
 .ret)))
noncomputable def X.g_Index_int (p0 : (List Int)) (p1 : Int) : Option Int :=
 ((loop (fun (x12 : Int) => ((bif (decide (x12 < (p0.length : Int))) then ((at' zI p0 x12).bind fun v15 => (bif (p1 == v15) then some (Sum.inr (Sum.inr x12)) else some (Sum.inl (W (x12 + 1))))) else some (Sum.inr (Sum.inl ()))) : Option (Int ⊕ (Unit ⊕ Int)))) 0).bind fun y18 => (Sum.elim (fun (y20 : Unit) => some (-1)) (fun (y21 : Int) => some y21) y18))
theorem g_Index_int_ok (p0 : (List Int)) (p1 : Int) (r : Int) (H : X.g_Index_int p0 p1 = some r) : FnOk Tryz.prog gl 144 [.c (dat 1 eI zI p0), cI p1] (cI r) := by
 unfold X.g_Index_int at H
 refine fi Tryz.f144 g_Index_int_ir [(4, cI r)] [] glL Tryz.func144 ?_
 refine so [] [] [(0, dc 1 eI zI p0), (1, cI p1)] [] id ?_
 refine seq_in ?_
 refine so [] [] [(0, dc 1 eI zI p0), (1, cI p1), (7, cI (p0.length : Int)), (8, cI 0)] [] (fun t => lI p0 (t)) ?_
 refine ends_blk ?_
 obtain ⟨y18, h19, H⟩ := ofBind H
 refine loop_in (fun (x : Int) => lit [(0, dc 1 eI zI p0), (1, cI p1), (7, cI (p0.length : Int)), (8, cI x)] []) (orJ (fun (z : Unit) => At (.exit 0) (lit [] [])) (fun (z : Int) => At .ret (lit [(4, cI z)] []))) h19 ?_ ?_
 ·clear H h19
  intro x12 y0 H
  refine so [] [] [(0, dc 1 eI zI p0), (1, cI p1), (7, cI (p0.length : Int)), (8, cI x12), (9, cB (decide (x12 < (p0.length : Int))))] [] id ?_
  refine seq_in ?_
  rcases ofCond H with ⟨c14, H⟩ | ⟨c14, H⟩
  ·refine it c14 ?_
   refine sk ?_
   refine seq_in ?_
   refine ends_blk ?_
   refine so [] [] [(0, dc 1 eI zI p0), (1, cI p1), (5, cI x12), (7, cI (p0.length : Int)), (8, cI x12)] [] id ?_
   obtain ⟨v15, h16, H⟩ := ofBind H
   refine so [.cs (eI v15)] [] [(0, dc 1 eI zI p0), (1, cI p1), (5, cI x12), (7, cI (p0.length : Int)), (8, cI x12), (16, cB (p1 == v15))] [] (fun t => aI (at_lt h16) (aI (at_enc (enc := eI) h16) (t))) ?_
   rcases ofCond H with ⟨c17, H⟩ | ⟨c17, H⟩
   ·refine it c17 ?_
    refine so [] [] [(4, cI x12)] [] id ?_
    refine ends_ret ?_
    cases H
    exact And.intro (by simp) (And.intro rfl rfl)
   ·refine jf c17 ?_
    refine sk ?_
    refine oo [] [] [(0, dc 1 eI zI p0), (1, cI p1), (7, cI (p0.length : Int)), (8, cI (W (x12 + 1)))] [] id ?_
    cases H
    exact And.intro rfl rfl
  ·refine jf c14 ?_
   refine tl [] [] [] id ?_
   refine ends_exit ?_
   cases H
   exact And.intro (by simp) (And.intro rfl rfl)
 ·clear h19
  cases y18 with
  | inl y20 =>
   replace H := ofInl H
   intro e s q
   obtain ⟨rfl, rfl⟩ := q
   change EndsI _ _ _ _ _ _
   refine so [] [] [(4, cI (-1))] [] id ?_
   refine ends_ret ?_
   cases H
   exact And.intro (.inl rfl) rfl
  | inr y21 =>
   replace H := ofInr H
   intro e s q
   obtain ⟨rfl, rfl⟩ := q
   cases H
   exact And.intro (.inl rfl) rfl
def g_Contains_int_ir : S :=
 (.seq (.ops [o 4 (.mv (.v (.bool false)))])
 (.seq (.ops [o 5 (.mv (.t 0)), o 6 (.mv (.t 1)), o 7 (.call 144 [.t 5, .t 6]), o 8 (.bin .geq (.t 7) (.v (.int .i64 0))), o 4 (.mv (.t 8))])
 .ret))
noncomputable def X.g_Contains_int (p0 : (List Int)) (p1 : Int) : Option Bool :=
 ((X.g_Index_int p0 p1).bind fun v1 => some (decide (v1 ≥ 0)))
theorem g_Contains_int_ok (p0 : (List Int)) (p1 : Int) (r : Bool) (H : X.g_Contains_int p0 p1 = some r) : FnOk Tryz.prog gl 86 [.c (dat 1 eI zI p0), cI p1] (cB r) := by
 unfold X.g_Contains_int at H
 refine fi Tryz.f86 g_Contains_int_ir [(4, cB r)] [] glL Tryz.func86 ?_
 refine so [] [] [(0, dc 1 eI zI p0), (1, cI p1)] [] id ?_
 obtain ⟨v1, h2, H⟩ := ofBind H
 refine so [.res (cI v1)] [] [(4, cB (decide (v1 ≥ 0)))] [] (fun t => aI (g_Index_int_ok p0 p1 v1 h2) (t)) ?_
 refine ends_ret ?_
 cases H
 exact And.intro (.inl rfl) rfl
def g_IndexFunc_int_ir : S :=
 (.seq (.ops [o 4 (.mv (.v (.int .i64 0)))])
 (.seq (.seq (.ops [o 6 (.mv (.t 0)), o 7 (.len (.t 6)), o 8 (.mv (.v (.int .i64 0)))])
 (.blk 0 (.loop (.seq (.ops [o 9 (.bin .lss (.t 8) (.t 7))])
   (.seq (.ite (.t 9) .skip
   (.exit 0))
   (.seq (.blk 1 (.seq (.ops [o 10 (.mv (.t 8)), o 5 (.mv (.t 10))])
    (.seq (.ops [o 11 (.mv (.t 1)), o 12 (.mv (.t 0)), o 13 (.mv (.t 5)), o 14 (.iad 1 (.t 12) (.t 13)), o 15 (.load 1 false (.t 14)), o 16 (.cald (.t 11) [.t 15])])
    (.ite (.t 16) (.seq (.ops [o 17 (.mv (.t 5)), o 4 (.mv (.t 17))])
     .ret)
    .skip))))
   (.ops [o 18 (.bin .add (.t 8) (.v (.int .i64 1))), o 8 (.mv (.t 18))])))))))
 (.seq (.ops [o 4 (.mv (.v (.int .i64 (-1))))])
 .ret)))
noncomputable def X.g_IndexFunc_int (p0 : (List Int)) (f1 : Int → Option Bool) : Option Int :=
 ((loop (fun (x16 : Int) => ((bif (decide (x16 < (p0.length : Int))) then ((at' zI p0 x16).bind fun v19 => ((f1 v19).bind fun v21 => (bif v21 then some (Sum.inr (Sum.inr x16)) else some (Sum.inl (W (x16 + 1)))))) else some (Sum.inr (Sum.inl ()))) : Option (Int ⊕ (Unit ⊕ Int)))) 0).bind fun y24 => (Sum.elim (fun (y26 : Unit) => some (-1)) (fun (y27 : Int) => some y27) y24))
theorem g_IndexFunc_int_c1_ok (p0 : (List Int)) (cf1 : FuncId) (cs1_0 : List AC) (f1 : Int → Option Bool) (hf1 : ∀ q0 r, f1 q0 = some r → FnOk Tryz.prog gl cf1 [cI q0, .c (.pd cs1_0 0)] (cB r)) (r : Int) (H : X.g_IndexFunc_int p0 f1 = some r) : FnOk Tryz.prog gl 134 [.c (dat 1 eI zI p0), .c (.clo cf1 [.pd cs1_0 0])] (cI r) := by
 unfold X.g_IndexFunc_int at H
 refine fi Tryz.f134 g_IndexFunc_int_ir [(4, cI r)] [] glL Tryz.func134 ?_
 refine so [] [] [(0, dc 1 eI zI p0), (1, .c (.clo cf1 [.pd cs1_0 0]))] [] id ?_
 refine seq_in ?_
 refine so [] [] [(0, dc 1 eI zI p0), (1, .c (.clo cf1 [.pd cs1_0 0])), (7, cI (p0.length : Int)), (8, cI 0)] [] (fun t => lI p0 (t)) ?_
 refine ends_blk ?_
 obtain ⟨y24, h25, H⟩ := ofBind H
 refine loop_in (fun (x : Int) => lit [(0, dc 1 eI zI p0), (1, .c (.clo cf1 [.pd cs1_0 0])), (7, cI (p0.length : Int)), (8, cI x)] []) (orJ (fun (z : Unit) => At (.exit 0) (lit [] [])) (fun (z : Int) => At .ret (lit [(4, cI z)] []))) h25 ?_ ?_
 ·clear H h25
  intro x16 y0 H
  refine so [] [] [(0, dc 1 eI zI p0), (1, .c (.clo cf1 [.pd cs1_0 0])), (7, cI (p0.length : Int)), (8, cI x16), (9, cB (decide (x16 < (p0.length : Int))))] [] id ?_
  refine seq_in ?_
  rcases ofCond H with ⟨c18, H⟩ | ⟨c18, H⟩
  ·refine it c18 ?_
   refine sk ?_
   refine seq_in ?_
   refine ends_blk ?_
   refine so [] [] [(0, dc 1 eI zI p0), (1, .c (.clo cf1 [.pd cs1_0 0])), (5, cI x16), (7, cI (p0.length : Int)), (8, cI x16)] [] id ?_
   obtain ⟨v19, h20, H⟩ := ofBind H
   obtain ⟨v21, h22, H⟩ := ofBind H
   refine so [.cs (eI v19), .res (cB v21)] [] [(0, dc 1 eI zI p0), (1, .c (.clo cf1 [.pd cs1_0 0])), (5, cI x16), (7, cI (p0.length : Int)), (8, cI x16), (16, cB v21)] [] (fun t => aI (at_lt h20) (aI (at_enc (enc := eI) h20) (aI (hf1 v19 v21 h22) (t)))) ?_
   rcases ofCond H with ⟨c23, H⟩ | ⟨c23, H⟩
   ·refine it c23 ?_
    refine so [] [] [(4, cI x16)] [] id ?_
    refine ends_ret ?_
    cases H
    exact And.intro (by simp) (And.intro rfl rfl)
   ·refine jf c23 ?_
    refine sk ?_
    refine oo [] [] [(0, dc 1 eI zI p0), (1, .c (.clo cf1 [.pd cs1_0 0])), (7, cI (p0.length : Int)), (8, cI (W (x16 + 1)))] [] id ?_
    cases H
    exact And.intro rfl rfl
  ·refine jf c18 ?_
   refine tl [] [] [] id ?_
   refine ends_exit ?_
   cases H
   exact And.intro (by simp) (And.intro rfl rfl)
 ·clear h25
  cases y24 with
  | inl y26 =>
   replace H := ofInl H
   intro e s q
   obtain ⟨rfl, rfl⟩ := q
   change EndsI _ _ _ _ _ _
   refine so [] [] [(4, cI (-1))] [] id ?_
   refine ends_ret ?_
   cases H
   exact And.intro (.inl rfl) rfl
  | inr y27 =>
   replace H := ofInr H
   intro e s q
   obtain ⟨rfl, rfl⟩ := q
   cases H
   exact And.intro (.inl rfl) rfl
def g_ContainsFunc_int_ir : S :=
 (.seq (.ops [o 4 (.mv (.v (.bool false)))])
 (.seq (.ops [o 5 (.mv (.t 0)), o 6 (.mv (.t 1)), o 7 (.call 134 [.t 5, .t 6]), o 8 (.bin .geq (.t 7) (.v (.int .i64 0))), o 4 (.mv (.t 8))])
 .ret))
noncomputable def X.g_ContainsFunc_int (p0 : (List Int)) (f1 : Int → Option Bool) : Option Bool :=
 ((X.g_IndexFunc_int p0 f1).bind fun v1 => some (decide (v1 ≥ 0)))
theorem g_ContainsFunc_int_c1_ok (p0 : (List Int)) (cf1 : FuncId) (cs1_0 : List AC) (f1 : Int → Option Bool) (hf1 : ∀ q0 r, f1 q0 = some r → FnOk Tryz.prog gl cf1 [cI q0, .c (.pd cs1_0 0)] (cB r)) (r : Bool) (H : X.g_ContainsFunc_int p0 f1 = some r) : FnOk Tryz.prog gl 70 [.c (dat 1 eI zI p0), .c (.clo cf1 [.pd cs1_0 0])] (cB r) := by
 unfold X.g_ContainsFunc_int at H
 refine fi Tryz.f70 g_ContainsFunc_int_ir [(4, cB r)] [] glL Tryz.func70 ?_
 refine so [] [] [(0, dc 1 eI zI p0), (1, .c (.clo cf1 [.pd cs1_0 0]))] [] id ?_
 obtain ⟨v1, h2, H⟩ := ofBind H
 refine so [.res (cI v1)] [] [(4, cB (decide (v1 ≥ 0)))] [] (fun t => aI (g_IndexFunc_int_c1_ok p0 (cf1) (cs1_0) f1 hf1 v1 h2) (t)) ?_
 refine ends_ret ?_
 cases H
 exact And.intro (.inl rfl) rfl
def i_inRange_ir : S :=
 (.seq (.ops [o 6 (.mv (.v (.bool false)))])
 (.seq (.ops [o 7 (.mv (.t 1)), o 8 (.mv (.t 0)), o 9 (.bin .leq (.t 7) (.t 8)), o 10 (.mv (.t 9)), ⟨some 11, .mv (.t 0), some (10, true)⟩, ⟨some 12, .mv (.t 2), some (10, true)⟩, ⟨some 13, .bin .leq (.t 11) (.t 12), some (10, true)⟩, o 14 (.pick (.t 10) (.t 13) (.v (.bool false))), o 6 (.mv (.t 14))])
 .ret))
noncomputable def X.i_inRange (p0 : Int) (p1 : Int) (p2 : Int) : Option Bool :=
 (bif (decide (p1 ≤ p0)) then some (decide (p0 ≤ p2)) else some false)
theorem i_inRange_ok (p0 : Int) (p1 : Int) (p2 : Int) (r : Bool) (H : X.i_inRange p0 p1 p2 = some r) : FnOk Tryz.prog gl 145 [cI p0, cI p1, cI p2] (cB r) := by
 unfold X.i_inRange at H
 refine fi Tryz.f145 i_inRange_ir [(6, cB r)] [] glL Tryz.func145 ?_
 refine so [] [] [(0, cI p0), (1, cI p1), (2, cI p2)] [] id ?_
 rcases ofCond H with ⟨c1, H⟩ | ⟨c1, H⟩
 ·refine so [.g true, .g true, .g true, .g true] [] [(6, cB (decide (p0 ≤ p2)))] [] (fun t => aI c1 (aI c1 (aI c1 (aI c1 (t))))) ?_
  refine ends_ret ?_
  cases H
  exact And.intro (.inl rfl) rfl
 ·refine so [.g false, .g false, .g false, .g false] [] [(6, cB false)] [] (fun t => aI c1 (aI c1 (aI c1 (aI c1 (t))))) ?_
  refine ends_ret ?_
  cases H
  exact And.intro (.inl rfl) rfl
theorem g_IndexFunc_int_c0_ok (p0 : (List Int)) (cf1 : FuncId) (f1 : Int → Option Bool) (hf1 : ∀ q0 r, f1 q0 = some r → FnOk Tryz.prog gl cf1 [cI q0] (cB r)) (r : Int) (H : X.g_IndexFunc_int p0 f1 = some r) : FnOk Tryz.prog gl 134 [.c (dat 1 eI zI p0), .c (.clo cf1 [])] (cI r) := by
 unfold X.g_IndexFunc_int at H
 refine fi Tryz.f134 g_IndexFunc_int_ir [(4, cI r)] [] glL Tryz.func134 ?_
 refine so [] [] [(0, dc 1 eI zI p0), (1, .c (.clo cf1 []))] [] id ?_
 refine seq_in ?_
 refine so [] [] [(0, dc 1 eI zI p0), (1, .c (.clo cf1 [])), (7, cI (p0.length : Int)), (8, cI 0)] [] (fun t => lI p0 (t)) ?_
 refine ends_blk ?_
 obtain ⟨y24, h25, H⟩ := ofBind H
 refine loop_in (fun (x : Int) => lit [(0, dc 1 eI zI p0), (1, .c (.clo cf1 [])), (7, cI (p0.length : Int)), (8, cI x)] []) (orJ (fun (z : Unit) => At (.exit 0) (lit [] [])) (fun (z : Int) => At .ret (lit [(4, cI z)] []))) h25 ?_ ?_
 ·clear H h25
  intro x16 y0 H
  refine so [] [] [(0, dc 1 eI zI p0), (1, .c (.clo cf1 [])), (7, cI (p0.length : Int)), (8, cI x16), (9, cB (decide (x16 < (p0.length : Int))))] [] id ?_
  refine seq_in ?_
  rcases ofCond H with ⟨c18, H⟩ | ⟨c18, H⟩
  ·refine it c18 ?_
   refine sk ?_
   refine seq_in ?_
   refine ends_blk ?_
   refine so [] [] [(0, dc 1 eI zI p0), (1, .c (.clo cf1 [])), (5, cI x16), (7, cI (p0.length : Int)), (8, cI x16)] [] id ?_
   obtain ⟨v19, h20, H⟩ := ofBind H
   obtain ⟨v21, h22, H⟩ := ofBind H
   refine so [.cs (eI v19), .res (cB v21)] [] [(0, dc 1 eI zI p0), (1, .c (.clo cf1 [])), (5, cI x16), (7, cI (p0.length : Int)), (8, cI x16), (16, cB v21)] [] (fun t => aI (at_lt h20) (aI (at_enc (enc := eI) h20) (aI (hf1 v19 v21 h22) (t)))) ?_
   rcases ofCond H with ⟨c23, H⟩ | ⟨c23, H⟩
   ·refine it c23 ?_
    refine so [] [] [(4, cI x16)] [] id ?_
    refine ends_ret ?_
    cases H
    exact And.intro (by simp) (And.intro rfl rfl)
   ·refine jf c23 ?_
    refine sk ?_
    refine oo [] [] [(0, dc 1 eI zI p0), (1, .c (.clo cf1 [])), (7, cI (p0.length : Int)), (8, cI (W (x16 + 1)))] [] id ?_
    cases H
    exact And.intro rfl rfl
  ·refine jf c18 ?_
   refine tl [] [] [] id ?_
   refine ends_exit ?_
   cases H
   exact And.intro (by simp) (And.intro rfl rfl)
 ·clear h25
  cases y24 with
  | inl y26 =>
   replace H := ofInl H
   intro e s q
   obtain ⟨rfl, rfl⟩ := q
   change EndsI _ _ _ _ _ _
   refine so [] [] [(4, cI (-1))] [] id ?_
   refine ends_ret ?_
   cases H
   exact And.intro (.inl rfl) rfl
  | inr y27 =>
   replace H := ofInr H
   intro e s q
   obtain ⟨rfl, rfl⟩ := q
   cases H
   exact And.intro (.inl rfl) rfl
theorem g_ContainsFunc_int_c0_ok (p0 : (List Int)) (cf1 : FuncId) (f1 : Int → Option Bool) (hf1 : ∀ q0 r, f1 q0 = some r → FnOk Tryz.prog gl cf1 [cI q0] (cB r)) (r : Bool) (H : X.g_ContainsFunc_int p0 f1 = some r) : FnOk Tryz.prog gl 70 [.c (dat 1 eI zI p0), .c (.clo cf1 [])] (cB r) := by
 unfold X.g_ContainsFunc_int at H
 refine fi Tryz.f70 g_ContainsFunc_int_ir [(4, cB r)] [] glL Tryz.func70 ?_
 refine so [] [] [(0, dc 1 eI zI p0), (1, .c (.clo cf1 []))] [] id ?_
 obtain ⟨v1, h2, H⟩ := ofBind H
 refine so [.res (cI v1)] [] [(4, cB (decide (v1 ≥ 0)))] [] (fun t => aI (g_IndexFunc_int_c0_ok p0 (cf1) f1 hf1 v1 h2) (t)) ?_
 refine ends_ret ?_
 cases H
 exact And.intro (.inl rfl) rfl
def i_isName_ir : S :=
 (.seq (.ops [o 2 (.mv (.v (.bool false)))])
 (.seq (.seq (.ops [o 3 (.mv (.v (.int .i64 0)))])
 (.blk 0 (.loop (.seq (.seq (.ops [o 4 (.mv (.t 3)), o 5 (.mv (.t 0)), o 6 (.lens (.t 5)), o 7 (.bin .lss (.t 4) (.t 6))])
   (.ite (.t 7) .skip
   (.exit 0)))
   (.seq (.blk 1 (.seq (.ops [o 10 (.mv (.t 0)), o 11 (.mv (.t 3)), o 12 (.ixs (.t 10) (.t 11)), o 13 (.bin .lss (.t 12) (.v (.int .u8 97))), o 14 (.mv (.t 13)), ⟨some 15, .mv (.t 0), some (14, false)⟩, ⟨some 16, .mv (.t 3), some (14, false)⟩, ⟨some 17, .ixs (.t 15) (.t 16), some (14, false)⟩, ⟨some 18, .bin .gtr (.t 17) (.v (.int .u8 122)), some (14, false)⟩, o 19 (.pick (.t 14) (.v (.bool true)) (.t 18))])
    (.ite (.t 19) (.seq (.ops [o 2 (.mv (.v (.bool false)))])
     .ret)
    .skip)))
   (.ops [o 8 (.mv (.t 3)), o 9 (.bin .add (.t 8) (.v (.int .i64 1))), o 3 (.mv (.t 9))]))))))
 (.seq (.ops [o 20 (.mv (.t 0)), o 21 (.lens (.t 20)), o 22 (.call 145 [.t 21, .v (.int .i64 1), .v (.int .i64 8)]), o 2 (.mv (.t 22))])
 .ret)))
noncomputable def X.i_isName (p0 : (List UInt8)) : Option Bool :=
 ((loop (fun (x14 : Int) => ((bif (decide (x14 < (p0.length : Int))) then (if 0 ≤ x14 ∧ x14 < (p0.length : Int) then (bif (decide ((((p0.getD x14.toNat 0).toNat : Nat) : Int) < 97)) then some (Sum.inr (Sum.inr false)) else (if 0 ≤ x14 ∧ x14 < (p0.length : Int) then (bif (decide ((((p0.getD x14.toNat 0).toNat : Nat) : Int) > 122)) then some (Sum.inr (Sum.inr false)) else some (Sum.inl (W (x14 + 1)))) else none)) else none) else some (Sum.inr (Sum.inl ()))) : Option (Int ⊕ (Unit ⊕ Bool)))) 0).bind fun y21 => (Sum.elim (fun (y23 : Unit) => ((X.i_inRange (p0.length : Int) 1 8).bind fun v25 => some v25)) (fun (y24 : Bool) => some y24) y21))
theorem i_isName_ok (p0 : (List UInt8)) (r : Bool) (H : X.i_isName p0 = some r) : FnOk Tryz.prog gl 223 [.c (.str p0)] (cB r) := by
 unfold X.i_isName at H
 refine fi Tryz.f223 i_isName_ir [(2, cB r)] [] glL Tryz.func223 ?_
 refine so [] [] [(0, .c (.str p0))] [] id ?_
 refine seq_in ?_
 refine so [] [] [(0, .c (.str p0)), (3, cI 0)] [] id ?_
 refine ends_blk ?_
 obtain ⟨y21, h22, H⟩ := ofBind H
 refine loop_in (fun (x : Int) => lit [(0, .c (.str p0)), (3, cI x)] []) (orJ (fun (z : Unit) => At (.exit 0) (lit [(0, .c (.str p0))] [])) (fun (z : Bool) => At .ret (lit [(2, cB z)] []))) h22 ?_ ?_
 ·clear H h22
  intro x14 y0 H
  refine seq_in ?_
  refine so [] [] [(0, .c (.str p0)), (3, cI x14), (7, cB (decide (x14 < (p0.length : Int))))] [] id ?_
  rcases ofCond H with ⟨c16, H⟩ | ⟨c16, H⟩
  ·refine it c16 ?_
   refine sk ?_
   refine seq_in ?_
   refine ends_blk ?_
   obtain ⟨g17, H⟩ := ofIf H
   rcases ofCond H with ⟨c18, H⟩ | ⟨c18, H⟩
   ·refine so [.g true, .g true, .g true, .g true, .g true] [] [(0, .c (.str p0)), (3, cI x14), (19, cB true)] [] (fun t => aI g17 (aI c18 (aI c18 (aI c18 (aI c18 (aI c18 (t))))))) ?_
    refine it (rfl : (true : Bool) = true) ?_
    refine so [] [] [(2, cB false)] [] id ?_
    refine ends_ret ?_
    cases H
    exact And.intro (by simp) (And.intro rfl rfl)
   ·obtain ⟨g19, H⟩ := ofIf H
    refine so [.g false, .g false, .g false, .g false, .g false] [] [(0, .c (.str p0)), (3, cI x14), (19, cB (decide ((((p0.getD x14.toNat 0).toNat : Nat) : Int) > 122)))] [] (fun t => aI g17 (aI c18 (aI c18 (aI c18 (aI g19 (aI c18 (aI c18 (t)))))))) ?_
    rcases ofCond H with ⟨c20, H⟩ | ⟨c20, H⟩
    ·refine it c20 ?_
     refine so [] [] [(2, cB false)] [] id ?_
     refine ends_ret ?_
     cases H
     exact And.intro (by simp) (And.intro rfl rfl)
    ·refine jf c20 ?_
     refine sk ?_
     refine oo [] [] [(0, .c (.str p0)), (3, cI (W (x14 + 1)))] [] id ?_
     cases H
     exact And.intro rfl rfl
  ·refine jf c16 ?_
   refine tl [] [(0, .c (.str p0))] [] id ?_
   refine ends_exit ?_
   cases H
   exact And.intro (by simp) (And.intro rfl rfl)
 ·clear h22
  cases y21 with
  | inl y23 =>
   replace H := ofInl H
   intro e s q
   obtain ⟨rfl, rfl⟩ := q
   change EndsI _ _ _ _ _ _
   obtain ⟨v25, h26, H⟩ := ofBind H
   refine so [.res (cB v25)] [] [(2, cB v25)] [] (fun t => aI (i_inRange_ok (p0.length : Int) 1 8 v25 h26) (t)) ?_
   refine ends_ret ?_
   cases H
   exact And.intro (.inl rfl) rfl
  | inr y24 =>
   replace H := ofInr H
   intro e s q
   obtain ⟨rfl, rfl⟩ := q
   cases H
   exact And.intro (.inl rfl) rfl
def i_goodTerrain_1_ir : S :=
 (.seq (.ops [o 2 (.mv (.v (.bool false)))])
 (.seq (.ops [o 3 (.mv (.t 0)), o 4 (.call 145 [.t 3, .v (.int .i64 0), .v (.int .i64 9)]), o 5 (.not (.t 4)), o 2 (.mv (.t 5))])
 .ret))
noncomputable def X.i_goodTerrain_1 (p0 : Int) : Option Bool :=
 ((X.i_inRange p0 0 9).bind fun v1 => some (!v1))
theorem i_goodTerrain_1_ok (p0 : Int) (r : Bool) (H : X.i_goodTerrain_1 p0 = some r) : FnOk Tryz.prog gl 224 [cI p0] (cB r) := by
 unfold X.i_goodTerrain_1 at H
 refine fi Tryz.f224 i_goodTerrain_1_ir [(2, cB r)] [] glL Tryz.func224 ?_
 refine so [] [] [(0, cI p0)] [] id ?_
 obtain ⟨v1, h2, H⟩ := ofBind H
 refine so [.res (cB v1)] [] [(2, cB (!v1))] [] (fun t => aI (i_inRange_ok p0 0 9 v1 h2) (t)) ?_
 refine ends_ret ?_
 cases H
 exact And.intro (.inl rfl) rfl
def i_goodTerrain_ir : S :=
 (.seq (.ops [o 2 (.box 5 (.t 0)), o 4 (.mv (.v (.bool false)))])
 (.seq (.seq (.ops [o 5 (.fad 0 (.t 2)), o 6 (.load 1 false (.t 5)), o 7 (.call 223 [.t 6]), o 8 (.not (.t 7)), o 9 (.mv (.t 8)), ⟨some 10, .fad 1 (.t 2), some (9, false)⟩, ⟨some 11, .load 1 false (.t 10), some (9, false)⟩, ⟨some 12, .len (.t 11), some (9, false)⟩, ⟨some 13, .mv (.t 1), some (9, false)⟩, ⟨some 14, .bin .neq (.t 12) (.t 13), some (9, false)⟩, o 15 (.pick (.t 9) (.v (.bool true)) (.t 14)), o 16 (.mv (.t 15)), ⟨some 17, .fad 2 (.t 2), some (16, false)⟩, ⟨some 18, .load 1 false (.t 17), some (16, false)⟩, ⟨some 19, .call 145 [.t 18, .v (.int .i64 (-3)), .v (.int .i64 3)], some (16, false)⟩, ⟨some 20, .not (.t 19), some (16, false)⟩, o 21 (.pick (.t 16) (.v (.bool true)) (.t 20)), o 22 (.mv (.t 21)), ⟨some 23, .fad 3 (.t 2), some (22, false)⟩, ⟨some 24, .load 1 false (.t 23), some (22, false)⟩, ⟨some 25, .call 145 [.t 24, .v (.int .i64 0), .v (.int .i64 3)], some (22, false)⟩, ⟨some 26, .not (.t 25), some (22, false)⟩, o 27 (.pick (.t 22) (.v (.bool true)) (.t 26))])
 (.ite (.t 27) (.seq (.ops [o 4 (.mv (.v (.bool false)))])
  .ret)
 .skip))
 (.seq (.ops [o 28 (.fad 1 (.t 2)), o 29 (.load 1 false (.t 28)), o 30 (.call 70 [.t 29, .f 224]), o 31 (.not (.t 30)), o 4 (.mv (.t 31))])
 .ret)))
noncomputable def X.i_goodTerrain (p0 : TTerrain) (p1 : Int) : Option Bool :=
 ((X.i_isName p0.Name).bind fun v1 => (bif (!v1) then some false else (bif ((p0.Cost.length : Int) != p1) then some false else ((X.i_inRange p0.Shift (-3) 3).bind fun v5 => (bif (!v5) then some false else ((X.i_inRange p0.Height 0 3).bind fun v8 => (bif (!v8) then some false else ((X.g_ContainsFunc_int p0.Cost (fun q0 => X.i_goodTerrain_1 q0)).bind fun v11 => some (!v11)))))))))
theorem i_goodTerrain_ok (p0 : TTerrain) (p1 : Int) (r : Bool) (H : X.i_goodTerrain p0 p1 = some r) : FnOk Tryz.prog gl 213 [.agg (eTTerrain p0), cI p1] (cB r) := by
 unfold X.i_goodTerrain at H
 refine fi Tryz.f213 i_goodTerrain_ir [(4, cB r)] [] glL Tryz.func213 ?_
 refine so [] [] [(1, cI p1), (2, pk 2)] [(2, va (eTTerrain p0))] id ?_
 refine seq_in ?_
 obtain ⟨v1, h2, H⟩ := ofBind H
 rcases ofCond H with ⟨c3, H⟩ | ⟨c3, H⟩
 ·refine so [.res (cB v1), .g true, .g true, .g true, .g true, .g true, .g true, .g true, .g true, .g true, .g true, .g true, .g true, .g true, .g true, .g true, .g true] [] [(2, pk 2), (27, cB true)] [(2, va (eTTerrain p0))] (fun t => aI (i_isName_ok p0.Name v1 h2) (aI c3 (aI c3 (aI c3 (aI c3 (aI c3 (aI c3 (aI (rfl : (true : Bool) = true) (aI (rfl : (true : Bool) = true) (aI (rfl : (true : Bool) = true) (aI (rfl : (true : Bool) = true) (aI (rfl : (true : Bool) = true) (aI (rfl : (true : Bool) = true) (aI (rfl : (true : Bool) = true) (aI (rfl : (true : Bool) = true) (aI (rfl : (true : Bool) = true) (aI (rfl : (true : Bool) = true) (t)))))))))))))))))) ?_
  refine it (rfl : (true : Bool) = true) ?_
  refine so [] [] [(4, cB false)] [] id ?_
  refine ends_ret ?_
  cases H
  exact And.intro (.inl rfl) rfl
 ·rcases ofCond H with ⟨c4, H⟩ | ⟨c4, H⟩
  ·refine so [.res (cB v1), .g false, .g false, .g false, .g false, .g false, .g false, .g true, .g true, .g true, .g true, .g true, .g true, .g true, .g true, .g true, .g true] [] [(2, pk 2), (27, cB true)] [(2, va (eTTerrain p0))] (fun t => aI (i_isName_ok p0.Name v1 h2) (aI c3 (aI c3 (aI c3 (lI p0.Cost (aI c3 (aI c3 (aI c3 (aI c4 (aI c4 (aI c4 (aI c4 (aI c4 (aI (rfl : (true : Bool) = true) (aI (rfl : (true : Bool) = true) (aI (rfl : (true : Bool) = true) (aI (rfl : (true : Bool) = true) (aI (rfl : (true : Bool) = true) (t))))))))))))))))))) ?_
   refine it (rfl : (true : Bool) = true) ?_
   refine so [] [] [(4, cB false)] [] id ?_
   refine ends_ret ?_
   cases H
   exact And.intro (.inl rfl) rfl
  ·obtain ⟨v5, h6, H⟩ := ofBind H
   rcases ofCond H with ⟨c7, H⟩ | ⟨c7, H⟩
   ·refine so [.res (cB v1), .g false, .g false, .g false, .g false, .g false, .g false, .g false, .g false, .g false, .res (cB v5), .g false, .g false, .g true, .g true, .g true, .g true, .g true] [] [(2, pk 2), (27, cB true)] [(2, va (eTTerrain p0))] (fun t => aI (i_isName_ok p0.Name v1 h2) (aI c3 (aI c3 (aI c3 (lI p0.Cost (aI c3 (aI c3 (aI c3 (aI c4 (aI c4 (aI c4 (aI (i_inRange_ok p0.Shift (-3) 3 v5 h6) (aI c4 (aI c4 (aI c7 (aI c7 (aI c7 (aI c7 (aI c7 (t)))))))))))))))))))) ?_
    refine it (rfl : (true : Bool) = true) ?_
    refine so [] [] [(4, cB false)] [] id ?_
    refine ends_ret ?_
    cases H
    exact And.intro (.inl rfl) rfl
   ·obtain ⟨v8, h9, H⟩ := ofBind H
    refine so [.res (cB v1), .g false, .g false, .g false, .g false, .g false, .g false, .g false, .g false, .g false, .res (cB v5), .g false, .g false, .g false, .g false, .g false, .res (cB v8), .g false, .g false] [] [(2, pk 2), (27, cB (!v8))] [(2, va (eTTerrain p0))] (fun t => aI (i_isName_ok p0.Name v1 h2) (aI c3 (aI c3 (aI c3 (lI p0.Cost (aI c3 (aI c3 (aI c3 (aI c4 (aI c4 (aI c4 (aI (i_inRange_ok p0.Shift (-3) 3 v5 h6) (aI c4 (aI c4 (aI c7 (aI c7 (aI c7 (aI (i_inRange_ok p0.Height 0 3 v8 h9) (aI c7 (aI c7 (t))))))))))))))))))))) ?_
    rcases ofCond H with ⟨c10, H⟩ | ⟨c10, H⟩
    ·refine it c10 ?_
     refine so [] [] [(4, cB false)] [] id ?_
     refine ends_ret ?_
     cases H
     exact And.intro (.inl rfl) rfl
    ·refine jf c10 ?_
     refine sk ?_
     obtain ⟨v11, h12, H⟩ := ofBind H
     refine so [.res (cB v11)] [] [(4, cB (!v11))] [] (fun t => aI (g_ContainsFunc_int_c0_ok p0.Cost (224) (fun q0 => X.i_goodTerrain_1 q0) (fun q0 r h => i_goodTerrain_1_ok q0 r h) v11 h12) (t)) ?_
     refine ends_ret ?_
     cases H
     exact And.intro (.inl rfl) rfl
def g_IndexFunc_Terrain_ir : S :=
 (.seq (.ops [o 4 (.mv (.v (.int .i64 0)))])
 (.seq (.seq (.ops [o 6 (.mv (.t 0)), o 7 (.len (.t 6)), o 8 (.mv (.v (.int .i64 0)))])
 (.blk 0 (.loop (.seq (.ops [o 9 (.bin .lss (.t 8) (.t 7))])
   (.seq (.ite (.t 9) .skip
   (.exit 0))
   (.seq (.blk 1 (.seq (.ops [o 10 (.mv (.t 8)), o 5 (.mv (.t 10))])
    (.seq (.ops [o 11 (.mv (.t 1)), o 12 (.mv (.t 0)), o 13 (.mv (.t 5)), o 14 (.iad 5 (.t 12) (.t 13)), o 15 (.load 5 true (.t 14)), o 16 (.cald (.t 11) [.t 15])])
    (.ite (.t 16) (.seq (.ops [o 17 (.mv (.t 5)), o 4 (.mv (.t 17))])
     .ret)
    .skip))))
   (.ops [o 18 (.bin .add (.t 8) (.v (.int .i64 1))), o 8 (.mv (.t 18))])))))))
 (.seq (.ops [o 4 (.mv (.v (.int .i64 (-1))))])
 .ret)))
noncomputable def X.g_IndexFunc_Terrain (p0 : (List TTerrain)) (f1 : TTerrain → Option Bool) : Option Int :=
 ((loop (fun (x16 : Int) => ((bif (decide (x16 < (p0.length : Int))) then ((at' zTTerrain p0 x16).bind fun v19 => ((f1 v19).bind fun v21 => (bif v21 then some (Sum.inr (Sum.inr x16)) else some (Sum.inl (W (x16 + 1)))))) else some (Sum.inr (Sum.inl ()))) : Option (Int ⊕ (Unit ⊕ Int)))) 0).bind fun y24 => (Sum.elim (fun (y26 : Unit) => some (-1)) (fun (y27 : Int) => some y27) y24))
theorem g_IndexFunc_Terrain_c1_ok (p0 : (List TTerrain)) (cf1 : FuncId) (cs1_0 : List AC) (f1 : TTerrain → Option Bool) (hf1 : ∀ q0 r, f1 q0 = some r → FnOk Tryz.prog gl cf1 [.agg (eTTerrain q0), .c (.pd cs1_0 0)] (cB r)) (r : Int) (H : X.g_IndexFunc_Terrain p0 f1 = some r) : FnOk Tryz.prog gl 225 [.c (dat 5 eTTerrain zTTerrain p0), .c (.clo cf1 [.pd cs1_0 0])] (cI r) := by
 unfold X.g_IndexFunc_Terrain at H
 refine fi Tryz.f225 g_IndexFunc_Terrain_ir [(4, cI r)] [] glL Tryz.func225 ?_
 refine so [] [] [(0, dc 5 eTTerrain zTTerrain p0), (1, .c (.clo cf1 [.pd cs1_0 0]))] [] id ?_
 refine seq_in ?_
 refine so [] [] [(0, dc 5 eTTerrain zTTerrain p0), (1, .c (.clo cf1 [.pd cs1_0 0])), (7, cI (p0.length : Int)), (8, cI 0)] [] (fun t => lI p0 (t)) ?_
 refine ends_blk ?_
 obtain ⟨y24, h25, H⟩ := ofBind H
 refine loop_in (fun (x : Int) => lit [(0, dc 5 eTTerrain zTTerrain p0), (1, .c (.clo cf1 [.pd cs1_0 0])), (7, cI (p0.length : Int)), (8, cI x)] []) (orJ (fun (z : Unit) => At (.exit 0) (lit [] [])) (fun (z : Int) => At .ret (lit [(4, cI z)] []))) h25 ?_ ?_
 ·clear H h25
  intro x16 y0 H
  refine so [] [] [(0, dc 5 eTTerrain zTTerrain p0), (1, .c (.clo cf1 [.pd cs1_0 0])), (7, cI (p0.length : Int)), (8, cI x16), (9, cB (decide (x16 < (p0.length : Int))))] [] id ?_
  refine seq_in ?_
  rcases ofCond H with ⟨c18, H⟩ | ⟨c18, H⟩
  ·refine it c18 ?_
   refine sk ?_
   refine seq_in ?_
   refine ends_blk ?_
   refine so [] [] [(0, dc 5 eTTerrain zTTerrain p0), (1, .c (.clo cf1 [.pd cs1_0 0])), (5, cI x16), (7, cI (p0.length : Int)), (8, cI x16)] [] id ?_
   obtain ⟨v19, h20, H⟩ := ofBind H
   obtain ⟨v21, h22, H⟩ := ofBind H
   refine so [.cs (eTTerrain v19), .res (cB v21)] [] [(0, dc 5 eTTerrain zTTerrain p0), (1, .c (.clo cf1 [.pd cs1_0 0])), (5, cI x16), (7, cI (p0.length : Int)), (8, cI x16), (16, cB v21)] [] (fun t => aI (at_lt h20) (aI (at_enc (enc := eTTerrain) h20) (aI (hf1 v19 v21 h22) (t)))) ?_
   rcases ofCond H with ⟨c23, H⟩ | ⟨c23, H⟩
   ·refine it c23 ?_
    refine so [] [] [(4, cI x16)] [] id ?_
    refine ends_ret ?_
    cases H
    exact And.intro (by simp) (And.intro rfl rfl)
   ·refine jf c23 ?_
    refine sk ?_
    refine oo [] [] [(0, dc 5 eTTerrain zTTerrain p0), (1, .c (.clo cf1 [.pd cs1_0 0])), (7, cI (p0.length : Int)), (8, cI (W (x16 + 1)))] [] id ?_
    cases H
    exact And.intro rfl rfl
  ·refine jf c18 ?_
   refine tl [] [] [] id ?_
   refine ends_exit ?_
   cases H
   exact And.intro (by simp) (And.intro rfl rfl)
 ·clear h25
  cases y24 with
  | inl y26 =>
   replace H := ofInl H
   intro e s q
   obtain ⟨rfl, rfl⟩ := q
   change EndsI _ _ _ _ _ _
   refine so [] [] [(4, cI (-1))] [] id ?_
   refine ends_ret ?_
   cases H
   exact And.intro (.inl rfl) rfl
  | inr y27 =>
   replace H := ofInr H
   intro e s q
   obtain ⟨rfl, rfl⟩ := q
   cases H
   exact And.intro (.inl rfl) rfl
def i_terrainIndex_1_ir : S :=
 (.seq (.ops [o 2 (.box 5 (.t 0)), o 3 (.mv (.v (.bool false)))])
 (.seq (.ops [o 4 (.fad 0 (.t 2)), o 5 (.load 1 false (.t 4)), o 6 (.load 1 false (.t 1)), o 7 (.bin .eql (.t 5) (.t 6)), o 3 (.mv (.t 7))])
 .ret))
noncomputable def X.i_terrainIndex_1 (p0 : TTerrain) (p1 : (List UInt8)) : Option Bool :=
 some (p0.Name == p1)
theorem i_terrainIndex_1_ok (p0 : TTerrain) (p1 : (List UInt8)) (r : Bool) (H : X.i_terrainIndex_1 p0 p1 = some r) : FnOk Tryz.prog gl 226 [.agg (eTTerrain p0), .c (.pd (eS p1) 0)] (cB r) := by
 unfold X.i_terrainIndex_1 at H
 refine fi Tryz.f226 i_terrainIndex_1_ir [(3, cB r)] [] glL Tryz.func226 ?_
 refine so [] [] [(1, .c (.pd (eS p1) 0)), (2, pk 2)] [(2, va (eTTerrain p0))] id ?_
 refine so [] [] [(3, cB (p0.Name == p1))] [] id ?_
 refine ends_ret ?_
 cases H
 exact And.intro (.inl rfl) rfl
def i_terrainIndex_ir : S :=
 (.seq (.ops [o 3 (.box 1 (.t 1)), o 4 (.mv (.v (.int .i64 0)))])
 (.seq (.ops [o 5 (.mv (.t 0)), o 6 (.clo 226 [.t 3]), o 7 (.call 225 [.t 5, .t 6]), o 4 (.mv (.t 7))])
 .ret))
noncomputable def X.i_terrainIndex (p0 : (List TTerrain)) (p1 : (List UInt8)) : Option Int :=
 ((X.g_IndexFunc_Terrain p0 (fun q0 => X.i_terrainIndex_1 q0 p1)).bind fun v1 => some v1)
theorem i_terrainIndex_ok (p0 : (List TTerrain)) (p1 : (List UInt8)) (r : Int) (H : X.i_terrainIndex p0 p1 = some r) : FnOk Tryz.prog gl 214 [.c (dat 5 eTTerrain zTTerrain p0), .c (.str p1)] (cI r) := by
 unfold X.i_terrainIndex at H
 refine fi Tryz.f214 i_terrainIndex_ir [(4, cI r)] [] glL Tryz.func214 ?_
 refine so [] [] [(0, dc 5 eTTerrain zTTerrain p0), (3, pk 3)] [(3, .var [.str p1] false)] id ?_
 obtain ⟨v1, h2, H⟩ := ofBind H
 refine so [.res (cI v1)] [] [(4, cI v1)] [] (fun t => aI (g_IndexFunc_Terrain_c1_ok p0 (226) (eS p1) (fun q0 => X.i_terrainIndex_1 q0 p1) (fun q0 r h => i_terrainIndex_1_ok q0 p1 r h) v1 h2) (t)) ?_
 refine ends_ret ?_
 cases H
 exact And.intro (.inl rfl) rfl
def i_goodKind_ir : S :=
 (.seq (.ops [o 1 (.box 6 (.t 0)), o 2 (.mv (.v (.bool false)))])
 (.seq (.ops [o 3 (.fad 0 (.t 1)), o 4 (.load 1 false (.t 3)), o 5 (.call 223 [.t 4]), o 6 (.mv (.t 5)), ⟨some 7, .fad 1 (.t 1), some (6, true)⟩, ⟨some 8, .load 1 false (.t 7), some (6, true)⟩, ⟨some 9, .call 145 [.t 8, .v (.int .i64 1), .v (.int .i64 9)], some (6, true)⟩, o 10 (.pick (.t 6) (.t 9) (.v (.bool false))), o 11 (.mv (.t 10)), ⟨some 12, .fad 2 (.t 1), some (11, true)⟩, ⟨some 13, .load 1 false (.t 12), some (11, true)⟩, ⟨some 14, .call 145 [.t 13, .v (.int .i64 0), .v (.int .i64 9)], some (11, true)⟩, o 15 (.pick (.t 11) (.t 14) (.v (.bool false))), o 16 (.mv (.t 15)), ⟨some 17, .fad 3 (.t 1), some (16, true)⟩, ⟨some 18, .load 1 false (.t 17), some (16, true)⟩, ⟨some 19, .call 145 [.t 18, .v (.int .i64 1), .v (.int .i64 4)], some (16, true)⟩, o 20 (.pick (.t 16) (.t 19) (.v (.bool false))), o 21 (.mv (.t 20)), ⟨some 22, .fad 5 (.t 1), some (21, true)⟩, ⟨some 23, .load 1 false (.t 22), some (21, true)⟩, ⟨some 24, .call 145 [.t 23, .v (.int .i64 0), .v (.int .i64 4)], some (21, true)⟩, o 25 (.pick (.t 21) (.t 24) (.v (.bool false))), o 2 (.mv (.t 25))])
 .ret))
noncomputable def X.i_goodKind (p0 : TKind) : Option Bool :=
 ((X.i_isName p0.Name).bind fun v1 => (bif v1 then ((X.i_inRange p0.Strength 1 9).bind fun v4 => (bif v4 then ((X.i_inRange p0.Moves 0 9).bind fun v7 => (bif v7 then ((X.i_inRange p0.Steps 1 4).bind fun v10 => (bif v10 then ((X.i_inRange p0.View 0 4).bind fun v13 => some v13) else some false)) else some false)) else some false)) else some false))
theorem i_goodKind_ok (p0 : TKind) (r : Bool) (H : X.i_goodKind p0 = some r) : FnOk Tryz.prog gl 215 [.agg (eTKind p0)] (cB r) := by
 unfold X.i_goodKind at H
 refine fi Tryz.f215 i_goodKind_ir [(2, cB r)] [] glL Tryz.func215 ?_
 refine so [] [] [(1, pk 1)] [(1, va (eTKind p0))] id ?_
 obtain ⟨v1, h2, H⟩ := ofBind H
 rcases ofCond H with ⟨c3, H⟩ | ⟨c3, H⟩
 ·obtain ⟨v4, h5, H⟩ := ofBind H
  rcases ofCond H with ⟨c6, H⟩ | ⟨c6, H⟩
  ·obtain ⟨v7, h8, H⟩ := ofBind H
   rcases ofCond H with ⟨c9, H⟩ | ⟨c9, H⟩
   ·obtain ⟨v10, h11, H⟩ := ofBind H
    rcases ofCond H with ⟨c12, H⟩ | ⟨c12, H⟩
    ·obtain ⟨v13, h14, H⟩ := ofBind H
     refine so [.res (cB v1), .g true, .g true, .g true, .res (cB v4), .g true, .g true, .g true, .g true, .res (cB v7), .g true, .g true, .g true, .g true, .res (cB v10), .g true, .g true, .g true, .g true, .res (cB v13), .g true] [] [(2, cB v13)] [] (fun t => aI (i_isName_ok p0.Name v1 h2) (aI c3 (aI c3 (aI c3 (aI (i_inRange_ok p0.Strength 1 9 v4 h5) (aI c3 (aI c6 (aI c6 (aI c6 (aI (i_inRange_ok p0.Moves 0 9 v7 h8) (aI c6 (aI c9 (aI c9 (aI c9 (aI (i_inRange_ok p0.Steps 1 4 v10 h11) (aI c9 (aI c12 (aI c12 (aI c12 (aI (i_inRange_ok p0.View 0 4 v13 h14) (aI c12 (t)))))))))))))))))))))) ?_
     refine ends_ret ?_
     cases H
     exact And.intro (.inl rfl) rfl
    ·refine so [.res (cB v1), .g true, .g true, .g true, .res (cB v4), .g true, .g true, .g true, .g true, .res (cB v7), .g true, .g true, .g true, .g true, .res (cB v10), .g true, .g false, .g false, .g false, .g false] [] [(2, cB false)] [] (fun t => aI (i_isName_ok p0.Name v1 h2) (aI c3 (aI c3 (aI c3 (aI (i_inRange_ok p0.Strength 1 9 v4 h5) (aI c3 (aI c6 (aI c6 (aI c6 (aI (i_inRange_ok p0.Moves 0 9 v7 h8) (aI c6 (aI c9 (aI c9 (aI c9 (aI (i_inRange_ok p0.Steps 1 4 v10 h11) (aI c9 (aI c12 (aI c12 (aI c12 (aI c12 (t))))))))))))))))))))) ?_
     refine ends_ret ?_
     cases H
     exact And.intro (.inl rfl) rfl
   ·refine so [.res (cB v1), .g true, .g true, .g true, .res (cB v4), .g true, .g true, .g true, .g true, .res (cB v7), .g true, .g false, .g false, .g false, .g false, .g false, .g false, .g false, .g false] [] [(2, cB false)] [] (fun t => aI (i_isName_ok p0.Name v1 h2) (aI c3 (aI c3 (aI c3 (aI (i_inRange_ok p0.Strength 1 9 v4 h5) (aI c3 (aI c6 (aI c6 (aI c6 (aI (i_inRange_ok p0.Moves 0 9 v7 h8) (aI c6 (aI c9 (aI c9 (aI c9 (aI c9 (aI (rfl : (false : Bool) = false) (aI (rfl : (false : Bool) = false) (aI (rfl : (false : Bool) = false) (aI (rfl : (false : Bool) = false) (t)))))))))))))))))))) ?_
    refine ends_ret ?_
    cases H
    exact And.intro (.inl rfl) rfl
  ·refine so [.res (cB v1), .g true, .g true, .g true, .res (cB v4), .g true, .g false, .g false, .g false, .g false, .g false, .g false, .g false, .g false, .g false, .g false, .g false, .g false] [] [(2, cB false)] [] (fun t => aI (i_isName_ok p0.Name v1 h2) (aI c3 (aI c3 (aI c3 (aI (i_inRange_ok p0.Strength 1 9 v4 h5) (aI c3 (aI c6 (aI c6 (aI c6 (aI c6 (aI (rfl : (false : Bool) = false) (aI (rfl : (false : Bool) = false) (aI (rfl : (false : Bool) = false) (aI (rfl : (false : Bool) = false) (aI (rfl : (false : Bool) = false) (aI (rfl : (false : Bool) = false) (aI (rfl : (false : Bool) = false) (aI (rfl : (false : Bool) = false) (t))))))))))))))))))) ?_
   refine ends_ret ?_
   cases H
   exact And.intro (.inl rfl) rfl
 ·refine so [.res (cB v1), .g false, .g false, .g false, .g false, .g false, .g false, .g false, .g false, .g false, .g false, .g false, .g false, .g false, .g false, .g false, .g false] [] [(2, cB false)] [] (fun t => aI (i_isName_ok p0.Name v1 h2) (aI c3 (aI c3 (aI c3 (aI c3 (aI (rfl : (false : Bool) = false) (aI (rfl : (false : Bool) = false) (aI (rfl : (false : Bool) = false) (aI (rfl : (false : Bool) = false) (aI (rfl : (false : Bool) = false) (aI (rfl : (false : Bool) = false) (aI (rfl : (false : Bool) = false) (aI (rfl : (false : Bool) = false) (aI (rfl : (false : Bool) = false) (aI (rfl : (false : Bool) = false) (aI (rfl : (false : Bool) = false) (aI (rfl : (false : Bool) = false) (t)))))))))))))))))) ?_
  refine ends_ret ?_
  cases H
  exact And.intro (.inl rfl) rfl
def g_IndexFunc_Kind_ir : S :=
 (.seq (.ops [o 4 (.mv (.v (.int .i64 0)))])
 (.seq (.seq (.ops [o 6 (.mv (.t 0)), o 7 (.len (.t 6)), o 8 (.mv (.v (.int .i64 0)))])
 (.blk 0 (.loop (.seq (.ops [o 9 (.bin .lss (.t 8) (.t 7))])
   (.seq (.ite (.t 9) .skip
   (.exit 0))
   (.seq (.blk 1 (.seq (.ops [o 10 (.mv (.t 8)), o 5 (.mv (.t 10))])
    (.seq (.ops [o 11 (.mv (.t 1)), o 12 (.mv (.t 0)), o 13 (.mv (.t 5)), o 14 (.iad 6 (.t 12) (.t 13)), o 15 (.load 6 true (.t 14)), o 16 (.cald (.t 11) [.t 15])])
    (.ite (.t 16) (.seq (.ops [o 17 (.mv (.t 5)), o 4 (.mv (.t 17))])
     .ret)
    .skip))))
   (.ops [o 18 (.bin .add (.t 8) (.v (.int .i64 1))), o 8 (.mv (.t 18))])))))))
 (.seq (.ops [o 4 (.mv (.v (.int .i64 (-1))))])
 .ret)))
noncomputable def X.g_IndexFunc_Kind (p0 : (List TKind)) (f1 : TKind → Option Bool) : Option Int :=
 ((loop (fun (x16 : Int) => ((bif (decide (x16 < (p0.length : Int))) then ((at' zTKind p0 x16).bind fun v19 => ((f1 v19).bind fun v21 => (bif v21 then some (Sum.inr (Sum.inr x16)) else some (Sum.inl (W (x16 + 1)))))) else some (Sum.inr (Sum.inl ()))) : Option (Int ⊕ (Unit ⊕ Int)))) 0).bind fun y24 => (Sum.elim (fun (y26 : Unit) => some (-1)) (fun (y27 : Int) => some y27) y24))
theorem g_IndexFunc_Kind_c1_ok (p0 : (List TKind)) (cf1 : FuncId) (cs1_0 : List AC) (f1 : TKind → Option Bool) (hf1 : ∀ q0 r, f1 q0 = some r → FnOk Tryz.prog gl cf1 [.agg (eTKind q0), .c (.pd cs1_0 0)] (cB r)) (r : Int) (H : X.g_IndexFunc_Kind p0 f1 = some r) : FnOk Tryz.prog gl 227 [.c (dat 6 eTKind zTKind p0), .c (.clo cf1 [.pd cs1_0 0])] (cI r) := by
 unfold X.g_IndexFunc_Kind at H
 refine fi Tryz.f227 g_IndexFunc_Kind_ir [(4, cI r)] [] glL Tryz.func227 ?_
 refine so [] [] [(0, dc 6 eTKind zTKind p0), (1, .c (.clo cf1 [.pd cs1_0 0]))] [] id ?_
 refine seq_in ?_
 refine so [] [] [(0, dc 6 eTKind zTKind p0), (1, .c (.clo cf1 [.pd cs1_0 0])), (7, cI (p0.length : Int)), (8, cI 0)] [] (fun t => lI p0 (t)) ?_
 refine ends_blk ?_
 obtain ⟨y24, h25, H⟩ := ofBind H
 refine loop_in (fun (x : Int) => lit [(0, dc 6 eTKind zTKind p0), (1, .c (.clo cf1 [.pd cs1_0 0])), (7, cI (p0.length : Int)), (8, cI x)] []) (orJ (fun (z : Unit) => At (.exit 0) (lit [] [])) (fun (z : Int) => At .ret (lit [(4, cI z)] []))) h25 ?_ ?_
 ·clear H h25
  intro x16 y0 H
  refine so [] [] [(0, dc 6 eTKind zTKind p0), (1, .c (.clo cf1 [.pd cs1_0 0])), (7, cI (p0.length : Int)), (8, cI x16), (9, cB (decide (x16 < (p0.length : Int))))] [] id ?_
  refine seq_in ?_
  rcases ofCond H with ⟨c18, H⟩ | ⟨c18, H⟩
  ·refine it c18 ?_
   refine sk ?_
   refine seq_in ?_
   refine ends_blk ?_
   refine so [] [] [(0, dc 6 eTKind zTKind p0), (1, .c (.clo cf1 [.pd cs1_0 0])), (5, cI x16), (7, cI (p0.length : Int)), (8, cI x16)] [] id ?_
   obtain ⟨v19, h20, H⟩ := ofBind H
   obtain ⟨v21, h22, H⟩ := ofBind H
   refine so [.cs (eTKind v19), .res (cB v21)] [] [(0, dc 6 eTKind zTKind p0), (1, .c (.clo cf1 [.pd cs1_0 0])), (5, cI x16), (7, cI (p0.length : Int)), (8, cI x16), (16, cB v21)] [] (fun t => aI (at_lt h20) (aI (at_enc (enc := eTKind) h20) (aI (hf1 v19 v21 h22) (t)))) ?_
   rcases ofCond H with ⟨c23, H⟩ | ⟨c23, H⟩
   ·refine it c23 ?_
    refine so [] [] [(4, cI x16)] [] id ?_
    refine ends_ret ?_
    cases H
    exact And.intro (by simp) (And.intro rfl rfl)
   ·refine jf c23 ?_
    refine sk ?_
    refine oo [] [] [(0, dc 6 eTKind zTKind p0), (1, .c (.clo cf1 [.pd cs1_0 0])), (7, cI (p0.length : Int)), (8, cI (W (x16 + 1)))] [] id ?_
    cases H
    exact And.intro rfl rfl
  ·refine jf c18 ?_
   refine tl [] [] [] id ?_
   refine ends_exit ?_
   cases H
   exact And.intro (by simp) (And.intro rfl rfl)
 ·clear h25
  cases y24 with
  | inl y26 =>
   replace H := ofInl H
   intro e s q
   obtain ⟨rfl, rfl⟩ := q
   change EndsI _ _ _ _ _ _
   refine so [] [] [(4, cI (-1))] [] id ?_
   refine ends_ret ?_
   cases H
   exact And.intro (.inl rfl) rfl
  | inr y27 =>
   replace H := ofInr H
   intro e s q
   obtain ⟨rfl, rfl⟩ := q
   cases H
   exact And.intro (.inl rfl) rfl
def i_kindIndex_1_ir : S :=
 (.seq (.ops [o 2 (.box 6 (.t 0)), o 3 (.mv (.v (.bool false)))])
 (.seq (.ops [o 4 (.fad 0 (.t 2)), o 5 (.load 1 false (.t 4)), o 6 (.load 1 false (.t 1)), o 7 (.bin .eql (.t 5) (.t 6)), o 3 (.mv (.t 7))])
 .ret))
noncomputable def X.i_kindIndex_1 (p0 : TKind) (p1 : (List UInt8)) : Option Bool :=
 some (p0.Name == p1)
theorem i_kindIndex_1_ok (p0 : TKind) (p1 : (List UInt8)) (r : Bool) (H : X.i_kindIndex_1 p0 p1 = some r) : FnOk Tryz.prog gl 228 [.agg (eTKind p0), .c (.pd (eS p1) 0)] (cB r) := by
 unfold X.i_kindIndex_1 at H
 refine fi Tryz.f228 i_kindIndex_1_ir [(3, cB r)] [] glL Tryz.func228 ?_
 refine so [] [] [(1, .c (.pd (eS p1) 0)), (2, pk 2)] [(2, va (eTKind p0))] id ?_
 refine so [] [] [(3, cB (p0.Name == p1))] [] id ?_
 refine ends_ret ?_
 cases H
 exact And.intro (.inl rfl) rfl
def i_kindIndex_ir : S :=
 (.seq (.ops [o 3 (.box 1 (.t 1)), o 4 (.mv (.v (.int .i64 0)))])
 (.seq (.ops [o 5 (.mv (.t 0)), o 6 (.clo 228 [.t 3]), o 7 (.call 227 [.t 5, .t 6]), o 4 (.mv (.t 7))])
 .ret))
noncomputable def X.i_kindIndex (p0 : (List TKind)) (p1 : (List UInt8)) : Option Int :=
 ((X.g_IndexFunc_Kind p0 (fun q0 => X.i_kindIndex_1 q0 p1)).bind fun v1 => some v1)
theorem i_kindIndex_ok (p0 : (List TKind)) (p1 : (List UInt8)) (r : Int) (H : X.i_kindIndex p0 p1 = some r) : FnOk Tryz.prog gl 216 [.c (dat 6 eTKind zTKind p0), .c (.str p1)] (cI r) := by
 unfold X.i_kindIndex at H
 refine fi Tryz.f216 i_kindIndex_ir [(4, cI r)] [] glL Tryz.func216 ?_
 refine so [] [] [(0, dc 6 eTKind zTKind p0), (3, pk 3)] [(3, .var [.str p1] false)] id ?_
 obtain ⟨v1, h2, H⟩ := ofBind H
 refine so [.res (cI v1)] [] [(4, cI v1)] [] (fun t => aI (g_IndexFunc_Kind_c1_ok p0 (228) (eS p1) (fun q0 => X.i_kindIndex_1 q0 p1) (fun q0 r h => i_kindIndex_1_ok q0 p1 r h) v1 h2) (t)) ?_
 refine ends_ret ?_
 cases H
 exact And.intro (.inl rfl) rfl
def i_IsRules_ir : S :=
 (.seq (.ops [o 1 (.box 7 (.t 0)), o 2 (.mv (.v (.bool false)))])
 (.seq (.seq (.ops [o 7 (.fad 0 (.t 1)), o 8 (.load 1 false (.t 7)), o 9 (.len (.t 8)), o 10 (.call 145 [.t 9, .v (.int .i64 1), .v (.int .i64 6)]), o 11 (.not (.t 10)), o 12 (.mv (.t 11)), ⟨some 13, .fad 1 (.t 1), some (12, false)⟩, ⟨some 14, .load 1 false (.t 13), some (12, false)⟩, ⟨some 15, .len (.t 14), some (12, false)⟩, ⟨some 16, .call 145 [.t 15, .v (.int .i64 1), .v (.int .i64 4)], some (12, false)⟩, ⟨some 17, .not (.t 16), some (12, false)⟩, o 18 (.pick (.t 12) (.v (.bool true)) (.t 17))])
 (.ite (.t 18) (.seq (.ops [o 2 (.mv (.v (.bool false)))])
  .ret)
 .skip))
 (.seq (.seq (.ops [o 19 (.fad 0 (.t 1)), o 20 (.load 1 false (.t 19)), o 21 (.len (.t 20)), o 22 (.mv (.v (.int .i64 0)))])
 (.blk 0 (.loop (.seq (.ops [o 23 (.bin .lss (.t 22) (.t 21))])
   (.seq (.ite (.t 23) .skip
   (.exit 0))
   (.seq (.blk 1 (.seq (.ops [o 24 (.mv (.t 22)), o 25 (.iad 5 (.t 20) (.t 22)), o 26 (.load 5 true (.t 25)), o 4 (.alloc [.str [], .nil, .int .i64 0, .int .i64 0, .bool false]), o 3 (.mv (.t 24)), ⟨none, .store 5 (.t 4) (.t 26), none⟩])
    (.seq (.ops [o 27 (.load 5 true (.t 4)), o 28 (.fad 1 (.t 1)), o 29 (.load 1 false (.t 28)), o 30 (.len (.t 29)), o 31 (.call 213 [.t 27, .t 30]), o 32 (.not (.t 31)), o 33 (.mv (.t 32)), ⟨some 34, .fad 0 (.t 1), some (33, false)⟩, ⟨some 35, .load 1 false (.t 34), some (33, false)⟩, ⟨some 36, .fad 0 (.t 4), some (33, false)⟩, ⟨some 37, .load 1 false (.t 36), some (33, false)⟩, ⟨some 38, .call 214 [.t 35, .t 37], some (33, false)⟩, ⟨some 39, .mv (.t 3), some (33, false)⟩, ⟨some 40, .bin .neq (.t 38) (.t 39), some (33, false)⟩, o 41 (.pick (.t 33) (.v (.bool true)) (.t 40))])
    (.ite (.t 41) (.seq (.ops [o 2 (.mv (.v (.bool false)))])
     .ret)
    .skip))))
   (.ops [o 42 (.bin .add (.t 22) (.v (.int .i64 1))), o 22 (.mv (.t 42))])))))))
 (.seq (.seq (.ops [o 43 (.fad 1 (.t 1)), o 44 (.load 1 false (.t 43)), o 45 (.len (.t 44)), o 46 (.mv (.v (.int .i64 0)))])
 (.blk 2 (.loop (.seq (.ops [o 47 (.bin .lss (.t 46) (.t 45))])
   (.seq (.ite (.t 47) .skip
   (.exit 2))
   (.seq (.blk 3 (.seq (.ops [o 48 (.mv (.t 46)), o 49 (.iad 6 (.t 44) (.t 46)), o 50 (.load 6 true (.t 49)), o 6 (.alloc [.str [], .int .i64 0, .int .i64 0, .int .i64 0, .bool false, .int .i64 0]), o 5 (.mv (.t 48)), ⟨none, .store 6 (.t 6) (.t 50), none⟩])
    (.seq (.ops [o 51 (.load 6 true (.t 6)), o 52 (.call 215 [.t 51]), o 53 (.not (.t 52)), o 54 (.mv (.t 53)), ⟨some 55, .fad 1 (.t 1), some (54, false)⟩, ⟨some 56, .load 1 false (.t 55), some (54, false)⟩, ⟨some 57, .fad 0 (.t 6), some (54, false)⟩, ⟨some 58, .load 1 false (.t 57), some (54, false)⟩, ⟨some 59, .call 216 [.t 56, .t 58], some (54, false)⟩, ⟨some 60, .mv (.t 5), some (54, false)⟩, ⟨some 61, .bin .neq (.t 59) (.t 60), some (54, false)⟩, o 62 (.pick (.t 54) (.v (.bool true)) (.t 61))])
    (.ite (.t 62) (.seq (.ops [o 2 (.mv (.v (.bool false)))])
     .ret)
    .skip))))
   (.ops [o 63 (.bin .add (.t 46) (.v (.int .i64 1))), o 46 (.mv (.t 63))])))))))
 (.seq (.ops [o 64 (.fad 2 (.t 1)), o 65 (.load 1 false (.t 64)), o 66 (.call 145 [.t 65, .v (.int .i64 1), .v (.int .i64 4)]), o 67 (.mv (.t 66)), ⟨some 68, .fad 3 (.t 1), some (67, true)⟩, ⟨some 69, .load 1 false (.t 68), some (67, true)⟩, ⟨some 70, .call 145 [.t 69, .v (.int .i64 0), .v (.int .i64 9)], some (67, true)⟩, o 71 (.pick (.t 67) (.t 70) (.v (.bool false))), o 72 (.mv (.t 71)), ⟨some 73, .fad 4 (.t 1), some (72, true)⟩, ⟨some 74, .load 1 false (.t 73), some (72, true)⟩, ⟨some 75, .call 145 [.t 74, .v (.int .i64 1), .v (.int .i64 9)], some (72, true)⟩, o 76 (.pick (.t 72) (.t 75) (.v (.bool false))), o 77 (.mv (.t 76)), ⟨some 78, .fad 5 (.t 1), some (77, true)⟩, ⟨some 79, .load 1 false (.t 78), some (77, true)⟩, ⟨some 80, .call 145 [.t 79, .v (.int .i64 0), .v (.int .i64 20)], some (77, true)⟩, o 81 (.pick (.t 77) (.t 80) (.v (.bool false))), o 82 (.mv (.t 81)), ⟨some 83, .fad 6 (.t 1), some (82, true)⟩, ⟨some 84, .load 1 false (.t 83), some (82, true)⟩, ⟨some 85, .call 145 [.t 84, .v (.int .i64 1), .v (.int .i64 30)], some (82, true)⟩, o 86 (.pick (.t 82) (.t 85) (.v (.bool false))), o 2 (.mv (.t 86))])
 .ret)))))
noncomputable def X.i_IsRules (p0 : TRules) : Option Bool :=
 ((X.i_inRange (p0.Terrains.length : Int) 1 6).bind fun v7 => (bif (!v7) then some false else ((X.i_inRange (p0.Kinds.length : Int) 1 4).bind fun v10 => (bif (!v10) then some false else ((loop (fun (x70 : Int) => ((bif (decide (x70 < (p0.Terrains.length : Int))) then ((at' zTTerrain p0.Terrains x70).bind fun v73 => ((X.i_goodTerrain v73 (p0.Kinds.length : Int)).bind fun v75 => (bif (!v75) then some (Sum.inr (Sum.inr false)) else ((X.i_terrainIndex p0.Terrains v73.Name).bind fun v78 => (bif (v78 != x70) then some (Sum.inr (Sum.inr false)) else some (Sum.inl (W (x70 + 1)))))))) else some (Sum.inr (Sum.inl ()))) : Option (Int ⊕ (Unit ⊕ Bool)))) 0).bind fun y81 => (Sum.elim (fun (y83 : Unit) => ((loop (fun (x142 : Int) => ((bif (decide (x142 < (p0.Kinds.length : Int))) then ((at' zTKind p0.Kinds x142).bind fun v145 => ((X.i_goodKind v145).bind fun v147 => (bif (!v147) then some (Sum.inr (Sum.inr false)) else ((X.i_kindIndex p0.Kinds v145.Name).bind fun v150 => (bif (v150 != x142) then some (Sum.inr (Sum.inr false)) else some (Sum.inl (W (x142 + 1)))))))) else some (Sum.inr (Sum.inl ()))) : Option (Int ⊕ (Unit ⊕ Bool)))) 0).bind fun y153 => (Sum.elim (fun (y155 : Unit) => ((X.i_inRange p0.Stack 1 4).bind fun v157 => (bif v157 then ((X.i_inRange p0.River 0 9).bind fun v160 => (bif v160 then ((X.i_inRange p0.Road 1 9).bind fun v163 => (bif v163 then ((X.i_inRange p0.Supply 0 20).bind fun v166 => (bif v166 then ((X.i_inRange p0.Turns 1 30).bind fun v169 => some v169) else some false)) else some false)) else some false)) else some false))) (fun (y156 : Bool) => some y156) y153))) (fun (y84 : Bool) => some y84) y81))))))
theorem i_IsRules_ok (p0 : TRules) (r : Bool) (H : X.i_IsRules p0 = some r) : FnOk Tryz.prog gl 193 [.agg (eTRules p0)] (cB r) := by
 unfold X.i_IsRules at H
 refine fi Tryz.f193 i_IsRules_ir [(2, cB r)] [] glL Tryz.func193 ?_
 refine so [] [] [(1, pk 1)] [(1, va (eTRules p0))] id ?_
 refine seq_in ?_
 obtain ⟨v7, h8, H⟩ := ofBind H
 rcases ofCond H with ⟨c9, H⟩ | ⟨c9, H⟩
 ·refine so [.res (cB v7), .g true, .g true, .g true, .g true, .g true, .g true] [] [(1, pk 1), (18, cB true)] [(1, va (eTRules p0))] (fun t => lI p0.Terrains (aI (i_inRange_ok (p0.Terrains.length : Int) 1 6 v7 h8) (aI c9 (aI c9 (aI c9 (aI c9 (aI c9 (aI c9 (t))))))))) ?_
  refine it (rfl : (true : Bool) = true) ?_
  refine so [] [] [(2, cB false)] [] id ?_
  refine ends_ret ?_
  cases H
  exact And.intro (.inl rfl) rfl
 ·obtain ⟨v10, h11, H⟩ := ofBind H
  refine so [.res (cB v7), .g false, .g false, .g false, .g false, .res (cB v10), .g false, .g false] [] [(1, pk 1), (18, cB (!v10))] [(1, va (eTRules p0))] (fun t => lI p0.Terrains (aI (i_inRange_ok (p0.Terrains.length : Int) 1 6 v7 h8) (aI c9 (aI c9 (aI c9 (lI p0.Kinds (aI c9 (aI (i_inRange_ok (p0.Kinds.length : Int) 1 4 v10 h11) (aI c9 (aI c9 (t))))))))))) ?_
  rcases ofCond H with ⟨c12, H⟩ | ⟨c12, H⟩
  ·refine it c12 ?_
   refine so [] [] [(2, cB false)] [] id ?_
   refine ends_ret ?_
   cases H
   exact And.intro (.inl rfl) rfl
  ·refine jf c12 ?_
   refine sk ?_
   refine seq_in ?_
   refine so [] [] [(1, pk 1), (20, dc 5 eTTerrain zTTerrain p0.Terrains), (21, cI (p0.Terrains.length : Int)), (22, cI 0)] [(1, va (eTRules p0))] (fun t => lI p0.Terrains (t)) ?_
   refine ends_blk ?_
   obtain ⟨y81, h82, H⟩ := ofBind H
   refine loop_in (fun (x : Int) => lit [(1, pk 1), (20, dc 5 eTTerrain zTTerrain p0.Terrains), (21, cI (p0.Terrains.length : Int)), (22, cI x)] [(1, va (eTRules p0))]) (orJ (fun (z : Unit) => At (.exit 0) (lit [(1, pk 1)] [(1, va (eTRules p0))])) (fun (z : Bool) => At .ret (lit [(2, cB z)] []))) h82 ?_ ?_
   ·clear H h82
    intro x70 y0 H
    refine so [] [] [(1, pk 1), (20, dc 5 eTTerrain zTTerrain p0.Terrains), (21, cI (p0.Terrains.length : Int)), (22, cI x70), (23, cB (decide (x70 < (p0.Terrains.length : Int))))] [(1, va (eTRules p0))] id ?_
    refine seq_in ?_
    rcases ofCond H with ⟨c72, H⟩ | ⟨c72, H⟩
    ·refine it c72 ?_
     refine sk ?_
     refine seq_in ?_
     refine ends_blk ?_
     obtain ⟨v73, h74, H⟩ := ofBind H
     refine so [.cs (eTTerrain v73)] [] [(1, pk 1), (3, cI x70), (4, pk 4), (20, dc 5 eTTerrain zTTerrain p0.Terrains), (21, cI (p0.Terrains.length : Int)), (22, cI x70)] [(1, va (eTRules p0)), (4, va (eTTerrain v73))] (fun t => aI (at_lt h74) (aI (at_enc (enc := eTTerrain) h74) (t))) ?_
     obtain ⟨v75, h76, H⟩ := ofBind H
     rcases ofCond H with ⟨c77, H⟩ | ⟨c77, H⟩
     ·refine so [.res (cB v75), .g true, .g true, .g true, .g true, .g true, .g true, .g true, .g true] [] [(1, pk 1), (20, dc 5 eTTerrain zTTerrain p0.Terrains), (21, cI (p0.Terrains.length : Int)), (22, cI x70), (41, cB true)] [(1, va (eTRules p0))] (fun t => lI p0.Kinds (aI (i_goodTerrain_ok v73 (p0.Kinds.length : Int) v75 h76) (aI c77 (aI c77 (aI c77 (aI c77 (aI c77 (aI c77 (aI c77 (aI c77 (t))))))))))) ?_
      refine it (rfl : (true : Bool) = true) ?_
      refine so [] [] [(2, cB false)] [] id ?_
      refine ends_ret ?_
      cases H
      exact And.intro (by simp) (And.intro rfl rfl)
     ·obtain ⟨v78, h79, H⟩ := ofBind H
      refine so [.res (cB v75), .g false, .g false, .g false, .g false, .g false, .res (cI v78), .g false, .g false, .g false] [] [(1, pk 1), (20, dc 5 eTTerrain zTTerrain p0.Terrains), (21, cI (p0.Terrains.length : Int)), (22, cI x70), (41, cB (v78 != x70))] [(1, va (eTRules p0))] (fun t => lI p0.Kinds (aI (i_goodTerrain_ok v73 (p0.Kinds.length : Int) v75 h76) (aI c77 (aI c77 (aI c77 (aI c77 (aI c77 (aI (i_terrainIndex_ok p0.Terrains v73.Name v78 h79) (aI c77 (aI c77 (aI c77 (t)))))))))))) ?_
      rcases ofCond H with ⟨c80, H⟩ | ⟨c80, H⟩
      ·refine it c80 ?_
       refine so [] [] [(2, cB false)] [] id ?_
       refine ends_ret ?_
       cases H
       exact And.intro (by simp) (And.intro rfl rfl)
      ·refine jf c80 ?_
       refine sk ?_
       refine oo [] [] [(1, pk 1), (20, dc 5 eTTerrain zTTerrain p0.Terrains), (21, cI (p0.Terrains.length : Int)), (22, cI (W (x70 + 1)))] [(1, va (eTRules p0))] id ?_
       cases H
       exact And.intro rfl rfl
    ·refine jf c72 ?_
     refine tl [] [(1, pk 1)] [(1, va (eTRules p0))] id ?_
     refine ends_exit ?_
     cases H
     exact And.intro (by simp) (And.intro rfl rfl)
   ·clear h82
    cases y81 with
    | inl y83 =>
     replace H := ofInl H
     intro e s q
     obtain ⟨rfl, rfl⟩ := q
     change EndsI _ _ _ _ _ _
     refine seq_in ?_
     refine so [] [] [(1, pk 1), (44, dc 6 eTKind zTKind p0.Kinds), (45, cI (p0.Kinds.length : Int)), (46, cI 0)] [(1, va (eTRules p0))] (fun t => lI p0.Kinds (t)) ?_
     refine ends_blk ?_
     obtain ⟨y153, h154, H⟩ := ofBind H
     refine loop_in (fun (x : Int) => lit [(1, pk 1), (44, dc 6 eTKind zTKind p0.Kinds), (45, cI (p0.Kinds.length : Int)), (46, cI x)] [(1, va (eTRules p0))]) (orJ (fun (z : Unit) => At (.exit 2) (lit [(1, pk 1)] [(1, va (eTRules p0))])) (fun (z : Bool) => At .ret (lit [(2, cB z)] []))) h154 ?_ ?_
     ·clear H h154
      intro x142 y0 H
      refine so [] [] [(1, pk 1), (44, dc 6 eTKind zTKind p0.Kinds), (45, cI (p0.Kinds.length : Int)), (46, cI x142), (47, cB (decide (x142 < (p0.Kinds.length : Int))))] [(1, va (eTRules p0))] id ?_
      refine seq_in ?_
      rcases ofCond H with ⟨c144, H⟩ | ⟨c144, H⟩
      ·refine it c144 ?_
       refine sk ?_
       refine seq_in ?_
       refine ends_blk ?_
       obtain ⟨v145, h146, H⟩ := ofBind H
       refine so [.cs (eTKind v145)] [] [(1, pk 1), (5, cI x142), (6, pk 6), (44, dc 6 eTKind zTKind p0.Kinds), (45, cI (p0.Kinds.length : Int)), (46, cI x142)] [(1, va (eTRules p0)), (6, va (eTKind v145))] (fun t => aI (at_lt h146) (aI (at_enc (enc := eTKind) h146) (t))) ?_
       obtain ⟨v147, h148, H⟩ := ofBind H
       rcases ofCond H with ⟨c149, H⟩ | ⟨c149, H⟩
       ·refine so [.res (cB v147), .g true, .g true, .g true, .g true, .g true, .g true, .g true, .g true] [] [(1, pk 1), (44, dc 6 eTKind zTKind p0.Kinds), (45, cI (p0.Kinds.length : Int)), (46, cI x142), (62, cB true)] [(1, va (eTRules p0))] (fun t => aI (i_goodKind_ok v145 v147 h148) (aI c149 (aI c149 (aI c149 (aI c149 (aI c149 (aI c149 (aI c149 (aI c149 (t)))))))))) ?_
        refine it (rfl : (true : Bool) = true) ?_
        refine so [] [] [(2, cB false)] [] id ?_
        refine ends_ret ?_
        cases H
        exact And.intro (by simp) (And.intro rfl rfl)
       ·obtain ⟨v150, h151, H⟩ := ofBind H
        refine so [.res (cB v147), .g false, .g false, .g false, .g false, .g false, .res (cI v150), .g false, .g false, .g false] [] [(1, pk 1), (44, dc 6 eTKind zTKind p0.Kinds), (45, cI (p0.Kinds.length : Int)), (46, cI x142), (62, cB (v150 != x142))] [(1, va (eTRules p0))] (fun t => aI (i_goodKind_ok v145 v147 h148) (aI c149 (aI c149 (aI c149 (aI c149 (aI c149 (aI (i_kindIndex_ok p0.Kinds v145.Name v150 h151) (aI c149 (aI c149 (aI c149 (t))))))))))) ?_
        rcases ofCond H with ⟨c152, H⟩ | ⟨c152, H⟩
        ·refine it c152 ?_
         refine so [] [] [(2, cB false)] [] id ?_
         refine ends_ret ?_
         cases H
         exact And.intro (by simp) (And.intro rfl rfl)
        ·refine jf c152 ?_
         refine sk ?_
         refine oo [] [] [(1, pk 1), (44, dc 6 eTKind zTKind p0.Kinds), (45, cI (p0.Kinds.length : Int)), (46, cI (W (x142 + 1)))] [(1, va (eTRules p0))] id ?_
         cases H
         exact And.intro rfl rfl
      ·refine jf c144 ?_
       refine tl [] [(1, pk 1)] [(1, va (eTRules p0))] id ?_
       refine ends_exit ?_
       cases H
       exact And.intro (by simp) (And.intro rfl rfl)
     ·clear h154
      cases y153 with
      | inl y155 =>
       replace H := ofInl H
       intro e s q
       obtain ⟨rfl, rfl⟩ := q
       change EndsI _ _ _ _ _ _
       obtain ⟨v157, h158, H⟩ := ofBind H
       rcases ofCond H with ⟨c159, H⟩ | ⟨c159, H⟩
       ·obtain ⟨v160, h161, H⟩ := ofBind H
        rcases ofCond H with ⟨c162, H⟩ | ⟨c162, H⟩
        ·obtain ⟨v163, h164, H⟩ := ofBind H
         rcases ofCond H with ⟨c165, H⟩ | ⟨c165, H⟩
         ·obtain ⟨v166, h167, H⟩ := ofBind H
          rcases ofCond H with ⟨c168, H⟩ | ⟨c168, H⟩
          ·obtain ⟨v169, h170, H⟩ := ofBind H
           refine so [.res (cB v157), .g true, .g true, .g true, .res (cB v160), .g true, .g true, .g true, .g true, .res (cB v163), .g true, .g true, .g true, .g true, .res (cB v166), .g true, .g true, .g true, .g true, .res (cB v169), .g true] [] [(2, cB v169)] [] (fun t => aI (i_inRange_ok p0.Stack 1 4 v157 h158) (aI c159 (aI c159 (aI c159 (aI (i_inRange_ok p0.River 0 9 v160 h161) (aI c159 (aI c162 (aI c162 (aI c162 (aI (i_inRange_ok p0.Road 1 9 v163 h164) (aI c162 (aI c165 (aI c165 (aI c165 (aI (i_inRange_ok p0.Supply 0 20 v166 h167) (aI c165 (aI c168 (aI c168 (aI c168 (aI (i_inRange_ok p0.Turns 1 30 v169 h170) (aI c168 (t)))))))))))))))))))))) ?_
           refine ends_ret ?_
           cases H
           exact And.intro (.inl rfl) rfl
          ·refine so [.res (cB v157), .g true, .g true, .g true, .res (cB v160), .g true, .g true, .g true, .g true, .res (cB v163), .g true, .g true, .g true, .g true, .res (cB v166), .g true, .g false, .g false, .g false, .g false] [] [(2, cB false)] [] (fun t => aI (i_inRange_ok p0.Stack 1 4 v157 h158) (aI c159 (aI c159 (aI c159 (aI (i_inRange_ok p0.River 0 9 v160 h161) (aI c159 (aI c162 (aI c162 (aI c162 (aI (i_inRange_ok p0.Road 1 9 v163 h164) (aI c162 (aI c165 (aI c165 (aI c165 (aI (i_inRange_ok p0.Supply 0 20 v166 h167) (aI c165 (aI c168 (aI c168 (aI c168 (aI c168 (t))))))))))))))))))))) ?_
           refine ends_ret ?_
           cases H
           exact And.intro (.inl rfl) rfl
         ·refine so [.res (cB v157), .g true, .g true, .g true, .res (cB v160), .g true, .g true, .g true, .g true, .res (cB v163), .g true, .g false, .g false, .g false, .g false, .g false, .g false, .g false, .g false] [] [(2, cB false)] [] (fun t => aI (i_inRange_ok p0.Stack 1 4 v157 h158) (aI c159 (aI c159 (aI c159 (aI (i_inRange_ok p0.River 0 9 v160 h161) (aI c159 (aI c162 (aI c162 (aI c162 (aI (i_inRange_ok p0.Road 1 9 v163 h164) (aI c162 (aI c165 (aI c165 (aI c165 (aI c165 (aI (rfl : (false : Bool) = false) (aI (rfl : (false : Bool) = false) (aI (rfl : (false : Bool) = false) (aI (rfl : (false : Bool) = false) (t)))))))))))))))))))) ?_
          refine ends_ret ?_
          cases H
          exact And.intro (.inl rfl) rfl
        ·refine so [.res (cB v157), .g true, .g true, .g true, .res (cB v160), .g true, .g false, .g false, .g false, .g false, .g false, .g false, .g false, .g false, .g false, .g false, .g false, .g false] [] [(2, cB false)] [] (fun t => aI (i_inRange_ok p0.Stack 1 4 v157 h158) (aI c159 (aI c159 (aI c159 (aI (i_inRange_ok p0.River 0 9 v160 h161) (aI c159 (aI c162 (aI c162 (aI c162 (aI c162 (aI (rfl : (false : Bool) = false) (aI (rfl : (false : Bool) = false) (aI (rfl : (false : Bool) = false) (aI (rfl : (false : Bool) = false) (aI (rfl : (false : Bool) = false) (aI (rfl : (false : Bool) = false) (aI (rfl : (false : Bool) = false) (aI (rfl : (false : Bool) = false) (t))))))))))))))))))) ?_
         refine ends_ret ?_
         cases H
         exact And.intro (.inl rfl) rfl
       ·refine so [.res (cB v157), .g false, .g false, .g false, .g false, .g false, .g false, .g false, .g false, .g false, .g false, .g false, .g false, .g false, .g false, .g false, .g false] [] [(2, cB false)] [] (fun t => aI (i_inRange_ok p0.Stack 1 4 v157 h158) (aI c159 (aI c159 (aI c159 (aI c159 (aI (rfl : (false : Bool) = false) (aI (rfl : (false : Bool) = false) (aI (rfl : (false : Bool) = false) (aI (rfl : (false : Bool) = false) (aI (rfl : (false : Bool) = false) (aI (rfl : (false : Bool) = false) (aI (rfl : (false : Bool) = false) (aI (rfl : (false : Bool) = false) (aI (rfl : (false : Bool) = false) (aI (rfl : (false : Bool) = false) (aI (rfl : (false : Bool) = false) (aI (rfl : (false : Bool) = false) (t)))))))))))))))))) ?_
        refine ends_ret ?_
        cases H
        exact And.intro (.inl rfl) rfl
      | inr y156 =>
       replace H := ofInr H
       intro e s q
       obtain ⟨rfl, rfl⟩ := q
       cases H
       exact And.intro (.inl rfl) rfl
    | inr y84 =>
     replace H := ofInr H
     intro e s q
     obtain ⟨rfl, rfl⟩ := q
     cases H
     exact And.intro (.inl rfl) rfl
def i_isIndex_ir : S :=
 (.seq (.ops [o 4 (.mv (.v (.bool false)))])
 (.seq (.ops [o 5 (.mv (.t 0)), o 6 (.mv (.t 1)), o 7 (.bin .sub (.t 6) (.v (.int .i64 1))), o 8 (.call 145 [.t 5, .v (.int .i64 0), .t 7]), o 4 (.mv (.t 8))])
 .ret))
noncomputable def X.i_isIndex (p0 : Int) (p1 : Int) : Option Bool :=
 ((X.i_inRange p0 0 (W (p1 - 1))).bind fun v1 => some v1)
theorem i_isIndex_ok (p0 : Int) (p1 : Int) (r : Bool) (H : X.i_isIndex p0 p1 = some r) : FnOk Tryz.prog gl 115 [cI p0, cI p1] (cB r) := by
 unfold X.i_isIndex at H
 refine fi Tryz.f115 i_isIndex_ir [(4, cB r)] [] glL Tryz.func115 ?_
 refine so [] [] [(0, cI p0), (1, cI p1)] [] id ?_
 obtain ⟨v1, h2, H⟩ := ofBind H
 refine so [.res (cB v1)] [] [(4, cB v1)] [] (fun t => aI (i_inRange_ok p0 0 (W (p1 - 1)) v1 h2) (t)) ?_
 refine ends_ret ?_
 cases H
 exact And.intro (.inl rfl) rfl
def i_increasing_ir : S :=
 (.seq (.ops [o 2 (.mv (.v (.bool false)))])
 (.seq (.seq (.ops [o 3 (.mv (.v (.int .i64 1)))])
 (.blk 0 (.loop (.seq (.seq (.ops [o 4 (.mv (.t 3)), o 5 (.mv (.t 0)), o 6 (.len (.t 5)), o 7 (.bin .lss (.t 4) (.t 6))])
   (.ite (.t 7) .skip
   (.exit 0)))
   (.seq (.blk 1 (.seq (.draw 10 [o 10 (.mv (.t 0)), o 11 (.mv (.t 3)), o 12 (.bin .sub (.t 11) (.v (.int .i64 1))), o 13 (.iad 1 (.t 10) (.t 12)), o 14 (.load 1 false (.t 13)), o 15 (.mv (.t 0)), o 16 (.mv (.t 3)), o 17 (.iad 1 (.t 15) (.t 16)), o 18 (.load 1 false (.t 17)), o 19 (.bin .geq (.t 14) (.t 18))])
    (.ite (.t 19) (.seq (.ops [o 2 (.mv (.v (.bool false)))])
     .ret)
    .skip)))
   (.ops [o 8 (.mv (.t 3)), o 9 (.bin .add (.t 8) (.v (.int .i64 1))), o 3 (.mv (.t 9))]))))))
 (.seq (.ops [o 2 (.mv (.v (.bool true)))])
 .ret)))
noncomputable def X.i_increasing (p0 : (List Int)) : Option Bool :=
 ((loop (fun (x16 : Int) => ((bif (decide (x16 < (p0.length : Int))) then ((at' zI p0 (W (x16 - 1))).bind fun v19 => ((at' zI p0 x16).bind fun v21 => (bif (decide (v19 ≥ v21)) then some (Sum.inr (Sum.inr false)) else some (Sum.inl (W (x16 + 1)))))) else some (Sum.inr (Sum.inl ()))) : Option (Int ⊕ (Unit ⊕ Bool)))) 1).bind fun y24 => (Sum.elim (fun (y26 : Unit) => some true) (fun (y27 : Bool) => some y27) y24))
theorem i_increasing_ok (p0 : (List Int)) (r : Bool) (H : X.i_increasing p0 = some r) : FnOk Tryz.prog gl 147 [.c (dat 1 eI zI p0)] (cB r) := by
 unfold X.i_increasing at H
 refine fi Tryz.f147 i_increasing_ir [(2, cB r)] [] glL Tryz.func147 ?_
 refine so [] [] [(0, dc 1 eI zI p0)] [] id ?_
 refine seq_in ?_
 refine so [] [] [(0, dc 1 eI zI p0), (3, cI 1)] [] id ?_
 refine ends_blk ?_
 obtain ⟨y24, h25, H⟩ := ofBind H
 refine loop_in (fun (x : Int) => lit [(0, dc 1 eI zI p0), (3, cI x)] []) (orJ (fun (z : Unit) => At (.exit 0) (lit [] [])) (fun (z : Bool) => At .ret (lit [(2, cB z)] []))) h25 ?_ ?_
 ·clear H h25
  intro x16 y0 H
  refine seq_in ?_
  refine so [] [] [(0, dc 1 eI zI p0), (3, cI x16), (7, cB (decide (x16 < (p0.length : Int))))] [] (fun t => lI p0 (t)) ?_
  rcases ofCond H with ⟨c18, H⟩ | ⟨c18, H⟩
  ·refine it c18 ?_
   refine sk ?_
   refine seq_in ?_
   refine ends_blk ?_
   obtain ⟨v19, h20, H⟩ := ofBind H
   obtain ⟨v21, h22, H⟩ := ofBind H
   refine sd [.cs (eI v19), .cs (eI v21)] [] [(0, dc 1 eI zI p0), (3, cI x16), (19, cB (decide (v19 ≥ v21)))] [] (fun t => aI (at_lt h20) (aI (at_enc (enc := eI) h20) (aI (rfl : ([] : List Nat) = []) (aI (at_lt h22) (aI (at_enc (enc := eI) h22) (aI (rfl : ([] : List Nat) = []) (t))))))) ?_
   rcases ofCond H with ⟨c23, H⟩ | ⟨c23, H⟩
   ·refine it c23 ?_
    refine so [] [] [(2, cB false)] [] id ?_
    refine ends_ret ?_
    cases H
    exact And.intro (by simp) (And.intro rfl rfl)
   ·refine jf c23 ?_
    refine sk ?_
    refine oo [] [] [(0, dc 1 eI zI p0), (3, cI (W (x16 + 1)))] [] id ?_
    cases H
    exact And.intro rfl rfl
  ·refine jf c18 ?_
   refine tl [] [] [] id ?_
   refine ends_exit ?_
   cases H
   exact And.intro (by simp) (And.intro rfl rfl)
 ·clear h25
  cases y24 with
  | inl y26 =>
   replace H := ofInl H
   intro e s q
   obtain ⟨rfl, rfl⟩ := q
   change EndsI _ _ _ _ _ _
   refine so [] [] [(2, cB true)] [] id ?_
   refine ends_ret ?_
   cases H
   exact And.intro (.inl rfl) rfl
  | inr y27 =>
   replace H := ofInr H
   intro e s q
   obtain ⟨rfl, rfl⟩ := q
   cases H
   exact And.intro (.inl rfl) rfl
def i_indexOf_ir : S :=
 (.seq (.ops [o 2 (.box 5 (.t 0)), o 3 (.box 2 (.t 1)), o 4 (.mv (.v (.int .i64 0)))])
 (.seq (.seq (.ops [o 5 (.fad 0 (.t 3)), o 6 (.load 1 false (.t 5)), o 7 (.fad 0 (.t 2)), o 8 (.load 1 false (.t 7)), o 9 (.call 115 [.t 6, .t 8]), o 10 (.not (.t 9)), o 11 (.mv (.t 10)), ⟨some 12, .fad 1 (.t 3), some (11, false)⟩, ⟨some 13, .load 1 false (.t 12), some (11, false)⟩, ⟨some 14, .fad 1 (.t 2), some (11, false)⟩, ⟨some 15, .load 1 false (.t 14), some (11, false)⟩, ⟨some 16, .call 115 [.t 13, .t 15], some (11, false)⟩, ⟨some 17, .not (.t 16), some (11, false)⟩, o 18 (.pick (.t 11) (.v (.bool true)) (.t 17))])
 (.ite (.t 18) (.seq (.ops [o 4 (.mv (.v (.int .i64 (-1))))])
  .ret)
 .skip))
 (.seq (.ops [o 19 (.fad 1 (.t 3)), o 20 (.load 1 false (.t 19)), o 21 (.fad 0 (.t 2)), o 22 (.load 1 false (.t 21)), o 23 (.bin .mul (.t 20) (.t 22)), o 24 (.fad 0 (.t 3)), o 25 (.load 1 false (.t 24)), o 26 (.bin .add (.t 23) (.t 25)), o 4 (.mv (.t 26))])
 .ret)))
noncomputable def X.i_indexOf (p0 : TMap) (p1 : THex) : Option Int :=
 ((X.i_isIndex p1.Q p0.Width).bind fun v7 => (bif (!v7) then some (-1) else ((X.i_isIndex p1.R p0.Height).bind fun v10 => (bif (!v10) then some (-1) else some (W ((W (p1.R * p0.Width)) + p1.Q))))))
theorem i_indexOf_ok (p0 : TMap) (p1 : THex) (r : Int) (H : X.i_indexOf p0 p1 = some r) : FnOk Tryz.prog gl 182 [.agg (eTMap p0), .agg (eTHex p1)] (cI r) := by
 unfold X.i_indexOf at H
 refine fi Tryz.f182 i_indexOf_ir [(4, cI r)] [] glL Tryz.func182 ?_
 refine so [] [] [(2, pk 2), (3, pk 3)] [(2, va (eTMap p0)), (3, va (eTHex p1))] id ?_
 refine seq_in ?_
 obtain ⟨v7, h8, H⟩ := ofBind H
 rcases ofCond H with ⟨c9, H⟩ | ⟨c9, H⟩
 ·refine so [.res (cB v7), .g true, .g true, .g true, .g true, .g true, .g true, .g true] [] [(2, pk 2), (3, pk 3), (18, cB true)] [(2, va (eTMap p0)), (3, va (eTHex p1))] (fun t => aI (i_isIndex_ok p1.Q p0.Width v7 h8) (aI c9 (aI c9 (aI c9 (aI c9 (aI c9 (aI c9 (aI c9 (t))))))))) ?_
  refine it (rfl : (true : Bool) = true) ?_
  refine so [] [] [(4, cI (-1))] [] id ?_
  refine ends_ret ?_
  cases H
  exact And.intro (.inl rfl) rfl
 ·obtain ⟨v10, h11, H⟩ := ofBind H
  refine so [.res (cB v7), .g false, .g false, .g false, .g false, .g false, .res (cB v10), .g false, .g false] [] [(2, pk 2), (3, pk 3), (18, cB (!v10))] [(2, va (eTMap p0)), (3, va (eTHex p1))] (fun t => aI (i_isIndex_ok p1.Q p0.Width v7 h8) (aI c9 (aI c9 (aI c9 (aI c9 (aI c9 (aI (i_isIndex_ok p1.R p0.Height v10 h11) (aI c9 (aI c9 (t)))))))))) ?_
  rcases ofCond H with ⟨c12, H⟩ | ⟨c12, H⟩
  ·refine it c12 ?_
   refine so [] [] [(4, cI (-1))] [] id ?_
   refine ends_ret ?_
   cases H
   exact And.intro (.inl rfl) rfl
  ·refine jf c12 ?_
   refine sk ?_
   refine so [] [] [(4, cI (W ((W (p1.R * p0.Width)) + p1.Q)))] [] id ?_
   refine ends_ret ?_
   cases H
   exact And.intro (.inl rfl) rfl
def i_stepBy_ir : S :=
 (.seq (.ops [o 3 (.box 2 (.t 0)), o 6 (.alloc [.int .i64 0, .int .i64 0])])
 (.seq (.draw 19 [o 7 (.fad 0 (.t 3)), o 8 (.load 1 false (.t 7)), o 9 (.mv (.t 2)), o 10 (.mv (.t 1)), o 11 (.iar 6 2 (.g 0) (.t 10)), o 12 (.fad 0 (.t 11)), o 13 (.load 1 false (.t 12)), o 14 (.bin .mul (.t 9) (.t 13)), o 15 (.bin .add (.t 8) (.t 14)), o 16 (.fad 1 (.t 3)), o 17 (.load 1 false (.t 16)), o 18 (.mv (.t 2)), o 19 (.mv (.t 1)), o 20 (.iar 6 2 (.g 0) (.t 19)), o 21 (.fad 1 (.t 20)), o 22 (.load 1 false (.t 21)), o 23 (.bin .mul (.t 18) (.t 22)), o 24 (.bin .add (.t 17) (.t 23)), o 25 (.build [.int .i64 0, .int .i64 0] [(0, 1, .t 15), (1, 1, .t 24)]), ⟨none, .store 2 (.t 6) (.t 25), none⟩])
 .ret))
noncomputable def X.i_stepBy (p0 : THex) (p1 : Int) (p2 : Int) : Option THex :=
 ((at' zTHex dirs p1).bind fun v1 => some (THex.mk (W (p0.Q + (W (p2 * v1.Q)))) (W (p0.R + (W (p2 * v1.R))))))
theorem i_stepBy_ok (p0 : THex) (p1 : Int) (p2 : Int) (r : THex) (H : X.i_stepBy p0 p1 p2 = some r) : FnOk Tryz.prog gl 183 [.agg (eTHex p0), cI p1, cI p2] (.agg (eTHex r)) := by
 unfold X.i_stepBy at H
 refine fi Tryz.f183 i_stepBy_ir [(6, pk 6)] [(6, va (eTHex r))] glL Tryz.func183 ?_
 refine so [] [] [(1, cI p1), (2, cI p2), (3, pk 3), (6, pk 6)] [(3, va (eTHex p0)), (6, .var [.int .i64 0, .int .i64 0] false)] id ?_
 obtain ⟨v1, h2, H⟩ := ofBind H
 refine sd [.cs (eTHex v1), .cs (eTHex v1)] [] [(6, pk 6)] [(6, .var [.int .i64 (W (p0.Q + (W (p2 * v1.Q)))), .int .i64 (W (p0.R + (W (p2 * v1.R))))] false)] (fun t => aI (at_lt h2) (aI (dirs_at h2) (aI (rfl : ([] : List Nat) = []) (aI (at_lt h2) (aI (dirs_at h2) (aI (rfl : ([] : List Nat) = []) (t))))))) ?_
 refine ends_ret ?_
 cases H
 exact And.intro (.inl rfl) rfl
def i_hexOf_ir : S :=
 (.seq (.ops [o 2 (.box 5 (.t 0)), o 4 (.alloc [.int .i64 0, .int .i64 0])])
 (.seq (.draw 9 [o 5 (.mv (.t 1)), o 6 (.fad 0 (.t 2)), o 7 (.load 1 false (.t 6)), o 8 (.bin .rem (.t 5) (.t 7)), o 9 (.mv (.t 1)), o 10 (.fad 0 (.t 2)), o 11 (.load 1 false (.t 10)), o 12 (.bin .quo (.t 9) (.t 11)), o 13 (.build [.int .i64 0, .int .i64 0] [(0, 1, .t 8), (1, 1, .t 12)]), ⟨none, .store 2 (.t 4) (.t 13), none⟩])
 .ret))
noncomputable def X.i_hexOf (p0 : TMap) (p1 : Int) : Option THex :=
 (if p0.Width ≠ 0 then (if p0.Width ≠ 0 then some (THex.mk (Int.tmod p1 p0.Width) (W (Int.tdiv p1 p0.Width))) else none) else none)
theorem i_hexOf_ok (p0 : TMap) (p1 : Int) (r : THex) (H : X.i_hexOf p0 p1 = some r) : FnOk Tryz.prog gl 184 [.agg (eTMap p0), cI p1] (.agg (eTHex r)) := by
 unfold X.i_hexOf at H
 refine fi Tryz.f184 i_hexOf_ir [(4, pk 4)] [(4, va (eTHex r))] glL Tryz.func184 ?_
 refine so [] [] [(1, cI p1), (2, pk 2), (4, pk 4)] [(2, va (eTMap p0)), (4, .var [.int .i64 0, .int .i64 0] false)] id ?_
 obtain ⟨g1, H⟩ := ofIf H
 obtain ⟨g2, H⟩ := ofIf H
 refine sd [] [] [(4, pk 4)] [(4, .var [.int .i64 (Int.tmod p1 p0.Width), .int .i64 (W (Int.tdiv p1 p0.Width))] false)] (fun t => aI g1 (aI g2 (t))) ?_
 refine ends_ret ?_
 cases H
 exact And.intro (.inl rfl) rfl
def i_nextTo_ir : S :=
 (.seq (.ops [o 3 (.box 5 (.t 0)), o 6 (.mv (.v (.int .i64 0)))])
 (.seq (.draw 8 [o 7 (.load 5 true (.t 3)), o 8 (.load 5 true (.t 3)), o 9 (.mv (.t 1)), o 10 (.call 184 [.t 8, .t 9]), o 11 (.mv (.t 2)), o 12 (.call 183 [.t 10, .t 11, .v (.int .i64 1)]), o 13 (.call 182 [.t 7, .t 12]), o 6 (.mv (.t 13))])
 .ret))
noncomputable def X.i_nextTo (p0 : TMap) (p1 : Int) (p2 : Int) : Option Int :=
 ((X.i_hexOf p0 p1).bind fun v1 => ((X.i_stepBy v1 p2 1).bind fun v3 => ((X.i_indexOf p0 v3).bind fun v5 => some v5)))
theorem i_nextTo_ok (p0 : TMap) (p1 : Int) (p2 : Int) (r : Int) (H : X.i_nextTo p0 p1 p2 = some r) : FnOk Tryz.prog gl 133 [.agg (eTMap p0), cI p1, cI p2] (cI r) := by
 unfold X.i_nextTo at H
 refine fi Tryz.f133 i_nextTo_ir [(6, cI r)] [] glL Tryz.func133 ?_
 refine so [] [] [(1, cI p1), (2, cI p2), (3, pk 3)] [(3, va (eTMap p0))] id ?_
 obtain ⟨v1, h2, H⟩ := ofBind H
 obtain ⟨v3, h4, H⟩ := ofBind H
 obtain ⟨v5, h6, H⟩ := ofBind H
 refine sd [.res (.agg (eTHex v1)), .res (.agg (eTHex v3)), .res (cI v5)] [] [(6, cI v5)] [] (fun t => aI (i_hexOf_ok p0 p1 v1 h2) (aI trivial (aI (rfl : ([] : List Nat) = []) (aI (i_stepBy_ok v1 p2 1 v3 h4) (aI trivial (aI (rfl : ([] : List Nat) = []) (aI (i_indexOf_ok p0 v3 v5 h6) (aI trivial (aI (rfl : ([] : List Nat) = []) (t)))))))))) ?_
 refine ends_ret ?_
 cases H
 exact And.intro (.inl rfl) rfl
def i_isEdge_ir : S :=
 (.seq (.ops [o 2 (.box 5 (.t 0)), o 4 (.mv (.v (.bool false)))])
 (.seq (.ops [o 5 (.mv (.t 1)), o 6 (.fad 0 (.t 2)), o 7 (.load 1 false (.t 6)), o 8 (.bin .mul (.v (.int .i64 3)) (.t 7)), o 9 (.fad 1 (.t 2)), o 10 (.load 1 false (.t 9)), o 11 (.bin .mul (.t 8) (.t 10)), o 12 (.bin .sub (.t 11) (.v (.int .i64 1))), o 13 (.call 145 [.t 5, .v (.int .i64 0), .t 12]), o 14 (.mv (.t 13)), ⟨some 15, .load 5 true (.t 2), some (14, true)⟩, ⟨some 16, .mv (.t 1), some (14, true)⟩, ⟨some 17, .bin .quo (.t 16) (.v (.int .i64 3)), some (14, true)⟩, ⟨some 18, .mv (.t 1), some (14, true)⟩, ⟨some 19, .bin .rem (.t 18) (.v (.int .i64 3)), some (14, true)⟩, ⟨some 20, .call 133 [.t 15, .t 17, .t 19], some (14, true)⟩, ⟨some 21, .bin .geq (.t 20) (.v (.int .i64 0)), some (14, true)⟩, o 22 (.pick (.t 14) (.t 21) (.v (.bool false))), o 4 (.mv (.t 22))])
 .ret))
noncomputable def X.i_isEdge (p0 : TMap) (p1 : Int) : Option Bool :=
 ((X.i_inRange p1 0 (W ((W ((W (3 * p0.Width)) * p0.Height)) - 1))).bind fun v1 => (bif v1 then ((X.i_nextTo p0 (W (Int.tdiv p1 3)) (Int.tmod p1 3)).bind fun v4 => some (decide (v4 ≥ 0))) else some false))
theorem i_isEdge_ok (p0 : TMap) (p1 : Int) (r : Bool) (H : X.i_isEdge p0 p1 = some r) : FnOk Tryz.prog gl 217 [.agg (eTMap p0), cI p1] (cB r) := by
 unfold X.i_isEdge at H
 refine fi Tryz.f217 i_isEdge_ir [(4, cB r)] [] glL Tryz.func217 ?_
 refine so [] [] [(1, cI p1), (2, pk 2)] [(2, va (eTMap p0))] id ?_
 obtain ⟨v1, h2, H⟩ := ofBind H
 rcases ofCond H with ⟨c3, H⟩ | ⟨c3, H⟩
 ·obtain ⟨v4, h5, H⟩ := ofBind H
  refine so [.res (cB v1), .g true, .g true, .g true, .g true, .g true, .g true, .res (cI v4), .g true, .g true] [] [(4, cB (decide (v4 ≥ 0)))] [] (fun t => aI (i_inRange_ok p1 0 (W ((W ((W (3 * p0.Width)) * p0.Height)) - 1)) v1 h2) (aI c3 (aI c3 (aI c3 (aI (by decide : (3 : Int) ≠ 0) (aI c3 (aI c3 (aI (by decide : (3 : Int) ≠ 0) (aI c3 (aI (i_nextTo_ok p0 (W (Int.tdiv p1 3)) (Int.tmod p1 3) v4 h5) (aI c3 (aI c3 (t))))))))))))) ?_
  refine ends_ret ?_
  cases H
  exact And.intro (.inl rfl) rfl
 ·refine so [.res (cB v1), .g false, .g false, .g false, .g false, .g false, .g false, .g false, .g false] [] [(4, cB false)] [] (fun t => aI (i_inRange_ok p1 0 (W ((W ((W (3 * p0.Width)) * p0.Height)) - 1)) v1 h2) (aI c3 (aI c3 (aI c3 (aI c3 (aI c3 (aI c3 (aI c3 (aI c3 (t)))))))))) ?_
  refine ends_ret ?_
  cases H
  exact And.intro (.inl rfl) rfl
def i_IsMap_ir : S :=
 (.seq (.ops [o 1 (.box 5 (.t 0)), o 2 (.mv (.v (.bool false)))])
 (.seq (.seq (.ops [o 9 (.fad 0 (.t 1)), o 10 (.load 1 false (.t 9)), o 11 (.call 145 [.t 10, .v (.int .i64 1), .v (.int .i64 10)]), o 12 (.not (.t 11)), o 13 (.mv (.t 12)), ⟨some 14, .fad 1 (.t 1), some (13, false)⟩, ⟨some 15, .load 1 false (.t 14), some (13, false)⟩, ⟨some 16, .call 145 [.t 15, .v (.int .i64 1), .v (.int .i64 10)], some (13, false)⟩, ⟨some 17, .not (.t 16), some (13, false)⟩, o 18 (.pick (.t 13) (.v (.bool true)) (.t 17)), o 19 (.mv (.t 18)), ⟨some 20, .fad 2 (.t 1), some (19, false)⟩, ⟨some 21, .load 1 false (.t 20), some (19, false)⟩, ⟨some 22, .len (.t 21), some (19, false)⟩, ⟨some 23, .fad 0 (.t 1), some (19, false)⟩, ⟨some 24, .load 1 false (.t 23), some (19, false)⟩, ⟨some 25, .fad 1 (.t 1), some (19, false)⟩, ⟨some 26, .load 1 false (.t 25), some (19, false)⟩, ⟨some 27, .bin .mul (.t 24) (.t 26), some (19, false)⟩, ⟨some 28, .bin .neq (.t 22) (.t 27), some (19, false)⟩, o 29 (.pick (.t 19) (.v (.bool true)) (.t 28))])
 (.ite (.t 29) (.seq (.ops [o 2 (.mv (.v (.bool false)))])
  .ret)
 .skip))
 (.seq (.seq (.ops [o 30 (.fad 2 (.t 1)), o 31 (.load 1 false (.t 30)), o 32 (.len (.t 31)), o 33 (.mv (.v (.int .i64 0)))])
 (.blk 0 (.loop (.seq (.ops [o 34 (.bin .lss (.t 33) (.t 32))])
   (.seq (.ite (.t 34) .skip
   (.exit 0))
   (.seq (.blk 1 (.seq (.ops [o 35 (.iad 1 (.t 31) (.t 33)), o 36 (.load 1 false (.t 35)), o 4 (.mv (.t 36))])
    (.seq (.ops [o 37 (.mv (.t 4)), o 38 (.call 115 [.t 37, .v (.int .i64 6)]), o 39 (.not (.t 38))])
    (.ite (.t 39) (.seq (.ops [o 2 (.mv (.v (.bool false)))])
     .ret)
    .skip))))
   (.ops [o 40 (.bin .add (.t 33) (.v (.int .i64 1))), o 33 (.mv (.t 40))])))))))
 (.seq (.seq (.ops [o 41 (.fad 3 (.t 1)), o 42 (.load 1 false (.t 41)), o 43 (.fad 4 (.t 1)), o 44 (.load 1 false (.t 43)), o 45 (.bsl 1 [.t 42, .t 44]), o 46 (.len (.t 45)), o 47 (.mv (.v (.int .i64 0)))])
 (.blk 2 (.loop (.seq (.ops [o 48 (.bin .lss (.t 47) (.t 46))])
   (.seq (.ite (.t 48) .skip
   (.exit 2))
   (.seq (.blk 3 (.seq (.ops [o 49 (.iad 1 (.t 45) (.t 47)), o 50 (.load 1 false (.t 49)), o 6 (.mv (.t 50))])
    (.seq (.seq (.ops [o 51 (.mv (.t 6)), o 52 (.call 147 [.t 51]), o 53 (.not (.t 52))])
    (.ite (.t 53) (.seq (.ops [o 2 (.mv (.v (.bool false)))])
     .ret)
    .skip))
    (.seq (.ops [o 54 (.mv (.t 6)), o 55 (.len (.t 54)), o 56 (.mv (.v (.int .i64 0)))])
    (.blk 4 (.loop (.seq (.ops [o 57 (.bin .lss (.t 56) (.t 55))])
      (.seq (.ite (.t 57) .skip
      (.exit 4))
      (.seq (.blk 5 (.seq (.ops [o 58 (.iad 1 (.t 54) (.t 56)), o 59 (.load 1 false (.t 58)), o 8 (.mv (.t 59))])
       (.seq (.ops [o 60 (.load 5 true (.t 1)), o 61 (.mv (.t 8)), o 62 (.call 217 [.t 60, .t 61]), o 63 (.not (.t 62))])
       (.ite (.t 63) (.seq (.ops [o 2 (.mv (.v (.bool false)))])
        .ret)
       .skip))))
      (.ops [o 64 (.bin .add (.t 56) (.v (.int .i64 1))), o 56 (.mv (.t 64))]))))))))))
   (.ops [o 65 (.bin .add (.t 47) (.v (.int .i64 1))), o 47 (.mv (.t 65))])))))))
 (.seq (.ops [o 2 (.mv (.v (.bool true)))])
 .ret)))))
noncomputable def X.i_IsMap (p0 : TMap) : Option Bool :=
 ((X.i_inRange p0.Width 1 10).bind fun v8 => (bif (!v8) then some false else ((X.i_inRange p0.Height 1 10).bind fun v11 => (bif (!v11) then some false else (bif ((p0.Terrain.length : Int) != (W (p0.Width * p0.Height))) then some false else ((loop (fun (x57 : Int) => ((bif (decide (x57 < (p0.Terrain.length : Int))) then ((at' zI p0.Terrain x57).bind fun v60 => ((X.i_isIndex v60 6).bind fun v62 => (bif (!v62) then some (Sum.inr (Sum.inr false)) else some (Sum.inl (W (x57 + 1)))))) else some (Sum.inr (Sum.inl ()))) : Option (Int ⊕ (Unit ⊕ Bool)))) 0).bind fun y65 => (Sum.elim (fun (y67 : Unit) => ((loop (fun (x142 : Int) => ((bif (decide (x142 < (([p0.Rivers, p0.Roads] : List (List Int)).length : Int))) then (if 0 ≤ x142 ∧ x142 < (([p0.Rivers, p0.Roads] : List (List Int)).length : Int) then ((X.i_increasing (([p0.Rivers, p0.Roads] : List (List Int)).getD x142.toNat zLI)).bind fun v149 => (bif (!v149) then some (Sum.inr (Sum.inr false)) else ((loop (fun (x167 : Int) => ((bif (decide (x167 < ((([p0.Rivers, p0.Roads] : List (List Int)).getD x142.toNat zLI).length : Int))) then ((at' zI (([p0.Rivers, p0.Roads] : List (List Int)).getD x142.toNat zLI) x167).bind fun v170 => ((X.i_isEdge p0 v170).bind fun v172 => (bif (!v172) then some (Sum.inr (Sum.inr false)) else some (Sum.inl (W (x167 + 1)))))) else some (Sum.inr (Sum.inl ()))) : Option (Int ⊕ (Unit ⊕ Bool)))) 0).bind fun y175 => (Sum.elim (fun (y177 : Unit) => some (Sum.inl (W (x142 + 1)))) (fun (y178 : Bool) => some (Sum.inr (Sum.inr y178))) y175)))) else none) else some (Sum.inr (Sum.inl ()))) : Option (Int ⊕ (Unit ⊕ Bool)))) 0).bind fun y179 => (Sum.elim (fun (y181 : Unit) => some true) (fun (y182 : Bool) => some y182) y179))) (fun (y68 : Bool) => some y68) y65)))))))
theorem i_IsMap_ok (p0 : TMap) (r : Bool) (H : X.i_IsMap p0 = some r) : FnOk Tryz.prog gl 194 [.agg (eTMap p0)] (cB r) := by
 unfold X.i_IsMap at H
 refine fi Tryz.f194 i_IsMap_ir [(2, cB r)] [] glL Tryz.func194 ?_
 refine so [] [] [(1, pk 1)] [(1, va (eTMap p0))] id ?_
 refine seq_in ?_
 obtain ⟨v8, h9, H⟩ := ofBind H
 rcases ofCond H with ⟨c10, H⟩ | ⟨c10, H⟩
 ·refine so [.res (cB v8), .g true, .g true, .g true, .g true, .g true, .g true, .g true, .g true, .g true, .g true, .g true, .g true, .g true, .g true, .g true] [] [(1, pk 1), (29, cB true)] [(1, va (eTMap p0))] (fun t => aI (i_inRange_ok p0.Width 1 10 v8 h9) (aI c10 (aI c10 (aI c10 (aI c10 (aI c10 (aI (rfl : (true : Bool) = true) (aI (rfl : (true : Bool) = true) (aI (rfl : (true : Bool) = true) (aI (rfl : (true : Bool) = true) (aI (rfl : (true : Bool) = true) (aI (rfl : (true : Bool) = true) (aI (rfl : (true : Bool) = true) (aI (rfl : (true : Bool) = true) (aI (rfl : (true : Bool) = true) (aI (rfl : (true : Bool) = true) (t))))))))))))))))) ?_
  refine it (rfl : (true : Bool) = true) ?_
  refine so [] [] [(2, cB false)] [] id ?_
  refine ends_ret ?_
  cases H
  exact And.intro (.inl rfl) rfl
 ·obtain ⟨v11, h12, H⟩ := ofBind H
  rcases ofCond H with ⟨c13, H⟩ | ⟨c13, H⟩
  ·refine so [.res (cB v8), .g false, .g false, .g false, .res (cB v11), .g false, .g false, .g true, .g true, .g true, .g true, .g true, .g true, .g true, .g true, .g true, .g true] [] [(1, pk 1), (29, cB true)] [(1, va (eTMap p0))] (fun t => aI (i_inRange_ok p0.Width 1 10 v8 h9) (aI c10 (aI c10 (aI c10 (aI (i_inRange_ok p0.Height 1 10 v11 h12) (aI c10 (aI c10 (aI c13 (aI c13 (aI c13 (aI c13 (aI c13 (aI c13 (aI c13 (aI c13 (aI c13 (aI c13 (t)))))))))))))))))) ?_
   refine it (rfl : (true : Bool) = true) ?_
   refine so [] [] [(2, cB false)] [] id ?_
   refine ends_ret ?_
   cases H
   exact And.intro (.inl rfl) rfl
  ·refine so [.res (cB v8), .g false, .g false, .g false, .res (cB v11), .g false, .g false, .g false, .g false, .g false, .g false, .g false, .g false, .g false, .g false, .g false, .g false] [] [(1, pk 1), (29, cB ((p0.Terrain.length : Int) != (W (p0.Width * p0.Height))))] [(1, va (eTMap p0))] (fun t => aI (i_inRange_ok p0.Width 1 10 v8 h9) (aI c10 (aI c10 (aI c10 (aI (i_inRange_ok p0.Height 1 10 v11 h12) (aI c10 (aI c10 (aI c13 (aI c13 (aI c13 (lI p0.Terrain (aI c13 (aI c13 (aI c13 (aI c13 (aI c13 (aI c13 (aI c13 (t))))))))))))))))))) ?_
   rcases ofCond H with ⟨c14, H⟩ | ⟨c14, H⟩
   ·refine it c14 ?_
    refine so [] [] [(2, cB false)] [] id ?_
    refine ends_ret ?_
    cases H
    exact And.intro (.inl rfl) rfl
   ·refine jf c14 ?_
    refine sk ?_
    refine seq_in ?_
    refine so [] [] [(1, pk 1), (31, dc 1 eI zI p0.Terrain), (32, cI (p0.Terrain.length : Int)), (33, cI 0)] [(1, va (eTMap p0))] (fun t => lI p0.Terrain (t)) ?_
    refine ends_blk ?_
    obtain ⟨y65, h66, H⟩ := ofBind H
    refine loop_in (fun (x : Int) => lit [(1, pk 1), (31, dc 1 eI zI p0.Terrain), (32, cI (p0.Terrain.length : Int)), (33, cI x)] [(1, va (eTMap p0))]) (orJ (fun (z : Unit) => At (.exit 0) (lit [(1, pk 1)] [(1, va (eTMap p0))])) (fun (z : Bool) => At .ret (lit [(2, cB z)] []))) h66 ?_ ?_
    ·clear H h66
     intro x57 y0 H
     refine so [] [] [(1, pk 1), (31, dc 1 eI zI p0.Terrain), (32, cI (p0.Terrain.length : Int)), (33, cI x57), (34, cB (decide (x57 < (p0.Terrain.length : Int))))] [(1, va (eTMap p0))] id ?_
     refine seq_in ?_
     rcases ofCond H with ⟨c59, H⟩ | ⟨c59, H⟩
     ·refine it c59 ?_
      refine sk ?_
      refine seq_in ?_
      refine ends_blk ?_
      obtain ⟨v60, h61, H⟩ := ofBind H
      refine so [.cs (eI v60)] [] [(1, pk 1), (4, cI v60), (31, dc 1 eI zI p0.Terrain), (32, cI (p0.Terrain.length : Int)), (33, cI x57)] [(1, va (eTMap p0))] (fun t => aI (at_lt h61) (aI (at_enc (enc := eI) h61) (t))) ?_
      obtain ⟨v62, h63, H⟩ := ofBind H
      refine so [.res (cB v62)] [] [(1, pk 1), (31, dc 1 eI zI p0.Terrain), (32, cI (p0.Terrain.length : Int)), (33, cI x57), (39, cB (!v62))] [(1, va (eTMap p0))] (fun t => aI (i_isIndex_ok v60 6 v62 h63) (t)) ?_
      rcases ofCond H with ⟨c64, H⟩ | ⟨c64, H⟩
      ·refine it c64 ?_
       refine so [] [] [(2, cB false)] [] id ?_
       refine ends_ret ?_
       cases H
       exact And.intro (by simp) (And.intro rfl rfl)
      ·refine jf c64 ?_
       refine sk ?_
       refine oo [] [] [(1, pk 1), (31, dc 1 eI zI p0.Terrain), (32, cI (p0.Terrain.length : Int)), (33, cI (W (x57 + 1)))] [(1, va (eTMap p0))] id ?_
       cases H
       exact And.intro rfl rfl
     ·refine jf c59 ?_
      refine tl [] [(1, pk 1)] [(1, va (eTMap p0))] id ?_
      refine ends_exit ?_
      cases H
      exact And.intro (by simp) (And.intro rfl rfl)
    ·clear h66
     cases y65 with
     | inl y67 =>
      replace H := ofInl H
      intro e s q
      obtain ⟨rfl, rfl⟩ := q
      change EndsI _ _ _ _ _ _
      refine seq_in ?_
      refine so [.fn ([p0.Rivers, p0.Roads] : List (List Int)).length (fF eLI zLI ([p0.Rivers, p0.Roads] : List (List Int)))] [] [(1, pk 1), (45, .c (.own 45 1 0 (([p0.Rivers, p0.Roads] : List (List Int)).length))), (46, cI (([p0.Rivers, p0.Roads] : List (List Int)).length : Int)), (47, cI 0)] [(1, va (eTMap p0)), (45, .arr 1 (([p0.Rivers, p0.Roads] : List (List Int)).length) (fF eLI zLI ([p0.Rivers, p0.Roads] : List (List Int))) false)] (fun t => aI (rfl : ([p0.Rivers, p0.Roads] : List (List Int)).length = 2) (aI (fF_lit eLI zLI ([p0.Rivers, p0.Roads] : List (List Int))) ((fun (_ : ([p0.Rivers, p0.Roads] : List (List Int)).length ≤ maxLen) => t)))) ?_
      refine ends_blk ?_
      obtain ⟨y179, h180, H⟩ := ofBind H
      refine loop_in (fun (x : Int) => lit [(1, pk 1), (45, .c (.own 45 1 0 (([p0.Rivers, p0.Roads] : List (List Int)).length))), (46, cI (([p0.Rivers, p0.Roads] : List (List Int)).length : Int)), (47, cI x)] [(1, va (eTMap p0)), (45, .arr 1 (([p0.Rivers, p0.Roads] : List (List Int)).length) (fF eLI zLI ([p0.Rivers, p0.Roads] : List (List Int))) false)]) (orJ (fun (z : Unit) => At (.exit 2) (lit [] [])) (fun (z : Bool) => At .ret (lit [(2, cB z)] []))) h180 ?_ ?_
      ·clear H h180
       intro x142 y0 H
       refine so [] [] [(1, pk 1), (45, .c (.own 45 1 0 (([p0.Rivers, p0.Roads] : List (List Int)).length))), (46, cI (([p0.Rivers, p0.Roads] : List (List Int)).length : Int)), (47, cI x142), (48, cB (decide (x142 < (([p0.Rivers, p0.Roads] : List (List Int)).length : Int))))] [(1, va (eTMap p0)), (45, .arr 1 (([p0.Rivers, p0.Roads] : List (List Int)).length) (fF eLI zLI ([p0.Rivers, p0.Roads] : List (List Int))) false)] id ?_
       refine seq_in ?_
       rcases ofCond H with ⟨c144, H⟩ | ⟨c144, H⟩
       ·refine it c144 ?_
        refine sk ?_
        refine seq_in ?_
        refine ends_blk ?_
        obtain ⟨g145, H⟩ := ofIf H
        refine so [.no] [] [(1, pk 1), (6, .c (dat 1 eI zI (([p0.Rivers, p0.Roads] : List (List Int)).getD x142.toNat zLI))), (45, .c (.own 45 1 0 (([p0.Rivers, p0.Roads] : List (List Int)).length))), (46, cI (([p0.Rivers, p0.Roads] : List (List Int)).length : Int)), (47, cI x142)] [(1, va (eTMap p0)), (45, .arr 1 (([p0.Rivers, p0.Roads] : List (List Int)).length) (fF eLI zLI ([p0.Rivers, p0.Roads] : List (List Int))) false)] (fun t => aI g145 (aI (nat_lt g145) (t))) ?_
        refine seq_in ?_
        obtain ⟨v149, h150, H⟩ := ofBind H
        refine so [.res (cB v149)] [] [(1, pk 1), (6, .c (dat 1 eI zI (([p0.Rivers, p0.Roads] : List (List Int)).getD x142.toNat zLI))), (45, .c (.own 45 1 0 (([p0.Rivers, p0.Roads] : List (List Int)).length))), (46, cI (([p0.Rivers, p0.Roads] : List (List Int)).length : Int)), (47, cI x142), (53, cB (!v149))] [(1, va (eTMap p0)), (45, .arr 1 (([p0.Rivers, p0.Roads] : List (List Int)).length) (fF eLI zLI ([p0.Rivers, p0.Roads] : List (List Int))) false)] (fun t => aI (i_increasing_ok (([p0.Rivers, p0.Roads] : List (List Int)).getD x142.toNat zLI) v149 h150) (t)) ?_
        rcases ofCond H with ⟨c151, H⟩ | ⟨c151, H⟩
        ·refine it c151 ?_
         refine so [] [] [(2, cB false)] [] id ?_
         refine ends_ret ?_
         cases H
         exact And.intro (by simp) (And.intro rfl rfl)
        ·refine jf c151 ?_
         refine sk ?_
         refine so [] [] [(1, pk 1), (45, .c (.own 45 1 0 (([p0.Rivers, p0.Roads] : List (List Int)).length))), (46, cI (([p0.Rivers, p0.Roads] : List (List Int)).length : Int)), (47, cI x142), (54, .c (dat 1 eI zI (([p0.Rivers, p0.Roads] : List (List Int)).getD x142.toNat zLI))), (55, cI ((([p0.Rivers, p0.Roads] : List (List Int)).getD x142.toNat zLI).length : Int)), (56, cI 0)] [(1, va (eTMap p0)), (45, .arr 1 (([p0.Rivers, p0.Roads] : List (List Int)).length) (fF eLI zLI ([p0.Rivers, p0.Roads] : List (List Int))) false)] (fun t => (fun (_ : (([p0.Rivers, p0.Roads] : List (List Int)).getD x142.toNat zLI).length ≤ maxLen) => t)) ?_
         refine ends_blk ?_
         obtain ⟨y175, h176, H⟩ := ofBind H
         refine loop_in (fun (x : Int) => lit [(1, pk 1), (45, .c (.own 45 1 0 (([p0.Rivers, p0.Roads] : List (List Int)).length))), (46, cI (([p0.Rivers, p0.Roads] : List (List Int)).length : Int)), (47, cI x142), (54, .c (dat 1 eI zI (([p0.Rivers, p0.Roads] : List (List Int)).getD x142.toNat zLI))), (55, cI ((([p0.Rivers, p0.Roads] : List (List Int)).getD x142.toNat zLI).length : Int)), (56, cI x)] [(1, va (eTMap p0)), (45, .arr 1 (([p0.Rivers, p0.Roads] : List (List Int)).length) (fF eLI zLI ([p0.Rivers, p0.Roads] : List (List Int))) false)]) (orJ (fun (z : Unit) => At (.exit 4) (lit [(1, pk 1), (45, .c (.own 45 1 0 (([p0.Rivers, p0.Roads] : List (List Int)).length))), (46, cI (([p0.Rivers, p0.Roads] : List (List Int)).length : Int)), (47, cI x142)] [(1, va (eTMap p0)), (45, .arr 1 (([p0.Rivers, p0.Roads] : List (List Int)).length) (fF eLI zLI ([p0.Rivers, p0.Roads] : List (List Int))) false)])) (fun (z : Bool) => At .ret (lit [(2, cB z)] []))) h176 ?_ ?_
         ·clear H h176
          intro x167 y0 H
          refine so [] [] [(1, pk 1), (45, .c (.own 45 1 0 (([p0.Rivers, p0.Roads] : List (List Int)).length))), (46, cI (([p0.Rivers, p0.Roads] : List (List Int)).length : Int)), (47, cI x142), (54, .c (dat 1 eI zI (([p0.Rivers, p0.Roads] : List (List Int)).getD x142.toNat zLI))), (55, cI ((([p0.Rivers, p0.Roads] : List (List Int)).getD x142.toNat zLI).length : Int)), (56, cI x167), (57, cB (decide (x167 < ((([p0.Rivers, p0.Roads] : List (List Int)).getD x142.toNat zLI).length : Int))))] [(1, va (eTMap p0)), (45, .arr 1 (([p0.Rivers, p0.Roads] : List (List Int)).length) (fF eLI zLI ([p0.Rivers, p0.Roads] : List (List Int))) false)] id ?_
          refine seq_in ?_
          rcases ofCond H with ⟨c169, H⟩ | ⟨c169, H⟩
          ·refine it c169 ?_
           refine sk ?_
           refine seq_in ?_
           refine ends_blk ?_
           obtain ⟨v170, h171, H⟩ := ofBind H
           refine so [.cs (eI v170)] [] [(1, pk 1), (8, cI v170), (45, .c (.own 45 1 0 (([p0.Rivers, p0.Roads] : List (List Int)).length))), (46, cI (([p0.Rivers, p0.Roads] : List (List Int)).length : Int)), (47, cI x142), (54, .c (dat 1 eI zI (([p0.Rivers, p0.Roads] : List (List Int)).getD x142.toNat zLI))), (55, cI ((([p0.Rivers, p0.Roads] : List (List Int)).getD x142.toNat zLI).length : Int)), (56, cI x167)] [(1, va (eTMap p0)), (45, .arr 1 (([p0.Rivers, p0.Roads] : List (List Int)).length) (fF eLI zLI ([p0.Rivers, p0.Roads] : List (List Int))) false)] (fun t => aI (at_lt h171) (aI (at_enc (enc := eI) h171) (t))) ?_
           obtain ⟨v172, h173, H⟩ := ofBind H
           refine so [.res (cB v172)] [] [(1, pk 1), (45, .c (.own 45 1 0 (([p0.Rivers, p0.Roads] : List (List Int)).length))), (46, cI (([p0.Rivers, p0.Roads] : List (List Int)).length : Int)), (47, cI x142), (54, .c (dat 1 eI zI (([p0.Rivers, p0.Roads] : List (List Int)).getD x142.toNat zLI))), (55, cI ((([p0.Rivers, p0.Roads] : List (List Int)).getD x142.toNat zLI).length : Int)), (56, cI x167), (63, cB (!v172))] [(1, va (eTMap p0)), (45, .arr 1 (([p0.Rivers, p0.Roads] : List (List Int)).length) (fF eLI zLI ([p0.Rivers, p0.Roads] : List (List Int))) false)] (fun t => aI (i_isEdge_ok p0 v170 v172 h173) (t)) ?_
           rcases ofCond H with ⟨c174, H⟩ | ⟨c174, H⟩
           ·refine it c174 ?_
            refine so [] [] [(2, cB false)] [] id ?_
            refine ends_ret ?_
            cases H
            exact And.intro (by simp) (And.intro rfl rfl)
           ·refine jf c174 ?_
            refine sk ?_
            refine oo [] [] [(1, pk 1), (45, .c (.own 45 1 0 (([p0.Rivers, p0.Roads] : List (List Int)).length))), (46, cI (([p0.Rivers, p0.Roads] : List (List Int)).length : Int)), (47, cI x142), (54, .c (dat 1 eI zI (([p0.Rivers, p0.Roads] : List (List Int)).getD x142.toNat zLI))), (55, cI ((([p0.Rivers, p0.Roads] : List (List Int)).getD x142.toNat zLI).length : Int)), (56, cI (W (x167 + 1)))] [(1, va (eTMap p0)), (45, .arr 1 (([p0.Rivers, p0.Roads] : List (List Int)).length) (fF eLI zLI ([p0.Rivers, p0.Roads] : List (List Int))) false)] id ?_
            cases H
            exact And.intro rfl rfl
          ·refine jf c169 ?_
           refine tl [] [(1, pk 1), (45, .c (.own 45 1 0 (([p0.Rivers, p0.Roads] : List (List Int)).length))), (46, cI (([p0.Rivers, p0.Roads] : List (List Int)).length : Int)), (47, cI x142)] [(1, va (eTMap p0)), (45, .arr 1 (([p0.Rivers, p0.Roads] : List (List Int)).length) (fF eLI zLI ([p0.Rivers, p0.Roads] : List (List Int))) false)] id ?_
           refine ends_exit ?_
           cases H
           exact And.intro (by simp) (And.intro rfl rfl)
         ·clear h176
          cases y175 with
          | inl y177 =>
           replace H := ofInl H
           intro e s q
           obtain ⟨rfl, rfl⟩ := q
           change EndsI _ _ _ _ _ _
           refine oo [] [] [(1, pk 1), (45, .c (.own 45 1 0 (([p0.Rivers, p0.Roads] : List (List Int)).length))), (46, cI (([p0.Rivers, p0.Roads] : List (List Int)).length : Int)), (47, cI (W (x142 + 1)))] [(1, va (eTMap p0)), (45, .arr 1 (([p0.Rivers, p0.Roads] : List (List Int)).length) (fF eLI zLI ([p0.Rivers, p0.Roads] : List (List Int))) false)] id ?_
           cases H
           exact And.intro rfl rfl
          | inr y178 =>
           replace H := ofInr H
           intro e s q
           obtain ⟨rfl, rfl⟩ := q
           cases H
           exact And.intro (by simp) (And.intro rfl rfl)
       ·refine jf c144 ?_
        refine tl [] [] [] id ?_
        refine ends_exit ?_
        cases H
        exact And.intro (by simp) (And.intro rfl rfl)
      ·clear h180
       cases y179 with
       | inl y181 =>
        replace H := ofInl H
        intro e s q
        obtain ⟨rfl, rfl⟩ := q
        change EndsI _ _ _ _ _ _
        refine so [] [] [(2, cB true)] [] id ?_
        refine ends_ret ?_
        cases H
        exact And.intro (.inl rfl) rfl
       | inr y182 =>
        replace H := ofInr H
        intro e s q
        obtain ⟨rfl, rfl⟩ := q
        cases H
        exact And.intro (.inl rfl) rfl
     | inr y68 =>
      replace H := ofInr H
      intro e s q
      obtain ⟨rfl, rfl⟩ := q
      cases H
      exact And.intro (.inl rfl) rfl
def i_IsBoard_1_ir : S :=
 (.seq (.ops [o 3 (.mv (.v (.bool false)))])
 (.seq (.ops [o 4 (.mv (.t 0)), o 5 (.fad 0 (.t 1)), o 6 (.fad 0 (.t 5)), o 7 (.load 1 false (.t 6)), o 8 (.len (.t 7)), o 9 (.bin .geq (.t 4) (.t 8)), o 3 (.mv (.t 9))])
 .ret))
noncomputable def X.i_IsBoard_1 (p0 : Int) (p1 : TBoard) : Option Bool :=
 some (decide (p0 ≥ (p1.Rules.Terrains.length : Int)))
theorem i_IsBoard_1_ok (p0 : Int) (p1 : TBoard) (r : Bool) (H : X.i_IsBoard_1 p0 p1 = some r) : FnOk Tryz.prog gl 195 [cI p0, .c (.pd (eTBoard p1) 0)] (cB r) := by
 unfold X.i_IsBoard_1 at H
 refine fi Tryz.f195 i_IsBoard_1_ir [(3, cB r)] [] glL Tryz.func195 ?_
 refine so [] [] [(0, cI p0), (1, .c (.pd (eTBoard p1) 0))] [] id ?_
 refine so [] [] [(3, cB (decide (p0 ≥ (p1.Rules.Terrains.length : Int))))] [] (fun t => lI p1.Rules.Terrains (t)) ?_
 refine ends_ret ?_
 cases H
 exact And.intro (.inl rfl) rfl
def i_IsBoard_ir : S :=
 (.seq (.ops [o 1 (.box 12 (.t 0)), o 2 (.mv (.v (.bool false)))])
 (.seq (.seq (.ops [o 3 (.fad 0 (.t 1)), o 4 (.load 7 true (.t 3)), o 5 (.call 193 [.t 4]), o 6 (.not (.t 5)), o 7 (.mv (.t 6)), ⟨some 8, .fad 7 (.t 1), some (7, false)⟩, ⟨some 9, .load 5 true (.t 8), some (7, false)⟩, ⟨some 10, .call 194 [.t 9], some (7, false)⟩, ⟨some 11, .not (.t 10), some (7, false)⟩, o 12 (.pick (.t 7) (.v (.bool true)) (.t 11))])
 (.ite (.t 12) (.seq (.ops [o 2 (.mv (.v (.bool false)))])
  .ret)
 .skip))
 (.seq (.ops [o 13 (.fad 7 (.t 1)), o 14 (.fad 2 (.t 13)), o 15 (.load 1 false (.t 14)), o 16 (.clo 195 [.t 1]), o 17 (.call 70 [.t 15, .t 16]), o 18 (.not (.t 17)), o 2 (.mv (.t 18))])
 .ret)))
noncomputable def X.i_IsBoard (p0 : TBoard) : Option Bool :=
 ((X.i_IsRules p0.Rules).bind fun v7 => (bif (!v7) then some false else ((X.i_IsMap p0.Map).bind fun v10 => (bif (!v10) then some false else ((X.g_ContainsFunc_int p0.Map.Terrain (fun q0 => X.i_IsBoard_1 q0 p0)).bind fun v13 => some (!v13))))))
theorem i_IsBoard_ok (p0 : TBoard) (r : Bool) (H : X.i_IsBoard p0 = some r) : FnOk Tryz.prog gl 143 [.agg (eTBoard p0)] (cB r) := by
 unfold X.i_IsBoard at H
 refine fi Tryz.f143 i_IsBoard_ir [(2, cB r)] [] glL Tryz.func143 ?_
 refine so [] [] [(1, pk 1)] [(1, va (eTBoard p0))] id ?_
 refine seq_in ?_
 obtain ⟨v7, h8, H⟩ := ofBind H
 rcases ofCond H with ⟨c9, H⟩ | ⟨c9, H⟩
 ·refine so [.res (cB v7), .g true, .g true, .g true, .g true, .g true] [] [(1, pk 1), (12, cB true)] [(1, va (eTBoard p0))] (fun t => aI (i_IsRules_ok p0.Rules v7 h8) (aI c9 (aI c9 (aI c9 (aI c9 (aI c9 (t))))))) ?_
  refine it (rfl : (true : Bool) = true) ?_
  refine so [] [] [(2, cB false)] [] id ?_
  refine ends_ret ?_
  cases H
  exact And.intro (.inl rfl) rfl
 ·obtain ⟨v10, h11, H⟩ := ofBind H
  refine so [.res (cB v7), .g false, .g false, .g false, .res (cB v10), .g false, .g false] [] [(1, pk 1), (12, cB (!v10))] [(1, va (eTBoard p0))] (fun t => aI (i_IsRules_ok p0.Rules v7 h8) (aI c9 (aI c9 (aI c9 (aI (i_IsMap_ok p0.Map v10 h11) (aI c9 (aI c9 (t)))))))) ?_
  rcases ofCond H with ⟨c12, H⟩ | ⟨c12, H⟩
  ·refine it c12 ?_
   refine so [] [] [(2, cB false)] [] id ?_
   refine ends_ret ?_
   cases H
   exact And.intro (.inl rfl) rfl
  ·refine jf c12 ?_
   refine sk ?_
   obtain ⟨v13, h14, H⟩ := ofBind H
   refine so [.res (cB v13)] [] [(2, cB (!v13))] [] (fun t => aI (g_ContainsFunc_int_c1_ok p0.Map.Terrain (195) (eTBoard p0) (fun q0 => X.i_IsBoard_1 q0 p0) (fun q0 r h => i_IsBoard_1_ok q0 p0 r h) v13 h14) (t)) ?_
   refine ends_ret ?_
   cases H
   exact And.intro (.inl rfl) rfl
def i_sizeOf_ir : S :=
 (.seq (.ops [o 1 (.box 12 (.t 0)), o 2 (.mv (.v (.int .i64 0)))])
 (.seq (.ops [o 3 (.fad 7 (.t 1)), o 4 (.fad 2 (.t 3)), o 5 (.load 1 false (.t 4)), o 6 (.len (.t 5)), o 2 (.mv (.t 6))])
 .ret))
noncomputable def X.i_sizeOf (p0 : TBoard) : Option Int :=
 some (p0.Map.Terrain.length : Int)
theorem i_sizeOf_ok (p0 : TBoard) (r : Int) (H : X.i_sizeOf p0 = some r) : FnOk Tryz.prog gl 116 [.agg (eTBoard p0)] (cI r) := by
 unfold X.i_sizeOf at H
 refine fi Tryz.f116 i_sizeOf_ir [(2, cI r)] [] glL Tryz.func116 ?_
 refine so [] [] [(1, pk 1)] [(1, va (eTBoard p0))] id ?_
 refine so [] [] [(2, cI (p0.Map.Terrain.length : Int))] [] (fun t => lI p0.Map.Terrain (t)) ?_
 refine ends_ret ?_
 cases H
 exact And.intro (.inl rfl) rfl
def i_isSide_ir : S :=
 (.seq (.ops [o 2 (.mv (.v (.bool false)))])
 (.seq (.ops [o 3 (.mv (.t 0)), o 4 (.call 145 [.t 3, .v (.int .i64 0), .v (.int .i64 1)]), o 2 (.mv (.t 4))])
 .ret))
noncomputable def X.i_isSide (p0 : Int) : Option Bool :=
 ((X.i_inRange p0 0 1).bind fun v1 => some v1)
theorem i_isSide_ok (p0 : Int) (r : Bool) (H : X.i_isSide p0 = some r) : FnOk Tryz.prog gl 132 [cI p0] (cB r) := by
 unfold X.i_isSide at H
 refine fi Tryz.f132 i_isSide_ir [(2, cB r)] [] glL Tryz.func132 ?_
 refine so [] [] [(0, cI p0)] [] id ?_
 obtain ⟨v1, h2, H⟩ := ofBind H
 refine so [.res (cB v1)] [] [(2, cB v1)] [] (fun t => aI (i_inRange_ok p0 0 1 v1 h2) (t)) ?_
 refine ends_ret ?_
 cases H
 exact And.intro (.inl rfl) rfl
def i_terrainAt_ir : S :=
 (.seq (.ops [o 2 (.box 12 (.t 0)), o 4 (.alloc [.str [], .nil, .int .i64 0, .int .i64 0, .bool false])])
 (.seq (.draw 11 [o 5 (.fad 0 (.t 2)), o 6 (.fad 0 (.t 5)), o 7 (.load 1 false (.t 6)), o 8 (.fad 7 (.t 2)), o 9 (.fad 2 (.t 8)), o 10 (.load 1 false (.t 9)), o 11 (.mv (.t 1)), o 12 (.iad 1 (.t 10) (.t 11)), o 13 (.load 1 false (.t 12)), o 14 (.iad 5 (.t 7) (.t 13)), o 15 (.load 5 true (.t 14)), ⟨none, .store 5 (.t 4) (.t 15), none⟩])
 .ret))
noncomputable def X.i_terrainAt (p0 : TBoard) (p1 : Int) : Option TTerrain :=
 ((at' zI p0.Map.Terrain p1).bind fun v1 => ((at' zTTerrain p0.Rules.Terrains v1).bind fun v3 => some v3))
theorem i_terrainAt_ok (p0 : TBoard) (p1 : Int) (r : TTerrain) (H : X.i_terrainAt p0 p1 = some r) : FnOk Tryz.prog gl 199 [.agg (eTBoard p0), cI p1] (.agg (eTTerrain r)) := by
 unfold X.i_terrainAt at H
 refine fi Tryz.f199 i_terrainAt_ir [(4, pk 4)] [(4, va (eTTerrain r))] glL Tryz.func199 ?_
 refine so [] [] [(1, cI p1), (2, pk 2), (4, pk 4)] [(2, va (eTBoard p0)), (4, .var [.str [], .nil, .int .i64 0, .int .i64 0, .bool false] false)] id ?_
 obtain ⟨v1, h2, H⟩ := ofBind H
 obtain ⟨v3, h4, H⟩ := ofBind H
 refine sd [.cs (eI v1), .cs (eTTerrain v3)] [] [(4, pk 4)] [(4, va (eTTerrain v3))] (fun t => aI (at_lt h2) (aI (at_enc (enc := eI) h2) (aI (rfl : ([] : List Nat) = []) (aI (at_lt h4) (aI (at_enc (enc := eTTerrain) h4) (aI (rfl : ([] : List Nat) = []) (t))))))) ?_
 refine ends_ret ?_
 cases H
 exact And.intro (.inl rfl) rfl
def i_enterCost_ir : S :=
 (.seq (.ops [o 3 (.box 12 (.t 0)), o 6 (.mv (.v (.int .i64 0)))])
 (.seq (.ops [o 7 (.load 12 true (.t 3)), o 8 (.mv (.t 2)), o 9 (.call 199 [.t 7, .t 8]), o 10 (.fld 1 1 false (.t 9)), o 11 (.mv (.t 1)), o 12 (.iad 1 (.t 10) (.t 11)), o 13 (.load 1 false (.t 12)), o 6 (.mv (.t 13))])
 .ret))
noncomputable def X.i_enterCost (p0 : TBoard) (p1 : Int) (p2 : Int) : Option Int :=
 ((X.i_terrainAt p0 p2).bind fun v1 => ((at' zI v1.Cost p1).bind fun v3 => some v3))
theorem i_enterCost_ok (p0 : TBoard) (p1 : Int) (p2 : Int) (r : Int) (H : X.i_enterCost p0 p1 p2 = some r) : FnOk Tryz.prog gl 157 [.agg (eTBoard p0), cI p1, cI p2] (cI r) := by
 unfold X.i_enterCost at H
 refine fi Tryz.f157 i_enterCost_ir [(6, cI r)] [] glL Tryz.func157 ?_
 refine so [] [] [(1, cI p1), (2, cI p2), (3, pk 3)] [(3, va (eTBoard p0))] id ?_
 obtain ⟨v1, h2, H⟩ := ofBind H
 obtain ⟨v3, h4, H⟩ := ofBind H
 refine so [.res (.agg (eTTerrain v1)), .cs (eI v3)] [] [(6, cI v3)] [] (fun t => aI (i_terrainAt_ok p0 p2 v1 h2) (aI (at_lt h4) (aI (at_enc (enc := eI) h4) (t)))) ?_
 refine ends_ret ?_
 cases H
 exact And.intro (.inl rfl) rfl
def i_goodUnit_ir : S :=
 (.seq (.ops [o 2 (.box 12 (.t 0)), o 3 (.box 4 (.t 1)), o 4 (.mv (.v (.bool false)))])
 (.seq (.seq (.draw 28 [o 5 (.fad 0 (.t 3)), o 6 (.load 1 false (.t 5)), o 7 (.call 132 [.t 6]), o 8 (.not (.t 7)), o 9 (.mv (.t 8)), ⟨some 10, .fad 1 (.t 3), some (9, false)⟩, ⟨some 11, .load 1 false (.t 10), some (9, false)⟩, ⟨some 12, .fad 0 (.t 2), some (9, false)⟩, ⟨some 13, .fad 1 (.t 12), some (9, false)⟩, ⟨some 14, .load 1 false (.t 13), some (9, false)⟩, ⟨some 15, .len (.t 14), some (9, false)⟩, ⟨some 16, .call 115 [.t 11, .t 15], some (9, false)⟩, ⟨some 17, .not (.t 16), some (9, false)⟩, o 18 (.pick (.t 9) (.v (.bool true)) (.t 17)), o 19 (.mv (.t 18)), ⟨some 20, .fad 3 (.t 3), some (19, false)⟩, ⟨some 21, .load 1 false (.t 20), some (19, false)⟩, ⟨some 22, .fad 0 (.t 2), some (19, false)⟩, ⟨some 23, .fad 1 (.t 22), some (19, false)⟩, ⟨some 24, .load 1 false (.t 23), some (19, false)⟩, ⟨some 25, .fad 1 (.t 3), some (19, false)⟩, ⟨some 26, .load 1 false (.t 25), some (19, false)⟩, ⟨some 27, .iad 6 (.t 24) (.t 26), some (19, false)⟩, ⟨some 28, .fad 3 (.t 27), some (19, false)⟩, ⟨some 29, .load 1 false (.t 28), some (19, false)⟩, ⟨some 30, .call 145 [.t 21, .v (.int .i64 0), .t 29], some (19, false)⟩, ⟨some 31, .not (.t 30), some (19, false)⟩, o 32 (.pick (.t 19) (.v (.bool true)) (.t 31))])
 (.ite (.t 32) (.seq (.ops [o 4 (.mv (.v (.bool false)))])
  .ret)
 .skip))
 (.seq (.seq (.ops [o 33 (.fad 2 (.t 3)), o 34 (.load 1 false (.t 33)), o 35 (.bin .eql (.t 34) (.v (.int .i64 (-1))))])
 (.ite (.t 35) (.seq (.ops [o 4 (.mv (.v (.bool true)))])
  .ret)
 .skip))
 (.seq (.draw 20 [o 36 (.fad 3 (.t 3)), o 37 (.load 1 false (.t 36)), o 38 (.bin .gtr (.t 37) (.v (.int .i64 0))), o 39 (.mv (.t 38)), ⟨some 40, .fad 2 (.t 3), some (39, true)⟩, ⟨some 41, .load 1 false (.t 40), some (39, true)⟩, ⟨some 42, .load 12 true (.t 2), some (39, true)⟩, ⟨some 43, .call 116 [.t 42], some (39, true)⟩, ⟨some 44, .call 115 [.t 41, .t 43], some (39, true)⟩, o 45 (.pick (.t 39) (.t 44) (.v (.bool false))), o 46 (.mv (.t 45)), ⟨some 47, .load 12 true (.t 2), some (46, true)⟩, ⟨some 48, .fad 1 (.t 3), some (46, true)⟩, ⟨some 49, .load 1 false (.t 48), some (46, true)⟩, ⟨some 50, .fad 2 (.t 3), some (46, true)⟩, ⟨some 51, .load 1 false (.t 50), some (46, true)⟩, ⟨some 52, .call 157 [.t 47, .t 49, .t 51], some (46, true)⟩, ⟨some 53, .bin .neq (.t 52) (.v (.int .i64 0)), some (46, true)⟩, o 54 (.pick (.t 46) (.t 53) (.v (.bool false))), o 4 (.mv (.t 54))])
 .ret))))
noncomputable def X.i_goodUnit (p0 : TBoard) (p1 : TUnit) : Option Bool :=
 ((X.i_isSide p1.Side).bind fun v12 => (bif (!v12) then some false else ((X.i_isIndex p1.Kind (p0.Rules.Kinds.length : Int)).bind fun v15 => (bif (!v15) then some false else ((at' zTKind p0.Rules.Kinds p1.Kind).bind fun v18 => ((X.i_inRange p1.Steps 0 v18.Steps).bind fun v20 => (bif (!v20) then some false else (bif (p1.At == (-1)) then some true else (bif (decide (p1.Steps > 0)) then ((X.i_sizeOf p0).bind fun v26 => ((X.i_isIndex p1.At v26).bind fun v28 => (bif v28 then ((X.i_enterCost p0 p1.Kind p1.At).bind fun v31 => some (v31 != 0)) else some false))) else some false)))))))))
theorem i_goodUnit_ok (p0 : TBoard) (p1 : TUnit) (r : Bool) (H : X.i_goodUnit p0 p1 = some r) : FnOk Tryz.prog gl 149 [.agg (eTBoard p0), .agg (eTUnit p1)] (cB r) := by
 unfold X.i_goodUnit at H
 refine fi Tryz.f149 i_goodUnit_ir [(4, cB r)] [] glL Tryz.func149 ?_
 refine so [] [] [(2, pk 2), (3, pk 3)] [(2, va (eTBoard p0)), (3, va (eTUnit p1))] id ?_
 refine seq_in ?_
 obtain ⟨v12, h13, H⟩ := ofBind H
 rcases ofCond H with ⟨c14, H⟩ | ⟨c14, H⟩
 ·refine sd [.res (cB v12), .g true, .g true, .g true, .g true, .g true, .g true, .g true, .g true, .g true, .g true, .g true, .g true, .g true, .g true, .g true, .g true, .g true, .g true, .g true, .g true, .g true, .g true] [] [(2, pk 2), (3, pk 3), (32, cB true)] [(2, va (eTBoard p0)), (3, va (eTUnit p1))] (fun t => aI (i_isSide_ok p1.Side v12 h13) (aI trivial (aI (rfl : ([] : List Nat) = []) (aI c14 (aI c14 (aI c14 (aI c14 (aI c14 (aI c14 (aI c14 (aI c14 (aI c14 (aI (rfl : (true : Bool) = true) (aI (rfl : (true : Bool) = true) (aI (rfl : (true : Bool) = true) (aI (rfl : (true : Bool) = true) (aI (rfl : (true : Bool) = true) (aI (rfl : (true : Bool) = true) (aI (rfl : (true : Bool) = true) (aI (rfl : (true : Bool) = true) (aI (rfl : (true : Bool) = true) (aI (rfl : (true : Bool) = true) (aI (rfl : (true : Bool) = true) (aI (rfl : (true : Bool) = true) (aI (rfl : (true : Bool) = true) (t)))))))))))))))))))))))))) ?_
  refine it (rfl : (true : Bool) = true) ?_
  refine so [] [] [(4, cB false)] [] id ?_
  refine ends_ret ?_
  cases H
  exact And.intro (.inl rfl) rfl
 ·obtain ⟨v15, h16, H⟩ := ofBind H
  rcases ofCond H with ⟨c17, H⟩ | ⟨c17, H⟩
  ·refine sd [.res (cB v12), .g false, .g false, .g false, .g false, .g false, .g false, .g false, .res (cB v15), .g false, .g false, .g true, .g true, .g true, .g true, .g true, .g true, .g true, .g true, .g true, .g true, .g true, .g true, .g true] [] [(2, pk 2), (3, pk 3), (32, cB true)] [(2, va (eTBoard p0)), (3, va (eTUnit p1))] (fun t => aI (i_isSide_ok p1.Side v12 h13) (aI trivial (aI (rfl : ([] : List Nat) = []) (aI c14 (aI c14 (aI c14 (aI c14 (aI c14 (aI c14 (aI c14 (aI (i_isIndex_ok p1.Kind (p0.Rules.Kinds.length : Int) v15 h16) (aI trivial (aI (rfl : ([] : List Nat) = []) (aI c14 (aI c14 (aI c17 (aI c17 (aI c17 (aI c17 (aI c17 (aI c17 (aI c17 (aI c17 (aI c17 (aI c17 (aI c17 (aI c17 (aI c17 (t))))))))))))))))))))))))))))) ?_
   refine it (rfl : (true : Bool) = true) ?_
   refine so [] [] [(4, cB false)] [] id ?_
   refine ends_ret ?_
   cases H
   exact And.intro (.inl rfl) rfl
  ·obtain ⟨v18, h19, H⟩ := ofBind H
   obtain ⟨v20, h21, H⟩ := ofBind H
   refine sd [.res (cB v12), .g false, .g false, .g false, .g false, .g false, .g false, .g false, .res (cB v15), .g false, .g false, .g false, .g false, .g false, .g false, .g false, .g false, .g false, .g false, .cs (eTKind v18), .g false, .g false, .g false, .res (cB v20), .g false, .g false] [] [(2, pk 2), (3, pk 3), (32, cB (!v20))] [(2, va (eTBoard p0)), (3, va (eTUnit p1))] (fun t => aI (i_isSide_ok p1.Side v12 h13) (aI trivial (aI (rfl : ([] : List Nat) = []) (aI c14 (aI c14 (aI c14 (aI c14 (aI c14 (aI c14 (aI c14 (aI (i_isIndex_ok p1.Kind (p0.Rules.Kinds.length : Int) v15 h16) (aI trivial (aI (rfl : ([] : List Nat) = []) (aI c14 (aI c14 (aI c17 (aI c17 (aI c17 (aI c17 (aI c17 (aI c17 (aI c17 (aI c17 (aI (at_lt h19) (aI (at_enc (enc := eTKind) h19) (aI c17 (aI c17 (aI (rfl : ([] : List Nat) = []) (aI c17 (aI (i_inRange_ok p1.Steps 0 v18.Steps v20 h21) (aI trivial (aI (rfl : ([] : List Nat) = []) (aI c17 (aI c17 (t))))))))))))))))))))))))))))))))))) ?_
   rcases ofCond H with ⟨c22, H⟩ | ⟨c22, H⟩
   ·refine it c22 ?_
    refine so [] [] [(4, cB false)] [] id ?_
    refine ends_ret ?_
    cases H
    exact And.intro (.inl rfl) rfl
   ·refine jf c22 ?_
    refine sk ?_
    refine seq_in ?_
    refine so [] [] [(2, pk 2), (3, pk 3), (35, cB (p1.At == (-1)))] [(2, va (eTBoard p0)), (3, va (eTUnit p1))] id ?_
    rcases ofCond H with ⟨c24, H⟩ | ⟨c24, H⟩
    ·refine it c24 ?_
     refine so [] [] [(4, cB true)] [] id ?_
     refine ends_ret ?_
     cases H
     exact And.intro (.inl rfl) rfl
    ·refine jf c24 ?_
     refine sk ?_
     rcases ofCond H with ⟨c25, H⟩ | ⟨c25, H⟩
     ·obtain ⟨v26, h27, H⟩ := ofBind H
      obtain ⟨v28, h29, H⟩ := ofBind H
      rcases ofCond H with ⟨c30, H⟩ | ⟨c30, H⟩
      ·obtain ⟨v31, h32, H⟩ := ofBind H
       refine sd [.g true, .g true, .g true, .g true, .res (cI v26), .g true, .res (cB v28), .g true, .g true, .g true, .g true, .g true, .g true, .g true, .res (cI v31), .g true, .g true] [] [(4, cB (v31 != 0))] [] (fun t => aI c25 (aI c25 (aI c25 (aI c25 (aI (i_sizeOf_ok p0 v26 h27) (aI trivial (aI (rfl : ([] : List Nat) = []) (aI c25 (aI (i_isIndex_ok p1.At v26 v28 h29) (aI trivial (aI (rfl : ([] : List Nat) = []) (aI c25 (aI c30 (aI c30 (aI c30 (aI c30 (aI c30 (aI c30 (aI (i_enterCost_ok p0 p1.Kind p1.At v31 h32) (aI trivial (aI (rfl : ([] : List Nat) = []) (aI c30 (aI c30 (t)))))))))))))))))))))))) ?_
       refine ends_ret ?_
       cases H
       exact And.intro (.inl rfl) rfl
      ·refine sd [.g true, .g true, .g true, .g true, .res (cI v26), .g true, .res (cB v28), .g true, .g false, .g false, .g false, .g false, .g false, .g false, .g false, .g false] [] [(4, cB false)] [] (fun t => aI c25 (aI c25 (aI c25 (aI c25 (aI (i_sizeOf_ok p0 v26 h27) (aI trivial (aI (rfl : ([] : List Nat) = []) (aI c25 (aI (i_isIndex_ok p1.At v26 v28 h29) (aI trivial (aI (rfl : ([] : List Nat) = []) (aI c25 (aI c30 (aI c30 (aI c30 (aI c30 (aI c30 (aI c30 (aI c30 (aI c30 (t))))))))))))))))))))) ?_
       refine ends_ret ?_
       cases H
       exact And.intro (.inl rfl) rfl
     ·refine sd [.g false, .g false, .g false, .g false, .g false, .g false, .g false, .g false, .g false, .g false, .g false, .g false, .g false, .g false] [] [(4, cB false)] [] (fun t => aI c25 (aI c25 (aI c25 (aI c25 (aI c25 (aI c25 (aI (rfl : (false : Bool) = false) (aI (rfl : (false : Bool) = false) (aI (rfl : (false : Bool) = false) (aI (rfl : (false : Bool) = false) (aI (rfl : (false : Bool) = false) (aI (rfl : (false : Bool) = false) (aI (rfl : (false : Bool) = false) (aI (rfl : (false : Bool) = false) (t))))))))))))))) ?_
      refine ends_ret ?_
      cases H
      exact And.intro (.inl rfl) rfl
end Go.Proofs.YtociagbpecpcnaaGreatDoor.X0
