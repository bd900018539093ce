/- What each Go function that FnExactReactionsLeft reaches computes, and that it returns so; no condition. -/
import Derived.Test.YtociagbpecpcnaaGreatDoorRLWb
set_option linter.unusedVariables false
set_option linter.unusedSimpArgs false
set_option maxRecDepth 100000
namespace Go.Proofs.YtociagbpecpcnaaGreatDoor.X0
open Go Go.RowKit Go.Proofs.YtociagbpecpcnaaGreatDoor.Ab Go.Proofs

def i_goodState_ir : S :=
 (.seq (.ops [o 2 (.box 12 (.t 0)), o 3 (.box 3 (.t 1)), o 4 (.mv (.v (.bool false)))])
 (.seq (.seq (.ops [o 8 (.fad 0 (.t 3)), o 9 (.load 1 false (.t 8)), o 10 (.fad 0 (.t 2)), o 11 (.fad 6 (.t 10)), o 12 (.load 1 false (.t 11)), o 13 (.call 145 [.t 9, .v (.int .i64 0), .t 12]), o 14 (.not (.t 13)), o 15 (.mv (.t 14)), ⟨some 16, .fad 1 (.t 3), some (15, false)⟩, ⟨some 17, .load 1 false (.t 16), some (15, false)⟩, ⟨some 18, .call 145 [.t 17, .v (.int .i64 0), .v (.int .i64 2)], some (15, false)⟩, ⟨some 19, .not (.t 18), some (15, false)⟩, o 20 (.pick (.t 15) (.v (.bool true)) (.t 19)), o 21 (.mv (.t 20)), ⟨some 22, .fad 2 (.t 3), some (21, false)⟩, ⟨some 23, .load 1 false (.t 22), some (21, false)⟩, ⟨some 24, .len (.t 23), some (21, false)⟩, ⟨some 25, .bin .gtr (.t 24) (.v (.int .i64 12)), some (21, false)⟩, o 26 (.pick (.t 21) (.v (.bool true)) (.t 25))])
 (.ite (.t 26) (.seq (.ops [o 4 (.mv (.v (.bool false)))])
  .ret)
 .skip))
 (.seq (.ops [o 27 (.load 12 true (.t 2)), o 28 (.call 116 [.t 27]), o 29 (.msl 2 16 [.int .i64 0, .int .i64 0] (.t 28)), o 5 (.mv (.t 29))])
 (.seq (.seq (.ops [o 30 (.fad 2 (.t 3)), o 31 (.load 1 false (.t 30)), o 32 (.len (.t 31)), o 33 (.mv (.v (.int .i64 0)))])
 (.blk 0 (.loop (.seq (.ops [o 34 (.bin .lss (.t 33) (.t 32))])
   (.seq (.ite (.t 34) .skip
   (.exit 0))
   (.seq (.blk 1 (.seq (.ops [o 35 (.iad 4 (.t 31) (.t 33)), o 36 (.load 4 true (.t 35)), o 7 (.alloc [.int .i64 0, .int .i64 0, .int .i64 0, .int .i64 0]), ⟨none, .store 4 (.t 7) (.t 36), none⟩])
    (.seq (.seq (.ops [o 37 (.load 12 true (.t 2)), o 38 (.load 4 true (.t 7)), o 39 (.call 149 [.t 37, .t 38]), o 40 (.not (.t 39))])
    (.ite (.t 40) (.seq (.ops [o 4 (.mv (.v (.bool false)))])
     .ret)
    .skip))
    (.seq (.seq (.ops [o 41 (.fad 2 (.t 7)), o 42 (.load 1 false (.t 41)), o 43 (.bin .lss (.t 42) (.v (.int .i64 0)))])
    (.ite (.t 43) (.exit 1)
    .skip))
    (.seq (.draw 11 [o 44 (.mv (.t 5)), o 45 (.fad 2 (.t 7)), o 46 (.load 1 false (.t 45)), o 47 (.fad 0 (.t 7)), o 48 (.load 1 false (.t 47)), o 49 (.iad 2 (.t 44) (.t 46)), o 50 (.iar 2 1 (.t 49) (.t 48)), o 51 (.load 1 false (.t 50)), o 52 (.bin .add (.t 51) (.v (.int .i64 1))), o 53 (.iad 2 (.t 44) (.t 46)), o 54 (.iar 2 1 (.t 53) (.t 48)), ⟨none, .store 1 (.t 54) (.t 52), none⟩])
    (.seq (.draw 24 [o 55 (.mv (.t 5)), o 56 (.fad 2 (.t 7)), o 57 (.load 1 false (.t 56)), o 58 (.fad 0 (.t 7)), o 59 (.load 1 false (.t 58)), o 60 (.bin .sub (.v (.int .i64 1)) (.t 59)), o 61 (.iad 2 (.t 55) (.t 57)), o 62 (.iar 2 1 (.t 61) (.t 60)), o 63 (.load 1 false (.t 62)), o 64 (.bin .gtr (.t 63) (.v (.int .i64 0))), o 65 (.mv (.t 64)), ⟨some 66, .mv (.t 5), some (65, false)⟩, ⟨some 67, .fad 2 (.t 7), some (65, false)⟩, ⟨some 68, .load 1 false (.t 67), some (65, false)⟩, ⟨some 69, .fad 0 (.t 7), some (65, false)⟩, ⟨some 70, .load 1 false (.t 69), some (65, false)⟩, ⟨some 71, .iad 2 (.t 66) (.t 68), some (65, false)⟩, ⟨some 72, .iar 2 1 (.t 71) (.t 70), some (65, false)⟩, ⟨some 73, .load 1 false (.t 72), some (65, false)⟩, ⟨some 74, .fad 0 (.t 2), some (65, false)⟩, ⟨some 75, .fad 2 (.t 74), some (65, false)⟩, ⟨some 76, .load 1 false (.t 75), some (65, false)⟩, ⟨some 77, .bin .gtr (.t 73) (.t 76), some (65, false)⟩, o 78 (.pick (.t 65) (.v (.bool true)) (.t 77))])
    (.ite (.t 78) (.seq (.ops [o 4 (.mv (.v (.bool false)))])
     .ret)
    .skip)))))))
   (.ops [o 79 (.bin .add (.t 33) (.v (.int .i64 1))), o 33 (.mv (.t 79))])))))))
 (.seq (.ops [o 4 (.mv (.v (.bool true)))])
 .ret)))))
noncomputable def X.i_goodState (p0 : TBoard) (p1 : TState) : Option Bool :=
 ((X.i_inRange p1.Turn 0 p0.Rules.Turns).bind fun v8 => (bif (!v8) then some false else ((X.i_inRange p1.Weather 0 2).bind fun v11 => (bif (!v11) then some false else (bif (decide ((p1.Units.length : Int) > 12)) then some false else ((X.i_sizeOf p0).bind fun v15 => (if 0 ≤ v15 ∧ v15.toNat ≤ LIM then ((loop (fun (x85 : (Int × (List A2_I))) => ((bif (decide (x85.1 < (p1.Units.length : Int))) then ((at' zTUnit p1.Units x85.1).bind fun v88 => ((X.i_goodUnit p0 v88).bind fun v93 => (bif (!v93) then some (Sum.inr (Sum.inr false)) else (bif (decide (v88.At < 0)) then some (Sum.inl ((W (x85.1 + 1)), x85.2)) else (if 0 ≤ v88.At ∧ v88.At < (x85.2.length : Int) then (if v88.Side = ((0 : Nat) : Int) then (if (W (1 - v88.Side)) = ((0 : Nat) : Int) then (bif (decide (((x85.2.set v88.At.toNat (A2_I.mk (W ((x85.2.getD v88.At.toNat zA2_I).a0 + 1)) ((x85.2.getD v88.At.toNat zA2_I).a1))).getD v88.At.toNat zA2_I).a0 > 0)) then some (Sum.inr (Sum.inr false)) else (bif (decide (((x85.2.set v88.At.toNat (A2_I.mk (W ((x85.2.getD v88.At.toNat zA2_I).a0 + 1)) ((x85.2.getD v88.At.toNat zA2_I).a1))).getD v88.At.toNat zA2_I).a0 > p0.Rules.Stack)) then some (Sum.inr (Sum.inr false)) else some (Sum.inl ((W (x85.1 + 1)), (x85.2.set v88.At.toNat (A2_I.mk (W ((x85.2.getD v88.At.toNat zA2_I).a0 + 1)) ((x85.2.getD v88.At.toNat zA2_I).a1))))))) else (if (W (1 - v88.Side)) = ((1 : Nat) : Int) then (bif (decide (((x85.2.set v88.At.toNat (A2_I.mk (W ((x85.2.getD v88.At.toNat zA2_I).a0 + 1)) ((x85.2.getD v88.At.toNat zA2_I).a1))).getD v88.At.toNat zA2_I).a1 > 0)) then some (Sum.inr (Sum.inr false)) else (bif (decide (((x85.2.set v88.At.toNat (A2_I.mk (W ((x85.2.getD v88.At.toNat zA2_I).a0 + 1)) ((x85.2.getD v88.At.toNat zA2_I).a1))).getD v88.At.toNat zA2_I).a0 > p0.Rules.Stack)) then some (Sum.inr (Sum.inr false)) else some (Sum.inl ((W (x85.1 + 1)), (x85.2.set v88.At.toNat (A2_I.mk (W ((x85.2.getD v88.At.toNat zA2_I).a0 + 1)) ((x85.2.getD v88.At.toNat zA2_I).a1))))))) else none)) else (if v88.Side = ((1 : Nat) : Int) then (if (W (1 - v88.Side)) = ((0 : Nat) : Int) then (bif (decide (((x85.2.set v88.At.toNat (A2_I.mk ((x85.2.getD v88.At.toNat zA2_I).a0) (W ((x85.2.getD v88.At.toNat zA2_I).a1 + 1)))).getD v88.At.toNat zA2_I).a0 > 0)) then some (Sum.inr (Sum.inr false)) else (bif (decide (((x85.2.set v88.At.toNat (A2_I.mk ((x85.2.getD v88.At.toNat zA2_I).a0) (W ((x85.2.getD v88.At.toNat zA2_I).a1 + 1)))).getD v88.At.toNat zA2_I).a1 > p0.Rules.Stack)) then some (Sum.inr (Sum.inr false)) else some (Sum.inl ((W (x85.1 + 1)), (x85.2.set v88.At.toNat (A2_I.mk ((x85.2.getD v88.At.toNat zA2_I).a0) (W ((x85.2.getD v88.At.toNat zA2_I).a1 + 1)))))))) else (if (W (1 - v88.Side)) = ((1 : Nat) : Int) then (bif (decide (((x85.2.set v88.At.toNat (A2_I.mk ((x85.2.getD v88.At.toNat zA2_I).a0) (W ((x85.2.getD v88.At.toNat zA2_I).a1 + 1)))).getD v88.At.toNat zA2_I).a1 > 0)) then some (Sum.inr (Sum.inr false)) else (bif (decide (((x85.2.set v88.At.toNat (A2_I.mk ((x85.2.getD v88.At.toNat zA2_I).a0) (W ((x85.2.getD v88.At.toNat zA2_I).a1 + 1)))).getD v88.At.toNat zA2_I).a1 > p0.Rules.Stack)) then some (Sum.inr (Sum.inr false)) else some (Sum.inl ((W (x85.1 + 1)), (x85.2.set v88.At.toNat (A2_I.mk ((x85.2.getD v88.At.toNat zA2_I).a0) (W ((x85.2.getD v88.At.toNat zA2_I).a1 + 1)))))))) else none)) else none)) else none))))) else some (Sum.inr (Sum.inl ()))) : Option ((Int × (List A2_I)) ⊕ (Unit ⊕ Bool)))) (0, (List.replicate v15.toNat zA2_I))).bind fun y119 => (Sum.elim (fun (y121 : Unit) => some true) (fun (y122 : Bool) => some y122) y119)) else none)))))))
theorem i_goodState_ok (p0 : TBoard) (p1 : TState) (r : Bool) (H : X.i_goodState p0 p1 = some r) : FnOk Tryz.prog gl 181 [.agg (eTBoard p0), .agg (eTState p1)] (cB r) := by
 unfold X.i_goodState at H
 refine fi Tryz.f181 i_goodState_ir [(4, cB r)] [] glL Tryz.func181 ?_
 refine so [] [] [(2, pk 2), (3, pk 3)] [(2, va (eTBoard p0)), (3, va (eTState p1))] id ?_
 refine seq_in ?_
 obtain ⟨v8, h9, H⟩ := ofBind H
 rcases ofCond H with ⟨c10, H⟩ | ⟨c10, H⟩
 ·refine so [.res (cB v8), .g true, .g true, .g true, .g true, .g true, .g true, .g true, .g true, .g true, .g true] [] [(2, pk 2), (3, pk 3), (26, cB true)] [(2, va (eTBoard p0)), (3, va (eTState p1))] (fun t => aI (i_inRange_ok p1.Turn 0 p0.Rules.Turns v8 h9) (aI c10 (aI c10 (aI c10 (aI c10 (aI c10 (aI (rfl : (true : Bool) = true) (aI (rfl : (true : Bool) = true) (aI (rfl : (true : Bool) = true) (aI (rfl : (true : Bool) = true) (aI (rfl : (true : Bool) = true) (t)))))))))))) ?_
  refine it (rfl : (true : Bool) = true) ?_
  refine so [] [] [(4, cB false)] [] id ?_
  refine ends_ret ?_
  cases H
  exact And.intro (.inl rfl) rfl
 ·obtain ⟨v11, h12, H⟩ := ofBind H
  rcases ofCond H with ⟨c13, H⟩ | ⟨c13, H⟩
  ·refine so [.res (cB v8), .g false, .g false, .g false, .res (cB v11), .g false, .g false, .g true, .g true, .g true, .g true, .g true] [] [(2, pk 2), (3, pk 3), (26, cB true)] [(2, va (eTBoard p0)), (3, va (eTState p1))] (fun t => aI (i_inRange_ok p1.Turn 0 p0.Rules.Turns v8 h9) (aI c10 (aI c10 (aI c10 (aI (i_inRange_ok p1.Weather 0 2 v11 h12) (aI c10 (aI c10 (aI c13 (aI c13 (aI c13 (aI c13 (aI c13 (t))))))))))))) ?_
   refine it (rfl : (true : Bool) = true) ?_
   refine so [] [] [(4, cB false)] [] id ?_
   refine ends_ret ?_
   cases H
   exact And.intro (.inl rfl) rfl
  ·refine so [.res (cB v8), .g false, .g false, .g false, .res (cB v11), .g false, .g false, .g false, .g false, .g false, .g false, .g false] [] [(2, pk 2), (3, pk 3), (26, cB (decide ((p1.Units.length : Int) > 12)))] [(2, va (eTBoard p0)), (3, va (eTState p1))] (fun t => aI (i_inRange_ok p1.Turn 0 p0.Rules.Turns v8 h9) (aI c10 (aI c10 (aI c10 (aI (i_inRange_ok p1.Weather 0 2 v11 h12) (aI c10 (aI c10 (aI c13 (aI c13 (aI c13 (lI p1.Units (aI c13 (aI c13 (t)))))))))))))) ?_
   rcases ofCond H with ⟨c14, H⟩ | ⟨c14, H⟩
   ·refine it c14 ?_
    refine so [] [] [(4, cB false)] [] id ?_
    refine ends_ret ?_
    cases H
    exact And.intro (.inl rfl) rfl
   ·refine jf c14 ?_
    refine sk ?_
    obtain ⟨v15, h16, H⟩ := ofBind H
    obtain ⟨g17, H⟩ := ofIf H
    refine so [.res (cI v15), .fn (List.replicate v15.toNat zA2_I).length (fF eA2_I zA2_I (List.replicate v15.toNat zA2_I))] [] [(2, pk 2), (3, pk 3), (5, .c (.own 29 2 0 ((List.replicate v15.toNat zA2_I).length)))] [(2, va (eTBoard p0)), (3, va (eTState p1)), (29, .arr 2 ((List.replicate v15.toNat zA2_I).length) (fF eA2_I zA2_I (List.replicate v15.toNat zA2_I)) false)] (fun t => aI (i_sizeOf_ok p0 v15 h16) (aI (And.intro g17.1 (And.intro (List.length_replicate (n := v15.toNat) (a := zA2_I)).symm (Nat.le_trans (Nat.le_of_eq List.length_replicate) g17.2 : (List.replicate v15.toNat zA2_I).length ≤ LIM))) (aI (fF_rep eA2_I zA2_I zA2_I v15.toNat) (t)))) ?_
    refine seq_in ?_
    refine so [] [] [(2, pk 2), (5, .c (.own 29 2 0 ((List.replicate v15.toNat zA2_I).length))), (31, dc 4 eTUnit zTUnit p1.Units), (32, cI (p1.Units.length : Int)), (33, cI 0)] [(2, va (eTBoard p0)), (29, .arr 2 ((List.replicate v15.toNat zA2_I).length) (fF eA2_I zA2_I (List.replicate v15.toNat zA2_I)) false)] (fun t => lI p1.Units (t)) ?_
    refine ends_blk ?_
    obtain ⟨y119, h120, H⟩ := ofBind H
    refine loop_in (fun (x : (Int × (List A2_I))) => lit [(2, pk 2), (5, .c (.own 29 2 0 x.2.length)), (31, dc 4 eTUnit zTUnit p1.Units), (32, cI (p1.Units.length : Int)), (33, cI x.1)] [(2, va (eTBoard p0)), (29, .arr 2 x.2.length (fF eA2_I zA2_I x.2) false)]) (orJ (fun (z : Unit) => At (.exit 0) (lit [] [])) (fun (z : Bool) => At .ret (lit [(4, cB z)] []))) h120 ?_ ?_
    ·clear H h120
     intro x85 y0 H
     refine so [] [] [(2, pk 2), (5, .c (.own 29 2 0 x85.2.length)), (31, dc 4 eTUnit zTUnit p1.Units), (32, cI (p1.Units.length : Int)), (33, cI x85.1), (34, cB (decide (x85.1 < (p1.Units.length : Int))))] [(2, va (eTBoard p0)), (29, .arr 2 x85.2.length (fF eA2_I zA2_I x85.2) false)] id ?_
     refine seq_in ?_
     rcases ofCond H with ⟨c87, H⟩ | ⟨c87, H⟩
     ·refine it c87 ?_
      refine sk ?_
      refine seq_in ?_
      refine ends_blk ?_
      obtain ⟨v88, h89, H⟩ := ofBind H
      refine so [.cs (eTUnit v88)] [] [(2, pk 2), (5, .c (.own 29 2 0 x85.2.length)), (7, pk 7), (31, dc 4 eTUnit zTUnit p1.Units), (32, cI (p1.Units.length : Int)), (33, cI x85.1)] [(2, va (eTBoard p0)), (7, va (eTUnit v88)), (29, .arr 2 x85.2.length (fF eA2_I zA2_I x85.2) false)] (fun t => aI (at_lt h89) (aI (at_enc (enc := eTUnit) h89) (t))) ?_
      refine seq_in ?_
      obtain ⟨v93, h94, H⟩ := ofBind H
      refine so [.res (cB v93)] [] [(2, pk 2), (5, .c (.own 29 2 0 x85.2.length)), (7, pk 7), (31, dc 4 eTUnit zTUnit p1.Units), (32, cI (p1.Units.length : Int)), (33, cI x85.1), (40, cB (!v93))] [(2, va (eTBoard p0)), (7, va (eTUnit v88)), (29, .arr 2 x85.2.length (fF eA2_I zA2_I x85.2) false)] (fun t => aI (i_goodUnit_ok p0 v88 v93 h94) (t)) ?_
      rcases ofCond H with ⟨c95, H⟩ | ⟨c95, H⟩
      ·refine it c95 ?_
       refine so [] [] [(4, cB false)] [] id ?_
       refine ends_ret ?_
       cases H
       exact And.intro (by simp) (And.intro rfl rfl)
      ·refine jf c95 ?_
       refine sk ?_
       refine seq_in ?_
       refine so [] [] [(2, pk 2), (5, .c (.own 29 2 0 x85.2.length)), (7, pk 7), (31, dc 4 eTUnit zTUnit p1.Units), (32, cI (p1.Units.length : Int)), (33, cI x85.1), (43, cB (decide (v88.At < 0)))] [(2, va (eTBoard p0)), (7, va (eTUnit v88)), (29, .arr 2 x85.2.length (fF eA2_I zA2_I x85.2) false)] id ?_
       rcases ofCond H with ⟨c97, H⟩ | ⟨c97, H⟩
       ·refine it c97 ?_
        refine ends_exit ?_
        change EndsI _ _ _ _ _ _
        refine oo [] [] [(2, pk 2), (5, .c (.own 29 2 0 x85.2.length)), (31, dc 4 eTUnit zTUnit p1.Units), (32, cI (p1.Units.length : Int)), (33, cI (W (x85.1 + 1)))] [(2, va (eTBoard p0)), (29, .arr 2 x85.2.length (fF eA2_I zA2_I x85.2) false)] id ?_
        cases H
        exact And.intro rfl rfl
       ·refine jf c97 ?_
        refine sk ?_
        obtain ⟨g98, H⟩ := ofIf H
        rcases ofIte H with ⟨c99, H⟩ | ⟨c118, H⟩
        ·refine sd [.no, .nat 0, .no, .nat 0, .fn 0 (fF eA2_I zA2_I (x85.2.set v88.At.toNat (A2_I.mk (W ((x85.2.getD v88.At.toNat zA2_I).a0 + 1)) ((x85.2.getD v88.At.toNat zA2_I).a1))))] [] [(2, pk 2), (5, .c (.own 29 2 0 x85.2.length)), (7, pk 7), (31, dc 4 eTUnit zTUnit p1.Units), (32, cI (p1.Units.length : Int)), (33, cI x85.1)] [(2, va (eTBoard p0)), (7, va (eTUnit v88)), (29, .arr 2 x85.2.length (fF eA2_I zA2_I (x85.2.set v88.At.toNat (A2_I.mk (W ((x85.2.getD v88.At.toNat zA2_I).a0 + 1)) ((x85.2.getD v88.At.toNat zA2_I).a1)))) false)] (fun t => aI g98 (aI (And.intro c99 (by decide : 0 < 2)) (aI (nat_lt g98) (aI (rfl : ([] : List Nat) = []) (aI g98 (aI (And.intro c99 (by decide : 0 < 2)) (aI (rfl : true = true) (aI (nat_lt g98) (aI (by decide : 0 + 1 ≤ 2) (aI (fF_set eA2_I zA2_I x85.2 v88.At.toNat (A2_I.mk (W ((x85.2.getD v88.At.toNat zA2_I).a0 + 1)) ((x85.2.getD v88.At.toNat zA2_I).a1)) (nat_lt g98) x85.2.length) (t))))))))))) ?_
         rcases ofIte H with ⟨c100, H⟩ | ⟨c107, H⟩
         ·rcases ofCond H with ⟨c101, H⟩ | ⟨c101, H⟩
          ·refine sd [.no, .nat 0, .g true, .g true, .g true, .g true, .g true, .g true, .g true, .g true, .g true, .g true, .g true, .g true, .g true] [] [(2, pk 2), (5, .c (.own 29 2 0 x85.2.length)), (31, dc 4 eTUnit zTUnit p1.Units), (32, cI (p1.Units.length : Int)), (33, cI x85.1), (78, cB true)] [(2, va (eTBoard p0)), (29, .arr 2 x85.2.length (fF eA2_I zA2_I (x85.2.set v88.At.toNat (A2_I.mk (W ((x85.2.getD v88.At.toNat zA2_I).a0 + 1)) ((x85.2.getD v88.At.toNat zA2_I).a1)))) false)] (fun t => aI g98 (aI (And.intro c100 (by decide : 0 < 2)) (aI (nat_lt g98) (aI (rfl : ([] : List Nat) = []) (aI c101 (aI c101 (aI c101 (aI c101 (aI c101 (aI c101 (aI c101 (aI c101 (aI c101 (aI c101 (aI c101 (aI c101 (aI c101 (t)))))))))))))))))) ?_
           refine it (rfl : (true : Bool) = true) ?_
           refine so [] [] [(4, cB false)] [] id ?_
           refine ends_ret ?_
           cases H
           exact And.intro (by simp) (And.intro rfl rfl)
          ·refine sd [.no, .nat 0, .g false, .g false, .g false, .g false, .g false, .g false, .no, .g false, .nat 0, .g false, .g false, .g false, .g false, .g false, .g false] [] [(2, pk 2), (5, .c (.own 29 2 0 x85.2.length)), (31, dc 4 eTUnit zTUnit p1.Units), (32, cI (p1.Units.length : Int)), (33, cI x85.1), (78, cB (decide (((x85.2.set v88.At.toNat (A2_I.mk (W ((x85.2.getD v88.At.toNat zA2_I).a0 + 1)) ((x85.2.getD v88.At.toNat zA2_I).a1))).getD v88.At.toNat zA2_I).a0 > p0.Rules.Stack)))] [(2, va (eTBoard p0)), (29, .arr 2 x85.2.length (fF eA2_I zA2_I (x85.2.set v88.At.toNat (A2_I.mk (W ((x85.2.getD v88.At.toNat zA2_I).a0 + 1)) ((x85.2.getD v88.At.toNat zA2_I).a1)))) false)] (fun t => aI g98 (aI (And.intro c100 (by decide : 0 < 2)) (aI (nat_lt g98) (aI (rfl : ([] : List Nat) = []) (aI c101 (aI c101 (aI c101 (aI c101 (aI c101 (aI c101 (aI g98 (aI c101 (aI (And.intro c99 (by decide : 0 < 2)) (aI c101 (aI (nat_lt g98) (aI (rfl : ([] : List Nat) = []) (aI c101 (aI c101 (aI c101 (aI c101 (aI c101 (t)))))))))))))))))))))) ?_
           rcases ofCond H with ⟨c102, H⟩ | ⟨c102, H⟩
           ·refine it c102 ?_
            refine so [] [] [(4, cB false)] [] id ?_
            refine ends_ret ?_
            cases H
            exact And.intro (by simp) (And.intro rfl rfl)
           ·refine jf c102 ?_
            refine sk ?_
            refine oo [] [.rel 5 ((x85.2.set v88.At.toNat (A2_I.mk (W ((x85.2.getD v88.At.toNat zA2_I).a0 + 1)) ((x85.2.getD v88.At.toNat zA2_I).a1))).length), .rep 29 ((x85.2.set v88.At.toNat (A2_I.mk (W ((x85.2.getD v88.At.toNat zA2_I).a0 + 1)) ((x85.2.getD v88.At.toNat zA2_I).a1))).length) (fF eA2_I zA2_I (x85.2.set v88.At.toNat (A2_I.mk (W ((x85.2.getD v88.At.toNat zA2_I).a0 + 1)) ((x85.2.getD v88.At.toNat zA2_I).a1))))] [(2, pk 2), (5, .c (.own 29 2 0 ((x85.2.set v88.At.toNat (A2_I.mk (W ((x85.2.getD v88.At.toNat zA2_I).a0 + 1)) ((x85.2.getD v88.At.toNat zA2_I).a1))).length))), (31, dc 4 eTUnit zTUnit p1.Units), (32, cI (p1.Units.length : Int)), (33, cI (W (x85.1 + 1)))] [(2, va (eTBoard p0)), (29, .arr 2 ((x85.2.set v88.At.toNat (A2_I.mk (W ((x85.2.getD v88.At.toNat zA2_I).a0 + 1)) ((x85.2.getD v88.At.toNat zA2_I).a1))).length) (fF eA2_I zA2_I (x85.2.set v88.At.toNat (A2_I.mk (W ((x85.2.getD v88.At.toNat zA2_I).a0 + 1)) ((x85.2.getD v88.At.toNat zA2_I).a1)))) false)] (fun t => aI (by simp : x85.2.length = (x85.2.set v88.At.toNat (A2_I.mk (W ((x85.2.getD v88.At.toNat zA2_I).a0 + 1)) ((x85.2.getD v88.At.toNat zA2_I).a1))).length) (aI (Nat.le_of_eq (by simp : (x85.2.set v88.At.toNat (A2_I.mk (W ((x85.2.getD v88.At.toNat zA2_I).a0 + 1)) ((x85.2.getD v88.At.toNat zA2_I).a1))).length = x85.2.length)) (aI (fun _ _ => rfl : ∀ i, i < (x85.2.set v88.At.toNat (A2_I.mk (W ((x85.2.getD v88.At.toNat zA2_I).a0 + 1)) ((x85.2.getD v88.At.toNat zA2_I).a1))).length → (fF eA2_I zA2_I (x85.2.set v88.At.toNat (A2_I.mk (W ((x85.2.getD v88.At.toNat zA2_I).a0 + 1)) ((x85.2.getD v88.At.toNat zA2_I).a1)))) i = (fF eA2_I zA2_I (x85.2.set v88.At.toNat (A2_I.mk (W ((x85.2.getD v88.At.toNat zA2_I).a0 + 1)) ((x85.2.getD v88.At.toNat zA2_I).a1)))) i) (t)))) ?_
            cases H
            exact And.intro rfl rfl
         ·rcases ofIte H with ⟨c103, H⟩ | ⟨c106, H⟩
          ·rcases ofCond H with ⟨c104, H⟩ | ⟨c104, H⟩
           ·refine sd [.no, .nat 1, .g true, .g true, .g true, .g true, .g true, .g true, .g true, .g true, .g true, .g true, .g true, .g true, .g true] [] [(2, pk 2), (5, .c (.own 29 2 0 x85.2.length)), (31, dc 4 eTUnit zTUnit p1.Units), (32, cI (p1.Units.length : Int)), (33, cI x85.1), (78, cB true)] [(2, va (eTBoard p0)), (29, .arr 2 x85.2.length (fF eA2_I zA2_I (x85.2.set v88.At.toNat (A2_I.mk (W ((x85.2.getD v88.At.toNat zA2_I).a0 + 1)) ((x85.2.getD v88.At.toNat zA2_I).a1)))) false)] (fun t => aI g98 (aI (And.intro c103 (by decide : 1 < 2)) (aI (nat_lt g98) (aI (rfl : ([] : List Nat) = []) (aI c104 (aI c104 (aI c104 (aI c104 (aI c104 (aI c104 (aI c104 (aI c104 (aI c104 (aI c104 (aI c104 (aI c104 (aI c104 (t)))))))))))))))))) ?_
            refine it (rfl : (true : Bool) = true) ?_
            refine so [] [] [(4, cB false)] [] id ?_
            refine ends_ret ?_
            cases H
            exact And.intro (by simp) (And.intro rfl rfl)
           ·refine sd [.no, .nat 1, .g false, .g false, .g false, .g false, .g false, .g false, .no, .g false, .nat 0, .g false, .g false, .g false, .g false, .g false, .g false] [] [(2, pk 2), (5, .c (.own 29 2 0 x85.2.length)), (31, dc 4 eTUnit zTUnit p1.Units), (32, cI (p1.Units.length : Int)), (33, cI x85.1), (78, cB (decide (((x85.2.set v88.At.toNat (A2_I.mk (W ((x85.2.getD v88.At.toNat zA2_I).a0 + 1)) ((x85.2.getD v88.At.toNat zA2_I).a1))).getD v88.At.toNat zA2_I).a0 > p0.Rules.Stack)))] [(2, va (eTBoard p0)), (29, .arr 2 x85.2.length (fF eA2_I zA2_I (x85.2.set v88.At.toNat (A2_I.mk (W ((x85.2.getD v88.At.toNat zA2_I).a0 + 1)) ((x85.2.getD v88.At.toNat zA2_I).a1)))) false)] (fun t => aI g98 (aI (And.intro c103 (by decide : 1 < 2)) (aI (nat_lt g98) (aI (rfl : ([] : List Nat) = []) (aI c104 (aI c104 (aI c104 (aI c104 (aI c104 (aI c104 (aI g98 (aI c104 (aI (And.intro c99 (by decide : 0 < 2)) (aI c104 (aI (nat_lt g98) (aI (rfl : ([] : List Nat) = []) (aI c104 (aI c104 (aI c104 (aI c104 (aI c104 (t)))))))))))))))))))))) ?_
            rcases ofCond H with ⟨c105, H⟩ | ⟨c105, H⟩
            ·refine it c105 ?_
             refine so [] [] [(4, cB false)] [] id ?_
             refine ends_ret ?_
             cases H
             exact And.intro (by simp) (And.intro rfl rfl)
            ·refine jf c105 ?_
             refine sk ?_
             refine oo [] [.rel 5 ((x85.2.set v88.At.toNat (A2_I.mk (W ((x85.2.getD v88.At.toNat zA2_I).a0 + 1)) ((x85.2.getD v88.At.toNat zA2_I).a1))).length), .rep 29 ((x85.2.set v88.At.toNat (A2_I.mk (W ((x85.2.getD v88.At.toNat zA2_I).a0 + 1)) ((x85.2.getD v88.At.toNat zA2_I).a1))).length) (fF eA2_I zA2_I (x85.2.set v88.At.toNat (A2_I.mk (W ((x85.2.getD v88.At.toNat zA2_I).a0 + 1)) ((x85.2.getD v88.At.toNat zA2_I).a1))))] [(2, pk 2), (5, .c (.own 29 2 0 ((x85.2.set v88.At.toNat (A2_I.mk (W ((x85.2.getD v88.At.toNat zA2_I).a0 + 1)) ((x85.2.getD v88.At.toNat zA2_I).a1))).length))), (31, dc 4 eTUnit zTUnit p1.Units), (32, cI (p1.Units.length : Int)), (33, cI (W (x85.1 + 1)))] [(2, va (eTBoard p0)), (29, .arr 2 ((x85.2.set v88.At.toNat (A2_I.mk (W ((x85.2.getD v88.At.toNat zA2_I).a0 + 1)) ((x85.2.getD v88.At.toNat zA2_I).a1))).length) (fF eA2_I zA2_I (x85.2.set v88.At.toNat (A2_I.mk (W ((x85.2.getD v88.At.toNat zA2_I).a0 + 1)) ((x85.2.getD v88.At.toNat zA2_I).a1)))) false)] (fun t => aI (by simp : x85.2.length = (x85.2.set v88.At.toNat (A2_I.mk (W ((x85.2.getD v88.At.toNat zA2_I).a0 + 1)) ((x85.2.getD v88.At.toNat zA2_I).a1))).length) (aI (Nat.le_of_eq (by simp : (x85.2.set v88.At.toNat (A2_I.mk (W ((x85.2.getD v88.At.toNat zA2_I).a0 + 1)) ((x85.2.getD v88.At.toNat zA2_I).a1))).length = x85.2.length)) (aI (fun _ _ => rfl : ∀ i, i < (x85.2.set v88.At.toNat (A2_I.mk (W ((x85.2.getD v88.At.toNat zA2_I).a0 + 1)) ((x85.2.getD v88.At.toNat zA2_I).a1))).length → (fF eA2_I zA2_I (x85.2.set v88.At.toNat (A2_I.mk (W ((x85.2.getD v88.At.toNat zA2_I).a0 + 1)) ((x85.2.getD v88.At.toNat zA2_I).a1)))) i = (fF eA2_I zA2_I (x85.2.set v88.At.toNat (A2_I.mk (W ((x85.2.getD v88.At.toNat zA2_I).a0 + 1)) ((x85.2.getD v88.At.toNat zA2_I).a1)))) i) (t)))) ?_
             cases H
             exact And.intro rfl rfl
          ·cases H
        ·rcases ofIte H with ⟨c108, H⟩ | ⟨c117, H⟩
         ·refine sd [.no, .nat 1, .no, .nat 1, .fn 0 (fF eA2_I zA2_I (x85.2.set v88.At.toNat (A2_I.mk ((x85.2.getD v88.At.toNat zA2_I).a0) (W ((x85.2.getD v88.At.toNat zA2_I).a1 + 1)))))] [] [(2, pk 2), (5, .c (.own 29 2 0 x85.2.length)), (7, pk 7), (31, dc 4 eTUnit zTUnit p1.Units), (32, cI (p1.Units.length : Int)), (33, cI x85.1)] [(2, va (eTBoard p0)), (7, va (eTUnit v88)), (29, .arr 2 x85.2.length (fF eA2_I zA2_I (x85.2.set v88.At.toNat (A2_I.mk ((x85.2.getD v88.At.toNat zA2_I).a0) (W ((x85.2.getD v88.At.toNat zA2_I).a1 + 1))))) false)] (fun t => aI g98 (aI (And.intro c108 (by decide : 1 < 2)) (aI (nat_lt g98) (aI (rfl : ([] : List Nat) = []) (aI g98 (aI (And.intro c108 (by decide : 1 < 2)) (aI (rfl : true = true) (aI (nat_lt g98) (aI (by decide : 1 + 1 ≤ 2) (aI (fF_set eA2_I zA2_I x85.2 v88.At.toNat (A2_I.mk ((x85.2.getD v88.At.toNat zA2_I).a0) (W ((x85.2.getD v88.At.toNat zA2_I).a1 + 1))) (nat_lt g98) x85.2.length) (t))))))))))) ?_
          rcases ofIte H with ⟨c109, H⟩ | ⟨c116, H⟩
          ·rcases ofCond H with ⟨c110, H⟩ | ⟨c110, H⟩
           ·refine sd [.no, .nat 0, .g true, .g true, .g true, .g true, .g true, .g true, .g true, .g true, .g true, .g true, .g true, .g true, .g true] [] [(2, pk 2), (5, .c (.own 29 2 0 x85.2.length)), (31, dc 4 eTUnit zTUnit p1.Units), (32, cI (p1.Units.length : Int)), (33, cI x85.1), (78, cB true)] [(2, va (eTBoard p0)), (29, .arr 2 x85.2.length (fF eA2_I zA2_I (x85.2.set v88.At.toNat (A2_I.mk ((x85.2.getD v88.At.toNat zA2_I).a0) (W ((x85.2.getD v88.At.toNat zA2_I).a1 + 1))))) false)] (fun t => aI g98 (aI (And.intro c109 (by decide : 0 < 2)) (aI (nat_lt g98) (aI (rfl : ([] : List Nat) = []) (aI c110 (aI c110 (aI c110 (aI c110 (aI c110 (aI c110 (aI c110 (aI c110 (aI c110 (aI c110 (aI c110 (aI c110 (aI c110 (t)))))))))))))))))) ?_
            refine it (rfl : (true : Bool) = true) ?_
            refine so [] [] [(4, cB false)] [] id ?_
            refine ends_ret ?_
            cases H
            exact And.intro (by simp) (And.intro rfl rfl)
           ·refine sd [.no, .nat 0, .g false, .g false, .g false, .g false, .g false, .g false, .no, .g false, .nat 1, .g false, .g false, .g false, .g false, .g false, .g false] [] [(2, pk 2), (5, .c (.own 29 2 0 x85.2.length)), (31, dc 4 eTUnit zTUnit p1.Units), (32, cI (p1.Units.length : Int)), (33, cI x85.1), (78, cB (decide (((x85.2.set v88.At.toNat (A2_I.mk ((x85.2.getD v88.At.toNat zA2_I).a0) (W ((x85.2.getD v88.At.toNat zA2_I).a1 + 1)))).getD v88.At.toNat zA2_I).a1 > p0.Rules.Stack)))] [(2, va (eTBoard p0)), (29, .arr 2 x85.2.length (fF eA2_I zA2_I (x85.2.set v88.At.toNat (A2_I.mk ((x85.2.getD v88.At.toNat zA2_I).a0) (W ((x85.2.getD v88.At.toNat zA2_I).a1 + 1))))) false)] (fun t => aI g98 (aI (And.intro c109 (by decide : 0 < 2)) (aI (nat_lt g98) (aI (rfl : ([] : List Nat) = []) (aI c110 (aI c110 (aI c110 (aI c110 (aI c110 (aI c110 (aI g98 (aI c110 (aI (And.intro c108 (by decide : 1 < 2)) (aI c110 (aI (nat_lt g98) (aI (rfl : ([] : List Nat) = []) (aI c110 (aI c110 (aI c110 (aI c110 (aI c110 (t)))))))))))))))))))))) ?_
            rcases ofCond H with ⟨c111, H⟩ | ⟨c111, H⟩
            ·refine it c111 ?_
             refine so [] [] [(4, cB false)] [] id ?_
             refine ends_ret ?_
             cases H
             exact And.intro (by simp) (And.intro rfl rfl)
            ·refine jf c111 ?_
             refine sk ?_
             refine oo [] [.rel 5 ((x85.2.set v88.At.toNat (A2_I.mk ((x85.2.getD v88.At.toNat zA2_I).a0) (W ((x85.2.getD v88.At.toNat zA2_I).a1 + 1)))).length), .rep 29 ((x85.2.set v88.At.toNat (A2_I.mk ((x85.2.getD v88.At.toNat zA2_I).a0) (W ((x85.2.getD v88.At.toNat zA2_I).a1 + 1)))).length) (fF eA2_I zA2_I (x85.2.set v88.At.toNat (A2_I.mk ((x85.2.getD v88.At.toNat zA2_I).a0) (W ((x85.2.getD v88.At.toNat zA2_I).a1 + 1)))))] [(2, pk 2), (5, .c (.own 29 2 0 ((x85.2.set v88.At.toNat (A2_I.mk ((x85.2.getD v88.At.toNat zA2_I).a0) (W ((x85.2.getD v88.At.toNat zA2_I).a1 + 1)))).length))), (31, dc 4 eTUnit zTUnit p1.Units), (32, cI (p1.Units.length : Int)), (33, cI (W (x85.1 + 1)))] [(2, va (eTBoard p0)), (29, .arr 2 ((x85.2.set v88.At.toNat (A2_I.mk ((x85.2.getD v88.At.toNat zA2_I).a0) (W ((x85.2.getD v88.At.toNat zA2_I).a1 + 1)))).length) (fF eA2_I zA2_I (x85.2.set v88.At.toNat (A2_I.mk ((x85.2.getD v88.At.toNat zA2_I).a0) (W ((x85.2.getD v88.At.toNat zA2_I).a1 + 1))))) false)] (fun t => aI (by simp : x85.2.length = (x85.2.set v88.At.toNat (A2_I.mk ((x85.2.getD v88.At.toNat zA2_I).a0) (W ((x85.2.getD v88.At.toNat zA2_I).a1 + 1)))).length) (aI (Nat.le_of_eq (by simp : (x85.2.set v88.At.toNat (A2_I.mk ((x85.2.getD v88.At.toNat zA2_I).a0) (W ((x85.2.getD v88.At.toNat zA2_I).a1 + 1)))).length = x85.2.length)) (aI (fun _ _ => rfl : ∀ i, i < (x85.2.set v88.At.toNat (A2_I.mk ((x85.2.getD v88.At.toNat zA2_I).a0) (W ((x85.2.getD v88.At.toNat zA2_I).a1 + 1)))).length → (fF eA2_I zA2_I (x85.2.set v88.At.toNat (A2_I.mk ((x85.2.getD v88.At.toNat zA2_I).a0) (W ((x85.2.getD v88.At.toNat zA2_I).a1 + 1))))) i = (fF eA2_I zA2_I (x85.2.set v88.At.toNat (A2_I.mk ((x85.2.getD v88.At.toNat zA2_I).a0) (W ((x85.2.getD v88.At.toNat zA2_I).a1 + 1))))) i) (t)))) ?_
             cases H
             exact And.intro rfl rfl
          ·rcases ofIte H with ⟨c112, H⟩ | ⟨c115, H⟩
           ·rcases ofCond H with ⟨c113, H⟩ | ⟨c113, H⟩
            ·refine sd [.no, .nat 1, .g true, .g true, .g true, .g true, .g true, .g true, .g true, .g true, .g true, .g true, .g true, .g true, .g true] [] [(2, pk 2), (5, .c (.own 29 2 0 x85.2.length)), (31, dc 4 eTUnit zTUnit p1.Units), (32, cI (p1.Units.length : Int)), (33, cI x85.1), (78, cB true)] [(2, va (eTBoard p0)), (29, .arr 2 x85.2.length (fF eA2_I zA2_I (x85.2.set v88.At.toNat (A2_I.mk ((x85.2.getD v88.At.toNat zA2_I).a0) (W ((x85.2.getD v88.At.toNat zA2_I).a1 + 1))))) false)] (fun t => aI g98 (aI (And.intro c112 (by decide : 1 < 2)) (aI (nat_lt g98) (aI (rfl : ([] : List Nat) = []) (aI c113 (aI c113 (aI c113 (aI c113 (aI c113 (aI c113 (aI c113 (aI c113 (aI c113 (aI c113 (aI c113 (aI c113 (aI c113 (t)))))))))))))))))) ?_
             refine it (rfl : (true : Bool) = true) ?_
             refine so [] [] [(4, cB false)] [] id ?_
             refine ends_ret ?_
             cases H
             exact And.intro (by simp) (And.intro rfl rfl)
            ·refine sd [.no, .nat 1, .g false, .g false, .g false, .g false, .g false, .g false, .no, .g false, .nat 1, .g false, .g false, .g false, .g false, .g false, .g false] [] [(2, pk 2), (5, .c (.own 29 2 0 x85.2.length)), (31, dc 4 eTUnit zTUnit p1.Units), (32, cI (p1.Units.length : Int)), (33, cI x85.1), (78, cB (decide (((x85.2.set v88.At.toNat (A2_I.mk ((x85.2.getD v88.At.toNat zA2_I).a0) (W ((x85.2.getD v88.At.toNat zA2_I).a1 + 1)))).getD v88.At.toNat zA2_I).a1 > p0.Rules.Stack)))] [(2, va (eTBoard p0)), (29, .arr 2 x85.2.length (fF eA2_I zA2_I (x85.2.set v88.At.toNat (A2_I.mk ((x85.2.getD v88.At.toNat zA2_I).a0) (W ((x85.2.getD v88.At.toNat zA2_I).a1 + 1))))) false)] (fun t => aI g98 (aI (And.intro c112 (by decide : 1 < 2)) (aI (nat_lt g98) (aI (rfl : ([] : List Nat) = []) (aI c113 (aI c113 (aI c113 (aI c113 (aI c113 (aI c113 (aI g98 (aI c113 (aI (And.intro c108 (by decide : 1 < 2)) (aI c113 (aI (nat_lt g98) (aI (rfl : ([] : List Nat) = []) (aI c113 (aI c113 (aI c113 (aI c113 (aI c113 (t)))))))))))))))))))))) ?_
             rcases ofCond H with ⟨c114, H⟩ | ⟨c114, H⟩
             ·refine it c114 ?_
              refine so [] [] [(4, cB false)] [] id ?_
              refine ends_ret ?_
              cases H
              exact And.intro (by simp) (And.intro rfl rfl)
             ·refine jf c114 ?_
              refine sk ?_
              refine oo [] [.rel 5 ((x85.2.set v88.At.toNat (A2_I.mk ((x85.2.getD v88.At.toNat zA2_I).a0) (W ((x85.2.getD v88.At.toNat zA2_I).a1 + 1)))).length), .rep 29 ((x85.2.set v88.At.toNat (A2_I.mk ((x85.2.getD v88.At.toNat zA2_I).a0) (W ((x85.2.getD v88.At.toNat zA2_I).a1 + 1)))).length) (fF eA2_I zA2_I (x85.2.set v88.At.toNat (A2_I.mk ((x85.2.getD v88.At.toNat zA2_I).a0) (W ((x85.2.getD v88.At.toNat zA2_I).a1 + 1)))))] [(2, pk 2), (5, .c (.own 29 2 0 ((x85.2.set v88.At.toNat (A2_I.mk ((x85.2.getD v88.At.toNat zA2_I).a0) (W ((x85.2.getD v88.At.toNat zA2_I).a1 + 1)))).length))), (31, dc 4 eTUnit zTUnit p1.Units), (32, cI (p1.Units.length : Int)), (33, cI (W (x85.1 + 1)))] [(2, va (eTBoard p0)), (29, .arr 2 ((x85.2.set v88.At.toNat (A2_I.mk ((x85.2.getD v88.At.toNat zA2_I).a0) (W ((x85.2.getD v88.At.toNat zA2_I).a1 + 1)))).length) (fF eA2_I zA2_I (x85.2.set v88.At.toNat (A2_I.mk ((x85.2.getD v88.At.toNat zA2_I).a0) (W ((x85.2.getD v88.At.toNat zA2_I).a1 + 1))))) false)] (fun t => aI (by simp : x85.2.length = (x85.2.set v88.At.toNat (A2_I.mk ((x85.2.getD v88.At.toNat zA2_I).a0) (W ((x85.2.getD v88.At.toNat zA2_I).a1 + 1)))).length) (aI (Nat.le_of_eq (by simp : (x85.2.set v88.At.toNat (A2_I.mk ((x85.2.getD v88.At.toNat zA2_I).a0) (W ((x85.2.getD v88.At.toNat zA2_I).a1 + 1)))).length = x85.2.length)) (aI (fun _ _ => rfl : ∀ i, i < (x85.2.set v88.At.toNat (A2_I.mk ((x85.2.getD v88.At.toNat zA2_I).a0) (W ((x85.2.getD v88.At.toNat zA2_I).a1 + 1)))).length → (fF eA2_I zA2_I (x85.2.set v88.At.toNat (A2_I.mk ((x85.2.getD v88.At.toNat zA2_I).a0) (W ((x85.2.getD v88.At.toNat zA2_I).a1 + 1))))) i = (fF eA2_I zA2_I (x85.2.set v88.At.toNat (A2_I.mk ((x85.2.getD v88.At.toNat zA2_I).a0) (W ((x85.2.getD v88.At.toNat zA2_I).a1 + 1))))) i) (t)))) ?_
              cases H
              exact And.intro rfl rfl
           ·cases H
         ·cases H
     ·refine jf c87 ?_
      refine tl [] [] [] id ?_
      refine ends_exit ?_
      cases H
      exact And.intro (by simp) (And.intro rfl rfl)
    ·clear h120
     cases y119 with
     | inl y121 =>
      replace H := ofInl H
      intro e s q
      obtain ⟨rfl, rfl⟩ := q
      change EndsI _ _ _ _ _ _
      refine so [] [] [(4, cB true)] [] id ?_
      refine ends_ret ?_
      cases H
      exact And.intro (.inl rfl) rfl
     | inr y122 =>
      replace H := ofInr H
      intro e s q
      obtain ⟨rfl, rfl⟩ := q
      cases H
      exact And.intro (.inl rfl) rfl
def i_goodReactions_ir : S :=
 (.seq (.ops [o 3 (.box 12 (.t 0)), o 4 (.box 3 (.t 1)), o 6 (.mv (.v (.bool false)))])
 (.seq (.seq (.ops [o 9 (.mv (.t 2)), o 10 (.len (.t 9)), o 11 (.bin .gtr (.t 10) (.v (.int .i64 12)))])
 (.ite (.t 11) (.seq (.ops [o 6 (.mv (.v (.bool false)))])
  .ret)
 .skip))
 (.seq (.seq (.ops [o 12 (.mv (.t 2)), o 13 (.len (.t 12)), o 14 (.mv (.v (.int .i64 0)))])
 (.blk 0 (.loop (.seq (.ops [o 15 (.bin .lss (.t 14) (.t 13))])
   (.seq (.ite (.t 15) .skip
   (.exit 0))
   (.seq (.blk 1 (.seq (.ops [o 16 (.iad 3 (.t 12) (.t 14)), o 17 (.load 3 true (.t 16)), o 8 (.alloc [.int .i64 0, .int .i64 0, .int .i64 0]), ⟨none, .store 3 (.t 8) (.t 17), none⟩])
    (.seq (.draw 21 [o 18 (.fad 0 (.t 8)), o 19 (.load 1 false (.t 18)), o 20 (.fad 2 (.t 4)), o 21 (.load 1 false (.t 20)), o 22 (.len (.t 21)), o 23 (.call 115 [.t 19, .t 22]), o 24 (.not (.t 23)), o 25 (.mv (.t 24)), ⟨some 26, .fad 1 (.t 8), some (25, false)⟩, ⟨some 27, .load 1 false (.t 26), some (25, false)⟩, ⟨some 28, .load 12 true (.t 3), some (25, false)⟩, ⟨some 29, .call 116 [.t 28], some (25, false)⟩, ⟨some 30, .call 115 [.t 27, .t 29], some (25, false)⟩, ⟨some 31, .not (.t 30), some (25, false)⟩, o 32 (.pick (.t 25) (.v (.bool true)) (.t 31)), o 33 (.mv (.t 32)), ⟨some 34, .fad 2 (.t 8), some (33, false)⟩, ⟨some 35, .load 1 false (.t 34), some (33, false)⟩, ⟨some 36, .call 145 [.t 35, .v (.int .i64 0), .v (.int .i64 1)], some (33, false)⟩, ⟨some 37, .not (.t 36), some (33, false)⟩, o 38 (.pick (.t 33) (.v (.bool true)) (.t 37))])
    (.ite (.t 38) (.seq (.ops [o 6 (.mv (.v (.bool false)))])
     .ret)
    .skip))))
   (.ops [o 39 (.bin .add (.t 14) (.v (.int .i64 1))), o 14 (.mv (.t 39))])))))))
 (.seq (.ops [o 6 (.mv (.v (.bool true)))])
 .ret))))
noncomputable def X.i_goodReactions (p0 : TBoard) (p1 : TState) (p2 : (List TReaction)) : Option Bool :=
 (bif (decide ((p2.length : Int) > 12)) then some false else ((loop (fun (x34 : Int) => ((bif (decide (x34 < (p2.length : Int))) then ((at' zTReaction p2 x34).bind fun v37 => ((X.i_isIndex v37.Unit (p1.Units.length : Int)).bind fun v39 => (bif (!v39) then some (Sum.inr (Sum.inr false)) else ((X.i_sizeOf p0).bind fun v42 => ((X.i_isIndex v37.Watch v42).bind fun v44 => (bif (!v44) then some (Sum.inr (Sum.inr false)) else ((X.i_inRange v37.Kind 0 1).bind fun v47 => (bif (!v47) then some (Sum.inr (Sum.inr false)) else some (Sum.inl (W (x34 + 1))))))))))) else some (Sum.inr (Sum.inl ()))) : Option (Int ⊕ (Unit ⊕ Bool)))) 0).bind fun y50 => (Sum.elim (fun (y52 : Unit) => some true) (fun (y53 : Bool) => some y53) y50)))
theorem i_goodReactions_ok (p0 : TBoard) (p1 : TState) (p2 : (List TReaction)) (r : Bool) (H : X.i_goodReactions p0 p1 p2 = some r) : FnOk Tryz.prog gl 202 [.agg (eTBoard p0), .agg (eTState p1), .c (dat 3 eTReaction zTReaction p2)] (cB r) := by
 unfold X.i_goodReactions at H
 refine fi Tryz.f202 i_goodReactions_ir [(6, cB r)] [] glL Tryz.func202 ?_
 refine so [] [] [(2, dc 3 eTReaction zTReaction p2), (3, pk 3), (4, pk 4)] [(3, va (eTBoard p0)), (4, va (eTState p1))] id ?_
 refine seq_in ?_
 refine so [] [] [(2, dc 3 eTReaction zTReaction p2), (3, pk 3), (4, pk 4), (11, cB (decide ((p2.length : Int) > 12)))] [(3, va (eTBoard p0)), (4, va (eTState p1))] (fun t => lI p2 (t)) ?_
 rcases ofCond H with ⟨c2, H⟩ | ⟨c2, H⟩
 ·refine it c2 ?_
  refine so [] [] [(6, cB false)] [] id ?_
  refine ends_ret ?_
  cases H
  exact And.intro (.inl rfl) rfl
 ·refine jf c2 ?_
  refine sk ?_
  refine seq_in ?_
  refine so [] [] [(3, pk 3), (4, pk 4), (12, dc 3 eTReaction zTReaction p2), (13, cI (p2.length : Int)), (14, cI 0)] [(3, va (eTBoard p0)), (4, va (eTState p1))] (fun t => lI p2 (t)) ?_
  refine ends_blk ?_
  obtain ⟨y50, h51, H⟩ := ofBind H
  refine loop_in (fun (x : Int) => lit [(3, pk 3), (4, pk 4), (12, dc 3 eTReaction zTReaction p2), (13, cI (p2.length : Int)), (14, cI x)] [(3, va (eTBoard p0)), (4, va (eTState p1))]) (orJ (fun (z : Unit) => At (.exit 0) (lit [] [])) (fun (z : Bool) => At .ret (lit [(6, cB z)] []))) h51 ?_ ?_
  ·clear H h51
   intro x34 y0 H
   refine so [] [] [(3, pk 3), (4, pk 4), (12, dc 3 eTReaction zTReaction p2), (13, cI (p2.length : Int)), (14, cI x34), (15, cB (decide (x34 < (p2.length : Int))))] [(3, va (eTBoard p0)), (4, va (eTState p1))] id ?_
   refine seq_in ?_
   rcases ofCond H with ⟨c36, H⟩ | ⟨c36, H⟩
   ·refine it c36 ?_
    refine sk ?_
    refine seq_in ?_
    refine ends_blk ?_
    obtain ⟨v37, h38, H⟩ := ofBind H
    refine so [.cs (eTReaction v37)] [] [(3, pk 3), (4, pk 4), (8, pk 8), (12, dc 3 eTReaction zTReaction p2), (13, cI (p2.length : Int)), (14, cI x34)] [(3, va (eTBoard p0)), (4, va (eTState p1)), (8, va (eTReaction v37))] (fun t => aI (at_lt h38) (aI (at_enc (enc := eTReaction) h38) (t))) ?_
    obtain ⟨v39, h40, H⟩ := ofBind H
    rcases ofCond H with ⟨c41, H⟩ | ⟨c41, H⟩
    ·refine sd [.res (cB v39), .g true, .g true, .g true, .g true, .g true, .g true, .g true, .g true, .g true, .g true, .g true, .g true] [] [(3, pk 3), (4, pk 4), (12, dc 3 eTReaction zTReaction p2), (13, cI (p2.length : Int)), (14, cI x34), (38, cB true)] [(3, va (eTBoard p0)), (4, va (eTState p1))] (fun t => aI (i_isIndex_ok v37.Unit (p1.Units.length : Int) v39 h40) (aI trivial (aI (rfl : ([] : List Nat) = []) (aI c41 (aI c41 (aI c41 (aI c41 (aI c41 (aI c41 (aI c41 (aI (rfl : (true : Bool) = true) (aI (rfl : (true : Bool) = true) (aI (rfl : (true : Bool) = true) (aI (rfl : (true : Bool) = true) (aI (rfl : (true : Bool) = true) (t)))))))))))))))) ?_
     refine it (rfl : (true : Bool) = true) ?_
     refine so [] [] [(6, cB false)] [] id ?_
     refine ends_ret ?_
     cases H
     exact And.intro (by simp) (And.intro rfl rfl)
    ·obtain ⟨v42, h43, H⟩ := ofBind H
     obtain ⟨v44, h45, H⟩ := ofBind H
     rcases ofCond H with ⟨c46, H⟩ | ⟨c46, H⟩
     ·refine sd [.res (cB v39), .g false, .g false, .g false, .g false, .res (cI v42), .g false, .res (cB v44), .g false, .g false, .g true, .g true, .g true, .g true, .g true] [] [(3, pk 3), (4, pk 4), (12, dc 3 eTReaction zTReaction p2), (13, cI (p2.length : Int)), (14, cI x34), (38, cB true)] [(3, va (eTBoard p0)), (4, va (eTState p1))] (fun t => aI (i_isIndex_ok v37.Unit (p1.Units.length : Int) v39 h40) (aI trivial (aI (rfl : ([] : List Nat) = []) (aI c41 (aI c41 (aI c41 (aI c41 (aI (i_sizeOf_ok p0 v42 h43) (aI trivial (aI (rfl : ([] : List Nat) = []) (aI c41 (aI (i_isIndex_ok v37.Watch v42 v44 h45) (aI trivial (aI (rfl : ([] : List Nat) = []) (aI c41 (aI c41 (aI c46 (aI c46 (aI c46 (aI c46 (aI c46 (t)))))))))))))))))))))) ?_
      refine it (rfl : (true : Bool) = true) ?_
      refine so [] [] [(6, cB false)] [] id ?_
      refine ends_ret ?_
      cases H
      exact And.intro (by simp) (And.intro rfl rfl)
     ·obtain ⟨v47, h48, H⟩ := ofBind H
      refine sd [.res (cB v39), .g false, .g false, .g false, .g false, .res (cI v42), .g false, .res (cB v44), .g false, .g false, .g false, .g false, .g false, .res (cB v47), .g false, .g false] [] [(3, pk 3), (4, pk 4), (12, dc 3 eTReaction zTReaction p2), (13, cI (p2.length : Int)), (14, cI x34), (38, cB (!v47))] [(3, va (eTBoard p0)), (4, va (eTState p1))] (fun t => aI (i_isIndex_ok v37.Unit (p1.Units.length : Int) v39 h40) (aI trivial (aI (rfl : ([] : List Nat) = []) (aI c41 (aI c41 (aI c41 (aI c41 (aI (i_sizeOf_ok p0 v42 h43) (aI trivial (aI (rfl : ([] : List Nat) = []) (aI c41 (aI (i_isIndex_ok v37.Watch v42 v44 h45) (aI trivial (aI (rfl : ([] : List Nat) = []) (aI c41 (aI c41 (aI c46 (aI c46 (aI c46 (aI (i_inRange_ok v37.Kind 0 1 v47 h48) (aI trivial (aI (rfl : ([] : List Nat) = []) (aI c46 (aI c46 (t))))))))))))))))))))))))) ?_
      rcases ofCond H with ⟨c49, H⟩ | ⟨c49, H⟩
      ·refine it c49 ?_
       refine so [] [] [(6, cB false)] [] id ?_
       refine ends_ret ?_
       cases H
       exact And.intro (by simp) (And.intro rfl rfl)
      ·refine jf c49 ?_
       refine sk ?_
       refine oo [] [] [(3, pk 3), (4, pk 4), (12, dc 3 eTReaction zTReaction p2), (13, cI (p2.length : Int)), (14, cI (W (x34 + 1)))] [(3, va (eTBoard p0)), (4, va (eTState p1))] id ?_
       cases H
       exact And.intro rfl rfl
   ·refine jf c36 ?_
    refine tl [] [] [] id ?_
    refine ends_exit ?_
    cases H
    exact And.intro (by simp) (And.intro rfl rfl)
  ·clear h51
   cases y50 with
   | inl y52 =>
    replace H := ofInl H
    intro e s q
    obtain ⟨rfl, rfl⟩ := q
    change EndsI _ _ _ _ _ _
    refine so [] [] [(6, cB true)] [] id ?_
    refine ends_ret ?_
    cases H
    exact And.intro (.inl rfl) rfl
   | inr y53 =>
    replace H := ofInr H
    intro e s q
    obtain ⟨rfl, rfl⟩ := q
    cases H
    exact And.intro (.inl rfl) rfl
def i_different_ir : S :=
 (.seq (.ops [o 2 (.mv (.v (.bool false)))])
 (.seq (.seq (.ops [o 5 (.mv (.t 0)), o 6 (.len (.t 5)), o 7 (.mv (.v (.int .i64 0)))])
 (.blk 0 (.loop (.seq (.ops [o 8 (.bin .lss (.t 7) (.t 6))])
   (.seq (.ite (.t 8) .skip
   (.exit 0))
   (.seq (.blk 1 (.seq (.ops [o 9 (.mv (.t 7)), o 10 (.iad 1 (.t 5) (.t 7)), o 11 (.load 1 false (.t 10)), o 3 (.mv (.t 9)), o 4 (.mv (.t 11))])
    (.seq (.ops [o 12 (.mv (.t 0)), o 13 (.mv (.t 3)), o 14 (.slc 1 (.t 12) none (some (.t 13))), o 15 (.mv (.t 4)), o 16 (.call 86 [.t 14, .t 15])])
    (.ite (.t 16) (.seq (.ops [o 2 (.mv (.v (.bool false)))])
     .ret)
    .skip))))
   (.ops [o 17 (.bin .add (.t 7) (.v (.int .i64 1))), o 7 (.mv (.t 17))])))))))
 (.seq (.ops [o 2 (.mv (.v (.bool true)))])
 .ret)))
noncomputable def X.i_different (p0 : (List Int)) : Option Bool :=
 ((loop (fun (x18 : Int) => ((bif (decide (x18 < (p0.length : Int))) then ((at' zI p0 x18).bind fun v21 => (if 0 ≤ (0 : Int) ∧ (0 : Int) ≤ x18 ∧ x18 ≤ (p0.length : Int) then ((X.g_Contains_int ((p0.drop (0 : Int).toNat).take (x18.toNat - (0 : Int).toNat)) v21).bind fun v24 => (bif v24 then some (Sum.inr (Sum.inr false)) else some (Sum.inl (W (x18 + 1))))) else none)) else some (Sum.inr (Sum.inl ()))) : Option (Int ⊕ (Unit ⊕ Bool)))) 0).bind fun y27 => (Sum.elim (fun (y29 : Unit) => some true) (fun (y30 : Bool) => some y30) y27))
theorem i_different_ok (p0 : (List Int)) (r : Bool) (H : X.i_different p0 = some r) : FnOk Tryz.prog gl 203 [.c (dat 1 eI zI p0)] (cB r) := by
 unfold X.i_different at H
 refine fi Tryz.f203 i_different_ir [(2, cB r)] [] glL Tryz.func203 ?_
 refine so [] [] [(0, dc 1 eI zI p0)] [] id ?_
 refine seq_in ?_
 refine so [] [] [(0, dc 1 eI zI p0), (5, dc 1 eI zI p0), (6, cI (p0.length : Int)), (7, cI 0)] [] (fun t => lI p0 (t)) ?_
 refine ends_blk ?_
 obtain ⟨y27, h28, H⟩ := ofBind H
 refine loop_in (fun (x : Int) => lit [(0, dc 1 eI zI p0), (5, dc 1 eI zI p0), (6, cI (p0.length : Int)), (7, cI x)] []) (orJ (fun (z : Unit) => At (.exit 0) (lit [] [])) (fun (z : Bool) => At .ret (lit [(2, cB z)] []))) h28 ?_ ?_
 ·clear H h28
  intro x18 y0 H
  refine so [] [] [(0, dc 1 eI zI p0), (5, dc 1 eI zI p0), (6, cI (p0.length : Int)), (7, cI x18), (8, cB (decide (x18 < (p0.length : Int))))] [] id ?_
  refine seq_in ?_
  rcases ofCond H with ⟨c20, H⟩ | ⟨c20, H⟩
  ·refine it c20 ?_
   refine sk ?_
   refine seq_in ?_
   refine ends_blk ?_
   obtain ⟨v21, h22, H⟩ := ofBind H
   refine so [.cs (eI v21)] [] [(0, dc 1 eI zI p0), (3, cI x18), (4, cI v21), (5, dc 1 eI zI p0), (6, cI (p0.length : Int)), (7, cI x18)] [] (fun t => aI (at_lt h22) (aI (at_enc (enc := eI) h22) (t))) ?_
   obtain ⟨g23, H⟩ := ofIf H
   obtain ⟨v24, h25, H⟩ := ofBind H
   refine so [.fn ((p0.drop (0 : Int).toNat).take (x18.toNat - (0 : Int).toNat)).length (fF eI zI ((p0.drop (0 : Int).toNat).take (x18.toNat - (0 : Int).toNat))), .res (cB v24)] [] [(0, dc 1 eI zI p0), (5, dc 1 eI zI p0), (6, cI (p0.length : Int)), (7, cI x18), (16, cB v24)] [] (fun t => aI g23 (aI (len_drop p0 (0 : Int) x18 g23) (aI (fF_drop eI zI p0 (0 : Int) x18 g23) (aI (g_Contains_int_ok ((p0.drop (0 : Int).toNat).take (x18.toNat - (0 : Int).toNat)) v21 v24 h25) (t))))) ?_
   rcases ofCond H with ⟨c26, H⟩ | ⟨c26, H⟩
   ·refine it c26 ?_
    refine so [] [] [(2, cB false)] [] id ?_
    refine ends_ret ?_
    cases H
    exact And.intro (by simp) (And.intro rfl rfl)
   ·refine jf c26 ?_
    refine sk ?_
    refine oo [] [] [(0, dc 1 eI zI p0), (5, dc 1 eI zI p0), (6, cI (p0.length : Int)), (7, cI (W (x18 + 1)))] [] id ?_
    cases H
    exact And.intro rfl rfl
  ·refine jf c20 ?_
   refine tl [] [] [] id ?_
   refine ends_exit ?_
   cases H
   exact And.intro (by simp) (And.intro rfl rfl)
 ·clear h28
  cases y27 with
  | inl y29 =>
   replace H := ofInl H
   intro e s q
   obtain ⟨rfl, rfl⟩ := q
   change EndsI _ _ _ _ _ _
   refine so [] [] [(2, cB true)] [] id ?_
   refine ends_ret ?_
   cases H
   exact And.intro (.inl rfl) rfl
  | inr y30 =>
   replace H := ofInr H
   intro e s q
   obtain ⟨rfl, rfl⟩ := q
   cases H
   exact And.intro (.inl rfl) rfl
def i_goodMachine_1_ir : S :=
 (.seq (.ops [o 3 (.mv (.v (.bool false)))])
 (.seq (.ops [o 4 (.mv (.t 0)), o 5 (.load 1 false (.t 1)), o 6 (.len (.t 5)), o 7 (.call 115 [.t 4, .t 6]), o 8 (.not (.t 7)), o 3 (.mv (.t 8))])
 .ret))
noncomputable def X.i_goodMachine_1 (p0 : Int) (p1 : (List TReaction)) : Option Bool :=
 ((X.i_isIndex p0 (p1.length : Int)).bind fun v1 => some (!v1))
theorem i_goodMachine_1_ok (p0 : Int) (p1 : (List TReaction)) (r : Bool) (H : X.i_goodMachine_1 p0 p1 = some r) : FnOk Tryz.prog gl 204 [cI p0, .c (.pd (eLTReaction p1) 0)] (cB r) := by
 unfold X.i_goodMachine_1 at H
 refine fi Tryz.f204 i_goodMachine_1_ir [(3, cB r)] [] glL Tryz.func204 ?_
 refine so [] [] [(0, cI p0), (1, .c (.pd (eLTReaction p1) 0))] [] id ?_
 obtain ⟨v1, h2, H⟩ := ofBind H
 refine so [.res (cB v1)] [] [(3, cB (!v1))] [] (fun t => lI p1 (aI (i_isIndex_ok p0 (p1.length : Int) v1 h2) (t))) ?_
 refine ends_ret ?_
 cases H
 exact And.intro (.inl rfl) rfl
def i_goodMachine_2_ir : S :=
 (.seq (.ops [o 3 (.mv (.v (.bool false)))])
 (.seq (.ops [o 4 (.mv (.t 0)), o 5 (.load 1 false (.t 1)), o 6 (.len (.t 5)), o 7 (.bin .sub (.t 6) (.v (.int .i64 1))), o 8 (.call 145 [.t 4, .v (.int .i64 (-1)), .t 7]), o 9 (.not (.t 8)), o 3 (.mv (.t 9))])
 .ret))
noncomputable def X.i_goodMachine_2 (p0 : Int) (p1 : (List TReaction)) : Option Bool :=
 ((X.i_inRange p0 (-1) (W ((p1.length : Int) - 1))).bind fun v1 => some (!v1))
theorem i_goodMachine_2_ok (p0 : Int) (p1 : (List TReaction)) (r : Bool) (H : X.i_goodMachine_2 p0 p1 = some r) : FnOk Tryz.prog gl 205 [cI p0, .c (.pd (eLTReaction p1) 0)] (cB r) := by
 unfold X.i_goodMachine_2 at H
 refine fi Tryz.f205 i_goodMachine_2_ir [(3, cB r)] [] glL Tryz.func205 ?_
 refine so [] [] [(0, cI p0), (1, .c (.pd (eLTReaction p1) 0))] [] id ?_
 obtain ⟨v1, h2, H⟩ := ofBind H
 refine so [.res (cB v1)] [] [(3, cB (!v1))] [] (fun t => lI p1 (aI (i_inRange_ok p0 (-1) (W ((p1.length : Int) - 1)) v1 h2) (t))) ?_
 refine ends_ret ?_
 cases H
 exact And.intro (.inl rfl) rfl
def i_goodStack_ir : S :=
 (.seq (.ops [o 2 (.box 12 (.t 0)), o 3 (.box 6 (.t 1)), o 4 (.mv (.v (.bool false)))])
 (.seq (.ops [o 8 (.bsl 1 []), o 5 (.mv (.t 8))])
 (.seq (.seq (.ops [o 9 (.fad 0 (.t 3)), o 10 (.load 1 false (.t 9)), o 11 (.len (.t 10)), o 12 (.mv (.v (.int .i64 0)))])
 (.blk 0 (.loop (.seq (.ops [o 13 (.bin .lss (.t 12) (.t 11))])
   (.seq (.ite (.t 13) .skip
   (.exit 0))
   (.seq (.blk 1 (.seq (.ops [o 14 (.mv (.t 12)), o 15 (.iad 3 (.t 10) (.t 12)), o 16 (.load 3 true (.t 15)), o 7 (.alloc [.int .i64 0, .int .i64 0, .int .i64 0]), o 6 (.mv (.t 14)), ⟨none, .store 3 (.t 7) (.t 16), none⟩])
    (.seq (.seq (.draw 16 [o 17 (.fad 0 (.t 7)), o 18 (.load 1 false (.t 17)), o 19 (.fad 2 (.t 3)), o 20 (.fad 2 (.t 19)), o 21 (.load 1 false (.t 20)), o 22 (.len (.t 21)), o 23 (.call 115 [.t 18, .t 22]), o 24 (.not (.t 23)), o 25 (.mv (.t 24)), ⟨some 26, .fad 1 (.t 7), some (25, false)⟩, ⟨some 27, .load 1 false (.t 26), some (25, false)⟩, ⟨some 28, .load 12 true (.t 2), some (25, false)⟩, ⟨some 29, .call 116 [.t 28], some (25, false)⟩, ⟨some 30, .call 115 [.t 27, .t 29], some (25, false)⟩, ⟨some 31, .not (.t 30), some (25, false)⟩, o 32 (.pick (.t 25) (.v (.bool true)) (.t 31))])
    (.ite (.t 32) (.seq (.ops [o 4 (.mv (.v (.bool false)))])
     .ret)
    .skip))
    (.seq (.seq (.ops [o 33 (.mv (.t 6)), o 34 (.bin .eql (.t 33) (.v (.int .i64 0)))])
    (.ite (.t 34) (.seq (.seq (.ops [o 35 (.fad 2 (.t 7)), o 36 (.load 1 false (.t 35)), o 37 (.bin .neq (.t 36) (.v (.int .i64 (-1))))])
     (.ite (.t 37) (.seq (.ops [o 4 (.mv (.v (.bool false)))])
      .ret)
     .skip))
     (.exit 1))
    .skip))
    (.seq (.seq (.ops [o 38 (.fad 1 (.t 3)), o 39 (.load 1 false (.t 38)), o 40 (.fad 2 (.t 7)), o 41 (.load 1 false (.t 40)), o 42 (.call 86 [.t 39, .t 41]), o 43 (.not (.t 42))])
    (.ite (.t 43) (.seq (.ops [o 4 (.mv (.v (.bool false)))])
     .ret)
    .skip))
    (.ops [o 44 (.mv (.t 5)), o 45 (.fad 2 (.t 7)), o 46 (.load 1 false (.t 45)), o 47 (.bsl 1 [.t 46]), o 48 (.app 1 8 (.t 44) (.t 47)), o 5 (.mv (.t 48))]))))))
   (.ops [o 49 (.bin .add (.t 12) (.v (.int .i64 1))), o 12 (.mv (.t 49))])))))))
 (.seq (.ops [o 50 (.mv (.t 5)), o 51 (.call 203 [.t 50]), o 4 (.mv (.t 51))])
 .ret))))
noncomputable def X.i_goodStack (p0 : TBoard) (p1 : TMachine) : Option Bool :=
 ((loop (fun (x58 : (Int × (List Int))) => ((bif (decide (x58.1 < (p1.Stack.length : Int))) then ((at' zTFrame p1.Stack x58.1).bind fun v61 => ((X.i_isIndex v61.Unit (p1.State.Units.length : Int)).bind fun v71 => (bif (!v71) then some (Sum.inr (Sum.inr false)) else ((X.i_sizeOf p0).bind fun v74 => ((X.i_isIndex v61.At v74).bind fun v76 => (bif (!v76) then some (Sum.inr (Sum.inr false)) else (bif (x58.1 == 0) then (bif (v61.By != (-1)) then some (Sum.inr (Sum.inr false)) else some (Sum.inl ((W (x58.1 + 1)), x58.2))) else ((X.g_Contains_int p1.Used v61.By).bind fun v83 => (bif (!v83) then some (Sum.inr (Sum.inr false)) else (if (x58.2 ++ ([v61.By] : List Int)).length ≤ LIM then some (Sum.inl ((W (x58.1 + 1)), (x58.2 ++ ([v61.By] : List Int)))) else none)))))))))) else some (Sum.inr (Sum.inl x58.2))) : Option ((Int × (List Int)) ⊕ ((List Int) ⊕ Bool)))) (0, ([] : List Int))).bind fun y87 => (Sum.elim (fun (y89 : (List Int)) => ((X.i_different y89).bind fun v91 => some v91)) (fun (y90 : Bool) => some y90) y87))
theorem i_goodStack_ok (p0 : TBoard) (p1 : TMachine) (r : Bool) (H : X.i_goodStack p0 p1 = some r) : FnOk Tryz.prog gl 206 [.agg (eTBoard p0), .agg (eTMachine p1)] (cB r) := by
 unfold X.i_goodStack at H
 refine fi Tryz.f206 i_goodStack_ir [(4, cB r)] [] glL Tryz.func206 ?_
 refine so [] [] [(2, pk 2), (3, pk 3)] [(2, va (eTBoard p0)), (3, va (eTMachine p1))] id ?_
 refine so [.fn ([] : List Int).length (fF eI zI ([] : List Int))] [] [(2, pk 2), (3, pk 3), (5, .c (.own 8 1 0 (([] : List Int).length)))] [(2, va (eTBoard p0)), (3, va (eTMachine p1)), (8, .arr 1 (([] : List Int).length) (fF eI zI ([] : List Int)) false)] (fun t => aI (rfl : ([] : List Int).length = 0) (aI (fF_lit eI zI ([] : List Int)) (t))) ?_
 refine seq_in ?_
 refine so [] [] [(2, pk 2), (3, pk 3), (5, .c (.own 8 1 0 (([] : List Int).length))), (10, dc 3 eTFrame zTFrame p1.Stack), (11, cI (p1.Stack.length : Int)), (12, cI 0)] [(2, va (eTBoard p0)), (3, va (eTMachine p1)), (8, .arr 1 (([] : List Int).length) (fF eI zI ([] : List Int)) false)] (fun t => lI p1.Stack (t)) ?_
 refine ends_blk ?_
 obtain ⟨y87, h88, H⟩ := ofBind H
 refine tl [.ren 8 1001] [(2, pk 2), (3, pk 3), (5, .c (.own 1001 1 0 (([] : List Int).length))), (10, dc 3 eTFrame zTFrame p1.Stack), (11, cI (p1.Stack.length : Int)), (12, cI 0)] [(2, va (eTBoard p0)), (3, va (eTMachine p1)), (1001, .arr 1 (([] : List Int).length) (fF eI zI ([] : List Int)) false)] id ?_
 refine loop_in (fun (x : (Int × (List Int))) => lit [(2, pk 2), (3, pk 3), (5, .c (.own 1001 1 0 x.2.length)), (10, dc 3 eTFrame zTFrame p1.Stack), (11, cI (p1.Stack.length : Int)), (12, cI x.1)] [(2, va (eTBoard p0)), (3, va (eTMachine p1)), (1001, .arr 1 x.2.length (fF eI zI x.2) false)]) (orJ (fun (z : (List Int)) => At (.exit 0) (lit [(5, .c (.own 1001 1 0 z.length))] [(1001, .arr 1 z.length (fF eI zI z) false)])) (fun (z : Bool) => At .ret (lit [(4, cB z)] []))) h88 ?_ ?_
 ·clear H h88
  intro x58 y0 H
  refine so [] [] [(2, pk 2), (3, pk 3), (5, .c (.own 1001 1 0 x58.2.length)), (10, dc 3 eTFrame zTFrame p1.Stack), (11, cI (p1.Stack.length : Int)), (12, cI x58.1), (13, cB (decide (x58.1 < (p1.Stack.length : Int))))] [(2, va (eTBoard p0)), (3, va (eTMachine p1)), (1001, .arr 1 x58.2.length (fF eI zI x58.2) false)] id ?_
  refine seq_in ?_
  rcases ofCond H with ⟨c60, H⟩ | ⟨c60, H⟩
  ·refine it c60 ?_
   refine sk ?_
   refine seq_in ?_
   refine ends_blk ?_
   obtain ⟨v61, h62, H⟩ := ofBind H
   refine so [.cs (eTFrame v61)] [] [(2, pk 2), (3, pk 3), (5, .c (.own 1001 1 0 x58.2.length)), (6, cI x58.1), (7, pk 7), (10, dc 3 eTFrame zTFrame p1.Stack), (11, cI (p1.Stack.length : Int)), (12, cI x58.1)] [(2, va (eTBoard p0)), (3, va (eTMachine p1)), (7, va (eTFrame v61)), (1001, .arr 1 x58.2.length (fF eI zI x58.2) false)] (fun t => aI (at_lt h62) (aI (at_enc (enc := eTFrame) h62) (t))) ?_
   refine seq_in ?_
   obtain ⟨v71, h72, H⟩ := ofBind H
   rcases ofCond H with ⟨c73, H⟩ | ⟨c73, H⟩
   ·refine sd [.res (cB v71), .g true, .g true, .g true, .g true, .g true, .g true, .g true] [] [(2, pk 2), (3, pk 3), (5, .c (.own 1001 1 0 x58.2.length)), (6, cI x58.1), (7, pk 7), (10, dc 3 eTFrame zTFrame p1.Stack), (11, cI (p1.Stack.length : Int)), (12, cI x58.1), (32, cB true)] [(2, va (eTBoard p0)), (3, va (eTMachine p1)), (7, va (eTFrame v61)), (1001, .arr 1 x58.2.length (fF eI zI x58.2) false)] (fun t => aI (i_isIndex_ok v61.Unit (p1.State.Units.length : Int) v71 h72) (aI trivial (aI (rfl : ([] : List Nat) = []) (aI c73 (aI c73 (aI c73 (aI c73 (aI c73 (aI c73 (aI c73 (t))))))))))) ?_
    refine it (rfl : (true : Bool) = true) ?_
    refine so [] [] [(4, cB false)] [] id ?_
    refine ends_ret ?_
    cases H
    exact And.intro (by simp) (And.intro rfl rfl)
   ·obtain ⟨v74, h75, H⟩ := ofBind H
    obtain ⟨v76, h77, H⟩ := ofBind H
    refine sd [.res (cB v71), .g false, .g false, .g false, .g false, .res (cI v74), .g false, .res (cB v76), .g false, .g false] [] [(2, pk 2), (3, pk 3), (5, .c (.own 1001 1 0 x58.2.length)), (6, cI x58.1), (7, pk 7), (10, dc 3 eTFrame zTFrame p1.Stack), (11, cI (p1.Stack.length : Int)), (12, cI x58.1), (32, cB (!v76))] [(2, va (eTBoard p0)), (3, va (eTMachine p1)), (7, va (eTFrame v61)), (1001, .arr 1 x58.2.length (fF eI zI x58.2) false)] (fun t => aI (i_isIndex_ok v61.Unit (p1.State.Units.length : Int) v71 h72) (aI trivial (aI (rfl : ([] : List Nat) = []) (aI c73 (aI c73 (aI c73 (aI c73 (aI (i_sizeOf_ok p0 v74 h75) (aI trivial (aI (rfl : ([] : List Nat) = []) (aI c73 (aI (i_isIndex_ok v61.At v74 v76 h77) (aI trivial (aI (rfl : ([] : List Nat) = []) (aI c73 (aI c73 (t))))))))))))))))) ?_
    rcases ofCond H with ⟨c78, H⟩ | ⟨c78, H⟩
    ·refine it c78 ?_
     refine so [] [] [(4, cB false)] [] id ?_
     refine ends_ret ?_
     cases H
     exact And.intro (by simp) (And.intro rfl rfl)
    ·refine jf c78 ?_
     refine sk ?_
     refine seq_in ?_
     refine so [] [] [(2, pk 2), (3, pk 3), (5, .c (.own 1001 1 0 x58.2.length)), (7, pk 7), (10, dc 3 eTFrame zTFrame p1.Stack), (11, cI (p1.Stack.length : Int)), (12, cI x58.1), (34, cB (x58.1 == 0))] [(2, va (eTBoard p0)), (3, va (eTMachine p1)), (7, va (eTFrame v61)), (1001, .arr 1 x58.2.length (fF eI zI x58.2) false)] id ?_
     rcases ofCond H with ⟨c81, H⟩ | ⟨c81, H⟩
     ·refine it c81 ?_
      refine seq_in ?_
      refine so [] [] [(2, pk 2), (3, pk 3), (5, .c (.own 1001 1 0 x58.2.length)), (10, dc 3 eTFrame zTFrame p1.Stack), (11, cI (p1.Stack.length : Int)), (12, cI x58.1), (37, cB (v61.By != (-1)))] [(2, va (eTBoard p0)), (3, va (eTMachine p1)), (1001, .arr 1 x58.2.length (fF eI zI x58.2) false)] id ?_
      rcases ofCond H with ⟨c82, H⟩ | ⟨c82, H⟩
      ·refine it c82 ?_
       refine so [] [] [(4, cB false)] [] id ?_
       refine ends_ret ?_
       cases H
       exact And.intro (by simp) (And.intro rfl rfl)
      ·refine jf c82 ?_
       refine sk ?_
       refine ends_exit ?_
       change EndsI _ _ _ _ _ _
       refine oo [] [] [(2, pk 2), (3, pk 3), (5, .c (.own 1001 1 0 x58.2.length)), (10, dc 3 eTFrame zTFrame p1.Stack), (11, cI (p1.Stack.length : Int)), (12, cI (W (x58.1 + 1)))] [(2, va (eTBoard p0)), (3, va (eTMachine p1)), (1001, .arr 1 x58.2.length (fF eI zI x58.2) false)] id ?_
       cases H
       exact And.intro rfl rfl
     ·refine jf c81 ?_
      refine sk ?_
      refine seq_in ?_
      obtain ⟨v83, h84, H⟩ := ofBind H
      refine so [.res (cB v83)] [] [(2, pk 2), (3, pk 3), (5, .c (.own 1001 1 0 x58.2.length)), (7, pk 7), (10, dc 3 eTFrame zTFrame p1.Stack), (11, cI (p1.Stack.length : Int)), (12, cI x58.1), (43, cB (!v83))] [(2, va (eTBoard p0)), (3, va (eTMachine p1)), (7, va (eTFrame v61)), (1001, .arr 1 x58.2.length (fF eI zI x58.2) false)] (fun t => aI (g_Contains_int_ok p1.Used v61.By v83 h84) (t)) ?_
      rcases ofCond H with ⟨c85, H⟩ | ⟨c85, H⟩
      ·refine it c85 ?_
       refine so [] [] [(4, cB false)] [] id ?_
       refine ends_ret ?_
       cases H
       exact And.intro (by simp) (And.intro rfl rfl)
      ·refine jf c85 ?_
       refine sk ?_
       obtain ⟨g86, H⟩ := ofIf H
       refine oo [.fn ([v61.By] : List Int).length (fF eI zI ([v61.By] : List Int)), .fn (x58.2 ++ ([v61.By] : List Int)).length (fF eI zI (x58.2 ++ ([v61.By] : List Int)))] [] [(2, pk 2), (3, pk 3), (5, .c (.own 48 1 0 ((x58.2 ++ ([v61.By] : List Int)).length))), (10, dc 3 eTFrame zTFrame p1.Stack), (11, cI (p1.Stack.length : Int)), (12, cI x58.1)] [(2, va (eTBoard p0)), (3, va (eTMachine p1)), (48, .arr 1 ((x58.2 ++ ([v61.By] : List Int)).length) (fF eI zI (x58.2 ++ ([v61.By] : List Int))) false)] (fun t => aI (rfl : ([v61.By] : List Int).length = 1) (aI (fF_lit eI zI ([v61.By] : List Int)) (aI (And.intro (Nat.le_refl x58.2.length) (And.intro (@List.length_append _ x58.2 ([v61.By] : List Int)) g86)) (aI (fF_appL eI zI x58.2 ([v61.By] : List Int)) (aI (fF_appR eI zI x58.2 ([v61.By] : List Int)) (t)))))) ?_
       change EndsI _ _ _ _ _ _
       refine oo [] [.ren 48 1001] [(2, pk 2), (3, pk 3), (5, .c (.own 1001 1 0 ((x58.2 ++ ([v61.By] : List Int)).length))), (10, dc 3 eTFrame zTFrame p1.Stack), (11, cI (p1.Stack.length : Int)), (12, cI (W (x58.1 + 1)))] [(2, va (eTBoard p0)), (3, va (eTMachine p1)), (1001, .arr 1 ((x58.2 ++ ([v61.By] : List Int)).length) (fF eI zI (x58.2 ++ ([v61.By] : List Int))) false)] id ?_
       cases H
       exact And.intro rfl rfl
  ·refine jf c60 ?_
   refine tl [] [(5, .c (.own 1001 1 0 x58.2.length))] [(1001, .arr 1 x58.2.length (fF eI zI x58.2) false)] id ?_
   refine ends_exit ?_
   cases H
   exact And.intro (by simp) (And.intro rfl rfl)
 ·clear h88
  cases y87 with
  | inl y89 =>
   replace H := ofInl H
   intro e s q
   obtain ⟨rfl, rfl⟩ := q
   change EndsI _ _ _ _ _ _
   obtain ⟨v91, h92, H⟩ := ofBind H
   refine so [.res (cB v91)] [] [(4, cB v91)] [] (fun t => aI (Nat.le_refl y89.length) (aI (i_different_ok y89 v91 h92) (t))) ?_
   refine ends_ret ?_
   cases H
   exact And.intro (.inl rfl) rfl
  | inr y90 =>
   replace H := ofInr H
   intro e s q
   obtain ⟨rfl, rfl⟩ := q
   cases H
   exact And.intro (.inl rfl) rfl
def i_goodMachine_ir : S :=
 (.seq (.ops [o 3 (.box 12 (.t 0)), o 4 (.box 1 (.t 1)), o 5 (.box 6 (.t 2)), o 6 (.mv (.v (.bool false)))])
 (.seq (.seq (.ops [o 7 (.load 12 true (.t 3)), o 8 (.fad 2 (.t 5)), o 9 (.load 3 true (.t 8)), o 10 (.call 181 [.t 7, .t 9]), o 11 (.not (.t 10)), o 12 (.mv (.t 11)), ⟨some 13, .load 12 true (.t 3), some (12, false)⟩, ⟨some 14, .fad 2 (.t 5), some (12, false)⟩, ⟨some 15, .load 3 true (.t 14), some (12, false)⟩, ⟨some 16, .load 1 false (.t 4), some (12, false)⟩, ⟨some 17, .call 202 [.t 13, .t 15, .t 16], some (12, false)⟩, ⟨some 18, .not (.t 17), some (12, false)⟩, o 19 (.pick (.t 12) (.v (.bool true)) (.t 18)), o 20 (.mv (.t 19)), ⟨some 21, .fad 1 (.t 5), some (20, false)⟩, ⟨some 22, .load 1 false (.t 21), some (20, false)⟩, ⟨some 23, .call 203 [.t 22], some (20, false)⟩, ⟨some 24, .not (.t 23), some (20, false)⟩, o 25 (.pick (.t 20) (.v (.bool true)) (.t 24))])
 (.ite (.t 25) (.seq (.ops [o 6 (.mv (.v (.bool false)))])
  .ret)
 .skip))
 (.seq (.seq (.ops [o 26 (.fad 1 (.t 5)), o 27 (.load 1 false (.t 26)), o 28 (.clo 204 [.t 4]), o 29 (.call 70 [.t 27, .t 28]), o 30 (.mv (.t 29)), ⟨some 31, .fad 5 (.t 5), some (30, false)⟩, ⟨some 32, .load 1 false (.t 31), some (30, false)⟩, ⟨some 33, .clo 205 [.t 4], some (30, false)⟩, ⟨some 34, .call 70 [.t 32, .t 33], some (30, false)⟩, o 35 (.pick (.t 30) (.v (.bool true)) (.t 34))])
 (.ite (.t 35) (.seq (.ops [o 6 (.mv (.v (.bool false)))])
  .ret)
 .skip))
 (.seq (.ops [o 36 (.load 12 true (.t 3)), o 37 (.load 6 true (.t 5)), o 38 (.call 206 [.t 36, .t 37]), o 39 (.mv (.t 38)), ⟨some 40, .fad 0 (.t 5), some (39, true)⟩, ⟨some 41, .load 1 false (.t 40), some (39, true)⟩, ⟨some 42, .len (.t 41), some (39, true)⟩, ⟨some 43, .fad 5 (.t 5), some (39, true)⟩, ⟨some 44, .load 1 false (.t 43), some (39, true)⟩, ⟨some 45, .len (.t 44), some (39, true)⟩, ⟨some 46, .bin .add (.t 42) (.t 45), some (39, true)⟩, ⟨some 47, .fad 1 (.t 5), some (39, true)⟩, ⟨some 48, .load 1 false (.t 47), some (39, true)⟩, ⟨some 49, .len (.t 48), some (39, true)⟩, ⟨some 50, .bin .add (.t 49) (.v (.int .i64 1)), some (39, true)⟩, ⟨some 51, .bin .leq (.t 46) (.t 50), some (39, true)⟩, o 52 (.pick (.t 39) (.t 51) (.v (.bool false))), o 6 (.mv (.t 52))])
 .ret))))
noncomputable def X.i_goodMachine (p0 : TBoard) (p1 : (List TReaction)) (p2 : TMachine) : Option Bool :=
 ((X.i_goodState p0 p2.State).bind fun v10 => (bif (!v10) then some false else ((X.i_goodReactions p0 p2.State p1).bind fun v13 => (bif (!v13) then some false else ((X.i_different p2.Used).bind fun v16 => (bif (!v16) then some false else ((X.g_ContainsFunc_int p2.Used (fun q0 => X.i_goodMachine_1 q0 p1)).bind fun v25 => (bif v25 then some false else ((X.g_ContainsFunc_int p2.Log (fun q0 => X.i_goodMachine_2 q0 p1)).bind fun v28 => (bif v28 then some false else ((X.i_goodStack p0 p2).bind fun v31 => (bif v31 then some (decide ((W ((p2.Stack.length : Int) + (p2.Log.length : Int))) ≤ (W ((p2.Used.length : Int) + 1)))) else some false))))))))))))
theorem i_goodMachine_ok (p0 : TBoard) (p1 : (List TReaction)) (p2 : TMachine) (r : Bool) (H : X.i_goodMachine p0 p1 p2 = some r) : FnOk Tryz.prog gl 169 [.agg (eTBoard p0), .c (dat 3 eTReaction zTReaction p1), .agg (eTMachine p2)] (cB r) := by
 unfold X.i_goodMachine at H
 refine fi Tryz.f169 i_goodMachine_ir [(6, cB r)] [] glL Tryz.func169 ?_
 refine so [] [] [(3, pk 3), (4, pk 4), (5, pk 5)] [(3, va (eTBoard p0)), (4, .var [dat 3 eTReaction zTReaction p1] false), (5, va (eTMachine p2))] id ?_
 refine seq_in ?_
 obtain ⟨v10, h11, H⟩ := ofBind H
 rcases ofCond H with ⟨c12, H⟩ | ⟨c12, H⟩
 ·refine so [.res (cB v10), .g true, .g true, .g true, .g true, .g true, .g true, .g true, .g true, .g true, .g true, .g true, .g true] [] [(3, pk 3), (4, pk 4), (5, pk 5), (25, cB true)] [(3, va (eTBoard p0)), (4, .var [dat 3 eTReaction zTReaction p1] false), (5, va (eTMachine p2))] (fun t => aI (i_goodState_ok p0 p2.State v10 h11) (aI c12 (aI c12 (aI c12 (aI c12 (aI c12 (aI c12 (aI c12 (aI (rfl : (true : Bool) = true) (aI (rfl : (true : Bool) = true) (aI (rfl : (true : Bool) = true) (aI (rfl : (true : Bool) = true) (aI (rfl : (true : Bool) = true) (t)))))))))))))) ?_
  refine it (rfl : (true : Bool) = true) ?_
  refine so [] [] [(6, cB false)] [] id ?_
  refine ends_ret ?_
  cases H
  exact And.intro (.inl rfl) rfl
 ·obtain ⟨v13, h14, H⟩ := ofBind H
  rcases ofCond H with ⟨c15, H⟩ | ⟨c15, H⟩
  ·refine so [.res (cB v10), .g false, .g false, .g false, .g false, .g false, .res (cB v13), .g false, .g false, .g true, .g true, .g true, .g true, .g true] [] [(3, pk 3), (4, pk 4), (5, pk 5), (25, cB true)] [(3, va (eTBoard p0)), (4, .var [dat 3 eTReaction zTReaction p1] false), (5, va (eTMachine p2))] (fun t => aI (i_goodState_ok p0 p2.State v10 h11) (aI c12 (aI c12 (aI c12 (aI c12 (aI c12 (aI (i_goodReactions_ok p0 p2.State p1 v13 h14) (aI c12 (aI c12 (aI c15 (aI c15 (aI c15 (aI c15 (aI c15 (t))))))))))))))) ?_
   refine it (rfl : (true : Bool) = true) ?_
   refine so [] [] [(6, cB false)] [] id ?_
   refine ends_ret ?_
   cases H
   exact And.intro (.inl rfl) rfl
  ·obtain ⟨v16, h17, H⟩ := ofBind H
   refine so [.res (cB v10), .g false, .g false, .g false, .g false, .g false, .res (cB v13), .g false, .g false, .g false, .g false, .g false, .res (cB v16), .g false, .g false] [] [(3, pk 3), (4, pk 4), (5, pk 5), (25, cB (!v16))] [(3, va (eTBoard p0)), (4, .var [dat 3 eTReaction zTReaction p1] false), (5, va (eTMachine p2))] (fun t => aI (i_goodState_ok p0 p2.State v10 h11) (aI c12 (aI c12 (aI c12 (aI c12 (aI c12 (aI (i_goodReactions_ok p0 p2.State p1 v13 h14) (aI c12 (aI c12 (aI c15 (aI c15 (aI c15 (aI (i_different_ok p2.Used v16 h17) (aI c15 (aI c15 (t)))))))))))))))) ?_
   rcases ofCond H with ⟨c18, H⟩ | ⟨c18, H⟩
   ·refine it c18 ?_
    refine so [] [] [(6, cB false)] [] id ?_
    refine ends_ret ?_
    cases H
    exact And.intro (.inl rfl) rfl
   ·refine jf c18 ?_
    refine sk ?_
    refine seq_in ?_
    obtain ⟨v25, h26, H⟩ := ofBind H
    rcases ofCond H with ⟨c27, H⟩ | ⟨c27, H⟩
    ·refine so [.res (cB v25), .g true, .g true, .g true, .g true, .g true] [] [(3, pk 3), (5, pk 5), (35, cB true)] [(3, va (eTBoard p0)), (5, va (eTMachine p2))] (fun t => aI (g_ContainsFunc_int_c1_ok p2.Used (204) (eLTReaction p1) (fun q0 => X.i_goodMachine_1 q0 p1) (fun q0 r h => i_goodMachine_1_ok q0 p1 r h) v25 h26) (aI c27 (aI c27 (aI c27 (aI c27 (aI c27 (t))))))) ?_
     refine it (rfl : (true : Bool) = true) ?_
     refine so [] [] [(6, cB false)] [] id ?_
     refine ends_ret ?_
     cases H
     exact And.intro (.inl rfl) rfl
    ·obtain ⟨v28, h29, H⟩ := ofBind H
     refine so [.res (cB v25), .g false, .g false, .g false, .g false, .res (cB v28), .g false] [] [(3, pk 3), (5, pk 5), (35, cB v28)] [(3, va (eTBoard p0)), (5, va (eTMachine p2))] (fun t => aI (g_ContainsFunc_int_c1_ok p2.Used (204) (eLTReaction p1) (fun q0 => X.i_goodMachine_1 q0 p1) (fun q0 r h => i_goodMachine_1_ok q0 p1 r h) v25 h26) (aI c27 (aI c27 (aI c27 (aI c27 (aI (g_ContainsFunc_int_c1_ok p2.Log (205) (eLTReaction p1) (fun q0 => X.i_goodMachine_2 q0 p1) (fun q0 r h => i_goodMachine_2_ok q0 p1 r h) v28 h29) (aI c27 (t)))))))) ?_
     rcases ofCond H with ⟨c30, H⟩ | ⟨c30, H⟩
     ·refine it c30 ?_
      refine so [] [] [(6, cB false)] [] id ?_
      refine ends_ret ?_
      cases H
      exact And.intro (.inl rfl) rfl
     ·refine jf c30 ?_
      refine sk ?_
      obtain ⟨v31, h32, H⟩ := ofBind H
      rcases ofCond H with ⟨c33, H⟩ | ⟨c33, H⟩
      ·refine so [.res (cB v31), .g true, .g true, .g true, .g true, .g true, .g true, .g true, .g true, .g true, .g true, .g true, .g true, .g true] [] [(6, cB (decide ((W ((p2.Stack.length : Int) + (p2.Log.length : Int))) ≤ (W ((p2.Used.length : Int) + 1)))))] [] (fun t => aI (i_goodStack_ok p0 p2 v31 h32) (aI c33 (aI c33 (aI c33 (lI p2.Stack (aI c33 (aI c33 (aI c33 (lI p2.Log (aI c33 (aI c33 (aI c33 (aI c33 (lI p2.Used (aI c33 (aI c33 (aI c33 (t)))))))))))))))))) ?_
       refine ends_ret ?_
       cases H
       exact And.intro (.inl rfl) rfl
      ·refine so [.res (cB v31), .g false, .g false, .g false, .g false, .g false, .g false, .g false, .g false, .g false, .g false, .g false, .g false, .g false] [] [(6, cB false)] [] (fun t => aI (i_goodStack_ok p0 p2 v31 h32) (aI c33 (aI c33 (aI c33 (aI c33 (aI c33 (aI c33 (aI c33 (aI c33 (aI c33 (aI c33 (aI c33 (aI c33 (aI c33 (t))))))))))))))) ?_
       refine ends_ret ?_
       cases H
       exact And.intro (.inl rfl) rfl
def i_hasMachine_ir : S :=
 (.seq (.ops [o 3 (.box 12 (.t 0)), o 5 (.box 6 (.t 2)), o 6 (.mv (.v (.bool false)))])
 (.seq (.ops [o 7 (.load 12 true (.t 3)), o 8 (.call 143 [.t 7]), o 9 (.mv (.t 8)), ⟨some 10, .load 12 true (.t 3), some (9, true)⟩, ⟨some 11, .mv (.t 1), some (9, true)⟩, ⟨some 12, .load 6 true (.t 5), some (9, true)⟩, ⟨some 13, .call 169 [.t 10, .t 11, .t 12], some (9, true)⟩, o 14 (.pick (.t 9) (.t 13) (.v (.bool false))), o 6 (.mv (.t 14))])
 .ret))
noncomputable def X.i_hasMachine (p0 : TBoard) (p1 : (List TReaction)) (p2 : TMachine) : Option Bool :=
 ((X.i_IsBoard p0).bind fun v1 => (bif v1 then ((X.i_goodMachine p0 p1 p2).bind fun v4 => some v4) else some false))
theorem i_hasMachine_ok (p0 : TBoard) (p1 : (List TReaction)) (p2 : TMachine) (r : Bool) (H : X.i_hasMachine p0 p1 p2 = some r) : FnOk Tryz.prog gl 109 [.agg (eTBoard p0), .c (dat 3 eTReaction zTReaction p1), .agg (eTMachine p2)] (cB r) := by
 unfold X.i_hasMachine at H
 refine fi Tryz.f109 i_hasMachine_ir [(6, cB r)] [] glL Tryz.func109 ?_
 refine so [] [] [(1, dc 3 eTReaction zTReaction p1), (3, pk 3), (5, pk 5)] [(3, va (eTBoard p0)), (5, va (eTMachine p2))] id ?_
 obtain ⟨v1, h2, H⟩ := ofBind H
 rcases ofCond H with ⟨c3, H⟩ | ⟨c3, H⟩
 ·obtain ⟨v4, h5, H⟩ := ofBind H
  refine so [.res (cB v1), .g true, .g true, .g true, .g true, .res (cB v4), .g true] [] [(6, cB v4)] [] (fun t => aI (i_IsBoard_ok p0 v1 h2) (aI c3 (aI c3 (aI c3 (aI c3 (aI (i_goodMachine_ok p0 p1 p2 v4 h5) (aI c3 (t)))))))) ?_
  refine ends_ret ?_
  cases H
  exact And.intro (.inl rfl) rfl
 ·refine so [.res (cB v1), .g false, .g false, .g false, .g false, .g false] [] [(6, cB false)] [] (fun t => aI (i_IsBoard_ok p0 v1 h2) (aI c3 (aI c3 (aI c3 (aI c3 (aI c3 (t))))))) ?_
  refine ends_ret ?_
  cases H
  exact And.intro (.inl rfl) rfl
def i_ReactionsLeft_ir : S :=
 (.seq (.ops [o 3 (.box 12 (.t 0)), o 5 (.box 6 (.t 2)), o 6 (.mv (.v (.nil))), o 7 (.mv (.v (.bool false)))])
 (.seq (.seq (.ops [o 10 (.load 12 true (.t 3)), o 11 (.mv (.t 1)), o 12 (.load 6 true (.t 5)), o 13 (.call 109 [.t 10, .t 11, .t 12]), o 14 (.not (.t 13))])
 (.ite (.t 14) (.seq (.ops [o 6 (.mv (.v (.nil))), o 7 (.mv (.v (.bool false)))])
  .ret)
 .skip))
 (.seq (.ops [o 15 (.bsl 1 []), o 8 (.mv (.t 15))])
 (.seq (.seq (.ops [o 16 (.mv (.t 1)), o 17 (.len (.t 16)), o 18 (.mv (.v (.int .i64 0)))])
 (.blk 0 (.loop (.seq (.ops [o 19 (.bin .lss (.t 18) (.t 17))])
   (.seq (.ite (.t 19) .skip
   (.exit 0))
   (.seq (.blk 1 (.seq (.ops [o 20 (.mv (.t 18)), o 9 (.mv (.t 20))])
    (.seq (.ops [o 21 (.fad 1 (.t 5)), o 22 (.load 1 false (.t 21)), o 23 (.mv (.t 9)), o 24 (.call 86 [.t 22, .t 23]), o 25 (.not (.t 24))])
    (.ite (.t 25) (.ops [o 26 (.mv (.t 8)), o 27 (.mv (.t 9)), o 28 (.bsl 1 [.t 27]), o 29 (.app 1 8 (.t 26) (.t 28)), o 8 (.mv (.t 29))])
    .skip))))
   (.ops [o 30 (.bin .add (.t 18) (.v (.int .i64 1))), o 18 (.mv (.t 30))])))))))
 (.seq (.ops [o 31 (.mv (.t 8)), o 6 (.mv (.t 31)), o 7 (.mv (.v (.bool true)))])
 .ret)))))
noncomputable def X.i_ReactionsLeft (p0 : TBoard) (p1 : (List TReaction)) (p2 : TMachine) : Option ((List Int) × Bool) :=
 ((X.i_hasMachine p0 p1 p2).bind fun v4 => (bif (!v4) then some (([] : List Int), false) else ((loop (fun (x20 : (Int × (List Int))) => ((bif (decide (x20.1 < (p1.length : Int))) then ((X.g_Contains_int p2.Used x20.1).bind fun v23 => (bif (!v23) then (if (x20.2 ++ ([x20.1] : List Int)).length ≤ LIM then some (Sum.inl ((W (x20.1 + 1)), (x20.2 ++ ([x20.1] : List Int)))) else none) else some (Sum.inl ((W (x20.1 + 1)), x20.2)))) else some (Sum.inr x20.2)) : Option ((Int × (List Int)) ⊕ (List Int)))) (0, ([] : List Int))).bind fun y27 => some (y27, true))))
theorem i_ReactionsLeft_ok (p0 : TBoard) (p1 : (List TReaction)) (p2 : TMachine) (r : ((List Int) × Bool)) (H : X.i_ReactionsLeft p0 p1 p2 = some r) : FnOk Tryz.prog gl 46 [.agg (eTBoard p0), .c (dat 3 eTReaction zTReaction p1), .agg (eTMachine p2)] (.tup [(false, [dat 1 eI zI r.1]), (false, [.bool r.2])]) := by
 unfold X.i_ReactionsLeft at H
 refine fi Tryz.f46 i_ReactionsLeft_ir [(6, dc 1 eI zI r.1), (7, cB r.2)] [] glL Tryz.func46 ?_
 refine so [] [] [(1, dc 3 eTReaction zTReaction p1), (3, pk 3), (5, pk 5)] [(3, va (eTBoard p0)), (5, va (eTMachine p2))] id ?_
 refine seq_in ?_
 obtain ⟨v4, h5, H⟩ := ofBind H
 refine so [.res (cB v4)] [] [(1, dc 3 eTReaction zTReaction p1), (5, pk 5), (14, cB (!v4))] [(5, va (eTMachine p2))] (fun t => aI (i_hasMachine_ok p0 p1 p2 v4 h5) (t)) ?_
 rcases ofCond H with ⟨c6, H⟩ | ⟨c6, H⟩
 ·refine it c6 ?_
  refine so [] [] [(6, .c (.nil)), (7, cB false)] [] id ?_
  refine tl [.nld 6 1 (fF eI zI ([] : List Int))] [(6, .c (dat 1 eI zI ([] : List Int))), (7, cB false)] [] id ?_
  refine ends_ret ?_
  cases H
  exact And.intro (.inl rfl) rfl
 ·refine jf c6 ?_
  refine sk ?_
  refine so [.fn ([] : List Int).length (fF eI zI ([] : List Int))] [] [(1, dc 3 eTReaction zTReaction p1), (5, pk 5), (8, .c (.own 15 1 0 (([] : List Int).length)))] [(5, va (eTMachine p2)), (15, .arr 1 (([] : List Int).length) (fF eI zI ([] : List Int)) false)] (fun t => aI (rfl : ([] : List Int).length = 0) (aI (fF_lit eI zI ([] : List Int)) (t))) ?_
  refine seq_in ?_
  refine so [] [] [(5, pk 5), (8, .c (.own 15 1 0 (([] : List Int).length))), (17, cI (p1.length : Int)), (18, cI 0)] [(5, va (eTMachine p2)), (15, .arr 1 (([] : List Int).length) (fF eI zI ([] : List Int)) false)] (fun t => lI p1 (t)) ?_
  refine ends_blk ?_
  obtain ⟨y27, h28, H⟩ := ofBind H
  refine tl [.ren 15 1001] [(5, pk 5), (8, .c (.own 1001 1 0 (([] : List Int).length))), (17, cI (p1.length : Int)), (18, cI 0)] [(5, va (eTMachine p2)), (1001, .arr 1 (([] : List Int).length) (fF eI zI ([] : List Int)) false)] id ?_
  refine loop_in (fun (x : (Int × (List Int))) => lit [(5, pk 5), (8, .c (.own 1001 1 0 x.2.length)), (17, cI (p1.length : Int)), (18, cI x.1)] [(5, va (eTMachine p2)), (1001, .arr 1 x.2.length (fF eI zI x.2) false)]) (fun (z : (List Int)) => At (.exit 0) (lit [(8, .c (.own 1001 1 0 z.length))] [(1001, .arr 1 z.length (fF eI zI z) false)])) h28 ?_ ?_
  ·clear H h28
   intro x20 y0 H
   refine so [] [] [(5, pk 5), (8, .c (.own 1001 1 0 x20.2.length)), (17, cI (p1.length : Int)), (18, cI x20.1), (19, cB (decide (x20.1 < (p1.length : Int))))] [(5, va (eTMachine p2)), (1001, .arr 1 x20.2.length (fF eI zI x20.2) false)] id ?_
   refine seq_in ?_
   rcases ofCond H with ⟨c22, H⟩ | ⟨c22, H⟩
   ·refine it c22 ?_
    refine sk ?_
    refine seq_in ?_
    refine ends_blk ?_
    refine so [] [] [(5, pk 5), (8, .c (.own 1001 1 0 x20.2.length)), (9, cI x20.1), (17, cI (p1.length : Int)), (18, cI x20.1)] [(5, va (eTMachine p2)), (1001, .arr 1 x20.2.length (fF eI zI x20.2) false)] id ?_
    obtain ⟨v23, h24, H⟩ := ofBind H
    refine so [.res (cB v23)] [] [(5, pk 5), (8, .c (.own 1001 1 0 x20.2.length)), (9, cI x20.1), (17, cI (p1.length : Int)), (18, cI x20.1), (25, cB (!v23))] [(5, va (eTMachine p2)), (1001, .arr 1 x20.2.length (fF eI zI x20.2) false)] (fun t => aI (g_Contains_int_ok p2.Used x20.1 v23 h24) (t)) ?_
    rcases ofCond H with ⟨c25, H⟩ | ⟨c25, H⟩
    ·refine it c25 ?_
     obtain ⟨g26, H⟩ := ofIf H
     refine oo [.fn ([x20.1] : List Int).length (fF eI zI ([x20.1] : List Int)), .fn (x20.2 ++ ([x20.1] : List Int)).length (fF eI zI (x20.2 ++ ([x20.1] : List Int)))] [] [(5, pk 5), (8, .c (.own 29 1 0 ((x20.2 ++ ([x20.1] : List Int)).length))), (17, cI (p1.length : Int)), (18, cI x20.1)] [(5, va (eTMachine p2)), (29, .arr 1 ((x20.2 ++ ([x20.1] : List Int)).length) (fF eI zI (x20.2 ++ ([x20.1] : List Int))) false)] (fun t => aI (rfl : ([x20.1] : List Int).length = 1) (aI (fF_lit eI zI ([x20.1] : List Int)) (aI (And.intro (Nat.le_refl x20.2.length) (And.intro (@List.length_append _ x20.2 ([x20.1] : List Int)) g26)) (aI (fF_appL eI zI x20.2 ([x20.1] : List Int)) (aI (fF_appR eI zI x20.2 ([x20.1] : List Int)) (t)))))) ?_
     change EndsI _ _ _ _ _ _
     refine oo [] [.ren 29 1001] [(5, pk 5), (8, .c (.own 1001 1 0 ((x20.2 ++ ([x20.1] : List Int)).length))), (17, cI (p1.length : Int)), (18, cI (W (x20.1 + 1)))] [(5, va (eTMachine p2)), (1001, .arr 1 ((x20.2 ++ ([x20.1] : List Int)).length) (fF eI zI (x20.2 ++ ([x20.1] : List Int))) false)] id ?_
     cases H
     exact And.intro rfl rfl
    ·refine jf c25 ?_
     refine sk ?_
     refine oo [] [] [(5, pk 5), (8, .c (.own 1001 1 0 x20.2.length)), (17, cI (p1.length : Int)), (18, cI (W (x20.1 + 1)))] [(5, va (eTMachine p2)), (1001, .arr 1 x20.2.length (fF eI zI x20.2) false)] id ?_
     cases H
     exact And.intro rfl rfl
   ·refine jf c22 ?_
    refine tl [] [(8, .c (.own 1001 1 0 x20.2.length))] [(1001, .arr 1 x20.2.length (fF eI zI x20.2) false)] id ?_
    refine ends_exit ?_
    cases H
    exact And.intro (by simp) (And.intro rfl rfl)
  ·clear h28
   intro e s q
   obtain ⟨rfl, rfl⟩ := q
   change EndsI _ _ _ _ _ _
   refine so [] [] [(6, .c (.own 1001 1 0 y27.length)), (7, cB true)] [(1001, .arr 1 y27.length (fF eI zI y27) false)] id ?_
   refine tl [.frz 6] [(6, dc 1 eI zI y27), (7, cB true)] [] (fun t => aI (Nat.le_refl y27.length) (t)) ?_
   refine ends_ret ?_
   cases H
   exact And.intro (.inl rfl) rfl
theorem i_ReactionsLeft_Mddd_ok (p0 : TBoard) (p1 : (List TReaction)) (p2 : TMachine) (r : ((List Int) × Bool)) (H : X.i_ReactionsLeft p0 p1 p2 = some r) : FnMu Tryz.prog gl 46 [.agg (eTBoard p0), .c (dat 3 eTReaction zTReaction p1), .agg (eTMachine p2)] [] (.tup [(false, [.own 900000 1 0 r.1.length]), (false, [.bool r.2])]) [(900000, .arr 1 r.1.length (fF eI zI r.1) false)] := by
 unfold X.i_ReactionsLeft at H
 refine fn_mu (fn := Tryz.f46) (ir := i_ReactionsLeft_ir) (E' := [(6, .c (.own 900000 1 0 r.1.length)), (7, cB r.2)]) (E1 := [(900000, .arr 1 r.1.length (fF eI zI r.1) false)]) glL Tryz.func46 (by kernel_rfl) (by kernel_rfl) (by kernel_rfl) (by kernel_rfl) (by kernel_rfl) ?_
 refine so [] [] [(1, dc 3 eTReaction zTReaction p1), (3, pk 3), (5, pk 5)] [(3, va (eTBoard p0)), (5, va (eTMachine p2))] id ?_
 refine seq_in ?_
 obtain ⟨v4, h5, H⟩ := ofBind H
 refine so [.res (cB v4)] [] [(1, dc 3 eTReaction zTReaction p1), (5, pk 5), (14, cB (!v4))] [(5, va (eTMachine p2))] (fun t => aI (i_hasMachine_ok p0 p1 p2 v4 h5) (t)) ?_
 rcases ofCond H with ⟨c6, H⟩ | ⟨c6, H⟩
 ·refine it c6 ?_
  refine so [] [] [(6, .c (.nil)), (7, cB false)] [] id ?_
  refine tl [.nlo 6 900000 1 (fF eI zI ([] : List Int))] [(6, .c (.own 900000 1 0 (([] : List Int).length))), (7, cB false)] [(900000, .arr 1 (([] : List Int).length) (fF eI zI ([] : List Int)) false)] (fun t => aI (by decide : 0 < 1) (t)) ?_
  refine ends_ret ?_
  cases H
  exact And.intro (.inl rfl) rfl
 ·refine jf c6 ?_
  refine sk ?_
  refine so [.fn ([] : List Int).length (fF eI zI ([] : List Int))] [] [(1, dc 3 eTReaction zTReaction p1), (5, pk 5), (8, .c (.own 15 1 0 (([] : List Int).length)))] [(5, va (eTMachine p2)), (15, .arr 1 (([] : List Int).length) (fF eI zI ([] : List Int)) false)] (fun t => aI (rfl : ([] : List Int).length = 0) (aI (fF_lit eI zI ([] : List Int)) (t))) ?_
  refine seq_in ?_
  refine so [] [] [(5, pk 5), (8, .c (.own 15 1 0 (([] : List Int).length))), (17, cI (p1.length : Int)), (18, cI 0)] [(5, va (eTMachine p2)), (15, .arr 1 (([] : List Int).length) (fF eI zI ([] : List Int)) false)] (fun t => lI p1 (t)) ?_
  refine ends_blk ?_
  obtain ⟨y27, h28, H⟩ := ofBind H
  refine tl [.ren 15 1001] [(5, pk 5), (8, .c (.own 1001 1 0 (([] : List Int).length))), (17, cI (p1.length : Int)), (18, cI 0)] [(5, va (eTMachine p2)), (1001, .arr 1 (([] : List Int).length) (fF eI zI ([] : List Int)) false)] id ?_
  refine loop_in (fun (x : (Int × (List Int))) => lit [(5, pk 5), (8, .c (.own 1001 1 0 x.2.length)), (17, cI (p1.length : Int)), (18, cI x.1)] [(5, va (eTMachine p2)), (1001, .arr 1 x.2.length (fF eI zI x.2) false)]) (fun (z : (List Int)) => At (.exit 0) (lit [(8, .c (.own 1001 1 0 z.length))] [(1001, .arr 1 z.length (fF eI zI z) false)])) h28 ?_ ?_
  ·clear H h28
   intro x20 y0 H
   refine so [] [] [(5, pk 5), (8, .c (.own 1001 1 0 x20.2.length)), (17, cI (p1.length : Int)), (18, cI x20.1), (19, cB (decide (x20.1 < (p1.length : Int))))] [(5, va (eTMachine p2)), (1001, .arr 1 x20.2.length (fF eI zI x20.2) false)] id ?_
   refine seq_in ?_
   rcases ofCond H with ⟨c22, H⟩ | ⟨c22, H⟩
   ·refine it c22 ?_
    refine sk ?_
    refine seq_in ?_
    refine ends_blk ?_
    refine so [] [] [(5, pk 5), (8, .c (.own 1001 1 0 x20.2.length)), (9, cI x20.1), (17, cI (p1.length : Int)), (18, cI x20.1)] [(5, va (eTMachine p2)), (1001, .arr 1 x20.2.length (fF eI zI x20.2) false)] id ?_
    obtain ⟨v23, h24, H⟩ := ofBind H
    refine so [.res (cB v23)] [] [(5, pk 5), (8, .c (.own 1001 1 0 x20.2.length)), (9, cI x20.1), (17, cI (p1.length : Int)), (18, cI x20.1), (25, cB (!v23))] [(5, va (eTMachine p2)), (1001, .arr 1 x20.2.length (fF eI zI x20.2) false)] (fun t => aI (g_Contains_int_ok p2.Used x20.1 v23 h24) (t)) ?_
    rcases ofCond H with ⟨c25, H⟩ | ⟨c25, H⟩
    ·refine it c25 ?_
     obtain ⟨g26, H⟩ := ofIf H
     refine oo [.fn ([x20.1] : List Int).length (fF eI zI ([x20.1] : List Int)), .fn (x20.2 ++ ([x20.1] : List Int)).length (fF eI zI (x20.2 ++ ([x20.1] : List Int)))] [] [(5, pk 5), (8, .c (.own 29 1 0 ((x20.2 ++ ([x20.1] : List Int)).length))), (17, cI (p1.length : Int)), (18, cI x20.1)] [(5, va (eTMachine p2)), (29, .arr 1 ((x20.2 ++ ([x20.1] : List Int)).length) (fF eI zI (x20.2 ++ ([x20.1] : List Int))) false)] (fun t => aI (rfl : ([x20.1] : List Int).length = 1) (aI (fF_lit eI zI ([x20.1] : List Int)) (aI (And.intro (Nat.le_refl x20.2.length) (And.intro (@List.length_append _ x20.2 ([x20.1] : List Int)) g26)) (aI (fF_appL eI zI x20.2 ([x20.1] : List Int)) (aI (fF_appR eI zI x20.2 ([x20.1] : List Int)) (t)))))) ?_
     change EndsI _ _ _ _ _ _
     refine oo [] [.ren 29 1001] [(5, pk 5), (8, .c (.own 1001 1 0 ((x20.2 ++ ([x20.1] : List Int)).length))), (17, cI (p1.length : Int)), (18, cI (W (x20.1 + 1)))] [(5, va (eTMachine p2)), (1001, .arr 1 ((x20.2 ++ ([x20.1] : List Int)).length) (fF eI zI (x20.2 ++ ([x20.1] : List Int))) false)] id ?_
     cases H
     exact And.intro rfl rfl
    ·refine jf c25 ?_
     refine sk ?_
     refine oo [] [] [(5, pk 5), (8, .c (.own 1001 1 0 x20.2.length)), (17, cI (p1.length : Int)), (18, cI (W (x20.1 + 1)))] [(5, va (eTMachine p2)), (1001, .arr 1 x20.2.length (fF eI zI x20.2) false)] id ?_
     cases H
     exact And.intro rfl rfl
   ·refine jf c22 ?_
    refine tl [] [(8, .c (.own 1001 1 0 x20.2.length))] [(1001, .arr 1 x20.2.length (fF eI zI x20.2) false)] id ?_
    refine ends_exit ?_
    cases H
    exact And.intro (by simp) (And.intro rfl rfl)
  ·clear h28
   intro e s q
   obtain ⟨rfl, rfl⟩ := q
   change EndsI _ _ _ _ _ _
   refine so [] [] [(6, .c (.own 1001 1 0 y27.length)), (7, cB true)] [(1001, .arr 1 y27.length (fF eI zI y27) false)] id ?_
   refine tl [.ren 1001 900000] [(6, .c (.own 900000 1 0 y27.length)), (7, cB true)] [(900000, .arr 1 y27.length (fF eI zI y27) false)] id ?_
   refine ends_ret ?_
   cases H
   exact And.intro (.inl rfl) rfl
def l_eqReaction_ir : S :=
 (.seq (.ops [o 2 (.box 3 (.t 0)), o 3 (.box 3 (.t 1)), o 4 (.mv (.v (.bool false)))])
 (.seq (.seq (.ops [o 5 (.fad 0 (.t 2)), o 6 (.load 1 false (.t 5)), o 7 (.fad 0 (.t 3)), o 8 (.load 1 false (.t 7)), o 9 (.bin .neq (.t 6) (.t 8))])
 (.ite (.t 9) (.seq (.ops [o 4 (.mv (.v (.bool false)))])
  .ret)
 .skip))
 (.seq (.seq (.ops [o 10 (.fad 1 (.t 2)), o 11 (.load 1 false (.t 10)), o 12 (.fad 1 (.t 3)), o 13 (.load 1 false (.t 12)), o 14 (.bin .neq (.t 11) (.t 13))])
 (.ite (.t 14) (.seq (.ops [o 4 (.mv (.v (.bool false)))])
  .ret)
 .skip))
 (.seq (.seq (.ops [o 15 (.fad 2 (.t 2)), o 16 (.load 1 false (.t 15)), o 17 (.fad 2 (.t 3)), o 18 (.load 1 false (.t 17)), o 19 (.bin .neq (.t 16) (.t 18))])
 (.ite (.t 19) (.seq (.ops [o 4 (.mv (.v (.bool false)))])
  .ret)
 .skip))
 (.seq (.ops [o 4 (.mv (.v (.bool true)))])
 .ret)))))
noncomputable def X.l_eqReaction (p0 : TReaction) (p1 : TReaction) : Option Bool :=
 (bif (p0.Unit != p1.Unit) then some false else (bif (p0.Watch != p1.Watch) then some false else (bif (p0.Kind != p1.Kind) then some false else some true)))
theorem l_eqReaction_ok (p0 : TReaction) (p1 : TReaction) (r : Bool) (H : X.l_eqReaction p0 p1 = some r) : FnOk Tryz.prog gl 110 [.agg (eTReaction p0), .agg (eTReaction p1)] (cB r) := by
 unfold X.l_eqReaction at H
 refine fi Tryz.f110 l_eqReaction_ir [(4, cB r)] [] glL Tryz.func110 ?_
 refine so [] [] [(2, pk 2), (3, pk 3)] [(2, va (eTReaction p0)), (3, va (eTReaction p1))] id ?_
 refine seq_in ?_
 refine so [] [] [(2, pk 2), (3, pk 3), (9, cB (p0.Unit != p1.Unit))] [(2, va (eTReaction p0)), (3, va (eTReaction p1))] id ?_
 rcases ofCond H with ⟨c2, H⟩ | ⟨c2, H⟩
 ·refine it c2 ?_
  refine so [] [] [(4, cB false)] [] id ?_
  refine ends_ret ?_
  cases H
  exact And.intro (.inl rfl) rfl
 ·refine jf c2 ?_
  refine sk ?_
  refine seq_in ?_
  refine so [] [] [(2, pk 2), (3, pk 3), (14, cB (p0.Watch != p1.Watch))] [(2, va (eTReaction p0)), (3, va (eTReaction p1))] id ?_
  rcases ofCond H with ⟨c4, H⟩ | ⟨c4, H⟩
  ·refine it c4 ?_
   refine so [] [] [(4, cB false)] [] id ?_
   refine ends_ret ?_
   cases H
   exact And.intro (.inl rfl) rfl
  ·refine jf c4 ?_
   refine sk ?_
   refine seq_in ?_
   refine so [] [] [(19, cB (p0.Kind != p1.Kind))] [] id ?_
   rcases ofCond H with ⟨c5, H⟩ | ⟨c5, H⟩
   ·refine it c5 ?_
    refine so [] [] [(4, cB false)] [] id ?_
    refine ends_ret ?_
    cases H
    exact And.intro (.inl rfl) rfl
   ·refine jf c5 ?_
    refine sk ?_
    refine so [] [] [(4, cB true)] [] id ?_
    refine ends_ret ?_
    cases H
    exact And.intro (.inl rfl) rfl
def l_eqReactionS_ir : S :=
 (.seq (.ops [o 4 (.mv (.v (.bool false)))])
 (.seq (.seq (.ops [o 6 (.mv (.t 0)), o 7 (.len (.t 6)), o 8 (.mv (.t 1)), o 9 (.len (.t 8)), o 10 (.bin .neq (.t 7) (.t 9))])
 (.ite (.t 10) (.seq (.ops [o 4 (.mv (.v (.bool false)))])
  .ret)
 .skip))
 (.seq (.seq (.ops [o 5 (.mv (.v (.int .i64 0)))])
 (.blk 0 (.loop (.seq (.seq (.ops [o 11 (.mv (.t 5)), o 12 (.mv (.t 0)), o 13 (.len (.t 12)), o 14 (.bin .lss (.t 11) (.t 13))])
   (.ite (.t 14) .skip
   (.exit 0)))
   (.seq (.blk 1 (.seq (.draw 10 [o 17 (.mv (.t 0)), o 18 (.mv (.t 5)), o 19 (.iad 3 (.t 17) (.t 18)), o 20 (.load 3 true (.t 19)), o 21 (.mv (.t 1)), o 22 (.mv (.t 5)), o 23 (.iad 3 (.t 21) (.t 22)), o 24 (.load 3 true (.t 23)), o 25 (.call 110 [.t 20, .t 24]), o 26 (.not (.t 25))])
    (.ite (.t 26) (.seq (.ops [o 4 (.mv (.v (.bool false)))])
     .ret)
    .skip)))
   (.ops [o 15 (.mv (.t 5)), o 16 (.bin .add (.t 15) (.v (.int .i64 1))), o 5 (.mv (.t 16))]))))))
 (.seq (.ops [o 4 (.mv (.v (.bool true)))])
 .ret))))
noncomputable def X.l_eqReactionS (p0 : (List TReaction)) (p1 : (List TReaction)) : Option Bool :=
 (bif ((p0.length : Int) != (p1.length : Int)) then some false else ((loop (fun (x22 : Int) => ((bif (decide (x22 < (p0.length : Int))) then ((at' zTReaction p0 x22).bind fun v25 => ((at' zTReaction p1 x22).bind fun v27 => ((X.l_eqReaction v25 v27).bind fun v29 => (bif (!v29) then some (Sum.inr (Sum.inr false)) else some (Sum.inl (W (x22 + 1))))))) else some (Sum.inr (Sum.inl ()))) : Option (Int ⊕ (Unit ⊕ Bool)))) 0).bind fun y32 => (Sum.elim (fun (y34 : Unit) => some true) (fun (y35 : Bool) => some y35) y32)))
theorem l_eqReactionS_ok (p0 : (List TReaction)) (p1 : (List TReaction)) (r : Bool) (H : X.l_eqReactionS p0 p1 = some r) : FnOk Tryz.prog gl 47 [.c (dat 3 eTReaction zTReaction p0), .c (dat 3 eTReaction zTReaction p1)] (cB r) := by
 unfold X.l_eqReactionS at H
 refine fi Tryz.f47 l_eqReactionS_ir [(4, cB r)] [] glL Tryz.func47 ?_
 refine so [] [] [(0, dc 3 eTReaction zTReaction p0), (1, dc 3 eTReaction zTReaction p1)] [] id ?_
 refine seq_in ?_
 refine so [] [] [(0, dc 3 eTReaction zTReaction p0), (1, dc 3 eTReaction zTReaction p1), (10, cB ((p0.length : Int) != (p1.length : Int)))] [] (fun t => lI p0 (lI p1 (t))) ?_
 rcases ofCond H with ⟨c2, H⟩ | ⟨c2, H⟩
 ·refine it c2 ?_
  refine so [] [] [(4, cB false)] [] id ?_
  refine ends_ret ?_
  cases H
  exact And.intro (.inl rfl) rfl
 ·refine jf c2 ?_
  refine sk ?_
  refine seq_in ?_
  refine so [] [] [(0, dc 3 eTReaction zTReaction p0), (1, dc 3 eTReaction zTReaction p1), (5, cI 0)] [] id ?_
  refine ends_blk ?_
  obtain ⟨y32, h33, H⟩ := ofBind H
  refine loop_in (fun (x : Int) => lit [(0, dc 3 eTReaction zTReaction p0), (1, dc 3 eTReaction zTReaction p1), (5, cI x)] []) (orJ (fun (z : Unit) => At (.exit 0) (lit [] [])) (fun (z : Bool) => At .ret (lit [(4, cB z)] []))) h33 ?_ ?_
  ·clear H h33
   intro x22 y0 H
   refine seq_in ?_
   refine so [] [] [(0, dc 3 eTReaction zTReaction p0), (1, dc 3 eTReaction zTReaction p1), (5, cI x22), (14, cB (decide (x22 < (p0.length : Int))))] [] (fun t => lI p0 (t)) ?_
   rcases ofCond H with ⟨c24, H⟩ | ⟨c24, H⟩
   ·refine it c24 ?_
    refine sk ?_
    refine seq_in ?_
    refine ends_blk ?_
    obtain ⟨v25, h26, H⟩ := ofBind H
    obtain ⟨v27, h28, H⟩ := ofBind H
    obtain ⟨v29, h30, H⟩ := ofBind H
    refine sd [.cs (eTReaction v25), .cs (eTReaction v27), .res (cB v29)] [] [(0, dc 3 eTReaction zTReaction p0), (1, dc 3 eTReaction zTReaction p1), (5, cI x22), (26, cB (!v29))] [] (fun t => aI (at_lt h26) (aI (at_enc (enc := eTReaction) h26) (aI (rfl : ([] : List Nat) = []) (aI (at_lt h28) (aI (at_enc (enc := eTReaction) h28) (aI (rfl : ([] : List Nat) = []) (aI (l_eqReaction_ok v25 v27 v29 h30) (aI trivial (aI (rfl : ([] : List Nat) = []) (t)))))))))) ?_
    rcases ofCond H with ⟨c31, H⟩ | ⟨c31, H⟩
    ·refine it c31 ?_
     refine so [] [] [(4, cB false)] [] id ?_
     refine ends_ret ?_
     cases H
     exact And.intro (by simp) (And.intro rfl rfl)
    ·refine jf c31 ?_
     refine sk ?_
     refine oo [] [] [(0, dc 3 eTReaction zTReaction p0), (1, dc 3 eTReaction zTReaction p1), (5, cI (W (x22 + 1)))] [] id ?_
     cases H
     exact And.intro rfl rfl
   ·refine jf c24 ?_
    refine tl [] [] [] id ?_
    refine ends_exit ?_
    cases H
    exact And.intro (by simp) (And.intro rfl rfl)
  ·clear h33
   cases y32 with
   | inl y34 =>
    replace H := ofInl H
    intro e s q
    obtain ⟨rfl, rfl⟩ := q
    change EndsI _ _ _ _ _ _
    refine so [] [] [(4, cB true)] [] id ?_
    refine ends_ret ?_
    cases H
    exact And.intro (.inl rfl) rfl
   | inr y35 =>
    replace H := ofInr H
    intro e s q
    obtain ⟨rfl, rfl⟩ := q
    cases H
    exact And.intro (.inl rfl) rfl
def l_eqUnit_ir : S :=
 (.seq (.ops [o 2 (.box 4 (.t 0)), o 3 (.box 4 (.t 1)), o 4 (.mv (.v (.bool false)))])
 (.seq (.seq (.ops [o 5 (.fad 0 (.t 2)), o 6 (.load 1 false (.t 5)), o 7 (.fad 0 (.t 3)), o 8 (.load 1 false (.t 7)), o 9 (.bin .neq (.t 6) (.t 8))])
 (.ite (.t 9) (.seq (.ops [o 4 (.mv (.v (.bool false)))])
  .ret)
 .skip))
 (.seq (.seq (.ops [o 10 (.fad 1 (.t 2)), o 11 (.load 1 false (.t 10)), o 12 (.fad 1 (.t 3)), o 13 (.load 1 false (.t 12)), o 14 (.bin .neq (.t 11) (.t 13))])
 (.ite (.t 14) (.seq (.ops [o 4 (.mv (.v (.bool false)))])
  .ret)
 .skip))
 (.seq (.seq (.ops [o 15 (.fad 2 (.t 2)), o 16 (.load 1 false (.t 15)), o 17 (.fad 2 (.t 3)), o 18 (.load 1 false (.t 17)), o 19 (.bin .neq (.t 16) (.t 18))])
 (.ite (.t 19) (.seq (.ops [o 4 (.mv (.v (.bool false)))])
  .ret)
 .skip))
 (.seq (.seq (.ops [o 20 (.fad 3 (.t 2)), o 21 (.load 1 false (.t 20)), o 22 (.fad 3 (.t 3)), o 23 (.load 1 false (.t 22)), o 24 (.bin .neq (.t 21) (.t 23))])
 (.ite (.t 24) (.seq (.ops [o 4 (.mv (.v (.bool false)))])
  .ret)
 .skip))
 (.seq (.ops [o 4 (.mv (.v (.bool true)))])
 .ret))))))
noncomputable def X.l_eqUnit (p0 : TUnit) (p1 : TUnit) : Option Bool :=
 (bif (p0.Side != p1.Side) then some false else (bif (p0.Kind != p1.Kind) then some false else (bif (p0.At != p1.At) then some false else (bif (p0.Steps != p1.Steps) then some false else some true))))
theorem l_eqUnit_ok (p0 : TUnit) (p1 : TUnit) (r : Bool) (H : X.l_eqUnit p0 p1 = some r) : FnOk Tryz.prog gl 137 [.agg (eTUnit p0), .agg (eTUnit p1)] (cB r) := by
 unfold X.l_eqUnit at H
 refine fi Tryz.f137 l_eqUnit_ir [(4, cB r)] [] glL Tryz.func137 ?_
 refine so [] [] [(2, pk 2), (3, pk 3)] [(2, va (eTUnit p0)), (3, va (eTUnit p1))] id ?_
 refine seq_in ?_
 refine so [] [] [(2, pk 2), (3, pk 3), (9, cB (p0.Side != p1.Side))] [(2, va (eTUnit p0)), (3, va (eTUnit p1))] id ?_
 rcases ofCond H with ⟨c2, H⟩ | ⟨c2, H⟩
 ·refine it c2 ?_
  refine so [] [] [(4, cB false)] [] id ?_
  refine ends_ret ?_
  cases H
  exact And.intro (.inl rfl) rfl
 ·refine jf c2 ?_
  refine sk ?_
  refine seq_in ?_
  refine so [] [] [(2, pk 2), (3, pk 3), (14, cB (p0.Kind != p1.Kind))] [(2, va (eTUnit p0)), (3, va (eTUnit p1))] id ?_
  rcases ofCond H with ⟨c4, H⟩ | ⟨c4, H⟩
  ·refine it c4 ?_
   refine so [] [] [(4, cB false)] [] id ?_
   refine ends_ret ?_
   cases H
   exact And.intro (.inl rfl) rfl
  ·refine jf c4 ?_
   refine sk ?_
   refine seq_in ?_
   refine so [] [] [(2, pk 2), (3, pk 3), (19, cB (p0.At != p1.At))] [(2, va (eTUnit p0)), (3, va (eTUnit p1))] id ?_
   rcases ofCond H with ⟨c6, H⟩ | ⟨c6, H⟩
   ·refine it c6 ?_
    refine so [] [] [(4, cB false)] [] id ?_
    refine ends_ret ?_
    cases H
    exact And.intro (.inl rfl) rfl
   ·refine jf c6 ?_
    refine sk ?_
    refine seq_in ?_
    refine so [] [] [(24, cB (p0.Steps != p1.Steps))] [] id ?_
    rcases ofCond H with ⟨c7, H⟩ | ⟨c7, H⟩
    ·refine it c7 ?_
     refine so [] [] [(4, cB false)] [] id ?_
     refine ends_ret ?_
     cases H
     exact And.intro (.inl rfl) rfl
    ·refine jf c7 ?_
     refine sk ?_
     refine so [] [] [(4, cB true)] [] id ?_
     refine ends_ret ?_
     cases H
     exact And.intro (.inl rfl) rfl
def l_eqUnitS_ir : S :=
 (.seq (.ops [o 4 (.mv (.v (.bool false)))])
 (.seq (.seq (.ops [o 6 (.mv (.t 0)), o 7 (.len (.t 6)), o 8 (.mv (.t 1)), o 9 (.len (.t 8)), o 10 (.bin .neq (.t 7) (.t 9))])
 (.ite (.t 10) (.seq (.ops [o 4 (.mv (.v (.bool false)))])
  .ret)
 .skip))
 (.seq (.seq (.ops [o 5 (.mv (.v (.int .i64 0)))])
 (.blk 0 (.loop (.seq (.seq (.ops [o 11 (.mv (.t 5)), o 12 (.mv (.t 0)), o 13 (.len (.t 12)), o 14 (.bin .lss (.t 11) (.t 13))])
   (.ite (.t 14) .skip
   (.exit 0)))
   (.seq (.blk 1 (.seq (.draw 10 [o 17 (.mv (.t 0)), o 18 (.mv (.t 5)), o 19 (.iad 4 (.t 17) (.t 18)), o 20 (.load 4 true (.t 19)), o 21 (.mv (.t 1)), o 22 (.mv (.t 5)), o 23 (.iad 4 (.t 21) (.t 22)), o 24 (.load 4 true (.t 23)), o 25 (.call 137 [.t 20, .t 24]), o 26 (.not (.t 25))])
    (.ite (.t 26) (.seq (.ops [o 4 (.mv (.v (.bool false)))])
     .ret)
    .skip)))
   (.ops [o 15 (.mv (.t 5)), o 16 (.bin .add (.t 15) (.v (.int .i64 1))), o 5 (.mv (.t 16))]))))))
 (.seq (.ops [o 4 (.mv (.v (.bool true)))])
 .ret))))
noncomputable def X.l_eqUnitS (p0 : (List TUnit)) (p1 : (List TUnit)) : Option Bool :=
 (bif ((p0.length : Int) != (p1.length : Int)) then some false else ((loop (fun (x22 : Int) => ((bif (decide (x22 < (p0.length : Int))) then ((at' zTUnit p0 x22).bind fun v25 => ((at' zTUnit p1 x22).bind fun v27 => ((X.l_eqUnit v25 v27).bind fun v29 => (bif (!v29) then some (Sum.inr (Sum.inr false)) else some (Sum.inl (W (x22 + 1))))))) else some (Sum.inr (Sum.inl ()))) : Option (Int ⊕ (Unit ⊕ Bool)))) 0).bind fun y32 => (Sum.elim (fun (y34 : Unit) => some true) (fun (y35 : Bool) => some y35) y32)))
theorem l_eqUnitS_ok (p0 : (List TUnit)) (p1 : (List TUnit)) (r : Bool) (H : X.l_eqUnitS p0 p1 = some r) : FnOk Tryz.prog gl 75 [.c (dat 4 eTUnit zTUnit p0), .c (dat 4 eTUnit zTUnit p1)] (cB r) := by
 unfold X.l_eqUnitS at H
 refine fi Tryz.f75 l_eqUnitS_ir [(4, cB r)] [] glL Tryz.func75 ?_
 refine so [] [] [(0, dc 4 eTUnit zTUnit p0), (1, dc 4 eTUnit zTUnit p1)] [] id ?_
 refine seq_in ?_
 refine so [] [] [(0, dc 4 eTUnit zTUnit p0), (1, dc 4 eTUnit zTUnit p1), (10, cB ((p0.length : Int) != (p1.length : Int)))] [] (fun t => lI p0 (lI p1 (t))) ?_
 rcases ofCond H with ⟨c2, H⟩ | ⟨c2, H⟩
 ·refine it c2 ?_
  refine so [] [] [(4, cB false)] [] id ?_
  refine ends_ret ?_
  cases H
  exact And.intro (.inl rfl) rfl
 ·refine jf c2 ?_
  refine sk ?_
  refine seq_in ?_
  refine so [] [] [(0, dc 4 eTUnit zTUnit p0), (1, dc 4 eTUnit zTUnit p1), (5, cI 0)] [] id ?_
  refine ends_blk ?_
  obtain ⟨y32, h33, H⟩ := ofBind H
  refine loop_in (fun (x : Int) => lit [(0, dc 4 eTUnit zTUnit p0), (1, dc 4 eTUnit zTUnit p1), (5, cI x)] []) (orJ (fun (z : Unit) => At (.exit 0) (lit [] [])) (fun (z : Bool) => At .ret (lit [(4, cB z)] []))) h33 ?_ ?_
  ·clear H h33
   intro x22 y0 H
   refine seq_in ?_
   refine so [] [] [(0, dc 4 eTUnit zTUnit p0), (1, dc 4 eTUnit zTUnit p1), (5, cI x22), (14, cB (decide (x22 < (p0.length : Int))))] [] (fun t => lI p0 (t)) ?_
   rcases ofCond H with ⟨c24, H⟩ | ⟨c24, H⟩
   ·refine it c24 ?_
    refine sk ?_
    refine seq_in ?_
    refine ends_blk ?_
    obtain ⟨v25, h26, H⟩ := ofBind H
    obtain ⟨v27, h28, H⟩ := ofBind H
    obtain ⟨v29, h30, H⟩ := ofBind H
    refine sd [.cs (eTUnit v25), .cs (eTUnit v27), .res (cB v29)] [] [(0, dc 4 eTUnit zTUnit p0), (1, dc 4 eTUnit zTUnit p1), (5, cI x22), (26, cB (!v29))] [] (fun t => aI (at_lt h26) (aI (at_enc (enc := eTUnit) h26) (aI (rfl : ([] : List Nat) = []) (aI (at_lt h28) (aI (at_enc (enc := eTUnit) h28) (aI (rfl : ([] : List Nat) = []) (aI (l_eqUnit_ok v25 v27 v29 h30) (aI trivial (aI (rfl : ([] : List Nat) = []) (t)))))))))) ?_
    rcases ofCond H with ⟨c31, H⟩ | ⟨c31, H⟩
    ·refine it c31 ?_
     refine so [] [] [(4, cB false)] [] id ?_
     refine ends_ret ?_
     cases H
     exact And.intro (by simp) (And.intro rfl rfl)
    ·refine jf c31 ?_
     refine sk ?_
     refine oo [] [] [(0, dc 4 eTUnit zTUnit p0), (1, dc 4 eTUnit zTUnit p1), (5, cI (W (x22 + 1)))] [] id ?_
     cases H
     exact And.intro rfl rfl
   ·refine jf c24 ?_
    refine tl [] [] [] id ?_
    refine ends_exit ?_
    cases H
    exact And.intro (by simp) (And.intro rfl rfl)
  ·clear h33
   cases y32 with
   | inl y34 =>
    replace H := ofInl H
    intro e s q
    obtain ⟨rfl, rfl⟩ := q
    change EndsI _ _ _ _ _ _
    refine so [] [] [(4, cB true)] [] id ?_
    refine ends_ret ?_
    cases H
    exact And.intro (.inl rfl) rfl
   | inr y35 =>
    replace H := ofInr H
    intro e s q
    obtain ⟨rfl, rfl⟩ := q
    cases H
    exact And.intro (.inl rfl) rfl
def l_eqState_ir : S :=
 (.seq (.ops [o 2 (.box 3 (.t 0)), o 3 (.box 3 (.t 1)), o 4 (.mv (.v (.bool false)))])
 (.seq (.seq (.ops [o 5 (.fad 0 (.t 2)), o 6 (.load 1 false (.t 5)), o 7 (.fad 0 (.t 3)), o 8 (.load 1 false (.t 7)), o 9 (.bin .neq (.t 6) (.t 8))])
 (.ite (.t 9) (.seq (.ops [o 4 (.mv (.v (.bool false)))])
  .ret)
 .skip))
 (.seq (.seq (.ops [o 10 (.fad 1 (.t 2)), o 11 (.load 1 false (.t 10)), o 12 (.fad 1 (.t 3)), o 13 (.load 1 false (.t 12)), o 14 (.bin .neq (.t 11) (.t 13))])
 (.ite (.t 14) (.seq (.ops [o 4 (.mv (.v (.bool false)))])
  .ret)
 .skip))
 (.seq (.seq (.ops [o 15 (.fad 2 (.t 2)), o 16 (.load 1 false (.t 15)), o 17 (.fad 2 (.t 3)), o 18 (.load 1 false (.t 17)), o 19 (.call 75 [.t 16, .t 18]), o 20 (.not (.t 19))])
 (.ite (.t 20) (.seq (.ops [o 4 (.mv (.v (.bool false)))])
  .ret)
 .skip))
 (.seq (.ops [o 4 (.mv (.v (.bool true)))])
 .ret)))))
noncomputable def X.l_eqState (p0 : TState) (p1 : TState) : Option Bool :=
 (bif (p0.Turn != p1.Turn) then some false else (bif (p0.Weather != p1.Weather) then some false else ((X.l_eqUnitS p0.Units p1.Units).bind fun v5 => (bif (!v5) then some false else some true))))
theorem l_eqState_ok (p0 : TState) (p1 : TState) (r : Bool) (H : X.l_eqState p0 p1 = some r) : FnOk Tryz.prog gl 20 [.agg (eTState p0), .agg (eTState p1)] (cB r) := by
 unfold X.l_eqState at H
 refine fi Tryz.f20 l_eqState_ir [(4, cB r)] [] glL Tryz.func20 ?_
 refine so [] [] [(2, pk 2), (3, pk 3)] [(2, va (eTState p0)), (3, va (eTState p1))] id ?_
 refine seq_in ?_
 refine so [] [] [(2, pk 2), (3, pk 3), (9, cB (p0.Turn != p1.Turn))] [(2, va (eTState p0)), (3, va (eTState p1))] id ?_
 rcases ofCond H with ⟨c2, H⟩ | ⟨c2, H⟩
 ·refine it c2 ?_
  refine so [] [] [(4, cB false)] [] id ?_
  refine ends_ret ?_
  cases H
  exact And.intro (.inl rfl) rfl
 ·refine jf c2 ?_
  refine sk ?_
  refine seq_in ?_
  refine so [] [] [(2, pk 2), (3, pk 3), (14, cB (p0.Weather != p1.Weather))] [(2, va (eTState p0)), (3, va (eTState p1))] id ?_
  rcases ofCond H with ⟨c4, H⟩ | ⟨c4, H⟩
  ·refine it c4 ?_
   refine so [] [] [(4, cB false)] [] id ?_
   refine ends_ret ?_
   cases H
   exact And.intro (.inl rfl) rfl
  ·refine jf c4 ?_
   refine sk ?_
   refine seq_in ?_
   obtain ⟨v5, h6, H⟩ := ofBind H
   refine so [.res (cB v5)] [] [(20, cB (!v5))] [] (fun t => aI (l_eqUnitS_ok p0.Units p1.Units v5 h6) (t)) ?_
   rcases ofCond H with ⟨c7, H⟩ | ⟨c7, H⟩
   ·refine it c7 ?_
    refine so [] [] [(4, cB false)] [] id ?_
    refine ends_ret ?_
    cases H
    exact And.intro (.inl rfl) rfl
   ·refine jf c7 ?_
    refine sk ?_
    refine so [] [] [(4, cB true)] [] id ?_
    refine ends_ret ?_
    cases H
    exact And.intro (.inl rfl) rfl
def l_eqFrame_ir : S :=
 (.seq (.ops [o 2 (.box 3 (.t 0)), o 3 (.box 3 (.t 1)), o 4 (.mv (.v (.bool false)))])
 (.seq (.seq (.ops [o 5 (.fad 0 (.t 2)), o 6 (.load 1 false (.t 5)), o 7 (.fad 0 (.t 3)), o 8 (.load 1 false (.t 7)), o 9 (.bin .neq (.t 6) (.t 8))])
 (.ite (.t 9) (.seq (.ops [o 4 (.mv (.v (.bool false)))])
  .ret)
 .skip))
 (.seq (.seq (.ops [o 10 (.fad 1 (.t 2)), o 11 (.load 1 false (.t 10)), o 12 (.fad 1 (.t 3)), o 13 (.load 1 false (.t 12)), o 14 (.bin .neq (.t 11) (.t 13))])
 (.ite (.t 14) (.seq (.ops [o 4 (.mv (.v (.bool false)))])
  .ret)
 .skip))
 (.seq (.seq (.ops [o 15 (.fad 2 (.t 2)), o 16 (.load 1 false (.t 15)), o 17 (.fad 2 (.t 3)), o 18 (.load 1 false (.t 17)), o 19 (.bin .neq (.t 16) (.t 18))])
 (.ite (.t 19) (.seq (.ops [o 4 (.mv (.v (.bool false)))])
  .ret)
 .skip))
 (.seq (.ops [o 4 (.mv (.v (.bool true)))])
 .ret)))))
noncomputable def X.l_eqFrame (p0 : TFrame) (p1 : TFrame) : Option Bool :=
 (bif (p0.Unit != p1.Unit) then some false else (bif (p0.At != p1.At) then some false else (bif (p0.By != p1.By) then some false else some true)))
theorem l_eqFrame_ok (p0 : TFrame) (p1 : TFrame) (r : Bool) (H : X.l_eqFrame p0 p1 = some r) : FnOk Tryz.prog gl 170 [.agg (eTFrame p0), .agg (eTFrame p1)] (cB r) := by
 unfold X.l_eqFrame at H
 refine fi Tryz.f170 l_eqFrame_ir [(4, cB r)] [] glL Tryz.func170 ?_
 refine so [] [] [(2, pk 2), (3, pk 3)] [(2, va (eTFrame p0)), (3, va (eTFrame p1))] id ?_
 refine seq_in ?_
 refine so [] [] [(2, pk 2), (3, pk 3), (9, cB (p0.Unit != p1.Unit))] [(2, va (eTFrame p0)), (3, va (eTFrame p1))] id ?_
 rcases ofCond H with ⟨c2, H⟩ | ⟨c2, H⟩
 ·refine it c2 ?_
  refine so [] [] [(4, cB false)] [] id ?_
  refine ends_ret ?_
  cases H
  exact And.intro (.inl rfl) rfl
 ·refine jf c2 ?_
  refine sk ?_
  refine seq_in ?_
  refine so [] [] [(2, pk 2), (3, pk 3), (14, cB (p0.At != p1.At))] [(2, va (eTFrame p0)), (3, va (eTFrame p1))] id ?_
  rcases ofCond H with ⟨c4, H⟩ | ⟨c4, H⟩
  ·refine it c4 ?_
   refine so [] [] [(4, cB false)] [] id ?_
   refine ends_ret ?_
   cases H
   exact And.intro (.inl rfl) rfl
  ·refine jf c4 ?_
   refine sk ?_
   refine seq_in ?_
   refine so [] [] [(19, cB (p0.By != p1.By))] [] id ?_
   rcases ofCond H with ⟨c5, H⟩ | ⟨c5, H⟩
   ·refine it c5 ?_
    refine so [] [] [(4, cB false)] [] id ?_
    refine ends_ret ?_
    cases H
    exact And.intro (.inl rfl) rfl
   ·refine jf c5 ?_
    refine sk ?_
    refine so [] [] [(4, cB true)] [] id ?_
    refine ends_ret ?_
    cases H
    exact And.intro (.inl rfl) rfl
def l_eqFrameS_ir : S :=
 (.seq (.ops [o 4 (.mv (.v (.bool false)))])
 (.seq (.seq (.ops [o 6 (.mv (.t 0)), o 7 (.len (.t 6)), o 8 (.mv (.t 1)), o 9 (.len (.t 8)), o 10 (.bin .neq (.t 7) (.t 9))])
 (.ite (.t 10) (.seq (.ops [o 4 (.mv (.v (.bool false)))])
  .ret)
 .skip))
 (.seq (.seq (.ops [o 5 (.mv (.v (.int .i64 0)))])
 (.blk 0 (.loop (.seq (.seq (.ops [o 11 (.mv (.t 5)), o 12 (.mv (.t 0)), o 13 (.len (.t 12)), o 14 (.bin .lss (.t 11) (.t 13))])
   (.ite (.t 14) .skip
   (.exit 0)))
   (.seq (.blk 1 (.seq (.draw 10 [o 17 (.mv (.t 0)), o 18 (.mv (.t 5)), o 19 (.iad 3 (.t 17) (.t 18)), o 20 (.load 3 true (.t 19)), o 21 (.mv (.t 1)), o 22 (.mv (.t 5)), o 23 (.iad 3 (.t 21) (.t 22)), o 24 (.load 3 true (.t 23)), o 25 (.call 170 [.t 20, .t 24]), o 26 (.not (.t 25))])
    (.ite (.t 26) (.seq (.ops [o 4 (.mv (.v (.bool false)))])
     .ret)
    .skip)))
   (.ops [o 15 (.mv (.t 5)), o 16 (.bin .add (.t 15) (.v (.int .i64 1))), o 5 (.mv (.t 16))]))))))
 (.seq (.ops [o 4 (.mv (.v (.bool true)))])
 .ret))))
noncomputable def X.l_eqFrameS (p0 : (List TFrame)) (p1 : (List TFrame)) : Option Bool :=
 (bif ((p0.length : Int) != (p1.length : Int)) then some false else ((loop (fun (x22 : Int) => ((bif (decide (x22 < (p0.length : Int))) then ((at' zTFrame p0 x22).bind fun v25 => ((at' zTFrame p1 x22).bind fun v27 => ((X.l_eqFrame v25 v27).bind fun v29 => (bif (!v29) then some (Sum.inr (Sum.inr false)) else some (Sum.inl (W (x22 + 1))))))) else some (Sum.inr (Sum.inl ()))) : Option (Int ⊕ (Unit ⊕ Bool)))) 0).bind fun y32 => (Sum.elim (fun (y34 : Unit) => some true) (fun (y35 : Bool) => some y35) y32)))
theorem l_eqFrameS_ok (p0 : (List TFrame)) (p1 : (List TFrame)) (r : Bool) (H : X.l_eqFrameS p0 p1 = some r) : FnOk Tryz.prog gl 111 [.c (dat 3 eTFrame zTFrame p0), .c (dat 3 eTFrame zTFrame p1)] (cB r) := by
 unfold X.l_eqFrameS at H
 refine fi Tryz.f111 l_eqFrameS_ir [(4, cB r)] [] glL Tryz.func111 ?_
 refine so [] [] [(0, dc 3 eTFrame zTFrame p0), (1, dc 3 eTFrame zTFrame p1)] [] id ?_
 refine seq_in ?_
 refine so [] [] [(0, dc 3 eTFrame zTFrame p0), (1, dc 3 eTFrame zTFrame p1), (10, cB ((p0.length : Int) != (p1.length : Int)))] [] (fun t => lI p0 (lI p1 (t))) ?_
 rcases ofCond H with ⟨c2, H⟩ | ⟨c2, H⟩
 ·refine it c2 ?_
  refine so [] [] [(4, cB false)] [] id ?_
  refine ends_ret ?_
  cases H
  exact And.intro (.inl rfl) rfl
 ·refine jf c2 ?_
  refine sk ?_
  refine seq_in ?_
  refine so [] [] [(0, dc 3 eTFrame zTFrame p0), (1, dc 3 eTFrame zTFrame p1), (5, cI 0)] [] id ?_
  refine ends_blk ?_
  obtain ⟨y32, h33, H⟩ := ofBind H
  refine loop_in (fun (x : Int) => lit [(0, dc 3 eTFrame zTFrame p0), (1, dc 3 eTFrame zTFrame p1), (5, cI x)] []) (orJ (fun (z : Unit) => At (.exit 0) (lit [] [])) (fun (z : Bool) => At .ret (lit [(4, cB z)] []))) h33 ?_ ?_
  ·clear H h33
   intro x22 y0 H
   refine seq_in ?_
   refine so [] [] [(0, dc 3 eTFrame zTFrame p0), (1, dc 3 eTFrame zTFrame p1), (5, cI x22), (14, cB (decide (x22 < (p0.length : Int))))] [] (fun t => lI p0 (t)) ?_
   rcases ofCond H with ⟨c24, H⟩ | ⟨c24, H⟩
   ·refine it c24 ?_
    refine sk ?_
    refine seq_in ?_
    refine ends_blk ?_
    obtain ⟨v25, h26, H⟩ := ofBind H
    obtain ⟨v27, h28, H⟩ := ofBind H
    obtain ⟨v29, h30, H⟩ := ofBind H
    refine sd [.cs (eTFrame v25), .cs (eTFrame v27), .res (cB v29)] [] [(0, dc 3 eTFrame zTFrame p0), (1, dc 3 eTFrame zTFrame p1), (5, cI x22), (26, cB (!v29))] [] (fun t => aI (at_lt h26) (aI (at_enc (enc := eTFrame) h26) (aI (rfl : ([] : List Nat) = []) (aI (at_lt h28) (aI (at_enc (enc := eTFrame) h28) (aI (rfl : ([] : List Nat) = []) (aI (l_eqFrame_ok v25 v27 v29 h30) (aI trivial (aI (rfl : ([] : List Nat) = []) (t)))))))))) ?_
    rcases ofCond H with ⟨c31, H⟩ | ⟨c31, H⟩
    ·refine it c31 ?_
     refine so [] [] [(4, cB false)] [] id ?_
     refine ends_ret ?_
     cases H
     exact And.intro (by simp) (And.intro rfl rfl)
    ·refine jf c31 ?_
     refine sk ?_
     refine oo [] [] [(0, dc 3 eTFrame zTFrame p0), (1, dc 3 eTFrame zTFrame p1), (5, cI (W (x22 + 1)))] [] id ?_
     cases H
     exact And.intro rfl rfl
   ·refine jf c24 ?_
    refine tl [] [] [] id ?_
    refine ends_exit ?_
    cases H
    exact And.intro (by simp) (And.intro rfl rfl)
  ·clear h33
   cases y32 with
   | inl y34 =>
    replace H := ofInl H
    intro e s q
    obtain ⟨rfl, rfl⟩ := q
    change EndsI _ _ _ _ _ _
    refine so [] [] [(4, cB true)] [] id ?_
    refine ends_ret ?_
    cases H
    exact And.intro (.inl rfl) rfl
   | inr y35 =>
    replace H := ofInr H
    intro e s q
    obtain ⟨rfl, rfl⟩ := q
    cases H
    exact And.intro (.inl rfl) rfl
def l_eqMachine_ir : S :=
 (.seq (.ops [o 2 (.box 6 (.t 0)), o 3 (.box 6 (.t 1)), o 4 (.mv (.v (.bool false)))])
 (.seq (.seq (.ops [o 5 (.fad 0 (.t 2)), o 6 (.load 1 false (.t 5)), o 7 (.fad 0 (.t 3)), o 8 (.load 1 false (.t 7)), o 9 (.call 111 [.t 6, .t 8]), o 10 (.not (.t 9))])
 (.ite (.t 10) (.seq (.ops [o 4 (.mv (.v (.bool false)))])
  .ret)
 .skip))
 (.seq (.seq (.ops [o 11 (.fad 1 (.t 2)), o 12 (.load 1 false (.t 11)), o 13 (.fad 1 (.t 3)), o 14 (.load 1 false (.t 13)), o 15 (.call 18 [.t 12, .t 14]), o 16 (.not (.t 15))])
 (.ite (.t 16) (.seq (.ops [o 4 (.mv (.v (.bool false)))])
  .ret)
 .skip))
 (.seq (.seq (.ops [o 17 (.fad 2 (.t 2)), o 18 (.load 3 true (.t 17)), o 19 (.fad 2 (.t 3)), o 20 (.load 3 true (.t 19)), o 21 (.call 20 [.t 18, .t 20]), o 22 (.not (.t 21))])
 (.ite (.t 22) (.seq (.ops [o 4 (.mv (.v (.bool false)))])
  .ret)
 .skip))
 (.seq (.seq (.ops [o 23 (.fad 5 (.t 2)), o 24 (.load 1 false (.t 23)), o 25 (.fad 5 (.t 3)), o 26 (.load 1 false (.t 25)), o 27 (.call 18 [.t 24, .t 26]), o 28 (.not (.t 27))])
 (.ite (.t 28) (.seq (.ops [o 4 (.mv (.v (.bool false)))])
  .ret)
 .skip))
 (.seq (.ops [o 4 (.mv (.v (.bool true)))])
 .ret))))))
noncomputable def X.l_eqMachine (p0 : TMachine) (p1 : TMachine) : Option Bool :=
 ((X.l_eqFrameS p0.Stack p1.Stack).bind fun v4 => (bif (!v4) then some false else ((X.l_eqIntS p0.Used p1.Used).bind fun v10 => (bif (!v10) then some false else ((X.l_eqState p0.State p1.State).bind fun v16 => (bif (!v16) then some false else ((X.l_eqIntS p0.Log p1.Log).bind fun v19 => (bif (!v19) then some false else some true))))))))
theorem l_eqMachine_ok (p0 : TMachine) (p1 : TMachine) (r : Bool) (H : X.l_eqMachine p0 p1 = some r) : FnOk Tryz.prog gl 48 [.agg (eTMachine p0), .agg (eTMachine p1)] (cB r) := by
 unfold X.l_eqMachine at H
 refine fi Tryz.f48 l_eqMachine_ir [(4, cB r)] [] glL Tryz.func48 ?_
 refine so [] [] [(2, pk 2), (3, pk 3)] [(2, va (eTMachine p0)), (3, va (eTMachine p1))] id ?_
 refine seq_in ?_
 obtain ⟨v4, h5, H⟩ := ofBind H
 refine so [.res (cB v4)] [] [(2, pk 2), (3, pk 3), (10, cB (!v4))] [(2, va (eTMachine p0)), (3, va (eTMachine p1))] (fun t => aI (l_eqFrameS_ok p0.Stack p1.Stack v4 h5) (t)) ?_
 rcases ofCond H with ⟨c6, H⟩ | ⟨c6, H⟩
 ·refine it c6 ?_
  refine so [] [] [(4, cB false)] [] id ?_
  refine ends_ret ?_
  cases H
  exact And.intro (.inl rfl) rfl
 ·refine jf c6 ?_
  refine sk ?_
  refine seq_in ?_
  obtain ⟨v10, h11, H⟩ := ofBind H
  refine so [.res (cB v10)] [] [(2, pk 2), (3, pk 3), (16, cB (!v10))] [(2, va (eTMachine p0)), (3, va (eTMachine p1))] (fun t => aI (l_eqIntS_ok p0.Used p1.Used v10 h11) (t)) ?_
  rcases ofCond H with ⟨c12, H⟩ | ⟨c12, H⟩
  ·refine it c12 ?_
   refine so [] [] [(4, cB false)] [] id ?_
   refine ends_ret ?_
   cases H
   exact And.intro (.inl rfl) rfl
  ·refine jf c12 ?_
   refine sk ?_
   refine seq_in ?_
   obtain ⟨v16, h17, H⟩ := ofBind H
   refine so [.res (cB v16)] [] [(2, pk 2), (3, pk 3), (22, cB (!v16))] [(2, va (eTMachine p0)), (3, va (eTMachine p1))] (fun t => aI (l_eqState_ok p0.State p1.State v16 h17) (t)) ?_
   rcases ofCond H with ⟨c18, H⟩ | ⟨c18, H⟩
   ·refine it c18 ?_
    refine so [] [] [(4, cB false)] [] id ?_
    refine ends_ret ?_
    cases H
    exact And.intro (.inl rfl) rfl
   ·refine jf c18 ?_
    refine sk ?_
    refine seq_in ?_
    obtain ⟨v19, h20, H⟩ := ofBind H
    refine so [.res (cB v19)] [] [(28, cB (!v19))] [] (fun t => aI (l_eqIntS_ok p0.Log p1.Log v19 h20) (t)) ?_
    rcases ofCond H with ⟨c21, H⟩ | ⟨c21, H⟩
    ·refine it c21 ?_
     refine so [] [] [(4, cB false)] [] id ?_
     refine ends_ret ?_
     cases H
     exact And.intro (.inl rfl) rfl
    ·refine jf c21 ?_
     refine sk ?_
     refine so [] [] [(4, cB true)] [] id ?_
     refine ends_ret ?_
     cases H
     exact And.intro (.inl rfl) rfl
def l_markReactionS_ir : S :=
 (.seq (.ops [o 4 (.mv (.v (.int .i64 0)))])
 (.seq (.seq (.ops [o 5 (.mv (.v (.int .i64 0)))])
 (.blk 0 (.loop (.seq (.seq (.ops [o 6 (.mv (.t 5)), o 7 (.mv (.t 0)), o 8 (.len (.t 7)), o 9 (.bin .lss (.t 6) (.t 8))])
   (.ite (.t 9) .skip
   (.exit 0)))
   (.seq (.blk 1 (.seq (.ops [o 12 (.mv (.t 0)), o 13 (.mv (.t 5)), o 14 (.mv (.t 1)), o 15 (.iad 3 (.t 12) (.t 13)), o 16 (.fad 0 (.t 15)), ⟨none, .store 1 (.t 16) (.t 14), none⟩])
    (.seq (.ops [o 17 (.mv (.t 1)), o 18 (.bin .add (.t 17) (.v (.int .i64 1))), o 1 (.mv (.t 18))])
    (.seq (.ops [o 19 (.mv (.t 0)), o 20 (.mv (.t 5)), o 21 (.mv (.t 1)), o 22 (.iad 3 (.t 19) (.t 20)), o 23 (.fad 1 (.t 22)), ⟨none, .store 1 (.t 23) (.t 21), none⟩])
    (.seq (.ops [o 24 (.mv (.t 1)), o 25 (.bin .add (.t 24) (.v (.int .i64 1))), o 1 (.mv (.t 25))])
    (.seq (.ops [o 26 (.mv (.t 0)), o 27 (.mv (.t 5)), o 28 (.mv (.t 1)), o 29 (.iad 3 (.t 26) (.t 27)), o 30 (.fad 2 (.t 29)), ⟨none, .store 1 (.t 30) (.t 28), none⟩])
    (.ops [o 31 (.mv (.t 1)), o 32 (.bin .add (.t 31) (.v (.int .i64 1))), o 1 (.mv (.t 32))])))))))
   (.ops [o 10 (.mv (.t 5)), o 11 (.bin .add (.t 10) (.v (.int .i64 1))), o 5 (.mv (.t 11))]))))))
 (.seq (.ops [o 33 (.mv (.t 1)), o 4 (.mv (.t 33))])
 .ret)))
noncomputable def X.l_markReactionS_L (p0 : (List TReaction)) (p1 : Int) : Option Int :=
 ((loop (fun (x10 : (Int × Int)) => ((bif (decide (x10.2 < (p0.length : Int))) then ((at' zTReaction p0 x10.2).bind fun v13 => some (Sum.inl ((W ((W ((W (x10.1 + 1)) + 1)) + 1)), (W (x10.2 + 1))))) else some (Sum.inr x10.1)) : Option ((Int × Int) ⊕ Int))) (p1, 0)).bind fun y15 => some y15)
theorem l_markReactionS_L_ok (p0 : (List TReaction)) (p1 : Int) (r : Int) (H : X.l_markReactionS_L p0 p1 = some r) : FnOk Tryz.prog gl 49 [.c (.lv (dat 3 eTReaction zTReaction p0)), cI p1] (cI r) := by
 unfold X.l_markReactionS_L at H
 refine fi Tryz.f49 l_markReactionS_ir [(4, cI r)] [] glL Tryz.func49 ?_
 refine so [] [] [(0, .c (.lv (dat 3 eTReaction zTReaction p0))), (1, cI p1)] [] id ?_
 refine seq_in ?_
 refine so [] [] [(0, .c (.lv (dat 3 eTReaction zTReaction p0))), (1, cI p1), (5, cI 0)] [] id ?_
 refine ends_blk ?_
 obtain ⟨y15, h16, H⟩ := ofBind H
 refine loop_in (fun (x : (Int × Int)) => lit [(0, .c (.lv (dat 3 eTReaction zTReaction p0))), (1, cI x.1), (5, cI x.2)] []) (fun (z : Int) => At (.exit 0) (lit [(1, cI z)] [])) h16 ?_ ?_
 ·clear H h16
  intro x10 y0 H
  refine seq_in ?_
  refine so [] [] [(0, .c (.lv (dat 3 eTReaction zTReaction p0))), (1, cI x10.1), (5, cI x10.2), (9, cB (decide (x10.2 < (p0.length : Int))))] [] (fun t => lI p0 (t)) ?_
  rcases ofCond H with ⟨c12, H⟩ | ⟨c12, H⟩
  ·refine it c12 ?_
   refine sk ?_
   refine seq_in ?_
   refine ends_blk ?_
   obtain ⟨v13, h14, H⟩ := ofBind H
   refine so [.cs (eTReaction v13)] [] [(0, .c (.lv (dat 3 eTReaction zTReaction p0))), (1, cI x10.1), (5, cI x10.2)] [] (fun t => aI (at_lt h14) (aI (at_enc (enc := eTReaction) h14) (aI (rfl : true = true) (t)))) ?_
   refine so [] [] [(0, .c (.lv (dat 3 eTReaction zTReaction p0))), (1, cI (W (x10.1 + 1))), (5, cI x10.2)] [] id ?_
   refine so [.cs (eTReaction v13)] [] [(0, .c (.lv (dat 3 eTReaction zTReaction p0))), (1, cI (W (x10.1 + 1))), (5, cI x10.2)] [] (fun t => aI (at_lt h14) (aI (at_enc (enc := eTReaction) h14) (aI (rfl : true = true) (t)))) ?_
   refine so [] [] [(0, .c (.lv (dat 3 eTReaction zTReaction p0))), (1, cI (W ((W (x10.1 + 1)) + 1))), (5, cI x10.2)] [] id ?_
   refine so [.cs (eTReaction v13)] [] [(0, .c (.lv (dat 3 eTReaction zTReaction p0))), (1, cI (W ((W (x10.1 + 1)) + 1))), (5, cI x10.2)] [] (fun t => aI (at_lt h14) (aI (at_enc (enc := eTReaction) h14) (aI (rfl : true = true) (t)))) ?_
   refine oo [] [] [(0, .c (.lv (dat 3 eTReaction zTReaction p0))), (1, cI (W ((W ((W (x10.1 + 1)) + 1)) + 1))), (5, cI x10.2)] [] id ?_
   change EndsI _ _ _ _ _ _
   refine oo [] [] [(0, .c (.lv (dat 3 eTReaction zTReaction p0))), (1, cI (W ((W ((W (x10.1 + 1)) + 1)) + 1))), (5, cI (W (x10.2 + 1)))] [] id ?_
   cases H
   exact And.intro rfl rfl
  ·refine jf c12 ?_
   refine tl [] [(1, cI x10.1)] [] id ?_
   refine ends_exit ?_
   cases H
   exact And.intro (by simp) (And.intro rfl rfl)
 ·clear h16
  intro e s q
  obtain ⟨rfl, rfl⟩ := q
  change EndsI _ _ _ _ _ _
  refine so [] [] [(4, cI y15)] [] id ?_
  refine ends_ret ?_
  cases H
  exact And.intro (.inl rfl) rfl
def l_markUnitS_ir : S :=
 (.seq (.ops [o 4 (.mv (.v (.int .i64 0)))])
 (.seq (.seq (.ops [o 5 (.mv (.v (.int .i64 0)))])
 (.blk 0 (.loop (.seq (.seq (.ops [o 6 (.mv (.t 5)), o 7 (.mv (.t 0)), o 8 (.len (.t 7)), o 9 (.bin .lss (.t 6) (.t 8))])
   (.ite (.t 9) .skip
   (.exit 0)))
   (.seq (.blk 1 (.seq (.ops [o 12 (.mv (.t 0)), o 13 (.mv (.t 5)), o 14 (.mv (.t 1)), o 15 (.iad 4 (.t 12) (.t 13)), o 16 (.fad 0 (.t 15)), ⟨none, .store 1 (.t 16) (.t 14), none⟩])
    (.seq (.ops [o 17 (.mv (.t 1)), o 18 (.bin .add (.t 17) (.v (.int .i64 1))), o 1 (.mv (.t 18))])
    (.seq (.ops [o 19 (.mv (.t 0)), o 20 (.mv (.t 5)), o 21 (.mv (.t 1)), o 22 (.iad 4 (.t 19) (.t 20)), o 23 (.fad 1 (.t 22)), ⟨none, .store 1 (.t 23) (.t 21), none⟩])
    (.seq (.ops [o 24 (.mv (.t 1)), o 25 (.bin .add (.t 24) (.v (.int .i64 1))), o 1 (.mv (.t 25))])
    (.seq (.ops [o 26 (.mv (.t 0)), o 27 (.mv (.t 5)), o 28 (.mv (.t 1)), o 29 (.iad 4 (.t 26) (.t 27)), o 30 (.fad 2 (.t 29)), ⟨none, .store 1 (.t 30) (.t 28), none⟩])
    (.seq (.ops [o 31 (.mv (.t 1)), o 32 (.bin .add (.t 31) (.v (.int .i64 1))), o 1 (.mv (.t 32))])
    (.seq (.ops [o 33 (.mv (.t 0)), o 34 (.mv (.t 5)), o 35 (.mv (.t 1)), o 36 (.iad 4 (.t 33) (.t 34)), o 37 (.fad 3 (.t 36)), ⟨none, .store 1 (.t 37) (.t 35), none⟩])
    (.ops [o 38 (.mv (.t 1)), o 39 (.bin .add (.t 38) (.v (.int .i64 1))), o 1 (.mv (.t 39))])))))))))
   (.ops [o 10 (.mv (.t 5)), o 11 (.bin .add (.t 10) (.v (.int .i64 1))), o 5 (.mv (.t 11))]))))))
 (.seq (.ops [o 40 (.mv (.t 1)), o 4 (.mv (.t 40))])
 .ret)))
noncomputable def X.l_markUnitS_L (p0 : (List TUnit)) (p1 : Int) : Option Int :=
 ((loop (fun (x10 : (Int × Int)) => ((bif (decide (x10.2 < (p0.length : Int))) then ((at' zTUnit p0 x10.2).bind fun v13 => some (Sum.inl ((W ((W ((W ((W (x10.1 + 1)) + 1)) + 1)) + 1)), (W (x10.2 + 1))))) else some (Sum.inr x10.1)) : Option ((Int × Int) ⊕ Int))) (p1, 0)).bind fun y15 => some y15)
theorem l_markUnitS_L_ok (p0 : (List TUnit)) (p1 : Int) (r : Int) (H : X.l_markUnitS_L p0 p1 = some r) : FnOk Tryz.prog gl 78 [.c (.lv (dat 4 eTUnit zTUnit p0)), cI p1] (cI r) := by
 unfold X.l_markUnitS_L at H
 refine fi Tryz.f78 l_markUnitS_ir [(4, cI r)] [] glL Tryz.func78 ?_
 refine so [] [] [(0, .c (.lv (dat 4 eTUnit zTUnit p0))), (1, cI p1)] [] id ?_
 refine seq_in ?_
 refine so [] [] [(0, .c (.lv (dat 4 eTUnit zTUnit p0))), (1, cI p1), (5, cI 0)] [] id ?_
 refine ends_blk ?_
 obtain ⟨y15, h16, H⟩ := ofBind H
 refine loop_in (fun (x : (Int × Int)) => lit [(0, .c (.lv (dat 4 eTUnit zTUnit p0))), (1, cI x.1), (5, cI x.2)] []) (fun (z : Int) => At (.exit 0) (lit [(1, cI z)] [])) h16 ?_ ?_
 ·clear H h16
  intro x10 y0 H
  refine seq_in ?_
  refine so [] [] [(0, .c (.lv (dat 4 eTUnit zTUnit p0))), (1, cI x10.1), (5, cI x10.2), (9, cB (decide (x10.2 < (p0.length : Int))))] [] (fun t => lI p0 (t)) ?_
  rcases ofCond H with ⟨c12, H⟩ | ⟨c12, H⟩
  ·refine it c12 ?_
   refine sk ?_
   refine seq_in ?_
   refine ends_blk ?_
   obtain ⟨v13, h14, H⟩ := ofBind H
   refine so [.cs (eTUnit v13)] [] [(0, .c (.lv (dat 4 eTUnit zTUnit p0))), (1, cI x10.1), (5, cI x10.2)] [] (fun t => aI (at_lt h14) (aI (at_enc (enc := eTUnit) h14) (aI (rfl : true = true) (t)))) ?_
   refine so [] [] [(0, .c (.lv (dat 4 eTUnit zTUnit p0))), (1, cI (W (x10.1 + 1))), (5, cI x10.2)] [] id ?_
   refine so [.cs (eTUnit v13)] [] [(0, .c (.lv (dat 4 eTUnit zTUnit p0))), (1, cI (W (x10.1 + 1))), (5, cI x10.2)] [] (fun t => aI (at_lt h14) (aI (at_enc (enc := eTUnit) h14) (aI (rfl : true = true) (t)))) ?_
   refine so [] [] [(0, .c (.lv (dat 4 eTUnit zTUnit p0))), (1, cI (W ((W (x10.1 + 1)) + 1))), (5, cI x10.2)] [] id ?_
   refine so [.cs (eTUnit v13)] [] [(0, .c (.lv (dat 4 eTUnit zTUnit p0))), (1, cI (W ((W (x10.1 + 1)) + 1))), (5, cI x10.2)] [] (fun t => aI (at_lt h14) (aI (at_enc (enc := eTUnit) h14) (aI (rfl : true = true) (t)))) ?_
   refine so [] [] [(0, .c (.lv (dat 4 eTUnit zTUnit p0))), (1, cI (W ((W ((W (x10.1 + 1)) + 1)) + 1))), (5, cI x10.2)] [] id ?_
   refine so [.cs (eTUnit v13)] [] [(0, .c (.lv (dat 4 eTUnit zTUnit p0))), (1, cI (W ((W ((W (x10.1 + 1)) + 1)) + 1))), (5, cI x10.2)] [] (fun t => aI (at_lt h14) (aI (at_enc (enc := eTUnit) h14) (aI (rfl : true = true) (t)))) ?_
   refine oo [] [] [(0, .c (.lv (dat 4 eTUnit zTUnit p0))), (1, cI (W ((W ((W ((W (x10.1 + 1)) + 1)) + 1)) + 1))), (5, cI x10.2)] [] id ?_
   change EndsI _ _ _ _ _ _
   refine oo [] [] [(0, .c (.lv (dat 4 eTUnit zTUnit p0))), (1, cI (W ((W ((W ((W (x10.1 + 1)) + 1)) + 1)) + 1))), (5, cI (W (x10.2 + 1)))] [] id ?_
   cases H
   exact And.intro rfl rfl
  ·refine jf c12 ?_
   refine tl [] [(1, cI x10.1)] [] id ?_
   refine ends_exit ?_
   cases H
   exact And.intro (by simp) (And.intro rfl rfl)
 ·clear h16
  intro e s q
  obtain ⟨rfl, rfl⟩ := q
  change EndsI _ _ _ _ _ _
  refine so [] [] [(4, cI y15)] [] id ?_
  refine ends_ret ?_
  cases H
  exact And.intro (.inl rfl) rfl
def l_markState_ir : S :=
 (.seq (.ops [o 2 (.box 3 (.t 0)), o 4 (.mv (.v (.int .i64 0)))])
 (.seq (.ops [o 5 (.fad 2 (.t 2)), o 6 (.load 1 false (.t 5)), o 7 (.mv (.t 1)), o 8 (.call 78 [.t 6, .t 7]), o 1 (.mv (.t 8))])
 (.seq (.ops [o 9 (.mv (.t 1)), o 4 (.mv (.t 9))])
 .ret)))
noncomputable def X.l_markState_L (p0 : TState) (p1 : Int) : Option Int :=
 ((X.l_markUnitS_L p0.Units p1).bind fun v1 => some v1)
theorem l_markState_L_ok (p0 : TState) (p1 : Int) (r : Int) (H : X.l_markState_L p0 p1 = some r) : FnOk Tryz.prog gl 22 [.agg [.int .i64 p0.Turn, .int .i64 p0.Weather, .lv (dat 4 eTUnit zTUnit p0.Units)], cI p1] (cI r) := by
 unfold X.l_markState_L at H
 refine fi Tryz.f22 l_markState_ir [(4, cI r)] [] glL Tryz.func22 ?_
 refine so [] [] [(1, cI p1), (2, pk 2)] [(2, .var [.int .i64 p0.Turn, .int .i64 p0.Weather, .lv (dat 4 eTUnit zTUnit p0.Units)] false)] id ?_
 obtain ⟨v1, h2, H⟩ := ofBind H
 refine so [.res (cI v1)] [] [(1, cI v1)] [] (fun t => aI (l_markUnitS_L_ok p0.Units p1 v1 h2) (t)) ?_
 refine so [] [] [(4, cI v1)] [] id ?_
 refine ends_ret ?_
 cases H
 exact And.intro (.inl rfl) rfl
def l_markFrameS_ir : S :=
 (.seq (.ops [o 4 (.mv (.v (.int .i64 0)))])
 (.seq (.seq (.ops [o 5 (.mv (.v (.int .i64 0)))])
 (.blk 0 (.loop (.seq (.seq (.ops [o 6 (.mv (.t 5)), o 7 (.mv (.t 0)), o 8 (.len (.t 7)), o 9 (.bin .lss (.t 6) (.t 8))])
   (.ite (.t 9) .skip
   (.exit 0)))
   (.seq (.blk 1 (.seq (.ops [o 12 (.mv (.t 0)), o 13 (.mv (.t 5)), o 14 (.mv (.t 1)), o 15 (.iad 3 (.t 12) (.t 13)), o 16 (.fad 0 (.t 15)), ⟨none, .store 1 (.t 16) (.t 14), none⟩])
    (.seq (.ops [o 17 (.mv (.t 1)), o 18 (.bin .add (.t 17) (.v (.int .i64 1))), o 1 (.mv (.t 18))])
    (.seq (.ops [o 19 (.mv (.t 0)), o 20 (.mv (.t 5)), o 21 (.mv (.t 1)), o 22 (.iad 3 (.t 19) (.t 20)), o 23 (.fad 1 (.t 22)), ⟨none, .store 1 (.t 23) (.t 21), none⟩])
    (.seq (.ops [o 24 (.mv (.t 1)), o 25 (.bin .add (.t 24) (.v (.int .i64 1))), o 1 (.mv (.t 25))])
    (.seq (.ops [o 26 (.mv (.t 0)), o 27 (.mv (.t 5)), o 28 (.mv (.t 1)), o 29 (.iad 3 (.t 26) (.t 27)), o 30 (.fad 2 (.t 29)), ⟨none, .store 1 (.t 30) (.t 28), none⟩])
    (.ops [o 31 (.mv (.t 1)), o 32 (.bin .add (.t 31) (.v (.int .i64 1))), o 1 (.mv (.t 32))])))))))
   (.ops [o 10 (.mv (.t 5)), o 11 (.bin .add (.t 10) (.v (.int .i64 1))), o 5 (.mv (.t 11))]))))))
 (.seq (.ops [o 33 (.mv (.t 1)), o 4 (.mv (.t 33))])
 .ret)))
noncomputable def X.l_markFrameS_L (p0 : (List TFrame)) (p1 : Int) : Option Int :=
 ((loop (fun (x10 : (Int × Int)) => ((bif (decide (x10.2 < (p0.length : Int))) then ((at' zTFrame p0 x10.2).bind fun v13 => some (Sum.inl ((W ((W ((W (x10.1 + 1)) + 1)) + 1)), (W (x10.2 + 1))))) else some (Sum.inr x10.1)) : Option ((Int × Int) ⊕ Int))) (p1, 0)).bind fun y15 => some y15)
theorem l_markFrameS_L_ok (p0 : (List TFrame)) (p1 : Int) (r : Int) (H : X.l_markFrameS_L p0 p1 = some r) : FnOk Tryz.prog gl 112 [.c (.lv (dat 3 eTFrame zTFrame p0)), cI p1] (cI r) := by
 unfold X.l_markFrameS_L at H
 refine fi Tryz.f112 l_markFrameS_ir [(4, cI r)] [] glL Tryz.func112 ?_
 refine so [] [] [(0, .c (.lv (dat 3 eTFrame zTFrame p0))), (1, cI p1)] [] id ?_
 refine seq_in ?_
 refine so [] [] [(0, .c (.lv (dat 3 eTFrame zTFrame p0))), (1, cI p1), (5, cI 0)] [] id ?_
 refine ends_blk ?_
 obtain ⟨y15, h16, H⟩ := ofBind H
 refine loop_in (fun (x : (Int × Int)) => lit [(0, .c (.lv (dat 3 eTFrame zTFrame p0))), (1, cI x.1), (5, cI x.2)] []) (fun (z : Int) => At (.exit 0) (lit [(1, cI z)] [])) h16 ?_ ?_
 ·clear H h16
  intro x10 y0 H
  refine seq_in ?_
  refine so [] [] [(0, .c (.lv (dat 3 eTFrame zTFrame p0))), (1, cI x10.1), (5, cI x10.2), (9, cB (decide (x10.2 < (p0.length : Int))))] [] (fun t => lI p0 (t)) ?_
  rcases ofCond H with ⟨c12, H⟩ | ⟨c12, H⟩
  ·refine it c12 ?_
   refine sk ?_
   refine seq_in ?_
   refine ends_blk ?_
   obtain ⟨v13, h14, H⟩ := ofBind H
   refine so [.cs (eTFrame v13)] [] [(0, .c (.lv (dat 3 eTFrame zTFrame p0))), (1, cI x10.1), (5, cI x10.2)] [] (fun t => aI (at_lt h14) (aI (at_enc (enc := eTFrame) h14) (aI (rfl : true = true) (t)))) ?_
   refine so [] [] [(0, .c (.lv (dat 3 eTFrame zTFrame p0))), (1, cI (W (x10.1 + 1))), (5, cI x10.2)] [] id ?_
   refine so [.cs (eTFrame v13)] [] [(0, .c (.lv (dat 3 eTFrame zTFrame p0))), (1, cI (W (x10.1 + 1))), (5, cI x10.2)] [] (fun t => aI (at_lt h14) (aI (at_enc (enc := eTFrame) h14) (aI (rfl : true = true) (t)))) ?_
   refine so [] [] [(0, .c (.lv (dat 3 eTFrame zTFrame p0))), (1, cI (W ((W (x10.1 + 1)) + 1))), (5, cI x10.2)] [] id ?_
   refine so [.cs (eTFrame v13)] [] [(0, .c (.lv (dat 3 eTFrame zTFrame p0))), (1, cI (W ((W (x10.1 + 1)) + 1))), (5, cI x10.2)] [] (fun t => aI (at_lt h14) (aI (at_enc (enc := eTFrame) h14) (aI (rfl : true = true) (t)))) ?_
   refine oo [] [] [(0, .c (.lv (dat 3 eTFrame zTFrame p0))), (1, cI (W ((W ((W (x10.1 + 1)) + 1)) + 1))), (5, cI x10.2)] [] id ?_
   change EndsI _ _ _ _ _ _
   refine oo [] [] [(0, .c (.lv (dat 3 eTFrame zTFrame p0))), (1, cI (W ((W ((W (x10.1 + 1)) + 1)) + 1))), (5, cI (W (x10.2 + 1)))] [] id ?_
   cases H
   exact And.intro rfl rfl
  ·refine jf c12 ?_
   refine tl [] [(1, cI x10.1)] [] id ?_
   refine ends_exit ?_
   cases H
   exact And.intro (by simp) (And.intro rfl rfl)
 ·clear h16
  intro e s q
  obtain ⟨rfl, rfl⟩ := q
  change EndsI _ _ _ _ _ _
  refine so [] [] [(4, cI y15)] [] id ?_
  refine ends_ret ?_
  cases H
  exact And.intro (.inl rfl) rfl
def l_markMachine_ir : S :=
 (.seq (.ops [o 2 (.box 6 (.t 0)), o 4 (.mv (.v (.int .i64 0)))])
 (.seq (.ops [o 5 (.fad 0 (.t 2)), o 6 (.load 1 false (.t 5)), o 7 (.mv (.t 1)), o 8 (.call 112 [.t 6, .t 7]), o 1 (.mv (.t 8))])
 (.seq (.ops [o 9 (.fad 1 (.t 2)), o 10 (.load 1 false (.t 9)), o 11 (.mv (.t 1)), o 12 (.call 23 [.t 10, .t 11]), o 1 (.mv (.t 12))])
 (.seq (.ops [o 13 (.fad 2 (.t 2)), o 14 (.load 3 true (.t 13)), o 15 (.mv (.t 1)), o 16 (.call 22 [.t 14, .t 15]), o 1 (.mv (.t 16))])
 (.seq (.ops [o 17 (.fad 5 (.t 2)), o 18 (.load 1 false (.t 17)), o 19 (.mv (.t 1)), o 20 (.call 23 [.t 18, .t 19]), o 1 (.mv (.t 20))])
 (.seq (.ops [o 21 (.mv (.t 1)), o 4 (.mv (.t 21))])
 .ret))))))
noncomputable def X.l_markMachine_L (p0 : TMachine) (p1 : Int) : Option Int :=
 ((X.l_markFrameS_L p0.Stack p1).bind fun v1 => ((X.l_markIntS_L p0.Used v1).bind fun v3 => ((X.l_markState_L p0.State v3).bind fun v5 => ((X.l_markIntS_L p0.Log v5).bind fun v7 => some v7))))
theorem l_markMachine_L_ok (p0 : TMachine) (p1 : Int) (r : Int) (H : X.l_markMachine_L p0 p1 = some r) : FnOk Tryz.prog gl 50 [.agg [.lv (dat 3 eTFrame zTFrame p0.Stack), .lv (dat 1 eI zI p0.Used), .int .i64 p0.State.Turn, .int .i64 p0.State.Weather, .lv (dat 4 eTUnit zTUnit p0.State.Units), .lv (dat 1 eI zI p0.Log)], cI p1] (cI r) := by
 unfold X.l_markMachine_L at H
 refine fi Tryz.f50 l_markMachine_ir [(4, cI r)] [] glL Tryz.func50 ?_
 refine so [] [] [(1, cI p1), (2, pk 2)] [(2, .var [.lv (dat 3 eTFrame zTFrame p0.Stack), .lv (dat 1 eI zI p0.Used), .int .i64 p0.State.Turn, .int .i64 p0.State.Weather, .lv (dat 4 eTUnit zTUnit p0.State.Units), .lv (dat 1 eI zI p0.Log)] false)] id ?_
 obtain ⟨v1, h2, H⟩ := ofBind H
 refine so [.res (cI v1)] [] [(1, cI v1), (2, pk 2)] [(2, .var [.lv (dat 3 eTFrame zTFrame p0.Stack), .lv (dat 1 eI zI p0.Used), .int .i64 p0.State.Turn, .int .i64 p0.State.Weather, .lv (dat 4 eTUnit zTUnit p0.State.Units), .lv (dat 1 eI zI p0.Log)] false)] (fun t => aI (l_markFrameS_L_ok p0.Stack p1 v1 h2) (t)) ?_
 obtain ⟨v3, h4, H⟩ := ofBind H
 refine so [.res (cI v3)] [] [(1, cI v3), (2, pk 2)] [(2, .var [.lv (dat 3 eTFrame zTFrame p0.Stack), .lv (dat 1 eI zI p0.Used), .int .i64 p0.State.Turn, .int .i64 p0.State.Weather, .lv (dat 4 eTUnit zTUnit p0.State.Units), .lv (dat 1 eI zI p0.Log)] false)] (fun t => aI (l_markIntS_L_ok p0.Used v1 v3 h4) (t)) ?_
 obtain ⟨v5, h6, H⟩ := ofBind H
 refine so [.res (cI v5)] [] [(1, cI v5), (2, pk 2)] [(2, .var [.lv (dat 3 eTFrame zTFrame p0.Stack), .lv (dat 1 eI zI p0.Used), .int .i64 p0.State.Turn, .int .i64 p0.State.Weather, .lv (dat 4 eTUnit zTUnit p0.State.Units), .lv (dat 1 eI zI p0.Log)] false)] (fun t => aI (l_markState_L_ok p0.State v3 v5 h6) (t)) ?_
 obtain ⟨v7, h8, H⟩ := ofBind H
 refine so [.res (cI v7)] [] [(1, cI v7)] [] (fun t => aI (l_markIntS_L_ok p0.Log v5 v7 h8) (t)) ?_
 refine so [] [] [(4, cI v7)] [] id ?_
 refine ends_ret ?_
 cases H
 exact And.intro (.inl rfl) rfl
def l_FnExactReactionsLeft_ir : S :=
 (.seq (.ops [o 3 (.box 12 (.t 0)), o 5 (.box 6 (.t 2)), o 6 (.mv (.v (.bool false)))])
 (.seq (.ops [o 7 (.mv (.v (.int .i64 1048576)))])
 (.seq (.ops [o 20 (.load 12 true (.t 3)), o 21 (.mv (.t 7)), o 22 (.call 12 [.t 20, .t 21]), o 7 (.mv (.t 22))])
 (.seq (.seq (.ops [o 23 (.mv (.t 7)), o 24 (.bin .lss (.t 23) (.v (.int .i64 0)))])
 (.ite (.t 24) (.seq (.ops [o 6 (.mv (.v (.bool true)))])
  .ret)
 .skip))
 (.seq (.ops [o 25 (.mv (.t 1)), o 26 (.mv (.t 7)), o 27 (.call 41 [.t 25, .t 26]), o 7 (.mv (.t 27))])
 (.seq (.seq (.ops [o 28 (.mv (.t 7)), o 29 (.bin .lss (.t 28) (.v (.int .i64 0)))])
 (.ite (.t 29) (.seq (.ops [o 6 (.mv (.v (.bool true)))])
  .ret)
 .skip))
 (.seq (.ops [o 30 (.load 6 true (.t 5)), o 31 (.mv (.t 7)), o 32 (.call 42 [.t 30, .t 31]), o 7 (.mv (.t 32))])
 (.seq (.seq (.ops [o 33 (.mv (.t 7)), o 34 (.bin .lss (.t 33) (.v (.int .i64 0)))])
 (.ite (.t 34) (.seq (.ops [o 6 (.mv (.v (.bool true)))])
  .ret)
 .skip))
 (.seq (.draw 12 [o 36 (.load 12 true (.t 3)), o 37 (.call 15 [.t 36]), o 38 (.mv (.t 1)), o 39 (.call 44 [.t 38]), o 40 (.load 6 true (.t 5)), o 41 (.call 45 [.t 40]), o 42 (.call 43 [.t 37, .t 39, .t 41]), o 35 (.mv (.t 42)), o 43 (.ext (.t 35) 0), o 44 (.ext (.t 35) 1), o 8 (.mv (.t 43)), o 9 (.mv (.t 44))])
 (.seq (.ops [o 45 (.load 12 true (.t 3)), o 46 (.call 15 [.t 45]), o 10 (.alloc [.nil, .nil, .int .i64 0, .int .i64 0, .int .i64 0, .int .i64 0, .int .i64 0, .int .i64 0, .int .i64 0, .nil, .nil, .nil]), ⟨none, .store 12 (.t 10) (.t 46), none⟩])
 (.seq (.ops [o 47 (.mv (.t 1)), o 48 (.call 44 [.t 47]), o 11 (.mv (.t 48))])
 (.seq (.ops [o 49 (.load 6 true (.t 5)), o 50 (.call 45 [.t 49]), o 12 (.alloc [.nil, .nil, .int .i64 0, .int .i64 0, .nil, .nil]), ⟨none, .store 6 (.t 12) (.t 50), none⟩])
 (.seq (.ops [o 52 (.load 12 true (.t 10)), o 53 (.mv (.t 11)), o 54 (.load 6 true (.t 12)), o 55 (.call 46 [.t 52, .t 53, .t 54]), o 51 (.mv (.t 55)), o 56 (.ext (.t 51) 0), o 57 (.ext (.t 51) 1), o 13 (.mv (.t 56)), o 14 (.mv (.t 57))])
 (.seq (.seq (.ops [o 58 (.mv (.t 13)), o 59 (.mv (.t 8)), o 60 (.call 18 [.t 58, .t 59]), o 61 (.not (.t 60)), o 62 (.mv (.t 61)), ⟨some 63, .mv (.t 14), some (62, false)⟩, ⟨some 64, .mv (.t 9), some (62, false)⟩, ⟨some 65, .bqe true (.t 63) (.t 64), some (62, false)⟩, o 66 (.pick (.t 62) (.v (.bool true)) (.t 65))])
 (.ite (.t 66) (.seq (.ops [o 6 (.mv (.v (.bool false)))])
  .ret)
 .skip))
 (.seq (.seq (.draw 5 [o 67 (.load 12 true (.t 10)), o 68 (.load 12 true (.t 3)), o 69 (.call 15 [.t 68]), o 70 (.call 19 [.t 67, .t 69]), o 71 (.not (.t 70))])
 (.ite (.t 71) (.seq (.ops [o 6 (.mv (.v (.bool false)))])
  .ret)
 .skip))
 (.seq (.seq (.ops [o 72 (.mv (.t 11)), o 73 (.mv (.t 1)), o 74 (.call 44 [.t 73]), o 75 (.call 47 [.t 72, .t 74]), o 76 (.not (.t 75))])
 (.ite (.t 76) (.seq (.ops [o 6 (.mv (.v (.bool false)))])
  .ret)
 .skip))
 (.seq (.seq (.draw 5 [o 77 (.load 6 true (.t 12)), o 78 (.load 6 true (.t 5)), o 79 (.call 45 [.t 78]), o 80 (.call 48 [.t 77, .t 79]), o 81 (.not (.t 80))])
 (.ite (.t 81) (.seq (.ops [o 6 (.mv (.v (.bool false)))])
  .ret)
 .skip))
 (.seq (.ops [o 15 (.mv (.v (.int .i64 1)))])
 (.seq (.ops [o 82 (.load 12 true (.t 10)), o 83 (.mv (.t 15)), o 84 (.call 21 [.t 82, .t 83]), o 15 (.mv (.t 84))])
 (.seq (.ops [o 85 (.mv (.t 11)), o 86 (.mv (.t 15)), o 87 (.call 49 [.t 85, .t 86]), o 15 (.mv (.t 87))])
 (.seq (.ops [o 88 (.load 6 true (.t 12)), o 89 (.mv (.t 15)), o 90 (.call 50 [.t 88, .t 89]), o 15 (.mv (.t 90))])
 (.seq (.seq (.ops [o 91 (.mv (.t 15)), o 92 (.bin .lss (.t 91) (.v (.int .i64 0))), o 93 (.mv (.t 92)), ⟨some 94, .mv (.t 13), some (93, false)⟩, ⟨some 95, .mv (.t 8), some (93, false)⟩, ⟨some 96, .call 18 [.t 94, .t 95], some (93, false)⟩, ⟨some 97, .not (.t 96), some (93, false)⟩, o 98 (.pick (.t 93) (.v (.bool true)) (.t 97)), o 99 (.mv (.t 98)), ⟨some 100, .mv (.t 14), some (99, false)⟩, ⟨some 101, .mv (.t 9), some (99, false)⟩, ⟨some 102, .bqe true (.t 100) (.t 101), some (99, false)⟩, o 103 (.pick (.t 99) (.v (.bool true)) (.t 102))])
 (.ite (.t 103) (.seq (.ops [o 6 (.mv (.v (.bool false)))])
  .ret)
 .skip))
 (.seq (.ops [o 16 (.mv (.v (.int .i64 1)))])
 (.seq (.ops [o 104 (.mv (.t 13)), o 105 (.mv (.t 16)), o 106 (.call 23 [.t 104, .t 105]), o 16 (.mv (.t 106))])
 (.seq (.ops [o 17 (.mv (.v (.int .i64 1)))])
 (.seq (.ops [o 107 (.mv (.t 13)), o 108 (.mv (.t 17)), o 109 (.call 24 [.t 107, .t 108]), o 17 (.mv (.t 109))])
 (.seq (.seq (.ops [o 110 (.mv (.t 17)), o 111 (.bin .lss (.t 110) (.v (.int .i64 0)))])
 (.ite (.t 111) (.seq (.ops [o 6 (.mv (.v (.bool false)))])
  .ret)
 .skip))
 (.seq (.seq (.ops [o 112 (.mv (.t 17)), o 113 (.mv (.t 16)), o 114 (.bin .neq (.t 112) (.t 113))])
 (.ite (.t 114) (.seq (.ops [o 6 (.mv (.v (.bool false)))])
  .ret)
 .skip))
 (.seq (.draw 12 [o 116 (.load 12 true (.t 3)), o 117 (.call 15 [.t 116]), o 118 (.mv (.t 1)), o 119 (.call 44 [.t 118]), o 120 (.load 6 true (.t 5)), o 121 (.call 45 [.t 120]), o 122 (.call 46 [.t 117, .t 119, .t 121]), o 115 (.mv (.t 122)), o 123 (.ext (.t 115) 0), o 124 (.ext (.t 115) 1), o 18 (.mv (.t 123)), o 19 (.mv (.t 124))])
 (.seq (.seq (.ops [o 125 (.mv (.t 18)), o 126 (.mv (.t 8)), o 127 (.call 18 [.t 125, .t 126]), o 128 (.not (.t 127)), o 129 (.mv (.t 128)), ⟨some 130, .mv (.t 19), some (129, false)⟩, ⟨some 131, .mv (.t 9), some (129, false)⟩, ⟨some 132, .bqe true (.t 130) (.t 131), some (129, false)⟩, o 133 (.pick (.t 129) (.v (.bool true)) (.t 132))])
 (.ite (.t 133) (.seq (.ops [o 6 (.mv (.v (.bool false)))])
  .ret)
 .skip))
 (.seq (.ops [o 17 (.mv (.v (.int .i64 1)))])
 (.seq (.ops [o 134 (.mv (.t 13)), o 135 (.mv (.t 17)), o 136 (.call 24 [.t 134, .t 135]), o 17 (.mv (.t 136))])
 (.seq (.seq (.ops [o 137 (.mv (.t 17)), o 138 (.bin .lss (.t 137) (.v (.int .i64 0)))])
 (.ite (.t 138) (.seq (.ops [o 6 (.mv (.v (.bool false)))])
  .ret)
 .skip))
 (.seq (.seq (.ops [o 139 (.mv (.t 17)), o 140 (.mv (.t 16)), o 141 (.bin .neq (.t 139) (.t 140))])
 (.ite (.t 141) (.seq (.ops [o 6 (.mv (.v (.bool false)))])
  .ret)
 .skip))
 (.seq (.ops [o 6 (.mv (.v (.bool true)))])
 .ret)))))))))))))))))))))))))))))))))))
noncomputable def X.l_FnExactReactionsLeft (p0 : TBoard) (p1 : (List TReaction)) (p2 : TMachine) : Option Bool :=
 ((X.l_szBoard p0 1048576).bind fun v1 => (bif (decide (v1 < 0)) then some true else ((X.l_szReactionS p1 v1).bind fun v5 => (bif (decide (v5 < 0)) then some true else ((X.l_szMachine p2 v5).bind fun v9 => (bif (decide (v9 < 0)) then some true else ((X.l_toBoard p0).bind fun v13 => ((X.l_toReactionS p1).bind fun v15 => ((X.l_toMachine p2).bind fun v17 => ((X.s_ReactionsLeft v13 v15 v17).bind fun v19 => ((X.l_toBoard p0).bind fun v21 => ((X.l_toReactionS p1).bind fun v23 => ((X.l_toMachine p2).bind fun v25 => ((X.i_ReactionsLeft v21 v23 v25).bind fun v27 => ((X.l_eqIntS v27.1 v19.1).bind fun v33 => (bif (!v33) then some false else (bif (!(v27.2 == v19.2)) then some false else ((X.l_toBoard p0).bind fun v42 => ((X.l_eqBoard v21 v42).bind fun v44 => (bif (!v44) then some false else ((X.l_toReactionS p1).bind fun v52 => ((X.l_eqReactionS v23 v52).bind fun v54 => (bif (!v54) then some false else ((X.l_toMachine p2).bind fun v62 => ((X.l_eqMachine v25 v62).bind fun v64 => (bif (!v64) then some false else ((X.l_markBoard_L v21 1).bind fun v67 => ((X.l_markReactionS_L v23 v67).bind fun v69 => ((X.l_markMachine_L v25 v69).bind fun v71 => (bif (decide (v71 < 0)) then some false else ((X.l_eqIntS v27.1 v19.1).bind fun v78 => (bif (!v78) then some false else ((X.l_markIntS_Mod v27.1 1).bind fun v81 => (if v81.2.length = v27.1.length then ((X.l_heldIntS v81.2 1).bind fun v84 => (bif (decide (v84 < 0)) then some false else (bif (v84 != v81.1) then some false else ((X.l_toBoard p0).bind fun v90 => ((X.l_toReactionS p1).bind fun v92 => ((X.l_toMachine p2).bind fun v94 => ((X.i_ReactionsLeft v90 v92 v94).bind fun v96 => ((X.l_eqIntS v96.1 v19.1).bind fun v102 => (bif (!v102) then some false else (bif (!(v96.2 == v19.2)) then some false else ((X.l_heldIntS v81.2 1).bind fun v106 => (bif (decide (v106 < 0)) then some false else (bif (v106 != v81.1) then some false else some true))))))))))))) else none))))))))))))))))))))))))))))))))))
theorem l_FnExactReactionsLeft_T_ok (p0 : TBoard) (p1 : (List TReaction)) (p2 : TMachine) (H : X.l_FnExactReactionsLeft p0 p1 p2 = some true) : LawOk Tryz.prog gl 8 [.agg (eTBoard p0), .c (dat 3 eTReaction zTReaction p1), .agg (eTMachine p2)] := by
 unfold X.l_FnExactReactionsLeft at H
 refine lawOk_of (fn := Tryz.f8) (ir := l_FnExactReactionsLeft_ir) (s1 := lit [(6, cB true)] []) Tryz.func8 (by kernel_rfl) (by kernel_rfl) (by kernel_rfl) (by kernel_rfl) ?_
 refine tl [] [(0, .agg [.old (dat 5 eTTerrain zTTerrain p0.Rules.Terrains), .old (dat 6 eTKind zTKind p0.Rules.Kinds), .int .i64 p0.Rules.Stack, .int .i64 p0.Rules.River, .int .i64 p0.Rules.Road, .int .i64 p0.Rules.Supply, .int .i64 p0.Rules.Turns, .int .i64 p0.Map.Width, .int .i64 p0.Map.Height, .old (dat 1 eI zI p0.Map.Terrain), .old (dat 1 eI zI p0.Map.Rivers), .old (dat 1 eI zI p0.Map.Roads)]), (1, .c (.old (dat 3 eTReaction zTReaction p1))), (2, .agg [.old (dat 3 eTFrame zTFrame p2.Stack), .old (dat 1 eI zI p2.Used), .int .i64 p2.State.Turn, .int .i64 p2.State.Weather, .old (dat 4 eTUnit zTUnit p2.State.Units), .old (dat 1 eI zI p2.Log)])] [] id ?_
 refine so [] [] [(1, .c (.old (dat 3 eTReaction zTReaction p1))), (3, pk 3), (5, pk 5)] [(3, .var [.old (dat 5 eTTerrain zTTerrain p0.Rules.Terrains), .old (dat 6 eTKind zTKind p0.Rules.Kinds), .int .i64 p0.Rules.Stack, .int .i64 p0.Rules.River, .int .i64 p0.Rules.Road, .int .i64 p0.Rules.Supply, .int .i64 p0.Rules.Turns, .int .i64 p0.Map.Width, .int .i64 p0.Map.Height, .old (dat 1 eI zI p0.Map.Terrain), .old (dat 1 eI zI p0.Map.Rivers), .old (dat 1 eI zI p0.Map.Roads)] false), (5, .var [.old (dat 3 eTFrame zTFrame p2.Stack), .old (dat 1 eI zI p2.Used), .int .i64 p2.State.Turn, .int .i64 p2.State.Weather, .old (dat 4 eTUnit zTUnit p2.State.Units), .old (dat 1 eI zI p2.Log)] false)] id ?_
 refine so [] [] [(1, .c (.old (dat 3 eTReaction zTReaction p1))), (3, pk 3), (5, pk 5), (7, cI 1048576)] [(3, .var [.old (dat 5 eTTerrain zTTerrain p0.Rules.Terrains), .old (dat 6 eTKind zTKind p0.Rules.Kinds), .int .i64 p0.Rules.Stack, .int .i64 p0.Rules.River, .int .i64 p0.Rules.Road, .int .i64 p0.Rules.Supply, .int .i64 p0.Rules.Turns, .int .i64 p0.Map.Width, .int .i64 p0.Map.Height, .old (dat 1 eI zI p0.Map.Terrain), .old (dat 1 eI zI p0.Map.Rivers), .old (dat 1 eI zI p0.Map.Roads)] false), (5, .var [.old (dat 3 eTFrame zTFrame p2.Stack), .old (dat 1 eI zI p2.Used), .int .i64 p2.State.Turn, .int .i64 p2.State.Weather, .old (dat 4 eTUnit zTUnit p2.State.Units), .old (dat 1 eI zI p2.Log)] false)] id ?_
 obtain ⟨v1, h2, H⟩ := ofBind H
 refine so [.res (cI v1)] [] [(1, .c (.old (dat 3 eTReaction zTReaction p1))), (3, pk 3), (5, pk 5), (7, cI v1)] [(3, .var [.old (dat 5 eTTerrain zTTerrain p0.Rules.Terrains), .old (dat 6 eTKind zTKind p0.Rules.Kinds), .int .i64 p0.Rules.Stack, .int .i64 p0.Rules.River, .int .i64 p0.Rules.Road, .int .i64 p0.Rules.Supply, .int .i64 p0.Rules.Turns, .int .i64 p0.Map.Width, .int .i64 p0.Map.Height, .old (dat 1 eI zI p0.Map.Terrain), .old (dat 1 eI zI p0.Map.Rivers), .old (dat 1 eI zI p0.Map.Roads)] false), (5, .var [.old (dat 3 eTFrame zTFrame p2.Stack), .old (dat 1 eI zI p2.Used), .int .i64 p2.State.Turn, .int .i64 p2.State.Weather, .old (dat 4 eTUnit zTUnit p2.State.Units), .old (dat 1 eI zI p2.Log)] false)] (fun t => aI ((FnOk.le2 (xs := [.agg [.old (dat 5 eTTerrain zTTerrain p0.Rules.Terrains), .old (dat 6 eTKind zTKind p0.Rules.Kinds), .int .i64 p0.Rules.Stack, .int .i64 p0.Rules.River, .int .i64 p0.Rules.Road, .int .i64 p0.Rules.Supply, .int .i64 p0.Rules.Turns, .int .i64 p0.Map.Width, .int .i64 p0.Map.Height, .old (dat 1 eI zI p0.Map.Terrain), .old (dat 1 eI zI p0.Map.Rivers), .old (dat 1 eI zI p0.Map.Roads)], cI 1048576]) (l_szBoard_ok p0 1048576 v1 h2) ⟨LeD.agg (And.intro (LeC.old _) (And.intro (LeC.old _) (And.intro (LeC.refl _) (And.intro (LeC.refl _) (And.intro (LeC.refl _) (And.intro (LeC.refl _) (And.intro (LeC.refl _) (And.intro (LeC.refl _) (And.intro (LeC.refl _) (And.intro (LeC.old _) (And.intro (LeC.old _) (And.intro (LeC.old _) (trivial))))))))))))), LeD.refl _, trivial⟩).up glTs) (t)) ?_
 refine seq_in ?_
 refine so [] [] [(1, .c (.old (dat 3 eTReaction zTReaction p1))), (3, pk 3), (5, pk 5), (7, cI v1), (24, cB (decide (v1 < 0)))] [(3, .var [.old (dat 5 eTTerrain zTTerrain p0.Rules.Terrains), .old (dat 6 eTKind zTKind p0.Rules.Kinds), .int .i64 p0.Rules.Stack, .int .i64 p0.Rules.River, .int .i64 p0.Rules.Road, .int .i64 p0.Rules.Supply, .int .i64 p0.Rules.Turns, .int .i64 p0.Map.Width, .int .i64 p0.Map.Height, .old (dat 1 eI zI p0.Map.Terrain), .old (dat 1 eI zI p0.Map.Rivers), .old (dat 1 eI zI p0.Map.Roads)] false), (5, .var [.old (dat 3 eTFrame zTFrame p2.Stack), .old (dat 1 eI zI p2.Used), .int .i64 p2.State.Turn, .int .i64 p2.State.Weather, .old (dat 4 eTUnit zTUnit p2.State.Units), .old (dat 1 eI zI p2.Log)] false)] id ?_
 rcases ofCond H with ⟨c4, H⟩ | ⟨c4, H⟩
 ·refine it c4 ?_
  refine so [] [] [(6, cB true)] [] id ?_
  refine ends_ret ?_
  exact And.intro (.inl rfl) rfl
 ·refine jf c4 ?_
  refine sk ?_
  obtain ⟨v5, h6, H⟩ := ofBind H
  refine so [.res (cI v5)] [] [(1, .c (.old (dat 3 eTReaction zTReaction p1))), (3, pk 3), (5, pk 5), (7, cI v5)] [(3, .var [.old (dat 5 eTTerrain zTTerrain p0.Rules.Terrains), .old (dat 6 eTKind zTKind p0.Rules.Kinds), .int .i64 p0.Rules.Stack, .int .i64 p0.Rules.River, .int .i64 p0.Rules.Road, .int .i64 p0.Rules.Supply, .int .i64 p0.Rules.Turns, .int .i64 p0.Map.Width, .int .i64 p0.Map.Height, .old (dat 1 eI zI p0.Map.Terrain), .old (dat 1 eI zI p0.Map.Rivers), .old (dat 1 eI zI p0.Map.Roads)] false), (5, .var [.old (dat 3 eTFrame zTFrame p2.Stack), .old (dat 1 eI zI p2.Used), .int .i64 p2.State.Turn, .int .i64 p2.State.Weather, .old (dat 4 eTUnit zTUnit p2.State.Units), .old (dat 1 eI zI p2.Log)] false)] (fun t => aI ((FnOk.le2 (xs := [.c (.old (dat 3 eTReaction zTReaction p1)), cI v1]) (l_szReactionS_ok p1 v1 v5 h6) ⟨LeD.old _, LeD.refl _, trivial⟩).up glTs) (t)) ?_
  refine seq_in ?_
  refine so [] [] [(1, .c (.old (dat 3 eTReaction zTReaction p1))), (3, pk 3), (5, pk 5), (7, cI v5), (29, cB (decide (v5 < 0)))] [(3, .var [.old (dat 5 eTTerrain zTTerrain p0.Rules.Terrains), .old (dat 6 eTKind zTKind p0.Rules.Kinds), .int .i64 p0.Rules.Stack, .int .i64 p0.Rules.River, .int .i64 p0.Rules.Road, .int .i64 p0.Rules.Supply, .int .i64 p0.Rules.Turns, .int .i64 p0.Map.Width, .int .i64 p0.Map.Height, .old (dat 1 eI zI p0.Map.Terrain), .old (dat 1 eI zI p0.Map.Rivers), .old (dat 1 eI zI p0.Map.Roads)] false), (5, .var [.old (dat 3 eTFrame zTFrame p2.Stack), .old (dat 1 eI zI p2.Used), .int .i64 p2.State.Turn, .int .i64 p2.State.Weather, .old (dat 4 eTUnit zTUnit p2.State.Units), .old (dat 1 eI zI p2.Log)] false)] id ?_
  rcases ofCond H with ⟨c8, H⟩ | ⟨c8, H⟩
  ·refine it c8 ?_
   refine so [] [] [(6, cB true)] [] id ?_
   refine ends_ret ?_
   exact And.intro (.inl rfl) rfl
  ·refine jf c8 ?_
   refine sk ?_
   obtain ⟨v9, h10, H⟩ := ofBind H
   refine so [.res (cI v9)] [] [(1, .c (.old (dat 3 eTReaction zTReaction p1))), (3, pk 3), (5, pk 5), (7, cI v9)] [(3, .var [.old (dat 5 eTTerrain zTTerrain p0.Rules.Terrains), .old (dat 6 eTKind zTKind p0.Rules.Kinds), .int .i64 p0.Rules.Stack, .int .i64 p0.Rules.River, .int .i64 p0.Rules.Road, .int .i64 p0.Rules.Supply, .int .i64 p0.Rules.Turns, .int .i64 p0.Map.Width, .int .i64 p0.Map.Height, .old (dat 1 eI zI p0.Map.Terrain), .old (dat 1 eI zI p0.Map.Rivers), .old (dat 1 eI zI p0.Map.Roads)] false), (5, .var [.old (dat 3 eTFrame zTFrame p2.Stack), .old (dat 1 eI zI p2.Used), .int .i64 p2.State.Turn, .int .i64 p2.State.Weather, .old (dat 4 eTUnit zTUnit p2.State.Units), .old (dat 1 eI zI p2.Log)] false)] (fun t => aI ((FnOk.le2 (xs := [.agg [.old (dat 3 eTFrame zTFrame p2.Stack), .old (dat 1 eI zI p2.Used), .int .i64 p2.State.Turn, .int .i64 p2.State.Weather, .old (dat 4 eTUnit zTUnit p2.State.Units), .old (dat 1 eI zI p2.Log)], cI v5]) (l_szMachine_ok p2 v5 v9 h10) ⟨LeD.agg (And.intro (LeC.old _) (And.intro (LeC.old _) (And.intro (LeC.refl _) (And.intro (LeC.refl _) (And.intro (LeC.old _) (And.intro (LeC.old _) (trivial))))))), LeD.refl _, trivial⟩).up glTs) (t)) ?_
   refine seq_in ?_
   refine so [] [] [(1, .c (.old (dat 3 eTReaction zTReaction p1))), (3, pk 3), (5, pk 5), (34, cB (decide (v9 < 0)))] [(3, .var [.old (dat 5 eTTerrain zTTerrain p0.Rules.Terrains), .old (dat 6 eTKind zTKind p0.Rules.Kinds), .int .i64 p0.Rules.Stack, .int .i64 p0.Rules.River, .int .i64 p0.Rules.Road, .int .i64 p0.Rules.Supply, .int .i64 p0.Rules.Turns, .int .i64 p0.Map.Width, .int .i64 p0.Map.Height, .old (dat 1 eI zI p0.Map.Terrain), .old (dat 1 eI zI p0.Map.Rivers), .old (dat 1 eI zI p0.Map.Roads)] false), (5, .var [.old (dat 3 eTFrame zTFrame p2.Stack), .old (dat 1 eI zI p2.Used), .int .i64 p2.State.Turn, .int .i64 p2.State.Weather, .old (dat 4 eTUnit zTUnit p2.State.Units), .old (dat 1 eI zI p2.Log)] false)] id ?_
   rcases ofCond H with ⟨c12, H⟩ | ⟨c12, H⟩
   ·refine it c12 ?_
    refine so [] [] [(6, cB true)] [] id ?_
    refine ends_ret ?_
    exact And.intro (.inl rfl) rfl
   ·refine jf c12 ?_
    refine sk ?_
    obtain ⟨v13, h14, H⟩ := ofBind H
    obtain ⟨v15, h16, H⟩ := ofBind H
    obtain ⟨v17, h18, H⟩ := ofBind H
    obtain ⟨v19, h20, H⟩ := ofBind H
    refine sd [.res (.agg (eTBoard v13)), .res (dc 3 eTReaction zTReaction v15), .res (.agg (eTMachine v17)), .res (.tup [(false, [dat 1 eI zI v19.1]), (false, [.bool v19.2])])] [] [(1, .c (.old (dat 3 eTReaction zTReaction p1))), (3, pk 3), (5, pk 5), (8, dc 1 eI zI v19.1), (9, cB v19.2)] [(3, .var [.old (dat 5 eTTerrain zTTerrain p0.Rules.Terrains), .old (dat 6 eTKind zTKind p0.Rules.Kinds), .int .i64 p0.Rules.Stack, .int .i64 p0.Rules.River, .int .i64 p0.Rules.Road, .int .i64 p0.Rules.Supply, .int .i64 p0.Rules.Turns, .int .i64 p0.Map.Width, .int .i64 p0.Map.Height, .old (dat 1 eI zI p0.Map.Terrain), .old (dat 1 eI zI p0.Map.Rivers), .old (dat 1 eI zI p0.Map.Roads)] false), (5, .var [.old (dat 3 eTFrame zTFrame p2.Stack), .old (dat 1 eI zI p2.Used), .int .i64 p2.State.Turn, .int .i64 p2.State.Weather, .old (dat 4 eTUnit zTUnit p2.State.Units), .old (dat 1 eI zI p2.Log)] false)] (fun t => aI ((FnOk.le2 (xs := [.agg [.old (dat 5 eTTerrain zTTerrain p0.Rules.Terrains), .old (dat 6 eTKind zTKind p0.Rules.Kinds), .int .i64 p0.Rules.Stack, .int .i64 p0.Rules.River, .int .i64 p0.Rules.Road, .int .i64 p0.Rules.Supply, .int .i64 p0.Rules.Turns, .int .i64 p0.Map.Width, .int .i64 p0.Map.Height, .old (dat 1 eI zI p0.Map.Terrain), .old (dat 1 eI zI p0.Map.Rivers), .old (dat 1 eI zI p0.Map.Roads)]]) (l_toBoard_ok p0 v13 h14) ⟨LeD.agg (And.intro (LeC.old _) (And.intro (LeC.old _) (And.intro (LeC.refl _) (And.intro (LeC.refl _) (And.intro (LeC.refl _) (And.intro (LeC.refl _) (And.intro (LeC.refl _) (And.intro (LeC.refl _) (And.intro (LeC.refl _) (And.intro (LeC.old _) (And.intro (LeC.old _) (And.intro (LeC.old _) (trivial))))))))))))), trivial⟩).up glTs) (aI (rfl : ([] : List Nat) = []) (aI (rfl : ([] : List Nat) = []) (aI ((FnOk.le2 (xs := [.c (.old (dat 3 eTReaction zTReaction p1))]) (l_toReactionS_ok p1 v15 h16) ⟨LeD.old _, trivial⟩).up glTs) (aI (rfl : ([] : List Nat) = []) (aI (rfl : ([] : List Nat) = []) (aI ((FnOk.le2 (xs := [.agg [.old (dat 3 eTFrame zTFrame p2.Stack), .old (dat 1 eI zI p2.Used), .int .i64 p2.State.Turn, .int .i64 p2.State.Weather, .old (dat 4 eTUnit zTUnit p2.State.Units), .old (dat 1 eI zI p2.Log)]]) (l_toMachine_ok p2 v17 h18) ⟨LeD.agg (And.intro (LeC.old _) (And.intro (LeC.old _) (And.intro (LeC.refl _) (And.intro (LeC.refl _) (And.intro (LeC.old _) (And.intro (LeC.old _) (trivial))))))), trivial⟩).up glTs) (aI (rfl : ([] : List Nat) = []) (aI (rfl : ([] : List Nat) = []) (aI ((s_ReactionsLeft_ok v13 v15 v17 v19 h20).up glTs) (aI (rfl : ([] : List Nat) = []) (aI (rfl : ([] : List Nat) = []) (t))))))))))))) ?_
    refine tl [] [(1, .c (.old (dat 3 eTReaction zTReaction p1))), (3, pk 3), (5, pk 5), (8, dc 1 eI zI v19.1), (9, cB v19.2)] [(3, .var [.old (dat 5 eTTerrain zTTerrain p0.Rules.Terrains), .old (dat 6 eTKind zTKind p0.Rules.Kinds), .int .i64 p0.Rules.Stack, .int .i64 p0.Rules.River, .int .i64 p0.Rules.Road, .int .i64 p0.Rules.Supply, .int .i64 p0.Rules.Turns, .int .i64 p0.Map.Width, .int .i64 p0.Map.Height, .old (dat 1 eI zI p0.Map.Terrain), .old (dat 1 eI zI p0.Map.Rivers), .old (dat 1 eI zI p0.Map.Roads)] false), (5, .var [.old (dat 3 eTFrame zTFrame p2.Stack), .old (dat 1 eI zI p2.Used), .int .i64 p2.State.Turn, .int .i64 p2.State.Weather, .old (dat 4 eTUnit zTUnit p2.State.Units), .old (dat 1 eI zI p2.Log)] false)] id ?_
    refine turn0 (E := [(1, .c (.old (dat 3 eTReaction zTReaction p1))), (3, pk 3), (5, pk 5), (8, dc 1 eI zI v19.1), (9, cB v19.2)]) (E' := [(1, .c (.old (dat 3 eTReaction zTReaction p1))), (3, pk 3), (5, pk 5), (8, .c (.old (dat 1 eI zI v19.1))), (9, cB v19.2)]) (H := [(3, .var [.old (dat 5 eTTerrain zTTerrain p0.Rules.Terrains), .old (dat 6 eTKind zTKind p0.Rules.Kinds), .int .i64 p0.Rules.Stack, .int .i64 p0.Rules.River, .int .i64 p0.Rules.Road, .int .i64 p0.Rules.Supply, .int .i64 p0.Rules.Turns, .int .i64 p0.Map.Width, .int .i64 p0.Map.Height, .old (dat 1 eI zI p0.Map.Terrain), .old (dat 1 eI zI p0.Map.Rivers), .old (dat 1 eI zI p0.Map.Roads)] false), (5, .var [.old (dat 3 eTFrame zTFrame p2.Stack), .old (dat 1 eI zI p2.Used), .int .i64 p2.State.Turn, .int .i64 p2.State.Weather, .old (dat 4 eTUnit zTUnit p2.State.Units), .old (dat 1 eI zI p2.Log)] false)]) (H' := [(3, .var [.old (dat 5 eTTerrain zTTerrain p0.Rules.Terrains), .old (dat 6 eTKind zTKind p0.Rules.Kinds), .int .i64 p0.Rules.Stack, .int .i64 p0.Rules.River, .int .i64 p0.Rules.Road, .int .i64 p0.Rules.Supply, .int .i64 p0.Rules.Turns, .int .i64 p0.Map.Width, .int .i64 p0.Map.Height, .old (dat 1 eI zI p0.Map.Terrain), .old (dat 1 eI zI p0.Map.Rivers), .old (dat 1 eI zI p0.Map.Roads)] false), (5, .var [.old (dat 3 eTFrame zTFrame p2.Stack), .old (dat 1 eI zI p2.Used), .int .i64 p2.State.Turn, .int .i64 p2.State.Weather, .old (dat 4 eTUnit zTUnit p2.State.Units), .old (dat 1 eI zI p2.Log)] false)]) glTn glTp (And.intro (And.intro rfl (uO (dat 3 eTReaction zTReaction p1) (.dat shTReaction))) (And.intro (And.intro rfl (uS (.pk 3 0) rfl)) (And.intro (And.intro rfl (uS (.pk 5 0) rfl)) (And.intro (And.intro rfl (uD (dat 1 eI zI v19.1) rfl (.dat shI))) (And.intro (And.intro rfl (uS (.bool v19.2) rfl)) trivial))))) (And.intro (And.intro rfl (And.intro (uO (dat 5 eTTerrain zTTerrain p0.Rules.Terrains) (.dat shTTerrain)) (And.intro (uO (dat 6 eTKind zTKind p0.Rules.Kinds) (.dat shTKind)) (And.intro (uS (.int .i64 p0.Rules.Stack) rfl) (And.intro (uS (.int .i64 p0.Rules.River) rfl) (And.intro (uS (.int .i64 p0.Rules.Road) rfl) (And.intro (uS (.int .i64 p0.Rules.Supply) rfl) (And.intro (uS (.int .i64 p0.Rules.Turns) rfl) (And.intro (uS (.int .i64 p0.Map.Width) rfl) (And.intro (uS (.int .i64 p0.Map.Height) rfl) (And.intro (uO (dat 1 eI zI p0.Map.Terrain) (.dat shI)) (And.intro (uO (dat 1 eI zI p0.Map.Rivers) (.dat shI)) (And.intro (uO (dat 1 eI zI p0.Map.Roads) (.dat shI)) trivial))))))))))))) (And.intro (And.intro rfl (And.intro (uO (dat 3 eTFrame zTFrame p2.Stack) (.dat shTFrame)) (And.intro (uO (dat 1 eI zI p2.Used) (.dat shI)) (And.intro (uS (.int .i64 p2.State.Turn) rfl) (And.intro (uS (.int .i64 p2.State.Weather) rfl) (And.intro (uO (dat 4 eTUnit zTUnit p2.State.Units) (.dat shTUnit)) (And.intro (uO (dat 1 eI zI p2.Log) (.dat shI)) trivial))))))) trivial)) ?_
    obtain ⟨v21, h22, H⟩ := ofBind H
    refine so [.res (.agg [.fr (dat 5 eTTerrain zTTerrain v21.Rules.Terrains), .fr (dat 6 eTKind zTKind v21.Rules.Kinds), .int .i64 v21.Rules.Stack, .int .i64 v21.Rules.River, .int .i64 v21.Rules.Road, .int .i64 v21.Rules.Supply, .int .i64 v21.Rules.Turns, .int .i64 v21.Map.Width, .int .i64 v21.Map.Height, .fr (dat 1 eI zI v21.Map.Terrain), .fr (dat 1 eI zI v21.Map.Rivers), .fr (dat 1 eI zI v21.Map.Roads)])] [] [(1, .c (.old (dat 3 eTReaction zTReaction p1))), (3, pk 3), (5, pk 5), (8, .c (.old (dat 1 eI zI v19.1))), (9, cB v19.2), (10, pk 10)] [(3, .var [.old (dat 5 eTTerrain zTTerrain p0.Rules.Terrains), .old (dat 6 eTKind zTKind p0.Rules.Kinds), .int .i64 p0.Rules.Stack, .int .i64 p0.Rules.River, .int .i64 p0.Rules.Road, .int .i64 p0.Rules.Supply, .int .i64 p0.Rules.Turns, .int .i64 p0.Map.Width, .int .i64 p0.Map.Height, .old (dat 1 eI zI p0.Map.Terrain), .old (dat 1 eI zI p0.Map.Rivers), .old (dat 1 eI zI p0.Map.Roads)] false), (5, .var [.old (dat 3 eTFrame zTFrame p2.Stack), .old (dat 1 eI zI p2.Used), .int .i64 p2.State.Turn, .int .i64 p2.State.Weather, .old (dat 4 eTUnit zTUnit p2.State.Units), .old (dat 1 eI zI p2.Log)] false), (10, .var [.fr (dat 5 eTTerrain zTTerrain v21.Rules.Terrains), .fr (dat 6 eTKind zTKind v21.Rules.Kinds), .int .i64 v21.Rules.Stack, .int .i64 v21.Rules.River, .int .i64 v21.Rules.Road, .int .i64 v21.Rules.Supply, .int .i64 v21.Rules.Turns, .int .i64 v21.Map.Width, .int .i64 v21.Map.Height, .fr (dat 1 eI zI v21.Map.Terrain), .fr (dat 1 eI zI v21.Map.Rivers), .fr (dat 1 eI zI v21.Map.Roads)] false)] (fun t => aI ((FnOk.le2 (xs := [.agg [.old (dat 5 eTTerrain zTTerrain p0.Rules.Terrains), .old (dat 6 eTKind zTKind p0.Rules.Kinds), .int .i64 p0.Rules.Stack, .int .i64 p0.Rules.River, .int .i64 p0.Rules.Road, .int .i64 p0.Rules.Supply, .int .i64 p0.Rules.Turns, .int .i64 p0.Map.Width, .int .i64 p0.Map.Height, .old (dat 1 eI zI p0.Map.Terrain), .old (dat 1 eI zI p0.Map.Rivers), .old (dat 1 eI zI p0.Map.Roads)]]) (l_toBoard_F_ok p0 v21 h22) ⟨LeD.agg (And.intro (LeC.old _) (And.intro (LeC.old _) (And.intro (LeC.refl _) (And.intro (LeC.refl _) (And.intro (LeC.refl _) (And.intro (LeC.refl _) (And.intro (LeC.refl _) (And.intro (LeC.refl _) (And.intro (LeC.refl _) (And.intro (LeC.old _) (And.intro (LeC.old _) (And.intro (LeC.old _) (trivial))))))))))))), trivial⟩).up glTs) (t)) ?_
    obtain ⟨v23, h24, H⟩ := ofBind H
    refine so [.res (.c (.fr (dat 3 eTReaction zTReaction v23)))] [] [(1, .c (.old (dat 3 eTReaction zTReaction p1))), (3, pk 3), (5, pk 5), (8, .c (.old (dat 1 eI zI v19.1))), (9, cB v19.2), (10, pk 10), (11, .c (.fr (dat 3 eTReaction zTReaction v23)))] [(3, .var [.old (dat 5 eTTerrain zTTerrain p0.Rules.Terrains), .old (dat 6 eTKind zTKind p0.Rules.Kinds), .int .i64 p0.Rules.Stack, .int .i64 p0.Rules.River, .int .i64 p0.Rules.Road, .int .i64 p0.Rules.Supply, .int .i64 p0.Rules.Turns, .int .i64 p0.Map.Width, .int .i64 p0.Map.Height, .old (dat 1 eI zI p0.Map.Terrain), .old (dat 1 eI zI p0.Map.Rivers), .old (dat 1 eI zI p0.Map.Roads)] false), (5, .var [.old (dat 3 eTFrame zTFrame p2.Stack), .old (dat 1 eI zI p2.Used), .int .i64 p2.State.Turn, .int .i64 p2.State.Weather, .old (dat 4 eTUnit zTUnit p2.State.Units), .old (dat 1 eI zI p2.Log)] false), (10, .var [.fr (dat 5 eTTerrain zTTerrain v21.Rules.Terrains), .fr (dat 6 eTKind zTKind v21.Rules.Kinds), .int .i64 v21.Rules.Stack, .int .i64 v21.Rules.River, .int .i64 v21.Rules.Road, .int .i64 v21.Rules.Supply, .int .i64 v21.Rules.Turns, .int .i64 v21.Map.Width, .int .i64 v21.Map.Height, .fr (dat 1 eI zI v21.Map.Terrain), .fr (dat 1 eI zI v21.Map.Rivers), .fr (dat 1 eI zI v21.Map.Roads)] false)] (fun t => aI ((FnOk.le2 (xs := [.c (.old (dat 3 eTReaction zTReaction p1))]) (l_toReactionS_F_ok p1 v23 h24) ⟨LeD.old _, trivial⟩).up glTs) (t)) ?_
    obtain ⟨v25, h26, H⟩ := ofBind H
    refine so [.res (.agg [.fr (dat 3 eTFrame zTFrame v25.Stack), .fr (dat 1 eI zI v25.Used), .int .i64 v25.State.Turn, .int .i64 v25.State.Weather, .fr (dat 4 eTUnit zTUnit v25.State.Units), .fr (dat 1 eI zI v25.Log)])] [] [(1, .c (.old (dat 3 eTReaction zTReaction p1))), (3, pk 3), (5, pk 5), (8, .c (.old (dat 1 eI zI v19.1))), (9, cB v19.2), (10, pk 10), (11, .c (.fr (dat 3 eTReaction zTReaction v23))), (12, pk 12)] [(3, .var [.old (dat 5 eTTerrain zTTerrain p0.Rules.Terrains), .old (dat 6 eTKind zTKind p0.Rules.Kinds), .int .i64 p0.Rules.Stack, .int .i64 p0.Rules.River, .int .i64 p0.Rules.Road, .int .i64 p0.Rules.Supply, .int .i64 p0.Rules.Turns, .int .i64 p0.Map.Width, .int .i64 p0.Map.Height, .old (dat 1 eI zI p0.Map.Terrain), .old (dat 1 eI zI p0.Map.Rivers), .old (dat 1 eI zI p0.Map.Roads)] false), (5, .var [.old (dat 3 eTFrame zTFrame p2.Stack), .old (dat 1 eI zI p2.Used), .int .i64 p2.State.Turn, .int .i64 p2.State.Weather, .old (dat 4 eTUnit zTUnit p2.State.Units), .old (dat 1 eI zI p2.Log)] false), (10, .var [.fr (dat 5 eTTerrain zTTerrain v21.Rules.Terrains), .fr (dat 6 eTKind zTKind v21.Rules.Kinds), .int .i64 v21.Rules.Stack, .int .i64 v21.Rules.River, .int .i64 v21.Rules.Road, .int .i64 v21.Rules.Supply, .int .i64 v21.Rules.Turns, .int .i64 v21.Map.Width, .int .i64 v21.Map.Height, .fr (dat 1 eI zI v21.Map.Terrain), .fr (dat 1 eI zI v21.Map.Rivers), .fr (dat 1 eI zI v21.Map.Roads)] false), (12, .var [.fr (dat 3 eTFrame zTFrame v25.Stack), .fr (dat 1 eI zI v25.Used), .int .i64 v25.State.Turn, .int .i64 v25.State.Weather, .fr (dat 4 eTUnit zTUnit v25.State.Units), .fr (dat 1 eI zI v25.Log)] false)] (fun t => aI ((FnOk.le2 (xs := [.agg [.old (dat 3 eTFrame zTFrame p2.Stack), .old (dat 1 eI zI p2.Used), .int .i64 p2.State.Turn, .int .i64 p2.State.Weather, .old (dat 4 eTUnit zTUnit p2.State.Units), .old (dat 1 eI zI p2.Log)]]) (l_toMachine_F_ok p2 v25 h26) ⟨LeD.agg (And.intro (LeC.old _) (And.intro (LeC.old _) (And.intro (LeC.refl _) (And.intro (LeC.refl _) (And.intro (LeC.old _) (And.intro (LeC.old _) (trivial))))))), trivial⟩).up glTs) (t)) ?_
    obtain ⟨v27, h28, H⟩ := ofBind H
    refine so [.mu [] [(900000, 1001)] (.tup [(false, [.own 900000 1 0 v27.1.length]), (false, [.bool v27.2])]) [(900000, .arr 1 v27.1.length (fF eI zI v27.1) false)]] [] [(1, .c (.old (dat 3 eTReaction zTReaction p1))), (3, pk 3), (5, pk 5), (8, .c (.old (dat 1 eI zI v19.1))), (9, cB v19.2), (10, pk 10), (11, .c (.fr (dat 3 eTReaction zTReaction v23))), (12, pk 12), (13, .c (.own 1001 1 0 v27.1.length)), (14, cB v27.2)] [(3, .var [.old (dat 5 eTTerrain zTTerrain p0.Rules.Terrains), .old (dat 6 eTKind zTKind p0.Rules.Kinds), .int .i64 p0.Rules.Stack, .int .i64 p0.Rules.River, .int .i64 p0.Rules.Road, .int .i64 p0.Rules.Supply, .int .i64 p0.Rules.Turns, .int .i64 p0.Map.Width, .int .i64 p0.Map.Height, .old (dat 1 eI zI p0.Map.Terrain), .old (dat 1 eI zI p0.Map.Rivers), .old (dat 1 eI zI p0.Map.Roads)] false), (5, .var [.old (dat 3 eTFrame zTFrame p2.Stack), .old (dat 1 eI zI p2.Used), .int .i64 p2.State.Turn, .int .i64 p2.State.Weather, .old (dat 4 eTUnit zTUnit p2.State.Units), .old (dat 1 eI zI p2.Log)] false), (10, .var [.fr (dat 5 eTTerrain zTTerrain v21.Rules.Terrains), .fr (dat 6 eTKind zTKind v21.Rules.Kinds), .int .i64 v21.Rules.Stack, .int .i64 v21.Rules.River, .int .i64 v21.Rules.Road, .int .i64 v21.Rules.Supply, .int .i64 v21.Rules.Turns, .int .i64 v21.Map.Width, .int .i64 v21.Map.Height, .fr (dat 1 eI zI v21.Map.Terrain), .fr (dat 1 eI zI v21.Map.Rivers), .fr (dat 1 eI zI v21.Map.Roads)] false), (12, .var [.fr (dat 3 eTFrame zTFrame v25.Stack), .fr (dat 1 eI zI v25.Used), .int .i64 v25.State.Turn, .int .i64 v25.State.Weather, .fr (dat 4 eTUnit zTUnit v25.State.Units), .fr (dat 1 eI zI v25.Log)] false), (1001, .arr 1 v27.1.length (fF eI zI v27.1) false)] (fun t => aI ((FnMu.le2 (xs := [.agg [.fr (dat 5 eTTerrain zTTerrain v21.Rules.Terrains), .fr (dat 6 eTKind zTKind v21.Rules.Kinds), .int .i64 v21.Rules.Stack, .int .i64 v21.Rules.River, .int .i64 v21.Rules.Road, .int .i64 v21.Rules.Supply, .int .i64 v21.Rules.Turns, .int .i64 v21.Map.Width, .int .i64 v21.Map.Height, .fr (dat 1 eI zI v21.Map.Terrain), .fr (dat 1 eI zI v21.Map.Rivers), .fr (dat 1 eI zI v21.Map.Roads)], .c (.fr (dat 3 eTReaction zTReaction v23)), .agg [.fr (dat 3 eTFrame zTFrame v25.Stack), .fr (dat 1 eI zI v25.Used), .int .i64 v25.State.Turn, .int .i64 v25.State.Weather, .fr (dat 4 eTUnit zTUnit v25.State.Units), .fr (dat 1 eI zI v25.Log)]]) (i_ReactionsLeft_Mddd_ok v21 v23 v25 v27 h28) ⟨LeK.of rfl (LeD.agg (And.intro (LeC.fr _) (And.intro (LeC.fr _) (And.intro (LeC.refl _) (And.intro (LeC.refl _) (And.intro (LeC.refl _) (And.intro (LeC.refl _) (And.intro (LeC.refl _) (And.intro (LeC.refl _) (And.intro (LeC.refl _) (And.intro (LeC.fr _) (And.intro (LeC.fr _) (And.intro (LeC.fr _) (trivial)))))))))))))), LeK.of rfl (LeD.fr _), LeK.of rfl (LeD.agg (And.intro (LeC.fr _) (And.intro (LeC.fr _) (And.intro (LeC.refl _) (And.intro (LeC.refl _) (And.intro (LeC.fr _) (And.intro (LeC.fr _) (trivial)))))))), trivial⟩).up glTs) (t)) ?_
    refine seq_in ?_
    obtain ⟨v33, h34, H⟩ := ofBind H
    rcases ofCond H with ⟨c35, H⟩ | ⟨c35, H⟩
    ·refine so [.res (cB v33), .g true, .g true, .g true, .g true] [] [(1, .c (.old (dat 3 eTReaction zTReaction p1))), (3, pk 3), (5, pk 5), (8, .c (.old (dat 1 eI zI v19.1))), (9, cB v19.2), (10, pk 10), (11, .c (.fr (dat 3 eTReaction zTReaction v23))), (12, pk 12), (13, .c (.own 1001 1 0 v27.1.length)), (14, cB v27.2), (66, cB true)] [(3, .var [.old (dat 5 eTTerrain zTTerrain p0.Rules.Terrains), .old (dat 6 eTKind zTKind p0.Rules.Kinds), .int .i64 p0.Rules.Stack, .int .i64 p0.Rules.River, .int .i64 p0.Rules.Road, .int .i64 p0.Rules.Supply, .int .i64 p0.Rules.Turns, .int .i64 p0.Map.Width, .int .i64 p0.Map.Height, .old (dat 1 eI zI p0.Map.Terrain), .old (dat 1 eI zI p0.Map.Rivers), .old (dat 1 eI zI p0.Map.Roads)] false), (5, .var [.old (dat 3 eTFrame zTFrame p2.Stack), .old (dat 1 eI zI p2.Used), .int .i64 p2.State.Turn, .int .i64 p2.State.Weather, .old (dat 4 eTUnit zTUnit p2.State.Units), .old (dat 1 eI zI p2.Log)] false), (10, .var [.fr (dat 5 eTTerrain zTTerrain v21.Rules.Terrains), .fr (dat 6 eTKind zTKind v21.Rules.Kinds), .int .i64 v21.Rules.Stack, .int .i64 v21.Rules.River, .int .i64 v21.Rules.Road, .int .i64 v21.Rules.Supply, .int .i64 v21.Rules.Turns, .int .i64 v21.Map.Width, .int .i64 v21.Map.Height, .fr (dat 1 eI zI v21.Map.Terrain), .fr (dat 1 eI zI v21.Map.Rivers), .fr (dat 1 eI zI v21.Map.Roads)] false), (12, .var [.fr (dat 3 eTFrame zTFrame v25.Stack), .fr (dat 1 eI zI v25.Used), .int .i64 v25.State.Turn, .int .i64 v25.State.Weather, .fr (dat 4 eTUnit zTUnit v25.State.Units), .fr (dat 1 eI zI v25.Log)] false), (1001, .arr 1 v27.1.length (fF eI zI v27.1) false)] (fun t => aI (Nat.le_refl v27.1.length) (aI ((FnOk.le2 (xs := [dc 1 eI zI v27.1, .c (.old (dat 1 eI zI v19.1))]) (l_eqIntS_ok v27.1 v19.1 v33 h34) ⟨LeD.refl _, LeD.old _, trivial⟩).up glTs) (aI c35 (aI c35 (aI c35 (aI c35 (t))))))) ?_
     refine it (rfl : (true : Bool) = true) ?_
     refine so [] [] [(6, cB false)] [] id ?_
     refine ends_ret ?_
     cases H
    ·refine so [.res (cB v33), .g false, .g false, .g false, .g false] [] [(1, .c (.old (dat 3 eTReaction zTReaction p1))), (3, pk 3), (5, pk 5), (8, .c (.old (dat 1 eI zI v19.1))), (9, cB v19.2), (10, pk 10), (11, .c (.fr (dat 3 eTReaction zTReaction v23))), (12, pk 12), (13, .c (.own 1001 1 0 v27.1.length)), (14, cB v27.2), (66, cB (!(v27.2 == v19.2)))] [(3, .var [.old (dat 5 eTTerrain zTTerrain p0.Rules.Terrains), .old (dat 6 eTKind zTKind p0.Rules.Kinds), .int .i64 p0.Rules.Stack, .int .i64 p0.Rules.River, .int .i64 p0.Rules.Road, .int .i64 p0.Rules.Supply, .int .i64 p0.Rules.Turns, .int .i64 p0.Map.Width, .int .i64 p0.Map.Height, .old (dat 1 eI zI p0.Map.Terrain), .old (dat 1 eI zI p0.Map.Rivers), .old (dat 1 eI zI p0.Map.Roads)] false), (5, .var [.old (dat 3 eTFrame zTFrame p2.Stack), .old (dat 1 eI zI p2.Used), .int .i64 p2.State.Turn, .int .i64 p2.State.Weather, .old (dat 4 eTUnit zTUnit p2.State.Units), .old (dat 1 eI zI p2.Log)] false), (10, .var [.fr (dat 5 eTTerrain zTTerrain v21.Rules.Terrains), .fr (dat 6 eTKind zTKind v21.Rules.Kinds), .int .i64 v21.Rules.Stack, .int .i64 v21.Rules.River, .int .i64 v21.Rules.Road, .int .i64 v21.Rules.Supply, .int .i64 v21.Rules.Turns, .int .i64 v21.Map.Width, .int .i64 v21.Map.Height, .fr (dat 1 eI zI v21.Map.Terrain), .fr (dat 1 eI zI v21.Map.Rivers), .fr (dat 1 eI zI v21.Map.Roads)] false), (12, .var [.fr (dat 3 eTFrame zTFrame v25.Stack), .fr (dat 1 eI zI v25.Used), .int .i64 v25.State.Turn, .int .i64 v25.State.Weather, .fr (dat 4 eTUnit zTUnit v25.State.Units), .fr (dat 1 eI zI v25.Log)] false), (1001, .arr 1 v27.1.length (fF eI zI v27.1) false)] (fun t => aI (Nat.le_refl v27.1.length) (aI ((FnOk.le2 (xs := [dc 1 eI zI v27.1, .c (.old (dat 1 eI zI v19.1))]) (l_eqIntS_ok v27.1 v19.1 v33 h34) ⟨LeD.refl _, LeD.old _, trivial⟩).up glTs) (aI c35 (aI c35 (aI c35 (aI c35 (t))))))) ?_
     rcases ofCond H with ⟨c36, H⟩ | ⟨c36, H⟩
     ·refine it c36 ?_
      refine so [] [] [(6, cB false)] [] id ?_
      refine ends_ret ?_
      cases H
     ·refine jf c36 ?_
      refine sk ?_
      refine seq_in ?_
      obtain ⟨v42, h43, H⟩ := ofBind H
      obtain ⟨v44, h45, H⟩ := ofBind H
      refine sd [.res (.agg [.fr (dat 5 eTTerrain zTTerrain v42.Rules.Terrains), .fr (dat 6 eTKind zTKind v42.Rules.Kinds), .int .i64 v42.Rules.Stack, .int .i64 v42.Rules.River, .int .i64 v42.Rules.Road, .int .i64 v42.Rules.Supply, .int .i64 v42.Rules.Turns, .int .i64 v42.Map.Width, .int .i64 v42.Map.Height, .fr (dat 1 eI zI v42.Map.Terrain), .fr (dat 1 eI zI v42.Map.Rivers), .fr (dat 1 eI zI v42.Map.Roads)]), .res (cB v44)] [] [(1, .c (.old (dat 3 eTReaction zTReaction p1))), (3, pk 3), (5, pk 5), (8, .c (.old (dat 1 eI zI v19.1))), (9, cB v19.2), (10, pk 10), (11, .c (.fr (dat 3 eTReaction zTReaction v23))), (12, pk 12), (13, .c (.own 1001 1 0 v27.1.length)), (14, cB v27.2), (71, cB (!v44))] [(3, .var [.old (dat 5 eTTerrain zTTerrain p0.Rules.Terrains), .old (dat 6 eTKind zTKind p0.Rules.Kinds), .int .i64 p0.Rules.Stack, .int .i64 p0.Rules.River, .int .i64 p0.Rules.Road, .int .i64 p0.Rules.Supply, .int .i64 p0.Rules.Turns, .int .i64 p0.Map.Width, .int .i64 p0.Map.Height, .old (dat 1 eI zI p0.Map.Terrain), .old (dat 1 eI zI p0.Map.Rivers), .old (dat 1 eI zI p0.Map.Roads)] false), (5, .var [.old (dat 3 eTFrame zTFrame p2.Stack), .old (dat 1 eI zI p2.Used), .int .i64 p2.State.Turn, .int .i64 p2.State.Weather, .old (dat 4 eTUnit zTUnit p2.State.Units), .old (dat 1 eI zI p2.Log)] false), (10, .var [.fr (dat 5 eTTerrain zTTerrain v21.Rules.Terrains), .fr (dat 6 eTKind zTKind v21.Rules.Kinds), .int .i64 v21.Rules.Stack, .int .i64 v21.Rules.River, .int .i64 v21.Rules.Road, .int .i64 v21.Rules.Supply, .int .i64 v21.Rules.Turns, .int .i64 v21.Map.Width, .int .i64 v21.Map.Height, .fr (dat 1 eI zI v21.Map.Terrain), .fr (dat 1 eI zI v21.Map.Rivers), .fr (dat 1 eI zI v21.Map.Roads)] false), (12, .var [.fr (dat 3 eTFrame zTFrame v25.Stack), .fr (dat 1 eI zI v25.Used), .int .i64 v25.State.Turn, .int .i64 v25.State.Weather, .fr (dat 4 eTUnit zTUnit v25.State.Units), .fr (dat 1 eI zI v25.Log)] false), (1001, .arr 1 v27.1.length (fF eI zI v27.1) false)] (fun t => aI ((FnOk.le2 (xs := [.agg [.old (dat 5 eTTerrain zTTerrain p0.Rules.Terrains), .old (dat 6 eTKind zTKind p0.Rules.Kinds), .int .i64 p0.Rules.Stack, .int .i64 p0.Rules.River, .int .i64 p0.Rules.Road, .int .i64 p0.Rules.Supply, .int .i64 p0.Rules.Turns, .int .i64 p0.Map.Width, .int .i64 p0.Map.Height, .old (dat 1 eI zI p0.Map.Terrain), .old (dat 1 eI zI p0.Map.Rivers), .old (dat 1 eI zI p0.Map.Roads)]]) (l_toBoard_F_ok p0 v42 h43) ⟨LeD.agg (And.intro (LeC.old _) (And.intro (LeC.old _) (And.intro (LeC.refl _) (And.intro (LeC.refl _) (And.intro (LeC.refl _) (And.intro (LeC.refl _) (And.intro (LeC.refl _) (And.intro (LeC.refl _) (And.intro (LeC.refl _) (And.intro (LeC.old _) (And.intro (LeC.old _) (And.intro (LeC.old _) (trivial))))))))))))), trivial⟩).up glTs) (aI (rfl : ([] : List Nat) = []) (aI (rfl : ([] : List Nat) = []) (aI ((FnOk.le2 (xs := [.agg [.fr (dat 5 eTTerrain zTTerrain v21.Rules.Terrains), .fr (dat 6 eTKind zTKind v21.Rules.Kinds), .int .i64 v21.Rules.Stack, .int .i64 v21.Rules.River, .int .i64 v21.Rules.Road, .int .i64 v21.Rules.Supply, .int .i64 v21.Rules.Turns, .int .i64 v21.Map.Width, .int .i64 v21.Map.Height, .fr (dat 1 eI zI v21.Map.Terrain), .fr (dat 1 eI zI v21.Map.Rivers), .fr (dat 1 eI zI v21.Map.Roads)], .agg [.fr (dat 5 eTTerrain zTTerrain v42.Rules.Terrains), .fr (dat 6 eTKind zTKind v42.Rules.Kinds), .int .i64 v42.Rules.Stack, .int .i64 v42.Rules.River, .int .i64 v42.Rules.Road, .int .i64 v42.Rules.Supply, .int .i64 v42.Rules.Turns, .int .i64 v42.Map.Width, .int .i64 v42.Map.Height, .fr (dat 1 eI zI v42.Map.Terrain), .fr (dat 1 eI zI v42.Map.Rivers), .fr (dat 1 eI zI v42.Map.Roads)]]) (l_eqBoard_ok v21 v42 v44 h45) ⟨LeD.agg (And.intro (LeC.fr _) (And.intro (LeC.fr _) (And.intro (LeC.refl _) (And.intro (LeC.refl _) (And.intro (LeC.refl _) (And.intro (LeC.refl _) (And.intro (LeC.refl _) (And.intro (LeC.refl _) (And.intro (LeC.refl _) (And.intro (LeC.fr _) (And.intro (LeC.fr _) (And.intro (LeC.fr _) (trivial))))))))))))), LeD.agg (And.intro (LeC.fr _) (And.intro (LeC.fr _) (And.intro (LeC.refl _) (And.intro (LeC.refl _) (And.intro (LeC.refl _) (And.intro (LeC.refl _) (And.intro (LeC.refl _) (And.intro (LeC.refl _) (And.intro (LeC.refl _) (And.intro (LeC.fr _) (And.intro (LeC.fr _) (And.intro (LeC.fr _) (trivial))))))))))))), trivial⟩).up glTs) (aI trivial (aI (rfl : ([] : List Nat) = []) (t))))))) ?_
      rcases ofCond H with ⟨c46, H⟩ | ⟨c46, H⟩
      ·refine it c46 ?_
       refine so [] [] [(6, cB false)] [] id ?_
       refine ends_ret ?_
       cases H
      ·refine jf c46 ?_
       refine sk ?_
       refine seq_in ?_
       obtain ⟨v52, h53, H⟩ := ofBind H
       obtain ⟨v54, h55, H⟩ := ofBind H
       refine so [.res (.c (.fr (dat 3 eTReaction zTReaction v52))), .res (cB v54)] [] [(1, .c (.old (dat 3 eTReaction zTReaction p1))), (3, pk 3), (5, pk 5), (8, .c (.old (dat 1 eI zI v19.1))), (9, cB v19.2), (10, pk 10), (11, .c (.fr (dat 3 eTReaction zTReaction v23))), (12, pk 12), (13, .c (.own 1001 1 0 v27.1.length)), (14, cB v27.2), (76, cB (!v54))] [(3, .var [.old (dat 5 eTTerrain zTTerrain p0.Rules.Terrains), .old (dat 6 eTKind zTKind p0.Rules.Kinds), .int .i64 p0.Rules.Stack, .int .i64 p0.Rules.River, .int .i64 p0.Rules.Road, .int .i64 p0.Rules.Supply, .int .i64 p0.Rules.Turns, .int .i64 p0.Map.Width, .int .i64 p0.Map.Height, .old (dat 1 eI zI p0.Map.Terrain), .old (dat 1 eI zI p0.Map.Rivers), .old (dat 1 eI zI p0.Map.Roads)] false), (5, .var [.old (dat 3 eTFrame zTFrame p2.Stack), .old (dat 1 eI zI p2.Used), .int .i64 p2.State.Turn, .int .i64 p2.State.Weather, .old (dat 4 eTUnit zTUnit p2.State.Units), .old (dat 1 eI zI p2.Log)] false), (10, .var [.fr (dat 5 eTTerrain zTTerrain v21.Rules.Terrains), .fr (dat 6 eTKind zTKind v21.Rules.Kinds), .int .i64 v21.Rules.Stack, .int .i64 v21.Rules.River, .int .i64 v21.Rules.Road, .int .i64 v21.Rules.Supply, .int .i64 v21.Rules.Turns, .int .i64 v21.Map.Width, .int .i64 v21.Map.Height, .fr (dat 1 eI zI v21.Map.Terrain), .fr (dat 1 eI zI v21.Map.Rivers), .fr (dat 1 eI zI v21.Map.Roads)] false), (12, .var [.fr (dat 3 eTFrame zTFrame v25.Stack), .fr (dat 1 eI zI v25.Used), .int .i64 v25.State.Turn, .int .i64 v25.State.Weather, .fr (dat 4 eTUnit zTUnit v25.State.Units), .fr (dat 1 eI zI v25.Log)] false), (1001, .arr 1 v27.1.length (fF eI zI v27.1) false)] (fun t => aI ((FnOk.le2 (xs := [.c (.old (dat 3 eTReaction zTReaction p1))]) (l_toReactionS_F_ok p1 v52 h53) ⟨LeD.old _, trivial⟩).up glTs) (aI ((FnOk.le2 (xs := [.c (.fr (dat 3 eTReaction zTReaction v23)), .c (.fr (dat 3 eTReaction zTReaction v52))]) (l_eqReactionS_ok v23 v52 v54 h55) ⟨LeD.fr _, LeD.fr _, trivial⟩).up glTs) (t))) ?_
       rcases ofCond H with ⟨c56, H⟩ | ⟨c56, H⟩
       ·refine it c56 ?_
        refine so [] [] [(6, cB false)] [] id ?_
        refine ends_ret ?_
        cases H
       ·refine jf c56 ?_
        refine sk ?_
        refine seq_in ?_
        obtain ⟨v62, h63, H⟩ := ofBind H
        obtain ⟨v64, h65, H⟩ := ofBind H
        refine sd [.res (.agg [.fr (dat 3 eTFrame zTFrame v62.Stack), .fr (dat 1 eI zI v62.Used), .int .i64 v62.State.Turn, .int .i64 v62.State.Weather, .fr (dat 4 eTUnit zTUnit v62.State.Units), .fr (dat 1 eI zI v62.Log)]), .res (cB v64)] [] [(1, .c (.old (dat 3 eTReaction zTReaction p1))), (3, pk 3), (5, pk 5), (8, .c (.old (dat 1 eI zI v19.1))), (9, cB v19.2), (10, pk 10), (11, .c (.fr (dat 3 eTReaction zTReaction v23))), (12, pk 12), (13, .c (.own 1001 1 0 v27.1.length)), (14, cB v27.2), (81, cB (!v64))] [(3, .var [.old (dat 5 eTTerrain zTTerrain p0.Rules.Terrains), .old (dat 6 eTKind zTKind p0.Rules.Kinds), .int .i64 p0.Rules.Stack, .int .i64 p0.Rules.River, .int .i64 p0.Rules.Road, .int .i64 p0.Rules.Supply, .int .i64 p0.Rules.Turns, .int .i64 p0.Map.Width, .int .i64 p0.Map.Height, .old (dat 1 eI zI p0.Map.Terrain), .old (dat 1 eI zI p0.Map.Rivers), .old (dat 1 eI zI p0.Map.Roads)] false), (5, .var [.old (dat 3 eTFrame zTFrame p2.Stack), .old (dat 1 eI zI p2.Used), .int .i64 p2.State.Turn, .int .i64 p2.State.Weather, .old (dat 4 eTUnit zTUnit p2.State.Units), .old (dat 1 eI zI p2.Log)] false), (10, .var [.fr (dat 5 eTTerrain zTTerrain v21.Rules.Terrains), .fr (dat 6 eTKind zTKind v21.Rules.Kinds), .int .i64 v21.Rules.Stack, .int .i64 v21.Rules.River, .int .i64 v21.Rules.Road, .int .i64 v21.Rules.Supply, .int .i64 v21.Rules.Turns, .int .i64 v21.Map.Width, .int .i64 v21.Map.Height, .fr (dat 1 eI zI v21.Map.Terrain), .fr (dat 1 eI zI v21.Map.Rivers), .fr (dat 1 eI zI v21.Map.Roads)] false), (12, .var [.fr (dat 3 eTFrame zTFrame v25.Stack), .fr (dat 1 eI zI v25.Used), .int .i64 v25.State.Turn, .int .i64 v25.State.Weather, .fr (dat 4 eTUnit zTUnit v25.State.Units), .fr (dat 1 eI zI v25.Log)] false), (1001, .arr 1 v27.1.length (fF eI zI v27.1) false)] (fun t => aI ((FnOk.le2 (xs := [.agg [.old (dat 3 eTFrame zTFrame p2.Stack), .old (dat 1 eI zI p2.Used), .int .i64 p2.State.Turn, .int .i64 p2.State.Weather, .old (dat 4 eTUnit zTUnit p2.State.Units), .old (dat 1 eI zI p2.Log)]]) (l_toMachine_F_ok p2 v62 h63) ⟨LeD.agg (And.intro (LeC.old _) (And.intro (LeC.old _) (And.intro (LeC.refl _) (And.intro (LeC.refl _) (And.intro (LeC.old _) (And.intro (LeC.old _) (trivial))))))), trivial⟩).up glTs) (aI (rfl : ([] : List Nat) = []) (aI (rfl : ([] : List Nat) = []) (aI ((FnOk.le2 (xs := [.agg [.fr (dat 3 eTFrame zTFrame v25.Stack), .fr (dat 1 eI zI v25.Used), .int .i64 v25.State.Turn, .int .i64 v25.State.Weather, .fr (dat 4 eTUnit zTUnit v25.State.Units), .fr (dat 1 eI zI v25.Log)], .agg [.fr (dat 3 eTFrame zTFrame v62.Stack), .fr (dat 1 eI zI v62.Used), .int .i64 v62.State.Turn, .int .i64 v62.State.Weather, .fr (dat 4 eTUnit zTUnit v62.State.Units), .fr (dat 1 eI zI v62.Log)]]) (l_eqMachine_ok v25 v62 v64 h65) ⟨LeD.agg (And.intro (LeC.fr _) (And.intro (LeC.fr _) (And.intro (LeC.refl _) (And.intro (LeC.refl _) (And.intro (LeC.fr _) (And.intro (LeC.fr _) (trivial))))))), LeD.agg (And.intro (LeC.fr _) (And.intro (LeC.fr _) (And.intro (LeC.refl _) (And.intro (LeC.refl _) (And.intro (LeC.fr _) (And.intro (LeC.fr _) (trivial))))))), trivial⟩).up glTs) (aI trivial (aI (rfl : ([] : List Nat) = []) (t))))))) ?_
        rcases ofCond H with ⟨c66, H⟩ | ⟨c66, H⟩
        ·refine it c66 ?_
         refine so [] [] [(6, cB false)] [] id ?_
         refine ends_ret ?_
         cases H
        ·refine jf c66 ?_
         refine sk ?_
         refine so [] [] [(1, .c (.old (dat 3 eTReaction zTReaction p1))), (3, pk 3), (5, pk 5), (8, .c (.old (dat 1 eI zI v19.1))), (9, cB v19.2), (10, pk 10), (11, .c (.fr (dat 3 eTReaction zTReaction v23))), (12, pk 12), (13, .c (.own 1001 1 0 v27.1.length)), (14, cB v27.2), (15, cI 1)] [(3, .var [.old (dat 5 eTTerrain zTTerrain p0.Rules.Terrains), .old (dat 6 eTKind zTKind p0.Rules.Kinds), .int .i64 p0.Rules.Stack, .int .i64 p0.Rules.River, .int .i64 p0.Rules.Road, .int .i64 p0.Rules.Supply, .int .i64 p0.Rules.Turns, .int .i64 p0.Map.Width, .int .i64 p0.Map.Height, .old (dat 1 eI zI p0.Map.Terrain), .old (dat 1 eI zI p0.Map.Rivers), .old (dat 1 eI zI p0.Map.Roads)] false), (5, .var [.old (dat 3 eTFrame zTFrame p2.Stack), .old (dat 1 eI zI p2.Used), .int .i64 p2.State.Turn, .int .i64 p2.State.Weather, .old (dat 4 eTUnit zTUnit p2.State.Units), .old (dat 1 eI zI p2.Log)] false), (10, .var [.fr (dat 5 eTTerrain zTTerrain v21.Rules.Terrains), .fr (dat 6 eTKind zTKind v21.Rules.Kinds), .int .i64 v21.Rules.Stack, .int .i64 v21.Rules.River, .int .i64 v21.Rules.Road, .int .i64 v21.Rules.Supply, .int .i64 v21.Rules.Turns, .int .i64 v21.Map.Width, .int .i64 v21.Map.Height, .fr (dat 1 eI zI v21.Map.Terrain), .fr (dat 1 eI zI v21.Map.Rivers), .fr (dat 1 eI zI v21.Map.Roads)] false), (12, .var [.fr (dat 3 eTFrame zTFrame v25.Stack), .fr (dat 1 eI zI v25.Used), .int .i64 v25.State.Turn, .int .i64 v25.State.Weather, .fr (dat 4 eTUnit zTUnit v25.State.Units), .fr (dat 1 eI zI v25.Log)] false), (1001, .arr 1 v27.1.length (fF eI zI v27.1) false)] id ?_
         refine tl [] [(1, .c (.old (dat 3 eTReaction zTReaction p1))), (3, pk 3), (5, pk 5), (8, .c (.old (dat 1 eI zI v19.1))), (9, cB v19.2), (10, pk 10), (11, .c (.fr (dat 3 eTReaction zTReaction v23))), (12, pk 12), (13, .c (.own 1001 1 0 v27.1.length)), (14, cB v27.2), (15, cI 1)] [(3, .var [.old (dat 5 eTTerrain zTTerrain p0.Rules.Terrains), .old (dat 6 eTKind zTKind p0.Rules.Kinds), .int .i64 p0.Rules.Stack, .int .i64 p0.Rules.River, .int .i64 p0.Rules.Road, .int .i64 p0.Rules.Supply, .int .i64 p0.Rules.Turns, .int .i64 p0.Map.Width, .int .i64 p0.Map.Height, .old (dat 1 eI zI p0.Map.Terrain), .old (dat 1 eI zI p0.Map.Rivers), .old (dat 1 eI zI p0.Map.Roads)] false), (5, .var [.old (dat 3 eTFrame zTFrame p2.Stack), .old (dat 1 eI zI p2.Used), .int .i64 p2.State.Turn, .int .i64 p2.State.Weather, .old (dat 4 eTUnit zTUnit p2.State.Units), .old (dat 1 eI zI p2.Log)] false), (10, .var [.fr (dat 5 eTTerrain zTTerrain v21.Rules.Terrains), .fr (dat 6 eTKind zTKind v21.Rules.Kinds), .int .i64 v21.Rules.Stack, .int .i64 v21.Rules.River, .int .i64 v21.Rules.Road, .int .i64 v21.Rules.Supply, .int .i64 v21.Rules.Turns, .int .i64 v21.Map.Width, .int .i64 v21.Map.Height, .fr (dat 1 eI zI v21.Map.Terrain), .fr (dat 1 eI zI v21.Map.Rivers), .fr (dat 1 eI zI v21.Map.Roads)] false), (12, .var [.fr (dat 3 eTFrame zTFrame v25.Stack), .fr (dat 1 eI zI v25.Used), .int .i64 v25.State.Turn, .int .i64 v25.State.Weather, .fr (dat 4 eTUnit zTUnit v25.State.Units), .fr (dat 1 eI zI v25.Log)] false), (1001, .arr 1 v27.1.length (fF eI zI v27.1) false)] id ?_
         refine turn (E := [(1, .c (.old (dat 3 eTReaction zTReaction p1))), (3, pk 3), (5, pk 5), (8, .c (.old (dat 1 eI zI v19.1))), (9, cB v19.2), (10, pk 10), (11, .c (.fr (dat 3 eTReaction zTReaction v23))), (12, pk 12), (13, .c (.own 1001 1 0 v27.1.length)), (14, cB v27.2), (15, cI 1)]) (E' := [(1, dc 3 eTReaction zTReaction p1), (3, pk 3), (5, pk 5), (8, dc 1 eI zI v19.1), (9, cB v19.2), (10, pk 10), (11, .c (.lv (dat 3 eTReaction zTReaction v23))), (12, pk 12), (13, .c (.own 1001 1 0 v27.1.length)), (14, cB v27.2), (15, cI 1)]) (H := [(3, .var [.old (dat 5 eTTerrain zTTerrain p0.Rules.Terrains), .old (dat 6 eTKind zTKind p0.Rules.Kinds), .int .i64 p0.Rules.Stack, .int .i64 p0.Rules.River, .int .i64 p0.Rules.Road, .int .i64 p0.Rules.Supply, .int .i64 p0.Rules.Turns, .int .i64 p0.Map.Width, .int .i64 p0.Map.Height, .old (dat 1 eI zI p0.Map.Terrain), .old (dat 1 eI zI p0.Map.Rivers), .old (dat 1 eI zI p0.Map.Roads)] false), (5, .var [.old (dat 3 eTFrame zTFrame p2.Stack), .old (dat 1 eI zI p2.Used), .int .i64 p2.State.Turn, .int .i64 p2.State.Weather, .old (dat 4 eTUnit zTUnit p2.State.Units), .old (dat 1 eI zI p2.Log)] false), (10, .var [.fr (dat 5 eTTerrain zTTerrain v21.Rules.Terrains), .fr (dat 6 eTKind zTKind v21.Rules.Kinds), .int .i64 v21.Rules.Stack, .int .i64 v21.Rules.River, .int .i64 v21.Rules.Road, .int .i64 v21.Rules.Supply, .int .i64 v21.Rules.Turns, .int .i64 v21.Map.Width, .int .i64 v21.Map.Height, .fr (dat 1 eI zI v21.Map.Terrain), .fr (dat 1 eI zI v21.Map.Rivers), .fr (dat 1 eI zI v21.Map.Roads)] false), (12, .var [.fr (dat 3 eTFrame zTFrame v25.Stack), .fr (dat 1 eI zI v25.Used), .int .i64 v25.State.Turn, .int .i64 v25.State.Weather, .fr (dat 4 eTUnit zTUnit v25.State.Units), .fr (dat 1 eI zI v25.Log)] false), (1001, .arr 1 v27.1.length (fF eI zI v27.1) false)]) (H' := [(3, va (eTBoard p0)), (5, va (eTMachine p2)), (10, .var [.lv (dat 5 eTTerrain zTTerrain v21.Rules.Terrains), .lv (dat 6 eTKind zTKind v21.Rules.Kinds), .int .i64 v21.Rules.Stack, .int .i64 v21.Rules.River, .int .i64 v21.Rules.Road, .int .i64 v21.Rules.Supply, .int .i64 v21.Rules.Turns, .int .i64 v21.Map.Width, .int .i64 v21.Map.Height, .lv (dat 1 eI zI v21.Map.Terrain), .lv (dat 1 eI zI v21.Map.Rivers), .lv (dat 1 eI zI v21.Map.Roads)] false), (12, .var [.lv (dat 3 eTFrame zTFrame v25.Stack), .lv (dat 1 eI zI v25.Used), .int .i64 v25.State.Turn, .int .i64 v25.State.Weather, .lv (dat 4 eTUnit zTUnit v25.State.Units), .lv (dat 1 eI zI v25.Log)] false), (1001, .arr 1 v27.1.length (fF eI zI v27.1) false)]) glTn (And.intro (And.intro rfl (tO (dat 3 eTReaction zTReaction p1))) (And.intro (And.intro rfl (tS (.pk 3 0) rfl)) (And.intro (And.intro rfl (tS (.pk 5 0) rfl)) (And.intro (And.intro rfl (tO (dat 1 eI zI v19.1))) (And.intro (And.intro rfl (tS (.bool v19.2) rfl)) (And.intro (And.intro rfl (tS (.pk 10 0) rfl)) (And.intro (And.intro rfl (tF (dat 3 eTReaction zTReaction v23) rfl (.dat shTReaction))) (And.intro (And.intro rfl (tS (.pk 12 0) rfl)) (And.intro (And.intro rfl (tS (.own 1001 1 0 v27.1.length) rfl)) (And.intro (And.intro rfl (tS (.bool v27.2) rfl)) (And.intro (And.intro rfl (tS (.int .i64 1) rfl)) trivial))))))))))) (And.intro (And.intro rfl (And.intro (tO (dat 5 eTTerrain zTTerrain p0.Rules.Terrains)) (And.intro (tO (dat 6 eTKind zTKind p0.Rules.Kinds)) (And.intro (tS (.int .i64 p0.Rules.Stack) rfl) (And.intro (tS (.int .i64 p0.Rules.River) rfl) (And.intro (tS (.int .i64 p0.Rules.Road) rfl) (And.intro (tS (.int .i64 p0.Rules.Supply) rfl) (And.intro (tS (.int .i64 p0.Rules.Turns) rfl) (And.intro (tS (.int .i64 p0.Map.Width) rfl) (And.intro (tS (.int .i64 p0.Map.Height) rfl) (And.intro (tO (dat 1 eI zI p0.Map.Terrain)) (And.intro (tO (dat 1 eI zI p0.Map.Rivers)) (And.intro (tO (dat 1 eI zI p0.Map.Roads)) trivial))))))))))))) (And.intro (And.intro rfl (And.intro (tO (dat 3 eTFrame zTFrame p2.Stack)) (And.intro (tO (dat 1 eI zI p2.Used)) (And.intro (tS (.int .i64 p2.State.Turn) rfl) (And.intro (tS (.int .i64 p2.State.Weather) rfl) (And.intro (tO (dat 4 eTUnit zTUnit p2.State.Units)) (And.intro (tO (dat 1 eI zI p2.Log)) trivial))))))) (And.intro (And.intro rfl (And.intro (tF (dat 5 eTTerrain zTTerrain v21.Rules.Terrains) rfl (.dat shTTerrain)) (And.intro (tF (dat 6 eTKind zTKind v21.Rules.Kinds) rfl (.dat shTKind)) (And.intro (tS (.int .i64 v21.Rules.Stack) rfl) (And.intro (tS (.int .i64 v21.Rules.River) rfl) (And.intro (tS (.int .i64 v21.Rules.Road) rfl) (And.intro (tS (.int .i64 v21.Rules.Supply) rfl) (And.intro (tS (.int .i64 v21.Rules.Turns) rfl) (And.intro (tS (.int .i64 v21.Map.Width) rfl) (And.intro (tS (.int .i64 v21.Map.Height) rfl) (And.intro (tF (dat 1 eI zI v21.Map.Terrain) rfl (.dat shI)) (And.intro (tF (dat 1 eI zI v21.Map.Rivers) rfl (.dat shI)) (And.intro (tF (dat 1 eI zI v21.Map.Roads) rfl (.dat shI)) trivial))))))))))))) (And.intro (And.intro rfl (And.intro (tF (dat 3 eTFrame zTFrame v25.Stack) rfl (.dat shTFrame)) (And.intro (tF (dat 1 eI zI v25.Used) rfl (.dat shI)) (And.intro (tS (.int .i64 v25.State.Turn) rfl) (And.intro (tS (.int .i64 v25.State.Weather) rfl) (And.intro (tF (dat 4 eTUnit zTUnit v25.State.Units) rfl (.dat shTUnit)) (And.intro (tF (dat 1 eI zI v25.Log) rfl (.dat shI)) trivial))))))) (And.intro (And.intro rfl ⟨rfl, rfl, rfl, fun i _ => rfl⟩) trivial))))) ?_
         obtain ⟨v67, h68, H⟩ := ofBind H
         refine so [.res (cI v67)] [] [(1, dc 3 eTReaction zTReaction p1), (3, pk 3), (5, pk 5), (8, dc 1 eI zI v19.1), (9, cB v19.2), (11, .c (.lv (dat 3 eTReaction zTReaction v23))), (12, pk 12), (13, .c (.own 1001 1 0 v27.1.length)), (14, cB v27.2), (15, cI v67)] [(3, va (eTBoard p0)), (5, va (eTMachine p2)), (12, .var [.lv (dat 3 eTFrame zTFrame v25.Stack), .lv (dat 1 eI zI v25.Used), .int .i64 v25.State.Turn, .int .i64 v25.State.Weather, .lv (dat 4 eTUnit zTUnit v25.State.Units), .lv (dat 1 eI zI v25.Log)] false), (1001, .arr 1 v27.1.length (fF eI zI v27.1) false)] (fun t => aI ((l_markBoard_L_ok v21 1 v67 h68).up glTs) (t)) ?_
         obtain ⟨v69, h70, H⟩ := ofBind H
         refine so [.res (cI v69)] [] [(1, dc 3 eTReaction zTReaction p1), (3, pk 3), (5, pk 5), (8, dc 1 eI zI v19.1), (9, cB v19.2), (12, pk 12), (13, .c (.own 1001 1 0 v27.1.length)), (14, cB v27.2), (15, cI v69)] [(3, va (eTBoard p0)), (5, va (eTMachine p2)), (12, .var [.lv (dat 3 eTFrame zTFrame v25.Stack), .lv (dat 1 eI zI v25.Used), .int .i64 v25.State.Turn, .int .i64 v25.State.Weather, .lv (dat 4 eTUnit zTUnit v25.State.Units), .lv (dat 1 eI zI v25.Log)] false), (1001, .arr 1 v27.1.length (fF eI zI v27.1) false)] (fun t => aI ((l_markReactionS_L_ok v23 v67 v69 h70).up glTs) (t)) ?_
         obtain ⟨v71, h72, H⟩ := ofBind H
         refine so [.res (cI v71)] [] [(1, dc 3 eTReaction zTReaction p1), (3, pk 3), (5, pk 5), (8, dc 1 eI zI v19.1), (9, cB v19.2), (13, .c (.own 1001 1 0 v27.1.length)), (14, cB v27.2), (15, cI v71)] [(3, va (eTBoard p0)), (5, va (eTMachine p2)), (1001, .arr 1 v27.1.length (fF eI zI v27.1) false)] (fun t => aI ((l_markMachine_L_ok v25 v69 v71 h72).up glTs) (t)) ?_
         refine seq_in ?_
         rcases ofCond H with ⟨c77, H⟩ | ⟨c77, H⟩
         ·refine so [.g true, .g true, .g true, .g true, .g true, .g true, .g true, .g true, .g true] [] [(1, dc 3 eTReaction zTReaction p1), (3, pk 3), (5, pk 5), (8, dc 1 eI zI v19.1), (9, cB v19.2), (13, .c (.own 1001 1 0 v27.1.length)), (103, cB true)] [(3, va (eTBoard p0)), (5, va (eTMachine p2)), (1001, .arr 1 v27.1.length (fF eI zI v27.1) false)] (fun t => aI c77 (aI c77 (aI c77 (aI c77 (aI c77 (aI (rfl : (true : Bool) = true) (aI (rfl : (true : Bool) = true) (aI (rfl : (true : Bool) = true) (aI (rfl : (true : Bool) = true) (t)))))))))) ?_
          refine it (rfl : (true : Bool) = true) ?_
          refine so [] [] [(6, cB false)] [] id ?_
          refine ends_ret ?_
          cases H
         ·obtain ⟨v78, h79, H⟩ := ofBind H
          rcases ofCond H with ⟨c80, H⟩ | ⟨c80, H⟩
          ·refine so [.g false, .g false, .g false, .res (cB v78), .g false, .g false, .g true, .g true, .g true, .g true] [] [(1, dc 3 eTReaction zTReaction p1), (3, pk 3), (5, pk 5), (8, dc 1 eI zI v19.1), (9, cB v19.2), (13, .c (.own 1001 1 0 v27.1.length)), (103, cB true)] [(3, va (eTBoard p0)), (5, va (eTMachine p2)), (1001, .arr 1 v27.1.length (fF eI zI v27.1) false)] (fun t => aI c77 (aI c77 (aI c77 (aI (Nat.le_refl v27.1.length) (aI ((l_eqIntS_ok v27.1 v19.1 v78 h79).up glTs) (aI c77 (aI c77 (aI c80 (aI c80 (aI c80 (aI c80 (t)))))))))))) ?_
           refine it (rfl : (true : Bool) = true) ?_
           refine so [] [] [(6, cB false)] [] id ?_
           refine ends_ret ?_
           cases H
          ·refine so [.g false, .g false, .g false, .res (cB v78), .g false, .g false, .g false, .g false, .g false, .g false] [] [(1, dc 3 eTReaction zTReaction p1), (3, pk 3), (5, pk 5), (8, dc 1 eI zI v19.1), (9, cB v19.2), (13, .c (.own 1001 1 0 v27.1.length)), (103, cB (!(v27.2 == v19.2)))] [(3, va (eTBoard p0)), (5, va (eTMachine p2)), (1001, .arr 1 v27.1.length (fF eI zI v27.1) false)] (fun t => aI c77 (aI c77 (aI c77 (aI (Nat.le_refl v27.1.length) (aI ((l_eqIntS_ok v27.1 v19.1 v78 h79).up glTs) (aI c77 (aI c77 (aI c80 (aI c80 (aI c80 (aI c80 (t)))))))))))) ?_
           refine jf c36 ?_
           refine sk ?_
           refine so [] [] [(1, dc 3 eTReaction zTReaction p1), (3, pk 3), (5, pk 5), (8, dc 1 eI zI v19.1), (9, cB v19.2), (13, .c (.own 1001 1 0 v27.1.length)), (16, cI 1)] [(3, va (eTBoard p0)), (5, va (eTMachine p2)), (1001, .arr 1 v27.1.length (fF eI zI v27.1) false)] id ?_
           obtain ⟨v81, h82, H⟩ := ofBind H
           obtain ⟨g83, H⟩ := ofIf H
           refine so [.mu [(1001, 1000000)] [(1000000, 1001)] (cI v81.1) [(1000000, .arr 1 v81.2.length (fF eI zI v81.2) false)]] [.rel 13 v81.2.length, .rel 104 v81.2.length] [(1, dc 3 eTReaction zTReaction p1), (3, pk 3), (5, pk 5), (8, dc 1 eI zI v19.1), (9, cB v19.2), (13, .c (.own 1001 1 0 v81.2.length)), (16, cI v81.1)] [(3, va (eTBoard p0)), (5, va (eTMachine p2)), (1001, .arr 1 v81.2.length (fF eI zI v81.2) false)] (fun t => aI ((l_markIntS_Mod_ok v27.1 1 v81 h82).up glTs) (aI (Eq.symm g83) (aI (Eq.symm g83) (t)))) ?_
           refine so [] [] [(1, dc 3 eTReaction zTReaction p1), (3, pk 3), (5, pk 5), (8, dc 1 eI zI v19.1), (9, cB v19.2), (13, .c (.own 1001 1 0 v81.2.length)), (16, cI v81.1), (17, cI 1)] [(3, va (eTBoard p0)), (5, va (eTMachine p2)), (1001, .arr 1 v81.2.length (fF eI zI v81.2) false)] id ?_
           obtain ⟨v84, h85, H⟩ := ofBind H
           refine so [.res (cI v84)] [] [(1, dc 3 eTReaction zTReaction p1), (3, pk 3), (5, pk 5), (8, dc 1 eI zI v19.1), (9, cB v19.2), (13, .c (.own 1001 1 0 v81.2.length)), (16, cI v81.1), (17, cI v84)] [(3, va (eTBoard p0)), (5, va (eTMachine p2)), (1001, .arr 1 v81.2.length (fF eI zI v81.2) false)] (fun t => aI (Nat.le_refl v81.2.length) (aI ((l_heldIntS_ok v81.2 1 v84 h85).up glTs) (t))) ?_
           refine seq_in ?_
           refine so [] [] [(1, dc 3 eTReaction zTReaction p1), (3, pk 3), (5, pk 5), (8, dc 1 eI zI v19.1), (9, cB v19.2), (13, .c (.own 1001 1 0 v81.2.length)), (16, cI v81.1), (17, cI v84), (111, cB (decide (v84 < 0)))] [(3, va (eTBoard p0)), (5, va (eTMachine p2)), (1001, .arr 1 v81.2.length (fF eI zI v81.2) false)] id ?_
           rcases ofCond H with ⟨c87, H⟩ | ⟨c87, H⟩
           ·refine it c87 ?_
            refine so [] [] [(6, cB false)] [] id ?_
            refine ends_ret ?_
            cases H
           ·refine jf c87 ?_
            refine sk ?_
            refine seq_in ?_
            refine so [] [] [(1, dc 3 eTReaction zTReaction p1), (3, pk 3), (5, pk 5), (8, dc 1 eI zI v19.1), (9, cB v19.2), (13, .c (.own 1001 1 0 v81.2.length)), (16, cI v81.1), (114, cB (v84 != v81.1))] [(3, va (eTBoard p0)), (5, va (eTMachine p2)), (1001, .arr 1 v81.2.length (fF eI zI v81.2) false)] id ?_
            rcases ofCond H with ⟨c89, H⟩ | ⟨c89, H⟩
            ·refine it c89 ?_
             refine so [] [] [(6, cB false)] [] id ?_
             refine ends_ret ?_
             cases H
            ·refine jf c89 ?_
             refine sk ?_
             obtain ⟨v90, h91, H⟩ := ofBind H
             obtain ⟨v92, h93, H⟩ := ofBind H
             obtain ⟨v94, h95, H⟩ := ofBind H
             obtain ⟨v96, h97, H⟩ := ofBind H
             refine sd [.res (.agg (eTBoard v90)), .res (dc 3 eTReaction zTReaction v92), .res (.agg (eTMachine v94)), .res (.tup [(false, [dat 1 eI zI v96.1]), (false, [.bool v96.2])])] [] [(8, dc 1 eI zI v19.1), (9, cB v19.2), (13, .c (.own 1001 1 0 v81.2.length)), (16, cI v81.1), (18, dc 1 eI zI v96.1), (19, cB v96.2)] [(1001, .arr 1 v81.2.length (fF eI zI v81.2) false)] (fun t => aI ((l_toBoard_ok p0 v90 h91).up glTs) (aI (rfl : ([] : List Nat) = []) (aI (rfl : ([] : List Nat) = []) (aI ((l_toReactionS_ok p1 v92 h93).up glTs) (aI (rfl : ([] : List Nat) = []) (aI (rfl : ([] : List Nat) = []) (aI ((l_toMachine_ok p2 v94 h95).up glTs) (aI (rfl : ([] : List Nat) = []) (aI (rfl : ([] : List Nat) = []) (aI ((i_ReactionsLeft_ok v90 v92 v94 v96 h97).up glTs) (aI (rfl : ([] : List Nat) = []) (aI (rfl : ([] : List Nat) = []) (t))))))))))))) ?_
             refine seq_in ?_
             obtain ⟨v102, h103, H⟩ := ofBind H
             rcases ofCond H with ⟨c104, H⟩ | ⟨c104, H⟩
             ·refine so [.res (cB v102), .g true, .g true, .g true, .g true] [] [(13, .c (.own 1001 1 0 v81.2.length)), (16, cI v81.1), (133, cB true)] [(1001, .arr 1 v81.2.length (fF eI zI v81.2) false)] (fun t => aI ((l_eqIntS_ok v96.1 v19.1 v102 h103).up glTs) (aI c104 (aI c104 (aI c104 (aI c104 (t)))))) ?_
              refine it (rfl : (true : Bool) = true) ?_
              refine so [] [] [(6, cB false)] [] id ?_
              refine ends_ret ?_
              cases H
             ·refine so [.res (cB v102), .g false, .g false, .g false, .g false] [] [(13, .c (.own 1001 1 0 v81.2.length)), (16, cI v81.1), (133, cB (!(v96.2 == v19.2)))] [(1001, .arr 1 v81.2.length (fF eI zI v81.2) false)] (fun t => aI ((l_eqIntS_ok v96.1 v19.1 v102 h103).up glTs) (aI c104 (aI c104 (aI c104 (aI c104 (t)))))) ?_
              rcases ofCond H with ⟨c105, H⟩ | ⟨c105, H⟩
              ·refine it c105 ?_
               refine so [] [] [(6, cB false)] [] id ?_
               refine ends_ret ?_
               cases H
              ·refine jf c105 ?_
               refine sk ?_
               refine so [] [] [(13, .c (.own 1001 1 0 v81.2.length)), (16, cI v81.1), (17, cI 1)] [(1001, .arr 1 v81.2.length (fF eI zI v81.2) false)] id ?_
               obtain ⟨v106, h107, H⟩ := ofBind H
               refine so [.res (cI v106)] [] [(16, cI v81.1), (17, cI v106)] [] (fun t => aI (Nat.le_refl v81.2.length) (aI ((l_heldIntS_ok v81.2 1 v106 h107).up glTs) (t))) ?_
               refine seq_in ?_
               refine so [] [] [(16, cI v81.1), (17, cI v106), (138, cB (decide (v106 < 0)))] [] id ?_
               rcases ofCond H with ⟨c109, H⟩ | ⟨c109, H⟩
               ·refine it c109 ?_
                refine so [] [] [(6, cB false)] [] id ?_
                refine ends_ret ?_
                cases H
               ·refine jf c109 ?_
                refine sk ?_
                refine seq_in ?_
                refine so [] [] [(141, cB (v106 != v81.1))] [] id ?_
                rcases ofCond H with ⟨c110, H⟩ | ⟨c110, H⟩
                ·refine it c110 ?_
                 refine so [] [] [(6, cB false)] [] id ?_
                 refine ends_ret ?_
                 cases H
                ·refine jf c110 ?_
                 refine sk ?_
                 refine so [] [] [(6, cB true)] [] id ?_
                 refine ends_ret ?_
                 exact And.intro (.inl rfl) rfl
end Go.Proofs.YtociagbpecpcnaaGreatDoor.X0
