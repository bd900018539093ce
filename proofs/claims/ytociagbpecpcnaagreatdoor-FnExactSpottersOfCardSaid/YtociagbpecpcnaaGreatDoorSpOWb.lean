/- What each Go function that FnExactSpottersOf reaches computes, and that it returns so; no condition. -/
import Derived.Test.YtociagbpecpcnaaGreatDoorSpOWa
set_option linter.unusedVariables false
set_option linter.unusedSimpArgs false
set_option maxRecDepth 100000
namespace Go.Proofs.YtociagbpecpcnaaGreatDoor.X0
open Go Go.RowKit Go.Proofs.YtociagbpecpcnaaGreatDoor.Ab Go.Proofs

def s_sGood_ir : S :=
 (sq [o 2 (.box 12 (.t 0)), o 3 (.box 3 (.t 1)), o 4 (.mv (.v (.bool false)))]
 (.seq (sq [o 9 (.load 12 true (.t 2)), o 10 (.call 140 [.t 9]), o 11 (.not (.t 10)), om 12 11, ⟨some 13, .fad 0 (.t 3), some (12, false)⟩, ⟨some 14, .load 1 false (.t 13), some (12, false)⟩, ⟨some 15, .fad 0 (.t 2), some (12, false)⟩, ⟨some 16, .fad 6 (.t 15), some (12, false)⟩, ⟨some 17, .load 1 false (.t 16), some (12, false)⟩, ⟨some 18, .call 124 [.t 14, .v (.int .i64 0), .t 17], some (12, false)⟩, ⟨some 19, .not (.t 18), some (12, false)⟩, o 20 (.pick (.t 12) (.v (.bool true)) (.t 19)), om 21 20, ⟨some 22, .fad 1 (.t 3), some (21, false)⟩, ⟨some 23, .load 1 false (.t 22), some (21, false)⟩, ⟨some 24, .call 124 [.t 23, .v (.int .i64 0), .v (.int .i64 2)], some (21, false)⟩, ⟨some 25, .not (.t 24), some (21, false)⟩, o 26 (.pick (.t 21) (.v (.bool true)) (.t 25)), om 27 26, ⟨some 28, .fad 2 (.t 3), some (27, false)⟩, ⟨some 29, .load 1 false (.t 28), some (27, false)⟩, ⟨some 30, .len (.t 29), some (27, false)⟩, ⟨some 31, .bin .gtr (.t 30) (iv 12), some (27, false)⟩, o 32 (.pick (.t 27) (.v (.bool true)) (.t 31))]
 (.ite (.t 32) (sq [o 4 (.mv (.v (.bool false)))]
  .ret)
 .skip))
 (.seq (sq [o 33 (.fad 2 (.t 3)), o 34 (.load 1 false (.t 33)), o 35 (.len (.t 34)), o 36 (.mv (iv 0))]
 (.blk 0 (.loop (sq [o 37 (.bin .lss (.t 36) (.t 35))]
   (.seq (.ite (.t 37) .skip
   (.exit 0))
   (.seq (.blk 1 (sq [o 38 (.iad 4 (.t 34) (.t 36)), o 39 (.load 4 true (.t 38)), o 6 (.alloc [.int .i64 0, .int .i64 0, .int .i64 0, .int .i64 0]), ⟨none, .store 4 (.t 6) (.t 39), none⟩]
    (sq [o 40 (.load 12 true (.t 2)), o 41 (.load 4 true (.t 6)), o 42 (.call 177 [.t 40, .t 41]), o 43 (.not (.t 42))]
    (.ite (.t 43) (sq [o 4 (.mv (.v (.bool false)))]
     .ret)
    .skip))))
   (.ops [o 44 (.bin .add (.t 36) (iv 1)), om 36 44])))))))
 (.seq (sq [o 45 (.fad 2 (.t 3)), o 46 (.load 1 false (.t 45)), o 47 (.len (.t 46)), o 48 (.mv (iv 0))]
 (.blk 2 (.loop (sq [o 49 (.bin .lss (.t 48) (.t 47))]
   (.seq (.ite (.t 49) .skip
   (.exit 2))
   (.seq (.blk 3 (sq [o 50 (.iad 4 (.t 46) (.t 48)), o 51 (.load 4 true (.t 50)), o 8 (.alloc [.int .i64 0, .int .i64 0, .int .i64 0, .int .i64 0]), ⟨none, .store 4 (.t 8) (.t 51), none⟩]
    (.seq (.draw 27 [o 52 (.fad 2 (.t 8)), o 53 (.load 1 false (.t 52)), o 54 (.bin .geq (.t 53) (iv 0)), om 55 54, ⟨some 56, .load 3 true (.t 3), some (55, true)⟩, ⟨some 57, .fad 2 (.t 8), some (55, true)⟩, ⟨some 58, .load 1 false (.t 57), some (55, true)⟩, ⟨some 59, .fad 0 (.t 8), some (55, true)⟩, ⟨some 60, .load 1 false (.t 59), some (55, true)⟩, ⟨some 61, .bin .sub (iv 1) (.t 60), some (55, true)⟩, ⟨some 62, .call 178 [.t 56, .t 58, .t 61], some (55, true)⟩, ⟨some 63, .len (.t 62), some (55, true)⟩, ⟨some 64, .bin .gtr (.t 63) (iv 0), some (55, true)⟩, ⟨some 65, .mv (.t 64), some (55, true)⟩, ⟨some 66, .load 3 true (.t 3), some (65, false)⟩, ⟨some 67, .fad 2 (.t 8), some (65, false)⟩, ⟨some 68, .load 1 false (.t 67), some (65, false)⟩, ⟨some 69, .fad 0 (.t 8), some (65, false)⟩, ⟨some 70, .load 1 false (.t 69), some (65, false)⟩, ⟨some 71, .call 178 [.t 66, .t 68, .t 70], some (65, false)⟩, ⟨some 72, .len (.t 71), some (65, false)⟩, ⟨some 73, .fad 0 (.t 2), some (65, false)⟩, ⟨some 74, .fad 2 (.t 73), some (65, false)⟩, ⟨some 75, .load 1 false (.t 74), some (65, false)⟩, ⟨some 76, .bin .gtr (.t 72) (.t 75), some (65, false)⟩, ⟨some 77, .pick (.t 65) (.v (.bool true)) (.t 76), some (55, true)⟩, o 78 (.pick (.t 55) (.t 77) (.v (.bool false)))])
    (.ite (.t 78) (sq [o 4 (.mv (.v (.bool false)))]
     .ret)
    .skip))))
   (.ops [o 79 (.bin .add (.t 48) (iv 1)), om 48 79])))))))
 (sq [o 4 (.mv (.v (.bool true)))]
 .ret)))))
noncomputable def X.s_sGood (p0 : TBoard) (p1 : TState) : Option Bool :=
 ((X.s_bGood p0).bind fun v11 => (bif (!v11) then some false else ((X.s_l1In p1.Turn 0 p0.Rules.Turns).bind fun v14 => (bif (!v14) then some false else ((X.s_l1In p1.Weather 0 2).bind fun v17 => (bif (!v17) then some false else (bif (decide ((p1.Units.length : Int) > 12)) then some false else ((loop (fun (x63 : Int) => ((bif (decide (x63 < (p1.Units.length : Int))) then ((at' zTUnit p1.Units x63).bind fun v66 => ((X.s_sUnit p0 v66).bind fun v68 => (bif (!v68) then some (Sum.inr (Sum.inr false)) else some (Sum.inl (W (x63 + 1)))))) else some (Sum.inr (Sum.inl ()))) : Option (Int ⊕ (Unit ⊕ Bool)))) 0).bind fun y71 => (Sum.elim (fun (y73 : Unit) => ((loop (fun (x98 : Int) => ((bif (decide (x98 < (p1.Units.length : Int))) then ((at' zTUnit p1.Units x98).bind fun v101 => (bif (decide (v101.At ≥ 0)) then ((X.s_sAt p1 v101.At (W (1 - v101.Side))).bind fun v104 => (bif (decide ((v104.length : Int) > 0)) then some (Sum.inr (Sum.inr false)) else ((X.s_sAt p1 v101.At v101.Side).bind fun v107 => (bif (decide ((v107.length : Int) > p0.Rules.Stack)) then some (Sum.inr (Sum.inr false)) else some (Sum.inl (W (x98 + 1))))))) else some (Sum.inl (W (x98 + 1))))) else some (Sum.inr (Sum.inl ()))) : Option (Int ⊕ (Unit ⊕ Bool)))) 0).bind fun y110 => (Sum.elim (fun (y112 : Unit) => some true) (fun (y113 : Bool) => some y113) y110))) (fun (y74 : Bool) => some y74) y71)))))))))
theorem s_sGood_ok (p0 : TBoard) (p1 : TState) (r : Bool) (H : X.s_sGood p0 p1 = some r) : FnOk Tryz.prog gl 123 [.agg (eTBoard p0), .agg (eTState p1)] (cB r) := by
 unfold X.s_sGood at H
 refine fi Tryz.f123 s_sGood_ir [(4, cB r)] [] glL Tryz.func123 ?_
 refine so [] [] [(2, pk 2), (3, pk 3)] [(2, va (eTBoard p0)), (3, va (eTState p1))] id ?_
 refine seq_in ?_
 obtain ⟨v11, h12, H⟩ := ofBind H
 rcases ofCond H with ⟨c13, H⟩ | ⟨c13, H⟩
 ·refine so [.res (cB v11), .g true, .g true, .g true, .g true, .g true, .g true, .g true, .g true, .g true, .g true, .g true, .g true, .g true, .g true, .g true, .g true, .g true, .g true] [] [(2, pk 2), (3, pk 3), (32, cB true)] [(2, va (eTBoard p0)), (3, va (eTState p1))] (fun t => aI (s_bGood_ok p0 v11 h12) (aI c13 (aI c13 (aI c13 (aI c13 (aI c13 (aI c13 (aI c13 (aI c13 (aI (rfl : (true : Bool) = true) (aI (rfl : (true : Bool) = true) (aI (rfl : (true : Bool) = true) (aI (rfl : (true : Bool) = true) (aI (rfl : (true : Bool) = true) (aI (rfl : (true : Bool) = true) (aI (rfl : (true : Bool) = true) (aI (rfl : (true : Bool) = true) (aI (rfl : (true : Bool) = true) (aI (rfl : (true : Bool) = true) (t)))))))))))))))))))) ?_
  refine it (rfl : (true : Bool) = true) ?_
  refine so [] [] [(4, cB false)] [] id ?_
  refine ends_ret ?_
  cases H
  exact And.intro (.inl rfl) rfl
 ·obtain ⟨v14, h15, H⟩ := ofBind H
  rcases ofCond H with ⟨c16, H⟩ | ⟨c16, H⟩
  ·refine so [.res (cB v11), .g false, .g false, .g false, .g false, .g false, .g false, .res (cB v14), .g false, .g false, .g true, .g true, .g true, .g true, .g true, .g true, .g true, .g true, .g true, .g true] [] [(2, pk 2), (3, pk 3), (32, cB true)] [(2, va (eTBoard p0)), (3, va (eTState p1))] (fun t => aI (s_bGood_ok p0 v11 h12) (aI c13 (aI c13 (aI c13 (aI c13 (aI c13 (aI c13 (aI (s_l1In_ok p1.Turn 0 p0.Rules.Turns v14 h15) (aI c13 (aI c13 (aI c16 (aI c16 (aI c16 (aI c16 (aI c16 (aI (rfl : (true : Bool) = true) (aI (rfl : (true : Bool) = true) (aI (rfl : (true : Bool) = true) (aI (rfl : (true : Bool) = true) (aI (rfl : (true : Bool) = true) (t))))))))))))))))))))) ?_
   refine it (rfl : (true : Bool) = true) ?_
   refine so [] [] [(4, cB false)] [] id ?_
   refine ends_ret ?_
   cases H
   exact And.intro (.inl rfl) rfl
  ·obtain ⟨v17, h18, H⟩ := ofBind H
   rcases ofCond H with ⟨c19, H⟩ | ⟨c19, H⟩
   ·refine so [.res (cB v11), .g false, .g false, .g false, .g false, .g false, .g false, .res (cB v14), .g false, .g false, .g false, .g false, .g false, .res (cB v17), .g false, .g false, .g true, .g true, .g true, .g true, .g true] [] [(2, pk 2), (3, pk 3), (32, cB true)] [(2, va (eTBoard p0)), (3, va (eTState p1))] (fun t => aI (s_bGood_ok p0 v11 h12) (aI c13 (aI c13 (aI c13 (aI c13 (aI c13 (aI c13 (aI (s_l1In_ok p1.Turn 0 p0.Rules.Turns v14 h15) (aI c13 (aI c13 (aI c16 (aI c16 (aI c16 (aI (s_l1In_ok p1.Weather 0 2 v17 h18) (aI c16 (aI c16 (aI c19 (aI c19 (aI c19 (aI c19 (aI c19 (t)))))))))))))))))))))) ?_
    refine it (rfl : (true : Bool) = true) ?_
    refine so [] [] [(4, cB false)] [] id ?_
    refine ends_ret ?_
    cases H
    exact And.intro (.inl rfl) rfl
   ·refine so [.res (cB v11), .g false, .g false, .g false, .g false, .g false, .g false, .res (cB v14), .g false, .g false, .g false, .g false, .g false, .res (cB v17), .g false, .g false, .g false, .g false, .g false, .g false, .g false] [] [(2, pk 2), (3, pk 3), (32, cB (decide ((p1.Units.length : Int) > 12)))] [(2, va (eTBoard p0)), (3, va (eTState p1))] (fun t => aI (s_bGood_ok p0 v11 h12) (aI c13 (aI c13 (aI c13 (aI c13 (aI c13 (aI c13 (aI (s_l1In_ok p1.Turn 0 p0.Rules.Turns v14 h15) (aI c13 (aI c13 (aI c16 (aI c16 (aI c16 (aI (s_l1In_ok p1.Weather 0 2 v17 h18) (aI c16 (aI c16 (aI c19 (aI c19 (aI c19 (lI p1.Units (aI c19 (aI c19 (t))))))))))))))))))))))) ?_
    rcases ofCond H with ⟨c20, H⟩ | ⟨c20, H⟩
    ·refine it c20 ?_
     refine so [] [] [(4, cB false)] [] id ?_
     refine ends_ret ?_
     cases H
     exact And.intro (.inl rfl) rfl
    ·refine jf c20 ?_
     refine sk ?_
     refine seq_in ?_
     refine so [] [] [(2, pk 2), (3, pk 3), (34, dc 4 eTUnit zTUnit p1.Units), (35, cL p1.Units), (36, cI 0)] [(2, va (eTBoard p0)), (3, va (eTState p1))] (fun t => lI p1.Units (t)) ?_
     refine ends_blk ?_
     obtain ⟨y71, h72, H⟩ := ofBind H
     refine loop_in (fun (x : Int) => lit [(2, pk 2), (3, pk 3), (34, dc 4 eTUnit zTUnit p1.Units), (35, cL p1.Units), (36, cI x)] [(2, va (eTBoard p0)), (3, va (eTState p1))]) (orJ (fun (z : Unit) => At (.exit 0) (lit [(2, pk 2), (3, pk 3)] [(2, va (eTBoard p0)), (3, va (eTState p1))])) (fun (z : Bool) => At .ret (lit [(4, cB z)] []))) h72 ?_ ?_
     ·clear H h72
      intro x63 y0 H
      refine so [] [] [(2, pk 2), (3, pk 3), (34, dc 4 eTUnit zTUnit p1.Units), (35, cL p1.Units), (36, cI x63), (37, cB (decide (x63 < (p1.Units.length : Int))))] [(2, va (eTBoard p0)), (3, va (eTState p1))] id ?_
      refine seq_in ?_
      rcases ofCond H with ⟨c65, H⟩ | ⟨c65, H⟩
      ·refine it c65 ?_
       refine sk ?_
       refine seq_in ?_
       refine ends_blk ?_
       obtain ⟨v66, h67, H⟩ := ofBind H
       refine so [.cs (eTUnit v66)] [] [(2, pk 2), (3, pk 3), (6, pk 6), (34, dc 4 eTUnit zTUnit p1.Units), (35, cL p1.Units), (36, cI x63)] [(2, va (eTBoard p0)), (3, va (eTState p1)), (6, va (eTUnit v66))] (a2 eTUnit h67) ?_
       obtain ⟨v68, h69, H⟩ := ofBind H
       refine so [.res (cB v68)] [] [(2, pk 2), (3, pk 3), (34, dc 4 eTUnit zTUnit p1.Units), (35, cL p1.Units), (36, cI x63), (43, cB (!v68))] [(2, va (eTBoard p0)), (3, va (eTState p1))] (aI (s_sUnit_ok p0 v66 v68 h69)) ?_
       rcases ofCond H with ⟨c70, H⟩ | ⟨c70, H⟩
       ·refine it c70 ?_
        refine so [] [] [(4, cB false)] [] id ?_
        refine ends_ret ?_
        cases H
        exact And.intro (by simp) (And.intro rfl rfl)
       ·refine jf c70 ?_
        refine sk ?_
        refine oo [] [] [(2, pk 2), (3, pk 3), (34, dc 4 eTUnit zTUnit p1.Units), (35, cL p1.Units), (36, cI (W (x63 + 1)))] [(2, va (eTBoard p0)), (3, va (eTState p1))] id ?_
        cases H
        exact And.intro rfl rfl
      ·refine jf c65 ?_
       refine tl [] [(2, pk 2), (3, pk 3)] [(2, va (eTBoard p0)), (3, va (eTState p1))] id ?_
       refine ends_exit ?_
       cases H
       exact And.intro (by simp) (And.intro rfl rfl)
     ·clear h72
      cases y71 with
      | inl y73 =>
       replace H := ofInl H
       intro e s q
       obtain ⟨rfl, rfl⟩ := q
       change EndsI _ _ _ _ _ _
       refine seq_in ?_
       refine so [] [] [(2, pk 2), (3, pk 3), (46, dc 4 eTUnit zTUnit p1.Units), (47, cL p1.Units), (48, cI 0)] [(2, va (eTBoard p0)), (3, va (eTState p1))] (fun t => lI p1.Units (t)) ?_
       refine ends_blk ?_
       obtain ⟨y110, h111, H⟩ := ofBind H
       refine loop_in (fun (x : Int) => lit [(2, pk 2), (3, pk 3), (46, dc 4 eTUnit zTUnit p1.Units), (47, cL p1.Units), (48, cI x)] [(2, va (eTBoard p0)), (3, va (eTState p1))]) (orJ (fun (z : Unit) => At (.exit 2) (lit [] [])) (fun (z : Bool) => At .ret (lit [(4, cB z)] []))) h111 ?_ ?_
       ·clear H h111
        intro x98 y0 H
        refine so [] [] [(2, pk 2), (3, pk 3), (46, dc 4 eTUnit zTUnit p1.Units), (47, cL p1.Units), (48, cI x98), (49, cB (decide (x98 < (p1.Units.length : Int))))] [(2, va (eTBoard p0)), (3, va (eTState p1))] id ?_
        refine seq_in ?_
        rcases ofCond H with ⟨c100, H⟩ | ⟨c100, H⟩
        ·refine it c100 ?_
         refine sk ?_
         refine seq_in ?_
         refine ends_blk ?_
         obtain ⟨v101, h102, H⟩ := ofBind H
         refine so [.cs (eTUnit v101)] [] [(2, pk 2), (3, pk 3), (8, pk 8), (46, dc 4 eTUnit zTUnit p1.Units), (47, cL p1.Units), (48, cI x98)] [(2, va (eTBoard p0)), (3, va (eTState p1)), (8, va (eTUnit v101))] (a2 eTUnit h102) ?_
         rcases ofCond H with ⟨c103, H⟩ | ⟨c103, H⟩
         ·obtain ⟨v104, h105, H⟩ := ofBind H
          rcases ofCond H with ⟨c106, H⟩ | ⟨c106, H⟩
          ·refine sd [.g true, .g true, .g true, .g true, .g true, .g true, .g true, .res (dc 1 eI zI v104), .g true, .g true, .g true, .g true, .g true, .g true, .g true, .g true, .g true, .g true, .g true, .g true, .g true, .g true, .g true, .g true, .g true] [] [(2, pk 2), (3, pk 3), (46, dc 4 eTUnit zTUnit p1.Units), (47, cL p1.Units), (48, cI x98), (78, cB true)] [(2, va (eTBoard p0)), (3, va (eTState p1))] (fun t => aI c103 (aI c103 (aI c103 (aI c103 (aI c103 (aI c103 (aI c103 (aI (s_sAt_ok p1 v101.At (W (1 - v101.Side)) v104 h105) (aI (rfl : ([] : List Nat) = []) (aI (rfl : ([] : List Nat) = []) (aI c103 (aI c103 (aI c103 (aI c106 (aI c106 (aI c106 (aI c106 (aI c106 (aI c106 (aI c106 (aI c106 (aI c106 (aI c106 (aI c106 (aI c103 (aI c106 (aI c103 (t)))))))))))))))))))))))))))) ?_
           refine it (rfl : (true : Bool) = true) ?_
           refine so [] [] [(4, cB false)] [] id ?_
           refine ends_ret ?_
           cases H
           exact And.intro (by simp) (And.intro rfl rfl)
          ·obtain ⟨v107, h108, H⟩ := ofBind H
           refine sd [.g true, .g true, .g true, .g true, .g true, .g true, .g true, .res (dc 1 eI zI v104), .g true, .g true, .g true, .g false, .g false, .g false, .g false, .g false, .g false, .res (dc 1 eI zI v107), .g false, .g false, .g false, .g false, .g false, .g true, .g false, .g true] [] [(2, pk 2), (3, pk 3), (46, dc 4 eTUnit zTUnit p1.Units), (47, cL p1.Units), (48, cI x98), (78, cB (decide ((v107.length : Int) > p0.Rules.Stack)))] [(2, va (eTBoard p0)), (3, va (eTState p1))] (fun t => aI c103 (aI c103 (aI c103 (aI c103 (aI c103 (aI c103 (aI c103 (aI (s_sAt_ok p1 v101.At (W (1 - v101.Side)) v104 h105) (aI (rfl : ([] : List Nat) = []) (aI (rfl : ([] : List Nat) = []) (aI c103 (aI c103 (aI c103 (aI c106 (aI c106 (aI c106 (aI c106 (aI c106 (aI c106 (aI (s_sAt_ok p1 v101.At v101.Side v107 h108) (aI (rfl : ([] : List Nat) = []) (aI (rfl : ([] : List Nat) = []) (aI c106 (aI c106 (aI c106 (aI c106 (aI c106 (aI c103 (aI c106 (aI c103 (t))))))))))))))))))))))))))))))) ?_
           rcases ofCond H with ⟨c109, H⟩ | ⟨c109, H⟩
           ·refine it c109 ?_
            refine so [] [] [(4, cB false)] [] id ?_
            refine ends_ret ?_
            cases H
            exact And.intro (by simp) (And.intro rfl rfl)
           ·refine jf c109 ?_
            refine sk ?_
            refine oo [] [] [(2, pk 2), (3, pk 3), (46, dc 4 eTUnit zTUnit p1.Units), (47, cL p1.Units), (48, cI (W (x98 + 1)))] [(2, va (eTBoard p0)), (3, va (eTState p1))] id ?_
            cases H
            exact And.intro rfl rfl
         ·refine sd [.g false, .g false, .g false, .g false, .g false, .g false, .g false, .g false, .g false, .g false, .g false, .g false] [] [(2, pk 2), (3, pk 3), (46, dc 4 eTUnit zTUnit p1.Units), (47, cL p1.Units), (48, cI x98), (78, cB false)] [(2, va (eTBoard p0)), (3, va (eTState p1))] (fun t => aI c103 (aI c103 (aI c103 (aI c103 (aI c103 (aI c103 (aI c103 (aI c103 (aI c103 (aI c103 (aI c103 (aI c103 (t))))))))))))) ?_
          refine jf (rfl : (false : Bool) = false) ?_
          refine sk ?_
          refine oo [] [] [(2, pk 2), (3, pk 3), (46, dc 4 eTUnit zTUnit p1.Units), (47, cL p1.Units), (48, cI (W (x98 + 1)))] [(2, va (eTBoard p0)), (3, va (eTState p1))] id ?_
          cases H
          exact And.intro rfl rfl
        ·refine jf c100 ?_
         refine tl [] [] [] id ?_
         refine ends_exit ?_
         cases H
         exact And.intro (by simp) (And.intro rfl rfl)
       ·clear h111
        cases y110 with
        | inl y112 =>
         replace H := ofInl H
         intro e s q
         obtain ⟨rfl, rfl⟩ := q
         change EndsI _ _ _ _ _ _
         refine so [] [] [(4, cB true)] [] id ?_
         refine ends_ret ?_
         cases H
         exact And.intro (.inl rfl) rfl
        | inr y113 =>
         replace H := ofInr H
         intro e s q
         obtain ⟨rfl, rfl⟩ := q
         cases H
         exact And.intro (.inl rfl) rfl
      | inr y74 =>
       replace H := ofInr H
       intro e s q
       obtain ⟨rfl, rfl⟩ := q
       cases H
       exact And.intro (.inl rfl) rfl
def s_fgSide_ir : S :=
 (sq [o 3 (.box 12 (.t 0)), o 4 (.box 3 (.t 1)), o 6 (.mv (.v (.bool false)))]
 (sq [o 7 (.load 12 true (.t 3)), o 8 (.load 3 true (.t 4)), o 9 (.call 123 [.t 7, .t 8]), om 10 9, ⟨some 11, .mv (.t 2), some (10, true)⟩, ⟨some 12, .call 124 [.t 11, .v (.int .i64 0), .v (.int .i64 1)], some (10, true)⟩, o 13 (.pick (.t 10) (.t 12) (.v (.bool false))), om 6 13]
 .ret))
noncomputable def X.s_fgSide (p0 : TBoard) (p1 : TState) (p2 : Int) : Option Bool :=
 ((X.s_sGood p0 p1).bind fun v1 => (bif v1 then ((X.s_l1In p2 0 1).bind fun v4 => some v4) else some false))
theorem s_fgSide_ok (p0 : TBoard) (p1 : TState) (p2 : Int) (r : Bool) (H : X.s_fgSide p0 p1 p2 = some r) : FnOk Tryz.prog gl 60 [.agg (eTBoard p0), .agg (eTState p1), cI p2] (cB r) := by
 unfold X.s_fgSide at H
 refine fi Tryz.f60 s_fgSide_ir [(6, cB r)] [] glL Tryz.func60 ?_
 refine so [] [] [(2, cI p2), (3, pk 3), (4, pk 4)] [(3, va (eTBoard p0)), (4, va (eTState p1))] id ?_
 obtain ⟨v1, h2, H⟩ := ofBind H
 rcases ofCond H with ⟨c3, H⟩ | ⟨c3, H⟩
 ·obtain ⟨v4, h5, H⟩ := ofBind H
  refine so [.res (cB v1), .g true, .g true, .res (cB v4), .g true] [] [(6, cB v4)] [] (fun t => aI (s_sGood_ok p0 p1 v1 h2) (aI c3 (aI c3 (aI (s_l1In_ok p2 0 1 v4 h5) (aI c3 (t)))))) ?_
  refine ends_ret ?_
  cases H
  exact And.intro (.inl rfl) rfl
 ·refine so [.res (cB v1), .g false, .g false, .g false] [] [(6, cB false)] [] (fun t => aI (s_sGood_ok p0 p1 v1 h2) (aI c3 (aI c3 (aI c3 (t))))) ?_
  refine ends_ret ?_
  cases H
  exact And.intro (.inl rfl) rfl
def s_sOf_ir : S :=
 (sq [o 2 (.box 3 (.t 0)), o 4 (.mv (.v (.nil)))]
 (sq [o 5 (.mv (.v (.nil)))]
 (.seq (sq [o 8 (.fad 2 (.t 2)), o 9 (.load 1 false (.t 8)), o 10 (.len (.t 9)), o 11 (.mv (iv 0))]
 (.blk 0 (.loop (sq [o 12 (.bin .lss (.t 11) (.t 10))]
   (.seq (.ite (.t 12) .skip
   (.exit 0))
   (.seq (.blk 1 (sq [om 13 11, o 14 (.iad 4 (.t 9) (.t 11)), o 15 (.load 4 true (.t 14)), o 7 (.alloc [.int .i64 0, .int .i64 0, .int .i64 0, .int .i64 0]), om 6 13, ⟨none, .store 4 (.t 7) (.t 15), none⟩]
    (sq [o 16 (.fad 0 (.t 7)), o 17 (.load 1 false (.t 16)), om 18 1, o 19 (.bin .eql (.t 17) (.t 18)), om 20 19, ⟨some 21, .fad 2 (.t 7), some (20, true)⟩, ⟨some 22, .load 1 false (.t 21), some (20, true)⟩, ⟨some 23, .bin .geq (.t 22) (iv 0), some (20, true)⟩, o 24 (.pick (.t 20) (.t 23) (.v (.bool false)))]
    (.ite (.t 24) (.ops [om 25 5, om 26 6, o 27 (.bsl 1 [.t 26]), o 28 (.app 1 8 (.t 25) (.t 27)), om 5 28])
    .skip))))
   (.ops [o 29 (.bin .add (.t 11) (iv 1)), om 11 29])))))))
 (sq [om 30 5, om 4 30]
 .ret))))
noncomputable def X.s_sOf (p0 : TState) (p1 : Int) : Option (List Int) :=
 ((loop (fun (x16 : (Int × (List Int))) => ((bif (decide (x16.1 < (p0.Units.length : Int))) then ((at' zTUnit p0.Units x16.1).bind fun v19 => (bif (v19.Side == p1) then (bif (decide (v19.At ≥ 0)) then (if (x16.2 ++ ([x16.1] : List Int)).length ≤ LIM then some (Sum.inl ((W (x16.1 + 1)), (x16.2 ++ ([x16.1] : List Int)))) else none) else some (Sum.inl ((W (x16.1 + 1)), x16.2))) else some (Sum.inl ((W (x16.1 + 1)), x16.2)))) else some (Sum.inr x16.2)) : Option ((Int × (List Int)) ⊕ (List Int)))) (0, ([] : List Int))).bind fun y24 => some y24)
theorem s_sOf_ok (p0 : TState) (p1 : Int) (r : (List Int)) (H : X.s_sOf p0 p1 = some r) : FnOk Tryz.prog gl 61 [.agg (eTState p0), cI p1] (.c (dat 1 eI zI r)) := by
 unfold X.s_sOf at H
 refine fi Tryz.f61 s_sOf_ir [(4, dc 1 eI zI r)] [] glL Tryz.func61 ?_
 refine so [] [] [(1, cI p1), (2, pk 2)] [(2, va (eTState p0))] id ?_
 refine so [] [] [(1, cI p1), (2, pk 2), (5, .c (.nil))] [(2, va (eTState p0))] id ?_
 refine seq_in ?_
 refine so [] [] [(1, cI p1), (5, .c (.nil)), (9, dc 4 eTUnit zTUnit p0.Units), (10, cL p0.Units), (11, cI 0)] [] (fun t => lI p0.Units (t)) ?_
 refine ends_blk ?_
 obtain ⟨y24, h25, H⟩ := ofBind H
 refine tl [.nlo 5 1001 1 (fF eI zI ([] : List Int))] [(1, cI p1), (5, ow 1001 1 ([] : List Int)), (9, dc 4 eTUnit zTUnit p0.Units), (10, cL p0.Units), (11, cI 0)] [(1001, ar 1 eI zI ([] : List Int))] (aI (by decide : 0 < 1)) ?_
 refine loop_in (fun (x : (Int × (List Int))) => lit [(1, cI p1), (5, ow 1001 1 x.2), (9, dc 4 eTUnit zTUnit p0.Units), (10, cL p0.Units), (11, cI x.1)] [(1001, ar 1 eI zI x.2)]) (fun (z : (List Int)) => At (.exit 0) (lit [(5, ow 1001 1 z)] [(1001, ar 1 eI zI z)])) h25 ?_ ?_
 ·clear H h25
  intro x16 y0 H
  refine so [] [] [(1, cI p1), (5, ow 1001 1 x16.2), (9, dc 4 eTUnit zTUnit p0.Units), (10, cL p0.Units), (11, cI x16.1), (12, cB (decide (x16.1 < (p0.Units.length : Int))))] [(1001, ar 1 eI zI x16.2)] id ?_
  refine seq_in ?_
  rcases ofCond H with ⟨c18, H⟩ | ⟨c18, H⟩
  ·refine it c18 ?_
   refine sk ?_
   refine seq_in ?_
   refine ends_blk ?_
   obtain ⟨v19, h20, H⟩ := ofBind H
   refine so [.cs (eTUnit v19)] [] [(1, cI p1), (5, ow 1001 1 x16.2), (6, cI x16.1), (7, pk 7), (9, dc 4 eTUnit zTUnit p0.Units), (10, cL p0.Units), (11, cI x16.1)] [(7, va (eTUnit v19)), (1001, ar 1 eI zI x16.2)] (a2 eTUnit h20) ?_
   rcases ofCond H with ⟨c21, H⟩ | ⟨c21, H⟩
   ·refine so [.g true, .g true, .g true, .g true] [] [(1, cI p1), (5, ow 1001 1 x16.2), (6, cI x16.1), (9, dc 4 eTUnit zTUnit p0.Units), (10, cL p0.Units), (11, cI x16.1), (24, cB (decide (v19.At ≥ 0)))] [(1001, ar 1 eI zI x16.2)] (fun t => aI c21 (aI c21 (aI c21 (aI c21 (t))))) ?_
    rcases ofCond H with ⟨c22, H⟩ | ⟨c22, H⟩
    ·refine it c22 ?_
     obtain ⟨g23, H⟩ := ofIf H
     refine oo [fh eI zI ([x16.1] : List Int), fh eI zI (x16.2 ++ ([x16.1] : List Int))] [] [(1, cI p1), (5, ow 28 1 (x16.2 ++ ([x16.1] : List Int))), (9, dc 4 eTUnit zTUnit p0.Units), (10, cL p0.Units), (11, cI x16.1)] [(28, ar 1 eI zI (x16.2 ++ ([x16.1] : List Int)))] (fun t => aI (rfl : ([x16.1] : List Int).length = 1) (aI (fF_lit eI zI ([x16.1] : List Int)) (aI (And.intro (Nat.le_refl x16.2.length) (And.intro (@List.length_append _ x16.2 ([x16.1] : List Int)) g23)) (aI (fF_appL eI zI x16.2 ([x16.1] : List Int)) (aI (fF_appR eI zI x16.2 ([x16.1] : List Int)) (t)))))) ?_
     change EndsI _ _ _ _ _ _
     refine oo [] [.ren 28 1001] [(1, cI p1), (5, ow 1001 1 (x16.2 ++ ([x16.1] : List Int))), (9, dc 4 eTUnit zTUnit p0.Units), (10, cL p0.Units), (11, cI (W (x16.1 + 1)))] [(1001, ar 1 eI zI (x16.2 ++ ([x16.1] : List Int)))] id ?_
     cases H
     exact And.intro rfl rfl
    ·refine jf c22 ?_
     refine sk ?_
     refine oo [] [] [(1, cI p1), (5, ow 1001 1 x16.2), (9, dc 4 eTUnit zTUnit p0.Units), (10, cL p0.Units), (11, cI (W (x16.1 + 1)))] [(1001, ar 1 eI zI x16.2)] id ?_
     cases H
     exact And.intro rfl rfl
   ·refine so [.g false, .g false, .g false, .g false] [] [(1, cI p1), (5, ow 1001 1 x16.2), (6, cI x16.1), (9, dc 4 eTUnit zTUnit p0.Units), (10, cL p0.Units), (11, cI x16.1), (24, cB false)] [(1001, ar 1 eI zI x16.2)] (fun t => aI c21 (aI c21 (aI c21 (aI c21 (t))))) ?_
    refine jf (rfl : (false : Bool) = false) ?_
    refine sk ?_
    refine oo [] [] [(1, cI p1), (5, ow 1001 1 x16.2), (9, dc 4 eTUnit zTUnit p0.Units), (10, cL p0.Units), (11, cI (W (x16.1 + 1)))] [(1001, ar 1 eI zI x16.2)] id ?_
    cases H
    exact And.intro rfl rfl
  ·refine jf c18 ?_
   refine tl [] [(5, ow 1001 1 x16.2)] [(1001, ar 1 eI zI x16.2)] id ?_
   refine ends_exit ?_
   cases H
   exact And.intro (by simp) (And.intro rfl rfl)
 ·clear h25
  intro e s q
  obtain ⟨rfl, rfl⟩ := q
  change EndsI _ _ _ _ _ _
  refine so [] [] [(4, ow 1001 1 y24)] [(1001, ar 1 eI zI y24)] id ?_
  refine tl [.frz 4] [(4, dc 1 eI zI y24)] [] (aI (Nat.le_refl y24.length)) ?_
  refine ends_ret ?_
  cases H
  exact And.intro (.inl rfl) rfl
def s_l1Has_ir : S :=
 (sq [o 4 (.mv (.v (.bool false)))]
 (.seq (sq [om 7 0, o 8 (.len (.t 7)), o 9 (.mv (iv 0))]
 (.blk 0 (.loop (sq [o 10 (.bin .lss (.t 9) (.t 8))]
   (.seq (.ite (.t 10) .skip
   (.exit 0))
   (.seq (.blk 1 (sq [o 11 (.iad 1 (.t 7) (.t 9)), o 12 (.load 1 false (.t 11)), om 6 12]
    (sq [om 13 6, om 14 1, o 15 (.bin .eql (.t 13) (.t 14))]
    (.ite (.t 15) (sq [o 4 (.mv (.v (.bool true)))]
     .ret)
    .skip))))
   (.ops [o 16 (.bin .add (.t 9) (iv 1)), om 9 16])))))))
 (sq [o 4 (.mv (.v (.bool false)))]
 .ret)))
noncomputable def X.s_l1Has (p0 : (List Int)) (p1 : Int) : Option Bool :=
 ((loop (fun (x12 : Int) => ((bif (decide (x12 < (p0.length : Int))) then ((at' zI p0 x12).bind fun v15 => (bif (v15 == p1) then some (Sum.inr (Sum.inr true)) else some (Sum.inl (W (x12 + 1))))) else some (Sum.inr (Sum.inl ()))) : Option (Int ⊕ (Unit ⊕ Bool)))) 0).bind fun y18 => (Sum.elim (fun (y20 : Unit) => some false) (fun (y21 : Bool) => some y21) y18))
theorem s_l1Has_ok (p0 : (List Int)) (p1 : Int) (r : Bool) (H : X.s_l1Has p0 p1 = some r) : FnOk Tryz.prog gl 106 [.c (dat 1 eI zI p0), cI p1] (cB r) := by
 unfold X.s_l1Has at H
 refine fi Tryz.f106 s_l1Has_ir [(4, cB r)] [] glL Tryz.func106 ?_
 refine so [] [] [(0, dc 1 eI zI p0), (1, cI p1)] [] id ?_
 refine seq_in ?_
 refine so [] [] [(1, cI p1), (7, dc 1 eI zI p0), (8, cL p0), (9, cI 0)] [] (fun t => lI p0 (t)) ?_
 refine ends_blk ?_
 obtain ⟨y18, h19, H⟩ := ofBind H
 refine loop_in (fun (x : Int) => lit [(1, cI p1), (7, dc 1 eI zI p0), (8, cL p0), (9, cI x)] []) (orJ (fun (z : Unit) => At (.exit 0) (lit [] [])) (fun (z : Bool) => At .ret (lit [(4, cB z)] []))) h19 ?_ ?_
 ·clear H h19
  intro x12 y0 H
  refine so [] [] [(1, cI p1), (7, dc 1 eI zI p0), (8, cL p0), (9, cI x12), (10, cB (decide (x12 < (p0.length : Int))))] [] id ?_
  refine seq_in ?_
  rcases ofCond H with ⟨c14, H⟩ | ⟨c14, H⟩
  ·refine it c14 ?_
   refine sk ?_
   refine seq_in ?_
   refine ends_blk ?_
   obtain ⟨v15, h16, H⟩ := ofBind H
   refine so [.cs (eI v15)] [] [(1, cI p1), (6, cI v15), (7, dc 1 eI zI p0), (8, cL p0), (9, cI x12)] [] (a2 eI h16) ?_
   refine so [] [] [(1, cI p1), (7, dc 1 eI zI p0), (8, cL p0), (9, cI x12), (15, cB (v15 == p1))] [] id ?_
   rcases ofCond H with ⟨c17, H⟩ | ⟨c17, H⟩
   ·refine it c17 ?_
    refine so [] [] [(4, cB true)] [] id ?_
    refine ends_ret ?_
    cases H
    exact And.intro (by simp) (And.intro rfl rfl)
   ·refine jf c17 ?_
    refine sk ?_
    refine oo [] [] [(1, cI p1), (7, dc 1 eI zI p0), (8, cL p0), (9, cI (W (x12 + 1)))] [] id ?_
    cases H
    exact And.intro rfl rfl
  ·refine jf c14 ?_
   refine tl [] [] [] id ?_
   refine ends_exit ?_
   cases H
   exact And.intro (by simp) (And.intro rfl rfl)
 ·clear h19
  cases y18 with
  | inl y20 =>
   replace H := ofInl H
   intro e s q
   obtain ⟨rfl, rfl⟩ := q
   change EndsI _ _ _ _ _ _
   refine so [] [] [(4, cB false)] [] id ?_
   refine ends_ret ?_
   cases H
   exact And.intro (.inl rfl) rfl
  | inr y21 =>
   replace H := ofInr H
   intro e s q
   obtain ⟨rfl, rfl⟩ := q
   cases H
   exact And.intro (.inl rfl) rfl
def s_sHex_ir : S :=
 (sq [o 3 (.box 12 (.t 0)), o 4 (.box 3 (.t 1)), o 6 (.mv (.v (.bool false)))]
 (sq [o 7 (.load 12 true (.t 3)), o 8 (.load 3 true (.t 4)), o 9 (.call 123 [.t 7, .t 8]), om 10 9, ⟨some 11, .mv (.t 2), some (10, true)⟩, ⟨some 12, .fad 7 (.t 3), some (10, true)⟩, ⟨some 13, .load 5 true (.t 12), some (10, true)⟩, ⟨some 14, .call 142 [.t 13], some (10, true)⟩, ⟨some 15, .bin .sub (.t 14) (iv 1), some (10, true)⟩, ⟨some 16, .call 124 [.t 11, .v (.int .i64 0), .t 15], some (10, true)⟩, o 17 (.pick (.t 10) (.t 16) (.v (.bool false))), om 6 17]
 .ret))
noncomputable def X.s_sHex (p0 : TBoard) (p1 : TState) (p2 : Int) : Option Bool :=
 ((X.s_sGood p0 p1).bind fun v1 => (bif v1 then ((X.s_mSize p0.Map).bind fun v4 => ((X.s_l1In p2 0 (W (v4 - 1))).bind fun v6 => some v6)) else some false))
theorem s_sHex_ok (p0 : TBoard) (p1 : TState) (p2 : Int) (r : Bool) (H : X.s_sHex p0 p1 p2 = some r) : FnOk Tryz.prog gl 113 [.agg (eTBoard p0), .agg (eTState p1), cI p2] (cB r) := by
 unfold X.s_sHex at H
 refine fi Tryz.f113 s_sHex_ir [(6, cB r)] [] glL Tryz.func113 ?_
 refine so [] [] [(2, cI p2), (3, pk 3), (4, pk 4)] [(3, va (eTBoard p0)), (4, va (eTState p1))] id ?_
 obtain ⟨v1, h2, H⟩ := ofBind H
 rcases ofCond H with ⟨c3, H⟩ | ⟨c3, H⟩
 ·obtain ⟨v4, h5, H⟩ := ofBind H
  obtain ⟨v6, h7, H⟩ := ofBind H
  refine so [.res (cB v1), .g true, .g true, .g true, .g true, .res (cI v4), .g true, .g true, .res (cB v6), .g true] [] [(6, cB v6)] [] (fun t => aI (s_sGood_ok p0 p1 v1 h2) (aI c3 (aI c3 (aI c3 (aI c3 (aI (s_mSize_ok p0.Map v4 h5) (aI c3 (aI c3 (aI (s_l1In_ok p2 0 (W (v4 - 1)) v6 h7) (aI c3 (t))))))))))) ?_
  refine ends_ret ?_
  cases H
  exact And.intro (.inl rfl) rfl
 ·refine so [.res (cB v1), .g false, .g false, .g false, .g false, .g false, .g false, .g false] [] [(6, cB false)] [] (fun t => aI (s_sGood_ok p0 p1 v1 h2) (aI c3 (aI c3 (aI c3 (aI c3 (aI c3 (aI c3 (aI c3 (t))))))))) ?_
  refine ends_ret ?_
  cases H
  exact And.intro (.inl rfl) rfl
def s_bAt_ir : S :=
 (sq [o 3 (.box 12 (.t 0)), o 6 (.mv (.v (.bool false)))]
 (sq [o 7 (.load 12 true (.t 3)), o 8 (.call 140 [.t 7]), om 9 8, ⟨some 10, .mv (.t 1), some (9, true)⟩, ⟨some 11, .fad 0 (.t 3), some (9, true)⟩, ⟨some 12, .fad 1 (.t 11), some (9, true)⟩, ⟨some 13, .load 1 false (.t 12), some (9, true)⟩, ⟨some 14, .len (.t 13), some (9, true)⟩, ⟨some 15, .bin .sub (.t 14) (iv 1), some (9, true)⟩, ⟨some 16, .call 124 [.t 10, .v (.int .i64 0), .t 15], some (9, true)⟩, o 17 (.pick (.t 9) (.t 16) (.v (.bool false))), om 18 17, ⟨some 19, .mv (.t 2), some (18, true)⟩, ⟨some 20, .fad 7 (.t 3), some (18, true)⟩, ⟨some 21, .load 5 true (.t 20), some (18, true)⟩, ⟨some 22, .call 142 [.t 21], some (18, true)⟩, ⟨some 23, .bin .sub (.t 22) (iv 1), some (18, true)⟩, ⟨some 24, .call 124 [.t 19, .v (.int .i64 0), .t 23], some (18, true)⟩, o 25 (.pick (.t 18) (.t 24) (.v (.bool false))), om 6 25]
 .ret))
noncomputable def X.s_bAt (p0 : TBoard) (p1 : Int) (p2 : Int) : Option Bool :=
 ((X.s_bGood p0).bind fun v1 => (bif v1 then ((X.s_l1In p1 0 (W ((p0.Rules.Kinds.length : Int) - 1))).bind fun v4 => (bif v4 then ((X.s_mSize p0.Map).bind fun v7 => ((X.s_l1In p2 0 (W (v7 - 1))).bind fun v9 => some v9)) else some false)) else some false))
theorem s_bAt_ok (p0 : TBoard) (p1 : Int) (p2 : Int) (r : Bool) (H : X.s_bAt p0 p1 p2 = some r) : FnOk Tryz.prog gl 92 [.agg (eTBoard p0), cI p1, cI p2] (cB r) := by
 unfold X.s_bAt at H
 refine fi Tryz.f92 s_bAt_ir [(6, cB r)] [] glL Tryz.func92 ?_
 refine so [] [] [(1, cI p1), (2, cI p2), (3, pk 3)] [(3, va (eTBoard p0))] id ?_
 obtain ⟨v1, h2, H⟩ := ofBind H
 rcases ofCond H with ⟨c3, H⟩ | ⟨c3, H⟩
 ·obtain ⟨v4, h5, H⟩ := ofBind H
  rcases ofCond H with ⟨c6, H⟩ | ⟨c6, H⟩
  ·obtain ⟨v7, h8, H⟩ := ofBind H
   obtain ⟨v9, h10, H⟩ := ofBind H
   refine so [.res (cB v1), .g true, .g true, .g true, .g true, .g true, .g true, .g true, .res (cB v4), .g true, .g true, .g true, .g true, .g true, .res (cI v7), .g true, .g true, .res (cB v9), .g true] [] [(6, cB v9)] [] (fun t => aI (s_bGood_ok p0 v1 h2) (aI c3 (aI c3 (aI c3 (aI c3 (aI c3 (lI p0.Rules.Kinds (aI c3 (aI c3 (aI (s_l1In_ok p1 0 (W ((p0.Rules.Kinds.length : Int) - 1)) v4 h5) (aI c3 (aI c6 (aI c6 (aI c6 (aI c6 (aI (s_mSize_ok p0.Map v7 h8) (aI c6 (aI c6 (aI (s_l1In_ok p2 0 (W (v7 - 1)) v9 h10) (aI c6 (t))))))))))))))))))))) ?_
   refine ends_ret ?_
   cases H
   exact And.intro (.inl rfl) rfl
  ·refine so [.res (cB v1), .g true, .g true, .g true, .g true, .g true, .g true, .g true, .res (cB v4), .g true, .g false, .g false, .g false, .g false, .g false, .g false, .g false] [] [(6, cB false)] [] (fun t => aI (s_bGood_ok p0 v1 h2) (aI c3 (aI c3 (aI c3 (aI c3 (aI c3 (lI p0.Rules.Kinds (aI c3 (aI c3 (aI (s_l1In_ok p1 0 (W ((p0.Rules.Kinds.length : Int) - 1)) v4 h5) (aI c3 (aI c6 (aI c6 (aI c6 (aI c6 (aI c6 (aI c6 (aI c6 (t))))))))))))))))))) ?_
   refine ends_ret ?_
   cases H
   exact And.intro (.inl rfl) rfl
 ·refine so [.res (cB v1), .g false, .g false, .g false, .g false, .g false, .g false, .g false, .g false, .g false, .g false, .g false, .g false, .g false, .g false, .g false] [] [(6, cB false)] [] (fun t => aI (s_bGood_ok p0 v1 h2) (aI c3 (aI c3 (aI c3 (aI c3 (aI c3 (aI c3 (aI c3 (aI c3 (aI (rfl : (false : Bool) = false) (aI (rfl : (false : Bool) = false) (aI (rfl : (false : Bool) = false) (aI (rfl : (false : Bool) = false) (aI (rfl : (false : Bool) = false) (aI (rfl : (false : Bool) = false) (aI (rfl : (false : Bool) = false) (t))))))))))))))))) ?_
  refine ends_ret ?_
  cases H
  exact And.intro (.inl rfl) rfl
def s_l1Most_ir : S :=
 (sq [o 4 (.mv (iv 0))]
 (.seq (sq [om 5 0, om 6 1, o 7 (.bin .gtr (.t 5) (.t 6))]
 (.ite (.t 7) (sq [om 8 0, om 4 8]
  .ret)
 .skip))
 (sq [om 9 1, om 4 9]
 .ret)))
noncomputable def X.s_l1Most (p0 : Int) (p1 : Int) : Option Int :=
 (bif (decide (p0 > p1)) then some p0 else some p1)
theorem s_l1Most_ok (p0 : Int) (p1 : Int) (r : Int) (H : X.s_l1Most p0 p1 = some r) : FnOk Tryz.prog gl 249 [cI p0, cI p1] (cI r) := by
 unfold X.s_l1Most at H
 refine fi Tryz.f249 s_l1Most_ir [(4, cI r)] [] glL Tryz.func249 ?_
 refine so [] [] [(0, cI p0), (1, cI p1)] [] id ?_
 refine seq_in ?_
 refine so [] [] [(0, cI p0), (1, cI p1), (7, cB (decide (p0 > p1)))] [] id ?_
 rcases ofCond H with ⟨c1, H⟩ | ⟨c1, H⟩
 ·refine it c1 ?_
  refine so [] [] [(4, cI p0)] [] id ?_
  refine ends_ret ?_
  cases H
  exact And.intro (.inl rfl) rfl
 ·refine jf c1 ?_
  refine sk ?_
  refine so [] [] [(4, cI p1)] [] id ?_
  refine ends_ret ?_
  cases H
  exact And.intro (.inl rfl) rfl
def s_l1Abs_ir : S :=
 (sq [o 2 (.mv (iv 0))]
 (sq [om 3 0, om 4 0, o 5 (.neg (.t 4)), o 6 (.call 249 [.t 3, .t 5]), om 2 6]
 .ret))
noncomputable def X.s_l1Abs (p0 : Int) : Option Int :=
 ((X.s_l1Most p0 (W (0 - p0))).bind fun v1 => some v1)
theorem s_l1Abs_ok (p0 : Int) (r : Int) (H : X.s_l1Abs p0 = some r) : FnOk Tryz.prog gl 245 [cI p0] (cI r) := by
 unfold X.s_l1Abs at H
 refine fi Tryz.f245 s_l1Abs_ir [(2, cI r)] [] glL Tryz.func245 ?_
 refine so [] [] [(0, cI p0)] [] id ?_
 obtain ⟨v1, h2, H⟩ := ofBind H
 refine so [.res (cI v1)] [] [(2, cI v1)] [] (aI (s_l1Most_ok p0 (W (0 - p0)) v1 h2)) ?_
 refine ends_ret ?_
 cases H
 exact And.intro (.inl rfl) rfl
def s_hDistance_ir : S :=
 (sq [o 2 (.box 2 (.t 0)), o 3 (.box 2 (.t 1)), o 4 (.mv (iv 0))]
 (.seq (.draw 12 [o 7 (.fad 0 (.t 3)), o 8 (.load 1 false (.t 7)), o 9 (.fad 0 (.t 2)), o 10 (.load 1 false (.t 9)), o 11 (.bin .sub (.t 8) (.t 10)), o 12 (.fad 1 (.t 3)), o 13 (.load 1 false (.t 12)), o 14 (.fad 1 (.t 2)), o 15 (.load 1 false (.t 14)), o 16 (.bin .sub (.t 13) (.t 15)), om 5 11, om 6 16])
 (sq [om 17 5, o 18 (.call 245 [.t 17]), om 19 6, o 20 (.call 245 [.t 19]), o 21 (.bin .add (.t 18) (.t 20)), om 22 5, om 23 6, o 24 (.bin .add (.t 22) (.t 23)), o 25 (.call 245 [.t 24]), o 26 (.bin .add (.t 21) (.t 25)), o 27 (.bin .quo (.t 26) (iv 2)), om 4 27]
 .ret)))
noncomputable def X.s_hDistance (p0 : THex) (p1 : THex) : Option Int :=
 ((X.s_l1Abs (W (p1.Q - p0.Q))).bind fun v1 => ((X.s_l1Abs (W (p1.R - p0.R))).bind fun v3 => ((X.s_l1Abs (W ((W (p1.Q - p0.Q)) + (W (p1.R - p0.R))))).bind fun v5 => some (W (Int.tdiv (W ((W (v1 + v3)) + v5)) 2)))))
theorem s_hDistance_ok (p0 : THex) (p1 : THex) (r : Int) (H : X.s_hDistance p0 p1 = some r) : FnOk Tryz.prog gl 239 [.agg (eTHex p0), .agg (eTHex p1)] (cI r) := by
 unfold X.s_hDistance at H
 refine fi Tryz.f239 s_hDistance_ir [(4, cI r)] [] glL Tryz.func239 ?_
 refine so [] [] [(2, pk 2), (3, pk 3)] [(2, va (eTHex p0)), (3, va (eTHex p1))] id ?_
 refine sd [] [] [(5, cI (W (p1.Q - p0.Q))), (6, cI (W (p1.R - p0.R)))] [] id ?_
 obtain ⟨v1, h2, H⟩ := ofBind H
 obtain ⟨v3, h4, H⟩ := ofBind H
 obtain ⟨v5, h6, H⟩ := ofBind H
 refine so [.res (cI v1), .res (cI v3), .res (cI v5)] [] [(4, cI (W (Int.tdiv (W ((W (v1 + v3)) + v5)) 2)))] [] (fun t => aI (s_l1Abs_ok (W (p1.Q - p0.Q)) v1 h2) (aI (s_l1Abs_ok (W (p1.R - p0.R)) v3 h4) (aI (s_l1Abs_ok (W ((W (p1.Q - p0.Q)) + (W (p1.R - p0.R)))) v5 h6) (aI (by decide : (2 : Int) ≠ 0) (t))))) ?_
 refine ends_ret ?_
 cases H
 exact And.intro (.inl rfl) rfl
def s_mNear_ir : S :=
 (sq [o 3 (.box 5 (.t 0)), o 6 (.mv (.v (.nil)))]
 (sq [o 7 (.mv (.v (.nil)))]
 (.seq (sq [o 8 (.mv (iv 0))]
 (.blk 0 (.loop (.seq (sq [om 9 8, o 10 (.load 5 true (.t 3)), o 11 (.call 142 [.t 10]), o 12 (.bin .lss (.t 9) (.t 11))]
   (.ite (.t 12) .skip
   (.exit 0)))
   (.seq (.blk 1 (.seq (.draw 9 [o 15 (.load 5 true (.t 3)), om 16 1, o 17 (.call 127 [.t 15, .t 16]), o 18 (.load 5 true (.t 3)), om 19 8, o 20 (.call 127 [.t 18, .t 19]), o 21 (.call 239 [.t 17, .t 20]), om 22 2, o 23 (.bin .leq (.t 21) (.t 22))])
    (.ite (.t 23) (.ops [om 24 7, om 25 8, o 26 (.bsl 1 [.t 25]), o 27 (.app 1 8 (.t 24) (.t 26)), om 7 27])
    .skip)))
   (.ops [om 13 8, o 14 (.bin .add (.t 13) (iv 1)), om 8 14]))))))
 (sq [om 28 7, om 6 28]
 .ret))))
noncomputable def X.s_mNear (p0 : TMap) (p1 : Int) (p2 : Int) : Option (List Int) :=
 ((loop (fun (x30 : (Int × (List Int))) => (((X.s_mSize p0).bind fun v34 => (bif (decide (x30.1 < v34)) then ((X.s_mHex p0 p1).bind fun v37 => ((X.s_mHex p0 x30.1).bind fun v39 => ((X.s_hDistance v37 v39).bind fun v41 => (bif (decide (v41 ≤ p2)) then (if (x30.2 ++ ([x30.1] : List Int)).length ≤ LIM then some (Sum.inl ((W (x30.1 + 1)), (x30.2 ++ ([x30.1] : List Int)))) else none) else some (Sum.inl ((W (x30.1 + 1)), x30.2)))))) else some (Sum.inr x30.2))) : Option ((Int × (List Int)) ⊕ (List Int)))) (0, ([] : List Int))).bind fun y45 => some y45)
theorem s_mNear_ok (p0 : TMap) (p1 : Int) (p2 : Int) (r : (List Int)) (H : X.s_mNear p0 p1 p2 = some r) : FnOk Tryz.prog gl 232 [.agg (eTMap p0), cI p1, cI p2] (.c (dat 1 eI zI r)) := by
 unfold X.s_mNear at H
 refine fi Tryz.f232 s_mNear_ir [(6, dc 1 eI zI r)] [] glL Tryz.func232 ?_
 refine so [] [] [(1, cI p1), (2, cI p2), (3, pk 3)] [(3, va (eTMap p0))] id ?_
 refine so [] [] [(1, cI p1), (2, cI p2), (3, pk 3), (7, .c (.nil))] [(3, va (eTMap p0))] id ?_
 refine seq_in ?_
 refine so [] [] [(1, cI p1), (2, cI p2), (3, pk 3), (7, .c (.nil)), (8, cI 0)] [(3, va (eTMap p0))] id ?_
 refine ends_blk ?_
 obtain ⟨y45, h46, H⟩ := ofBind H
 refine tl [.nlo 7 1001 1 (fF eI zI ([] : List Int))] [(1, cI p1), (2, cI p2), (3, pk 3), (7, ow 1001 1 ([] : List Int)), (8, cI 0)] [(3, va (eTMap p0)), (1001, ar 1 eI zI ([] : List Int))] (aI (by decide : 0 < 1)) ?_
 refine loop_in (fun (x : (Int × (List Int))) => lit [(1, cI p1), (2, cI p2), (3, pk 3), (7, ow 1001 1 x.2), (8, cI x.1)] [(3, va (eTMap p0)), (1001, ar 1 eI zI x.2)]) (fun (z : (List Int)) => At (.exit 0) (lit [(7, ow 1001 1 z)] [(1001, ar 1 eI zI z)])) h46 ?_ ?_
 ·clear H h46
  intro x30 y0 H
  refine seq_in ?_
  obtain ⟨v34, h35, H⟩ := ofBind H
  refine so [.res (cI v34)] [] [(1, cI p1), (2, cI p2), (3, pk 3), (7, ow 1001 1 x30.2), (8, cI x30.1), (12, cB (decide (x30.1 < v34)))] [(3, va (eTMap p0)), (1001, ar 1 eI zI x30.2)] (aI (s_mSize_ok p0 v34 h35)) ?_
  rcases ofCond H with ⟨c36, H⟩ | ⟨c36, H⟩
  ·refine it c36 ?_
   refine sk ?_
   refine seq_in ?_
   refine ends_blk ?_
   obtain ⟨v37, h38, H⟩ := ofBind H
   obtain ⟨v39, h40, H⟩ := ofBind H
   obtain ⟨v41, h42, H⟩ := ofBind H
   refine sd [.res (.agg (eTHex v37)), .res (.agg (eTHex v39)), .res (cI v41)] [] [(1, cI p1), (2, cI p2), (3, pk 3), (7, ow 1001 1 x30.2), (8, cI x30.1), (23, cB (decide (v41 ≤ p2)))] [(3, va (eTMap p0)), (1001, ar 1 eI zI x30.2)] (fun t => aI (s_mHex_ok p0 p1 v37 h38) (aI trivial (aI (rfl : ([] : List Nat) = []) (aI (s_mHex_ok p0 x30.1 v39 h40) (aI trivial (aI (rfl : ([] : List Nat) = []) (aI (s_hDistance_ok v37 v39 v41 h42) (aI trivial (aI (rfl : ([] : List Nat) = []) (t)))))))))) ?_
   rcases ofCond H with ⟨c43, H⟩ | ⟨c43, H⟩
   ·refine it c43 ?_
    obtain ⟨g44, H⟩ := ofIf H
    refine oo [fh eI zI ([x30.1] : List Int), fh eI zI (x30.2 ++ ([x30.1] : List Int))] [] [(1, cI p1), (2, cI p2), (3, pk 3), (7, ow 27 1 (x30.2 ++ ([x30.1] : List Int))), (8, cI x30.1)] [(3, va (eTMap p0)), (27, ar 1 eI zI (x30.2 ++ ([x30.1] : List Int)))] (fun t => aI (rfl : ([x30.1] : List Int).length = 1) (aI (fF_lit eI zI ([x30.1] : List Int)) (aI (And.intro (Nat.le_refl x30.2.length) (And.intro (@List.length_append _ x30.2 ([x30.1] : List Int)) g44)) (aI (fF_appL eI zI x30.2 ([x30.1] : List Int)) (aI (fF_appR eI zI x30.2 ([x30.1] : List Int)) (t)))))) ?_
    change EndsI _ _ _ _ _ _
    refine oo [] [.ren 27 1001] [(1, cI p1), (2, cI p2), (3, pk 3), (7, ow 1001 1 (x30.2 ++ ([x30.1] : List Int))), (8, cI (W (x30.1 + 1)))] [(3, va (eTMap p0)), (1001, ar 1 eI zI (x30.2 ++ ([x30.1] : List Int)))] id ?_
    cases H
    exact And.intro rfl rfl
   ·refine jf c43 ?_
    refine sk ?_
    refine oo [] [] [(1, cI p1), (2, cI p2), (3, pk 3), (7, ow 1001 1 x30.2), (8, cI (W (x30.1 + 1)))] [(3, va (eTMap p0)), (1001, ar 1 eI zI x30.2)] id ?_
    cases H
    exact And.intro rfl rfl
  ·refine jf c36 ?_
   refine tl [] [(7, ow 1001 1 x30.2)] [(1001, ar 1 eI zI x30.2)] id ?_
   refine ends_exit ?_
   cases H
   exact And.intro (by simp) (And.intro rfl rfl)
 ·clear h46
  intro e s q
  obtain ⟨rfl, rfl⟩ := q
  change EndsI _ _ _ _ _ _
  refine so [] [] [(6, ow 1001 1 y45)] [(1001, ar 1 eI zI y45)] id ?_
  refine tl [.frz 6] [(6, dc 1 eI zI y45)] [] (aI (Nat.le_refl y45.length)) ?_
  refine ends_ret ?_
  cases H
  exact And.intro (.inl rfl) rfl
def s_hNear_ir : S :=
 (sq [o 4 (.mv (.v (.nil)))]
 (sq [om 7 0, om 8 1, o 9 (.bin .quo (.t 7) (.t 8)), om 5 9]
 (.seq (sq [om 10 0, om 11 1, o 12 (.bin .rem (.t 10) (.t 11)), o 13 (.bin .lss (.t 12) (iv 0))]
 (.ite (.t 13) (.ops [om 14 5, o 15 (.bin .sub (.t 14) (iv 1)), om 5 15])
 .skip))
 (sq [om 16 0, om 17 5, om 18 1, o 19 (.bin .mul (.t 17) (.t 18)), o 20 (.bin .sub (.t 16) (.t 19)), o 21 (.bin .mul (iv 2) (.t 20)), om 6 21]
 (.seq (.blk 0 (sq [om 23 6, om 24 1, o 25 (.bin .lss (.t 23) (.t 24)), om 22 25]
  (.ite (.t 22) (sq [om 26 5, o 27 (.bsl 1 [.t 26]), om 4 27]
   .ret)
  (sq [om 29 6, om 30 1, o 31 (.bin .gtr (.t 29) (.t 30)), om 28 31]
   (.ite (.t 28) (sq [om 32 5, o 33 (.bin .add (.t 32) (iv 1)), o 34 (.bsl 1 [.t 33]), om 4 34]
    .ret)
   .skip)))))
 (sq [om 35 5, om 36 5, o 37 (.bin .add (.t 36) (iv 1)), o 38 (.bsl 1 [.t 35, .t 37]), om 4 38]
 .ret))))))
noncomputable def X.s_hNear (p0 : Int) (p1 : Int) : Option (List Int) :=
 (if p1 ≠ 0 then (((if p1 ≠ 0 then (bif (decide ((Int.tmod p0 p1) < 0)) then some (W ((W (Int.tdiv p0 p1)) - 1)) else some (W (Int.tdiv p0 p1))) else none) : Option Int).bind fun y6 => (bif (decide ((W (2 * (W (p0 - (W (y6 * p1)))))) < p1)) then some ([y6] : List Int) else (bif (decide ((W (2 * (W (p0 - (W (y6 * p1)))))) > p1)) then some ([(W (y6 + 1))] : List Int) else some ([y6, (W (y6 + 1))] : List Int)))) else none)
theorem s_hNear_ok (p0 : Int) (p1 : Int) (r : (List Int)) (H : X.s_hNear p0 p1 = some r) : FnOk Tryz.prog gl 253 [cI p0, cI p1] (.c (dat 1 eI zI r)) := by
 unfold X.s_hNear at H
 refine fi Tryz.f253 s_hNear_ir [(4, dc 1 eI zI r)] [] glL Tryz.func253 ?_
 refine so [] [] [(0, cI p0), (1, cI p1)] [] id ?_
 obtain ⟨g1, H⟩ := ofIf H
 refine so [] [] [(0, cI p0), (1, cI p1), (5, cI (W (Int.tdiv p0 p1)))] [] (fun t => aI g1 (t)) ?_
 obtain ⟨y6, h7, H⟩ := ofBind H
 refine seq_in (cut_in (fun (z : Int) => At .normal (lit [(0, cI p0), (1, cI p1), (5, cI z)] [])) y6 ?_ ?_)
 ·clear H
  revert h7
  generalize y6 = y0
  intro H
  obtain ⟨g4, H⟩ := ofIf H
  refine so [] [] [(0, cI p0), (1, cI p1), (5, cI (W (Int.tdiv p0 p1))), (13, cB (decide ((Int.tmod p0 p1) < 0)))] [] (fun t => aI g4 (t)) ?_
  rcases ofCond H with ⟨c5, H⟩ | ⟨c5, H⟩
  ·refine it c5 ?_
   refine oo [] [] [(0, cI p0), (1, cI p1), (5, cI (W ((W (Int.tdiv p0 p1)) - 1)))] [] id ?_
   cases H
   exact And.intro rfl rfl
  ·refine jf c5 ?_
   refine tl [] [(0, cI p0), (1, cI p1), (5, cI (W (Int.tdiv p0 p1)))] [] id ?_
   refine ends_skip ?_
   cases H
   exact And.intro rfl rfl
 ·clear h7
  intro e s q
  obtain ⟨rfl, rfl⟩ := q
  change EndsI _ _ _ _ _ _
  refine so [] [] [(1, cI p1), (5, cI y6), (6, cI (W (2 * (W (p0 - (W (y6 * p1)))))))] [] id ?_
  refine seq_in ?_
  refine ends_blk ?_
  refine so [] [] [(1, cI p1), (5, cI y6), (6, cI (W (2 * (W (p0 - (W (y6 * p1))))))), (22, cB (decide ((W (2 * (W (p0 - (W (y6 * p1)))))) < p1)))] [] id ?_
  rcases ofCond H with ⟨c8, H⟩ | ⟨c8, H⟩
  ·refine it c8 ?_
   refine so [fh eI zI ([y6] : List Int)] [] [(4, ow 27 1 ([y6] : List Int))] [(27, ar 1 eI zI ([y6] : List Int))] (fun t => aI (rfl : ([y6] : List Int).length = 1) (aI (fF_lit eI zI ([y6] : List Int)) (t))) ?_
   refine tl [.frz 4] [(4, .c (dat 1 eI zI ([y6] : List Int)))] [] (aI (Nat.le_refl (([y6] : List Int).length))) ?_
   refine ends_ret ?_
   cases H
   exact And.intro (.inl rfl) rfl
  ·refine jf c8 ?_
   refine so [] [] [(5, cI y6), (28, cB (decide ((W (2 * (W (p0 - (W (y6 * p1)))))) > p1)))] [] id ?_
   rcases ofCond H with ⟨c9, H⟩ | ⟨c9, H⟩
   ·refine it c9 ?_
    refine so [fh eI zI ([(W (y6 + 1))] : List Int)] [] [(4, ow 34 1 ([(W (y6 + 1))] : List Int))] [(34, ar 1 eI zI ([(W (y6 + 1))] : List Int))] (fun t => aI (rfl : ([(W (y6 + 1))] : List Int).length = 1) (aI (fF_lit eI zI ([(W (y6 + 1))] : List Int)) (t))) ?_
    refine tl [.frz 4] [(4, .c (dat 1 eI zI ([(W (y6 + 1))] : List Int)))] [] (aI (Nat.le_refl (([(W (y6 + 1))] : List Int).length))) ?_
    refine ends_ret ?_
    cases H
    exact And.intro (.inl rfl) rfl
   ·refine jf c9 ?_
    refine sk ?_
    refine so [fh eI zI ([y6, (W (y6 + 1))] : List Int)] [] [(4, ow 38 1 ([y6, (W (y6 + 1))] : List Int))] [(38, ar 1 eI zI ([y6, (W (y6 + 1))] : List Int))] (fun t => aI (rfl : ([y6, (W (y6 + 1))] : List Int).length = 2) (aI (fF_lit eI zI ([y6, (W (y6 + 1))] : List Int)) (t))) ?_
    refine tl [.frz 4] [(4, .c (dat 1 eI zI ([y6, (W (y6 + 1))] : List Int)))] [] (aI (Nat.le_refl (([y6, (W (y6 + 1))] : List Int).length))) ?_
    refine ends_ret ?_
    cases H
    exact And.intro (.inl rfl) rfl
def s_hCells_ir : S :=
 (sq [o 4 (.box 2 (.t 0)), o 5 (.box 2 (.t 1)), o 8 (.mv (.v (.nil)))]
 (.seq (.draw 26 [o 16 (.fad 0 (.t 4)), o 17 (.load 1 false (.t 16)), om 18 3, o 19 (.bin .mul (.t 17) (.t 18)), o 20 (.fad 0 (.t 5)), o 21 (.load 1 false (.t 20)), o 22 (.fad 0 (.t 4)), o 23 (.load 1 false (.t 22)), o 24 (.bin .sub (.t 21) (.t 23)), om 25 2, o 26 (.bin .mul (.t 24) (.t 25)), o 27 (.bin .add (.t 19) (.t 26)), o 28 (.fad 1 (.t 4)), o 29 (.load 1 false (.t 28)), om 30 3, o 31 (.bin .mul (.t 29) (.t 30)), o 32 (.fad 1 (.t 5)), o 33 (.load 1 false (.t 32)), o 34 (.fad 1 (.t 4)), o 35 (.load 1 false (.t 34)), o 36 (.bin .sub (.t 33) (.t 35)), om 37 2, o 38 (.bin .mul (.t 36) (.t 37)), o 39 (.bin .add (.t 31) (.t 38)), om 9 27, om 10 39])
 (sq [o 11 (.mv (.v (.nil)))]
 (.seq (sq [om 40 9, om 41 3, o 42 (.bin .rem (.t 40) (.t 41)), o 43 (.bin .eql (.t 42) (iv 0))]
 (.ite (.t 43) (.seq (sq [om 44 10, om 45 3, o 46 (.call 253 [.t 44, .t 45]), o 47 (.len (.t 46)), o 48 (.mv (iv 0))]
  (.blk 0 (.loop (sq [o 49 (.bin .lss (.t 48) (.t 47))]
    (.seq (.ite (.t 49) .skip
    (.exit 0))
    (.seq (.blk 1 (sq [o 50 (.iad 1 (.t 46) (.t 48)), o 51 (.load 1 false (.t 50)), om 13 51]
     (.ops [om 52 11, om 53 9, om 54 3, o 55 (.bin .quo (.t 53) (.t 54)), om 56 13, o 57 (.build [.int .i64 0, .int .i64 0] [(0, 1, .t 55), (1, 1, .t 56)]), o 58 (.bsl 2 [.t 57]), o 59 (.app 2 16 (.t 52) (.t 58)), om 11 59])))
    (.ops [o 60 (.bin .add (.t 48) (iv 1)), om 48 60])))))))
  (sq [om 61 11, om 8 61]
  .ret))
 .skip))
 (.seq (sq [om 62 9, om 63 3, o 64 (.call 253 [.t 62, .t 63]), o 65 (.len (.t 64)), o 66 (.mv (iv 0))]
 (.blk 2 (.loop (sq [o 67 (.bin .lss (.t 66) (.t 65))]
   (.seq (.ite (.t 67) .skip
   (.exit 2))
   (.seq (.blk 3 (sq [o 68 (.iad 1 (.t 64) (.t 66)), o 69 (.load 1 false (.t 68)), om 15 69]
    (sq [om 70 10, om 71 3, o 72 (.bin .rem (.t 70) (.t 71)), o 73 (.bin .eql (.t 72) (iv 0))]
    (.ite (.t 73) (.ops [om 74 11, om 75 15, om 76 10, om 77 3, o 78 (.bin .quo (.t 76) (.t 77)), o 79 (.build [.int .i64 0, .int .i64 0] [(0, 1, .t 75), (1, 1, .t 78)]), o 80 (.bsl 2 [.t 79]), o 81 (.app 2 16 (.t 74) (.t 80)), om 11 81])
    (.ops [om 82 11, om 83 15, om 84 9, om 85 10, o 86 (.bin .add (.t 84) (.t 85)), om 87 3, o 88 (.bin .quo (.t 86) (.t 87)), om 89 15, o 90 (.bin .sub (.t 88) (.t 89)), o 91 (.build [.int .i64 0, .int .i64 0] [(0, 1, .t 83), (1, 1, .t 90)]), o 92 (.bsl 2 [.t 91]), o 93 (.app 2 16 (.t 82) (.t 92)), om 11 93])))))
   (.ops [o 94 (.bin .add (.t 66) (iv 1)), om 66 94])))))))
 (sq [om 95 11, om 8 95]
 .ret))))))
noncomputable def X.s_hCells (p0 : THex) (p1 : THex) (p2 : Int) (p3 : Int) : Option (List THex) :=
 (if p3 ≠ 0 then (bif ((Int.tmod (W ((W (p0.Q * p3)) + (W ((W (p1.Q - p0.Q)) * p2)))) p3) == 0) then ((X.s_hNear (W ((W (p0.R * p3)) + (W ((W (p1.R - p0.R)) * p2)))) p3).bind fun v29 => ((loop (fun (x44 : (Int × (List THex))) => ((bif (decide (x44.1 < (v29.length : Int))) then ((at' zI v29 x44.1).bind fun v47 => (if p3 ≠ 0 then (if (x44.2 ++ ([(THex.mk (W (Int.tdiv (W ((W (p0.Q * p3)) + (W ((W (p1.Q - p0.Q)) * p2)))) p3)) v47)] : List THex)).length ≤ LIM then some (Sum.inl ((W (x44.1 + 1)), (x44.2 ++ ([(THex.mk (W (Int.tdiv (W ((W (p0.Q * p3)) + (W ((W (p1.Q - p0.Q)) * p2)))) p3)) v47)] : List THex)))) else none) else none)) else some (Sum.inr x44.2)) : Option ((Int × (List THex)) ⊕ (List THex)))) (0, ([] : List THex))).bind fun y51 => some y51)) else ((X.s_hNear (W ((W (p0.Q * p3)) + (W ((W (p1.Q - p0.Q)) * p2)))) p3).bind fun v53 => ((loop (fun (x76 : (Int × (List THex))) => ((bif (decide (x76.1 < (v53.length : Int))) then ((at' zI v53 x76.1).bind fun v79 => (if p3 ≠ 0 then (bif ((Int.tmod (W ((W (p0.R * p3)) + (W ((W (p1.R - p0.R)) * p2)))) p3) == 0) then (if p3 ≠ 0 then (if (x76.2 ++ ([(THex.mk v79 (W (Int.tdiv (W ((W (p0.R * p3)) + (W ((W (p1.R - p0.R)) * p2)))) p3)))] : List THex)).length ≤ LIM then some (Sum.inl ((W (x76.1 + 1)), (x76.2 ++ ([(THex.mk v79 (W (Int.tdiv (W ((W (p0.R * p3)) + (W ((W (p1.R - p0.R)) * p2)))) p3)))] : List THex)))) else none) else none) else (if p3 ≠ 0 then (if (x76.2 ++ ([(THex.mk v79 (W ((W (Int.tdiv (W ((W ((W (p0.Q * p3)) + (W ((W (p1.Q - p0.Q)) * p2)))) + (W ((W (p0.R * p3)) + (W ((W (p1.R - p0.R)) * p2)))))) p3)) - v79)))] : List THex)).length ≤ LIM then some (Sum.inl ((W (x76.1 + 1)), (x76.2 ++ ([(THex.mk v79 (W ((W (Int.tdiv (W ((W ((W (p0.Q * p3)) + (W ((W (p1.Q - p0.Q)) * p2)))) + (W ((W (p0.R * p3)) + (W ((W (p1.R - p0.R)) * p2)))))) p3)) - v79)))] : List THex)))) else none) else none)) else none)) else some (Sum.inr x76.2)) : Option ((Int × (List THex)) ⊕ (List THex)))) (0, ([] : List THex))).bind fun y87 => some y87))) else none)
theorem s_hCells_ok (p0 : THex) (p1 : THex) (p2 : Int) (p3 : Int) (r : (List THex)) (H : X.s_hCells p0 p1 p2 p3 = some r) : FnOk Tryz.prog gl 250 [.agg (eTHex p0), .agg (eTHex p1), cI p2, cI p3] (.c (dat 2 eTHex zTHex r)) := by
 unfold X.s_hCells at H
 refine fi Tryz.f250 s_hCells_ir [(8, dc 2 eTHex zTHex r)] [] glL Tryz.func250 ?_
 refine so [] [] [(2, cI p2), (3, cI p3), (4, pk 4), (5, pk 5)] [(4, va (eTHex p0)), (5, va (eTHex p1))] id ?_
 refine sd [] [] [(3, cI p3), (9, cI (W ((W (p0.Q * p3)) + (W ((W (p1.Q - p0.Q)) * p2))))), (10, cI (W ((W (p0.R * p3)) + (W ((W (p1.R - p0.R)) * p2)))))] [] id ?_
 refine so [] [] [(3, cI p3), (9, cI (W ((W (p0.Q * p3)) + (W ((W (p1.Q - p0.Q)) * p2))))), (10, cI (W ((W (p0.R * p3)) + (W ((W (p1.R - p0.R)) * p2))))), (11, .c (.nil))] [] id ?_
 refine seq_in ?_
 obtain ⟨g27, H⟩ := ofIf H
 refine so [] [] [(3, cI p3), (9, cI (W ((W (p0.Q * p3)) + (W ((W (p1.Q - p0.Q)) * p2))))), (10, cI (W ((W (p0.R * p3)) + (W ((W (p1.R - p0.R)) * p2))))), (11, .c (.nil)), (43, cB ((Int.tmod (W ((W (p0.Q * p3)) + (W ((W (p1.Q - p0.Q)) * p2)))) p3) == 0))] [] (fun t => aI g27 (t)) ?_
 rcases ofCond H with ⟨c28, H⟩ | ⟨c28, H⟩
 ·refine it c28 ?_
  refine seq_in ?_
  obtain ⟨v29, h30, H⟩ := ofBind H
  refine so [.res (dc 1 eI zI v29)] [] [(3, cI p3), (9, cI (W ((W (p0.Q * p3)) + (W ((W (p1.Q - p0.Q)) * p2))))), (11, .c (.nil)), (46, dc 1 eI zI v29), (47, cL v29), (48, cI 0)] [] (fun t => aI (s_hNear_ok (W ((W (p0.R * p3)) + (W ((W (p1.R - p0.R)) * p2)))) p3 v29 h30) (lI v29 (t))) ?_
  refine ends_blk ?_
  obtain ⟨y51, h52, H⟩ := ofBind H
  refine tl [.nlo 11 1002 2 (fF eTHex zTHex ([] : List THex))] [(3, cI p3), (9, cI (W ((W (p0.Q * p3)) + (W ((W (p1.Q - p0.Q)) * p2))))), (11, ow 1002 2 ([] : List THex)), (46, dc 1 eI zI v29), (47, cL v29), (48, cI 0)] [(1002, ar 2 eTHex zTHex ([] : List THex))] (aI (by decide : 0 < 2)) ?_
  refine loop_in (fun (x : (Int × (List THex))) => lit [(3, cI p3), (9, cI (W ((W (p0.Q * p3)) + (W ((W (p1.Q - p0.Q)) * p2))))), (11, ow 1002 2 x.2), (46, dc 1 eI zI v29), (47, cL v29), (48, cI x.1)] [(1002, ar 2 eTHex zTHex x.2)]) (fun (z : (List THex)) => At (.exit 0) (lit [(11, ow 1002 2 z)] [(1002, ar 2 eTHex zTHex z)])) h52 ?_ ?_
  ·clear H h52
   intro x44 y0 H
   refine so [] [] [(3, cI p3), (9, cI (W ((W (p0.Q * p3)) + (W ((W (p1.Q - p0.Q)) * p2))))), (11, ow 1002 2 x44.2), (46, dc 1 eI zI v29), (47, cL v29), (48, cI x44.1), (49, cB (decide (x44.1 < (v29.length : Int))))] [(1002, ar 2 eTHex zTHex x44.2)] id ?_
   refine seq_in ?_
   rcases ofCond H with ⟨c46, H⟩ | ⟨c46, H⟩
   ·refine it c46 ?_
    refine sk ?_
    refine seq_in ?_
    refine ends_blk ?_
    obtain ⟨v47, h48, H⟩ := ofBind H
    refine so [.cs (eI v47)] [] [(3, cI p3), (9, cI (W ((W (p0.Q * p3)) + (W ((W (p1.Q - p0.Q)) * p2))))), (11, ow 1002 2 x44.2), (13, cI v47), (46, dc 1 eI zI v29), (47, cL v29), (48, cI x44.1)] [(1002, ar 2 eTHex zTHex x44.2)] (a2 eI h48) ?_
    obtain ⟨g49, H⟩ := ofIf H
    obtain ⟨g50, H⟩ := ofIf H
    refine oo [fh eTHex zTHex ([(THex.mk (W (Int.tdiv (W ((W (p0.Q * p3)) + (W ((W (p1.Q - p0.Q)) * p2)))) p3)) v47)] : List THex), fh eTHex zTHex (x44.2 ++ ([(THex.mk (W (Int.tdiv (W ((W (p0.Q * p3)) + (W ((W (p1.Q - p0.Q)) * p2)))) p3)) v47)] : List THex))] [] [(3, cI p3), (9, cI (W ((W (p0.Q * p3)) + (W ((W (p1.Q - p0.Q)) * p2))))), (11, ow 59 2 (x44.2 ++ ([(THex.mk (W (Int.tdiv (W ((W (p0.Q * p3)) + (W ((W (p1.Q - p0.Q)) * p2)))) p3)) v47)] : List THex))), (46, dc 1 eI zI v29), (47, cL v29), (48, cI x44.1)] [(59, ar 2 eTHex zTHex (x44.2 ++ ([(THex.mk (W (Int.tdiv (W ((W (p0.Q * p3)) + (W ((W (p1.Q - p0.Q)) * p2)))) p3)) v47)] : List THex)))] (fun t => aI g49 (aI (rfl : ([(THex.mk (W (Int.tdiv (W ((W (p0.Q * p3)) + (W ((W (p1.Q - p0.Q)) * p2)))) p3)) v47)] : List THex).length = 1) (aI (fF_lit eTHex zTHex ([(THex.mk (W (Int.tdiv (W ((W (p0.Q * p3)) + (W ((W (p1.Q - p0.Q)) * p2)))) p3)) v47)] : List THex)) (aI (And.intro (Nat.le_refl x44.2.length) (And.intro (@List.length_append _ x44.2 ([(THex.mk (W (Int.tdiv (W ((W (p0.Q * p3)) + (W ((W (p1.Q - p0.Q)) * p2)))) p3)) v47)] : List THex)) g50)) (aI (fF_appL eTHex zTHex x44.2 ([(THex.mk (W (Int.tdiv (W ((W (p0.Q * p3)) + (W ((W (p1.Q - p0.Q)) * p2)))) p3)) v47)] : List THex)) (aI (fF_appR eTHex zTHex x44.2 ([(THex.mk (W (Int.tdiv (W ((W (p0.Q * p3)) + (W ((W (p1.Q - p0.Q)) * p2)))) p3)) v47)] : List THex)) (t))))))) ?_
    change EndsI _ _ _ _ _ _
    refine oo [] [.ren 59 1002] [(3, cI p3), (9, cI (W ((W (p0.Q * p3)) + (W ((W (p1.Q - p0.Q)) * p2))))), (11, ow 1002 2 (x44.2 ++ ([(THex.mk (W (Int.tdiv (W ((W (p0.Q * p3)) + (W ((W (p1.Q - p0.Q)) * p2)))) p3)) v47)] : List THex))), (46, dc 1 eI zI v29), (47, cL v29), (48, cI (W (x44.1 + 1)))] [(1002, ar 2 eTHex zTHex (x44.2 ++ ([(THex.mk (W (Int.tdiv (W ((W (p0.Q * p3)) + (W ((W (p1.Q - p0.Q)) * p2)))) p3)) v47)] : List THex)))] id ?_
    cases H
    exact And.intro rfl rfl
   ·refine jf c46 ?_
    refine tl [] [(11, ow 1002 2 x44.2)] [(1002, ar 2 eTHex zTHex x44.2)] id ?_
    refine ends_exit ?_
    cases H
    exact And.intro (by simp) (And.intro rfl rfl)
  ·clear h52
   intro e s q
   obtain ⟨rfl, rfl⟩ := q
   change EndsI _ _ _ _ _ _
   refine so [] [] [(8, ow 1002 2 y51)] [(1002, ar 2 eTHex zTHex y51)] id ?_
   refine tl [.frz 8] [(8, dc 2 eTHex zTHex y51)] [] (aI (Nat.le_refl y51.length)) ?_
   refine ends_ret ?_
   cases H
   exact And.intro (.inl rfl) rfl
 ·refine jf c28 ?_
  refine sk ?_
  refine seq_in ?_
  obtain ⟨v53, h54, H⟩ := ofBind H
  refine so [.res (dc 1 eI zI v53)] [] [(3, cI p3), (9, cI (W ((W (p0.Q * p3)) + (W ((W (p1.Q - p0.Q)) * p2))))), (10, cI (W ((W (p0.R * p3)) + (W ((W (p1.R - p0.R)) * p2))))), (11, .c (.nil)), (64, dc 1 eI zI v53), (65, cL v53), (66, cI 0)] [] (fun t => aI (s_hNear_ok (W ((W (p0.Q * p3)) + (W ((W (p1.Q - p0.Q)) * p2)))) p3 v53 h54) (lI v53 (t))) ?_
  refine ends_blk ?_
  obtain ⟨y87, h88, H⟩ := ofBind H
  refine tl [.nlo 11 1003 2 (fF eTHex zTHex ([] : List THex))] [(3, cI p3), (9, cI (W ((W (p0.Q * p3)) + (W ((W (p1.Q - p0.Q)) * p2))))), (10, cI (W ((W (p0.R * p3)) + (W ((W (p1.R - p0.R)) * p2))))), (11, ow 1003 2 ([] : List THex)), (64, dc 1 eI zI v53), (65, cL v53), (66, cI 0)] [(1003, ar 2 eTHex zTHex ([] : List THex))] (aI (by decide : 0 < 2)) ?_
  refine loop_in (fun (x : (Int × (List THex))) => lit [(3, cI p3), (9, cI (W ((W (p0.Q * p3)) + (W ((W (p1.Q - p0.Q)) * p2))))), (10, cI (W ((W (p0.R * p3)) + (W ((W (p1.R - p0.R)) * p2))))), (11, ow 1003 2 x.2), (64, dc 1 eI zI v53), (65, cL v53), (66, cI x.1)] [(1003, ar 2 eTHex zTHex x.2)]) (fun (z : (List THex)) => At (.exit 2) (lit [(11, ow 1003 2 z)] [(1003, ar 2 eTHex zTHex z)])) h88 ?_ ?_
  ·clear H h88
   intro x76 y0 H
   refine so [] [] [(3, cI p3), (9, cI (W ((W (p0.Q * p3)) + (W ((W (p1.Q - p0.Q)) * p2))))), (10, cI (W ((W (p0.R * p3)) + (W ((W (p1.R - p0.R)) * p2))))), (11, ow 1003 2 x76.2), (64, dc 1 eI zI v53), (65, cL v53), (66, cI x76.1), (67, cB (decide (x76.1 < (v53.length : Int))))] [(1003, ar 2 eTHex zTHex x76.2)] id ?_
   refine seq_in ?_
   rcases ofCond H with ⟨c78, H⟩ | ⟨c78, H⟩
   ·refine it c78 ?_
    refine sk ?_
    refine seq_in ?_
    refine ends_blk ?_
    obtain ⟨v79, h80, H⟩ := ofBind H
    refine so [.cs (eI v79)] [] [(3, cI p3), (9, cI (W ((W (p0.Q * p3)) + (W ((W (p1.Q - p0.Q)) * p2))))), (10, cI (W ((W (p0.R * p3)) + (W ((W (p1.R - p0.R)) * p2))))), (11, ow 1003 2 x76.2), (15, cI v79), (64, dc 1 eI zI v53), (65, cL v53), (66, cI x76.1)] [(1003, ar 2 eTHex zTHex x76.2)] (a2 eI h80) ?_
    obtain ⟨g81, H⟩ := ofIf H
    refine so [] [] [(3, cI p3), (9, cI (W ((W (p0.Q * p3)) + (W ((W (p1.Q - p0.Q)) * p2))))), (10, cI (W ((W (p0.R * p3)) + (W ((W (p1.R - p0.R)) * p2))))), (11, ow 1003 2 x76.2), (15, cI v79), (64, dc 1 eI zI v53), (65, cL v53), (66, cI x76.1), (73, cB ((Int.tmod (W ((W (p0.R * p3)) + (W ((W (p1.R - p0.R)) * p2)))) p3) == 0))] [(1003, ar 2 eTHex zTHex x76.2)] (fun t => aI g81 (t)) ?_
    rcases ofCond H with ⟨c82, H⟩ | ⟨c82, H⟩
    ·refine it c82 ?_
     obtain ⟨g83, H⟩ := ofIf H
     obtain ⟨g84, H⟩ := ofIf H
     refine oo [fh eTHex zTHex ([(THex.mk v79 (W (Int.tdiv (W ((W (p0.R * p3)) + (W ((W (p1.R - p0.R)) * p2)))) p3)))] : List THex), fh eTHex zTHex (x76.2 ++ ([(THex.mk v79 (W (Int.tdiv (W ((W (p0.R * p3)) + (W ((W (p1.R - p0.R)) * p2)))) p3)))] : List THex))] [] [(3, cI p3), (9, cI (W ((W (p0.Q * p3)) + (W ((W (p1.Q - p0.Q)) * p2))))), (10, cI (W ((W (p0.R * p3)) + (W ((W (p1.R - p0.R)) * p2))))), (11, ow 81 2 (x76.2 ++ ([(THex.mk v79 (W (Int.tdiv (W ((W (p0.R * p3)) + (W ((W (p1.R - p0.R)) * p2)))) p3)))] : List THex))), (64, dc 1 eI zI v53), (65, cL v53), (66, cI x76.1)] [(81, ar 2 eTHex zTHex (x76.2 ++ ([(THex.mk v79 (W (Int.tdiv (W ((W (p0.R * p3)) + (W ((W (p1.R - p0.R)) * p2)))) p3)))] : List THex)))] (fun t => aI g83 (aI (rfl : ([(THex.mk v79 (W (Int.tdiv (W ((W (p0.R * p3)) + (W ((W (p1.R - p0.R)) * p2)))) p3)))] : List THex).length = 1) (aI (fF_lit eTHex zTHex ([(THex.mk v79 (W (Int.tdiv (W ((W (p0.R * p3)) + (W ((W (p1.R - p0.R)) * p2)))) p3)))] : List THex)) (aI (And.intro (Nat.le_refl x76.2.length) (And.intro (@List.length_append _ x76.2 ([(THex.mk v79 (W (Int.tdiv (W ((W (p0.R * p3)) + (W ((W (p1.R - p0.R)) * p2)))) p3)))] : List THex)) g84)) (aI (fF_appL eTHex zTHex x76.2 ([(THex.mk v79 (W (Int.tdiv (W ((W (p0.R * p3)) + (W ((W (p1.R - p0.R)) * p2)))) p3)))] : List THex)) (aI (fF_appR eTHex zTHex x76.2 ([(THex.mk v79 (W (Int.tdiv (W ((W (p0.R * p3)) + (W ((W (p1.R - p0.R)) * p2)))) p3)))] : List THex)) (t))))))) ?_
     change EndsI _ _ _ _ _ _
     refine oo [] [.ren 81 1003] [(3, cI p3), (9, cI (W ((W (p0.Q * p3)) + (W ((W (p1.Q - p0.Q)) * p2))))), (10, cI (W ((W (p0.R * p3)) + (W ((W (p1.R - p0.R)) * p2))))), (11, ow 1003 2 (x76.2 ++ ([(THex.mk v79 (W (Int.tdiv (W ((W (p0.R * p3)) + (W ((W (p1.R - p0.R)) * p2)))) p3)))] : List THex))), (64, dc 1 eI zI v53), (65, cL v53), (66, cI (W (x76.1 + 1)))] [(1003, ar 2 eTHex zTHex (x76.2 ++ ([(THex.mk v79 (W (Int.tdiv (W ((W (p0.R * p3)) + (W ((W (p1.R - p0.R)) * p2)))) p3)))] : List THex)))] id ?_
     cases H
     exact And.intro rfl rfl
    ·refine jf c82 ?_
     obtain ⟨g85, H⟩ := ofIf H
     obtain ⟨g86, H⟩ := ofIf H
     refine oo [fh eTHex zTHex ([(THex.mk v79 (W ((W (Int.tdiv (W ((W ((W (p0.Q * p3)) + (W ((W (p1.Q - p0.Q)) * p2)))) + (W ((W (p0.R * p3)) + (W ((W (p1.R - p0.R)) * p2)))))) p3)) - v79)))] : List THex), fh eTHex zTHex (x76.2 ++ ([(THex.mk v79 (W ((W (Int.tdiv (W ((W ((W (p0.Q * p3)) + (W ((W (p1.Q - p0.Q)) * p2)))) + (W ((W (p0.R * p3)) + (W ((W (p1.R - p0.R)) * p2)))))) p3)) - v79)))] : List THex))] [] [(3, cI p3), (9, cI (W ((W (p0.Q * p3)) + (W ((W (p1.Q - p0.Q)) * p2))))), (10, cI (W ((W (p0.R * p3)) + (W ((W (p1.R - p0.R)) * p2))))), (11, ow 93 2 (x76.2 ++ ([(THex.mk v79 (W ((W (Int.tdiv (W ((W ((W (p0.Q * p3)) + (W ((W (p1.Q - p0.Q)) * p2)))) + (W ((W (p0.R * p3)) + (W ((W (p1.R - p0.R)) * p2)))))) p3)) - v79)))] : List THex))), (64, dc 1 eI zI v53), (65, cL v53), (66, cI x76.1)] [(93, ar 2 eTHex zTHex (x76.2 ++ ([(THex.mk v79 (W ((W (Int.tdiv (W ((W ((W (p0.Q * p3)) + (W ((W (p1.Q - p0.Q)) * p2)))) + (W ((W (p0.R * p3)) + (W ((W (p1.R - p0.R)) * p2)))))) p3)) - v79)))] : List THex)))] (fun t => aI g85 (aI (rfl : ([(THex.mk v79 (W ((W (Int.tdiv (W ((W ((W (p0.Q * p3)) + (W ((W (p1.Q - p0.Q)) * p2)))) + (W ((W (p0.R * p3)) + (W ((W (p1.R - p0.R)) * p2)))))) p3)) - v79)))] : List THex).length = 1) (aI (fF_lit eTHex zTHex ([(THex.mk v79 (W ((W (Int.tdiv (W ((W ((W (p0.Q * p3)) + (W ((W (p1.Q - p0.Q)) * p2)))) + (W ((W (p0.R * p3)) + (W ((W (p1.R - p0.R)) * p2)))))) p3)) - v79)))] : List THex)) (aI (And.intro (Nat.le_refl x76.2.length) (And.intro (@List.length_append _ x76.2 ([(THex.mk v79 (W ((W (Int.tdiv (W ((W ((W (p0.Q * p3)) + (W ((W (p1.Q - p0.Q)) * p2)))) + (W ((W (p0.R * p3)) + (W ((W (p1.R - p0.R)) * p2)))))) p3)) - v79)))] : List THex)) g86)) (aI (fF_appL eTHex zTHex x76.2 ([(THex.mk v79 (W ((W (Int.tdiv (W ((W ((W (p0.Q * p3)) + (W ((W (p1.Q - p0.Q)) * p2)))) + (W ((W (p0.R * p3)) + (W ((W (p1.R - p0.R)) * p2)))))) p3)) - v79)))] : List THex)) (aI (fF_appR eTHex zTHex x76.2 ([(THex.mk v79 (W ((W (Int.tdiv (W ((W ((W (p0.Q * p3)) + (W ((W (p1.Q - p0.Q)) * p2)))) + (W ((W (p0.R * p3)) + (W ((W (p1.R - p0.R)) * p2)))))) p3)) - v79)))] : List THex)) (t))))))) ?_
     change EndsI _ _ _ _ _ _
     refine oo [] [.ren 93 1003] [(3, cI p3), (9, cI (W ((W (p0.Q * p3)) + (W ((W (p1.Q - p0.Q)) * p2))))), (10, cI (W ((W (p0.R * p3)) + (W ((W (p1.R - p0.R)) * p2))))), (11, ow 1003 2 (x76.2 ++ ([(THex.mk v79 (W ((W (Int.tdiv (W ((W ((W (p0.Q * p3)) + (W ((W (p1.Q - p0.Q)) * p2)))) + (W ((W (p0.R * p3)) + (W ((W (p1.R - p0.R)) * p2)))))) p3)) - v79)))] : List THex))), (64, dc 1 eI zI v53), (65, cL v53), (66, cI (W (x76.1 + 1)))] [(1003, ar 2 eTHex zTHex (x76.2 ++ ([(THex.mk v79 (W ((W (Int.tdiv (W ((W ((W (p0.Q * p3)) + (W ((W (p1.Q - p0.Q)) * p2)))) + (W ((W (p0.R * p3)) + (W ((W (p1.R - p0.R)) * p2)))))) p3)) - v79)))] : List THex)))] id ?_
     cases H
     exact And.intro rfl rfl
   ·refine jf c78 ?_
    refine tl [] [(11, ow 1003 2 x76.2)] [(1003, ar 2 eTHex zTHex x76.2)] id ?_
    refine ends_exit ?_
    cases H
    exact And.intro (by simp) (And.intro rfl rfl)
  ·clear h88
   intro e s q
   obtain ⟨rfl, rfl⟩ := q
   change EndsI _ _ _ _ _ _
   refine so [] [] [(8, ow 1003 2 y87)] [(1003, ar 2 eTHex zTHex y87)] id ?_
   refine tl [.frz 8] [(8, dc 2 eTHex zTHex y87)] [] (aI (Nat.le_refl y87.length)) ?_
   refine ends_ret ?_
   cases H
   exact And.intro (.inl rfl) rfl
def s_hLine_ir : S :=
 (sq [o 2 (.box 2 (.t 0)), o 3 (.box 2 (.t 1)), o 4 (.mv (.v (.nil)))]
 (sq [o 8 (.load 2 true (.t 2)), o 9 (.load 2 true (.t 3)), o 10 (.call 239 [.t 8, .t 9]), om 5 10]
 (.seq (sq [om 11 5, o 12 (.bin .eql (.t 11) (iv 0))]
 (.ite (.t 12) (sq [o 13 (.load 2 true (.t 2)), o 14 (.bsl 2 [.t 13]), o 15 (.bsl 1 [.t 14]), om 4 15]
  .ret)
 .skip))
 (sq [o 6 (.mv (.v (.nil)))]
 (.seq (sq [o 7 (.mv (iv 0))]
 (.blk 0 (.loop (.seq (sq [om 16 7, om 17 5, o 18 (.bin .leq (.t 16) (.t 17))]
   (.ite (.t 18) .skip
   (.exit 0)))
   (.seq (.blk 1 (.ops [om 21 6, o 22 (.load 2 true (.t 2)), o 23 (.load 2 true (.t 3)), om 24 7, om 25 5, o 26 (.call 250 [.t 22, .t 23, .t 24, .t 25]), o 27 (.bsl 1 [.t 26]), o 28 (.app 1 24 (.t 21) (.t 27)), om 6 28]))
   (.ops [om 19 7, o 20 (.bin .add (.t 19) (iv 1)), om 7 20]))))))
 (sq [om 29 6, om 4 29]
 .ret))))))
noncomputable def X.s_hLine (p0 : THex) (p1 : THex) : Option (List (List THex)) :=
 ((X.s_hDistance p0 p1).bind fun v1 => (bif (v1 == 0) then some ([([p0] : List THex)] : List (List THex)) else ((loop (fun (x16 : (Int × (List (List THex)))) => ((bif (decide (x16.1 ≤ v1)) then ((X.s_hCells p0 p1 x16.1 v1).bind fun v19 => (if (x16.2 ++ ([v19] : List (List THex))).length ≤ LIM then some (Sum.inl ((W (x16.1 + 1)), (x16.2 ++ ([v19] : List (List THex))))) else none)) else some (Sum.inr x16.2)) : Option ((Int × (List (List THex))) ⊕ (List (List THex))))) (0, ([] : List (List THex)))).bind fun y22 => some y22)))
theorem s_hLine_ok (p0 : THex) (p1 : THex) (r : (List (List THex))) (H : X.s_hLine p0 p1 = some r) : FnOk Tryz.prog gl 246 [.agg (eTHex p0), .agg (eTHex p1)] (.c (dat 1 eLTHex zLTHex r)) := by
 unfold X.s_hLine at H
 refine fi Tryz.f246 s_hLine_ir [(4, dc 1 eLTHex zLTHex r)] [] glL Tryz.func246 ?_
 refine so [] [] [(2, pk 2), (3, pk 3)] [(2, va (eTHex p0)), (3, va (eTHex p1))] id ?_
 obtain ⟨v1, h2, H⟩ := ofBind H
 refine so [.res (cI v1)] [] [(2, pk 2), (3, pk 3), (5, cI v1)] [(2, va (eTHex p0)), (3, va (eTHex p1))] (aI (s_hDistance_ok p0 p1 v1 h2)) ?_
 refine seq_in ?_
 refine so [] [] [(2, pk 2), (3, pk 3), (5, cI v1), (12, cB (v1 == 0))] [(2, va (eTHex p0)), (3, va (eTHex p1))] id ?_
 rcases ofCond H with ⟨c4, H⟩ | ⟨c4, H⟩
 ·refine it c4 ?_
  refine so [fh eTHex zTHex ([p0] : List THex), fh eLTHex zLTHex ([([p0] : List THex)] : List (List THex))] [] [(4, ow 15 1 ([([p0] : List THex)] : List (List THex)))] [(15, ar 1 eLTHex zLTHex ([([p0] : List THex)] : List (List THex)))] (fun t => aI (rfl : ([p0] : List THex).length = 1) (aI (fF_lit eTHex zTHex ([p0] : List THex)) (aI (Nat.le_refl (([p0] : List THex).length)) (aI (rfl : ([([p0] : List THex)] : List (List THex)).length = 1) (aI (fF_lit eLTHex zLTHex ([([p0] : List THex)] : List (List THex))) (t)))))) ?_
  refine tl [.frz 4] [(4, .c (dat 1 eLTHex zLTHex ([([p0] : List THex)] : List (List THex))))] [] (aI (Nat.le_refl (([([p0] : List THex)] : List (List THex)).length))) ?_
  refine ends_ret ?_
  cases H
  exact And.intro (.inl rfl) rfl
 ·refine jf c4 ?_
  refine sk ?_
  refine so [] [] [(2, pk 2), (3, pk 3), (5, cI v1), (6, .c (.nil))] [(2, va (eTHex p0)), (3, va (eTHex p1))] id ?_
  refine seq_in ?_
  refine so [] [] [(2, pk 2), (3, pk 3), (5, cI v1), (6, .c (.nil)), (7, cI 0)] [(2, va (eTHex p0)), (3, va (eTHex p1))] id ?_
  refine ends_blk ?_
  obtain ⟨y22, h23, H⟩ := ofBind H
  refine tl [.nlo 6 1001 1 (fF eLTHex zLTHex ([] : List (List THex)))] [(2, pk 2), (3, pk 3), (5, cI v1), (6, ow 1001 1 ([] : List (List THex))), (7, cI 0)] [(2, va (eTHex p0)), (3, va (eTHex p1)), (1001, ar 1 eLTHex zLTHex ([] : List (List THex)))] (aI (by decide : 0 < 1)) ?_
  refine loop_in (fun (x : (Int × (List (List THex)))) => lit [(2, pk 2), (3, pk 3), (5, cI v1), (6, ow 1001 1 x.2), (7, cI x.1)] [(2, va (eTHex p0)), (3, va (eTHex p1)), (1001, ar 1 eLTHex zLTHex x.2)]) (fun (z : (List (List THex))) => At (.exit 0) (lit [(6, ow 1001 1 z)] [(1001, ar 1 eLTHex zLTHex z)])) h23 ?_ ?_
  ·clear H h23
   intro x16 y0 H
   refine seq_in ?_
   refine so [] [] [(2, pk 2), (3, pk 3), (5, cI v1), (6, ow 1001 1 x16.2), (7, cI x16.1), (18, cB (decide (x16.1 ≤ v1)))] [(2, va (eTHex p0)), (3, va (eTHex p1)), (1001, ar 1 eLTHex zLTHex x16.2)] id ?_
   rcases ofCond H with ⟨c18, H⟩ | ⟨c18, H⟩
   ·refine it c18 ?_
    refine sk ?_
    refine seq_in ?_
    refine ends_blk ?_
    obtain ⟨v19, h20, H⟩ := ofBind H
    obtain ⟨g21, H⟩ := ofIf H
    refine oo [.res (dc 2 eTHex zTHex v19), fh eLTHex zLTHex ([v19] : List (List THex)), fh eLTHex zLTHex (x16.2 ++ ([v19] : List (List THex)))] [] [(2, pk 2), (3, pk 3), (5, cI v1), (6, ow 28 1 (x16.2 ++ ([v19] : List (List THex)))), (7, cI x16.1)] [(2, va (eTHex p0)), (3, va (eTHex p1)), (28, ar 1 eLTHex zLTHex (x16.2 ++ ([v19] : List (List THex))))] (fun t => aI (s_hCells_ok p0 p1 x16.1 v1 v19 h20) (aI (rfl : ([v19] : List (List THex)).length = 1) (aI (fF_lit eLTHex zLTHex ([v19] : List (List THex))) (aI (And.intro (Nat.le_refl x16.2.length) (And.intro (@List.length_append _ x16.2 ([v19] : List (List THex))) g21)) (aI (fF_appL eLTHex zLTHex x16.2 ([v19] : List (List THex))) (aI (fF_appR eLTHex zLTHex x16.2 ([v19] : List (List THex))) (t))))))) ?_
    change EndsI _ _ _ _ _ _
    refine oo [] [.ren 28 1001] [(2, pk 2), (3, pk 3), (5, cI v1), (6, ow 1001 1 (x16.2 ++ ([v19] : List (List THex)))), (7, cI (W (x16.1 + 1)))] [(2, va (eTHex p0)), (3, va (eTHex p1)), (1001, ar 1 eLTHex zLTHex (x16.2 ++ ([v19] : List (List THex))))] id ?_
    cases H
    exact And.intro rfl rfl
   ·refine jf c18 ?_
    refine tl [] [(6, ow 1001 1 x16.2)] [(1001, ar 1 eLTHex zLTHex x16.2)] id ?_
    refine ends_exit ?_
    cases H
    exact And.intro (by simp) (And.intro rfl rfl)
  ·clear h23
   intro e s q
   obtain ⟨rfl, rfl⟩ := q
   change EndsI _ _ _ _ _ _
   refine so [] [] [(4, ow 1001 1 y22)] [(1001, ar 1 eLTHex zLTHex y22)] id ?_
   refine tl [.frz 4] [(4, dc 1 eLTHex zLTHex y22)] [] (aI (Nat.le_refl y22.length)) ?_
   refine ends_ret ?_
   cases H
   exact And.intro (.inl rfl) rfl
def s_vCells_ir : S :=
 (sq [o 3 (.box 12 (.t 0)), o 6 (.mv (.v (.nil)))]
 (.seq (.draw 10 [o 13 (.fad 7 (.t 3)), o 14 (.load 5 true (.t 13)), om 15 1, o 16 (.call 127 [.t 14, .t 15]), o 17 (.fad 7 (.t 3)), o 18 (.load 5 true (.t 17)), om 19 2, o 20 (.call 127 [.t 18, .t 19]), o 21 (.call 246 [.t 16, .t 20]), om 7 21])
 (sq [o 8 (.mv (.v (.nil)))]
 (.seq (sq [o 9 (.mv (iv 1))]
 (.blk 0 (.loop (.seq (sq [om 22 9, om 23 7, o 24 (.len (.t 23)), o 25 (.bin .sub (.t 24) (iv 1)), o 26 (.bin .lss (.t 22) (.t 25))]
   (.ite (.t 26) .skip
   (.exit 0)))
   (.seq (.blk 1 (sq [o 10 (.mv (.v (.nil)))]
    (.seq (sq [om 29 7, om 30 9, o 31 (.iad 1 (.t 29) (.t 30)), o 32 (.load 1 false (.t 31)), o 33 (.len (.t 32)), o 34 (.mv (iv 0))]
    (.blk 2 (.loop (sq [o 35 (.bin .lss (.t 34) (.t 33))]
      (.seq (.ite (.t 35) .skip
      (.exit 2))
      (.seq (.blk 3 (sq [o 36 (.iad 2 (.t 32) (.t 34)), o 37 (.load 2 true (.t 36)), o 12 (.alloc [.int .i64 0, .int .i64 0]), ⟨none, .store 2 (.t 12) (.t 37), none⟩]
       (.ops [om 38 10, o 39 (.fad 7 (.t 3)), o 40 (.load 5 true (.t 39)), o 41 (.load 2 true (.t 12)), o 42 (.call 125 [.t 40, .t 41]), o 43 (.bsl 1 [.t 42]), o 44 (.app 1 8 (.t 38) (.t 43)), om 10 44])))
      (.ops [o 45 (.bin .add (.t 34) (iv 1)), om 34 45])))))))
    (.ops [om 46 8, om 47 10, o 48 (.bsl 1 [.t 47]), o 49 (.app 1 24 (.t 46) (.t 48)), om 8 49]))))
   (.ops [om 27 9, o 28 (.bin .add (.t 27) (iv 1)), om 9 28]))))))
 (sq [om 50 8, om 6 50]
 .ret)))))
noncomputable def X.s_vCells (p0 : TBoard) (p1 : Int) (p2 : Int) : Option (List (List Int)) :=
 ((X.s_mHex p0.Map p1).bind fun v1 => ((X.s_mHex p0.Map p2).bind fun v3 => ((X.s_hLine v1 v3).bind fun v5 => ((loop (fun (x68 : (Int × (List (List Int)))) => ((bif (decide (x68.1 < (W ((v5.length : Int) - 1)))) then ((at' zLTHex v5 x68.1).bind fun v71 => ((loop (fun (x88 : (Int × (List (List Int)) × (List Int))) => ((bif (decide (x88.1 < (v71.length : Int))) then ((at' zTHex v71 x88.1).bind fun v91 => ((X.s_mIndex p0.Map v91).bind fun v93 => (if (x88.2.2 ++ ([v93] : List Int)).length ≤ LIM then some (Sum.inl ((W (x88.1 + 1)), x88.2.1, (x88.2.2 ++ ([v93] : List Int)))) else none))) else some (Sum.inr (x88.2.1, x88.2.2))) : Option ((Int × (List (List Int)) × (List Int)) ⊕ ((List (List Int)) × (List Int))))) (0, x68.2, ([] : List Int))).bind fun y96 => (if (y96.1 ++ ([y96.2] : List (List Int))).length ≤ LIM then some (Sum.inl ((W (x68.1 + 1)), (y96.1 ++ ([y96.2] : List (List Int))))) else none))) else some (Sum.inr x68.2)) : Option ((Int × (List (List Int))) ⊕ (List (List Int))))) (1, ([] : List (List Int)))).bind fun y99 => some y99))))
theorem s_vCells_ok (p0 : TBoard) (p1 : Int) (p2 : Int) (r : (List (List Int))) (H : X.s_vCells p0 p1 p2 = some r) : FnOk Tryz.prog gl 241 [.agg (eTBoard p0), cI p1, cI p2] (.c (dat 1 eLI zLI r)) := by
 unfold X.s_vCells at H
 refine fi Tryz.f241 s_vCells_ir [(6, dc 1 eLI zLI r)] [] glL Tryz.func241 ?_
 refine so [] [] [(1, cI p1), (2, cI p2), (3, pk 3)] [(3, va (eTBoard p0))] id ?_
 obtain ⟨v1, h2, H⟩ := ofBind H
 obtain ⟨v3, h4, H⟩ := ofBind H
 obtain ⟨v5, h6, H⟩ := ofBind H
 refine sd [.res (.agg (eTHex v1)), .res (.agg (eTHex v3)), .res (dc 1 eLTHex zLTHex v5)] [] [(3, pk 3), (7, dc 1 eLTHex zLTHex v5)] [(3, va (eTBoard p0))] (fun t => aI (s_mHex_ok p0.Map p1 v1 h2) (aI trivial (aI (rfl : ([] : List Nat) = []) (aI (s_mHex_ok p0.Map p2 v3 h4) (aI trivial (aI (rfl : ([] : List Nat) = []) (aI (s_hLine_ok v1 v3 v5 h6) (aI (rfl : ([] : List Nat) = []) (aI (rfl : ([] : List Nat) = []) (t)))))))))) ?_
 refine so [] [] [(3, pk 3), (7, dc 1 eLTHex zLTHex v5), (8, .c (.nil))] [(3, va (eTBoard p0))] id ?_
 refine seq_in ?_
 refine so [] [] [(3, pk 3), (7, dc 1 eLTHex zLTHex v5), (8, .c (.nil)), (9, cI 1)] [(3, va (eTBoard p0))] id ?_
 refine ends_blk ?_
 obtain ⟨y99, h100, H⟩ := ofBind H
 refine tl [.nlo 8 1002 1 (fF eLI zLI ([] : List (List Int)))] [(3, pk 3), (7, dc 1 eLTHex zLTHex v5), (8, ow 1002 1 ([] : List (List Int))), (9, cI 1)] [(3, va (eTBoard p0)), (1002, ar 1 eLI zLI ([] : List (List Int)))] (aI (by decide : 0 < 1)) ?_
 refine loop_in (fun (x : (Int × (List (List Int)))) => lit [(3, pk 3), (7, dc 1 eLTHex zLTHex v5), (8, ow 1002 1 x.2), (9, cI x.1)] [(3, va (eTBoard p0)), (1002, ar 1 eLI zLI x.2)]) (fun (z : (List (List Int))) => At (.exit 0) (lit [(8, ow 1002 1 z)] [(1002, ar 1 eLI zLI z)])) h100 ?_ ?_
 ·clear H h100
  intro x68 y0 H
  refine seq_in ?_
  refine so [] [] [(3, pk 3), (7, dc 1 eLTHex zLTHex v5), (8, ow 1002 1 x68.2), (9, cI x68.1), (26, cB (decide (x68.1 < (W ((v5.length : Int) - 1)))))] [(3, va (eTBoard p0)), (1002, ar 1 eLI zLI x68.2)] (fun t => lI v5 (t)) ?_
  rcases ofCond H with ⟨c70, H⟩ | ⟨c70, H⟩
  ·refine it c70 ?_
   refine sk ?_
   refine seq_in ?_
   refine ends_blk ?_
   refine so [] [] [(3, pk 3), (7, dc 1 eLTHex zLTHex v5), (8, ow 1002 1 x68.2), (9, cI x68.1), (10, .c (.nil))] [(3, va (eTBoard p0)), (1002, ar 1 eLI zLI x68.2)] id ?_
   refine seq_in ?_
   obtain ⟨v71, h72, H⟩ := ofBind H
   refine so [.cs (eLTHex v71)] [] [(3, pk 3), (7, dc 1 eLTHex zLTHex v5), (8, ow 1002 1 x68.2), (9, cI x68.1), (10, .c (.nil)), (32, dc 2 eTHex zTHex v71), (33, cL v71), (34, cI 0)] [(3, va (eTBoard p0)), (1002, ar 1 eLI zLI x68.2)] (fun t => (a2 eLTHex h72 (lI v71 (t)))) ?_
   refine ends_blk ?_
   obtain ⟨y96, h97, H⟩ := ofBind H
   refine tl [.nlo 10 1004 1 (fF eI zI ([] : List Int))] [(3, pk 3), (7, dc 1 eLTHex zLTHex v5), (8, ow 1002 1 x68.2), (9, cI x68.1), (10, ow 1004 1 ([] : List Int)), (32, dc 2 eTHex zTHex v71), (33, cL v71), (34, cI 0)] [(3, va (eTBoard p0)), (1002, ar 1 eLI zLI x68.2), (1004, ar 1 eI zI ([] : List Int))] (aI (by decide : 0 < 1)) ?_
   refine loop_in (fun (x : (Int × (List (List Int)) × (List Int))) => lit [(3, pk 3), (7, dc 1 eLTHex zLTHex v5), (8, ow 1002 1 x.2.1), (9, cI x68.1), (10, ow 1004 1 x.2.2), (32, dc 2 eTHex zTHex v71), (33, cL v71), (34, cI x.1)] [(3, va (eTBoard p0)), (1002, ar 1 eLI zLI x.2.1), (1004, ar 1 eI zI x.2.2)]) (fun (z : ((List (List Int)) × (List Int))) => At (.exit 2) (lit [(3, pk 3), (7, dc 1 eLTHex zLTHex v5), (8, ow 1002 1 z.1), (9, cI x68.1), (10, ow 1004 1 z.2)] [(3, va (eTBoard p0)), (1002, ar 1 eLI zLI z.1), (1004, ar 1 eI zI z.2)])) h97 ?_ ?_
   ·clear H h97
    intro x88 y0 H
    refine so [] [] [(3, pk 3), (7, dc 1 eLTHex zLTHex v5), (8, ow 1002 1 x88.2.1), (9, cI x68.1), (10, ow 1004 1 x88.2.2), (32, dc 2 eTHex zTHex v71), (33, cL v71), (34, cI x88.1), (35, cB (decide (x88.1 < (v71.length : Int))))] [(3, va (eTBoard p0)), (1002, ar 1 eLI zLI x88.2.1), (1004, ar 1 eI zI x88.2.2)] id ?_
    refine seq_in ?_
    rcases ofCond H with ⟨c90, H⟩ | ⟨c90, H⟩
    ·refine it c90 ?_
     refine sk ?_
     refine seq_in ?_
     refine ends_blk ?_
     obtain ⟨v91, h92, H⟩ := ofBind H
     refine so [.cs (eTHex v91)] [] [(3, pk 3), (7, dc 1 eLTHex zLTHex v5), (8, ow 1002 1 x88.2.1), (9, cI x68.1), (10, ow 1004 1 x88.2.2), (12, pk 12), (32, dc 2 eTHex zTHex v71), (33, cL v71), (34, cI x88.1)] [(3, va (eTBoard p0)), (12, va (eTHex v91)), (1002, ar 1 eLI zLI x88.2.1), (1004, ar 1 eI zI x88.2.2)] (a2 eTHex h92) ?_
     obtain ⟨v93, h94, H⟩ := ofBind H
     obtain ⟨g95, H⟩ := ofIf H
     refine oo [.res (cI v93), fh eI zI ([v93] : List Int), fh eI zI (x88.2.2 ++ ([v93] : List Int))] [] [(3, pk 3), (7, dc 1 eLTHex zLTHex v5), (8, ow 1002 1 x88.2.1), (9, cI x68.1), (10, ow 44 1 (x88.2.2 ++ ([v93] : List Int))), (32, dc 2 eTHex zTHex v71), (33, cL v71), (34, cI x88.1)] [(3, va (eTBoard p0)), (44, ar 1 eI zI (x88.2.2 ++ ([v93] : List Int))), (1002, ar 1 eLI zLI x88.2.1)] (fun t => aI (s_mIndex_ok p0.Map v91 v93 h94) (aI (rfl : ([v93] : List Int).length = 1) (aI (fF_lit eI zI ([v93] : List Int)) (aI (And.intro (Nat.le_refl x88.2.2.length) (And.intro (@List.length_append _ x88.2.2 ([v93] : List Int)) g95)) (aI (fF_appL eI zI x88.2.2 ([v93] : List Int)) (aI (fF_appR eI zI x88.2.2 ([v93] : List Int)) (t))))))) ?_
     change EndsI _ _ _ _ _ _
     refine oo [] [.ren 44 1004] [(3, pk 3), (7, dc 1 eLTHex zLTHex v5), (8, ow 1002 1 x88.2.1), (9, cI x68.1), (10, ow 1004 1 (x88.2.2 ++ ([v93] : List Int))), (32, dc 2 eTHex zTHex v71), (33, cL v71), (34, cI (W (x88.1 + 1)))] [(3, va (eTBoard p0)), (1002, ar 1 eLI zLI x88.2.1), (1004, ar 1 eI zI (x88.2.2 ++ ([v93] : List Int)))] id ?_
     cases H
     exact And.intro rfl rfl
    ·refine jf c90 ?_
     refine tl [] [(3, pk 3), (7, dc 1 eLTHex zLTHex v5), (8, ow 1002 1 x88.2.1), (9, cI x68.1), (10, ow 1004 1 x88.2.2)] [(3, va (eTBoard p0)), (1002, ar 1 eLI zLI x88.2.1), (1004, ar 1 eI zI x88.2.2)] id ?_
     refine ends_exit ?_
     cases H
     exact And.intro (by simp) (And.intro rfl rfl)
   ·clear h97
    intro e s q
    obtain ⟨rfl, rfl⟩ := q
    change EndsI _ _ _ _ _ _
    obtain ⟨g98, H⟩ := ofIf H
    refine oo [fh eLI zLI ([y96.2] : List (List Int)), fh eLI zLI (y96.1 ++ ([y96.2] : List (List Int)))] [] [(3, pk 3), (7, dc 1 eLTHex zLTHex v5), (8, ow 49 1 (y96.1 ++ ([y96.2] : List (List Int)))), (9, cI x68.1)] [(3, va (eTBoard p0)), (49, ar 1 eLI zLI (y96.1 ++ ([y96.2] : List (List Int))))] (fun t => aI (Nat.le_refl y96.2.length) (aI (rfl : ([y96.2] : List (List Int)).length = 1) (aI (fF_lit eLI zLI ([y96.2] : List (List Int))) (aI (And.intro (Nat.le_refl y96.1.length) (And.intro (@List.length_append _ y96.1 ([y96.2] : List (List Int))) g98)) (aI (fF_appL eLI zLI y96.1 ([y96.2] : List (List Int))) (aI (fF_appR eLI zLI y96.1 ([y96.2] : List (List Int))) (t))))))) ?_
    change EndsI _ _ _ _ _ _
    refine oo [] [.ren 49 1002] [(3, pk 3), (7, dc 1 eLTHex zLTHex v5), (8, ow 1002 1 (y96.1 ++ ([y96.2] : List (List Int)))), (9, cI (W (x68.1 + 1)))] [(3, va (eTBoard p0)), (1002, ar 1 eLI zLI (y96.1 ++ ([y96.2] : List (List Int))))] id ?_
    cases H
    exact And.intro rfl rfl
  ·refine jf c70 ?_
   refine tl [] [(8, ow 1002 1 x68.2)] [(1002, ar 1 eLI zLI x68.2)] id ?_
   refine ends_exit ?_
   cases H
   exact And.intro (by simp) (And.intro rfl rfl)
 ·clear h100
  intro e s q
  obtain ⟨rfl, rfl⟩ := q
  change EndsI _ _ _ _ _ _
  refine so [] [] [(6, ow 1002 1 y99)] [(1002, ar 1 eLI zLI y99)] id ?_
  refine tl [.frz 6] [(6, dc 1 eLI zLI y99)] [] (aI (Nat.le_refl y99.length)) ?_
  refine ends_ret ?_
  cases H
  exact And.intro (.inl rfl) rfl
def s_vHeight_ir : S :=
 (sq [o 2 (.box 12 (.t 0)), o 4 (.mv (iv 0))]
 (sq [o 6 (.load 12 true (.t 2)), om 7 1, o 8 (.call 197 [.t 6, .t 7]), o 5 (.alloc [.str [], .nil, .int .i64 0, .int .i64 0, .bool false]), ⟨none, .store 5 (.t 5) (.t 8), none⟩]
 (.seq (sq [o 9 (.fad 4 (.t 5)), o 10 (.load 1 false (.t 9))]
 (.ite (.t 10) (sq [o 11 (.fad 3 (.t 5)), o 12 (.load 1 false (.t 11)), o 13 (.bin .add (.t 12) (iv 1)), om 4 13]
  .ret)
 .skip))
 (sq [o 14 (.fad 3 (.t 5)), o 15 (.load 1 false (.t 14)), om 4 15]
 .ret))))
noncomputable def X.s_vHeight (p0 : TBoard) (p1 : Int) : Option Int :=
 ((X.s_bTerrain p0 p1).bind fun v1 => (bif v1.Blocks then some (W (v1.Height + 1)) else some v1.Height))
theorem s_vHeight_ok (p0 : TBoard) (p1 : Int) (r : Int) (H : X.s_vHeight p0 p1 = some r) : FnOk Tryz.prog gl 251 [.agg (eTBoard p0), cI p1] (cI r) := by
 unfold X.s_vHeight at H
 refine fi Tryz.f251 s_vHeight_ir [(4, cI r)] [] glL Tryz.func251 ?_
 refine so [] [] [(1, cI p1), (2, pk 2)] [(2, va (eTBoard p0))] id ?_
 obtain ⟨v1, h2, H⟩ := ofBind H
 refine so [.res (.agg (eTTerrain v1))] [] [(5, pk 5)] [(5, va (eTTerrain v1))] (aI (s_bTerrain_ok p0 p1 v1 h2)) ?_
 refine seq_in ?_
 refine so [] [] [(5, pk 5), (10, cB v1.Blocks)] [(5, va (eTTerrain v1))] id ?_
 rcases ofCond H with ⟨c3, H⟩ | ⟨c3, H⟩
 ·refine it c3 ?_
  refine so [] [] [(4, cI (W (v1.Height + 1)))] [] id ?_
  refine ends_ret ?_
  cases H
  exact And.intro (.inl rfl) rfl
 ·refine jf c3 ?_
  refine sk ?_
  refine so [] [] [(4, cI v1.Height)] [] id ?_
  refine ends_ret ?_
  cases H
  exact And.intro (.inl rfl) rfl
def s_vBlocks_ir : S :=
 (sq [o 4 (.box 12 (.t 0)), o 8 (.mv (.v (.bool false)))]
 (.seq (.draw 14 [o 9 (.load 12 true (.t 4)), om 10 3, o 11 (.call 251 [.t 9, .t 10]), o 12 (.load 12 true (.t 4)), om 13 1, o 14 (.call 197 [.t 12, .t 13]), o 15 (.fld 3 1 false (.t 14)), o 16 (.load 12 true (.t 4)), om 17 2, o 18 (.call 197 [.t 16, .t 17]), o 19 (.fld 3 1 false (.t 18)), o 20 (.call 249 [.t 15, .t 19]), o 21 (.bin .gtr (.t 11) (.t 20)), om 8 21])
 .ret))
noncomputable def X.s_vBlocks (p0 : TBoard) (p1 : Int) (p2 : Int) (p3 : Int) : Option Bool :=
 ((X.s_vHeight p0 p3).bind fun v1 => ((X.s_bTerrain p0 p1).bind fun v3 => ((X.s_bTerrain p0 p2).bind fun v5 => ((X.s_l1Most v3.Height v5.Height).bind fun v7 => some (decide (v1 > v7))))))
theorem s_vBlocks_ok (p0 : TBoard) (p1 : Int) (p2 : Int) (p3 : Int) (r : Bool) (H : X.s_vBlocks p0 p1 p2 p3 = some r) : FnOk Tryz.prog gl 247 [.agg (eTBoard p0), cI p1, cI p2, cI p3] (cB r) := by
 unfold X.s_vBlocks at H
 refine fi Tryz.f247 s_vBlocks_ir [(8, cB r)] [] glL Tryz.func247 ?_
 refine so [] [] [(1, cI p1), (2, cI p2), (3, cI p3), (4, pk 4)] [(4, va (eTBoard p0))] id ?_
 obtain ⟨v1, h2, H⟩ := ofBind H
 obtain ⟨v3, h4, H⟩ := ofBind H
 obtain ⟨v5, h6, H⟩ := ofBind H
 obtain ⟨v7, h8, H⟩ := ofBind H
 refine sd [.res (cI v1), .res (.agg (eTTerrain v3)), .res (.agg (eTTerrain v5)), .res (cI v7)] [] [(8, cB (decide (v1 > v7)))] [] (fun t => aI (s_vHeight_ok p0 p3 v1 h2) (aI trivial (aI (rfl : ([] : List Nat) = []) (aI (s_bTerrain_ok p0 p1 v3 h4) (aI (rfl : ([] : List Nat) = []) (aI (rfl : ([] : List Nat) = []) (aI (s_bTerrain_ok p0 p2 v5 h6) (aI (rfl : ([] : List Nat) = []) (aI (rfl : ([] : List Nat) = []) (aI (s_l1Most_ok v3.Height v5.Height v7 h8) (aI trivial (aI (rfl : ([] : List Nat) = []) (t))))))))))))) ?_
 refine ends_ret ?_
 cases H
 exact And.intro (.inl rfl) rfl
def s_vCount_ir : S :=
 (sq [o 4 (.box 12 (.t 0)), o 8 (.mv (iv 0))]
 (sq [o 9 (.mv (iv 0))]
 (.seq (sq [om 12 3, o 13 (.len (.t 12)), o 14 (.mv (iv 0))]
 (.blk 0 (.loop (sq [o 15 (.bin .lss (.t 14) (.t 13))]
   (.seq (.ite (.t 15) .skip
   (.exit 0))
   (.seq (.blk 1 (sq [o 16 (.iad 1 (.t 12) (.t 14)), o 17 (.load 1 false (.t 16)), om 11 17]
    (sq [o 18 (.load 12 true (.t 4)), om 19 1, om 20 2, om 21 11, o 22 (.call 247 [.t 18, .t 19, .t 20, .t 21])]
    (.ite (.t 22) (.ops [om 23 9, o 24 (.bin .add (.t 23) (iv 1)), om 9 24])
    .skip))))
   (.ops [o 25 (.bin .add (.t 14) (iv 1)), om 14 25])))))))
 (sq [om 26 9, om 8 26]
 .ret))))
noncomputable def X.s_vCount (p0 : TBoard) (p1 : Int) (p2 : Int) (p3 : (List Int)) : Option Int :=
 ((loop (fun (x16 : (Int × Int)) => ((bif (decide (x16.2 < (p3.length : Int))) then ((at' zI p3 x16.2).bind fun v19 => ((X.s_vBlocks p0 p1 p2 v19).bind fun v21 => (bif v21 then some (Sum.inl ((W (x16.1 + 1)), (W (x16.2 + 1)))) else some (Sum.inl (x16.1, (W (x16.2 + 1))))))) else some (Sum.inr x16.1)) : Option ((Int × Int) ⊕ Int))) (0, 0)).bind fun y24 => some y24)
theorem s_vCount_ok (p0 : TBoard) (p1 : Int) (p2 : Int) (p3 : (List Int)) (r : Int) (H : X.s_vCount p0 p1 p2 p3 = some r) : FnOk Tryz.prog gl 242 [.agg (eTBoard p0), cI p1, cI p2, .c (dat 1 eI zI p3)] (cI r) := by
 unfold X.s_vCount at H
 refine fi Tryz.f242 s_vCount_ir [(8, cI r)] [] glL Tryz.func242 ?_
 refine so [] [] [(1, cI p1), (2, cI p2), (3, dc 1 eI zI p3), (4, pk 4)] [(4, va (eTBoard p0))] id ?_
 refine so [] [] [(1, cI p1), (2, cI p2), (3, dc 1 eI zI p3), (4, pk 4), (9, cI 0)] [(4, va (eTBoard p0))] id ?_
 refine seq_in ?_
 refine so [] [] [(1, cI p1), (2, cI p2), (4, pk 4), (9, cI 0), (12, dc 1 eI zI p3), (13, cL p3), (14, cI 0)] [(4, va (eTBoard p0))] (fun t => lI p3 (t)) ?_
 refine ends_blk ?_
 obtain ⟨y24, h25, H⟩ := ofBind H
 refine loop_in (fun (x : (Int × Int)) => lit [(1, cI p1), (2, cI p2), (4, pk 4), (9, cI x.1), (12, dc 1 eI zI p3), (13, cL p3), (14, cI x.2)] [(4, va (eTBoard p0))]) (fun (z : Int) => At (.exit 0) (lit [(9, cI z)] [])) h25 ?_ ?_
 ·clear H h25
  intro x16 y0 H
  refine so [] [] [(1, cI p1), (2, cI p2), (4, pk 4), (9, cI x16.1), (12, dc 1 eI zI p3), (13, cL p3), (14, cI x16.2), (15, cB (decide (x16.2 < (p3.length : Int))))] [(4, va (eTBoard p0))] id ?_
  refine seq_in ?_
  rcases ofCond H with ⟨c18, H⟩ | ⟨c18, H⟩
  ·refine it c18 ?_
   refine sk ?_
   refine seq_in ?_
   refine ends_blk ?_
   obtain ⟨v19, h20, H⟩ := ofBind H
   refine so [.cs (eI v19)] [] [(1, cI p1), (2, cI p2), (4, pk 4), (9, cI x16.1), (11, cI v19), (12, dc 1 eI zI p3), (13, cL p3), (14, cI x16.2)] [(4, va (eTBoard p0))] (a2 eI h20) ?_
   obtain ⟨v21, h22, H⟩ := ofBind H
   refine so [.res (cB v21)] [] [(1, cI p1), (2, cI p2), (4, pk 4), (9, cI x16.1), (12, dc 1 eI zI p3), (13, cL p3), (14, cI x16.2), (22, cB v21)] [(4, va (eTBoard p0))] (aI (s_vBlocks_ok p0 p1 p2 v19 v21 h22)) ?_
   rcases ofCond H with ⟨c23, H⟩ | ⟨c23, H⟩
   ·refine it c23 ?_
    refine oo [] [] [(1, cI p1), (2, cI p2), (4, pk 4), (9, cI (W (x16.1 + 1))), (12, dc 1 eI zI p3), (13, cL p3), (14, cI x16.2)] [(4, va (eTBoard p0))] id ?_
    change EndsI _ _ _ _ _ _
    refine oo [] [] [(1, cI p1), (2, cI p2), (4, pk 4), (9, cI (W (x16.1 + 1))), (12, dc 1 eI zI p3), (13, cL p3), (14, cI (W (x16.2 + 1)))] [(4, va (eTBoard p0))] id ?_
    cases H
    exact And.intro rfl rfl
   ·refine jf c23 ?_
    refine sk ?_
    refine oo [] [] [(1, cI p1), (2, cI p2), (4, pk 4), (9, cI x16.1), (12, dc 1 eI zI p3), (13, cL p3), (14, cI (W (x16.2 + 1)))] [(4, va (eTBoard p0))] id ?_
    cases H
    exact And.intro rfl rfl
  ·refine jf c18 ?_
   refine tl [] [(9, cI x16.1)] [] id ?_
   refine ends_exit ?_
   cases H
   exact And.intro (by simp) (And.intro rfl rfl)
 ·clear h25
  intro e s q
  obtain ⟨rfl, rfl⟩ := q
  change EndsI _ _ _ _ _ _
  refine so [] [] [(8, cI y24)] [] id ?_
  refine ends_ret ?_
  cases H
  exact And.intro (.inl rfl) rfl
def s_vFirst_ir : S :=
 (sq [o 3 (.box 12 (.t 0)), o 6 (.mv (iv 0))]
 (.seq (sq [o 9 (.load 12 true (.t 3)), om 10 1, om 11 2, o 12 (.call 241 [.t 9, .t 10, .t 11]), o 13 (.len (.t 12)), o 14 (.mv (iv 0))]
 (.blk 0 (.loop (sq [o 15 (.bin .lss (.t 14) (.t 13))]
   (.seq (.ite (.t 15) .skip
   (.exit 0))
   (.seq (.blk 1 (sq [om 16 14, o 17 (.iad 1 (.t 12) (.t 14)), o 18 (.load 1 false (.t 17)), om 7 16, om 8 18]
    (sq [o 19 (.load 12 true (.t 3)), om 20 1, om 21 2, om 22 8, o 23 (.call 242 [.t 19, .t 20, .t 21, .t 22]), om 24 8, o 25 (.len (.t 24)), o 26 (.bin .eql (.t 23) (.t 25))]
    (.ite (.t 26) (sq [om 27 7, om 6 27]
     .ret)
    .skip))))
   (.ops [o 28 (.bin .add (.t 14) (iv 1)), om 14 28])))))))
 (sq [o 6 (.mv (.v (.int .i64 (-1))))]
 .ret)))
noncomputable def X.s_vFirst (p0 : TBoard) (p1 : Int) (p2 : Int) : Option Int :=
 ((X.s_vCells p0 p1 p2).bind fun v1 => ((loop (fun (x18 : Int) => ((bif (decide (x18 < (v1.length : Int))) then ((at' zLI v1 x18).bind fun v21 => ((X.s_vCount p0 p1 p2 v21).bind fun v23 => (bif (v23 == (v21.length : Int)) then some (Sum.inr (Sum.inr x18)) else some (Sum.inl (W (x18 + 1)))))) else some (Sum.inr (Sum.inl ()))) : Option (Int ⊕ (Unit ⊕ Int)))) 0).bind fun y26 => (Sum.elim (fun (y28 : Unit) => some (-1)) (fun (y29 : Int) => some y29) y26)))
theorem s_vFirst_ok (p0 : TBoard) (p1 : Int) (p2 : Int) (r : Int) (H : X.s_vFirst p0 p1 p2 = some r) : FnOk Tryz.prog gl 240 [.agg (eTBoard p0), cI p1, cI p2] (cI r) := by
 unfold X.s_vFirst at H
 refine fi Tryz.f240 s_vFirst_ir [(6, cI r)] [] glL Tryz.func240 ?_
 refine so [] [] [(1, cI p1), (2, cI p2), (3, pk 3)] [(3, va (eTBoard p0))] id ?_
 refine seq_in ?_
 obtain ⟨v1, h2, H⟩ := ofBind H
 refine so [.res (dc 1 eLI zLI v1)] [] [(1, cI p1), (2, cI p2), (3, pk 3), (12, dc 1 eLI zLI v1), (13, cL v1), (14, cI 0)] [(3, va (eTBoard p0))] (fun t => aI (s_vCells_ok p0 p1 p2 v1 h2) (lI v1 (t))) ?_
 refine ends_blk ?_
 obtain ⟨y26, h27, H⟩ := ofBind H
 refine loop_in (fun (x : Int) => lit [(1, cI p1), (2, cI p2), (3, pk 3), (12, dc 1 eLI zLI v1), (13, cL v1), (14, cI x)] [(3, va (eTBoard p0))]) (orJ (fun (z : Unit) => At (.exit 0) (lit [] [])) (fun (z : Int) => At .ret (lit [(6, cI z)] []))) h27 ?_ ?_
 ·clear H h27
  intro x18 y0 H
  refine so [] [] [(1, cI p1), (2, cI p2), (3, pk 3), (12, dc 1 eLI zLI v1), (13, cL v1), (14, cI x18), (15, cB (decide (x18 < (v1.length : Int))))] [(3, va (eTBoard p0))] id ?_
  refine seq_in ?_
  rcases ofCond H with ⟨c20, H⟩ | ⟨c20, H⟩
  ·refine it c20 ?_
   refine sk ?_
   refine seq_in ?_
   refine ends_blk ?_
   obtain ⟨v21, h22, H⟩ := ofBind H
   refine so [.cs (eLI v21)] [] [(1, cI p1), (2, cI p2), (3, pk 3), (7, cI x18), (8, dc 1 eI zI v21), (12, dc 1 eLI zLI v1), (13, cL v1), (14, cI x18)] [(3, va (eTBoard p0))] (a2 eLI h22) ?_
   obtain ⟨v23, h24, H⟩ := ofBind H
   refine so [.res (cI v23)] [] [(1, cI p1), (2, cI p2), (3, pk 3), (7, cI x18), (12, dc 1 eLI zLI v1), (13, cL v1), (14, cI x18), (26, cB (v23 == (v21.length : Int)))] [(3, va (eTBoard p0))] (fun t => aI (s_vCount_ok p0 p1 p2 v21 v23 h24) (lI v21 (t))) ?_
   rcases ofCond H with ⟨c25, H⟩ | ⟨c25, H⟩
   ·refine it c25 ?_
    refine so [] [] [(6, cI x18)] [] id ?_
    refine ends_ret ?_
    cases H
    exact And.intro (by simp) (And.intro rfl rfl)
   ·refine jf c25 ?_
    refine sk ?_
    refine oo [] [] [(1, cI p1), (2, cI p2), (3, pk 3), (12, dc 1 eLI zLI v1), (13, cL v1), (14, cI (W (x18 + 1)))] [(3, va (eTBoard p0))] id ?_
    cases H
    exact And.intro rfl rfl
  ·refine jf c20 ?_
   refine tl [] [] [] id ?_
   refine ends_exit ?_
   cases H
   exact And.intro (by simp) (And.intro rfl rfl)
 ·clear h27
  cases y26 with
  | inl y28 =>
   replace H := ofInl H
   intro e s q
   obtain ⟨rfl, rfl⟩ := q
   change EndsI _ _ _ _ _ _
   refine so [] [] [(6, cI (-1))] [] id ?_
   refine ends_ret ?_
   cases H
   exact And.intro (.inl rfl) rfl
  | inr y29 =>
   replace H := ofInr H
   intro e s q
   obtain ⟨rfl, rfl⟩ := q
   cases H
   exact And.intro (.inl rfl) rfl
def s_vCode_ir : S :=
 (sq [o 3 (.box 12 (.t 0)), o 6 (.mv (iv 0))]
 (.seq (sq [o 9 (.load 12 true (.t 3)), om 10 1, om 11 2, o 12 (.call 240 [.t 9, .t 10, .t 11]), o 13 (.bin .geq (.t 12) (iv 0))]
 (.ite (.t 13) (sq [o 6 (.mv (iv 2))]
  .ret)
 .skip))
 (.seq (sq [o 14 (.load 12 true (.t 3)), om 15 1, om 16 2, o 17 (.call 241 [.t 14, .t 15, .t 16]), o 18 (.len (.t 17)), o 19 (.mv (iv 0))]
 (.blk 0 (.loop (sq [o 20 (.bin .lss (.t 19) (.t 18))]
   (.seq (.ite (.t 20) .skip
   (.exit 0))
   (.seq (.blk 1 (sq [o 21 (.iad 1 (.t 17) (.t 19)), o 22 (.load 1 false (.t 21)), om 8 22]
    (sq [o 23 (.load 12 true (.t 3)), om 24 1, om 25 2, om 26 8, o 27 (.call 242 [.t 23, .t 24, .t 25, .t 26]), o 28 (.bin .gtr (.t 27) (iv 0))]
    (.ite (.t 28) (sq [o 6 (.mv (iv 1))]
     .ret)
    .skip))))
   (.ops [o 29 (.bin .add (.t 19) (iv 1)), om 19 29])))))))
 (sq [o 6 (.mv (iv 0))]
 .ret))))
noncomputable def X.s_vCode (p0 : TBoard) (p1 : Int) (p2 : Int) : Option Int :=
 ((X.s_vFirst p0 p1 p2).bind fun v4 => (bif (decide (v4 ≥ 0)) then some 2 else ((X.s_vCells p0 p1 p2).bind fun v7 => ((loop (fun (x24 : Int) => ((bif (decide (x24 < (v7.length : Int))) then ((at' zLI v7 x24).bind fun v27 => ((X.s_vCount p0 p1 p2 v27).bind fun v29 => (bif (decide (v29 > 0)) then some (Sum.inr (Sum.inr 1)) else some (Sum.inl (W (x24 + 1)))))) else some (Sum.inr (Sum.inl ()))) : Option (Int ⊕ (Unit ⊕ Int)))) 0).bind fun y32 => (Sum.elim (fun (y34 : Unit) => some 0) (fun (y35 : Int) => some y35) y32)))))
theorem s_vCode_ok (p0 : TBoard) (p1 : Int) (p2 : Int) (r : Int) (H : X.s_vCode p0 p1 p2 = some r) : FnOk Tryz.prog gl 233 [.agg (eTBoard p0), cI p1, cI p2] (cI r) := by
 unfold X.s_vCode at H
 refine fi Tryz.f233 s_vCode_ir [(6, cI r)] [] glL Tryz.func233 ?_
 refine so [] [] [(1, cI p1), (2, cI p2), (3, pk 3)] [(3, va (eTBoard p0))] id ?_
 refine seq_in ?_
 obtain ⟨v4, h5, H⟩ := ofBind H
 refine so [.res (cI v4)] [] [(1, cI p1), (2, cI p2), (3, pk 3), (13, cB (decide (v4 ≥ 0)))] [(3, va (eTBoard p0))] (aI (s_vFirst_ok p0 p1 p2 v4 h5)) ?_
 rcases ofCond H with ⟨c6, H⟩ | ⟨c6, H⟩
 ·refine it c6 ?_
  refine so [] [] [(6, cI 2)] [] id ?_
  refine ends_ret ?_
  cases H
  exact And.intro (.inl rfl) rfl
 ·refine jf c6 ?_
  refine sk ?_
  refine seq_in ?_
  obtain ⟨v7, h8, H⟩ := ofBind H
  refine so [.res (dc 1 eLI zLI v7)] [] [(1, cI p1), (2, cI p2), (3, pk 3), (17, dc 1 eLI zLI v7), (18, cL v7), (19, cI 0)] [(3, va (eTBoard p0))] (fun t => aI (s_vCells_ok p0 p1 p2 v7 h8) (lI v7 (t))) ?_
  refine ends_blk ?_
  obtain ⟨y32, h33, H⟩ := ofBind H
  refine loop_in (fun (x : Int) => lit [(1, cI p1), (2, cI p2), (3, pk 3), (17, dc 1 eLI zLI v7), (18, cL v7), (19, cI x)] [(3, va (eTBoard p0))]) (orJ (fun (z : Unit) => At (.exit 0) (lit [] [])) (fun (z : Int) => At .ret (lit [(6, cI z)] []))) h33 ?_ ?_
  ·clear H h33
   intro x24 y0 H
   refine so [] [] [(1, cI p1), (2, cI p2), (3, pk 3), (17, dc 1 eLI zLI v7), (18, cL v7), (19, cI x24), (20, cB (decide (x24 < (v7.length : Int))))] [(3, va (eTBoard p0))] id ?_
   refine seq_in ?_
   rcases ofCond H with ⟨c26, H⟩ | ⟨c26, H⟩
   ·refine it c26 ?_
    refine sk ?_
    refine seq_in ?_
    refine ends_blk ?_
    obtain ⟨v27, h28, H⟩ := ofBind H
    refine so [.cs (eLI v27)] [] [(1, cI p1), (2, cI p2), (3, pk 3), (8, dc 1 eI zI v27), (17, dc 1 eLI zLI v7), (18, cL v7), (19, cI x24)] [(3, va (eTBoard p0))] (a2 eLI h28) ?_
    obtain ⟨v29, h30, H⟩ := ofBind H
    refine so [.res (cI v29)] [] [(1, cI p1), (2, cI p2), (3, pk 3), (17, dc 1 eLI zLI v7), (18, cL v7), (19, cI x24), (28, cB (decide (v29 > 0)))] [(3, va (eTBoard p0))] (aI (s_vCount_ok p0 p1 p2 v27 v29 h30)) ?_
    rcases ofCond H with ⟨c31, H⟩ | ⟨c31, H⟩
    ·refine it c31 ?_
     refine so [] [] [(6, cI 1)] [] id ?_
     refine ends_ret ?_
     cases H
     exact And.intro (by simp) (And.intro rfl rfl)
    ·refine jf c31 ?_
     refine sk ?_
     refine oo [] [] [(1, cI p1), (2, cI p2), (3, pk 3), (17, dc 1 eLI zLI v7), (18, cL v7), (19, cI (W (x24 + 1)))] [(3, va (eTBoard p0))] id ?_
     cases H
     exact And.intro rfl rfl
   ·refine jf c26 ?_
    refine tl [] [] [] id ?_
    refine ends_exit ?_
    cases H
    exact And.intro (by simp) (And.intro rfl rfl)
  ·clear h33
   cases y32 with
   | inl y34 =>
    replace H := ofInl H
    intro e s q
    obtain ⟨rfl, rfl⟩ := q
    change EndsI _ _ _ _ _ _
    refine so [] [] [(6, cI 0)] [] id ?_
    refine ends_ret ?_
    cases H
    exact And.intro (.inl rfl) rfl
   | inr y35 =>
    replace H := ofInr H
    intro e s q
    obtain ⟨rfl, rfl⟩ := q
    cases H
    exact And.intro (.inl rfl) rfl
def s_vSeen_ir : S :=
 (sq [o 4 (.box 12 (.t 0)), o 8 (.mv (.v (.nil)))]
 (sq [o 9 (.mv (.v (.nil)))]
 (.seq (sq [o 12 (.fad 7 (.t 4)), o 13 (.load 5 true (.t 12)), om 14 1, om 15 2, o 16 (.call 232 [.t 13, .t 14, .t 15]), o 17 (.len (.t 16)), o 18 (.mv (iv 0))]
 (.blk 0 (.loop (sq [o 19 (.bin .lss (.t 18) (.t 17))]
   (.seq (.ite (.t 19) .skip
   (.exit 0))
   (.seq (.blk 1 (sq [o 20 (.iad 1 (.t 16) (.t 18)), o 21 (.load 1 false (.t 20)), om 11 21]
    (sq [o 22 (.load 12 true (.t 4)), om 23 1, om 24 11, o 25 (.call 233 [.t 22, .t 23, .t 24]), om 26 3, o 27 (.bin .leq (.t 25) (.t 26))]
    (.ite (.t 27) (.ops [om 28 9, om 29 11, o 30 (.bsl 1 [.t 29]), o 31 (.app 1 8 (.t 28) (.t 30)), om 9 31])
    .skip))))
   (.ops [o 32 (.bin .add (.t 18) (iv 1)), om 18 32])))))))
 (sq [om 33 9, om 8 33]
 .ret))))
noncomputable def X.s_vSeen (p0 : TBoard) (p1 : Int) (p2 : Int) (p3 : Int) : Option (List Int) :=
 ((X.s_mNear p0.Map p1 p2).bind fun v1 => ((loop (fun (x20 : (Int × (List Int))) => ((bif (decide (x20.1 < (v1.length : Int))) then ((at' zI v1 x20.1).bind fun v23 => ((X.s_vCode p0 p1 v23).bind fun v25 => (bif (decide (v25 ≤ p3)) then (if (x20.2 ++ ([v23] : List Int)).length ≤ LIM then some (Sum.inl ((W (x20.1 + 1)), (x20.2 ++ ([v23] : List Int)))) else none) else some (Sum.inl ((W (x20.1 + 1)), x20.2))))) else some (Sum.inr x20.2)) : Option ((Int × (List Int)) ⊕ (List Int)))) (0, ([] : List Int))).bind fun y29 => some y29))
theorem s_vSeen_ok (p0 : TBoard) (p1 : Int) (p2 : Int) (p3 : Int) (r : (List Int)) (H : X.s_vSeen p0 p1 p2 p3 = some r) : FnOk Tryz.prog gl 220 [.agg (eTBoard p0), cI p1, cI p2, cI p3] (.c (dat 1 eI zI r)) := by
 unfold X.s_vSeen at H
 refine fi Tryz.f220 s_vSeen_ir [(8, dc 1 eI zI r)] [] glL Tryz.func220 ?_
 refine so [] [] [(1, cI p1), (2, cI p2), (3, cI p3), (4, pk 4)] [(4, va (eTBoard p0))] id ?_
 refine so [] [] [(1, cI p1), (2, cI p2), (3, cI p3), (4, pk 4), (9, .c (.nil))] [(4, va (eTBoard p0))] id ?_
 refine seq_in ?_
 obtain ⟨v1, h2, H⟩ := ofBind H
 refine so [.res (dc 1 eI zI v1)] [] [(1, cI p1), (3, cI p3), (4, pk 4), (9, .c (.nil)), (16, dc 1 eI zI v1), (17, cL v1), (18, cI 0)] [(4, va (eTBoard p0))] (fun t => aI (s_mNear_ok p0.Map p1 p2 v1 h2) (lI v1 (t))) ?_
 refine ends_blk ?_
 obtain ⟨y29, h30, H⟩ := ofBind H
 refine tl [.nlo 9 1001 1 (fF eI zI ([] : List Int))] [(1, cI p1), (3, cI p3), (4, pk 4), (9, ow 1001 1 ([] : List Int)), (16, dc 1 eI zI v1), (17, cL v1), (18, cI 0)] [(4, va (eTBoard p0)), (1001, ar 1 eI zI ([] : List Int))] (aI (by decide : 0 < 1)) ?_
 refine loop_in (fun (x : (Int × (List Int))) => lit [(1, cI p1), (3, cI p3), (4, pk 4), (9, ow 1001 1 x.2), (16, dc 1 eI zI v1), (17, cL v1), (18, cI x.1)] [(4, va (eTBoard p0)), (1001, ar 1 eI zI x.2)]) (fun (z : (List Int)) => At (.exit 0) (lit [(9, ow 1001 1 z)] [(1001, ar 1 eI zI z)])) h30 ?_ ?_
 ·clear H h30
  intro x20 y0 H
  refine so [] [] [(1, cI p1), (3, cI p3), (4, pk 4), (9, ow 1001 1 x20.2), (16, dc 1 eI zI v1), (17, cL v1), (18, cI x20.1), (19, cB (decide (x20.1 < (v1.length : Int))))] [(4, va (eTBoard p0)), (1001, ar 1 eI zI x20.2)] id ?_
  refine seq_in ?_
  rcases ofCond H with ⟨c22, H⟩ | ⟨c22, H⟩
  ·refine it c22 ?_
   refine sk ?_
   refine seq_in ?_
   refine ends_blk ?_
   obtain ⟨v23, h24, H⟩ := ofBind H
   refine so [.cs (eI v23)] [] [(1, cI p1), (3, cI p3), (4, pk 4), (9, ow 1001 1 x20.2), (11, cI v23), (16, dc 1 eI zI v1), (17, cL v1), (18, cI x20.1)] [(4, va (eTBoard p0)), (1001, ar 1 eI zI x20.2)] (a2 eI h24) ?_
   obtain ⟨v25, h26, H⟩ := ofBind H
   refine so [.res (cI v25)] [] [(1, cI p1), (3, cI p3), (4, pk 4), (9, ow 1001 1 x20.2), (11, cI v23), (16, dc 1 eI zI v1), (17, cL v1), (18, cI x20.1), (27, cB (decide (v25 ≤ p3)))] [(4, va (eTBoard p0)), (1001, ar 1 eI zI x20.2)] (aI (s_vCode_ok p0 p1 v23 v25 h26)) ?_
   rcases ofCond H with ⟨c27, H⟩ | ⟨c27, H⟩
   ·refine it c27 ?_
    obtain ⟨g28, H⟩ := ofIf H
    refine oo [fh eI zI ([v23] : List Int), fh eI zI (x20.2 ++ ([v23] : List Int))] [] [(1, cI p1), (3, cI p3), (4, pk 4), (9, ow 31 1 (x20.2 ++ ([v23] : List Int))), (16, dc 1 eI zI v1), (17, cL v1), (18, cI x20.1)] [(4, va (eTBoard p0)), (31, ar 1 eI zI (x20.2 ++ ([v23] : List Int)))] (fun t => aI (rfl : ([v23] : List Int).length = 1) (aI (fF_lit eI zI ([v23] : List Int)) (aI (And.intro (Nat.le_refl x20.2.length) (And.intro (@List.length_append _ x20.2 ([v23] : List Int)) g28)) (aI (fF_appL eI zI x20.2 ([v23] : List Int)) (aI (fF_appR eI zI x20.2 ([v23] : List Int)) (t)))))) ?_
    change EndsI _ _ _ _ _ _
    refine oo [] [.ren 31 1001] [(1, cI p1), (3, cI p3), (4, pk 4), (9, ow 1001 1 (x20.2 ++ ([v23] : List Int))), (16, dc 1 eI zI v1), (17, cL v1), (18, cI (W (x20.1 + 1)))] [(4, va (eTBoard p0)), (1001, ar 1 eI zI (x20.2 ++ ([v23] : List Int)))] id ?_
    cases H
    exact And.intro rfl rfl
   ·refine jf c27 ?_
    refine sk ?_
    refine oo [] [] [(1, cI p1), (3, cI p3), (4, pk 4), (9, ow 1001 1 x20.2), (16, dc 1 eI zI v1), (17, cL v1), (18, cI (W (x20.1 + 1)))] [(4, va (eTBoard p0)), (1001, ar 1 eI zI x20.2)] id ?_
    cases H
    exact And.intro rfl rfl
  ·refine jf c22 ?_
   refine tl [] [(9, ow 1001 1 x20.2)] [(1001, ar 1 eI zI x20.2)] id ?_
   refine ends_exit ?_
   cases H
   exact And.intro (by simp) (And.intro rfl rfl)
 ·clear h30
  intro e s q
  obtain ⟨rfl, rfl⟩ := q
  change EndsI _ _ _ _ _ _
  refine so [] [] [(8, ow 1001 1 y29)] [(1001, ar 1 eI zI y29)] id ?_
  refine tl [.frz 8] [(8, dc 1 eI zI y29)] [] (aI (Nat.le_refl y29.length)) ?_
  refine ends_ret ?_
  cases H
  exact And.intro (.inl rfl) rfl
def s_vBy_ir : S :=
 (sq [o 3 (.box 12 (.t 0)), o 6 (.mv (.v (.nil)))]
 (.seq (.draw 11 [o 7 (.load 12 true (.t 3)), om 8 2, o 9 (.fad 0 (.t 3)), o 10 (.fad 1 (.t 9)), o 11 (.load 1 false (.t 10)), om 12 1, o 13 (.iad 6 (.t 11) (.t 12)), o 14 (.fad 5 (.t 13)), o 15 (.load 1 false (.t 14)), o 16 (.call 220 [.t 7, .t 8, .t 15, .v (.int .i64 1)]), om 6 16])
 .ret))
noncomputable def X.s_vBy (p0 : TBoard) (p1 : Int) (p2 : Int) : Option (List Int) :=
 ((at' zTKind p0.Rules.Kinds p1).bind fun v1 => ((X.s_vSeen p0 p2 v1.View 1).bind fun v3 => some v3))
theorem s_vBy_ok (p0 : TBoard) (p1 : Int) (p2 : Int) (r : (List Int)) (H : X.s_vBy p0 p1 p2 = some r) : FnOk Tryz.prog gl 207 [.agg (eTBoard p0), cI p1, cI p2] (.c (dat 1 eI zI r)) := by
 unfold X.s_vBy at H
 refine fi Tryz.f207 s_vBy_ir [(6, dc 1 eI zI r)] [] glL Tryz.func207 ?_
 refine so [] [] [(1, cI p1), (2, cI p2), (3, pk 3)] [(3, va (eTBoard p0))] id ?_
 obtain ⟨v1, h2, H⟩ := ofBind H
 obtain ⟨v3, h4, H⟩ := ofBind H
 refine sd [.cs (eTKind v1), .res (dc 1 eI zI v3)] [] [(6, dc 1 eI zI v3)] [] (fun t => (a2 eTKind h2 (aI (rfl : ([] : List Nat) = []) (aI (s_vSeen_ok p0 p2 v1.View 1 v3 h4) (aI (rfl : ([] : List Nat) = []) (aI (rfl : ([] : List Nat) = []) (t))))))) ?_
 refine ends_ret ?_
 cases H
 exact And.intro (.inl rfl) rfl
def s_SeenBy_ir : S :=
 (sq [o 3 (.box 12 (.t 0)), o 6 (.mv (.v (.nil))), o 7 (.mv (.v (.bool false)))]
 (.seq (sq [o 8 (.load 12 true (.t 3)), om 9 1, om 10 2, o 11 (.call 92 [.t 8, .t 9, .t 10]), o 12 (.not (.t 11))]
 (.ite (.t 12) (sq [o 6 (.mv (.v (.nil))), o 7 (.mv (.v (.bool false)))]
  .ret)
 .skip))
 (sq [o 13 (.load 12 true (.t 3)), om 14 1, om 15 2, o 16 (.call 207 [.t 13, .t 14, .t 15]), om 6 16, o 7 (.mv (.v (.bool true)))]
 .ret)))
noncomputable def X.s_SeenBy (p0 : TBoard) (p1 : Int) (p2 : Int) : Option ((List Int) × Bool) :=
 ((X.s_bAt p0 p1 p2).bind fun v1 => (bif (!v1) then some (([] : List Int), false) else ((X.s_vBy p0 p1 p2).bind fun v4 => some (v4, true))))
theorem s_SeenBy_ok (p0 : TBoard) (p1 : Int) (p2 : Int) (r : ((List Int) × Bool)) (H : X.s_SeenBy p0 p1 p2 = some r) : FnOk Tryz.prog gl 171 [.agg (eTBoard p0), cI p1, cI p2] (.tup [(false, [dat 1 eI zI r.1]), (false, [.bool r.2])]) := by
 unfold X.s_SeenBy at H
 refine fi Tryz.f171 s_SeenBy_ir [(6, dc 1 eI zI r.1), (7, cB r.2)] [] glL Tryz.func171 ?_
 refine so [] [] [(1, cI p1), (2, cI p2), (3, pk 3)] [(3, va (eTBoard p0))] id ?_
 refine seq_in ?_
 obtain ⟨v1, h2, H⟩ := ofBind H
 refine so [.res (cB v1)] [] [(1, cI p1), (2, cI p2), (3, pk 3), (12, cB (!v1))] [(3, va (eTBoard p0))] (aI (s_bAt_ok p0 p1 p2 v1 h2)) ?_
 rcases ofCond H with ⟨c3, H⟩ | ⟨c3, H⟩
 ·refine it c3 ?_
  refine so [] [] [(6, .c (.nil)), (7, cB false)] [] id ?_
  refine tl [.nld 6 1 (fF eI zI ([] : List Int))] [(6, .c (dat 1 eI zI ([] : List Int))), (7, cB false)] [] id ?_
  refine ends_ret ?_
  cases H
  exact And.intro (.inl rfl) rfl
 ·refine jf c3 ?_
  refine sk ?_
  obtain ⟨v4, h5, H⟩ := ofBind H
  refine so [.res (dc 1 eI zI v4)] [] [(6, dc 1 eI zI v4), (7, cB true)] [] (aI (s_vBy_ok p0 p1 p2 v4 h5)) ?_
  refine ends_ret ?_
  cases H
  exact And.intro (.inl rfl) rfl
def s_fgSpots_ir : S :=
 (sq [o 2 (.box 12 (.t 0)), o 3 (.box 4 (.t 1)), o 4 (.mv (.v (.nil)))]
 (sq [o 8 (.load 12 true (.t 2)), o 9 (.fad 1 (.t 3)), o 10 (.load 1 false (.t 9)), o 11 (.fad 2 (.t 3)), o 12 (.load 1 false (.t 11)), o 13 (.call 171 [.t 8, .t 10, .t 12]), om 7 13, o 14 (.ext (.t 7) 0), o 15 (.ext (.t 7) 1), om 5 14, om 6 15]
 (sq [om 16 5, om 4 16]
 .ret)))
noncomputable def X.s_fgSpots (p0 : TBoard) (p1 : TUnit) : Option (List Int) :=
 ((X.s_SeenBy p0 p1.Kind p1.At).bind fun v1 => some v1.1)
theorem s_fgSpots_ok (p0 : TBoard) (p1 : TUnit) (r : (List Int)) (H : X.s_fgSpots p0 p1 = some r) : FnOk Tryz.prog gl 114 [.agg (eTBoard p0), .agg (eTUnit p1)] (.c (dat 1 eI zI r)) := by
 unfold X.s_fgSpots at H
 refine fi Tryz.f114 s_fgSpots_ir [(4, dc 1 eI zI r)] [] glL Tryz.func114 ?_
 refine so [] [] [(2, pk 2), (3, pk 3)] [(2, va (eTBoard p0)), (3, va (eTUnit p1))] id ?_
 obtain ⟨v1, h2, H⟩ := ofBind H
 refine so [.res (.tup [(false, [dat 1 eI zI v1.1]), (false, [.bool v1.2])])] [] [(5, dc 1 eI zI v1.1)] [] (aI (s_SeenBy_ok p0 p1.Kind p1.At v1 h2)) ?_
 refine so [] [] [(4, dc 1 eI zI v1.1)] [] id ?_
 refine ends_ret ?_
 cases H
 exact And.intro (.inl rfl) rfl
def s_SpottersOf_ir : S :=
 (sq [o 4 (.box 12 (.t 0)), o 5 (.box 3 (.t 1)), o 8 (.mv (.v (.nil))), o 9 (.mv (.v (.bool false)))]
 (.seq (sq [o 13 (.load 12 true (.t 4)), o 14 (.load 3 true (.t 5)), om 15 2, o 16 (.call 60 [.t 13, .t 14, .t 15]), o 17 (.not (.t 16)), om 18 17, ⟨some 19, .load 12 true (.t 4), some (18, false)⟩, ⟨some 20, .load 3 true (.t 5), some (18, false)⟩, ⟨some 21, .mv (.t 3), some (18, false)⟩, ⟨some 22, .call 113 [.t 19, .t 20, .t 21], some (18, false)⟩, ⟨some 23, .not (.t 22), some (18, false)⟩, o 24 (.pick (.t 18) (.v (.bool true)) (.t 23))]
 (.ite (.t 24) (sq [o 8 (.mv (.v (.nil))), o 9 (.mv (.v (.bool false)))]
  .ret)
 .skip))
 (sq [o 10 (.mv (.v (.nil)))]
 (.seq (sq [o 25 (.load 3 true (.t 5)), om 26 2, o 27 (.call 61 [.t 25, .t 26]), o 28 (.len (.t 27)), o 29 (.mv (iv 0))]
 (.blk 0 (.loop (sq [o 30 (.bin .lss (.t 29) (.t 28))]
   (.seq (.ite (.t 30) .skip
   (.exit 0))
   (.seq (.blk 1 (sq [o 31 (.iad 1 (.t 27) (.t 29)), o 32 (.load 1 false (.t 31)), om 12 32]
    (.seq (.draw 9 [o 33 (.load 12 true (.t 4)), o 34 (.fad 2 (.t 5)), o 35 (.load 1 false (.t 34)), om 36 12, o 37 (.iad 4 (.t 35) (.t 36)), o 38 (.load 4 true (.t 37)), o 39 (.call 114 [.t 33, .t 38]), om 40 3, o 41 (.call 106 [.t 39, .t 40])])
    (.ite (.t 41) (.ops [om 42 10, om 43 12, o 44 (.bsl 1 [.t 43]), o 45 (.app 1 8 (.t 42) (.t 44)), om 10 45])
    .skip))))
   (.ops [o 46 (.bin .add (.t 29) (iv 1)), om 29 46])))))))
 (sq [om 47 10, om 8 47, o 9 (.mv (.v (.bool true)))]
 .ret)))))
noncomputable def X.s_SpottersOf (p0 : TBoard) (p1 : TState) (p2 : Int) (p3 : Int) : Option ((List Int) × Bool) :=
 ((X.s_fgSide p0 p1 p2).bind fun v7 => (bif (!v7) then some (([] : List Int), false) else ((X.s_sHex p0 p1 p3).bind fun v10 => (bif (!v10) then some (([] : List Int), false) else ((X.s_sOf p1 p2).bind fun v13 => ((loop (fun (x40 : (Int × (List Int))) => ((bif (decide (x40.1 < (v13.length : Int))) then ((at' zI v13 x40.1).bind fun v43 => ((at' zTUnit p1.Units v43).bind fun v45 => ((X.s_fgSpots p0 v45).bind fun v47 => ((X.s_l1Has v47 p3).bind fun v49 => (bif v49 then (if (x40.2 ++ ([v43] : List Int)).length ≤ LIM then some (Sum.inl ((W (x40.1 + 1)), (x40.2 ++ ([v43] : List Int)))) else none) else some (Sum.inl ((W (x40.1 + 1)), x40.2))))))) else some (Sum.inr x40.2)) : Option ((Int × (List Int)) ⊕ (List Int)))) (0, ([] : List Int))).bind fun y53 => some (y53, true)))))))
theorem s_SpottersOf_ok (p0 : TBoard) (p1 : TState) (p2 : Int) (p3 : Int) (r : ((List Int) × Bool)) (H : X.s_SpottersOf p0 p1 p2 p3 = some r) : FnOk Tryz.prog gl 51 [.agg (eTBoard p0), .agg (eTState p1), cI p2, cI p3] (.tup [(false, [dat 1 eI zI r.1]), (false, [.bool r.2])]) := by
 unfold X.s_SpottersOf at H
 refine fi Tryz.f51 s_SpottersOf_ir [(8, dc 1 eI zI r.1), (9, cB r.2)] [] glL Tryz.func51 ?_
 refine so [] [] [(2, cI p2), (3, cI p3), (4, pk 4), (5, pk 5)] [(4, va (eTBoard p0)), (5, va (eTState p1))] id ?_
 refine seq_in ?_
 obtain ⟨v7, h8, H⟩ := ofBind H
 rcases ofCond H with ⟨c9, H⟩ | ⟨c9, H⟩
 ·refine so [.res (cB v7), .g true, .g true, .g true, .g true, .g true, .g true] [] [(2, cI p2), (3, cI p3), (4, pk 4), (5, pk 5), (24, cB true)] [(4, va (eTBoard p0)), (5, va (eTState p1))] (fun t => aI (s_fgSide_ok p0 p1 p2 v7 h8) (aI c9 (aI c9 (aI c9 (aI c9 (aI c9 (aI c9 (t)))))))) ?_
  refine it (rfl : (true : Bool) = true) ?_
  refine so [] [] [(8, .c (.nil)), (9, cB false)] [] id ?_
  refine tl [.nld 8 1 (fF eI zI ([] : List Int))] [(8, .c (dat 1 eI zI ([] : List Int))), (9, cB false)] [] id ?_
  refine ends_ret ?_
  cases H
  exact And.intro (.inl rfl) rfl
 ·obtain ⟨v10, h11, H⟩ := ofBind H
  refine so [.res (cB v7), .g false, .g false, .g false, .g false, .res (cB v10), .g false, .g false] [] [(2, cI p2), (3, cI p3), (4, pk 4), (5, pk 5), (24, cB (!v10))] [(4, va (eTBoard p0)), (5, va (eTState p1))] (fun t => aI (s_fgSide_ok p0 p1 p2 v7 h8) (aI c9 (aI c9 (aI c9 (aI c9 (aI (s_sHex_ok p0 p1 p3 v10 h11) (aI c9 (aI c9 (t))))))))) ?_
  rcases ofCond H with ⟨c12, H⟩ | ⟨c12, H⟩
  ·refine it c12 ?_
   refine so [] [] [(8, .c (.nil)), (9, cB false)] [] id ?_
   refine tl [.nld 8 1 (fF eI zI ([] : List Int))] [(8, .c (dat 1 eI zI ([] : List Int))), (9, cB false)] [] id ?_
   refine ends_ret ?_
   cases H
   exact And.intro (.inl rfl) rfl
  ·refine jf c12 ?_
   refine sk ?_
   refine so [] [] [(2, cI p2), (3, cI p3), (4, pk 4), (5, pk 5), (10, .c (.nil))] [(4, va (eTBoard p0)), (5, va (eTState p1))] id ?_
   refine seq_in ?_
   obtain ⟨v13, h14, H⟩ := ofBind H
   refine so [.res (dc 1 eI zI v13)] [] [(3, cI p3), (4, pk 4), (5, pk 5), (10, .c (.nil)), (27, dc 1 eI zI v13), (28, cL v13), (29, cI 0)] [(4, va (eTBoard p0)), (5, va (eTState p1))] (fun t => aI (s_sOf_ok p1 p2 v13 h14) (lI v13 (t))) ?_
   refine ends_blk ?_
   obtain ⟨y53, h54, H⟩ := ofBind H
   refine tl [.nlo 10 1001 1 (fF eI zI ([] : List Int))] [(3, cI p3), (4, pk 4), (5, pk 5), (10, ow 1001 1 ([] : List Int)), (27, dc 1 eI zI v13), (28, cL v13), (29, cI 0)] [(4, va (eTBoard p0)), (5, va (eTState p1)), (1001, ar 1 eI zI ([] : List Int))] (aI (by decide : 0 < 1)) ?_
   refine loop_in (fun (x : (Int × (List Int))) => lit [(3, cI p3), (4, pk 4), (5, pk 5), (10, ow 1001 1 x.2), (27, dc 1 eI zI v13), (28, cL v13), (29, cI x.1)] [(4, va (eTBoard p0)), (5, va (eTState p1)), (1001, ar 1 eI zI x.2)]) (fun (z : (List Int)) => At (.exit 0) (lit [(10, ow 1001 1 z)] [(1001, ar 1 eI zI z)])) h54 ?_ ?_
   ·clear H h54
    intro x40 y0 H
    refine so [] [] [(3, cI p3), (4, pk 4), (5, pk 5), (10, ow 1001 1 x40.2), (27, dc 1 eI zI v13), (28, cL v13), (29, cI x40.1), (30, cB (decide (x40.1 < (v13.length : Int))))] [(4, va (eTBoard p0)), (5, va (eTState p1)), (1001, ar 1 eI zI x40.2)] id ?_
    refine seq_in ?_
    rcases ofCond H with ⟨c42, H⟩ | ⟨c42, H⟩
    ·refine it c42 ?_
     refine sk ?_
     refine seq_in ?_
     refine ends_blk ?_
     obtain ⟨v43, h44, H⟩ := ofBind H
     refine so [.cs (eI v43)] [] [(3, cI p3), (4, pk 4), (5, pk 5), (10, ow 1001 1 x40.2), (12, cI v43), (27, dc 1 eI zI v13), (28, cL v13), (29, cI x40.1)] [(4, va (eTBoard p0)), (5, va (eTState p1)), (1001, ar 1 eI zI x40.2)] (a2 eI h44) ?_
     obtain ⟨v45, h46, H⟩ := ofBind H
     obtain ⟨v47, h48, H⟩ := ofBind H
     obtain ⟨v49, h50, H⟩ := ofBind H
     refine sd [.cs (eTUnit v45), .res (dc 1 eI zI v47), .res (cB v49)] [] [(3, cI p3), (4, pk 4), (5, pk 5), (10, ow 1001 1 x40.2), (12, cI v43), (27, dc 1 eI zI v13), (28, cL v13), (29, cI x40.1), (41, cB v49)] [(4, va (eTBoard p0)), (5, va (eTState p1)), (1001, ar 1 eI zI x40.2)] (fun t => (a2 eTUnit h46 (aI (rfl : ([] : List Nat) = []) (aI (s_fgSpots_ok p0 v45 v47 h48) (aI (rfl : ([] : List Nat) = []) (aI (rfl : ([] : List Nat) = []) (aI (s_l1Has_ok v47 p3 v49 h50) (aI trivial (aI (rfl : ([] : List Nat) = []) (t)))))))))) ?_
     rcases ofCond H with ⟨c51, H⟩ | ⟨c51, H⟩
     ·refine it c51 ?_
      obtain ⟨g52, H⟩ := ofIf H
      refine oo [fh eI zI ([v43] : List Int), fh eI zI (x40.2 ++ ([v43] : List Int))] [] [(3, cI p3), (4, pk 4), (5, pk 5), (10, ow 45 1 (x40.2 ++ ([v43] : List Int))), (27, dc 1 eI zI v13), (28, cL v13), (29, cI x40.1)] [(4, va (eTBoard p0)), (5, va (eTState p1)), (45, ar 1 eI zI (x40.2 ++ ([v43] : List Int)))] (fun t => aI (rfl : ([v43] : List Int).length = 1) (aI (fF_lit eI zI ([v43] : List Int)) (aI (And.intro (Nat.le_refl x40.2.length) (And.intro (@List.length_append _ x40.2 ([v43] : List Int)) g52)) (aI (fF_appL eI zI x40.2 ([v43] : List Int)) (aI (fF_appR eI zI x40.2 ([v43] : List Int)) (t)))))) ?_
      change EndsI _ _ _ _ _ _
      refine oo [] [.ren 45 1001] [(3, cI p3), (4, pk 4), (5, pk 5), (10, ow 1001 1 (x40.2 ++ ([v43] : List Int))), (27, dc 1 eI zI v13), (28, cL v13), (29, cI (W (x40.1 + 1)))] [(4, va (eTBoard p0)), (5, va (eTState p1)), (1001, ar 1 eI zI (x40.2 ++ ([v43] : List Int)))] id ?_
      cases H
      exact And.intro rfl rfl
     ·refine jf c51 ?_
      refine sk ?_
      refine oo [] [] [(3, cI p3), (4, pk 4), (5, pk 5), (10, ow 1001 1 x40.2), (27, dc 1 eI zI v13), (28, cL v13), (29, cI (W (x40.1 + 1)))] [(4, va (eTBoard p0)), (5, va (eTState p1)), (1001, ar 1 eI zI x40.2)] id ?_
      cases H
      exact And.intro rfl rfl
    ·refine jf c42 ?_
     refine tl [] [(10, ow 1001 1 x40.2)] [(1001, ar 1 eI zI x40.2)] id ?_
     refine ends_exit ?_
     cases H
     exact And.intro (by simp) (And.intro rfl rfl)
   ·clear h54
    intro e s q
    obtain ⟨rfl, rfl⟩ := q
    change EndsI _ _ _ _ _ _
    refine so [] [] [(8, ow 1001 1 y53), (9, cB true)] [(1001, ar 1 eI zI y53)] id ?_
    refine tl [.frz 8] [(8, dc 1 eI zI y53), (9, cB true)] [] (aI (Nat.le_refl y53.length)) ?_
    refine ends_ret ?_
    cases H
    exact And.intro (.inl rfl) rfl
def g_IndexFunc_int_ir : S :=
 (sq [o 4 (.mv (iv 0))]
 (.seq (sq [om 6 0, o 7 (.len (.t 6)), o 8 (.mv (iv 0))]
 (.blk 0 (.loop (sq [o 9 (.bin .lss (.t 8) (.t 7))]
   (.seq (.ite (.t 9) .skip
   (.exit 0))
   (.seq (.blk 1 (sq [om 10 8, om 5 10]
    (sq [om 11 1, om 12 0, om 13 5, o 14 (.iad 1 (.t 12) (.t 13)), o 15 (.load 1 false (.t 14)), o 16 (.cald (.t 11) [.t 15])]
    (.ite (.t 16) (sq [om 17 5, om 4 17]
     .ret)
    .skip))))
   (.ops [o 18 (.bin .add (.t 8) (iv 1)), om 8 18])))))))
 (sq [o 4 (.mv (.v (.int .i64 (-1))))]
 .ret)))
noncomputable def X.g_IndexFunc_int (p0 : (List Int)) (f1 : Int → Option Bool) : Option Int :=
 ((loop (fun (x16 : Int) => ((bif (decide (x16 < (p0.length : Int))) then ((at' zI p0 x16).bind fun v19 => ((f1 v19).bind fun v21 => (bif v21 then some (Sum.inr (Sum.inr x16)) else some (Sum.inl (W (x16 + 1)))))) else some (Sum.inr (Sum.inl ()))) : Option (Int ⊕ (Unit ⊕ Int)))) 0).bind fun y24 => (Sum.elim (fun (y26 : Unit) => some (-1)) (fun (y27 : Int) => some y27) y24))
theorem g_IndexFunc_int_c1_ok (p0 : (List Int)) (cf1 : FuncId) (cs1_0 : List AC) (f1 : Int → Option Bool) (hf1 : ∀ q0 r, f1 q0 = some r → FnOk Tryz.prog gl cf1 [cI q0, .c (.pd cs1_0 0)] (cB r)) (r : Int) (H : X.g_IndexFunc_int p0 f1 = some r) : FnOk Tryz.prog gl 134 [.c (dat 1 eI zI p0), .c (.clo cf1 [.pd cs1_0 0])] (cI r) := by
 unfold X.g_IndexFunc_int at H
 refine fi Tryz.f134 g_IndexFunc_int_ir [(4, cI r)] [] glL Tryz.func134 ?_
 refine so [] [] [(0, dc 1 eI zI p0), (1, .c (.clo cf1 [.pd cs1_0 0]))] [] id ?_
 refine seq_in ?_
 refine so [] [] [(0, dc 1 eI zI p0), (1, .c (.clo cf1 [.pd cs1_0 0])), (7, cL p0), (8, cI 0)] [] (fun t => lI p0 (t)) ?_
 refine ends_blk ?_
 obtain ⟨y24, h25, H⟩ := ofBind H
 refine loop_in (fun (x : Int) => lit [(0, dc 1 eI zI p0), (1, .c (.clo cf1 [.pd cs1_0 0])), (7, cL p0), (8, cI x)] []) (orJ (fun (z : Unit) => At (.exit 0) (lit [] [])) (fun (z : Int) => At .ret (lit [(4, cI z)] []))) h25 ?_ ?_
 ·clear H h25
  intro x16 y0 H
  refine so [] [] [(0, dc 1 eI zI p0), (1, .c (.clo cf1 [.pd cs1_0 0])), (7, cL p0), (8, cI x16), (9, cB (decide (x16 < (p0.length : Int))))] [] id ?_
  refine seq_in ?_
  rcases ofCond H with ⟨c18, H⟩ | ⟨c18, H⟩
  ·refine it c18 ?_
   refine sk ?_
   refine seq_in ?_
   refine ends_blk ?_
   refine so [] [] [(0, dc 1 eI zI p0), (1, .c (.clo cf1 [.pd cs1_0 0])), (5, cI x16), (7, cL p0), (8, cI x16)] [] id ?_
   obtain ⟨v19, h20, H⟩ := ofBind H
   obtain ⟨v21, h22, H⟩ := ofBind H
   refine so [.cs (eI v19), .res (cB v21)] [] [(0, dc 1 eI zI p0), (1, .c (.clo cf1 [.pd cs1_0 0])), (5, cI x16), (7, cL p0), (8, cI x16), (16, cB v21)] [] (fun t => (a2 eI h20 (aI (hf1 v19 v21 h22) (t)))) ?_
   rcases ofCond H with ⟨c23, H⟩ | ⟨c23, H⟩
   ·refine it c23 ?_
    refine so [] [] [(4, cI x16)] [] id ?_
    refine ends_ret ?_
    cases H
    exact And.intro (by simp) (And.intro rfl rfl)
   ·refine jf c23 ?_
    refine sk ?_
    refine oo [] [] [(0, dc 1 eI zI p0), (1, .c (.clo cf1 [.pd cs1_0 0])), (7, cL p0), (8, cI (W (x16 + 1)))] [] id ?_
    cases H
    exact And.intro rfl rfl
  ·refine jf c18 ?_
   refine tl [] [] [] id ?_
   refine ends_exit ?_
   cases H
   exact And.intro (by simp) (And.intro rfl rfl)
 ·clear h25
  cases y24 with
  | inl y26 =>
   replace H := ofInl H
   intro e s q
   obtain ⟨rfl, rfl⟩ := q
   change EndsI _ _ _ _ _ _
   refine so [] [] [(4, cI (-1))] [] id ?_
   refine ends_ret ?_
   cases H
   exact And.intro (.inl rfl) rfl
  | inr y27 =>
   replace H := ofInr H
   intro e s q
   obtain ⟨rfl, rfl⟩ := q
   cases H
   exact And.intro (.inl rfl) rfl
def g_ContainsFunc_int_ir : S :=
 (sq [o 4 (.mv (.v (.bool false)))]
 (sq [om 5 0, om 6 1, o 7 (.call 134 [.t 5, .t 6]), o 8 (.bin .geq (.t 7) (iv 0)), om 4 8]
 .ret))
noncomputable def X.g_ContainsFunc_int (p0 : (List Int)) (f1 : Int → Option Bool) : Option Bool :=
 ((X.g_IndexFunc_int p0 f1).bind fun v1 => some (decide (v1 ≥ 0)))
theorem g_ContainsFunc_int_c1_ok (p0 : (List Int)) (cf1 : FuncId) (cs1_0 : List AC) (f1 : Int → Option Bool) (hf1 : ∀ q0 r, f1 q0 = some r → FnOk Tryz.prog gl cf1 [cI q0, .c (.pd cs1_0 0)] (cB r)) (r : Bool) (H : X.g_ContainsFunc_int p0 f1 = some r) : FnOk Tryz.prog gl 70 [.c (dat 1 eI zI p0), .c (.clo cf1 [.pd cs1_0 0])] (cB r) := by
 unfold X.g_ContainsFunc_int at H
 refine fi Tryz.f70 g_ContainsFunc_int_ir [(4, cB r)] [] glL Tryz.func70 ?_
 refine so [] [] [(0, dc 1 eI zI p0), (1, .c (.clo cf1 [.pd cs1_0 0]))] [] id ?_
 obtain ⟨v1, h2, H⟩ := ofBind H
 refine so [.res (cI v1)] [] [(4, cB (decide (v1 ≥ 0)))] [] (aI (g_IndexFunc_int_c1_ok p0 (cf1) (cs1_0) f1 hf1 v1 h2)) ?_
 refine ends_ret ?_
 cases H
 exact And.intro (.inl rfl) rfl
def i_inRange_ir : S :=
 (sq [o 6 (.mv (.v (.bool false)))]
 (sq [om 7 1, om 8 0, o 9 (.bin .leq (.t 7) (.t 8)), om 10 9, ⟨some 11, .mv (.t 0), some (10, true)⟩, ⟨some 12, .mv (.t 2), some (10, true)⟩, ⟨some 13, .bin .leq (.t 11) (.t 12), some (10, true)⟩, o 14 (.pick (.t 10) (.t 13) (.v (.bool false))), om 6 14]
 .ret))
noncomputable def X.i_inRange (p0 : Int) (p1 : Int) (p2 : Int) : Option Bool :=
 (bif (decide (p1 ≤ p0)) then some (decide (p0 ≤ p2)) else some false)
theorem i_inRange_ok (p0 : Int) (p1 : Int) (p2 : Int) (r : Bool) (H : X.i_inRange p0 p1 p2 = some r) : FnOk Tryz.prog gl 145 [cI p0, cI p1, cI p2] (cB r) := by
 unfold X.i_inRange at H
 refine fi Tryz.f145 i_inRange_ir [(6, cB r)] [] glL Tryz.func145 ?_
 refine so [] [] [(0, cI p0), (1, cI p1), (2, cI p2)] [] id ?_
 rcases ofCond H with ⟨c1, H⟩ | ⟨c1, H⟩
 ·refine so [.g true, .g true, .g true, .g true] [] [(6, cB (decide (p0 ≤ p2)))] [] (fun t => aI c1 (aI c1 (aI c1 (aI c1 (t))))) ?_
  refine ends_ret ?_
  cases H
  exact And.intro (.inl rfl) rfl
 ·refine so [.g false, .g false, .g false, .g false] [] [(6, cB false)] [] (fun t => aI c1 (aI c1 (aI c1 (aI c1 (t))))) ?_
  refine ends_ret ?_
  cases H
  exact And.intro (.inl rfl) rfl
theorem g_IndexFunc_int_c0_ok (p0 : (List Int)) (cf1 : FuncId) (f1 : Int → Option Bool) (hf1 : ∀ q0 r, f1 q0 = some r → FnOk Tryz.prog gl cf1 [cI q0] (cB r)) (r : Int) (H : X.g_IndexFunc_int p0 f1 = some r) : FnOk Tryz.prog gl 134 [.c (dat 1 eI zI p0), .c (.clo cf1 [])] (cI r) := by
 unfold X.g_IndexFunc_int at H
 refine fi Tryz.f134 g_IndexFunc_int_ir [(4, cI r)] [] glL Tryz.func134 ?_
 refine so [] [] [(0, dc 1 eI zI p0), (1, .c (.clo cf1 []))] [] id ?_
 refine seq_in ?_
 refine so [] [] [(0, dc 1 eI zI p0), (1, .c (.clo cf1 [])), (7, cL p0), (8, cI 0)] [] (fun t => lI p0 (t)) ?_
 refine ends_blk ?_
 obtain ⟨y24, h25, H⟩ := ofBind H
 refine loop_in (fun (x : Int) => lit [(0, dc 1 eI zI p0), (1, .c (.clo cf1 [])), (7, cL p0), (8, cI x)] []) (orJ (fun (z : Unit) => At (.exit 0) (lit [] [])) (fun (z : Int) => At .ret (lit [(4, cI z)] []))) h25 ?_ ?_
 ·clear H h25
  intro x16 y0 H
  refine so [] [] [(0, dc 1 eI zI p0), (1, .c (.clo cf1 [])), (7, cL p0), (8, cI x16), (9, cB (decide (x16 < (p0.length : Int))))] [] id ?_
  refine seq_in ?_
  rcases ofCond H with ⟨c18, H⟩ | ⟨c18, H⟩
  ·refine it c18 ?_
   refine sk ?_
   refine seq_in ?_
   refine ends_blk ?_
   refine so [] [] [(0, dc 1 eI zI p0), (1, .c (.clo cf1 [])), (5, cI x16), (7, cL p0), (8, cI x16)] [] id ?_
   obtain ⟨v19, h20, H⟩ := ofBind H
   obtain ⟨v21, h22, H⟩ := ofBind H
   refine so [.cs (eI v19), .res (cB v21)] [] [(0, dc 1 eI zI p0), (1, .c (.clo cf1 [])), (5, cI x16), (7, cL p0), (8, cI x16), (16, cB v21)] [] (fun t => (a2 eI h20 (aI (hf1 v19 v21 h22) (t)))) ?_
   rcases ofCond H with ⟨c23, H⟩ | ⟨c23, H⟩
   ·refine it c23 ?_
    refine so [] [] [(4, cI x16)] [] id ?_
    refine ends_ret ?_
    cases H
    exact And.intro (by simp) (And.intro rfl rfl)
   ·refine jf c23 ?_
    refine sk ?_
    refine oo [] [] [(0, dc 1 eI zI p0), (1, .c (.clo cf1 [])), (7, cL p0), (8, cI (W (x16 + 1)))] [] id ?_
    cases H
    exact And.intro rfl rfl
  ·refine jf c18 ?_
   refine tl [] [] [] id ?_
   refine ends_exit ?_
   cases H
   exact And.intro (by simp) (And.intro rfl rfl)
 ·clear h25
  cases y24 with
  | inl y26 =>
   replace H := ofInl H
   intro e s q
   obtain ⟨rfl, rfl⟩ := q
   change EndsI _ _ _ _ _ _
   refine so [] [] [(4, cI (-1))] [] id ?_
   refine ends_ret ?_
   cases H
   exact And.intro (.inl rfl) rfl
  | inr y27 =>
   replace H := ofInr H
   intro e s q
   obtain ⟨rfl, rfl⟩ := q
   cases H
   exact And.intro (.inl rfl) rfl
theorem g_ContainsFunc_int_c0_ok (p0 : (List Int)) (cf1 : FuncId) (f1 : Int → Option Bool) (hf1 : ∀ q0 r, f1 q0 = some r → FnOk Tryz.prog gl cf1 [cI q0] (cB r)) (r : Bool) (H : X.g_ContainsFunc_int p0 f1 = some r) : FnOk Tryz.prog gl 70 [.c (dat 1 eI zI p0), .c (.clo cf1 [])] (cB r) := by
 unfold X.g_ContainsFunc_int at H
 refine fi Tryz.f70 g_ContainsFunc_int_ir [(4, cB r)] [] glL Tryz.func70 ?_
 refine so [] [] [(0, dc 1 eI zI p0), (1, .c (.clo cf1 []))] [] id ?_
 obtain ⟨v1, h2, H⟩ := ofBind H
 refine so [.res (cI v1)] [] [(4, cB (decide (v1 ≥ 0)))] [] (aI (g_IndexFunc_int_c0_ok p0 (cf1) f1 hf1 v1 h2)) ?_
 refine ends_ret ?_
 cases H
 exact And.intro (.inl rfl) rfl
def i_isName_ir : S :=
 (sq [o 2 (.mv (.v (.bool false)))]
 (.seq (sq [o 3 (.mv (iv 0))]
 (.blk 0 (.loop (.seq (sq [om 4 3, om 5 0, o 6 (.lens (.t 5)), o 7 (.bin .lss (.t 4) (.t 6))]
   (.ite (.t 7) .skip
   (.exit 0)))
   (.seq (.blk 1 (sq [om 10 0, om 11 3, o 12 (.ixs (.t 10) (.t 11)), o 13 (.bin .lss (.t 12) (.v (.int .u8 97))), om 14 13, ⟨some 15, .mv (.t 0), some (14, false)⟩, ⟨some 16, .mv (.t 3), some (14, false)⟩, ⟨some 17, .ixs (.t 15) (.t 16), some (14, false)⟩, ⟨some 18, .bin .gtr (.t 17) (.v (.int .u8 122)), some (14, false)⟩, o 19 (.pick (.t 14) (.v (.bool true)) (.t 18))]
    (.ite (.t 19) (sq [o 2 (.mv (.v (.bool false)))]
     .ret)
    .skip)))
   (.ops [om 8 3, o 9 (.bin .add (.t 8) (iv 1)), om 3 9]))))))
 (sq [om 20 0, o 21 (.lens (.t 20)), o 22 (.call 145 [.t 21, .v (.int .i64 1), .v (.int .i64 8)]), om 2 22]
 .ret)))
noncomputable def X.i_isName (p0 : (List UInt8)) : Option Bool :=
 ((loop (fun (x14 : Int) => ((bif (decide (x14 < (p0.length : Int))) then (if 0 ≤ x14 ∧ x14 < (p0.length : Int) then (bif (decide ((((p0.getD x14.toNat 0).toNat : Nat) : Int) < 97)) then some (Sum.inr (Sum.inr false)) else (if 0 ≤ x14 ∧ x14 < (p0.length : Int) then (bif (decide ((((p0.getD x14.toNat 0).toNat : Nat) : Int) > 122)) then some (Sum.inr (Sum.inr false)) else some (Sum.inl (W (x14 + 1)))) else none)) else none) else some (Sum.inr (Sum.inl ()))) : Option (Int ⊕ (Unit ⊕ Bool)))) 0).bind fun y21 => (Sum.elim (fun (y23 : Unit) => ((X.i_inRange (p0.length : Int) 1 8).bind fun v25 => some v25)) (fun (y24 : Bool) => some y24) y21))
theorem i_isName_ok (p0 : (List UInt8)) (r : Bool) (H : X.i_isName p0 = some r) : FnOk Tryz.prog gl 223 [.c (.str p0)] (cB r) := by
 unfold X.i_isName at H
 refine fi Tryz.f223 i_isName_ir [(2, cB r)] [] glL Tryz.func223 ?_
 refine so [] [] [(0, .c (.str p0))] [] id ?_
 refine seq_in ?_
 refine so [] [] [(0, .c (.str p0)), (3, cI 0)] [] id ?_
 refine ends_blk ?_
 obtain ⟨y21, h22, H⟩ := ofBind H
 refine loop_in (fun (x : Int) => lit [(0, .c (.str p0)), (3, cI x)] []) (orJ (fun (z : Unit) => At (.exit 0) (lit [(0, .c (.str p0))] [])) (fun (z : Bool) => At .ret (lit [(2, cB z)] []))) h22 ?_ ?_
 ·clear H h22
  intro x14 y0 H
  refine seq_in ?_
  refine so [] [] [(0, .c (.str p0)), (3, cI x14), (7, cB (decide (x14 < (p0.length : Int))))] [] id ?_
  rcases ofCond H with ⟨c16, H⟩ | ⟨c16, H⟩
  ·refine it c16 ?_
   refine sk ?_
   refine seq_in ?_
   refine ends_blk ?_
   obtain ⟨g17, H⟩ := ofIf H
   rcases ofCond H with ⟨c18, H⟩ | ⟨c18, H⟩
   ·refine so [.g true, .g true, .g true, .g true, .g true] [] [(0, .c (.str p0)), (3, cI x14), (19, cB true)] [] (fun t => aI g17 (aI c18 (aI c18 (aI c18 (aI c18 (aI c18 (t))))))) ?_
    refine it (rfl : (true : Bool) = true) ?_
    refine so [] [] [(2, cB false)] [] id ?_
    refine ends_ret ?_
    cases H
    exact And.intro (by simp) (And.intro rfl rfl)
   ·obtain ⟨g19, H⟩ := ofIf H
    refine so [.g false, .g false, .g false, .g false, .g false] [] [(0, .c (.str p0)), (3, cI x14), (19, cB (decide ((((p0.getD x14.toNat 0).toNat : Nat) : Int) > 122)))] [] (fun t => aI g17 (aI c18 (aI c18 (aI c18 (aI g19 (aI c18 (aI c18 (t)))))))) ?_
    rcases ofCond H with ⟨c20, H⟩ | ⟨c20, H⟩
    ·refine it c20 ?_
     refine so [] [] [(2, cB false)] [] id ?_
     refine ends_ret ?_
     cases H
     exact And.intro (by simp) (And.intro rfl rfl)
    ·refine jf c20 ?_
     refine sk ?_
     refine oo [] [] [(0, .c (.str p0)), (3, cI (W (x14 + 1)))] [] id ?_
     cases H
     exact And.intro rfl rfl
  ·refine jf c16 ?_
   refine tl [] [(0, .c (.str p0))] [] id ?_
   refine ends_exit ?_
   cases H
   exact And.intro (by simp) (And.intro rfl rfl)
 ·clear h22
  cases y21 with
  | inl y23 =>
   replace H := ofInl H
   intro e s q
   obtain ⟨rfl, rfl⟩ := q
   change EndsI _ _ _ _ _ _
   obtain ⟨v25, h26, H⟩ := ofBind H
   refine so [.res (cB v25)] [] [(2, cB v25)] [] (aI (i_inRange_ok (p0.length : Int) 1 8 v25 h26)) ?_
   refine ends_ret ?_
   cases H
   exact And.intro (.inl rfl) rfl
  | inr y24 =>
   replace H := ofInr H
   intro e s q
   obtain ⟨rfl, rfl⟩ := q
   cases H
   exact And.intro (.inl rfl) rfl
def i_goodTerrain_1_ir : S :=
 (sq [o 2 (.mv (.v (.bool false)))]
 (sq [om 3 0, o 4 (.call 145 [.t 3, .v (.int .i64 0), .v (.int .i64 9)]), o 5 (.not (.t 4)), om 2 5]
 .ret))
noncomputable def X.i_goodTerrain_1 (p0 : Int) : Option Bool :=
 ((X.i_inRange p0 0 9).bind fun v1 => some (!v1))
theorem i_goodTerrain_1_ok (p0 : Int) (r : Bool) (H : X.i_goodTerrain_1 p0 = some r) : FnOk Tryz.prog gl 224 [cI p0] (cB r) := by
 unfold X.i_goodTerrain_1 at H
 refine fi Tryz.f224 i_goodTerrain_1_ir [(2, cB r)] [] glL Tryz.func224 ?_
 refine so [] [] [(0, cI p0)] [] id ?_
 obtain ⟨v1, h2, H⟩ := ofBind H
 refine so [.res (cB v1)] [] [(2, cB (!v1))] [] (aI (i_inRange_ok p0 0 9 v1 h2)) ?_
 refine ends_ret ?_
 cases H
 exact And.intro (.inl rfl) rfl
def i_goodTerrain_ir : S :=
 (sq [o 2 (.box 5 (.t 0)), o 4 (.mv (.v (.bool false)))]
 (.seq (sq [o 5 (.fad 0 (.t 2)), o 6 (.load 1 false (.t 5)), o 7 (.call 223 [.t 6]), o 8 (.not (.t 7)), om 9 8, ⟨some 10, .fad 1 (.t 2), some (9, false)⟩, ⟨some 11, .load 1 false (.t 10), some (9, false)⟩, ⟨some 12, .len (.t 11), some (9, false)⟩, ⟨some 13, .mv (.t 1), some (9, false)⟩, ⟨some 14, .bin .neq (.t 12) (.t 13), some (9, false)⟩, o 15 (.pick (.t 9) (.v (.bool true)) (.t 14)), om 16 15, ⟨some 17, .fad 2 (.t 2), some (16, false)⟩, ⟨some 18, .load 1 false (.t 17), some (16, false)⟩, ⟨some 19, .call 145 [.t 18, .v (.int .i64 (-3)), .v (.int .i64 3)], some (16, false)⟩, ⟨some 20, .not (.t 19), some (16, false)⟩, o 21 (.pick (.t 16) (.v (.bool true)) (.t 20)), om 22 21, ⟨some 23, .fad 3 (.t 2), some (22, false)⟩, ⟨some 24, .load 1 false (.t 23), some (22, false)⟩, ⟨some 25, .call 145 [.t 24, .v (.int .i64 0), .v (.int .i64 3)], some (22, false)⟩, ⟨some 26, .not (.t 25), some (22, false)⟩, o 27 (.pick (.t 22) (.v (.bool true)) (.t 26))]
 (.ite (.t 27) (sq [o 4 (.mv (.v (.bool false)))]
  .ret)
 .skip))
 (sq [o 28 (.fad 1 (.t 2)), o 29 (.load 1 false (.t 28)), o 30 (.call 70 [.t 29, .f 224]), o 31 (.not (.t 30)), om 4 31]
 .ret)))
noncomputable def X.i_goodTerrain (p0 : TTerrain) (p1 : Int) : Option Bool :=
 ((X.i_isName p0.Name).bind fun v1 => (bif (!v1) then some false else (bif ((p0.Cost.length : Int) != p1) then some false else ((X.i_inRange p0.Shift (-3) 3).bind fun v5 => (bif (!v5) then some false else ((X.i_inRange p0.Height 0 3).bind fun v8 => (bif (!v8) then some false else ((X.g_ContainsFunc_int p0.Cost (fun q0 => X.i_goodTerrain_1 q0)).bind fun v11 => some (!v11)))))))))
theorem i_goodTerrain_ok (p0 : TTerrain) (p1 : Int) (r : Bool) (H : X.i_goodTerrain p0 p1 = some r) : FnOk Tryz.prog gl 213 [.agg (eTTerrain p0), cI p1] (cB r) := by
 unfold X.i_goodTerrain at H
 refine fi Tryz.f213 i_goodTerrain_ir [(4, cB r)] [] glL Tryz.func213 ?_
 refine so [] [] [(1, cI p1), (2, pk 2)] [(2, va (eTTerrain p0))] id ?_
 refine seq_in ?_
 obtain ⟨v1, h2, H⟩ := ofBind H
 rcases ofCond H with ⟨c3, H⟩ | ⟨c3, H⟩
 ·refine so [.res (cB v1), .g true, .g true, .g true, .g true, .g true, .g true, .g true, .g true, .g true, .g true, .g true, .g true, .g true, .g true, .g true, .g true] [] [(2, pk 2), (27, cB true)] [(2, va (eTTerrain p0))] (fun t => aI (i_isName_ok p0.Name v1 h2) (aI c3 (aI c3 (aI c3 (aI c3 (aI c3 (aI c3 (aI (rfl : (true : Bool) = true) (aI (rfl : (true : Bool) = true) (aI (rfl : (true : Bool) = true) (aI (rfl : (true : Bool) = true) (aI (rfl : (true : Bool) = true) (aI (rfl : (true : Bool) = true) (aI (rfl : (true : Bool) = true) (aI (rfl : (true : Bool) = true) (aI (rfl : (true : Bool) = true) (aI (rfl : (true : Bool) = true) (t)))))))))))))))))) ?_
  refine it (rfl : (true : Bool) = true) ?_
  refine so [] [] [(4, cB false)] [] id ?_
  refine ends_ret ?_
  cases H
  exact And.intro (.inl rfl) rfl
 ·rcases ofCond H with ⟨c4, H⟩ | ⟨c4, H⟩
  ·refine so [.res (cB v1), .g false, .g false, .g false, .g false, .g false, .g false, .g true, .g true, .g true, .g true, .g true, .g true, .g true, .g true, .g true, .g true] [] [(2, pk 2), (27, cB true)] [(2, va (eTTerrain p0))] (fun t => aI (i_isName_ok p0.Name v1 h2) (aI c3 (aI c3 (aI c3 (lI p0.Cost (aI c3 (aI c3 (aI c3 (aI c4 (aI c4 (aI c4 (aI c4 (aI c4 (aI (rfl : (true : Bool) = true) (aI (rfl : (true : Bool) = true) (aI (rfl : (true : Bool) = true) (aI (rfl : (true : Bool) = true) (aI (rfl : (true : Bool) = true) (t))))))))))))))))))) ?_
   refine it (rfl : (true : Bool) = true) ?_
   refine so [] [] [(4, cB false)] [] id ?_
   refine ends_ret ?_
   cases H
   exact And.intro (.inl rfl) rfl
  ·obtain ⟨v5, h6, H⟩ := ofBind H
   rcases ofCond H with ⟨c7, H⟩ | ⟨c7, H⟩
   ·refine so [.res (cB v1), .g false, .g false, .g false, .g false, .g false, .g false, .g false, .g false, .g false, .res (cB v5), .g false, .g false, .g true, .g true, .g true, .g true, .g true] [] [(2, pk 2), (27, cB true)] [(2, va (eTTerrain p0))] (fun t => aI (i_isName_ok p0.Name v1 h2) (aI c3 (aI c3 (aI c3 (lI p0.Cost (aI c3 (aI c3 (aI c3 (aI c4 (aI c4 (aI c4 (aI (i_inRange_ok p0.Shift (-3) 3 v5 h6) (aI c4 (aI c4 (aI c7 (aI c7 (aI c7 (aI c7 (aI c7 (t)))))))))))))))))))) ?_
    refine it (rfl : (true : Bool) = true) ?_
    refine so [] [] [(4, cB false)] [] id ?_
    refine ends_ret ?_
    cases H
    exact And.intro (.inl rfl) rfl
   ·obtain ⟨v8, h9, H⟩ := ofBind H
    refine so [.res (cB v1), .g false, .g false, .g false, .g false, .g false, .g false, .g false, .g false, .g false, .res (cB v5), .g false, .g false, .g false, .g false, .g false, .res (cB v8), .g false, .g false] [] [(2, pk 2), (27, cB (!v8))] [(2, va (eTTerrain p0))] (fun t => aI (i_isName_ok p0.Name v1 h2) (aI c3 (aI c3 (aI c3 (lI p0.Cost (aI c3 (aI c3 (aI c3 (aI c4 (aI c4 (aI c4 (aI (i_inRange_ok p0.Shift (-3) 3 v5 h6) (aI c4 (aI c4 (aI c7 (aI c7 (aI c7 (aI (i_inRange_ok p0.Height 0 3 v8 h9) (aI c7 (aI c7 (t))))))))))))))))))))) ?_
    rcases ofCond H with ⟨c10, H⟩ | ⟨c10, H⟩
    ·refine it c10 ?_
     refine so [] [] [(4, cB false)] [] id ?_
     refine ends_ret ?_
     cases H
     exact And.intro (.inl rfl) rfl
    ·refine jf c10 ?_
     refine sk ?_
     obtain ⟨v11, h12, H⟩ := ofBind H
     refine so [.res (cB v11)] [] [(4, cB (!v11))] [] (aI (g_ContainsFunc_int_c0_ok p0.Cost (224) (fun q0 => X.i_goodTerrain_1 q0) (fun q0 r h => i_goodTerrain_1_ok q0 r h) v11 h12)) ?_
     refine ends_ret ?_
     cases H
     exact And.intro (.inl rfl) rfl
def g_IndexFunc_Terrain_ir : S :=
 (sq [o 4 (.mv (iv 0))]
 (.seq (sq [om 6 0, o 7 (.len (.t 6)), o 8 (.mv (iv 0))]
 (.blk 0 (.loop (sq [o 9 (.bin .lss (.t 8) (.t 7))]
   (.seq (.ite (.t 9) .skip
   (.exit 0))
   (.seq (.blk 1 (sq [om 10 8, om 5 10]
    (sq [om 11 1, om 12 0, om 13 5, o 14 (.iad 5 (.t 12) (.t 13)), o 15 (.load 5 true (.t 14)), o 16 (.cald (.t 11) [.t 15])]
    (.ite (.t 16) (sq [om 17 5, om 4 17]
     .ret)
    .skip))))
   (.ops [o 18 (.bin .add (.t 8) (iv 1)), om 8 18])))))))
 (sq [o 4 (.mv (.v (.int .i64 (-1))))]
 .ret)))
noncomputable def X.g_IndexFunc_Terrain (p0 : (List TTerrain)) (f1 : TTerrain → Option Bool) : Option Int :=
 ((loop (fun (x16 : Int) => ((bif (decide (x16 < (p0.length : Int))) then ((at' zTTerrain p0 x16).bind fun v19 => ((f1 v19).bind fun v21 => (bif v21 then some (Sum.inr (Sum.inr x16)) else some (Sum.inl (W (x16 + 1)))))) else some (Sum.inr (Sum.inl ()))) : Option (Int ⊕ (Unit ⊕ Int)))) 0).bind fun y24 => (Sum.elim (fun (y26 : Unit) => some (-1)) (fun (y27 : Int) => some y27) y24))
theorem g_IndexFunc_Terrain_c1_ok (p0 : (List TTerrain)) (cf1 : FuncId) (cs1_0 : List AC) (f1 : TTerrain → Option Bool) (hf1 : ∀ q0 r, f1 q0 = some r → FnOk Tryz.prog gl cf1 [.agg (eTTerrain q0), .c (.pd cs1_0 0)] (cB r)) (r : Int) (H : X.g_IndexFunc_Terrain p0 f1 = some r) : FnOk Tryz.prog gl 225 [.c (dat 5 eTTerrain zTTerrain p0), .c (.clo cf1 [.pd cs1_0 0])] (cI r) := by
 unfold X.g_IndexFunc_Terrain at H
 refine fi Tryz.f225 g_IndexFunc_Terrain_ir [(4, cI r)] [] glL Tryz.func225 ?_
 refine so [] [] [(0, dc 5 eTTerrain zTTerrain p0), (1, .c (.clo cf1 [.pd cs1_0 0]))] [] id ?_
 refine seq_in ?_
 refine so [] [] [(0, dc 5 eTTerrain zTTerrain p0), (1, .c (.clo cf1 [.pd cs1_0 0])), (7, cL p0), (8, cI 0)] [] (fun t => lI p0 (t)) ?_
 refine ends_blk ?_
 obtain ⟨y24, h25, H⟩ := ofBind H
 refine loop_in (fun (x : Int) => lit [(0, dc 5 eTTerrain zTTerrain p0), (1, .c (.clo cf1 [.pd cs1_0 0])), (7, cL p0), (8, cI x)] []) (orJ (fun (z : Unit) => At (.exit 0) (lit [] [])) (fun (z : Int) => At .ret (lit [(4, cI z)] []))) h25 ?_ ?_
 ·clear H h25
  intro x16 y0 H
  refine so [] [] [(0, dc 5 eTTerrain zTTerrain p0), (1, .c (.clo cf1 [.pd cs1_0 0])), (7, cL p0), (8, cI x16), (9, cB (decide (x16 < (p0.length : Int))))] [] id ?_
  refine seq_in ?_
  rcases ofCond H with ⟨c18, H⟩ | ⟨c18, H⟩
  ·refine it c18 ?_
   refine sk ?_
   refine seq_in ?_
   refine ends_blk ?_
   refine so [] [] [(0, dc 5 eTTerrain zTTerrain p0), (1, .c (.clo cf1 [.pd cs1_0 0])), (5, cI x16), (7, cL p0), (8, cI x16)] [] id ?_
   obtain ⟨v19, h20, H⟩ := ofBind H
   obtain ⟨v21, h22, H⟩ := ofBind H
   refine so [.cs (eTTerrain v19), .res (cB v21)] [] [(0, dc 5 eTTerrain zTTerrain p0), (1, .c (.clo cf1 [.pd cs1_0 0])), (5, cI x16), (7, cL p0), (8, cI x16), (16, cB v21)] [] (fun t => (a2 eTTerrain h20 (aI (hf1 v19 v21 h22) (t)))) ?_
   rcases ofCond H with ⟨c23, H⟩ | ⟨c23, H⟩
   ·refine it c23 ?_
    refine so [] [] [(4, cI x16)] [] id ?_
    refine ends_ret ?_
    cases H
    exact And.intro (by simp) (And.intro rfl rfl)
   ·refine jf c23 ?_
    refine sk ?_
    refine oo [] [] [(0, dc 5 eTTerrain zTTerrain p0), (1, .c (.clo cf1 [.pd cs1_0 0])), (7, cL p0), (8, cI (W (x16 + 1)))] [] id ?_
    cases H
    exact And.intro rfl rfl
  ·refine jf c18 ?_
   refine tl [] [] [] id ?_
   refine ends_exit ?_
   cases H
   exact And.intro (by simp) (And.intro rfl rfl)
 ·clear h25
  cases y24 with
  | inl y26 =>
   replace H := ofInl H
   intro e s q
   obtain ⟨rfl, rfl⟩ := q
   change EndsI _ _ _ _ _ _
   refine so [] [] [(4, cI (-1))] [] id ?_
   refine ends_ret ?_
   cases H
   exact And.intro (.inl rfl) rfl
  | inr y27 =>
   replace H := ofInr H
   intro e s q
   obtain ⟨rfl, rfl⟩ := q
   cases H
   exact And.intro (.inl rfl) rfl
def i_terrainIndex_1_ir : S :=
 (sq [o 2 (.box 5 (.t 0)), o 3 (.mv (.v (.bool false)))]
 (sq [o 4 (.fad 0 (.t 2)), o 5 (.load 1 false (.t 4)), o 6 (.load 1 false (.t 1)), o 7 (.bin .eql (.t 5) (.t 6)), om 3 7]
 .ret))
noncomputable def X.i_terrainIndex_1 (p0 : TTerrain) (p1 : (List UInt8)) : Option Bool :=
 some (p0.Name == p1)
theorem i_terrainIndex_1_ok (p0 : TTerrain) (p1 : (List UInt8)) (r : Bool) (H : X.i_terrainIndex_1 p0 p1 = some r) : FnOk Tryz.prog gl 226 [.agg (eTTerrain p0), .c (.pd (eS p1) 0)] (cB r) := by
 unfold X.i_terrainIndex_1 at H
 refine fi Tryz.f226 i_terrainIndex_1_ir [(3, cB r)] [] glL Tryz.func226 ?_
 refine so [] [] [(1, .c (.pd (eS p1) 0)), (2, pk 2)] [(2, va (eTTerrain p0))] id ?_
 refine so [] [] [(3, cB (p0.Name == p1))] [] id ?_
 refine ends_ret ?_
 cases H
 exact And.intro (.inl rfl) rfl
def i_terrainIndex_ir : S :=
 (sq [o 3 (.box 1 (.t 1)), o 4 (.mv (iv 0))]
 (sq [om 5 0, o 6 (.clo 226 [.t 3]), o 7 (.call 225 [.t 5, .t 6]), om 4 7]
 .ret))
noncomputable def X.i_terrainIndex (p0 : (List TTerrain)) (p1 : (List UInt8)) : Option Int :=
 ((X.g_IndexFunc_Terrain p0 (fun q0 => X.i_terrainIndex_1 q0 p1)).bind fun v1 => some v1)
theorem i_terrainIndex_ok (p0 : (List TTerrain)) (p1 : (List UInt8)) (r : Int) (H : X.i_terrainIndex p0 p1 = some r) : FnOk Tryz.prog gl 214 [.c (dat 5 eTTerrain zTTerrain p0), .c (.str p1)] (cI r) := by
 unfold X.i_terrainIndex at H
 refine fi Tryz.f214 i_terrainIndex_ir [(4, cI r)] [] glL Tryz.func214 ?_
 refine so [] [] [(0, dc 5 eTTerrain zTTerrain p0), (3, pk 3)] [(3, .var [.str p1] false)] id ?_
 obtain ⟨v1, h2, H⟩ := ofBind H
 refine so [.res (cI v1)] [] [(4, cI v1)] [] (aI (g_IndexFunc_Terrain_c1_ok p0 (226) (eS p1) (fun q0 => X.i_terrainIndex_1 q0 p1) (fun q0 r h => i_terrainIndex_1_ok q0 p1 r h) v1 h2)) ?_
 refine ends_ret ?_
 cases H
 exact And.intro (.inl rfl) rfl
def i_goodKind_ir : S :=
 (sq [o 1 (.box 6 (.t 0)), o 2 (.mv (.v (.bool false)))]
 (sq [o 3 (.fad 0 (.t 1)), o 4 (.load 1 false (.t 3)), o 5 (.call 223 [.t 4]), om 6 5, ⟨some 7, .fad 1 (.t 1), some (6, true)⟩, ⟨some 8, .load 1 false (.t 7), some (6, true)⟩, ⟨some 9, .call 145 [.t 8, .v (.int .i64 1), .v (.int .i64 9)], some (6, true)⟩, o 10 (.pick (.t 6) (.t 9) (.v (.bool false))), om 11 10, ⟨some 12, .fad 2 (.t 1), some (11, true)⟩, ⟨some 13, .load 1 false (.t 12), some (11, true)⟩, ⟨some 14, .call 145 [.t 13, .v (.int .i64 0), .v (.int .i64 9)], some (11, true)⟩, o 15 (.pick (.t 11) (.t 14) (.v (.bool false))), om 16 15, ⟨some 17, .fad 3 (.t 1), some (16, true)⟩, ⟨some 18, .load 1 false (.t 17), some (16, true)⟩, ⟨some 19, .call 145 [.t 18, .v (.int .i64 1), .v (.int .i64 4)], some (16, true)⟩, o 20 (.pick (.t 16) (.t 19) (.v (.bool false))), om 21 20, ⟨some 22, .fad 5 (.t 1), some (21, true)⟩, ⟨some 23, .load 1 false (.t 22), some (21, true)⟩, ⟨some 24, .call 145 [.t 23, .v (.int .i64 0), .v (.int .i64 4)], some (21, true)⟩, o 25 (.pick (.t 21) (.t 24) (.v (.bool false))), om 2 25]
 .ret))
noncomputable def X.i_goodKind (p0 : TKind) : Option Bool :=
 ((X.i_isName p0.Name).bind fun v1 => (bif v1 then ((X.i_inRange p0.Strength 1 9).bind fun v4 => (bif v4 then ((X.i_inRange p0.Moves 0 9).bind fun v7 => (bif v7 then ((X.i_inRange p0.Steps 1 4).bind fun v10 => (bif v10 then ((X.i_inRange p0.View 0 4).bind fun v13 => some v13) else some false)) else some false)) else some false)) else some false))
theorem i_goodKind_ok (p0 : TKind) (r : Bool) (H : X.i_goodKind p0 = some r) : FnOk Tryz.prog gl 215 [.agg (eTKind p0)] (cB r) := by
 unfold X.i_goodKind at H
 refine fi Tryz.f215 i_goodKind_ir [(2, cB r)] [] glL Tryz.func215 ?_
 refine so [] [] [(1, pk 1)] [(1, va (eTKind p0))] id ?_
 obtain ⟨v1, h2, H⟩ := ofBind H
 rcases ofCond H with ⟨c3, H⟩ | ⟨c3, H⟩
 ·obtain ⟨v4, h5, H⟩ := ofBind H
  rcases ofCond H with ⟨c6, H⟩ | ⟨c6, H⟩
  ·obtain ⟨v7, h8, H⟩ := ofBind H
   rcases ofCond H with ⟨c9, H⟩ | ⟨c9, H⟩
   ·obtain ⟨v10, h11, H⟩ := ofBind H
    rcases ofCond H with ⟨c12, H⟩ | ⟨c12, H⟩
    ·obtain ⟨v13, h14, H⟩ := ofBind H
     refine so [.res (cB v1), .g true, .g true, .g true, .res (cB v4), .g true, .g true, .g true, .g true, .res (cB v7), .g true, .g true, .g true, .g true, .res (cB v10), .g true, .g true, .g true, .g true, .res (cB v13), .g true] [] [(2, cB v13)] [] (fun t => aI (i_isName_ok p0.Name v1 h2) (aI c3 (aI c3 (aI c3 (aI (i_inRange_ok p0.Strength 1 9 v4 h5) (aI c3 (aI c6 (aI c6 (aI c6 (aI (i_inRange_ok p0.Moves 0 9 v7 h8) (aI c6 (aI c9 (aI c9 (aI c9 (aI (i_inRange_ok p0.Steps 1 4 v10 h11) (aI c9 (aI c12 (aI c12 (aI c12 (aI (i_inRange_ok p0.View 0 4 v13 h14) (aI c12 (t)))))))))))))))))))))) ?_
     refine ends_ret ?_
     cases H
     exact And.intro (.inl rfl) rfl
    ·refine so [.res (cB v1), .g true, .g true, .g true, .res (cB v4), .g true, .g true, .g true, .g true, .res (cB v7), .g true, .g true, .g true, .g true, .res (cB v10), .g true, .g false, .g false, .g false, .g false] [] [(2, cB false)] [] (fun t => aI (i_isName_ok p0.Name v1 h2) (aI c3 (aI c3 (aI c3 (aI (i_inRange_ok p0.Strength 1 9 v4 h5) (aI c3 (aI c6 (aI c6 (aI c6 (aI (i_inRange_ok p0.Moves 0 9 v7 h8) (aI c6 (aI c9 (aI c9 (aI c9 (aI (i_inRange_ok p0.Steps 1 4 v10 h11) (aI c9 (aI c12 (aI c12 (aI c12 (aI c12 (t))))))))))))))))))))) ?_
     refine ends_ret ?_
     cases H
     exact And.intro (.inl rfl) rfl
   ·refine so [.res (cB v1), .g true, .g true, .g true, .res (cB v4), .g true, .g true, .g true, .g true, .res (cB v7), .g true, .g false, .g false, .g false, .g false, .g false, .g false, .g false, .g false] [] [(2, cB false)] [] (fun t => aI (i_isName_ok p0.Name v1 h2) (aI c3 (aI c3 (aI c3 (aI (i_inRange_ok p0.Strength 1 9 v4 h5) (aI c3 (aI c6 (aI c6 (aI c6 (aI (i_inRange_ok p0.Moves 0 9 v7 h8) (aI c6 (aI c9 (aI c9 (aI c9 (aI c9 (aI (rfl : (false : Bool) = false) (aI (rfl : (false : Bool) = false) (aI (rfl : (false : Bool) = false) (aI (rfl : (false : Bool) = false) (t)))))))))))))))))))) ?_
    refine ends_ret ?_
    cases H
    exact And.intro (.inl rfl) rfl
  ·refine so [.res (cB v1), .g true, .g true, .g true, .res (cB v4), .g true, .g false, .g false, .g false, .g false, .g false, .g false, .g false, .g false, .g false, .g false, .g false, .g false] [] [(2, cB false)] [] (fun t => aI (i_isName_ok p0.Name v1 h2) (aI c3 (aI c3 (aI c3 (aI (i_inRange_ok p0.Strength 1 9 v4 h5) (aI c3 (aI c6 (aI c6 (aI c6 (aI c6 (aI (rfl : (false : Bool) = false) (aI (rfl : (false : Bool) = false) (aI (rfl : (false : Bool) = false) (aI (rfl : (false : Bool) = false) (aI (rfl : (false : Bool) = false) (aI (rfl : (false : Bool) = false) (aI (rfl : (false : Bool) = false) (aI (rfl : (false : Bool) = false) (t))))))))))))))))))) ?_
   refine ends_ret ?_
   cases H
   exact And.intro (.inl rfl) rfl
 ·refine so [.res (cB v1), .g false, .g false, .g false, .g false, .g false, .g false, .g false, .g false, .g false, .g false, .g false, .g false, .g false, .g false, .g false, .g false] [] [(2, cB false)] [] (fun t => aI (i_isName_ok p0.Name v1 h2) (aI c3 (aI c3 (aI c3 (aI c3 (aI (rfl : (false : Bool) = false) (aI (rfl : (false : Bool) = false) (aI (rfl : (false : Bool) = false) (aI (rfl : (false : Bool) = false) (aI (rfl : (false : Bool) = false) (aI (rfl : (false : Bool) = false) (aI (rfl : (false : Bool) = false) (aI (rfl : (false : Bool) = false) (aI (rfl : (false : Bool) = false) (aI (rfl : (false : Bool) = false) (aI (rfl : (false : Bool) = false) (aI (rfl : (false : Bool) = false) (t)))))))))))))))))) ?_
  refine ends_ret ?_
  cases H
  exact And.intro (.inl rfl) rfl
def g_IndexFunc_Kind_ir : S :=
 (sq [o 4 (.mv (iv 0))]
 (.seq (sq [om 6 0, o 7 (.len (.t 6)), o 8 (.mv (iv 0))]
 (.blk 0 (.loop (sq [o 9 (.bin .lss (.t 8) (.t 7))]
   (.seq (.ite (.t 9) .skip
   (.exit 0))
   (.seq (.blk 1 (sq [om 10 8, om 5 10]
    (sq [om 11 1, om 12 0, om 13 5, o 14 (.iad 6 (.t 12) (.t 13)), o 15 (.load 6 true (.t 14)), o 16 (.cald (.t 11) [.t 15])]
    (.ite (.t 16) (sq [om 17 5, om 4 17]
     .ret)
    .skip))))
   (.ops [o 18 (.bin .add (.t 8) (iv 1)), om 8 18])))))))
 (sq [o 4 (.mv (.v (.int .i64 (-1))))]
 .ret)))
noncomputable def X.g_IndexFunc_Kind (p0 : (List TKind)) (f1 : TKind → Option Bool) : Option Int :=
 ((loop (fun (x16 : Int) => ((bif (decide (x16 < (p0.length : Int))) then ((at' zTKind p0 x16).bind fun v19 => ((f1 v19).bind fun v21 => (bif v21 then some (Sum.inr (Sum.inr x16)) else some (Sum.inl (W (x16 + 1)))))) else some (Sum.inr (Sum.inl ()))) : Option (Int ⊕ (Unit ⊕ Int)))) 0).bind fun y24 => (Sum.elim (fun (y26 : Unit) => some (-1)) (fun (y27 : Int) => some y27) y24))
theorem g_IndexFunc_Kind_c1_ok (p0 : (List TKind)) (cf1 : FuncId) (cs1_0 : List AC) (f1 : TKind → Option Bool) (hf1 : ∀ q0 r, f1 q0 = some r → FnOk Tryz.prog gl cf1 [.agg (eTKind q0), .c (.pd cs1_0 0)] (cB r)) (r : Int) (H : X.g_IndexFunc_Kind p0 f1 = some r) : FnOk Tryz.prog gl 227 [.c (dat 6 eTKind zTKind p0), .c (.clo cf1 [.pd cs1_0 0])] (cI r) := by
 unfold X.g_IndexFunc_Kind at H
 refine fi Tryz.f227 g_IndexFunc_Kind_ir [(4, cI r)] [] glL Tryz.func227 ?_
 refine so [] [] [(0, dc 6 eTKind zTKind p0), (1, .c (.clo cf1 [.pd cs1_0 0]))] [] id ?_
 refine seq_in ?_
 refine so [] [] [(0, dc 6 eTKind zTKind p0), (1, .c (.clo cf1 [.pd cs1_0 0])), (7, cL p0), (8, cI 0)] [] (fun t => lI p0 (t)) ?_
 refine ends_blk ?_
 obtain ⟨y24, h25, H⟩ := ofBind H
 refine loop_in (fun (x : Int) => lit [(0, dc 6 eTKind zTKind p0), (1, .c (.clo cf1 [.pd cs1_0 0])), (7, cL p0), (8, cI x)] []) (orJ (fun (z : Unit) => At (.exit 0) (lit [] [])) (fun (z : Int) => At .ret (lit [(4, cI z)] []))) h25 ?_ ?_
 ·clear H h25
  intro x16 y0 H
  refine so [] [] [(0, dc 6 eTKind zTKind p0), (1, .c (.clo cf1 [.pd cs1_0 0])), (7, cL p0), (8, cI x16), (9, cB (decide (x16 < (p0.length : Int))))] [] id ?_
  refine seq_in ?_
  rcases ofCond H with ⟨c18, H⟩ | ⟨c18, H⟩
  ·refine it c18 ?_
   refine sk ?_
   refine seq_in ?_
   refine ends_blk ?_
   refine so [] [] [(0, dc 6 eTKind zTKind p0), (1, .c (.clo cf1 [.pd cs1_0 0])), (5, cI x16), (7, cL p0), (8, cI x16)] [] id ?_
   obtain ⟨v19, h20, H⟩ := ofBind H
   obtain ⟨v21, h22, H⟩ := ofBind H
   refine so [.cs (eTKind v19), .res (cB v21)] [] [(0, dc 6 eTKind zTKind p0), (1, .c (.clo cf1 [.pd cs1_0 0])), (5, cI x16), (7, cL p0), (8, cI x16), (16, cB v21)] [] (fun t => (a2 eTKind h20 (aI (hf1 v19 v21 h22) (t)))) ?_
   rcases ofCond H with ⟨c23, H⟩ | ⟨c23, H⟩
   ·refine it c23 ?_
    refine so [] [] [(4, cI x16)] [] id ?_
    refine ends_ret ?_
    cases H
    exact And.intro (by simp) (And.intro rfl rfl)
   ·refine jf c23 ?_
    refine sk ?_
    refine oo [] [] [(0, dc 6 eTKind zTKind p0), (1, .c (.clo cf1 [.pd cs1_0 0])), (7, cL p0), (8, cI (W (x16 + 1)))] [] id ?_
    cases H
    exact And.intro rfl rfl
  ·refine jf c18 ?_
   refine tl [] [] [] id ?_
   refine ends_exit ?_
   cases H
   exact And.intro (by simp) (And.intro rfl rfl)
 ·clear h25
  cases y24 with
  | inl y26 =>
   replace H := ofInl H
   intro e s q
   obtain ⟨rfl, rfl⟩ := q
   change EndsI _ _ _ _ _ _
   refine so [] [] [(4, cI (-1))] [] id ?_
   refine ends_ret ?_
   cases H
   exact And.intro (.inl rfl) rfl
  | inr y27 =>
   replace H := ofInr H
   intro e s q
   obtain ⟨rfl, rfl⟩ := q
   cases H
   exact And.intro (.inl rfl) rfl
def i_kindIndex_1_ir : S :=
 (sq [o 2 (.box 6 (.t 0)), o 3 (.mv (.v (.bool false)))]
 (sq [o 4 (.fad 0 (.t 2)), o 5 (.load 1 false (.t 4)), o 6 (.load 1 false (.t 1)), o 7 (.bin .eql (.t 5) (.t 6)), om 3 7]
 .ret))
noncomputable def X.i_kindIndex_1 (p0 : TKind) (p1 : (List UInt8)) : Option Bool :=
 some (p0.Name == p1)
theorem i_kindIndex_1_ok (p0 : TKind) (p1 : (List UInt8)) (r : Bool) (H : X.i_kindIndex_1 p0 p1 = some r) : FnOk Tryz.prog gl 228 [.agg (eTKind p0), .c (.pd (eS p1) 0)] (cB r) := by
 unfold X.i_kindIndex_1 at H
 refine fi Tryz.f228 i_kindIndex_1_ir [(3, cB r)] [] glL Tryz.func228 ?_
 refine so [] [] [(1, .c (.pd (eS p1) 0)), (2, pk 2)] [(2, va (eTKind p0))] id ?_
 refine so [] [] [(3, cB (p0.Name == p1))] [] id ?_
 refine ends_ret ?_
 cases H
 exact And.intro (.inl rfl) rfl
def i_kindIndex_ir : S :=
 (sq [o 3 (.box 1 (.t 1)), o 4 (.mv (iv 0))]
 (sq [om 5 0, o 6 (.clo 228 [.t 3]), o 7 (.call 227 [.t 5, .t 6]), om 4 7]
 .ret))
noncomputable def X.i_kindIndex (p0 : (List TKind)) (p1 : (List UInt8)) : Option Int :=
 ((X.g_IndexFunc_Kind p0 (fun q0 => X.i_kindIndex_1 q0 p1)).bind fun v1 => some v1)
theorem i_kindIndex_ok (p0 : (List TKind)) (p1 : (List UInt8)) (r : Int) (H : X.i_kindIndex p0 p1 = some r) : FnOk Tryz.prog gl 216 [.c (dat 6 eTKind zTKind p0), .c (.str p1)] (cI r) := by
 unfold X.i_kindIndex at H
 refine fi Tryz.f216 i_kindIndex_ir [(4, cI r)] [] glL Tryz.func216 ?_
 refine so [] [] [(0, dc 6 eTKind zTKind p0), (3, pk 3)] [(3, .var [.str p1] false)] id ?_
 obtain ⟨v1, h2, H⟩ := ofBind H
 refine so [.res (cI v1)] [] [(4, cI v1)] [] (aI (g_IndexFunc_Kind_c1_ok p0 (228) (eS p1) (fun q0 => X.i_kindIndex_1 q0 p1) (fun q0 r h => i_kindIndex_1_ok q0 p1 r h) v1 h2)) ?_
 refine ends_ret ?_
 cases H
 exact And.intro (.inl rfl) rfl
def i_IsRules_ir : S :=
 (sq [o 1 (.box 7 (.t 0)), o 2 (.mv (.v (.bool false)))]
 (.seq (sq [o 7 (.fad 0 (.t 1)), o 8 (.load 1 false (.t 7)), o 9 (.len (.t 8)), o 10 (.call 145 [.t 9, .v (.int .i64 1), .v (.int .i64 6)]), o 11 (.not (.t 10)), om 12 11, ⟨some 13, .fad 1 (.t 1), some (12, false)⟩, ⟨some 14, .load 1 false (.t 13), some (12, false)⟩, ⟨some 15, .len (.t 14), some (12, false)⟩, ⟨some 16, .call 145 [.t 15, .v (.int .i64 1), .v (.int .i64 4)], some (12, false)⟩, ⟨some 17, .not (.t 16), some (12, false)⟩, o 18 (.pick (.t 12) (.v (.bool true)) (.t 17))]
 (.ite (.t 18) (sq [o 2 (.mv (.v (.bool false)))]
  .ret)
 .skip))
 (.seq (sq [o 19 (.fad 0 (.t 1)), o 20 (.load 1 false (.t 19)), o 21 (.len (.t 20)), o 22 (.mv (iv 0))]
 (.blk 0 (.loop (sq [o 23 (.bin .lss (.t 22) (.t 21))]
   (.seq (.ite (.t 23) .skip
   (.exit 0))
   (.seq (.blk 1 (sq [om 24 22, o 25 (.iad 5 (.t 20) (.t 22)), o 26 (.load 5 true (.t 25)), o 4 (.alloc [.str [], .nil, .int .i64 0, .int .i64 0, .bool false]), om 3 24, ⟨none, .store 5 (.t 4) (.t 26), none⟩]
    (sq [o 27 (.load 5 true (.t 4)), o 28 (.fad 1 (.t 1)), o 29 (.load 1 false (.t 28)), o 30 (.len (.t 29)), o 31 (.call 213 [.t 27, .t 30]), o 32 (.not (.t 31)), om 33 32, ⟨some 34, .fad 0 (.t 1), some (33, false)⟩, ⟨some 35, .load 1 false (.t 34), some (33, false)⟩, ⟨some 36, .fad 0 (.t 4), some (33, false)⟩, ⟨some 37, .load 1 false (.t 36), some (33, false)⟩, ⟨some 38, .call 214 [.t 35, .t 37], some (33, false)⟩, ⟨some 39, .mv (.t 3), some (33, false)⟩, ⟨some 40, .bin .neq (.t 38) (.t 39), some (33, false)⟩, o 41 (.pick (.t 33) (.v (.bool true)) (.t 40))]
    (.ite (.t 41) (sq [o 2 (.mv (.v (.bool false)))]
     .ret)
    .skip))))
   (.ops [o 42 (.bin .add (.t 22) (iv 1)), om 22 42])))))))
 (.seq (sq [o 43 (.fad 1 (.t 1)), o 44 (.load 1 false (.t 43)), o 45 (.len (.t 44)), o 46 (.mv (iv 0))]
 (.blk 2 (.loop (sq [o 47 (.bin .lss (.t 46) (.t 45))]
   (.seq (.ite (.t 47) .skip
   (.exit 2))
   (.seq (.blk 3 (sq [om 48 46, o 49 (.iad 6 (.t 44) (.t 46)), o 50 (.load 6 true (.t 49)), o 6 (.alloc [.str [], .int .i64 0, .int .i64 0, .int .i64 0, .bool false, .int .i64 0]), om 5 48, ⟨none, .store 6 (.t 6) (.t 50), none⟩]
    (sq [o 51 (.load 6 true (.t 6)), o 52 (.call 215 [.t 51]), o 53 (.not (.t 52)), om 54 53, ⟨some 55, .fad 1 (.t 1), some (54, false)⟩, ⟨some 56, .load 1 false (.t 55), some (54, false)⟩, ⟨some 57, .fad 0 (.t 6), some (54, false)⟩, ⟨some 58, .load 1 false (.t 57), some (54, false)⟩, ⟨some 59, .call 216 [.t 56, .t 58], some (54, false)⟩, ⟨some 60, .mv (.t 5), some (54, false)⟩, ⟨some 61, .bin .neq (.t 59) (.t 60), some (54, false)⟩, o 62 (.pick (.t 54) (.v (.bool true)) (.t 61))]
    (.ite (.t 62) (sq [o 2 (.mv (.v (.bool false)))]
     .ret)
    .skip))))
   (.ops [o 63 (.bin .add (.t 46) (iv 1)), om 46 63])))))))
 (sq [o 64 (.fad 2 (.t 1)), o 65 (.load 1 false (.t 64)), o 66 (.call 145 [.t 65, .v (.int .i64 1), .v (.int .i64 4)]), om 67 66, ⟨some 68, .fad 3 (.t 1), some (67, true)⟩, ⟨some 69, .load 1 false (.t 68), some (67, true)⟩, ⟨some 70, .call 145 [.t 69, .v (.int .i64 0), .v (.int .i64 9)], some (67, true)⟩, o 71 (.pick (.t 67) (.t 70) (.v (.bool false))), om 72 71, ⟨some 73, .fad 4 (.t 1), some (72, true)⟩, ⟨some 74, .load 1 false (.t 73), some (72, true)⟩, ⟨some 75, .call 145 [.t 74, .v (.int .i64 1), .v (.int .i64 9)], some (72, true)⟩, o 76 (.pick (.t 72) (.t 75) (.v (.bool false))), om 77 76, ⟨some 78, .fad 5 (.t 1), some (77, true)⟩, ⟨some 79, .load 1 false (.t 78), some (77, true)⟩, ⟨some 80, .call 145 [.t 79, .v (.int .i64 0), .v (.int .i64 20)], some (77, true)⟩, o 81 (.pick (.t 77) (.t 80) (.v (.bool false))), om 82 81, ⟨some 83, .fad 6 (.t 1), some (82, true)⟩, ⟨some 84, .load 1 false (.t 83), some (82, true)⟩, ⟨some 85, .call 145 [.t 84, .v (.int .i64 1), .v (.int .i64 30)], some (82, true)⟩, o 86 (.pick (.t 82) (.t 85) (.v (.bool false))), om 2 86]
 .ret)))))
noncomputable def X.i_IsRules (p0 : TRules) : Option Bool :=
 ((X.i_inRange (p0.Terrains.length : Int) 1 6).bind fun v7 => (bif (!v7) then some false else ((X.i_inRange (p0.Kinds.length : Int) 1 4).bind fun v10 => (bif (!v10) then some false else ((loop (fun (x70 : Int) => ((bif (decide (x70 < (p0.Terrains.length : Int))) then ((at' zTTerrain p0.Terrains x70).bind fun v73 => ((X.i_goodTerrain v73 (p0.Kinds.length : Int)).bind fun v75 => (bif (!v75) then some (Sum.inr (Sum.inr false)) else ((X.i_terrainIndex p0.Terrains v73.Name).bind fun v78 => (bif (v78 != x70) then some (Sum.inr (Sum.inr false)) else some (Sum.inl (W (x70 + 1)))))))) else some (Sum.inr (Sum.inl ()))) : Option (Int ⊕ (Unit ⊕ Bool)))) 0).bind fun y81 => (Sum.elim (fun (y83 : Unit) => ((loop (fun (x142 : Int) => ((bif (decide (x142 < (p0.Kinds.length : Int))) then ((at' zTKind p0.Kinds x142).bind fun v145 => ((X.i_goodKind v145).bind fun v147 => (bif (!v147) then some (Sum.inr (Sum.inr false)) else ((X.i_kindIndex p0.Kinds v145.Name).bind fun v150 => (bif (v150 != x142) then some (Sum.inr (Sum.inr false)) else some (Sum.inl (W (x142 + 1)))))))) else some (Sum.inr (Sum.inl ()))) : Option (Int ⊕ (Unit ⊕ Bool)))) 0).bind fun y153 => (Sum.elim (fun (y155 : Unit) => ((X.i_inRange p0.Stack 1 4).bind fun v157 => (bif v157 then ((X.i_inRange p0.River 0 9).bind fun v160 => (bif v160 then ((X.i_inRange p0.Road 1 9).bind fun v163 => (bif v163 then ((X.i_inRange p0.Supply 0 20).bind fun v166 => (bif v166 then ((X.i_inRange p0.Turns 1 30).bind fun v169 => some v169) else some false)) else some false)) else some false)) else some false))) (fun (y156 : Bool) => some y156) y153))) (fun (y84 : Bool) => some y84) y81))))))
theorem i_IsRules_ok (p0 : TRules) (r : Bool) (H : X.i_IsRules p0 = some r) : FnOk Tryz.prog gl 193 [.agg (eTRules p0)] (cB r) := by
 unfold X.i_IsRules at H
 refine fi Tryz.f193 i_IsRules_ir [(2, cB r)] [] glL Tryz.func193 ?_
 refine so [] [] [(1, pk 1)] [(1, va (eTRules p0))] id ?_
 refine seq_in ?_
 obtain ⟨v7, h8, H⟩ := ofBind H
 rcases ofCond H with ⟨c9, H⟩ | ⟨c9, H⟩
 ·refine so [.res (cB v7), .g true, .g true, .g true, .g true, .g true, .g true] [] [(1, pk 1), (18, cB true)] [(1, va (eTRules p0))] (fun t => lI p0.Terrains (aI (i_inRange_ok (p0.Terrains.length : Int) 1 6 v7 h8) (aI c9 (aI c9 (aI c9 (aI c9 (aI c9 (aI c9 (t))))))))) ?_
  refine it (rfl : (true : Bool) = true) ?_
  refine so [] [] [(2, cB false)] [] id ?_
  refine ends_ret ?_
  cases H
  exact And.intro (.inl rfl) rfl
 ·obtain ⟨v10, h11, H⟩ := ofBind H
  refine so [.res (cB v7), .g false, .g false, .g false, .g false, .res (cB v10), .g false, .g false] [] [(1, pk 1), (18, cB (!v10))] [(1, va (eTRules p0))] (fun t => lI p0.Terrains (aI (i_inRange_ok (p0.Terrains.length : Int) 1 6 v7 h8) (aI c9 (aI c9 (aI c9 (lI p0.Kinds (aI c9 (aI (i_inRange_ok (p0.Kinds.length : Int) 1 4 v10 h11) (aI c9 (aI c9 (t))))))))))) ?_
  rcases ofCond H with ⟨c12, H⟩ | ⟨c12, H⟩
  ·refine it c12 ?_
   refine so [] [] [(2, cB false)] [] id ?_
   refine ends_ret ?_
   cases H
   exact And.intro (.inl rfl) rfl
  ·refine jf c12 ?_
   refine sk ?_
   refine seq_in ?_
   refine so [] [] [(1, pk 1), (20, dc 5 eTTerrain zTTerrain p0.Terrains), (21, cL p0.Terrains), (22, cI 0)] [(1, va (eTRules p0))] (fun t => lI p0.Terrains (t)) ?_
   refine ends_blk ?_
   obtain ⟨y81, h82, H⟩ := ofBind H
   refine loop_in (fun (x : Int) => lit [(1, pk 1), (20, dc 5 eTTerrain zTTerrain p0.Terrains), (21, cL p0.Terrains), (22, cI x)] [(1, va (eTRules p0))]) (orJ (fun (z : Unit) => At (.exit 0) (lit [(1, pk 1)] [(1, va (eTRules p0))])) (fun (z : Bool) => At .ret (lit [(2, cB z)] []))) h82 ?_ ?_
   ·clear H h82
    intro x70 y0 H
    refine so [] [] [(1, pk 1), (20, dc 5 eTTerrain zTTerrain p0.Terrains), (21, cL p0.Terrains), (22, cI x70), (23, cB (decide (x70 < (p0.Terrains.length : Int))))] [(1, va (eTRules p0))] id ?_
    refine seq_in ?_
    rcases ofCond H with ⟨c72, H⟩ | ⟨c72, H⟩
    ·refine it c72 ?_
     refine sk ?_
     refine seq_in ?_
     refine ends_blk ?_
     obtain ⟨v73, h74, H⟩ := ofBind H
     refine so [.cs (eTTerrain v73)] [] [(1, pk 1), (3, cI x70), (4, pk 4), (20, dc 5 eTTerrain zTTerrain p0.Terrains), (21, cL p0.Terrains), (22, cI x70)] [(1, va (eTRules p0)), (4, va (eTTerrain v73))] (a2 eTTerrain h74) ?_
     obtain ⟨v75, h76, H⟩ := ofBind H
     rcases ofCond H with ⟨c77, H⟩ | ⟨c77, H⟩
     ·refine so [.res (cB v75), .g true, .g true, .g true, .g true, .g true, .g true, .g true, .g true] [] [(1, pk 1), (20, dc 5 eTTerrain zTTerrain p0.Terrains), (21, cL p0.Terrains), (22, cI x70), (41, cB true)] [(1, va (eTRules p0))] (fun t => lI p0.Kinds (aI (i_goodTerrain_ok v73 (p0.Kinds.length : Int) v75 h76) (aI c77 (aI c77 (aI c77 (aI c77 (aI c77 (aI c77 (aI c77 (aI c77 (t))))))))))) ?_
      refine it (rfl : (true : Bool) = true) ?_
      refine so [] [] [(2, cB false)] [] id ?_
      refine ends_ret ?_
      cases H
      exact And.intro (by simp) (And.intro rfl rfl)
     ·obtain ⟨v78, h79, H⟩ := ofBind H
      refine so [.res (cB v75), .g false, .g false, .g false, .g false, .g false, .res (cI v78), .g false, .g false, .g false] [] [(1, pk 1), (20, dc 5 eTTerrain zTTerrain p0.Terrains), (21, cL p0.Terrains), (22, cI x70), (41, cB (v78 != x70))] [(1, va (eTRules p0))] (fun t => lI p0.Kinds (aI (i_goodTerrain_ok v73 (p0.Kinds.length : Int) v75 h76) (aI c77 (aI c77 (aI c77 (aI c77 (aI c77 (aI (i_terrainIndex_ok p0.Terrains v73.Name v78 h79) (aI c77 (aI c77 (aI c77 (t)))))))))))) ?_
      rcases ofCond H with ⟨c80, H⟩ | ⟨c80, H⟩
      ·refine it c80 ?_
       refine so [] [] [(2, cB false)] [] id ?_
       refine ends_ret ?_
       cases H
       exact And.intro (by simp) (And.intro rfl rfl)
      ·refine jf c80 ?_
       refine sk ?_
       refine oo [] [] [(1, pk 1), (20, dc 5 eTTerrain zTTerrain p0.Terrains), (21, cL p0.Terrains), (22, cI (W (x70 + 1)))] [(1, va (eTRules p0))] id ?_
       cases H
       exact And.intro rfl rfl
    ·refine jf c72 ?_
     refine tl [] [(1, pk 1)] [(1, va (eTRules p0))] id ?_
     refine ends_exit ?_
     cases H
     exact And.intro (by simp) (And.intro rfl rfl)
   ·clear h82
    cases y81 with
    | inl y83 =>
     replace H := ofInl H
     intro e s q
     obtain ⟨rfl, rfl⟩ := q
     change EndsI _ _ _ _ _ _
     refine seq_in ?_
     refine so [] [] [(1, pk 1), (44, dc 6 eTKind zTKind p0.Kinds), (45, cL p0.Kinds), (46, cI 0)] [(1, va (eTRules p0))] (fun t => lI p0.Kinds (t)) ?_
     refine ends_blk ?_
     obtain ⟨y153, h154, H⟩ := ofBind H
     refine loop_in (fun (x : Int) => lit [(1, pk 1), (44, dc 6 eTKind zTKind p0.Kinds), (45, cL p0.Kinds), (46, cI x)] [(1, va (eTRules p0))]) (orJ (fun (z : Unit) => At (.exit 2) (lit [(1, pk 1)] [(1, va (eTRules p0))])) (fun (z : Bool) => At .ret (lit [(2, cB z)] []))) h154 ?_ ?_
     ·clear H h154
      intro x142 y0 H
      refine so [] [] [(1, pk 1), (44, dc 6 eTKind zTKind p0.Kinds), (45, cL p0.Kinds), (46, cI x142), (47, cB (decide (x142 < (p0.Kinds.length : Int))))] [(1, va (eTRules p0))] id ?_
      refine seq_in ?_
      rcases ofCond H with ⟨c144, H⟩ | ⟨c144, H⟩
      ·refine it c144 ?_
       refine sk ?_
       refine seq_in ?_
       refine ends_blk ?_
       obtain ⟨v145, h146, H⟩ := ofBind H
       refine so [.cs (eTKind v145)] [] [(1, pk 1), (5, cI x142), (6, pk 6), (44, dc 6 eTKind zTKind p0.Kinds), (45, cL p0.Kinds), (46, cI x142)] [(1, va (eTRules p0)), (6, va (eTKind v145))] (a2 eTKind h146) ?_
       obtain ⟨v147, h148, H⟩ := ofBind H
       rcases ofCond H with ⟨c149, H⟩ | ⟨c149, H⟩
       ·refine so [.res (cB v147), .g true, .g true, .g true, .g true, .g true, .g true, .g true, .g true] [] [(1, pk 1), (44, dc 6 eTKind zTKind p0.Kinds), (45, cL p0.Kinds), (46, cI x142), (62, cB true)] [(1, va (eTRules p0))] (fun t => aI (i_goodKind_ok v145 v147 h148) (aI c149 (aI c149 (aI c149 (aI c149 (aI c149 (aI c149 (aI c149 (aI c149 (t)))))))))) ?_
        refine it (rfl : (true : Bool) = true) ?_
        refine so [] [] [(2, cB false)] [] id ?_
        refine ends_ret ?_
        cases H
        exact And.intro (by simp) (And.intro rfl rfl)
       ·obtain ⟨v150, h151, H⟩ := ofBind H
        refine so [.res (cB v147), .g false, .g false, .g false, .g false, .g false, .res (cI v150), .g false, .g false, .g false] [] [(1, pk 1), (44, dc 6 eTKind zTKind p0.Kinds), (45, cL p0.Kinds), (46, cI x142), (62, cB (v150 != x142))] [(1, va (eTRules p0))] (fun t => aI (i_goodKind_ok v145 v147 h148) (aI c149 (aI c149 (aI c149 (aI c149 (aI c149 (aI (i_kindIndex_ok p0.Kinds v145.Name v150 h151) (aI c149 (aI c149 (aI c149 (t))))))))))) ?_
        rcases ofCond H with ⟨c152, H⟩ | ⟨c152, H⟩
        ·refine it c152 ?_
         refine so [] [] [(2, cB false)] [] id ?_
         refine ends_ret ?_
         cases H
         exact And.intro (by simp) (And.intro rfl rfl)
        ·refine jf c152 ?_
         refine sk ?_
         refine oo [] [] [(1, pk 1), (44, dc 6 eTKind zTKind p0.Kinds), (45, cL p0.Kinds), (46, cI (W (x142 + 1)))] [(1, va (eTRules p0))] id ?_
         cases H
         exact And.intro rfl rfl
      ·refine jf c144 ?_
       refine tl [] [(1, pk 1)] [(1, va (eTRules p0))] id ?_
       refine ends_exit ?_
       cases H
       exact And.intro (by simp) (And.intro rfl rfl)
     ·clear h154
      cases y153 with
      | inl y155 =>
       replace H := ofInl H
       intro e s q
       obtain ⟨rfl, rfl⟩ := q
       change EndsI _ _ _ _ _ _
       obtain ⟨v157, h158, H⟩ := ofBind H
       rcases ofCond H with ⟨c159, H⟩ | ⟨c159, H⟩
       ·obtain ⟨v160, h161, H⟩ := ofBind H
        rcases ofCond H with ⟨c162, H⟩ | ⟨c162, H⟩
        ·obtain ⟨v163, h164, H⟩ := ofBind H
         rcases ofCond H with ⟨c165, H⟩ | ⟨c165, H⟩
         ·obtain ⟨v166, h167, H⟩ := ofBind H
          rcases ofCond H with ⟨c168, H⟩ | ⟨c168, H⟩
          ·obtain ⟨v169, h170, H⟩ := ofBind H
           refine so [.res (cB v157), .g true, .g true, .g true, .res (cB v160), .g true, .g true, .g true, .g true, .res (cB v163), .g true, .g true, .g true, .g true, .res (cB v166), .g true, .g true, .g true, .g true, .res (cB v169), .g true] [] [(2, cB v169)] [] (fun t => aI (i_inRange_ok p0.Stack 1 4 v157 h158) (aI c159 (aI c159 (aI c159 (aI (i_inRange_ok p0.River 0 9 v160 h161) (aI c159 (aI c162 (aI c162 (aI c162 (aI (i_inRange_ok p0.Road 1 9 v163 h164) (aI c162 (aI c165 (aI c165 (aI c165 (aI (i_inRange_ok p0.Supply 0 20 v166 h167) (aI c165 (aI c168 (aI c168 (aI c168 (aI (i_inRange_ok p0.Turns 1 30 v169 h170) (aI c168 (t)))))))))))))))))))))) ?_
           refine ends_ret ?_
           cases H
           exact And.intro (.inl rfl) rfl
          ·refine so [.res (cB v157), .g true, .g true, .g true, .res (cB v160), .g true, .g true, .g true, .g true, .res (cB v163), .g true, .g true, .g true, .g true, .res (cB v166), .g true, .g false, .g false, .g false, .g false] [] [(2, cB false)] [] (fun t => aI (i_inRange_ok p0.Stack 1 4 v157 h158) (aI c159 (aI c159 (aI c159 (aI (i_inRange_ok p0.River 0 9 v160 h161) (aI c159 (aI c162 (aI c162 (aI c162 (aI (i_inRange_ok p0.Road 1 9 v163 h164) (aI c162 (aI c165 (aI c165 (aI c165 (aI (i_inRange_ok p0.Supply 0 20 v166 h167) (aI c165 (aI c168 (aI c168 (aI c168 (aI c168 (t))))))))))))))))))))) ?_
           refine ends_ret ?_
           cases H
           exact And.intro (.inl rfl) rfl
         ·refine so [.res (cB v157), .g true, .g true, .g true, .res (cB v160), .g true, .g true, .g true, .g true, .res (cB v163), .g true, .g false, .g false, .g false, .g false, .g false, .g false, .g false, .g false] [] [(2, cB false)] [] (fun t => aI (i_inRange_ok p0.Stack 1 4 v157 h158) (aI c159 (aI c159 (aI c159 (aI (i_inRange_ok p0.River 0 9 v160 h161) (aI c159 (aI c162 (aI c162 (aI c162 (aI (i_inRange_ok p0.Road 1 9 v163 h164) (aI c162 (aI c165 (aI c165 (aI c165 (aI c165 (aI (rfl : (false : Bool) = false) (aI (rfl : (false : Bool) = false) (aI (rfl : (false : Bool) = false) (aI (rfl : (false : Bool) = false) (t)))))))))))))))))))) ?_
          refine ends_ret ?_
          cases H
          exact And.intro (.inl rfl) rfl
        ·refine so [.res (cB v157), .g true, .g true, .g true, .res (cB v160), .g true, .g false, .g false, .g false, .g false, .g false, .g false, .g false, .g false, .g false, .g false, .g false, .g false] [] [(2, cB false)] [] (fun t => aI (i_inRange_ok p0.Stack 1 4 v157 h158) (aI c159 (aI c159 (aI c159 (aI (i_inRange_ok p0.River 0 9 v160 h161) (aI c159 (aI c162 (aI c162 (aI c162 (aI c162 (aI (rfl : (false : Bool) = false) (aI (rfl : (false : Bool) = false) (aI (rfl : (false : Bool) = false) (aI (rfl : (false : Bool) = false) (aI (rfl : (false : Bool) = false) (aI (rfl : (false : Bool) = false) (aI (rfl : (false : Bool) = false) (aI (rfl : (false : Bool) = false) (t))))))))))))))))))) ?_
         refine ends_ret ?_
         cases H
         exact And.intro (.inl rfl) rfl
       ·refine so [.res (cB v157), .g false, .g false, .g false, .g false, .g false, .g false, .g false, .g false, .g false, .g false, .g false, .g false, .g false, .g false, .g false, .g false] [] [(2, cB false)] [] (fun t => aI (i_inRange_ok p0.Stack 1 4 v157 h158) (aI c159 (aI c159 (aI c159 (aI c159 (aI (rfl : (false : Bool) = false) (aI (rfl : (false : Bool) = false) (aI (rfl : (false : Bool) = false) (aI (rfl : (false : Bool) = false) (aI (rfl : (false : Bool) = false) (aI (rfl : (false : Bool) = false) (aI (rfl : (false : Bool) = false) (aI (rfl : (false : Bool) = false) (aI (rfl : (false : Bool) = false) (aI (rfl : (false : Bool) = false) (aI (rfl : (false : Bool) = false) (aI (rfl : (false : Bool) = false) (t)))))))))))))))))) ?_
        refine ends_ret ?_
        cases H
        exact And.intro (.inl rfl) rfl
      | inr y156 =>
       replace H := ofInr H
       intro e s q
       obtain ⟨rfl, rfl⟩ := q
       cases H
       exact And.intro (.inl rfl) rfl
    | inr y84 =>
     replace H := ofInr H
     intro e s q
     obtain ⟨rfl, rfl⟩ := q
     cases H
     exact And.intro (.inl rfl) rfl
def i_isIndex_ir : S :=
 (sq [o 4 (.mv (.v (.bool false)))]
 (sq [om 5 0, om 6 1, o 7 (.bin .sub (.t 6) (iv 1)), o 8 (.call 145 [.t 5, .v (.int .i64 0), .t 7]), om 4 8]
 .ret))
noncomputable def X.i_isIndex (p0 : Int) (p1 : Int) : Option Bool :=
 ((X.i_inRange p0 0 (W (p1 - 1))).bind fun v1 => some v1)
theorem i_isIndex_ok (p0 : Int) (p1 : Int) (r : Bool) (H : X.i_isIndex p0 p1 = some r) : FnOk Tryz.prog gl 115 [cI p0, cI p1] (cB r) := by
 unfold X.i_isIndex at H
 refine fi Tryz.f115 i_isIndex_ir [(4, cB r)] [] glL Tryz.func115 ?_
 refine so [] [] [(0, cI p0), (1, cI p1)] [] id ?_
 obtain ⟨v1, h2, H⟩ := ofBind H
 refine so [.res (cB v1)] [] [(4, cB v1)] [] (aI (i_inRange_ok p0 0 (W (p1 - 1)) v1 h2)) ?_
 refine ends_ret ?_
 cases H
 exact And.intro (.inl rfl) rfl
def i_increasing_ir : S :=
 (sq [o 2 (.mv (.v (.bool false)))]
 (.seq (sq [o 3 (.mv (iv 1))]
 (.blk 0 (.loop (.seq (sq [om 4 3, om 5 0, o 6 (.len (.t 5)), o 7 (.bin .lss (.t 4) (.t 6))]
   (.ite (.t 7) .skip
   (.exit 0)))
   (.seq (.blk 1 (.seq (.draw 10 [om 10 0, om 11 3, o 12 (.bin .sub (.t 11) (iv 1)), o 13 (.iad 1 (.t 10) (.t 12)), o 14 (.load 1 false (.t 13)), om 15 0, om 16 3, o 17 (.iad 1 (.t 15) (.t 16)), o 18 (.load 1 false (.t 17)), o 19 (.bin .geq (.t 14) (.t 18))])
    (.ite (.t 19) (sq [o 2 (.mv (.v (.bool false)))]
     .ret)
    .skip)))
   (.ops [om 8 3, o 9 (.bin .add (.t 8) (iv 1)), om 3 9]))))))
 (sq [o 2 (.mv (.v (.bool true)))]
 .ret)))
noncomputable def X.i_increasing (p0 : (List Int)) : Option Bool :=
 ((loop (fun (x16 : Int) => ((bif (decide (x16 < (p0.length : Int))) then ((at' zI p0 (W (x16 - 1))).bind fun v19 => ((at' zI p0 x16).bind fun v21 => (bif (decide (v19 ≥ v21)) then some (Sum.inr (Sum.inr false)) else some (Sum.inl (W (x16 + 1)))))) else some (Sum.inr (Sum.inl ()))) : Option (Int ⊕ (Unit ⊕ Bool)))) 1).bind fun y24 => (Sum.elim (fun (y26 : Unit) => some true) (fun (y27 : Bool) => some y27) y24))
theorem i_increasing_ok (p0 : (List Int)) (r : Bool) (H : X.i_increasing p0 = some r) : FnOk Tryz.prog gl 147 [.c (dat 1 eI zI p0)] (cB r) := by
 unfold X.i_increasing at H
 refine fi Tryz.f147 i_increasing_ir [(2, cB r)] [] glL Tryz.func147 ?_
 refine so [] [] [(0, dc 1 eI zI p0)] [] id ?_
 refine seq_in ?_
 refine so [] [] [(0, dc 1 eI zI p0), (3, cI 1)] [] id ?_
 refine ends_blk ?_
 obtain ⟨y24, h25, H⟩ := ofBind H
 refine loop_in (fun (x : Int) => lit [(0, dc 1 eI zI p0), (3, cI x)] []) (orJ (fun (z : Unit) => At (.exit 0) (lit [] [])) (fun (z : Bool) => At .ret (lit [(2, cB z)] []))) h25 ?_ ?_
 ·clear H h25
  intro x16 y0 H
  refine seq_in ?_
  refine so [] [] [(0, dc 1 eI zI p0), (3, cI x16), (7, cB (decide (x16 < (p0.length : Int))))] [] (fun t => lI p0 (t)) ?_
  rcases ofCond H with ⟨c18, H⟩ | ⟨c18, H⟩
  ·refine it c18 ?_
   refine sk ?_
   refine seq_in ?_
   refine ends_blk ?_
   obtain ⟨v19, h20, H⟩ := ofBind H
   obtain ⟨v21, h22, H⟩ := ofBind H
   refine sd [.cs (eI v19), .cs (eI v21)] [] [(0, dc 1 eI zI p0), (3, cI x16), (19, cB (decide (v19 ≥ v21)))] [] (fun t => (a2 eI h20 (aI (rfl : ([] : List Nat) = []) ((a2 eI h22 (aI (rfl : ([] : List Nat) = []) (t))))))) ?_
   rcases ofCond H with ⟨c23, H⟩ | ⟨c23, H⟩
   ·refine it c23 ?_
    refine so [] [] [(2, cB false)] [] id ?_
    refine ends_ret ?_
    cases H
    exact And.intro (by simp) (And.intro rfl rfl)
   ·refine jf c23 ?_
    refine sk ?_
    refine oo [] [] [(0, dc 1 eI zI p0), (3, cI (W (x16 + 1)))] [] id ?_
    cases H
    exact And.intro rfl rfl
  ·refine jf c18 ?_
   refine tl [] [] [] id ?_
   refine ends_exit ?_
   cases H
   exact And.intro (by simp) (And.intro rfl rfl)
 ·clear h25
  cases y24 with
  | inl y26 =>
   replace H := ofInl H
   intro e s q
   obtain ⟨rfl, rfl⟩ := q
   change EndsI _ _ _ _ _ _
   refine so [] [] [(2, cB true)] [] id ?_
   refine ends_ret ?_
   cases H
   exact And.intro (.inl rfl) rfl
  | inr y27 =>
   replace H := ofInr H
   intro e s q
   obtain ⟨rfl, rfl⟩ := q
   cases H
   exact And.intro (.inl rfl) rfl
def i_indexOf_ir : S :=
 (sq [o 2 (.box 5 (.t 0)), o 3 (.box 2 (.t 1)), o 4 (.mv (iv 0))]
 (.seq (sq [o 5 (.fad 0 (.t 3)), o 6 (.load 1 false (.t 5)), o 7 (.fad 0 (.t 2)), o 8 (.load 1 false (.t 7)), o 9 (.call 115 [.t 6, .t 8]), o 10 (.not (.t 9)), om 11 10, ⟨some 12, .fad 1 (.t 3), some (11, false)⟩, ⟨some 13, .load 1 false (.t 12), some (11, false)⟩, ⟨some 14, .fad 1 (.t 2), some (11, false)⟩, ⟨some 15, .load 1 false (.t 14), some (11, false)⟩, ⟨some 16, .call 115 [.t 13, .t 15], some (11, false)⟩, ⟨some 17, .not (.t 16), some (11, false)⟩, o 18 (.pick (.t 11) (.v (.bool true)) (.t 17))]
 (.ite (.t 18) (sq [o 4 (.mv (.v (.int .i64 (-1))))]
  .ret)
 .skip))
 (sq [o 19 (.fad 1 (.t 3)), o 20 (.load 1 false (.t 19)), o 21 (.fad 0 (.t 2)), o 22 (.load 1 false (.t 21)), o 23 (.bin .mul (.t 20) (.t 22)), o 24 (.fad 0 (.t 3)), o 25 (.load 1 false (.t 24)), o 26 (.bin .add (.t 23) (.t 25)), om 4 26]
 .ret)))
noncomputable def X.i_indexOf (p0 : TMap) (p1 : THex) : Option Int :=
 ((X.i_isIndex p1.Q p0.Width).bind fun v7 => (bif (!v7) then some (-1) else ((X.i_isIndex p1.R p0.Height).bind fun v10 => (bif (!v10) then some (-1) else some (W ((W (p1.R * p0.Width)) + p1.Q))))))
theorem i_indexOf_ok (p0 : TMap) (p1 : THex) (r : Int) (H : X.i_indexOf p0 p1 = some r) : FnOk Tryz.prog gl 182 [.agg (eTMap p0), .agg (eTHex p1)] (cI r) := by
 unfold X.i_indexOf at H
 refine fi Tryz.f182 i_indexOf_ir [(4, cI r)] [] glL Tryz.func182 ?_
 refine so [] [] [(2, pk 2), (3, pk 3)] [(2, va (eTMap p0)), (3, va (eTHex p1))] id ?_
 refine seq_in ?_
 obtain ⟨v7, h8, H⟩ := ofBind H
 rcases ofCond H with ⟨c9, H⟩ | ⟨c9, H⟩
 ·refine so [.res (cB v7), .g true, .g true, .g true, .g true, .g true, .g true, .g true] [] [(2, pk 2), (3, pk 3), (18, cB true)] [(2, va (eTMap p0)), (3, va (eTHex p1))] (fun t => aI (i_isIndex_ok p1.Q p0.Width v7 h8) (aI c9 (aI c9 (aI c9 (aI c9 (aI c9 (aI c9 (aI c9 (t))))))))) ?_
  refine it (rfl : (true : Bool) = true) ?_
  refine so [] [] [(4, cI (-1))] [] id ?_
  refine ends_ret ?_
  cases H
  exact And.intro (.inl rfl) rfl
 ·obtain ⟨v10, h11, H⟩ := ofBind H
  refine so [.res (cB v7), .g false, .g false, .g false, .g false, .g false, .res (cB v10), .g false, .g false] [] [(2, pk 2), (3, pk 3), (18, cB (!v10))] [(2, va (eTMap p0)), (3, va (eTHex p1))] (fun t => aI (i_isIndex_ok p1.Q p0.Width v7 h8) (aI c9 (aI c9 (aI c9 (aI c9 (aI c9 (aI (i_isIndex_ok p1.R p0.Height v10 h11) (aI c9 (aI c9 (t)))))))))) ?_
  rcases ofCond H with ⟨c12, H⟩ | ⟨c12, H⟩
  ·refine it c12 ?_
   refine so [] [] [(4, cI (-1))] [] id ?_
   refine ends_ret ?_
   cases H
   exact And.intro (.inl rfl) rfl
  ·refine jf c12 ?_
   refine sk ?_
   refine so [] [] [(4, cI (W ((W (p1.R * p0.Width)) + p1.Q)))] [] id ?_
   refine ends_ret ?_
   cases H
   exact And.intro (.inl rfl) rfl
def i_stepBy_ir : S :=
 (sq [o 3 (.box 2 (.t 0)), o 6 (.alloc [.int .i64 0, .int .i64 0])]
 (.seq (.draw 19 [o 7 (.fad 0 (.t 3)), o 8 (.load 1 false (.t 7)), om 9 2, om 10 1, o 11 (.iar 6 2 (.g 0) (.t 10)), o 12 (.fad 0 (.t 11)), o 13 (.load 1 false (.t 12)), o 14 (.bin .mul (.t 9) (.t 13)), o 15 (.bin .add (.t 8) (.t 14)), o 16 (.fad 1 (.t 3)), o 17 (.load 1 false (.t 16)), om 18 2, om 19 1, o 20 (.iar 6 2 (.g 0) (.t 19)), o 21 (.fad 1 (.t 20)), o 22 (.load 1 false (.t 21)), o 23 (.bin .mul (.t 18) (.t 22)), o 24 (.bin .add (.t 17) (.t 23)), o 25 (.build [.int .i64 0, .int .i64 0] [(0, 1, .t 15), (1, 1, .t 24)]), ⟨none, .store 2 (.t 6) (.t 25), none⟩])
 .ret))
noncomputable def X.i_stepBy (p0 : THex) (p1 : Int) (p2 : Int) : Option THex :=
 ((at' zTHex dirs p1).bind fun v1 => some (THex.mk (W (p0.Q + (W (p2 * v1.Q)))) (W (p0.R + (W (p2 * v1.R))))))
theorem i_stepBy_ok (p0 : THex) (p1 : Int) (p2 : Int) (r : THex) (H : X.i_stepBy p0 p1 p2 = some r) : FnOk Tryz.prog gl 183 [.agg (eTHex p0), cI p1, cI p2] (.agg (eTHex r)) := by
 unfold X.i_stepBy at H
 refine fi Tryz.f183 i_stepBy_ir [(6, pk 6)] [(6, va (eTHex r))] glL Tryz.func183 ?_
 refine so [] [] [(1, cI p1), (2, cI p2), (3, pk 3), (6, pk 6)] [(3, va (eTHex p0)), (6, .var [.int .i64 0, .int .i64 0] false)] id ?_
 obtain ⟨v1, h2, H⟩ := ofBind H
 refine sd [.cs (eTHex v1), .cs (eTHex v1)] [] [(6, pk 6)] [(6, .var [.int .i64 (W (p0.Q + (W (p2 * v1.Q)))), .int .i64 (W (p0.R + (W (p2 * v1.R))))] false)] (fun t => aI (at_lt h2) (aI (dirs_at h2) (aI (rfl : ([] : List Nat) = []) (aI (at_lt h2) (aI (dirs_at h2) (aI (rfl : ([] : List Nat) = []) (t))))))) ?_
 refine ends_ret ?_
 cases H
 exact And.intro (.inl rfl) rfl
def i_hexOf_ir : S :=
 (sq [o 2 (.box 5 (.t 0)), o 4 (.alloc [.int .i64 0, .int .i64 0])]
 (.seq (.draw 9 [om 5 1, o 6 (.fad 0 (.t 2)), o 7 (.load 1 false (.t 6)), o 8 (.bin .rem (.t 5) (.t 7)), om 9 1, o 10 (.fad 0 (.t 2)), o 11 (.load 1 false (.t 10)), o 12 (.bin .quo (.t 9) (.t 11)), o 13 (.build [.int .i64 0, .int .i64 0] [(0, 1, .t 8), (1, 1, .t 12)]), ⟨none, .store 2 (.t 4) (.t 13), none⟩])
 .ret))
noncomputable def X.i_hexOf (p0 : TMap) (p1 : Int) : Option THex :=
 (if p0.Width ≠ 0 then (if p0.Width ≠ 0 then some (THex.mk (Int.tmod p1 p0.Width) (W (Int.tdiv p1 p0.Width))) else none) else none)
theorem i_hexOf_ok (p0 : TMap) (p1 : Int) (r : THex) (H : X.i_hexOf p0 p1 = some r) : FnOk Tryz.prog gl 184 [.agg (eTMap p0), cI p1] (.agg (eTHex r)) := by
 unfold X.i_hexOf at H
 refine fi Tryz.f184 i_hexOf_ir [(4, pk 4)] [(4, va (eTHex r))] glL Tryz.func184 ?_
 refine so [] [] [(1, cI p1), (2, pk 2), (4, pk 4)] [(2, va (eTMap p0)), (4, .var [.int .i64 0, .int .i64 0] false)] id ?_
 obtain ⟨g1, H⟩ := ofIf H
 obtain ⟨g2, H⟩ := ofIf H
 refine sd [] [] [(4, pk 4)] [(4, .var [.int .i64 (Int.tmod p1 p0.Width), .int .i64 (W (Int.tdiv p1 p0.Width))] false)] (fun t => aI g1 (aI g2 (t))) ?_
 refine ends_ret ?_
 cases H
 exact And.intro (.inl rfl) rfl
def i_nextTo_ir : S :=
 (sq [o 3 (.box 5 (.t 0)), o 6 (.mv (iv 0))]
 (.seq (.draw 8 [o 7 (.load 5 true (.t 3)), o 8 (.load 5 true (.t 3)), om 9 1, o 10 (.call 184 [.t 8, .t 9]), om 11 2, o 12 (.call 183 [.t 10, .t 11, .v (.int .i64 1)]), o 13 (.call 182 [.t 7, .t 12]), om 6 13])
 .ret))
noncomputable def X.i_nextTo (p0 : TMap) (p1 : Int) (p2 : Int) : Option Int :=
 ((X.i_hexOf p0 p1).bind fun v1 => ((X.i_stepBy v1 p2 1).bind fun v3 => ((X.i_indexOf p0 v3).bind fun v5 => some v5)))
theorem i_nextTo_ok (p0 : TMap) (p1 : Int) (p2 : Int) (r : Int) (H : X.i_nextTo p0 p1 p2 = some r) : FnOk Tryz.prog gl 133 [.agg (eTMap p0), cI p1, cI p2] (cI r) := by
 unfold X.i_nextTo at H
 refine fi Tryz.f133 i_nextTo_ir [(6, cI r)] [] glL Tryz.func133 ?_
 refine so [] [] [(1, cI p1), (2, cI p2), (3, pk 3)] [(3, va (eTMap p0))] id ?_
 obtain ⟨v1, h2, H⟩ := ofBind H
 obtain ⟨v3, h4, H⟩ := ofBind H
 obtain ⟨v5, h6, H⟩ := ofBind H
 refine sd [.res (.agg (eTHex v1)), .res (.agg (eTHex v3)), .res (cI v5)] [] [(6, cI v5)] [] (fun t => aI (i_hexOf_ok p0 p1 v1 h2) (aI trivial (aI (rfl : ([] : List Nat) = []) (aI (i_stepBy_ok v1 p2 1 v3 h4) (aI trivial (aI (rfl : ([] : List Nat) = []) (aI (i_indexOf_ok p0 v3 v5 h6) (aI trivial (aI (rfl : ([] : List Nat) = []) (t)))))))))) ?_
 refine ends_ret ?_
 cases H
 exact And.intro (.inl rfl) rfl
def i_isEdge_ir : S :=
 (sq [o 2 (.box 5 (.t 0)), o 4 (.mv (.v (.bool false)))]
 (sq [om 5 1, o 6 (.fad 0 (.t 2)), o 7 (.load 1 false (.t 6)), o 8 (.bin .mul (iv 3) (.t 7)), o 9 (.fad 1 (.t 2)), o 10 (.load 1 false (.t 9)), o 11 (.bin .mul (.t 8) (.t 10)), o 12 (.bin .sub (.t 11) (iv 1)), o 13 (.call 145 [.t 5, .v (.int .i64 0), .t 12]), om 14 13, ⟨some 15, .load 5 true (.t 2), some (14, true)⟩, ⟨some 16, .mv (.t 1), some (14, true)⟩, ⟨some 17, .bin .quo (.t 16) (iv 3), some (14, true)⟩, ⟨some 18, .mv (.t 1), some (14, true)⟩, ⟨some 19, .bin .rem (.t 18) (iv 3), some (14, true)⟩, ⟨some 20, .call 133 [.t 15, .t 17, .t 19], some (14, true)⟩, ⟨some 21, .bin .geq (.t 20) (iv 0), some (14, true)⟩, o 22 (.pick (.t 14) (.t 21) (.v (.bool false))), om 4 22]
 .ret))
noncomputable def X.i_isEdge (p0 : TMap) (p1 : Int) : Option Bool :=
 ((X.i_inRange p1 0 (W ((W ((W (3 * p0.Width)) * p0.Height)) - 1))).bind fun v1 => (bif v1 then ((X.i_nextTo p0 (W (Int.tdiv p1 3)) (Int.tmod p1 3)).bind fun v4 => some (decide (v4 ≥ 0))) else some false))
theorem i_isEdge_ok (p0 : TMap) (p1 : Int) (r : Bool) (H : X.i_isEdge p0 p1 = some r) : FnOk Tryz.prog gl 217 [.agg (eTMap p0), cI p1] (cB r) := by
 unfold X.i_isEdge at H
 refine fi Tryz.f217 i_isEdge_ir [(4, cB r)] [] glL Tryz.func217 ?_
 refine so [] [] [(1, cI p1), (2, pk 2)] [(2, va (eTMap p0))] id ?_
 obtain ⟨v1, h2, H⟩ := ofBind H
 rcases ofCond H with ⟨c3, H⟩ | ⟨c3, H⟩
 ·obtain ⟨v4, h5, H⟩ := ofBind H
  refine so [.res (cB v1), .g true, .g true, .g true, .g true, .g true, .g true, .res (cI v4), .g true, .g true] [] [(4, cB (decide (v4 ≥ 0)))] [] (fun t => aI (i_inRange_ok p1 0 (W ((W ((W (3 * p0.Width)) * p0.Height)) - 1)) v1 h2) (aI c3 (aI c3 (aI c3 (aI (by decide : (3 : Int) ≠ 0) (aI c3 (aI c3 (aI (by decide : (3 : Int) ≠ 0) (aI c3 (aI (i_nextTo_ok p0 (W (Int.tdiv p1 3)) (Int.tmod p1 3) v4 h5) (aI c3 (aI c3 (t))))))))))))) ?_
  refine ends_ret ?_
  cases H
  exact And.intro (.inl rfl) rfl
 ·refine so [.res (cB v1), .g false, .g false, .g false, .g false, .g false, .g false, .g false, .g false] [] [(4, cB false)] [] (fun t => aI (i_inRange_ok p1 0 (W ((W ((W (3 * p0.Width)) * p0.Height)) - 1)) v1 h2) (aI c3 (aI c3 (aI c3 (aI c3 (aI c3 (aI c3 (aI c3 (aI c3 (t)))))))))) ?_
  refine ends_ret ?_
  cases H
  exact And.intro (.inl rfl) rfl
def i_IsMap_ir : S :=
 (sq [o 1 (.box 5 (.t 0)), o 2 (.mv (.v (.bool false)))]
 (.seq (sq [o 9 (.fad 0 (.t 1)), o 10 (.load 1 false (.t 9)), o 11 (.call 145 [.t 10, .v (.int .i64 1), .v (.int .i64 10)]), o 12 (.not (.t 11)), om 13 12, ⟨some 14, .fad 1 (.t 1), some (13, false)⟩, ⟨some 15, .load 1 false (.t 14), some (13, false)⟩, ⟨some 16, .call 145 [.t 15, .v (.int .i64 1), .v (.int .i64 10)], some (13, false)⟩, ⟨some 17, .not (.t 16), some (13, false)⟩, o 18 (.pick (.t 13) (.v (.bool true)) (.t 17)), om 19 18, ⟨some 20, .fad 2 (.t 1), some (19, false)⟩, ⟨some 21, .load 1 false (.t 20), some (19, false)⟩, ⟨some 22, .len (.t 21), some (19, false)⟩, ⟨some 23, .fad 0 (.t 1), some (19, false)⟩, ⟨some 24, .load 1 false (.t 23), some (19, false)⟩, ⟨some 25, .fad 1 (.t 1), some (19, false)⟩, ⟨some 26, .load 1 false (.t 25), some (19, false)⟩, ⟨some 27, .bin .mul (.t 24) (.t 26), some (19, false)⟩, ⟨some 28, .bin .neq (.t 22) (.t 27), some (19, false)⟩, o 29 (.pick (.t 19) (.v (.bool true)) (.t 28))]
 (.ite (.t 29) (sq [o 2 (.mv (.v (.bool false)))]
  .ret)
 .skip))
 (.seq (sq [o 30 (.fad 2 (.t 1)), o 31 (.load 1 false (.t 30)), o 32 (.len (.t 31)), o 33 (.mv (iv 0))]
 (.blk 0 (.loop (sq [o 34 (.bin .lss (.t 33) (.t 32))]
   (.seq (.ite (.t 34) .skip
   (.exit 0))
   (.seq (.blk 1 (sq [o 35 (.iad 1 (.t 31) (.t 33)), o 36 (.load 1 false (.t 35)), om 4 36]
    (sq [om 37 4, o 38 (.call 115 [.t 37, .v (.int .i64 6)]), o 39 (.not (.t 38))]
    (.ite (.t 39) (sq [o 2 (.mv (.v (.bool false)))]
     .ret)
    .skip))))
   (.ops [o 40 (.bin .add (.t 33) (iv 1)), om 33 40])))))))
 (.seq (sq [o 41 (.fad 3 (.t 1)), o 42 (.load 1 false (.t 41)), o 43 (.fad 4 (.t 1)), o 44 (.load 1 false (.t 43)), o 45 (.bsl 1 [.t 42, .t 44]), o 46 (.len (.t 45)), o 47 (.mv (iv 0))]
 (.blk 2 (.loop (sq [o 48 (.bin .lss (.t 47) (.t 46))]
   (.seq (.ite (.t 48) .skip
   (.exit 2))
   (.seq (.blk 3 (sq [o 49 (.iad 1 (.t 45) (.t 47)), o 50 (.load 1 false (.t 49)), om 6 50]
    (.seq (sq [om 51 6, o 52 (.call 147 [.t 51]), o 53 (.not (.t 52))]
    (.ite (.t 53) (sq [o 2 (.mv (.v (.bool false)))]
     .ret)
    .skip))
    (sq [om 54 6, o 55 (.len (.t 54)), o 56 (.mv (iv 0))]
    (.blk 4 (.loop (sq [o 57 (.bin .lss (.t 56) (.t 55))]
      (.seq (.ite (.t 57) .skip
      (.exit 4))
      (.seq (.blk 5 (sq [o 58 (.iad 1 (.t 54) (.t 56)), o 59 (.load 1 false (.t 58)), om 8 59]
       (sq [o 60 (.load 5 true (.t 1)), om 61 8, o 62 (.call 217 [.t 60, .t 61]), o 63 (.not (.t 62))]
       (.ite (.t 63) (sq [o 2 (.mv (.v (.bool false)))]
        .ret)
       .skip))))
      (.ops [o 64 (.bin .add (.t 56) (iv 1)), om 56 64]))))))))))
   (.ops [o 65 (.bin .add (.t 47) (iv 1)), om 47 65])))))))
 (sq [o 2 (.mv (.v (.bool true)))]
 .ret)))))
noncomputable def X.i_IsMap (p0 : TMap) : Option Bool :=
 ((X.i_inRange p0.Width 1 10).bind fun v8 => (bif (!v8) then some false else ((X.i_inRange p0.Height 1 10).bind fun v11 => (bif (!v11) then some false else (bif ((p0.Terrain.length : Int) != (W (p0.Width * p0.Height))) then some false else ((loop (fun (x57 : Int) => ((bif (decide (x57 < (p0.Terrain.length : Int))) then ((at' zI p0.Terrain x57).bind fun v60 => ((X.i_isIndex v60 6).bind fun v62 => (bif (!v62) then some (Sum.inr (Sum.inr false)) else some (Sum.inl (W (x57 + 1)))))) else some (Sum.inr (Sum.inl ()))) : Option (Int ⊕ (Unit ⊕ Bool)))) 0).bind fun y65 => (Sum.elim (fun (y67 : Unit) => ((loop (fun (x142 : Int) => ((bif (decide (x142 < (([p0.Rivers, p0.Roads] : List (List Int)).length : Int))) then (if 0 ≤ x142 ∧ x142 < (([p0.Rivers, p0.Roads] : List (List Int)).length : Int) then ((X.i_increasing (([p0.Rivers, p0.Roads] : List (List Int)).getD x142.toNat zLI)).bind fun v149 => (bif (!v149) then some (Sum.inr (Sum.inr false)) else ((loop (fun (x167 : Int) => ((bif (decide (x167 < ((([p0.Rivers, p0.Roads] : List (List Int)).getD x142.toNat zLI).length : Int))) then ((at' zI (([p0.Rivers, p0.Roads] : List (List Int)).getD x142.toNat zLI) x167).bind fun v170 => ((X.i_isEdge p0 v170).bind fun v172 => (bif (!v172) then some (Sum.inr (Sum.inr false)) else some (Sum.inl (W (x167 + 1)))))) else some (Sum.inr (Sum.inl ()))) : Option (Int ⊕ (Unit ⊕ Bool)))) 0).bind fun y175 => (Sum.elim (fun (y177 : Unit) => some (Sum.inl (W (x142 + 1)))) (fun (y178 : Bool) => some (Sum.inr (Sum.inr y178))) y175)))) else none) else some (Sum.inr (Sum.inl ()))) : Option (Int ⊕ (Unit ⊕ Bool)))) 0).bind fun y179 => (Sum.elim (fun (y181 : Unit) => some true) (fun (y182 : Bool) => some y182) y179))) (fun (y68 : Bool) => some y68) y65)))))))
theorem i_IsMap_ok (p0 : TMap) (r : Bool) (H : X.i_IsMap p0 = some r) : FnOk Tryz.prog gl 194 [.agg (eTMap p0)] (cB r) := by
 unfold X.i_IsMap at H
 refine fi Tryz.f194 i_IsMap_ir [(2, cB r)] [] glL Tryz.func194 ?_
 refine so [] [] [(1, pk 1)] [(1, va (eTMap p0))] id ?_
 refine seq_in ?_
 obtain ⟨v8, h9, H⟩ := ofBind H
 rcases ofCond H with ⟨c10, H⟩ | ⟨c10, H⟩
 ·refine so [.res (cB v8), .g true, .g true, .g true, .g true, .g true, .g true, .g true, .g true, .g true, .g true, .g true, .g true, .g true, .g true, .g true] [] [(1, pk 1), (29, cB true)] [(1, va (eTMap p0))] (fun t => aI (i_inRange_ok p0.Width 1 10 v8 h9) (aI c10 (aI c10 (aI c10 (aI c10 (aI c10 (aI (rfl : (true : Bool) = true) (aI (rfl : (true : Bool) = true) (aI (rfl : (true : Bool) = true) (aI (rfl : (true : Bool) = true) (aI (rfl : (true : Bool) = true) (aI (rfl : (true : Bool) = true) (aI (rfl : (true : Bool) = true) (aI (rfl : (true : Bool) = true) (aI (rfl : (true : Bool) = true) (aI (rfl : (true : Bool) = true) (t))))))))))))))))) ?_
  refine it (rfl : (true : Bool) = true) ?_
  refine so [] [] [(2, cB false)] [] id ?_
  refine ends_ret ?_
  cases H
  exact And.intro (.inl rfl) rfl
 ·obtain ⟨v11, h12, H⟩ := ofBind H
  rcases ofCond H with ⟨c13, H⟩ | ⟨c13, H⟩
  ·refine so [.res (cB v8), .g false, .g false, .g false, .res (cB v11), .g false, .g false, .g true, .g true, .g true, .g true, .g true, .g true, .g true, .g true, .g true, .g true] [] [(1, pk 1), (29, cB true)] [(1, va (eTMap p0))] (fun t => aI (i_inRange_ok p0.Width 1 10 v8 h9) (aI c10 (aI c10 (aI c10 (aI (i_inRange_ok p0.Height 1 10 v11 h12) (aI c10 (aI c10 (aI c13 (aI c13 (aI c13 (aI c13 (aI c13 (aI c13 (aI c13 (aI c13 (aI c13 (aI c13 (t)))))))))))))))))) ?_
   refine it (rfl : (true : Bool) = true) ?_
   refine so [] [] [(2, cB false)] [] id ?_
   refine ends_ret ?_
   cases H
   exact And.intro (.inl rfl) rfl
  ·refine so [.res (cB v8), .g false, .g false, .g false, .res (cB v11), .g false, .g false, .g false, .g false, .g false, .g false, .g false, .g false, .g false, .g false, .g false, .g false] [] [(1, pk 1), (29, cB ((p0.Terrain.length : Int) != (W (p0.Width * p0.Height))))] [(1, va (eTMap p0))] (fun t => aI (i_inRange_ok p0.Width 1 10 v8 h9) (aI c10 (aI c10 (aI c10 (aI (i_inRange_ok p0.Height 1 10 v11 h12) (aI c10 (aI c10 (aI c13 (aI c13 (aI c13 (lI p0.Terrain (aI c13 (aI c13 (aI c13 (aI c13 (aI c13 (aI c13 (aI c13 (t))))))))))))))))))) ?_
   rcases ofCond H with ⟨c14, H⟩ | ⟨c14, H⟩
   ·refine it c14 ?_
    refine so [] [] [(2, cB false)] [] id ?_
    refine ends_ret ?_
    cases H
    exact And.intro (.inl rfl) rfl
   ·refine jf c14 ?_
    refine sk ?_
    refine seq_in ?_
    refine so [] [] [(1, pk 1), (31, dc 1 eI zI p0.Terrain), (32, cL p0.Terrain), (33, cI 0)] [(1, va (eTMap p0))] (fun t => lI p0.Terrain (t)) ?_
    refine ends_blk ?_
    obtain ⟨y65, h66, H⟩ := ofBind H
    refine loop_in (fun (x : Int) => lit [(1, pk 1), (31, dc 1 eI zI p0.Terrain), (32, cL p0.Terrain), (33, cI x)] [(1, va (eTMap p0))]) (orJ (fun (z : Unit) => At (.exit 0) (lit [(1, pk 1)] [(1, va (eTMap p0))])) (fun (z : Bool) => At .ret (lit [(2, cB z)] []))) h66 ?_ ?_
    ·clear H h66
     intro x57 y0 H
     refine so [] [] [(1, pk 1), (31, dc 1 eI zI p0.Terrain), (32, cL p0.Terrain), (33, cI x57), (34, cB (decide (x57 < (p0.Terrain.length : Int))))] [(1, va (eTMap p0))] id ?_
     refine seq_in ?_
     rcases ofCond H with ⟨c59, H⟩ | ⟨c59, H⟩
     ·refine it c59 ?_
      refine sk ?_
      refine seq_in ?_
      refine ends_blk ?_
      obtain ⟨v60, h61, H⟩ := ofBind H
      refine so [.cs (eI v60)] [] [(1, pk 1), (4, cI v60), (31, dc 1 eI zI p0.Terrain), (32, cL p0.Terrain), (33, cI x57)] [(1, va (eTMap p0))] (a2 eI h61) ?_
      obtain ⟨v62, h63, H⟩ := ofBind H
      refine so [.res (cB v62)] [] [(1, pk 1), (31, dc 1 eI zI p0.Terrain), (32, cL p0.Terrain), (33, cI x57), (39, cB (!v62))] [(1, va (eTMap p0))] (aI (i_isIndex_ok v60 6 v62 h63)) ?_
      rcases ofCond H with ⟨c64, H⟩ | ⟨c64, H⟩
      ·refine it c64 ?_
       refine so [] [] [(2, cB false)] [] id ?_
       refine ends_ret ?_
       cases H
       exact And.intro (by simp) (And.intro rfl rfl)
      ·refine jf c64 ?_
       refine sk ?_
       refine oo [] [] [(1, pk 1), (31, dc 1 eI zI p0.Terrain), (32, cL p0.Terrain), (33, cI (W (x57 + 1)))] [(1, va (eTMap p0))] id ?_
       cases H
       exact And.intro rfl rfl
     ·refine jf c59 ?_
      refine tl [] [(1, pk 1)] [(1, va (eTMap p0))] id ?_
      refine ends_exit ?_
      cases H
      exact And.intro (by simp) (And.intro rfl rfl)
    ·clear h66
     cases y65 with
     | inl y67 =>
      replace H := ofInl H
      intro e s q
      obtain ⟨rfl, rfl⟩ := q
      change EndsI _ _ _ _ _ _
      refine seq_in ?_
      refine so [fh eLI zLI ([p0.Rivers, p0.Roads] : List (List Int))] [] [(1, pk 1), (45, ow 45 1 ([p0.Rivers, p0.Roads] : List (List Int))), (46, cL ([p0.Rivers, p0.Roads] : List (List Int))), (47, cI 0)] [(1, va (eTMap p0)), (45, ar 1 eLI zLI ([p0.Rivers, p0.Roads] : List (List Int)))] (fun t => aI (rfl : ([p0.Rivers, p0.Roads] : List (List Int)).length = 2) (aI (fF_lit eLI zLI ([p0.Rivers, p0.Roads] : List (List Int))) ((fun (_ : ([p0.Rivers, p0.Roads] : List (List Int)).length ≤ maxLen) => t)))) ?_
      refine ends_blk ?_
      obtain ⟨y179, h180, H⟩ := ofBind H
      refine loop_in (fun (x : Int) => lit [(1, pk 1), (45, ow 45 1 ([p0.Rivers, p0.Roads] : List (List Int))), (46, cL ([p0.Rivers, p0.Roads] : List (List Int))), (47, cI x)] [(1, va (eTMap p0)), (45, ar 1 eLI zLI ([p0.Rivers, p0.Roads] : List (List Int)))]) (orJ (fun (z : Unit) => At (.exit 2) (lit [] [])) (fun (z : Bool) => At .ret (lit [(2, cB z)] []))) h180 ?_ ?_
      ·clear H h180
       intro x142 y0 H
       refine so [] [] [(1, pk 1), (45, ow 45 1 ([p0.Rivers, p0.Roads] : List (List Int))), (46, cL ([p0.Rivers, p0.Roads] : List (List Int))), (47, cI x142), (48, cB (decide (x142 < (([p0.Rivers, p0.Roads] : List (List Int)).length : Int))))] [(1, va (eTMap p0)), (45, ar 1 eLI zLI ([p0.Rivers, p0.Roads] : List (List Int)))] id ?_
       refine seq_in ?_
       rcases ofCond H with ⟨c144, H⟩ | ⟨c144, H⟩
       ·refine it c144 ?_
        refine sk ?_
        refine seq_in ?_
        refine ends_blk ?_
        obtain ⟨g145, H⟩ := ofIf H
        refine so [.no] [] [(1, pk 1), (6, .c (dat 1 eI zI (([p0.Rivers, p0.Roads] : List (List Int)).getD x142.toNat zLI))), (45, ow 45 1 ([p0.Rivers, p0.Roads] : List (List Int))), (46, cL ([p0.Rivers, p0.Roads] : List (List Int))), (47, cI x142)] [(1, va (eTMap p0)), (45, ar 1 eLI zLI ([p0.Rivers, p0.Roads] : List (List Int)))] (fun t => aI g145 (aI (nat_lt g145) (t))) ?_
        refine seq_in ?_
        obtain ⟨v149, h150, H⟩ := ofBind H
        refine so [.res (cB v149)] [] [(1, pk 1), (6, .c (dat 1 eI zI (([p0.Rivers, p0.Roads] : List (List Int)).getD x142.toNat zLI))), (45, ow 45 1 ([p0.Rivers, p0.Roads] : List (List Int))), (46, cL ([p0.Rivers, p0.Roads] : List (List Int))), (47, cI x142), (53, cB (!v149))] [(1, va (eTMap p0)), (45, ar 1 eLI zLI ([p0.Rivers, p0.Roads] : List (List Int)))] (aI (i_increasing_ok (([p0.Rivers, p0.Roads] : List (List Int)).getD x142.toNat zLI) v149 h150)) ?_
        rcases ofCond H with ⟨c151, H⟩ | ⟨c151, H⟩
        ·refine it c151 ?_
         refine so [] [] [(2, cB false)] [] id ?_
         refine ends_ret ?_
         cases H
         exact And.intro (by simp) (And.intro rfl rfl)
        ·refine jf c151 ?_
         refine sk ?_
         refine so [] [] [(1, pk 1), (45, ow 45 1 ([p0.Rivers, p0.Roads] : List (List Int))), (46, cL ([p0.Rivers, p0.Roads] : List (List Int))), (47, cI x142), (54, .c (dat 1 eI zI (([p0.Rivers, p0.Roads] : List (List Int)).getD x142.toNat zLI))), (55, cL (([p0.Rivers, p0.Roads] : List (List Int)).getD x142.toNat zLI)), (56, cI 0)] [(1, va (eTMap p0)), (45, ar 1 eLI zLI ([p0.Rivers, p0.Roads] : List (List Int)))] (fun t => (fun (_ : (([p0.Rivers, p0.Roads] : List (List Int)).getD x142.toNat zLI).length ≤ maxLen) => t)) ?_
         refine ends_blk ?_
         obtain ⟨y175, h176, H⟩ := ofBind H
         refine loop_in (fun (x : Int) => lit [(1, pk 1), (45, ow 45 1 ([p0.Rivers, p0.Roads] : List (List Int))), (46, cL ([p0.Rivers, p0.Roads] : List (List Int))), (47, cI x142), (54, .c (dat 1 eI zI (([p0.Rivers, p0.Roads] : List (List Int)).getD x142.toNat zLI))), (55, cL (([p0.Rivers, p0.Roads] : List (List Int)).getD x142.toNat zLI)), (56, cI x)] [(1, va (eTMap p0)), (45, ar 1 eLI zLI ([p0.Rivers, p0.Roads] : List (List Int)))]) (orJ (fun (z : Unit) => At (.exit 4) (lit [(1, pk 1), (45, ow 45 1 ([p0.Rivers, p0.Roads] : List (List Int))), (46, cL ([p0.Rivers, p0.Roads] : List (List Int))), (47, cI x142)] [(1, va (eTMap p0)), (45, ar 1 eLI zLI ([p0.Rivers, p0.Roads] : List (List Int)))])) (fun (z : Bool) => At .ret (lit [(2, cB z)] []))) h176 ?_ ?_
         ·clear H h176
          intro x167 y0 H
          refine so [] [] [(1, pk 1), (45, ow 45 1 ([p0.Rivers, p0.Roads] : List (List Int))), (46, cL ([p0.Rivers, p0.Roads] : List (List Int))), (47, cI x142), (54, .c (dat 1 eI zI (([p0.Rivers, p0.Roads] : List (List Int)).getD x142.toNat zLI))), (55, cL (([p0.Rivers, p0.Roads] : List (List Int)).getD x142.toNat zLI)), (56, cI x167), (57, cB (decide (x167 < ((([p0.Rivers, p0.Roads] : List (List Int)).getD x142.toNat zLI).length : Int))))] [(1, va (eTMap p0)), (45, ar 1 eLI zLI ([p0.Rivers, p0.Roads] : List (List Int)))] id ?_
          refine seq_in ?_
          rcases ofCond H with ⟨c169, H⟩ | ⟨c169, H⟩
          ·refine it c169 ?_
           refine sk ?_
           refine seq_in ?_
           refine ends_blk ?_
           obtain ⟨v170, h171, H⟩ := ofBind H
           refine so [.cs (eI v170)] [] [(1, pk 1), (8, cI v170), (45, ow 45 1 ([p0.Rivers, p0.Roads] : List (List Int))), (46, cL ([p0.Rivers, p0.Roads] : List (List Int))), (47, cI x142), (54, .c (dat 1 eI zI (([p0.Rivers, p0.Roads] : List (List Int)).getD x142.toNat zLI))), (55, cL (([p0.Rivers, p0.Roads] : List (List Int)).getD x142.toNat zLI)), (56, cI x167)] [(1, va (eTMap p0)), (45, ar 1 eLI zLI ([p0.Rivers, p0.Roads] : List (List Int)))] (a2 eI h171) ?_
           obtain ⟨v172, h173, H⟩ := ofBind H
           refine so [.res (cB v172)] [] [(1, pk 1), (45, ow 45 1 ([p0.Rivers, p0.Roads] : List (List Int))), (46, cL ([p0.Rivers, p0.Roads] : List (List Int))), (47, cI x142), (54, .c (dat 1 eI zI (([p0.Rivers, p0.Roads] : List (List Int)).getD x142.toNat zLI))), (55, cL (([p0.Rivers, p0.Roads] : List (List Int)).getD x142.toNat zLI)), (56, cI x167), (63, cB (!v172))] [(1, va (eTMap p0)), (45, ar 1 eLI zLI ([p0.Rivers, p0.Roads] : List (List Int)))] (aI (i_isEdge_ok p0 v170 v172 h173)) ?_
           rcases ofCond H with ⟨c174, H⟩ | ⟨c174, H⟩
           ·refine it c174 ?_
            refine so [] [] [(2, cB false)] [] id ?_
            refine ends_ret ?_
            cases H
            exact And.intro (by simp) (And.intro rfl rfl)
           ·refine jf c174 ?_
            refine sk ?_
            refine oo [] [] [(1, pk 1), (45, ow 45 1 ([p0.Rivers, p0.Roads] : List (List Int))), (46, cL ([p0.Rivers, p0.Roads] : List (List Int))), (47, cI x142), (54, .c (dat 1 eI zI (([p0.Rivers, p0.Roads] : List (List Int)).getD x142.toNat zLI))), (55, cL (([p0.Rivers, p0.Roads] : List (List Int)).getD x142.toNat zLI)), (56, cI (W (x167 + 1)))] [(1, va (eTMap p0)), (45, ar 1 eLI zLI ([p0.Rivers, p0.Roads] : List (List Int)))] id ?_
            cases H
            exact And.intro rfl rfl
          ·refine jf c169 ?_
           refine tl [] [(1, pk 1), (45, ow 45 1 ([p0.Rivers, p0.Roads] : List (List Int))), (46, cL ([p0.Rivers, p0.Roads] : List (List Int))), (47, cI x142)] [(1, va (eTMap p0)), (45, ar 1 eLI zLI ([p0.Rivers, p0.Roads] : List (List Int)))] id ?_
           refine ends_exit ?_
           cases H
           exact And.intro (by simp) (And.intro rfl rfl)
         ·clear h176
          cases y175 with
          | inl y177 =>
           replace H := ofInl H
           intro e s q
           obtain ⟨rfl, rfl⟩ := q
           change EndsI _ _ _ _ _ _
           refine oo [] [] [(1, pk 1), (45, ow 45 1 ([p0.Rivers, p0.Roads] : List (List Int))), (46, cL ([p0.Rivers, p0.Roads] : List (List Int))), (47, cI (W (x142 + 1)))] [(1, va (eTMap p0)), (45, ar 1 eLI zLI ([p0.Rivers, p0.Roads] : List (List Int)))] id ?_
           cases H
           exact And.intro rfl rfl
          | inr y178 =>
           replace H := ofInr H
           intro e s q
           obtain ⟨rfl, rfl⟩ := q
           cases H
           exact And.intro (by simp) (And.intro rfl rfl)
       ·refine jf c144 ?_
        refine tl [] [] [] id ?_
        refine ends_exit ?_
        cases H
        exact And.intro (by simp) (And.intro rfl rfl)
      ·clear h180
       cases y179 with
       | inl y181 =>
        replace H := ofInl H
        intro e s q
        obtain ⟨rfl, rfl⟩ := q
        change EndsI _ _ _ _ _ _
        refine so [] [] [(2, cB true)] [] id ?_
        refine ends_ret ?_
        cases H
        exact And.intro (.inl rfl) rfl
       | inr y182 =>
        replace H := ofInr H
        intro e s q
        obtain ⟨rfl, rfl⟩ := q
        cases H
        exact And.intro (.inl rfl) rfl
     | inr y68 =>
      replace H := ofInr H
      intro e s q
      obtain ⟨rfl, rfl⟩ := q
      cases H
      exact And.intro (.inl rfl) rfl
def i_IsBoard_1_ir : S :=
 (sq [o 3 (.mv (.v (.bool false)))]
 (sq [om 4 0, o 5 (.fad 0 (.t 1)), o 6 (.fad 0 (.t 5)), o 7 (.load 1 false (.t 6)), o 8 (.len (.t 7)), o 9 (.bin .geq (.t 4) (.t 8)), om 3 9]
 .ret))
noncomputable def X.i_IsBoard_1 (p0 : Int) (p1 : TBoard) : Option Bool :=
 some (decide (p0 ≥ (p1.Rules.Terrains.length : Int)))
theorem i_IsBoard_1_ok (p0 : Int) (p1 : TBoard) (r : Bool) (H : X.i_IsBoard_1 p0 p1 = some r) : FnOk Tryz.prog gl 195 [cI p0, .c (.pd (eTBoard p1) 0)] (cB r) := by
 unfold X.i_IsBoard_1 at H
 refine fi Tryz.f195 i_IsBoard_1_ir [(3, cB r)] [] glL Tryz.func195 ?_
 refine so [] [] [(0, cI p0), (1, .c (.pd (eTBoard p1) 0))] [] id ?_
 refine so [] [] [(3, cB (decide (p0 ≥ (p1.Rules.Terrains.length : Int))))] [] (fun t => lI p1.Rules.Terrains (t)) ?_
 refine ends_ret ?_
 cases H
 exact And.intro (.inl rfl) rfl
def i_IsBoard_ir : S :=
 (sq [o 1 (.box 12 (.t 0)), o 2 (.mv (.v (.bool false)))]
 (.seq (sq [o 3 (.fad 0 (.t 1)), o 4 (.load 7 true (.t 3)), o 5 (.call 193 [.t 4]), o 6 (.not (.t 5)), om 7 6, ⟨some 8, .fad 7 (.t 1), some (7, false)⟩, ⟨some 9, .load 5 true (.t 8), some (7, false)⟩, ⟨some 10, .call 194 [.t 9], some (7, false)⟩, ⟨some 11, .not (.t 10), some (7, false)⟩, o 12 (.pick (.t 7) (.v (.bool true)) (.t 11))]
 (.ite (.t 12) (sq [o 2 (.mv (.v (.bool false)))]
  .ret)
 .skip))
 (sq [o 13 (.fad 7 (.t 1)), o 14 (.fad 2 (.t 13)), o 15 (.load 1 false (.t 14)), o 16 (.clo 195 [.t 1]), o 17 (.call 70 [.t 15, .t 16]), o 18 (.not (.t 17)), om 2 18]
 .ret)))
noncomputable def X.i_IsBoard (p0 : TBoard) : Option Bool :=
 ((X.i_IsRules p0.Rules).bind fun v7 => (bif (!v7) then some false else ((X.i_IsMap p0.Map).bind fun v10 => (bif (!v10) then some false else ((X.g_ContainsFunc_int p0.Map.Terrain (fun q0 => X.i_IsBoard_1 q0 p0)).bind fun v13 => some (!v13))))))
theorem i_IsBoard_ok (p0 : TBoard) (r : Bool) (H : X.i_IsBoard p0 = some r) : FnOk Tryz.prog gl 143 [.agg (eTBoard p0)] (cB r) := by
 unfold X.i_IsBoard at H
 refine fi Tryz.f143 i_IsBoard_ir [(2, cB r)] [] glL Tryz.func143 ?_
 refine so [] [] [(1, pk 1)] [(1, va (eTBoard p0))] id ?_
 refine seq_in ?_
 obtain ⟨v7, h8, H⟩ := ofBind H
 rcases ofCond H with ⟨c9, H⟩ | ⟨c9, H⟩
 ·refine so [.res (cB v7), .g true, .g true, .g true, .g true, .g true] [] [(1, pk 1), (12, cB true)] [(1, va (eTBoard p0))] (fun t => aI (i_IsRules_ok p0.Rules v7 h8) (aI c9 (aI c9 (aI c9 (aI c9 (aI c9 (t))))))) ?_
  refine it (rfl : (true : Bool) = true) ?_
  refine so [] [] [(2, cB false)] [] id ?_
  refine ends_ret ?_
  cases H
  exact And.intro (.inl rfl) rfl
 ·obtain ⟨v10, h11, H⟩ := ofBind H
  refine so [.res (cB v7), .g false, .g false, .g false, .res (cB v10), .g false, .g false] [] [(1, pk 1), (12, cB (!v10))] [(1, va (eTBoard p0))] (fun t => aI (i_IsRules_ok p0.Rules v7 h8) (aI c9 (aI c9 (aI c9 (aI (i_IsMap_ok p0.Map v10 h11) (aI c9 (aI c9 (t)))))))) ?_
  rcases ofCond H with ⟨c12, H⟩ | ⟨c12, H⟩
  ·refine it c12 ?_
   refine so [] [] [(2, cB false)] [] id ?_
   refine ends_ret ?_
   cases H
   exact And.intro (.inl rfl) rfl
  ·refine jf c12 ?_
   refine sk ?_
   obtain ⟨v13, h14, H⟩ := ofBind H
   refine so [.res (cB v13)] [] [(2, cB (!v13))] [] (aI (g_ContainsFunc_int_c1_ok p0.Map.Terrain (195) (eTBoard p0) (fun q0 => X.i_IsBoard_1 q0 p0) (fun q0 r h => i_IsBoard_1_ok q0 p0 r h) v13 h14)) ?_
   refine ends_ret ?_
   cases H
   exact And.intro (.inl rfl) rfl
def i_sizeOf_ir : S :=
 (sq [o 1 (.box 12 (.t 0)), o 2 (.mv (iv 0))]
 (sq [o 3 (.fad 7 (.t 1)), o 4 (.fad 2 (.t 3)), o 5 (.load 1 false (.t 4)), o 6 (.len (.t 5)), om 2 6]
 .ret))
noncomputable def X.i_sizeOf (p0 : TBoard) : Option Int :=
 some (p0.Map.Terrain.length : Int)
theorem i_sizeOf_ok (p0 : TBoard) (r : Int) (H : X.i_sizeOf p0 = some r) : FnOk Tryz.prog gl 116 [.agg (eTBoard p0)] (cI r) := by
 unfold X.i_sizeOf at H
 refine fi Tryz.f116 i_sizeOf_ir [(2, cI r)] [] glL Tryz.func116 ?_
 refine so [] [] [(1, pk 1)] [(1, va (eTBoard p0))] id ?_
 refine so [] [] [(2, cL p0.Map.Terrain)] [] (fun t => lI p0.Map.Terrain (t)) ?_
 refine ends_ret ?_
 cases H
 exact And.intro (.inl rfl) rfl
def i_isSide_ir : S :=
 (sq [o 2 (.mv (.v (.bool false)))]
 (sq [om 3 0, o 4 (.call 145 [.t 3, .v (.int .i64 0), .v (.int .i64 1)]), om 2 4]
 .ret))
noncomputable def X.i_isSide (p0 : Int) : Option Bool :=
 ((X.i_inRange p0 0 1).bind fun v1 => some v1)
theorem i_isSide_ok (p0 : Int) (r : Bool) (H : X.i_isSide p0 = some r) : FnOk Tryz.prog gl 132 [cI p0] (cB r) := by
 unfold X.i_isSide at H
 refine fi Tryz.f132 i_isSide_ir [(2, cB r)] [] glL Tryz.func132 ?_
 refine so [] [] [(0, cI p0)] [] id ?_
 obtain ⟨v1, h2, H⟩ := ofBind H
 refine so [.res (cB v1)] [] [(2, cB v1)] [] (aI (i_inRange_ok p0 0 1 v1 h2)) ?_
 refine ends_ret ?_
 cases H
 exact And.intro (.inl rfl) rfl
def i_terrainAt_ir : S :=
 (sq [o 2 (.box 12 (.t 0)), o 4 (.alloc [.str [], .nil, .int .i64 0, .int .i64 0, .bool false])]
 (.seq (.draw 11 [o 5 (.fad 0 (.t 2)), o 6 (.fad 0 (.t 5)), o 7 (.load 1 false (.t 6)), o 8 (.fad 7 (.t 2)), o 9 (.fad 2 (.t 8)), o 10 (.load 1 false (.t 9)), om 11 1, o 12 (.iad 1 (.t 10) (.t 11)), o 13 (.load 1 false (.t 12)), o 14 (.iad 5 (.t 7) (.t 13)), o 15 (.load 5 true (.t 14)), ⟨none, .store 5 (.t 4) (.t 15), none⟩])
 .ret))
noncomputable def X.i_terrainAt (p0 : TBoard) (p1 : Int) : Option TTerrain :=
 ((at' zI p0.Map.Terrain p1).bind fun v1 => ((at' zTTerrain p0.Rules.Terrains v1).bind fun v3 => some v3))
theorem i_terrainAt_ok (p0 : TBoard) (p1 : Int) (r : TTerrain) (H : X.i_terrainAt p0 p1 = some r) : FnOk Tryz.prog gl 199 [.agg (eTBoard p0), cI p1] (.agg (eTTerrain r)) := by
 unfold X.i_terrainAt at H
 refine fi Tryz.f199 i_terrainAt_ir [(4, pk 4)] [(4, va (eTTerrain r))] glL Tryz.func199 ?_
 refine so [] [] [(1, cI p1), (2, pk 2), (4, pk 4)] [(2, va (eTBoard p0)), (4, .var [.str [], .nil, .int .i64 0, .int .i64 0, .bool false] false)] id ?_
 obtain ⟨v1, h2, H⟩ := ofBind H
 obtain ⟨v3, h4, H⟩ := ofBind H
 refine sd [.cs (eI v1), .cs (eTTerrain v3)] [] [(4, pk 4)] [(4, va (eTTerrain v3))] (fun t => (a2 eI h2 (aI (rfl : ([] : List Nat) = []) ((a2 eTTerrain h4 (aI (rfl : ([] : List Nat) = []) (t))))))) ?_
 refine ends_ret ?_
 cases H
 exact And.intro (.inl rfl) rfl
def i_enterCost_ir : S :=
 (sq [o 3 (.box 12 (.t 0)), o 6 (.mv (iv 0))]
 (sq [o 7 (.load 12 true (.t 3)), om 8 2, o 9 (.call 199 [.t 7, .t 8]), o 10 (.fld 1 1 false (.t 9)), om 11 1, o 12 (.iad 1 (.t 10) (.t 11)), o 13 (.load 1 false (.t 12)), om 6 13]
 .ret))
noncomputable def X.i_enterCost (p0 : TBoard) (p1 : Int) (p2 : Int) : Option Int :=
 ((X.i_terrainAt p0 p2).bind fun v1 => ((at' zI v1.Cost p1).bind fun v3 => some v3))
theorem i_enterCost_ok (p0 : TBoard) (p1 : Int) (p2 : Int) (r : Int) (H : X.i_enterCost p0 p1 p2 = some r) : FnOk Tryz.prog gl 157 [.agg (eTBoard p0), cI p1, cI p2] (cI r) := by
 unfold X.i_enterCost at H
 refine fi Tryz.f157 i_enterCost_ir [(6, cI r)] [] glL Tryz.func157 ?_
 refine so [] [] [(1, cI p1), (2, cI p2), (3, pk 3)] [(3, va (eTBoard p0))] id ?_
 obtain ⟨v1, h2, H⟩ := ofBind H
 obtain ⟨v3, h4, H⟩ := ofBind H
 refine so [.res (.agg (eTTerrain v1)), .cs (eI v3)] [] [(6, cI v3)] [] (fun t => aI (i_terrainAt_ok p0 p2 v1 h2) ((a2 eI h4 (t)))) ?_
 refine ends_ret ?_
 cases H
 exact And.intro (.inl rfl) rfl
def i_goodUnit_ir : S :=
 (sq [o 2 (.box 12 (.t 0)), o 3 (.box 4 (.t 1)), o 4 (.mv (.v (.bool false)))]
 (.seq (.seq (.draw 28 [o 5 (.fad 0 (.t 3)), o 6 (.load 1 false (.t 5)), o 7 (.call 132 [.t 6]), o 8 (.not (.t 7)), om 9 8, ⟨some 10, .fad 1 (.t 3), some (9, false)⟩, ⟨some 11, .load 1 false (.t 10), some (9, false)⟩, ⟨some 12, .fad 0 (.t 2), some (9, false)⟩, ⟨some 13, .fad 1 (.t 12), some (9, false)⟩, ⟨some 14, .load 1 false (.t 13), some (9, false)⟩, ⟨some 15, .len (.t 14), some (9, false)⟩, ⟨some 16, .call 115 [.t 11, .t 15], some (9, false)⟩, ⟨some 17, .not (.t 16), some (9, false)⟩, o 18 (.pick (.t 9) (.v (.bool true)) (.t 17)), om 19 18, ⟨some 20, .fad 3 (.t 3), some (19, false)⟩, ⟨some 21, .load 1 false (.t 20), some (19, false)⟩, ⟨some 22, .fad 0 (.t 2), some (19, false)⟩, ⟨some 23, .fad 1 (.t 22), some (19, false)⟩, ⟨some 24, .load 1 false (.t 23), some (19, false)⟩, ⟨some 25, .fad 1 (.t 3), some (19, false)⟩, ⟨some 26, .load 1 false (.t 25), some (19, false)⟩, ⟨some 27, .iad 6 (.t 24) (.t 26), some (19, false)⟩, ⟨some 28, .fad 3 (.t 27), some (19, false)⟩, ⟨some 29, .load 1 false (.t 28), some (19, false)⟩, ⟨some 30, .call 145 [.t 21, .v (.int .i64 0), .t 29], some (19, false)⟩, ⟨some 31, .not (.t 30), some (19, false)⟩, o 32 (.pick (.t 19) (.v (.bool true)) (.t 31))])
 (.ite (.t 32) (sq [o 4 (.mv (.v (.bool false)))]
  .ret)
 .skip))
 (.seq (sq [o 33 (.fad 2 (.t 3)), o 34 (.load 1 false (.t 33)), o 35 (.bin .eql (.t 34) (.v (.int .i64 (-1))))]
 (.ite (.t 35) (sq [o 4 (.mv (.v (.bool true)))]
  .ret)
 .skip))
 (.seq (.draw 20 [o 36 (.fad 3 (.t 3)), o 37 (.load 1 false (.t 36)), o 38 (.bin .gtr (.t 37) (iv 0)), om 39 38, ⟨some 40, .fad 2 (.t 3), some (39, true)⟩, ⟨some 41, .load 1 false (.t 40), some (39, true)⟩, ⟨some 42, .load 12 true (.t 2), some (39, true)⟩, ⟨some 43, .call 116 [.t 42], some (39, true)⟩, ⟨some 44, .call 115 [.t 41, .t 43], some (39, true)⟩, o 45 (.pick (.t 39) (.t 44) (.v (.bool false))), om 46 45, ⟨some 47, .load 12 true (.t 2), some (46, true)⟩, ⟨some 48, .fad 1 (.t 3), some (46, true)⟩, ⟨some 49, .load 1 false (.t 48), some (46, true)⟩, ⟨some 50, .fad 2 (.t 3), some (46, true)⟩, ⟨some 51, .load 1 false (.t 50), some (46, true)⟩, ⟨some 52, .call 157 [.t 47, .t 49, .t 51], some (46, true)⟩, ⟨some 53, .bin .neq (.t 52) (iv 0), some (46, true)⟩, o 54 (.pick (.t 46) (.t 53) (.v (.bool false))), om 4 54])
 .ret))))
noncomputable def X.i_goodUnit (p0 : TBoard) (p1 : TUnit) : Option Bool :=
 ((X.i_isSide p1.Side).bind fun v12 => (bif (!v12) then some false else ((X.i_isIndex p1.Kind (p0.Rules.Kinds.length : Int)).bind fun v15 => (bif (!v15) then some false else ((at' zTKind p0.Rules.Kinds p1.Kind).bind fun v18 => ((X.i_inRange p1.Steps 0 v18.Steps).bind fun v20 => (bif (!v20) then some false else (bif (p1.At == (-1)) then some true else (bif (decide (p1.Steps > 0)) then ((X.i_sizeOf p0).bind fun v26 => ((X.i_isIndex p1.At v26).bind fun v28 => (bif v28 then ((X.i_enterCost p0 p1.Kind p1.At).bind fun v31 => some (v31 != 0)) else some false))) else some false)))))))))
theorem i_goodUnit_ok (p0 : TBoard) (p1 : TUnit) (r : Bool) (H : X.i_goodUnit p0 p1 = some r) : FnOk Tryz.prog gl 149 [.agg (eTBoard p0), .agg (eTUnit p1)] (cB r) := by
 unfold X.i_goodUnit at H
 refine fi Tryz.f149 i_goodUnit_ir [(4, cB r)] [] glL Tryz.func149 ?_
 refine so [] [] [(2, pk 2), (3, pk 3)] [(2, va (eTBoard p0)), (3, va (eTUnit p1))] id ?_
 refine seq_in ?_
 obtain ⟨v12, h13, H⟩ := ofBind H
 rcases ofCond H with ⟨c14, H⟩ | ⟨c14, H⟩
 ·refine sd [.res (cB v12), .g true, .g true, .g true, .g true, .g true, .g true, .g true, .g true, .g true, .g true, .g true, .g true, .g true, .g true, .g true, .g true, .g true, .g true, .g true, .g true, .g true, .g true] [] [(2, pk 2), (3, pk 3), (32, cB true)] [(2, va (eTBoard p0)), (3, va (eTUnit p1))] (fun t => aI (i_isSide_ok p1.Side v12 h13) (aI trivial (aI (rfl : ([] : List Nat) = []) (aI c14 (aI c14 (aI c14 (aI c14 (aI c14 (aI c14 (aI c14 (aI c14 (aI c14 (aI (rfl : (true : Bool) = true) (aI (rfl : (true : Bool) = true) (aI (rfl : (true : Bool) = true) (aI (rfl : (true : Bool) = true) (aI (rfl : (true : Bool) = true) (aI (rfl : (true : Bool) = true) (aI (rfl : (true : Bool) = true) (aI (rfl : (true : Bool) = true) (aI (rfl : (true : Bool) = true) (aI (rfl : (true : Bool) = true) (aI (rfl : (true : Bool) = true) (aI (rfl : (true : Bool) = true) (aI (rfl : (true : Bool) = true) (t)))))))))))))))))))))))))) ?_
  refine it (rfl : (true : Bool) = true) ?_
  refine so [] [] [(4, cB false)] [] id ?_
  refine ends_ret ?_
  cases H
  exact And.intro (.inl rfl) rfl
 ·obtain ⟨v15, h16, H⟩ := ofBind H
  rcases ofCond H with ⟨c17, H⟩ | ⟨c17, H⟩
  ·refine sd [.res (cB v12), .g false, .g false, .g false, .g false, .g false, .g false, .g false, .res (cB v15), .g false, .g false, .g true, .g true, .g true, .g true, .g true, .g true, .g true, .g true, .g true, .g true, .g true, .g true, .g true] [] [(2, pk 2), (3, pk 3), (32, cB true)] [(2, va (eTBoard p0)), (3, va (eTUnit p1))] (fun t => aI (i_isSide_ok p1.Side v12 h13) (aI trivial (aI (rfl : ([] : List Nat) = []) (aI c14 (aI c14 (aI c14 (aI c14 (aI c14 (aI c14 (aI c14 (aI (i_isIndex_ok p1.Kind (p0.Rules.Kinds.length : Int) v15 h16) (aI trivial (aI (rfl : ([] : List Nat) = []) (aI c14 (aI c14 (aI c17 (aI c17 (aI c17 (aI c17 (aI c17 (aI c17 (aI c17 (aI c17 (aI c17 (aI c17 (aI c17 (aI c17 (aI c17 (t))))))))))))))))))))))))))))) ?_
   refine it (rfl : (true : Bool) = true) ?_
   refine so [] [] [(4, cB false)] [] id ?_
   refine ends_ret ?_
   cases H
   exact And.intro (.inl rfl) rfl
  ·obtain ⟨v18, h19, H⟩ := ofBind H
   obtain ⟨v20, h21, H⟩ := ofBind H
   refine sd [.res (cB v12), .g false, .g false, .g false, .g false, .g false, .g false, .g false, .res (cB v15), .g false, .g false, .g false, .g false, .g false, .g false, .g false, .g false, .g false, .g false, .cs (eTKind v18), .g false, .g false, .g false, .res (cB v20), .g false, .g false] [] [(2, pk 2), (3, pk 3), (32, cB (!v20))] [(2, va (eTBoard p0)), (3, va (eTUnit p1))] (fun t => aI (i_isSide_ok p1.Side v12 h13) (aI trivial (aI (rfl : ([] : List Nat) = []) (aI c14 (aI c14 (aI c14 (aI c14 (aI c14 (aI c14 (aI c14 (aI (i_isIndex_ok p1.Kind (p0.Rules.Kinds.length : Int) v15 h16) (aI trivial (aI (rfl : ([] : List Nat) = []) (aI c14 (aI c14 (aI c17 (aI c17 (aI c17 (aI c17 (aI c17 (aI c17 (aI c17 (aI c17 ((a2 eTKind h19 (aI c17 (aI c17 (aI (rfl : ([] : List Nat) = []) (aI c17 (aI (i_inRange_ok p1.Steps 0 v18.Steps v20 h21) (aI trivial (aI (rfl : ([] : List Nat) = []) (aI c17 (aI c17 (t))))))))))))))))))))))))))))))))))) ?_
   rcases ofCond H with ⟨c22, H⟩ | ⟨c22, H⟩
   ·refine it c22 ?_
    refine so [] [] [(4, cB false)] [] id ?_
    refine ends_ret ?_
    cases H
    exact And.intro (.inl rfl) rfl
   ·refine jf c22 ?_
    refine sk ?_
    refine seq_in ?_
    refine so [] [] [(2, pk 2), (3, pk 3), (35, cB (p1.At == (-1)))] [(2, va (eTBoard p0)), (3, va (eTUnit p1))] id ?_
    rcases ofCond H with ⟨c24, H⟩ | ⟨c24, H⟩
    ·refine it c24 ?_
     refine so [] [] [(4, cB true)] [] id ?_
     refine ends_ret ?_
     cases H
     exact And.intro (.inl rfl) rfl
    ·refine jf c24 ?_
     refine sk ?_
     rcases ofCond H with ⟨c25, H⟩ | ⟨c25, H⟩
     ·obtain ⟨v26, h27, H⟩ := ofBind H
      obtain ⟨v28, h29, H⟩ := ofBind H
      rcases ofCond H with ⟨c30, H⟩ | ⟨c30, H⟩
      ·obtain ⟨v31, h32, H⟩ := ofBind H
       refine sd [.g true, .g true, .g true, .g true, .res (cI v26), .g true, .res (cB v28), .g true, .g true, .g true, .g true, .g true, .g true, .g true, .res (cI v31), .g true, .g true] [] [(4, cB (v31 != 0))] [] (fun t => aI c25 (aI c25 (aI c25 (aI c25 (aI (i_sizeOf_ok p0 v26 h27) (aI trivial (aI (rfl : ([] : List Nat) = []) (aI c25 (aI (i_isIndex_ok p1.At v26 v28 h29) (aI trivial (aI (rfl : ([] : List Nat) = []) (aI c25 (aI c30 (aI c30 (aI c30 (aI c30 (aI c30 (aI c30 (aI (i_enterCost_ok p0 p1.Kind p1.At v31 h32) (aI trivial (aI (rfl : ([] : List Nat) = []) (aI c30 (aI c30 (t)))))))))))))))))))))))) ?_
       refine ends_ret ?_
       cases H
       exact And.intro (.inl rfl) rfl
      ·refine sd [.g true, .g true, .g true, .g true, .res (cI v26), .g true, .res (cB v28), .g true, .g false, .g false, .g false, .g false, .g false, .g false, .g false, .g false] [] [(4, cB false)] [] (fun t => aI c25 (aI c25 (aI c25 (aI c25 (aI (i_sizeOf_ok p0 v26 h27) (aI trivial (aI (rfl : ([] : List Nat) = []) (aI c25 (aI (i_isIndex_ok p1.At v26 v28 h29) (aI trivial (aI (rfl : ([] : List Nat) = []) (aI c25 (aI c30 (aI c30 (aI c30 (aI c30 (aI c30 (aI c30 (aI c30 (aI c30 (t))))))))))))))))))))) ?_
       refine ends_ret ?_
       cases H
       exact And.intro (.inl rfl) rfl
     ·refine sd [.g false, .g false, .g false, .g false, .g false, .g false, .g false, .g false, .g false, .g false, .g false, .g false, .g false, .g false] [] [(4, cB false)] [] (fun t => aI c25 (aI c25 (aI c25 (aI c25 (aI c25 (aI c25 (aI (rfl : (false : Bool) = false) (aI (rfl : (false : Bool) = false) (aI (rfl : (false : Bool) = false) (aI (rfl : (false : Bool) = false) (aI (rfl : (false : Bool) = false) (aI (rfl : (false : Bool) = false) (aI (rfl : (false : Bool) = false) (aI (rfl : (false : Bool) = false) (t))))))))))))))) ?_
      refine ends_ret ?_
      cases H
      exact And.intro (.inl rfl) rfl
def i_goodState_ir : S :=
 (sq [o 2 (.box 12 (.t 0)), o 3 (.box 3 (.t 1)), o 4 (.mv (.v (.bool false)))]
 (.seq (sq [o 8 (.fad 0 (.t 3)), o 9 (.load 1 false (.t 8)), o 10 (.fad 0 (.t 2)), o 11 (.fad 6 (.t 10)), o 12 (.load 1 false (.t 11)), o 13 (.call 145 [.t 9, .v (.int .i64 0), .t 12]), o 14 (.not (.t 13)), om 15 14, ⟨some 16, .fad 1 (.t 3), some (15, false)⟩, ⟨some 17, .load 1 false (.t 16), some (15, false)⟩, ⟨some 18, .call 145 [.t 17, .v (.int .i64 0), .v (.int .i64 2)], some (15, false)⟩, ⟨some 19, .not (.t 18), some (15, false)⟩, o 20 (.pick (.t 15) (.v (.bool true)) (.t 19)), om 21 20, ⟨some 22, .fad 2 (.t 3), some (21, false)⟩, ⟨some 23, .load 1 false (.t 22), some (21, false)⟩, ⟨some 24, .len (.t 23), some (21, false)⟩, ⟨some 25, .bin .gtr (.t 24) (iv 12), some (21, false)⟩, o 26 (.pick (.t 21) (.v (.bool true)) (.t 25))]
 (.ite (.t 26) (sq [o 4 (.mv (.v (.bool false)))]
  .ret)
 .skip))
 (sq [o 27 (.load 12 true (.t 2)), o 28 (.call 116 [.t 27]), o 29 (.msl 2 16 [.int .i64 0, .int .i64 0] (.t 28)), om 5 29]
 (.seq (sq [o 30 (.fad 2 (.t 3)), o 31 (.load 1 false (.t 30)), o 32 (.len (.t 31)), o 33 (.mv (iv 0))]
 (.blk 0 (.loop (sq [o 34 (.bin .lss (.t 33) (.t 32))]
   (.seq (.ite (.t 34) .skip
   (.exit 0))
   (.seq (.blk 1 (sq [o 35 (.iad 4 (.t 31) (.t 33)), o 36 (.load 4 true (.t 35)), o 7 (.alloc [.int .i64 0, .int .i64 0, .int .i64 0, .int .i64 0]), ⟨none, .store 4 (.t 7) (.t 36), none⟩]
    (.seq (sq [o 37 (.load 12 true (.t 2)), o 38 (.load 4 true (.t 7)), o 39 (.call 149 [.t 37, .t 38]), o 40 (.not (.t 39))]
    (.ite (.t 40) (sq [o 4 (.mv (.v (.bool false)))]
     .ret)
    .skip))
    (.seq (sq [o 41 (.fad 2 (.t 7)), o 42 (.load 1 false (.t 41)), o 43 (.bin .lss (.t 42) (iv 0))]
    (.ite (.t 43) (.exit 1)
    .skip))
    (.seq (.draw 11 [om 44 5, o 45 (.fad 2 (.t 7)), o 46 (.load 1 false (.t 45)), o 47 (.fad 0 (.t 7)), o 48 (.load 1 false (.t 47)), o 49 (.iad 2 (.t 44) (.t 46)), o 50 (.iar 2 1 (.t 49) (.t 48)), o 51 (.load 1 false (.t 50)), o 52 (.bin .add (.t 51) (iv 1)), o 53 (.iad 2 (.t 44) (.t 46)), o 54 (.iar 2 1 (.t 53) (.t 48)), ⟨none, .store 1 (.t 54) (.t 52), none⟩])
    (.seq (.draw 24 [om 55 5, o 56 (.fad 2 (.t 7)), o 57 (.load 1 false (.t 56)), o 58 (.fad 0 (.t 7)), o 59 (.load 1 false (.t 58)), o 60 (.bin .sub (iv 1) (.t 59)), o 61 (.iad 2 (.t 55) (.t 57)), o 62 (.iar 2 1 (.t 61) (.t 60)), o 63 (.load 1 false (.t 62)), o 64 (.bin .gtr (.t 63) (iv 0)), om 65 64, ⟨some 66, .mv (.t 5), some (65, false)⟩, ⟨some 67, .fad 2 (.t 7), some (65, false)⟩, ⟨some 68, .load 1 false (.t 67), some (65, false)⟩, ⟨some 69, .fad 0 (.t 7), some (65, false)⟩, ⟨some 70, .load 1 false (.t 69), some (65, false)⟩, ⟨some 71, .iad 2 (.t 66) (.t 68), some (65, false)⟩, ⟨some 72, .iar 2 1 (.t 71) (.t 70), some (65, false)⟩, ⟨some 73, .load 1 false (.t 72), some (65, false)⟩, ⟨some 74, .fad 0 (.t 2), some (65, false)⟩, ⟨some 75, .fad 2 (.t 74), some (65, false)⟩, ⟨some 76, .load 1 false (.t 75), some (65, false)⟩, ⟨some 77, .bin .gtr (.t 73) (.t 76), some (65, false)⟩, o 78 (.pick (.t 65) (.v (.bool true)) (.t 77))])
    (.ite (.t 78) (sq [o 4 (.mv (.v (.bool false)))]
     .ret)
    .skip)))))))
   (.ops [o 79 (.bin .add (.t 33) (iv 1)), om 33 79])))))))
 (sq [o 4 (.mv (.v (.bool true)))]
 .ret)))))
noncomputable def X.i_goodState (p0 : TBoard) (p1 : TState) : Option Bool :=
 ((X.i_inRange p1.Turn 0 p0.Rules.Turns).bind fun v8 => (bif (!v8) then some false else ((X.i_inRange p1.Weather 0 2).bind fun v11 => (bif (!v11) then some false else (bif (decide ((p1.Units.length : Int) > 12)) then some false else ((X.i_sizeOf p0).bind fun v15 => (if 0 ≤ v15 ∧ v15.toNat ≤ LIM then ((loop (fun (x85 : (Int × (List A2_I))) => ((bif (decide (x85.1 < (p1.Units.length : Int))) then ((at' zTUnit p1.Units x85.1).bind fun v88 => ((X.i_goodUnit p0 v88).bind fun v93 => (bif (!v93) then some (Sum.inr (Sum.inr false)) else (bif (decide (v88.At < 0)) then some (Sum.inl ((W (x85.1 + 1)), x85.2)) else (if 0 ≤ v88.At ∧ v88.At < (x85.2.length : Int) then (if v88.Side = ((0 : Nat) : Int) then (if (W (1 - v88.Side)) = ((0 : Nat) : Int) then (bif (decide (((x85.2.set v88.At.toNat (A2_I.mk (W ((x85.2.getD v88.At.toNat zA2_I).a0 + 1)) ((x85.2.getD v88.At.toNat zA2_I).a1))).getD v88.At.toNat zA2_I).a0 > 0)) then some (Sum.inr (Sum.inr false)) else (bif (decide (((x85.2.set v88.At.toNat (A2_I.mk (W ((x85.2.getD v88.At.toNat zA2_I).a0 + 1)) ((x85.2.getD v88.At.toNat zA2_I).a1))).getD v88.At.toNat zA2_I).a0 > p0.Rules.Stack)) then some (Sum.inr (Sum.inr false)) else some (Sum.inl ((W (x85.1 + 1)), (x85.2.set v88.At.toNat (A2_I.mk (W ((x85.2.getD v88.At.toNat zA2_I).a0 + 1)) ((x85.2.getD v88.At.toNat zA2_I).a1))))))) else (if (W (1 - v88.Side)) = ((1 : Nat) : Int) then (bif (decide (((x85.2.set v88.At.toNat (A2_I.mk (W ((x85.2.getD v88.At.toNat zA2_I).a0 + 1)) ((x85.2.getD v88.At.toNat zA2_I).a1))).getD v88.At.toNat zA2_I).a1 > 0)) then some (Sum.inr (Sum.inr false)) else (bif (decide (((x85.2.set v88.At.toNat (A2_I.mk (W ((x85.2.getD v88.At.toNat zA2_I).a0 + 1)) ((x85.2.getD v88.At.toNat zA2_I).a1))).getD v88.At.toNat zA2_I).a0 > p0.Rules.Stack)) then some (Sum.inr (Sum.inr false)) else some (Sum.inl ((W (x85.1 + 1)), (x85.2.set v88.At.toNat (A2_I.mk (W ((x85.2.getD v88.At.toNat zA2_I).a0 + 1)) ((x85.2.getD v88.At.toNat zA2_I).a1))))))) else none)) else (if v88.Side = ((1 : Nat) : Int) then (if (W (1 - v88.Side)) = ((0 : Nat) : Int) then (bif (decide (((x85.2.set v88.At.toNat (A2_I.mk ((x85.2.getD v88.At.toNat zA2_I).a0) (W ((x85.2.getD v88.At.toNat zA2_I).a1 + 1)))).getD v88.At.toNat zA2_I).a0 > 0)) then some (Sum.inr (Sum.inr false)) else (bif (decide (((x85.2.set v88.At.toNat (A2_I.mk ((x85.2.getD v88.At.toNat zA2_I).a0) (W ((x85.2.getD v88.At.toNat zA2_I).a1 + 1)))).getD v88.At.toNat zA2_I).a1 > p0.Rules.Stack)) then some (Sum.inr (Sum.inr false)) else some (Sum.inl ((W (x85.1 + 1)), (x85.2.set v88.At.toNat (A2_I.mk ((x85.2.getD v88.At.toNat zA2_I).a0) (W ((x85.2.getD v88.At.toNat zA2_I).a1 + 1)))))))) else (if (W (1 - v88.Side)) = ((1 : Nat) : Int) then (bif (decide (((x85.2.set v88.At.toNat (A2_I.mk ((x85.2.getD v88.At.toNat zA2_I).a0) (W ((x85.2.getD v88.At.toNat zA2_I).a1 + 1)))).getD v88.At.toNat zA2_I).a1 > 0)) then some (Sum.inr (Sum.inr false)) else (bif (decide (((x85.2.set v88.At.toNat (A2_I.mk ((x85.2.getD v88.At.toNat zA2_I).a0) (W ((x85.2.getD v88.At.toNat zA2_I).a1 + 1)))).getD v88.At.toNat zA2_I).a1 > p0.Rules.Stack)) then some (Sum.inr (Sum.inr false)) else some (Sum.inl ((W (x85.1 + 1)), (x85.2.set v88.At.toNat (A2_I.mk ((x85.2.getD v88.At.toNat zA2_I).a0) (W ((x85.2.getD v88.At.toNat zA2_I).a1 + 1)))))))) else none)) else none)) else none))))) else some (Sum.inr (Sum.inl ()))) : Option ((Int × (List A2_I)) ⊕ (Unit ⊕ Bool)))) (0, (List.replicate v15.toNat zA2_I))).bind fun y119 => (Sum.elim (fun (y121 : Unit) => some true) (fun (y122 : Bool) => some y122) y119)) else none)))))))
theorem i_goodState_ok (p0 : TBoard) (p1 : TState) (r : Bool) (H : X.i_goodState p0 p1 = some r) : FnOk Tryz.prog gl 181 [.agg (eTBoard p0), .agg (eTState p1)] (cB r) := by
 unfold X.i_goodState at H
 refine fi Tryz.f181 i_goodState_ir [(4, cB r)] [] glL Tryz.func181 ?_
 refine so [] [] [(2, pk 2), (3, pk 3)] [(2, va (eTBoard p0)), (3, va (eTState p1))] id ?_
 refine seq_in ?_
 obtain ⟨v8, h9, H⟩ := ofBind H
 rcases ofCond H with ⟨c10, H⟩ | ⟨c10, H⟩
 ·refine so [.res (cB v8), .g true, .g true, .g true, .g true, .g true, .g true, .g true, .g true, .g true, .g true] [] [(2, pk 2), (3, pk 3), (26, cB true)] [(2, va (eTBoard p0)), (3, va (eTState p1))] (fun t => aI (i_inRange_ok p1.Turn 0 p0.Rules.Turns v8 h9) (aI c10 (aI c10 (aI c10 (aI c10 (aI c10 (aI (rfl : (true : Bool) = true) (aI (rfl : (true : Bool) = true) (aI (rfl : (true : Bool) = true) (aI (rfl : (true : Bool) = true) (aI (rfl : (true : Bool) = true) (t)))))))))))) ?_
  refine it (rfl : (true : Bool) = true) ?_
  refine so [] [] [(4, cB false)] [] id ?_
  refine ends_ret ?_
  cases H
  exact And.intro (.inl rfl) rfl
 ·obtain ⟨v11, h12, H⟩ := ofBind H
  rcases ofCond H with ⟨c13, H⟩ | ⟨c13, H⟩
  ·refine so [.res (cB v8), .g false, .g false, .g false, .res (cB v11), .g false, .g false, .g true, .g true, .g true, .g true, .g true] [] [(2, pk 2), (3, pk 3), (26, cB true)] [(2, va (eTBoard p0)), (3, va (eTState p1))] (fun t => aI (i_inRange_ok p1.Turn 0 p0.Rules.Turns v8 h9) (aI c10 (aI c10 (aI c10 (aI (i_inRange_ok p1.Weather 0 2 v11 h12) (aI c10 (aI c10 (aI c13 (aI c13 (aI c13 (aI c13 (aI c13 (t))))))))))))) ?_
   refine it (rfl : (true : Bool) = true) ?_
   refine so [] [] [(4, cB false)] [] id ?_
   refine ends_ret ?_
   cases H
   exact And.intro (.inl rfl) rfl
  ·refine so [.res (cB v8), .g false, .g false, .g false, .res (cB v11), .g false, .g false, .g false, .g false, .g false, .g false, .g false] [] [(2, pk 2), (3, pk 3), (26, cB (decide ((p1.Units.length : Int) > 12)))] [(2, va (eTBoard p0)), (3, va (eTState p1))] (fun t => aI (i_inRange_ok p1.Turn 0 p0.Rules.Turns v8 h9) (aI c10 (aI c10 (aI c10 (aI (i_inRange_ok p1.Weather 0 2 v11 h12) (aI c10 (aI c10 (aI c13 (aI c13 (aI c13 (lI p1.Units (aI c13 (aI c13 (t)))))))))))))) ?_
   rcases ofCond H with ⟨c14, H⟩ | ⟨c14, H⟩
   ·refine it c14 ?_
    refine so [] [] [(4, cB false)] [] id ?_
    refine ends_ret ?_
    cases H
    exact And.intro (.inl rfl) rfl
   ·refine jf c14 ?_
    refine sk ?_
    obtain ⟨v15, h16, H⟩ := ofBind H
    obtain ⟨g17, H⟩ := ofIf H
    refine so [.res (cI v15), fh eA2_I zA2_I (List.replicate v15.toNat zA2_I)] [] [(2, pk 2), (3, pk 3), (5, ow 29 2 (List.replicate v15.toNat zA2_I))] [(2, va (eTBoard p0)), (3, va (eTState p1)), (29, ar 2 eA2_I zA2_I (List.replicate v15.toNat zA2_I))] (fun t => aI (i_sizeOf_ok p0 v15 h16) (aI (And.intro g17.1 (And.intro (List.length_replicate (n := v15.toNat) (a := zA2_I)).symm (Nat.le_trans (Nat.le_of_eq List.length_replicate) g17.2 : (List.replicate v15.toNat zA2_I).length ≤ LIM))) (aI (fF_rep eA2_I zA2_I zA2_I v15.toNat) (t)))) ?_
    refine seq_in ?_
    refine so [] [] [(2, pk 2), (5, ow 29 2 (List.replicate v15.toNat zA2_I)), (31, dc 4 eTUnit zTUnit p1.Units), (32, cL p1.Units), (33, cI 0)] [(2, va (eTBoard p0)), (29, ar 2 eA2_I zA2_I (List.replicate v15.toNat zA2_I))] (fun t => lI p1.Units (t)) ?_
    refine ends_blk ?_
    obtain ⟨y119, h120, H⟩ := ofBind H
    refine loop_in (fun (x : (Int × (List A2_I))) => lit [(2, pk 2), (5, ow 29 2 x.2), (31, dc 4 eTUnit zTUnit p1.Units), (32, cL p1.Units), (33, cI x.1)] [(2, va (eTBoard p0)), (29, ar 2 eA2_I zA2_I x.2)]) (orJ (fun (z : Unit) => At (.exit 0) (lit [] [])) (fun (z : Bool) => At .ret (lit [(4, cB z)] []))) h120 ?_ ?_
    ·clear H h120
     intro x85 y0 H
     refine so [] [] [(2, pk 2), (5, ow 29 2 x85.2), (31, dc 4 eTUnit zTUnit p1.Units), (32, cL p1.Units), (33, cI x85.1), (34, cB (decide (x85.1 < (p1.Units.length : Int))))] [(2, va (eTBoard p0)), (29, ar 2 eA2_I zA2_I x85.2)] id ?_
     refine seq_in ?_
     rcases ofCond H with ⟨c87, H⟩ | ⟨c87, H⟩
     ·refine it c87 ?_
      refine sk ?_
      refine seq_in ?_
      refine ends_blk ?_
      obtain ⟨v88, h89, H⟩ := ofBind H
      refine so [.cs (eTUnit v88)] [] [(2, pk 2), (5, ow 29 2 x85.2), (7, pk 7), (31, dc 4 eTUnit zTUnit p1.Units), (32, cL p1.Units), (33, cI x85.1)] [(2, va (eTBoard p0)), (7, va (eTUnit v88)), (29, ar 2 eA2_I zA2_I x85.2)] (a2 eTUnit h89) ?_
      refine seq_in ?_
      obtain ⟨v93, h94, H⟩ := ofBind H
      refine so [.res (cB v93)] [] [(2, pk 2), (5, ow 29 2 x85.2), (7, pk 7), (31, dc 4 eTUnit zTUnit p1.Units), (32, cL p1.Units), (33, cI x85.1), (40, cB (!v93))] [(2, va (eTBoard p0)), (7, va (eTUnit v88)), (29, ar 2 eA2_I zA2_I x85.2)] (aI (i_goodUnit_ok p0 v88 v93 h94)) ?_
      rcases ofCond H with ⟨c95, H⟩ | ⟨c95, H⟩
      ·refine it c95 ?_
       refine so [] [] [(4, cB false)] [] id ?_
       refine ends_ret ?_
       cases H
       exact And.intro (by simp) (And.intro rfl rfl)
      ·refine jf c95 ?_
       refine sk ?_
       refine seq_in ?_
       refine so [] [] [(2, pk 2), (5, ow 29 2 x85.2), (7, pk 7), (31, dc 4 eTUnit zTUnit p1.Units), (32, cL p1.Units), (33, cI x85.1), (43, cB (decide (v88.At < 0)))] [(2, va (eTBoard p0)), (7, va (eTUnit v88)), (29, ar 2 eA2_I zA2_I x85.2)] id ?_
       rcases ofCond H with ⟨c97, H⟩ | ⟨c97, H⟩
       ·refine it c97 ?_
        refine ends_exit ?_
        change EndsI _ _ _ _ _ _
        refine oo [] [] [(2, pk 2), (5, ow 29 2 x85.2), (31, dc 4 eTUnit zTUnit p1.Units), (32, cL p1.Units), (33, cI (W (x85.1 + 1)))] [(2, va (eTBoard p0)), (29, ar 2 eA2_I zA2_I x85.2)] id ?_
        cases H
        exact And.intro rfl rfl
       ·refine jf c97 ?_
        refine sk ?_
        obtain ⟨g98, H⟩ := ofIf H
        rcases ofIte H with ⟨c99, H⟩ | ⟨c118, H⟩
        ·refine sd [.no, .nat 0, .no, .nat 0, .fn 0 (fF eA2_I zA2_I (x85.2.set v88.At.toNat (A2_I.mk (W ((x85.2.getD v88.At.toNat zA2_I).a0 + 1)) ((x85.2.getD v88.At.toNat zA2_I).a1))))] [] [(2, pk 2), (5, ow 29 2 x85.2), (7, pk 7), (31, dc 4 eTUnit zTUnit p1.Units), (32, cL p1.Units), (33, cI x85.1)] [(2, va (eTBoard p0)), (7, va (eTUnit v88)), (29, .arr 2 x85.2.length (fF eA2_I zA2_I (x85.2.set v88.At.toNat (A2_I.mk (W ((x85.2.getD v88.At.toNat zA2_I).a0 + 1)) ((x85.2.getD v88.At.toNat zA2_I).a1)))) false)] (fun t => aI g98 (aI (And.intro c99 (by decide : 0 < 2)) (aI (nat_lt g98) (aI (rfl : ([] : List Nat) = []) (aI g98 (aI (And.intro c99 (by decide : 0 < 2)) (aI (rfl : true = true) (aI (nat_lt g98) (aI (by decide : 0 + 1 ≤ 2) (aI (fF_set eA2_I zA2_I x85.2 v88.At.toNat (A2_I.mk (W ((x85.2.getD v88.At.toNat zA2_I).a0 + 1)) ((x85.2.getD v88.At.toNat zA2_I).a1)) (nat_lt g98) x85.2.length) (t))))))))))) ?_
         rcases ofIte H with ⟨c100, H⟩ | ⟨c107, H⟩
         ·rcases ofCond H with ⟨c101, H⟩ | ⟨c101, H⟩
          ·refine sd [.no, .nat 0, .g true, .g true, .g true, .g true, .g true, .g true, .g true, .g true, .g true, .g true, .g true, .g true, .g true] [] [(2, pk 2), (5, ow 29 2 x85.2), (31, dc 4 eTUnit zTUnit p1.Units), (32, cL p1.Units), (33, cI x85.1), (78, cB true)] [(2, va (eTBoard p0)), (29, .arr 2 x85.2.length (fF eA2_I zA2_I (x85.2.set v88.At.toNat (A2_I.mk (W ((x85.2.getD v88.At.toNat zA2_I).a0 + 1)) ((x85.2.getD v88.At.toNat zA2_I).a1)))) false)] (fun t => aI g98 (aI (And.intro c100 (by decide : 0 < 2)) (aI (nat_lt g98) (aI (rfl : ([] : List Nat) = []) (aI c101 (aI c101 (aI c101 (aI c101 (aI c101 (aI c101 (aI c101 (aI c101 (aI c101 (aI c101 (aI c101 (aI c101 (aI c101 (t)))))))))))))))))) ?_
           refine it (rfl : (true : Bool) = true) ?_
           refine so [] [] [(4, cB false)] [] id ?_
           refine ends_ret ?_
           cases H
           exact And.intro (by simp) (And.intro rfl rfl)
          ·refine sd [.no, .nat 0, .g false, .g false, .g false, .g false, .g false, .g false, .no, .g false, .nat 0, .g false, .g false, .g false, .g false, .g false, .g false] [] [(2, pk 2), (5, ow 29 2 x85.2), (31, dc 4 eTUnit zTUnit p1.Units), (32, cL p1.Units), (33, cI x85.1), (78, cB (decide (((x85.2.set v88.At.toNat (A2_I.mk (W ((x85.2.getD v88.At.toNat zA2_I).a0 + 1)) ((x85.2.getD v88.At.toNat zA2_I).a1))).getD v88.At.toNat zA2_I).a0 > p0.Rules.Stack)))] [(2, va (eTBoard p0)), (29, .arr 2 x85.2.length (fF eA2_I zA2_I (x85.2.set v88.At.toNat (A2_I.mk (W ((x85.2.getD v88.At.toNat zA2_I).a0 + 1)) ((x85.2.getD v88.At.toNat zA2_I).a1)))) false)] (fun t => aI g98 (aI (And.intro c100 (by decide : 0 < 2)) (aI (nat_lt g98) (aI (rfl : ([] : List Nat) = []) (aI c101 (aI c101 (aI c101 (aI c101 (aI c101 (aI c101 (aI g98 (aI c101 (aI (And.intro c99 (by decide : 0 < 2)) (aI c101 (aI (nat_lt g98) (aI (rfl : ([] : List Nat) = []) (aI c101 (aI c101 (aI c101 (aI c101 (aI c101 (t)))))))))))))))))))))) ?_
           rcases ofCond H with ⟨c102, H⟩ | ⟨c102, H⟩
           ·refine it c102 ?_
            refine so [] [] [(4, cB false)] [] id ?_
            refine ends_ret ?_
            cases H
            exact And.intro (by simp) (And.intro rfl rfl)
           ·refine jf c102 ?_
            refine sk ?_
            refine oo [] [.rel 5 ((x85.2.set v88.At.toNat (A2_I.mk (W ((x85.2.getD v88.At.toNat zA2_I).a0 + 1)) ((x85.2.getD v88.At.toNat zA2_I).a1))).length), .rep 29 ((x85.2.set v88.At.toNat (A2_I.mk (W ((x85.2.getD v88.At.toNat zA2_I).a0 + 1)) ((x85.2.getD v88.At.toNat zA2_I).a1))).length) (fF eA2_I zA2_I (x85.2.set v88.At.toNat (A2_I.mk (W ((x85.2.getD v88.At.toNat zA2_I).a0 + 1)) ((x85.2.getD v88.At.toNat zA2_I).a1))))] [(2, pk 2), (5, ow 29 2 (x85.2.set v88.At.toNat (A2_I.mk (W ((x85.2.getD v88.At.toNat zA2_I).a0 + 1)) ((x85.2.getD v88.At.toNat zA2_I).a1)))), (31, dc 4 eTUnit zTUnit p1.Units), (32, cL p1.Units), (33, cI (W (x85.1 + 1)))] [(2, va (eTBoard p0)), (29, ar 2 eA2_I zA2_I (x85.2.set v88.At.toNat (A2_I.mk (W ((x85.2.getD v88.At.toNat zA2_I).a0 + 1)) ((x85.2.getD v88.At.toNat zA2_I).a1))))] (fun t => aI (by simp : x85.2.length = (x85.2.set v88.At.toNat (A2_I.mk (W ((x85.2.getD v88.At.toNat zA2_I).a0 + 1)) ((x85.2.getD v88.At.toNat zA2_I).a1))).length) (aI (Nat.le_of_eq (by simp : (x85.2.set v88.At.toNat (A2_I.mk (W ((x85.2.getD v88.At.toNat zA2_I).a0 + 1)) ((x85.2.getD v88.At.toNat zA2_I).a1))).length = x85.2.length)) (aI (fun _ _ => rfl : ∀ i, i < (x85.2.set v88.At.toNat (A2_I.mk (W ((x85.2.getD v88.At.toNat zA2_I).a0 + 1)) ((x85.2.getD v88.At.toNat zA2_I).a1))).length → (fF eA2_I zA2_I (x85.2.set v88.At.toNat (A2_I.mk (W ((x85.2.getD v88.At.toNat zA2_I).a0 + 1)) ((x85.2.getD v88.At.toNat zA2_I).a1)))) i = (fF eA2_I zA2_I (x85.2.set v88.At.toNat (A2_I.mk (W ((x85.2.getD v88.At.toNat zA2_I).a0 + 1)) ((x85.2.getD v88.At.toNat zA2_I).a1)))) i) (t)))) ?_
            cases H
            exact And.intro rfl rfl
         ·rcases ofIte H with ⟨c103, H⟩ | ⟨c106, H⟩
          ·rcases ofCond H with ⟨c104, H⟩ | ⟨c104, H⟩
           ·refine sd [.no, .nat 1, .g true, .g true, .g true, .g true, .g true, .g true, .g true, .g true, .g true, .g true, .g true, .g true, .g true] [] [(2, pk 2), (5, ow 29 2 x85.2), (31, dc 4 eTUnit zTUnit p1.Units), (32, cL p1.Units), (33, cI x85.1), (78, cB true)] [(2, va (eTBoard p0)), (29, .arr 2 x85.2.length (fF eA2_I zA2_I (x85.2.set v88.At.toNat (A2_I.mk (W ((x85.2.getD v88.At.toNat zA2_I).a0 + 1)) ((x85.2.getD v88.At.toNat zA2_I).a1)))) false)] (fun t => aI g98 (aI (And.intro c103 (by decide : 1 < 2)) (aI (nat_lt g98) (aI (rfl : ([] : List Nat) = []) (aI c104 (aI c104 (aI c104 (aI c104 (aI c104 (aI c104 (aI c104 (aI c104 (aI c104 (aI c104 (aI c104 (aI c104 (aI c104 (t)))))))))))))))))) ?_
            refine it (rfl : (true : Bool) = true) ?_
            refine so [] [] [(4, cB false)] [] id ?_
            refine ends_ret ?_
            cases H
            exact And.intro (by simp) (And.intro rfl rfl)
           ·refine sd [.no, .nat 1, .g false, .g false, .g false, .g false, .g false, .g false, .no, .g false, .nat 0, .g false, .g false, .g false, .g false, .g false, .g false] [] [(2, pk 2), (5, ow 29 2 x85.2), (31, dc 4 eTUnit zTUnit p1.Units), (32, cL p1.Units), (33, cI x85.1), (78, cB (decide (((x85.2.set v88.At.toNat (A2_I.mk (W ((x85.2.getD v88.At.toNat zA2_I).a0 + 1)) ((x85.2.getD v88.At.toNat zA2_I).a1))).getD v88.At.toNat zA2_I).a0 > p0.Rules.Stack)))] [(2, va (eTBoard p0)), (29, .arr 2 x85.2.length (fF eA2_I zA2_I (x85.2.set v88.At.toNat (A2_I.mk (W ((x85.2.getD v88.At.toNat zA2_I).a0 + 1)) ((x85.2.getD v88.At.toNat zA2_I).a1)))) false)] (fun t => aI g98 (aI (And.intro c103 (by decide : 1 < 2)) (aI (nat_lt g98) (aI (rfl : ([] : List Nat) = []) (aI c104 (aI c104 (aI c104 (aI c104 (aI c104 (aI c104 (aI g98 (aI c104 (aI (And.intro c99 (by decide : 0 < 2)) (aI c104 (aI (nat_lt g98) (aI (rfl : ([] : List Nat) = []) (aI c104 (aI c104 (aI c104 (aI c104 (aI c104 (t)))))))))))))))))))))) ?_
            rcases ofCond H with ⟨c105, H⟩ | ⟨c105, H⟩
            ·refine it c105 ?_
             refine so [] [] [(4, cB false)] [] id ?_
             refine ends_ret ?_
             cases H
             exact And.intro (by simp) (And.intro rfl rfl)
            ·refine jf c105 ?_
             refine sk ?_
             refine oo [] [.rel 5 ((x85.2.set v88.At.toNat (A2_I.mk (W ((x85.2.getD v88.At.toNat zA2_I).a0 + 1)) ((x85.2.getD v88.At.toNat zA2_I).a1))).length), .rep 29 ((x85.2.set v88.At.toNat (A2_I.mk (W ((x85.2.getD v88.At.toNat zA2_I).a0 + 1)) ((x85.2.getD v88.At.toNat zA2_I).a1))).length) (fF eA2_I zA2_I (x85.2.set v88.At.toNat (A2_I.mk (W ((x85.2.getD v88.At.toNat zA2_I).a0 + 1)) ((x85.2.getD v88.At.toNat zA2_I).a1))))] [(2, pk 2), (5, ow 29 2 (x85.2.set v88.At.toNat (A2_I.mk (W ((x85.2.getD v88.At.toNat zA2_I).a0 + 1)) ((x85.2.getD v88.At.toNat zA2_I).a1)))), (31, dc 4 eTUnit zTUnit p1.Units), (32, cL p1.Units), (33, cI (W (x85.1 + 1)))] [(2, va (eTBoard p0)), (29, ar 2 eA2_I zA2_I (x85.2.set v88.At.toNat (A2_I.mk (W ((x85.2.getD v88.At.toNat zA2_I).a0 + 1)) ((x85.2.getD v88.At.toNat zA2_I).a1))))] (fun t => aI (by simp : x85.2.length = (x85.2.set v88.At.toNat (A2_I.mk (W ((x85.2.getD v88.At.toNat zA2_I).a0 + 1)) ((x85.2.getD v88.At.toNat zA2_I).a1))).length) (aI (Nat.le_of_eq (by simp : (x85.2.set v88.At.toNat (A2_I.mk (W ((x85.2.getD v88.At.toNat zA2_I).a0 + 1)) ((x85.2.getD v88.At.toNat zA2_I).a1))).length = x85.2.length)) (aI (fun _ _ => rfl : ∀ i, i < (x85.2.set v88.At.toNat (A2_I.mk (W ((x85.2.getD v88.At.toNat zA2_I).a0 + 1)) ((x85.2.getD v88.At.toNat zA2_I).a1))).length → (fF eA2_I zA2_I (x85.2.set v88.At.toNat (A2_I.mk (W ((x85.2.getD v88.At.toNat zA2_I).a0 + 1)) ((x85.2.getD v88.At.toNat zA2_I).a1)))) i = (fF eA2_I zA2_I (x85.2.set v88.At.toNat (A2_I.mk (W ((x85.2.getD v88.At.toNat zA2_I).a0 + 1)) ((x85.2.getD v88.At.toNat zA2_I).a1)))) i) (t)))) ?_
             cases H
             exact And.intro rfl rfl
          ·cases H
        ·rcases ofIte H with ⟨c108, H⟩ | ⟨c117, H⟩
         ·refine sd [.no, .nat 1, .no, .nat 1, .fn 0 (fF eA2_I zA2_I (x85.2.set v88.At.toNat (A2_I.mk ((x85.2.getD v88.At.toNat zA2_I).a0) (W ((x85.2.getD v88.At.toNat zA2_I).a1 + 1)))))] [] [(2, pk 2), (5, ow 29 2 x85.2), (7, pk 7), (31, dc 4 eTUnit zTUnit p1.Units), (32, cL p1.Units), (33, cI x85.1)] [(2, va (eTBoard p0)), (7, va (eTUnit v88)), (29, .arr 2 x85.2.length (fF eA2_I zA2_I (x85.2.set v88.At.toNat (A2_I.mk ((x85.2.getD v88.At.toNat zA2_I).a0) (W ((x85.2.getD v88.At.toNat zA2_I).a1 + 1))))) false)] (fun t => aI g98 (aI (And.intro c108 (by decide : 1 < 2)) (aI (nat_lt g98) (aI (rfl : ([] : List Nat) = []) (aI g98 (aI (And.intro c108 (by decide : 1 < 2)) (aI (rfl : true = true) (aI (nat_lt g98) (aI (by decide : 1 + 1 ≤ 2) (aI (fF_set eA2_I zA2_I x85.2 v88.At.toNat (A2_I.mk ((x85.2.getD v88.At.toNat zA2_I).a0) (W ((x85.2.getD v88.At.toNat zA2_I).a1 + 1))) (nat_lt g98) x85.2.length) (t))))))))))) ?_
          rcases ofIte H with ⟨c109, H⟩ | ⟨c116, H⟩
          ·rcases ofCond H with ⟨c110, H⟩ | ⟨c110, H⟩
           ·refine sd [.no, .nat 0, .g true, .g true, .g true, .g true, .g true, .g true, .g true, .g true, .g true, .g true, .g true, .g true, .g true] [] [(2, pk 2), (5, ow 29 2 x85.2), (31, dc 4 eTUnit zTUnit p1.Units), (32, cL p1.Units), (33, cI x85.1), (78, cB true)] [(2, va (eTBoard p0)), (29, .arr 2 x85.2.length (fF eA2_I zA2_I (x85.2.set v88.At.toNat (A2_I.mk ((x85.2.getD v88.At.toNat zA2_I).a0) (W ((x85.2.getD v88.At.toNat zA2_I).a1 + 1))))) false)] (fun t => aI g98 (aI (And.intro c109 (by decide : 0 < 2)) (aI (nat_lt g98) (aI (rfl : ([] : List Nat) = []) (aI c110 (aI c110 (aI c110 (aI c110 (aI c110 (aI c110 (aI c110 (aI c110 (aI c110 (aI c110 (aI c110 (aI c110 (aI c110 (t)))))))))))))))))) ?_
            refine it (rfl : (true : Bool) = true) ?_
            refine so [] [] [(4, cB false)] [] id ?_
            refine ends_ret ?_
            cases H
            exact And.intro (by simp) (And.intro rfl rfl)
           ·refine sd [.no, .nat 0, .g false, .g false, .g false, .g false, .g false, .g false, .no, .g false, .nat 1, .g false, .g false, .g false, .g false, .g false, .g false] [] [(2, pk 2), (5, ow 29 2 x85.2), (31, dc 4 eTUnit zTUnit p1.Units), (32, cL p1.Units), (33, cI x85.1), (78, cB (decide (((x85.2.set v88.At.toNat (A2_I.mk ((x85.2.getD v88.At.toNat zA2_I).a0) (W ((x85.2.getD v88.At.toNat zA2_I).a1 + 1)))).getD v88.At.toNat zA2_I).a1 > p0.Rules.Stack)))] [(2, va (eTBoard p0)), (29, .arr 2 x85.2.length (fF eA2_I zA2_I (x85.2.set v88.At.toNat (A2_I.mk ((x85.2.getD v88.At.toNat zA2_I).a0) (W ((x85.2.getD v88.At.toNat zA2_I).a1 + 1))))) false)] (fun t => aI g98 (aI (And.intro c109 (by decide : 0 < 2)) (aI (nat_lt g98) (aI (rfl : ([] : List Nat) = []) (aI c110 (aI c110 (aI c110 (aI c110 (aI c110 (aI c110 (aI g98 (aI c110 (aI (And.intro c108 (by decide : 1 < 2)) (aI c110 (aI (nat_lt g98) (aI (rfl : ([] : List Nat) = []) (aI c110 (aI c110 (aI c110 (aI c110 (aI c110 (t)))))))))))))))))))))) ?_
            rcases ofCond H with ⟨c111, H⟩ | ⟨c111, H⟩
            ·refine it c111 ?_
             refine so [] [] [(4, cB false)] [] id ?_
             refine ends_ret ?_
             cases H
             exact And.intro (by simp) (And.intro rfl rfl)
            ·refine jf c111 ?_
             refine sk ?_
             refine oo [] [.rel 5 ((x85.2.set v88.At.toNat (A2_I.mk ((x85.2.getD v88.At.toNat zA2_I).a0) (W ((x85.2.getD v88.At.toNat zA2_I).a1 + 1)))).length), .rep 29 ((x85.2.set v88.At.toNat (A2_I.mk ((x85.2.getD v88.At.toNat zA2_I).a0) (W ((x85.2.getD v88.At.toNat zA2_I).a1 + 1)))).length) (fF eA2_I zA2_I (x85.2.set v88.At.toNat (A2_I.mk ((x85.2.getD v88.At.toNat zA2_I).a0) (W ((x85.2.getD v88.At.toNat zA2_I).a1 + 1)))))] [(2, pk 2), (5, ow 29 2 (x85.2.set v88.At.toNat (A2_I.mk ((x85.2.getD v88.At.toNat zA2_I).a0) (W ((x85.2.getD v88.At.toNat zA2_I).a1 + 1))))), (31, dc 4 eTUnit zTUnit p1.Units), (32, cL p1.Units), (33, cI (W (x85.1 + 1)))] [(2, va (eTBoard p0)), (29, ar 2 eA2_I zA2_I (x85.2.set v88.At.toNat (A2_I.mk ((x85.2.getD v88.At.toNat zA2_I).a0) (W ((x85.2.getD v88.At.toNat zA2_I).a1 + 1)))))] (fun t => aI (by simp : x85.2.length = (x85.2.set v88.At.toNat (A2_I.mk ((x85.2.getD v88.At.toNat zA2_I).a0) (W ((x85.2.getD v88.At.toNat zA2_I).a1 + 1)))).length) (aI (Nat.le_of_eq (by simp : (x85.2.set v88.At.toNat (A2_I.mk ((x85.2.getD v88.At.toNat zA2_I).a0) (W ((x85.2.getD v88.At.toNat zA2_I).a1 + 1)))).length = x85.2.length)) (aI (fun _ _ => rfl : ∀ i, i < (x85.2.set v88.At.toNat (A2_I.mk ((x85.2.getD v88.At.toNat zA2_I).a0) (W ((x85.2.getD v88.At.toNat zA2_I).a1 + 1)))).length → (fF eA2_I zA2_I (x85.2.set v88.At.toNat (A2_I.mk ((x85.2.getD v88.At.toNat zA2_I).a0) (W ((x85.2.getD v88.At.toNat zA2_I).a1 + 1))))) i = (fF eA2_I zA2_I (x85.2.set v88.At.toNat (A2_I.mk ((x85.2.getD v88.At.toNat zA2_I).a0) (W ((x85.2.getD v88.At.toNat zA2_I).a1 + 1))))) i) (t)))) ?_
             cases H
             exact And.intro rfl rfl
          ·rcases ofIte H with ⟨c112, H⟩ | ⟨c115, H⟩
           ·rcases ofCond H with ⟨c113, H⟩ | ⟨c113, H⟩
            ·refine sd [.no, .nat 1, .g true, .g true, .g true, .g true, .g true, .g true, .g true, .g true, .g true, .g true, .g true, .g true, .g true] [] [(2, pk 2), (5, ow 29 2 x85.2), (31, dc 4 eTUnit zTUnit p1.Units), (32, cL p1.Units), (33, cI x85.1), (78, cB true)] [(2, va (eTBoard p0)), (29, .arr 2 x85.2.length (fF eA2_I zA2_I (x85.2.set v88.At.toNat (A2_I.mk ((x85.2.getD v88.At.toNat zA2_I).a0) (W ((x85.2.getD v88.At.toNat zA2_I).a1 + 1))))) false)] (fun t => aI g98 (aI (And.intro c112 (by decide : 1 < 2)) (aI (nat_lt g98) (aI (rfl : ([] : List Nat) = []) (aI c113 (aI c113 (aI c113 (aI c113 (aI c113 (aI c113 (aI c113 (aI c113 (aI c113 (aI c113 (aI c113 (aI c113 (aI c113 (t)))))))))))))))))) ?_
             refine it (rfl : (true : Bool) = true) ?_
             refine so [] [] [(4, cB false)] [] id ?_
             refine ends_ret ?_
             cases H
             exact And.intro (by simp) (And.intro rfl rfl)
            ·refine sd [.no, .nat 1, .g false, .g false, .g false, .g false, .g false, .g false, .no, .g false, .nat 1, .g false, .g false, .g false, .g false, .g false, .g false] [] [(2, pk 2), (5, ow 29 2 x85.2), (31, dc 4 eTUnit zTUnit p1.Units), (32, cL p1.Units), (33, cI x85.1), (78, cB (decide (((x85.2.set v88.At.toNat (A2_I.mk ((x85.2.getD v88.At.toNat zA2_I).a0) (W ((x85.2.getD v88.At.toNat zA2_I).a1 + 1)))).getD v88.At.toNat zA2_I).a1 > p0.Rules.Stack)))] [(2, va (eTBoard p0)), (29, .arr 2 x85.2.length (fF eA2_I zA2_I (x85.2.set v88.At.toNat (A2_I.mk ((x85.2.getD v88.At.toNat zA2_I).a0) (W ((x85.2.getD v88.At.toNat zA2_I).a1 + 1))))) false)] (fun t => aI g98 (aI (And.intro c112 (by decide : 1 < 2)) (aI (nat_lt g98) (aI (rfl : ([] : List Nat) = []) (aI c113 (aI c113 (aI c113 (aI c113 (aI c113 (aI c113 (aI g98 (aI c113 (aI (And.intro c108 (by decide : 1 < 2)) (aI c113 (aI (nat_lt g98) (aI (rfl : ([] : List Nat) = []) (aI c113 (aI c113 (aI c113 (aI c113 (aI c113 (t)))))))))))))))))))))) ?_
             rcases ofCond H with ⟨c114, H⟩ | ⟨c114, H⟩
             ·refine it c114 ?_
              refine so [] [] [(4, cB false)] [] id ?_
              refine ends_ret ?_
              cases H
              exact And.intro (by simp) (And.intro rfl rfl)
             ·refine jf c114 ?_
              refine sk ?_
              refine oo [] [.rel 5 ((x85.2.set v88.At.toNat (A2_I.mk ((x85.2.getD v88.At.toNat zA2_I).a0) (W ((x85.2.getD v88.At.toNat zA2_I).a1 + 1)))).length), .rep 29 ((x85.2.set v88.At.toNat (A2_I.mk ((x85.2.getD v88.At.toNat zA2_I).a0) (W ((x85.2.getD v88.At.toNat zA2_I).a1 + 1)))).length) (fF eA2_I zA2_I (x85.2.set v88.At.toNat (A2_I.mk ((x85.2.getD v88.At.toNat zA2_I).a0) (W ((x85.2.getD v88.At.toNat zA2_I).a1 + 1)))))] [(2, pk 2), (5, ow 29 2 (x85.2.set v88.At.toNat (A2_I.mk ((x85.2.getD v88.At.toNat zA2_I).a0) (W ((x85.2.getD v88.At.toNat zA2_I).a1 + 1))))), (31, dc 4 eTUnit zTUnit p1.Units), (32, cL p1.Units), (33, cI (W (x85.1 + 1)))] [(2, va (eTBoard p0)), (29, ar 2 eA2_I zA2_I (x85.2.set v88.At.toNat (A2_I.mk ((x85.2.getD v88.At.toNat zA2_I).a0) (W ((x85.2.getD v88.At.toNat zA2_I).a1 + 1)))))] (fun t => aI (by simp : x85.2.length = (x85.2.set v88.At.toNat (A2_I.mk ((x85.2.getD v88.At.toNat zA2_I).a0) (W ((x85.2.getD v88.At.toNat zA2_I).a1 + 1)))).length) (aI (Nat.le_of_eq (by simp : (x85.2.set v88.At.toNat (A2_I.mk ((x85.2.getD v88.At.toNat zA2_I).a0) (W ((x85.2.getD v88.At.toNat zA2_I).a1 + 1)))).length = x85.2.length)) (aI (fun _ _ => rfl : ∀ i, i < (x85.2.set v88.At.toNat (A2_I.mk ((x85.2.getD v88.At.toNat zA2_I).a0) (W ((x85.2.getD v88.At.toNat zA2_I).a1 + 1)))).length → (fF eA2_I zA2_I (x85.2.set v88.At.toNat (A2_I.mk ((x85.2.getD v88.At.toNat zA2_I).a0) (W ((x85.2.getD v88.At.toNat zA2_I).a1 + 1))))) i = (fF eA2_I zA2_I (x85.2.set v88.At.toNat (A2_I.mk ((x85.2.getD v88.At.toNat zA2_I).a0) (W ((x85.2.getD v88.At.toNat zA2_I).a1 + 1))))) i) (t)))) ?_
              cases H
              exact And.intro rfl rfl
           ·cases H
         ·cases H
     ·refine jf c87 ?_
      refine tl [] [] [] id ?_
      refine ends_exit ?_
      cases H
      exact And.intro (by simp) (And.intro rfl rfl)
    ·clear h120
     cases y119 with
     | inl y121 =>
      replace H := ofInl H
      intro e s q
      obtain ⟨rfl, rfl⟩ := q
      change EndsI _ _ _ _ _ _
      refine so [] [] [(4, cB true)] [] id ?_
      refine ends_ret ?_
      cases H
      exact And.intro (.inl rfl) rfl
     | inr y122 =>
      replace H := ofInr H
      intro e s q
      obtain ⟨rfl, rfl⟩ := q
      cases H
      exact And.intro (.inl rfl) rfl
def i_fits_ir : S :=
 (sq [o 2 (.box 12 (.t 0)), o 3 (.box 3 (.t 1)), o 4 (.mv (.v (.bool false)))]
 (sq [o 5 (.load 12 true (.t 2)), o 6 (.call 143 [.t 5]), om 7 6, ⟨some 8, .load 12 true (.t 2), some (7, true)⟩, ⟨some 9, .load 3 true (.t 3), some (7, true)⟩, ⟨some 10, .call 181 [.t 8, .t 9], some (7, true)⟩, o 11 (.pick (.t 7) (.t 10) (.v (.bool false))), om 4 11]
 .ret))
noncomputable def X.i_fits (p0 : TBoard) (p1 : TState) : Option Bool :=
 ((X.i_IsBoard p0).bind fun v1 => (bif v1 then ((X.i_goodState p0 p1).bind fun v4 => some v4) else some false))
theorem i_fits_ok (p0 : TBoard) (p1 : TState) (r : Bool) (H : X.i_fits p0 p1 = some r) : FnOk Tryz.prog gl 131 [.agg (eTBoard p0), .agg (eTState p1)] (cB r) := by
 unfold X.i_fits at H
 refine fi Tryz.f131 i_fits_ir [(4, cB r)] [] glL Tryz.func131 ?_
 refine so [] [] [(2, pk 2), (3, pk 3)] [(2, va (eTBoard p0)), (3, va (eTState p1))] id ?_
 obtain ⟨v1, h2, H⟩ := ofBind H
 rcases ofCond H with ⟨c3, H⟩ | ⟨c3, H⟩
 ·obtain ⟨v4, h5, H⟩ := ofBind H
  refine so [.res (cB v1), .g true, .g true, .g true, .res (cB v4), .g true] [] [(4, cB v4)] [] (fun t => aI (i_IsBoard_ok p0 v1 h2) (aI c3 (aI c3 (aI c3 (aI (i_goodState_ok p0 p1 v4 h5) (aI c3 (t))))))) ?_
  refine ends_ret ?_
  cases H
  exact And.intro (.inl rfl) rfl
 ·refine so [.res (cB v1), .g false, .g false, .g false, .g false] [] [(4, cB false)] [] (fun t => aI (i_IsBoard_ok p0 v1 h2) (aI c3 (aI c3 (aI c3 (aI c3 (t)))))) ?_
  refine ends_ret ?_
  cases H
  exact And.intro (.inl rfl) rfl
def i_isLook_ir : S :=
 (sq [o 3 (.box 12 (.t 0)), o 4 (.box 3 (.t 1)), o 6 (.mv (.v (.bool false)))]
 (sq [o 7 (.load 12 true (.t 3)), o 8 (.load 3 true (.t 4)), o 9 (.call 131 [.t 7, .t 8]), om 10 9, ⟨some 11, .mv (.t 2), some (10, true)⟩, ⟨some 12, .call 132 [.t 11], some (10, true)⟩, o 13 (.pick (.t 10) (.t 12) (.v (.bool false))), om 6 13]
 .ret))
noncomputable def X.i_isLook (p0 : TBoard) (p1 : TState) (p2 : Int) : Option Bool :=
 ((X.i_fits p0 p1).bind fun v1 => (bif v1 then ((X.i_isSide p2).bind fun v4 => some v4) else some false))
theorem i_isLook_ok (p0 : TBoard) (p1 : TState) (p2 : Int) (r : Bool) (H : X.i_isLook p0 p1 p2 = some r) : FnOk Tryz.prog gl 67 [.agg (eTBoard p0), .agg (eTState p1), cI p2] (cB r) := by
 unfold X.i_isLook at H
 refine fi Tryz.f67 i_isLook_ir [(6, cB r)] [] glL Tryz.func67 ?_
 refine so [] [] [(2, cI p2), (3, pk 3), (4, pk 4)] [(3, va (eTBoard p0)), (4, va (eTState p1))] id ?_
 obtain ⟨v1, h2, H⟩ := ofBind H
 rcases ofCond H with ⟨c3, H⟩ | ⟨c3, H⟩
 ·obtain ⟨v4, h5, H⟩ := ofBind H
  refine so [.res (cB v1), .g true, .g true, .res (cB v4), .g true] [] [(6, cB v4)] [] (fun t => aI (i_fits_ok p0 p1 v1 h2) (aI c3 (aI c3 (aI (i_isSide_ok p2 v4 h5) (aI c3 (t)))))) ?_
  refine ends_ret ?_
  cases H
  exact And.intro (.inl rfl) rfl
 ·refine so [.res (cB v1), .g false, .g false, .g false] [] [(6, cB false)] [] (fun t => aI (i_fits_ok p0 p1 v1 h2) (aI c3 (aI c3 (aI c3 (t))))) ?_
  refine ends_ret ?_
  cases H
  exact And.intro (.inl rfl) rfl
def i_unitsOf_ir : S :=
 (sq [o 2 (.box 3 (.t 0)), o 4 (.mv (.v (.nil)))]
 (sq [o 8 (.bsl 1 []), om 5 8]
 (.seq (sq [o 9 (.fad 2 (.t 2)), o 10 (.load 1 false (.t 9)), o 11 (.len (.t 10)), o 12 (.mv (iv 0))]
 (.blk 0 (.loop (sq [o 13 (.bin .lss (.t 12) (.t 11))]
   (.seq (.ite (.t 13) .skip
   (.exit 0))
   (.seq (.blk 1 (sq [om 14 12, o 15 (.iad 4 (.t 10) (.t 12)), o 16 (.load 4 true (.t 15)), o 7 (.alloc [.int .i64 0, .int .i64 0, .int .i64 0, .int .i64 0]), om 6 14, ⟨none, .store 4 (.t 7) (.t 16), none⟩]
    (sq [o 17 (.fad 0 (.t 7)), o 18 (.load 1 false (.t 17)), om 19 1, o 20 (.bin .eql (.t 18) (.t 19)), om 21 20, ⟨some 22, .fad 2 (.t 7), some (21, true)⟩, ⟨some 23, .load 1 false (.t 22), some (21, true)⟩, ⟨some 24, .bin .geq (.t 23) (iv 0), some (21, true)⟩, o 25 (.pick (.t 21) (.t 24) (.v (.bool false)))]
    (.ite (.t 25) (.ops [om 26 5, om 27 6, o 28 (.bsl 1 [.t 27]), o 29 (.app 1 8 (.t 26) (.t 28)), om 5 29])
    .skip))))
   (.ops [o 30 (.bin .add (.t 12) (iv 1)), om 12 30])))))))
 (sq [om 31 5, om 4 31]
 .ret))))
noncomputable def X.i_unitsOf (p0 : TState) (p1 : Int) : Option (List Int) :=
 ((loop (fun (x16 : (Int × (List Int))) => ((bif (decide (x16.1 < (p0.Units.length : Int))) then ((at' zTUnit p0.Units x16.1).bind fun v19 => (bif (v19.Side == p1) then (bif (decide (v19.At ≥ 0)) then (if (x16.2 ++ ([x16.1] : List Int)).length ≤ LIM then some (Sum.inl ((W (x16.1 + 1)), (x16.2 ++ ([x16.1] : List Int)))) else none) else some (Sum.inl ((W (x16.1 + 1)), x16.2))) else some (Sum.inl ((W (x16.1 + 1)), x16.2)))) else some (Sum.inr x16.2)) : Option ((Int × (List Int)) ⊕ (List Int)))) (0, ([] : List Int))).bind fun y24 => some y24)
theorem i_unitsOf_ok (p0 : TState) (p1 : Int) (r : (List Int)) (H : X.i_unitsOf p0 p1 = some r) : FnOk Tryz.prog gl 68 [.agg (eTState p0), cI p1] (.c (dat 1 eI zI r)) := by
 unfold X.i_unitsOf at H
 refine fi Tryz.f68 i_unitsOf_ir [(4, dc 1 eI zI r)] [] glL Tryz.func68 ?_
 refine so [] [] [(1, cI p1), (2, pk 2)] [(2, va (eTState p0))] id ?_
 refine so [fh eI zI ([] : List Int)] [] [(1, cI p1), (2, pk 2), (5, ow 8 1 ([] : List Int))] [(2, va (eTState p0)), (8, ar 1 eI zI ([] : List Int))] (fun t => aI (rfl : ([] : List Int).length = 0) (aI (fF_lit eI zI ([] : List Int)) (t))) ?_
 refine seq_in ?_
 refine so [] [] [(1, cI p1), (5, ow 8 1 ([] : List Int)), (10, dc 4 eTUnit zTUnit p0.Units), (11, cL p0.Units), (12, cI 0)] [(8, ar 1 eI zI ([] : List Int))] (fun t => lI p0.Units (t)) ?_
 refine ends_blk ?_
 obtain ⟨y24, h25, H⟩ := ofBind H
 refine tl [.ren 8 1001] [(1, cI p1), (5, ow 1001 1 ([] : List Int)), (10, dc 4 eTUnit zTUnit p0.Units), (11, cL p0.Units), (12, cI 0)] [(1001, ar 1 eI zI ([] : List Int))] id ?_
 refine loop_in (fun (x : (Int × (List Int))) => lit [(1, cI p1), (5, ow 1001 1 x.2), (10, dc 4 eTUnit zTUnit p0.Units), (11, cL p0.Units), (12, cI x.1)] [(1001, ar 1 eI zI x.2)]) (fun (z : (List Int)) => At (.exit 0) (lit [(5, ow 1001 1 z)] [(1001, ar 1 eI zI z)])) h25 ?_ ?_
 ·clear H h25
  intro x16 y0 H
  refine so [] [] [(1, cI p1), (5, ow 1001 1 x16.2), (10, dc 4 eTUnit zTUnit p0.Units), (11, cL p0.Units), (12, cI x16.1), (13, cB (decide (x16.1 < (p0.Units.length : Int))))] [(1001, ar 1 eI zI x16.2)] id ?_
  refine seq_in ?_
  rcases ofCond H with ⟨c18, H⟩ | ⟨c18, H⟩
  ·refine it c18 ?_
   refine sk ?_
   refine seq_in ?_
   refine ends_blk ?_
   obtain ⟨v19, h20, H⟩ := ofBind H
   refine so [.cs (eTUnit v19)] [] [(1, cI p1), (5, ow 1001 1 x16.2), (6, cI x16.1), (7, pk 7), (10, dc 4 eTUnit zTUnit p0.Units), (11, cL p0.Units), (12, cI x16.1)] [(7, va (eTUnit v19)), (1001, ar 1 eI zI x16.2)] (a2 eTUnit h20) ?_
   rcases ofCond H with ⟨c21, H⟩ | ⟨c21, H⟩
   ·refine so [.g true, .g true, .g true, .g true] [] [(1, cI p1), (5, ow 1001 1 x16.2), (6, cI x16.1), (10, dc 4 eTUnit zTUnit p0.Units), (11, cL p0.Units), (12, cI x16.1), (25, cB (decide (v19.At ≥ 0)))] [(1001, ar 1 eI zI x16.2)] (fun t => aI c21 (aI c21 (aI c21 (aI c21 (t))))) ?_
    rcases ofCond H with ⟨c22, H⟩ | ⟨c22, H⟩
    ·refine it c22 ?_
     obtain ⟨g23, H⟩ := ofIf H
     refine oo [fh eI zI ([x16.1] : List Int), fh eI zI (x16.2 ++ ([x16.1] : List Int))] [] [(1, cI p1), (5, ow 29 1 (x16.2 ++ ([x16.1] : List Int))), (10, dc 4 eTUnit zTUnit p0.Units), (11, cL p0.Units), (12, cI x16.1)] [(29, ar 1 eI zI (x16.2 ++ ([x16.1] : List Int)))] (fun t => aI (rfl : ([x16.1] : List Int).length = 1) (aI (fF_lit eI zI ([x16.1] : List Int)) (aI (And.intro (Nat.le_refl x16.2.length) (And.intro (@List.length_append _ x16.2 ([x16.1] : List Int)) g23)) (aI (fF_appL eI zI x16.2 ([x16.1] : List Int)) (aI (fF_appR eI zI x16.2 ([x16.1] : List Int)) (t)))))) ?_
     change EndsI _ _ _ _ _ _
     refine oo [] [.ren 29 1001] [(1, cI p1), (5, ow 1001 1 (x16.2 ++ ([x16.1] : List Int))), (10, dc 4 eTUnit zTUnit p0.Units), (11, cL p0.Units), (12, cI (W (x16.1 + 1)))] [(1001, ar 1 eI zI (x16.2 ++ ([x16.1] : List Int)))] id ?_
     cases H
     exact And.intro rfl rfl
    ·refine jf c22 ?_
     refine sk ?_
     refine oo [] [] [(1, cI p1), (5, ow 1001 1 x16.2), (10, dc 4 eTUnit zTUnit p0.Units), (11, cL p0.Units), (12, cI (W (x16.1 + 1)))] [(1001, ar 1 eI zI x16.2)] id ?_
     cases H
     exact And.intro rfl rfl
   ·refine so [.g false, .g false, .g false, .g false] [] [(1, cI p1), (5, ow 1001 1 x16.2), (6, cI x16.1), (10, dc 4 eTUnit zTUnit p0.Units), (11, cL p0.Units), (12, cI x16.1), (25, cB false)] [(1001, ar 1 eI zI x16.2)] (fun t => aI c21 (aI c21 (aI c21 (aI c21 (t))))) ?_
    refine jf (rfl : (false : Bool) = false) ?_
    refine sk ?_
    refine oo [] [] [(1, cI p1), (5, ow 1001 1 x16.2), (10, dc 4 eTUnit zTUnit p0.Units), (11, cL p0.Units), (12, cI (W (x16.1 + 1)))] [(1001, ar 1 eI zI x16.2)] id ?_
    cases H
    exact And.intro rfl rfl
  ·refine jf c18 ?_
   refine tl [] [(5, ow 1001 1 x16.2)] [(1001, ar 1 eI zI x16.2)] id ?_
   refine ends_exit ?_
   cases H
   exact And.intro (by simp) (And.intro rfl rfl)
 ·clear h25
  intro e s q
  obtain ⟨rfl, rfl⟩ := q
  change EndsI _ _ _ _ _ _
  refine so [] [] [(4, ow 1001 1 y24)] [(1001, ar 1 eI zI y24)] id ?_
  refine tl [.frz 4] [(4, dc 1 eI zI y24)] [] (aI (Nat.le_refl y24.length)) ?_
  refine ends_ret ?_
  cases H
  exact And.intro (.inl rfl) rfl
def i_absOf_ir : S :=
 (sq [o 2 (.mv (iv 0))]
 (.seq (sq [om 3 0, o 4 (.bin .lss (.t 3) (iv 0))]
 (.ite (.t 4) (sq [om 5 0, o 6 (.neg (.t 5)), om 2 6]
  .ret)
 .skip))
 (sq [om 7 0, om 2 7]
 .ret)))
noncomputable def X.i_absOf (p0 : Int) : Option Int :=
 (bif (decide (p0 < 0)) then some (W (0 - p0)) else some p0)
theorem i_absOf_ok (p0 : Int) (r : Int) (H : X.i_absOf p0 = some r) : FnOk Tryz.prog gl 234 [cI p0] (cI r) := by
 unfold X.i_absOf at H
 refine fi Tryz.f234 i_absOf_ir [(2, cI r)] [] glL Tryz.func234 ?_
 refine so [] [] [(0, cI p0)] [] id ?_
 refine seq_in ?_
 refine so [] [] [(0, cI p0), (4, cB (decide (p0 < 0)))] [] id ?_
 rcases ofCond H with ⟨c1, H⟩ | ⟨c1, H⟩
 ·refine it c1 ?_
  refine so [] [] [(2, cI (W (0 - p0)))] [] id ?_
  refine ends_ret ?_
  cases H
  exact And.intro (.inl rfl) rfl
 ·refine jf c1 ?_
  refine sk ?_
  refine so [] [] [(2, cI p0)] [] id ?_
  refine ends_ret ?_
  cases H
  exact And.intro (.inl rfl) rfl
def i_distance_ir : S :=
 (sq [o 2 (.box 2 (.t 0)), o 3 (.box 2 (.t 1)), o 4 (.mv (iv 0))]
 (.seq (.draw 12 [o 7 (.fad 0 (.t 3)), o 8 (.load 1 false (.t 7)), o 9 (.fad 0 (.t 2)), o 10 (.load 1 false (.t 9)), o 11 (.bin .sub (.t 8) (.t 10)), o 12 (.fad 1 (.t 3)), o 13 (.load 1 false (.t 12)), o 14 (.fad 1 (.t 2)), o 15 (.load 1 false (.t 14)), o 16 (.bin .sub (.t 13) (.t 15)), om 5 11, om 6 16])
 (sq [om 17 5, o 18 (.call 234 [.t 17]), om 19 6, o 20 (.call 234 [.t 19]), o 21 (.bin .add (.t 18) (.t 20)), om 22 5, om 23 6, o 24 (.bin .add (.t 22) (.t 23)), o 25 (.call 234 [.t 24]), o 26 (.bin .add (.t 21) (.t 25)), o 27 (.bin .quo (.t 26) (iv 2)), om 4 27]
 .ret)))
noncomputable def X.i_distance (p0 : THex) (p1 : THex) : Option Int :=
 ((X.i_absOf (W (p1.Q - p0.Q))).bind fun v1 => ((X.i_absOf (W (p1.R - p0.R))).bind fun v3 => ((X.i_absOf (W ((W (p1.Q - p0.Q)) + (W (p1.R - p0.R))))).bind fun v5 => some (W (Int.tdiv (W ((W (v1 + v3)) + v5)) 2)))))
theorem i_distance_ok (p0 : THex) (p1 : THex) (r : Int) (H : X.i_distance p0 p1 = some r) : FnOk Tryz.prog gl 221 [.agg (eTHex p0), .agg (eTHex p1)] (cI r) := by
 unfold X.i_distance at H
 refine fi Tryz.f221 i_distance_ir [(4, cI r)] [] glL Tryz.func221 ?_
 refine so [] [] [(2, pk 2), (3, pk 3)] [(2, va (eTHex p0)), (3, va (eTHex p1))] id ?_
 refine sd [] [] [(5, cI (W (p1.Q - p0.Q))), (6, cI (W (p1.R - p0.R)))] [] id ?_
 obtain ⟨v1, h2, H⟩ := ofBind H
 obtain ⟨v3, h4, H⟩ := ofBind H
 obtain ⟨v5, h6, H⟩ := ofBind H
 refine so [.res (cI v1), .res (cI v3), .res (cI v5)] [] [(4, cI (W (Int.tdiv (W ((W (v1 + v3)) + v5)) 2)))] [] (fun t => aI (i_absOf_ok (W (p1.Q - p0.Q)) v1 h2) (aI (i_absOf_ok (W (p1.R - p0.R)) v3 h4) (aI (i_absOf_ok (W ((W (p1.Q - p0.Q)) + (W (p1.R - p0.R)))) v5 h6) (aI (by decide : (2 : Int) ≠ 0) (t))))) ?_
 refine ends_ret ?_
 cases H
 exact And.intro (.inl rfl) rfl
def i_floorDiv_ir : S :=
 (sq [o 4 (.mv (iv 0))]
 (sq [om 6 0, om 7 1, o 8 (.bin .quo (.t 6) (.t 7)), om 5 8]
 (.seq (sq [om 9 0, om 10 1, o 11 (.bin .rem (.t 9) (.t 10)), o 12 (.bin .lss (.t 11) (iv 0))]
 (.ite (.t 12) (.ops [om 13 5, o 14 (.bin .sub (.t 13) (iv 1)), om 5 14])
 .skip))
 (sq [om 15 5, om 4 15]
 .ret))))
noncomputable def X.i_floorDiv (p0 : Int) (p1 : Int) : Option Int :=
 (if p1 ≠ 0 then (if p1 ≠ 0 then (bif (decide ((Int.tmod p0 p1) < 0)) then some (W ((W (Int.tdiv p0 p1)) - 1)) else some (W (Int.tdiv p0 p1))) else none) else none)
theorem i_floorDiv_ok (p0 : Int) (p1 : Int) (r : Int) (H : X.i_floorDiv p0 p1 = some r) : FnOk Tryz.prog gl 252 [cI p0, cI p1] (cI r) := by
 unfold X.i_floorDiv at H
 refine fi Tryz.f252 i_floorDiv_ir [(4, cI r)] [] glL Tryz.func252 ?_
 refine so [] [] [(0, cI p0), (1, cI p1)] [] id ?_
 obtain ⟨g1, H⟩ := ofIf H
 refine so [] [] [(0, cI p0), (1, cI p1), (5, cI (W (Int.tdiv p0 p1)))] [] (fun t => aI g1 (t)) ?_
 refine seq_in ?_
 obtain ⟨g2, H⟩ := ofIf H
 refine so [] [] [(5, cI (W (Int.tdiv p0 p1))), (12, cB (decide ((Int.tmod p0 p1) < 0)))] [] (fun t => aI g2 (t)) ?_
 rcases ofCond H with ⟨c3, H⟩ | ⟨c3, H⟩
 ·refine it c3 ?_
  refine oo [] [] [(5, cI (W ((W (Int.tdiv p0 p1)) - 1)))] [] id ?_
  change EndsI _ _ _ _ _ _
  refine so [] [] [(4, cI (W ((W (Int.tdiv p0 p1)) - 1)))] [] id ?_
  refine ends_ret ?_
  cases H
  exact And.intro (.inl rfl) rfl
 ·refine jf c3 ?_
  refine sk ?_
  refine so [] [] [(4, cI (W (Int.tdiv p0 p1)))] [] id ?_
  refine ends_ret ?_
  cases H
  exact And.intro (.inl rfl) rfl
end Go.Proofs.YtociagbpecpcnaaGreatDoor.X0
