/- What each Go function that FnExactFreeGoals reaches computes, and that it returns so; no condition. -/
import Derived.Test.YtociagbpecpcnaaGreatDoorFGWb
set_option linter.unusedVariables false
set_option linter.unusedSimpArgs false
set_option maxRecDepth 100000
namespace Go.Proofs.YtociagbpecpcnaaGreatDoor.X0
open Go Go.RowKit Go.Proofs.YtociagbpecpcnaaGreatDoor.Ab Go.Proofs

def i_goodConditions_ir : S :=
 (.seq (.ops [o 2 (.box 12 (.t 0)), o 3 (.box 3 (.t 1)), o 4 (.mv (.v (.bool false)))])
 (.seq (.seq (.ops [o 7 (.fad 0 (.t 3)), o 8 (.load 1 false (.t 7)), o 9 (.len (.t 8)), o 10 (.bin .gtr (.t 9) (.v (.int .i64 12))), o 11 (.mv (.t 10)), ⟨some 12, .fad 1 (.t 3), some (11, false)⟩, ⟨some 13, .load 1 false (.t 12), some (11, false)⟩, ⟨some 14, .call 145 [.t 13, .v (.int .i64 0), .v (.int .i64 9)], some (11, false)⟩, ⟨some 15, .not (.t 14), some (11, false)⟩, o 16 (.pick (.t 11) (.v (.bool true)) (.t 15)), o 17 (.mv (.t 16)), ⟨some 18, .fad 2 (.t 3), some (17, false)⟩, ⟨some 19, .load 1 false (.t 18), some (17, false)⟩, ⟨some 20, .call 145 [.t 19, .v (.int .i64 0), .v (.int .i64 200)], some (17, false)⟩, ⟨some 21, .not (.t 20), some (17, false)⟩, o 22 (.pick (.t 17) (.v (.bool true)) (.t 21))])
 (.ite (.t 22) (.seq (.ops [o 4 (.mv (.v (.bool false)))])
  .ret)
 .skip))
 (.seq (.seq (.ops [o 23 (.fad 0 (.t 3)), o 24 (.load 1 false (.t 23)), o 25 (.len (.t 24)), o 26 (.mv (.v (.int .i64 0)))])
 (.blk 0 (.loop (.seq (.ops [o 27 (.bin .lss (.t 26) (.t 25))])
   (.seq (.ite (.t 27) .skip
   (.exit 0))
   (.seq (.blk 1 (.seq (.ops [o 28 (.mv (.t 26)), o 29 (.iad 2 (.t 24) (.t 26)), o 30 (.load 2 true (.t 29)), o 6 (.alloc [.int .i64 0, .int .i64 0]), o 5 (.mv (.t 28)), ⟨none, .store 2 (.t 6) (.t 30), none⟩])
    (.seq (.draw 28 [o 31 (.fad 0 (.t 6)), o 32 (.load 1 false (.t 31)), o 33 (.load 12 true (.t 2)), o 34 (.call 116 [.t 33]), o 35 (.call 115 [.t 32, .t 34]), o 36 (.not (.t 35)), o 37 (.mv (.t 36)), ⟨some 38, .fad 1 (.t 6), some (37, false)⟩, ⟨some 39, .load 1 false (.t 38), some (37, false)⟩, ⟨some 40, .call 145 [.t 39, .v (.int .i64 1), .v (.int .i64 20)], some (37, false)⟩, ⟨some 41, .not (.t 40), some (37, false)⟩, o 42 (.pick (.t 37) (.v (.bool true)) (.t 41)), o 43 (.mv (.t 42)), ⟨some 44, .mv (.t 5), some (43, false)⟩, ⟨some 45, .bin .gtr (.t 44) (.v (.int .i64 0)), some (43, false)⟩, ⟨some 46, .mv (.t 45), some (43, false)⟩, ⟨some 47, .fad 0 (.t 3), some (46, true)⟩, ⟨some 48, .load 1 false (.t 47), some (46, true)⟩, ⟨some 49, .mv (.t 5), some (46, true)⟩, ⟨some 50, .bin .sub (.t 49) (.v (.int .i64 1)), some (46, true)⟩, ⟨some 51, .iad 2 (.t 48) (.t 50), some (46, true)⟩, ⟨some 52, .fad 0 (.t 51), some (46, true)⟩, ⟨some 53, .load 1 false (.t 52), some (46, true)⟩, ⟨some 54, .fad 0 (.t 6), some (46, true)⟩, ⟨some 55, .load 1 false (.t 54), some (46, true)⟩, ⟨some 56, .bin .geq (.t 53) (.t 55), some (46, true)⟩, ⟨some 57, .pick (.t 46) (.t 56) (.v (.bool false)), some (43, false)⟩, o 58 (.pick (.t 43) (.v (.bool true)) (.t 57))])
    (.ite (.t 58) (.seq (.ops [o 4 (.mv (.v (.bool false)))])
     .ret)
    .skip))))
   (.ops [o 59 (.bin .add (.t 26) (.v (.int .i64 1))), o 26 (.mv (.t 59))])))))))
 (.seq (.ops [o 4 (.mv (.v (.bool true)))])
 .ret))))
noncomputable def X.i_goodConditions (p0 : TBoard) (p1 : TConditions) : Option Bool :=
 (bif (decide ((p1.Goals.length : Int) > 12)) then some false else ((X.i_inRange p1.Step 0 9).bind fun v9 => (bif (!v9) then some false else ((X.i_inRange p1.Margin 0 200).bind fun v12 => (bif (!v12) then some false else ((loop (fun (x48 : Int) => ((bif (decide (x48 < (p1.Goals.length : Int))) then ((at' zTGoal p1.Goals x48).bind fun v51 => ((X.i_sizeOf p0).bind fun v53 => ((X.i_isIndex v51.At v53).bind fun v55 => (bif (!v55) then some (Sum.inr (Sum.inr false)) else ((X.i_inRange v51.Points 1 20).bind fun v58 => (bif (!v58) then some (Sum.inr (Sum.inr false)) else (bif (decide (x48 > 0)) then ((at' zTGoal p1.Goals (W (x48 - 1))).bind fun v62 => (bif (decide (v62.At ≥ v51.At)) then some (Sum.inr (Sum.inr false)) else some (Sum.inl (W (x48 + 1))))) else some (Sum.inl (W (x48 + 1)))))))))) else some (Sum.inr (Sum.inl ()))) : Option (Int ⊕ (Unit ⊕ Bool)))) 0).bind fun y65 => (Sum.elim (fun (y67 : Unit) => some true) (fun (y68 : Bool) => some y68) y65)))))))
theorem i_goodConditions_ok (p0 : TBoard) (p1 : TConditions) (r : Bool) (H : X.i_goodConditions p0 p1 = some r) : FnOk Tryz.prog gl 161 [.agg (eTBoard p0), .agg (eTConditions p1)] (cB r) := by
 unfold X.i_goodConditions at H
 refine fi Tryz.f161 i_goodConditions_ir [(4, cB r)] [] glL Tryz.func161 ?_
 refine so [] [] [(2, pk 2), (3, pk 3)] [(2, va (eTBoard p0)), (3, va (eTConditions p1))] id ?_
 refine seq_in ?_
 rcases ofCond H with ⟨c8, H⟩ | ⟨c8, H⟩
 ·refine so [.g true, .g true, .g true, .g true, .g true, .g true, .g true, .g true, .g true, .g true] [] [(2, pk 2), (3, pk 3), (22, cB true)] [(2, va (eTBoard p0)), (3, va (eTConditions p1))] (fun t => lI p1.Goals (aI c8 (aI c8 (aI c8 (aI c8 (aI c8 (aI (rfl : (true : Bool) = true) (aI (rfl : (true : Bool) = true) (aI (rfl : (true : Bool) = true) (aI (rfl : (true : Bool) = true) (aI (rfl : (true : Bool) = true) (t)))))))))))) ?_
  refine it (rfl : (true : Bool) = true) ?_
  refine so [] [] [(4, cB false)] [] id ?_
  refine ends_ret ?_
  cases H
  exact And.intro (.inl rfl) rfl
 ·obtain ⟨v9, h10, H⟩ := ofBind H
  rcases ofCond H with ⟨c11, H⟩ | ⟨c11, H⟩
  ·refine so [.g false, .g false, .g false, .res (cB v9), .g false, .g false, .g true, .g true, .g true, .g true, .g true] [] [(2, pk 2), (3, pk 3), (22, cB true)] [(2, va (eTBoard p0)), (3, va (eTConditions p1))] (fun t => lI p1.Goals (aI c8 (aI c8 (aI c8 (aI (i_inRange_ok p1.Step 0 9 v9 h10) (aI c8 (aI c8 (aI c11 (aI c11 (aI c11 (aI c11 (aI c11 (t))))))))))))) ?_
   refine it (rfl : (true : Bool) = true) ?_
   refine so [] [] [(4, cB false)] [] id ?_
   refine ends_ret ?_
   cases H
   exact And.intro (.inl rfl) rfl
  ·obtain ⟨v12, h13, H⟩ := ofBind H
   refine so [.g false, .g false, .g false, .res (cB v9), .g false, .g false, .g false, .g false, .g false, .res (cB v12), .g false, .g false] [] [(2, pk 2), (3, pk 3), (22, cB (!v12))] [(2, va (eTBoard p0)), (3, va (eTConditions p1))] (fun t => lI p1.Goals (aI c8 (aI c8 (aI c8 (aI (i_inRange_ok p1.Step 0 9 v9 h10) (aI c8 (aI c8 (aI c11 (aI c11 (aI c11 (aI (i_inRange_ok p1.Margin 0 200 v12 h13) (aI c11 (aI c11 (t)))))))))))))) ?_
   rcases ofCond H with ⟨c14, H⟩ | ⟨c14, H⟩
   ·refine it c14 ?_
    refine so [] [] [(4, cB false)] [] id ?_
    refine ends_ret ?_
    cases H
    exact And.intro (.inl rfl) rfl
   ·refine jf c14 ?_
    refine sk ?_
    refine seq_in ?_
    refine so [] [] [(2, pk 2), (3, pk 3), (24, dc 2 eTGoal zTGoal p1.Goals), (25, cI (p1.Goals.length : Int)), (26, cI 0)] [(2, va (eTBoard p0)), (3, va (eTConditions p1))] (fun t => lI p1.Goals (t)) ?_
    refine ends_blk ?_
    obtain ⟨y65, h66, H⟩ := ofBind H
    refine loop_in (fun (x : Int) => lit [(2, pk 2), (3, pk 3), (24, dc 2 eTGoal zTGoal p1.Goals), (25, cI (p1.Goals.length : Int)), (26, cI x)] [(2, va (eTBoard p0)), (3, va (eTConditions p1))]) (orJ (fun (z : Unit) => At (.exit 0) (lit [] [])) (fun (z : Bool) => At .ret (lit [(4, cB z)] []))) h66 ?_ ?_
    ·clear H h66
     intro x48 y0 H
     refine so [] [] [(2, pk 2), (3, pk 3), (24, dc 2 eTGoal zTGoal p1.Goals), (25, cI (p1.Goals.length : Int)), (26, cI x48), (27, cB (decide (x48 < (p1.Goals.length : Int))))] [(2, va (eTBoard p0)), (3, va (eTConditions p1))] id ?_
     refine seq_in ?_
     rcases ofCond H with ⟨c50, H⟩ | ⟨c50, H⟩
     ·refine it c50 ?_
      refine sk ?_
      refine seq_in ?_
      refine ends_blk ?_
      obtain ⟨v51, h52, H⟩ := ofBind H
      refine so [.cs (eTGoal v51)] [] [(2, pk 2), (3, pk 3), (5, cI x48), (6, pk 6), (24, dc 2 eTGoal zTGoal p1.Goals), (25, cI (p1.Goals.length : Int)), (26, cI x48)] [(2, va (eTBoard p0)), (3, va (eTConditions p1)), (6, va (eTGoal v51))] (fun t => aI (at_lt h52) (aI (at_enc (enc := eTGoal) h52) (t))) ?_
      obtain ⟨v53, h54, H⟩ := ofBind H
      obtain ⟨v55, h56, H⟩ := ofBind H
      rcases ofCond H with ⟨c57, H⟩ | ⟨c57, H⟩
      ·refine sd [.res (cI v53), .res (cB v55), .g true, .g true, .g true, .g true, .g true, .g true, .g true, .g true, .g true, .g true] [] [(2, pk 2), (3, pk 3), (24, dc 2 eTGoal zTGoal p1.Goals), (25, cI (p1.Goals.length : Int)), (26, cI x48), (58, cB true)] [(2, va (eTBoard p0)), (3, va (eTConditions p1))] (fun t => aI (i_sizeOf_ok p0 v53 h54) (aI trivial (aI (rfl : ([] : List Nat) = []) (aI (i_isIndex_ok v51.At v53 v55 h56) (aI trivial (aI (rfl : ([] : List Nat) = []) (aI c57 (aI c57 (aI c57 (aI c57 (aI c57 (aI (rfl : (true : Bool) = true) (aI (rfl : (true : Bool) = true) (aI (rfl : (true : Bool) = true) (aI (rfl : (true : Bool) = true) (aI (rfl : (true : Bool) = true) (t))))))))))))))))) ?_
       refine it (rfl : (true : Bool) = true) ?_
       refine so [] [] [(4, cB false)] [] id ?_
       refine ends_ret ?_
       cases H
       exact And.intro (by simp) (And.intro rfl rfl)
      ·obtain ⟨v58, h59, H⟩ := ofBind H
       rcases ofCond H with ⟨c60, H⟩ | ⟨c60, H⟩
       ·refine sd [.res (cI v53), .res (cB v55), .g false, .g false, .g false, .res (cB v58), .g false, .g false, .g true, .g true, .g true, .g true, .g true] [] [(2, pk 2), (3, pk 3), (24, dc 2 eTGoal zTGoal p1.Goals), (25, cI (p1.Goals.length : Int)), (26, cI x48), (58, cB true)] [(2, va (eTBoard p0)), (3, va (eTConditions p1))] (fun t => aI (i_sizeOf_ok p0 v53 h54) (aI trivial (aI (rfl : ([] : List Nat) = []) (aI (i_isIndex_ok v51.At v53 v55 h56) (aI trivial (aI (rfl : ([] : List Nat) = []) (aI c57 (aI c57 (aI c57 (aI (i_inRange_ok v51.Points 1 20 v58 h59) (aI trivial (aI (rfl : ([] : List Nat) = []) (aI c57 (aI c57 (aI c60 (aI c60 (aI c60 (aI c60 (aI c60 (t)))))))))))))))))))) ?_
        refine it (rfl : (true : Bool) = true) ?_
        refine so [] [] [(4, cB false)] [] id ?_
        refine ends_ret ?_
        cases H
        exact And.intro (by simp) (And.intro rfl rfl)
       ·rcases ofCond H with ⟨c61, H⟩ | ⟨c61, H⟩
        ·obtain ⟨v62, h63, H⟩ := ofBind H
         refine sd [.res (cI v53), .res (cB v55), .g false, .g false, .g false, .res (cB v58), .g false, .g false, .g false, .g false, .g false, .g true, .g true, .g true, .g true, .g true, .cs (eTGoal v62), .g true, .g true, .g true, .g true, .g true, .g false, .g true, .g false] [] [(2, pk 2), (3, pk 3), (24, dc 2 eTGoal zTGoal p1.Goals), (25, cI (p1.Goals.length : Int)), (26, cI x48), (58, cB (decide (v62.At ≥ v51.At)))] [(2, va (eTBoard p0)), (3, va (eTConditions p1))] (fun t => aI (i_sizeOf_ok p0 v53 h54) (aI trivial (aI (rfl : ([] : List Nat) = []) (aI (i_isIndex_ok v51.At v53 v55 h56) (aI trivial (aI (rfl : ([] : List Nat) = []) (aI c57 (aI c57 (aI c57 (aI (i_inRange_ok v51.Points 1 20 v58 h59) (aI trivial (aI (rfl : ([] : List Nat) = []) (aI c57 (aI c57 (aI c60 (aI c60 (aI c60 (aI c61 (aI c61 (aI c61 (aI c61 (aI c61 (aI (at_lt h63) (aI (at_enc (enc := eTGoal) h63) (aI c61 (aI c61 (aI (rfl : ([] : List Nat) = []) (aI c61 (aI c61 (aI c61 (aI c60 (aI c61 (aI c60 (t)))))))))))))))))))))))))))))))))) ?_
         rcases ofCond H with ⟨c64, H⟩ | ⟨c64, H⟩
         ·refine it c64 ?_
          refine so [] [] [(4, cB false)] [] id ?_
          refine ends_ret ?_
          cases H
          exact And.intro (by simp) (And.intro rfl rfl)
         ·refine jf c64 ?_
          refine sk ?_
          refine oo [] [] [(2, pk 2), (3, pk 3), (24, dc 2 eTGoal zTGoal p1.Goals), (25, cI (p1.Goals.length : Int)), (26, cI (W (x48 + 1)))] [(2, va (eTBoard p0)), (3, va (eTConditions p1))] id ?_
          cases H
          exact And.intro rfl rfl
        ·refine sd [.res (cI v53), .res (cB v55), .g false, .g false, .g false, .res (cB v58), .g false, .g false, .g false, .g false, .g false, .g false, .g false, .g false, .g false, .g false, .g false, .g false, .g false, .g false, .g false, .g false, .g false, .g false] [] [(2, pk 2), (3, pk 3), (24, dc 2 eTGoal zTGoal p1.Goals), (25, cI (p1.Goals.length : Int)), (26, cI x48), (58, cB false)] [(2, va (eTBoard p0)), (3, va (eTConditions p1))] (fun t => aI (i_sizeOf_ok p0 v53 h54) (aI trivial (aI (rfl : ([] : List Nat) = []) (aI (i_isIndex_ok v51.At v53 v55 h56) (aI trivial (aI (rfl : ([] : List Nat) = []) (aI c57 (aI c57 (aI c57 (aI (i_inRange_ok v51.Points 1 20 v58 h59) (aI trivial (aI (rfl : ([] : List Nat) = []) (aI c57 (aI c57 (aI c60 (aI c60 (aI c60 (aI c61 (aI c61 (aI c61 (aI c61 (aI c61 (aI c61 (aI c61 (aI c61 (aI c61 (aI c61 (aI c60 (aI c61 (aI c60 (t))))))))))))))))))))))))))))))) ?_
         refine jf (rfl : (false : Bool) = false) ?_
         refine sk ?_
         refine oo [] [] [(2, pk 2), (3, pk 3), (24, dc 2 eTGoal zTGoal p1.Goals), (25, cI (p1.Goals.length : Int)), (26, cI (W (x48 + 1)))] [(2, va (eTBoard p0)), (3, va (eTConditions p1))] id ?_
         cases H
         exact And.intro rfl rfl
     ·refine jf c50 ?_
      refine tl [] [] [] id ?_
      refine ends_exit ?_
      cases H
      exact And.intro (by simp) (And.intro rfl rfl)
    ·clear h66
     cases y65 with
     | inl y67 =>
      replace H := ofInl H
      intro e s q
      obtain ⟨rfl, rfl⟩ := q
      change EndsI _ _ _ _ _ _
      refine so [] [] [(4, cB true)] [] id ?_
      refine ends_ret ?_
      cases H
      exact And.intro (.inl rfl) rfl
     | inr y68 =>
      replace H := ofInr H
      intro e s q
      obtain ⟨rfl, rfl⟩ := q
      cases H
      exact And.intro (.inl rfl) rfl
def i_hasConditions_ir : S :=
 (.seq (.ops [o 3 (.box 12 (.t 0)), o 4 (.box 3 (.t 1)), o 5 (.box 3 (.t 2)), o 6 (.mv (.v (.bool false)))])
 (.seq (.ops [o 7 (.load 12 true (.t 3)), o 8 (.load 3 true (.t 4)), o 9 (.call 131 [.t 7, .t 8]), o 10 (.mv (.t 9)), ⟨some 11, .load 12 true (.t 3), some (10, true)⟩, ⟨some 12, .load 3 true (.t 5), some (10, true)⟩, ⟨some 13, .call 161 [.t 11, .t 12], some (10, true)⟩, o 14 (.pick (.t 10) (.t 13) (.v (.bool false))), o 6 (.mv (.t 14))])
 .ret))
noncomputable def X.i_hasConditions (p0 : TBoard) (p1 : TState) (p2 : TConditions) : Option Bool :=
 ((X.i_fits p0 p1).bind fun v1 => (bif v1 then ((X.i_goodConditions p0 p2).bind fun v4 => some v4) else some false))
theorem i_hasConditions_ok (p0 : TBoard) (p1 : TState) (p2 : TConditions) (r : Bool) (H : X.i_hasConditions p0 p1 p2 = some r) : FnOk Tryz.prog gl 100 [.agg (eTBoard p0), .agg (eTState p1), .agg (eTConditions p2)] (cB r) := by
 unfold X.i_hasConditions at H
 refine fi Tryz.f100 i_hasConditions_ir [(6, cB r)] [] glL Tryz.func100 ?_
 refine so [] [] [(3, pk 3), (4, pk 4), (5, pk 5)] [(3, va (eTBoard p0)), (4, va (eTState p1)), (5, va (eTConditions p2))] id ?_
 obtain ⟨v1, h2, H⟩ := ofBind H
 rcases ofCond H with ⟨c3, H⟩ | ⟨c3, H⟩
 ·obtain ⟨v4, h5, H⟩ := ofBind H
  refine so [.res (cB v1), .g true, .g true, .g true, .res (cB v4), .g true] [] [(6, cB v4)] [] (fun t => aI (i_fits_ok p0 p1 v1 h2) (aI c3 (aI c3 (aI c3 (aI (i_goodConditions_ok p0 p2 v4 h5) (aI c3 (t))))))) ?_
  refine ends_ret ?_
  cases H
  exact And.intro (.inl rfl) rfl
 ·refine so [.res (cB v1), .g false, .g false, .g false, .g false] [] [(6, cB false)] [] (fun t => aI (i_fits_ok p0 p1 v1 h2) (aI c3 (aI c3 (aI c3 (aI c3 (t)))))) ?_
  refine ends_ret ?_
  cases H
  exact And.intro (.inl rfl) rfl
def i_ownerOf_ir : S :=
 (.seq (.ops [o 2 (.box 3 (.t 0)), o 4 (.mv (.v (.int .i64 0)))])
 (.seq (.seq (.ops [o 7 (.fad 2 (.t 2)), o 8 (.load 1 false (.t 7)), o 9 (.len (.t 8)), o 10 (.mv (.v (.int .i64 0)))])
 (.blk 0 (.loop (.seq (.ops [o 11 (.bin .lss (.t 10) (.t 9))])
   (.seq (.ite (.t 11) .skip
   (.exit 0))
   (.seq (.blk 1 (.seq (.ops [o 12 (.iad 4 (.t 8) (.t 10)), o 13 (.load 4 true (.t 12)), o 6 (.alloc [.int .i64 0, .int .i64 0, .int .i64 0, .int .i64 0]), ⟨none, .store 4 (.t 6) (.t 13), none⟩])
    (.seq (.ops [o 14 (.fad 2 (.t 6)), o 15 (.load 1 false (.t 14)), o 16 (.mv (.t 1)), o 17 (.bin .eql (.t 15) (.t 16))])
    (.ite (.t 17) (.seq (.ops [o 18 (.fad 0 (.t 6)), o 19 (.load 1 false (.t 18)), o 4 (.mv (.t 19))])
     .ret)
    .skip))))
   (.ops [o 20 (.bin .add (.t 10) (.v (.int .i64 1))), o 10 (.mv (.t 20))])))))))
 (.seq (.ops [o 4 (.mv (.v (.int .i64 (-1))))])
 .ret)))
noncomputable def X.i_ownerOf (p0 : TState) (p1 : Int) : Option Int :=
 ((loop (fun (x12 : Int) => ((bif (decide (x12 < (p0.Units.length : Int))) then ((at' zTUnit p0.Units x12).bind fun v15 => (bif (v15.At == p1) then some (Sum.inr (Sum.inr v15.Side)) else some (Sum.inl (W (x12 + 1))))) else some (Sum.inr (Sum.inl ()))) : Option (Int ⊕ (Unit ⊕ Int)))) 0).bind fun y18 => (Sum.elim (fun (y20 : Unit) => some (-1)) (fun (y21 : Int) => some y21) y18))
theorem i_ownerOf_ok (p0 : TState) (p1 : Int) (r : Int) (H : X.i_ownerOf p0 p1 = some r) : FnOk Tryz.prog gl 72 [.agg (eTState p0), cI p1] (cI r) := by
 unfold X.i_ownerOf at H
 refine fi Tryz.f72 i_ownerOf_ir [(4, cI r)] [] glL Tryz.func72 ?_
 refine so [] [] [(1, cI p1), (2, pk 2)] [(2, va (eTState p0))] id ?_
 refine seq_in ?_
 refine so [] [] [(1, cI p1), (8, dc 4 eTUnit zTUnit p0.Units), (9, cI (p0.Units.length : Int)), (10, cI 0)] [] (fun t => lI p0.Units (t)) ?_
 refine ends_blk ?_
 obtain ⟨y18, h19, H⟩ := ofBind H
 refine loop_in (fun (x : Int) => lit [(1, cI p1), (8, dc 4 eTUnit zTUnit p0.Units), (9, cI (p0.Units.length : Int)), (10, cI x)] []) (orJ (fun (z : Unit) => At (.exit 0) (lit [] [])) (fun (z : Int) => At .ret (lit [(4, cI z)] []))) h19 ?_ ?_
 ·clear H h19
  intro x12 y0 H
  refine so [] [] [(1, cI p1), (8, dc 4 eTUnit zTUnit p0.Units), (9, cI (p0.Units.length : Int)), (10, cI x12), (11, cB (decide (x12 < (p0.Units.length : Int))))] [] id ?_
  refine seq_in ?_
  rcases ofCond H with ⟨c14, H⟩ | ⟨c14, H⟩
  ·refine it c14 ?_
   refine sk ?_
   refine seq_in ?_
   refine ends_blk ?_
   obtain ⟨v15, h16, H⟩ := ofBind H
   refine so [.cs (eTUnit v15)] [] [(1, cI p1), (6, pk 6), (8, dc 4 eTUnit zTUnit p0.Units), (9, cI (p0.Units.length : Int)), (10, cI x12)] [(6, va (eTUnit v15))] (fun t => aI (at_lt h16) (aI (at_enc (enc := eTUnit) h16) (t))) ?_
   refine so [] [] [(1, cI p1), (6, pk 6), (8, dc 4 eTUnit zTUnit p0.Units), (9, cI (p0.Units.length : Int)), (10, cI x12), (17, cB (v15.At == p1))] [(6, va (eTUnit v15))] id ?_
   rcases ofCond H with ⟨c17, H⟩ | ⟨c17, H⟩
   ·refine it c17 ?_
    refine so [] [] [(4, cI v15.Side)] [] id ?_
    refine ends_ret ?_
    cases H
    exact And.intro (by simp) (And.intro rfl rfl)
   ·refine jf c17 ?_
    refine sk ?_
    refine oo [] [] [(1, cI p1), (8, dc 4 eTUnit zTUnit p0.Units), (9, cI (p0.Units.length : Int)), (10, cI (W (x12 + 1)))] [] id ?_
    cases H
    exact And.intro rfl rfl
  ·refine jf c14 ?_
   refine tl [] [] [] id ?_
   refine ends_exit ?_
   cases H
   exact And.intro (by simp) (And.intro rfl rfl)
 ·clear h19
  cases y18 with
  | inl y20 =>
   replace H := ofInl H
   intro e s q
   obtain ⟨rfl, rfl⟩ := q
   change EndsI _ _ _ _ _ _
   refine so [] [] [(4, cI (-1))] [] id ?_
   refine ends_ret ?_
   cases H
   exact And.intro (.inl rfl) rfl
  | inr y21 =>
   replace H := ofInr H
   intro e s q
   obtain ⟨rfl, rfl⟩ := q
   cases H
   exact And.intro (.inl rfl) rfl
def g_Index_int_ir : S :=
 (.seq (.ops [o 4 (.mv (.v (.int .i64 0)))])
 (.seq (.seq (.ops [o 6 (.mv (.t 0)), o 7 (.len (.t 6)), o 8 (.mv (.v (.int .i64 0)))])
 (.blk 0 (.loop (.seq (.ops [o 9 (.bin .lss (.t 8) (.t 7))])
   (.seq (.ite (.t 9) .skip
   (.exit 0))
   (.seq (.blk 1 (.seq (.ops [o 10 (.mv (.t 8)), o 5 (.mv (.t 10))])
    (.seq (.ops [o 11 (.mv (.t 1)), o 12 (.mv (.t 0)), o 13 (.mv (.t 5)), o 14 (.iad 1 (.t 12) (.t 13)), o 15 (.load 1 false (.t 14)), o 16 (.bin .eql (.t 11) (.t 15))])
    (.ite (.t 16) (.seq (.ops [o 17 (.mv (.t 5)), o 4 (.mv (.t 17))])
     .ret)
    .skip))))
   (.ops [o 18 (.bin .add (.t 8) (.v (.int .i64 1))), o 8 (.mv (.t 18))])))))))
 (.seq (.ops [o 4 (.mv (.v (.int .i64 (-1))))])
 .ret)))
noncomputable def X.g_Index_int (p0 : (List Int)) (p1 : Int) : Option Int :=
 ((loop (fun (x12 : Int) => ((bif (decide (x12 < (p0.length : Int))) then ((at' zI p0 x12).bind fun v15 => (bif (p1 == v15) then some (Sum.inr (Sum.inr x12)) else some (Sum.inl (W (x12 + 1))))) else some (Sum.inr (Sum.inl ()))) : Option (Int ⊕ (Unit ⊕ Int)))) 0).bind fun y18 => (Sum.elim (fun (y20 : Unit) => some (-1)) (fun (y21 : Int) => some y21) y18))
theorem g_Index_int_ok (p0 : (List Int)) (p1 : Int) (r : Int) (H : X.g_Index_int p0 p1 = some r) : FnOk Tryz.prog gl 144 [.c (dat 1 eI zI p0), cI p1] (cI r) := by
 unfold X.g_Index_int at H
 refine fi Tryz.f144 g_Index_int_ir [(4, cI r)] [] glL Tryz.func144 ?_
 refine so [] [] [(0, dc 1 eI zI p0), (1, cI p1)] [] id ?_
 refine seq_in ?_
 refine so [] [] [(0, dc 1 eI zI p0), (1, cI p1), (7, cI (p0.length : Int)), (8, cI 0)] [] (fun t => lI p0 (t)) ?_
 refine ends_blk ?_
 obtain ⟨y18, h19, H⟩ := ofBind H
 refine loop_in (fun (x : Int) => lit [(0, dc 1 eI zI p0), (1, cI p1), (7, cI (p0.length : Int)), (8, cI x)] []) (orJ (fun (z : Unit) => At (.exit 0) (lit [] [])) (fun (z : Int) => At .ret (lit [(4, cI z)] []))) h19 ?_ ?_
 ·clear H h19
  intro x12 y0 H
  refine so [] [] [(0, dc 1 eI zI p0), (1, cI p1), (7, cI (p0.length : Int)), (8, cI x12), (9, cB (decide (x12 < (p0.length : Int))))] [] id ?_
  refine seq_in ?_
  rcases ofCond H with ⟨c14, H⟩ | ⟨c14, H⟩
  ·refine it c14 ?_
   refine sk ?_
   refine seq_in ?_
   refine ends_blk ?_
   refine so [] [] [(0, dc 1 eI zI p0), (1, cI p1), (5, cI x12), (7, cI (p0.length : Int)), (8, cI x12)] [] id ?_
   obtain ⟨v15, h16, H⟩ := ofBind H
   refine so [.cs (eI v15)] [] [(0, dc 1 eI zI p0), (1, cI p1), (5, cI x12), (7, cI (p0.length : Int)), (8, cI x12), (16, cB (p1 == v15))] [] (fun t => aI (at_lt h16) (aI (at_enc (enc := eI) h16) (t))) ?_
   rcases ofCond H with ⟨c17, H⟩ | ⟨c17, H⟩
   ·refine it c17 ?_
    refine so [] [] [(4, cI x12)] [] id ?_
    refine ends_ret ?_
    cases H
    exact And.intro (by simp) (And.intro rfl rfl)
   ·refine jf c17 ?_
    refine sk ?_
    refine oo [] [] [(0, dc 1 eI zI p0), (1, cI p1), (7, cI (p0.length : Int)), (8, cI (W (x12 + 1)))] [] id ?_
    cases H
    exact And.intro rfl rfl
  ·refine jf c14 ?_
   refine tl [] [] [] id ?_
   refine ends_exit ?_
   cases H
   exact And.intro (by simp) (And.intro rfl rfl)
 ·clear h19
  cases y18 with
  | inl y20 =>
   replace H := ofInl H
   intro e s q
   obtain ⟨rfl, rfl⟩ := q
   change EndsI _ _ _ _ _ _
   refine so [] [] [(4, cI (-1))] [] id ?_
   refine ends_ret ?_
   cases H
   exact And.intro (.inl rfl) rfl
  | inr y21 =>
   replace H := ofInr H
   intro e s q
   obtain ⟨rfl, rfl⟩ := q
   cases H
   exact And.intro (.inl rfl) rfl
def g_Contains_int_ir : S :=
 (.seq (.ops [o 4 (.mv (.v (.bool false)))])
 (.seq (.ops [o 5 (.mv (.t 0)), o 6 (.mv (.t 1)), o 7 (.call 144 [.t 5, .t 6]), o 8 (.bin .geq (.t 7) (.v (.int .i64 0))), o 4 (.mv (.t 8))])
 .ret))
noncomputable def X.g_Contains_int (p0 : (List Int)) (p1 : Int) : Option Bool :=
 ((X.g_Index_int p0 p1).bind fun v1 => some (decide (v1 ≥ 0)))
theorem g_Contains_int_ok (p0 : (List Int)) (p1 : Int) (r : Bool) (H : X.g_Contains_int p0 p1 = some r) : FnOk Tryz.prog gl 86 [.c (dat 1 eI zI p0), cI p1] (cB r) := by
 unfold X.g_Contains_int at H
 refine fi Tryz.f86 g_Contains_int_ir [(4, cB r)] [] glL Tryz.func86 ?_
 refine so [] [] [(0, dc 1 eI zI p0), (1, cI p1)] [] id ?_
 obtain ⟨v1, h2, H⟩ := ofBind H
 refine so [.res (cI v1)] [] [(4, cB (decide (v1 ≥ 0)))] [] (fun t => aI (g_Index_int_ok p0 p1 v1 h2) (t)) ?_
 refine ends_ret ?_
 cases H
 exact And.intro (.inl rfl) rfl
def i_crossesFreely_ir : S :=
 (.seq (.ops [o 2 (.box 5 (.t 0)), o 4 (.mv (.v (.bool false)))])
 (.seq (.ops [o 5 (.fad 3 (.t 2)), o 6 (.load 1 false (.t 5)), o 7 (.mv (.t 1)), o 8 (.call 86 [.t 6, .t 7]), o 9 (.not (.t 8)), o 10 (.mv (.t 9)), ⟨some 11, .fad 4 (.t 2), some (10, false)⟩, ⟨some 12, .load 1 false (.t 11), some (10, false)⟩, ⟨some 13, .mv (.t 1), some (10, false)⟩, ⟨some 14, .call 86 [.t 12, .t 13], some (10, false)⟩, o 15 (.pick (.t 10) (.v (.bool true)) (.t 14)), o 4 (.mv (.t 15))])
 .ret))
noncomputable def X.i_crossesFreely (p0 : TMap) (p1 : Int) : Option Bool :=
 ((X.g_Contains_int p0.Rivers p1).bind fun v1 => (bif (!v1) then some true else ((X.g_Contains_int p0.Roads p1).bind fun v4 => some v4)))
theorem i_crossesFreely_ok (p0 : TMap) (p1 : Int) (r : Bool) (H : X.i_crossesFreely p0 p1 = some r) : FnOk Tryz.prog gl 230 [.agg (eTMap p0), cI p1] (cB r) := by
 unfold X.i_crossesFreely at H
 refine fi Tryz.f230 i_crossesFreely_ir [(4, cB r)] [] glL Tryz.func230 ?_
 refine so [] [] [(1, cI p1), (2, pk 2)] [(2, va (eTMap p0))] id ?_
 obtain ⟨v1, h2, H⟩ := ofBind H
 rcases ofCond H with ⟨c3, H⟩ | ⟨c3, H⟩
 ·refine so [.res (cB v1), .g true, .g true, .g true, .g true, .g true] [] [(4, cB true)] [] (fun t => aI (g_Contains_int_ok p0.Rivers p1 v1 h2) (aI c3 (aI c3 (aI c3 (aI c3 (aI c3 (t))))))) ?_
  refine ends_ret ?_
  cases H
  exact And.intro (.inl rfl) rfl
 ·obtain ⟨v4, h5, H⟩ := ofBind H
  refine so [.res (cB v1), .g false, .g false, .g false, .g false, .res (cB v4), .g false] [] [(4, cB v4)] [] (fun t => aI (g_Contains_int_ok p0.Rivers p1 v1 h2) (aI c3 (aI c3 (aI c3 (aI c3 (aI (g_Contains_int_ok p0.Roads p1 v4 h5) (aI c3 (t)))))))) ?_
  refine ends_ret ?_
  cases H
  exact And.intro (.inl rfl) rfl
def i_edgeOf_ir : S :=
 (.seq (.ops [o 3 (.box 5 (.t 0)), o 6 (.mv (.v (.int .i64 0)))])
 (.seq (.ops [o 8 (.load 5 true (.t 3)), o 9 (.mv (.t 1)), o 10 (.mv (.t 2)), o 11 (.call 133 [.t 8, .t 9, .t 10]), o 7 (.mv (.t 11))])
 (.seq (.blk 0 (.seq (.ops [o 13 (.mv (.t 7)), o 14 (.bin .lss (.t 13) (.v (.int .i64 0))), o 12 (.mv (.t 14))])
  (.ite (.t 12) (.seq (.ops [o 6 (.mv (.v (.int .i64 (-1))))])
   .ret)
  (.seq (.ops [o 16 (.mv (.t 2)), o 17 (.bin .lss (.t 16) (.v (.int .i64 3))), o 15 (.mv (.t 17))])
   (.ite (.t 15) (.seq (.ops [o 18 (.mv (.t 1)), o 19 (.bin .mul (.v (.int .i64 3)) (.t 18)), o 20 (.mv (.t 2)), o 21 (.bin .add (.t 19) (.t 20)), o 6 (.mv (.t 21))])
    .ret)
   .skip)))))
 (.seq (.ops [o 22 (.mv (.t 7)), o 23 (.bin .mul (.v (.int .i64 3)) (.t 22)), o 24 (.mv (.t 2)), o 25 (.bin .add (.t 23) (.t 24)), o 26 (.bin .sub (.t 25) (.v (.int .i64 3))), o 6 (.mv (.t 26))])
 .ret))))
noncomputable def X.i_edgeOf (p0 : TMap) (p1 : Int) (p2 : Int) : Option Int :=
 ((X.i_nextTo p0 p1 p2).bind fun v1 => (bif (decide (v1 < 0)) then some (-1) else (bif (decide (p2 < 3)) then some (W ((W (3 * p1)) + p2)) else some (W ((W ((W (3 * v1)) + p2)) - 3)))))
theorem i_edgeOf_ok (p0 : TMap) (p1 : Int) (p2 : Int) (r : Int) (H : X.i_edgeOf p0 p1 p2 = some r) : FnOk Tryz.prog gl 231 [.agg (eTMap p0), cI p1, cI p2] (cI r) := by
 unfold X.i_edgeOf at H
 refine fi Tryz.f231 i_edgeOf_ir [(6, cI r)] [] glL Tryz.func231 ?_
 refine so [] [] [(1, cI p1), (2, cI p2), (3, pk 3)] [(3, va (eTMap p0))] id ?_
 obtain ⟨v1, h2, H⟩ := ofBind H
 refine so [.res (cI v1)] [] [(1, cI p1), (2, cI p2), (7, cI v1)] [] (fun t => aI (i_nextTo_ok p0 p1 p2 v1 h2) (t)) ?_
 refine seq_in ?_
 refine ends_blk ?_
 refine so [] [] [(1, cI p1), (2, cI p2), (7, cI v1), (12, cB (decide (v1 < 0)))] [] id ?_
 rcases ofCond H with ⟨c3, H⟩ | ⟨c3, H⟩
 ·refine it c3 ?_
  refine so [] [] [(6, cI (-1))] [] id ?_
  refine ends_ret ?_
  cases H
  exact And.intro (.inl rfl) rfl
 ·refine jf c3 ?_
  refine so [] [] [(1, cI p1), (2, cI p2), (7, cI v1), (15, cB (decide (p2 < 3)))] [] id ?_
  rcases ofCond H with ⟨c4, H⟩ | ⟨c4, H⟩
  ·refine it c4 ?_
   refine so [] [] [(6, cI (W ((W (3 * p1)) + p2)))] [] id ?_
   refine ends_ret ?_
   cases H
   exact And.intro (.inl rfl) rfl
  ·refine jf c4 ?_
   refine sk ?_
   refine so [] [] [(6, cI (W ((W ((W (3 * v1)) + p2)) - 3)))] [] id ?_
   refine ends_ret ?_
   cases H
   exact And.intro (.inl rfl) rfl
def i_controls_ir : S :=
 (.seq (.ops [o 3 (.box 12 (.t 0)), o 4 (.box 4 (.t 1)), o 6 (.mv (.v (.bool false)))])
 (.seq (.seq (.ops [o 8 (.fad 2 (.t 4)), o 9 (.load 1 false (.t 8)), o 10 (.bin .lss (.t 9) (.v (.int .i64 0))), o 11 (.mv (.t 10)), ⟨some 12, .fad 0 (.t 3), some (11, false)⟩, ⟨some 13, .fad 1 (.t 12), some (11, false)⟩, ⟨some 14, .load 1 false (.t 13), some (11, false)⟩, ⟨some 15, .fad 1 (.t 4), some (11, false)⟩, ⟨some 16, .load 1 false (.t 15), some (11, false)⟩, ⟨some 17, .iad 6 (.t 14) (.t 16), some (11, false)⟩, ⟨some 18, .fad 4 (.t 17), some (11, false)⟩, ⟨some 19, .load 1 false (.t 18), some (11, false)⟩, ⟨some 20, .not (.t 19), some (11, false)⟩, o 21 (.pick (.t 11) (.v (.bool true)) (.t 20)), o 22 (.mv (.t 21)), ⟨some 23, .load 12 true (.t 3), some (22, false)⟩, ⟨some 24, .fad 1 (.t 4), some (22, false)⟩, ⟨some 25, .load 1 false (.t 24), some (22, false)⟩, ⟨some 26, .mv (.t 2), some (22, false)⟩, ⟨some 27, .call 157 [.t 23, .t 25, .t 26], some (22, false)⟩, ⟨some 28, .bin .eql (.t 27) (.v (.int .i64 0)), some (22, false)⟩, o 29 (.pick (.t 22) (.v (.bool true)) (.t 28))])
 (.ite (.t 29) (.seq (.ops [o 6 (.mv (.v (.bool false)))])
  .ret)
 .skip))
 (.seq (.seq (.ops [o 30 (.mv (.v (.int .i64 0)))])
 (.blk 0 (.loop (.seq (.ops [o 31 (.bin .lss (.t 30) (.v (.int .i64 6)))])
   (.seq (.ite (.t 31) .skip
   (.exit 0))
   (.seq (.blk 1 (.seq (.ops [o 32 (.mv (.t 30)), o 7 (.mv (.t 32))])
    (.seq (.ops [o 33 (.fad 7 (.t 3)), o 34 (.load 5 true (.t 33)), o 35 (.fad 2 (.t 4)), o 36 (.load 1 false (.t 35)), o 37 (.mv (.t 7)), o 38 (.call 133 [.t 34, .t 36, .t 37]), o 39 (.mv (.t 2)), o 40 (.bin .eql (.t 38) (.t 39))])
    (.ite (.t 40) (.seq (.draw 10 [o 41 (.fad 7 (.t 3)), o 42 (.load 5 true (.t 41)), o 43 (.fad 7 (.t 3)), o 44 (.load 5 true (.t 43)), o 45 (.fad 2 (.t 4)), o 46 (.load 1 false (.t 45)), o 47 (.mv (.t 7)), o 48 (.call 231 [.t 44, .t 46, .t 47]), o 49 (.call 230 [.t 42, .t 48]), o 6 (.mv (.t 49))])
     .ret)
    .skip))))
   (.ops [o 50 (.bin .add (.t 30) (.v (.int .i64 1))), o 30 (.mv (.t 50))])))))))
 (.seq (.ops [o 6 (.mv (.v (.bool false)))])
 .ret))))
noncomputable def X.i_controls (p0 : TBoard) (p1 : TUnit) (p2 : Int) : Option Bool :=
 (bif (decide (p1.At < 0)) then some false else ((at' zTKind p0.Rules.Kinds p1.Kind).bind fun v9 => (bif (!v9.Zone) then some false else ((X.i_enterCost p0 p1.Kind p2).bind fun v12 => (bif (v12 == 0) then some false else ((loop (fun (x34 : Int) => ((bif (decide (x34 < 6)) then ((X.i_nextTo p0.Map p1.At x34).bind fun v37 => (bif (v37 == p2) then ((X.i_edgeOf p0.Map p1.At x34).bind fun v40 => ((X.i_crossesFreely p0.Map v40).bind fun v42 => some (Sum.inr (Sum.inr v42)))) else some (Sum.inl (W (x34 + 1))))) else some (Sum.inr (Sum.inl ()))) : Option (Int ⊕ (Unit ⊕ Bool)))) 0).bind fun y44 => (Sum.elim (fun (y46 : Unit) => some false) (fun (y47 : Bool) => some y47) y44)))))))
theorem i_controls_ok (p0 : TBoard) (p1 : TUnit) (p2 : Int) (r : Bool) (H : X.i_controls p0 p1 p2 = some r) : FnOk Tryz.prog gl 219 [.agg (eTBoard p0), .agg (eTUnit p1), cI p2] (cB r) := by
 unfold X.i_controls at H
 refine fi Tryz.f219 i_controls_ir [(6, cB r)] [] glL Tryz.func219 ?_
 refine so [] [] [(2, cI p2), (3, pk 3), (4, pk 4)] [(3, va (eTBoard p0)), (4, va (eTUnit p1))] id ?_
 refine seq_in ?_
 rcases ofCond H with ⟨c8, H⟩ | ⟨c8, H⟩
 ·refine so [.g true, .g true, .g true, .g true, .g true, .g true, .g true, .g true, .g true, .g true, .g true, .g true, .g true, .g true, .g true, .g true, .g true] [] [(2, cI p2), (3, pk 3), (4, pk 4), (29, cB true)] [(3, va (eTBoard p0)), (4, va (eTUnit p1))] (fun t => aI c8 (aI c8 (aI c8 (aI c8 (aI c8 (aI c8 (aI c8 (aI c8 (aI c8 (aI c8 (aI (rfl : (true : Bool) = true) (aI (rfl : (true : Bool) = true) (aI (rfl : (true : Bool) = true) (aI (rfl : (true : Bool) = true) (aI (rfl : (true : Bool) = true) (aI (rfl : (true : Bool) = true) (aI (rfl : (true : Bool) = true) (t)))))))))))))))))) ?_
  refine it (rfl : (true : Bool) = true) ?_
  refine so [] [] [(6, cB false)] [] id ?_
  refine ends_ret ?_
  cases H
  exact And.intro (.inl rfl) rfl
 ·obtain ⟨v9, h10, H⟩ := ofBind H
  rcases ofCond H with ⟨c11, H⟩ | ⟨c11, H⟩
  ·refine so [.g false, .g false, .g false, .g false, .g false, .g false, .cs (eTKind v9), .g false, .g false, .g false, .g false, .g true, .g true, .g true, .g true, .g true, .g true, .g true] [] [(2, cI p2), (3, pk 3), (4, pk 4), (29, cB true)] [(3, va (eTBoard p0)), (4, va (eTUnit p1))] (fun t => aI c8 (aI c8 (aI c8 (aI c8 (aI c8 (aI c8 (aI (at_lt h10) (aI (at_enc (enc := eTKind) h10) (aI c8 (aI c8 (aI c8 (aI c8 (aI c11 (aI c11 (aI c11 (aI c11 (aI c11 (aI c11 (aI c11 (t)))))))))))))))))))) ?_
   refine it (rfl : (true : Bool) = true) ?_
   refine so [] [] [(6, cB false)] [] id ?_
   refine ends_ret ?_
   cases H
   exact And.intro (.inl rfl) rfl
  ·obtain ⟨v12, h13, H⟩ := ofBind H
   refine so [.g false, .g false, .g false, .g false, .g false, .g false, .cs (eTKind v9), .g false, .g false, .g false, .g false, .g false, .g false, .g false, .g false, .g false, .res (cI v12), .g false, .g false] [] [(2, cI p2), (3, pk 3), (4, pk 4), (29, cB (v12 == 0))] [(3, va (eTBoard p0)), (4, va (eTUnit p1))] (fun t => aI c8 (aI c8 (aI c8 (aI c8 (aI c8 (aI c8 (aI (at_lt h10) (aI (at_enc (enc := eTKind) h10) (aI c8 (aI c8 (aI c8 (aI c8 (aI c11 (aI c11 (aI c11 (aI c11 (aI c11 (aI (i_enterCost_ok p0 p1.Kind p2 v12 h13) (aI c11 (aI c11 (t))))))))))))))))))))) ?_
   rcases ofCond H with ⟨c14, H⟩ | ⟨c14, H⟩
   ·refine it c14 ?_
    refine so [] [] [(6, cB false)] [] id ?_
    refine ends_ret ?_
    cases H
    exact And.intro (.inl rfl) rfl
   ·refine jf c14 ?_
    refine sk ?_
    refine seq_in ?_
    refine so [] [] [(2, cI p2), (3, pk 3), (4, pk 4), (30, cI 0)] [(3, va (eTBoard p0)), (4, va (eTUnit p1))] id ?_
    refine ends_blk ?_
    obtain ⟨y44, h45, H⟩ := ofBind H
    refine loop_in (fun (x : Int) => lit [(2, cI p2), (3, pk 3), (4, pk 4), (30, cI x)] [(3, va (eTBoard p0)), (4, va (eTUnit p1))]) (orJ (fun (z : Unit) => At (.exit 0) (lit [] [])) (fun (z : Bool) => At .ret (lit [(6, cB z)] []))) h45 ?_ ?_
    ·clear H h45
     intro x34 y0 H
     refine so [] [] [(2, cI p2), (3, pk 3), (4, pk 4), (30, cI x34), (31, cB (decide (x34 < 6)))] [(3, va (eTBoard p0)), (4, va (eTUnit p1))] id ?_
     refine seq_in ?_
     rcases ofCond H with ⟨c36, H⟩ | ⟨c36, H⟩
     ·refine it c36 ?_
      refine sk ?_
      refine seq_in ?_
      refine ends_blk ?_
      refine so [] [] [(2, cI p2), (3, pk 3), (4, pk 4), (7, cI x34), (30, cI x34)] [(3, va (eTBoard p0)), (4, va (eTUnit p1))] id ?_
      obtain ⟨v37, h38, H⟩ := ofBind H
      refine so [.res (cI v37)] [] [(2, cI p2), (3, pk 3), (4, pk 4), (7, cI x34), (30, cI x34), (40, cB (v37 == p2))] [(3, va (eTBoard p0)), (4, va (eTUnit p1))] (fun t => aI (i_nextTo_ok p0.Map p1.At x34 v37 h38) (t)) ?_
      rcases ofCond H with ⟨c39, H⟩ | ⟨c39, H⟩
      ·refine it c39 ?_
       obtain ⟨v40, h41, H⟩ := ofBind H
       obtain ⟨v42, h43, H⟩ := ofBind H
       refine sd [.res (cI v40), .res (cB v42)] [] [(6, cB v42)] [] (fun t => aI (i_edgeOf_ok p0.Map p1.At x34 v40 h41) (aI trivial (aI (rfl : ([] : List Nat) = []) (aI (i_crossesFreely_ok p0.Map v40 v42 h43) (aI trivial (aI (rfl : ([] : List Nat) = []) (t))))))) ?_
       refine ends_ret ?_
       cases H
       exact And.intro (by simp) (And.intro rfl rfl)
      ·refine jf c39 ?_
       refine sk ?_
       refine oo [] [] [(2, cI p2), (3, pk 3), (4, pk 4), (30, cI (W (x34 + 1)))] [(3, va (eTBoard p0)), (4, va (eTUnit p1))] id ?_
       cases H
       exact And.intro rfl rfl
     ·refine jf c36 ?_
      refine tl [] [] [] id ?_
      refine ends_exit ?_
      cases H
      exact And.intro (by simp) (And.intro rfl rfl)
    ·clear h45
     cases y44 with
     | inl y46 =>
      replace H := ofInl H
      intro e s q
      obtain ⟨rfl, rfl⟩ := q
      change EndsI _ _ _ _ _ _
      refine so [] [] [(6, cB false)] [] id ?_
      refine ends_ret ?_
      cases H
      exact And.intro (.inl rfl) rfl
     | inr y47 =>
      replace H := ofInr H
      intro e s q
      obtain ⟨rfl, rfl⟩ := q
      cases H
      exact And.intro (.inl rfl) rfl
def i_inZone_ir : S :=
 (.seq (.ops [o 4 (.box 12 (.t 0)), o 5 (.box 3 (.t 1)), o 8 (.mv (.v (.bool false)))])
 (.seq (.seq (.ops [o 11 (.fad 2 (.t 5)), o 12 (.load 1 false (.t 11)), o 13 (.len (.t 12)), o 14 (.mv (.v (.int .i64 0)))])
 (.blk 0 (.loop (.seq (.ops [o 15 (.bin .lss (.t 14) (.t 13))])
   (.seq (.ite (.t 15) .skip
   (.exit 0))
   (.seq (.blk 1 (.seq (.ops [o 16 (.iad 4 (.t 12) (.t 14)), o 17 (.load 4 true (.t 16)), o 10 (.alloc [.int .i64 0, .int .i64 0, .int .i64 0, .int .i64 0]), ⟨none, .store 4 (.t 10) (.t 17), none⟩])
    (.seq (.ops [o 18 (.fad 0 (.t 10)), o 19 (.load 1 false (.t 18)), o 20 (.mv (.t 2)), o 21 (.bin .eql (.t 19) (.t 20)), o 22 (.mv (.t 21)), ⟨some 23, .load 12 true (.t 4), some (22, true)⟩, ⟨some 24, .load 4 true (.t 10), some (22, true)⟩, ⟨some 25, .mv (.t 3), some (22, true)⟩, ⟨some 26, .call 219 [.t 23, .t 24, .t 25], some (22, true)⟩, o 27 (.pick (.t 22) (.t 26) (.v (.bool false)))])
    (.ite (.t 27) (.seq (.ops [o 8 (.mv (.v (.bool true)))])
     .ret)
    .skip))))
   (.ops [o 28 (.bin .add (.t 14) (.v (.int .i64 1))), o 14 (.mv (.t 28))])))))))
 (.seq (.ops [o 8 (.mv (.v (.bool false)))])
 .ret)))
noncomputable def X.i_inZone (p0 : TBoard) (p1 : TState) (p2 : Int) (p3 : Int) : Option Bool :=
 ((loop (fun (x18 : Int) => ((bif (decide (x18 < (p1.Units.length : Int))) then ((at' zTUnit p1.Units x18).bind fun v21 => (bif (v21.Side == p2) then ((X.i_controls p0 v21 p3).bind fun v24 => (bif v24 then some (Sum.inr (Sum.inr true)) else some (Sum.inl (W (x18 + 1))))) else some (Sum.inl (W (x18 + 1))))) else some (Sum.inr (Sum.inl ()))) : Option (Int ⊕ (Unit ⊕ Bool)))) 0).bind fun y27 => (Sum.elim (fun (y29 : Unit) => some false) (fun (y30 : Bool) => some y30) y27))
theorem i_inZone_ok (p0 : TBoard) (p1 : TState) (p2 : Int) (p3 : Int) (r : Bool) (H : X.i_inZone p0 p1 p2 p3 = some r) : FnOk Tryz.prog gl 201 [.agg (eTBoard p0), .agg (eTState p1), cI p2, cI p3] (cB r) := by
 unfold X.i_inZone at H
 refine fi Tryz.f201 i_inZone_ir [(8, cB r)] [] glL Tryz.func201 ?_
 refine so [] [] [(2, cI p2), (3, cI p3), (4, pk 4), (5, pk 5)] [(4, va (eTBoard p0)), (5, va (eTState p1))] id ?_
 refine seq_in ?_
 refine so [] [] [(2, cI p2), (3, cI p3), (4, pk 4), (12, dc 4 eTUnit zTUnit p1.Units), (13, cI (p1.Units.length : Int)), (14, cI 0)] [(4, va (eTBoard p0))] (fun t => lI p1.Units (t)) ?_
 refine ends_blk ?_
 obtain ⟨y27, h28, H⟩ := ofBind H
 refine loop_in (fun (x : Int) => lit [(2, cI p2), (3, cI p3), (4, pk 4), (12, dc 4 eTUnit zTUnit p1.Units), (13, cI (p1.Units.length : Int)), (14, cI x)] [(4, va (eTBoard p0))]) (orJ (fun (z : Unit) => At (.exit 0) (lit [] [])) (fun (z : Bool) => At .ret (lit [(8, cB z)] []))) h28 ?_ ?_
 ·clear H h28
  intro x18 y0 H
  refine so [] [] [(2, cI p2), (3, cI p3), (4, pk 4), (12, dc 4 eTUnit zTUnit p1.Units), (13, cI (p1.Units.length : Int)), (14, cI x18), (15, cB (decide (x18 < (p1.Units.length : Int))))] [(4, va (eTBoard p0))] id ?_
  refine seq_in ?_
  rcases ofCond H with ⟨c20, H⟩ | ⟨c20, H⟩
  ·refine it c20 ?_
   refine sk ?_
   refine seq_in ?_
   refine ends_blk ?_
   obtain ⟨v21, h22, H⟩ := ofBind H
   refine so [.cs (eTUnit v21)] [] [(2, cI p2), (3, cI p3), (4, pk 4), (10, pk 10), (12, dc 4 eTUnit zTUnit p1.Units), (13, cI (p1.Units.length : Int)), (14, cI x18)] [(4, va (eTBoard p0)), (10, va (eTUnit v21))] (fun t => aI (at_lt h22) (aI (at_enc (enc := eTUnit) h22) (t))) ?_
   rcases ofCond H with ⟨c23, H⟩ | ⟨c23, H⟩
   ·obtain ⟨v24, h25, H⟩ := ofBind H
    refine so [.g true, .g true, .g true, .g true, .res (cB v24), .g true] [] [(2, cI p2), (3, cI p3), (4, pk 4), (12, dc 4 eTUnit zTUnit p1.Units), (13, cI (p1.Units.length : Int)), (14, cI x18), (27, cB v24)] [(4, va (eTBoard p0))] (fun t => aI c23 (aI c23 (aI c23 (aI c23 (aI (i_controls_ok p0 v21 p3 v24 h25) (aI c23 (t))))))) ?_
    rcases ofCond H with ⟨c26, H⟩ | ⟨c26, H⟩
    ·refine it c26 ?_
     refine so [] [] [(8, cB true)] [] id ?_
     refine ends_ret ?_
     cases H
     exact And.intro (by simp) (And.intro rfl rfl)
    ·refine jf c26 ?_
     refine sk ?_
     refine oo [] [] [(2, cI p2), (3, cI p3), (4, pk 4), (12, dc 4 eTUnit zTUnit p1.Units), (13, cI (p1.Units.length : Int)), (14, cI (W (x18 + 1)))] [(4, va (eTBoard p0))] id ?_
     cases H
     exact And.intro rfl rfl
   ·refine so [.g false, .g false, .g false, .g false, .g false] [] [(2, cI p2), (3, cI p3), (4, pk 4), (12, dc 4 eTUnit zTUnit p1.Units), (13, cI (p1.Units.length : Int)), (14, cI x18), (27, cB false)] [(4, va (eTBoard p0))] (fun t => aI c23 (aI c23 (aI c23 (aI c23 (aI c23 (t)))))) ?_
    refine jf (rfl : (false : Bool) = false) ?_
    refine sk ?_
    refine oo [] [] [(2, cI p2), (3, cI p3), (4, pk 4), (12, dc 4 eTUnit zTUnit p1.Units), (13, cI (p1.Units.length : Int)), (14, cI (W (x18 + 1)))] [(4, va (eTBoard p0))] id ?_
    cases H
    exact And.intro rfl rfl
  ·refine jf c20 ?_
   refine tl [] [] [] id ?_
   refine ends_exit ?_
   cases H
   exact And.intro (by simp) (And.intro rfl rfl)
 ·clear h28
  cases y27 with
  | inl y29 =>
   replace H := ofInl H
   intro e s q
   obtain ⟨rfl, rfl⟩ := q
   change EndsI _ _ _ _ _ _
   refine so [] [] [(8, cB false)] [] id ?_
   refine ends_ret ?_
   cases H
   exact And.intro (.inl rfl) rfl
  | inr y30 =>
   replace H := ofInr H
   intro e s q
   obtain ⟨rfl, rfl⟩ := q
   cases H
   exact And.intro (.inl rfl) rfl
def i_controlOf_ir : S :=
 (.seq (.ops [o 3 (.box 12 (.t 0)), o 4 (.box 3 (.t 1)), o 6 (.mv (.v (.int .i64 0)))])
 (.seq (.ops [o 10 (.load 3 true (.t 4)), o 11 (.mv (.t 2)), o 12 (.call 72 [.t 10, .t 11]), o 7 (.mv (.t 12))])
 (.seq (.draw 10 [o 13 (.load 12 true (.t 3)), o 14 (.load 3 true (.t 4)), o 15 (.mv (.t 2)), o 16 (.call 201 [.t 13, .t 14, .v (.int .i64 0), .t 15]), o 17 (.load 12 true (.t 3)), o 18 (.load 3 true (.t 4)), o 19 (.mv (.t 2)), o 20 (.call 201 [.t 17, .t 18, .v (.int .i64 1), .t 19]), o 8 (.mv (.t 16)), o 9 (.mv (.t 20))])
 (.seq (.blk 0 (.seq (.ops [o 22 (.mv (.t 7)), o 23 (.bin .geq (.t 22) (.v (.int .i64 0))), o 21 (.mv (.t 23))])
  (.ite (.t 21) (.seq (.ops [o 24 (.mv (.t 7)), o 6 (.mv (.t 24))])
   .ret)
  (.seq (.ops [o 26 (.mv (.t 8)), o 27 (.mv (.t 26)), ⟨some 28, .mv (.t 9), some (27, true)⟩, o 29 (.pick (.t 27) (.t 28) (.v (.bool false))), o 25 (.mv (.t 29))])
   (.ite (.t 25) (.seq (.ops [o 6 (.mv (.v (.int .i64 2)))])
    .ret)
   (.seq (.ops [o 31 (.mv (.t 8)), o 30 (.mv (.t 31))])
    (.ite (.t 30) (.seq (.ops [o 6 (.mv (.v (.int .i64 0)))])
     .ret)
    (.seq (.ops [o 33 (.mv (.t 9)), o 32 (.mv (.t 33))])
     (.ite (.t 32) (.seq (.ops [o 6 (.mv (.v (.int .i64 1)))])
      .ret)
     .skip)))))))))
 (.seq (.ops [o 6 (.mv (.v (.int .i64 (-1))))])
 .ret)))))
noncomputable def X.i_controlOf (p0 : TBoard) (p1 : TState) (p2 : Int) : Option Int :=
 ((X.i_ownerOf p1 p2).bind fun v1 => ((X.i_inZone p0 p1 0 p2).bind fun v3 => ((X.i_inZone p0 p1 1 p2).bind fun v5 => (bif (decide (v1 ≥ 0)) then some v1 else (bif v3 then (bif v5 then some 2 else some 0) else (bif v5 then some 1 else some (-1)))))))
theorem i_controlOf_ok (p0 : TBoard) (p1 : TState) (p2 : Int) (r : Int) (H : X.i_controlOf p0 p1 p2 = some r) : FnOk Tryz.prog gl 162 [.agg (eTBoard p0), .agg (eTState p1), cI p2] (cI r) := by
 unfold X.i_controlOf at H
 refine fi Tryz.f162 i_controlOf_ir [(6, cI r)] [] glL Tryz.func162 ?_
 refine so [] [] [(2, cI p2), (3, pk 3), (4, pk 4)] [(3, va (eTBoard p0)), (4, va (eTState p1))] id ?_
 obtain ⟨v1, h2, H⟩ := ofBind H
 refine so [.res (cI v1)] [] [(2, cI p2), (3, pk 3), (4, pk 4), (7, cI v1)] [(3, va (eTBoard p0)), (4, va (eTState p1))] (fun t => aI (i_ownerOf_ok p1 p2 v1 h2) (t)) ?_
 obtain ⟨v3, h4, H⟩ := ofBind H
 obtain ⟨v5, h6, H⟩ := ofBind H
 refine sd [.res (cB v3), .res (cB v5)] [] [(7, cI v1), (8, cB v3), (9, cB v5)] [] (fun t => aI (i_inZone_ok p0 p1 0 p2 v3 h4) (aI trivial (aI (rfl : ([] : List Nat) = []) (aI (i_inZone_ok p0 p1 1 p2 v5 h6) (aI trivial (aI (rfl : ([] : List Nat) = []) (t))))))) ?_
 refine seq_in ?_
 refine ends_blk ?_
 refine so [] [] [(7, cI v1), (8, cB v3), (9, cB v5), (21, cB (decide (v1 ≥ 0)))] [] id ?_
 rcases ofCond H with ⟨c7, H⟩ | ⟨c7, H⟩
 ·refine it c7 ?_
  refine so [] [] [(6, cI v1)] [] id ?_
  refine ends_ret ?_
  cases H
  exact And.intro (.inl rfl) rfl
 ·refine jf c7 ?_
  rcases ofCond H with ⟨c8, H⟩ | ⟨c8, H⟩
  ·refine so [.g true, .g true] [] [(8, cB v3), (9, cB v5), (25, cB v5)] [] (fun t => aI c8 (aI c8 (t))) ?_
   rcases ofCond H with ⟨c9, H⟩ | ⟨c9, H⟩
   ·refine it c9 ?_
    refine so [] [] [(6, cI 2)] [] id ?_
    refine ends_ret ?_
    cases H
    exact And.intro (.inl rfl) rfl
   ·refine jf c9 ?_
    refine so [] [] [(9, cB v5), (30, cB v3)] [] id ?_
    refine it c8 ?_
    refine so [] [] [(6, cI 0)] [] id ?_
    refine ends_ret ?_
    cases H
    exact And.intro (.inl rfl) rfl
  ·refine so [.g false, .g false] [] [(8, cB v3), (9, cB v5), (25, cB false)] [] (fun t => aI c8 (aI c8 (t))) ?_
   refine jf (rfl : (false : Bool) = false) ?_
   refine so [] [] [(9, cB v5), (30, cB v3)] [] id ?_
   refine jf c8 ?_
   refine so [] [] [(32, cB v5)] [] id ?_
   rcases ofCond H with ⟨c10, H⟩ | ⟨c10, H⟩
   ·refine it c10 ?_
    refine so [] [] [(6, cI 1)] [] id ?_
    refine ends_ret ?_
    cases H
    exact And.intro (.inl rfl) rfl
   ·refine jf c10 ?_
    refine sk ?_
    refine so [] [] [(6, cI (-1))] [] id ?_
    refine ends_ret ?_
    cases H
    exact And.intro (.inl rfl) rfl
def i_holderOf_ir : S :=
 (.seq (.ops [o 3 (.box 12 (.t 0)), o 4 (.box 3 (.t 1)), o 6 (.mv (.v (.int .i64 0)))])
 (.seq (.seq (.ops [o 8 (.load 12 true (.t 3)), o 9 (.load 3 true (.t 4)), o 10 (.mv (.t 2)), o 11 (.call 162 [.t 8, .t 9, .t 10]), o 7 (.mv (.t 11))])
 (.seq (.ops [o 12 (.mv (.t 7)), o 13 (.bin .eql (.t 12) (.v (.int .i64 0))), o 14 (.mv (.t 13)), ⟨some 15, .mv (.t 7), some (14, false)⟩, ⟨some 16, .bin .eql (.t 15) (.v (.int .i64 1)), some (14, false)⟩, o 17 (.pick (.t 14) (.v (.bool true)) (.t 16))])
 (.ite (.t 17) (.seq (.ops [o 18 (.mv (.t 7)), o 6 (.mv (.t 18))])
  .ret)
 .skip)))
 (.seq (.ops [o 6 (.mv (.v (.int .i64 (-1))))])
 .ret)))
noncomputable def X.i_holderOf (p0 : TBoard) (p1 : TState) (p2 : Int) : Option Int :=
 ((X.i_controlOf p0 p1 p2).bind fun v1 => (bif (v1 == 0) then some v1 else (bif (v1 == 1) then some v1 else some (-1))))
theorem i_holderOf_ok (p0 : TBoard) (p1 : TState) (p2 : Int) (r : Int) (H : X.i_holderOf p0 p1 p2 = some r) : FnOk Tryz.prog gl 101 [.agg (eTBoard p0), .agg (eTState p1), cI p2] (cI r) := by
 unfold X.i_holderOf at H
 refine fi Tryz.f101 i_holderOf_ir [(6, cI r)] [] glL Tryz.func101 ?_
 refine so [] [] [(2, cI p2), (3, pk 3), (4, pk 4)] [(3, va (eTBoard p0)), (4, va (eTState p1))] id ?_
 refine seq_in ?_
 obtain ⟨v1, h2, H⟩ := ofBind H
 refine so [.res (cI v1)] [] [(7, cI v1)] [] (fun t => aI (i_controlOf_ok p0 p1 p2 v1 h2) (t)) ?_
 rcases ofCond H with ⟨c3, H⟩ | ⟨c3, H⟩
 ·refine so [.g true, .g true, .g true] [] [(7, cI v1), (17, cB true)] [] (fun t => aI c3 (aI c3 (aI c3 (t)))) ?_
  refine it (rfl : (true : Bool) = true) ?_
  refine so [] [] [(6, cI v1)] [] id ?_
  refine ends_ret ?_
  cases H
  exact And.intro (.inl rfl) rfl
 ·refine so [.g false, .g false, .g false] [] [(7, cI v1), (17, cB (v1 == 1))] [] (fun t => aI c3 (aI c3 (aI c3 (t)))) ?_
  rcases ofCond H with ⟨c4, H⟩ | ⟨c4, H⟩
  ·refine it c4 ?_
   refine so [] [] [(6, cI v1)] [] id ?_
   refine ends_ret ?_
   cases H
   exact And.intro (.inl rfl) rfl
  ·refine jf c4 ?_
   refine sk ?_
   refine so [] [] [(6, cI (-1))] [] id ?_
   refine ends_ret ?_
   cases H
   exact And.intro (.inl rfl) rfl
def i_FreeGoals_ir : S :=
 (.seq (.ops [o 3 (.box 12 (.t 0)), o 4 (.box 3 (.t 1)), o 5 (.box 3 (.t 2)), o 6 (.mv (.v (.nil))), o 7 (.mv (.v (.bool false)))])
 (.seq (.seq (.ops [o 11 (.load 12 true (.t 3)), o 12 (.load 3 true (.t 4)), o 13 (.load 3 true (.t 5)), o 14 (.call 100 [.t 11, .t 12, .t 13]), o 15 (.not (.t 14))])
 (.ite (.t 15) (.seq (.ops [o 6 (.mv (.v (.nil))), o 7 (.mv (.v (.bool false)))])
  .ret)
 .skip))
 (.seq (.ops [o 16 (.bsl 1 []), o 8 (.mv (.t 16))])
 (.seq (.seq (.ops [o 17 (.fad 0 (.t 5)), o 18 (.load 1 false (.t 17)), o 19 (.len (.t 18)), o 20 (.mv (.v (.int .i64 0)))])
 (.blk 0 (.loop (.seq (.ops [o 21 (.bin .lss (.t 20) (.t 19))])
   (.seq (.ite (.t 21) .skip
   (.exit 0))
   (.seq (.blk 1 (.seq (.ops [o 22 (.mv (.t 20)), o 23 (.iad 2 (.t 18) (.t 20)), o 24 (.load 2 true (.t 23)), o 10 (.alloc [.int .i64 0, .int .i64 0]), o 9 (.mv (.t 22)), ⟨none, .store 2 (.t 10) (.t 24), none⟩])
    (.seq (.ops [o 25 (.load 12 true (.t 3)), o 26 (.load 3 true (.t 4)), o 27 (.fad 0 (.t 10)), o 28 (.load 1 false (.t 27)), o 29 (.call 101 [.t 25, .t 26, .t 28]), o 30 (.bin .lss (.t 29) (.v (.int .i64 0)))])
    (.ite (.t 30) (.ops [o 31 (.mv (.t 8)), o 32 (.mv (.t 9)), o 33 (.bsl 1 [.t 32]), o 34 (.app 1 8 (.t 31) (.t 33)), o 8 (.mv (.t 34))])
    .skip))))
   (.ops [o 35 (.bin .add (.t 20) (.v (.int .i64 1))), o 20 (.mv (.t 35))])))))))
 (.seq (.ops [o 36 (.mv (.t 8)), o 6 (.mv (.t 36)), o 7 (.mv (.v (.bool true)))])
 .ret)))))
noncomputable def X.i_FreeGoals (p0 : TBoard) (p1 : TState) (p2 : TConditions) : Option ((List Int) × Bool) :=
 ((X.i_hasConditions p0 p1 p2).bind fun v4 => (bif (!v4) then some (([] : List Int), false) else ((loop (fun (x24 : (Int × (List Int))) => ((bif (decide (x24.1 < (p2.Goals.length : Int))) then ((at' zTGoal p2.Goals x24.1).bind fun v27 => ((X.i_holderOf p0 p1 v27.At).bind fun v29 => (bif (decide (v29 < 0)) then (if (x24.2 ++ ([x24.1] : List Int)).length ≤ LIM then some (Sum.inl ((W (x24.1 + 1)), (x24.2 ++ ([x24.1] : List Int)))) else none) else some (Sum.inl ((W (x24.1 + 1)), x24.2))))) else some (Sum.inr x24.2)) : Option ((Int × (List Int)) ⊕ (List Int)))) (0, ([] : List Int))).bind fun y33 => some (y33, true))))
theorem i_FreeGoals_ok (p0 : TBoard) (p1 : TState) (p2 : TConditions) (r : ((List Int) × Bool)) (H : X.i_FreeGoals p0 p1 p2 = some r) : FnOk Tryz.prog gl 38 [.agg (eTBoard p0), .agg (eTState p1), .agg (eTConditions p2)] (.tup [(false, [dat 1 eI zI r.1]), (false, [.bool r.2])]) := by
 unfold X.i_FreeGoals at H
 refine fi Tryz.f38 i_FreeGoals_ir [(6, dc 1 eI zI r.1), (7, cB r.2)] [] glL Tryz.func38 ?_
 refine so [] [] [(3, pk 3), (4, pk 4), (5, pk 5)] [(3, va (eTBoard p0)), (4, va (eTState p1)), (5, va (eTConditions p2))] id ?_
 refine seq_in ?_
 obtain ⟨v4, h5, H⟩ := ofBind H
 refine so [.res (cB v4)] [] [(3, pk 3), (4, pk 4), (5, pk 5), (15, cB (!v4))] [(3, va (eTBoard p0)), (4, va (eTState p1)), (5, va (eTConditions p2))] (fun t => aI (i_hasConditions_ok p0 p1 p2 v4 h5) (t)) ?_
 rcases ofCond H with ⟨c6, H⟩ | ⟨c6, H⟩
 ·refine it c6 ?_
  refine so [] [] [(6, .c (.nil)), (7, cB false)] [] id ?_
  refine tl [.nld 6 1 (fF eI zI ([] : List Int))] [(6, .c (dat 1 eI zI ([] : List Int))), (7, cB false)] [] id ?_
  refine ends_ret ?_
  cases H
  exact And.intro (.inl rfl) rfl
 ·refine jf c6 ?_
  refine sk ?_
  refine so [.fn ([] : List Int).length (fF eI zI ([] : List Int))] [] [(3, pk 3), (4, pk 4), (5, pk 5), (8, .c (.own 16 1 0 (([] : List Int).length)))] [(3, va (eTBoard p0)), (4, va (eTState p1)), (5, va (eTConditions p2)), (16, .arr 1 (([] : List Int).length) (fF eI zI ([] : List Int)) false)] (fun t => aI (rfl : ([] : List Int).length = 0) (aI (fF_lit eI zI ([] : List Int)) (t))) ?_
  refine seq_in ?_
  refine so [] [] [(3, pk 3), (4, pk 4), (8, .c (.own 16 1 0 (([] : List Int).length))), (18, dc 2 eTGoal zTGoal p2.Goals), (19, cI (p2.Goals.length : Int)), (20, cI 0)] [(3, va (eTBoard p0)), (4, va (eTState p1)), (16, .arr 1 (([] : List Int).length) (fF eI zI ([] : List Int)) false)] (fun t => lI p2.Goals (t)) ?_
  refine ends_blk ?_
  obtain ⟨y33, h34, H⟩ := ofBind H
  refine tl [.ren 16 1001] [(3, pk 3), (4, pk 4), (8, .c (.own 1001 1 0 (([] : List Int).length))), (18, dc 2 eTGoal zTGoal p2.Goals), (19, cI (p2.Goals.length : Int)), (20, cI 0)] [(3, va (eTBoard p0)), (4, va (eTState p1)), (1001, .arr 1 (([] : List Int).length) (fF eI zI ([] : List Int)) false)] id ?_
  refine loop_in (fun (x : (Int × (List Int))) => lit [(3, pk 3), (4, pk 4), (8, .c (.own 1001 1 0 x.2.length)), (18, dc 2 eTGoal zTGoal p2.Goals), (19, cI (p2.Goals.length : Int)), (20, cI x.1)] [(3, va (eTBoard p0)), (4, va (eTState p1)), (1001, .arr 1 x.2.length (fF eI zI x.2) false)]) (fun (z : (List Int)) => At (.exit 0) (lit [(8, .c (.own 1001 1 0 z.length))] [(1001, .arr 1 z.length (fF eI zI z) false)])) h34 ?_ ?_
  ·clear H h34
   intro x24 y0 H
   refine so [] [] [(3, pk 3), (4, pk 4), (8, .c (.own 1001 1 0 x24.2.length)), (18, dc 2 eTGoal zTGoal p2.Goals), (19, cI (p2.Goals.length : Int)), (20, cI x24.1), (21, cB (decide (x24.1 < (p2.Goals.length : Int))))] [(3, va (eTBoard p0)), (4, va (eTState p1)), (1001, .arr 1 x24.2.length (fF eI zI x24.2) false)] id ?_
   refine seq_in ?_
   rcases ofCond H with ⟨c26, H⟩ | ⟨c26, H⟩
   ·refine it c26 ?_
    refine sk ?_
    refine seq_in ?_
    refine ends_blk ?_
    obtain ⟨v27, h28, H⟩ := ofBind H
    refine so [.cs (eTGoal v27)] [] [(3, pk 3), (4, pk 4), (8, .c (.own 1001 1 0 x24.2.length)), (9, cI x24.1), (10, pk 10), (18, dc 2 eTGoal zTGoal p2.Goals), (19, cI (p2.Goals.length : Int)), (20, cI x24.1)] [(3, va (eTBoard p0)), (4, va (eTState p1)), (10, va (eTGoal v27)), (1001, .arr 1 x24.2.length (fF eI zI x24.2) false)] (fun t => aI (at_lt h28) (aI (at_enc (enc := eTGoal) h28) (t))) ?_
    obtain ⟨v29, h30, H⟩ := ofBind H
    refine so [.res (cI v29)] [] [(3, pk 3), (4, pk 4), (8, .c (.own 1001 1 0 x24.2.length)), (9, cI x24.1), (18, dc 2 eTGoal zTGoal p2.Goals), (19, cI (p2.Goals.length : Int)), (20, cI x24.1), (30, cB (decide (v29 < 0)))] [(3, va (eTBoard p0)), (4, va (eTState p1)), (1001, .arr 1 x24.2.length (fF eI zI x24.2) false)] (fun t => aI (i_holderOf_ok p0 p1 v27.At v29 h30) (t)) ?_
    rcases ofCond H with ⟨c31, H⟩ | ⟨c31, H⟩
    ·refine it c31 ?_
     obtain ⟨g32, H⟩ := ofIf H
     refine oo [.fn ([x24.1] : List Int).length (fF eI zI ([x24.1] : List Int)), .fn (x24.2 ++ ([x24.1] : List Int)).length (fF eI zI (x24.2 ++ ([x24.1] : List Int)))] [] [(3, pk 3), (4, pk 4), (8, .c (.own 34 1 0 ((x24.2 ++ ([x24.1] : List Int)).length))), (18, dc 2 eTGoal zTGoal p2.Goals), (19, cI (p2.Goals.length : Int)), (20, cI x24.1)] [(3, va (eTBoard p0)), (4, va (eTState p1)), (34, .arr 1 ((x24.2 ++ ([x24.1] : List Int)).length) (fF eI zI (x24.2 ++ ([x24.1] : List Int))) false)] (fun t => aI (rfl : ([x24.1] : List Int).length = 1) (aI (fF_lit eI zI ([x24.1] : List Int)) (aI (And.intro (Nat.le_refl x24.2.length) (And.intro (@List.length_append _ x24.2 ([x24.1] : List Int)) g32)) (aI (fF_appL eI zI x24.2 ([x24.1] : List Int)) (aI (fF_appR eI zI x24.2 ([x24.1] : List Int)) (t)))))) ?_
     change EndsI _ _ _ _ _ _
     refine oo [] [.ren 34 1001] [(3, pk 3), (4, pk 4), (8, .c (.own 1001 1 0 ((x24.2 ++ ([x24.1] : List Int)).length))), (18, dc 2 eTGoal zTGoal p2.Goals), (19, cI (p2.Goals.length : Int)), (20, cI (W (x24.1 + 1)))] [(3, va (eTBoard p0)), (4, va (eTState p1)), (1001, .arr 1 ((x24.2 ++ ([x24.1] : List Int)).length) (fF eI zI (x24.2 ++ ([x24.1] : List Int))) false)] id ?_
     cases H
     exact And.intro rfl rfl
    ·refine jf c31 ?_
     refine sk ?_
     refine oo [] [] [(3, pk 3), (4, pk 4), (8, .c (.own 1001 1 0 x24.2.length)), (18, dc 2 eTGoal zTGoal p2.Goals), (19, cI (p2.Goals.length : Int)), (20, cI (W (x24.1 + 1)))] [(3, va (eTBoard p0)), (4, va (eTState p1)), (1001, .arr 1 x24.2.length (fF eI zI x24.2) false)] id ?_
     cases H
     exact And.intro rfl rfl
   ·refine jf c26 ?_
    refine tl [] [(8, .c (.own 1001 1 0 x24.2.length))] [(1001, .arr 1 x24.2.length (fF eI zI x24.2) false)] id ?_
    refine ends_exit ?_
    cases H
    exact And.intro (by simp) (And.intro rfl rfl)
  ·clear h34
   intro e s q
   obtain ⟨rfl, rfl⟩ := q
   change EndsI _ _ _ _ _ _
   refine so [] [] [(6, .c (.own 1001 1 0 y33.length)), (7, cB true)] [(1001, .arr 1 y33.length (fF eI zI y33) false)] id ?_
   refine tl [.frz 6] [(6, dc 1 eI zI y33), (7, cB true)] [] (fun t => aI (Nat.le_refl y33.length) (t)) ?_
   refine ends_ret ?_
   cases H
   exact And.intro (.inl rfl) rfl
theorem i_FreeGoals_Mddd_ok (p0 : TBoard) (p1 : TState) (p2 : TConditions) (r : ((List Int) × Bool)) (H : X.i_FreeGoals p0 p1 p2 = some r) : FnMu Tryz.prog gl 38 [.agg (eTBoard p0), .agg (eTState p1), .agg (eTConditions p2)] [] (.tup [(false, [.own 900000 1 0 r.1.length]), (false, [.bool r.2])]) [(900000, .arr 1 r.1.length (fF eI zI r.1) false)] := by
 unfold X.i_FreeGoals at H
 refine fn_mu (fn := Tryz.f38) (ir := i_FreeGoals_ir) (E' := [(6, .c (.own 900000 1 0 r.1.length)), (7, cB r.2)]) (E1 := [(900000, .arr 1 r.1.length (fF eI zI r.1) false)]) glL Tryz.func38 (by kernel_rfl) (by kernel_rfl) (by kernel_rfl) (by kernel_rfl) (by kernel_rfl) ?_
 refine so [] [] [(3, pk 3), (4, pk 4), (5, pk 5)] [(3, va (eTBoard p0)), (4, va (eTState p1)), (5, va (eTConditions p2))] id ?_
 refine seq_in ?_
 obtain ⟨v4, h5, H⟩ := ofBind H
 refine so [.res (cB v4)] [] [(3, pk 3), (4, pk 4), (5, pk 5), (15, cB (!v4))] [(3, va (eTBoard p0)), (4, va (eTState p1)), (5, va (eTConditions p2))] (fun t => aI (i_hasConditions_ok p0 p1 p2 v4 h5) (t)) ?_
 rcases ofCond H with ⟨c6, H⟩ | ⟨c6, H⟩
 ·refine it c6 ?_
  refine so [] [] [(6, .c (.nil)), (7, cB false)] [] id ?_
  refine tl [.nlo 6 900000 1 (fF eI zI ([] : List Int))] [(6, .c (.own 900000 1 0 (([] : List Int).length))), (7, cB false)] [(900000, .arr 1 (([] : List Int).length) (fF eI zI ([] : List Int)) false)] (fun t => aI (by decide : 0 < 1) (t)) ?_
  refine ends_ret ?_
  cases H
  exact And.intro (.inl rfl) rfl
 ·refine jf c6 ?_
  refine sk ?_
  refine so [.fn ([] : List Int).length (fF eI zI ([] : List Int))] [] [(3, pk 3), (4, pk 4), (5, pk 5), (8, .c (.own 16 1 0 (([] : List Int).length)))] [(3, va (eTBoard p0)), (4, va (eTState p1)), (5, va (eTConditions p2)), (16, .arr 1 (([] : List Int).length) (fF eI zI ([] : List Int)) false)] (fun t => aI (rfl : ([] : List Int).length = 0) (aI (fF_lit eI zI ([] : List Int)) (t))) ?_
  refine seq_in ?_
  refine so [] [] [(3, pk 3), (4, pk 4), (8, .c (.own 16 1 0 (([] : List Int).length))), (18, dc 2 eTGoal zTGoal p2.Goals), (19, cI (p2.Goals.length : Int)), (20, cI 0)] [(3, va (eTBoard p0)), (4, va (eTState p1)), (16, .arr 1 (([] : List Int).length) (fF eI zI ([] : List Int)) false)] (fun t => lI p2.Goals (t)) ?_
  refine ends_blk ?_
  obtain ⟨y33, h34, H⟩ := ofBind H
  refine tl [.ren 16 1001] [(3, pk 3), (4, pk 4), (8, .c (.own 1001 1 0 (([] : List Int).length))), (18, dc 2 eTGoal zTGoal p2.Goals), (19, cI (p2.Goals.length : Int)), (20, cI 0)] [(3, va (eTBoard p0)), (4, va (eTState p1)), (1001, .arr 1 (([] : List Int).length) (fF eI zI ([] : List Int)) false)] id ?_
  refine loop_in (fun (x : (Int × (List Int))) => lit [(3, pk 3), (4, pk 4), (8, .c (.own 1001 1 0 x.2.length)), (18, dc 2 eTGoal zTGoal p2.Goals), (19, cI (p2.Goals.length : Int)), (20, cI x.1)] [(3, va (eTBoard p0)), (4, va (eTState p1)), (1001, .arr 1 x.2.length (fF eI zI x.2) false)]) (fun (z : (List Int)) => At (.exit 0) (lit [(8, .c (.own 1001 1 0 z.length))] [(1001, .arr 1 z.length (fF eI zI z) false)])) h34 ?_ ?_
  ·clear H h34
   intro x24 y0 H
   refine so [] [] [(3, pk 3), (4, pk 4), (8, .c (.own 1001 1 0 x24.2.length)), (18, dc 2 eTGoal zTGoal p2.Goals), (19, cI (p2.Goals.length : Int)), (20, cI x24.1), (21, cB (decide (x24.1 < (p2.Goals.length : Int))))] [(3, va (eTBoard p0)), (4, va (eTState p1)), (1001, .arr 1 x24.2.length (fF eI zI x24.2) false)] id ?_
   refine seq_in ?_
   rcases ofCond H with ⟨c26, H⟩ | ⟨c26, H⟩
   ·refine it c26 ?_
    refine sk ?_
    refine seq_in ?_
    refine ends_blk ?_
    obtain ⟨v27, h28, H⟩ := ofBind H
    refine so [.cs (eTGoal v27)] [] [(3, pk 3), (4, pk 4), (8, .c (.own 1001 1 0 x24.2.length)), (9, cI x24.1), (10, pk 10), (18, dc 2 eTGoal zTGoal p2.Goals), (19, cI (p2.Goals.length : Int)), (20, cI x24.1)] [(3, va (eTBoard p0)), (4, va (eTState p1)), (10, va (eTGoal v27)), (1001, .arr 1 x24.2.length (fF eI zI x24.2) false)] (fun t => aI (at_lt h28) (aI (at_enc (enc := eTGoal) h28) (t))) ?_
    obtain ⟨v29, h30, H⟩ := ofBind H
    refine so [.res (cI v29)] [] [(3, pk 3), (4, pk 4), (8, .c (.own 1001 1 0 x24.2.length)), (9, cI x24.1), (18, dc 2 eTGoal zTGoal p2.Goals), (19, cI (p2.Goals.length : Int)), (20, cI x24.1), (30, cB (decide (v29 < 0)))] [(3, va (eTBoard p0)), (4, va (eTState p1)), (1001, .arr 1 x24.2.length (fF eI zI x24.2) false)] (fun t => aI (i_holderOf_ok p0 p1 v27.At v29 h30) (t)) ?_
    rcases ofCond H with ⟨c31, H⟩ | ⟨c31, H⟩
    ·refine it c31 ?_
     obtain ⟨g32, H⟩ := ofIf H
     refine oo [.fn ([x24.1] : List Int).length (fF eI zI ([x24.1] : List Int)), .fn (x24.2 ++ ([x24.1] : List Int)).length (fF eI zI (x24.2 ++ ([x24.1] : List Int)))] [] [(3, pk 3), (4, pk 4), (8, .c (.own 34 1 0 ((x24.2 ++ ([x24.1] : List Int)).length))), (18, dc 2 eTGoal zTGoal p2.Goals), (19, cI (p2.Goals.length : Int)), (20, cI x24.1)] [(3, va (eTBoard p0)), (4, va (eTState p1)), (34, .arr 1 ((x24.2 ++ ([x24.1] : List Int)).length) (fF eI zI (x24.2 ++ ([x24.1] : List Int))) false)] (fun t => aI (rfl : ([x24.1] : List Int).length = 1) (aI (fF_lit eI zI ([x24.1] : List Int)) (aI (And.intro (Nat.le_refl x24.2.length) (And.intro (@List.length_append _ x24.2 ([x24.1] : List Int)) g32)) (aI (fF_appL eI zI x24.2 ([x24.1] : List Int)) (aI (fF_appR eI zI x24.2 ([x24.1] : List Int)) (t)))))) ?_
     change EndsI _ _ _ _ _ _
     refine oo [] [.ren 34 1001] [(3, pk 3), (4, pk 4), (8, .c (.own 1001 1 0 ((x24.2 ++ ([x24.1] : List Int)).length))), (18, dc 2 eTGoal zTGoal p2.Goals), (19, cI (p2.Goals.length : Int)), (20, cI (W (x24.1 + 1)))] [(3, va (eTBoard p0)), (4, va (eTState p1)), (1001, .arr 1 ((x24.2 ++ ([x24.1] : List Int)).length) (fF eI zI (x24.2 ++ ([x24.1] : List Int))) false)] id ?_
     cases H
     exact And.intro rfl rfl
    ·refine jf c31 ?_
     refine sk ?_
     refine oo [] [] [(3, pk 3), (4, pk 4), (8, .c (.own 1001 1 0 x24.2.length)), (18, dc 2 eTGoal zTGoal p2.Goals), (19, cI (p2.Goals.length : Int)), (20, cI (W (x24.1 + 1)))] [(3, va (eTBoard p0)), (4, va (eTState p1)), (1001, .arr 1 x24.2.length (fF eI zI x24.2) false)] id ?_
     cases H
     exact And.intro rfl rfl
   ·refine jf c26 ?_
    refine tl [] [(8, .c (.own 1001 1 0 x24.2.length))] [(1001, .arr 1 x24.2.length (fF eI zI x24.2) false)] id ?_
    refine ends_exit ?_
    cases H
    exact And.intro (by simp) (And.intro rfl rfl)
  ·clear h34
   intro e s q
   obtain ⟨rfl, rfl⟩ := q
   change EndsI _ _ _ _ _ _
   refine so [] [] [(6, .c (.own 1001 1 0 y33.length)), (7, cB true)] [(1001, .arr 1 y33.length (fF eI zI y33) false)] id ?_
   refine tl [.ren 1001 900000] [(6, .c (.own 900000 1 0 y33.length)), (7, cB true)] [(900000, .arr 1 y33.length (fF eI zI y33) false)] id ?_
   refine ends_ret ?_
   cases H
   exact And.intro (.inl rfl) rfl
def l_eqGoal_ir : S :=
 (.seq (.ops [o 2 (.box 2 (.t 0)), o 3 (.box 2 (.t 1)), o 4 (.mv (.v (.bool false)))])
 (.seq (.seq (.ops [o 5 (.fad 0 (.t 2)), o 6 (.load 1 false (.t 5)), o 7 (.fad 0 (.t 3)), o 8 (.load 1 false (.t 7)), o 9 (.bin .neq (.t 6) (.t 8))])
 (.ite (.t 9) (.seq (.ops [o 4 (.mv (.v (.bool false)))])
  .ret)
 .skip))
 (.seq (.seq (.ops [o 10 (.fad 1 (.t 2)), o 11 (.load 1 false (.t 10)), o 12 (.fad 1 (.t 3)), o 13 (.load 1 false (.t 12)), o 14 (.bin .neq (.t 11) (.t 13))])
 (.ite (.t 14) (.seq (.ops [o 4 (.mv (.v (.bool false)))])
  .ret)
 .skip))
 (.seq (.ops [o 4 (.mv (.v (.bool true)))])
 .ret))))
noncomputable def X.l_eqGoal (p0 : TGoal) (p1 : TGoal) : Option Bool :=
 (bif (p0.At != p1.At) then some false else (bif (p0.Points != p1.Points) then some false else some true))
theorem l_eqGoal_ok (p0 : TGoal) (p1 : TGoal) (r : Bool) (H : X.l_eqGoal p0 p1 = some r) : FnOk Tryz.prog gl 163 [.agg (eTGoal p0), .agg (eTGoal p1)] (cB r) := by
 unfold X.l_eqGoal at H
 refine fi Tryz.f163 l_eqGoal_ir [(4, cB r)] [] glL Tryz.func163 ?_
 refine so [] [] [(2, pk 2), (3, pk 3)] [(2, va (eTGoal p0)), (3, va (eTGoal p1))] id ?_
 refine seq_in ?_
 refine so [] [] [(2, pk 2), (3, pk 3), (9, cB (p0.At != p1.At))] [(2, va (eTGoal p0)), (3, va (eTGoal p1))] id ?_
 rcases ofCond H with ⟨c2, H⟩ | ⟨c2, H⟩
 ·refine it c2 ?_
  refine so [] [] [(4, cB false)] [] id ?_
  refine ends_ret ?_
  cases H
  exact And.intro (.inl rfl) rfl
 ·refine jf c2 ?_
  refine sk ?_
  refine seq_in ?_
  refine so [] [] [(14, cB (p0.Points != p1.Points))] [] id ?_
  rcases ofCond H with ⟨c3, H⟩ | ⟨c3, H⟩
  ·refine it c3 ?_
   refine so [] [] [(4, cB false)] [] id ?_
   refine ends_ret ?_
   cases H
   exact And.intro (.inl rfl) rfl
  ·refine jf c3 ?_
   refine sk ?_
   refine so [] [] [(4, cB true)] [] id ?_
   refine ends_ret ?_
   cases H
   exact And.intro (.inl rfl) rfl
def l_eqGoalS_ir : S :=
 (.seq (.ops [o 4 (.mv (.v (.bool false)))])
 (.seq (.seq (.ops [o 6 (.mv (.t 0)), o 7 (.len (.t 6)), o 8 (.mv (.t 1)), o 9 (.len (.t 8)), o 10 (.bin .neq (.t 7) (.t 9))])
 (.ite (.t 10) (.seq (.ops [o 4 (.mv (.v (.bool false)))])
  .ret)
 .skip))
 (.seq (.seq (.ops [o 5 (.mv (.v (.int .i64 0)))])
 (.blk 0 (.loop (.seq (.seq (.ops [o 11 (.mv (.t 5)), o 12 (.mv (.t 0)), o 13 (.len (.t 12)), o 14 (.bin .lss (.t 11) (.t 13))])
   (.ite (.t 14) .skip
   (.exit 0)))
   (.seq (.blk 1 (.seq (.draw 10 [o 17 (.mv (.t 0)), o 18 (.mv (.t 5)), o 19 (.iad 2 (.t 17) (.t 18)), o 20 (.load 2 true (.t 19)), o 21 (.mv (.t 1)), o 22 (.mv (.t 5)), o 23 (.iad 2 (.t 21) (.t 22)), o 24 (.load 2 true (.t 23)), o 25 (.call 163 [.t 20, .t 24]), o 26 (.not (.t 25))])
    (.ite (.t 26) (.seq (.ops [o 4 (.mv (.v (.bool false)))])
     .ret)
    .skip)))
   (.ops [o 15 (.mv (.t 5)), o 16 (.bin .add (.t 15) (.v (.int .i64 1))), o 5 (.mv (.t 16))]))))))
 (.seq (.ops [o 4 (.mv (.v (.bool true)))])
 .ret))))
noncomputable def X.l_eqGoalS (p0 : (List TGoal)) (p1 : (List TGoal)) : Option Bool :=
 (bif ((p0.length : Int) != (p1.length : Int)) then some false else ((loop (fun (x22 : Int) => ((bif (decide (x22 < (p0.length : Int))) then ((at' zTGoal p0 x22).bind fun v25 => ((at' zTGoal p1 x22).bind fun v27 => ((X.l_eqGoal v25 v27).bind fun v29 => (bif (!v29) then some (Sum.inr (Sum.inr false)) else some (Sum.inl (W (x22 + 1))))))) else some (Sum.inr (Sum.inl ()))) : Option (Int ⊕ (Unit ⊕ Bool)))) 0).bind fun y32 => (Sum.elim (fun (y34 : Unit) => some true) (fun (y35 : Bool) => some y35) y32)))
theorem l_eqGoalS_ok (p0 : (List TGoal)) (p1 : (List TGoal)) (r : Bool) (H : X.l_eqGoalS p0 p1 = some r) : FnOk Tryz.prog gl 102 [.c (dat 2 eTGoal zTGoal p0), .c (dat 2 eTGoal zTGoal p1)] (cB r) := by
 unfold X.l_eqGoalS at H
 refine fi Tryz.f102 l_eqGoalS_ir [(4, cB r)] [] glL Tryz.func102 ?_
 refine so [] [] [(0, dc 2 eTGoal zTGoal p0), (1, dc 2 eTGoal zTGoal p1)] [] id ?_
 refine seq_in ?_
 refine so [] [] [(0, dc 2 eTGoal zTGoal p0), (1, dc 2 eTGoal zTGoal p1), (10, cB ((p0.length : Int) != (p1.length : Int)))] [] (fun t => lI p0 (lI p1 (t))) ?_
 rcases ofCond H with ⟨c2, H⟩ | ⟨c2, H⟩
 ·refine it c2 ?_
  refine so [] [] [(4, cB false)] [] id ?_
  refine ends_ret ?_
  cases H
  exact And.intro (.inl rfl) rfl
 ·refine jf c2 ?_
  refine sk ?_
  refine seq_in ?_
  refine so [] [] [(0, dc 2 eTGoal zTGoal p0), (1, dc 2 eTGoal zTGoal p1), (5, cI 0)] [] id ?_
  refine ends_blk ?_
  obtain ⟨y32, h33, H⟩ := ofBind H
  refine loop_in (fun (x : Int) => lit [(0, dc 2 eTGoal zTGoal p0), (1, dc 2 eTGoal zTGoal p1), (5, cI x)] []) (orJ (fun (z : Unit) => At (.exit 0) (lit [] [])) (fun (z : Bool) => At .ret (lit [(4, cB z)] []))) h33 ?_ ?_
  ·clear H h33
   intro x22 y0 H
   refine seq_in ?_
   refine so [] [] [(0, dc 2 eTGoal zTGoal p0), (1, dc 2 eTGoal zTGoal p1), (5, cI x22), (14, cB (decide (x22 < (p0.length : Int))))] [] (fun t => lI p0 (t)) ?_
   rcases ofCond H with ⟨c24, H⟩ | ⟨c24, H⟩
   ·refine it c24 ?_
    refine sk ?_
    refine seq_in ?_
    refine ends_blk ?_
    obtain ⟨v25, h26, H⟩ := ofBind H
    obtain ⟨v27, h28, H⟩ := ofBind H
    obtain ⟨v29, h30, H⟩ := ofBind H
    refine sd [.cs (eTGoal v25), .cs (eTGoal v27), .res (cB v29)] [] [(0, dc 2 eTGoal zTGoal p0), (1, dc 2 eTGoal zTGoal p1), (5, cI x22), (26, cB (!v29))] [] (fun t => aI (at_lt h26) (aI (at_enc (enc := eTGoal) h26) (aI (rfl : ([] : List Nat) = []) (aI (at_lt h28) (aI (at_enc (enc := eTGoal) h28) (aI (rfl : ([] : List Nat) = []) (aI (l_eqGoal_ok v25 v27 v29 h30) (aI trivial (aI (rfl : ([] : List Nat) = []) (t)))))))))) ?_
    rcases ofCond H with ⟨c31, H⟩ | ⟨c31, H⟩
    ·refine it c31 ?_
     refine so [] [] [(4, cB false)] [] id ?_
     refine ends_ret ?_
     cases H
     exact And.intro (by simp) (And.intro rfl rfl)
    ·refine jf c31 ?_
     refine sk ?_
     refine oo [] [] [(0, dc 2 eTGoal zTGoal p0), (1, dc 2 eTGoal zTGoal p1), (5, cI (W (x22 + 1)))] [] id ?_
     cases H
     exact And.intro rfl rfl
   ·refine jf c24 ?_
    refine tl [] [] [] id ?_
    refine ends_exit ?_
    cases H
    exact And.intro (by simp) (And.intro rfl rfl)
  ·clear h33
   cases y32 with
   | inl y34 =>
    replace H := ofInl H
    intro e s q
    obtain ⟨rfl, rfl⟩ := q
    change EndsI _ _ _ _ _ _
    refine so [] [] [(4, cB true)] [] id ?_
    refine ends_ret ?_
    cases H
    exact And.intro (.inl rfl) rfl
   | inr y35 =>
    replace H := ofInr H
    intro e s q
    obtain ⟨rfl, rfl⟩ := q
    cases H
    exact And.intro (.inl rfl) rfl
def l_eqConditions_ir : S :=
 (.seq (.ops [o 2 (.box 3 (.t 0)), o 3 (.box 3 (.t 1)), o 4 (.mv (.v (.bool false)))])
 (.seq (.seq (.ops [o 5 (.fad 0 (.t 2)), o 6 (.load 1 false (.t 5)), o 7 (.fad 0 (.t 3)), o 8 (.load 1 false (.t 7)), o 9 (.call 102 [.t 6, .t 8]), o 10 (.not (.t 9))])
 (.ite (.t 10) (.seq (.ops [o 4 (.mv (.v (.bool false)))])
  .ret)
 .skip))
 (.seq (.seq (.ops [o 11 (.fad 1 (.t 2)), o 12 (.load 1 false (.t 11)), o 13 (.fad 1 (.t 3)), o 14 (.load 1 false (.t 13)), o 15 (.bin .neq (.t 12) (.t 14))])
 (.ite (.t 15) (.seq (.ops [o 4 (.mv (.v (.bool false)))])
  .ret)
 .skip))
 (.seq (.seq (.ops [o 16 (.fad 2 (.t 2)), o 17 (.load 1 false (.t 16)), o 18 (.fad 2 (.t 3)), o 19 (.load 1 false (.t 18)), o 20 (.bin .neq (.t 17) (.t 19))])
 (.ite (.t 20) (.seq (.ops [o 4 (.mv (.v (.bool false)))])
  .ret)
 .skip))
 (.seq (.ops [o 4 (.mv (.v (.bool true)))])
 .ret)))))
noncomputable def X.l_eqConditions (p0 : TConditions) (p1 : TConditions) : Option Bool :=
 ((X.l_eqGoalS p0.Goals p1.Goals).bind fun v4 => (bif (!v4) then some false else (bif (p0.Step != p1.Step) then some false else (bif (p0.Margin != p1.Margin) then some false else some true))))
theorem l_eqConditions_ok (p0 : TConditions) (p1 : TConditions) (r : Bool) (H : X.l_eqConditions p0 p1 = some r) : FnOk Tryz.prog gl 39 [.agg (eTConditions p0), .agg (eTConditions p1)] (cB r) := by
 unfold X.l_eqConditions at H
 refine fi Tryz.f39 l_eqConditions_ir [(4, cB r)] [] glL Tryz.func39 ?_
 refine so [] [] [(2, pk 2), (3, pk 3)] [(2, va (eTConditions p0)), (3, va (eTConditions p1))] id ?_
 refine seq_in ?_
 obtain ⟨v4, h5, H⟩ := ofBind H
 refine so [.res (cB v4)] [] [(2, pk 2), (3, pk 3), (10, cB (!v4))] [(2, va (eTConditions p0)), (3, va (eTConditions p1))] (fun t => aI (l_eqGoalS_ok p0.Goals p1.Goals v4 h5) (t)) ?_
 rcases ofCond H with ⟨c6, H⟩ | ⟨c6, H⟩
 ·refine it c6 ?_
  refine so [] [] [(4, cB false)] [] id ?_
  refine ends_ret ?_
  cases H
  exact And.intro (.inl rfl) rfl
 ·refine jf c6 ?_
  refine sk ?_
  refine seq_in ?_
  refine so [] [] [(2, pk 2), (3, pk 3), (15, cB (p0.Step != p1.Step))] [(2, va (eTConditions p0)), (3, va (eTConditions p1))] id ?_
  rcases ofCond H with ⟨c8, H⟩ | ⟨c8, H⟩
  ·refine it c8 ?_
   refine so [] [] [(4, cB false)] [] id ?_
   refine ends_ret ?_
   cases H
   exact And.intro (.inl rfl) rfl
  ·refine jf c8 ?_
   refine sk ?_
   refine seq_in ?_
   refine so [] [] [(20, cB (p0.Margin != p1.Margin))] [] id ?_
   rcases ofCond H with ⟨c9, H⟩ | ⟨c9, H⟩
   ·refine it c9 ?_
    refine so [] [] [(4, cB false)] [] id ?_
    refine ends_ret ?_
    cases H
    exact And.intro (.inl rfl) rfl
   ·refine jf c9 ?_
    refine sk ?_
    refine so [] [] [(4, cB true)] [] id ?_
    refine ends_ret ?_
    cases H
    exact And.intro (.inl rfl) rfl
def l_markGoalS_ir : S :=
 (.seq (.ops [o 4 (.mv (.v (.int .i64 0)))])
 (.seq (.seq (.ops [o 5 (.mv (.v (.int .i64 0)))])
 (.blk 0 (.loop (.seq (.seq (.ops [o 6 (.mv (.t 5)), o 7 (.mv (.t 0)), o 8 (.len (.t 7)), o 9 (.bin .lss (.t 6) (.t 8))])
   (.ite (.t 9) .skip
   (.exit 0)))
   (.seq (.blk 1 (.seq (.ops [o 12 (.mv (.t 0)), o 13 (.mv (.t 5)), o 14 (.mv (.t 1)), o 15 (.iad 2 (.t 12) (.t 13)), o 16 (.fad 0 (.t 15)), ⟨none, .store 1 (.t 16) (.t 14), none⟩])
    (.seq (.ops [o 17 (.mv (.t 1)), o 18 (.bin .add (.t 17) (.v (.int .i64 1))), o 1 (.mv (.t 18))])
    (.seq (.ops [o 19 (.mv (.t 0)), o 20 (.mv (.t 5)), o 21 (.mv (.t 1)), o 22 (.iad 2 (.t 19) (.t 20)), o 23 (.fad 1 (.t 22)), ⟨none, .store 1 (.t 23) (.t 21), none⟩])
    (.ops [o 24 (.mv (.t 1)), o 25 (.bin .add (.t 24) (.v (.int .i64 1))), o 1 (.mv (.t 25))])))))
   (.ops [o 10 (.mv (.t 5)), o 11 (.bin .add (.t 10) (.v (.int .i64 1))), o 5 (.mv (.t 11))]))))))
 (.seq (.ops [o 26 (.mv (.t 1)), o 4 (.mv (.t 26))])
 .ret)))
noncomputable def X.l_markGoalS_L (p0 : (List TGoal)) (p1 : Int) : Option Int :=
 ((loop (fun (x10 : (Int × Int)) => ((bif (decide (x10.2 < (p0.length : Int))) then ((at' zTGoal p0 x10.2).bind fun v13 => some (Sum.inl ((W ((W (x10.1 + 1)) + 1)), (W (x10.2 + 1))))) else some (Sum.inr x10.1)) : Option ((Int × Int) ⊕ Int))) (p1, 0)).bind fun y15 => some y15)
theorem l_markGoalS_L_ok (p0 : (List TGoal)) (p1 : Int) (r : Int) (H : X.l_markGoalS_L p0 p1 = some r) : FnOk Tryz.prog gl 103 [.c (.lv (dat 2 eTGoal zTGoal p0)), cI p1] (cI r) := by
 unfold X.l_markGoalS_L at H
 refine fi Tryz.f103 l_markGoalS_ir [(4, cI r)] [] glL Tryz.func103 ?_
 refine so [] [] [(0, .c (.lv (dat 2 eTGoal zTGoal p0))), (1, cI p1)] [] id ?_
 refine seq_in ?_
 refine so [] [] [(0, .c (.lv (dat 2 eTGoal zTGoal p0))), (1, cI p1), (5, cI 0)] [] id ?_
 refine ends_blk ?_
 obtain ⟨y15, h16, H⟩ := ofBind H
 refine loop_in (fun (x : (Int × Int)) => lit [(0, .c (.lv (dat 2 eTGoal zTGoal p0))), (1, cI x.1), (5, cI x.2)] []) (fun (z : Int) => At (.exit 0) (lit [(1, cI z)] [])) h16 ?_ ?_
 ·clear H h16
  intro x10 y0 H
  refine seq_in ?_
  refine so [] [] [(0, .c (.lv (dat 2 eTGoal zTGoal p0))), (1, cI x10.1), (5, cI x10.2), (9, cB (decide (x10.2 < (p0.length : Int))))] [] (fun t => lI p0 (t)) ?_
  rcases ofCond H with ⟨c12, H⟩ | ⟨c12, H⟩
  ·refine it c12 ?_
   refine sk ?_
   refine seq_in ?_
   refine ends_blk ?_
   obtain ⟨v13, h14, H⟩ := ofBind H
   refine so [.cs (eTGoal v13)] [] [(0, .c (.lv (dat 2 eTGoal zTGoal p0))), (1, cI x10.1), (5, cI x10.2)] [] (fun t => aI (at_lt h14) (aI (at_enc (enc := eTGoal) h14) (aI (rfl : true = true) (t)))) ?_
   refine so [] [] [(0, .c (.lv (dat 2 eTGoal zTGoal p0))), (1, cI (W (x10.1 + 1))), (5, cI x10.2)] [] id ?_
   refine so [.cs (eTGoal v13)] [] [(0, .c (.lv (dat 2 eTGoal zTGoal p0))), (1, cI (W (x10.1 + 1))), (5, cI x10.2)] [] (fun t => aI (at_lt h14) (aI (at_enc (enc := eTGoal) h14) (aI (rfl : true = true) (t)))) ?_
   refine oo [] [] [(0, .c (.lv (dat 2 eTGoal zTGoal p0))), (1, cI (W ((W (x10.1 + 1)) + 1))), (5, cI x10.2)] [] id ?_
   change EndsI _ _ _ _ _ _
   refine oo [] [] [(0, .c (.lv (dat 2 eTGoal zTGoal p0))), (1, cI (W ((W (x10.1 + 1)) + 1))), (5, cI (W (x10.2 + 1)))] [] id ?_
   cases H
   exact And.intro rfl rfl
  ·refine jf c12 ?_
   refine tl [] [(1, cI x10.1)] [] id ?_
   refine ends_exit ?_
   cases H
   exact And.intro (by simp) (And.intro rfl rfl)
 ·clear h16
  intro e s q
  obtain ⟨rfl, rfl⟩ := q
  change EndsI _ _ _ _ _ _
  refine so [] [] [(4, cI y15)] [] id ?_
  refine ends_ret ?_
  cases H
  exact And.intro (.inl rfl) rfl
def l_markConditions_ir : S :=
 (.seq (.ops [o 2 (.box 3 (.t 0)), o 4 (.mv (.v (.int .i64 0)))])
 (.seq (.ops [o 5 (.fad 0 (.t 2)), o 6 (.load 1 false (.t 5)), o 7 (.mv (.t 1)), o 8 (.call 103 [.t 6, .t 7]), o 1 (.mv (.t 8))])
 (.seq (.ops [o 9 (.mv (.t 1)), o 4 (.mv (.t 9))])
 .ret)))
noncomputable def X.l_markConditions_L (p0 : TConditions) (p1 : Int) : Option Int :=
 ((X.l_markGoalS_L p0.Goals p1).bind fun v1 => some v1)
theorem l_markConditions_L_ok (p0 : TConditions) (p1 : Int) (r : Int) (H : X.l_markConditions_L p0 p1 = some r) : FnOk Tryz.prog gl 40 [.agg [.lv (dat 2 eTGoal zTGoal p0.Goals), .int .i64 p0.Step, .int .i64 p0.Margin], cI p1] (cI r) := by
 unfold X.l_markConditions_L at H
 refine fi Tryz.f40 l_markConditions_ir [(4, cI r)] [] glL Tryz.func40 ?_
 refine so [] [] [(1, cI p1), (2, pk 2)] [(2, .var [.lv (dat 2 eTGoal zTGoal p0.Goals), .int .i64 p0.Step, .int .i64 p0.Margin] false)] id ?_
 obtain ⟨v1, h2, H⟩ := ofBind H
 refine so [.res (cI v1)] [] [(1, cI v1)] [] (fun t => aI (l_markGoalS_L_ok p0.Goals p1 v1 h2) (t)) ?_
 refine so [] [] [(4, cI v1)] [] id ?_
 refine ends_ret ?_
 cases H
 exact And.intro (.inl rfl) rfl
def l_FnExactFreeGoals_ir : S :=
 (.seq (.ops [o 3 (.box 12 (.t 0)), o 4 (.box 3 (.t 1)), o 5 (.box 3 (.t 2)), o 6 (.mv (.v (.bool false)))])
 (.seq (.ops [o 7 (.mv (.v (.int .i64 1048576)))])
 (.seq (.ops [o 20 (.load 12 true (.t 3)), o 21 (.mv (.t 7)), o 22 (.call 12 [.t 20, .t 21]), o 7 (.mv (.t 22))])
 (.seq (.seq (.ops [o 23 (.mv (.t 7)), o 24 (.bin .lss (.t 23) (.v (.int .i64 0)))])
 (.ite (.t 24) (.seq (.ops [o 6 (.mv (.v (.bool true)))])
  .ret)
 .skip))
 (.seq (.ops [o 25 (.load 3 true (.t 4)), o 26 (.mv (.t 7)), o 27 (.call 13 [.t 25, .t 26]), o 7 (.mv (.t 27))])
 (.seq (.seq (.ops [o 28 (.mv (.t 7)), o 29 (.bin .lss (.t 28) (.v (.int .i64 0)))])
 (.ite (.t 29) (.seq (.ops [o 6 (.mv (.v (.bool true)))])
  .ret)
 .skip))
 (.seq (.ops [o 30 (.load 3 true (.t 5)), o 31 (.mv (.t 7)), o 32 (.call 35 [.t 30, .t 31]), o 7 (.mv (.t 32))])
 (.seq (.seq (.ops [o 33 (.mv (.t 7)), o 34 (.bin .lss (.t 33) (.v (.int .i64 0)))])
 (.ite (.t 34) (.seq (.ops [o 6 (.mv (.v (.bool true)))])
  .ret)
 .skip))
 (.seq (.draw 12 [o 36 (.load 12 true (.t 3)), o 37 (.call 15 [.t 36]), o 38 (.load 3 true (.t 4)), o 39 (.call 16 [.t 38]), o 40 (.load 3 true (.t 5)), o 41 (.call 37 [.t 40]), o 42 (.call 36 [.t 37, .t 39, .t 41]), o 35 (.mv (.t 42)), o 43 (.ext (.t 35) 0), o 44 (.ext (.t 35) 1), o 8 (.mv (.t 43)), o 9 (.mv (.t 44))])
 (.seq (.ops [o 45 (.load 12 true (.t 3)), o 46 (.call 15 [.t 45]), o 10 (.alloc [.nil, .nil, .int .i64 0, .int .i64 0, .int .i64 0, .int .i64 0, .int .i64 0, .int .i64 0, .int .i64 0, .nil, .nil, .nil]), ⟨none, .store 12 (.t 10) (.t 46), none⟩])
 (.seq (.ops [o 47 (.load 3 true (.t 4)), o 48 (.call 16 [.t 47]), o 11 (.alloc [.int .i64 0, .int .i64 0, .nil]), ⟨none, .store 3 (.t 11) (.t 48), none⟩])
 (.seq (.ops [o 49 (.load 3 true (.t 5)), o 50 (.call 37 [.t 49]), o 12 (.alloc [.nil, .int .i64 0, .int .i64 0]), ⟨none, .store 3 (.t 12) (.t 50), none⟩])
 (.seq (.ops [o 52 (.load 12 true (.t 10)), o 53 (.load 3 true (.t 11)), o 54 (.load 3 true (.t 12)), o 55 (.call 38 [.t 52, .t 53, .t 54]), o 51 (.mv (.t 55)), o 56 (.ext (.t 51) 0), o 57 (.ext (.t 51) 1), o 13 (.mv (.t 56)), o 14 (.mv (.t 57))])
 (.seq (.seq (.ops [o 58 (.mv (.t 13)), o 59 (.mv (.t 8)), o 60 (.call 18 [.t 58, .t 59]), o 61 (.not (.t 60)), o 62 (.mv (.t 61)), ⟨some 63, .mv (.t 14), some (62, false)⟩, ⟨some 64, .mv (.t 9), some (62, false)⟩, ⟨some 65, .bqe true (.t 63) (.t 64), some (62, false)⟩, o 66 (.pick (.t 62) (.v (.bool true)) (.t 65))])
 (.ite (.t 66) (.seq (.ops [o 6 (.mv (.v (.bool false)))])
  .ret)
 .skip))
 (.seq (.seq (.draw 5 [o 67 (.load 12 true (.t 10)), o 68 (.load 12 true (.t 3)), o 69 (.call 15 [.t 68]), o 70 (.call 19 [.t 67, .t 69]), o 71 (.not (.t 70))])
 (.ite (.t 71) (.seq (.ops [o 6 (.mv (.v (.bool false)))])
  .ret)
 .skip))
 (.seq (.seq (.draw 5 [o 72 (.load 3 true (.t 11)), o 73 (.load 3 true (.t 4)), o 74 (.call 16 [.t 73]), o 75 (.call 20 [.t 72, .t 74]), o 76 (.not (.t 75))])
 (.ite (.t 76) (.seq (.ops [o 6 (.mv (.v (.bool false)))])
  .ret)
 .skip))
 (.seq (.seq (.draw 5 [o 77 (.load 3 true (.t 12)), o 78 (.load 3 true (.t 5)), o 79 (.call 37 [.t 78]), o 80 (.call 39 [.t 77, .t 79]), o 81 (.not (.t 80))])
 (.ite (.t 81) (.seq (.ops [o 6 (.mv (.v (.bool false)))])
  .ret)
 .skip))
 (.seq (.ops [o 15 (.mv (.v (.int .i64 1)))])
 (.seq (.ops [o 82 (.load 12 true (.t 10)), o 83 (.mv (.t 15)), o 84 (.call 21 [.t 82, .t 83]), o 15 (.mv (.t 84))])
 (.seq (.ops [o 85 (.load 3 true (.t 11)), o 86 (.mv (.t 15)), o 87 (.call 22 [.t 85, .t 86]), o 15 (.mv (.t 87))])
 (.seq (.ops [o 88 (.load 3 true (.t 12)), o 89 (.mv (.t 15)), o 90 (.call 40 [.t 88, .t 89]), o 15 (.mv (.t 90))])
 (.seq (.seq (.ops [o 91 (.mv (.t 15)), o 92 (.bin .lss (.t 91) (.v (.int .i64 0))), o 93 (.mv (.t 92)), ⟨some 94, .mv (.t 13), some (93, false)⟩, ⟨some 95, .mv (.t 8), some (93, false)⟩, ⟨some 96, .call 18 [.t 94, .t 95], some (93, false)⟩, ⟨some 97, .not (.t 96), some (93, false)⟩, o 98 (.pick (.t 93) (.v (.bool true)) (.t 97)), o 99 (.mv (.t 98)), ⟨some 100, .mv (.t 14), some (99, false)⟩, ⟨some 101, .mv (.t 9), some (99, false)⟩, ⟨some 102, .bqe true (.t 100) (.t 101), some (99, false)⟩, o 103 (.pick (.t 99) (.v (.bool true)) (.t 102))])
 (.ite (.t 103) (.seq (.ops [o 6 (.mv (.v (.bool false)))])
  .ret)
 .skip))
 (.seq (.ops [o 16 (.mv (.v (.int .i64 1)))])
 (.seq (.ops [o 104 (.mv (.t 13)), o 105 (.mv (.t 16)), o 106 (.call 23 [.t 104, .t 105]), o 16 (.mv (.t 106))])
 (.seq (.ops [o 17 (.mv (.v (.int .i64 1)))])
 (.seq (.ops [o 107 (.mv (.t 13)), o 108 (.mv (.t 17)), o 109 (.call 24 [.t 107, .t 108]), o 17 (.mv (.t 109))])
 (.seq (.seq (.ops [o 110 (.mv (.t 17)), o 111 (.bin .lss (.t 110) (.v (.int .i64 0)))])
 (.ite (.t 111) (.seq (.ops [o 6 (.mv (.v (.bool false)))])
  .ret)
 .skip))
 (.seq (.seq (.ops [o 112 (.mv (.t 17)), o 113 (.mv (.t 16)), o 114 (.bin .neq (.t 112) (.t 113))])
 (.ite (.t 114) (.seq (.ops [o 6 (.mv (.v (.bool false)))])
  .ret)
 .skip))
 (.seq (.draw 12 [o 116 (.load 12 true (.t 3)), o 117 (.call 15 [.t 116]), o 118 (.load 3 true (.t 4)), o 119 (.call 16 [.t 118]), o 120 (.load 3 true (.t 5)), o 121 (.call 37 [.t 120]), o 122 (.call 38 [.t 117, .t 119, .t 121]), o 115 (.mv (.t 122)), o 123 (.ext (.t 115) 0), o 124 (.ext (.t 115) 1), o 18 (.mv (.t 123)), o 19 (.mv (.t 124))])
 (.seq (.seq (.ops [o 125 (.mv (.t 18)), o 126 (.mv (.t 8)), o 127 (.call 18 [.t 125, .t 126]), o 128 (.not (.t 127)), o 129 (.mv (.t 128)), ⟨some 130, .mv (.t 19), some (129, false)⟩, ⟨some 131, .mv (.t 9), some (129, false)⟩, ⟨some 132, .bqe true (.t 130) (.t 131), some (129, false)⟩, o 133 (.pick (.t 129) (.v (.bool true)) (.t 132))])
 (.ite (.t 133) (.seq (.ops [o 6 (.mv (.v (.bool false)))])
  .ret)
 .skip))
 (.seq (.ops [o 17 (.mv (.v (.int .i64 1)))])
 (.seq (.ops [o 134 (.mv (.t 13)), o 135 (.mv (.t 17)), o 136 (.call 24 [.t 134, .t 135]), o 17 (.mv (.t 136))])
 (.seq (.seq (.ops [o 137 (.mv (.t 17)), o 138 (.bin .lss (.t 137) (.v (.int .i64 0)))])
 (.ite (.t 138) (.seq (.ops [o 6 (.mv (.v (.bool false)))])
  .ret)
 .skip))
 (.seq (.seq (.ops [o 139 (.mv (.t 17)), o 140 (.mv (.t 16)), o 141 (.bin .neq (.t 139) (.t 140))])
 (.ite (.t 141) (.seq (.ops [o 6 (.mv (.v (.bool false)))])
  .ret)
 .skip))
 (.seq (.ops [o 6 (.mv (.v (.bool true)))])
 .ret)))))))))))))))))))))))))))))))))))
noncomputable def X.l_FnExactFreeGoals (p0 : TBoard) (p1 : TState) (p2 : TConditions) : Option Bool :=
 ((X.l_szBoard p0 1048576).bind fun v1 => (bif (decide (v1 < 0)) then some true else ((X.l_szState p1 v1).bind fun v5 => (bif (decide (v5 < 0)) then some true else ((X.l_szConditions p2 v5).bind fun v9 => (bif (decide (v9 < 0)) then some true else ((X.l_toBoard p0).bind fun v13 => ((X.l_toState p1).bind fun v15 => ((X.l_toConditions p2).bind fun v17 => ((X.s_FreeGoals v13 v15 v17).bind fun v19 => ((X.l_toBoard p0).bind fun v21 => ((X.l_toState p1).bind fun v23 => ((X.l_toConditions p2).bind fun v25 => ((X.i_FreeGoals v21 v23 v25).bind fun v27 => ((X.l_eqIntS v27.1 v19.1).bind fun v33 => (bif (!v33) then some false else (bif (!(v27.2 == v19.2)) then some false else ((X.l_toBoard p0).bind fun v42 => ((X.l_eqBoard v21 v42).bind fun v44 => (bif (!v44) then some false else ((X.l_toState p1).bind fun v52 => ((X.l_eqState v23 v52).bind fun v54 => (bif (!v54) then some false else ((X.l_toConditions p2).bind fun v62 => ((X.l_eqConditions v25 v62).bind fun v64 => (bif (!v64) then some false else ((X.l_markBoard_L v21 1).bind fun v67 => ((X.l_markState_L v23 v67).bind fun v69 => ((X.l_markConditions_L v25 v69).bind fun v71 => (bif (decide (v71 < 0)) then some false else ((X.l_eqIntS v27.1 v19.1).bind fun v78 => (bif (!v78) then some false else ((X.l_markIntS_Mod v27.1 1).bind fun v81 => (if v81.2.length = v27.1.length then ((X.l_heldIntS v81.2 1).bind fun v84 => (bif (decide (v84 < 0)) then some false else (bif (v84 != v81.1) then some false else ((X.l_toBoard p0).bind fun v90 => ((X.l_toState p1).bind fun v92 => ((X.l_toConditions p2).bind fun v94 => ((X.i_FreeGoals v90 v92 v94).bind fun v96 => ((X.l_eqIntS v96.1 v19.1).bind fun v102 => (bif (!v102) then some false else (bif (!(v96.2 == v19.2)) then some false else ((X.l_heldIntS v81.2 1).bind fun v106 => (bif (decide (v106 < 0)) then some false else (bif (v106 != v81.1) then some false else some true))))))))))))) else none))))))))))))))))))))))))))))))))))
theorem l_FnExactFreeGoals_T_ok (p0 : TBoard) (p1 : TState) (p2 : TConditions) (H : X.l_FnExactFreeGoals p0 p1 p2 = some true) : LawOk Tryz.prog gl 7 [.agg (eTBoard p0), .agg (eTState p1), .agg (eTConditions p2)] := by
 unfold X.l_FnExactFreeGoals at H
 refine lawOk_of (fn := Tryz.f7) (ir := l_FnExactFreeGoals_ir) (s1 := lit [(6, cB true)] []) Tryz.func7 (by kernel_rfl) (by kernel_rfl) (by kernel_rfl) (by kernel_rfl) ?_
 refine tl [] [(0, .agg [.old (dat 5 eTTerrain zTTerrain p0.Rules.Terrains), .old (dat 6 eTKind zTKind p0.Rules.Kinds), .int .i64 p0.Rules.Stack, .int .i64 p0.Rules.River, .int .i64 p0.Rules.Road, .int .i64 p0.Rules.Supply, .int .i64 p0.Rules.Turns, .int .i64 p0.Map.Width, .int .i64 p0.Map.Height, .old (dat 1 eI zI p0.Map.Terrain), .old (dat 1 eI zI p0.Map.Rivers), .old (dat 1 eI zI p0.Map.Roads)]), (1, .agg [.int .i64 p1.Turn, .int .i64 p1.Weather, .old (dat 4 eTUnit zTUnit p1.Units)]), (2, .agg [.old (dat 2 eTGoal zTGoal p2.Goals), .int .i64 p2.Step, .int .i64 p2.Margin])] [] id ?_
 refine so [] [] [(3, pk 3), (4, pk 4), (5, pk 5)] [(3, .var [.old (dat 5 eTTerrain zTTerrain p0.Rules.Terrains), .old (dat 6 eTKind zTKind p0.Rules.Kinds), .int .i64 p0.Rules.Stack, .int .i64 p0.Rules.River, .int .i64 p0.Rules.Road, .int .i64 p0.Rules.Supply, .int .i64 p0.Rules.Turns, .int .i64 p0.Map.Width, .int .i64 p0.Map.Height, .old (dat 1 eI zI p0.Map.Terrain), .old (dat 1 eI zI p0.Map.Rivers), .old (dat 1 eI zI p0.Map.Roads)] false), (4, .var [.int .i64 p1.Turn, .int .i64 p1.Weather, .old (dat 4 eTUnit zTUnit p1.Units)] false), (5, .var [.old (dat 2 eTGoal zTGoal p2.Goals), .int .i64 p2.Step, .int .i64 p2.Margin] false)] id ?_
 refine so [] [] [(3, pk 3), (4, pk 4), (5, pk 5), (7, cI 1048576)] [(3, .var [.old (dat 5 eTTerrain zTTerrain p0.Rules.Terrains), .old (dat 6 eTKind zTKind p0.Rules.Kinds), .int .i64 p0.Rules.Stack, .int .i64 p0.Rules.River, .int .i64 p0.Rules.Road, .int .i64 p0.Rules.Supply, .int .i64 p0.Rules.Turns, .int .i64 p0.Map.Width, .int .i64 p0.Map.Height, .old (dat 1 eI zI p0.Map.Terrain), .old (dat 1 eI zI p0.Map.Rivers), .old (dat 1 eI zI p0.Map.Roads)] false), (4, .var [.int .i64 p1.Turn, .int .i64 p1.Weather, .old (dat 4 eTUnit zTUnit p1.Units)] false), (5, .var [.old (dat 2 eTGoal zTGoal p2.Goals), .int .i64 p2.Step, .int .i64 p2.Margin] false)] id ?_
 obtain ⟨v1, h2, H⟩ := ofBind H
 refine so [.res (cI v1)] [] [(3, pk 3), (4, pk 4), (5, pk 5), (7, cI v1)] [(3, .var [.old (dat 5 eTTerrain zTTerrain p0.Rules.Terrains), .old (dat 6 eTKind zTKind p0.Rules.Kinds), .int .i64 p0.Rules.Stack, .int .i64 p0.Rules.River, .int .i64 p0.Rules.Road, .int .i64 p0.Rules.Supply, .int .i64 p0.Rules.Turns, .int .i64 p0.Map.Width, .int .i64 p0.Map.Height, .old (dat 1 eI zI p0.Map.Terrain), .old (dat 1 eI zI p0.Map.Rivers), .old (dat 1 eI zI p0.Map.Roads)] false), (4, .var [.int .i64 p1.Turn, .int .i64 p1.Weather, .old (dat 4 eTUnit zTUnit p1.Units)] false), (5, .var [.old (dat 2 eTGoal zTGoal p2.Goals), .int .i64 p2.Step, .int .i64 p2.Margin] false)] (fun t => aI ((FnOk.le2 (xs := [.agg [.old (dat 5 eTTerrain zTTerrain p0.Rules.Terrains), .old (dat 6 eTKind zTKind p0.Rules.Kinds), .int .i64 p0.Rules.Stack, .int .i64 p0.Rules.River, .int .i64 p0.Rules.Road, .int .i64 p0.Rules.Supply, .int .i64 p0.Rules.Turns, .int .i64 p0.Map.Width, .int .i64 p0.Map.Height, .old (dat 1 eI zI p0.Map.Terrain), .old (dat 1 eI zI p0.Map.Rivers), .old (dat 1 eI zI p0.Map.Roads)], cI 1048576]) (l_szBoard_ok p0 1048576 v1 h2) ⟨LeD.agg (And.intro (LeC.old _) (And.intro (LeC.old _) (And.intro (LeC.refl _) (And.intro (LeC.refl _) (And.intro (LeC.refl _) (And.intro (LeC.refl _) (And.intro (LeC.refl _) (And.intro (LeC.refl _) (And.intro (LeC.refl _) (And.intro (LeC.old _) (And.intro (LeC.old _) (And.intro (LeC.old _) (trivial))))))))))))), LeD.refl _, trivial⟩).up glTs) (t)) ?_
 refine seq_in ?_
 refine so [] [] [(3, pk 3), (4, pk 4), (5, pk 5), (7, cI v1), (24, cB (decide (v1 < 0)))] [(3, .var [.old (dat 5 eTTerrain zTTerrain p0.Rules.Terrains), .old (dat 6 eTKind zTKind p0.Rules.Kinds), .int .i64 p0.Rules.Stack, .int .i64 p0.Rules.River, .int .i64 p0.Rules.Road, .int .i64 p0.Rules.Supply, .int .i64 p0.Rules.Turns, .int .i64 p0.Map.Width, .int .i64 p0.Map.Height, .old (dat 1 eI zI p0.Map.Terrain), .old (dat 1 eI zI p0.Map.Rivers), .old (dat 1 eI zI p0.Map.Roads)] false), (4, .var [.int .i64 p1.Turn, .int .i64 p1.Weather, .old (dat 4 eTUnit zTUnit p1.Units)] false), (5, .var [.old (dat 2 eTGoal zTGoal p2.Goals), .int .i64 p2.Step, .int .i64 p2.Margin] false)] id ?_
 rcases ofCond H with ⟨c4, H⟩ | ⟨c4, H⟩
 ·refine it c4 ?_
  refine so [] [] [(6, cB true)] [] id ?_
  refine ends_ret ?_
  exact And.intro (.inl rfl) rfl
 ·refine jf c4 ?_
  refine sk ?_
  obtain ⟨v5, h6, H⟩ := ofBind H
  refine so [.res (cI v5)] [] [(3, pk 3), (4, pk 4), (5, pk 5), (7, cI v5)] [(3, .var [.old (dat 5 eTTerrain zTTerrain p0.Rules.Terrains), .old (dat 6 eTKind zTKind p0.Rules.Kinds), .int .i64 p0.Rules.Stack, .int .i64 p0.Rules.River, .int .i64 p0.Rules.Road, .int .i64 p0.Rules.Supply, .int .i64 p0.Rules.Turns, .int .i64 p0.Map.Width, .int .i64 p0.Map.Height, .old (dat 1 eI zI p0.Map.Terrain), .old (dat 1 eI zI p0.Map.Rivers), .old (dat 1 eI zI p0.Map.Roads)] false), (4, .var [.int .i64 p1.Turn, .int .i64 p1.Weather, .old (dat 4 eTUnit zTUnit p1.Units)] false), (5, .var [.old (dat 2 eTGoal zTGoal p2.Goals), .int .i64 p2.Step, .int .i64 p2.Margin] false)] (fun t => aI ((FnOk.le2 (xs := [.agg [.int .i64 p1.Turn, .int .i64 p1.Weather, .old (dat 4 eTUnit zTUnit p1.Units)], cI v1]) (l_szState_ok p1 v1 v5 h6) ⟨LeD.agg (And.intro (LeC.refl _) (And.intro (LeC.refl _) (And.intro (LeC.old _) (trivial)))), LeD.refl _, trivial⟩).up glTs) (t)) ?_
  refine seq_in ?_
  refine so [] [] [(3, pk 3), (4, pk 4), (5, pk 5), (7, cI v5), (29, cB (decide (v5 < 0)))] [(3, .var [.old (dat 5 eTTerrain zTTerrain p0.Rules.Terrains), .old (dat 6 eTKind zTKind p0.Rules.Kinds), .int .i64 p0.Rules.Stack, .int .i64 p0.Rules.River, .int .i64 p0.Rules.Road, .int .i64 p0.Rules.Supply, .int .i64 p0.Rules.Turns, .int .i64 p0.Map.Width, .int .i64 p0.Map.Height, .old (dat 1 eI zI p0.Map.Terrain), .old (dat 1 eI zI p0.Map.Rivers), .old (dat 1 eI zI p0.Map.Roads)] false), (4, .var [.int .i64 p1.Turn, .int .i64 p1.Weather, .old (dat 4 eTUnit zTUnit p1.Units)] false), (5, .var [.old (dat 2 eTGoal zTGoal p2.Goals), .int .i64 p2.Step, .int .i64 p2.Margin] false)] id ?_
  rcases ofCond H with ⟨c8, H⟩ | ⟨c8, H⟩
  ·refine it c8 ?_
   refine so [] [] [(6, cB true)] [] id ?_
   refine ends_ret ?_
   exact And.intro (.inl rfl) rfl
  ·refine jf c8 ?_
   refine sk ?_
   obtain ⟨v9, h10, H⟩ := ofBind H
   refine so [.res (cI v9)] [] [(3, pk 3), (4, pk 4), (5, pk 5), (7, cI v9)] [(3, .var [.old (dat 5 eTTerrain zTTerrain p0.Rules.Terrains), .old (dat 6 eTKind zTKind p0.Rules.Kinds), .int .i64 p0.Rules.Stack, .int .i64 p0.Rules.River, .int .i64 p0.Rules.Road, .int .i64 p0.Rules.Supply, .int .i64 p0.Rules.Turns, .int .i64 p0.Map.Width, .int .i64 p0.Map.Height, .old (dat 1 eI zI p0.Map.Terrain), .old (dat 1 eI zI p0.Map.Rivers), .old (dat 1 eI zI p0.Map.Roads)] false), (4, .var [.int .i64 p1.Turn, .int .i64 p1.Weather, .old (dat 4 eTUnit zTUnit p1.Units)] false), (5, .var [.old (dat 2 eTGoal zTGoal p2.Goals), .int .i64 p2.Step, .int .i64 p2.Margin] false)] (fun t => aI ((FnOk.le2 (xs := [.agg [.old (dat 2 eTGoal zTGoal p2.Goals), .int .i64 p2.Step, .int .i64 p2.Margin], cI v5]) (l_szConditions_ok p2 v5 v9 h10) ⟨LeD.agg (And.intro (LeC.old _) (And.intro (LeC.refl _) (And.intro (LeC.refl _) (trivial)))), LeD.refl _, trivial⟩).up glTs) (t)) ?_
   refine seq_in ?_
   refine so [] [] [(3, pk 3), (4, pk 4), (5, pk 5), (34, cB (decide (v9 < 0)))] [(3, .var [.old (dat 5 eTTerrain zTTerrain p0.Rules.Terrains), .old (dat 6 eTKind zTKind p0.Rules.Kinds), .int .i64 p0.Rules.Stack, .int .i64 p0.Rules.River, .int .i64 p0.Rules.Road, .int .i64 p0.Rules.Supply, .int .i64 p0.Rules.Turns, .int .i64 p0.Map.Width, .int .i64 p0.Map.Height, .old (dat 1 eI zI p0.Map.Terrain), .old (dat 1 eI zI p0.Map.Rivers), .old (dat 1 eI zI p0.Map.Roads)] false), (4, .var [.int .i64 p1.Turn, .int .i64 p1.Weather, .old (dat 4 eTUnit zTUnit p1.Units)] false), (5, .var [.old (dat 2 eTGoal zTGoal p2.Goals), .int .i64 p2.Step, .int .i64 p2.Margin] false)] id ?_
   rcases ofCond H with ⟨c12, H⟩ | ⟨c12, H⟩
   ·refine it c12 ?_
    refine so [] [] [(6, cB true)] [] id ?_
    refine ends_ret ?_
    exact And.intro (.inl rfl) rfl
   ·refine jf c12 ?_
    refine sk ?_
    obtain ⟨v13, h14, H⟩ := ofBind H
    obtain ⟨v15, h16, H⟩ := ofBind H
    obtain ⟨v17, h18, H⟩ := ofBind H
    obtain ⟨v19, h20, H⟩ := ofBind H
    refine sd [.res (.agg (eTBoard v13)), .res (.agg (eTState v15)), .res (.agg (eTConditions v17)), .res (.tup [(false, [dat 1 eI zI v19.1]), (false, [.bool v19.2])])] [] [(3, pk 3), (4, pk 4), (5, pk 5), (8, dc 1 eI zI v19.1), (9, cB v19.2)] [(3, .var [.old (dat 5 eTTerrain zTTerrain p0.Rules.Terrains), .old (dat 6 eTKind zTKind p0.Rules.Kinds), .int .i64 p0.Rules.Stack, .int .i64 p0.Rules.River, .int .i64 p0.Rules.Road, .int .i64 p0.Rules.Supply, .int .i64 p0.Rules.Turns, .int .i64 p0.Map.Width, .int .i64 p0.Map.Height, .old (dat 1 eI zI p0.Map.Terrain), .old (dat 1 eI zI p0.Map.Rivers), .old (dat 1 eI zI p0.Map.Roads)] false), (4, .var [.int .i64 p1.Turn, .int .i64 p1.Weather, .old (dat 4 eTUnit zTUnit p1.Units)] false), (5, .var [.old (dat 2 eTGoal zTGoal p2.Goals), .int .i64 p2.Step, .int .i64 p2.Margin] false)] (fun t => aI ((FnOk.le2 (xs := [.agg [.old (dat 5 eTTerrain zTTerrain p0.Rules.Terrains), .old (dat 6 eTKind zTKind p0.Rules.Kinds), .int .i64 p0.Rules.Stack, .int .i64 p0.Rules.River, .int .i64 p0.Rules.Road, .int .i64 p0.Rules.Supply, .int .i64 p0.Rules.Turns, .int .i64 p0.Map.Width, .int .i64 p0.Map.Height, .old (dat 1 eI zI p0.Map.Terrain), .old (dat 1 eI zI p0.Map.Rivers), .old (dat 1 eI zI p0.Map.Roads)]]) (l_toBoard_ok p0 v13 h14) ⟨LeD.agg (And.intro (LeC.old _) (And.intro (LeC.old _) (And.intro (LeC.refl _) (And.intro (LeC.refl _) (And.intro (LeC.refl _) (And.intro (LeC.refl _) (And.intro (LeC.refl _) (And.intro (LeC.refl _) (And.intro (LeC.refl _) (And.intro (LeC.old _) (And.intro (LeC.old _) (And.intro (LeC.old _) (trivial))))))))))))), trivial⟩).up glTs) (aI (rfl : ([] : List Nat) = []) (aI (rfl : ([] : List Nat) = []) (aI ((FnOk.le2 (xs := [.agg [.int .i64 p1.Turn, .int .i64 p1.Weather, .old (dat 4 eTUnit zTUnit p1.Units)]]) (l_toState_ok p1 v15 h16) ⟨LeD.agg (And.intro (LeC.refl _) (And.intro (LeC.refl _) (And.intro (LeC.old _) (trivial)))), trivial⟩).up glTs) (aI (rfl : ([] : List Nat) = []) (aI (rfl : ([] : List Nat) = []) (aI ((FnOk.le2 (xs := [.agg [.old (dat 2 eTGoal zTGoal p2.Goals), .int .i64 p2.Step, .int .i64 p2.Margin]]) (l_toConditions_ok p2 v17 h18) ⟨LeD.agg (And.intro (LeC.old _) (And.intro (LeC.refl _) (And.intro (LeC.refl _) (trivial)))), trivial⟩).up glTs) (aI (rfl : ([] : List Nat) = []) (aI (rfl : ([] : List Nat) = []) (aI ((s_FreeGoals_ok v13 v15 v17 v19 h20).up glTs) (aI (rfl : ([] : List Nat) = []) (aI (rfl : ([] : List Nat) = []) (t))))))))))))) ?_
    refine tl [] [(3, pk 3), (4, pk 4), (5, pk 5), (8, dc 1 eI zI v19.1), (9, cB v19.2)] [(3, .var [.old (dat 5 eTTerrain zTTerrain p0.Rules.Terrains), .old (dat 6 eTKind zTKind p0.Rules.Kinds), .int .i64 p0.Rules.Stack, .int .i64 p0.Rules.River, .int .i64 p0.Rules.Road, .int .i64 p0.Rules.Supply, .int .i64 p0.Rules.Turns, .int .i64 p0.Map.Width, .int .i64 p0.Map.Height, .old (dat 1 eI zI p0.Map.Terrain), .old (dat 1 eI zI p0.Map.Rivers), .old (dat 1 eI zI p0.Map.Roads)] false), (4, .var [.int .i64 p1.Turn, .int .i64 p1.Weather, .old (dat 4 eTUnit zTUnit p1.Units)] false), (5, .var [.old (dat 2 eTGoal zTGoal p2.Goals), .int .i64 p2.Step, .int .i64 p2.Margin] false)] id ?_
    refine turn0 (E := [(3, pk 3), (4, pk 4), (5, pk 5), (8, dc 1 eI zI v19.1), (9, cB v19.2)]) (E' := [(3, pk 3), (4, pk 4), (5, pk 5), (8, .c (.old (dat 1 eI zI v19.1))), (9, cB v19.2)]) (H := [(3, .var [.old (dat 5 eTTerrain zTTerrain p0.Rules.Terrains), .old (dat 6 eTKind zTKind p0.Rules.Kinds), .int .i64 p0.Rules.Stack, .int .i64 p0.Rules.River, .int .i64 p0.Rules.Road, .int .i64 p0.Rules.Supply, .int .i64 p0.Rules.Turns, .int .i64 p0.Map.Width, .int .i64 p0.Map.Height, .old (dat 1 eI zI p0.Map.Terrain), .old (dat 1 eI zI p0.Map.Rivers), .old (dat 1 eI zI p0.Map.Roads)] false), (4, .var [.int .i64 p1.Turn, .int .i64 p1.Weather, .old (dat 4 eTUnit zTUnit p1.Units)] false), (5, .var [.old (dat 2 eTGoal zTGoal p2.Goals), .int .i64 p2.Step, .int .i64 p2.Margin] false)]) (H' := [(3, .var [.old (dat 5 eTTerrain zTTerrain p0.Rules.Terrains), .old (dat 6 eTKind zTKind p0.Rules.Kinds), .int .i64 p0.Rules.Stack, .int .i64 p0.Rules.River, .int .i64 p0.Rules.Road, .int .i64 p0.Rules.Supply, .int .i64 p0.Rules.Turns, .int .i64 p0.Map.Width, .int .i64 p0.Map.Height, .old (dat 1 eI zI p0.Map.Terrain), .old (dat 1 eI zI p0.Map.Rivers), .old (dat 1 eI zI p0.Map.Roads)] false), (4, .var [.int .i64 p1.Turn, .int .i64 p1.Weather, .old (dat 4 eTUnit zTUnit p1.Units)] false), (5, .var [.old (dat 2 eTGoal zTGoal p2.Goals), .int .i64 p2.Step, .int .i64 p2.Margin] false)]) glTn glTp (And.intro (And.intro rfl (uS (.pk 3 0) rfl)) (And.intro (And.intro rfl (uS (.pk 4 0) rfl)) (And.intro (And.intro rfl (uS (.pk 5 0) rfl)) (And.intro (And.intro rfl (uD (dat 1 eI zI v19.1) rfl (.dat shI))) (And.intro (And.intro rfl (uS (.bool v19.2) rfl)) trivial))))) (And.intro (And.intro rfl (And.intro (uO (dat 5 eTTerrain zTTerrain p0.Rules.Terrains) (.dat shTTerrain)) (And.intro (uO (dat 6 eTKind zTKind p0.Rules.Kinds) (.dat shTKind)) (And.intro (uS (.int .i64 p0.Rules.Stack) rfl) (And.intro (uS (.int .i64 p0.Rules.River) rfl) (And.intro (uS (.int .i64 p0.Rules.Road) rfl) (And.intro (uS (.int .i64 p0.Rules.Supply) rfl) (And.intro (uS (.int .i64 p0.Rules.Turns) rfl) (And.intro (uS (.int .i64 p0.Map.Width) rfl) (And.intro (uS (.int .i64 p0.Map.Height) rfl) (And.intro (uO (dat 1 eI zI p0.Map.Terrain) (.dat shI)) (And.intro (uO (dat 1 eI zI p0.Map.Rivers) (.dat shI)) (And.intro (uO (dat 1 eI zI p0.Map.Roads) (.dat shI)) trivial))))))))))))) (And.intro (And.intro rfl (And.intro (uS (.int .i64 p1.Turn) rfl) (And.intro (uS (.int .i64 p1.Weather) rfl) (And.intro (uO (dat 4 eTUnit zTUnit p1.Units) (.dat shTUnit)) trivial)))) (And.intro (And.intro rfl (And.intro (uO (dat 2 eTGoal zTGoal p2.Goals) (.dat shTGoal)) (And.intro (uS (.int .i64 p2.Step) rfl) (And.intro (uS (.int .i64 p2.Margin) rfl) trivial)))) trivial))) ?_
    obtain ⟨v21, h22, H⟩ := ofBind H
    refine so [.res (.agg [.fr (dat 5 eTTerrain zTTerrain v21.Rules.Terrains), .fr (dat 6 eTKind zTKind v21.Rules.Kinds), .int .i64 v21.Rules.Stack, .int .i64 v21.Rules.River, .int .i64 v21.Rules.Road, .int .i64 v21.Rules.Supply, .int .i64 v21.Rules.Turns, .int .i64 v21.Map.Width, .int .i64 v21.Map.Height, .fr (dat 1 eI zI v21.Map.Terrain), .fr (dat 1 eI zI v21.Map.Rivers), .fr (dat 1 eI zI v21.Map.Roads)])] [] [(3, pk 3), (4, pk 4), (5, pk 5), (8, .c (.old (dat 1 eI zI v19.1))), (9, cB v19.2), (10, pk 10)] [(3, .var [.old (dat 5 eTTerrain zTTerrain p0.Rules.Terrains), .old (dat 6 eTKind zTKind p0.Rules.Kinds), .int .i64 p0.Rules.Stack, .int .i64 p0.Rules.River, .int .i64 p0.Rules.Road, .int .i64 p0.Rules.Supply, .int .i64 p0.Rules.Turns, .int .i64 p0.Map.Width, .int .i64 p0.Map.Height, .old (dat 1 eI zI p0.Map.Terrain), .old (dat 1 eI zI p0.Map.Rivers), .old (dat 1 eI zI p0.Map.Roads)] false), (4, .var [.int .i64 p1.Turn, .int .i64 p1.Weather, .old (dat 4 eTUnit zTUnit p1.Units)] false), (5, .var [.old (dat 2 eTGoal zTGoal p2.Goals), .int .i64 p2.Step, .int .i64 p2.Margin] false), (10, .var [.fr (dat 5 eTTerrain zTTerrain v21.Rules.Terrains), .fr (dat 6 eTKind zTKind v21.Rules.Kinds), .int .i64 v21.Rules.Stack, .int .i64 v21.Rules.River, .int .i64 v21.Rules.Road, .int .i64 v21.Rules.Supply, .int .i64 v21.Rules.Turns, .int .i64 v21.Map.Width, .int .i64 v21.Map.Height, .fr (dat 1 eI zI v21.Map.Terrain), .fr (dat 1 eI zI v21.Map.Rivers), .fr (dat 1 eI zI v21.Map.Roads)] false)] (fun t => aI ((FnOk.le2 (xs := [.agg [.old (dat 5 eTTerrain zTTerrain p0.Rules.Terrains), .old (dat 6 eTKind zTKind p0.Rules.Kinds), .int .i64 p0.Rules.Stack, .int .i64 p0.Rules.River, .int .i64 p0.Rules.Road, .int .i64 p0.Rules.Supply, .int .i64 p0.Rules.Turns, .int .i64 p0.Map.Width, .int .i64 p0.Map.Height, .old (dat 1 eI zI p0.Map.Terrain), .old (dat 1 eI zI p0.Map.Rivers), .old (dat 1 eI zI p0.Map.Roads)]]) (l_toBoard_F_ok p0 v21 h22) ⟨LeD.agg (And.intro (LeC.old _) (And.intro (LeC.old _) (And.intro (LeC.refl _) (And.intro (LeC.refl _) (And.intro (LeC.refl _) (And.intro (LeC.refl _) (And.intro (LeC.refl _) (And.intro (LeC.refl _) (And.intro (LeC.refl _) (And.intro (LeC.old _) (And.intro (LeC.old _) (And.intro (LeC.old _) (trivial))))))))))))), trivial⟩).up glTs) (t)) ?_
    obtain ⟨v23, h24, H⟩ := ofBind H
    refine so [.res (.agg [.int .i64 v23.Turn, .int .i64 v23.Weather, .fr (dat 4 eTUnit zTUnit v23.Units)])] [] [(3, pk 3), (4, pk 4), (5, pk 5), (8, .c (.old (dat 1 eI zI v19.1))), (9, cB v19.2), (10, pk 10), (11, pk 11)] [(3, .var [.old (dat 5 eTTerrain zTTerrain p0.Rules.Terrains), .old (dat 6 eTKind zTKind p0.Rules.Kinds), .int .i64 p0.Rules.Stack, .int .i64 p0.Rules.River, .int .i64 p0.Rules.Road, .int .i64 p0.Rules.Supply, .int .i64 p0.Rules.Turns, .int .i64 p0.Map.Width, .int .i64 p0.Map.Height, .old (dat 1 eI zI p0.Map.Terrain), .old (dat 1 eI zI p0.Map.Rivers), .old (dat 1 eI zI p0.Map.Roads)] false), (4, .var [.int .i64 p1.Turn, .int .i64 p1.Weather, .old (dat 4 eTUnit zTUnit p1.Units)] false), (5, .var [.old (dat 2 eTGoal zTGoal p2.Goals), .int .i64 p2.Step, .int .i64 p2.Margin] false), (10, .var [.fr (dat 5 eTTerrain zTTerrain v21.Rules.Terrains), .fr (dat 6 eTKind zTKind v21.Rules.Kinds), .int .i64 v21.Rules.Stack, .int .i64 v21.Rules.River, .int .i64 v21.Rules.Road, .int .i64 v21.Rules.Supply, .int .i64 v21.Rules.Turns, .int .i64 v21.Map.Width, .int .i64 v21.Map.Height, .fr (dat 1 eI zI v21.Map.Terrain), .fr (dat 1 eI zI v21.Map.Rivers), .fr (dat 1 eI zI v21.Map.Roads)] false), (11, .var [.int .i64 v23.Turn, .int .i64 v23.Weather, .fr (dat 4 eTUnit zTUnit v23.Units)] false)] (fun t => aI ((FnOk.le2 (xs := [.agg [.int .i64 p1.Turn, .int .i64 p1.Weather, .old (dat 4 eTUnit zTUnit p1.Units)]]) (l_toState_F_ok p1 v23 h24) ⟨LeD.agg (And.intro (LeC.refl _) (And.intro (LeC.refl _) (And.intro (LeC.old _) (trivial)))), trivial⟩).up glTs) (t)) ?_
    obtain ⟨v25, h26, H⟩ := ofBind H
    refine so [.res (.agg [.fr (dat 2 eTGoal zTGoal v25.Goals), .int .i64 v25.Step, .int .i64 v25.Margin])] [] [(3, pk 3), (4, pk 4), (5, pk 5), (8, .c (.old (dat 1 eI zI v19.1))), (9, cB v19.2), (10, pk 10), (11, pk 11), (12, pk 12)] [(3, .var [.old (dat 5 eTTerrain zTTerrain p0.Rules.Terrains), .old (dat 6 eTKind zTKind p0.Rules.Kinds), .int .i64 p0.Rules.Stack, .int .i64 p0.Rules.River, .int .i64 p0.Rules.Road, .int .i64 p0.Rules.Supply, .int .i64 p0.Rules.Turns, .int .i64 p0.Map.Width, .int .i64 p0.Map.Height, .old (dat 1 eI zI p0.Map.Terrain), .old (dat 1 eI zI p0.Map.Rivers), .old (dat 1 eI zI p0.Map.Roads)] false), (4, .var [.int .i64 p1.Turn, .int .i64 p1.Weather, .old (dat 4 eTUnit zTUnit p1.Units)] false), (5, .var [.old (dat 2 eTGoal zTGoal p2.Goals), .int .i64 p2.Step, .int .i64 p2.Margin] false), (10, .var [.fr (dat 5 eTTerrain zTTerrain v21.Rules.Terrains), .fr (dat 6 eTKind zTKind v21.Rules.Kinds), .int .i64 v21.Rules.Stack, .int .i64 v21.Rules.River, .int .i64 v21.Rules.Road, .int .i64 v21.Rules.Supply, .int .i64 v21.Rules.Turns, .int .i64 v21.Map.Width, .int .i64 v21.Map.Height, .fr (dat 1 eI zI v21.Map.Terrain), .fr (dat 1 eI zI v21.Map.Rivers), .fr (dat 1 eI zI v21.Map.Roads)] false), (11, .var [.int .i64 v23.Turn, .int .i64 v23.Weather, .fr (dat 4 eTUnit zTUnit v23.Units)] false), (12, .var [.fr (dat 2 eTGoal zTGoal v25.Goals), .int .i64 v25.Step, .int .i64 v25.Margin] false)] (fun t => aI ((FnOk.le2 (xs := [.agg [.old (dat 2 eTGoal zTGoal p2.Goals), .int .i64 p2.Step, .int .i64 p2.Margin]]) (l_toConditions_F_ok p2 v25 h26) ⟨LeD.agg (And.intro (LeC.old _) (And.intro (LeC.refl _) (And.intro (LeC.refl _) (trivial)))), trivial⟩).up glTs) (t)) ?_
    obtain ⟨v27, h28, H⟩ := ofBind H
    refine so [.mu [] [(900000, 1001)] (.tup [(false, [.own 900000 1 0 v27.1.length]), (false, [.bool v27.2])]) [(900000, .arr 1 v27.1.length (fF eI zI v27.1) false)]] [] [(3, pk 3), (4, pk 4), (5, pk 5), (8, .c (.old (dat 1 eI zI v19.1))), (9, cB v19.2), (10, pk 10), (11, pk 11), (12, pk 12), (13, .c (.own 1001 1 0 v27.1.length)), (14, cB v27.2)] [(3, .var [.old (dat 5 eTTerrain zTTerrain p0.Rules.Terrains), .old (dat 6 eTKind zTKind p0.Rules.Kinds), .int .i64 p0.Rules.Stack, .int .i64 p0.Rules.River, .int .i64 p0.Rules.Road, .int .i64 p0.Rules.Supply, .int .i64 p0.Rules.Turns, .int .i64 p0.Map.Width, .int .i64 p0.Map.Height, .old (dat 1 eI zI p0.Map.Terrain), .old (dat 1 eI zI p0.Map.Rivers), .old (dat 1 eI zI p0.Map.Roads)] false), (4, .var [.int .i64 p1.Turn, .int .i64 p1.Weather, .old (dat 4 eTUnit zTUnit p1.Units)] false), (5, .var [.old (dat 2 eTGoal zTGoal p2.Goals), .int .i64 p2.Step, .int .i64 p2.Margin] false), (10, .var [.fr (dat 5 eTTerrain zTTerrain v21.Rules.Terrains), .fr (dat 6 eTKind zTKind v21.Rules.Kinds), .int .i64 v21.Rules.Stack, .int .i64 v21.Rules.River, .int .i64 v21.Rules.Road, .int .i64 v21.Rules.Supply, .int .i64 v21.Rules.Turns, .int .i64 v21.Map.Width, .int .i64 v21.Map.Height, .fr (dat 1 eI zI v21.Map.Terrain), .fr (dat 1 eI zI v21.Map.Rivers), .fr (dat 1 eI zI v21.Map.Roads)] false), (11, .var [.int .i64 v23.Turn, .int .i64 v23.Weather, .fr (dat 4 eTUnit zTUnit v23.Units)] false), (12, .var [.fr (dat 2 eTGoal zTGoal v25.Goals), .int .i64 v25.Step, .int .i64 v25.Margin] false), (1001, .arr 1 v27.1.length (fF eI zI v27.1) false)] (fun t => aI ((FnMu.le2 (xs := [.agg [.fr (dat 5 eTTerrain zTTerrain v21.Rules.Terrains), .fr (dat 6 eTKind zTKind v21.Rules.Kinds), .int .i64 v21.Rules.Stack, .int .i64 v21.Rules.River, .int .i64 v21.Rules.Road, .int .i64 v21.Rules.Supply, .int .i64 v21.Rules.Turns, .int .i64 v21.Map.Width, .int .i64 v21.Map.Height, .fr (dat 1 eI zI v21.Map.Terrain), .fr (dat 1 eI zI v21.Map.Rivers), .fr (dat 1 eI zI v21.Map.Roads)], .agg [.int .i64 v23.Turn, .int .i64 v23.Weather, .fr (dat 4 eTUnit zTUnit v23.Units)], .agg [.fr (dat 2 eTGoal zTGoal v25.Goals), .int .i64 v25.Step, .int .i64 v25.Margin]]) (i_FreeGoals_Mddd_ok v21 v23 v25 v27 h28) ⟨LeK.of rfl (LeD.agg (And.intro (LeC.fr _) (And.intro (LeC.fr _) (And.intro (LeC.refl _) (And.intro (LeC.refl _) (And.intro (LeC.refl _) (And.intro (LeC.refl _) (And.intro (LeC.refl _) (And.intro (LeC.refl _) (And.intro (LeC.refl _) (And.intro (LeC.fr _) (And.intro (LeC.fr _) (And.intro (LeC.fr _) (trivial)))))))))))))), LeK.of rfl (LeD.agg (And.intro (LeC.refl _) (And.intro (LeC.refl _) (And.intro (LeC.fr _) (trivial))))), LeK.of rfl (LeD.agg (And.intro (LeC.fr _) (And.intro (LeC.refl _) (And.intro (LeC.refl _) (trivial))))), trivial⟩).up glTs) (t)) ?_
    refine seq_in ?_
    obtain ⟨v33, h34, H⟩ := ofBind H
    rcases ofCond H with ⟨c35, H⟩ | ⟨c35, H⟩
    ·refine so [.res (cB v33), .g true, .g true, .g true, .g true] [] [(3, pk 3), (4, pk 4), (5, pk 5), (8, .c (.old (dat 1 eI zI v19.1))), (9, cB v19.2), (10, pk 10), (11, pk 11), (12, pk 12), (13, .c (.own 1001 1 0 v27.1.length)), (14, cB v27.2), (66, cB true)] [(3, .var [.old (dat 5 eTTerrain zTTerrain p0.Rules.Terrains), .old (dat 6 eTKind zTKind p0.Rules.Kinds), .int .i64 p0.Rules.Stack, .int .i64 p0.Rules.River, .int .i64 p0.Rules.Road, .int .i64 p0.Rules.Supply, .int .i64 p0.Rules.Turns, .int .i64 p0.Map.Width, .int .i64 p0.Map.Height, .old (dat 1 eI zI p0.Map.Terrain), .old (dat 1 eI zI p0.Map.Rivers), .old (dat 1 eI zI p0.Map.Roads)] false), (4, .var [.int .i64 p1.Turn, .int .i64 p1.Weather, .old (dat 4 eTUnit zTUnit p1.Units)] false), (5, .var [.old (dat 2 eTGoal zTGoal p2.Goals), .int .i64 p2.Step, .int .i64 p2.Margin] false), (10, .var [.fr (dat 5 eTTerrain zTTerrain v21.Rules.Terrains), .fr (dat 6 eTKind zTKind v21.Rules.Kinds), .int .i64 v21.Rules.Stack, .int .i64 v21.Rules.River, .int .i64 v21.Rules.Road, .int .i64 v21.Rules.Supply, .int .i64 v21.Rules.Turns, .int .i64 v21.Map.Width, .int .i64 v21.Map.Height, .fr (dat 1 eI zI v21.Map.Terrain), .fr (dat 1 eI zI v21.Map.Rivers), .fr (dat 1 eI zI v21.Map.Roads)] false), (11, .var [.int .i64 v23.Turn, .int .i64 v23.Weather, .fr (dat 4 eTUnit zTUnit v23.Units)] false), (12, .var [.fr (dat 2 eTGoal zTGoal v25.Goals), .int .i64 v25.Step, .int .i64 v25.Margin] false), (1001, .arr 1 v27.1.length (fF eI zI v27.1) false)] (fun t => aI (Nat.le_refl v27.1.length) (aI ((FnOk.le2 (xs := [dc 1 eI zI v27.1, .c (.old (dat 1 eI zI v19.1))]) (l_eqIntS_ok v27.1 v19.1 v33 h34) ⟨LeD.refl _, LeD.old _, trivial⟩).up glTs) (aI c35 (aI c35 (aI c35 (aI c35 (t))))))) ?_
     refine it (rfl : (true : Bool) = true) ?_
     refine so [] [] [(6, cB false)] [] id ?_
     refine ends_ret ?_
     cases H
    ·refine so [.res (cB v33), .g false, .g false, .g false, .g false] [] [(3, pk 3), (4, pk 4), (5, pk 5), (8, .c (.old (dat 1 eI zI v19.1))), (9, cB v19.2), (10, pk 10), (11, pk 11), (12, pk 12), (13, .c (.own 1001 1 0 v27.1.length)), (14, cB v27.2), (66, cB (!(v27.2 == v19.2)))] [(3, .var [.old (dat 5 eTTerrain zTTerrain p0.Rules.Terrains), .old (dat 6 eTKind zTKind p0.Rules.Kinds), .int .i64 p0.Rules.Stack, .int .i64 p0.Rules.River, .int .i64 p0.Rules.Road, .int .i64 p0.Rules.Supply, .int .i64 p0.Rules.Turns, .int .i64 p0.Map.Width, .int .i64 p0.Map.Height, .old (dat 1 eI zI p0.Map.Terrain), .old (dat 1 eI zI p0.Map.Rivers), .old (dat 1 eI zI p0.Map.Roads)] false), (4, .var [.int .i64 p1.Turn, .int .i64 p1.Weather, .old (dat 4 eTUnit zTUnit p1.Units)] false), (5, .var [.old (dat 2 eTGoal zTGoal p2.Goals), .int .i64 p2.Step, .int .i64 p2.Margin] false), (10, .var [.fr (dat 5 eTTerrain zTTerrain v21.Rules.Terrains), .fr (dat 6 eTKind zTKind v21.Rules.Kinds), .int .i64 v21.Rules.Stack, .int .i64 v21.Rules.River, .int .i64 v21.Rules.Road, .int .i64 v21.Rules.Supply, .int .i64 v21.Rules.Turns, .int .i64 v21.Map.Width, .int .i64 v21.Map.Height, .fr (dat 1 eI zI v21.Map.Terrain), .fr (dat 1 eI zI v21.Map.Rivers), .fr (dat 1 eI zI v21.Map.Roads)] false), (11, .var [.int .i64 v23.Turn, .int .i64 v23.Weather, .fr (dat 4 eTUnit zTUnit v23.Units)] false), (12, .var [.fr (dat 2 eTGoal zTGoal v25.Goals), .int .i64 v25.Step, .int .i64 v25.Margin] false), (1001, .arr 1 v27.1.length (fF eI zI v27.1) false)] (fun t => aI (Nat.le_refl v27.1.length) (aI ((FnOk.le2 (xs := [dc 1 eI zI v27.1, .c (.old (dat 1 eI zI v19.1))]) (l_eqIntS_ok v27.1 v19.1 v33 h34) ⟨LeD.refl _, LeD.old _, trivial⟩).up glTs) (aI c35 (aI c35 (aI c35 (aI c35 (t))))))) ?_
     rcases ofCond H with ⟨c36, H⟩ | ⟨c36, H⟩
     ·refine it c36 ?_
      refine so [] [] [(6, cB false)] [] id ?_
      refine ends_ret ?_
      cases H
     ·refine jf c36 ?_
      refine sk ?_
      refine seq_in ?_
      obtain ⟨v42, h43, H⟩ := ofBind H
      obtain ⟨v44, h45, H⟩ := ofBind H
      refine sd [.res (.agg [.fr (dat 5 eTTerrain zTTerrain v42.Rules.Terrains), .fr (dat 6 eTKind zTKind v42.Rules.Kinds), .int .i64 v42.Rules.Stack, .int .i64 v42.Rules.River, .int .i64 v42.Rules.Road, .int .i64 v42.Rules.Supply, .int .i64 v42.Rules.Turns, .int .i64 v42.Map.Width, .int .i64 v42.Map.Height, .fr (dat 1 eI zI v42.Map.Terrain), .fr (dat 1 eI zI v42.Map.Rivers), .fr (dat 1 eI zI v42.Map.Roads)]), .res (cB v44)] [] [(3, pk 3), (4, pk 4), (5, pk 5), (8, .c (.old (dat 1 eI zI v19.1))), (9, cB v19.2), (10, pk 10), (11, pk 11), (12, pk 12), (13, .c (.own 1001 1 0 v27.1.length)), (14, cB v27.2), (71, cB (!v44))] [(3, .var [.old (dat 5 eTTerrain zTTerrain p0.Rules.Terrains), .old (dat 6 eTKind zTKind p0.Rules.Kinds), .int .i64 p0.Rules.Stack, .int .i64 p0.Rules.River, .int .i64 p0.Rules.Road, .int .i64 p0.Rules.Supply, .int .i64 p0.Rules.Turns, .int .i64 p0.Map.Width, .int .i64 p0.Map.Height, .old (dat 1 eI zI p0.Map.Terrain), .old (dat 1 eI zI p0.Map.Rivers), .old (dat 1 eI zI p0.Map.Roads)] false), (4, .var [.int .i64 p1.Turn, .int .i64 p1.Weather, .old (dat 4 eTUnit zTUnit p1.Units)] false), (5, .var [.old (dat 2 eTGoal zTGoal p2.Goals), .int .i64 p2.Step, .int .i64 p2.Margin] false), (10, .var [.fr (dat 5 eTTerrain zTTerrain v21.Rules.Terrains), .fr (dat 6 eTKind zTKind v21.Rules.Kinds), .int .i64 v21.Rules.Stack, .int .i64 v21.Rules.River, .int .i64 v21.Rules.Road, .int .i64 v21.Rules.Supply, .int .i64 v21.Rules.Turns, .int .i64 v21.Map.Width, .int .i64 v21.Map.Height, .fr (dat 1 eI zI v21.Map.Terrain), .fr (dat 1 eI zI v21.Map.Rivers), .fr (dat 1 eI zI v21.Map.Roads)] false), (11, .var [.int .i64 v23.Turn, .int .i64 v23.Weather, .fr (dat 4 eTUnit zTUnit v23.Units)] false), (12, .var [.fr (dat 2 eTGoal zTGoal v25.Goals), .int .i64 v25.Step, .int .i64 v25.Margin] false), (1001, .arr 1 v27.1.length (fF eI zI v27.1) false)] (fun t => aI ((FnOk.le2 (xs := [.agg [.old (dat 5 eTTerrain zTTerrain p0.Rules.Terrains), .old (dat 6 eTKind zTKind p0.Rules.Kinds), .int .i64 p0.Rules.Stack, .int .i64 p0.Rules.River, .int .i64 p0.Rules.Road, .int .i64 p0.Rules.Supply, .int .i64 p0.Rules.Turns, .int .i64 p0.Map.Width, .int .i64 p0.Map.Height, .old (dat 1 eI zI p0.Map.Terrain), .old (dat 1 eI zI p0.Map.Rivers), .old (dat 1 eI zI p0.Map.Roads)]]) (l_toBoard_F_ok p0 v42 h43) ⟨LeD.agg (And.intro (LeC.old _) (And.intro (LeC.old _) (And.intro (LeC.refl _) (And.intro (LeC.refl _) (And.intro (LeC.refl _) (And.intro (LeC.refl _) (And.intro (LeC.refl _) (And.intro (LeC.refl _) (And.intro (LeC.refl _) (And.intro (LeC.old _) (And.intro (LeC.old _) (And.intro (LeC.old _) (trivial))))))))))))), trivial⟩).up glTs) (aI (rfl : ([] : List Nat) = []) (aI (rfl : ([] : List Nat) = []) (aI ((FnOk.le2 (xs := [.agg [.fr (dat 5 eTTerrain zTTerrain v21.Rules.Terrains), .fr (dat 6 eTKind zTKind v21.Rules.Kinds), .int .i64 v21.Rules.Stack, .int .i64 v21.Rules.River, .int .i64 v21.Rules.Road, .int .i64 v21.Rules.Supply, .int .i64 v21.Rules.Turns, .int .i64 v21.Map.Width, .int .i64 v21.Map.Height, .fr (dat 1 eI zI v21.Map.Terrain), .fr (dat 1 eI zI v21.Map.Rivers), .fr (dat 1 eI zI v21.Map.Roads)], .agg [.fr (dat 5 eTTerrain zTTerrain v42.Rules.Terrains), .fr (dat 6 eTKind zTKind v42.Rules.Kinds), .int .i64 v42.Rules.Stack, .int .i64 v42.Rules.River, .int .i64 v42.Rules.Road, .int .i64 v42.Rules.Supply, .int .i64 v42.Rules.Turns, .int .i64 v42.Map.Width, .int .i64 v42.Map.Height, .fr (dat 1 eI zI v42.Map.Terrain), .fr (dat 1 eI zI v42.Map.Rivers), .fr (dat 1 eI zI v42.Map.Roads)]]) (l_eqBoard_ok v21 v42 v44 h45) ⟨LeD.agg (And.intro (LeC.fr _) (And.intro (LeC.fr _) (And.intro (LeC.refl _) (And.intro (LeC.refl _) (And.intro (LeC.refl _) (And.intro (LeC.refl _) (And.intro (LeC.refl _) (And.intro (LeC.refl _) (And.intro (LeC.refl _) (And.intro (LeC.fr _) (And.intro (LeC.fr _) (And.intro (LeC.fr _) (trivial))))))))))))), LeD.agg (And.intro (LeC.fr _) (And.intro (LeC.fr _) (And.intro (LeC.refl _) (And.intro (LeC.refl _) (And.intro (LeC.refl _) (And.intro (LeC.refl _) (And.intro (LeC.refl _) (And.intro (LeC.refl _) (And.intro (LeC.refl _) (And.intro (LeC.fr _) (And.intro (LeC.fr _) (And.intro (LeC.fr _) (trivial))))))))))))), trivial⟩).up glTs) (aI trivial (aI (rfl : ([] : List Nat) = []) (t))))))) ?_
      rcases ofCond H with ⟨c46, H⟩ | ⟨c46, H⟩
      ·refine it c46 ?_
       refine so [] [] [(6, cB false)] [] id ?_
       refine ends_ret ?_
       cases H
      ·refine jf c46 ?_
       refine sk ?_
       refine seq_in ?_
       obtain ⟨v52, h53, H⟩ := ofBind H
       obtain ⟨v54, h55, H⟩ := ofBind H
       refine sd [.res (.agg [.int .i64 v52.Turn, .int .i64 v52.Weather, .fr (dat 4 eTUnit zTUnit v52.Units)]), .res (cB v54)] [] [(3, pk 3), (4, pk 4), (5, pk 5), (8, .c (.old (dat 1 eI zI v19.1))), (9, cB v19.2), (10, pk 10), (11, pk 11), (12, pk 12), (13, .c (.own 1001 1 0 v27.1.length)), (14, cB v27.2), (76, cB (!v54))] [(3, .var [.old (dat 5 eTTerrain zTTerrain p0.Rules.Terrains), .old (dat 6 eTKind zTKind p0.Rules.Kinds), .int .i64 p0.Rules.Stack, .int .i64 p0.Rules.River, .int .i64 p0.Rules.Road, .int .i64 p0.Rules.Supply, .int .i64 p0.Rules.Turns, .int .i64 p0.Map.Width, .int .i64 p0.Map.Height, .old (dat 1 eI zI p0.Map.Terrain), .old (dat 1 eI zI p0.Map.Rivers), .old (dat 1 eI zI p0.Map.Roads)] false), (4, .var [.int .i64 p1.Turn, .int .i64 p1.Weather, .old (dat 4 eTUnit zTUnit p1.Units)] false), (5, .var [.old (dat 2 eTGoal zTGoal p2.Goals), .int .i64 p2.Step, .int .i64 p2.Margin] false), (10, .var [.fr (dat 5 eTTerrain zTTerrain v21.Rules.Terrains), .fr (dat 6 eTKind zTKind v21.Rules.Kinds), .int .i64 v21.Rules.Stack, .int .i64 v21.Rules.River, .int .i64 v21.Rules.Road, .int .i64 v21.Rules.Supply, .int .i64 v21.Rules.Turns, .int .i64 v21.Map.Width, .int .i64 v21.Map.Height, .fr (dat 1 eI zI v21.Map.Terrain), .fr (dat 1 eI zI v21.Map.Rivers), .fr (dat 1 eI zI v21.Map.Roads)] false), (11, .var [.int .i64 v23.Turn, .int .i64 v23.Weather, .fr (dat 4 eTUnit zTUnit v23.Units)] false), (12, .var [.fr (dat 2 eTGoal zTGoal v25.Goals), .int .i64 v25.Step, .int .i64 v25.Margin] false), (1001, .arr 1 v27.1.length (fF eI zI v27.1) false)] (fun t => aI ((FnOk.le2 (xs := [.agg [.int .i64 p1.Turn, .int .i64 p1.Weather, .old (dat 4 eTUnit zTUnit p1.Units)]]) (l_toState_F_ok p1 v52 h53) ⟨LeD.agg (And.intro (LeC.refl _) (And.intro (LeC.refl _) (And.intro (LeC.old _) (trivial)))), trivial⟩).up glTs) (aI (rfl : ([] : List Nat) = []) (aI (rfl : ([] : List Nat) = []) (aI ((FnOk.le2 (xs := [.agg [.int .i64 v23.Turn, .int .i64 v23.Weather, .fr (dat 4 eTUnit zTUnit v23.Units)], .agg [.int .i64 v52.Turn, .int .i64 v52.Weather, .fr (dat 4 eTUnit zTUnit v52.Units)]]) (l_eqState_ok v23 v52 v54 h55) ⟨LeD.agg (And.intro (LeC.refl _) (And.intro (LeC.refl _) (And.intro (LeC.fr _) (trivial)))), LeD.agg (And.intro (LeC.refl _) (And.intro (LeC.refl _) (And.intro (LeC.fr _) (trivial)))), trivial⟩).up glTs) (aI trivial (aI (rfl : ([] : List Nat) = []) (t))))))) ?_
       rcases ofCond H with ⟨c56, H⟩ | ⟨c56, H⟩
       ·refine it c56 ?_
        refine so [] [] [(6, cB false)] [] id ?_
        refine ends_ret ?_
        cases H
       ·refine jf c56 ?_
        refine sk ?_
        refine seq_in ?_
        obtain ⟨v62, h63, H⟩ := ofBind H
        obtain ⟨v64, h65, H⟩ := ofBind H
        refine sd [.res (.agg [.fr (dat 2 eTGoal zTGoal v62.Goals), .int .i64 v62.Step, .int .i64 v62.Margin]), .res (cB v64)] [] [(3, pk 3), (4, pk 4), (5, pk 5), (8, .c (.old (dat 1 eI zI v19.1))), (9, cB v19.2), (10, pk 10), (11, pk 11), (12, pk 12), (13, .c (.own 1001 1 0 v27.1.length)), (14, cB v27.2), (81, cB (!v64))] [(3, .var [.old (dat 5 eTTerrain zTTerrain p0.Rules.Terrains), .old (dat 6 eTKind zTKind p0.Rules.Kinds), .int .i64 p0.Rules.Stack, .int .i64 p0.Rules.River, .int .i64 p0.Rules.Road, .int .i64 p0.Rules.Supply, .int .i64 p0.Rules.Turns, .int .i64 p0.Map.Width, .int .i64 p0.Map.Height, .old (dat 1 eI zI p0.Map.Terrain), .old (dat 1 eI zI p0.Map.Rivers), .old (dat 1 eI zI p0.Map.Roads)] false), (4, .var [.int .i64 p1.Turn, .int .i64 p1.Weather, .old (dat 4 eTUnit zTUnit p1.Units)] false), (5, .var [.old (dat 2 eTGoal zTGoal p2.Goals), .int .i64 p2.Step, .int .i64 p2.Margin] false), (10, .var [.fr (dat 5 eTTerrain zTTerrain v21.Rules.Terrains), .fr (dat 6 eTKind zTKind v21.Rules.Kinds), .int .i64 v21.Rules.Stack, .int .i64 v21.Rules.River, .int .i64 v21.Rules.Road, .int .i64 v21.Rules.Supply, .int .i64 v21.Rules.Turns, .int .i64 v21.Map.Width, .int .i64 v21.Map.Height, .fr (dat 1 eI zI v21.Map.Terrain), .fr (dat 1 eI zI v21.Map.Rivers), .fr (dat 1 eI zI v21.Map.Roads)] false), (11, .var [.int .i64 v23.Turn, .int .i64 v23.Weather, .fr (dat 4 eTUnit zTUnit v23.Units)] false), (12, .var [.fr (dat 2 eTGoal zTGoal v25.Goals), .int .i64 v25.Step, .int .i64 v25.Margin] false), (1001, .arr 1 v27.1.length (fF eI zI v27.1) false)] (fun t => aI ((FnOk.le2 (xs := [.agg [.old (dat 2 eTGoal zTGoal p2.Goals), .int .i64 p2.Step, .int .i64 p2.Margin]]) (l_toConditions_F_ok p2 v62 h63) ⟨LeD.agg (And.intro (LeC.old _) (And.intro (LeC.refl _) (And.intro (LeC.refl _) (trivial)))), trivial⟩).up glTs) (aI (rfl : ([] : List Nat) = []) (aI (rfl : ([] : List Nat) = []) (aI ((FnOk.le2 (xs := [.agg [.fr (dat 2 eTGoal zTGoal v25.Goals), .int .i64 v25.Step, .int .i64 v25.Margin], .agg [.fr (dat 2 eTGoal zTGoal v62.Goals), .int .i64 v62.Step, .int .i64 v62.Margin]]) (l_eqConditions_ok v25 v62 v64 h65) ⟨LeD.agg (And.intro (LeC.fr _) (And.intro (LeC.refl _) (And.intro (LeC.refl _) (trivial)))), LeD.agg (And.intro (LeC.fr _) (And.intro (LeC.refl _) (And.intro (LeC.refl _) (trivial)))), trivial⟩).up glTs) (aI trivial (aI (rfl : ([] : List Nat) = []) (t))))))) ?_
        rcases ofCond H with ⟨c66, H⟩ | ⟨c66, H⟩
        ·refine it c66 ?_
         refine so [] [] [(6, cB false)] [] id ?_
         refine ends_ret ?_
         cases H
        ·refine jf c66 ?_
         refine sk ?_
         refine so [] [] [(3, pk 3), (4, pk 4), (5, pk 5), (8, .c (.old (dat 1 eI zI v19.1))), (9, cB v19.2), (10, pk 10), (11, pk 11), (12, pk 12), (13, .c (.own 1001 1 0 v27.1.length)), (14, cB v27.2), (15, cI 1)] [(3, .var [.old (dat 5 eTTerrain zTTerrain p0.Rules.Terrains), .old (dat 6 eTKind zTKind p0.Rules.Kinds), .int .i64 p0.Rules.Stack, .int .i64 p0.Rules.River, .int .i64 p0.Rules.Road, .int .i64 p0.Rules.Supply, .int .i64 p0.Rules.Turns, .int .i64 p0.Map.Width, .int .i64 p0.Map.Height, .old (dat 1 eI zI p0.Map.Terrain), .old (dat 1 eI zI p0.Map.Rivers), .old (dat 1 eI zI p0.Map.Roads)] false), (4, .var [.int .i64 p1.Turn, .int .i64 p1.Weather, .old (dat 4 eTUnit zTUnit p1.Units)] false), (5, .var [.old (dat 2 eTGoal zTGoal p2.Goals), .int .i64 p2.Step, .int .i64 p2.Margin] false), (10, .var [.fr (dat 5 eTTerrain zTTerrain v21.Rules.Terrains), .fr (dat 6 eTKind zTKind v21.Rules.Kinds), .int .i64 v21.Rules.Stack, .int .i64 v21.Rules.River, .int .i64 v21.Rules.Road, .int .i64 v21.Rules.Supply, .int .i64 v21.Rules.Turns, .int .i64 v21.Map.Width, .int .i64 v21.Map.Height, .fr (dat 1 eI zI v21.Map.Terrain), .fr (dat 1 eI zI v21.Map.Rivers), .fr (dat 1 eI zI v21.Map.Roads)] false), (11, .var [.int .i64 v23.Turn, .int .i64 v23.Weather, .fr (dat 4 eTUnit zTUnit v23.Units)] false), (12, .var [.fr (dat 2 eTGoal zTGoal v25.Goals), .int .i64 v25.Step, .int .i64 v25.Margin] false), (1001, .arr 1 v27.1.length (fF eI zI v27.1) false)] id ?_
         refine tl [] [(3, pk 3), (4, pk 4), (5, pk 5), (8, .c (.old (dat 1 eI zI v19.1))), (9, cB v19.2), (10, pk 10), (11, pk 11), (12, pk 12), (13, .c (.own 1001 1 0 v27.1.length)), (14, cB v27.2), (15, cI 1)] [(3, .var [.old (dat 5 eTTerrain zTTerrain p0.Rules.Terrains), .old (dat 6 eTKind zTKind p0.Rules.Kinds), .int .i64 p0.Rules.Stack, .int .i64 p0.Rules.River, .int .i64 p0.Rules.Road, .int .i64 p0.Rules.Supply, .int .i64 p0.Rules.Turns, .int .i64 p0.Map.Width, .int .i64 p0.Map.Height, .old (dat 1 eI zI p0.Map.Terrain), .old (dat 1 eI zI p0.Map.Rivers), .old (dat 1 eI zI p0.Map.Roads)] false), (4, .var [.int .i64 p1.Turn, .int .i64 p1.Weather, .old (dat 4 eTUnit zTUnit p1.Units)] false), (5, .var [.old (dat 2 eTGoal zTGoal p2.Goals), .int .i64 p2.Step, .int .i64 p2.Margin] false), (10, .var [.fr (dat 5 eTTerrain zTTerrain v21.Rules.Terrains), .fr (dat 6 eTKind zTKind v21.Rules.Kinds), .int .i64 v21.Rules.Stack, .int .i64 v21.Rules.River, .int .i64 v21.Rules.Road, .int .i64 v21.Rules.Supply, .int .i64 v21.Rules.Turns, .int .i64 v21.Map.Width, .int .i64 v21.Map.Height, .fr (dat 1 eI zI v21.Map.Terrain), .fr (dat 1 eI zI v21.Map.Rivers), .fr (dat 1 eI zI v21.Map.Roads)] false), (11, .var [.int .i64 v23.Turn, .int .i64 v23.Weather, .fr (dat 4 eTUnit zTUnit v23.Units)] false), (12, .var [.fr (dat 2 eTGoal zTGoal v25.Goals), .int .i64 v25.Step, .int .i64 v25.Margin] false), (1001, .arr 1 v27.1.length (fF eI zI v27.1) false)] id ?_
         refine turn (E := [(3, pk 3), (4, pk 4), (5, pk 5), (8, .c (.old (dat 1 eI zI v19.1))), (9, cB v19.2), (10, pk 10), (11, pk 11), (12, pk 12), (13, .c (.own 1001 1 0 v27.1.length)), (14, cB v27.2), (15, cI 1)]) (E' := [(3, pk 3), (4, pk 4), (5, pk 5), (8, dc 1 eI zI v19.1), (9, cB v19.2), (10, pk 10), (11, pk 11), (12, pk 12), (13, .c (.own 1001 1 0 v27.1.length)), (14, cB v27.2), (15, cI 1)]) (H := [(3, .var [.old (dat 5 eTTerrain zTTerrain p0.Rules.Terrains), .old (dat 6 eTKind zTKind p0.Rules.Kinds), .int .i64 p0.Rules.Stack, .int .i64 p0.Rules.River, .int .i64 p0.Rules.Road, .int .i64 p0.Rules.Supply, .int .i64 p0.Rules.Turns, .int .i64 p0.Map.Width, .int .i64 p0.Map.Height, .old (dat 1 eI zI p0.Map.Terrain), .old (dat 1 eI zI p0.Map.Rivers), .old (dat 1 eI zI p0.Map.Roads)] false), (4, .var [.int .i64 p1.Turn, .int .i64 p1.Weather, .old (dat 4 eTUnit zTUnit p1.Units)] false), (5, .var [.old (dat 2 eTGoal zTGoal p2.Goals), .int .i64 p2.Step, .int .i64 p2.Margin] false), (10, .var [.fr (dat 5 eTTerrain zTTerrain v21.Rules.Terrains), .fr (dat 6 eTKind zTKind v21.Rules.Kinds), .int .i64 v21.Rules.Stack, .int .i64 v21.Rules.River, .int .i64 v21.Rules.Road, .int .i64 v21.Rules.Supply, .int .i64 v21.Rules.Turns, .int .i64 v21.Map.Width, .int .i64 v21.Map.Height, .fr (dat 1 eI zI v21.Map.Terrain), .fr (dat 1 eI zI v21.Map.Rivers), .fr (dat 1 eI zI v21.Map.Roads)] false), (11, .var [.int .i64 v23.Turn, .int .i64 v23.Weather, .fr (dat 4 eTUnit zTUnit v23.Units)] false), (12, .var [.fr (dat 2 eTGoal zTGoal v25.Goals), .int .i64 v25.Step, .int .i64 v25.Margin] false), (1001, .arr 1 v27.1.length (fF eI zI v27.1) false)]) (H' := [(3, va (eTBoard p0)), (4, va (eTState p1)), (5, va (eTConditions p2)), (10, .var [.lv (dat 5 eTTerrain zTTerrain v21.Rules.Terrains), .lv (dat 6 eTKind zTKind v21.Rules.Kinds), .int .i64 v21.Rules.Stack, .int .i64 v21.Rules.River, .int .i64 v21.Rules.Road, .int .i64 v21.Rules.Supply, .int .i64 v21.Rules.Turns, .int .i64 v21.Map.Width, .int .i64 v21.Map.Height, .lv (dat 1 eI zI v21.Map.Terrain), .lv (dat 1 eI zI v21.Map.Rivers), .lv (dat 1 eI zI v21.Map.Roads)] false), (11, .var [.int .i64 v23.Turn, .int .i64 v23.Weather, .lv (dat 4 eTUnit zTUnit v23.Units)] false), (12, .var [.lv (dat 2 eTGoal zTGoal v25.Goals), .int .i64 v25.Step, .int .i64 v25.Margin] false), (1001, .arr 1 v27.1.length (fF eI zI v27.1) false)]) glTn (And.intro (And.intro rfl (tS (.pk 3 0) rfl)) (And.intro (And.intro rfl (tS (.pk 4 0) rfl)) (And.intro (And.intro rfl (tS (.pk 5 0) rfl)) (And.intro (And.intro rfl (tO (dat 1 eI zI v19.1))) (And.intro (And.intro rfl (tS (.bool v19.2) rfl)) (And.intro (And.intro rfl (tS (.pk 10 0) rfl)) (And.intro (And.intro rfl (tS (.pk 11 0) rfl)) (And.intro (And.intro rfl (tS (.pk 12 0) rfl)) (And.intro (And.intro rfl (tS (.own 1001 1 0 v27.1.length) rfl)) (And.intro (And.intro rfl (tS (.bool v27.2) rfl)) (And.intro (And.intro rfl (tS (.int .i64 1) rfl)) trivial))))))))))) (And.intro (And.intro rfl (And.intro (tO (dat 5 eTTerrain zTTerrain p0.Rules.Terrains)) (And.intro (tO (dat 6 eTKind zTKind p0.Rules.Kinds)) (And.intro (tS (.int .i64 p0.Rules.Stack) rfl) (And.intro (tS (.int .i64 p0.Rules.River) rfl) (And.intro (tS (.int .i64 p0.Rules.Road) rfl) (And.intro (tS (.int .i64 p0.Rules.Supply) rfl) (And.intro (tS (.int .i64 p0.Rules.Turns) rfl) (And.intro (tS (.int .i64 p0.Map.Width) rfl) (And.intro (tS (.int .i64 p0.Map.Height) rfl) (And.intro (tO (dat 1 eI zI p0.Map.Terrain)) (And.intro (tO (dat 1 eI zI p0.Map.Rivers)) (And.intro (tO (dat 1 eI zI p0.Map.Roads)) trivial))))))))))))) (And.intro (And.intro rfl (And.intro (tS (.int .i64 p1.Turn) rfl) (And.intro (tS (.int .i64 p1.Weather) rfl) (And.intro (tO (dat 4 eTUnit zTUnit p1.Units)) trivial)))) (And.intro (And.intro rfl (And.intro (tO (dat 2 eTGoal zTGoal p2.Goals)) (And.intro (tS (.int .i64 p2.Step) rfl) (And.intro (tS (.int .i64 p2.Margin) rfl) trivial)))) (And.intro (And.intro rfl (And.intro (tF (dat 5 eTTerrain zTTerrain v21.Rules.Terrains) rfl (.dat shTTerrain)) (And.intro (tF (dat 6 eTKind zTKind v21.Rules.Kinds) rfl (.dat shTKind)) (And.intro (tS (.int .i64 v21.Rules.Stack) rfl) (And.intro (tS (.int .i64 v21.Rules.River) rfl) (And.intro (tS (.int .i64 v21.Rules.Road) rfl) (And.intro (tS (.int .i64 v21.Rules.Supply) rfl) (And.intro (tS (.int .i64 v21.Rules.Turns) rfl) (And.intro (tS (.int .i64 v21.Map.Width) rfl) (And.intro (tS (.int .i64 v21.Map.Height) rfl) (And.intro (tF (dat 1 eI zI v21.Map.Terrain) rfl (.dat shI)) (And.intro (tF (dat 1 eI zI v21.Map.Rivers) rfl (.dat shI)) (And.intro (tF (dat 1 eI zI v21.Map.Roads) rfl (.dat shI)) trivial))))))))))))) (And.intro (And.intro rfl (And.intro (tS (.int .i64 v23.Turn) rfl) (And.intro (tS (.int .i64 v23.Weather) rfl) (And.intro (tF (dat 4 eTUnit zTUnit v23.Units) rfl (.dat shTUnit)) trivial)))) (And.intro (And.intro rfl (And.intro (tF (dat 2 eTGoal zTGoal v25.Goals) rfl (.dat shTGoal)) (And.intro (tS (.int .i64 v25.Step) rfl) (And.intro (tS (.int .i64 v25.Margin) rfl) trivial)))) (And.intro (And.intro rfl ⟨rfl, rfl, rfl, fun i _ => rfl⟩) trivial))))))) ?_
         obtain ⟨v67, h68, H⟩ := ofBind H
         refine so [.res (cI v67)] [] [(3, pk 3), (4, pk 4), (5, pk 5), (8, dc 1 eI zI v19.1), (9, cB v19.2), (11, pk 11), (12, pk 12), (13, .c (.own 1001 1 0 v27.1.length)), (14, cB v27.2), (15, cI v67)] [(3, va (eTBoard p0)), (4, va (eTState p1)), (5, va (eTConditions p2)), (11, .var [.int .i64 v23.Turn, .int .i64 v23.Weather, .lv (dat 4 eTUnit zTUnit v23.Units)] false), (12, .var [.lv (dat 2 eTGoal zTGoal v25.Goals), .int .i64 v25.Step, .int .i64 v25.Margin] false), (1001, .arr 1 v27.1.length (fF eI zI v27.1) false)] (fun t => aI ((l_markBoard_L_ok v21 1 v67 h68).up glTs) (t)) ?_
         obtain ⟨v69, h70, H⟩ := ofBind H
         refine so [.res (cI v69)] [] [(3, pk 3), (4, pk 4), (5, pk 5), (8, dc 1 eI zI v19.1), (9, cB v19.2), (12, pk 12), (13, .c (.own 1001 1 0 v27.1.length)), (14, cB v27.2), (15, cI v69)] [(3, va (eTBoard p0)), (4, va (eTState p1)), (5, va (eTConditions p2)), (12, .var [.lv (dat 2 eTGoal zTGoal v25.Goals), .int .i64 v25.Step, .int .i64 v25.Margin] false), (1001, .arr 1 v27.1.length (fF eI zI v27.1) false)] (fun t => aI ((l_markState_L_ok v23 v67 v69 h70).up glTs) (t)) ?_
         obtain ⟨v71, h72, H⟩ := ofBind H
         refine so [.res (cI v71)] [] [(3, pk 3), (4, pk 4), (5, pk 5), (8, dc 1 eI zI v19.1), (9, cB v19.2), (13, .c (.own 1001 1 0 v27.1.length)), (14, cB v27.2), (15, cI v71)] [(3, va (eTBoard p0)), (4, va (eTState p1)), (5, va (eTConditions p2)), (1001, .arr 1 v27.1.length (fF eI zI v27.1) false)] (fun t => aI ((l_markConditions_L_ok v25 v69 v71 h72).up glTs) (t)) ?_
         refine seq_in ?_
         rcases ofCond H with ⟨c77, H⟩ | ⟨c77, H⟩
         ·refine so [.g true, .g true, .g true, .g true, .g true, .g true, .g true, .g true, .g true] [] [(3, pk 3), (4, pk 4), (5, pk 5), (8, dc 1 eI zI v19.1), (9, cB v19.2), (13, .c (.own 1001 1 0 v27.1.length)), (103, cB true)] [(3, va (eTBoard p0)), (4, va (eTState p1)), (5, va (eTConditions p2)), (1001, .arr 1 v27.1.length (fF eI zI v27.1) false)] (fun t => aI c77 (aI c77 (aI c77 (aI c77 (aI c77 (aI (rfl : (true : Bool) = true) (aI (rfl : (true : Bool) = true) (aI (rfl : (true : Bool) = true) (aI (rfl : (true : Bool) = true) (t)))))))))) ?_
          refine it (rfl : (true : Bool) = true) ?_
          refine so [] [] [(6, cB false)] [] id ?_
          refine ends_ret ?_
          cases H
         ·obtain ⟨v78, h79, H⟩ := ofBind H
          rcases ofCond H with ⟨c80, H⟩ | ⟨c80, H⟩
          ·refine so [.g false, .g false, .g false, .res (cB v78), .g false, .g false, .g true, .g true, .g true, .g true] [] [(3, pk 3), (4, pk 4), (5, pk 5), (8, dc 1 eI zI v19.1), (9, cB v19.2), (13, .c (.own 1001 1 0 v27.1.length)), (103, cB true)] [(3, va (eTBoard p0)), (4, va (eTState p1)), (5, va (eTConditions p2)), (1001, .arr 1 v27.1.length (fF eI zI v27.1) false)] (fun t => aI c77 (aI c77 (aI c77 (aI (Nat.le_refl v27.1.length) (aI ((l_eqIntS_ok v27.1 v19.1 v78 h79).up glTs) (aI c77 (aI c77 (aI c80 (aI c80 (aI c80 (aI c80 (t)))))))))))) ?_
           refine it (rfl : (true : Bool) = true) ?_
           refine so [] [] [(6, cB false)] [] id ?_
           refine ends_ret ?_
           cases H
          ·refine so [.g false, .g false, .g false, .res (cB v78), .g false, .g false, .g false, .g false, .g false, .g false] [] [(3, pk 3), (4, pk 4), (5, pk 5), (8, dc 1 eI zI v19.1), (9, cB v19.2), (13, .c (.own 1001 1 0 v27.1.length)), (103, cB (!(v27.2 == v19.2)))] [(3, va (eTBoard p0)), (4, va (eTState p1)), (5, va (eTConditions p2)), (1001, .arr 1 v27.1.length (fF eI zI v27.1) false)] (fun t => aI c77 (aI c77 (aI c77 (aI (Nat.le_refl v27.1.length) (aI ((l_eqIntS_ok v27.1 v19.1 v78 h79).up glTs) (aI c77 (aI c77 (aI c80 (aI c80 (aI c80 (aI c80 (t)))))))))))) ?_
           refine jf c36 ?_
           refine sk ?_
           refine so [] [] [(3, pk 3), (4, pk 4), (5, pk 5), (8, dc 1 eI zI v19.1), (9, cB v19.2), (13, .c (.own 1001 1 0 v27.1.length)), (16, cI 1)] [(3, va (eTBoard p0)), (4, va (eTState p1)), (5, va (eTConditions p2)), (1001, .arr 1 v27.1.length (fF eI zI v27.1) false)] id ?_
           obtain ⟨v81, h82, H⟩ := ofBind H
           obtain ⟨g83, H⟩ := ofIf H
           refine so [.mu [(1001, 1000000)] [(1000000, 1001)] (cI v81.1) [(1000000, .arr 1 v81.2.length (fF eI zI v81.2) false)]] [.rel 13 v81.2.length, .rel 104 v81.2.length] [(3, pk 3), (4, pk 4), (5, pk 5), (8, dc 1 eI zI v19.1), (9, cB v19.2), (13, .c (.own 1001 1 0 v81.2.length)), (16, cI v81.1)] [(3, va (eTBoard p0)), (4, va (eTState p1)), (5, va (eTConditions p2)), (1001, .arr 1 v81.2.length (fF eI zI v81.2) false)] (fun t => aI ((l_markIntS_Mod_ok v27.1 1 v81 h82).up glTs) (aI (Eq.symm g83) (aI (Eq.symm g83) (t)))) ?_
           refine so [] [] [(3, pk 3), (4, pk 4), (5, pk 5), (8, dc 1 eI zI v19.1), (9, cB v19.2), (13, .c (.own 1001 1 0 v81.2.length)), (16, cI v81.1), (17, cI 1)] [(3, va (eTBoard p0)), (4, va (eTState p1)), (5, va (eTConditions p2)), (1001, .arr 1 v81.2.length (fF eI zI v81.2) false)] id ?_
           obtain ⟨v84, h85, H⟩ := ofBind H
           refine so [.res (cI v84)] [] [(3, pk 3), (4, pk 4), (5, pk 5), (8, dc 1 eI zI v19.1), (9, cB v19.2), (13, .c (.own 1001 1 0 v81.2.length)), (16, cI v81.1), (17, cI v84)] [(3, va (eTBoard p0)), (4, va (eTState p1)), (5, va (eTConditions p2)), (1001, .arr 1 v81.2.length (fF eI zI v81.2) false)] (fun t => aI (Nat.le_refl v81.2.length) (aI ((l_heldIntS_ok v81.2 1 v84 h85).up glTs) (t))) ?_
           refine seq_in ?_
           refine so [] [] [(3, pk 3), (4, pk 4), (5, pk 5), (8, dc 1 eI zI v19.1), (9, cB v19.2), (13, .c (.own 1001 1 0 v81.2.length)), (16, cI v81.1), (17, cI v84), (111, cB (decide (v84 < 0)))] [(3, va (eTBoard p0)), (4, va (eTState p1)), (5, va (eTConditions p2)), (1001, .arr 1 v81.2.length (fF eI zI v81.2) false)] id ?_
           rcases ofCond H with ⟨c87, H⟩ | ⟨c87, H⟩
           ·refine it c87 ?_
            refine so [] [] [(6, cB false)] [] id ?_
            refine ends_ret ?_
            cases H
           ·refine jf c87 ?_
            refine sk ?_
            refine seq_in ?_
            refine so [] [] [(3, pk 3), (4, pk 4), (5, pk 5), (8, dc 1 eI zI v19.1), (9, cB v19.2), (13, .c (.own 1001 1 0 v81.2.length)), (16, cI v81.1), (114, cB (v84 != v81.1))] [(3, va (eTBoard p0)), (4, va (eTState p1)), (5, va (eTConditions p2)), (1001, .arr 1 v81.2.length (fF eI zI v81.2) false)] id ?_
            rcases ofCond H with ⟨c89, H⟩ | ⟨c89, H⟩
            ·refine it c89 ?_
             refine so [] [] [(6, cB false)] [] id ?_
             refine ends_ret ?_
             cases H
            ·refine jf c89 ?_
             refine sk ?_
             obtain ⟨v90, h91, H⟩ := ofBind H
             obtain ⟨v92, h93, H⟩ := ofBind H
             obtain ⟨v94, h95, H⟩ := ofBind H
             obtain ⟨v96, h97, H⟩ := ofBind H
             refine sd [.res (.agg (eTBoard v90)), .res (.agg (eTState v92)), .res (.agg (eTConditions v94)), .res (.tup [(false, [dat 1 eI zI v96.1]), (false, [.bool v96.2])])] [] [(8, dc 1 eI zI v19.1), (9, cB v19.2), (13, .c (.own 1001 1 0 v81.2.length)), (16, cI v81.1), (18, dc 1 eI zI v96.1), (19, cB v96.2)] [(1001, .arr 1 v81.2.length (fF eI zI v81.2) false)] (fun t => aI ((l_toBoard_ok p0 v90 h91).up glTs) (aI (rfl : ([] : List Nat) = []) (aI (rfl : ([] : List Nat) = []) (aI ((l_toState_ok p1 v92 h93).up glTs) (aI (rfl : ([] : List Nat) = []) (aI (rfl : ([] : List Nat) = []) (aI ((l_toConditions_ok p2 v94 h95).up glTs) (aI (rfl : ([] : List Nat) = []) (aI (rfl : ([] : List Nat) = []) (aI ((i_FreeGoals_ok v90 v92 v94 v96 h97).up glTs) (aI (rfl : ([] : List Nat) = []) (aI (rfl : ([] : List Nat) = []) (t))))))))))))) ?_
             refine seq_in ?_
             obtain ⟨v102, h103, H⟩ := ofBind H
             rcases ofCond H with ⟨c104, H⟩ | ⟨c104, H⟩
             ·refine so [.res (cB v102), .g true, .g true, .g true, .g true] [] [(13, .c (.own 1001 1 0 v81.2.length)), (16, cI v81.1), (133, cB true)] [(1001, .arr 1 v81.2.length (fF eI zI v81.2) false)] (fun t => aI ((l_eqIntS_ok v96.1 v19.1 v102 h103).up glTs) (aI c104 (aI c104 (aI c104 (aI c104 (t)))))) ?_
              refine it (rfl : (true : Bool) = true) ?_
              refine so [] [] [(6, cB false)] [] id ?_
              refine ends_ret ?_
              cases H
             ·refine so [.res (cB v102), .g false, .g false, .g false, .g false] [] [(13, .c (.own 1001 1 0 v81.2.length)), (16, cI v81.1), (133, cB (!(v96.2 == v19.2)))] [(1001, .arr 1 v81.2.length (fF eI zI v81.2) false)] (fun t => aI ((l_eqIntS_ok v96.1 v19.1 v102 h103).up glTs) (aI c104 (aI c104 (aI c104 (aI c104 (t)))))) ?_
              rcases ofCond H with ⟨c105, H⟩ | ⟨c105, H⟩
              ·refine it c105 ?_
               refine so [] [] [(6, cB false)] [] id ?_
               refine ends_ret ?_
               cases H
              ·refine jf c105 ?_
               refine sk ?_
               refine so [] [] [(13, .c (.own 1001 1 0 v81.2.length)), (16, cI v81.1), (17, cI 1)] [(1001, .arr 1 v81.2.length (fF eI zI v81.2) false)] id ?_
               obtain ⟨v106, h107, H⟩ := ofBind H
               refine so [.res (cI v106)] [] [(16, cI v81.1), (17, cI v106)] [] (fun t => aI (Nat.le_refl v81.2.length) (aI ((l_heldIntS_ok v81.2 1 v106 h107).up glTs) (t))) ?_
               refine seq_in ?_
               refine so [] [] [(16, cI v81.1), (17, cI v106), (138, cB (decide (v106 < 0)))] [] id ?_
               rcases ofCond H with ⟨c109, H⟩ | ⟨c109, H⟩
               ·refine it c109 ?_
                refine so [] [] [(6, cB false)] [] id ?_
                refine ends_ret ?_
                cases H
               ·refine jf c109 ?_
                refine sk ?_
                refine seq_in ?_
                refine so [] [] [(141, cB (v106 != v81.1))] [] id ?_
                rcases ofCond H with ⟨c110, H⟩ | ⟨c110, H⟩
                ·refine it c110 ?_
                 refine so [] [] [(6, cB false)] [] id ?_
                 refine ends_ret ?_
                 cases H
                ·refine jf c110 ?_
                 refine sk ?_
                 refine so [] [] [(6, cB true)] [] id ?_
                 refine ends_ret ?_
                 exact And.intro (.inl rfl) rfl
end Go.Proofs.YtociagbpecpcnaaGreatDoor.X0
