/- What each function that FnExactRunMachine reaches computes; no condition. -/
import Derived.Test.YteenmeomlhkphaaGreatDoorRmWb
set_option linter.unusedVariables false
set_option linter.unusedSimpArgs false
set_option maxRecDepth 100000
namespace Go.Proofs.YteenmeomlhkphaaGreatDoor.X0
open Go Go.RowKit Go.Proofs.YteenmeomlhkphaaGreatDoor.Ab Go.Proofs

def x___impl_Machine__interrupt_ir : S :=
 (.seq (.drw [(0, 4), (1, 4), (2, 4), (3, 4), (0, 5), (1, 5), (2, 5), (3, 5), (0, 6), (1, 6), (2, 6), (3, 6), (0, 7), (1, 7), (2, 7), (3, 7), (0, 8), (1, 8), (2, 8), (3, 8), (0, 9), (1, 9), (2, 9), (3, 9), (0, 12), (1, 12), (2, 12), (3, 12), (4, 12), (5, 12), (6, 12), (7, 12), (8, 12), (9, 12), (10, 12), (11, 12)] [om 8 0, o 9 (.nck (.t 8)), oa 10 0 9, ol 11 10, om 12 0, o 13 (.nck (.t 12)), oa 14 0 13, ol 15 14, o 16 (.len (.t 15)), o 17 (.bin .sub (.t 16) (iv 1)), o 18 (.iad 3 (.t 11) (.t 17)), o 19 (.load 3 true (.t 18)), o 6 (.alloc [.int .i64 0, .int .i64 0, .int .i64 0]), os 3 6 19])
 (.seq (.drw [(0, 5), (1, 5), (2, 5), (3, 5), (4, 5), (0, 6), (1, 6), (2, 6), (3, 6), (4, 6)] [om 20 0, o 21 (.nck (.t 20)), oa 22 2 21, oa 23 2 22, ol 24 23, oa 25 0 6, ol 26 25, o 27 (.iad 4 (.t 24) (.t 26)), oa 28 2 27, ol 29 28, om 7 29])
 (.seq (sq [om 30 7, o 31 (.bin .lss (.t 30) (iv 0))]
 (.ite (.t 31) (.ops [oa 32 1 6, ol 33 32, om 7 33])
 .skip))
 (sq [om 34 0, om 35 0, o 36 (.nck (.t 35)), oa 37 1 36, ol 38 37, om 39 2, o 40 (.bsl 1 [.t 39]), o 41 (.app 1 8 (.t 38) (.t 40)), o 42 (.nck (.t 34)), oa 43 1 42, os 1 43 41]
 (.drw [(0, 1), (0, 2), (0, 3), (0, 4), (0, 5), (1, 5), (2, 5), (3, 5), (4, 5), (0, 6), (1, 6), (2, 6), (3, 6), (4, 6), (5, 6), (0, 7), (1, 7), (2, 7), (3, 7), (4, 7), (0, 8), (1, 8), (2, 8), (3, 8), (4, 8), (0, 9), (1, 9), (2, 9), (3, 9), (4, 9), (0, 10), (1, 10), (2, 10), (3, 10), (4, 10), (5, 10), (6, 10), (7, 10), (8, 10), (9, 10), (0, 11), (1, 11), (2, 11), (3, 11), (4, 11), (5, 11), (6, 11), (7, 11), (8, 11), (9, 11), (10, 11), (0, 12), (1, 12), (2, 12), (3, 12), (4, 12), (0, 13), (1, 13), (2, 13), (3, 13), (4, 13), (0, 14)] [om 44 0, om 45 0, o 46 (.nck (.t 45)), oa 47 0 46, ol 48 47, om 49 1, om 50 2, o 51 (.iad 3 (.t 49) (.t 50)), oa 52 0 51, ol 53 52, om 54 7, om 55 2, o 56 (.build [.int .i64 0, .int .i64 0, .int .i64 0] [(0, 1, .t 53), (1, 1, .t 54), (2, 1, .t 55)]), o 57 (.bsl 3 [.t 56]), o 58 (.app 3 24 (.t 48) (.t 57)), o 59 (.nck (.t 44)), oa 60 0 59, os 1 60 58])))))
noncomputable def X.x___impl_Machine__interrupt_Mpdd (p0 : TMachine) (p1 : (List TReaction)) (p2 : Int) : Option TMachine :=
 (if 0 ≤ (W ((p0.Stack.length : Int) - 1)) ∧ (W ((p0.Stack.length : Int) - 1)) < (p0.Stack.length : Int) then (if 0 ≤ (p0.Stack.getD ((W ((p0.Stack.length : Int) - 1)).toNat) zTFrame).Unit ∧ (p0.Stack.getD ((W ((p0.Stack.length : Int) - 1)).toNat) zTFrame).Unit < (p0.State.Units.length : Int) then (((bif (decide ((p0.State.Units.getD (((p0.Stack.getD ((W ((p0.Stack.length : Int) - 1)).toNat) zTFrame).Unit).toNat) zTUnit).At < 0)) then some ((p0.Stack.getD ((W ((p0.Stack.length : Int) - 1)).toNat) zTFrame).At) else some ((p0.State.Units.getD (((p0.Stack.getD ((W ((p0.Stack.length : Int) - 1)).toNat) zTFrame).Unit).toNat) zTUnit).At)) : Option Int).bind fun y5 => (if (p0.Used ++ ([p2] : List Int)).length ≤ LIM then ((at' zTReaction p1 p2).bind fun v8 => (if (p0.Stack ++ ([(TFrame.mk v8.Unit y5 p2)] : List TFrame)).length ≤ LIM then some (TMachine.mk (p0.Stack ++ ([(TFrame.mk v8.Unit y5 p2)] : List TFrame)) (p0.Used ++ ([p2] : List Int)) p0.State p0.Log) else none)) else none)) else none) else none)
theorem x___impl_Machine__interrupt_Mpdd_ok (p0 : TMachine) (p1 : (List TReaction)) (p2 : Int) (r : TMachine) (H : X.x___impl_Machine__interrupt_Mpdd p0 p1 p2 = some r) : FnMu Tryz.prog gl 189 [.c (.pk 1000000 0), .c (dat 3 eTReaction zTReaction p1), cI p2] [(1000000, .var (wTMachine 1000001 1000002 1000003 1000004 p0) false), (1000001, .arr 3 p0.Stack.length (fF eTFrame zTFrame p0.Stack) false), (1000002, .arr 1 p0.Used.length (fF eI zI p0.Used) false), (1000003, .arr 4 p0.State.Units.length (fF eTUnit zTUnit p0.State.Units) false), (1000004, .arr 1 p0.Log.length (fF eI zI p0.Log) false)] (.tup []) [(910000, .arr 3 r.Stack.length (fF eTFrame zTFrame r.Stack) false), (910001, .arr 1 r.Used.length (fF eI zI r.Used) false), (910002, .arr 4 r.State.Units.length (fF eTUnit zTUnit r.State.Units) false), (910003, .arr 1 r.Log.length (fF eI zI r.Log) false), (1000000, .var (wTMachine 910000 910001 910002 910003 r) false)] := by
 unfold X.x___impl_Machine__interrupt_Mpdd at H
 refine fn_mu (fn := Tryz.f189) (ir := x___impl_Machine__interrupt_ir) (E' := []) (E1 := [(910000, ar 3 eTFrame zTFrame r.Stack), (910001, ar 1 eI zI r.Used), (910002, ar 4 eTUnit zTUnit r.State.Units), (910003, ar 1 eI zI r.Log), (1000000, va (wTMachine 910000 910001 910002 910003 r))]) glL Tryz.func189 (by kernel_rfl) (by kernel_rfl) (by kernel_rfl) (by kernel_rfl) (by kernel_rfl) ?_
 obtain ⟨g1, H⟩ := oI H
 refine xn [.no] [] [(6, pk 6)] [] [(6, .var [jI ((p0.Stack.getD ((W ((p0.Stack.length : Int) - 1)).toNat) zTFrame).Unit), jI ((p0.Stack.getD ((W ((p0.Stack.length : Int) - 1)).toNat) zTFrame).At), jI ((p0.Stack.getD ((W ((p0.Stack.length : Int) - 1)).toNat) zTFrame).By)] false)] (fun t => aI g1 (aI (nat_lt g1) (aI rN (t)))) ?_
 obtain ⟨g2, H⟩ := oI H
 refine xn [.no] [] [(7, cI ((p0.State.Units.getD (((p0.Stack.getD ((W ((p0.Stack.length : Int) - 1)).toNat) zTFrame).Unit).toNat) zTUnit).At))] [] [] (fun t => aI g2 (aI (nat_lt g2) (aI rN (t)))) ?_
 obtain ⟨y5, h6, H⟩ := oB H
 refine seq_in (cut_in (fun (z : Int) => At .normal (lit [(0, pk 1000000), (1, dc 3 eTReaction zTReaction p1), (2, cI p2), (7, cI z)] [(1000000, va (wTMachine 1000001 1000002 1000003 1000004 p0)), (1000001, ar 3 eTFrame zTFrame p0.Stack), (1000002, ar 1 eI zI p0.Used), (1000003, ar 4 eTUnit zTUnit p0.State.Units), (1000004, ar 1 eI zI p0.Log)])) y5 ?_ ?_)
 ·clear H
  revert h6
  generalize y5 = y0
  intro H
  refine sn [] [] [(31, cB (decide ((p0.State.Units.getD (((p0.Stack.getD ((W ((p0.Stack.length : Int) - 1)).toNat) zTFrame).Unit).toNat) zTUnit).At < 0)))] [] [] id ?_
  rcases oC H with ⟨c4, H⟩ | ⟨c4, H⟩
  ·refine it c4 ?_
   refine oo [] [] [(0, pk 1000000), (1, dc 3 eTReaction zTReaction p1), (2, cI p2), (7, cI ((p0.Stack.getD ((W ((p0.Stack.length : Int) - 1)).toNat) zTFrame).At))] [(1000000, va (wTMachine 1000001 1000002 1000003 1000004 p0)), (1000001, ar 3 eTFrame zTFrame p0.Stack), (1000002, ar 1 eI zI p0.Used), (1000003, ar 4 eTUnit zTUnit p0.State.Units), (1000004, ar 1 eI zI p0.Log)] id ?_
   cases H
   exact rr
  ·refine jf c4 ?_
   refine tl [] [(0, pk 1000000), (1, dc 3 eTReaction zTReaction p1), (2, cI p2), (7, cI ((p0.State.Units.getD (((p0.Stack.getD ((W ((p0.Stack.length : Int) - 1)).toNat) zTFrame).Unit).toNat) zTUnit).At))] [(1000000, va (wTMachine 1000001 1000002 1000003 1000004 p0)), (1000001, ar 3 eTFrame zTFrame p0.Stack), (1000002, ar 1 eI zI p0.Used), (1000003, ar 4 eTUnit zTUnit p0.State.Units), (1000004, ar 1 eI zI p0.Log)] id ?_
   refine ends_skip ?_
   cases H
   exact rr
 ·clear h6
  rintro e s ⟨rfl, rfl⟩
  change EndsI _ _ _ _ _ _
  obtain ⟨g7, H⟩ := oI H
  refine sn [fh eI zI ([p2] : List Int), fh eI zI (p0.Used ++ ([p2] : List Int))] [] [] [1000002, 1000000] [(41, ar 1 eI zI (p0.Used ++ ([p2] : List Int))), (1000000, .var [.own 1000001 3 0 p0.Stack.length, .own 41 1 0 ((p0.Used ++ ([p2] : List Int)).length), jI p0.State.Turn, jI p0.State.Weather, .own 1000003 4 0 p0.State.Units.length, .own 1000004 1 0 p0.Log.length] false)] (fun t => aI (rfl : ([p2] : List Int).length = 1) (aI (fF_lit eI zI ([p2] : List Int)) (aI (And.intro (Nat.le_refl p0.Used.length) (And.intro (@List.length_append _ p0.Used ([p2] : List Int)) g7)) (aI (fF_appL eI zI p0.Used ([p2] : List Int)) (aI (fF_appR eI zI p0.Used ([p2] : List Int)) (t)))))) ?_
  obtain ⟨v8, h9, H⟩ := oB H
  obtain ⟨g10, H⟩ := oI H
  refine ox [.cs (eTReaction v8), .no, fh eTFrame zTFrame ([(TFrame.mk v8.Unit y5 p2)] : List TFrame), fh eTFrame zTFrame (p0.Stack ++ ([(TFrame.mk v8.Unit y5 p2)] : List TFrame))] [.ren 58 910000, .ren 41 910001, .ren 1000003 910002, .ren 1000004 910003] [] [(910000, ar 3 eTFrame zTFrame (p0.Stack ++ ([(TFrame.mk v8.Unit y5 p2)] : List TFrame))), (910001, ar 1 eI zI (p0.Used ++ ([p2] : List Int))), (910002, ar 4 eTUnit zTUnit p0.State.Units), (910003, ar 1 eI zI p0.Log), (1000000, .var [.own 910000 3 0 ((p0.Stack ++ ([(TFrame.mk v8.Unit y5 p2)] : List TFrame)).length), .own 910001 1 0 ((p0.Used ++ ([p2] : List Int)).length), jI p0.State.Turn, jI p0.State.Weather, .own 910002 4 0 p0.State.Units.length, .own 910003 1 0 p0.Log.length] false)] (fun t => (a2 eTReaction h9 (aI rN (aI (rfl : ([(TFrame.mk v8.Unit y5 p2)] : List TFrame).length = 1) (aI rT (aI (fF_lit eTFrame zTFrame ([(TFrame.mk v8.Unit y5 p2)] : List TFrame)) (aI (And.intro (Nat.le_refl p0.Stack.length) (And.intro (@List.length_append _ p0.Stack ([(TFrame.mk v8.Unit y5 p2)] : List TFrame)) g10)) (aI (fF_appL eTFrame zTFrame p0.Stack ([(TFrame.mk v8.Unit y5 p2)] : List TFrame)) (aI (fF_appR eTFrame zTFrame p0.Stack ([(TFrame.mk v8.Unit y5 p2)] : List TFrame)) (t)))))))))) ?_
  cases H
  exact qn
def i_loseSteps_ir : S :=
 (sq [o 3 (.box 3 (.t 0))]
 (sq [oa 7 2 3, ol 8 7, om 9 1, o 10 (.iad 4 (.t 8) (.t 9)), om 6 10]
 (sq [om 11 6, om 12 6, o 13 (.nck (.t 12)), oa 14 3 13, ol 15 14, om 16 2, o 17 (.bin .sub (.t 15) (.t 16)), o 18 (.mx true (.t 17) (iv 0)), o 19 (.nck (.t 11)), oa 20 3 19, os 1 20 18]
 (sq [om 21 6, o 22 (.nck (.t 21)), oa 23 3 22, ol 24 23, o 25 (.bin .eql (.t 24) (iv 0))]
 (.ite (.t 25) (.ops [om 26 6, o 27 (.nck (.t 26)), oa 28 2 27, ⟨none, .store 1 (.t 28) (.v (.int .i64 (-1))), none⟩])
 .skip)))))
noncomputable def X.i_loseSteps_Modd (p0 : TState) (p1 : Int) (p2 : Int) : Option TState :=
 (if 0 ≤ p1 ∧ p1 < (p0.Units.length : Int) then ((some (p0.Units.set p1.toNat (TUnit.mk ((p0.Units.getD p1.toNat zTUnit).Side) ((p0.Units.getD p1.toNat zTUnit).Kind) ((p0.Units.getD p1.toNat zTUnit).At) (if 0 > (W ((p0.Units.getD p1.toNat zTUnit).Steps - p2)) then 0 else (W ((p0.Units.getD p1.toNat zTUnit).Steps - p2)))))).bind fun l2 => (bif ((l2.getD p1.toNat zTUnit).Steps == 0) then ((some (l2.set p1.toNat (TUnit.mk ((l2.getD p1.toNat zTUnit).Side) ((l2.getD p1.toNat zTUnit).Kind) (-1) ((l2.getD p1.toNat zTUnit).Steps)))).bind fun l5 => some (TState.mk p0.Turn p0.Weather l5)) else some (TState.mk p0.Turn p0.Weather l2))) else none)
theorem i_loseSteps_Modd_ok (p0 : TState) (p1 : Int) (p2 : Int) (r : TState) (H : X.i_loseSteps_Modd p0 p1 p2 = some r) : FnMu Tryz.prog gl 226 [.agg [.int .i64 p0.Turn, .int .i64 p0.Weather, .own 1000000 4 0 p0.Units.length], cI p1, cI p2] [(1000000, .arr 4 p0.Units.length (fF eTUnit zTUnit p0.Units) false)] (.tup []) [(1000000, .arr 4 r.Units.length (fF eTUnit zTUnit r.Units) false)] := by
 unfold X.i_loseSteps_Modd at H
 refine fn_mu (fn := Tryz.f226) (ir := i_loseSteps_ir) (E' := []) (E1 := [(1000000, ar 4 eTUnit zTUnit r.Units)]) glL Tryz.func226 (by kernel_rfl) (by kernel_rfl) (by kernel_rfl) (by kernel_rfl) (by kernel_rfl) ?_
 refine sn [] [] [(3, pk 3)] [] [(3, .var [jI p0.Turn, jI p0.Weather, .own 1000000 4 0 p0.Units.length] false)] id ?_
 obtain ⟨g1, H⟩ := oI H
 refine sn [.no] [] [(6, .c (.pa 1000000 4 p1.toNat 0))] [] [] (fun t => aI g1 (t)) ?_
 obtain ⟨l2, h3, H⟩ := oB H
 refine sn [.fn 0 (fF eTUnit zTUnit l2)] [] [] [1000000, 3] [(1000000, .arr 4 p0.Units.length (fF eTUnit zTUnit l2) false)] (fun t => aI (nat_lt g1) (aI rT (aI (nat_lt g1) (aI (by decide : 3 + 1 ≤ 4) (aI (fF_setN eTUnit zTUnit h3 (nat_lt g1) p0.Units.length) (t)))))) ?_
 refine sn [] [] [(25, cB ((l2.getD p1.toNat zTUnit).Steps == 0))] [] [] (aI (nat_lt g1)) ?_
 rcases oC H with ⟨c4, H⟩ | ⟨c4, H⟩
 ·refine it c4 ?_
  obtain ⟨l5, h6, H⟩ := oB H
  refine oo [.fn 0 (fF eTUnit zTUnit l5)] [.rep 1000000 l5.length (fF eTUnit zTUnit l5)] [] [(1000000, ar 4 eTUnit zTUnit l5)] (fun t => aI rT (aI (nat_lt g1) (aI (by decide : 2 + 1 ≤ 4) (aI (fF_setN eTUnit zTUnit h6 (ltN h3 (nat_lt g1)) p0.Units.length) (aI (Nat.le_of_eq (by simp [lenN h6, lenN h3] : l5.length = p0.Units.length)) (aI (fun _ _ => rfl : ∀ i, i < l5.length → (fF eTUnit zTUnit l5) i = (fF eTUnit zTUnit l5) i) (t))))))) ?_
  cases H
  exact qn
 ·refine jf c4 ?_
  refine tl [.rep 1000000 l2.length (fF eTUnit zTUnit l2)] [] [(1000000, ar 4 eTUnit zTUnit l2)] (fun t => aI (Nat.le_of_eq (by simp [lenN h3] : l2.length = p0.Units.length)) (aI (fun _ _ => rfl : ∀ i, i < l2.length → (fF eTUnit zTUnit l2) i = (fF eTUnit zTUnit l2) i) (t))) ?_
  refine ends_skip ?_
  cases H
  exact qn
def i_unitsAt_ir : S :=
 (sq [o 2 (.box 3 (.t 0)), o 4 (.mv (.v (.nil)))]
 (sq [o 8 (.bsl 1 []), om 5 8]
 (.seq (sq [oa 9 2 2, ol 10 9, o 11 (.len (.t 10)), o 12 (.mv (iv 0))]
 (.blk 0 (.loop (sq [o 13 (.bin .lss (.t 12) (.t 11))]
   (.seq (.ite (.t 13) .skip
   (.exit 0))
   (.seq (.blk 1 (sq [om 14 12, o 15 (.iad 4 (.t 10) (.t 12)), o 16 (.load 4 true (.t 15)), o 7 (.alloc [.int .i64 0, .int .i64 0, .int .i64 0, .int .i64 0]), om 6 14, os 4 7 16]
    (sq [oa 17 2 7, ol 18 17, om 19 1, o 20 (.bin .eql (.t 18) (.t 19))]
    (.ite (.t 20) (.ops [om 21 5, om 22 6, o 23 (.bsl 1 [.t 22]), o 24 (.app 1 8 (.t 21) (.t 23)), om 5 24])
    .skip))))
   (.ops [o 25 (.bin .add (.t 12) (iv 1)), om 12 25])))))))
 (sq [om 26 5, om 4 26]
 .ret))))
noncomputable def X.i_unitsAt (p0 : TState) (p1 : Int) : Option (List Int) :=
 ((loop (fun (x14 : (Int × (List Int))) => ((bif (decide (x14.1 < (p0.Units.length : Int))) then ((at' zTUnit p0.Units x14.1).bind fun v17 => (bif (v17.At == p1) then (if (x14.2 ++ ([x14.1] : List Int)).length ≤ LIM then some (Sum.inl ((W (x14.1 + 1)), (x14.2 ++ ([x14.1] : List Int)))) else none) else some (Sum.inl ((W (x14.1 + 1)), x14.2)))) else some (Sum.inr x14.2)) : Option ((Int × (List Int)) ⊕ (List Int)))) (0, ([] : List Int))).bind fun y21 => some y21)
theorem i_unitsAt_ok (p0 : TState) (p1 : Int) (r : (List Int)) (H : X.i_unitsAt p0 p1 = some r) : FK 105 [.agg (eTState p0), cI p1] (.c (dat 1 eI zI r)) := by
 unfold X.i_unitsAt at H
 refine fi Tryz.f105 i_unitsAt_ir [(4, dc 1 eI zI r)] [] glL Tryz.func105 ?_
 refine sn [] [] [(2, pk 2)] [] [(2, va (eTState p0))] id ?_
 refine sn [fh eI zI ([] : List Int)] [] [(5, ow 8 1 ([] : List Int))] [] [(8, ar 1 eI zI ([] : List Int))] (fun t => aI (rfl : ([] : List Int).length = 0) (aI (fF_lit eI zI ([] : List Int)) (t))) ?_
 refine seq_in ?_
 refine sn [] [] [(10, dc 4 eTUnit zTUnit p0.Units), (11, cL p0.Units), (12, cI 0)] [] [] (fun t => lI p0.Units (t)) ?_
 refine ends_blk ?_
 obtain ⟨y21, h22, H⟩ := oB H
 refine tl [.ren 8 1001] [(1, cI p1), (5, ow 1001 1 ([] : List Int)), (10, dc 4 eTUnit zTUnit p0.Units), (11, cL p0.Units), (12, cI 0)] [(1001, ar 1 eI zI ([] : List Int))] id ?_
 refine loop_in (fun (x : (Int × (List Int))) => lit [(1, cI p1), (5, ow 1001 1 x.2), (10, dc 4 eTUnit zTUnit p0.Units), (11, cL p0.Units), (12, cI x.1)] [(1001, ar 1 eI zI x.2)]) (fun (z : (List Int)) => At (.exit 0) (lit [(5, ow 1001 1 z)] [(1001, ar 1 eI zI z)])) h22 ?_ ?_
 ·clear H h22
  intro x14 y0 H
  refine sn [] [] [(13, cB (decide (x14.1 < (p0.Units.length : Int))))] [] [] id ?_
  refine seq_in ?_
  rcases oC H with ⟨c16, H⟩ | ⟨c16, H⟩
  ·refine it c16 ?_
   refine sk ?_
   refine seq_in ?_
   refine ends_blk ?_
   obtain ⟨v17, h18, H⟩ := oB H
   refine sn [.cs (eTUnit v17)] [] [(6, cI x14.1), (7, pk 7)] [] [(7, va (eTUnit v17))] (a2 eTUnit h18) ?_
   refine sn [] [] [(20, cB (v17.At == p1))] [] [] id ?_
   rcases oC H with ⟨c19, H⟩ | ⟨c19, H⟩
   ·refine it c19 ?_
    obtain ⟨g20, H⟩ := oI H
    refine oo [fh eI zI ([x14.1] : List Int), fh eI zI (x14.2 ++ ([x14.1] : List Int))] [] [(1, cI p1), (5, ow 24 1 (x14.2 ++ ([x14.1] : List Int))), (10, dc 4 eTUnit zTUnit p0.Units), (11, cL p0.Units), (12, cI x14.1)] [(24, ar 1 eI zI (x14.2 ++ ([x14.1] : List Int)))] (fun t => aI (rfl : ([x14.1] : List Int).length = 1) (aI (fF_lit eI zI ([x14.1] : List Int)) (aI (And.intro (Nat.le_refl x14.2.length) (And.intro (@List.length_append _ x14.2 ([x14.1] : List Int)) g20)) (aI (fF_appL eI zI x14.2 ([x14.1] : List Int)) (aI (fF_appR eI zI x14.2 ([x14.1] : List Int)) (t)))))) ?_
    change EndsI _ _ _ _ _ _
    refine oo [] [.ren 24 1001] [(1, cI p1), (5, ow 1001 1 (x14.2 ++ ([x14.1] : List Int))), (10, dc 4 eTUnit zTUnit p0.Units), (11, cL p0.Units), (12, cI (W (x14.1 + 1)))] [(1001, ar 1 eI zI (x14.2 ++ ([x14.1] : List Int)))] id ?_
    cases H
    exact rr
   ·refine jf c19 ?_
    refine sk ?_
    refine oo [] [] [(1, cI p1), (5, ow 1001 1 x14.2), (10, dc 4 eTUnit zTUnit p0.Units), (11, cL p0.Units), (12, cI (W (x14.1 + 1)))] [(1001, ar 1 eI zI x14.2)] id ?_
    cases H
    exact rr
  ·refine jf c16 ?_
   refine tl [] [(5, ow 1001 1 x14.2)] [(1001, ar 1 eI zI x14.2)] id ?_
   refine ends_exit ?_
   cases H
   exact rse
 ·clear h22
  rintro e s ⟨rfl, rfl⟩
  change EndsI _ _ _ _ _ _
  refine sn [] [] [(4, ow 1001 1 y21)] [] [] id ?_
  refine tl [.frz 4] [(4, dc 1 eI zI y21)] [] (aI (Nat.le_refl y21.length)) ?_
  cases H
  exact er
def i_strongest_ir : S :=
 (sq [o 2 (.box 3 (.t 0)), o 4 (.mv (iv 0))]
 (sq [om 8 1, o 9 (.iad 1 (.t 8) (iv 0)), ol 10 9, om 5 10]
 (.seq (sq [om 11 1, o 12 (.len (.t 11)), o 13 (.mv (iv 0))]
 (.blk 0 (.loop (sq [o 14 (.bin .lss (.t 13) (.t 12))]
   (.seq (.ite (.t 14) .skip
   (.exit 0))
   (.seq (.blk 1 (sq [o 15 (.iad 1 (.t 11) (.t 13)), ol 16 15, om 7 16]
    (.seq (.drw [(0, 2), (1, 2), (0, 6), (1, 6), (2, 6), (3, 6), (4, 6), (5, 6), (0, 7), (1, 7), (2, 7), (3, 7), (4, 7), (5, 7), (0, 8), (1, 8), (2, 8), (3, 8), (4, 8), (5, 8), (6, 8), (7, 8), (0, 9), (1, 9), (2, 9), (3, 9), (4, 9), (5, 9), (0, 10), (1, 10), (2, 10), (3, 10), (4, 10), (5, 10), (0, 11), (1, 11), (2, 11), (3, 11), (4, 11), (5, 11)] [oa 17 2 2, ol 18 17, om 19 7, o 20 (.iad 4 (.t 18) (.t 19)), oa 21 3 20, ol 22 21, oa 23 2 2, ol 24 23, om 25 5, o 26 (.iad 4 (.t 24) (.t 25)), oa 27 3 26, ol 28 27, o 29 (.bin .gtr (.t 22) (.t 28))])
    (.ite (.t 29) (.ops [om 30 7, om 5 30])
    .skip))))
   (.ops [o 31 (.bin .add (.t 13) (iv 1)), om 13 31])))))))
 (sq [om 32 5, om 4 32]
 .ret))))
noncomputable def X.i_strongest (p0 : TState) (p1 : (List Int)) : Option Int :=
 ((at' zI p1 0).bind fun v1 => ((loop (fun (x27 : (Int × Int)) => ((bif (decide (x27.2 < (p1.length : Int))) then ((at' zI p1 x27.2).bind fun v30 => ((at' zTUnit p0.Units v30).bind fun v32 => ((at' zTUnit p0.Units x27.1).bind fun v34 => (bif (decide (v32.Steps > v34.Steps)) then some (Sum.inl (v30, (W (x27.2 + 1)))) else some (Sum.inl (x27.1, (W (x27.2 + 1)))))))) else some (Sum.inr x27.1)) : Option ((Int × Int) ⊕ Int))) (v1, 0)).bind fun y37 => some y37))
theorem i_strongest_ok (p0 : TState) (p1 : (List Int)) (r : Int) (H : X.i_strongest p0 p1 = some r) : FK 282 [.agg (eTState p0), .c (dat 1 eI zI p1)] (cI r) := by
 unfold X.i_strongest at H
 refine fi Tryz.f282 i_strongest_ir [(4, cI r)] [] glL Tryz.func282 ?_
 refine sn [] [] [(2, pk 2)] [] [(2, va (eTState p0))] id ?_
 obtain ⟨v1, h2, H⟩ := oB H
 refine sn [.cs (eI v1)] [] [(5, cI v1)] [] [] (a2 eI h2) ?_
 refine seq_in ?_
 refine sn [] [] [(11, dc 1 eI zI p1), (12, cL p1), (13, cI 0)] [] [] (fun t => lI p1 (t)) ?_
 refine ends_blk ?_
 obtain ⟨y37, h38, H⟩ := oB H
 refine tl [] [(2, pk 2), (5, cI v1), (11, dc 1 eI zI p1), (12, cL p1), (13, cI 0)] [(2, va (eTState p0))] id ?_
 refine loop_in (fun (x : (Int × Int)) => lit [(2, pk 2), (5, cI x.1), (11, dc 1 eI zI p1), (12, cL p1), (13, cI x.2)] [(2, va (eTState p0))]) (fun (z : Int) => At (.exit 0) (lit [(5, cI z)] [])) h38 ?_ ?_
 ·clear H h38
  intro x27 y0 H
  refine sn [] [] [(14, cB (decide (x27.2 < (p1.length : Int))))] [] [] id ?_
  refine seq_in ?_
  rcases oC H with ⟨c29, H⟩ | ⟨c29, H⟩
  ·refine it c29 ?_
   refine sk ?_
   refine seq_in ?_
   refine ends_blk ?_
   obtain ⟨v30, h31, H⟩ := oB H
   refine sn [.cs (eI v30)] [] [(7, cI v30)] [] [] (a2 eI h31) ?_
   obtain ⟨v32, h33, H⟩ := oB H
   obtain ⟨v34, h35, H⟩ := oB H
   refine xn [.cs (eTUnit v32), .cs (eTUnit v34)] [] [(29, cB (decide (v32.Steps > v34.Steps)))] [] [] (fun t => (a2 eTUnit h33 (aI rN ((a2 eTUnit h35 (aI rN (t))))))) ?_
   rcases oC H with ⟨c36, H⟩ | ⟨c36, H⟩
   ·refine it c36 ?_
    refine oo [] [] [(2, pk 2), (5, cI v30), (11, dc 1 eI zI p1), (12, cL p1), (13, cI x27.2)] [(2, va (eTState p0))] id ?_
    change EndsI _ _ _ _ _ _
    refine oo [] [] [(2, pk 2), (5, cI v30), (11, dc 1 eI zI p1), (12, cL p1), (13, cI (W (x27.2 + 1)))] [(2, va (eTState p0))] id ?_
    cases H
    exact rr
   ·refine jf c36 ?_
    refine sk ?_
    refine oo [] [] [(2, pk 2), (5, cI x27.1), (11, dc 1 eI zI p1), (12, cL p1), (13, cI (W (x27.2 + 1)))] [(2, va (eTState p0))] id ?_
    cases H
    exact rr
  ·refine jf c29 ?_
   refine tl [] [(5, cI x27.1)] [] id ?_
   refine ends_exit ?_
   cases H
   exact rse
 ·clear h38
  rintro e s ⟨rfl, rfl⟩
  change EndsI _ _ _ _ _ _
  refine so [] [] [(4, cI y37)] [] id ?_
  cases H
  exact er
def i_fireTarget_ir : S :=
 (sq [o 2 (.box 3 (.t 0)), o 3 (.box 3 (.t 1)), o 4 (.mv (iv 0))]
 (sq [o 8 (.bsl 1 []), om 5 8]
 (.seq (sq [o 9 (.load 3 true (.t 2)), oa 10 1 3, ol 11 10, o 12 (.call 105 [.t 9, .t 11]), o 13 (.len (.t 12)), o 14 (.mv (iv 0))]
 (.blk 0 (.loop (sq [o 15 (.bin .lss (.t 14) (.t 13))]
   (.seq (.ite (.t 15) .skip
   (.exit 0))
   (.seq (.blk 1 (sq [o 16 (.iad 1 (.t 12) (.t 14)), ol 17 16, om 7 17]
    (.seq (.drw [(0, 2), (1, 2), (0, 6), (1, 6), (2, 6), (3, 6), (4, 6), (5, 6), (0, 7), (1, 7), (2, 7), (3, 7), (4, 7), (5, 7), (0, 8), (1, 8), (2, 8), (3, 8), (4, 8), (5, 8), (6, 8), (7, 8), (0, 9), (1, 9), (2, 9), (3, 9), (4, 9), (5, 9), (6, 9), (7, 9), (0, 10), (1, 10), (2, 10), (3, 10), (4, 10), (5, 10), (0, 11), (1, 11), (2, 11), (3, 11), (4, 11), (5, 11), (0, 12), (1, 12), (2, 12), (3, 12), (4, 12), (5, 12)] [oa 18 2 2, ol 19 18, om 20 7, o 21 (.iad 4 (.t 19) (.t 20)), oa 22 0 21, ol 23 22, oa 24 2 2, ol 25 24, oa 26 0 3, ol 27 26, o 28 (.iad 4 (.t 25) (.t 27)), oa 29 0 28, ol 30 29, o 31 (.bin .neq (.t 23) (.t 30))])
    (.ite (.t 31) (.ops [om 32 5, om 33 7, o 34 (.bsl 1 [.t 33]), o 35 (.app 1 8 (.t 32) (.t 34)), om 5 35])
    .skip))))
   (.ops [o 36 (.bin .add (.t 14) (iv 1)), om 14 36])))))))
 (.seq (sq [om 37 5, o 38 (.len (.t 37)), o 39 (.bin .eql (.t 38) (iv 0))]
 (.ite (.t 39) (sq [o 4 (.mv (.v (.int .i64 (-1))))]
  .ret)
 .skip))
 (sq [o 40 (.load 3 true (.t 2)), om 41 5, o 42 (.call 282 [.t 40, .t 41]), om 4 42]
 .ret)))))
noncomputable def X.i_fireTarget (p0 : TState) (p1 : TFrame) : Option Int :=
 ((X.i_unitsAt p0 p1.At).bind fun v37 => ((loop (fun (x60 : (Int × (List Int))) => ((bif (decide (x60.1 < (v37.length : Int))) then ((at' zI v37 x60.1).bind fun v63 => ((at' zTUnit p0.Units v63).bind fun v65 => ((at' zTUnit p0.Units p1.Unit).bind fun v67 => (bif (v65.Side != v67.Side) then (if (x60.2 ++ ([v63] : List Int)).length ≤ LIM then some (Sum.inl ((W (x60.1 + 1)), (x60.2 ++ ([v63] : List Int)))) else none) else some (Sum.inl ((W (x60.1 + 1)), x60.2)))))) else some (Sum.inr x60.2)) : Option ((Int × (List Int)) ⊕ (List Int)))) (0, ([] : List Int))).bind fun y71 => (bif ((y71.length : Int) == 0) then some (-1) else ((X.i_strongest p0 y71).bind fun v74 => some v74))))
theorem i_fireTarget_ok (p0 : TState) (p1 : TFrame) (r : Int) (H : X.i_fireTarget p0 p1 = some r) : FK 243 [.agg (eTState p0), .agg (eTFrame p1)] (cI r) := by
 unfold X.i_fireTarget at H
 refine fi Tryz.f243 i_fireTarget_ir [(4, cI r)] [] glL Tryz.func243 ?_
 refine so [] [] [(2, pk 2), (3, pk 3)] [(2, va (eTState p0)), (3, va (eTFrame p1))] id ?_
 refine sn [fh eI zI ([] : List Int)] [] [(5, ow 8 1 ([] : List Int))] [] [(8, ar 1 eI zI ([] : List Int))] (fun t => aI (rfl : ([] : List Int).length = 0) (aI (fF_lit eI zI ([] : List Int)) (t))) ?_
 refine seq_in ?_
 obtain ⟨v37, h38, H⟩ := oB H
 refine sn [.res (dc 1 eI zI v37)] [] [(12, dc 1 eI zI v37), (13, cL v37), (14, cI 0)] [] [] (fun t => aI (i_unitsAt_ok p0 p1.At v37 h38) (lI v37 (t))) ?_
 refine ends_blk ?_
 obtain ⟨y71, h72, H⟩ := oB H
 refine tl [.ren 8 1002] [(2, pk 2), (3, pk 3), (5, ow 1002 1 ([] : List Int)), (12, dc 1 eI zI v37), (13, cL v37), (14, cI 0)] [(2, va (eTState p0)), (3, va (eTFrame p1)), (1002, ar 1 eI zI ([] : List Int))] id ?_
 refine loop_in (fun (x : (Int × (List Int))) => lit [(2, pk 2), (3, pk 3), (5, ow 1002 1 x.2), (12, dc 1 eI zI v37), (13, cL v37), (14, cI x.1)] [(2, va (eTState p0)), (3, va (eTFrame p1)), (1002, ar 1 eI zI x.2)]) (fun (z : (List Int)) => At (.exit 0) (lit [(2, pk 2), (5, ow 1002 1 z)] [(2, va (eTState p0)), (1002, ar 1 eI zI z)])) h72 ?_ ?_
 ·clear H h72
  intro x60 y0 H
  refine sn [] [] [(15, cB (decide (x60.1 < (v37.length : Int))))] [] [] id ?_
  refine seq_in ?_
  rcases oC H with ⟨c62, H⟩ | ⟨c62, H⟩
  ·refine it c62 ?_
   refine sk ?_
   refine seq_in ?_
   refine ends_blk ?_
   obtain ⟨v63, h64, H⟩ := oB H
   refine sn [.cs (eI v63)] [] [(7, cI v63)] [] [] (a2 eI h64) ?_
   obtain ⟨v65, h66, H⟩ := oB H
   obtain ⟨v67, h68, H⟩ := oB H
   refine xn [.cs (eTUnit v65), .cs (eTUnit v67)] [] [(31, cB (v65.Side != v67.Side))] [] [] (fun t => (a2 eTUnit h66 (aI rN ((a2 eTUnit h68 (aI rN (t))))))) ?_
   rcases oC H with ⟨c69, H⟩ | ⟨c69, H⟩
   ·refine it c69 ?_
    obtain ⟨g70, H⟩ := oI H
    refine oo [fh eI zI ([v63] : List Int), fh eI zI (x60.2 ++ ([v63] : List Int))] [] [(2, pk 2), (3, pk 3), (5, ow 35 1 (x60.2 ++ ([v63] : List Int))), (12, dc 1 eI zI v37), (13, cL v37), (14, cI x60.1)] [(2, va (eTState p0)), (3, va (eTFrame p1)), (35, ar 1 eI zI (x60.2 ++ ([v63] : List Int)))] (fun t => aI (rfl : ([v63] : List Int).length = 1) (aI (fF_lit eI zI ([v63] : List Int)) (aI (And.intro (Nat.le_refl x60.2.length) (And.intro (@List.length_append _ x60.2 ([v63] : List Int)) g70)) (aI (fF_appL eI zI x60.2 ([v63] : List Int)) (aI (fF_appR eI zI x60.2 ([v63] : List Int)) (t)))))) ?_
    change EndsI _ _ _ _ _ _
    refine oo [] [.ren 35 1002] [(2, pk 2), (3, pk 3), (5, ow 1002 1 (x60.2 ++ ([v63] : List Int))), (12, dc 1 eI zI v37), (13, cL v37), (14, cI (W (x60.1 + 1)))] [(2, va (eTState p0)), (3, va (eTFrame p1)), (1002, ar 1 eI zI (x60.2 ++ ([v63] : List Int)))] id ?_
    cases H
    exact rr
   ·refine jf c69 ?_
    refine sk ?_
    refine oo [] [] [(2, pk 2), (3, pk 3), (5, ow 1002 1 x60.2), (12, dc 1 eI zI v37), (13, cL v37), (14, cI (W (x60.1 + 1)))] [(2, va (eTState p0)), (3, va (eTFrame p1)), (1002, ar 1 eI zI x60.2)] id ?_
    cases H
    exact rr
  ·refine jf c62 ?_
   refine tl [] [(2, pk 2), (5, ow 1002 1 x60.2)] [(2, va (eTState p0)), (1002, ar 1 eI zI x60.2)] id ?_
   refine ends_exit ?_
   cases H
   exact rse
 ·clear h72
  rintro e s ⟨rfl, rfl⟩
  change EndsI _ _ _ _ _ _
  refine seq_in ?_
  refine sn [] [] [(39, cB ((y71.length : Int) == 0))] [] [] (fun t => lI y71 (t)) ?_
  rcases oC H with ⟨c73, H⟩ | ⟨c73, H⟩
  ·refine it c73 ?_
   refine so [] [] [(4, cI (-1))] [] id ?_
   cases H
   exact er
  ·refine jf c73 ?_
   refine sk ?_
   obtain ⟨v74, h75, H⟩ := oB H
   refine so [.res (cI v74)] [] [(4, cI v74)] [] (fun t => aI (Nat.le_refl y71.length) (aI (i_strongest_ok p0 y71 v74 h75) (t))) ?_
   cases H
   exact er
def x___impl_Machine__finish_ir : S :=
 (.seq (.drw [(0, 4), (1, 4), (2, 4), (3, 4), (0, 5), (1, 5), (2, 5), (3, 5), (0, 6), (1, 6), (2, 6), (3, 6), (0, 7), (1, 7), (2, 7), (3, 7), (0, 8), (1, 8), (2, 8), (3, 8), (0, 9), (1, 9), (2, 9), (3, 9), (0, 12), (1, 12), (2, 12), (3, 12), (4, 12), (5, 12), (6, 12), (7, 12), (8, 12), (9, 12), (10, 12), (11, 12)] [om 6 0, o 7 (.nck (.t 6)), oa 8 0 7, ol 9 8, om 10 0, o 11 (.nck (.t 10)), oa 12 0 11, ol 13 12, o 14 (.len (.t 13)), o 15 (.bin .sub (.t 14) (iv 1)), o 16 (.iad 3 (.t 9) (.t 15)), o 17 (.load 3 true (.t 16)), o 4 (.alloc [.int .i64 0, .int .i64 0, .int .i64 0]), os 3 4 17])
 (.seq (.drw [(0, 1), (0, 2), (0, 3), (0, 4), (0, 5), (1, 5), (2, 5), (3, 5), (4, 5), (0, 6), (1, 6), (2, 6), (3, 6), (4, 6), (0, 7), (1, 7), (2, 7), (3, 7), (4, 7), (0, 8), (1, 8), (2, 8), (3, 8), (4, 8), (0, 9), (1, 9), (2, 9), (3, 9), (4, 9), (0, 10), (1, 10), (2, 10), (3, 10), (4, 10), (0, 11)] [om 18 0, om 19 0, o 20 (.nck (.t 19)), oa 21 0 20, ol 22 21, om 23 0, o 24 (.nck (.t 23)), oa 25 0 24, ol 26 25, o 27 (.len (.t 26)), o 28 (.bin .sub (.t 27) (iv 1)), o 29 (.slc 3 (.t 22) none (some (.t 28))), o 30 (.nck (.t 18)), oa 31 0 30, os 1 31 29])
 (.seq (.seq (.drw [(0, 5), (1, 5), (2, 5), (3, 5), (4, 5), (0, 6), (1, 6), (2, 6), (3, 6), (4, 6)] [om 32 0, o 33 (.nck (.t 32)), oa 34 2 33, oa 35 2 34, ol 36 35, oa 37 0 4, ol 38 37, o 39 (.iad 4 (.t 36) (.t 38)), oa 40 2 39, ol 41 40, o 42 (.bin .lss (.t 41) (iv 0))])
 (.ite (.t 42) .ret
 .skip))
 (.seq (.drw [(0, 1), (0, 2), (0, 3), (0, 4), (0, 5), (1, 5), (2, 5), (3, 5), (4, 5), (0, 6), (1, 6), (2, 6), (3, 6), (4, 6), (0, 7), (1, 7), (2, 7), (3, 7), (4, 7), (0, 8)] [om 43 0, om 44 0, o 45 (.nck (.t 44)), oa 46 5 45, ol 47 46, oa 48 2 4, ol 49 48, o 50 (.bsl 1 [.t 49]), o 51 (.app 1 8 (.t 47) (.t 50)), o 52 (.nck (.t 43)), oa 53 5 52, os 1 53 51])
 (.seq (sq [oa 54 2 4, ol 55 54, o 56 (.bin .lss (.t 55) (iv 0))]
 (.ite (.t 56) .ret
 .skip))
 (.seq (sq [om 57 1, oa 58 2 4, ol 59 58, o 60 (.iad 3 (.t 57) (.t 59)), oa 61 2 60, ol 62 61, o 63 (.bin .eql (.t 62) (iv 1))]
 (.ite (.t 63) (.seq (.drw [(0, 1), (0, 2), (0, 3), (0, 4), (0, 5), (1, 5), (2, 5), (3, 5), (4, 5), (0, 6), (1, 6), (2, 6), (3, 6), (4, 6), (0, 7), (1, 7), (2, 7), (3, 7), (4, 7), (0, 8), (1, 8), (2, 8), (3, 8), (4, 8), (0, 9), (1, 9), (2, 9), (3, 9), (4, 9), (0, 10), (1, 10), (2, 10), (3, 10), (4, 10), (0, 11), (1, 11), (2, 11), (3, 11), (4, 11), (0, 12)] [om 64 0, om 65 0, o 66 (.nck (.t 65)), oa 67 0 66, ol 68 67, om 69 0, o 70 (.nck (.t 69)), oa 71 0 70, ol 72 71, o 73 (.len (.t 72)), o 74 (.bin .sub (.t 73) (iv 1)), o 75 (.mx true (.t 74) (iv 0)), o 76 (.slc 3 (.t 68) none (some (.t 75))), o 77 (.nck (.t 64)), oa 78 0 77, os 1 78 76])
  .ret)
 .skip))
 (.seq (.drw [(0, 4), (1, 4), (2, 4), (3, 4)] [om 79 0, o 80 (.nck (.t 79)), oa 81 2 80, o 82 (.load 3 true (.t 81)), o 83 (.load 3 true (.t 4)), o 84 (.call 243 [.t 82, .t 83]), om 5 84])
 (sq [om 85 5, o 86 (.bin .geq (.t 85) (iv 0))]
 (.ite (.t 86) (.ops [om 87 0, o 88 (.nck (.t 87)), oa 89 2 88, o 90 (.load 3 true (.t 89)), om 91 5, o 92 (.call 226 [.t 90, .t 91, .v (.int .i64 1)])])
 .skip)))))))))
noncomputable def X.x___impl_Machine__finish_Mpd (p0 : TMachine) (p1 : (List TReaction)) : Option TMachine :=
 (if 0 ≤ (W ((p0.Stack.length : Int) - 1)) ∧ (W ((p0.Stack.length : Int) - 1)) < (p0.Stack.length : Int) then (if 0 ≤ (0 : Int) ∧ (0 : Int) ≤ (W ((p0.Stack.length : Int) - 1)) ∧ (W ((p0.Stack.length : Int) - 1)) ≤ (p0.Stack.length : Int) then (if 0 ≤ (p0.Stack.getD ((W ((p0.Stack.length : Int) - 1)).toNat) zTFrame).Unit ∧ (p0.Stack.getD ((W ((p0.Stack.length : Int) - 1)).toNat) zTFrame).Unit < (p0.State.Units.length : Int) then (bif (decide ((p0.State.Units.getD (((p0.Stack.getD ((W ((p0.Stack.length : Int) - 1)).toNat) zTFrame).Unit).toNat) zTUnit).At < 0)) then some (TMachine.mk (p0.Stack.take (W ((p0.Stack.length : Int) - 1)).toNat) p0.Used p0.State p0.Log) else (if (p0.Log ++ ([(p0.Stack.getD ((W ((p0.Stack.length : Int) - 1)).toNat) zTFrame).By] : List Int)).length ≤ LIM then (bif (decide ((p0.Stack.getD ((W ((p0.Stack.length : Int) - 1)).toNat) zTFrame).By < 0)) then some (TMachine.mk (p0.Stack.take (W ((p0.Stack.length : Int) - 1)).toNat) p0.Used p0.State (p0.Log ++ ([(p0.Stack.getD ((W ((p0.Stack.length : Int) - 1)).toNat) zTFrame).By] : List Int))) else ((at' zTReaction p1 ((p0.Stack.getD ((W ((p0.Stack.length : Int) - 1)).toNat) zTFrame).By)).bind fun v14 => (bif (v14.Kind == 1) then (if 0 ≤ (0 : Int) ∧ (0 : Int) ≤ (if 0 > (W (((p0.Stack.take (W ((p0.Stack.length : Int) - 1)).toNat).length : Int) - 1)) then 0 else (W (((p0.Stack.take (W ((p0.Stack.length : Int) - 1)).toNat).length : Int) - 1))) ∧ (if 0 > (W (((p0.Stack.take (W ((p0.Stack.length : Int) - 1)).toNat).length : Int) - 1)) then 0 else (W (((p0.Stack.take (W ((p0.Stack.length : Int) - 1)).toNat).length : Int) - 1))) ≤ ((p0.Stack.take (W ((p0.Stack.length : Int) - 1)).toNat).length : Int) then some (TMachine.mk ((p0.Stack.take (W ((p0.Stack.length : Int) - 1)).toNat).take (if 0 > (W (((p0.Stack.take (W ((p0.Stack.length : Int) - 1)).toNat).length : Int) - 1)) then 0 else (W (((p0.Stack.take (W ((p0.Stack.length : Int) - 1)).toNat).length : Int) - 1))).toNat) p0.Used p0.State (p0.Log ++ ([(p0.Stack.getD ((W ((p0.Stack.length : Int) - 1)).toNat) zTFrame).By] : List Int))) else none) else ((X.i_fireTarget p0.State (p0.Stack.getD ((W ((p0.Stack.length : Int) - 1)).toNat) zTFrame)).bind fun v18 => (bif (decide (v18 ≥ 0)) then ((X.i_loseSteps_Modd p0.State v18 1).bind fun v21 => (if v21.Units.length = p0.State.Units.length then some (TMachine.mk (p0.Stack.take (W ((p0.Stack.length : Int) - 1)).toNat) p0.Used (TState.mk p0.State.Turn p0.State.Weather v21.Units) (p0.Log ++ ([(p0.Stack.getD ((W ((p0.Stack.length : Int) - 1)).toNat) zTFrame).By] : List Int))) else none)) else some (TMachine.mk (p0.Stack.take (W ((p0.Stack.length : Int) - 1)).toNat) p0.Used p0.State (p0.Log ++ ([(p0.Stack.getD ((W ((p0.Stack.length : Int) - 1)).toNat) zTFrame).By] : List Int)))))))) else none)) else none) else none) else none)
theorem x___impl_Machine__finish_Mpd_ok (p0 : TMachine) (p1 : (List TReaction)) (r : TMachine) (H : X.x___impl_Machine__finish_Mpd p0 p1 = some r) : FnMu Tryz.prog gl 190 [.c (.pk 1000000 0), .c (dat 3 eTReaction zTReaction p1)] [(1000000, .var (wTMachine 1000001 1000002 1000003 1000004 p0) false), (1000001, .arr 3 p0.Stack.length (fF eTFrame zTFrame p0.Stack) false), (1000002, .arr 1 p0.Used.length (fF eI zI p0.Used) false), (1000003, .arr 4 p0.State.Units.length (fF eTUnit zTUnit p0.State.Units) false), (1000004, .arr 1 p0.Log.length (fF eI zI p0.Log) false)] (.tup []) [(910000, .arr 3 r.Stack.length (fF eTFrame zTFrame r.Stack) false), (910001, .arr 1 r.Used.length (fF eI zI r.Used) false), (910002, .arr 4 r.State.Units.length (fF eTUnit zTUnit r.State.Units) false), (910003, .arr 1 r.Log.length (fF eI zI r.Log) false), (1000000, .var (wTMachine 910000 910001 910002 910003 r) false)] := by
 unfold X.x___impl_Machine__finish_Mpd at H
 refine fn_mu (fn := Tryz.f190) (ir := x___impl_Machine__finish_ir) (E' := []) (E1 := [(910000, ar 3 eTFrame zTFrame r.Stack), (910001, ar 1 eI zI r.Used), (910002, ar 4 eTUnit zTUnit r.State.Units), (910003, ar 1 eI zI r.Log), (1000000, va (wTMachine 910000 910001 910002 910003 r))]) glL Tryz.func190 (by kernel_rfl) (by kernel_rfl) (by kernel_rfl) (by kernel_rfl) (by kernel_rfl) ?_
 obtain ⟨g1, H⟩ := oI H
 refine xn [.no] [] [(4, pk 4)] [] [(4, .var [jI ((p0.Stack.getD ((W ((p0.Stack.length : Int) - 1)).toNat) zTFrame).Unit), jI ((p0.Stack.getD ((W ((p0.Stack.length : Int) - 1)).toNat) zTFrame).At), jI ((p0.Stack.getD ((W ((p0.Stack.length : Int) - 1)).toNat) zTFrame).By)] false)] (fun t => aI g1 (aI (nat_lt g1) (aI rN (t)))) ?_
 obtain ⟨g2, H⟩ := oI H
 refine xn [.nat (p0.Stack.take (W ((p0.Stack.length : Int) - 1)).toNat).length] [.rep 1000001 (p0.Stack.take (W ((p0.Stack.length : Int) - 1)).toNat).length (fF eTFrame zTFrame (p0.Stack.take (W ((p0.Stack.length : Int) - 1)).toNat))] [] [1000001, 1000000] [(1000000, .var [.own 1000001 3 0 ((p0.Stack.take (W ((p0.Stack.length : Int) - 1)).toNat).length), .own 1000002 1 0 p0.Used.length, jI p0.State.Turn, jI p0.State.Weather, .own 1000003 4 0 p0.State.Units.length, .own 1000004 1 0 p0.Log.length] false), (1000001, ar 3 eTFrame zTFrame (p0.Stack.take (W ((p0.Stack.length : Int) - 1)).toNat))] (fun t => aI (take_nat p0.Stack (W ((p0.Stack.length : Int) - 1)) g2) (aI (take_len p0.Stack (W ((p0.Stack.length : Int) - 1))) (aI (fF_take eTFrame zTFrame p0.Stack (W ((p0.Stack.length : Int) - 1))) (t)))) ?_
 refine seq_in ?_
 obtain ⟨g5, H⟩ := oI H
 refine xn [.no] [] [(42, cB (decide ((p0.State.Units.getD (((p0.Stack.getD ((W ((p0.Stack.length : Int) - 1)).toNat) zTFrame).Unit).toNat) zTUnit).At < 0)))] [] [] (fun t => aI g5 (aI (nat_lt g5) (aI rN (t)))) ?_
 rcases oC H with ⟨c6, H⟩ | ⟨c6, H⟩
 ·refine it c6 ?_
  refine tl [.ren 1000001 910000, .ren 1000002 910001, .ren 1000003 910002, .ren 1000004 910003] [] [(910000, ar 3 eTFrame zTFrame (p0.Stack.take (W ((p0.Stack.length : Int) - 1)).toNat)), (910001, ar 1 eI zI p0.Used), (910002, ar 4 eTUnit zTUnit p0.State.Units), (910003, ar 1 eI zI p0.Log), (1000000, .var [.own 910000 3 0 ((p0.Stack.take (W ((p0.Stack.length : Int) - 1)).toNat).length), .own 910001 1 0 p0.Used.length, jI p0.State.Turn, jI p0.State.Weather, .own 910002 4 0 p0.State.Units.length, .own 910003 1 0 p0.Log.length] false)] id ?_
  cases H
  exact er
 ·refine jf c6 ?_
  refine sk ?_
  obtain ⟨g7, H⟩ := oI H
  refine xn [.no, fh eI zI ([(p0.Stack.getD ((W ((p0.Stack.length : Int) - 1)).toNat) zTFrame).By] : List Int), fh eI zI (p0.Log ++ ([(p0.Stack.getD ((W ((p0.Stack.length : Int) - 1)).toNat) zTFrame).By] : List Int))] [] [] [1000004, 1000000] [(51, ar 1 eI zI (p0.Log ++ ([(p0.Stack.getD ((W ((p0.Stack.length : Int) - 1)).toNat) zTFrame).By] : List Int))), (1000000, .var [.own 1000001 3 0 ((p0.Stack.take (W ((p0.Stack.length : Int) - 1)).toNat).length), .own 1000002 1 0 p0.Used.length, jI p0.State.Turn, jI p0.State.Weather, .own 1000003 4 0 p0.State.Units.length, .own 51 1 0 ((p0.Log ++ ([(p0.Stack.getD ((W ((p0.Stack.length : Int) - 1)).toNat) zTFrame).By] : List Int)).length)] false)] (fun t => aI (rfl : ([(p0.Stack.getD ((W ((p0.Stack.length : Int) - 1)).toNat) zTFrame).By] : List Int).length = 1) (aI rT (aI (fF_lit eI zI ([(p0.Stack.getD ((W ((p0.Stack.length : Int) - 1)).toNat) zTFrame).By] : List Int)) (aI (And.intro (Nat.le_refl p0.Log.length) (And.intro (@List.length_append _ p0.Log ([(p0.Stack.getD ((W ((p0.Stack.length : Int) - 1)).toNat) zTFrame).By] : List Int)) g7)) (aI (fF_appL eI zI p0.Log ([(p0.Stack.getD ((W ((p0.Stack.length : Int) - 1)).toNat) zTFrame).By] : List Int)) (aI (fF_appR eI zI p0.Log ([(p0.Stack.getD ((W ((p0.Stack.length : Int) - 1)).toNat) zTFrame).By] : List Int)) (t))))))) ?_
  refine seq_in ?_
  refine sn [] [] [(56, cB (decide ((p0.Stack.getD ((W ((p0.Stack.length : Int) - 1)).toNat) zTFrame).By < 0)))] [] [] id ?_
  rcases oC H with ⟨c9, H⟩ | ⟨c9, H⟩
  ·refine it c9 ?_
   refine tl [.ren 1000001 910000, .ren 1000002 910001, .ren 1000003 910002, .ren 51 910003] [] [(910000, ar 3 eTFrame zTFrame (p0.Stack.take (W ((p0.Stack.length : Int) - 1)).toNat)), (910001, ar 1 eI zI p0.Used), (910002, ar 4 eTUnit zTUnit p0.State.Units), (910003, ar 1 eI zI (p0.Log ++ ([(p0.Stack.getD ((W ((p0.Stack.length : Int) - 1)).toNat) zTFrame).By] : List Int))), (1000000, .var [.own 910000 3 0 ((p0.Stack.take (W ((p0.Stack.length : Int) - 1)).toNat).length), .own 910001 1 0 p0.Used.length, jI p0.State.Turn, jI p0.State.Weather, .own 910002 4 0 p0.State.Units.length, .own 910003 1 0 ((p0.Log ++ ([(p0.Stack.getD ((W ((p0.Stack.length : Int) - 1)).toNat) zTFrame).By] : List Int)).length)] false)] id ?_
   cases H
   exact er
  ·refine jf c9 ?_
   refine sk ?_
   refine seq_in ?_
   obtain ⟨v14, h15, H⟩ := oB H
   refine sn [.cs (eTReaction v14)] [] [(63, cB (v14.Kind == 1))] [] [] (a2 eTReaction h15) ?_
   rcases oC H with ⟨c16, H⟩ | ⟨c16, H⟩
   ·refine it c16 ?_
    obtain ⟨g17, H⟩ := oI H
    refine xn [.nat ((p0.Stack.take (W ((p0.Stack.length : Int) - 1)).toNat).take (if 0 > (W (((p0.Stack.take (W ((p0.Stack.length : Int) - 1)).toNat).length : Int) - 1)) then 0 else (W (((p0.Stack.take (W ((p0.Stack.length : Int) - 1)).toNat).length : Int) - 1))).toNat).length] [.rep 1000001 ((p0.Stack.take (W ((p0.Stack.length : Int) - 1)).toNat).take (if 0 > (W (((p0.Stack.take (W ((p0.Stack.length : Int) - 1)).toNat).length : Int) - 1)) then 0 else (W (((p0.Stack.take (W ((p0.Stack.length : Int) - 1)).toNat).length : Int) - 1))).toNat).length (fF eTFrame zTFrame ((p0.Stack.take (W ((p0.Stack.length : Int) - 1)).toNat).take (if 0 > (W (((p0.Stack.take (W ((p0.Stack.length : Int) - 1)).toNat).length : Int) - 1)) then 0 else (W (((p0.Stack.take (W ((p0.Stack.length : Int) - 1)).toNat).length : Int) - 1))).toNat))] [] [1000001, 1000000] [(1000000, .var [.own 1000001 3 0 (((p0.Stack.take (W ((p0.Stack.length : Int) - 1)).toNat).take (if 0 > (W (((p0.Stack.take (W ((p0.Stack.length : Int) - 1)).toNat).length : Int) - 1)) then 0 else (W (((p0.Stack.take (W ((p0.Stack.length : Int) - 1)).toNat).length : Int) - 1))).toNat).length), .own 1000002 1 0 p0.Used.length, jI p0.State.Turn, jI p0.State.Weather, .own 1000003 4 0 p0.State.Units.length, .own 51 1 0 ((p0.Log ++ ([(p0.Stack.getD ((W ((p0.Stack.length : Int) - 1)).toNat) zTFrame).By] : List Int)).length)] false), (1000001, ar 3 eTFrame zTFrame ((p0.Stack.take (W ((p0.Stack.length : Int) - 1)).toNat).take (if 0 > (W (((p0.Stack.take (W ((p0.Stack.length : Int) - 1)).toNat).length : Int) - 1)) then 0 else (W (((p0.Stack.take (W ((p0.Stack.length : Int) - 1)).toNat).length : Int) - 1))).toNat))] (fun t => aI (take_nat (p0.Stack.take (W ((p0.Stack.length : Int) - 1)).toNat) (if 0 > (W (((p0.Stack.take (W ((p0.Stack.length : Int) - 1)).toNat).length : Int) - 1)) then 0 else (W (((p0.Stack.take (W ((p0.Stack.length : Int) - 1)).toNat).length : Int) - 1))) g17) (aI (take_len (p0.Stack.take (W ((p0.Stack.length : Int) - 1)).toNat) (if 0 > (W (((p0.Stack.take (W ((p0.Stack.length : Int) - 1)).toNat).length : Int) - 1)) then 0 else (W (((p0.Stack.take (W ((p0.Stack.length : Int) - 1)).toNat).length : Int) - 1)))) (aI (fF_take eTFrame zTFrame (p0.Stack.take (W ((p0.Stack.length : Int) - 1)).toNat) (if 0 > (W (((p0.Stack.take (W ((p0.Stack.length : Int) - 1)).toNat).length : Int) - 1)) then 0 else (W (((p0.Stack.take (W ((p0.Stack.length : Int) - 1)).toNat).length : Int) - 1)))) (t)))) ?_
    refine tl [.ren 1000001 910000, .ren 1000002 910001, .ren 1000003 910002, .ren 51 910003] [] [(910000, ar 3 eTFrame zTFrame ((p0.Stack.take (W ((p0.Stack.length : Int) - 1)).toNat).take (if 0 > (W (((p0.Stack.take (W ((p0.Stack.length : Int) - 1)).toNat).length : Int) - 1)) then 0 else (W (((p0.Stack.take (W ((p0.Stack.length : Int) - 1)).toNat).length : Int) - 1))).toNat)), (910001, ar 1 eI zI p0.Used), (910002, ar 4 eTUnit zTUnit p0.State.Units), (910003, ar 1 eI zI (p0.Log ++ ([(p0.Stack.getD ((W ((p0.Stack.length : Int) - 1)).toNat) zTFrame).By] : List Int))), (1000000, .var [.own 910000 3 0 (((p0.Stack.take (W ((p0.Stack.length : Int) - 1)).toNat).take (if 0 > (W (((p0.Stack.take (W ((p0.Stack.length : Int) - 1)).toNat).length : Int) - 1)) then 0 else (W (((p0.Stack.take (W ((p0.Stack.length : Int) - 1)).toNat).length : Int) - 1))).toNat).length), .own 910001 1 0 p0.Used.length, jI p0.State.Turn, jI p0.State.Weather, .own 910002 4 0 p0.State.Units.length, .own 910003 1 0 ((p0.Log ++ ([(p0.Stack.getD ((W ((p0.Stack.length : Int) - 1)).toNat) zTFrame).By] : List Int)).length)] false)] id ?_
    cases H
    exact er
   ·refine jf c16 ?_
    refine sk ?_
    obtain ⟨v18, h19, H⟩ := oB H
    refine xn [.res (cI v18)] [] [(5, cI v18)] [] [] (fun t => aI (Nat.le_refl p0.State.Units.length) (aI (i_fireTarget_ok p0.State (p0.Stack.getD ((W ((p0.Stack.length : Int) - 1)).toNat) zTFrame) v18 h19) (aI trivial (aI rN (t))))) ?_
    refine sn [] [] [(86, cB (decide (v18 ≥ 0)))] [4] [] id ?_
    rcases oC H with ⟨c20, H⟩ | ⟨c20, H⟩
    ·refine it c20 ?_
     obtain ⟨v21, h22, H⟩ := oB H
     obtain ⟨g23, H⟩ := oI H
     refine oo [.mu [(1000003, 1000000)] [(1000000, 1000003)] (.tup []) [(1000000, ar 4 eTUnit zTUnit v21.Units)]] [.agg 90 [jI p0.State.Turn, jI p0.State.Weather, .own 1000003 4 0 v21.Units.length], .relc 1000000 4 v21.Units.length, .ren 1000001 910000, .ren 1000002 910001, .ren 1000003 910002, .ren 51 910003] [] [(910000, ar 3 eTFrame zTFrame (p0.Stack.take (W ((p0.Stack.length : Int) - 1)).toNat)), (910001, ar 1 eI zI p0.Used), (910002, ar 4 eTUnit zTUnit v21.Units), (910003, ar 1 eI zI (p0.Log ++ ([(p0.Stack.getD ((W ((p0.Stack.length : Int) - 1)).toNat) zTFrame).By] : List Int))), (1000000, .var [.own 910000 3 0 ((p0.Stack.take (W ((p0.Stack.length : Int) - 1)).toNat).length), .own 910001 1 0 p0.Used.length, jI p0.State.Turn, jI p0.State.Weather, .own 910002 4 0 v21.Units.length, .own 910003 1 0 ((p0.Log ++ ([(p0.Stack.getD ((W ((p0.Stack.length : Int) - 1)).toNat) zTFrame).By] : List Int)).length)] false)] (fun t => aI (i_loseSteps_Modd_ok p0.State v18 1 v21 h22) (aI (by rw [← g23] : AV.agg [jI p0.State.Turn, jI p0.State.Weather, .own 1000003 4 0 p0.State.Units.length] = AV.agg [jI p0.State.Turn, jI p0.State.Weather, .own 1000003 4 0 v21.Units.length]) (aI (Eq.symm g23) (t)))) ?_
     cases H
     exact qn
    ·refine jf c20 ?_
     refine tl [.ren 1000001 910000, .ren 1000002 910001, .ren 1000003 910002, .ren 51 910003] [] [(910000, ar 3 eTFrame zTFrame (p0.Stack.take (W ((p0.Stack.length : Int) - 1)).toNat)), (910001, ar 1 eI zI p0.Used), (910002, ar 4 eTUnit zTUnit p0.State.Units), (910003, ar 1 eI zI (p0.Log ++ ([(p0.Stack.getD ((W ((p0.Stack.length : Int) - 1)).toNat) zTFrame).By] : List Int))), (1000000, .var [.own 910000 3 0 ((p0.Stack.take (W ((p0.Stack.length : Int) - 1)).toNat).length), .own 910001 1 0 p0.Used.length, jI p0.State.Turn, jI p0.State.Weather, .own 910002 4 0 p0.State.Units.length, .own 910003 1 0 ((p0.Log ++ ([(p0.Stack.getD ((W ((p0.Stack.length : Int) - 1)).toNat) zTFrame).By] : List Int)).length)] false)] id ?_
     refine ends_skip ?_
     cases H
     exact qn
def x___impl_Machine__step_ir : S :=
 (sq [o 4 (.box 12 (.t 1))]
 (.seq (.drw [(0, 1), (0, 2), (1, 2), (0, 3), (1, 3), (0, 4), (1, 4)] [o 7 (.load 12 true (.t 4)), om 8 2, om 9 0, o 10 (.nck (.t 9)), o 11 (.load 6 true (.t 10)), o 12 (.call 188 [.t 7, .t 8, .t 11]), om 6 12])
 (sq [om 13 6, o 14 (.bin .geq (.t 13) (iv 0))]
 (.ite (.t 14) (.ops [om 15 0, om 16 2, om 17 6, o 18 (.call 189 [.t 15, .t 16, .t 17])])
 (.ops [om 19 0, om 20 2, o 21 (.call 190 [.t 19, .t 20])])))))
noncomputable def X.x___impl_Machine__step_Mpdd (p0 : TMachine) (p1 : TBoard) (p2 : (List TReaction)) : Option TMachine :=
 ((X.i_nextReaction p1 p2 p0).bind fun v1 => (bif (decide (v1 ≥ 0)) then ((X.x___impl_Machine__interrupt_Mpdd p0 p2 v1).bind fun v4 => some v4) else ((X.x___impl_Machine__finish_Mpd p0 p2).bind fun v6 => some v6)))
theorem x___impl_Machine__step_Mpdd_ok (p0 : TMachine) (p1 : TBoard) (p2 : (List TReaction)) (r : TMachine) (H : X.x___impl_Machine__step_Mpdd p0 p1 p2 = some r) : FnMu Tryz.prog gl 114 [.c (.pk 1000000 0), .agg (eTBoard p1), .c (dat 3 eTReaction zTReaction p2)] [(1000000, .var (wTMachine 1000001 1000002 1000003 1000004 p0) false), (1000001, .arr 3 p0.Stack.length (fF eTFrame zTFrame p0.Stack) false), (1000002, .arr 1 p0.Used.length (fF eI zI p0.Used) false), (1000003, .arr 4 p0.State.Units.length (fF eTUnit zTUnit p0.State.Units) false), (1000004, .arr 1 p0.Log.length (fF eI zI p0.Log) false)] (.tup []) [(910000, .arr 3 r.Stack.length (fF eTFrame zTFrame r.Stack) false), (910001, .arr 1 r.Used.length (fF eI zI r.Used) false), (910002, .arr 4 r.State.Units.length (fF eTUnit zTUnit r.State.Units) false), (910003, .arr 1 r.Log.length (fF eI zI r.Log) false), (1000000, .var (wTMachine 910000 910001 910002 910003 r) false)] := by
 unfold X.x___impl_Machine__step_Mpdd at H
 refine fn_mu (fn := Tryz.f114) (ir := x___impl_Machine__step_ir) (E' := []) (E1 := [(910000, ar 3 eTFrame zTFrame r.Stack), (910001, ar 1 eI zI r.Used), (910002, ar 4 eTUnit zTUnit r.State.Units), (910003, ar 1 eI zI r.Log), (1000000, va (wTMachine 910000 910001 910002 910003 r))]) glL Tryz.func114 (by kernel_rfl) (by kernel_rfl) (by kernel_rfl) (by kernel_rfl) (by kernel_rfl) ?_
 refine sn [] [] [(4, pk 4)] [] [(4, va (eTBoard p1))] id ?_
 obtain ⟨v1, h2, H⟩ := oB H
 refine xn [.res (cI v1)] [] [(6, cI v1)] [] [] (fun t => aI (Nat.le_refl p0.Stack.length) (aI (Nat.le_refl p0.Used.length) (aI (Nat.le_refl p0.State.Units.length) (aI (Nat.le_refl p0.Log.length) (aI (i_nextReaction_ok p1 p2 p0 v1 h2) (aI trivial (aI rN (t)))))))) ?_
 refine sn [] [] [(14, cB (decide (v1 ≥ 0)))] [4] [] id ?_
 rcases oC H with ⟨c3, H⟩ | ⟨c3, H⟩
 ·refine it c3 ?_
  obtain ⟨v4, h5, H⟩ := oB H
  refine oo [.mu [(1000000, 1000000), (1000001, 1000001), (1000002, 1000002), (1000003, 1000003), (1000004, 1000004)] [(910000, 1001), (910001, 1002), (910002, 1003), (910003, 1004), (1000000, 1000000)] (.tup []) [(910000, ar 3 eTFrame zTFrame v4.Stack), (910001, ar 1 eI zI v4.Used), (910002, ar 4 eTUnit zTUnit v4.State.Units), (910003, ar 1 eI zI v4.Log), (1000000, va (wTMachine 910000 910001 910002 910003 v4))]] [.ren 1001 910000, .ren 1002 910001, .ren 1003 910002, .ren 1004 910003] [] [(910000, ar 3 eTFrame zTFrame v4.Stack), (910001, ar 1 eI zI v4.Used), (910002, ar 4 eTUnit zTUnit v4.State.Units), (910003, ar 1 eI zI v4.Log), (1000000, va (wTMachine 910000 910001 910002 910003 v4))] (aI (x___impl_Machine__interrupt_Mpdd_ok p0 p2 v1 v4 h5)) ?_
  cases H
  exact qn
 ·refine jf c3 ?_
  obtain ⟨v6, h7, H⟩ := oB H
  refine oo [.mu [(1000000, 1000000), (1000001, 1000001), (1000002, 1000002), (1000003, 1000003), (1000004, 1000004)] [(910000, 1005), (910001, 1006), (910002, 1007), (910003, 1008), (1000000, 1000000)] (.tup []) [(910000, ar 3 eTFrame zTFrame v6.Stack), (910001, ar 1 eI zI v6.Used), (910002, ar 4 eTUnit zTUnit v6.State.Units), (910003, ar 1 eI zI v6.Log), (1000000, va (wTMachine 910000 910001 910002 910003 v6))]] [.ren 1005 910000, .ren 1006 910001, .ren 1007 910002, .ren 1008 910003] [] [(910000, ar 3 eTFrame zTFrame v6.Stack), (910001, ar 1 eI zI v6.Used), (910002, ar 4 eTUnit zTUnit v6.State.Units), (910003, ar 1 eI zI v6.Log), (1000000, va (wTMachine 910000 910001 910002 910003 v6))] (aI (x___impl_Machine__finish_Mpd_ok p0 p2 v6 h7)) ?_
  cases H
  exact qn
def i_runMachine_ir : S :=
 (sq [o 3 (.box 12 (.t 0)), o 5 (.box 6 (.t 2)), o 6 (.alloc [.nil, .nil, .int .i64 0, .int .i64 0, .nil, .nil]), o 7 (.mv (iv 0))]
 (sq [o 10 (.load 6 true (.t 5)), o 11 (.call 113 [.t 10]), o 8 (.alloc [.nil, .nil, .int .i64 0, .int .i64 0, .nil, .nil]), os 6 8 11, o 9 (.mv (iv 0))]
 (.seq (.blk 0 (.loop (.seq (sq [oa 12 0 8, ol 13 12, o 14 (.len (.t 13)), o 15 (.bin .gtr (.t 14) (iv 0))]
   (.ite (.t 15) .skip
   (.exit 0)))
   (.blk 1 (sq [o 16 (.load 12 true (.t 3)), om 17 1, o 18 (.call 114 [.t 8, .t 16, .t 17])]
    (.ops [om 19 9, o 20 (.bin .add (.t 19) (iv 1)), om 9 20]))))))
 (sq [o 21 (.load 6 true (.t 8)), om 22 9, os 6 6 21, om 7 22]
 .ret))))
noncomputable def X.i_runMachine (p0 : TBoard) (p1 : (List TReaction)) (p2 : TMachine) : Option (TMachine × Int) :=
 ((X.i_cloneMachine p2).bind fun v1 => ((loop (fun (x10 : (Int × Int × Int × (List TFrame) × (List Int) × (List TUnit) × (List Int))) => ((bif (decide ((x10.2.2.2.1.length : Int) > 0)) then ((X.x___impl_Machine__step_Mpdd (TMachine.mk x10.2.2.2.1 x10.2.2.2.2.1 (TState.mk x10.2.1 x10.2.2.1 x10.2.2.2.2.2.1) x10.2.2.2.2.2.2) p0 p1).bind fun v12 => some (Sum.inl ((W (x10.1 + 1)), v12.State.Turn, v12.State.Weather, v12.Stack, v12.Used, v12.State.Units, v12.Log))) else some (Sum.inr (x10.1, x10.2.1, x10.2.2.1, x10.2.2.2.1, x10.2.2.2.2.1, x10.2.2.2.2.2.1, x10.2.2.2.2.2.2))) : Option ((Int × Int × Int × (List TFrame) × (List Int) × (List TUnit) × (List Int)) ⊕ (Int × Int × Int × (List TFrame) × (List Int) × (List TUnit) × (List Int))))) (0, v1.State.Turn, v1.State.Weather, v1.Stack, v1.Used, v1.State.Units, v1.Log)).bind fun y14 => some ((TMachine.mk y14.2.2.2.1 y14.2.2.2.2.1 (TState.mk y14.2.1 y14.2.2.1 y14.2.2.2.2.2.1) y14.2.2.2.2.2.2), y14.1)))
theorem i_runMachine_Mddd_ok (p0 : TBoard) (p1 : (List TReaction)) (p2 : TMachine) (r : (TMachine × Int)) (H : X.i_runMachine p0 p1 p2 = some r) : FnMu Tryz.prog gl 117 [.agg (eTBoard p0), .c (dat 3 eTReaction zTReaction p1), .agg (eTMachine p2)] [] (.tup [(true, [.own 900000 3 0 r.1.Stack.length, .own 900001 1 0 r.1.Used.length, .int .i64 r.1.State.Turn, .int .i64 r.1.State.Weather, .own 900002 4 0 r.1.State.Units.length, .own 900003 1 0 r.1.Log.length]), (false, [.int .i64 r.2])]) [(6, .var (wTMachine 900000 900001 900002 900003 r.1) false), (900000, .arr 3 r.1.Stack.length (fF eTFrame zTFrame r.1.Stack) false), (900001, .arr 1 r.1.Used.length (fF eI zI r.1.Used) false), (900002, .arr 4 r.1.State.Units.length (fF eTUnit zTUnit r.1.State.Units) false), (900003, .arr 1 r.1.Log.length (fF eI zI r.1.Log) false)] := by
 unfold X.i_runMachine at H
 refine fn_mu (fn := Tryz.f117) (ir := i_runMachine_ir) (E' := [(6, pk 6), (7, cI r.2)]) (E1 := [(6, va (wTMachine 900000 900001 900002 900003 r.1)), (900000, ar 3 eTFrame zTFrame r.1.Stack), (900001, ar 1 eI zI r.1.Used), (900002, ar 4 eTUnit zTUnit r.1.State.Units), (900003, ar 1 eI zI r.1.Log)]) glL Tryz.func117 (by kernel_rfl) (by kernel_rfl) (by kernel_rfl) (by kernel_rfl) (by kernel_rfl) ?_
 refine sn [] [] [(3, pk 3), (5, pk 5), (6, pk 6)] [] [(3, va (eTBoard p0)), (5, va (eTMachine p2)), (6, .var [.nil, .nil, jI 0, jI 0, .nil, .nil] false)] id ?_
 obtain ⟨v1, h2, H⟩ := oB H
 refine sn [.mu [] [(2, 1001), (900000, 1002), (900001, 1003), (900002, 1004), (900003, 1005)] (.agg (wTMachine 900000 900001 900002 900003 v1)) [(2, va (wTMachine 900000 900001 900002 900003 v1)), (900000, ar 3 eTFrame zTFrame v1.Stack), (900001, ar 1 eI zI v1.Used), (900002, ar 4 eTUnit zTUnit v1.State.Units), (900003, ar 1 eI zI v1.Log)]] [] [(8, pk 8), (9, cI 0)] [] [(8, va (wTMachine 1002 1003 1004 1005 v1)), (1002, ar 3 eTFrame zTFrame v1.Stack), (1003, ar 1 eI zI v1.Used), (1004, ar 4 eTUnit zTUnit v1.State.Units), (1005, ar 1 eI zI v1.Log)] (aI (i_cloneMachine_Md_ok p2 v1 h2)) ?_
 refine seq_in ?_
 refine ends_blk ?_
 obtain ⟨y14, h15, H⟩ := oB H
 refine tl [] [(1, dc 3 eTReaction zTReaction p1), (3, pk 3), (6, pk 6), (8, pk 8), (9, cI 0)] [(3, va (eTBoard p0)), (6, .var [.nil, .nil, jI 0, jI 0, .nil, .nil] false), (8, va (wTMachine 1002 1003 1004 1005 v1)), (1002, ar 3 eTFrame zTFrame v1.Stack), (1003, ar 1 eI zI v1.Used), (1004, ar 4 eTUnit zTUnit v1.State.Units), (1005, ar 1 eI zI v1.Log)] id ?_
 refine loop_in (fun (x : (Int × Int × Int × (List TFrame) × (List Int) × (List TUnit) × (List Int))) => lit [(1, dc 3 eTReaction zTReaction p1), (3, pk 3), (6, pk 6), (8, pk 8), (9, cI x.1)] [(3, va (eTBoard p0)), (6, .var [.nil, .nil, jI 0, jI 0, .nil, .nil] false), (8, .var [.own 1002 3 0 x.2.2.2.1.length, .own 1003 1 0 x.2.2.2.2.1.length, jI x.2.1, jI x.2.2.1, .own 1004 4 0 x.2.2.2.2.2.1.length, .own 1005 1 0 x.2.2.2.2.2.2.length] false), (1002, ar 3 eTFrame zTFrame x.2.2.2.1), (1003, ar 1 eI zI x.2.2.2.2.1), (1004, ar 4 eTUnit zTUnit x.2.2.2.2.2.1), (1005, ar 1 eI zI x.2.2.2.2.2.2)]) (fun (z : (Int × Int × Int × (List TFrame) × (List Int) × (List TUnit) × (List Int))) => At (.exit 0) (lit [(6, pk 6), (8, pk 8), (9, cI z.1)] [(6, .var [.nil, .nil, jI 0, jI 0, .nil, .nil] false), (8, .var [.own 1002 3 0 z.2.2.2.1.length, .own 1003 1 0 z.2.2.2.2.1.length, jI z.2.1, jI z.2.2.1, .own 1004 4 0 z.2.2.2.2.2.1.length, .own 1005 1 0 z.2.2.2.2.2.2.length] false), (1002, ar 3 eTFrame zTFrame z.2.2.2.1), (1003, ar 1 eI zI z.2.2.2.2.1), (1004, ar 4 eTUnit zTUnit z.2.2.2.2.2.1), (1005, ar 1 eI zI z.2.2.2.2.2.2)])) h15 ?_ ?_
 ·clear H h15
  intro x10 y0 H
  refine seq_in ?_
  refine sn [] [] [(15, cB (decide ((x10.2.2.2.1.length : Int) > 0)))] [] [] (fun t => lI x10.2.2.2.1 (t)) ?_
  rcases oC H with ⟨c11, H⟩ | ⟨c11, H⟩
  ·refine it c11 ?_
   refine sk ?_
   refine ends_blk ?_
   obtain ⟨v12, h13, H⟩ := oB H
   refine sn [.mu [(8, 1000000), (1002, 1000001), (1003, 1000002), (1004, 1000003), (1005, 1000004)] [(910000, 1014), (910001, 1015), (910002, 1016), (910003, 1017), (1000000, 8)] (.tup []) [(910000, ar 3 eTFrame zTFrame v12.Stack), (910001, ar 1 eI zI v12.Used), (910002, ar 4 eTUnit zTUnit v12.State.Units), (910003, ar 1 eI zI v12.Log), (1000000, va (wTMachine 910000 910001 910002 910003 v12))]] [] [] [1002, 1003, 1004, 1005, 8] [(8, va (wTMachine 1014 1015 1016 1017 v12)), (1014, ar 3 eTFrame zTFrame v12.Stack), (1015, ar 1 eI zI v12.Used), (1016, ar 4 eTUnit zTUnit v12.State.Units), (1017, ar 1 eI zI v12.Log)] (aI (x___impl_Machine__step_Mpdd_ok (TMachine.mk x10.2.2.2.1 x10.2.2.2.2.1 (TState.mk x10.2.1 x10.2.2.1 x10.2.2.2.2.2.1) x10.2.2.2.2.2.2) p0 p1 v12 h13)) ?_
   refine oo [] [.ren 1014 1002, .ren 1015 1003, .ren 1016 1004, .ren 1017 1005] [(1, dc 3 eTReaction zTReaction p1), (3, pk 3), (6, pk 6), (8, pk 8), (9, cI (W (x10.1 + 1)))] [(3, va (eTBoard p0)), (6, .var [.nil, .nil, jI 0, jI 0, .nil, .nil] false), (8, va (wTMachine 1002 1003 1004 1005 v12)), (1002, ar 3 eTFrame zTFrame v12.Stack), (1003, ar 1 eI zI v12.Used), (1004, ar 4 eTUnit zTUnit v12.State.Units), (1005, ar 1 eI zI v12.Log)] id ?_
   cases H
   exact rr
  ·refine jf c11 ?_
   refine tl [] [(6, pk 6), (8, pk 8), (9, cI x10.1)] [(6, .var [.nil, .nil, jI 0, jI 0, .nil, .nil] false), (8, .var [.own 1002 3 0 x10.2.2.2.1.length, .own 1003 1 0 x10.2.2.2.2.1.length, jI x10.2.1, jI x10.2.2.1, .own 1004 4 0 x10.2.2.2.2.2.1.length, .own 1005 1 0 x10.2.2.2.2.2.2.length] false), (1002, ar 3 eTFrame zTFrame x10.2.2.2.1), (1003, ar 1 eI zI x10.2.2.2.2.1), (1004, ar 4 eTUnit zTUnit x10.2.2.2.2.2.1), (1005, ar 1 eI zI x10.2.2.2.2.2.2)] id ?_
   refine ends_exit ?_
   cases H
   exact rse
 ·clear h15
  rintro e s ⟨rfl, rfl⟩
  change EndsI _ _ _ _ _ _
  refine sn [] [] [(7, cI y14.1)] [6] [(6, .var [.own 1002 3 0 y14.2.2.2.1.length, .own 1003 1 0 y14.2.2.2.2.1.length, jI y14.2.1, jI y14.2.2.1, .own 1004 4 0 y14.2.2.2.2.2.1.length, .own 1005 1 0 y14.2.2.2.2.2.2.length] false)] id ?_
  refine tl [.ren 1002 900000, .ren 1003 900001, .ren 1004 900002, .ren 1005 900003] [(6, pk 6), (7, cI y14.1)] [(6, .var [.own 900000 3 0 y14.2.2.2.1.length, .own 900001 1 0 y14.2.2.2.2.1.length, jI y14.2.1, jI y14.2.2.1, .own 900002 4 0 y14.2.2.2.2.2.1.length, .own 900003 1 0 y14.2.2.2.2.2.2.length] false), (900000, ar 3 eTFrame zTFrame y14.2.2.2.1), (900001, ar 1 eI zI y14.2.2.2.2.1), (900002, ar 4 eTUnit zTUnit y14.2.2.2.2.2.1), (900003, ar 1 eI zI y14.2.2.2.2.2.2)] id ?_
  cases H
  exact er
def i_RunMachine_ir : S :=
 (sq [o 3 (.box 12 (.t 0)), o 5 (.box 6 (.t 2)), o 6 (.alloc [.nil, .nil, .int .i64 0, .int .i64 0, .nil, .nil]), o 7 (.mv (iv 0)), o 8 (.mv bF)]
 (.seq (sq [o 11 (.load 12 true (.t 3)), om 12 1, o 13 (.load 6 true (.t 5)), o 14 (.call 112 [.t 11, .t 12, .t 13]), o 15 (.not (.t 14))]
 (.ite (.t 15) (sq [o 16 (.build [.nil, .nil, .int .i64 0, .int .i64 0, .nil, .nil] []), os 6 6 16, o 7 (.mv (iv 0)), o 8 (.mv bF)]
  .ret)
 .skip))
 (sq [o 18 (.load 12 true (.t 3)), om 19 1, o 20 (.load 6 true (.t 5)), o 21 (.call 117 [.t 18, .t 19, .t 20]), om 17 21, o 22 (.ext (.t 17) 0), o 23 (.ext (.t 17) 1), o 9 (.alloc [.nil, .nil, .int .i64 0, .int .i64 0, .nil, .nil]), os 6 9 22, om 10 23]
 (sq [o 24 (.load 6 true (.t 9)), om 25 10, os 6 6 24, om 7 25, o 8 (.mv bT)]
 .ret))))
noncomputable def X.i_RunMachine (p0 : TBoard) (p1 : (List TReaction)) (p2 : TMachine) : Option (TMachine × Int × Bool) :=
 ((X.i_hasMachine p0 p1 p2).bind fun v4 => (bif (!v4) then some ((TMachine.mk ([] : List TFrame) ([] : List Int) (TState.mk 0 0 ([] : List TUnit)) ([] : List Int)), 0, false) else ((X.i_runMachine p0 p1 p2).bind fun v7 => some (v7.1, v7.2, true))))
theorem i_RunMachine_ok (p0 : TBoard) (p1 : (List TReaction)) (p2 : TMachine) (r : (TMachine × Int × Bool)) (H : X.i_RunMachine p0 p1 p2 = some r) : FK 50 [.agg (eTBoard p0), .c (dat 3 eTReaction zTReaction p1), .agg (eTMachine p2)] (.tup [(true, [dat 3 eTFrame zTFrame r.1.Stack, dat 1 eI zI r.1.Used, .int .i64 r.1.State.Turn, .int .i64 r.1.State.Weather, dat 4 eTUnit zTUnit r.1.State.Units, dat 1 eI zI r.1.Log]), (false, [.int .i64 r.2.1]), (false, [.bool r.2.2])]) := by
 unfold X.i_RunMachine at H
 refine fi Tryz.f50 i_RunMachine_ir [(6, pk 6), (7, cI r.2.1), (8, cB r.2.2)] [(6, va (eTMachine r.1))] glL Tryz.func50 ?_
 refine sn [] [] [(3, pk 3), (5, pk 5), (6, pk 6)] [] [(3, va (eTBoard p0)), (5, va (eTMachine p2)), (6, .var [.nil, .nil, jI 0, jI 0, .nil, .nil] false)] id ?_
 refine seq_in ?_
 obtain ⟨v4, h5, H⟩ := oB H
 refine sn [.res (cB v4)] [] [(15, cB (!v4))] [] [] (aI (i_hasMachine_ok p0 p1 p2 v4 h5)) ?_
 rcases oC H with ⟨c6, H⟩ | ⟨c6, H⟩
 ·refine it c6 ?_
  refine sn [] [] [(7, cI 0), (8, cB false)] [] [] id ?_
  refine tl [.nldc 6 0 3 (fF eTFrame zTFrame ([] : List TFrame)), .nldc 6 1 1 (fF eI zI ([] : List Int)), .nldc 6 4 4 (fF eTUnit zTUnit ([] : List TUnit)), .nldc 6 5 1 (fF eI zI ([] : List Int))] [(6, pk 6), (7, cI 0), (8, cB false)] [(6, .var [dat 3 eTFrame zTFrame ([] : List TFrame), dat 1 eI zI ([] : List Int), jI 0, jI 0, dat 4 eTUnit zTUnit ([] : List TUnit), dat 1 eI zI ([] : List Int)] false)] id ?_
  cases H
  exact er
 ·refine jf c6 ?_
  refine sk ?_
  obtain ⟨v7, h8, H⟩ := oB H
  refine sn [.mu [] [(6, 1001), (900000, 1002), (900001, 1003), (900002, 1004), (900003, 1005)] (.tup [(true, [.own 900000 3 0 v7.1.Stack.length, .own 900001 1 0 v7.1.Used.length, jI v7.1.State.Turn, jI v7.1.State.Weather, .own 900002 4 0 v7.1.State.Units.length, .own 900003 1 0 v7.1.Log.length]), (false, [jI v7.2])]) [(6, va (wTMachine 900000 900001 900002 900003 v7.1)), (900000, ar 3 eTFrame zTFrame v7.1.Stack), (900001, ar 1 eI zI v7.1.Used), (900002, ar 4 eTUnit zTUnit v7.1.State.Units), (900003, ar 1 eI zI v7.1.Log)]] [] [(9, pk 9), (10, cI v7.2)] [] [(9, va (wTMachine 1002 1003 1004 1005 v7.1)), (1002, ar 3 eTFrame zTFrame v7.1.Stack), (1003, ar 1 eI zI v7.1.Used), (1004, ar 4 eTUnit zTUnit v7.1.State.Units), (1005, ar 1 eI zI v7.1.Log)] (aI (i_runMachine_Mddd_ok p0 p1 p2 v7 h8)) ?_
  refine sn [] [] [(7, cI v7.2), (8, cB true)] [3, 5, 6] [(6, va (wTMachine 1002 1003 1004 1005 v7.1))] id ?_
  refine tl [.frc 6 0, .frc 6 1, .frc 6 4, .frc 6 5] [(6, pk 6), (7, cI v7.2), (8, cB true)] [(6, va (eTMachine v7.1))] (fun t => aI (Nat.le_refl v7.1.Stack.length) (aI (Nat.le_refl v7.1.Used.length) (aI (Nat.le_refl v7.1.State.Units.length) (aI (Nat.le_refl v7.1.Log.length) (t))))) ?_
  cases H
  exact er
theorem i_RunMachine_Mddd_ok (p0 : TBoard) (p1 : (List TReaction)) (p2 : TMachine) (r : (TMachine × Int × Bool)) (H : X.i_RunMachine p0 p1 p2 = some r) : FnMu Tryz.prog gl 50 [.agg (eTBoard p0), .c (dat 3 eTReaction zTReaction p1), .agg (eTMachine p2)] [] (.tup [(true, [.own 900000 3 0 r.1.Stack.length, .own 900001 1 0 r.1.Used.length, .int .i64 r.1.State.Turn, .int .i64 r.1.State.Weather, .own 900002 4 0 r.1.State.Units.length, .own 900003 1 0 r.1.Log.length]), (false, [.int .i64 r.2.1]), (false, [.bool r.2.2])]) [(6, .var (wTMachine 900000 900001 900002 900003 r.1) false), (900000, .arr 3 r.1.Stack.length (fF eTFrame zTFrame r.1.Stack) false), (900001, .arr 1 r.1.Used.length (fF eI zI r.1.Used) false), (900002, .arr 4 r.1.State.Units.length (fF eTUnit zTUnit r.1.State.Units) false), (900003, .arr 1 r.1.Log.length (fF eI zI r.1.Log) false)] := by
 unfold X.i_RunMachine at H
 refine fn_mu (fn := Tryz.f50) (ir := i_RunMachine_ir) (E' := [(6, pk 6), (7, cI r.2.1), (8, cB r.2.2)]) (E1 := [(6, va (wTMachine 900000 900001 900002 900003 r.1)), (900000, ar 3 eTFrame zTFrame r.1.Stack), (900001, ar 1 eI zI r.1.Used), (900002, ar 4 eTUnit zTUnit r.1.State.Units), (900003, ar 1 eI zI r.1.Log)]) glL Tryz.func50 (by kernel_rfl) (by kernel_rfl) (by kernel_rfl) (by kernel_rfl) (by kernel_rfl) ?_
 refine sn [] [] [(3, pk 3), (5, pk 5), (6, pk 6)] [] [(3, va (eTBoard p0)), (5, va (eTMachine p2)), (6, .var [.nil, .nil, jI 0, jI 0, .nil, .nil] false)] id ?_
 refine seq_in ?_
 obtain ⟨v4, h5, H⟩ := oB H
 refine sn [.res (cB v4)] [] [(15, cB (!v4))] [] [] (aI (i_hasMachine_ok p0 p1 p2 v4 h5)) ?_
 rcases oC H with ⟨c6, H⟩ | ⟨c6, H⟩
 ·refine it c6 ?_
  refine sn [] [] [(7, cI 0), (8, cB false)] [] [] id ?_
  refine tl [.nloc 6 0 900000 3 (fF eTFrame zTFrame ([] : List TFrame)), .nloc 6 1 900001 1 (fF eI zI ([] : List Int)), .nloc 6 4 900002 4 (fF eTUnit zTUnit ([] : List TUnit)), .nloc 6 5 900003 1 (fF eI zI ([] : List Int))] [(6, pk 6), (7, cI 0), (8, cB false)] [(6, .var [.own 900000 3 0 (([] : List TFrame).length), .own 900001 1 0 (([] : List Int).length), jI 0, jI 0, .own 900002 4 0 (([] : List TUnit).length), .own 900003 1 0 (([] : List Int).length)] false), (900000, ar 3 eTFrame zTFrame ([] : List TFrame)), (900001, ar 1 eI zI ([] : List Int)), (900002, ar 4 eTUnit zTUnit ([] : List TUnit)), (900003, ar 1 eI zI ([] : List Int))] (fun t => aI (by decide : 0 < 3) (aI (by decide : 0 < 1) (aI (by decide : 0 < 4) (aI (by decide : 0 < 1) (t))))) ?_
  cases H
  exact er
 ·refine jf c6 ?_
  refine sk ?_
  obtain ⟨v7, h8, H⟩ := oB H
  refine sn [.mu [] [(6, 1001), (900000, 1002), (900001, 1003), (900002, 1004), (900003, 1005)] (.tup [(true, [.own 900000 3 0 v7.1.Stack.length, .own 900001 1 0 v7.1.Used.length, jI v7.1.State.Turn, jI v7.1.State.Weather, .own 900002 4 0 v7.1.State.Units.length, .own 900003 1 0 v7.1.Log.length]), (false, [jI v7.2])]) [(6, va (wTMachine 900000 900001 900002 900003 v7.1)), (900000, ar 3 eTFrame zTFrame v7.1.Stack), (900001, ar 1 eI zI v7.1.Used), (900002, ar 4 eTUnit zTUnit v7.1.State.Units), (900003, ar 1 eI zI v7.1.Log)]] [] [(9, pk 9), (10, cI v7.2)] [] [(9, va (wTMachine 1002 1003 1004 1005 v7.1)), (1002, ar 3 eTFrame zTFrame v7.1.Stack), (1003, ar 1 eI zI v7.1.Used), (1004, ar 4 eTUnit zTUnit v7.1.State.Units), (1005, ar 1 eI zI v7.1.Log)] (aI (i_runMachine_Mddd_ok p0 p1 p2 v7 h8)) ?_
  refine sn [] [] [(7, cI v7.2), (8, cB true)] [3, 5, 6] [(6, va (wTMachine 1002 1003 1004 1005 v7.1))] id ?_
  refine tl [.ren 1002 900000, .ren 1003 900001, .ren 1004 900002, .ren 1005 900003] [(6, pk 6), (7, cI v7.2), (8, cB true)] [(6, va (wTMachine 900000 900001 900002 900003 v7.1)), (900000, ar 3 eTFrame zTFrame v7.1.Stack), (900001, ar 1 eI zI v7.1.Used), (900002, ar 4 eTUnit zTUnit v7.1.State.Units), (900003, ar 1 eI zI v7.1.Log)] id ?_
  cases H
  exact er
def l_FnExactRunMachine_ir : S :=
 (sq [o 3 (.box 12 (.t 0)), o 5 (.box 6 (.t 2)), o 6 (.mv bF)]
 (sq [o 7 (.mv (iv 1048576))]
 (sq [o 23 (.load 12 true (.t 3)), om 24 7, o 25 (.call 10 [.t 23, .t 24]), om 7 25]
 (.seq (sq [om 26 7, o 27 (.bin .lss (.t 26) (iv 0))]
 (.ite (.t 27) (sq [o 6 (.mv bT)]
  .ret)
 .skip))
 (sq [om 28 1, om 29 7, o 30 (.call 41 [.t 28, .t 29]), om 7 30]
 (.seq (sq [om 31 7, o 32 (.bin .lss (.t 31) (iv 0))]
 (.ite (.t 32) (sq [o 6 (.mv bT)]
  .ret)
 .skip))
 (sq [o 33 (.load 6 true (.t 5)), om 34 7, o 35 (.call 42 [.t 33, .t 34]), om 7 35]
 (.seq (sq [om 36 7, o 37 (.bin .lss (.t 36) (iv 0))]
 (.ite (.t 37) (sq [o 6 (.mv bT)]
  .ret)
 .skip))
 (.seq (.drw [(0, 2), (1, 2), (0, 4), (1, 4), (2, 4), (3, 4), (8, 9), (8, 10), (9, 10), (0, 11), (1, 11), (2, 11), (3, 11), (4, 11), (5, 11), (6, 11), (7, 11), (8, 11), (9, 11), (10, 11), (9, 12), (10, 12), (10, 13)] [o 39 (.load 12 true (.t 3)), o 40 (.call 12 [.t 39]), om 41 1, o 42 (.call 44 [.t 41]), o 43 (.load 6 true (.t 5)), o 44 (.call 45 [.t 43]), o 45 (.call 49 [.t 40, .t 42, .t 44]), om 38 45, o 46 (.ext (.t 38) 0), o 47 (.ext (.t 38) 1), o 48 (.ext (.t 38) 2), o 8 (.alloc [.nil, .nil, .int .i64 0, .int .i64 0, .nil, .nil]), os 6 8 46, om 9 47, om 10 48])
 (sq [o 49 (.load 12 true (.t 3)), o 50 (.call 12 [.t 49]), o 11 (.alloc [.nil, .nil, .int .i64 0, .int .i64 0, .int .i64 0, .int .i64 0, .int .i64 0, .int .i64 0, .int .i64 0, .nil, .nil, .nil]), os 12 11 50]
 (sq [om 51 1, o 52 (.call 44 [.t 51]), om 12 52]
 (sq [o 53 (.load 6 true (.t 5)), o 54 (.call 45 [.t 53]), o 13 (.alloc [.nil, .nil, .int .i64 0, .int .i64 0, .nil, .nil]), os 6 13 54]
 (sq [o 56 (.load 12 true (.t 11)), om 57 12, o 58 (.load 6 true (.t 13)), o 59 (.call 50 [.t 56, .t 57, .t 58]), om 55 59, o 60 (.ext (.t 55) 0), o 61 (.ext (.t 55) 1), o 62 (.ext (.t 55) 2), o 14 (.alloc [.nil, .nil, .int .i64 0, .int .i64 0, .nil, .nil]), os 6 14 60, om 15 61, om 16 62]
 (.seq (sq [o 63 (.load 6 true (.t 14)), o 64 (.load 6 true (.t 8)), o 65 (.call 23 [.t 63, .t 64]), o 66 (.not (.t 65)), om 67 66, og 68 (.mv (.t 15)) 67, og 69 (.mv (.t 9)) 67, og 70 (.bin .neq (.t 68) (.t 69)) 67, o 71 (.pick (.t 67) bT (.t 70)), om 72 71, og 73 (.mv (.t 16)) 72, og 74 (.mv (.t 10)) 72, og 75 (.bqe true (.t 73) (.t 74)) 72, o 76 (.pick (.t 72) bT (.t 75))]
 (.ite (.t 76) (sq [o 6 (.mv bF)]
  .ret)
 .skip))
 (.seq (.seq (.drw [(0, 1), (0, 2)] [o 77 (.load 12 true (.t 11)), o 78 (.load 12 true (.t 3)), o 79 (.call 12 [.t 78]), o 80 (.call 15 [.t 77, .t 79]), o 81 (.not (.t 80))])
 (.ite (.t 81) (sq [o 6 (.mv bF)]
  .ret)
 .skip))
 (.seq (sq [om 82 12, om 83 1, o 84 (.call 44 [.t 83]), o 85 (.call 47 [.t 82, .t 84]), o 86 (.not (.t 85))]
 (.ite (.t 86) (sq [o 6 (.mv bF)]
  .ret)
 .skip))
 (.seq (.seq (.drw [(0, 1), (0, 2)] [o 87 (.load 6 true (.t 13)), o 88 (.load 6 true (.t 5)), o 89 (.call 45 [.t 88]), o 90 (.call 23 [.t 87, .t 89]), o 91 (.not (.t 90))])
 (.ite (.t 91) (sq [o 6 (.mv bF)]
  .ret)
 .skip))
 (sq [o 17 (.mv (iv 1))]
 (sq [o 92 (.load 12 true (.t 11)), om 93 17, o 94 (.call 16 [.t 92, .t 93]), om 17 94]
 (sq [om 95 12, om 96 17, o 97 (.call 48 [.t 95, .t 96]), om 17 97]
 (sq [o 98 (.load 6 true (.t 13)), om 99 17, o 100 (.call 26 [.t 98, .t 99]), om 17 100]
 (.seq (sq [om 101 17, o 102 (.bin .lss (.t 101) (iv 0)), om 103 102, og 104 (.load 6 true (.t 14)) 103, og 105 (.load 6 true (.t 8)) 103, og 106 (.call 23 [.t 104, .t 105]) 103, og 107 (.not (.t 106)) 103, o 108 (.pick (.t 103) bT (.t 107)), om 109 108, og 110 (.mv (.t 15)) 109, og 111 (.mv (.t 9)) 109, og 112 (.bin .neq (.t 110) (.t 111)) 109, o 113 (.pick (.t 109) bT (.t 112)), om 114 113, og 115 (.mv (.t 16)) 114, og 116 (.mv (.t 10)) 114, og 117 (.bqe true (.t 115) (.t 116)) 114, o 118 (.pick (.t 114) bT (.t 117))]
 (.ite (.t 118) (sq [o 6 (.mv bF)]
  .ret)
 .skip))
 (sq [o 18 (.mv (iv 1))]
 (sq [o 119 (.load 6 true (.t 14)), om 120 18, o 121 (.call 26 [.t 119, .t 120]), om 18 121]
 (sq [o 19 (.mv (iv 1))]
 (sq [o 122 (.load 6 true (.t 14)), om 123 19, o 124 (.call 27 [.t 122, .t 123]), om 19 124]
 (.seq (sq [om 125 19, o 126 (.bin .lss (.t 125) (iv 0))]
 (.ite (.t 126) (sq [o 6 (.mv bF)]
  .ret)
 .skip))
 (.seq (sq [om 127 19, om 128 18, o 129 (.bin .neq (.t 127) (.t 128))]
 (.ite (.t 129) (sq [o 6 (.mv bF)]
  .ret)
 .skip))
 (.seq (.drw [(0, 2), (1, 2), (0, 4), (1, 4), (2, 4), (3, 4), (8, 9), (8, 10), (9, 10), (0, 11), (1, 11), (2, 11), (3, 11), (4, 11), (5, 11), (6, 11), (7, 11), (8, 11), (9, 11), (10, 11), (9, 12), (10, 12), (10, 13)] [o 131 (.load 12 true (.t 3)), o 132 (.call 12 [.t 131]), om 133 1, o 134 (.call 44 [.t 133]), o 135 (.load 6 true (.t 5)), o 136 (.call 45 [.t 135]), o 137 (.call 50 [.t 132, .t 134, .t 136]), om 130 137, o 138 (.ext (.t 130) 0), o 139 (.ext (.t 130) 1), o 140 (.ext (.t 130) 2), o 20 (.alloc [.nil, .nil, .int .i64 0, .int .i64 0, .nil, .nil]), os 6 20 138, om 21 139, om 22 140])
 (.seq (sq [o 141 (.load 6 true (.t 20)), o 142 (.load 6 true (.t 8)), o 143 (.call 23 [.t 141, .t 142]), o 144 (.not (.t 143)), om 145 144, og 146 (.mv (.t 21)) 145, og 147 (.mv (.t 9)) 145, og 148 (.bin .neq (.t 146) (.t 147)) 145, o 149 (.pick (.t 145) bT (.t 148)), om 150 149, og 151 (.mv (.t 22)) 150, og 152 (.mv (.t 10)) 150, og 153 (.bqe true (.t 151) (.t 152)) 150, o 154 (.pick (.t 150) bT (.t 153))]
 (.ite (.t 154) (sq [o 6 (.mv bF)]
  .ret)
 .skip))
 (sq [o 19 (.mv (iv 1))]
 (sq [o 155 (.load 6 true (.t 14)), om 156 19, o 157 (.call 27 [.t 155, .t 156]), om 19 157]
 (.seq (sq [om 158 19, o 159 (.bin .lss (.t 158) (iv 0))]
 (.ite (.t 159) (sq [o 6 (.mv bF)]
  .ret)
 .skip))
 (.seq (sq [om 160 19, om 161 18, o 162 (.bin .neq (.t 160) (.t 161))]
 (.ite (.t 162) (sq [o 6 (.mv bF)]
  .ret)
 .skip))
 (sq [o 6 (.mv bT)]
 .ret)))))))))))))))))))))))))))))))))))
noncomputable def X.l_FnExactRunMachine (p0 : TBoard) (p1 : (List TReaction)) (p2 : TMachine) : Option Bool :=
 ((X.l_szBoard p0 1048576).bind fun v1 => (bif (decide (v1 < 0)) then some true else ((X.l_szReactionS p1 v1).bind fun v5 => (bif (decide (v5 < 0)) then some true else ((X.l_szMachine p2 v5).bind fun v9 => (bif (decide (v9 < 0)) then some true else ((X.l_toBoard p0).bind fun v13 => ((X.l_toReactionS p1).bind fun v15 => ((X.l_toMachine p2).bind fun v17 => ((X.s_RunMachine v13 v15 v17).bind fun v19 => ((X.l_toBoard p0).bind fun v21 => ((X.l_toReactionS p1).bind fun v23 => ((X.l_toMachine p2).bind fun v25 => ((X.i_RunMachine v21 v23 v25).bind fun v27 => ((X.l_eqMachine v27.1 v19.1).bind fun v34 => (bif (!v34) then some false else (bif (v27.2.1 != v19.2.1) then some false else (bif (!(v27.2.2 == v19.2.2)) then some false else ((X.l_toBoard p0).bind fun v44 => ((X.l_eqBoard v21 v44).bind fun v46 => (bif (!v46) then some false else ((X.l_toReactionS p1).bind fun v54 => ((X.l_eqReactionS v23 v54).bind fun v56 => (bif (!v56) then some false else ((X.l_toMachine p2).bind fun v64 => ((X.l_eqMachine v25 v64).bind fun v66 => (bif (!v66) then some false else ((X.l_markBoard_L v21 1).bind fun v69 => ((X.l_markReactionS_L v23 v69).bind fun v71 => ((X.l_markMachine_L v25 v71).bind fun v73 => (bif (decide (v73 < 0)) then some false else ((X.l_eqMachine v27.1 v19.1).bind fun v80 => (bif (!v80) then some false else ((X.l_markMachine_Mod v27.1 1).bind fun v83 => (if v83.2.Stack.length = v27.1.Stack.length then (if v83.2.Used.length = v27.1.Used.length then (if v83.2.State.Units.length = v27.1.State.Units.length then (if v83.2.Log.length = v27.1.Log.length then ((X.l_heldMachine (TMachine.mk v83.2.Stack v83.2.Used (TState.mk v27.1.State.Turn v27.1.State.Weather v83.2.State.Units) v83.2.Log) 1).bind fun v89 => (bif (decide (v89 < 0)) then some false else (bif (v89 != v83.1) then some false else ((X.l_toBoard p0).bind fun v95 => ((X.l_toReactionS p1).bind fun v97 => ((X.l_toMachine p2).bind fun v99 => ((X.i_RunMachine v95 v97 v99).bind fun v101 => ((X.l_eqMachine v101.1 v19.1).bind fun v108 => (bif (!v108) then some false else (bif (v101.2.1 != v19.2.1) then some false else (bif (!(v101.2.2 == v19.2.2)) then some false else ((X.l_heldMachine (TMachine.mk v83.2.Stack v83.2.Used (TState.mk v27.1.State.Turn v27.1.State.Weather v83.2.State.Units) v83.2.Log) 1).bind fun v113 => (bif (decide (v113 < 0)) then some false else (bif (v113 != v83.1) then some false else some true)))))))))))))) else none) else none) else none) else none)))))))))))))))))))))))))))))))))))
theorem l_FnExactRunMachine_T_ok (p0 : TBoard) (p1 : (List TReaction)) (p2 : TMachine) (H : X.l_FnExactRunMachine p0 p1 p2 = some true) : LawOk Tryz.prog gl 8 [.agg (eTBoard p0), .c (dat 3 eTReaction zTReaction p1), .agg (eTMachine p2)] := by
 unfold X.l_FnExactRunMachine at H
 refine lawOk_of (fn := Tryz.f8) (ir := l_FnExactRunMachine_ir) (s1 := lit [(6, cB true)] []) Tryz.func8 (by kernel_rfl) (by kernel_rfl) (by kernel_rfl) (by kernel_rfl) ?_
 refine tl [] [(0, .agg (oTBoard p0)), (1, .c (.old (dat 3 eTReaction zTReaction p1))), (2, .agg (oTMachine p2))] [] id ?_
 refine sn [] [] [(3, pk 3), (5, pk 5)] [] [(3, va (oTBoard p0)), (5, va (oTMachine p2))] id ?_
 refine sn [] [] [(7, cI 1048576)] [] [] id ?_
 obtain ⟨v1, h2, H⟩ := oB H
 refine so [.res (cI v1)] [] [(1, .c (.old (dat 3 eTReaction zTReaction p1))), (3, pk 3), (5, pk 5), (7, cI v1)] [(3, va (oTBoard p0)), (5, va (oTMachine p2))] (aI ((FnOk.le2 (xs := [.agg (oTBoard p0), cI 1048576]) (l_szBoard_ok p0 1048576 v1 h2) ⟨LeD.agg (And.intro (LeC.old _) (And.intro (LeC.old _) (And.intro (LeC.refl _) (And.intro (LeC.refl _) (And.intro (LeC.refl _) (And.intro (LeC.refl _) (And.intro (LeC.refl _) (And.intro (LeC.refl _) (And.intro (LeC.refl _) (And.intro (LeC.old _) (And.intro (LeC.old _) (And.intro (LeC.old _) (trivial))))))))))))), LeD.refl _, trivial⟩).up glTs)) ?_
 refine seq_in ?_
 refine sn [] [] [(27, cB (decide (v1 < 0)))] [] [] id ?_
 rcases oC H with ⟨c4, H⟩ | ⟨c4, H⟩
 ·refine it c4 ?_
  refine so [] [] [(6, cB true)] [] id ?_
  refine ends_ret ?_
  exact qr
 ·refine jf c4 ?_
  refine sk ?_
  obtain ⟨v5, h6, H⟩ := oB H
  refine so [.res (cI v5)] [] [(1, .c (.old (dat 3 eTReaction zTReaction p1))), (3, pk 3), (5, pk 5), (7, cI v5)] [(3, va (oTBoard p0)), (5, va (oTMachine p2))] (aI ((FnOk.le2 (xs := [.c (.old (dat 3 eTReaction zTReaction p1)), cI v1]) (l_szReactionS_ok p1 v1 v5 h6) ⟨LeD.old _, LeD.refl _, trivial⟩).up glTs)) ?_
  refine seq_in ?_
  refine sn [] [] [(32, cB (decide (v5 < 0)))] [] [] id ?_
  rcases oC H with ⟨c8, H⟩ | ⟨c8, H⟩
  ·refine it c8 ?_
   refine so [] [] [(6, cB true)] [] id ?_
   refine ends_ret ?_
   exact qr
  ·refine jf c8 ?_
   refine sk ?_
   obtain ⟨v9, h10, H⟩ := oB H
   refine so [.res (cI v9)] [] [(1, .c (.old (dat 3 eTReaction zTReaction p1))), (3, pk 3), (5, pk 5), (7, cI v9)] [(3, va (oTBoard p0)), (5, va (oTMachine p2))] (aI ((FnOk.le2 (xs := [.agg (oTMachine p2), cI v5]) (l_szMachine_ok p2 v5 v9 h10) ⟨LeD.agg (And.intro (LeC.old _) (And.intro (LeC.old _) (And.intro (LeC.refl _) (And.intro (LeC.refl _) (And.intro (LeC.old _) (And.intro (LeC.old _) (trivial))))))), LeD.refl _, trivial⟩).up glTs)) ?_
   refine seq_in ?_
   refine sn [] [] [(37, cB (decide (v9 < 0)))] [] [] id ?_
   rcases oC H with ⟨c12, H⟩ | ⟨c12, H⟩
   ·refine it c12 ?_
    refine so [] [] [(6, cB true)] [] id ?_
    refine ends_ret ?_
    exact qr
   ·refine jf c12 ?_
    refine sk ?_
    obtain ⟨v13, h14, H⟩ := oB H
    obtain ⟨v15, h16, H⟩ := oB H
    obtain ⟨v17, h18, H⟩ := oB H
    obtain ⟨v19, h20, H⟩ := oB H
    refine xn [.res (.agg (rTBoard v13)), .res (.c (.fr (dat 3 eTReaction zTReaction v15))), .res (.agg (rTMachine v17)), .res (.tup [(true, [dat 3 eTFrame zTFrame v19.1.Stack, dat 1 eI zI v19.1.Used, jI v19.1.State.Turn, jI v19.1.State.Weather, dat 4 eTUnit zTUnit v19.1.State.Units, dat 1 eI zI v19.1.Log]), (false, [jI v19.2.1]), (false, [.bool v19.2.2])])] [] [(8, pk 8), (9, cI v19.2.1), (10, cB v19.2.2)] [] [(8, va (eTMachine v19.1))] (fun t => aI ((FnOk.le2 (xs := [.agg (oTBoard p0)]) (l_toBoard_F_ok p0 v13 h14) ⟨LeD.agg (And.intro (LeC.old _) (And.intro (LeC.old _) (And.intro (LeC.refl _) (And.intro (LeC.refl _) (And.intro (LeC.refl _) (And.intro (LeC.refl _) (And.intro (LeC.refl _) (And.intro (LeC.refl _) (And.intro (LeC.refl _) (And.intro (LeC.old _) (And.intro (LeC.old _) (And.intro (LeC.old _) (trivial))))))))))))), trivial⟩).up glTs) (aG 2 rN (aI ((FnOk.le2 (xs := [.c (.old (dat 3 eTReaction zTReaction p1))]) (l_toReactionS_F_ok p1 v15 h16) ⟨LeD.old _, trivial⟩).up glTs) (aG 2 rN (aI ((FnOk.le2 (xs := [.agg (oTMachine p2)]) (l_toMachine_F_ok p2 v17 h18) ⟨LeD.agg (And.intro (LeC.old _) (And.intro (LeC.old _) (And.intro (LeC.refl _) (And.intro (LeC.refl _) (And.intro (LeC.old _) (And.intro (LeC.old _) (trivial))))))), trivial⟩).up glTs) (aG 2 rN (aI ((FnOk.le2 (xs := [.agg (rTBoard v13), .c (.fr (dat 3 eTReaction zTReaction v15)), .agg (rTMachine v17)]) (s_RunMachine_ok v13 v15 v17 v19 h20) ⟨LeD.agg (And.intro (LeC.fr _) (And.intro (LeC.fr _) (And.intro (LeC.refl _) (And.intro (LeC.refl _) (And.intro (LeC.refl _) (And.intro (LeC.refl _) (And.intro (LeC.refl _) (And.intro (LeC.refl _) (And.intro (LeC.refl _) (And.intro (LeC.fr _) (And.intro (LeC.fr _) (And.intro (LeC.fr _) (trivial))))))))))))), LeD.fr _, LeD.agg (And.intro (LeC.fr _) (And.intro (LeC.fr _) (And.intro (LeC.refl _) (And.intro (LeC.refl _) (And.intro (LeC.fr _) (And.intro (LeC.fr _) (trivial))))))), trivial⟩).up glTs) (aG 2 rN (t))))))))) ?_
    refine tl [] [(1, .c (.old (dat 3 eTReaction zTReaction p1))), (3, pk 3), (5, pk 5), (8, pk 8), (9, cI v19.2.1), (10, cB v19.2.2)] [(3, va (oTBoard p0)), (5, va (oTMachine p2)), (8, va (eTMachine v19.1))] id ?_
    refine turn0 (E := [(1, .c (.old (dat 3 eTReaction zTReaction p1))), (3, pk 3), (5, pk 5), (8, pk 8), (9, cI v19.2.1), (10, cB v19.2.2)]) (E' := [(1, .c (.old (dat 3 eTReaction zTReaction p1))), (3, pk 3), (5, pk 5), (8, pk 8), (9, cI v19.2.1), (10, cB v19.2.2)]) (H := [(3, va (oTBoard p0)), (5, va (oTMachine p2)), (8, va (eTMachine v19.1))]) (H' := [(3, va (oTBoard p0)), (5, va (oTMachine p2)), (8, va (oTMachine v19.1))]) glTn glTp (And.intro (And.intro rfl (uO (dat 3 eTReaction zTReaction p1) (.dat shTReaction))) (And.intro (And.intro rfl (uS (.pk 3 0) rfl)) (And.intro (And.intro rfl (uS (.pk 5 0) rfl)) (And.intro (And.intro rfl (uS (.pk 8 0) rfl)) (And.intro (And.intro rfl (uS (jI v19.2.1) rfl)) (And.intro (And.intro rfl (uS (.bool v19.2.2) rfl)) trivial)))))) (And.intro (And.intro rfl (And.intro (uO (dat 5 eTTerrain zTTerrain p0.Rules.Terrains) (.dat shTTerrain)) (And.intro (uO (dat 6 eTKind zTKind p0.Rules.Kinds) (.dat shTKind)) (And.intro (uS (jI p0.Rules.Stack) rfl) (And.intro (uS (jI p0.Rules.River) rfl) (And.intro (uS (jI p0.Rules.Road) rfl) (And.intro (uS (jI p0.Rules.Supply) rfl) (And.intro (uS (jI p0.Rules.Turns) rfl) (And.intro (uS (jI p0.Map.Width) rfl) (And.intro (uS (jI p0.Map.Height) rfl) (And.intro (uO (dat 1 eI zI p0.Map.Terrain) (.dat shI)) (And.intro (uO (dat 1 eI zI p0.Map.Rivers) (.dat shI)) (And.intro (uO (dat 1 eI zI p0.Map.Roads) (.dat shI)) trivial))))))))))))) (And.intro (And.intro rfl (And.intro (uO (dat 3 eTFrame zTFrame p2.Stack) (.dat shTFrame)) (And.intro (uO (dat 1 eI zI p2.Used) (.dat shI)) (And.intro (uS (jI p2.State.Turn) rfl) (And.intro (uS (jI p2.State.Weather) rfl) (And.intro (uO (dat 4 eTUnit zTUnit p2.State.Units) (.dat shTUnit)) (And.intro (uO (dat 1 eI zI p2.Log) (.dat shI)) trivial))))))) (And.intro (And.intro rfl (And.intro (uD (dat 3 eTFrame zTFrame v19.1.Stack) rfl (.dat shTFrame)) (And.intro (uD (dat 1 eI zI v19.1.Used) rfl (.dat shI)) (And.intro (uS (jI v19.1.State.Turn) rfl) (And.intro (uS (jI v19.1.State.Weather) rfl) (And.intro (uD (dat 4 eTUnit zTUnit v19.1.State.Units) rfl (.dat shTUnit)) (And.intro (uD (dat 1 eI zI v19.1.Log) rfl (.dat shI)) trivial))))))) trivial))) ?_
    obtain ⟨v21, h22, H⟩ := oB H
    refine sn [.res (.agg (rTBoard v21))] [] [(11, pk 11)] [] [(11, va (rTBoard v21))] (aI ((FnOk.le2 (xs := [.agg (oTBoard p0)]) (l_toBoard_F_ok p0 v21 h22) ⟨LeD.agg (And.intro (LeC.old _) (And.intro (LeC.old _) (And.intro (LeC.refl _) (And.intro (LeC.refl _) (And.intro (LeC.refl _) (And.intro (LeC.refl _) (And.intro (LeC.refl _) (And.intro (LeC.refl _) (And.intro (LeC.refl _) (And.intro (LeC.old _) (And.intro (LeC.old _) (And.intro (LeC.old _) (trivial))))))))))))), trivial⟩).up glTs)) ?_
    obtain ⟨v23, h24, H⟩ := oB H
    refine sn [.res (.c (.fr (dat 3 eTReaction zTReaction v23)))] [] [(12, .c (.fr (dat 3 eTReaction zTReaction v23)))] [] [] (aI ((FnOk.le2 (xs := [.c (.old (dat 3 eTReaction zTReaction p1))]) (l_toReactionS_F_ok p1 v23 h24) ⟨LeD.old _, trivial⟩).up glTs)) ?_
    obtain ⟨v25, h26, H⟩ := oB H
    refine sn [.res (.agg (rTMachine v25))] [] [(13, pk 13)] [] [(13, va (rTMachine v25))] (aI ((FnOk.le2 (xs := [.agg (oTMachine p2)]) (l_toMachine_F_ok p2 v25 h26) ⟨LeD.agg (And.intro (LeC.old _) (And.intro (LeC.old _) (And.intro (LeC.refl _) (And.intro (LeC.refl _) (And.intro (LeC.old _) (And.intro (LeC.old _) (trivial))))))), trivial⟩).up glTs)) ?_
    obtain ⟨v27, h28, H⟩ := oB H
    refine sn [.mu [] [(6, 1001), (900000, 1002), (900001, 1003), (900002, 1004), (900003, 1005)] (.tup [(true, [.own 900000 3 0 v27.1.Stack.length, .own 900001 1 0 v27.1.Used.length, jI v27.1.State.Turn, jI v27.1.State.Weather, .own 900002 4 0 v27.1.State.Units.length, .own 900003 1 0 v27.1.Log.length]), (false, [jI v27.2.1]), (false, [.bool v27.2.2])]) [(6, va (wTMachine 900000 900001 900002 900003 v27.1)), (900000, ar 3 eTFrame zTFrame v27.1.Stack), (900001, ar 1 eI zI v27.1.Used), (900002, ar 4 eTUnit zTUnit v27.1.State.Units), (900003, ar 1 eI zI v27.1.Log)]] [] [(14, pk 14), (15, cI v27.2.1), (16, cB v27.2.2)] [] [(14, va (wTMachine 1002 1003 1004 1005 v27.1)), (1002, ar 3 eTFrame zTFrame v27.1.Stack), (1003, ar 1 eI zI v27.1.Used), (1004, ar 4 eTUnit zTUnit v27.1.State.Units), (1005, ar 1 eI zI v27.1.Log)] (aI ((FnMu.le2 (xs := [.agg (rTBoard v21), .c (.fr (dat 3 eTReaction zTReaction v23)), .agg (rTMachine v25)]) (i_RunMachine_Mddd_ok v21 v23 v25 v27 h28) ⟨LeK.of rfl (LeD.agg (And.intro (LeC.fr _) (And.intro (LeC.fr _) (And.intro (LeC.refl _) (And.intro (LeC.refl _) (And.intro (LeC.refl _) (And.intro (LeC.refl _) (And.intro (LeC.refl _) (And.intro (LeC.refl _) (And.intro (LeC.refl _) (And.intro (LeC.fr _) (And.intro (LeC.fr _) (And.intro (LeC.fr _) (trivial)))))))))))))), LeK.of rfl (LeD.fr _), LeK.of rfl (LeD.agg (And.intro (LeC.fr _) (And.intro (LeC.fr _) (And.intro (LeC.refl _) (And.intro (LeC.refl _) (And.intro (LeC.fr _) (And.intro (LeC.fr _) (trivial)))))))), trivial⟩).up glTs)) ?_
    refine seq_in ?_
    obtain ⟨v34, h35, H⟩ := oB H
    rcases oC H with ⟨c36, H⟩ | ⟨c36, H⟩
    ·refine sn ([.res (cB v34)] ++ rg 8 true []) [] [(76, cB true)] [] [] (fun t => aI (Nat.le_refl v27.1.Stack.length) (aI (Nat.le_refl v27.1.Used.length) (aI (Nat.le_refl v27.1.State.Units.length) (aI (Nat.le_refl v27.1.Log.length) (aI ((FnOk.le2 (xs := [.agg (eTMachine v27.1), .agg (oTMachine v19.1)]) (l_eqMachine_ok v27.1 v19.1 v34 h35) ⟨LeD.refl _, LeD.agg (And.intro (LeC.old _) (And.intro (LeC.old _) (And.intro (LeC.refl _) (And.intro (LeC.refl _) (And.intro (LeC.old _) (And.intro (LeC.old _) (trivial))))))), trivial⟩).up glTs) (aG 4 c36 (aG 4 rT (t)))))))) ?_
     refine it rT ?_
     refine so [] [] [(6, cB false)] [] id ?_
     refine ends_ret ?_
     cases H
    ·rcases oC H with ⟨c37, H⟩ | ⟨c37, H⟩
     ·refine sn ([.res (cB v34)] ++ rg 4 false (rg 4 true [])) [] [(76, cB true)] [] [] (fun t => aI (Nat.le_refl v27.1.Stack.length) (aI (Nat.le_refl v27.1.Used.length) (aI (Nat.le_refl v27.1.State.Units.length) (aI (Nat.le_refl v27.1.Log.length) (aI ((FnOk.le2 (xs := [.agg (eTMachine v27.1), .agg (oTMachine v19.1)]) (l_eqMachine_ok v27.1 v19.1 v34 h35) ⟨LeD.refl _, LeD.agg (And.intro (LeC.old _) (And.intro (LeC.old _) (And.intro (LeC.refl _) (And.intro (LeC.refl _) (And.intro (LeC.old _) (And.intro (LeC.old _) (trivial))))))), trivial⟩).up glTs) (aG 4 c36 (aG 4 c37 (t)))))))) ?_
      refine it rT ?_
      refine so [] [] [(6, cB false)] [] id ?_
      refine ends_ret ?_
      cases H
     ·refine sn ([.res (cB v34)] ++ rg 8 false []) [] [(76, cB (!(v27.2.2 == v19.2.2)))] [] [] (fun t => aI (Nat.le_refl v27.1.Stack.length) (aI (Nat.le_refl v27.1.Used.length) (aI (Nat.le_refl v27.1.State.Units.length) (aI (Nat.le_refl v27.1.Log.length) (aI ((FnOk.le2 (xs := [.agg (eTMachine v27.1), .agg (oTMachine v19.1)]) (l_eqMachine_ok v27.1 v19.1 v34 h35) ⟨LeD.refl _, LeD.agg (And.intro (LeC.old _) (And.intro (LeC.old _) (And.intro (LeC.refl _) (And.intro (LeC.refl _) (And.intro (LeC.old _) (And.intro (LeC.old _) (trivial))))))), trivial⟩).up glTs) (aG 4 c36 (aG 4 c37 (t)))))))) ?_
      rcases oC H with ⟨c38, H⟩ | ⟨c38, H⟩
      ·refine it c38 ?_
       refine so [] [] [(6, cB false)] [] id ?_
       refine ends_ret ?_
       cases H
      ·refine jf c38 ?_
       refine sk ?_
       refine seq_in ?_
       obtain ⟨v44, h45, H⟩ := oB H
       obtain ⟨v46, h47, H⟩ := oB H
       refine xn [.res (.agg (rTBoard v44)), .res (cB v46)] [] [(81, cB (!v46))] [] [] (fun t => aI ((FnOk.le2 (xs := [.agg (oTBoard p0)]) (l_toBoard_F_ok p0 v44 h45) ⟨LeD.agg (And.intro (LeC.old _) (And.intro (LeC.old _) (And.intro (LeC.refl _) (And.intro (LeC.refl _) (And.intro (LeC.refl _) (And.intro (LeC.refl _) (And.intro (LeC.refl _) (And.intro (LeC.refl _) (And.intro (LeC.refl _) (And.intro (LeC.old _) (And.intro (LeC.old _) (And.intro (LeC.old _) (trivial))))))))))))), trivial⟩).up glTs) (aG 2 rN (aI ((FnOk.le2 (xs := [.agg (rTBoard v21), .agg (rTBoard v44)]) (l_eqBoard_ok v21 v44 v46 h47) ⟨LeD.agg (And.intro (LeC.fr _) (And.intro (LeC.fr _) (And.intro (LeC.refl _) (And.intro (LeC.refl _) (And.intro (LeC.refl _) (And.intro (LeC.refl _) (And.intro (LeC.refl _) (And.intro (LeC.refl _) (And.intro (LeC.refl _) (And.intro (LeC.fr _) (And.intro (LeC.fr _) (And.intro (LeC.fr _) (trivial))))))))))))), LeD.agg (And.intro (LeC.fr _) (And.intro (LeC.fr _) (And.intro (LeC.refl _) (And.intro (LeC.refl _) (And.intro (LeC.refl _) (And.intro (LeC.refl _) (And.intro (LeC.refl _) (And.intro (LeC.refl _) (And.intro (LeC.refl _) (And.intro (LeC.fr _) (And.intro (LeC.fr _) (And.intro (LeC.fr _) (trivial))))))))))))), trivial⟩).up glTs) (aI trivial (aI rN (t)))))) ?_
       rcases oC H with ⟨c48, H⟩ | ⟨c48, H⟩
       ·refine it c48 ?_
        refine so [] [] [(6, cB false)] [] id ?_
        refine ends_ret ?_
        cases H
       ·refine jf c48 ?_
        refine sk ?_
        refine seq_in ?_
        obtain ⟨v54, h55, H⟩ := oB H
        obtain ⟨v56, h57, H⟩ := oB H
        refine sn [.res (.c (.fr (dat 3 eTReaction zTReaction v54))), .res (cB v56)] [] [(86, cB (!v56))] [] [] (fun t => aI ((FnOk.le2 (xs := [.c (.old (dat 3 eTReaction zTReaction p1))]) (l_toReactionS_F_ok p1 v54 h55) ⟨LeD.old _, trivial⟩).up glTs) (aI ((FnOk.le2 (xs := [.c (.fr (dat 3 eTReaction zTReaction v23)), .c (.fr (dat 3 eTReaction zTReaction v54))]) (l_eqReactionS_ok v23 v54 v56 h57) ⟨LeD.fr _, LeD.fr _, trivial⟩).up glTs) (t))) ?_
        rcases oC H with ⟨c58, H⟩ | ⟨c58, H⟩
        ·refine it c58 ?_
         refine so [] [] [(6, cB false)] [] id ?_
         refine ends_ret ?_
         cases H
        ·refine jf c58 ?_
         refine sk ?_
         refine seq_in ?_
         obtain ⟨v64, h65, H⟩ := oB H
         obtain ⟨v66, h67, H⟩ := oB H
         refine xn [.res (.agg (rTMachine v64)), .res (cB v66)] [] [(91, cB (!v66))] [] [] (fun t => aI ((FnOk.le2 (xs := [.agg (oTMachine p2)]) (l_toMachine_F_ok p2 v64 h65) ⟨LeD.agg (And.intro (LeC.old _) (And.intro (LeC.old _) (And.intro (LeC.refl _) (And.intro (LeC.refl _) (And.intro (LeC.old _) (And.intro (LeC.old _) (trivial))))))), trivial⟩).up glTs) (aG 2 rN (aI ((FnOk.le2 (xs := [.agg (rTMachine v25), .agg (rTMachine v64)]) (l_eqMachine_ok v25 v64 v66 h67) ⟨LeD.agg (And.intro (LeC.fr _) (And.intro (LeC.fr _) (And.intro (LeC.refl _) (And.intro (LeC.refl _) (And.intro (LeC.fr _) (And.intro (LeC.fr _) (trivial))))))), LeD.agg (And.intro (LeC.fr _) (And.intro (LeC.fr _) (And.intro (LeC.refl _) (And.intro (LeC.refl _) (And.intro (LeC.fr _) (And.intro (LeC.fr _) (trivial))))))), trivial⟩).up glTs) (aI trivial (aI rN (t)))))) ?_
         rcases oC H with ⟨c68, H⟩ | ⟨c68, H⟩
         ·refine it c68 ?_
          refine so [] [] [(6, cB false)] [] id ?_
          refine ends_ret ?_
          cases H
         ·refine jf c68 ?_
          refine sk ?_
          refine so [] [] [(1, .c (.old (dat 3 eTReaction zTReaction p1))), (3, pk 3), (5, pk 5), (8, pk 8), (9, cI v19.2.1), (10, cB v19.2.2), (11, pk 11), (12, .c (.fr (dat 3 eTReaction zTReaction v23))), (13, pk 13), (14, pk 14), (15, cI v27.2.1), (16, cB v27.2.2), (17, cI 1)] [(3, va (oTBoard p0)), (5, va (oTMachine p2)), (8, va (oTMachine v19.1)), (11, va (rTBoard v21)), (13, va (rTMachine v25)), (14, va (wTMachine 1002 1003 1004 1005 v27.1)), (1002, ar 3 eTFrame zTFrame v27.1.Stack), (1003, ar 1 eI zI v27.1.Used), (1004, ar 4 eTUnit zTUnit v27.1.State.Units), (1005, ar 1 eI zI v27.1.Log)] id ?_
          refine tl [] [(1, .c (.old (dat 3 eTReaction zTReaction p1))), (3, pk 3), (5, pk 5), (8, pk 8), (9, cI v19.2.1), (10, cB v19.2.2), (11, pk 11), (12, .c (.fr (dat 3 eTReaction zTReaction v23))), (13, pk 13), (14, pk 14), (15, cI v27.2.1), (16, cB v27.2.2), (17, cI 1)] [(3, va (oTBoard p0)), (5, va (oTMachine p2)), (8, va (oTMachine v19.1)), (11, va (rTBoard v21)), (13, va (rTMachine v25)), (14, va (wTMachine 1002 1003 1004 1005 v27.1)), (1002, ar 3 eTFrame zTFrame v27.1.Stack), (1003, ar 1 eI zI v27.1.Used), (1004, ar 4 eTUnit zTUnit v27.1.State.Units), (1005, ar 1 eI zI v27.1.Log)] id ?_
          refine turn (E := [(1, .c (.old (dat 3 eTReaction zTReaction p1))), (3, pk 3), (5, pk 5), (8, pk 8), (9, cI v19.2.1), (10, cB v19.2.2), (11, pk 11), (12, .c (.fr (dat 3 eTReaction zTReaction v23))), (13, pk 13), (14, pk 14), (15, cI v27.2.1), (16, cB v27.2.2), (17, cI 1)]) (E' := [(1, dc 3 eTReaction zTReaction p1), (3, pk 3), (5, pk 5), (8, pk 8), (9, cI v19.2.1), (10, cB v19.2.2), (11, pk 11), (12, .c (.lv (dat 3 eTReaction zTReaction v23))), (13, pk 13), (14, pk 14), (15, cI v27.2.1), (16, cB v27.2.2), (17, cI 1)]) (H := [(3, va (oTBoard p0)), (5, va (oTMachine p2)), (8, va (oTMachine v19.1)), (11, va (rTBoard v21)), (13, va (rTMachine v25)), (14, va (wTMachine 1002 1003 1004 1005 v27.1)), (1002, ar 3 eTFrame zTFrame v27.1.Stack), (1003, ar 1 eI zI v27.1.Used), (1004, ar 4 eTUnit zTUnit v27.1.State.Units), (1005, ar 1 eI zI v27.1.Log)]) (H' := [(3, va (eTBoard p0)), (5, va (eTMachine p2)), (8, va (eTMachine v19.1)), (11, va (lTBoard v21)), (13, va (lTMachine v25)), (14, va (wTMachine 1002 1003 1004 1005 v27.1)), (1002, ar 3 eTFrame zTFrame v27.1.Stack), (1003, ar 1 eI zI v27.1.Used), (1004, ar 4 eTUnit zTUnit v27.1.State.Units), (1005, ar 1 eI zI v27.1.Log)]) glTn (And.intro (And.intro rfl (tO (dat 3 eTReaction zTReaction p1))) (And.intro (And.intro rfl (tS (.pk 3 0) rfl)) (And.intro (And.intro rfl (tS (.pk 5 0) rfl)) (And.intro (And.intro rfl (tS (.pk 8 0) rfl)) (And.intro (And.intro rfl (tS (jI v19.2.1) rfl)) (And.intro (And.intro rfl (tS (.bool v19.2.2) rfl)) (And.intro (And.intro rfl (tS (.pk 11 0) rfl)) (And.intro (And.intro rfl (tF (dat 3 eTReaction zTReaction v23) rfl (.dat shTReaction))) (And.intro (And.intro rfl (tS (.pk 13 0) rfl)) (And.intro (And.intro rfl (tS (.pk 14 0) rfl)) (And.intro (And.intro rfl (tS (jI v27.2.1) rfl)) (And.intro (And.intro rfl (tS (.bool v27.2.2) rfl)) (And.intro (And.intro rfl (tS (jI 1) rfl)) trivial))))))))))))) (And.intro (And.intro rfl (And.intro (tO (dat 5 eTTerrain zTTerrain p0.Rules.Terrains)) (And.intro (tO (dat 6 eTKind zTKind p0.Rules.Kinds)) (And.intro (tS (jI p0.Rules.Stack) rfl) (And.intro (tS (jI p0.Rules.River) rfl) (And.intro (tS (jI p0.Rules.Road) rfl) (And.intro (tS (jI p0.Rules.Supply) rfl) (And.intro (tS (jI p0.Rules.Turns) rfl) (And.intro (tS (jI p0.Map.Width) rfl) (And.intro (tS (jI p0.Map.Height) rfl) (And.intro (tO (dat 1 eI zI p0.Map.Terrain)) (And.intro (tO (dat 1 eI zI p0.Map.Rivers)) (And.intro (tO (dat 1 eI zI p0.Map.Roads)) trivial))))))))))))) (And.intro (And.intro rfl (And.intro (tO (dat 3 eTFrame zTFrame p2.Stack)) (And.intro (tO (dat 1 eI zI p2.Used)) (And.intro (tS (jI p2.State.Turn) rfl) (And.intro (tS (jI p2.State.Weather) rfl) (And.intro (tO (dat 4 eTUnit zTUnit p2.State.Units)) (And.intro (tO (dat 1 eI zI p2.Log)) trivial))))))) (And.intro (And.intro rfl (And.intro (tO (dat 3 eTFrame zTFrame v19.1.Stack)) (And.intro (tO (dat 1 eI zI v19.1.Used)) (And.intro (tS (jI v19.1.State.Turn) rfl) (And.intro (tS (jI v19.1.State.Weather) rfl) (And.intro (tO (dat 4 eTUnit zTUnit v19.1.State.Units)) (And.intro (tO (dat 1 eI zI v19.1.Log)) trivial))))))) (And.intro (And.intro rfl (And.intro (tF (dat 5 eTTerrain zTTerrain v21.Rules.Terrains) rfl (.dat shTTerrain)) (And.intro (tF (dat 6 eTKind zTKind v21.Rules.Kinds) rfl (.dat shTKind)) (And.intro (tS (jI v21.Rules.Stack) rfl) (And.intro (tS (jI v21.Rules.River) rfl) (And.intro (tS (jI v21.Rules.Road) rfl) (And.intro (tS (jI v21.Rules.Supply) rfl) (And.intro (tS (jI v21.Rules.Turns) rfl) (And.intro (tS (jI v21.Map.Width) rfl) (And.intro (tS (jI v21.Map.Height) rfl) (And.intro (tF (dat 1 eI zI v21.Map.Terrain) rfl (.dat shI)) (And.intro (tF (dat 1 eI zI v21.Map.Rivers) rfl (.dat shI)) (And.intro (tF (dat 1 eI zI v21.Map.Roads) rfl (.dat shI)) trivial))))))))))))) (And.intro (And.intro rfl (And.intro (tF (dat 3 eTFrame zTFrame v25.Stack) rfl (.dat shTFrame)) (And.intro (tF (dat 1 eI zI v25.Used) rfl (.dat shI)) (And.intro (tS (jI v25.State.Turn) rfl) (And.intro (tS (jI v25.State.Weather) rfl) (And.intro (tF (dat 4 eTUnit zTUnit v25.State.Units) rfl (.dat shTUnit)) (And.intro (tF (dat 1 eI zI v25.Log) rfl (.dat shI)) trivial))))))) (And.intro (And.intro rfl (And.intro (tS (.own 1002 3 0 v27.1.Stack.length) rfl) (And.intro (tS (.own 1003 1 0 v27.1.Used.length) rfl) (And.intro (tS (jI v27.1.State.Turn) rfl) (And.intro (tS (jI v27.1.State.Weather) rfl) (And.intro (tS (.own 1004 4 0 v27.1.State.Units.length) rfl) (And.intro (tS (.own 1005 1 0 v27.1.Log.length) rfl) trivial))))))) (And.intro (And.intro rfl ⟨rfl, rfl, rfl, fun i _ => rfl⟩) (And.intro (And.intro rfl ⟨rfl, rfl, rfl, fun i _ => rfl⟩) (And.intro (And.intro rfl ⟨rfl, rfl, rfl, fun i _ => rfl⟩) (And.intro (And.intro rfl ⟨rfl, rfl, rfl, fun i _ => rfl⟩) trivial)))))))))) ?_
          obtain ⟨v69, h70, H⟩ := oB H
          refine so [.res (cI v69)] [] [(1, dc 3 eTReaction zTReaction p1), (3, pk 3), (5, pk 5), (8, pk 8), (9, cI v19.2.1), (10, cB v19.2.2), (12, .c (.lv (dat 3 eTReaction zTReaction v23))), (13, pk 13), (14, pk 14), (15, cI v27.2.1), (16, cB v27.2.2), (17, cI v69)] [(3, va (eTBoard p0)), (5, va (eTMachine p2)), (8, va (eTMachine v19.1)), (13, va (lTMachine v25)), (14, va (wTMachine 1002 1003 1004 1005 v27.1)), (1002, ar 3 eTFrame zTFrame v27.1.Stack), (1003, ar 1 eI zI v27.1.Used), (1004, ar 4 eTUnit zTUnit v27.1.State.Units), (1005, ar 1 eI zI v27.1.Log)] (aI ((l_markBoard_L_ok v21 1 v69 h70).up glTs)) ?_
          obtain ⟨v71, h72, H⟩ := oB H
          refine so [.res (cI v71)] [] [(1, dc 3 eTReaction zTReaction p1), (3, pk 3), (5, pk 5), (8, pk 8), (9, cI v19.2.1), (10, cB v19.2.2), (13, pk 13), (14, pk 14), (15, cI v27.2.1), (16, cB v27.2.2), (17, cI v71)] [(3, va (eTBoard p0)), (5, va (eTMachine p2)), (8, va (eTMachine v19.1)), (13, va (lTMachine v25)), (14, va (wTMachine 1002 1003 1004 1005 v27.1)), (1002, ar 3 eTFrame zTFrame v27.1.Stack), (1003, ar 1 eI zI v27.1.Used), (1004, ar 4 eTUnit zTUnit v27.1.State.Units), (1005, ar 1 eI zI v27.1.Log)] (aI ((l_markReactionS_L_ok v23 v69 v71 h72).up glTs)) ?_
          obtain ⟨v73, h74, H⟩ := oB H
          refine so [.res (cI v73)] [] [(1, dc 3 eTReaction zTReaction p1), (3, pk 3), (5, pk 5), (8, pk 8), (9, cI v19.2.1), (10, cB v19.2.2), (14, pk 14), (15, cI v27.2.1), (16, cB v27.2.2), (17, cI v73)] [(3, va (eTBoard p0)), (5, va (eTMachine p2)), (8, va (eTMachine v19.1)), (14, va (wTMachine 1002 1003 1004 1005 v27.1)), (1002, ar 3 eTFrame zTFrame v27.1.Stack), (1003, ar 1 eI zI v27.1.Used), (1004, ar 4 eTUnit zTUnit v27.1.State.Units), (1005, ar 1 eI zI v27.1.Log)] (aI ((l_markMachine_L_ok v25 v71 v73 h74).up glTs)) ?_
          refine seq_in ?_
          rcases oC H with ⟨c79, H⟩ | ⟨c79, H⟩
          ·refine sn (rg 13 true []) [] [(118, cB true)] [] [] (fun t => aG 5 c79 (aG 8 rT (t))) ?_
           refine it rT ?_
           refine so [] [] [(6, cB false)] [] id ?_
           refine ends_ret ?_
           cases H
          ·obtain ⟨v80, h81, H⟩ := oB H
           rcases oC H with ⟨c82, H⟩ | ⟨c82, H⟩
           ·refine sn (rg 3 false ([.res (cB v80)] ++ rg 2 false (rg 8 true []))) [] [(118, cB true)] [] [] (fun t => aG 3 c79 (aI (Nat.le_refl v27.1.Stack.length) (aI (Nat.le_refl v27.1.Used.length) (aI (Nat.le_refl v27.1.State.Units.length) (aI (Nat.le_refl v27.1.Log.length) (aI ((l_eqMachine_ok v27.1 v19.1 v80 h81).up glTs) (aG 2 c79 (aG 4 c82 (aG 4 rT (t)))))))))) ?_
            refine it rT ?_
            refine so [] [] [(6, cB false)] [] id ?_
            refine ends_ret ?_
            cases H
           ·refine sn (rg 3 false ([.res (cB v80)] ++ rg 10 false [])) [] [(118, cB (!(v27.2.2 == v19.2.2)))] [] [] (fun t => aG 3 c79 (aI (Nat.le_refl v27.1.Stack.length) (aI (Nat.le_refl v27.1.Used.length) (aI (Nat.le_refl v27.1.State.Units.length) (aI (Nat.le_refl v27.1.Log.length) (aI ((l_eqMachine_ok v27.1 v19.1 v80 h81).up glTs) (aG 2 c79 (aG 4 c82 (aG 4 c37 (t)))))))))) ?_
            refine jf c38 ?_
            refine sk ?_
            refine sn [] [] [(18, cI 1)] [] [] id ?_
            obtain ⟨v83, h84, H⟩ := oB H
            obtain ⟨g85, H⟩ := oI H
            obtain ⟨g86, H⟩ := oI H
            obtain ⟨g87, H⟩ := oI H
            obtain ⟨g88, H⟩ := oI H
            refine so [.mu [(1002, 1000000), (1003, 1000001), (1004, 1000002), (1005, 1000003)] [(1000000, 1002), (1000001, 1003), (1000002, 1004), (1000003, 1005)] (cI v83.1) [(1000000, ar 3 eTFrame zTFrame v83.2.Stack), (1000001, ar 1 eI zI v83.2.Used), (1000002, ar 4 eTUnit zTUnit v83.2.State.Units), (1000003, ar 1 eI zI v83.2.Log)]] [.agg 119 [.own 1002 3 0 v83.2.Stack.length, .own 1003 1 0 v83.2.Used.length, jI v27.1.State.Turn, jI v27.1.State.Weather, .own 1004 4 0 v83.2.State.Units.length, .own 1005 1 0 v83.2.Log.length], .relc 14 0 v83.2.Stack.length, .relc 14 1 v83.2.Used.length, .relc 14 4 v83.2.State.Units.length, .relc 14 5 v83.2.Log.length] [(1, dc 3 eTReaction zTReaction p1), (3, pk 3), (5, pk 5), (8, pk 8), (9, cI v19.2.1), (10, cB v19.2.2), (14, pk 14), (18, cI v83.1)] [(3, va (eTBoard p0)), (5, va (eTMachine p2)), (8, va (eTMachine v19.1)), (14, .var [.own 1002 3 0 v83.2.Stack.length, .own 1003 1 0 v83.2.Used.length, jI v27.1.State.Turn, jI v27.1.State.Weather, .own 1004 4 0 v83.2.State.Units.length, .own 1005 1 0 v83.2.Log.length] false), (1002, ar 3 eTFrame zTFrame v83.2.Stack), (1003, ar 1 eI zI v83.2.Used), (1004, ar 4 eTUnit zTUnit v83.2.State.Units), (1005, ar 1 eI zI v83.2.Log)] (fun t => aI ((l_markMachine_Mod_ok v27.1 1 v83 h84).up glTs) (aI (by rw [← g85, ← g86, ← g87, ← g88] : AV.agg [.own 1002 3 0 v27.1.Stack.length, .own 1003 1 0 v27.1.Used.length, jI v27.1.State.Turn, jI v27.1.State.Weather, .own 1004 4 0 v27.1.State.Units.length, .own 1005 1 0 v27.1.Log.length] = AV.agg [.own 1002 3 0 v83.2.Stack.length, .own 1003 1 0 v83.2.Used.length, jI v27.1.State.Turn, jI v27.1.State.Weather, .own 1004 4 0 v83.2.State.Units.length, .own 1005 1 0 v83.2.Log.length]) (aI (Eq.symm g85) (aI (Eq.symm g86) (aI (Eq.symm g87) (aI (Eq.symm g88) (t))))))) ?_
            refine sn [] [] [(19, cI 1)] [] [] id ?_
            obtain ⟨v89, h90, H⟩ := oB H
            refine so [.res (cI v89)] [] [(1, dc 3 eTReaction zTReaction p1), (3, pk 3), (5, pk 5), (8, pk 8), (9, cI v19.2.1), (10, cB v19.2.2), (14, pk 14), (18, cI v83.1), (19, cI v89)] [(3, va (eTBoard p0)), (5, va (eTMachine p2)), (8, va (eTMachine v19.1)), (14, .var [.own 1002 3 0 v83.2.Stack.length, .own 1003 1 0 v83.2.Used.length, jI v27.1.State.Turn, jI v27.1.State.Weather, .own 1004 4 0 v83.2.State.Units.length, .own 1005 1 0 v83.2.Log.length] false), (1002, ar 3 eTFrame zTFrame v83.2.Stack), (1003, ar 1 eI zI v83.2.Used), (1004, ar 4 eTUnit zTUnit v83.2.State.Units), (1005, ar 1 eI zI v83.2.Log)] (fun t => aI (Nat.le_refl v83.2.Stack.length) (aI (Nat.le_refl v83.2.Used.length) (aI (Nat.le_refl v83.2.State.Units.length) (aI (Nat.le_refl v83.2.Log.length) (aI ((l_heldMachine_ok (TMachine.mk v83.2.Stack v83.2.Used (TState.mk v27.1.State.Turn v27.1.State.Weather v83.2.State.Units) v83.2.Log) 1 v89 h90).up glTs) (t)))))) ?_
            refine seq_in ?_
            refine sn [] [] [(126, cB (decide (v89 < 0)))] [] [] id ?_
            rcases oC H with ⟨c92, H⟩ | ⟨c92, H⟩
            ·refine it c92 ?_
             refine so [] [] [(6, cB false)] [] id ?_
             refine ends_ret ?_
             cases H
            ·refine jf c92 ?_
             refine sk ?_
             refine seq_in ?_
             refine sn [] [] [(129, cB (v89 != v83.1))] [] [] id ?_
             rcases oC H with ⟨c94, H⟩ | ⟨c94, H⟩
             ·refine it c94 ?_
              refine so [] [] [(6, cB false)] [] id ?_
              refine ends_ret ?_
              cases H
             ·refine jf c94 ?_
              refine sk ?_
              obtain ⟨v95, h96, H⟩ := oB H
              obtain ⟨v97, h98, H⟩ := oB H
              obtain ⟨v99, h100, H⟩ := oB H
              obtain ⟨v101, h102, H⟩ := oB H
              refine xn [.res (.agg (rTBoard v95)), .res (.c (.fr (dat 3 eTReaction zTReaction v97))), .res (.agg (rTMachine v99)), .res (.tup [(true, [dat 3 eTFrame zTFrame v101.1.Stack, dat 1 eI zI v101.1.Used, jI v101.1.State.Turn, jI v101.1.State.Weather, dat 4 eTUnit zTUnit v101.1.State.Units, dat 1 eI zI v101.1.Log]), (false, [jI v101.2.1]), (false, [.bool v101.2.2])])] [] [(20, pk 20), (21, cI v101.2.1), (22, cB v101.2.2)] [] [(20, va (eTMachine v101.1))] (fun t => aI ((l_toBoard_F_ok p0 v95 h96).up glTs) (aG 2 rN (aI ((l_toReactionS_F_ok p1 v97 h98).up glTs) (aG 2 rN (aI ((l_toMachine_F_ok p2 v99 h100).up glTs) (aG 2 rN (aI ((FnOk.le2 (xs := [.agg (rTBoard v95), .c (.fr (dat 3 eTReaction zTReaction v97)), .agg (rTMachine v99)]) (i_RunMachine_ok v95 v97 v99 v101 h102) ⟨LeD.agg (And.intro (LeC.fr _) (And.intro (LeC.fr _) (And.intro (LeC.refl _) (And.intro (LeC.refl _) (And.intro (LeC.refl _) (And.intro (LeC.refl _) (And.intro (LeC.refl _) (And.intro (LeC.refl _) (And.intro (LeC.refl _) (And.intro (LeC.fr _) (And.intro (LeC.fr _) (And.intro (LeC.fr _) (trivial))))))))))))), LeD.fr _, LeD.agg (And.intro (LeC.fr _) (And.intro (LeC.fr _) (And.intro (LeC.refl _) (And.intro (LeC.refl _) (And.intro (LeC.fr _) (And.intro (LeC.fr _) (trivial))))))), trivial⟩).up glTs) (aG 2 rN (t))))))))) ?_
              refine seq_in ?_
              obtain ⟨v108, h109, H⟩ := oB H
              rcases oC H with ⟨c110, H⟩ | ⟨c110, H⟩
              ·refine sn ([.res (cB v108)] ++ rg 8 true []) [] [(154, cB true)] [3, 5] [] (fun t => aI ((l_eqMachine_ok v101.1 v19.1 v108 h109).up glTs) (aG 4 c110 (aG 4 rT (t)))) ?_
               refine it rT ?_
               refine so [] [] [(6, cB false)] [] id ?_
               refine ends_ret ?_
               cases H
              ·rcases oC H with ⟨c111, H⟩ | ⟨c111, H⟩
               ·refine sn ([.res (cB v108)] ++ rg 4 false (rg 4 true [])) [] [(154, cB true)] [3, 5] [] (fun t => aI ((l_eqMachine_ok v101.1 v19.1 v108 h109).up glTs) (aG 4 c110 (aG 4 c111 (t)))) ?_
                refine it rT ?_
                refine so [] [] [(6, cB false)] [] id ?_
                refine ends_ret ?_
                cases H
               ·refine sn ([.res (cB v108)] ++ rg 8 false []) [] [(154, cB (!(v101.2.2 == v19.2.2)))] [3, 5] [] (fun t => aI ((l_eqMachine_ok v101.1 v19.1 v108 h109).up glTs) (aG 4 c110 (aG 4 c111 (t)))) ?_
                rcases oC H with ⟨c112, H⟩ | ⟨c112, H⟩
                ·refine it c112 ?_
                 refine so [] [] [(6, cB false)] [] id ?_
                 refine ends_ret ?_
                 cases H
                ·refine jf c112 ?_
                 refine sk ?_
                 refine so [] [] [(14, pk 14), (18, cI v83.1), (19, cI 1)] [(14, .var [.own 1002 3 0 v83.2.Stack.length, .own 1003 1 0 v83.2.Used.length, jI v27.1.State.Turn, jI v27.1.State.Weather, .own 1004 4 0 v83.2.State.Units.length, .own 1005 1 0 v83.2.Log.length] false), (1002, ar 3 eTFrame zTFrame v83.2.Stack), (1003, ar 1 eI zI v83.2.Used), (1004, ar 4 eTUnit zTUnit v83.2.State.Units), (1005, ar 1 eI zI v83.2.Log)] id ?_
                 obtain ⟨v113, h114, H⟩ := oB H
                 refine so [.res (cI v113)] [] [(18, cI v83.1), (19, cI v113)] [] (fun t => aI (Nat.le_refl v83.2.Stack.length) (aI (Nat.le_refl v83.2.Used.length) (aI (Nat.le_refl v83.2.State.Units.length) (aI (Nat.le_refl v83.2.Log.length) (aI ((l_heldMachine_ok (TMachine.mk v83.2.Stack v83.2.Used (TState.mk v27.1.State.Turn v27.1.State.Weather v83.2.State.Units) v83.2.Log) 1 v113 h114).up glTs) (t)))))) ?_
                 refine seq_in ?_
                 refine sn [] [] [(159, cB (decide (v113 < 0)))] [] [] id ?_
                 rcases oC H with ⟨c116, H⟩ | ⟨c116, H⟩
                 ·refine it c116 ?_
                  refine so [] [] [(6, cB false)] [] id ?_
                  refine ends_ret ?_
                  cases H
                 ·refine jf c116 ?_
                  refine sk ?_
                  refine seq_in ?_
                  refine so [] [] [(162, cB (v113 != v83.1))] [] id ?_
                  rcases oC H with ⟨c117, H⟩ | ⟨c117, H⟩
                  ·refine it c117 ?_
                   refine so [] [] [(6, cB false)] [] id ?_
                   refine ends_ret ?_
                   cases H
                  ·refine jf c117 ?_
                   refine sk ?_
                   refine so [] [] [(6, cB true)] [] id ?_
                   refine ends_ret ?_
                   exact qr
end Go.Proofs.YteenmeomlhkphaaGreatDoor.X0
