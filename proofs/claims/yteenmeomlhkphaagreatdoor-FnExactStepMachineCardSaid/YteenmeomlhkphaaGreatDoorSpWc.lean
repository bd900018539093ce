/- What each function that FnExactStepMachine reaches computes; no condition. -/
import Derived.Test.YteenmeomlhkphaaGreatDoorSpWb
set_option linter.unusedVariables false
set_option linter.unusedSimpArgs false
set_option maxRecDepth 100000
namespace Go.Proofs.YteenmeomlhkphaaGreatDoor.X0
open Go Go.RowKit Go.Proofs.YteenmeomlhkphaaGreatDoor.Ab Go.Proofs

def i_unitsAt_ir : S :=
 (sq [o 2 (.box 3 (.t 0)), o 4 (.mv (.v (.nil)))]
 (sq [o 8 (.bsl 1 []), om 5 8]
 (.seq (sq [oa 9 2 2, ol 10 9, o 11 (.len (.t 10)), o 12 (.mv (iv 0))]
 (.blk 0 (.loop (sq [o 13 (.bin .lss (.t 12) (.t 11))]
   (.seq (.ite (.t 13) .skip
   (.exit 0))
   (.seq (.blk 1 (sq [om 14 12, o 15 (.iad 4 (.t 10) (.t 12)), o 16 (.load 4 true (.t 15)), o 7 (.alloc [.int .i64 0, .int .i64 0, .int .i64 0, .int .i64 0]), om 6 14, os 4 7 16]
    (sq [oa 17 2 7, ol 18 17, om 19 1, o 20 (.bin .eql (.t 18) (.t 19))]
    (.ite (.t 20) (.ops [om 21 5, om 22 6, o 23 (.bsl 1 [.t 22]), o 24 (.app 1 8 (.t 21) (.t 23)), om 5 24])
    .skip))))
   (.ops [o 25 (.bin .add (.t 12) (iv 1)), om 12 25])))))))
 (sq [om 26 5, om 4 26]
 .ret))))
noncomputable def X.i_unitsAt (p0 : TState) (p1 : Int) : Option (List Int) :=
 ((loop (fun (x14 : (Int × (List Int))) => ((bif (decide (x14.1 < (p0.Units.length : Int))) then ((at' zTUnit p0.Units x14.1).bind fun v17 => (bif (v17.At == p1) then (if (x14.2 ++ ([x14.1] : List Int)).length ≤ LIM then some (Sum.inl ((W (x14.1 + 1)), (x14.2 ++ ([x14.1] : List Int)))) else none) else some (Sum.inl ((W (x14.1 + 1)), x14.2)))) else some (Sum.inr x14.2)) : Option ((Int × (List Int)) ⊕ (List Int)))) (0, ([] : List Int))).bind fun y21 => some y21)
theorem i_unitsAt_ok (p0 : TState) (p1 : Int) (r : (List Int)) (H : X.i_unitsAt p0 p1 = some r) : FK 105 [.agg (eTState p0), cI p1] (.c (dat 1 eI zI r)) := by
 unfold X.i_unitsAt at H
 refine fi Tryz.f105 i_unitsAt_ir [(4, dc 1 eI zI r)] [] glL Tryz.func105 ?_
 refine sn [] [] [(2, pk 2)] [] [(2, va (eTState p0))] id ?_
 refine sn [fh eI zI ([] : List Int)] [] [(5, ow 8 1 ([] : List Int))] [] [(8, ar 1 eI zI ([] : List Int))] (fun t => aI (rfl : ([] : List Int).length = 0) (aI (fF_lit eI zI ([] : List Int)) (t))) ?_
 refine seq_in ?_
 refine sn [] [] [(10, dc 4 eTUnit zTUnit p0.Units), (11, cL p0.Units), (12, cI 0)] [] [] (fun t => lI p0.Units (t)) ?_
 refine ends_blk ?_
 obtain ⟨y21, h22, H⟩ := oB H
 refine tl [.ren 8 1001] [(1, cI p1), (5, ow 1001 1 ([] : List Int)), (10, dc 4 eTUnit zTUnit p0.Units), (11, cL p0.Units), (12, cI 0)] [(1001, ar 1 eI zI ([] : List Int))] id ?_
 refine loop_in (fun (x : (Int × (List Int))) => lit [(1, cI p1), (5, ow 1001 1 x.2), (10, dc 4 eTUnit zTUnit p0.Units), (11, cL p0.Units), (12, cI x.1)] [(1001, ar 1 eI zI x.2)]) (fun (z : (List Int)) => At (.exit 0) (lit [(5, ow 1001 1 z)] [(1001, ar 1 eI zI z)])) h22 ?_ ?_
 ·clear H h22
  intro x14 y0 H
  refine sn [] [] [(13, cB (decide (x14.1 < (p0.Units.length : Int))))] [] [] id ?_
  refine seq_in ?_
  rcases oC H with ⟨c16, H⟩ | ⟨c16, H⟩
  ·refine it c16 ?_
   refine sk ?_
   refine seq_in ?_
   refine ends_blk ?_
   obtain ⟨v17, h18, H⟩ := oB H
   refine sn [.cs (eTUnit v17)] [] [(6, cI x14.1), (7, pk 7)] [] [(7, va (eTUnit v17))] (a2 eTUnit h18) ?_
   refine sn [] [] [(20, cB (v17.At == p1))] [] [] id ?_
   rcases oC H with ⟨c19, H⟩ | ⟨c19, H⟩
   ·refine it c19 ?_
    obtain ⟨g20, H⟩ := oI H
    refine oo [fh eI zI ([x14.1] : List Int), fh eI zI (x14.2 ++ ([x14.1] : List Int))] [] [(1, cI p1), (5, ow 24 1 (x14.2 ++ ([x14.1] : List Int))), (10, dc 4 eTUnit zTUnit p0.Units), (11, cL p0.Units), (12, cI x14.1)] [(24, ar 1 eI zI (x14.2 ++ ([x14.1] : List Int)))] (fun t => aI (rfl : ([x14.1] : List Int).length = 1) (aI (fF_lit eI zI ([x14.1] : List Int)) (aI (And.intro (Nat.le_refl x14.2.length) (And.intro (@List.length_append _ x14.2 ([x14.1] : List Int)) g20)) (aI (fF_appL eI zI x14.2 ([x14.1] : List Int)) (aI (fF_appR eI zI x14.2 ([x14.1] : List Int)) (t)))))) ?_
    change EndsI _ _ _ _ _ _
    refine oo [] [.ren 24 1001] [(1, cI p1), (5, ow 1001 1 (x14.2 ++ ([x14.1] : List Int))), (10, dc 4 eTUnit zTUnit p0.Units), (11, cL p0.Units), (12, cI (W (x14.1 + 1)))] [(1001, ar 1 eI zI (x14.2 ++ ([x14.1] : List Int)))] id ?_
    cases H
    exact rr
   ·refine jf c19 ?_
    refine sk ?_
    refine oo [] [] [(1, cI p1), (5, ow 1001 1 x14.2), (10, dc 4 eTUnit zTUnit p0.Units), (11, cL p0.Units), (12, cI (W (x14.1 + 1)))] [(1001, ar 1 eI zI x14.2)] id ?_
    cases H
    exact rr
  ·refine jf c16 ?_
   refine tl [] [(5, ow 1001 1 x14.2)] [(1001, ar 1 eI zI x14.2)] id ?_
   refine ends_exit ?_
   cases H
   exact rse
 ·clear h22
  rintro e s ⟨rfl, rfl⟩
  change EndsI _ _ _ _ _ _
  refine sn [] [] [(4, ow 1001 1 y21)] [] [] id ?_
  refine tl [.frz 4] [(4, dc 1 eI zI y21)] [] (aI (Nat.le_refl y21.length)) ?_
  cases H
  exact er
def i_strongest_ir : S :=
 (sq [o 2 (.box 3 (.t 0)), o 4 (.mv (iv 0))]
 (sq [om 8 1, o 9 (.iad 1 (.t 8) (iv 0)), ol 10 9, om 5 10]
 (.seq (sq [om 11 1, o 12 (.len (.t 11)), o 13 (.mv (iv 0))]
 (.blk 0 (.loop (sq [o 14 (.bin .lss (.t 13) (.t 12))]
   (.seq (.ite (.t 14) .skip
   (.exit 0))
   (.seq (.blk 1 (sq [o 15 (.iad 1 (.t 11) (.t 13)), ol 16 15, om 7 16]
    (.seq (.drw [(0, 2), (1, 2), (0, 6), (1, 6), (2, 6), (3, 6), (4, 6), (5, 6), (0, 7), (1, 7), (2, 7), (3, 7), (4, 7), (5, 7), (0, 8), (1, 8), (2, 8), (3, 8), (4, 8), (5, 8), (6, 8), (7, 8), (0, 9), (1, 9), (2, 9), (3, 9), (4, 9), (5, 9), (0, 10), (1, 10), (2, 10), (3, 10), (4, 10), (5, 10), (0, 11), (1, 11), (2, 11), (3, 11), (4, 11), (5, 11)] [oa 17 2 2, ol 18 17, om 19 7, o 20 (.iad 4 (.t 18) (.t 19)), oa 21 3 20, ol 22 21, oa 23 2 2, ol 24 23, om 25 5, o 26 (.iad 4 (.t 24) (.t 25)), oa 27 3 26, ol 28 27, o 29 (.bin .gtr (.t 22) (.t 28))])
    (.ite (.t 29) (.ops [om 30 7, om 5 30])
    .skip))))
   (.ops [o 31 (.bin .add (.t 13) (iv 1)), om 13 31])))))))
 (sq [om 32 5, om 4 32]
 .ret))))
noncomputable def X.i_strongest (p0 : TState) (p1 : (List Int)) : Option Int :=
 ((at' zI p1 0).bind fun v1 => ((loop (fun (x27 : (Int × Int)) => ((bif (decide (x27.2 < (p1.length : Int))) then ((at' zI p1 x27.2).bind fun v30 => ((at' zTUnit p0.Units v30).bind fun v32 => ((at' zTUnit p0.Units x27.1).bind fun v34 => (bif (decide (v32.Steps > v34.Steps)) then some (Sum.inl (v30, (W (x27.2 + 1)))) else some (Sum.inl (x27.1, (W (x27.2 + 1)))))))) else some (Sum.inr x27.1)) : Option ((Int × Int) ⊕ Int))) (v1, 0)).bind fun y37 => some y37))
theorem i_strongest_ok (p0 : TState) (p1 : (List Int)) (r : Int) (H : X.i_strongest p0 p1 = some r) : FK 282 [.agg (eTState p0), .c (dat 1 eI zI p1)] (cI r) := by
 unfold X.i_strongest at H
 refine fi Tryz.f282 i_strongest_ir [(4, cI r)] [] glL Tryz.func282 ?_
 refine sn [] [] [(2, pk 2)] [] [(2, va (eTState p0))] id ?_
 obtain ⟨v1, h2, H⟩ := oB H
 refine sn [.cs (eI v1)] [] [(5, cI v1)] [] [] (a2 eI h2) ?_
 refine seq_in ?_
 refine sn [] [] [(11, dc 1 eI zI p1), (12, cL p1), (13, cI 0)] [] [] (fun t => lI p1 (t)) ?_
 refine ends_blk ?_
 obtain ⟨y37, h38, H⟩ := oB H
 refine tl [] [(2, pk 2), (5, cI v1), (11, dc 1 eI zI p1), (12, cL p1), (13, cI 0)] [(2, va (eTState p0))] id ?_
 refine loop_in (fun (x : (Int × Int)) => lit [(2, pk 2), (5, cI x.1), (11, dc 1 eI zI p1), (12, cL p1), (13, cI x.2)] [(2, va (eTState p0))]) (fun (z : Int) => At (.exit 0) (lit [(5, cI z)] [])) h38 ?_ ?_
 ·clear H h38
  intro x27 y0 H
  refine sn [] [] [(14, cB (decide (x27.2 < (p1.length : Int))))] [] [] id ?_
  refine seq_in ?_
  rcases oC H with ⟨c29, H⟩ | ⟨c29, H⟩
  ·refine it c29 ?_
   refine sk ?_
   refine seq_in ?_
   refine ends_blk ?_
   obtain ⟨v30, h31, H⟩ := oB H
   refine sn [.cs (eI v30)] [] [(7, cI v30)] [] [] (a2 eI h31) ?_
   obtain ⟨v32, h33, H⟩ := oB H
   obtain ⟨v34, h35, H⟩ := oB H
   refine xn [.cs (eTUnit v32), .cs (eTUnit v34)] [] [(29, cB (decide (v32.Steps > v34.Steps)))] [] [] (fun t => (a2 eTUnit h33 (aI rN ((a2 eTUnit h35 (aI rN (t))))))) ?_
   rcases oC H with ⟨c36, H⟩ | ⟨c36, H⟩
   ·refine it c36 ?_
    refine oo [] [] [(2, pk 2), (5, cI v30), (11, dc 1 eI zI p1), (12, cL p1), (13, cI x27.2)] [(2, va (eTState p0))] id ?_
    change EndsI _ _ _ _ _ _
    refine oo [] [] [(2, pk 2), (5, cI v30), (11, dc 1 eI zI p1), (12, cL p1), (13, cI (W (x27.2 + 1)))] [(2, va (eTState p0))] id ?_
    cases H
    exact rr
   ·refine jf c36 ?_
    refine sk ?_
    refine oo [] [] [(2, pk 2), (5, cI x27.1), (11, dc 1 eI zI p1), (12, cL p1), (13, cI (W (x27.2 + 1)))] [(2, va (eTState p0))] id ?_
    cases H
    exact rr
  ·refine jf c29 ?_
   refine tl [] [(5, cI x27.1)] [] id ?_
   refine ends_exit ?_
   cases H
   exact rse
 ·clear h38
  rintro e s ⟨rfl, rfl⟩
  change EndsI _ _ _ _ _ _
  refine so [] [] [(4, cI y37)] [] id ?_
  cases H
  exact er
def i_fireTarget_ir : S :=
 (sq [o 2 (.box 3 (.t 0)), o 3 (.box 3 (.t 1)), o 4 (.mv (iv 0))]
 (sq [o 8 (.bsl 1 []), om 5 8]
 (.seq (sq [o 9 (.load 3 true (.t 2)), oa 10 1 3, ol 11 10, o 12 (.call 105 [.t 9, .t 11]), o 13 (.len (.t 12)), o 14 (.mv (iv 0))]
 (.blk 0 (.loop (sq [o 15 (.bin .lss (.t 14) (.t 13))]
   (.seq (.ite (.t 15) .skip
   (.exit 0))
   (.seq (.blk 1 (sq [o 16 (.iad 1 (.t 12) (.t 14)), ol 17 16, om 7 17]
    (.seq (.drw [(0, 2), (1, 2), (0, 6), (1, 6), (2, 6), (3, 6), (4, 6), (5, 6), (0, 7), (1, 7), (2, 7), (3, 7), (4, 7), (5, 7), (0, 8), (1, 8), (2, 8), (3, 8), (4, 8), (5, 8), (6, 8), (7, 8), (0, 9), (1, 9), (2, 9), (3, 9), (4, 9), (5, 9), (6, 9), (7, 9), (0, 10), (1, 10), (2, 10), (3, 10), (4, 10), (5, 10), (0, 11), (1, 11), (2, 11), (3, 11), (4, 11), (5, 11), (0, 12), (1, 12), (2, 12), (3, 12), (4, 12), (5, 12)] [oa 18 2 2, ol 19 18, om 20 7, o 21 (.iad 4 (.t 19) (.t 20)), oa 22 0 21, ol 23 22, oa 24 2 2, ol 25 24, oa 26 0 3, ol 27 26, o 28 (.iad 4 (.t 25) (.t 27)), oa 29 0 28, ol 30 29, o 31 (.bin .neq (.t 23) (.t 30))])
    (.ite (.t 31) (.ops [om 32 5, om 33 7, o 34 (.bsl 1 [.t 33]), o 35 (.app 1 8 (.t 32) (.t 34)), om 5 35])
    .skip))))
   (.ops [o 36 (.bin .add (.t 14) (iv 1)), om 14 36])))))))
 (.seq (sq [om 37 5, o 38 (.len (.t 37)), o 39 (.bin .eql (.t 38) (iv 0))]
 (.ite (.t 39) (sq [o 4 (.mv (.v (.int .i64 (-1))))]
  .ret)
 .skip))
 (sq [o 40 (.load 3 true (.t 2)), om 41 5, o 42 (.call 282 [.t 40, .t 41]), om 4 42]
 .ret)))))
noncomputable def X.i_fireTarget (p0 : TState) (p1 : TFrame) : Option Int :=
 ((X.i_unitsAt p0 p1.At).bind fun v37 => ((loop (fun (x60 : (Int × (List Int))) => ((bif (decide (x60.1 < (v37.length : Int))) then ((at' zI v37 x60.1).bind fun v63 => ((at' zTUnit p0.Units v63).bind fun v65 => ((at' zTUnit p0.Units p1.Unit).bind fun v67 => (bif (v65.Side != v67.Side) then (if (x60.2 ++ ([v63] : List Int)).length ≤ LIM then some (Sum.inl ((W (x60.1 + 1)), (x60.2 ++ ([v63] : List Int)))) else none) else some (Sum.inl ((W (x60.1 + 1)), x60.2)))))) else some (Sum.inr x60.2)) : Option ((Int × (List Int)) ⊕ (List Int)))) (0, ([] : List Int))).bind fun y71 => (bif ((y71.length : Int) == 0) then some (-1) else ((X.i_strongest p0 y71).bind fun v74 => some v74))))
theorem i_fireTarget_ok (p0 : TState) (p1 : TFrame) (r : Int) (H : X.i_fireTarget p0 p1 = some r) : FK 243 [.agg (eTState p0), .agg (eTFrame p1)] (cI r) := by
 unfold X.i_fireTarget at H
 refine fi Tryz.f243 i_fireTarget_ir [(4, cI r)] [] glL Tryz.func243 ?_
 refine so [] [] [(2, pk 2), (3, pk 3)] [(2, va (eTState p0)), (3, va (eTFrame p1))] id ?_
 refine sn [fh eI zI ([] : List Int)] [] [(5, ow 8 1 ([] : List Int))] [] [(8, ar 1 eI zI ([] : List Int))] (fun t => aI (rfl : ([] : List Int).length = 0) (aI (fF_lit eI zI ([] : List Int)) (t))) ?_
 refine seq_in ?_
 obtain ⟨v37, h38, H⟩ := oB H
 refine sn [.res (dc 1 eI zI v37)] [] [(12, dc 1 eI zI v37), (13, cL v37), (14, cI 0)] [] [] (fun t => aI (i_unitsAt_ok p0 p1.At v37 h38) (lI v37 (t))) ?_
 refine ends_blk ?_
 obtain ⟨y71, h72, H⟩ := oB H
 refine tl [.ren 8 1002] [(2, pk 2), (3, pk 3), (5, ow 1002 1 ([] : List Int)), (12, dc 1 eI zI v37), (13, cL v37), (14, cI 0)] [(2, va (eTState p0)), (3, va (eTFrame p1)), (1002, ar 1 eI zI ([] : List Int))] id ?_
 refine loop_in (fun (x : (Int × (List Int))) => lit [(2, pk 2), (3, pk 3), (5, ow 1002 1 x.2), (12, dc 1 eI zI v37), (13, cL v37), (14, cI x.1)] [(2, va (eTState p0)), (3, va (eTFrame p1)), (1002, ar 1 eI zI x.2)]) (fun (z : (List Int)) => At (.exit 0) (lit [(2, pk 2), (5, ow 1002 1 z)] [(2, va (eTState p0)), (1002, ar 1 eI zI z)])) h72 ?_ ?_
 ·clear H h72
  intro x60 y0 H
  refine sn [] [] [(15, cB (decide (x60.1 < (v37.length : Int))))] [] [] id ?_
  refine seq_in ?_
  rcases oC H with ⟨c62, H⟩ | ⟨c62, H⟩
  ·refine it c62 ?_
   refine sk ?_
   refine seq_in ?_
   refine ends_blk ?_
   obtain ⟨v63, h64, H⟩ := oB H
   refine sn [.cs (eI v63)] [] [(7, cI v63)] [] [] (a2 eI h64) ?_
   obtain ⟨v65, h66, H⟩ := oB H
   obtain ⟨v67, h68, H⟩ := oB H
   refine xn [.cs (eTUnit v65), .cs (eTUnit v67)] [] [(31, cB (v65.Side != v67.Side))] [] [] (fun t => (a2 eTUnit h66 (aI rN ((a2 eTUnit h68 (aI rN (t))))))) ?_
   rcases oC H with ⟨c69, H⟩ | ⟨c69, H⟩
   ·refine it c69 ?_
    obtain ⟨g70, H⟩ := oI H
    refine oo [fh eI zI ([v63] : List Int), fh eI zI (x60.2 ++ ([v63] : List Int))] [] [(2, pk 2), (3, pk 3), (5, ow 35 1 (x60.2 ++ ([v63] : List Int))), (12, dc 1 eI zI v37), (13, cL v37), (14, cI x60.1)] [(2, va (eTState p0)), (3, va (eTFrame p1)), (35, ar 1 eI zI (x60.2 ++ ([v63] : List Int)))] (fun t => aI (rfl : ([v63] : List Int).length = 1) (aI (fF_lit eI zI ([v63] : List Int)) (aI (And.intro (Nat.le_refl x60.2.length) (And.intro (@List.length_append _ x60.2 ([v63] : List Int)) g70)) (aI (fF_appL eI zI x60.2 ([v63] : List Int)) (aI (fF_appR eI zI x60.2 ([v63] : List Int)) (t)))))) ?_
    change EndsI _ _ _ _ _ _
    refine oo [] [.ren 35 1002] [(2, pk 2), (3, pk 3), (5, ow 1002 1 (x60.2 ++ ([v63] : List Int))), (12, dc 1 eI zI v37), (13, cL v37), (14, cI (W (x60.1 + 1)))] [(2, va (eTState p0)), (3, va (eTFrame p1)), (1002, ar 1 eI zI (x60.2 ++ ([v63] : List Int)))] id ?_
    cases H
    exact rr
   ·refine jf c69 ?_
    refine sk ?_
    refine oo [] [] [(2, pk 2), (3, pk 3), (5, ow 1002 1 x60.2), (12, dc 1 eI zI v37), (13, cL v37), (14, cI (W (x60.1 + 1)))] [(2, va (eTState p0)), (3, va (eTFrame p1)), (1002, ar 1 eI zI x60.2)] id ?_
    cases H
    exact rr
  ·refine jf c62 ?_
   refine tl [] [(2, pk 2), (5, ow 1002 1 x60.2)] [(2, va (eTState p0)), (1002, ar 1 eI zI x60.2)] id ?_
   refine ends_exit ?_
   cases H
   exact rse
 ·clear h72
  rintro e s ⟨rfl, rfl⟩
  change EndsI _ _ _ _ _ _
  refine seq_in ?_
  refine sn [] [] [(39, cB ((y71.length : Int) == 0))] [] [] (fun t => lI y71 (t)) ?_
  rcases oC H with ⟨c73, H⟩ | ⟨c73, H⟩
  ·refine it c73 ?_
   refine so [] [] [(4, cI (-1))] [] id ?_
   cases H
   exact er
  ·refine jf c73 ?_
   refine sk ?_
   obtain ⟨v74, h75, H⟩ := oB H
   refine so [.res (cI v74)] [] [(4, cI v74)] [] (fun t => aI (Nat.le_refl y71.length) (aI (i_strongest_ok p0 y71 v74 h75) (t))) ?_
   cases H
   exact er
def x___impl_Machine__finish_ir : S :=
 (.seq (.drw [(0, 4), (1, 4), (2, 4), (3, 4), (0, 5), (1, 5), (2, 5), (3, 5), (0, 6), (1, 6), (2, 6), (3, 6), (0, 7), (1, 7), (2, 7), (3, 7), (0, 8), (1, 8), (2, 8), (3, 8), (0, 9), (1, 9), (2, 9), (3, 9), (0, 12), (1, 12), (2, 12), (3, 12), (4, 12), (5, 12), (6, 12), (7, 12), (8, 12), (9, 12), (10, 12), (11, 12)] [om 6 0, o 7 (.nck (.t 6)), oa 8 0 7, ol 9 8, om 10 0, o 11 (.nck (.t 10)), oa 12 0 11, ol 13 12, o 14 (.len (.t 13)), o 15 (.bin .sub (.t 14) (iv 1)), o 16 (.iad 3 (.t 9) (.t 15)), o 17 (.load 3 true (.t 16)), o 4 (.alloc [.int .i64 0, .int .i64 0, .int .i64 0]), os 3 4 17])
 (.seq (.drw [(0, 1), (0, 2), (0, 3), (0, 4), (0, 5), (1, 5), (2, 5), (3, 5), (4, 5), (0, 6), (1, 6), (2, 6), (3, 6), (4, 6), (0, 7), (1, 7), (2, 7), (3, 7), (4, 7), (0, 8), (1, 8), (2, 8), (3, 8), (4, 8), (0, 9), (1, 9), (2, 9), (3, 9), (4, 9), (0, 10), (1, 10), (2, 10), (3, 10), (4, 10), (0, 11)] [om 18 0, om 19 0, o 20 (.nck (.t 19)), oa 21 0 20, ol 22 21, om 23 0, o 24 (.nck (.t 23)), oa 25 0 24, ol 26 25, o 27 (.len (.t 26)), o 28 (.bin .sub (.t 27) (iv 1)), o 29 (.slc 3 (.t 22) none (some (.t 28))), o 30 (.nck (.t 18)), oa 31 0 30, os 1 31 29])
 (.seq (.seq (.drw [(0, 5), (1, 5), (2, 5), (3, 5), (4, 5), (0, 6), (1, 6), (2, 6), (3, 6), (4, 6)] [om 32 0, o 33 (.nck (.t 32)), oa 34 2 33, oa 35 2 34, ol 36 35, oa 37 0 4, ol 38 37, o 39 (.iad 4 (.t 36) (.t 38)), oa 40 2 39, ol 41 40, o 42 (.bin .lss (.t 41) (iv 0))])
 (.ite (.t 42) .ret
 .skip))
 (.seq (.drw [(0, 1), (0, 2), (0, 3), (0, 4), (0, 5), (1, 5), (2, 5), (3, 5), (4, 5), (0, 6), (1, 6), (2, 6), (3, 6), (4, 6), (0, 7), (1, 7), (2, 7), (3, 7), (4, 7), (0, 8)] [om 43 0, om 44 0, o 45 (.nck (.t 44)), oa 46 5 45, ol 47 46, oa 48 2 4, ol 49 48, o 50 (.bsl 1 [.t 49]), o 51 (.app 1 8 (.t 47) (.t 50)), o 52 (.nck (.t 43)), oa 53 5 52, os 1 53 51])
 (.seq (sq [oa 54 2 4, ol 55 54, o 56 (.bin .lss (.t 55) (iv 0))]
 (.ite (.t 56) .ret
 .skip))
 (.seq (sq [om 57 1, oa 58 2 4, ol 59 58, o 60 (.iad 3 (.t 57) (.t 59)), oa 61 2 60, ol 62 61, o 63 (.bin .eql (.t 62) (iv 1))]
 (.ite (.t 63) (.seq (.drw [(0, 1), (0, 2), (0, 3), (0, 4), (0, 5), (1, 5), (2, 5), (3, 5), (4, 5), (0, 6), (1, 6), (2, 6), (3, 6), (4, 6), (0, 7), (1, 7), (2, 7), (3, 7), (4, 7), (0, 8), (1, 8), (2, 8), (3, 8), (4, 8), (0, 9), (1, 9), (2, 9), (3, 9), (4, 9), (0, 10), (1, 10), (2, 10), (3, 10), (4, 10), (0, 11), (1, 11), (2, 11), (3, 11), (4, 11), (0, 12)] [om 64 0, om 65 0, o 66 (.nck (.t 65)), oa 67 0 66, ol 68 67, om 69 0, o 70 (.nck (.t 69)), oa 71 0 70, ol 72 71, o 73 (.len (.t 72)), o 74 (.bin .sub (.t 73) (iv 1)), o 75 (.mx true (.t 74) (iv 0)), o 76 (.slc 3 (.t 68) none (some (.t 75))), o 77 (.nck (.t 64)), oa 78 0 77, os 1 78 76])
  .ret)
 .skip))
 (.seq (.drw [(0, 4), (1, 4), (2, 4), (3, 4)] [om 79 0, o 80 (.nck (.t 79)), oa 81 2 80, o 82 (.load 3 true (.t 81)), o 83 (.load 3 true (.t 4)), o 84 (.call 243 [.t 82, .t 83]), om 5 84])
 (sq [om 85 5, o 86 (.bin .geq (.t 85) (iv 0))]
 (.ite (.t 86) (.ops [om 87 0, o 88 (.nck (.t 87)), oa 89 2 88, o 90 (.load 3 true (.t 89)), om 91 5, o 92 (.call 226 [.t 90, .t 91, .v (.int .i64 1)])])
 .skip)))))))))
noncomputable def X.x___impl_Machine__finish_Mpd (p0 : TMachine) (p1 : (List TReaction)) : Option TMachine :=
 (if 0 ≤ (W ((p0.Stack.length : Int) - 1)) ∧ (W ((p0.Stack.length : Int) - 1)) < (p0.Stack.length : Int) then (if 0 ≤ (0 : Int) ∧ (0 : Int) ≤ (W ((p0.Stack.length : Int) - 1)) ∧ (W ((p0.Stack.length : Int) - 1)) ≤ (p0.Stack.length : Int) then (if 0 ≤ (p0.Stack.getD ((W ((p0.Stack.length : Int) - 1)).toNat) zTFrame).Unit ∧ (p0.Stack.getD ((W ((p0.Stack.length : Int) - 1)).toNat) zTFrame).Unit < (p0.State.Units.length : Int) then (bif (decide ((p0.State.Units.getD (((p0.Stack.getD ((W ((p0.Stack.length : Int) - 1)).toNat) zTFrame).Unit).toNat) zTUnit).At < 0)) then some (TMachine.mk (p0.Stack.take (W ((p0.Stack.length : Int) - 1)).toNat) p0.Used p0.State p0.Log) else (if (p0.Log ++ ([(p0.Stack.getD ((W ((p0.Stack.length : Int) - 1)).toNat) zTFrame).By] : List Int)).length ≤ LIM then (bif (decide ((p0.Stack.getD ((W ((p0.Stack.length : Int) - 1)).toNat) zTFrame).By < 0)) then some (TMachine.mk (p0.Stack.take (W ((p0.Stack.length : Int) - 1)).toNat) p0.Used p0.State (p0.Log ++ ([(p0.Stack.getD ((W ((p0.Stack.length : Int) - 1)).toNat) zTFrame).By] : List Int))) else ((at' zTReaction p1 ((p0.Stack.getD ((W ((p0.Stack.length : Int) - 1)).toNat) zTFrame).By)).bind fun v14 => (bif (v14.Kind == 1) then (if 0 ≤ (0 : Int) ∧ (0 : Int) ≤ (if 0 > (W (((p0.Stack.take (W ((p0.Stack.length : Int) - 1)).toNat).length : Int) - 1)) then 0 else (W (((p0.Stack.take (W ((p0.Stack.length : Int) - 1)).toNat).length : Int) - 1))) ∧ (if 0 > (W (((p0.Stack.take (W ((p0.Stack.length : Int) - 1)).toNat).length : Int) - 1)) then 0 else (W (((p0.Stack.take (W ((p0.Stack.length : Int) - 1)).toNat).length : Int) - 1))) ≤ ((p0.Stack.take (W ((p0.Stack.length : Int) - 1)).toNat).length : Int) then some (TMachine.mk ((p0.Stack.take (W ((p0.Stack.length : Int) - 1)).toNat).take (if 0 > (W (((p0.Stack.take (W ((p0.Stack.length : Int) - 1)).toNat).length : Int) - 1)) then 0 else (W (((p0.Stack.take (W ((p0.Stack.length : Int) - 1)).toNat).length : Int) - 1))).toNat) p0.Used p0.State (p0.Log ++ ([(p0.Stack.getD ((W ((p0.Stack.length : Int) - 1)).toNat) zTFrame).By] : List Int))) else none) else ((X.i_fireTarget p0.State (p0.Stack.getD ((W ((p0.Stack.length : Int) - 1)).toNat) zTFrame)).bind fun v18 => (bif (decide (v18 ≥ 0)) then ((X.i_loseSteps_Modd p0.State v18 1).bind fun v21 => (if v21.Units.length = p0.State.Units.length then some (TMachine.mk (p0.Stack.take (W ((p0.Stack.length : Int) - 1)).toNat) p0.Used (TState.mk p0.State.Turn p0.State.Weather v21.Units) (p0.Log ++ ([(p0.Stack.getD ((W ((p0.Stack.length : Int) - 1)).toNat) zTFrame).By] : List Int))) else none)) else some (TMachine.mk (p0.Stack.take (W ((p0.Stack.length : Int) - 1)).toNat) p0.Used p0.State (p0.Log ++ ([(p0.Stack.getD ((W ((p0.Stack.length : Int) - 1)).toNat) zTFrame).By] : List Int)))))))) else none)) else none) else none) else none)
theorem x___impl_Machine__finish_Mpd_ok (p0 : TMachine) (p1 : (List TReaction)) (r : TMachine) (H : X.x___impl_Machine__finish_Mpd p0 p1 = some r) : FnMu Tryz.prog gl 190 [.c (.pk 1000000 0), .c (dat 3 eTReaction zTReaction p1)] [(1000000, .var [.own 1000001 3 0 p0.Stack.length, .own 1000002 1 0 p0.Used.length, .int .i64 p0.State.Turn, .int .i64 p0.State.Weather, .own 1000003 4 0 p0.State.Units.length, .own 1000004 1 0 p0.Log.length] false), (1000001, .arr 3 p0.Stack.length (fF eTFrame zTFrame p0.Stack) false), (1000002, .arr 1 p0.Used.length (fF eI zI p0.Used) false), (1000003, .arr 4 p0.State.Units.length (fF eTUnit zTUnit p0.State.Units) false), (1000004, .arr 1 p0.Log.length (fF eI zI p0.Log) false)] (.tup []) [(910000, .arr 3 r.Stack.length (fF eTFrame zTFrame r.Stack) false), (910001, .arr 1 r.Used.length (fF eI zI r.Used) false), (910002, .arr 4 r.State.Units.length (fF eTUnit zTUnit r.State.Units) false), (910003, .arr 1 r.Log.length (fF eI zI r.Log) false), (1000000, .var [.own 910000 3 0 r.Stack.length, .own 910001 1 0 r.Used.length, .int .i64 r.State.Turn, .int .i64 r.State.Weather, .own 910002 4 0 r.State.Units.length, .own 910003 1 0 r.Log.length] false)] := by
 unfold X.x___impl_Machine__finish_Mpd at H
 refine fn_mu (fn := Tryz.f190) (ir := x___impl_Machine__finish_ir) (E' := []) (E1 := [(910000, ar 3 eTFrame zTFrame r.Stack), (910001, ar 1 eI zI r.Used), (910002, ar 4 eTUnit zTUnit r.State.Units), (910003, ar 1 eI zI r.Log), (1000000, .var [.own 910000 3 0 r.Stack.length, .own 910001 1 0 r.Used.length, jI r.State.Turn, jI r.State.Weather, .own 910002 4 0 r.State.Units.length, .own 910003 1 0 r.Log.length] false)]) glL Tryz.func190 (by kernel_rfl) (by kernel_rfl) (by kernel_rfl) (by kernel_rfl) (by kernel_rfl) ?_
 obtain ⟨g1, H⟩ := oI H
 refine xn [.no] [] [(4, pk 4)] [] [(4, .var [jI ((p0.Stack.getD ((W ((p0.Stack.length : Int) - 1)).toNat) zTFrame).Unit), jI ((p0.Stack.getD ((W ((p0.Stack.length : Int) - 1)).toNat) zTFrame).At), jI ((p0.Stack.getD ((W ((p0.Stack.length : Int) - 1)).toNat) zTFrame).By)] false)] (fun t => aI g1 (aI (nat_lt g1) (aI rN (t)))) ?_
 obtain ⟨g2, H⟩ := oI H
 refine xn [.nat (p0.Stack.take (W ((p0.Stack.length : Int) - 1)).toNat).length] [.rep 1000001 (p0.Stack.take (W ((p0.Stack.length : Int) - 1)).toNat).length (fF eTFrame zTFrame (p0.Stack.take (W ((p0.Stack.length : Int) - 1)).toNat))] [] [1000001, 1000000] [(1000000, .var [.own 1000001 3 0 ((p0.Stack.take (W ((p0.Stack.length : Int) - 1)).toNat).length), .own 1000002 1 0 p0.Used.length, jI p0.State.Turn, jI p0.State.Weather, .own 1000003 4 0 p0.State.Units.length, .own 1000004 1 0 p0.Log.length] false), (1000001, ar 3 eTFrame zTFrame (p0.Stack.take (W ((p0.Stack.length : Int) - 1)).toNat))] (fun t => aI (take_nat p0.Stack (W ((p0.Stack.length : Int) - 1)) g2) (aI (take_len p0.Stack (W ((p0.Stack.length : Int) - 1))) (aI (fF_take eTFrame zTFrame p0.Stack (W ((p0.Stack.length : Int) - 1))) (t)))) ?_
 refine seq_in ?_
 obtain ⟨g5, H⟩ := oI H
 refine xn [.no] [] [(42, cB (decide ((p0.State.Units.getD (((p0.Stack.getD ((W ((p0.Stack.length : Int) - 1)).toNat) zTFrame).Unit).toNat) zTUnit).At < 0)))] [] [] (fun t => aI g5 (aI (nat_lt g5) (aI rN (t)))) ?_
 rcases oC H with ⟨c6, H⟩ | ⟨c6, H⟩
 ·refine it c6 ?_
  refine tl [.ren 1000001 910000, .ren 1000002 910001, .ren 1000003 910002, .ren 1000004 910003] [] [(910000, ar 3 eTFrame zTFrame (p0.Stack.take (W ((p0.Stack.length : Int) - 1)).toNat)), (910001, ar 1 eI zI p0.Used), (910002, ar 4 eTUnit zTUnit p0.State.Units), (910003, ar 1 eI zI p0.Log), (1000000, .var [.own 910000 3 0 ((p0.Stack.take (W ((p0.Stack.length : Int) - 1)).toNat).length), .own 910001 1 0 p0.Used.length, jI p0.State.Turn, jI p0.State.Weather, .own 910002 4 0 p0.State.Units.length, .own 910003 1 0 p0.Log.length] false)] id ?_
  cases H
  exact er
 ·refine jf c6 ?_
  refine sk ?_
  obtain ⟨g7, H⟩ := oI H
  refine xn [.no, fh eI zI ([(p0.Stack.getD ((W ((p0.Stack.length : Int) - 1)).toNat) zTFrame).By] : List Int), fh eI zI (p0.Log ++ ([(p0.Stack.getD ((W ((p0.Stack.length : Int) - 1)).toNat) zTFrame).By] : List Int))] [] [] [1000004, 1000000] [(51, ar 1 eI zI (p0.Log ++ ([(p0.Stack.getD ((W ((p0.Stack.length : Int) - 1)).toNat) zTFrame).By] : List Int))), (1000000, .var [.own 1000001 3 0 ((p0.Stack.take (W ((p0.Stack.length : Int) - 1)).toNat).length), .own 1000002 1 0 p0.Used.length, jI p0.State.Turn, jI p0.State.Weather, .own 1000003 4 0 p0.State.Units.length, .own 51 1 0 ((p0.Log ++ ([(p0.Stack.getD ((W ((p0.Stack.length : Int) - 1)).toNat) zTFrame).By] : List Int)).length)] false)] (fun t => aI (rfl : ([(p0.Stack.getD ((W ((p0.Stack.length : Int) - 1)).toNat) zTFrame).By] : List Int).length = 1) (aI rT (aI (fF_lit eI zI ([(p0.Stack.getD ((W ((p0.Stack.length : Int) - 1)).toNat) zTFrame).By] : List Int)) (aI (And.intro (Nat.le_refl p0.Log.length) (And.intro (@List.length_append _ p0.Log ([(p0.Stack.getD ((W ((p0.Stack.length : Int) - 1)).toNat) zTFrame).By] : List Int)) g7)) (aI (fF_appL eI zI p0.Log ([(p0.Stack.getD ((W ((p0.Stack.length : Int) - 1)).toNat) zTFrame).By] : List Int)) (aI (fF_appR eI zI p0.Log ([(p0.Stack.getD ((W ((p0.Stack.length : Int) - 1)).toNat) zTFrame).By] : List Int)) (t))))))) ?_
  refine seq_in ?_
  refine sn [] [] [(56, cB (decide ((p0.Stack.getD ((W ((p0.Stack.length : Int) - 1)).toNat) zTFrame).By < 0)))] [] [] id ?_
  rcases oC H with ⟨c9, H⟩ | ⟨c9, H⟩
  ·refine it c9 ?_
   refine tl [.ren 1000001 910000, .ren 1000002 910001, .ren 1000003 910002, .ren 51 910003] [] [(910000, ar 3 eTFrame zTFrame (p0.Stack.take (W ((p0.Stack.length : Int) - 1)).toNat)), (910001, ar 1 eI zI p0.Used), (910002, ar 4 eTUnit zTUnit p0.State.Units), (910003, ar 1 eI zI (p0.Log ++ ([(p0.Stack.getD ((W ((p0.Stack.length : Int) - 1)).toNat) zTFrame).By] : List Int))), (1000000, .var [.own 910000 3 0 ((p0.Stack.take (W ((p0.Stack.length : Int) - 1)).toNat).length), .own 910001 1 0 p0.Used.length, jI p0.State.Turn, jI p0.State.Weather, .own 910002 4 0 p0.State.Units.length, .own 910003 1 0 ((p0.Log ++ ([(p0.Stack.getD ((W ((p0.Stack.length : Int) - 1)).toNat) zTFrame).By] : List Int)).length)] false)] id ?_
   cases H
   exact er
  ·refine jf c9 ?_
   refine sk ?_
   refine seq_in ?_
   obtain ⟨v14, h15, H⟩ := oB H
   refine sn [.cs (eTReaction v14)] [] [(63, cB (v14.Kind == 1))] [] [] (a2 eTReaction h15) ?_
   rcases oC H with ⟨c16, H⟩ | ⟨c16, H⟩
   ·refine it c16 ?_
    obtain ⟨g17, H⟩ := oI H
    refine xn [.nat ((p0.Stack.take (W ((p0.Stack.length : Int) - 1)).toNat).take (if 0 > (W (((p0.Stack.take (W ((p0.Stack.length : Int) - 1)).toNat).length : Int) - 1)) then 0 else (W (((p0.Stack.take (W ((p0.Stack.length : Int) - 1)).toNat).length : Int) - 1))).toNat).length] [.rep 1000001 ((p0.Stack.take (W ((p0.Stack.length : Int) - 1)).toNat).take (if 0 > (W (((p0.Stack.take (W ((p0.Stack.length : Int) - 1)).toNat).length : Int) - 1)) then 0 else (W (((p0.Stack.take (W ((p0.Stack.length : Int) - 1)).toNat).length : Int) - 1))).toNat).length (fF eTFrame zTFrame ((p0.Stack.take (W ((p0.Stack.length : Int) - 1)).toNat).take (if 0 > (W (((p0.Stack.take (W ((p0.Stack.length : Int) - 1)).toNat).length : Int) - 1)) then 0 else (W (((p0.Stack.take (W ((p0.Stack.length : Int) - 1)).toNat).length : Int) - 1))).toNat))] [] [1000001, 1000000] [(1000000, .var [.own 1000001 3 0 (((p0.Stack.take (W ((p0.Stack.length : Int) - 1)).toNat).take (if 0 > (W (((p0.Stack.take (W ((p0.Stack.length : Int) - 1)).toNat).length : Int) - 1)) then 0 else (W (((p0.Stack.take (W ((p0.Stack.length : Int) - 1)).toNat).length : Int) - 1))).toNat).length), .own 1000002 1 0 p0.Used.length, jI p0.State.Turn, jI p0.State.Weather, .own 1000003 4 0 p0.State.Units.length, .own 51 1 0 ((p0.Log ++ ([(p0.Stack.getD ((W ((p0.Stack.length : Int) - 1)).toNat) zTFrame).By] : List Int)).length)] false), (1000001, ar 3 eTFrame zTFrame ((p0.Stack.take (W ((p0.Stack.length : Int) - 1)).toNat).take (if 0 > (W (((p0.Stack.take (W ((p0.Stack.length : Int) - 1)).toNat).length : Int) - 1)) then 0 else (W (((p0.Stack.take (W ((p0.Stack.length : Int) - 1)).toNat).length : Int) - 1))).toNat))] (fun t => aI (take_nat (p0.Stack.take (W ((p0.Stack.length : Int) - 1)).toNat) (if 0 > (W (((p0.Stack.take (W ((p0.Stack.length : Int) - 1)).toNat).length : Int) - 1)) then 0 else (W (((p0.Stack.take (W ((p0.Stack.length : Int) - 1)).toNat).length : Int) - 1))) g17) (aI (take_len (p0.Stack.take (W ((p0.Stack.length : Int) - 1)).toNat) (if 0 > (W (((p0.Stack.take (W ((p0.Stack.length : Int) - 1)).toNat).length : Int) - 1)) then 0 else (W (((p0.Stack.take (W ((p0.Stack.length : Int) - 1)).toNat).length : Int) - 1)))) (aI (fF_take eTFrame zTFrame (p0.Stack.take (W ((p0.Stack.length : Int) - 1)).toNat) (if 0 > (W (((p0.Stack.take (W ((p0.Stack.length : Int) - 1)).toNat).length : Int) - 1)) then 0 else (W (((p0.Stack.take (W ((p0.Stack.length : Int) - 1)).toNat).length : Int) - 1)))) (t)))) ?_
    refine tl [.ren 1000001 910000, .ren 1000002 910001, .ren 1000003 910002, .ren 51 910003] [] [(910000, ar 3 eTFrame zTFrame ((p0.Stack.take (W ((p0.Stack.length : Int) - 1)).toNat).take (if 0 > (W (((p0.Stack.take (W ((p0.Stack.length : Int) - 1)).toNat).length : Int) - 1)) then 0 else (W (((p0.Stack.take (W ((p0.Stack.length : Int) - 1)).toNat).length : Int) - 1))).toNat)), (910001, ar 1 eI zI p0.Used), (910002, ar 4 eTUnit zTUnit p0.State.Units), (910003, ar 1 eI zI (p0.Log ++ ([(p0.Stack.getD ((W ((p0.Stack.length : Int) - 1)).toNat) zTFrame).By] : List Int))), (1000000, .var [.own 910000 3 0 (((p0.Stack.take (W ((p0.Stack.length : Int) - 1)).toNat).take (if 0 > (W (((p0.Stack.take (W ((p0.Stack.length : Int) - 1)).toNat).length : Int) - 1)) then 0 else (W (((p0.Stack.take (W ((p0.Stack.length : Int) - 1)).toNat).length : Int) - 1))).toNat).length), .own 910001 1 0 p0.Used.length, jI p0.State.Turn, jI p0.State.Weather, .own 910002 4 0 p0.State.Units.length, .own 910003 1 0 ((p0.Log ++ ([(p0.Stack.getD ((W ((p0.Stack.length : Int) - 1)).toNat) zTFrame).By] : List Int)).length)] false)] id ?_
    cases H
    exact er
   ·refine jf c16 ?_
    refine sk ?_
    obtain ⟨v18, h19, H⟩ := oB H
    refine xn [.res (cI v18)] [] [(5, cI v18)] [] [] (fun t => aI (Nat.le_refl p0.State.Units.length) (aI (i_fireTarget_ok p0.State (p0.Stack.getD ((W ((p0.Stack.length : Int) - 1)).toNat) zTFrame) v18 h19) (aI trivial (aI rN (t))))) ?_
    refine sn [] [] [(86, cB (decide (v18 ≥ 0)))] [4] [] id ?_
    rcases oC H with ⟨c20, H⟩ | ⟨c20, H⟩
    ·refine it c20 ?_
     obtain ⟨v21, h22, H⟩ := oB H
     obtain ⟨g23, H⟩ := oI H
     refine oo [.mu [(1000003, 1000000)] [(1000000, 1000003)] (.tup []) [(1000000, ar 4 eTUnit zTUnit v21.Units)]] [.agg 90 [jI p0.State.Turn, jI p0.State.Weather, .own 1000003 4 0 v21.Units.length], .relc 1000000 4 v21.Units.length, .ren 1000001 910000, .ren 1000002 910001, .ren 1000003 910002, .ren 51 910003] [] [(910000, ar 3 eTFrame zTFrame (p0.Stack.take (W ((p0.Stack.length : Int) - 1)).toNat)), (910001, ar 1 eI zI p0.Used), (910002, ar 4 eTUnit zTUnit v21.Units), (910003, ar 1 eI zI (p0.Log ++ ([(p0.Stack.getD ((W ((p0.Stack.length : Int) - 1)).toNat) zTFrame).By] : List Int))), (1000000, .var [.own 910000 3 0 ((p0.Stack.take (W ((p0.Stack.length : Int) - 1)).toNat).length), .own 910001 1 0 p0.Used.length, jI p0.State.Turn, jI p0.State.Weather, .own 910002 4 0 v21.Units.length, .own 910003 1 0 ((p0.Log ++ ([(p0.Stack.getD ((W ((p0.Stack.length : Int) - 1)).toNat) zTFrame).By] : List Int)).length)] false)] (fun t => aI (i_loseSteps_Modd_ok p0.State v18 1 v21 h22) (aI (by rw [← g23] : AV.agg [jI p0.State.Turn, jI p0.State.Weather, .own 1000003 4 0 p0.State.Units.length] = AV.agg [jI p0.State.Turn, jI p0.State.Weather, .own 1000003 4 0 v21.Units.length]) (aI (Eq.symm g23) (t)))) ?_
     cases H
     exact qn
    ·refine jf c20 ?_
     refine tl [.ren 1000001 910000, .ren 1000002 910001, .ren 1000003 910002, .ren 51 910003] [] [(910000, ar 3 eTFrame zTFrame (p0.Stack.take (W ((p0.Stack.length : Int) - 1)).toNat)), (910001, ar 1 eI zI p0.Used), (910002, ar 4 eTUnit zTUnit p0.State.Units), (910003, ar 1 eI zI (p0.Log ++ ([(p0.Stack.getD ((W ((p0.Stack.length : Int) - 1)).toNat) zTFrame).By] : List Int))), (1000000, .var [.own 910000 3 0 ((p0.Stack.take (W ((p0.Stack.length : Int) - 1)).toNat).length), .own 910001 1 0 p0.Used.length, jI p0.State.Turn, jI p0.State.Weather, .own 910002 4 0 p0.State.Units.length, .own 910003 1 0 ((p0.Log ++ ([(p0.Stack.getD ((W ((p0.Stack.length : Int) - 1)).toNat) zTFrame).By] : List Int)).length)] false)] id ?_
     refine ends_skip ?_
     cases H
     exact qn
def x___impl_Machine__step_ir : S :=
 (sq [o 4 (.box 12 (.t 1))]
 (.seq (.drw [(0, 1), (0, 2), (1, 2), (0, 3), (1, 3), (0, 4), (1, 4)] [o 7 (.load 12 true (.t 4)), om 8 2, om 9 0, o 10 (.nck (.t 9)), o 11 (.load 6 true (.t 10)), o 12 (.call 188 [.t 7, .t 8, .t 11]), om 6 12])
 (sq [om 13 6, o 14 (.bin .geq (.t 13) (iv 0))]
 (.ite (.t 14) (.ops [om 15 0, om 16 2, om 17 6, o 18 (.call 189 [.t 15, .t 16, .t 17])])
 (.ops [om 19 0, om 20 2, o 21 (.call 190 [.t 19, .t 20])])))))
noncomputable def X.x___impl_Machine__step_Mpdd (p0 : TMachine) (p1 : TBoard) (p2 : (List TReaction)) : Option TMachine :=
 ((X.i_nextReaction p1 p2 p0).bind fun v1 => (bif (decide (v1 ≥ 0)) then ((X.x___impl_Machine__interrupt_Mpdd p0 p2 v1).bind fun v4 => some v4) else ((X.x___impl_Machine__finish_Mpd p0 p2).bind fun v6 => some v6)))
theorem x___impl_Machine__step_Mpdd_ok (p0 : TMachine) (p1 : TBoard) (p2 : (List TReaction)) (r : TMachine) (H : X.x___impl_Machine__step_Mpdd p0 p1 p2 = some r) : FnMu Tryz.prog gl 114 [.c (.pk 1000000 0), .agg (eTBoard p1), .c (dat 3 eTReaction zTReaction p2)] [(1000000, .var [.own 1000001 3 0 p0.Stack.length, .own 1000002 1 0 p0.Used.length, .int .i64 p0.State.Turn, .int .i64 p0.State.Weather, .own 1000003 4 0 p0.State.Units.length, .own 1000004 1 0 p0.Log.length] false), (1000001, .arr 3 p0.Stack.length (fF eTFrame zTFrame p0.Stack) false), (1000002, .arr 1 p0.Used.length (fF eI zI p0.Used) false), (1000003, .arr 4 p0.State.Units.length (fF eTUnit zTUnit p0.State.Units) false), (1000004, .arr 1 p0.Log.length (fF eI zI p0.Log) false)] (.tup []) [(910000, .arr 3 r.Stack.length (fF eTFrame zTFrame r.Stack) false), (910001, .arr 1 r.Used.length (fF eI zI r.Used) false), (910002, .arr 4 r.State.Units.length (fF eTUnit zTUnit r.State.Units) false), (910003, .arr 1 r.Log.length (fF eI zI r.Log) false), (1000000, .var [.own 910000 3 0 r.Stack.length, .own 910001 1 0 r.Used.length, .int .i64 r.State.Turn, .int .i64 r.State.Weather, .own 910002 4 0 r.State.Units.length, .own 910003 1 0 r.Log.length] false)] := by
 unfold X.x___impl_Machine__step_Mpdd at H
 refine fn_mu (fn := Tryz.f114) (ir := x___impl_Machine__step_ir) (E' := []) (E1 := [(910000, ar 3 eTFrame zTFrame r.Stack), (910001, ar 1 eI zI r.Used), (910002, ar 4 eTUnit zTUnit r.State.Units), (910003, ar 1 eI zI r.Log), (1000000, .var [.own 910000 3 0 r.Stack.length, .own 910001 1 0 r.Used.length, jI r.State.Turn, jI r.State.Weather, .own 910002 4 0 r.State.Units.length, .own 910003 1 0 r.Log.length] false)]) glL Tryz.func114 (by kernel_rfl) (by kernel_rfl) (by kernel_rfl) (by kernel_rfl) (by kernel_rfl) ?_
 refine sn [] [] [(4, pk 4)] [] [(4, va (eTBoard p1))] id ?_
 obtain ⟨v1, h2, H⟩ := oB H
 refine xn [.res (cI v1)] [] [(6, cI v1)] [] [] (fun t => aI (Nat.le_refl p0.Stack.length) (aI (Nat.le_refl p0.Used.length) (aI (Nat.le_refl p0.State.Units.length) (aI (Nat.le_refl p0.Log.length) (aI (i_nextReaction_ok p1 p2 p0 v1 h2) (aI trivial (aI rN (t)))))))) ?_
 refine sn [] [] [(14, cB (decide (v1 ≥ 0)))] [4] [] id ?_
 rcases oC H with ⟨c3, H⟩ | ⟨c3, H⟩
 ·refine it c3 ?_
  obtain ⟨v4, h5, H⟩ := oB H
  refine oo [.mu [(1000000, 1000000), (1000001, 1000001), (1000002, 1000002), (1000003, 1000003), (1000004, 1000004)] [(910000, 1001), (910001, 1002), (910002, 1003), (910003, 1004), (1000000, 1000000)] (.tup []) [(910000, ar 3 eTFrame zTFrame v4.Stack), (910001, ar 1 eI zI v4.Used), (910002, ar 4 eTUnit zTUnit v4.State.Units), (910003, ar 1 eI zI v4.Log), (1000000, .var [.own 910000 3 0 v4.Stack.length, .own 910001 1 0 v4.Used.length, jI v4.State.Turn, jI v4.State.Weather, .own 910002 4 0 v4.State.Units.length, .own 910003 1 0 v4.Log.length] false)]] [.ren 1001 910000, .ren 1002 910001, .ren 1003 910002, .ren 1004 910003] [] [(910000, ar 3 eTFrame zTFrame v4.Stack), (910001, ar 1 eI zI v4.Used), (910002, ar 4 eTUnit zTUnit v4.State.Units), (910003, ar 1 eI zI v4.Log), (1000000, .var [.own 910000 3 0 v4.Stack.length, .own 910001 1 0 v4.Used.length, jI v4.State.Turn, jI v4.State.Weather, .own 910002 4 0 v4.State.Units.length, .own 910003 1 0 v4.Log.length] false)] (aI (x___impl_Machine__interrupt_Mpdd_ok p0 p2 v1 v4 h5)) ?_
  cases H
  exact qn
 ·refine jf c3 ?_
  obtain ⟨v6, h7, H⟩ := oB H
  refine oo [.mu [(1000000, 1000000), (1000001, 1000001), (1000002, 1000002), (1000003, 1000003), (1000004, 1000004)] [(910000, 1005), (910001, 1006), (910002, 1007), (910003, 1008), (1000000, 1000000)] (.tup []) [(910000, ar 3 eTFrame zTFrame v6.Stack), (910001, ar 1 eI zI v6.Used), (910002, ar 4 eTUnit zTUnit v6.State.Units), (910003, ar 1 eI zI v6.Log), (1000000, .var [.own 910000 3 0 v6.Stack.length, .own 910001 1 0 v6.Used.length, jI v6.State.Turn, jI v6.State.Weather, .own 910002 4 0 v6.State.Units.length, .own 910003 1 0 v6.Log.length] false)]] [.ren 1005 910000, .ren 1006 910001, .ren 1007 910002, .ren 1008 910003] [] [(910000, ar 3 eTFrame zTFrame v6.Stack), (910001, ar 1 eI zI v6.Used), (910002, ar 4 eTUnit zTUnit v6.State.Units), (910003, ar 1 eI zI v6.Log), (1000000, .var [.own 910000 3 0 v6.Stack.length, .own 910001 1 0 v6.Used.length, jI v6.State.Turn, jI v6.State.Weather, .own 910002 4 0 v6.State.Units.length, .own 910003 1 0 v6.Log.length] false)] (aI (x___impl_Machine__finish_Mpd_ok p0 p2 v6 h7)) ?_
  cases H
  exact qn
def i_StepMachine_ir : S :=
 (sq [o 3 (.box 12 (.t 0)), o 5 (.box 6 (.t 2)), o 6 (.alloc [.nil, .nil, .int .i64 0, .int .i64 0, .nil, .nil]), o 7 (.mv bF)]
 (.seq (sq [o 9 (.load 12 true (.t 3)), om 10 1, o 11 (.load 6 true (.t 5)), o 12 (.call 112 [.t 9, .t 10, .t 11]), o 13 (.not (.t 12)), om 14 13, og 15 (.fad 0 (.t 5)) 14, og 16 (.load 1 false (.t 15)) 14, og 17 (.len (.t 16)) 14, og 18 (.bin .eql (.t 17) (iv 0)) 14, o 19 (.pick (.t 14) bT (.t 18))]
 (.ite (.t 19) (sq [o 20 (.build [.nil, .nil, .int .i64 0, .int .i64 0, .nil, .nil] []), os 6 6 20, o 7 (.mv bF)]
  .ret)
 .skip))
 (sq [o 21 (.load 6 true (.t 5)), o 22 (.call 113 [.t 21]), o 8 (.alloc [.nil, .nil, .int .i64 0, .int .i64 0, .nil, .nil]), os 6 8 22]
 (sq [o 23 (.load 12 true (.t 3)), om 24 1, o 25 (.call 114 [.t 8, .t 23, .t 24])]
 (sq [o 26 (.load 6 true (.t 8)), os 6 6 26, o 7 (.mv bT)]
 .ret)))))
noncomputable def X.i_StepMachine (p0 : TBoard) (p1 : (List TReaction)) (p2 : TMachine) : Option (TMachine × Bool) :=
 ((X.i_hasMachine p0 p1 p2).bind fun v5 => (bif (!v5) then some ((TMachine.mk ([] : List TFrame) ([] : List Int) (TState.mk 0 0 ([] : List TUnit)) ([] : List Int)), false) else (bif ((p2.Stack.length : Int) == 0) then some ((TMachine.mk ([] : List TFrame) ([] : List Int) (TState.mk 0 0 ([] : List TUnit)) ([] : List Int)), false) else ((X.i_cloneMachine p2).bind fun v9 => ((X.x___impl_Machine__step_Mpdd v9 p0 p1).bind fun v11 => some (v11, true))))))
theorem i_StepMachine_ok (p0 : TBoard) (p1 : (List TReaction)) (p2 : TMachine) (r : (TMachine × Bool)) (H : X.i_StepMachine p0 p1 p2 = some r) : FK 46 [.agg (eTBoard p0), .c (dat 3 eTReaction zTReaction p1), .agg (eTMachine p2)] (.tup [(true, [dat 3 eTFrame zTFrame r.1.Stack, dat 1 eI zI r.1.Used, .int .i64 r.1.State.Turn, .int .i64 r.1.State.Weather, dat 4 eTUnit zTUnit r.1.State.Units, dat 1 eI zI r.1.Log]), (false, [.bool r.2])]) := by
 unfold X.i_StepMachine at H
 refine fi Tryz.f46 i_StepMachine_ir [(6, pk 6), (7, cB r.2)] [(6, va (eTMachine r.1))] glL Tryz.func46 ?_
 refine sn [] [] [(3, pk 3), (5, pk 5), (6, pk 6)] [] [(3, va (eTBoard p0)), (5, va (eTMachine p2)), (6, .var [.nil, .nil, jI 0, jI 0, .nil, .nil] false)] id ?_
 refine seq_in ?_
 obtain ⟨v5, h6, H⟩ := oB H
 rcases oC H with ⟨c7, H⟩ | ⟨c7, H⟩
 ·refine sn ([.res (cB v5)] ++ rg 5 true []) [] [(19, cB true)] [] [] (fun t => aI (i_hasMachine_ok p0 p1 p2 v5 h6) (aG 5 c7 (t))) ?_
  refine it rT ?_
  refine sn [] [] [(7, cB false)] [] [] id ?_
  refine tl [.nldc 6 0 3 (fF eTFrame zTFrame ([] : List TFrame)), .nldc 6 1 1 (fF eI zI ([] : List Int)), .nldc 6 4 4 (fF eTUnit zTUnit ([] : List TUnit)), .nldc 6 5 1 (fF eI zI ([] : List Int))] [(6, pk 6), (7, cB false)] [(6, .var [dat 3 eTFrame zTFrame ([] : List TFrame), dat 1 eI zI ([] : List Int), jI 0, jI 0, dat 4 eTUnit zTUnit ([] : List TUnit), dat 1 eI zI ([] : List Int)] false)] id ?_
  cases H
  exact er
 ·refine sn ([.res (cB v5)] ++ rg 5 false []) [] [(19, cB ((p2.Stack.length : Int) == 0))] [] [] (fun t => aI (i_hasMachine_ok p0 p1 p2 v5 h6) (aG 3 c7 (lI p2.Stack (aG 2 c7 (t))))) ?_
  rcases oC H with ⟨c8, H⟩ | ⟨c8, H⟩
  ·refine it c8 ?_
   refine sn [] [] [(7, cB false)] [] [] id ?_
   refine tl [.nldc 6 0 3 (fF eTFrame zTFrame ([] : List TFrame)), .nldc 6 1 1 (fF eI zI ([] : List Int)), .nldc 6 4 4 (fF eTUnit zTUnit ([] : List TUnit)), .nldc 6 5 1 (fF eI zI ([] : List Int))] [(6, pk 6), (7, cB false)] [(6, .var [dat 3 eTFrame zTFrame ([] : List TFrame), dat 1 eI zI ([] : List Int), jI 0, jI 0, dat 4 eTUnit zTUnit ([] : List TUnit), dat 1 eI zI ([] : List Int)] false)] id ?_
   cases H
   exact er
  ·refine jf c8 ?_
   refine sk ?_
   obtain ⟨v9, h10, H⟩ := oB H
   refine sn [.mu [] [(2, 1001), (900000, 1002), (900001, 1003), (900002, 1004), (900003, 1005)] (.agg [.own 900000 3 0 v9.Stack.length, .own 900001 1 0 v9.Used.length, jI v9.State.Turn, jI v9.State.Weather, .own 900002 4 0 v9.State.Units.length, .own 900003 1 0 v9.Log.length]) [(2, .var [.own 900000 3 0 v9.Stack.length, .own 900001 1 0 v9.Used.length, jI v9.State.Turn, jI v9.State.Weather, .own 900002 4 0 v9.State.Units.length, .own 900003 1 0 v9.Log.length] false), (900000, ar 3 eTFrame zTFrame v9.Stack), (900001, ar 1 eI zI v9.Used), (900002, ar 4 eTUnit zTUnit v9.State.Units), (900003, ar 1 eI zI v9.Log)]] [] [(8, pk 8)] [] [(8, .var [.own 1002 3 0 v9.Stack.length, .own 1003 1 0 v9.Used.length, jI v9.State.Turn, jI v9.State.Weather, .own 1004 4 0 v9.State.Units.length, .own 1005 1 0 v9.Log.length] false), (1002, ar 3 eTFrame zTFrame v9.Stack), (1003, ar 1 eI zI v9.Used), (1004, ar 4 eTUnit zTUnit v9.State.Units), (1005, ar 1 eI zI v9.Log)] (aI (i_cloneMachine_Md_ok p2 v9 h10)) ?_
   obtain ⟨v11, h12, H⟩ := oB H
   refine sn [.mu [(8, 1000000), (1002, 1000001), (1003, 1000002), (1004, 1000003), (1005, 1000004)] [(910000, 1006), (910001, 1007), (910002, 1008), (910003, 1009), (1000000, 8)] (.tup []) [(910000, ar 3 eTFrame zTFrame v11.Stack), (910001, ar 1 eI zI v11.Used), (910002, ar 4 eTUnit zTUnit v11.State.Units), (910003, ar 1 eI zI v11.Log), (1000000, .var [.own 910000 3 0 v11.Stack.length, .own 910001 1 0 v11.Used.length, jI v11.State.Turn, jI v11.State.Weather, .own 910002 4 0 v11.State.Units.length, .own 910003 1 0 v11.Log.length] false)]] [] [] [5, 1002, 1003, 1004, 1005, 8] [(8, .var [.own 1006 3 0 v11.Stack.length, .own 1007 1 0 v11.Used.length, jI v11.State.Turn, jI v11.State.Weather, .own 1008 4 0 v11.State.Units.length, .own 1009 1 0 v11.Log.length] false), (1006, ar 3 eTFrame zTFrame v11.Stack), (1007, ar 1 eI zI v11.Used), (1008, ar 4 eTUnit zTUnit v11.State.Units), (1009, ar 1 eI zI v11.Log)] (aI (x___impl_Machine__step_Mpdd_ok v9 p0 p1 v11 h12)) ?_
   refine sn [] [] [(7, cB true)] [3, 6] [(6, .var [.own 1006 3 0 v11.Stack.length, .own 1007 1 0 v11.Used.length, jI v11.State.Turn, jI v11.State.Weather, .own 1008 4 0 v11.State.Units.length, .own 1009 1 0 v11.Log.length] false)] id ?_
   refine tl [.frc 6 0, .frc 6 1, .frc 6 4, .frc 6 5] [(6, pk 6), (7, cB true)] [(6, va (eTMachine v11))] (fun t => aI (Nat.le_refl v11.Stack.length) (aI (Nat.le_refl v11.Used.length) (aI (Nat.le_refl v11.State.Units.length) (aI (Nat.le_refl v11.Log.length) (t))))) ?_
   cases H
   exact er
theorem i_StepMachine_Mddd_ok (p0 : TBoard) (p1 : (List TReaction)) (p2 : TMachine) (r : (TMachine × Bool)) (H : X.i_StepMachine p0 p1 p2 = some r) : FnMu Tryz.prog gl 46 [.agg (eTBoard p0), .c (dat 3 eTReaction zTReaction p1), .agg (eTMachine p2)] [] (.tup [(true, [.own 900000 3 0 r.1.Stack.length, .own 900001 1 0 r.1.Used.length, .int .i64 r.1.State.Turn, .int .i64 r.1.State.Weather, .own 900002 4 0 r.1.State.Units.length, .own 900003 1 0 r.1.Log.length]), (false, [.bool r.2])]) [(6, .var [.own 900000 3 0 r.1.Stack.length, .own 900001 1 0 r.1.Used.length, .int .i64 r.1.State.Turn, .int .i64 r.1.State.Weather, .own 900002 4 0 r.1.State.Units.length, .own 900003 1 0 r.1.Log.length] false), (900000, .arr 3 r.1.Stack.length (fF eTFrame zTFrame r.1.Stack) false), (900001, .arr 1 r.1.Used.length (fF eI zI r.1.Used) false), (900002, .arr 4 r.1.State.Units.length (fF eTUnit zTUnit r.1.State.Units) false), (900003, .arr 1 r.1.Log.length (fF eI zI r.1.Log) false)] := by
 unfold X.i_StepMachine at H
 refine fn_mu (fn := Tryz.f46) (ir := i_StepMachine_ir) (E' := [(6, pk 6), (7, cB r.2)]) (E1 := [(6, .var [.own 900000 3 0 r.1.Stack.length, .own 900001 1 0 r.1.Used.length, jI r.1.State.Turn, jI r.1.State.Weather, .own 900002 4 0 r.1.State.Units.length, .own 900003 1 0 r.1.Log.length] false), (900000, ar 3 eTFrame zTFrame r.1.Stack), (900001, ar 1 eI zI r.1.Used), (900002, ar 4 eTUnit zTUnit r.1.State.Units), (900003, ar 1 eI zI r.1.Log)]) glL Tryz.func46 (by kernel_rfl) (by kernel_rfl) (by kernel_rfl) (by kernel_rfl) (by kernel_rfl) ?_
 refine sn [] [] [(3, pk 3), (5, pk 5), (6, pk 6)] [] [(3, va (eTBoard p0)), (5, va (eTMachine p2)), (6, .var [.nil, .nil, jI 0, jI 0, .nil, .nil] false)] id ?_
 refine seq_in ?_
 obtain ⟨v5, h6, H⟩ := oB H
 rcases oC H with ⟨c7, H⟩ | ⟨c7, H⟩
 ·refine sn ([.res (cB v5)] ++ rg 5 true []) [] [(19, cB true)] [] [] (fun t => aI (i_hasMachine_ok p0 p1 p2 v5 h6) (aG 5 c7 (t))) ?_
  refine it rT ?_
  refine sn [] [] [(7, cB false)] [] [] id ?_
  refine tl [.nloc 6 0 900000 3 (fF eTFrame zTFrame ([] : List TFrame)), .nloc 6 1 900001 1 (fF eI zI ([] : List Int)), .nloc 6 4 900002 4 (fF eTUnit zTUnit ([] : List TUnit)), .nloc 6 5 900003 1 (fF eI zI ([] : List Int))] [(6, pk 6), (7, cB false)] [(6, .var [.own 900000 3 0 (([] : List TFrame).length), .own 900001 1 0 (([] : List Int).length), jI 0, jI 0, .own 900002 4 0 (([] : List TUnit).length), .own 900003 1 0 (([] : List Int).length)] false), (900000, ar 3 eTFrame zTFrame ([] : List TFrame)), (900001, ar 1 eI zI ([] : List Int)), (900002, ar 4 eTUnit zTUnit ([] : List TUnit)), (900003, ar 1 eI zI ([] : List Int))] (fun t => aI (by decide : 0 < 3) (aI (by decide : 0 < 1) (aI (by decide : 0 < 4) (aI (by decide : 0 < 1) (t))))) ?_
  cases H
  exact er
 ·refine sn ([.res (cB v5)] ++ rg 5 false []) [] [(19, cB ((p2.Stack.length : Int) == 0))] [] [] (fun t => aI (i_hasMachine_ok p0 p1 p2 v5 h6) (aG 3 c7 (lI p2.Stack (aG 2 c7 (t))))) ?_
  rcases oC H with ⟨c8, H⟩ | ⟨c8, H⟩
  ·refine it c8 ?_
   refine sn [] [] [(7, cB false)] [] [] id ?_
   refine tl [.nloc 6 0 900000 3 (fF eTFrame zTFrame ([] : List TFrame)), .nloc 6 1 900001 1 (fF eI zI ([] : List Int)), .nloc 6 4 900002 4 (fF eTUnit zTUnit ([] : List TUnit)), .nloc 6 5 900003 1 (fF eI zI ([] : List Int))] [(6, pk 6), (7, cB false)] [(6, .var [.own 900000 3 0 (([] : List TFrame).length), .own 900001 1 0 (([] : List Int).length), jI 0, jI 0, .own 900002 4 0 (([] : List TUnit).length), .own 900003 1 0 (([] : List Int).length)] false), (900000, ar 3 eTFrame zTFrame ([] : List TFrame)), (900001, ar 1 eI zI ([] : List Int)), (900002, ar 4 eTUnit zTUnit ([] : List TUnit)), (900003, ar 1 eI zI ([] : List Int))] (fun t => aI (by decide : 0 < 3) (aI (by decide : 0 < 1) (aI (by decide : 0 < 4) (aI (by decide : 0 < 1) (t))))) ?_
   cases H
   exact er
  ·refine jf c8 ?_
   refine sk ?_
   obtain ⟨v9, h10, H⟩ := oB H
   refine sn [.mu [] [(2, 1001), (900000, 1002), (900001, 1003), (900002, 1004), (900003, 1005)] (.agg [.own 900000 3 0 v9.Stack.length, .own 900001 1 0 v9.Used.length, jI v9.State.Turn, jI v9.State.Weather, .own 900002 4 0 v9.State.Units.length, .own 900003 1 0 v9.Log.length]) [(2, .var [.own 900000 3 0 v9.Stack.length, .own 900001 1 0 v9.Used.length, jI v9.State.Turn, jI v9.State.Weather, .own 900002 4 0 v9.State.Units.length, .own 900003 1 0 v9.Log.length] false), (900000, ar 3 eTFrame zTFrame v9.Stack), (900001, ar 1 eI zI v9.Used), (900002, ar 4 eTUnit zTUnit v9.State.Units), (900003, ar 1 eI zI v9.Log)]] [] [(8, pk 8)] [] [(8, .var [.own 1002 3 0 v9.Stack.length, .own 1003 1 0 v9.Used.length, jI v9.State.Turn, jI v9.State.Weather, .own 1004 4 0 v9.State.Units.length, .own 1005 1 0 v9.Log.length] false), (1002, ar 3 eTFrame zTFrame v9.Stack), (1003, ar 1 eI zI v9.Used), (1004, ar 4 eTUnit zTUnit v9.State.Units), (1005, ar 1 eI zI v9.Log)] (aI (i_cloneMachine_Md_ok p2 v9 h10)) ?_
   obtain ⟨v11, h12, H⟩ := oB H
   refine sn [.mu [(8, 1000000), (1002, 1000001), (1003, 1000002), (1004, 1000003), (1005, 1000004)] [(910000, 1006), (910001, 1007), (910002, 1008), (910003, 1009), (1000000, 8)] (.tup []) [(910000, ar 3 eTFrame zTFrame v11.Stack), (910001, ar 1 eI zI v11.Used), (910002, ar 4 eTUnit zTUnit v11.State.Units), (910003, ar 1 eI zI v11.Log), (1000000, .var [.own 910000 3 0 v11.Stack.length, .own 910001 1 0 v11.Used.length, jI v11.State.Turn, jI v11.State.Weather, .own 910002 4 0 v11.State.Units.length, .own 910003 1 0 v11.Log.length] false)]] [] [] [5, 1002, 1003, 1004, 1005, 8] [(8, .var [.own 1006 3 0 v11.Stack.length, .own 1007 1 0 v11.Used.length, jI v11.State.Turn, jI v11.State.Weather, .own 1008 4 0 v11.State.Units.length, .own 1009 1 0 v11.Log.length] false), (1006, ar 3 eTFrame zTFrame v11.Stack), (1007, ar 1 eI zI v11.Used), (1008, ar 4 eTUnit zTUnit v11.State.Units), (1009, ar 1 eI zI v11.Log)] (aI (x___impl_Machine__step_Mpdd_ok v9 p0 p1 v11 h12)) ?_
   refine sn [] [] [(7, cB true)] [3, 6] [(6, .var [.own 1006 3 0 v11.Stack.length, .own 1007 1 0 v11.Used.length, jI v11.State.Turn, jI v11.State.Weather, .own 1008 4 0 v11.State.Units.length, .own 1009 1 0 v11.Log.length] false)] id ?_
   refine tl [.ren 1006 900000, .ren 1007 900001, .ren 1008 900002, .ren 1009 900003] [(6, pk 6), (7, cB true)] [(6, .var [.own 900000 3 0 v11.Stack.length, .own 900001 1 0 v11.Used.length, jI v11.State.Turn, jI v11.State.Weather, .own 900002 4 0 v11.State.Units.length, .own 900003 1 0 v11.Log.length] false), (900000, ar 3 eTFrame zTFrame v11.Stack), (900001, ar 1 eI zI v11.Used), (900002, ar 4 eTUnit zTUnit v11.State.Units), (900003, ar 1 eI zI v11.Log)] id ?_
   cases H
   exact er
def l_eqReaction_ir : S :=
 (sq [o 2 (.box 3 (.t 0)), o 3 (.box 3 (.t 1)), o 4 (.mv bF)]
 (.seq (sq [oa 5 0 2, ol 6 5, oa 7 0 3, ol 8 7, o 9 (.bin .neq (.t 6) (.t 8))]
 (.ite (.t 9) (sq [o 4 (.mv bF)]
  .ret)
 .skip))
 (.seq (sq [oa 10 1 2, ol 11 10, oa 12 1 3, ol 13 12, o 14 (.bin .neq (.t 11) (.t 13))]
 (.ite (.t 14) (sq [o 4 (.mv bF)]
  .ret)
 .skip))
 (.seq (sq [oa 15 2 2, ol 16 15, oa 17 2 3, ol 18 17, o 19 (.bin .neq (.t 16) (.t 18))]
 (.ite (.t 19) (sq [o 4 (.mv bF)]
  .ret)
 .skip))
 (sq [o 4 (.mv bT)]
 .ret)))))
noncomputable def X.l_eqReaction (p0 : TReaction) (p1 : TReaction) : Option Bool :=
 (bif (p0.Unit != p1.Unit) then some false else (bif (p0.Watch != p1.Watch) then some false else (bif (p0.Kind != p1.Kind) then some false else some true)))
theorem l_eqReaction_ok (p0 : TReaction) (p1 : TReaction) (r : Bool) (H : X.l_eqReaction p0 p1 = some r) : FK 115 [.agg (eTReaction p0), .agg (eTReaction p1)] (cB r) := by
 unfold X.l_eqReaction at H
 refine fi Tryz.f115 l_eqReaction_ir [(4, cB r)] [] glL Tryz.func115 ?_
 refine so [] [] [(2, pk 2), (3, pk 3)] [(2, va (eTReaction p0)), (3, va (eTReaction p1))] id ?_
 refine seq_in ?_
 refine sn [] [] [(9, cB (p0.Unit != p1.Unit))] [] [] id ?_
 rcases oC H with ⟨c2, H⟩ | ⟨c2, H⟩
 ·refine it c2 ?_
  refine so [] [] [(4, cB false)] [] id ?_
  cases H
  exact er
 ·refine jf c2 ?_
  refine sk ?_
  refine seq_in ?_
  refine sn [] [] [(14, cB (p0.Watch != p1.Watch))] [] [] id ?_
  rcases oC H with ⟨c4, H⟩ | ⟨c4, H⟩
  ·refine it c4 ?_
   refine so [] [] [(4, cB false)] [] id ?_
   cases H
   exact er
  ·refine jf c4 ?_
   refine sk ?_
   refine seq_in ?_
   refine so [] [] [(19, cB (p0.Kind != p1.Kind))] [] id ?_
   rcases oC H with ⟨c5, H⟩ | ⟨c5, H⟩
   ·refine it c5 ?_
    refine so [] [] [(4, cB false)] [] id ?_
    cases H
    exact er
   ·refine jf c5 ?_
    refine sk ?_
    refine so [] [] [(4, cB true)] [] id ?_
    cases H
    exact er
def l_eqReactionS_ir : S :=
 (sq [o 4 (.mv bF)]
 (.seq (sq [om 6 0, o 7 (.len (.t 6)), om 8 1, o 9 (.len (.t 8)), o 10 (.bin .neq (.t 7) (.t 9))]
 (.ite (.t 10) (sq [o 4 (.mv bF)]
  .ret)
 .skip))
 (.seq (sq [o 5 (.mv (iv 0))]
 (.blk 0 (.loop (.seq (sq [om 11 5, om 12 0, o 13 (.len (.t 12)), o 14 (.bin .lss (.t 11) (.t 13))]
   (.ite (.t 14) .skip
   (.exit 0)))
   (.seq (.blk 1 (.seq (.drw [(0, 1), (0, 4), (1, 4), (2, 4), (3, 4), (0, 5), (1, 5), (2, 5), (3, 5), (4, 5), (0, 6), (1, 6), (2, 6), (3, 6), (0, 7), (1, 7), (2, 7), (3, 7)] [om 17 0, om 18 5, o 19 (.iad 3 (.t 17) (.t 18)), o 20 (.load 3 true (.t 19)), om 21 1, om 22 5, o 23 (.iad 3 (.t 21) (.t 22)), o 24 (.load 3 true (.t 23)), o 25 (.call 115 [.t 20, .t 24]), o 26 (.not (.t 25))])
    (.ite (.t 26) (sq [o 4 (.mv bF)]
     .ret)
    .skip)))
   (.ops [om 15 5, o 16 (.bin .add (.t 15) (iv 1)), om 5 16]))))))
 (sq [o 4 (.mv bT)]
 .ret))))
noncomputable def X.l_eqReactionS (p0 : (List TReaction)) (p1 : (List TReaction)) : Option Bool :=
 (bif ((p0.length : Int) != (p1.length : Int)) then some false else ((loop (fun (x22 : Int) => ((bif (decide (x22 < (p0.length : Int))) then ((at' zTReaction p0 x22).bind fun v25 => ((at' zTReaction p1 x22).bind fun v27 => ((X.l_eqReaction v25 v27).bind fun v29 => (bif (!v29) then some (Sum.inr (Sum.inr false)) else some (Sum.inl (W (x22 + 1))))))) else some (Sum.inr (Sum.inl ()))) : Option (Int ⊕ (Unit ⊕ Bool)))) 0).bind fun y32 => (Sum.elim (fun (y34 : Unit) => some true) (fun (y35 : Bool) => some y35) y32)))
theorem l_eqReactionS_ok (p0 : (List TReaction)) (p1 : (List TReaction)) (r : Bool) (H : X.l_eqReactionS p0 p1 = some r) : FK 47 [.c (dat 3 eTReaction zTReaction p0), .c (dat 3 eTReaction zTReaction p1)] (cB r) := by
 unfold X.l_eqReactionS at H
 refine fi Tryz.f47 l_eqReactionS_ir [(4, cB r)] [] glL Tryz.func47 ?_
 refine sn [] [] [] [] [] id ?_
 refine seq_in ?_
 refine sn [] [] [(10, cB ((p0.length : Int) != (p1.length : Int)))] [] [] (fun t => lI p0 (lI p1 (t))) ?_
 rcases oC H with ⟨c2, H⟩ | ⟨c2, H⟩
 ·refine it c2 ?_
  refine so [] [] [(4, cB false)] [] id ?_
  cases H
  exact er
 ·refine jf c2 ?_
  refine sk ?_
  refine seq_in ?_
  refine sn [] [] [(5, cI 0)] [] [] id ?_
  refine ends_blk ?_
  obtain ⟨y32, h33, H⟩ := oB H
  refine tl [] [(0, dc 3 eTReaction zTReaction p0), (1, dc 3 eTReaction zTReaction p1), (5, cI 0)] [] id ?_
  refine loop_in (fun (x : Int) => lit [(0, dc 3 eTReaction zTReaction p0), (1, dc 3 eTReaction zTReaction p1), (5, cI x)] []) (orJ (fun (z : Unit) => At (.exit 0) (lit [] [])) (fun (z : Bool) => At .ret (lit [(4, cB z)] []))) h33 ?_ ?_
  ·clear H h33
   intro x22 y0 H
   refine seq_in ?_
   refine sn [] [] [(14, cB (decide (x22 < (p0.length : Int))))] [] [] (fun t => lI p0 (t)) ?_
   rcases oC H with ⟨c24, H⟩ | ⟨c24, H⟩
   ·refine it c24 ?_
    refine sk ?_
    refine seq_in ?_
    refine ends_blk ?_
    obtain ⟨v25, h26, H⟩ := oB H
    obtain ⟨v27, h28, H⟩ := oB H
    obtain ⟨v29, h30, H⟩ := oB H
    refine xn [.cs (eTReaction v25), .cs (eTReaction v27), .res (cB v29)] [] [(26, cB (!v29))] [] [] (fun t => (a2 eTReaction h26 (aI rN ((a2 eTReaction h28 (aI rN (aI (l_eqReaction_ok v25 v27 v29 h30) (aI trivial (aI rN (t)))))))))) ?_
    rcases oC H with ⟨c31, H⟩ | ⟨c31, H⟩
    ·refine it c31 ?_
     refine so [] [] [(4, cB false)] [] id ?_
     refine ends_ret ?_
     cases H
     exact rsr
    ·refine jf c31 ?_
     refine sk ?_
     refine oo [] [] [(0, dc 3 eTReaction zTReaction p0), (1, dc 3 eTReaction zTReaction p1), (5, cI (W (x22 + 1)))] [] id ?_
     cases H
     exact rr
   ·refine jf c24 ?_
    refine tl [] [] [] id ?_
    refine ends_exit ?_
    cases H
    exact rse
  ·clear h33
   cases y32 with
   | inl y34 =>
    replace H := ofInl H
    rintro e s ⟨rfl, rfl⟩
    change EndsI _ _ _ _ _ _
    refine so [] [] [(4, cB true)] [] id ?_
    cases H
    exact er
   | inr y35 =>
    replace H := ofInr H
    rintro e s ⟨rfl, rfl⟩
    cases H
    exact qr
def l_markReactionS_ir : S :=
 (sq [o 4 (.mv (iv 0))]
 (.seq (sq [o 5 (.mv (iv 0))]
 (.blk 0 (.loop (.seq (sq [om 6 5, om 7 0, o 8 (.len (.t 7)), o 9 (.bin .lss (.t 6) (.t 8))]
   (.ite (.t 9) .skip
   (.exit 0)))
   (.seq (.blk 1 (sq [om 12 0, om 13 5, om 14 1, o 15 (.iad 3 (.t 12) (.t 13)), oa 16 0 15, os 1 16 14]
    (sq [om 17 1, o 18 (.bin .add (.t 17) (iv 1)), om 1 18]
    (sq [om 19 0, om 20 5, om 21 1, o 22 (.iad 3 (.t 19) (.t 20)), oa 23 1 22, os 1 23 21]
    (sq [om 24 1, o 25 (.bin .add (.t 24) (iv 1)), om 1 25]
    (sq [om 26 0, om 27 5, om 28 1, o 29 (.iad 3 (.t 26) (.t 27)), oa 30 2 29, os 1 30 28]
    (.ops [om 31 1, o 32 (.bin .add (.t 31) (iv 1)), om 1 32])))))))
   (.ops [om 10 5, o 11 (.bin .add (.t 10) (iv 1)), om 5 11]))))))
 (sq [om 33 1, om 4 33]
 .ret)))
noncomputable def X.l_markReactionS_L (p0 : (List TReaction)) (p1 : Int) : Option Int :=
 ((loop (fun (x10 : (Int × Int)) => ((bif (decide (x10.2 < (p0.length : Int))) then ((at' zTReaction p0 x10.2).bind fun v13 => some (Sum.inl ((W ((W ((W (x10.1 + 1)) + 1)) + 1)), (W (x10.2 + 1))))) else some (Sum.inr x10.1)) : Option ((Int × Int) ⊕ Int))) (p1, 0)).bind fun y15 => some y15)
theorem l_markReactionS_L_ok (p0 : (List TReaction)) (p1 : Int) (r : Int) (H : X.l_markReactionS_L p0 p1 = some r) : FK 48 [.c (.lv (dat 3 eTReaction zTReaction p0)), cI p1] (cI r) := by
 unfold X.l_markReactionS_L at H
 refine fi Tryz.f48 l_markReactionS_ir [(4, cI r)] [] glL Tryz.func48 ?_
 refine sn [] [] [] [] [] id ?_
 refine seq_in ?_
 refine sn [] [] [(5, cI 0)] [] [] id ?_
 refine ends_blk ?_
 obtain ⟨y15, h16, H⟩ := oB H
 refine tl [] [(0, .c (.lv (dat 3 eTReaction zTReaction p0))), (1, cI p1), (5, cI 0)] [] id ?_
 refine loop_in (fun (x : (Int × Int)) => lit [(0, .c (.lv (dat 3 eTReaction zTReaction p0))), (1, cI x.1), (5, cI x.2)] []) (fun (z : Int) => At (.exit 0) (lit [(1, cI z)] [])) h16 ?_ ?_
 ·clear H h16
  intro x10 y0 H
  refine seq_in ?_
  refine sn [] [] [(9, cB (decide (x10.2 < (p0.length : Int))))] [] [] (fun t => lI p0 (t)) ?_
  rcases oC H with ⟨c12, H⟩ | ⟨c12, H⟩
  ·refine it c12 ?_
   refine sk ?_
   refine seq_in ?_
   refine ends_blk ?_
   obtain ⟨v13, h14, H⟩ := oB H
   refine sn [.cs (eTReaction v13)] [] [] [] [] (fun t => (a2 eTReaction h14 (aI rT (t)))) ?_
   refine so [] [] [(0, .c (.lv (dat 3 eTReaction zTReaction p0))), (1, cI (W (x10.1 + 1))), (5, cI x10.2)] [] id ?_
   refine sn [.cs (eTReaction v13)] [] [] [] [] (fun t => (a2 eTReaction h14 (aI rT (t)))) ?_
   refine so [] [] [(0, .c (.lv (dat 3 eTReaction zTReaction p0))), (1, cI (W ((W (x10.1 + 1)) + 1))), (5, cI x10.2)] [] id ?_
   refine sn [.cs (eTReaction v13)] [] [] [] [] (fun t => (a2 eTReaction h14 (aI rT (t)))) ?_
   refine oo [] [] [(0, .c (.lv (dat 3 eTReaction zTReaction p0))), (1, cI (W ((W ((W (x10.1 + 1)) + 1)) + 1))), (5, cI x10.2)] [] id ?_
   change EndsI _ _ _ _ _ _
   refine oo [] [] [(0, .c (.lv (dat 3 eTReaction zTReaction p0))), (1, cI (W ((W ((W (x10.1 + 1)) + 1)) + 1))), (5, cI (W (x10.2 + 1)))] [] id ?_
   cases H
   exact rr
  ·refine jf c12 ?_
   refine tl [] [(1, cI x10.1)] [] id ?_
   refine ends_exit ?_
   cases H
   exact rse
 ·clear h16
  rintro e s ⟨rfl, rfl⟩
  change EndsI _ _ _ _ _ _
  refine so [] [] [(4, cI y15)] [] id ?_
  cases H
  exact er
def l_FnExactStepMachine_ir : S :=
 (sq [o 3 (.box 12 (.t 0)), o 5 (.box 6 (.t 2)), o 6 (.mv bF)]
 (sq [o 7 (.mv (iv 1048576))]
 (sq [o 20 (.load 12 true (.t 3)), om 21 7, o 22 (.call 10 [.t 20, .t 21]), om 7 22]
 (.seq (sq [om 23 7, o 24 (.bin .lss (.t 23) (iv 0))]
 (.ite (.t 24) (sq [o 6 (.mv bT)]
  .ret)
 .skip))
 (sq [om 25 1, om 26 7, o 27 (.call 41 [.t 25, .t 26]), om 7 27]
 (.seq (sq [om 28 7, o 29 (.bin .lss (.t 28) (iv 0))]
 (.ite (.t 29) (sq [o 6 (.mv bT)]
  .ret)
 .skip))
 (sq [o 30 (.load 6 true (.t 5)), om 31 7, o 32 (.call 42 [.t 30, .t 31]), om 7 32]
 (.seq (sq [om 33 7, o 34 (.bin .lss (.t 33) (iv 0))]
 (.ite (.t 34) (sq [o 6 (.mv bT)]
  .ret)
 .skip))
 (.seq (.drw [(0, 2), (1, 2), (0, 4), (1, 4), (2, 4), (3, 4), (8, 9), (0, 10), (1, 10), (2, 10), (3, 10), (4, 10), (5, 10), (6, 10), (7, 10), (8, 10), (9, 10), (9, 11)] [o 36 (.load 12 true (.t 3)), o 37 (.call 12 [.t 36]), om 38 1, o 39 (.call 44 [.t 38]), o 40 (.load 6 true (.t 5)), o 41 (.call 45 [.t 40]), o 42 (.call 43 [.t 37, .t 39, .t 41]), om 35 42, o 43 (.ext (.t 35) 0), o 44 (.ext (.t 35) 1), o 8 (.alloc [.nil, .nil, .int .i64 0, .int .i64 0, .nil, .nil]), os 6 8 43, om 9 44])
 (sq [o 45 (.load 12 true (.t 3)), o 46 (.call 12 [.t 45]), o 10 (.alloc [.nil, .nil, .int .i64 0, .int .i64 0, .int .i64 0, .int .i64 0, .int .i64 0, .int .i64 0, .int .i64 0, .nil, .nil, .nil]), os 12 10 46]
 (sq [om 47 1, o 48 (.call 44 [.t 47]), om 11 48]
 (sq [o 49 (.load 6 true (.t 5)), o 50 (.call 45 [.t 49]), o 12 (.alloc [.nil, .nil, .int .i64 0, .int .i64 0, .nil, .nil]), os 6 12 50]
 (sq [o 52 (.load 12 true (.t 10)), om 53 11, o 54 (.load 6 true (.t 12)), o 55 (.call 46 [.t 52, .t 53, .t 54]), om 51 55, o 56 (.ext (.t 51) 0), o 57 (.ext (.t 51) 1), o 13 (.alloc [.nil, .nil, .int .i64 0, .int .i64 0, .nil, .nil]), os 6 13 56, om 14 57]
 (.seq (sq [o 58 (.load 6 true (.t 13)), o 59 (.load 6 true (.t 8)), o 60 (.call 23 [.t 58, .t 59]), o 61 (.not (.t 60)), om 62 61, og 63 (.mv (.t 14)) 62, og 64 (.mv (.t 9)) 62, og 65 (.bqe true (.t 63) (.t 64)) 62, o 66 (.pick (.t 62) bT (.t 65))]
 (.ite (.t 66) (sq [o 6 (.mv bF)]
  .ret)
 .skip))
 (.seq (.seq (.drw [(0, 1), (0, 2)] [o 67 (.load 12 true (.t 10)), o 68 (.load 12 true (.t 3)), o 69 (.call 12 [.t 68]), o 70 (.call 15 [.t 67, .t 69]), o 71 (.not (.t 70))])
 (.ite (.t 71) (sq [o 6 (.mv bF)]
  .ret)
 .skip))
 (.seq (sq [om 72 11, om 73 1, o 74 (.call 44 [.t 73]), o 75 (.call 47 [.t 72, .t 74]), o 76 (.not (.t 75))]
 (.ite (.t 76) (sq [o 6 (.mv bF)]
  .ret)
 .skip))
 (.seq (.seq (.drw [(0, 1), (0, 2)] [o 77 (.load 6 true (.t 12)), o 78 (.load 6 true (.t 5)), o 79 (.call 45 [.t 78]), o 80 (.call 23 [.t 77, .t 79]), o 81 (.not (.t 80))])
 (.ite (.t 81) (sq [o 6 (.mv bF)]
  .ret)
 .skip))
 (sq [o 15 (.mv (iv 1))]
 (sq [o 82 (.load 12 true (.t 10)), om 83 15, o 84 (.call 16 [.t 82, .t 83]), om 15 84]
 (sq [om 85 11, om 86 15, o 87 (.call 48 [.t 85, .t 86]), om 15 87]
 (sq [o 88 (.load 6 true (.t 12)), om 89 15, o 90 (.call 26 [.t 88, .t 89]), om 15 90]
 (.seq (sq [om 91 15, o 92 (.bin .lss (.t 91) (iv 0)), om 93 92, og 94 (.load 6 true (.t 13)) 93, og 95 (.load 6 true (.t 8)) 93, og 96 (.call 23 [.t 94, .t 95]) 93, og 97 (.not (.t 96)) 93, o 98 (.pick (.t 93) bT (.t 97)), om 99 98, og 100 (.mv (.t 14)) 99, og 101 (.mv (.t 9)) 99, og 102 (.bqe true (.t 100) (.t 101)) 99, o 103 (.pick (.t 99) bT (.t 102))]
 (.ite (.t 103) (sq [o 6 (.mv bF)]
  .ret)
 .skip))
 (sq [o 16 (.mv (iv 1))]
 (sq [o 104 (.load 6 true (.t 13)), om 105 16, o 106 (.call 26 [.t 104, .t 105]), om 16 106]
 (sq [o 17 (.mv (iv 1))]
 (sq [o 107 (.load 6 true (.t 13)), om 108 17, o 109 (.call 27 [.t 107, .t 108]), om 17 109]
 (.seq (sq [om 110 17, o 111 (.bin .lss (.t 110) (iv 0))]
 (.ite (.t 111) (sq [o 6 (.mv bF)]
  .ret)
 .skip))
 (.seq (sq [om 112 17, om 113 16, o 114 (.bin .neq (.t 112) (.t 113))]
 (.ite (.t 114) (sq [o 6 (.mv bF)]
  .ret)
 .skip))
 (.seq (.drw [(0, 2), (1, 2), (0, 4), (1, 4), (2, 4), (3, 4), (8, 9), (0, 10), (1, 10), (2, 10), (3, 10), (4, 10), (5, 10), (6, 10), (7, 10), (8, 10), (9, 10), (9, 11)] [o 116 (.load 12 true (.t 3)), o 117 (.call 12 [.t 116]), om 118 1, o 119 (.call 44 [.t 118]), o 120 (.load 6 true (.t 5)), o 121 (.call 45 [.t 120]), o 122 (.call 46 [.t 117, .t 119, .t 121]), om 115 122, o 123 (.ext (.t 115) 0), o 124 (.ext (.t 115) 1), o 18 (.alloc [.nil, .nil, .int .i64 0, .int .i64 0, .nil, .nil]), os 6 18 123, om 19 124])
 (.seq (sq [o 125 (.load 6 true (.t 18)), o 126 (.load 6 true (.t 8)), o 127 (.call 23 [.t 125, .t 126]), o 128 (.not (.t 127)), om 129 128, og 130 (.mv (.t 19)) 129, og 131 (.mv (.t 9)) 129, og 132 (.bqe true (.t 130) (.t 131)) 129, o 133 (.pick (.t 129) bT (.t 132))]
 (.ite (.t 133) (sq [o 6 (.mv bF)]
  .ret)
 .skip))
 (sq [o 17 (.mv (iv 1))]
 (sq [o 134 (.load 6 true (.t 13)), om 135 17, o 136 (.call 27 [.t 134, .t 135]), om 17 136]
 (.seq (sq [om 137 17, o 138 (.bin .lss (.t 137) (iv 0))]
 (.ite (.t 138) (sq [o 6 (.mv bF)]
  .ret)
 .skip))
 (.seq (sq [om 139 17, om 140 16, o 141 (.bin .neq (.t 139) (.t 140))]
 (.ite (.t 141) (sq [o 6 (.mv bF)]
  .ret)
 .skip))
 (sq [o 6 (.mv bT)]
 .ret)))))))))))))))))))))))))))))))))))
noncomputable def X.l_FnExactStepMachine (p0 : TBoard) (p1 : (List TReaction)) (p2 : TMachine) : Option Bool :=
 ((X.l_szBoard p0 1048576).bind fun v1 => (bif (decide (v1 < 0)) then some true else ((X.l_szReactionS p1 v1).bind fun v5 => (bif (decide (v5 < 0)) then some true else ((X.l_szMachine p2 v5).bind fun v9 => (bif (decide (v9 < 0)) then some true else ((X.l_toBoard p0).bind fun v13 => ((X.l_toReactionS p1).bind fun v15 => ((X.l_toMachine p2).bind fun v17 => ((X.s_StepMachine v13 v15 v17).bind fun v19 => ((X.l_toBoard p0).bind fun v21 => ((X.l_toReactionS p1).bind fun v23 => ((X.l_toMachine p2).bind fun v25 => ((X.i_StepMachine v21 v23 v25).bind fun v27 => ((X.l_eqMachine v27.1 v19.1).bind fun v33 => (bif (!v33) then some false else (bif (!(v27.2 == v19.2)) then some false else ((X.l_toBoard p0).bind fun v42 => ((X.l_eqBoard v21 v42).bind fun v44 => (bif (!v44) then some false else ((X.l_toReactionS p1).bind fun v52 => ((X.l_eqReactionS v23 v52).bind fun v54 => (bif (!v54) then some false else ((X.l_toMachine p2).bind fun v62 => ((X.l_eqMachine v25 v62).bind fun v64 => (bif (!v64) then some false else ((X.l_markBoard_L v21 1).bind fun v67 => ((X.l_markReactionS_L v23 v67).bind fun v69 => ((X.l_markMachine_L v25 v69).bind fun v71 => (bif (decide (v71 < 0)) then some false else ((X.l_eqMachine v27.1 v19.1).bind fun v78 => (bif (!v78) then some false else ((X.l_markMachine_Mod v27.1 1).bind fun v81 => (if v81.2.Stack.length = v27.1.Stack.length then (if v81.2.Used.length = v27.1.Used.length then (if v81.2.State.Units.length = v27.1.State.Units.length then (if v81.2.Log.length = v27.1.Log.length then ((X.l_heldMachine (TMachine.mk v81.2.Stack v81.2.Used (TState.mk v27.1.State.Turn v27.1.State.Weather v81.2.State.Units) v81.2.Log) 1).bind fun v87 => (bif (decide (v87 < 0)) then some false else (bif (v87 != v81.1) then some false else ((X.l_toBoard p0).bind fun v93 => ((X.l_toReactionS p1).bind fun v95 => ((X.l_toMachine p2).bind fun v97 => ((X.i_StepMachine v93 v95 v97).bind fun v99 => ((X.l_eqMachine v99.1 v19.1).bind fun v105 => (bif (!v105) then some false else (bif (!(v99.2 == v19.2)) then some false else ((X.l_heldMachine (TMachine.mk v81.2.Stack v81.2.Used (TState.mk v27.1.State.Turn v27.1.State.Weather v81.2.State.Units) v81.2.Log) 1).bind fun v109 => (bif (decide (v109 < 0)) then some false else (bif (v109 != v81.1) then some false else some true))))))))))))) else none) else none) else none) else none))))))))))))))))))))))))))))))))))
theorem l_FnExactStepMachine_T_ok (p0 : TBoard) (p1 : (List TReaction)) (p2 : TMachine) (H : X.l_FnExactStepMachine p0 p1 p2 = some true) : LawOk Tryz.prog gl 7 [.agg (eTBoard p0), .c (dat 3 eTReaction zTReaction p1), .agg (eTMachine p2)] := by
 unfold X.l_FnExactStepMachine at H
 refine lawOk_of (fn := Tryz.f7) (ir := l_FnExactStepMachine_ir) (s1 := lit [(6, cB true)] []) Tryz.func7 (by kernel_rfl) (by kernel_rfl) (by kernel_rfl) (by kernel_rfl) ?_
 refine tl [] [(0, .agg (oTBoard p0)), (1, .c (.old (dat 3 eTReaction zTReaction p1))), (2, .agg (oTMachine p2))] [] id ?_
 refine sn [] [] [(3, pk 3), (5, pk 5)] [] [(3, va (oTBoard p0)), (5, va (oTMachine p2))] id ?_
 refine sn [] [] [(7, cI 1048576)] [] [] id ?_
 obtain ⟨v1, h2, H⟩ := oB H
 refine so [.res (cI v1)] [] [(1, .c (.old (dat 3 eTReaction zTReaction p1))), (3, pk 3), (5, pk 5), (7, cI v1)] [(3, va (oTBoard p0)), (5, va (oTMachine p2))] (aI ((FnOk.le2 (xs := [.agg (oTBoard p0), cI 1048576]) (l_szBoard_ok p0 1048576 v1 h2) ⟨LeD.agg (And.intro (LeC.old _) (And.intro (LeC.old _) (And.intro (LeC.refl _) (And.intro (LeC.refl _) (And.intro (LeC.refl _) (And.intro (LeC.refl _) (And.intro (LeC.refl _) (And.intro (LeC.refl _) (And.intro (LeC.refl _) (And.intro (LeC.old _) (And.intro (LeC.old _) (And.intro (LeC.old _) (trivial))))))))))))), LeD.refl _, trivial⟩).up glTs)) ?_
 refine seq_in ?_
 refine sn [] [] [(24, cB (decide (v1 < 0)))] [] [] id ?_
 rcases oC H with ⟨c4, H⟩ | ⟨c4, H⟩
 ·refine it c4 ?_
  refine so [] [] [(6, cB true)] [] id ?_
  refine ends_ret ?_
  exact qr
 ·refine jf c4 ?_
  refine sk ?_
  obtain ⟨v5, h6, H⟩ := oB H
  refine so [.res (cI v5)] [] [(1, .c (.old (dat 3 eTReaction zTReaction p1))), (3, pk 3), (5, pk 5), (7, cI v5)] [(3, va (oTBoard p0)), (5, va (oTMachine p2))] (aI ((FnOk.le2 (xs := [.c (.old (dat 3 eTReaction zTReaction p1)), cI v1]) (l_szReactionS_ok p1 v1 v5 h6) ⟨LeD.old _, LeD.refl _, trivial⟩).up glTs)) ?_
  refine seq_in ?_
  refine sn [] [] [(29, cB (decide (v5 < 0)))] [] [] id ?_
  rcases oC H with ⟨c8, H⟩ | ⟨c8, H⟩
  ·refine it c8 ?_
   refine so [] [] [(6, cB true)] [] id ?_
   refine ends_ret ?_
   exact qr
  ·refine jf c8 ?_
   refine sk ?_
   obtain ⟨v9, h10, H⟩ := oB H
   refine so [.res (cI v9)] [] [(1, .c (.old (dat 3 eTReaction zTReaction p1))), (3, pk 3), (5, pk 5), (7, cI v9)] [(3, va (oTBoard p0)), (5, va (oTMachine p2))] (aI ((FnOk.le2 (xs := [.agg (oTMachine p2), cI v5]) (l_szMachine_ok p2 v5 v9 h10) ⟨LeD.agg (And.intro (LeC.old _) (And.intro (LeC.old _) (And.intro (LeC.refl _) (And.intro (LeC.refl _) (And.intro (LeC.old _) (And.intro (LeC.old _) (trivial))))))), LeD.refl _, trivial⟩).up glTs)) ?_
   refine seq_in ?_
   refine sn [] [] [(34, cB (decide (v9 < 0)))] [] [] id ?_
   rcases oC H with ⟨c12, H⟩ | ⟨c12, H⟩
   ·refine it c12 ?_
    refine so [] [] [(6, cB true)] [] id ?_
    refine ends_ret ?_
    exact qr
   ·refine jf c12 ?_
    refine sk ?_
    obtain ⟨v13, h14, H⟩ := oB H
    obtain ⟨v15, h16, H⟩ := oB H
    obtain ⟨v17, h18, H⟩ := oB H
    obtain ⟨v19, h20, H⟩ := oB H
    refine xn [.res (.agg (rTBoard v13)), .res (.c (.fr (dat 3 eTReaction zTReaction v15))), .res (.agg (rTMachine v17)), .res (.tup [(true, [dat 3 eTFrame zTFrame v19.1.Stack, dat 1 eI zI v19.1.Used, jI v19.1.State.Turn, jI v19.1.State.Weather, dat 4 eTUnit zTUnit v19.1.State.Units, dat 1 eI zI v19.1.Log]), (false, [.bool v19.2])])] [] [(8, pk 8), (9, cB v19.2)] [] [(8, va (eTMachine v19.1))] (fun t => aI ((FnOk.le2 (xs := [.agg (oTBoard p0)]) (l_toBoard_F_ok p0 v13 h14) ⟨LeD.agg (And.intro (LeC.old _) (And.intro (LeC.old _) (And.intro (LeC.refl _) (And.intro (LeC.refl _) (And.intro (LeC.refl _) (And.intro (LeC.refl _) (And.intro (LeC.refl _) (And.intro (LeC.refl _) (And.intro (LeC.refl _) (And.intro (LeC.old _) (And.intro (LeC.old _) (And.intro (LeC.old _) (trivial))))))))))))), trivial⟩).up glTs) (aG 2 rN (aI ((FnOk.le2 (xs := [.c (.old (dat 3 eTReaction zTReaction p1))]) (l_toReactionS_F_ok p1 v15 h16) ⟨LeD.old _, trivial⟩).up glTs) (aG 2 rN (aI ((FnOk.le2 (xs := [.agg (oTMachine p2)]) (l_toMachine_F_ok p2 v17 h18) ⟨LeD.agg (And.intro (LeC.old _) (And.intro (LeC.old _) (And.intro (LeC.refl _) (And.intro (LeC.refl _) (And.intro (LeC.old _) (And.intro (LeC.old _) (trivial))))))), trivial⟩).up glTs) (aG 2 rN (aI ((FnOk.le2 (xs := [.agg (rTBoard v13), .c (.fr (dat 3 eTReaction zTReaction v15)), .agg (rTMachine v17)]) (s_StepMachine_ok v13 v15 v17 v19 h20) ⟨LeD.agg (And.intro (LeC.fr _) (And.intro (LeC.fr _) (And.intro (LeC.refl _) (And.intro (LeC.refl _) (And.intro (LeC.refl _) (And.intro (LeC.refl _) (And.intro (LeC.refl _) (And.intro (LeC.refl _) (And.intro (LeC.refl _) (And.intro (LeC.fr _) (And.intro (LeC.fr _) (And.intro (LeC.fr _) (trivial))))))))))))), LeD.fr _, LeD.agg (And.intro (LeC.fr _) (And.intro (LeC.fr _) (And.intro (LeC.refl _) (And.intro (LeC.refl _) (And.intro (LeC.fr _) (And.intro (LeC.fr _) (trivial))))))), trivial⟩).up glTs) (aG 2 rN (t))))))))) ?_
    refine tl [] [(1, .c (.old (dat 3 eTReaction zTReaction p1))), (3, pk 3), (5, pk 5), (8, pk 8), (9, cB v19.2)] [(3, va (oTBoard p0)), (5, va (oTMachine p2)), (8, va (eTMachine v19.1))] id ?_
    refine turn0 (E := [(1, .c (.old (dat 3 eTReaction zTReaction p1))), (3, pk 3), (5, pk 5), (8, pk 8), (9, cB v19.2)]) (E' := [(1, .c (.old (dat 3 eTReaction zTReaction p1))), (3, pk 3), (5, pk 5), (8, pk 8), (9, cB v19.2)]) (H := [(3, va (oTBoard p0)), (5, va (oTMachine p2)), (8, va (eTMachine v19.1))]) (H' := [(3, va (oTBoard p0)), (5, va (oTMachine p2)), (8, va (oTMachine v19.1))]) glTn glTp (And.intro (And.intro rfl (uO (dat 3 eTReaction zTReaction p1) (.dat shTReaction))) (And.intro (And.intro rfl (uS (.pk 3 0) rfl)) (And.intro (And.intro rfl (uS (.pk 5 0) rfl)) (And.intro (And.intro rfl (uS (.pk 8 0) rfl)) (And.intro (And.intro rfl (uS (.bool v19.2) rfl)) trivial))))) (And.intro (And.intro rfl (And.intro (uO (dat 5 eTTerrain zTTerrain p0.Rules.Terrains) (.dat shTTerrain)) (And.intro (uO (dat 6 eTKind zTKind p0.Rules.Kinds) (.dat shTKind)) (And.intro (uS (jI p0.Rules.Stack) rfl) (And.intro (uS (jI p0.Rules.River) rfl) (And.intro (uS (jI p0.Rules.Road) rfl) (And.intro (uS (jI p0.Rules.Supply) rfl) (And.intro (uS (jI p0.Rules.Turns) rfl) (And.intro (uS (jI p0.Map.Width) rfl) (And.intro (uS (jI p0.Map.Height) rfl) (And.intro (uO (dat 1 eI zI p0.Map.Terrain) (.dat shI)) (And.intro (uO (dat 1 eI zI p0.Map.Rivers) (.dat shI)) (And.intro (uO (dat 1 eI zI p0.Map.Roads) (.dat shI)) trivial))))))))))))) (And.intro (And.intro rfl (And.intro (uO (dat 3 eTFrame zTFrame p2.Stack) (.dat shTFrame)) (And.intro (uO (dat 1 eI zI p2.Used) (.dat shI)) (And.intro (uS (jI p2.State.Turn) rfl) (And.intro (uS (jI p2.State.Weather) rfl) (And.intro (uO (dat 4 eTUnit zTUnit p2.State.Units) (.dat shTUnit)) (And.intro (uO (dat 1 eI zI p2.Log) (.dat shI)) trivial))))))) (And.intro (And.intro rfl (And.intro (uD (dat 3 eTFrame zTFrame v19.1.Stack) rfl (.dat shTFrame)) (And.intro (uD (dat 1 eI zI v19.1.Used) rfl (.dat shI)) (And.intro (uS (jI v19.1.State.Turn) rfl) (And.intro (uS (jI v19.1.State.Weather) rfl) (And.intro (uD (dat 4 eTUnit zTUnit v19.1.State.Units) rfl (.dat shTUnit)) (And.intro (uD (dat 1 eI zI v19.1.Log) rfl (.dat shI)) trivial))))))) trivial))) ?_
    obtain ⟨v21, h22, H⟩ := oB H
    refine sn [.res (.agg (rTBoard v21))] [] [(10, pk 10)] [] [(10, va (rTBoard v21))] (aI ((FnOk.le2 (xs := [.agg (oTBoard p0)]) (l_toBoard_F_ok p0 v21 h22) ⟨LeD.agg (And.intro (LeC.old _) (And.intro (LeC.old _) (And.intro (LeC.refl _) (And.intro (LeC.refl _) (And.intro (LeC.refl _) (And.intro (LeC.refl _) (And.intro (LeC.refl _) (And.intro (LeC.refl _) (And.intro (LeC.refl _) (And.intro (LeC.old _) (And.intro (LeC.old _) (And.intro (LeC.old _) (trivial))))))))))))), trivial⟩).up glTs)) ?_
    obtain ⟨v23, h24, H⟩ := oB H
    refine sn [.res (.c (.fr (dat 3 eTReaction zTReaction v23)))] [] [(11, .c (.fr (dat 3 eTReaction zTReaction v23)))] [] [] (aI ((FnOk.le2 (xs := [.c (.old (dat 3 eTReaction zTReaction p1))]) (l_toReactionS_F_ok p1 v23 h24) ⟨LeD.old _, trivial⟩).up glTs)) ?_
    obtain ⟨v25, h26, H⟩ := oB H
    refine sn [.res (.agg (rTMachine v25))] [] [(12, pk 12)] [] [(12, va (rTMachine v25))] (aI ((FnOk.le2 (xs := [.agg (oTMachine p2)]) (l_toMachine_F_ok p2 v25 h26) ⟨LeD.agg (And.intro (LeC.old _) (And.intro (LeC.old _) (And.intro (LeC.refl _) (And.intro (LeC.refl _) (And.intro (LeC.old _) (And.intro (LeC.old _) (trivial))))))), trivial⟩).up glTs)) ?_
    obtain ⟨v27, h28, H⟩ := oB H
    refine sn [.mu [] [(6, 1001), (900000, 1002), (900001, 1003), (900002, 1004), (900003, 1005)] (.tup [(true, [.own 900000 3 0 v27.1.Stack.length, .own 900001 1 0 v27.1.Used.length, jI v27.1.State.Turn, jI v27.1.State.Weather, .own 900002 4 0 v27.1.State.Units.length, .own 900003 1 0 v27.1.Log.length]), (false, [.bool v27.2])]) [(6, .var [.own 900000 3 0 v27.1.Stack.length, .own 900001 1 0 v27.1.Used.length, jI v27.1.State.Turn, jI v27.1.State.Weather, .own 900002 4 0 v27.1.State.Units.length, .own 900003 1 0 v27.1.Log.length] false), (900000, ar 3 eTFrame zTFrame v27.1.Stack), (900001, ar 1 eI zI v27.1.Used), (900002, ar 4 eTUnit zTUnit v27.1.State.Units), (900003, ar 1 eI zI v27.1.Log)]] [] [(13, pk 13), (14, cB v27.2)] [] [(13, .var [.own 1002 3 0 v27.1.Stack.length, .own 1003 1 0 v27.1.Used.length, jI v27.1.State.Turn, jI v27.1.State.Weather, .own 1004 4 0 v27.1.State.Units.length, .own 1005 1 0 v27.1.Log.length] false), (1002, ar 3 eTFrame zTFrame v27.1.Stack), (1003, ar 1 eI zI v27.1.Used), (1004, ar 4 eTUnit zTUnit v27.1.State.Units), (1005, ar 1 eI zI v27.1.Log)] (aI ((FnMu.le2 (xs := [.agg (rTBoard v21), .c (.fr (dat 3 eTReaction zTReaction v23)), .agg (rTMachine v25)]) (i_StepMachine_Mddd_ok v21 v23 v25 v27 h28) ⟨LeK.of rfl (LeD.agg (And.intro (LeC.fr _) (And.intro (LeC.fr _) (And.intro (LeC.refl _) (And.intro (LeC.refl _) (And.intro (LeC.refl _) (And.intro (LeC.refl _) (And.intro (LeC.refl _) (And.intro (LeC.refl _) (And.intro (LeC.refl _) (And.intro (LeC.fr _) (And.intro (LeC.fr _) (And.intro (LeC.fr _) (trivial)))))))))))))), LeK.of rfl (LeD.fr _), LeK.of rfl (LeD.agg (And.intro (LeC.fr _) (And.intro (LeC.fr _) (And.intro (LeC.refl _) (And.intro (LeC.refl _) (And.intro (LeC.fr _) (And.intro (LeC.fr _) (trivial)))))))), trivial⟩).up glTs)) ?_
    refine seq_in ?_
    obtain ⟨v33, h34, H⟩ := oB H
    rcases oC H with ⟨c35, H⟩ | ⟨c35, H⟩
    ·refine sn ([.res (cB v33)] ++ rg 4 true []) [] [(66, cB true)] [] [] (fun t => aI (Nat.le_refl v27.1.Stack.length) (aI (Nat.le_refl v27.1.Used.length) (aI (Nat.le_refl v27.1.State.Units.length) (aI (Nat.le_refl v27.1.Log.length) (aI ((FnOk.le2 (xs := [.agg (eTMachine v27.1), .agg (oTMachine v19.1)]) (l_eqMachine_ok v27.1 v19.1 v33 h34) ⟨LeD.refl _, LeD.agg (And.intro (LeC.old _) (And.intro (LeC.old _) (And.intro (LeC.refl _) (And.intro (LeC.refl _) (And.intro (LeC.old _) (And.intro (LeC.old _) (trivial))))))), trivial⟩).up glTs) (aG 4 c35 (t))))))) ?_
     refine it rT ?_
     refine so [] [] [(6, cB false)] [] id ?_
     refine ends_ret ?_
     cases H
    ·refine sn ([.res (cB v33)] ++ rg 4 false []) [] [(66, cB (!(v27.2 == v19.2)))] [] [] (fun t => aI (Nat.le_refl v27.1.Stack.length) (aI (Nat.le_refl v27.1.Used.length) (aI (Nat.le_refl v27.1.State.Units.length) (aI (Nat.le_refl v27.1.Log.length) (aI ((FnOk.le2 (xs := [.agg (eTMachine v27.1), .agg (oTMachine v19.1)]) (l_eqMachine_ok v27.1 v19.1 v33 h34) ⟨LeD.refl _, LeD.agg (And.intro (LeC.old _) (And.intro (LeC.old _) (And.intro (LeC.refl _) (And.intro (LeC.refl _) (And.intro (LeC.old _) (And.intro (LeC.old _) (trivial))))))), trivial⟩).up glTs) (aG 4 c35 (t))))))) ?_
     rcases oC H with ⟨c36, H⟩ | ⟨c36, H⟩
     ·refine it c36 ?_
      refine so [] [] [(6, cB false)] [] id ?_
      refine ends_ret ?_
      cases H
     ·refine jf c36 ?_
      refine sk ?_
      refine seq_in ?_
      obtain ⟨v42, h43, H⟩ := oB H
      obtain ⟨v44, h45, H⟩ := oB H
      refine xn [.res (.agg (rTBoard v42)), .res (cB v44)] [] [(71, cB (!v44))] [] [] (fun t => aI ((FnOk.le2 (xs := [.agg (oTBoard p0)]) (l_toBoard_F_ok p0 v42 h43) ⟨LeD.agg (And.intro (LeC.old _) (And.intro (LeC.old _) (And.intro (LeC.refl _) (And.intro (LeC.refl _) (And.intro (LeC.refl _) (And.intro (LeC.refl _) (And.intro (LeC.refl _) (And.intro (LeC.refl _) (And.intro (LeC.refl _) (And.intro (LeC.old _) (And.intro (LeC.old _) (And.intro (LeC.old _) (trivial))))))))))))), trivial⟩).up glTs) (aG 2 rN (aI ((FnOk.le2 (xs := [.agg (rTBoard v21), .agg (rTBoard v42)]) (l_eqBoard_ok v21 v42 v44 h45) ⟨LeD.agg (And.intro (LeC.fr _) (And.intro (LeC.fr _) (And.intro (LeC.refl _) (And.intro (LeC.refl _) (And.intro (LeC.refl _) (And.intro (LeC.refl _) (And.intro (LeC.refl _) (And.intro (LeC.refl _) (And.intro (LeC.refl _) (And.intro (LeC.fr _) (And.intro (LeC.fr _) (And.intro (LeC.fr _) (trivial))))))))))))), LeD.agg (And.intro (LeC.fr _) (And.intro (LeC.fr _) (And.intro (LeC.refl _) (And.intro (LeC.refl _) (And.intro (LeC.refl _) (And.intro (LeC.refl _) (And.intro (LeC.refl _) (And.intro (LeC.refl _) (And.intro (LeC.refl _) (And.intro (LeC.fr _) (And.intro (LeC.fr _) (And.intro (LeC.fr _) (trivial))))))))))))), trivial⟩).up glTs) (aI trivial (aI rN (t)))))) ?_
      rcases oC H with ⟨c46, H⟩ | ⟨c46, H⟩
      ·refine it c46 ?_
       refine so [] [] [(6, cB false)] [] id ?_
       refine ends_ret ?_
       cases H
      ·refine jf c46 ?_
       refine sk ?_
       refine seq_in ?_
       obtain ⟨v52, h53, H⟩ := oB H
       obtain ⟨v54, h55, H⟩ := oB H
       refine sn [.res (.c (.fr (dat 3 eTReaction zTReaction v52))), .res (cB v54)] [] [(76, cB (!v54))] [] [] (fun t => aI ((FnOk.le2 (xs := [.c (.old (dat 3 eTReaction zTReaction p1))]) (l_toReactionS_F_ok p1 v52 h53) ⟨LeD.old _, trivial⟩).up glTs) (aI ((FnOk.le2 (xs := [.c (.fr (dat 3 eTReaction zTReaction v23)), .c (.fr (dat 3 eTReaction zTReaction v52))]) (l_eqReactionS_ok v23 v52 v54 h55) ⟨LeD.fr _, LeD.fr _, trivial⟩).up glTs) (t))) ?_
       rcases oC H with ⟨c56, H⟩ | ⟨c56, H⟩
       ·refine it c56 ?_
        refine so [] [] [(6, cB false)] [] id ?_
        refine ends_ret ?_
        cases H
       ·refine jf c56 ?_
        refine sk ?_
        refine seq_in ?_
        obtain ⟨v62, h63, H⟩ := oB H
        obtain ⟨v64, h65, H⟩ := oB H
        refine xn [.res (.agg (rTMachine v62)), .res (cB v64)] [] [(81, cB (!v64))] [] [] (fun t => aI ((FnOk.le2 (xs := [.agg (oTMachine p2)]) (l_toMachine_F_ok p2 v62 h63) ⟨LeD.agg (And.intro (LeC.old _) (And.intro (LeC.old _) (And.intro (LeC.refl _) (And.intro (LeC.refl _) (And.intro (LeC.old _) (And.intro (LeC.old _) (trivial))))))), trivial⟩).up glTs) (aG 2 rN (aI ((FnOk.le2 (xs := [.agg (rTMachine v25), .agg (rTMachine v62)]) (l_eqMachine_ok v25 v62 v64 h65) ⟨LeD.agg (And.intro (LeC.fr _) (And.intro (LeC.fr _) (And.intro (LeC.refl _) (And.intro (LeC.refl _) (And.intro (LeC.fr _) (And.intro (LeC.fr _) (trivial))))))), LeD.agg (And.intro (LeC.fr _) (And.intro (LeC.fr _) (And.intro (LeC.refl _) (And.intro (LeC.refl _) (And.intro (LeC.fr _) (And.intro (LeC.fr _) (trivial))))))), trivial⟩).up glTs) (aI trivial (aI rN (t)))))) ?_
        rcases oC H with ⟨c66, H⟩ | ⟨c66, H⟩
        ·refine it c66 ?_
         refine so [] [] [(6, cB false)] [] id ?_
         refine ends_ret ?_
         cases H
        ·refine jf c66 ?_
         refine sk ?_
         refine so [] [] [(1, .c (.old (dat 3 eTReaction zTReaction p1))), (3, pk 3), (5, pk 5), (8, pk 8), (9, cB v19.2), (10, pk 10), (11, .c (.fr (dat 3 eTReaction zTReaction v23))), (12, pk 12), (13, pk 13), (14, cB v27.2), (15, cI 1)] [(3, va (oTBoard p0)), (5, va (oTMachine p2)), (8, va (oTMachine v19.1)), (10, va (rTBoard v21)), (12, va (rTMachine v25)), (13, .var [.own 1002 3 0 v27.1.Stack.length, .own 1003 1 0 v27.1.Used.length, jI v27.1.State.Turn, jI v27.1.State.Weather, .own 1004 4 0 v27.1.State.Units.length, .own 1005 1 0 v27.1.Log.length] false), (1002, ar 3 eTFrame zTFrame v27.1.Stack), (1003, ar 1 eI zI v27.1.Used), (1004, ar 4 eTUnit zTUnit v27.1.State.Units), (1005, ar 1 eI zI v27.1.Log)] id ?_
         refine tl [] [(1, .c (.old (dat 3 eTReaction zTReaction p1))), (3, pk 3), (5, pk 5), (8, pk 8), (9, cB v19.2), (10, pk 10), (11, .c (.fr (dat 3 eTReaction zTReaction v23))), (12, pk 12), (13, pk 13), (14, cB v27.2), (15, cI 1)] [(3, va (oTBoard p0)), (5, va (oTMachine p2)), (8, va (oTMachine v19.1)), (10, va (rTBoard v21)), (12, va (rTMachine v25)), (13, .var [.own 1002 3 0 v27.1.Stack.length, .own 1003 1 0 v27.1.Used.length, jI v27.1.State.Turn, jI v27.1.State.Weather, .own 1004 4 0 v27.1.State.Units.length, .own 1005 1 0 v27.1.Log.length] false), (1002, ar 3 eTFrame zTFrame v27.1.Stack), (1003, ar 1 eI zI v27.1.Used), (1004, ar 4 eTUnit zTUnit v27.1.State.Units), (1005, ar 1 eI zI v27.1.Log)] id ?_
         refine turn (E := [(1, .c (.old (dat 3 eTReaction zTReaction p1))), (3, pk 3), (5, pk 5), (8, pk 8), (9, cB v19.2), (10, pk 10), (11, .c (.fr (dat 3 eTReaction zTReaction v23))), (12, pk 12), (13, pk 13), (14, cB v27.2), (15, cI 1)]) (E' := [(1, dc 3 eTReaction zTReaction p1), (3, pk 3), (5, pk 5), (8, pk 8), (9, cB v19.2), (10, pk 10), (11, .c (.lv (dat 3 eTReaction zTReaction v23))), (12, pk 12), (13, pk 13), (14, cB v27.2), (15, cI 1)]) (H := [(3, va (oTBoard p0)), (5, va (oTMachine p2)), (8, va (oTMachine v19.1)), (10, va (rTBoard v21)), (12, va (rTMachine v25)), (13, .var [.own 1002 3 0 v27.1.Stack.length, .own 1003 1 0 v27.1.Used.length, jI v27.1.State.Turn, jI v27.1.State.Weather, .own 1004 4 0 v27.1.State.Units.length, .own 1005 1 0 v27.1.Log.length] false), (1002, ar 3 eTFrame zTFrame v27.1.Stack), (1003, ar 1 eI zI v27.1.Used), (1004, ar 4 eTUnit zTUnit v27.1.State.Units), (1005, ar 1 eI zI v27.1.Log)]) (H' := [(3, va (eTBoard p0)), (5, va (eTMachine p2)), (8, va (eTMachine v19.1)), (10, va (lTBoard v21)), (12, va (lTMachine v25)), (13, .var [.own 1002 3 0 v27.1.Stack.length, .own 1003 1 0 v27.1.Used.length, jI v27.1.State.Turn, jI v27.1.State.Weather, .own 1004 4 0 v27.1.State.Units.length, .own 1005 1 0 v27.1.Log.length] false), (1002, ar 3 eTFrame zTFrame v27.1.Stack), (1003, ar 1 eI zI v27.1.Used), (1004, ar 4 eTUnit zTUnit v27.1.State.Units), (1005, ar 1 eI zI v27.1.Log)]) glTn (And.intro (And.intro rfl (tO (dat 3 eTReaction zTReaction p1))) (And.intro (And.intro rfl (tS (.pk 3 0) rfl)) (And.intro (And.intro rfl (tS (.pk 5 0) rfl)) (And.intro (And.intro rfl (tS (.pk 8 0) rfl)) (And.intro (And.intro rfl (tS (.bool v19.2) rfl)) (And.intro (And.intro rfl (tS (.pk 10 0) rfl)) (And.intro (And.intro rfl (tF (dat 3 eTReaction zTReaction v23) rfl (.dat shTReaction))) (And.intro (And.intro rfl (tS (.pk 12 0) rfl)) (And.intro (And.intro rfl (tS (.pk 13 0) rfl)) (And.intro (And.intro rfl (tS (.bool v27.2) rfl)) (And.intro (And.intro rfl (tS (jI 1) rfl)) trivial))))))))))) (And.intro (And.intro rfl (And.intro (tO (dat 5 eTTerrain zTTerrain p0.Rules.Terrains)) (And.intro (tO (dat 6 eTKind zTKind p0.Rules.Kinds)) (And.intro (tS (jI p0.Rules.Stack) rfl) (And.intro (tS (jI p0.Rules.River) rfl) (And.intro (tS (jI p0.Rules.Road) rfl) (And.intro (tS (jI p0.Rules.Supply) rfl) (And.intro (tS (jI p0.Rules.Turns) rfl) (And.intro (tS (jI p0.Map.Width) rfl) (And.intro (tS (jI p0.Map.Height) rfl) (And.intro (tO (dat 1 eI zI p0.Map.Terrain)) (And.intro (tO (dat 1 eI zI p0.Map.Rivers)) (And.intro (tO (dat 1 eI zI p0.Map.Roads)) trivial))))))))))))) (And.intro (And.intro rfl (And.intro (tO (dat 3 eTFrame zTFrame p2.Stack)) (And.intro (tO (dat 1 eI zI p2.Used)) (And.intro (tS (jI p2.State.Turn) rfl) (And.intro (tS (jI p2.State.Weather) rfl) (And.intro (tO (dat 4 eTUnit zTUnit p2.State.Units)) (And.intro (tO (dat 1 eI zI p2.Log)) trivial))))))) (And.intro (And.intro rfl (And.intro (tO (dat 3 eTFrame zTFrame v19.1.Stack)) (And.intro (tO (dat 1 eI zI v19.1.Used)) (And.intro (tS (jI v19.1.State.Turn) rfl) (And.intro (tS (jI v19.1.State.Weather) rfl) (And.intro (tO (dat 4 eTUnit zTUnit v19.1.State.Units)) (And.intro (tO (dat 1 eI zI v19.1.Log)) trivial))))))) (And.intro (And.intro rfl (And.intro (tF (dat 5 eTTerrain zTTerrain v21.Rules.Terrains) rfl (.dat shTTerrain)) (And.intro (tF (dat 6 eTKind zTKind v21.Rules.Kinds) rfl (.dat shTKind)) (And.intro (tS (jI v21.Rules.Stack) rfl) (And.intro (tS (jI v21.Rules.River) rfl) (And.intro (tS (jI v21.Rules.Road) rfl) (And.intro (tS (jI v21.Rules.Supply) rfl) (And.intro (tS (jI v21.Rules.Turns) rfl) (And.intro (tS (jI v21.Map.Width) rfl) (And.intro (tS (jI v21.Map.Height) rfl) (And.intro (tF (dat 1 eI zI v21.Map.Terrain) rfl (.dat shI)) (And.intro (tF (dat 1 eI zI v21.Map.Rivers) rfl (.dat shI)) (And.intro (tF (dat 1 eI zI v21.Map.Roads) rfl (.dat shI)) trivial))))))))))))) (And.intro (And.intro rfl (And.intro (tF (dat 3 eTFrame zTFrame v25.Stack) rfl (.dat shTFrame)) (And.intro (tF (dat 1 eI zI v25.Used) rfl (.dat shI)) (And.intro (tS (jI v25.State.Turn) rfl) (And.intro (tS (jI v25.State.Weather) rfl) (And.intro (tF (dat 4 eTUnit zTUnit v25.State.Units) rfl (.dat shTUnit)) (And.intro (tF (dat 1 eI zI v25.Log) rfl (.dat shI)) trivial))))))) (And.intro (And.intro rfl (And.intro (tS (.own 1002 3 0 v27.1.Stack.length) rfl) (And.intro (tS (.own 1003 1 0 v27.1.Used.length) rfl) (And.intro (tS (jI v27.1.State.Turn) rfl) (And.intro (tS (jI v27.1.State.Weather) rfl) (And.intro (tS (.own 1004 4 0 v27.1.State.Units.length) rfl) (And.intro (tS (.own 1005 1 0 v27.1.Log.length) rfl) trivial))))))) (And.intro (And.intro rfl ⟨rfl, rfl, rfl, fun i _ => rfl⟩) (And.intro (And.intro rfl ⟨rfl, rfl, rfl, fun i _ => rfl⟩) (And.intro (And.intro rfl ⟨rfl, rfl, rfl, fun i _ => rfl⟩) (And.intro (And.intro rfl ⟨rfl, rfl, rfl, fun i _ => rfl⟩) trivial)))))))))) ?_
         obtain ⟨v67, h68, H⟩ := oB H
         refine so [.res (cI v67)] [] [(1, dc 3 eTReaction zTReaction p1), (3, pk 3), (5, pk 5), (8, pk 8), (9, cB v19.2), (11, .c (.lv (dat 3 eTReaction zTReaction v23))), (12, pk 12), (13, pk 13), (14, cB v27.2), (15, cI v67)] [(3, va (eTBoard p0)), (5, va (eTMachine p2)), (8, va (eTMachine v19.1)), (12, va (lTMachine v25)), (13, .var [.own 1002 3 0 v27.1.Stack.length, .own 1003 1 0 v27.1.Used.length, jI v27.1.State.Turn, jI v27.1.State.Weather, .own 1004 4 0 v27.1.State.Units.length, .own 1005 1 0 v27.1.Log.length] false), (1002, ar 3 eTFrame zTFrame v27.1.Stack), (1003, ar 1 eI zI v27.1.Used), (1004, ar 4 eTUnit zTUnit v27.1.State.Units), (1005, ar 1 eI zI v27.1.Log)] (aI ((l_markBoard_L_ok v21 1 v67 h68).up glTs)) ?_
         obtain ⟨v69, h70, H⟩ := oB H
         refine so [.res (cI v69)] [] [(1, dc 3 eTReaction zTReaction p1), (3, pk 3), (5, pk 5), (8, pk 8), (9, cB v19.2), (12, pk 12), (13, pk 13), (14, cB v27.2), (15, cI v69)] [(3, va (eTBoard p0)), (5, va (eTMachine p2)), (8, va (eTMachine v19.1)), (12, va (lTMachine v25)), (13, .var [.own 1002 3 0 v27.1.Stack.length, .own 1003 1 0 v27.1.Used.length, jI v27.1.State.Turn, jI v27.1.State.Weather, .own 1004 4 0 v27.1.State.Units.length, .own 1005 1 0 v27.1.Log.length] false), (1002, ar 3 eTFrame zTFrame v27.1.Stack), (1003, ar 1 eI zI v27.1.Used), (1004, ar 4 eTUnit zTUnit v27.1.State.Units), (1005, ar 1 eI zI v27.1.Log)] (aI ((l_markReactionS_L_ok v23 v67 v69 h70).up glTs)) ?_
         obtain ⟨v71, h72, H⟩ := oB H
         refine so [.res (cI v71)] [] [(1, dc 3 eTReaction zTReaction p1), (3, pk 3), (5, pk 5), (8, pk 8), (9, cB v19.2), (13, pk 13), (14, cB v27.2), (15, cI v71)] [(3, va (eTBoard p0)), (5, va (eTMachine p2)), (8, va (eTMachine v19.1)), (13, .var [.own 1002 3 0 v27.1.Stack.length, .own 1003 1 0 v27.1.Used.length, jI v27.1.State.Turn, jI v27.1.State.Weather, .own 1004 4 0 v27.1.State.Units.length, .own 1005 1 0 v27.1.Log.length] false), (1002, ar 3 eTFrame zTFrame v27.1.Stack), (1003, ar 1 eI zI v27.1.Used), (1004, ar 4 eTUnit zTUnit v27.1.State.Units), (1005, ar 1 eI zI v27.1.Log)] (aI ((l_markMachine_L_ok v25 v69 v71 h72).up glTs)) ?_
         refine seq_in ?_
         rcases oC H with ⟨c77, H⟩ | ⟨c77, H⟩
         ·refine sn (rg 9 true []) [] [(103, cB true)] [] [] (fun t => aG 5 c77 (aG 4 rT (t))) ?_
          refine it rT ?_
          refine so [] [] [(6, cB false)] [] id ?_
          refine ends_ret ?_
          cases H
         ·obtain ⟨v78, h79, H⟩ := oB H
          rcases oC H with ⟨c80, H⟩ | ⟨c80, H⟩
          ·refine sn (rg 3 false ([.res (cB v78)] ++ rg 2 false (rg 4 true []))) [] [(103, cB true)] [] [] (fun t => aG 3 c77 (aI (Nat.le_refl v27.1.Stack.length) (aI (Nat.le_refl v27.1.Used.length) (aI (Nat.le_refl v27.1.State.Units.length) (aI (Nat.le_refl v27.1.Log.length) (aI ((l_eqMachine_ok v27.1 v19.1 v78 h79).up glTs) (aG 2 c77 (aG 4 c80 (t))))))))) ?_
           refine it rT ?_
           refine so [] [] [(6, cB false)] [] id ?_
           refine ends_ret ?_
           cases H
          ·refine sn (rg 3 false ([.res (cB v78)] ++ rg 6 false [])) [] [(103, cB (!(v27.2 == v19.2)))] [] [] (fun t => aG 3 c77 (aI (Nat.le_refl v27.1.Stack.length) (aI (Nat.le_refl v27.1.Used.length) (aI (Nat.le_refl v27.1.State.Units.length) (aI (Nat.le_refl v27.1.Log.length) (aI ((l_eqMachine_ok v27.1 v19.1 v78 h79).up glTs) (aG 2 c77 (aG 4 c80 (t))))))))) ?_
           refine jf c36 ?_
           refine sk ?_
           refine sn [] [] [(16, cI 1)] [] [] id ?_
           obtain ⟨v81, h82, H⟩ := oB H
           obtain ⟨g83, H⟩ := oI H
           obtain ⟨g84, H⟩ := oI H
           obtain ⟨g85, H⟩ := oI H
           obtain ⟨g86, H⟩ := oI H
           refine so [.mu [(1002, 1000000), (1003, 1000001), (1004, 1000002), (1005, 1000003)] [(1000000, 1002), (1000001, 1003), (1000002, 1004), (1000003, 1005)] (cI v81.1) [(1000000, ar 3 eTFrame zTFrame v81.2.Stack), (1000001, ar 1 eI zI v81.2.Used), (1000002, ar 4 eTUnit zTUnit v81.2.State.Units), (1000003, ar 1 eI zI v81.2.Log)]] [.agg 104 [.own 1002 3 0 v81.2.Stack.length, .own 1003 1 0 v81.2.Used.length, jI v27.1.State.Turn, jI v27.1.State.Weather, .own 1004 4 0 v81.2.State.Units.length, .own 1005 1 0 v81.2.Log.length], .relc 13 0 v81.2.Stack.length, .relc 13 1 v81.2.Used.length, .relc 13 4 v81.2.State.Units.length, .relc 13 5 v81.2.Log.length] [(1, dc 3 eTReaction zTReaction p1), (3, pk 3), (5, pk 5), (8, pk 8), (9, cB v19.2), (13, pk 13), (16, cI v81.1)] [(3, va (eTBoard p0)), (5, va (eTMachine p2)), (8, va (eTMachine v19.1)), (13, .var [.own 1002 3 0 v81.2.Stack.length, .own 1003 1 0 v81.2.Used.length, jI v27.1.State.Turn, jI v27.1.State.Weather, .own 1004 4 0 v81.2.State.Units.length, .own 1005 1 0 v81.2.Log.length] false), (1002, ar 3 eTFrame zTFrame v81.2.Stack), (1003, ar 1 eI zI v81.2.Used), (1004, ar 4 eTUnit zTUnit v81.2.State.Units), (1005, ar 1 eI zI v81.2.Log)] (fun t => aI ((l_markMachine_Mod_ok v27.1 1 v81 h82).up glTs) (aI (by rw [← g83, ← g84, ← g85, ← g86] : AV.agg [.own 1002 3 0 v27.1.Stack.length, .own 1003 1 0 v27.1.Used.length, jI v27.1.State.Turn, jI v27.1.State.Weather, .own 1004 4 0 v27.1.State.Units.length, .own 1005 1 0 v27.1.Log.length] = AV.agg [.own 1002 3 0 v81.2.Stack.length, .own 1003 1 0 v81.2.Used.length, jI v27.1.State.Turn, jI v27.1.State.Weather, .own 1004 4 0 v81.2.State.Units.length, .own 1005 1 0 v81.2.Log.length]) (aI (Eq.symm g83) (aI (Eq.symm g84) (aI (Eq.symm g85) (aI (Eq.symm g86) (t))))))) ?_
           refine sn [] [] [(17, cI 1)] [] [] id ?_
           obtain ⟨v87, h88, H⟩ := oB H
           refine so [.res (cI v87)] [] [(1, dc 3 eTReaction zTReaction p1), (3, pk 3), (5, pk 5), (8, pk 8), (9, cB v19.2), (13, pk 13), (16, cI v81.1), (17, cI v87)] [(3, va (eTBoard p0)), (5, va (eTMachine p2)), (8, va (eTMachine v19.1)), (13, .var [.own 1002 3 0 v81.2.Stack.length, .own 1003 1 0 v81.2.Used.length, jI v27.1.State.Turn, jI v27.1.State.Weather, .own 1004 4 0 v81.2.State.Units.length, .own 1005 1 0 v81.2.Log.length] false), (1002, ar 3 eTFrame zTFrame v81.2.Stack), (1003, ar 1 eI zI v81.2.Used), (1004, ar 4 eTUnit zTUnit v81.2.State.Units), (1005, ar 1 eI zI v81.2.Log)] (fun t => aI (Nat.le_refl v81.2.Stack.length) (aI (Nat.le_refl v81.2.Used.length) (aI (Nat.le_refl v81.2.State.Units.length) (aI (Nat.le_refl v81.2.Log.length) (aI ((l_heldMachine_ok (TMachine.mk v81.2.Stack v81.2.Used (TState.mk v27.1.State.Turn v27.1.State.Weather v81.2.State.Units) v81.2.Log) 1 v87 h88).up glTs) (t)))))) ?_
           refine seq_in ?_
           refine sn [] [] [(111, cB (decide (v87 < 0)))] [] [] id ?_
           rcases oC H with ⟨c90, H⟩ | ⟨c90, H⟩
           ·refine it c90 ?_
            refine so [] [] [(6, cB false)] [] id ?_
            refine ends_ret ?_
            cases H
           ·refine jf c90 ?_
            refine sk ?_
            refine seq_in ?_
            refine sn [] [] [(114, cB (v87 != v81.1))] [] [] id ?_
            rcases oC H with ⟨c92, H⟩ | ⟨c92, H⟩
            ·refine it c92 ?_
             refine so [] [] [(6, cB false)] [] id ?_
             refine ends_ret ?_
             cases H
            ·refine jf c92 ?_
             refine sk ?_
             obtain ⟨v93, h94, H⟩ := oB H
             obtain ⟨v95, h96, H⟩ := oB H
             obtain ⟨v97, h98, H⟩ := oB H
             obtain ⟨v99, h100, H⟩ := oB H
             refine xn [.res (.agg (rTBoard v93)), .res (.c (.fr (dat 3 eTReaction zTReaction v95))), .res (.agg (rTMachine v97)), .res (.tup [(true, [dat 3 eTFrame zTFrame v99.1.Stack, dat 1 eI zI v99.1.Used, jI v99.1.State.Turn, jI v99.1.State.Weather, dat 4 eTUnit zTUnit v99.1.State.Units, dat 1 eI zI v99.1.Log]), (false, [.bool v99.2])])] [] [(18, pk 18), (19, cB v99.2)] [] [(18, va (eTMachine v99.1))] (fun t => aI ((l_toBoard_F_ok p0 v93 h94).up glTs) (aG 2 rN (aI ((l_toReactionS_F_ok p1 v95 h96).up glTs) (aG 2 rN (aI ((l_toMachine_F_ok p2 v97 h98).up glTs) (aG 2 rN (aI ((FnOk.le2 (xs := [.agg (rTBoard v93), .c (.fr (dat 3 eTReaction zTReaction v95)), .agg (rTMachine v97)]) (i_StepMachine_ok v93 v95 v97 v99 h100) ⟨LeD.agg (And.intro (LeC.fr _) (And.intro (LeC.fr _) (And.intro (LeC.refl _) (And.intro (LeC.refl _) (And.intro (LeC.refl _) (And.intro (LeC.refl _) (And.intro (LeC.refl _) (And.intro (LeC.refl _) (And.intro (LeC.refl _) (And.intro (LeC.fr _) (And.intro (LeC.fr _) (And.intro (LeC.fr _) (trivial))))))))))))), LeD.fr _, LeD.agg (And.intro (LeC.fr _) (And.intro (LeC.fr _) (And.intro (LeC.refl _) (And.intro (LeC.refl _) (And.intro (LeC.fr _) (And.intro (LeC.fr _) (trivial))))))), trivial⟩).up glTs) (aG 2 rN (t))))))))) ?_
             refine seq_in ?_
             obtain ⟨v105, h106, H⟩ := oB H
             rcases oC H with ⟨c107, H⟩ | ⟨c107, H⟩
             ·refine sn ([.res (cB v105)] ++ rg 4 true []) [] [(133, cB true)] [3, 5] [] (fun t => aI ((l_eqMachine_ok v99.1 v19.1 v105 h106).up glTs) (aG 4 c107 (t))) ?_
              refine it rT ?_
              refine so [] [] [(6, cB false)] [] id ?_
              refine ends_ret ?_
              cases H
             ·refine sn ([.res (cB v105)] ++ rg 4 false []) [] [(133, cB (!(v99.2 == v19.2)))] [3, 5] [] (fun t => aI ((l_eqMachine_ok v99.1 v19.1 v105 h106).up glTs) (aG 4 c107 (t))) ?_
              rcases oC H with ⟨c108, H⟩ | ⟨c108, H⟩
              ·refine it c108 ?_
               refine so [] [] [(6, cB false)] [] id ?_
               refine ends_ret ?_
               cases H
              ·refine jf c108 ?_
               refine sk ?_
               refine so [] [] [(13, pk 13), (16, cI v81.1), (17, cI 1)] [(13, .var [.own 1002 3 0 v81.2.Stack.length, .own 1003 1 0 v81.2.Used.length, jI v27.1.State.Turn, jI v27.1.State.Weather, .own 1004 4 0 v81.2.State.Units.length, .own 1005 1 0 v81.2.Log.length] false), (1002, ar 3 eTFrame zTFrame v81.2.Stack), (1003, ar 1 eI zI v81.2.Used), (1004, ar 4 eTUnit zTUnit v81.2.State.Units), (1005, ar 1 eI zI v81.2.Log)] id ?_
               obtain ⟨v109, h110, H⟩ := oB H
               refine so [.res (cI v109)] [] [(16, cI v81.1), (17, cI v109)] [] (fun t => aI (Nat.le_refl v81.2.Stack.length) (aI (Nat.le_refl v81.2.Used.length) (aI (Nat.le_refl v81.2.State.Units.length) (aI (Nat.le_refl v81.2.Log.length) (aI ((l_heldMachine_ok (TMachine.mk v81.2.Stack v81.2.Used (TState.mk v27.1.State.Turn v27.1.State.Weather v81.2.State.Units) v81.2.Log) 1 v109 h110).up glTs) (t)))))) ?_
               refine seq_in ?_
               refine sn [] [] [(138, cB (decide (v109 < 0)))] [] [] id ?_
               rcases oC H with ⟨c112, H⟩ | ⟨c112, H⟩
               ·refine it c112 ?_
                refine so [] [] [(6, cB false)] [] id ?_
                refine ends_ret ?_
                cases H
               ·refine jf c112 ?_
                refine sk ?_
                refine seq_in ?_
                refine so [] [] [(141, cB (v109 != v81.1))] [] id ?_
                rcases oC H with ⟨c113, H⟩ | ⟨c113, H⟩
                ·refine it c113 ?_
                 refine so [] [] [(6, cB false)] [] id ?_
                 refine ends_ret ?_
                 cases H
                ·refine jf c113 ?_
                 refine sk ?_
                 refine so [] [] [(6, cB true)] [] id ?_
                 refine ends_ret ?_
                 exact qr
end Go.Proofs.YteenmeomlhkphaaGreatDoor.X0
