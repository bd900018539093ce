/- What each function that FnExactRetreatAll reaches computes; no condition. -/
import Derived.Test.YtjlabdoeiphegaaGreatDoorRaWa
set_option linter.unusedVariables false
set_option linter.unusedSimpArgs false
set_option maxRecDepth 100000
namespace Go.Proofs.YtjlabdoeiphegaaGreatDoor.X0
open Go Go.RowKit Go.Proofs.YtjlabdoeiphegaaGreatDoor.Ab Go.Proofs

def s_gRetreatAll_ir : S :=
 (sq [o 4 (.box 12 (.t 0)), o 5 (.box 3 (.t 1)), o 8 (.alloc [.int .i64 0, .int .i64 0, .nil]), o 9 (.mv (iv 0))]
 (sq [o 15 (.load 3 true (.t 5)), o 16 (.call 116 [.t 15, .v (.nil)]), os 3 5 16]
 (sq [o 10 (.mv (iv 0))]
 (.seq (sq [om 17 2, o 18 (.len (.t 17)), o 19 (.mv (iv 0))]
 (.blk 0 (.loop (sq [o 20 (.bin .lss (.t 19) (.t 18))]
   (.seq (.ite (.t 20) .skip
   (.exit 0))
   (.seq (.blk 1 (sq [o 21 (.iad 1 (.t 17) (.t 19)), ol 22 21, om 12 22]
    (sq [o 24 (.load 12 true (.t 4)), o 25 (.load 3 true (.t 5)), om 26 12, om 27 3, o 28 (.call 117 [.t 24, .t 25, .t 26, .t 27]), om 23 28, o 29 (.ext (.t 23) 0), o 30 (.ext (.t 23) 1), o 13 (.alloc [.int .i64 0, .int .i64 0, .nil]), os 3 13 29, om 14 30]
    (sq [o 31 (.load 3 true (.t 13)), os 3 5 31]
    (sq [om 32 14]
    (.ite (.t 32) (.ops [om 33 10, o 34 (.bin .add (.t 33) (iv 1)), om 10 34])
    .skip))))))
   (.ops [o 35 (.bin .add (.t 19) (iv 1)), om 19 35])))))))
 (sq [o 36 (.load 3 true (.t 5)), om 37 10, os 3 8 36, om 9 37]
 .ret)))))
noncomputable def X.s_gRetreatAll (p0 : TBoard) (p1 : TState) (p2 : (List Int)) (p3 : Int) : Option (TState × Int) :=
 ((X.s_fDo p1 ([] : List TAttempt)).bind fun v1 => ((loop (fun (x18 : (Int × Int × Int × Int × (List TUnit))) => ((bif (decide (x18.2.1 < (p2.length : Int))) then ((at' zI p2 x18.2.1).bind fun v21 => ((X.s_gRetreat p0 (TState.mk x18.2.2.1 x18.2.2.2.1 x18.2.2.2.2) v21 p3).bind fun v23 => (bif v23.2 then some (Sum.inl ((W (x18.1 + 1)), (W (x18.2.1 + 1)), v23.1.Turn, v23.1.Weather, v23.1.Units)) else some (Sum.inl (x18.1, (W (x18.2.1 + 1)), v23.1.Turn, v23.1.Weather, v23.1.Units))))) else some (Sum.inr (x18.1, x18.2.2.1, x18.2.2.2.1, x18.2.2.2.2))) : Option ((Int × Int × Int × Int × (List TUnit)) ⊕ (Int × Int × Int × (List TUnit))))) (0, 0, v1.Turn, v1.Weather, v1.Units)).bind fun y26 => some ((TState.mk y26.2.1 y26.2.2.1 y26.2.2.2), y26.1)))
theorem s_gRetreatAll_ok (p0 : TBoard) (p1 : TState) (p2 : (List Int)) (p3 : Int) (r : (TState × Int)) (H : X.s_gRetreatAll p0 p1 p2 p3 = some r) : FK 56 [.agg (eTBoard p0), .agg (eTState p1), .c (dat 1 eI zI p2), cI p3] (.tup [(true, [.int .i64 r.1.Turn, .int .i64 r.1.Weather, dat 4 eTUnit zTUnit r.1.Units]), (false, [.int .i64 r.2])]) := by
 unfold X.s_gRetreatAll at H
 refine fi Tryz.f56 s_gRetreatAll_ir [(8, pk 8), (9, cI r.2)] [(8, va (eTState r.1))] glL Tryz.func56 ?_
 refine sn [] [] [(4, pk 4), (5, pk 5), (8, pk 8)] [] [(4, va (eTBoard p0)), (5, va (eTState p1)), (8, .var [jI 0, jI 0, .nil] false)] id ?_
 obtain ⟨v1, h2, H⟩ := oB H
 refine sn [.res (.agg (eTState v1))] [] [] [5] [(5, va (eTState v1))] (aI (FnOk.le2 (xs := [.agg (eTState p1), .c (.nil)]) (s_fDo_ok p1 ([] : List TAttempt) v1 h2) ⟨LeD.refl _, LeD.nil 3 (fF eTAttempt zTAttempt ([] : List TAttempt)), trivial⟩)) ?_
 refine sn [] [] [(10, cI 0)] [] [] id ?_
 refine seq_in ?_
 refine sn [] [] [(17, dc 1 eI zI p2), (18, cL p2), (19, cI 0)] [] [] (fun t => lI p2 (t)) ?_
 refine ends_blk ?_
 obtain ⟨y26, h27, H⟩ := oB H
 refine tl [] [(3, cI p3), (4, pk 4), (5, pk 5), (8, pk 8), (10, cI 0), (17, dc 1 eI zI p2), (18, cL p2), (19, cI 0)] [(4, va (eTBoard p0)), (5, va (eTState v1)), (8, .var [jI 0, jI 0, .nil] false)] id ?_
 refine loop_in (fun (x : (Int × Int × Int × Int × (List TUnit))) => lit [(3, cI p3), (4, pk 4), (5, pk 5), (8, pk 8), (10, cI x.1), (17, dc 1 eI zI p2), (18, cL p2), (19, cI x.2.1)] [(4, va (eTBoard p0)), (5, .var [jI x.2.2.1, jI x.2.2.2.1, dat 4 eTUnit zTUnit x.2.2.2.2] false), (8, .var [jI 0, jI 0, .nil] false)]) (fun (z : (Int × Int × Int × (List TUnit))) => At (.exit 0) (lit [(5, pk 5), (8, pk 8), (10, cI z.1)] [(5, .var [jI z.2.1, jI z.2.2.1, dat 4 eTUnit zTUnit z.2.2.2] false), (8, .var [jI 0, jI 0, .nil] false)])) h27 ?_ ?_
 ·clear H h27
  intro x18 y0 H
  refine sn [] [] [(20, cB (decide (x18.2.1 < (p2.length : Int))))] [] [] id ?_
  refine seq_in ?_
  rcases oC H with ⟨c20, H⟩ | ⟨c20, H⟩
  ·refine it c20 ?_
   refine sk ?_
   refine seq_in ?_
   refine ends_blk ?_
   obtain ⟨v21, h22, H⟩ := oB H
   refine sn [.cs (eI v21)] [] [(12, cI v21)] [] [] (a2 eI h22) ?_
   obtain ⟨v23, h24, H⟩ := oB H
   refine sn [.res (.tup [(true, [jI v23.1.Turn, jI v23.1.Weather, dat 4 eTUnit zTUnit v23.1.Units]), (false, [.bool v23.2])])] [] [(13, pk 13), (14, cB v23.2)] [] [(13, va (eTState v23.1))] (aI (s_gRetreat_ok p0 (TState.mk x18.2.2.1 x18.2.2.2.1 x18.2.2.2.2) v21 p3 v23 h24)) ?_
   refine sn [] [] [] [5] [(5, va (eTState v23.1))] id ?_
   refine sn [] [] [(32, cB v23.2)] [13] [] id ?_
   rcases oC H with ⟨c25, H⟩ | ⟨c25, H⟩
   ·refine it c25 ?_
    refine oo [] [] [(3, cI p3), (4, pk 4), (5, pk 5), (8, pk 8), (10, cI (W (x18.1 + 1))), (17, dc 1 eI zI p2), (18, cL p2), (19, cI x18.2.1)] [(4, va (eTBoard p0)), (5, va (eTState v23.1)), (8, .var [jI 0, jI 0, .nil] false)] id ?_
    change EndsI _ _ _ _ _ _
    refine oo [] [] [(3, cI p3), (4, pk 4), (5, pk 5), (8, pk 8), (10, cI (W (x18.1 + 1))), (17, dc 1 eI zI p2), (18, cL p2), (19, cI (W (x18.2.1 + 1)))] [(4, va (eTBoard p0)), (5, va (eTState v23.1)), (8, .var [jI 0, jI 0, .nil] false)] id ?_
    cases H
    exact rr
   ·refine jf c25 ?_
    refine sk ?_
    refine oo [] [] [(3, cI p3), (4, pk 4), (5, pk 5), (8, pk 8), (10, cI x18.1), (17, dc 1 eI zI p2), (18, cL p2), (19, cI (W (x18.2.1 + 1)))] [(4, va (eTBoard p0)), (5, va (eTState v23.1)), (8, .var [jI 0, jI 0, .nil] false)] id ?_
    cases H
    exact rr
  ·refine jf c20 ?_
   refine tl [] [(5, pk 5), (8, pk 8), (10, cI x18.1)] [(5, .var [jI x18.2.2.1, jI x18.2.2.2.1, dat 4 eTUnit zTUnit x18.2.2.2.2] false), (8, .var [jI 0, jI 0, .nil] false)] id ?_
   refine ends_exit ?_
   cases H
   exact rse
 ·clear h27
  rintro e s ⟨rfl, rfl⟩
  change EndsI _ _ _ _ _ _
  refine sn [] [] [(9, cI y26.1)] [8] [(8, .var [jI y26.2.1, jI y26.2.2.1, dat 4 eTUnit zTUnit y26.2.2.2] false)] id ?_
  refine tl [] [(8, pk 8), (9, cI y26.1)] [(8, .var [jI y26.2.1, jI y26.2.2.1, dat 4 eTUnit zTUnit y26.2.2.2] false)] id ?_
  cases H
  exact er
def s_RetreatAll_ir : S :=
 (sq [o 4 (.box 12 (.t 0)), o 5 (.box 3 (.t 1)), o 8 (.alloc [.int .i64 0, .int .i64 0, .nil]), o 9 (.mv (iv 0)), o 10 (.mv bF)]
 (.seq (sq [o 13 (.load 12 true (.t 4)), o 14 (.load 3 true (.t 5)), om 15 2, o 16 (.call 54 [.t 13, .t 14, .t 15]), o 17 (.not (.t 16)), om 18 17, og 19 (.mv (.t 3)) 18, og 20 (.call 55 [.t 19, .v (.int .i64 1), .v (.int .i64 3)]) 18, og 21 (.not (.t 20)) 18, o 22 (.pick (.t 18) bT (.t 21))]
 (.ite (.t 22) (sq [o 23 (.build [.int .i64 0, .int .i64 0, .nil] []), os 3 8 23, o 9 (.mv (iv 0)), o 10 (.mv bF)]
  .ret)
 .skip))
 (sq [o 25 (.load 12 true (.t 4)), o 26 (.load 3 true (.t 5)), om 27 2, om 28 3, o 29 (.call 56 [.t 25, .t 26, .t 27, .t 28]), om 24 29, o 30 (.ext (.t 24) 0), o 31 (.ext (.t 24) 1), o 11 (.alloc [.int .i64 0, .int .i64 0, .nil]), os 3 11 30, om 12 31]
 (sq [o 32 (.load 3 true (.t 11)), om 33 12, os 3 8 32, om 9 33, o 10 (.mv bT)]
 .ret))))
noncomputable def X.s_RetreatAll (p0 : TBoard) (p1 : TState) (p2 : (List Int)) (p3 : Int) : Option (TState × Int × Bool) :=
 ((X.s_gUnits p0 p1 p2).bind fun v7 => (bif (!v7) then some ((TState.mk 0 0 ([] : List TUnit)), 0, false) else ((X.s_l1In p3 1 3).bind fun v10 => (bif (!v10) then some ((TState.mk 0 0 ([] : List TUnit)), 0, false) else ((X.s_gRetreatAll p0 p1 p2 p3).bind fun v13 => some (v13.1, v13.2, true))))))
theorem s_RetreatAll_ok (p0 : TBoard) (p1 : TState) (p2 : (List Int)) (p3 : Int) (r : (TState × Int × Bool)) (H : X.s_RetreatAll p0 p1 p2 p3 = some r) : FK 16 [.agg (eTBoard p0), .agg (eTState p1), .c (dat 1 eI zI p2), cI p3] (.tup [(true, [.int .i64 r.1.Turn, .int .i64 r.1.Weather, dat 4 eTUnit zTUnit r.1.Units]), (false, [.int .i64 r.2.1]), (false, [.bool r.2.2])]) := by
 unfold X.s_RetreatAll at H
 refine fi Tryz.f16 s_RetreatAll_ir [(8, pk 8), (9, cI r.2.1), (10, cB r.2.2)] [(8, va (eTState r.1))] glL Tryz.func16 ?_
 refine sn [] [] [(4, pk 4), (5, pk 5), (8, pk 8)] [] [(4, va (eTBoard p0)), (5, va (eTState p1)), (8, .var [jI 0, jI 0, .nil] false)] id ?_
 refine seq_in ?_
 obtain ⟨v7, h8, H⟩ := oB H
 rcases oC H with ⟨c9, H⟩ | ⟨c9, H⟩
 ·refine sn ([.res (cB v7)] ++ rg 4 true []) [] [(22, cB true)] [] [] (fun t => aI (s_gUnits_ok p0 p1 p2 v7 h8) (aG 4 c9 (t))) ?_
  refine it rT ?_
  refine sn [] [] [(9, cI 0), (10, cB false)] [] [] id ?_
  refine tl [.nldc 8 2 4 (fF eTUnit zTUnit ([] : List TUnit))] [(8, pk 8), (9, cI 0), (10, cB false)] [(8, .var [jI 0, jI 0, dat 4 eTUnit zTUnit ([] : List TUnit)] false)] id ?_
  cases H
  exact er
 ·obtain ⟨v10, h11, H⟩ := oB H
  refine sn ([.res (cB v7)] ++ rg 2 false ([.res (cB v10)] ++ rg 2 false [])) [] [(22, cB (!v10))] [] [] (fun t => aI (s_gUnits_ok p0 p1 p2 v7 h8) (aG 2 c9 (aI (s_l1In_ok p3 1 3 v10 h11) (aG 2 c9 (t))))) ?_
  rcases oC H with ⟨c12, H⟩ | ⟨c12, H⟩
  ·refine it c12 ?_
   refine sn [] [] [(9, cI 0), (10, cB false)] [] [] id ?_
   refine tl [.nldc 8 2 4 (fF eTUnit zTUnit ([] : List TUnit))] [(8, pk 8), (9, cI 0), (10, cB false)] [(8, .var [jI 0, jI 0, dat 4 eTUnit zTUnit ([] : List TUnit)] false)] id ?_
   cases H
   exact er
  ·refine jf c12 ?_
   refine sk ?_
   obtain ⟨v13, h14, H⟩ := oB H
   refine sn [.res (.tup [(true, [jI v13.1.Turn, jI v13.1.Weather, dat 4 eTUnit zTUnit v13.1.Units]), (false, [jI v13.2])])] [] [(11, pk 11), (12, cI v13.2)] [] [(11, va (eTState v13.1))] (aI (s_gRetreatAll_ok p0 p1 p2 p3 v13 h14)) ?_
   refine sn [] [] [(9, cI v13.2), (10, cB true)] [4, 5, 8] [(8, va (eTState v13.1))] id ?_
   refine tl [] [(8, pk 8), (9, cI v13.2), (10, cB true)] [(8, va (eTState v13.1))] id ?_
   cases H
   exact er
def l_toUnit_ir : S :=
 (sq [o 1 (.box 4 (.t 0)), o 2 (.alloc [.int .i64 0, .int .i64 0, .int .i64 0, .int .i64 0])]
 (sq [o 3 (.alloc [.int .i64 0, .int .i64 0, .int .i64 0, .int .i64 0])]
 (sq [oa 4 0 1, ol 5 4, oa 6 0 3, os 1 6 5]
 (sq [oa 7 1 1, ol 8 7, oa 9 1 3, os 1 9 8]
 (sq [oa 10 2 1, ol 11 10, oa 12 2 3, os 1 12 11]
 (sq [oa 13 3 1, ol 14 13, oa 15 3 3, os 1 15 14]
 (sq [o 16 (.load 4 true (.t 3)), os 4 2 16]
 .ret)))))))
noncomputable def X.l_toUnit (p0 : TUnit) : Option TUnit :=
 some p0
theorem l_toUnit_ok (p0 : TUnit) (r : TUnit) (H : X.l_toUnit p0 = some r) : FK 118 [.agg (eTUnit p0)] (.agg (eTUnit r)) := by
 unfold X.l_toUnit at H
 refine fi Tryz.f118 l_toUnit_ir [(2, pk 2)] [(2, va (eTUnit r))] glL Tryz.func118 ?_
 refine so [] [] [(1, pk 1), (2, pk 2)] [(1, va (eTUnit p0)), (2, .var [jI 0, jI 0, jI 0, jI 0] false)] id ?_
 refine sn [] [] [(3, pk 3)] [] [(3, .var [jI 0, jI 0, jI 0, jI 0] false)] id ?_
 refine sn [] [] [] [3] [(3, .var [jI p0.Side, jI 0, jI 0, jI 0] false)] id ?_
 refine sn [] [] [] [3] [(3, .var [jI p0.Side, jI p0.Kind, jI 0, jI 0] false)] id ?_
 refine sn [] [] [] [3] [(3, .var [jI p0.Side, jI p0.Kind, jI p0.At, jI 0] false)] id ?_
 refine sn [] [] [] [3] [(3, va (eTUnit p0))] id ?_
 refine sn [] [] [] [1, 2] [(2, va (eTUnit p0))] id ?_
 refine tl [] [(2, pk 2)] [(2, va (eTUnit p0))] id ?_
 cases H
 exact er
def l_toUnitS_ir : S :=
 (sq [o 2 (.mv (.v (.nil)))]
 (sq [om 5 0, o 6 (.len (.t 5)), o 7 (.msl 4 32 [.int .i64 0, .int .i64 0, .int .i64 0, .int .i64 0] (.t 6)), om 3 7]
 (.seq (sq [o 4 (.mv (iv 0))]
 (.blk 0 (.loop (.seq (sq [om 8 4, om 9 0, o 10 (.len (.t 9)), o 11 (.bin .lss (.t 8) (.t 10))]
   (.ite (.t 11) .skip
   (.exit 0)))
   (.seq (.blk 1 (.ops [om 14 3, om 15 4, om 16 0, om 17 4, o 18 (.iad 4 (.t 16) (.t 17)), o 19 (.load 4 true (.t 18)), o 20 (.call 118 [.t 19]), o 21 (.iad 4 (.t 14) (.t 15)), os 4 21 20]))
   (.ops [om 12 4, o 13 (.bin .add (.t 12) (iv 1)), om 4 13]))))))
 (sq [om 22 3, om 2 22]
 .ret))))
noncomputable def X.l_toUnitS (p0 : (List TUnit)) : Option (List TUnit) :=
 (if 0 ≤ (p0.length : Int) ∧ (p0.length : Int).toNat ≤ LIM then ((loop (fun (x21 : (Int × (List TUnit))) => ((bif (decide (x21.1 < (p0.length : Int))) then ((at' zTUnit p0 x21.1).bind fun v24 => ((X.l_toUnit v24).bind fun v26 => (if 0 ≤ x21.1 ∧ x21.1 < (x21.2.length : Int) then ((some (x21.2.set x21.1.toNat v26)).bind fun l29 => some (Sum.inl ((W (x21.1 + 1)), l29))) else none))) else some (Sum.inr x21.2)) : Option ((Int × (List TUnit)) ⊕ (List TUnit)))) (0, (List.replicate (p0.length : Int).toNat zTUnit))).bind fun y31 => some y31) else none)
theorem l_toUnitS_F_ok (p0 : (List TUnit)) (r : (List TUnit)) (H : X.l_toUnitS p0 = some r) : FK 57 [.c (dat 4 eTUnit zTUnit p0)] (.c (.fr (dat 4 eTUnit zTUnit r))) := by
 unfold X.l_toUnitS at H
 refine fn_fr (fn := Tryz.f57) (ir := l_toUnitS_ir) (s1 := lit [(2, ow 900000 4 r)] [(900000, ar 4 eTUnit zTUnit r)]) (res0 := ow 900000 4 r) glL Tryz.func57 (by kernel_rfl) (by kernel_rfl) (by kernel_rfl) (by kernel_rfl) (FrTo.own rfl (Nat.le_refl _) (fun i _ => ⟨rfl, rfl⟩)) ?_
 refine sn [] [] [] [] [] id ?_
 obtain ⟨g1, H⟩ := oI H
 refine sn [fh eTUnit zTUnit (List.replicate (p0.length : Int).toNat zTUnit)] [] [(3, ow 7 4 (List.replicate (p0.length : Int).toNat zTUnit))] [] [(7, ar 4 eTUnit zTUnit (List.replicate (p0.length : Int).toNat zTUnit))] (fun t => lI p0 (aI (And.intro g1.1 (And.intro (List.length_replicate (n := (p0.length : Int).toNat) (a := zTUnit)).symm (Nat.le_trans (Nat.le_of_eq List.length_replicate) g1.2 : (List.replicate (p0.length : Int).toNat zTUnit).length ≤ LIM))) (aI (fF_rep eTUnit zTUnit zTUnit (p0.length : Int).toNat) (t)))) ?_
 refine seq_in ?_
 refine sn [] [] [(4, cI 0)] [] [] id ?_
 refine ends_blk ?_
 obtain ⟨y31, h32, H⟩ := oB H
 refine tl [] [(0, dc 4 eTUnit zTUnit p0), (3, ow 7 4 (List.replicate (p0.length : Int).toNat zTUnit)), (4, cI 0)] [(7, ar 4 eTUnit zTUnit (List.replicate (p0.length : Int).toNat zTUnit))] id ?_
 refine loop_in (fun (x : (Int × (List TUnit))) => lit [(0, dc 4 eTUnit zTUnit p0), (3, ow 7 4 x.2), (4, cI x.1)] [(7, ar 4 eTUnit zTUnit x.2)]) (fun (z : (List TUnit)) => At (.exit 0) (lit [(3, ow 7 4 z)] [(7, ar 4 eTUnit zTUnit z)])) h32 ?_ ?_
 ·clear H h32
  intro x21 y0 H
  refine seq_in ?_
  refine sn [] [] [(11, cB (decide (x21.1 < (p0.length : Int))))] [] [] (fun t => lI p0 (t)) ?_
  rcases oC H with ⟨c23, H⟩ | ⟨c23, H⟩
  ·refine it c23 ?_
   refine sk ?_
   refine seq_in ?_
   refine ends_blk ?_
   obtain ⟨v24, h25, H⟩ := oB H
   obtain ⟨v26, h27, H⟩ := oB H
   obtain ⟨g28, H⟩ := oI H
   obtain ⟨l29, h30, H⟩ := oB H
   refine oo [.cs (eTUnit v24), .res (.agg (eTUnit v26)), .no, .fn 0 (fF eTUnit zTUnit l29)] [] [(0, dc 4 eTUnit zTUnit p0), (3, ow 7 4 x21.2), (4, cI x21.1)] [(7, .arr 4 x21.2.length (fF eTUnit zTUnit l29) false)] (fun t => (a2 eTUnit h25 (aI (l_toUnit_ok v24 v26 h27) (aI g28 (aI rT (aI (nat_lt g28) (aI (by decide : 0 + 4 ≤ 4) (aI (fF_setN eTUnit zTUnit h30 (nat_lt g28) x21.2.length) (t))))))))) ?_
   change EndsI _ _ _ _ _ _
   refine oo [] [.rel 3 l29.length, .rep 7 l29.length (fF eTUnit zTUnit l29)] [(0, dc 4 eTUnit zTUnit p0), (3, ow 7 4 l29), (4, cI (W (x21.1 + 1)))] [(7, ar 4 eTUnit zTUnit l29)] (fun t => aI (by simp [lenN h30] : x21.2.length = l29.length) (aI (Nat.le_of_eq (by simp [lenN h30] : l29.length = x21.2.length)) (aI (fun _ _ => rfl : ∀ i, i < l29.length → (fF eTUnit zTUnit l29) i = (fF eTUnit zTUnit l29) i) (t)))) ?_
   cases H
   exact rr
  ·refine jf c23 ?_
   refine tl [] [(3, ow 7 4 x21.2)] [(7, ar 4 eTUnit zTUnit x21.2)] id ?_
   refine ends_exit ?_
   cases H
   exact rse
 ·clear h32
  rintro e s ⟨rfl, rfl⟩
  change EndsI _ _ _ _ _ _
  refine sn [] [] [(2, ow 7 4 y31)] [] [] id ?_
  refine tl [.ren 7 900000] [(2, ow 900000 4 y31)] [(900000, ar 4 eTUnit zTUnit y31)] id ?_
  cases H
  exact er
def l_toState_ir : S :=
 (sq [o 1 (.box 3 (.t 0)), o 2 (.alloc [.int .i64 0, .int .i64 0, .nil])]
 (sq [o 3 (.alloc [.int .i64 0, .int .i64 0, .nil])]
 (sq [oa 4 0 1, ol 5 4, oa 6 0 3, os 1 6 5]
 (sq [oa 7 1 1, ol 8 7, oa 9 1 3, os 1 9 8]
 (sq [oa 10 2 1, ol 11 10, o 12 (.call 57 [.t 11]), oa 13 2 3, os 1 13 12]
 (sq [o 14 (.load 3 true (.t 3)), os 3 2 14]
 .ret))))))
noncomputable def X.l_toState (p0 : TState) : Option TState :=
 ((X.l_toUnitS p0.Units).bind fun v1 => some (TState.mk p0.Turn p0.Weather v1))
theorem l_toState_F_ok (p0 : TState) (r : TState) (H : X.l_toState p0 = some r) : FK 17 [.agg (eTState p0)] (.agg (rTState r)) := by
 unfold X.l_toState at H
 refine fn_fr (fn := Tryz.f17) (ir := l_toState_ir) (s1 := lit [(2, pk 2)] [(2, va (rTState r))]) (res0 := .agg (rTState r)) glL Tryz.func17 (by kernel_rfl) (by kernel_rfl) (by kernel_rfl) (by kernel_rfl) ((And.intro ((.inl ⟨rfl, rfl⟩)) (And.intro ((.inl ⟨rfl, rfl⟩)) (And.intro ((.inl ⟨rfl, rfl⟩)) trivial)))) ?_
 refine so [] [] [(1, pk 1), (2, pk 2)] [(1, va (eTState p0)), (2, .var [jI 0, jI 0, .nil] false)] id ?_
 refine sn [] [] [(3, pk 3)] [] [(3, .var [jI 0, jI 0, .nil] false)] id ?_
 refine sn [] [] [] [3] [(3, .var [jI p0.Turn, jI 0, .nil] false)] id ?_
 refine sn [] [] [] [3] [(3, .var [jI p0.Turn, jI p0.Weather, .nil] false)] id ?_
 obtain ⟨v1, h2, H⟩ := oB H
 refine sn [.res (.c (.fr (dat 4 eTUnit zTUnit v1)))] [] [] [3] [(3, .var [jI p0.Turn, jI p0.Weather, .fr (dat 4 eTUnit zTUnit v1)] false)] (aI (l_toUnitS_F_ok p0.Units v1 h2)) ?_
 refine sn [] [] [] [1, 2] [(2, .var [jI p0.Turn, jI p0.Weather, .fr (dat 4 eTUnit zTUnit v1)] false)] id ?_
 refine tl [] [(2, pk 2)] [(2, .var [jI p0.Turn, jI p0.Weather, .fr (dat 4 eTUnit zTUnit v1)] false)] id ?_
 cases H
 exact er
def g_IndexFunc_int_ir : S :=
 (sq [o 4 (.mv (iv 0))]
 (.seq (sq [om 6 0, o 7 (.len (.t 6)), o 8 (.mv (iv 0))]
 (.blk 0 (.loop (sq [o 9 (.bin .lss (.t 8) (.t 7))]
   (.seq (.ite (.t 9) .skip
   (.exit 0))
   (.seq (.blk 1 (sq [om 10 8, om 5 10]
    (sq [om 11 1, om 12 0, om 13 5, o 14 (.iad 1 (.t 12) (.t 13)), ol 15 14, o 16 (.cald (.t 11) [.t 15])]
    (.ite (.t 16) (sq [om 17 5, om 4 17]
     .ret)
    .skip))))
   (.ops [o 18 (.bin .add (.t 8) (iv 1)), om 8 18])))))))
 (sq [o 4 (.mv (.v (.int .i64 (-1))))]
 .ret)))
noncomputable def X.g_IndexFunc_int (p0 : (List Int)) (f1 : Int → Option Bool) : Option Int :=
 ((loop (fun (x16 : Int) => ((bif (decide (x16 < (p0.length : Int))) then ((at' zI p0 x16).bind fun v19 => ((f1 v19).bind fun v21 => (bif v21 then some (Sum.inr (Sum.inr x16)) else some (Sum.inl (W (x16 + 1)))))) else some (Sum.inr (Sum.inl ()))) : Option (Int ⊕ (Unit ⊕ Int)))) 0).bind fun y24 => (Sum.elim (fun (y26 : Unit) => some (-1)) (fun (y27 : Int) => some y27) y24))
theorem g_IndexFunc_int_c2_ok (p0 : (List Int)) (cf1 : FuncId) (cs1_0 : List AC) (cs1_1 : List AC) (f1 : Int → Option Bool) (hf1 : ∀ q0 r, f1 q0 = some r → FK cf1 [cI q0, .c (.pd cs1_0 0), .c (.pd cs1_1 0)] (cB r)) (r : Int) (H : X.g_IndexFunc_int p0 f1 = some r) : FK 147 [.c (dat 1 eI zI p0), .c (.clo cf1 [.pd cs1_0 0, .pd cs1_1 0])] (cI r) := by
 unfold X.g_IndexFunc_int at H
 refine fi Tryz.f147 g_IndexFunc_int_ir [(4, cI r)] [] glL Tryz.func147 ?_
 refine sn [] [] [] [] [] id ?_
 refine seq_in ?_
 refine sn [] [] [(7, cL p0), (8, cI 0)] [] [] (fun t => lI p0 (t)) ?_
 refine ends_blk ?_
 obtain ⟨y24, h25, H⟩ := oB H
 refine tl [] [(0, dc 1 eI zI p0), (1, .c (.clo cf1 [.pd cs1_0 0, .pd cs1_1 0])), (7, cL p0), (8, cI 0)] [] id ?_
 refine loop_in (fun (x : Int) => lit [(0, dc 1 eI zI p0), (1, .c (.clo cf1 [.pd cs1_0 0, .pd cs1_1 0])), (7, cL p0), (8, cI x)] []) (orJ (fun (z : Unit) => At (.exit 0) (lit [] [])) (fun (z : Int) => At .ret (lit [(4, cI z)] []))) h25 ?_ ?_
 ·clear H h25
  intro x16 y0 H
  refine sn [] [] [(9, cB (decide (x16 < (p0.length : Int))))] [] [] id ?_
  refine seq_in ?_
  rcases oC H with ⟨c18, H⟩ | ⟨c18, H⟩
  ·refine it c18 ?_
   refine sk ?_
   refine seq_in ?_
   refine ends_blk ?_
   refine sn [] [] [(5, cI x16)] [] [] id ?_
   obtain ⟨v19, h20, H⟩ := oB H
   obtain ⟨v21, h22, H⟩ := oB H
   refine sn [.cs (eI v19), .res (cB v21)] [] [(16, cB v21)] [] [] (fun t => (a2 eI h20 (aI (hf1 v19 v21 h22) (t)))) ?_
   rcases oC H with ⟨c23, H⟩ | ⟨c23, H⟩
   ·refine it c23 ?_
    refine so [] [] [(4, cI x16)] [] id ?_
    refine ends_ret ?_
    cases H
    exact rsr
   ·refine jf c23 ?_
    refine sk ?_
    refine oo [] [] [(0, dc 1 eI zI p0), (1, .c (.clo cf1 [.pd cs1_0 0, .pd cs1_1 0])), (7, cL p0), (8, cI (W (x16 + 1)))] [] id ?_
    cases H
    exact rr
  ·refine jf c18 ?_
   refine tl [] [] [] id ?_
   refine ends_exit ?_
   cases H
   exact rse
 ·clear h25
  cases y24 with
  | inl y26 =>
   replace H := ofInl H
   rintro e s ⟨rfl, rfl⟩
   change EndsI _ _ _ _ _ _
   refine so [] [] [(4, cI (-1))] [] id ?_
   cases H
   exact er
  | inr y27 =>
   replace H := ofInr H
   rintro e s ⟨rfl, rfl⟩
   cases H
   exact qr
def g_ContainsFunc_int_ir : S :=
 (sq [o 4 (.mv bF)]
 (sq [om 5 0, om 6 1, o 7 (.call 147 [.t 5, .t 6]), o 8 (.bin .geq (.t 7) (iv 0)), om 4 8]
 .ret))
noncomputable def X.g_ContainsFunc_int (p0 : (List Int)) (f1 : Int → Option Bool) : Option Bool :=
 ((X.g_IndexFunc_int p0 f1).bind fun v1 => some (decide (v1 ≥ 0)))
theorem g_ContainsFunc_int_c2_ok (p0 : (List Int)) (cf1 : FuncId) (cs1_0 : List AC) (cs1_1 : List AC) (f1 : Int → Option Bool) (hf1 : ∀ q0 r, f1 q0 = some r → FK cf1 [cI q0, .c (.pd cs1_0 0), .c (.pd cs1_1 0)] (cB r)) (r : Bool) (H : X.g_ContainsFunc_int p0 f1 = some r) : FK 92 [.c (dat 1 eI zI p0), .c (.clo cf1 [.pd cs1_0 0, .pd cs1_1 0])] (cB r) := by
 unfold X.g_ContainsFunc_int at H
 refine fi Tryz.f92 g_ContainsFunc_int_ir [(4, cB r)] [] glL Tryz.func92 ?_
 refine sn [] [] [] [] [] id ?_
 obtain ⟨v1, h2, H⟩ := oB H
 refine so [.res (cI v1)] [] [(4, cB (decide (v1 ≥ 0)))] [] (aI (g_IndexFunc_int_c2_ok p0 (cf1) (cs1_0) (cs1_1) f1 hf1 v1 h2)) ?_
 cases H
 exact er
def i_increasing_ir : S :=
 (sq [o 2 (.mv bF)]
 (.seq (sq [o 3 (.mv (iv 1))]
 (.blk 0 (.loop (.seq (sq [om 4 3, om 5 0, o 6 (.len (.t 5)), o 7 (.bin .lss (.t 4) (.t 6))]
   (.ite (.t 7) .skip
   (.exit 0)))
   (.seq (.blk 1 (.seq (.drw [(0, 1), (0, 2), (0, 5), (1, 5), (2, 5), (3, 5), (4, 5), (0, 6), (1, 6), (2, 6), (3, 6), (4, 6), (5, 6), (0, 7), (1, 7), (2, 7), (3, 7), (4, 7), (0, 8), (1, 8), (2, 8), (3, 8), (4, 8)] [om 10 0, om 11 3, o 12 (.bin .sub (.t 11) (iv 1)), o 13 (.iad 1 (.t 10) (.t 12)), ol 14 13, om 15 0, om 16 3, o 17 (.iad 1 (.t 15) (.t 16)), ol 18 17, o 19 (.bin .geq (.t 14) (.t 18))])
    (.ite (.t 19) (sq [o 2 (.mv bF)]
     .ret)
    .skip)))
   (.ops [om 8 3, o 9 (.bin .add (.t 8) (iv 1)), om 3 9]))))))
 (sq [o 2 (.mv bT)]
 .ret)))
noncomputable def X.i_increasing (p0 : (List Int)) : Option Bool :=
 ((loop (fun (x16 : Int) => ((bif (decide (x16 < (p0.length : Int))) then ((at' zI p0 (W (x16 - 1))).bind fun v19 => ((at' zI p0 x16).bind fun v21 => (bif (decide (v19 ≥ v21)) then some (Sum.inr (Sum.inr false)) else some (Sum.inl (W (x16 + 1)))))) else some (Sum.inr (Sum.inl ()))) : Option (Int ⊕ (Unit ⊕ Bool)))) 1).bind fun y24 => (Sum.elim (fun (y26 : Unit) => some true) (fun (y27 : Bool) => some y27) y24))
theorem i_increasing_ok (p0 : (List Int)) (r : Bool) (H : X.i_increasing p0 = some r) : FK 100 [.c (dat 1 eI zI p0)] (cB r) := by
 unfold X.i_increasing at H
 refine fi Tryz.f100 i_increasing_ir [(2, cB r)] [] glL Tryz.func100 ?_
 refine sn [] [] [] [] [] id ?_
 refine seq_in ?_
 refine sn [] [] [(3, cI 1)] [] [] id ?_
 refine ends_blk ?_
 obtain ⟨y24, h25, H⟩ := oB H
 refine tl [] [(0, dc 1 eI zI p0), (3, cI 1)] [] id ?_
 refine loop_in (fun (x : Int) => lit [(0, dc 1 eI zI p0), (3, cI x)] []) (orJ (fun (z : Unit) => At (.exit 0) (lit [] [])) (fun (z : Bool) => At .ret (lit [(2, cB z)] []))) h25 ?_ ?_
 ·clear H h25
  intro x16 y0 H
  refine seq_in ?_
  refine sn [] [] [(7, cB (decide (x16 < (p0.length : Int))))] [] [] (fun t => lI p0 (t)) ?_
  rcases oC H with ⟨c18, H⟩ | ⟨c18, H⟩
  ·refine it c18 ?_
   refine sk ?_
   refine seq_in ?_
   refine ends_blk ?_
   obtain ⟨v19, h20, H⟩ := oB H
   obtain ⟨v21, h22, H⟩ := oB H
   refine xn [.cs (eI v19), .cs (eI v21)] [] [(19, cB (decide (v19 ≥ v21)))] [] [] (fun t => (a2 eI h20 (aI rN ((a2 eI h22 (aI rN (t))))))) ?_
   rcases oC H with ⟨c23, H⟩ | ⟨c23, H⟩
   ·refine it c23 ?_
    refine so [] [] [(2, cB false)] [] id ?_
    refine ends_ret ?_
    cases H
    exact rsr
   ·refine jf c23 ?_
    refine sk ?_
    refine oo [] [] [(0, dc 1 eI zI p0), (3, cI (W (x16 + 1)))] [] id ?_
    cases H
    exact rr
  ·refine jf c18 ?_
   refine tl [] [] [] id ?_
   refine ends_exit ?_
   cases H
   exact rse
 ·clear h25
  cases y24 with
  | inl y26 =>
   replace H := ofInl H
   rintro e s ⟨rfl, rfl⟩
   change EndsI _ _ _ _ _ _
   refine so [] [] [(2, cB true)] [] id ?_
   cases H
   exact er
  | inr y27 =>
   replace H := ofInr H
   rintro e s ⟨rfl, rfl⟩
   cases H
   exact qr
def i_inRange_ir : S :=
 (sq [o 6 (.mv bF)]
 (sq [om 7 1, om 8 0, o 9 (.bin .leq (.t 7) (.t 8)), om 10 9, oh 11 (.mv (.t 0)) 10, oh 12 (.mv (.t 2)) 10, oh 13 (.bin .leq (.t 11) (.t 12)) 10, o 14 (.pick (.t 10) (.t 13) bF), om 6 14]
 .ret))
noncomputable def X.i_inRange (p0 : Int) (p1 : Int) (p2 : Int) : Option Bool :=
 (bif (decide (p1 ≤ p0)) then some (decide (p0 ≤ p2)) else some false)
theorem i_inRange_ok (p0 : Int) (p1 : Int) (p2 : Int) (r : Bool) (H : X.i_inRange p0 p1 p2 = some r) : FK 59 [cI p0, cI p1, cI p2] (cB r) := by
 unfold X.i_inRange at H
 refine fi Tryz.f59 i_inRange_ir [(6, cB r)] [] glL Tryz.func59 ?_
 refine sn [] [] [] [] [] id ?_
 rcases oC H with ⟨c1, H⟩ | ⟨c1, H⟩
 ·refine so (rg 4 true []) [] [(6, cB (decide (p0 ≤ p2)))] [] (fun t => aG 4 c1 (t)) ?_
  cases H
  exact er
 ·refine so (rg 4 false []) [] [(6, cB false)] [] (fun t => aG 4 c1 (t)) ?_
  cases H
  exact er
def g_IndexFunc_Kind_ir : S :=
 (sq [o 4 (.mv (iv 0))]
 (.seq (sq [om 6 0, o 7 (.len (.t 6)), o 8 (.mv (iv 0))]
 (.blk 0 (.loop (sq [o 9 (.bin .lss (.t 8) (.t 7))]
   (.seq (.ite (.t 9) .skip
   (.exit 0))
   (.seq (.blk 1 (sq [om 10 8, om 5 10]
    (sq [om 11 1, om 12 0, om 13 5, o 14 (.iad 6 (.t 12) (.t 13)), o 15 (.load 6 true (.t 14)), o 16 (.cald (.t 11) [.t 15])]
    (.ite (.t 16) (sq [om 17 5, om 4 17]
     .ret)
    .skip))))
   (.ops [o 18 (.bin .add (.t 8) (iv 1)), om 8 18])))))))
 (sq [o 4 (.mv (.v (.int .i64 (-1))))]
 .ret)))
noncomputable def X.g_IndexFunc_Kind (p0 : (List TKind)) (f1 : TKind → Option Bool) : Option Int :=
 ((loop (fun (x16 : Int) => ((bif (decide (x16 < (p0.length : Int))) then ((at' zTKind p0 x16).bind fun v19 => ((f1 v19).bind fun v21 => (bif v21 then some (Sum.inr (Sum.inr x16)) else some (Sum.inl (W (x16 + 1)))))) else some (Sum.inr (Sum.inl ()))) : Option (Int ⊕ (Unit ⊕ Int)))) 0).bind fun y24 => (Sum.elim (fun (y26 : Unit) => some (-1)) (fun (y27 : Int) => some y27) y24))
theorem g_IndexFunc_Kind_c1_ok (p0 : (List TKind)) (cf1 : FuncId) (cs1_0 : List AC) (f1 : TKind → Option Bool) (hf1 : ∀ q0 r, f1 q0 = some r → FK cf1 [.agg (eTKind q0), .c (.pd cs1_0 0)] (cB r)) (r : Int) (H : X.g_IndexFunc_Kind p0 f1 = some r) : FK 151 [.c (dat 6 eTKind zTKind p0), .c (.clo cf1 [.pd cs1_0 0])] (cI r) := by
 unfold X.g_IndexFunc_Kind at H
 refine fi Tryz.f151 g_IndexFunc_Kind_ir [(4, cI r)] [] glL Tryz.func151 ?_
 refine sn [] [] [] [] [] id ?_
 refine seq_in ?_
 refine sn [] [] [(7, cL p0), (8, cI 0)] [] [] (fun t => lI p0 (t)) ?_
 refine ends_blk ?_
 obtain ⟨y24, h25, H⟩ := oB H
 refine tl [] [(0, dc 6 eTKind zTKind p0), (1, .c (.clo cf1 [.pd cs1_0 0])), (7, cL p0), (8, cI 0)] [] id ?_
 refine loop_in (fun (x : Int) => lit [(0, dc 6 eTKind zTKind p0), (1, .c (.clo cf1 [.pd cs1_0 0])), (7, cL p0), (8, cI x)] []) (orJ (fun (z : Unit) => At (.exit 0) (lit [] [])) (fun (z : Int) => At .ret (lit [(4, cI z)] []))) h25 ?_ ?_
 ·clear H h25
  intro x16 y0 H
  refine sn [] [] [(9, cB (decide (x16 < (p0.length : Int))))] [] [] id ?_
  refine seq_in ?_
  rcases oC H with ⟨c18, H⟩ | ⟨c18, H⟩
  ·refine it c18 ?_
   refine sk ?_
   refine seq_in ?_
   refine ends_blk ?_
   refine sn [] [] [(5, cI x16)] [] [] id ?_
   obtain ⟨v19, h20, H⟩ := oB H
   obtain ⟨v21, h22, H⟩ := oB H
   refine sn [.cs (eTKind v19), .res (cB v21)] [] [(16, cB v21)] [] [] (fun t => (a2 eTKind h20 (aI (hf1 v19 v21 h22) (t)))) ?_
   rcases oC H with ⟨c23, H⟩ | ⟨c23, H⟩
   ·refine it c23 ?_
    refine so [] [] [(4, cI x16)] [] id ?_
    refine ends_ret ?_
    cases H
    exact rsr
   ·refine jf c23 ?_
    refine sk ?_
    refine oo [] [] [(0, dc 6 eTKind zTKind p0), (1, .c (.clo cf1 [.pd cs1_0 0])), (7, cL p0), (8, cI (W (x16 + 1)))] [] id ?_
    cases H
    exact rr
  ·refine jf c18 ?_
   refine tl [] [] [] id ?_
   refine ends_exit ?_
   cases H
   exact rse
 ·clear h25
  cases y24 with
  | inl y26 =>
   replace H := ofInl H
   rintro e s ⟨rfl, rfl⟩
   change EndsI _ _ _ _ _ _
   refine so [] [] [(4, cI (-1))] [] id ?_
   cases H
   exact er
  | inr y27 =>
   replace H := ofInr H
   rintro e s ⟨rfl, rfl⟩
   cases H
   exact qr
def i_kindIndex_1_ir : S :=
 (sq [o 2 (.box 6 (.t 0)), o 3 (.mv bF)]
 (sq [oa 4 0 2, ol 5 4, ol 6 1, o 7 (.bin .eql (.t 5) (.t 6)), om 3 7]
 .ret))
noncomputable def X.i_kindIndex_1 (p0 : TKind) (p1 : (List UInt8)) : Option Bool :=
 some (p0.Name == p1)
theorem i_kindIndex_1_ok (p0 : TKind) (p1 : (List UInt8)) (r : Bool) (H : X.i_kindIndex_1 p0 p1 = some r) : FK 152 [.agg (eTKind p0), .c (.pd (eS p1) 0)] (cB r) := by
 unfold X.i_kindIndex_1 at H
 refine fi Tryz.f152 i_kindIndex_1_ir [(3, cB r)] [] glL Tryz.func152 ?_
 refine sn [] [] [(2, pk 2)] [] [(2, va (eTKind p0))] id ?_
 refine so [] [] [(3, cB (p0.Name == p1))] [] id ?_
 cases H
 exact er
def i_kindIndex_ir : S :=
 (sq [o 3 (.box 1 (.t 1)), o 4 (.mv (iv 0))]
 (sq [om 5 0, o 6 (.clo 152 [.t 3]), o 7 (.call 151 [.t 5, .t 6]), om 4 7]
 .ret))
noncomputable def X.i_kindIndex (p0 : (List TKind)) (p1 : (List UInt8)) : Option Int :=
 ((X.g_IndexFunc_Kind p0 (fun q0 => X.i_kindIndex_1 q0 p1)).bind fun v1 => some v1)
theorem i_kindIndex_ok (p0 : (List TKind)) (p1 : (List UInt8)) (r : Int) (H : X.i_kindIndex p0 p1 = some r) : FK 96 [.c (dat 6 eTKind zTKind p0), .c (.str p1)] (cI r) := by
 unfold X.i_kindIndex at H
 refine fi Tryz.f96 i_kindIndex_ir [(4, cI r)] [] glL Tryz.func96 ?_
 refine sn [] [] [(3, pk 3)] [] [(3, .var [.str p1] false)] id ?_
 obtain ⟨v1, h2, H⟩ := oB H
 refine so [.res (cI v1)] [] [(4, cI v1)] [] (aI (g_IndexFunc_Kind_c1_ok p0 (152) (eS p1) (fun q0 => X.i_kindIndex_1 q0 p1) (fun q0 r h => i_kindIndex_1_ok q0 p1 r h) v1 h2)) ?_
 cases H
 exact er
theorem g_IndexFunc_int_c0_ok (p0 : (List Int)) (cf1 : FuncId) (f1 : Int → Option Bool) (hf1 : ∀ q0 r, f1 q0 = some r → FK cf1 [cI q0] (cB r)) (r : Int) (H : X.g_IndexFunc_int p0 f1 = some r) : FK 147 [.c (dat 1 eI zI p0), .c (.clo cf1 [])] (cI r) := by
 unfold X.g_IndexFunc_int at H
 refine fi Tryz.f147 g_IndexFunc_int_ir [(4, cI r)] [] glL Tryz.func147 ?_
 refine sn [] [] [] [] [] id ?_
 refine seq_in ?_
 refine sn [] [] [(7, cL p0), (8, cI 0)] [] [] (fun t => lI p0 (t)) ?_
 refine ends_blk ?_
 obtain ⟨y24, h25, H⟩ := oB H
 refine tl [] [(0, dc 1 eI zI p0), (1, .c (.clo cf1 [])), (7, cL p0), (8, cI 0)] [] id ?_
 refine loop_in (fun (x : Int) => lit [(0, dc 1 eI zI p0), (1, .c (.clo cf1 [])), (7, cL p0), (8, cI x)] []) (orJ (fun (z : Unit) => At (.exit 0) (lit [] [])) (fun (z : Int) => At .ret (lit [(4, cI z)] []))) h25 ?_ ?_
 ·clear H h25
  intro x16 y0 H
  refine sn [] [] [(9, cB (decide (x16 < (p0.length : Int))))] [] [] id ?_
  refine seq_in ?_
  rcases oC H with ⟨c18, H⟩ | ⟨c18, H⟩
  ·refine it c18 ?_
   refine sk ?_
   refine seq_in ?_
   refine ends_blk ?_
   refine sn [] [] [(5, cI x16)] [] [] id ?_
   obtain ⟨v19, h20, H⟩ := oB H
   obtain ⟨v21, h22, H⟩ := oB H
   refine sn [.cs (eI v19), .res (cB v21)] [] [(16, cB v21)] [] [] (fun t => (a2 eI h20 (aI (hf1 v19 v21 h22) (t)))) ?_
   rcases oC H with ⟨c23, H⟩ | ⟨c23, H⟩
   ·refine it c23 ?_
    refine so [] [] [(4, cI x16)] [] id ?_
    refine ends_ret ?_
    cases H
    exact rsr
   ·refine jf c23 ?_
    refine sk ?_
    refine oo [] [] [(0, dc 1 eI zI p0), (1, .c (.clo cf1 [])), (7, cL p0), (8, cI (W (x16 + 1)))] [] id ?_
    cases H
    exact rr
  ·refine jf c18 ?_
   refine tl [] [] [] id ?_
   refine ends_exit ?_
   cases H
   exact rse
 ·clear h25
  cases y24 with
  | inl y26 =>
   replace H := ofInl H
   rintro e s ⟨rfl, rfl⟩
   change EndsI _ _ _ _ _ _
   refine so [] [] [(4, cI (-1))] [] id ?_
   cases H
   exact er
  | inr y27 =>
   replace H := ofInr H
   rintro e s ⟨rfl, rfl⟩
   cases H
   exact qr
theorem g_ContainsFunc_int_c0_ok (p0 : (List Int)) (cf1 : FuncId) (f1 : Int → Option Bool) (hf1 : ∀ q0 r, f1 q0 = some r → FK cf1 [cI q0] (cB r)) (r : Bool) (H : X.g_ContainsFunc_int p0 f1 = some r) : FK 92 [.c (dat 1 eI zI p0), .c (.clo cf1 [])] (cB r) := by
 unfold X.g_ContainsFunc_int at H
 refine fi Tryz.f92 g_ContainsFunc_int_ir [(4, cB r)] [] glL Tryz.func92 ?_
 refine sn [] [] [] [] [] id ?_
 obtain ⟨v1, h2, H⟩ := oB H
 refine so [.res (cI v1)] [] [(4, cB (decide (v1 ≥ 0)))] [] (aI (g_IndexFunc_int_c0_ok p0 (cf1) f1 hf1 v1 h2)) ?_
 cases H
 exact er
def i_isName_ir : S :=
 (sq [o 2 (.mv bF)]
 (.seq (sq [o 3 (.mv (iv 0))]
 (.blk 0 (.loop (.seq (sq [om 4 3, om 5 0, o 6 (.lens (.t 5)), o 7 (.bin .lss (.t 4) (.t 6))]
   (.ite (.t 7) .skip
   (.exit 0)))
   (.seq (.blk 1 (sq [om 10 0, om 11 3, o 12 (.ixs (.t 10) (.t 11)), o 13 (.bin .lss (.t 12) (.v (.int .u8 97))), om 14 13, og 15 (.mv (.t 0)) 14, og 16 (.mv (.t 3)) 14, og 17 (.ixs (.t 15) (.t 16)) 14, og 18 (.bin .gtr (.t 17) (.v (.int .u8 122))) 14, o 19 (.pick (.t 14) bT (.t 18))]
    (.ite (.t 19) (sq [o 2 (.mv bF)]
     .ret)
    .skip)))
   (.ops [om 8 3, o 9 (.bin .add (.t 8) (iv 1)), om 3 9]))))))
 (sq [om 20 0, o 21 (.lens (.t 20)), o 22 (.call 59 [.t 21, .v (.int .i64 1), .v (.int .i64 8)]), om 2 22]
 .ret)))
noncomputable def X.i_isName (p0 : (List UInt8)) : Option Bool :=
 ((loop (fun (x14 : Int) => ((bif (decide (x14 < (p0.length : Int))) then (if 0 ≤ x14 ∧ x14 < (p0.length : Int) then (bif (decide ((((p0.getD x14.toNat 0).toNat : Nat) : Int) < 97)) then some (Sum.inr (Sum.inr false)) else (if 0 ≤ x14 ∧ x14 < (p0.length : Int) then (bif (decide ((((p0.getD x14.toNat 0).toNat : Nat) : Int) > 122)) then some (Sum.inr (Sum.inr false)) else some (Sum.inl (W (x14 + 1)))) else none)) else none) else some (Sum.inr (Sum.inl ()))) : Option (Int ⊕ (Unit ⊕ Bool)))) 0).bind fun y21 => (Sum.elim (fun (y23 : Unit) => ((X.i_inRange (p0.length : Int) 1 8).bind fun v25 => some v25)) (fun (y24 : Bool) => some y24) y21))
theorem i_isName_ok (p0 : (List UInt8)) (r : Bool) (H : X.i_isName p0 = some r) : FK 180 [.c (.str p0)] (cB r) := by
 unfold X.i_isName at H
 refine fi Tryz.f180 i_isName_ir [(2, cB r)] [] glL Tryz.func180 ?_
 refine sn [] [] [] [] [] id ?_
 refine seq_in ?_
 refine sn [] [] [(3, cI 0)] [] [] id ?_
 refine ends_blk ?_
 obtain ⟨y21, h22, H⟩ := oB H
 refine tl [] [(0, .c (.str p0)), (3, cI 0)] [] id ?_
 refine loop_in (fun (x : Int) => lit [(0, .c (.str p0)), (3, cI x)] []) (orJ (fun (z : Unit) => At (.exit 0) (lit [(0, .c (.str p0))] [])) (fun (z : Bool) => At .ret (lit [(2, cB z)] []))) h22 ?_ ?_
 ·clear H h22
  intro x14 y0 H
  refine seq_in ?_
  refine sn [] [] [(7, cB (decide (x14 < (p0.length : Int))))] [] [] id ?_
  rcases oC H with ⟨c16, H⟩ | ⟨c16, H⟩
  ·refine it c16 ?_
   refine sk ?_
   refine seq_in ?_
   refine ends_blk ?_
   obtain ⟨g17, H⟩ := oI H
   rcases oC H with ⟨c18, H⟩ | ⟨c18, H⟩
   ·refine sn (rg 5 true []) [] [(19, cB true)] [] [] (fun t => aI g17 (aG 5 c18 (t))) ?_
    refine it rT ?_
    refine so [] [] [(2, cB false)] [] id ?_
    refine ends_ret ?_
    cases H
    exact rsr
   ·obtain ⟨g19, H⟩ := oI H
    refine sn (rg 5 false []) [] [(19, cB (decide ((((p0.getD x14.toNat 0).toNat : Nat) : Int) > 122)))] [] [] (fun t => aI g17 (aG 3 c18 (aI g19 (aG 2 c18 (t))))) ?_
    rcases oC H with ⟨c20, H⟩ | ⟨c20, H⟩
    ·refine it c20 ?_
     refine so [] [] [(2, cB false)] [] id ?_
     refine ends_ret ?_
     cases H
     exact rsr
    ·refine jf c20 ?_
     refine sk ?_
     refine oo [] [] [(0, .c (.str p0)), (3, cI (W (x14 + 1)))] [] id ?_
     cases H
     exact rr
  ·refine jf c16 ?_
   refine tl [] [(0, .c (.str p0))] [] id ?_
   refine ends_exit ?_
   cases H
   exact rse
 ·clear h22
  cases y21 with
  | inl y23 =>
   replace H := ofInl H
   rintro e s ⟨rfl, rfl⟩
   change EndsI _ _ _ _ _ _
   obtain ⟨v25, h26, H⟩ := oB H
   refine so [.res (cB v25)] [] [(2, cB v25)] [] (aI (i_inRange_ok (p0.length : Int) 1 8 v25 h26)) ?_
   cases H
   exact er
  | inr y24 =>
   replace H := ofInr H
   rintro e s ⟨rfl, rfl⟩
   cases H
   exact qr
def i_goodTerrain_1_ir : S :=
 (sq [o 2 (.mv bF)]
 (sq [om 3 0, o 4 (.call 59 [.t 3, .v (.int .i64 0), .v (.int .i64 9)]), o 5 (.not (.t 4)), om 2 5]
 .ret))
noncomputable def X.i_goodTerrain_1 (p0 : Int) : Option Bool :=
 ((X.i_inRange p0 0 9).bind fun v1 => some (!v1))
theorem i_goodTerrain_1_ok (p0 : Int) (r : Bool) (H : X.i_goodTerrain_1 p0 = some r) : FK 181 [cI p0] (cB r) := by
 unfold X.i_goodTerrain_1 at H
 refine fi Tryz.f181 i_goodTerrain_1_ir [(2, cB r)] [] glL Tryz.func181 ?_
 refine sn [] [] [] [] [] id ?_
 obtain ⟨v1, h2, H⟩ := oB H
 refine so [.res (cB v1)] [] [(2, cB (!v1))] [] (aI (i_inRange_ok p0 0 9 v1 h2)) ?_
 cases H
 exact er
def i_goodTerrain_ir : S :=
 (sq [o 2 (.box 5 (.t 0)), o 4 (.mv bF)]
 (.seq (sq [oa 5 0 2, ol 6 5, o 7 (.call 180 [.t 6]), o 8 (.not (.t 7)), om 9 8, og 10 (.fad 1 (.t 2)) 9, og 11 (.load 1 false (.t 10)) 9, og 12 (.len (.t 11)) 9, og 13 (.mv (.t 1)) 9, og 14 (.bin .neq (.t 12) (.t 13)) 9, o 15 (.pick (.t 9) bT (.t 14)), om 16 15, og 17 (.fad 2 (.t 2)) 16, og 18 (.load 1 false (.t 17)) 16, og 19 (.call 59 [.t 18, .v (.int .i64 (-3)), .v (.int .i64 3)]) 16, og 20 (.not (.t 19)) 16, o 21 (.pick (.t 16) bT (.t 20)), om 22 21, og 23 (.fad 3 (.t 2)) 22, og 24 (.load 1 false (.t 23)) 22, og 25 (.call 59 [.t 24, .v (.int .i64 0), .v (.int .i64 3)]) 22, og 26 (.not (.t 25)) 22, o 27 (.pick (.t 22) bT (.t 26))]
 (.ite (.t 27) (sq [o 4 (.mv bF)]
  .ret)
 .skip))
 (sq [oa 28 1 2, ol 29 28, o 30 (.call 92 [.t 29, .f 181]), o 31 (.not (.t 30)), om 4 31]
 .ret)))
noncomputable def X.i_goodTerrain (p0 : TTerrain) (p1 : Int) : Option Bool :=
 ((X.i_isName p0.Name).bind fun v1 => (bif (!v1) then some false else (bif ((p0.Cost.length : Int) != p1) then some false else ((X.i_inRange p0.Shift (-3) 3).bind fun v5 => (bif (!v5) then some false else ((X.i_inRange p0.Height 0 3).bind fun v8 => (bif (!v8) then some false else ((X.g_ContainsFunc_int p0.Cost (fun q0 => X.i_goodTerrain_1 q0)).bind fun v11 => some (!v11)))))))))
theorem i_goodTerrain_ok (p0 : TTerrain) (p1 : Int) (r : Bool) (H : X.i_goodTerrain p0 p1 = some r) : FK 143 [.agg (eTTerrain p0), cI p1] (cB r) := by
 unfold X.i_goodTerrain at H
 refine fi Tryz.f143 i_goodTerrain_ir [(4, cB r)] [] glL Tryz.func143 ?_
 refine sn [] [] [(2, pk 2)] [] [(2, va (eTTerrain p0))] id ?_
 refine seq_in ?_
 obtain ⟨v1, h2, H⟩ := oB H
 rcases oC H with ⟨c3, H⟩ | ⟨c3, H⟩
 ·refine sn ([.res (cB v1)] ++ rg 16 true []) [] [(27, cB true)] [] [] (fun t => aI (i_isName_ok p0.Name v1 h2) (aG 6 c3 (aG 10 rT (t)))) ?_
  refine it rT ?_
  refine so [] [] [(4, cB false)] [] id ?_
  cases H
  exact er
 ·rcases oC H with ⟨c4, H⟩ | ⟨c4, H⟩
  ·refine sn ([.res (cB v1)] ++ rg 6 false (rg 10 true [])) [] [(27, cB true)] [] [] (fun t => aI (i_isName_ok p0.Name v1 h2) (aG 3 c3 (lI p0.Cost (aG 3 c3 (aG 5 c4 (aG 5 rT (t))))))) ?_
   refine it rT ?_
   refine so [] [] [(4, cB false)] [] id ?_
   cases H
   exact er
  ·obtain ⟨v5, h6, H⟩ := oB H
   rcases oC H with ⟨c7, H⟩ | ⟨c7, H⟩
   ·refine sn ([.res (cB v1)] ++ rg 9 false ([.res (cB v5)] ++ rg 2 false (rg 5 true []))) [] [(27, cB true)] [] [] (fun t => aI (i_isName_ok p0.Name v1 h2) (aG 3 c3 (lI p0.Cost (aG 3 c3 (aG 3 c4 (aI (i_inRange_ok p0.Shift (-3) 3 v5 h6) (aG 2 c4 (aG 5 c7 (t))))))))) ?_
    refine it rT ?_
    refine so [] [] [(4, cB false)] [] id ?_
    cases H
    exact er
   ·obtain ⟨v8, h9, H⟩ := oB H
    refine sn ([.res (cB v1)] ++ rg 9 false ([.res (cB v5)] ++ rg 5 false ([.res (cB v8)] ++ rg 2 false []))) [] [(27, cB (!v8))] [] [] (fun t => aI (i_isName_ok p0.Name v1 h2) (aG 3 c3 (lI p0.Cost (aG 3 c3 (aG 3 c4 (aI (i_inRange_ok p0.Shift (-3) 3 v5 h6) (aG 2 c4 (aG 3 c7 (aI (i_inRange_ok p0.Height 0 3 v8 h9) (aG 2 c7 (t))))))))))) ?_
    rcases oC H with ⟨c10, H⟩ | ⟨c10, H⟩
    ·refine it c10 ?_
     refine so [] [] [(4, cB false)] [] id ?_
     cases H
     exact er
    ·refine jf c10 ?_
     refine sk ?_
     obtain ⟨v11, h12, H⟩ := oB H
     refine so [.res (cB v11)] [] [(4, cB (!v11))] [] (aI (g_ContainsFunc_int_c0_ok p0.Cost (181) (fun q0 => X.i_goodTerrain_1 q0) (fun q0 r h => i_goodTerrain_1_ok q0 r h) v11 h12)) ?_
     cases H
     exact er
def g_IndexFunc_Terrain_ir : S :=
 (sq [o 4 (.mv (iv 0))]
 (.seq (sq [om 6 0, o 7 (.len (.t 6)), o 8 (.mv (iv 0))]
 (.blk 0 (.loop (sq [o 9 (.bin .lss (.t 8) (.t 7))]
   (.seq (.ite (.t 9) .skip
   (.exit 0))
   (.seq (.blk 1 (sq [om 10 8, om 5 10]
    (sq [om 11 1, om 12 0, om 13 5, o 14 (.iad 5 (.t 12) (.t 13)), o 15 (.load 5 true (.t 14)), o 16 (.cald (.t 11) [.t 15])]
    (.ite (.t 16) (sq [om 17 5, om 4 17]
     .ret)
    .skip))))
   (.ops [o 18 (.bin .add (.t 8) (iv 1)), om 8 18])))))))
 (sq [o 4 (.mv (.v (.int .i64 (-1))))]
 .ret)))
noncomputable def X.g_IndexFunc_Terrain (p0 : (List TTerrain)) (f1 : TTerrain → Option Bool) : Option Int :=
 ((loop (fun (x16 : Int) => ((bif (decide (x16 < (p0.length : Int))) then ((at' zTTerrain p0 x16).bind fun v19 => ((f1 v19).bind fun v21 => (bif v21 then some (Sum.inr (Sum.inr x16)) else some (Sum.inl (W (x16 + 1)))))) else some (Sum.inr (Sum.inl ()))) : Option (Int ⊕ (Unit ⊕ Int)))) 0).bind fun y24 => (Sum.elim (fun (y26 : Unit) => some (-1)) (fun (y27 : Int) => some y27) y24))
theorem g_IndexFunc_Terrain_c1_ok (p0 : (List TTerrain)) (cf1 : FuncId) (cs1_0 : List AC) (f1 : TTerrain → Option Bool) (hf1 : ∀ q0 r, f1 q0 = some r → FK cf1 [.agg (eTTerrain q0), .c (.pd cs1_0 0)] (cB r)) (r : Int) (H : X.g_IndexFunc_Terrain p0 f1 = some r) : FK 182 [.c (dat 5 eTTerrain zTTerrain p0), .c (.clo cf1 [.pd cs1_0 0])] (cI r) := by
 unfold X.g_IndexFunc_Terrain at H
 refine fi Tryz.f182 g_IndexFunc_Terrain_ir [(4, cI r)] [] glL Tryz.func182 ?_
 refine sn [] [] [] [] [] id ?_
 refine seq_in ?_
 refine sn [] [] [(7, cL p0), (8, cI 0)] [] [] (fun t => lI p0 (t)) ?_
 refine ends_blk ?_
 obtain ⟨y24, h25, H⟩ := oB H
 refine tl [] [(0, dc 5 eTTerrain zTTerrain p0), (1, .c (.clo cf1 [.pd cs1_0 0])), (7, cL p0), (8, cI 0)] [] id ?_
 refine loop_in (fun (x : Int) => lit [(0, dc 5 eTTerrain zTTerrain p0), (1, .c (.clo cf1 [.pd cs1_0 0])), (7, cL p0), (8, cI x)] []) (orJ (fun (z : Unit) => At (.exit 0) (lit [] [])) (fun (z : Int) => At .ret (lit [(4, cI z)] []))) h25 ?_ ?_
 ·clear H h25
  intro x16 y0 H
  refine sn [] [] [(9, cB (decide (x16 < (p0.length : Int))))] [] [] id ?_
  refine seq_in ?_
  rcases oC H with ⟨c18, H⟩ | ⟨c18, H⟩
  ·refine it c18 ?_
   refine sk ?_
   refine seq_in ?_
   refine ends_blk ?_
   refine sn [] [] [(5, cI x16)] [] [] id ?_
   obtain ⟨v19, h20, H⟩ := oB H
   obtain ⟨v21, h22, H⟩ := oB H
   refine sn [.cs (eTTerrain v19), .res (cB v21)] [] [(16, cB v21)] [] [] (fun t => (a2 eTTerrain h20 (aI (hf1 v19 v21 h22) (t)))) ?_
   rcases oC H with ⟨c23, H⟩ | ⟨c23, H⟩
   ·refine it c23 ?_
    refine so [] [] [(4, cI x16)] [] id ?_
    refine ends_ret ?_
    cases H
    exact rsr
   ·refine jf c23 ?_
    refine sk ?_
    refine oo [] [] [(0, dc 5 eTTerrain zTTerrain p0), (1, .c (.clo cf1 [.pd cs1_0 0])), (7, cL p0), (8, cI (W (x16 + 1)))] [] id ?_
    cases H
    exact rr
  ·refine jf c18 ?_
   refine tl [] [] [] id ?_
   refine ends_exit ?_
   cases H
   exact rse
 ·clear h25
  cases y24 with
  | inl y26 =>
   replace H := ofInl H
   rintro e s ⟨rfl, rfl⟩
   change EndsI _ _ _ _ _ _
   refine so [] [] [(4, cI (-1))] [] id ?_
   cases H
   exact er
  | inr y27 =>
   replace H := ofInr H
   rintro e s ⟨rfl, rfl⟩
   cases H
   exact qr
def i_terrainIndex_1_ir : S :=
 (sq [o 2 (.box 5 (.t 0)), o 3 (.mv bF)]
 (sq [oa 4 0 2, ol 5 4, ol 6 1, o 7 (.bin .eql (.t 5) (.t 6)), om 3 7]
 .ret))
noncomputable def X.i_terrainIndex_1 (p0 : TTerrain) (p1 : (List UInt8)) : Option Bool :=
 some (p0.Name == p1)
theorem i_terrainIndex_1_ok (p0 : TTerrain) (p1 : (List UInt8)) (r : Bool) (H : X.i_terrainIndex_1 p0 p1 = some r) : FK 183 [.agg (eTTerrain p0), .c (.pd (eS p1) 0)] (cB r) := by
 unfold X.i_terrainIndex_1 at H
 refine fi Tryz.f183 i_terrainIndex_1_ir [(3, cB r)] [] glL Tryz.func183 ?_
 refine sn [] [] [(2, pk 2)] [] [(2, va (eTTerrain p0))] id ?_
 refine so [] [] [(3, cB (p0.Name == p1))] [] id ?_
 cases H
 exact er
def i_terrainIndex_ir : S :=
 (sq [o 3 (.box 1 (.t 1)), o 4 (.mv (iv 0))]
 (sq [om 5 0, o 6 (.clo 183 [.t 3]), o 7 (.call 182 [.t 5, .t 6]), om 4 7]
 .ret))
noncomputable def X.i_terrainIndex (p0 : (List TTerrain)) (p1 : (List UInt8)) : Option Int :=
 ((X.g_IndexFunc_Terrain p0 (fun q0 => X.i_terrainIndex_1 q0 p1)).bind fun v1 => some v1)
theorem i_terrainIndex_ok (p0 : (List TTerrain)) (p1 : (List UInt8)) (r : Int) (H : X.i_terrainIndex p0 p1 = some r) : FK 144 [.c (dat 5 eTTerrain zTTerrain p0), .c (.str p1)] (cI r) := by
 unfold X.i_terrainIndex at H
 refine fi Tryz.f144 i_terrainIndex_ir [(4, cI r)] [] glL Tryz.func144 ?_
 refine sn [] [] [(3, pk 3)] [] [(3, .var [.str p1] false)] id ?_
 obtain ⟨v1, h2, H⟩ := oB H
 refine so [.res (cI v1)] [] [(4, cI v1)] [] (aI (g_IndexFunc_Terrain_c1_ok p0 (183) (eS p1) (fun q0 => X.i_terrainIndex_1 q0 p1) (fun q0 r h => i_terrainIndex_1_ok q0 p1 r h) v1 h2)) ?_
 cases H
 exact er
def i_goodKind_ir : S :=
 (sq [o 1 (.box 6 (.t 0)), o 2 (.mv bF)]
 (sq [oa 3 0 1, ol 4 3, o 5 (.call 180 [.t 4]), om 6 5, oh 7 (.fad 1 (.t 1)) 6, oh 8 (.load 1 false (.t 7)) 6, oh 9 (.call 59 [.t 8, .v (.int .i64 1), .v (.int .i64 9)]) 6, o 10 (.pick (.t 6) (.t 9) bF), om 11 10, oh 12 (.fad 2 (.t 1)) 11, oh 13 (.load 1 false (.t 12)) 11, oh 14 (.call 59 [.t 13, .v (.int .i64 0), .v (.int .i64 9)]) 11, o 15 (.pick (.t 11) (.t 14) bF), om 16 15, oh 17 (.fad 3 (.t 1)) 16, oh 18 (.load 1 false (.t 17)) 16, oh 19 (.call 59 [.t 18, .v (.int .i64 1), .v (.int .i64 4)]) 16, o 20 (.pick (.t 16) (.t 19) bF), om 21 20, oh 22 (.fad 5 (.t 1)) 21, oh 23 (.load 1 false (.t 22)) 21, oh 24 (.call 59 [.t 23, .v (.int .i64 0), .v (.int .i64 4)]) 21, o 25 (.pick (.t 21) (.t 24) bF), om 2 25]
 .ret))
noncomputable def X.i_goodKind (p0 : TKind) : Option Bool :=
 ((X.i_isName p0.Name).bind fun v1 => (bif v1 then ((X.i_inRange p0.Strength 1 9).bind fun v4 => (bif v4 then ((X.i_inRange p0.Moves 0 9).bind fun v7 => (bif v7 then ((X.i_inRange p0.Steps 1 4).bind fun v10 => (bif v10 then ((X.i_inRange p0.View 0 4).bind fun v13 => some v13) else some false)) else some false)) else some false)) else some false))
theorem i_goodKind_ok (p0 : TKind) (r : Bool) (H : X.i_goodKind p0 = some r) : FK 145 [.agg (eTKind p0)] (cB r) := by
 unfold X.i_goodKind at H
 refine fi Tryz.f145 i_goodKind_ir [(2, cB r)] [] glL Tryz.func145 ?_
 refine so [] [] [(1, pk 1)] [(1, va (eTKind p0))] id ?_
 obtain ⟨v1, h2, H⟩ := oB H
 rcases oC H with ⟨c3, H⟩ | ⟨c3, H⟩
 ·obtain ⟨v4, h5, H⟩ := oB H
  rcases oC H with ⟨c6, H⟩ | ⟨c6, H⟩
  ·obtain ⟨v7, h8, H⟩ := oB H
   rcases oC H with ⟨c9, H⟩ | ⟨c9, H⟩
   ·obtain ⟨v10, h11, H⟩ := oB H
    rcases oC H with ⟨c12, H⟩ | ⟨c12, H⟩
    ·obtain ⟨v13, h14, H⟩ := oB H
     refine so ([.res (cB v1)] ++ rg 3 true ([.res (cB v4)] ++ rg 4 true ([.res (cB v7)] ++ rg 4 true ([.res (cB v10)] ++ rg 4 true [.res (cB v13), .g true])))) [] [(2, cB v13)] [] (fun t => aI (i_isName_ok p0.Name v1 h2) (aG 3 c3 (aI (i_inRange_ok p0.Strength 1 9 v4 h5) (aI c3 (aG 3 c6 (aI (i_inRange_ok p0.Moves 0 9 v7 h8) (aI c6 (aG 3 c9 (aI (i_inRange_ok p0.Steps 1 4 v10 h11) (aI c9 (aG 3 c12 (aI (i_inRange_ok p0.View 0 4 v13 h14) (aI c12 (t)))))))))))))) ?_
     cases H
     exact er
    ·refine so ([.res (cB v1)] ++ rg 3 true ([.res (cB v4)] ++ rg 4 true ([.res (cB v7)] ++ rg 4 true ([.res (cB v10), .g true] ++ rg 4 false [])))) [] [(2, cB false)] [] (fun t => aI (i_isName_ok p0.Name v1 h2) (aG 3 c3 (aI (i_inRange_ok p0.Strength 1 9 v4 h5) (aI c3 (aG 3 c6 (aI (i_inRange_ok p0.Moves 0 9 v7 h8) (aI c6 (aG 3 c9 (aI (i_inRange_ok p0.Steps 1 4 v10 h11) (aI c9 (aG 4 c12 (t)))))))))))) ?_
     cases H
     exact er
   ·refine so ([.res (cB v1)] ++ rg 3 true ([.res (cB v4)] ++ rg 4 true ([.res (cB v7), .g true] ++ rg 8 false []))) [] [(2, cB false)] [] (fun t => aI (i_isName_ok p0.Name v1 h2) (aG 3 c3 (aI (i_inRange_ok p0.Strength 1 9 v4 h5) (aI c3 (aG 3 c6 (aI (i_inRange_ok p0.Moves 0 9 v7 h8) (aI c6 (aG 4 c9 (aG 4 rF (t)))))))))) ?_
    cases H
    exact er
  ·refine so ([.res (cB v1)] ++ rg 3 true ([.res (cB v4), .g true] ++ rg 12 false [])) [] [(2, cB false)] [] (fun t => aI (i_isName_ok p0.Name v1 h2) (aG 3 c3 (aI (i_inRange_ok p0.Strength 1 9 v4 h5) (aI c3 (aG 4 c6 (aG 8 rF (t))))))) ?_
   cases H
   exact er
 ·refine so ([.res (cB v1)] ++ rg 16 false []) [] [(2, cB false)] [] (fun t => aI (i_isName_ok p0.Name v1 h2) (aG 4 c3 (aG 12 rF (t)))) ?_
  cases H
  exact er
def i_IsRules_ir : S :=
 (sq [o 1 (.box 7 (.t 0)), o 2 (.mv bF)]
 (.seq (sq [oa 7 0 1, ol 8 7, o 9 (.len (.t 8)), o 10 (.call 59 [.t 9, .v (.int .i64 1), .v (.int .i64 6)]), o 11 (.not (.t 10)), om 12 11, og 13 (.fad 1 (.t 1)) 12, og 14 (.load 1 false (.t 13)) 12, og 15 (.len (.t 14)) 12, og 16 (.call 59 [.t 15, .v (.int .i64 1), .v (.int .i64 4)]) 12, og 17 (.not (.t 16)) 12, o 18 (.pick (.t 12) bT (.t 17))]
 (.ite (.t 18) (sq [o 2 (.mv bF)]
  .ret)
 .skip))
 (.seq (sq [oa 19 0 1, ol 20 19, o 21 (.len (.t 20)), o 22 (.mv (iv 0))]
 (.blk 0 (.loop (sq [o 23 (.bin .lss (.t 22) (.t 21))]
   (.seq (.ite (.t 23) .skip
   (.exit 0))
   (.seq (.blk 1 (sq [om 24 22, o 25 (.iad 5 (.t 20) (.t 22)), o 26 (.load 5 true (.t 25)), o 4 (.alloc [.str [], .nil, .int .i64 0, .int .i64 0, .bool false]), om 3 24, os 5 4 26]
    (sq [o 27 (.load 5 true (.t 4)), oa 28 1 1, ol 29 28, o 30 (.len (.t 29)), o 31 (.call 143 [.t 27, .t 30]), o 32 (.not (.t 31)), om 33 32, og 34 (.fad 0 (.t 1)) 33, og 35 (.load 1 false (.t 34)) 33, og 36 (.fad 0 (.t 4)) 33, og 37 (.load 1 false (.t 36)) 33, og 38 (.call 144 [.t 35, .t 37]) 33, og 39 (.mv (.t 3)) 33, og 40 (.bin .neq (.t 38) (.t 39)) 33, o 41 (.pick (.t 33) bT (.t 40))]
    (.ite (.t 41) (sq [o 2 (.mv bF)]
     .ret)
    .skip))))
   (.ops [o 42 (.bin .add (.t 22) (iv 1)), om 22 42])))))))
 (.seq (sq [oa 43 1 1, ol 44 43, o 45 (.len (.t 44)), o 46 (.mv (iv 0))]
 (.blk 2 (.loop (sq [o 47 (.bin .lss (.t 46) (.t 45))]
   (.seq (.ite (.t 47) .skip
   (.exit 2))
   (.seq (.blk 3 (sq [om 48 46, o 49 (.iad 6 (.t 44) (.t 46)), o 50 (.load 6 true (.t 49)), o 6 (.alloc [.str [], .int .i64 0, .int .i64 0, .int .i64 0, .bool false, .int .i64 0]), om 5 48, os 6 6 50]
    (sq [o 51 (.load 6 true (.t 6)), o 52 (.call 145 [.t 51]), o 53 (.not (.t 52)), om 54 53, og 55 (.fad 1 (.t 1)) 54, og 56 (.load 1 false (.t 55)) 54, og 57 (.fad 0 (.t 6)) 54, og 58 (.load 1 false (.t 57)) 54, og 59 (.call 96 [.t 56, .t 58]) 54, og 60 (.mv (.t 5)) 54, og 61 (.bin .neq (.t 59) (.t 60)) 54, o 62 (.pick (.t 54) bT (.t 61))]
    (.ite (.t 62) (sq [o 2 (.mv bF)]
     .ret)
    .skip))))
   (.ops [o 63 (.bin .add (.t 46) (iv 1)), om 46 63])))))))
 (sq [oa 64 2 1, ol 65 64, o 66 (.call 59 [.t 65, .v (.int .i64 1), .v (.int .i64 4)]), om 67 66, oh 68 (.fad 3 (.t 1)) 67, oh 69 (.load 1 false (.t 68)) 67, oh 70 (.call 59 [.t 69, .v (.int .i64 0), .v (.int .i64 9)]) 67, o 71 (.pick (.t 67) (.t 70) bF), om 72 71, oh 73 (.fad 4 (.t 1)) 72, oh 74 (.load 1 false (.t 73)) 72, oh 75 (.call 59 [.t 74, .v (.int .i64 1), .v (.int .i64 9)]) 72, o 76 (.pick (.t 72) (.t 75) bF), om 77 76, oh 78 (.fad 5 (.t 1)) 77, oh 79 (.load 1 false (.t 78)) 77, oh 80 (.call 59 [.t 79, .v (.int .i64 0), .v (.int .i64 20)]) 77, o 81 (.pick (.t 77) (.t 80) bF), om 82 81, oh 83 (.fad 6 (.t 1)) 82, oh 84 (.load 1 false (.t 83)) 82, oh 85 (.call 59 [.t 84, .v (.int .i64 1), .v (.int .i64 30)]) 82, o 86 (.pick (.t 82) (.t 85) bF), om 2 86]
 .ret)))))
noncomputable def X.i_IsRules (p0 : TRules) : Option Bool :=
 ((X.i_inRange (p0.Terrains.length : Int) 1 6).bind fun v7 => (bif (!v7) then some false else ((X.i_inRange (p0.Kinds.length : Int) 1 4).bind fun v10 => (bif (!v10) then some false else ((loop (fun (x70 : Int) => ((bif (decide (x70 < (p0.Terrains.length : Int))) then ((at' zTTerrain p0.Terrains x70).bind fun v73 => ((X.i_goodTerrain v73 (p0.Kinds.length : Int)).bind fun v75 => (bif (!v75) then some (Sum.inr (Sum.inr false)) else ((X.i_terrainIndex p0.Terrains v73.Name).bind fun v78 => (bif (v78 != x70) then some (Sum.inr (Sum.inr false)) else some (Sum.inl (W (x70 + 1)))))))) else some (Sum.inr (Sum.inl ()))) : Option (Int ⊕ (Unit ⊕ Bool)))) 0).bind fun y81 => (Sum.elim (fun (y83 : Unit) => ((loop (fun (x142 : Int) => ((bif (decide (x142 < (p0.Kinds.length : Int))) then ((at' zTKind p0.Kinds x142).bind fun v145 => ((X.i_goodKind v145).bind fun v147 => (bif (!v147) then some (Sum.inr (Sum.inr false)) else ((X.i_kindIndex p0.Kinds v145.Name).bind fun v150 => (bif (v150 != x142) then some (Sum.inr (Sum.inr false)) else some (Sum.inl (W (x142 + 1)))))))) else some (Sum.inr (Sum.inl ()))) : Option (Int ⊕ (Unit ⊕ Bool)))) 0).bind fun y153 => (Sum.elim (fun (y155 : Unit) => ((X.i_inRange p0.Stack 1 4).bind fun v157 => (bif v157 then ((X.i_inRange p0.River 0 9).bind fun v160 => (bif v160 then ((X.i_inRange p0.Road 1 9).bind fun v163 => (bif v163 then ((X.i_inRange p0.Supply 0 20).bind fun v166 => (bif v166 then ((X.i_inRange p0.Turns 1 30).bind fun v169 => some v169) else some false)) else some false)) else some false)) else some false))) (fun (y156 : Bool) => some y156) y153))) (fun (y84 : Bool) => some y84) y81))))))
theorem i_IsRules_ok (p0 : TRules) (r : Bool) (H : X.i_IsRules p0 = some r) : FK 90 [.agg (eTRules p0)] (cB r) := by
 unfold X.i_IsRules at H
 refine fi Tryz.f90 i_IsRules_ir [(2, cB r)] [] glL Tryz.func90 ?_
 refine so [] [] [(1, pk 1)] [(1, va (eTRules p0))] id ?_
 refine seq_in ?_
 obtain ⟨v7, h8, H⟩ := oB H
 rcases oC H with ⟨c9, H⟩ | ⟨c9, H⟩
 ·refine sn ([.res (cB v7)] ++ rg 6 true []) [] [(18, cB true)] [] [] (fun t => lI p0.Terrains (aI (i_inRange_ok (p0.Terrains.length : Int) 1 6 v7 h8) (aG 6 c9 (t)))) ?_
  refine it rT ?_
  refine so [] [] [(2, cB false)] [] id ?_
  cases H
  exact er
 ·obtain ⟨v10, h11, H⟩ := oB H
  refine sn ([.res (cB v7)] ++ rg 4 false ([.res (cB v10)] ++ rg 2 false [])) [] [(18, cB (!v10))] [] [] (fun t => lI p0.Terrains (aI (i_inRange_ok (p0.Terrains.length : Int) 1 6 v7 h8) (aG 3 c9 (lI p0.Kinds (aI c9 (aI (i_inRange_ok (p0.Kinds.length : Int) 1 4 v10 h11) (aG 2 c9 (t)))))))) ?_
  rcases oC H with ⟨c12, H⟩ | ⟨c12, H⟩
  ·refine it c12 ?_
   refine so [] [] [(2, cB false)] [] id ?_
   cases H
   exact er
  ·refine jf c12 ?_
   refine sk ?_
   refine seq_in ?_
   refine sn [] [] [(20, dc 5 eTTerrain zTTerrain p0.Terrains), (21, cL p0.Terrains), (22, cI 0)] [] [] (fun t => lI p0.Terrains (t)) ?_
   refine ends_blk ?_
   obtain ⟨y81, h82, H⟩ := oB H
   refine tl [] [(1, pk 1), (20, dc 5 eTTerrain zTTerrain p0.Terrains), (21, cL p0.Terrains), (22, cI 0)] [(1, va (eTRules p0))] id ?_
   refine loop_in (fun (x : Int) => lit [(1, pk 1), (20, dc 5 eTTerrain zTTerrain p0.Terrains), (21, cL p0.Terrains), (22, cI x)] [(1, va (eTRules p0))]) (orJ (fun (z : Unit) => At (.exit 0) (lit [(1, pk 1)] [(1, va (eTRules p0))])) (fun (z : Bool) => At .ret (lit [(2, cB z)] []))) h82 ?_ ?_
   ·clear H h82
    intro x70 y0 H
    refine sn [] [] [(23, cB (decide (x70 < (p0.Terrains.length : Int))))] [] [] id ?_
    refine seq_in ?_
    rcases oC H with ⟨c72, H⟩ | ⟨c72, H⟩
    ·refine it c72 ?_
     refine sk ?_
     refine seq_in ?_
     refine ends_blk ?_
     obtain ⟨v73, h74, H⟩ := oB H
     refine sn [.cs (eTTerrain v73)] [] [(3, cI x70), (4, pk 4)] [] [(4, va (eTTerrain v73))] (a2 eTTerrain h74) ?_
     obtain ⟨v75, h76, H⟩ := oB H
     rcases oC H with ⟨c77, H⟩ | ⟨c77, H⟩
     ·refine sn ([.res (cB v75)] ++ rg 8 true []) [] [(41, cB true)] [] [] (fun t => lI p0.Kinds (aI (i_goodTerrain_ok v73 (p0.Kinds.length : Int) v75 h76) (aG 8 c77 (t)))) ?_
      refine it rT ?_
      refine so [] [] [(2, cB false)] [] id ?_
      refine ends_ret ?_
      cases H
      exact rsr
     ·obtain ⟨v78, h79, H⟩ := oB H
      refine sn ([.res (cB v75)] ++ rg 5 false ([.res (cI v78)] ++ rg 3 false [])) [] [(41, cB (v78 != x70))] [] [] (fun t => lI p0.Kinds (aI (i_goodTerrain_ok v73 (p0.Kinds.length : Int) v75 h76) (aG 5 c77 (aI (i_terrainIndex_ok p0.Terrains v73.Name v78 h79) (aG 3 c77 (t)))))) ?_
      rcases oC H with ⟨c80, H⟩ | ⟨c80, H⟩
      ·refine it c80 ?_
       refine so [] [] [(2, cB false)] [] id ?_
       refine ends_ret ?_
       cases H
       exact rsr
      ·refine jf c80 ?_
       refine sk ?_
       refine oo [] [] [(1, pk 1), (20, dc 5 eTTerrain zTTerrain p0.Terrains), (21, cL p0.Terrains), (22, cI (W (x70 + 1)))] [(1, va (eTRules p0))] id ?_
       cases H
       exact rr
    ·refine jf c72 ?_
     refine tl [] [(1, pk 1)] [(1, va (eTRules p0))] id ?_
     refine ends_exit ?_
     cases H
     exact rse
   ·clear h82
    cases y81 with
    | inl y83 =>
     replace H := ofInl H
     rintro e s ⟨rfl, rfl⟩
     change EndsI _ _ _ _ _ _
     refine seq_in ?_
     refine sn [] [] [(44, dc 6 eTKind zTKind p0.Kinds), (45, cL p0.Kinds), (46, cI 0)] [] [] (fun t => lI p0.Kinds (t)) ?_
     refine ends_blk ?_
     obtain ⟨y153, h154, H⟩ := oB H
     refine tl [] [(1, pk 1), (44, dc 6 eTKind zTKind p0.Kinds), (45, cL p0.Kinds), (46, cI 0)] [(1, va (eTRules p0))] id ?_
     refine loop_in (fun (x : Int) => lit [(1, pk 1), (44, dc 6 eTKind zTKind p0.Kinds), (45, cL p0.Kinds), (46, cI x)] [(1, va (eTRules p0))]) (orJ (fun (z : Unit) => At (.exit 2) (lit [(1, pk 1)] [(1, va (eTRules p0))])) (fun (z : Bool) => At .ret (lit [(2, cB z)] []))) h154 ?_ ?_
     ·clear H h154
      intro x142 y0 H
      refine sn [] [] [(47, cB (decide (x142 < (p0.Kinds.length : Int))))] [] [] id ?_
      refine seq_in ?_
      rcases oC H with ⟨c144, H⟩ | ⟨c144, H⟩
      ·refine it c144 ?_
       refine sk ?_
       refine seq_in ?_
       refine ends_blk ?_
       obtain ⟨v145, h146, H⟩ := oB H
       refine sn [.cs (eTKind v145)] [] [(5, cI x142), (6, pk 6)] [] [(6, va (eTKind v145))] (a2 eTKind h146) ?_
       obtain ⟨v147, h148, H⟩ := oB H
       rcases oC H with ⟨c149, H⟩ | ⟨c149, H⟩
       ·refine sn ([.res (cB v147)] ++ rg 8 true []) [] [(62, cB true)] [] [] (fun t => aI (i_goodKind_ok v145 v147 h148) (aG 8 c149 (t))) ?_
        refine it rT ?_
        refine so [] [] [(2, cB false)] [] id ?_
        refine ends_ret ?_
        cases H
        exact rsr
       ·obtain ⟨v150, h151, H⟩ := oB H
        refine sn ([.res (cB v147)] ++ rg 5 false ([.res (cI v150)] ++ rg 3 false [])) [] [(62, cB (v150 != x142))] [] [] (fun t => aI (i_goodKind_ok v145 v147 h148) (aG 5 c149 (aI (i_kindIndex_ok p0.Kinds v145.Name v150 h151) (aG 3 c149 (t))))) ?_
        rcases oC H with ⟨c152, H⟩ | ⟨c152, H⟩
        ·refine it c152 ?_
         refine so [] [] [(2, cB false)] [] id ?_
         refine ends_ret ?_
         cases H
         exact rsr
        ·refine jf c152 ?_
         refine sk ?_
         refine oo [] [] [(1, pk 1), (44, dc 6 eTKind zTKind p0.Kinds), (45, cL p0.Kinds), (46, cI (W (x142 + 1)))] [(1, va (eTRules p0))] id ?_
         cases H
         exact rr
      ·refine jf c144 ?_
       refine tl [] [(1, pk 1)] [(1, va (eTRules p0))] id ?_
       refine ends_exit ?_
       cases H
       exact rse
     ·clear h154
      cases y153 with
      | inl y155 =>
       replace H := ofInl H
       rintro e s ⟨rfl, rfl⟩
       change EndsI _ _ _ _ _ _
       obtain ⟨v157, h158, H⟩ := oB H
       rcases oC H with ⟨c159, H⟩ | ⟨c159, H⟩
       ·obtain ⟨v160, h161, H⟩ := oB H
        rcases oC H with ⟨c162, H⟩ | ⟨c162, H⟩
        ·obtain ⟨v163, h164, H⟩ := oB H
         rcases oC H with ⟨c165, H⟩ | ⟨c165, H⟩
         ·obtain ⟨v166, h167, H⟩ := oB H
          rcases oC H with ⟨c168, H⟩ | ⟨c168, H⟩
          ·obtain ⟨v169, h170, H⟩ := oB H
           refine so ([.res (cB v157)] ++ rg 3 true ([.res (cB v160)] ++ rg 4 true ([.res (cB v163)] ++ rg 4 true ([.res (cB v166)] ++ rg 4 true [.res (cB v169), .g true])))) [] [(2, cB v169)] [] (fun t => aI (i_inRange_ok p0.Stack 1 4 v157 h158) (aG 3 c159 (aI (i_inRange_ok p0.River 0 9 v160 h161) (aI c159 (aG 3 c162 (aI (i_inRange_ok p0.Road 1 9 v163 h164) (aI c162 (aG 3 c165 (aI (i_inRange_ok p0.Supply 0 20 v166 h167) (aI c165 (aG 3 c168 (aI (i_inRange_ok p0.Turns 1 30 v169 h170) (aI c168 (t)))))))))))))) ?_
           cases H
           exact er
          ·refine so ([.res (cB v157)] ++ rg 3 true ([.res (cB v160)] ++ rg 4 true ([.res (cB v163)] ++ rg 4 true ([.res (cB v166), .g true] ++ rg 4 false [])))) [] [(2, cB false)] [] (fun t => aI (i_inRange_ok p0.Stack 1 4 v157 h158) (aG 3 c159 (aI (i_inRange_ok p0.River 0 9 v160 h161) (aI c159 (aG 3 c162 (aI (i_inRange_ok p0.Road 1 9 v163 h164) (aI c162 (aG 3 c165 (aI (i_inRange_ok p0.Supply 0 20 v166 h167) (aI c165 (aG 4 c168 (t)))))))))))) ?_
           cases H
           exact er
         ·refine so ([.res (cB v157)] ++ rg 3 true ([.res (cB v160)] ++ rg 4 true ([.res (cB v163), .g true] ++ rg 8 false []))) [] [(2, cB false)] [] (fun t => aI (i_inRange_ok p0.Stack 1 4 v157 h158) (aG 3 c159 (aI (i_inRange_ok p0.River 0 9 v160 h161) (aI c159 (aG 3 c162 (aI (i_inRange_ok p0.Road 1 9 v163 h164) (aI c162 (aG 4 c165 (aG 4 rF (t)))))))))) ?_
          cases H
          exact er
        ·refine so ([.res (cB v157)] ++ rg 3 true ([.res (cB v160), .g true] ++ rg 12 false [])) [] [(2, cB false)] [] (fun t => aI (i_inRange_ok p0.Stack 1 4 v157 h158) (aG 3 c159 (aI (i_inRange_ok p0.River 0 9 v160 h161) (aI c159 (aG 4 c162 (aG 8 rF (t))))))) ?_
         cases H
         exact er
       ·refine so ([.res (cB v157)] ++ rg 16 false []) [] [(2, cB false)] [] (fun t => aI (i_inRange_ok p0.Stack 1 4 v157 h158) (aG 4 c159 (aG 12 rF (t)))) ?_
        cases H
        exact er
      | inr y156 =>
       replace H := ofInr H
       rintro e s ⟨rfl, rfl⟩
       cases H
       exact qr
    | inr y84 =>
     replace H := ofInr H
     rintro e s ⟨rfl, rfl⟩
     cases H
     exact qr
def i_isIndex_ir : S :=
 (sq [o 4 (.mv bF)]
 (sq [om 5 0, om 6 1, o 7 (.bin .sub (.t 6) (iv 1)), o 8 (.call 59 [.t 5, .v (.int .i64 0), .t 7]), om 4 8]
 .ret))
noncomputable def X.i_isIndex (p0 : Int) (p1 : Int) : Option Bool :=
 ((X.i_inRange p0 0 (W (p1 - 1))).bind fun v1 => some v1)
theorem i_isIndex_ok (p0 : Int) (p1 : Int) (r : Bool) (H : X.i_isIndex p0 p1 = some r) : FK 102 [cI p0, cI p1] (cB r) := by
 unfold X.i_isIndex at H
 refine fi Tryz.f102 i_isIndex_ir [(4, cB r)] [] glL Tryz.func102 ?_
 refine sn [] [] [] [] [] id ?_
 obtain ⟨v1, h2, H⟩ := oB H
 refine so [.res (cB v1)] [] [(4, cB v1)] [] (aI (i_inRange_ok p0 0 (W (p1 - 1)) v1 h2)) ?_
 cases H
 exact er
def i_indexOf_ir : S :=
 (sq [o 2 (.box 5 (.t 0)), o 3 (.box 2 (.t 1)), o 4 (.mv (iv 0))]
 (.seq (sq [oa 5 0 3, ol 6 5, oa 7 0 2, ol 8 7, o 9 (.call 102 [.t 6, .t 8]), o 10 (.not (.t 9)), om 11 10, og 12 (.fad 1 (.t 3)) 11, og 13 (.load 1 false (.t 12)) 11, og 14 (.fad 1 (.t 2)) 11, og 15 (.load 1 false (.t 14)) 11, og 16 (.call 102 [.t 13, .t 15]) 11, og 17 (.not (.t 16)) 11, o 18 (.pick (.t 11) bT (.t 17))]
 (.ite (.t 18) (sq [o 4 (.mv (.v (.int .i64 (-1))))]
  .ret)
 .skip))
 (sq [oa 19 1 3, ol 20 19, oa 21 0 2, ol 22 21, o 23 (.bin .mul (.t 20) (.t 22)), oa 24 0 3, ol 25 24, o 26 (.bin .add (.t 23) (.t 25)), om 4 26]
 .ret)))
noncomputable def X.i_indexOf (p0 : TMap) (p1 : THex) : Option Int :=
 ((X.i_isIndex p1.Q p0.Width).bind fun v7 => (bif (!v7) then some (-1) else ((X.i_isIndex p1.R p0.Height).bind fun v10 => (bif (!v10) then some (-1) else some (W ((W (p1.R * p0.Width)) + p1.Q))))))
theorem i_indexOf_ok (p0 : TMap) (p1 : THex) (r : Int) (H : X.i_indexOf p0 p1 = some r) : FK 223 [.agg (eTMap p0), .agg (eTHex p1)] (cI r) := by
 unfold X.i_indexOf at H
 refine fi Tryz.f223 i_indexOf_ir [(4, cI r)] [] glL Tryz.func223 ?_
 refine so [] [] [(2, pk 2), (3, pk 3)] [(2, va (eTMap p0)), (3, va (eTHex p1))] id ?_
 refine seq_in ?_
 obtain ⟨v7, h8, H⟩ := oB H
 rcases oC H with ⟨c9, H⟩ | ⟨c9, H⟩
 ·refine sn ([.res (cB v7)] ++ rg 7 true []) [] [(18, cB true)] [] [] (fun t => aI (i_isIndex_ok p1.Q p0.Width v7 h8) (aG 7 c9 (t))) ?_
  refine it rT ?_
  refine so [] [] [(4, cI (-1))] [] id ?_
  cases H
  exact er
 ·obtain ⟨v10, h11, H⟩ := oB H
  refine sn ([.res (cB v7)] ++ rg 5 false ([.res (cB v10)] ++ rg 2 false [])) [] [(18, cB (!v10))] [] [] (fun t => aI (i_isIndex_ok p1.Q p0.Width v7 h8) (aG 5 c9 (aI (i_isIndex_ok p1.R p0.Height v10 h11) (aG 2 c9 (t))))) ?_
  rcases oC H with ⟨c12, H⟩ | ⟨c12, H⟩
  ·refine it c12 ?_
   refine so [] [] [(4, cI (-1))] [] id ?_
   cases H
   exact er
  ·refine jf c12 ?_
   refine sk ?_
   refine so [] [] [(4, cI (W ((W (p1.R * p0.Width)) + p1.Q)))] [] id ?_
   cases H
   exact er
def i_stepBy_ir : S :=
 (sq [o 3 (.box 2 (.t 0)), o 6 (.alloc [.int .i64 0, .int .i64 0])]
 (.seq (.drw [(0, 2), (1, 2), (0, 3), (1, 3), (2, 3), (0, 4), (1, 4), (2, 4), (0, 5), (1, 5), (2, 5), (0, 6), (1, 6), (2, 6), (0, 7), (1, 7), (0, 9), (1, 9), (2, 9), (3, 9), (4, 9), (5, 9), (6, 9), (7, 9), (8, 9), (0, 10), (1, 10), (2, 10), (3, 10), (4, 10), (5, 10), (6, 10), (7, 10), (8, 10), (0, 11), (1, 11), (2, 11), (3, 11), (4, 11), (5, 11), (6, 11), (7, 11), (8, 11), (9, 11), (10, 11), (0, 12), (1, 12), (2, 12), (3, 12), (4, 12), (5, 12), (6, 12), (7, 12), (8, 12), (9, 12), (10, 12), (11, 12), (0, 13), (1, 13), (2, 13), (3, 13), (4, 13), (5, 13), (6, 13), (7, 13), (8, 13), (9, 13), (10, 13), (11, 13), (0, 14), (1, 14), (2, 14), (3, 14), (4, 14), (5, 14), (6, 14), (7, 14), (8, 14), (9, 14), (10, 14), (11, 14), (0, 15), (1, 15), (2, 15), (3, 15), (4, 15), (5, 15), (6, 15), (7, 15), (8, 15), (9, 15), (10, 15), (11, 15), (0, 16), (1, 16), (2, 16), (3, 16), (4, 16), (5, 16), (6, 16), (7, 16), (8, 16), (9, 16), (10, 16), (0, 17), (1, 17), (2, 17), (3, 17), (4, 17), (5, 17), (6, 17), (7, 17), (8, 17)] [oa 7 0 3, ol 8 7, om 9 2, om 10 1, o 11 (.iar 6 2 (.g 6) (.t 10)), oa 12 0 11, ol 13 12, o 14 (.bin .mul (.t 9) (.t 13)), o 15 (.bin .add (.t 8) (.t 14)), oa 16 1 3, ol 17 16, om 18 2, om 19 1, o 20 (.iar 6 2 (.g 6) (.t 19)), oa 21 1 20, ol 22 21, o 23 (.bin .mul (.t 18) (.t 22)), o 24 (.bin .add (.t 17) (.t 23)), o 25 (.build [.int .i64 0, .int .i64 0] [(0, 1, .t 15), (1, 1, .t 24)]), os 2 6 25])
 .ret))
noncomputable def X.i_stepBy (p0 : THex) (p1 : Int) (p2 : Int) : Option THex :=
 ((at' zTHex dirs p1).bind fun v1 => some (THex.mk (W (p0.Q + (W (p2 * v1.Q)))) (W (p0.R + (W (p2 * v1.R))))))
theorem i_stepBy_ok (p0 : THex) (p1 : Int) (p2 : Int) (r : THex) (H : X.i_stepBy p0 p1 p2 = some r) : FK 224 [.agg (eTHex p0), cI p1, cI p2] (.agg (eTHex r)) := by
 unfold X.i_stepBy at H
 refine fi Tryz.f224 i_stepBy_ir [(6, pk 6)] [(6, va (eTHex r))] glL Tryz.func224 ?_
 refine sn [] [] [(3, pk 3), (6, pk 6)] [] [(3, va (eTHex p0)), (6, .var [jI 0, jI 0] false)] id ?_
 obtain ⟨v1, h2, H⟩ := oB H
 refine xn [.cs (eTHex v1), .cs (eTHex v1)] [] [] [6] [(6, .var [jI (W (p0.Q + (W (p2 * v1.Q)))), jI (W (p0.R + (W (p2 * v1.R))))] false)] (fun t => aI (at_lt h2) (aI (dirs_at h2) (aI rN (aI (at_lt h2) (aI (dirs_at h2) (aI rN (t))))))) ?_
 refine tl [] [(6, pk 6)] [(6, .var [jI (W (p0.Q + (W (p2 * v1.Q)))), jI (W (p0.R + (W (p2 * v1.R))))] false)] id ?_
 cases H
 exact er
def i_hexOf_ir : S :=
 (sq [o 2 (.box 5 (.t 0)), o 4 (.alloc [.int .i64 0, .int .i64 0])]
 (.seq (.drw [(0, 1), (0, 2), (0, 4), (1, 4), (2, 4), (3, 4), (0, 5), (1, 5), (2, 5), (3, 5), (4, 5), (0, 6), (1, 6), (2, 6), (3, 6), (4, 6), (0, 7), (1, 7), (2, 7), (3, 7)] [om 5 1, oa 6 0 2, ol 7 6, o 8 (.bin .rem (.t 5) (.t 7)), om 9 1, oa 10 0 2, ol 11 10, o 12 (.bin .quo (.t 9) (.t 11)), o 13 (.build [.int .i64 0, .int .i64 0] [(0, 1, .t 8), (1, 1, .t 12)]), os 2 4 13])
 .ret))
noncomputable def X.i_hexOf (p0 : TMap) (p1 : Int) : Option THex :=
 (if p0.Width ≠ 0 then (if p0.Width ≠ 0 then some (THex.mk (Int.tmod p1 p0.Width) (W (Int.tdiv p1 p0.Width))) else none) else none)
theorem i_hexOf_ok (p0 : TMap) (p1 : Int) (r : THex) (H : X.i_hexOf p0 p1 = some r) : FK 225 [.agg (eTMap p0), cI p1] (.agg (eTHex r)) := by
 unfold X.i_hexOf at H
 refine fi Tryz.f225 i_hexOf_ir [(4, pk 4)] [(4, va (eTHex r))] glL Tryz.func225 ?_
 refine sn [] [] [(2, pk 2), (4, pk 4)] [] [(2, va (eTMap p0)), (4, .var [jI 0, jI 0] false)] id ?_
 obtain ⟨g1, H⟩ := oI H
 obtain ⟨g2, H⟩ := oI H
 refine xn [] [] [] [4] [(4, .var [jI (Int.tmod p1 p0.Width), jI (W (Int.tdiv p1 p0.Width))] false)] (fun t => aI g1 (aI g2 (t))) ?_
 refine tl [] [(4, pk 4)] [(4, .var [jI (Int.tmod p1 p0.Width), jI (W (Int.tdiv p1 p0.Width))] false)] id ?_
 cases H
 exact er
def i_nextTo_ir : S :=
 (sq [o 3 (.box 5 (.t 0)), o 6 (.mv (iv 0))]
 (.seq (.drw [(0, 1), (0, 2), (1, 2), (0, 3), (0, 4), (1, 4), (2, 4), (3, 4), (0, 5)] [o 7 (.load 5 true (.t 3)), o 8 (.load 5 true (.t 3)), om 9 1, o 10 (.call 225 [.t 8, .t 9]), om 11 2, o 12 (.call 224 [.t 10, .t 11, .v (.int .i64 1)]), o 13 (.call 223 [.t 7, .t 12]), om 6 13])
 .ret))
noncomputable def X.i_nextTo (p0 : TMap) (p1 : Int) (p2 : Int) : Option Int :=
 ((X.i_hexOf p0 p1).bind fun v1 => ((X.i_stepBy v1 p2 1).bind fun v3 => ((X.i_indexOf p0 v3).bind fun v5 => some v5)))
theorem i_nextTo_ok (p0 : TMap) (p1 : Int) (p2 : Int) (r : Int) (H : X.i_nextTo p0 p1 p2 = some r) : FK 184 [.agg (eTMap p0), cI p1, cI p2] (cI r) := by
 unfold X.i_nextTo at H
 refine fi Tryz.f184 i_nextTo_ir [(6, cI r)] [] glL Tryz.func184 ?_
 refine sn [] [] [(3, pk 3)] [] [(3, va (eTMap p0))] id ?_
 obtain ⟨v1, h2, H⟩ := oB H
 obtain ⟨v3, h4, H⟩ := oB H
 obtain ⟨v5, h6, H⟩ := oB H
 refine sx [.res (.agg (eTHex v1)), .res (.agg (eTHex v3)), .res (cI v5)] [] [(6, cI v5)] [] (fun t => aI (i_hexOf_ok p0 p1 v1 h2) (aI trivial (aI rN (aI (i_stepBy_ok v1 p2 1 v3 h4) (aI trivial (aI rN (aI (i_indexOf_ok p0 v3 v5 h6) (aI trivial (aI rN (t)))))))))) ?_
 cases H
 exact er
def i_isEdge_ir : S :=
 (sq [o 2 (.box 5 (.t 0)), o 4 (.mv bF)]
 (sq [om 5 1, oa 6 0 2, ol 7 6, o 8 (.bin .mul (iv 3) (.t 7)), oa 9 1 2, ol 10 9, o 11 (.bin .mul (.t 8) (.t 10)), o 12 (.bin .sub (.t 11) (iv 1)), o 13 (.call 59 [.t 5, .v (.int .i64 0), .t 12]), om 14 13, oh 15 (.load 5 true (.t 2)) 14, oh 16 (.mv (.t 1)) 14, oh 17 (.bin .quo (.t 16) (iv 3)) 14, oh 18 (.mv (.t 1)) 14, oh 19 (.bin .rem (.t 18) (iv 3)) 14, oh 20 (.call 184 [.t 15, .t 17, .t 19]) 14, oh 21 (.bin .geq (.t 20) (iv 0)) 14, o 22 (.pick (.t 14) (.t 21) bF), om 4 22]
 .ret))
noncomputable def X.i_isEdge (p0 : TMap) (p1 : Int) : Option Bool :=
 ((X.i_inRange p1 0 (W ((W ((W (3 * p0.Width)) * p0.Height)) - 1))).bind fun v1 => (bif v1 then ((X.i_nextTo p0 (W (Int.tdiv p1 3)) (Int.tmod p1 3)).bind fun v4 => some (decide (v4 ≥ 0))) else some false))
theorem i_isEdge_ok (p0 : TMap) (p1 : Int) (r : Bool) (H : X.i_isEdge p0 p1 = some r) : FK 146 [.agg (eTMap p0), cI p1] (cB r) := by
 unfold X.i_isEdge at H
 refine fi Tryz.f146 i_isEdge_ir [(4, cB r)] [] glL Tryz.func146 ?_
 refine sn [] [] [(2, pk 2)] [] [(2, va (eTMap p0))] id ?_
 obtain ⟨v1, h2, H⟩ := oB H
 rcases oC H with ⟨c3, H⟩ | ⟨c3, H⟩
 ·obtain ⟨v4, h5, H⟩ := oB H
  refine so ([.res (cB v1)] ++ rg 6 true ([.res (cI v4)] ++ rg 2 true [])) [] [(4, cB (decide (v4 ≥ 0)))] [] (fun t => aI (i_inRange_ok p1 0 (W ((W ((W (3 * p0.Width)) * p0.Height)) - 1)) v1 h2) (aG 3 c3 (aI (by decide : (3 : Int) ≠ 0) (aG 2 c3 (aI (by decide : (3 : Int) ≠ 0) (aI c3 (aI (i_nextTo_ok p0 (W (Int.tdiv p1 3)) (Int.tmod p1 3) v4 h5) (aG 2 c3 (t))))))))) ?_
  cases H
  exact er
 ·refine so ([.res (cB v1)] ++ rg 8 false []) [] [(4, cB false)] [] (fun t => aI (i_inRange_ok p1 0 (W ((W ((W (3 * p0.Width)) * p0.Height)) - 1)) v1 h2) (aG 8 c3 (t))) ?_
  cases H
  exact er
def i_IsMap_ir : S :=
 (sq [o 1 (.box 5 (.t 0)), o 2 (.mv bF)]
 (.seq (sq [oa 9 0 1, ol 10 9, o 11 (.call 59 [.t 10, .v (.int .i64 1), .v (.int .i64 10)]), o 12 (.not (.t 11)), om 13 12, og 14 (.fad 1 (.t 1)) 13, og 15 (.load 1 false (.t 14)) 13, og 16 (.call 59 [.t 15, .v (.int .i64 1), .v (.int .i64 10)]) 13, og 17 (.not (.t 16)) 13, o 18 (.pick (.t 13) bT (.t 17)), om 19 18, og 20 (.fad 2 (.t 1)) 19, og 21 (.load 1 false (.t 20)) 19, og 22 (.len (.t 21)) 19, og 23 (.fad 0 (.t 1)) 19, og 24 (.load 1 false (.t 23)) 19, og 25 (.fad 1 (.t 1)) 19, og 26 (.load 1 false (.t 25)) 19, og 27 (.bin .mul (.t 24) (.t 26)) 19, og 28 (.bin .neq (.t 22) (.t 27)) 19, o 29 (.pick (.t 19) bT (.t 28))]
 (.ite (.t 29) (sq [o 2 (.mv bF)]
  .ret)
 .skip))
 (.seq (sq [oa 30 2 1, ol 31 30, o 32 (.len (.t 31)), o 33 (.mv (iv 0))]
 (.blk 0 (.loop (sq [o 34 (.bin .lss (.t 33) (.t 32))]
   (.seq (.ite (.t 34) .skip
   (.exit 0))
   (.seq (.blk 1 (sq [o 35 (.iad 1 (.t 31) (.t 33)), ol 36 35, om 4 36]
    (sq [om 37 4, o 38 (.call 102 [.t 37, .v (.int .i64 6)]), o 39 (.not (.t 38))]
    (.ite (.t 39) (sq [o 2 (.mv bF)]
     .ret)
    .skip))))
   (.ops [o 40 (.bin .add (.t 33) (iv 1)), om 33 40])))))))
 (.seq (sq [oa 41 3 1, ol 42 41, oa 43 4 1, ol 44 43, o 45 (.bsl 1 [.t 42, .t 44]), o 46 (.len (.t 45)), o 47 (.mv (iv 0))]
 (.blk 2 (.loop (sq [o 48 (.bin .lss (.t 47) (.t 46))]
   (.seq (.ite (.t 48) .skip
   (.exit 2))
   (.seq (.blk 3 (sq [o 49 (.iad 1 (.t 45) (.t 47)), ol 50 49, om 6 50]
    (.seq (sq [om 51 6, o 52 (.call 100 [.t 51]), o 53 (.not (.t 52))]
    (.ite (.t 53) (sq [o 2 (.mv bF)]
     .ret)
    .skip))
    (sq [om 54 6, o 55 (.len (.t 54)), o 56 (.mv (iv 0))]
    (.blk 4 (.loop (sq [o 57 (.bin .lss (.t 56) (.t 55))]
      (.seq (.ite (.t 57) .skip
      (.exit 4))
      (.seq (.blk 5 (sq [o 58 (.iad 1 (.t 54) (.t 56)), ol 59 58, om 8 59]
       (sq [o 60 (.load 5 true (.t 1)), om 61 8, o 62 (.call 146 [.t 60, .t 61]), o 63 (.not (.t 62))]
       (.ite (.t 63) (sq [o 2 (.mv bF)]
        .ret)
       .skip))))
      (.ops [o 64 (.bin .add (.t 56) (iv 1)), om 56 64]))))))))))
   (.ops [o 65 (.bin .add (.t 47) (iv 1)), om 47 65])))))))
 (sq [o 2 (.mv bT)]
 .ret)))))
noncomputable def X.i_IsMap (p0 : TMap) : Option Bool :=
 ((X.i_inRange p0.Width 1 10).bind fun v8 => (bif (!v8) then some false else ((X.i_inRange p0.Height 1 10).bind fun v11 => (bif (!v11) then some false else (bif ((p0.Terrain.length : Int) != (W (p0.Width * p0.Height))) then some false else ((loop (fun (x57 : Int) => ((bif (decide (x57 < (p0.Terrain.length : Int))) then ((at' zI p0.Terrain x57).bind fun v60 => ((X.i_isIndex v60 6).bind fun v62 => (bif (!v62) then some (Sum.inr (Sum.inr false)) else some (Sum.inl (W (x57 + 1)))))) else some (Sum.inr (Sum.inl ()))) : Option (Int ⊕ (Unit ⊕ Bool)))) 0).bind fun y65 => (Sum.elim (fun (y67 : Unit) => ((loop (fun (x142 : Int) => ((bif (decide (x142 < (([p0.Rivers, p0.Roads] : List (List Int)).length : Int))) then (if 0 ≤ x142 ∧ x142 < (([p0.Rivers, p0.Roads] : List (List Int)).length : Int) then ((X.i_increasing (([p0.Rivers, p0.Roads] : List (List Int)).getD x142.toNat zLI)).bind fun v149 => (bif (!v149) then some (Sum.inr (Sum.inr false)) else ((loop (fun (x167 : Int) => ((bif (decide (x167 < ((([p0.Rivers, p0.Roads] : List (List Int)).getD x142.toNat zLI).length : Int))) then ((at' zI (([p0.Rivers, p0.Roads] : List (List Int)).getD x142.toNat zLI) x167).bind fun v170 => ((X.i_isEdge p0 v170).bind fun v172 => (bif (!v172) then some (Sum.inr (Sum.inr false)) else some (Sum.inl (W (x167 + 1)))))) else some (Sum.inr (Sum.inl ()))) : Option (Int ⊕ (Unit ⊕ Bool)))) 0).bind fun y175 => (Sum.elim (fun (y177 : Unit) => some (Sum.inl (W (x142 + 1)))) (fun (y178 : Bool) => some (Sum.inr (Sum.inr y178))) y175)))) else none) else some (Sum.inr (Sum.inl ()))) : Option (Int ⊕ (Unit ⊕ Bool)))) 0).bind fun y179 => (Sum.elim (fun (y181 : Unit) => some true) (fun (y182 : Bool) => some y182) y179))) (fun (y68 : Bool) => some y68) y65)))))))
theorem i_IsMap_ok (p0 : TMap) (r : Bool) (H : X.i_IsMap p0 = some r) : FK 91 [.agg (eTMap p0)] (cB r) := by
 unfold X.i_IsMap at H
 refine fi Tryz.f91 i_IsMap_ir [(2, cB r)] [] glL Tryz.func91 ?_
 refine so [] [] [(1, pk 1)] [(1, va (eTMap p0))] id ?_
 refine seq_in ?_
 obtain ⟨v8, h9, H⟩ := oB H
 rcases oC H with ⟨c10, H⟩ | ⟨c10, H⟩
 ·refine sn ([.res (cB v8)] ++ rg 15 true []) [] [(29, cB true)] [] [] (fun t => aI (i_inRange_ok p0.Width 1 10 v8 h9) (aG 5 c10 (aG 10 rT (t)))) ?_
  refine it rT ?_
  refine so [] [] [(2, cB false)] [] id ?_
  cases H
  exact er
 ·obtain ⟨v11, h12, H⟩ := oB H
  rcases oC H with ⟨c13, H⟩ | ⟨c13, H⟩
  ·refine sn ([.res (cB v8)] ++ rg 3 false ([.res (cB v11)] ++ rg 2 false (rg 10 true []))) [] [(29, cB true)] [] [] (fun t => aI (i_inRange_ok p0.Width 1 10 v8 h9) (aG 3 c10 (aI (i_inRange_ok p0.Height 1 10 v11 h12) (aG 2 c10 (aG 10 c13 (t)))))) ?_
   refine it rT ?_
   refine so [] [] [(2, cB false)] [] id ?_
   cases H
   exact er
  ·refine sn ([.res (cB v8)] ++ rg 3 false ([.res (cB v11)] ++ rg 12 false [])) [] [(29, cB ((p0.Terrain.length : Int) != (W (p0.Width * p0.Height))))] [] [] (fun t => aI (i_inRange_ok p0.Width 1 10 v8 h9) (aG 3 c10 (aI (i_inRange_ok p0.Height 1 10 v11 h12) (aG 2 c10 (aG 3 c13 (lI p0.Terrain (aG 7 c13 (t)))))))) ?_
   rcases oC H with ⟨c14, H⟩ | ⟨c14, H⟩
   ·refine it c14 ?_
    refine so [] [] [(2, cB false)] [] id ?_
    cases H
    exact er
   ·refine jf c14 ?_
    refine sk ?_
    refine seq_in ?_
    refine sn [] [] [(31, dc 1 eI zI p0.Terrain), (32, cL p0.Terrain), (33, cI 0)] [] [] (fun t => lI p0.Terrain (t)) ?_
    refine ends_blk ?_
    obtain ⟨y65, h66, H⟩ := oB H
    refine tl [] [(1, pk 1), (31, dc 1 eI zI p0.Terrain), (32, cL p0.Terrain), (33, cI 0)] [(1, va (eTMap p0))] id ?_
    refine loop_in (fun (x : Int) => lit [(1, pk 1), (31, dc 1 eI zI p0.Terrain), (32, cL p0.Terrain), (33, cI x)] [(1, va (eTMap p0))]) (orJ (fun (z : Unit) => At (.exit 0) (lit [(1, pk 1)] [(1, va (eTMap p0))])) (fun (z : Bool) => At .ret (lit [(2, cB z)] []))) h66 ?_ ?_
    ·clear H h66
     intro x57 y0 H
     refine sn [] [] [(34, cB (decide (x57 < (p0.Terrain.length : Int))))] [] [] id ?_
     refine seq_in ?_
     rcases oC H with ⟨c59, H⟩ | ⟨c59, H⟩
     ·refine it c59 ?_
      refine sk ?_
      refine seq_in ?_
      refine ends_blk ?_
      obtain ⟨v60, h61, H⟩ := oB H
      refine sn [.cs (eI v60)] [] [(4, cI v60)] [] [] (a2 eI h61) ?_
      obtain ⟨v62, h63, H⟩ := oB H
      refine sn [.res (cB v62)] [] [(39, cB (!v62))] [] [] (aI (i_isIndex_ok v60 6 v62 h63)) ?_
      rcases oC H with ⟨c64, H⟩ | ⟨c64, H⟩
      ·refine it c64 ?_
       refine so [] [] [(2, cB false)] [] id ?_
       refine ends_ret ?_
       cases H
       exact rsr
      ·refine jf c64 ?_
       refine sk ?_
       refine oo [] [] [(1, pk 1), (31, dc 1 eI zI p0.Terrain), (32, cL p0.Terrain), (33, cI (W (x57 + 1)))] [(1, va (eTMap p0))] id ?_
       cases H
       exact rr
     ·refine jf c59 ?_
      refine tl [] [(1, pk 1)] [(1, va (eTMap p0))] id ?_
      refine ends_exit ?_
      cases H
      exact rse
    ·clear h66
     cases y65 with
     | inl y67 =>
      replace H := ofInl H
      rintro e s ⟨rfl, rfl⟩
      change EndsI _ _ _ _ _ _
      refine seq_in ?_
      refine sn [fh eLI zLI ([p0.Rivers, p0.Roads] : List (List Int))] [] [(45, ow 45 1 ([p0.Rivers, p0.Roads] : List (List Int))), (46, cL ([p0.Rivers, p0.Roads] : List (List Int))), (47, cI 0)] [] [(45, ar 1 eLI zLI ([p0.Rivers, p0.Roads] : List (List Int)))] (fun t => aI (rfl : ([p0.Rivers, p0.Roads] : List (List Int)).length = 2) (aI (fF_lit eLI zLI ([p0.Rivers, p0.Roads] : List (List Int))) ((fun (_ : ([p0.Rivers, p0.Roads] : List (List Int)).length ≤ maxLen) => t)))) ?_
      refine ends_blk ?_
      obtain ⟨y179, h180, H⟩ := oB H
      refine tl [] [(1, pk 1), (45, ow 45 1 ([p0.Rivers, p0.Roads] : List (List Int))), (46, cL ([p0.Rivers, p0.Roads] : List (List Int))), (47, cI 0)] [(1, va (eTMap p0)), (45, ar 1 eLI zLI ([p0.Rivers, p0.Roads] : List (List Int)))] id ?_
      refine loop_in (fun (x : Int) => lit [(1, pk 1), (45, ow 45 1 ([p0.Rivers, p0.Roads] : List (List Int))), (46, cL ([p0.Rivers, p0.Roads] : List (List Int))), (47, cI x)] [(1, va (eTMap p0)), (45, ar 1 eLI zLI ([p0.Rivers, p0.Roads] : List (List Int)))]) (orJ (fun (z : Unit) => At (.exit 2) (lit [] [])) (fun (z : Bool) => At .ret (lit [(2, cB z)] []))) h180 ?_ ?_
      ·clear H h180
       intro x142 y0 H
       refine sn [] [] [(48, cB (decide (x142 < (([p0.Rivers, p0.Roads] : List (List Int)).length : Int))))] [] [] id ?_
       refine seq_in ?_
       rcases oC H with ⟨c144, H⟩ | ⟨c144, H⟩
       ·refine it c144 ?_
        refine sk ?_
        refine seq_in ?_
        refine ends_blk ?_
        obtain ⟨g145, H⟩ := oI H
        refine sn [.no] [] [(6, .c (dat 1 eI zI (([p0.Rivers, p0.Roads] : List (List Int)).getD x142.toNat zLI)))] [] [] (fun t => aI g145 (aI (nat_lt g145) (t))) ?_
        refine seq_in ?_
        obtain ⟨v149, h150, H⟩ := oB H
        refine sn [.res (cB v149)] [] [(53, cB (!v149))] [] [] (aI (i_increasing_ok (([p0.Rivers, p0.Roads] : List (List Int)).getD x142.toNat zLI) v149 h150)) ?_
        rcases oC H with ⟨c151, H⟩ | ⟨c151, H⟩
        ·refine it c151 ?_
         refine so [] [] [(2, cB false)] [] id ?_
         refine ends_ret ?_
         cases H
         exact rsr
        ·refine jf c151 ?_
         refine sk ?_
         refine sn [] [] [(54, .c (dat 1 eI zI (([p0.Rivers, p0.Roads] : List (List Int)).getD x142.toNat zLI))), (55, cL (([p0.Rivers, p0.Roads] : List (List Int)).getD x142.toNat zLI)), (56, cI 0)] [] [] (fun t => (fun (_ : (([p0.Rivers, p0.Roads] : List (List Int)).getD x142.toNat zLI).length ≤ maxLen) => t)) ?_
         refine ends_blk ?_
         obtain ⟨y175, h176, H⟩ := oB H
         refine tl [] [(1, pk 1), (45, ow 45 1 ([p0.Rivers, p0.Roads] : List (List Int))), (46, cL ([p0.Rivers, p0.Roads] : List (List Int))), (47, cI x142), (54, .c (dat 1 eI zI (([p0.Rivers, p0.Roads] : List (List Int)).getD x142.toNat zLI))), (55, cL (([p0.Rivers, p0.Roads] : List (List Int)).getD x142.toNat zLI)), (56, cI 0)] [(1, va (eTMap p0)), (45, ar 1 eLI zLI ([p0.Rivers, p0.Roads] : List (List Int)))] id ?_
         refine loop_in (fun (x : Int) => lit [(1, pk 1), (45, ow 45 1 ([p0.Rivers, p0.Roads] : List (List Int))), (46, cL ([p0.Rivers, p0.Roads] : List (List Int))), (47, cI x142), (54, .c (dat 1 eI zI (([p0.Rivers, p0.Roads] : List (List Int)).getD x142.toNat zLI))), (55, cL (([p0.Rivers, p0.Roads] : List (List Int)).getD x142.toNat zLI)), (56, cI x)] [(1, va (eTMap p0)), (45, ar 1 eLI zLI ([p0.Rivers, p0.Roads] : List (List Int)))]) (orJ (fun (z : Unit) => At (.exit 4) (lit [(1, pk 1), (45, ow 45 1 ([p0.Rivers, p0.Roads] : List (List Int))), (46, cL ([p0.Rivers, p0.Roads] : List (List Int))), (47, cI x142)] [(1, va (eTMap p0)), (45, ar 1 eLI zLI ([p0.Rivers, p0.Roads] : List (List Int)))])) (fun (z : Bool) => At .ret (lit [(2, cB z)] []))) h176 ?_ ?_
         ·clear H h176
          intro x167 y0 H
          refine sn [] [] [(57, cB (decide (x167 < ((([p0.Rivers, p0.Roads] : List (List Int)).getD x142.toNat zLI).length : Int))))] [] [] id ?_
          refine seq_in ?_
          rcases oC H with ⟨c169, H⟩ | ⟨c169, H⟩
          ·refine it c169 ?_
           refine sk ?_
           refine seq_in ?_
           refine ends_blk ?_
           obtain ⟨v170, h171, H⟩ := oB H
           refine sn [.cs (eI v170)] [] [(8, cI v170)] [] [] (a2 eI h171) ?_
           obtain ⟨v172, h173, H⟩ := oB H
           refine sn [.res (cB v172)] [] [(63, cB (!v172))] [] [] (aI (i_isEdge_ok p0 v170 v172 h173)) ?_
           rcases oC H with ⟨c174, H⟩ | ⟨c174, H⟩
           ·refine it c174 ?_
            refine so [] [] [(2, cB false)] [] id ?_
            refine ends_ret ?_
            cases H
            exact rsr
           ·refine jf c174 ?_
            refine sk ?_
            refine oo [] [] [(1, pk 1), (45, ow 45 1 ([p0.Rivers, p0.Roads] : List (List Int))), (46, cL ([p0.Rivers, p0.Roads] : List (List Int))), (47, cI x142), (54, .c (dat 1 eI zI (([p0.Rivers, p0.Roads] : List (List Int)).getD x142.toNat zLI))), (55, cL (([p0.Rivers, p0.Roads] : List (List Int)).getD x142.toNat zLI)), (56, cI (W (x167 + 1)))] [(1, va (eTMap p0)), (45, ar 1 eLI zLI ([p0.Rivers, p0.Roads] : List (List Int)))] id ?_
            cases H
            exact rr
          ·refine jf c169 ?_
           refine tl [] [(1, pk 1), (45, ow 45 1 ([p0.Rivers, p0.Roads] : List (List Int))), (46, cL ([p0.Rivers, p0.Roads] : List (List Int))), (47, cI x142)] [(1, va (eTMap p0)), (45, ar 1 eLI zLI ([p0.Rivers, p0.Roads] : List (List Int)))] id ?_
           refine ends_exit ?_
           cases H
           exact rse
         ·clear h176
          cases y175 with
          | inl y177 =>
           replace H := ofInl H
           rintro e s ⟨rfl, rfl⟩
           change EndsI _ _ _ _ _ _
           refine oo [] [] [(1, pk 1), (45, ow 45 1 ([p0.Rivers, p0.Roads] : List (List Int))), (46, cL ([p0.Rivers, p0.Roads] : List (List Int))), (47, cI (W (x142 + 1)))] [(1, va (eTMap p0)), (45, ar 1 eLI zLI ([p0.Rivers, p0.Roads] : List (List Int)))] id ?_
           cases H
           exact rr
          | inr y178 =>
           replace H := ofInr H
           rintro e s ⟨rfl, rfl⟩
           cases H
           exact rsr
       ·refine jf c144 ?_
        refine tl [] [] [] id ?_
        refine ends_exit ?_
        cases H
        exact rse
      ·clear h180
       cases y179 with
       | inl y181 =>
        replace H := ofInl H
        rintro e s ⟨rfl, rfl⟩
        change EndsI _ _ _ _ _ _
        refine so [] [] [(2, cB true)] [] id ?_
        cases H
        exact er
       | inr y182 =>
        replace H := ofInr H
        rintro e s ⟨rfl, rfl⟩
        cases H
        exact qr
     | inr y68 =>
      replace H := ofInr H
      rintro e s ⟨rfl, rfl⟩
      cases H
      exact qr
theorem g_IndexFunc_int_c1_ok (p0 : (List Int)) (cf1 : FuncId) (cs1_0 : List AC) (f1 : Int → Option Bool) (hf1 : ∀ q0 r, f1 q0 = some r → FK cf1 [cI q0, .c (.pd cs1_0 0)] (cB r)) (r : Int) (H : X.g_IndexFunc_int p0 f1 = some r) : FK 147 [.c (dat 1 eI zI p0), .c (.clo cf1 [.pd cs1_0 0])] (cI r) := by
 unfold X.g_IndexFunc_int at H
 refine fi Tryz.f147 g_IndexFunc_int_ir [(4, cI r)] [] glL Tryz.func147 ?_
 refine sn [] [] [] [] [] id ?_
 refine seq_in ?_
 refine sn [] [] [(7, cL p0), (8, cI 0)] [] [] (fun t => lI p0 (t)) ?_
 refine ends_blk ?_
 obtain ⟨y24, h25, H⟩ := oB H
 refine tl [] [(0, dc 1 eI zI p0), (1, .c (.clo cf1 [.pd cs1_0 0])), (7, cL p0), (8, cI 0)] [] id ?_
 refine loop_in (fun (x : Int) => lit [(0, dc 1 eI zI p0), (1, .c (.clo cf1 [.pd cs1_0 0])), (7, cL p0), (8, cI x)] []) (orJ (fun (z : Unit) => At (.exit 0) (lit [] [])) (fun (z : Int) => At .ret (lit [(4, cI z)] []))) h25 ?_ ?_
 ·clear H h25
  intro x16 y0 H
  refine sn [] [] [(9, cB (decide (x16 < (p0.length : Int))))] [] [] id ?_
  refine seq_in ?_
  rcases oC H with ⟨c18, H⟩ | ⟨c18, H⟩
  ·refine it c18 ?_
   refine sk ?_
   refine seq_in ?_
   refine ends_blk ?_
   refine sn [] [] [(5, cI x16)] [] [] id ?_
   obtain ⟨v19, h20, H⟩ := oB H
   obtain ⟨v21, h22, H⟩ := oB H
   refine sn [.cs (eI v19), .res (cB v21)] [] [(16, cB v21)] [] [] (fun t => (a2 eI h20 (aI (hf1 v19 v21 h22) (t)))) ?_
   rcases oC H with ⟨c23, H⟩ | ⟨c23, H⟩
   ·refine it c23 ?_
    refine so [] [] [(4, cI x16)] [] id ?_
    refine ends_ret ?_
    cases H
    exact rsr
   ·refine jf c23 ?_
    refine sk ?_
    refine oo [] [] [(0, dc 1 eI zI p0), (1, .c (.clo cf1 [.pd cs1_0 0])), (7, cL p0), (8, cI (W (x16 + 1)))] [] id ?_
    cases H
    exact rr
  ·refine jf c18 ?_
   refine tl [] [] [] id ?_
   refine ends_exit ?_
   cases H
   exact rse
 ·clear h25
  cases y24 with
  | inl y26 =>
   replace H := ofInl H
   rintro e s ⟨rfl, rfl⟩
   change EndsI _ _ _ _ _ _
   refine so [] [] [(4, cI (-1))] [] id ?_
   cases H
   exact er
  | inr y27 =>
   replace H := ofInr H
   rintro e s ⟨rfl, rfl⟩
   cases H
   exact qr
theorem g_ContainsFunc_int_c1_ok (p0 : (List Int)) (cf1 : FuncId) (cs1_0 : List AC) (f1 : Int → Option Bool) (hf1 : ∀ q0 r, f1 q0 = some r → FK cf1 [cI q0, .c (.pd cs1_0 0)] (cB r)) (r : Bool) (H : X.g_ContainsFunc_int p0 f1 = some r) : FK 92 [.c (dat 1 eI zI p0), .c (.clo cf1 [.pd cs1_0 0])] (cB r) := by
 unfold X.g_ContainsFunc_int at H
 refine fi Tryz.f92 g_ContainsFunc_int_ir [(4, cB r)] [] glL Tryz.func92 ?_
 refine sn [] [] [] [] [] id ?_
 obtain ⟨v1, h2, H⟩ := oB H
 refine so [.res (cI v1)] [] [(4, cB (decide (v1 ≥ 0)))] [] (aI (g_IndexFunc_int_c1_ok p0 (cf1) (cs1_0) f1 hf1 v1 h2)) ?_
 cases H
 exact er
def i_IsBoard_1_ir : S :=
 (sq [o 3 (.mv bF)]
 (sq [om 4 0, oa 5 0 1, oa 6 0 5, ol 7 6, o 8 (.len (.t 7)), o 9 (.bin .geq (.t 4) (.t 8)), om 3 9]
 .ret))
noncomputable def X.i_IsBoard_1 (p0 : Int) (p1 : TBoard) : Option Bool :=
 some (decide (p0 ≥ (p1.Rules.Terrains.length : Int)))
theorem i_IsBoard_1_ok (p0 : Int) (p1 : TBoard) (r : Bool) (H : X.i_IsBoard_1 p0 p1 = some r) : FK 93 [cI p0, .c (.pd (eTBoard p1) 0)] (cB r) := by
 unfold X.i_IsBoard_1 at H
 refine fi Tryz.f93 i_IsBoard_1_ir [(3, cB r)] [] glL Tryz.func93 ?_
 refine sn [] [] [] [] [] id ?_
 refine so [] [] [(3, cB (decide (p0 ≥ (p1.Rules.Terrains.length : Int))))] [] (fun t => lI p1.Rules.Terrains (t)) ?_
 cases H
 exact er
def i_IsBoard_ir : S :=
 (sq [o 1 (.box 12 (.t 0)), o 2 (.mv bF)]
 (.seq (sq [oa 3 0 1, o 4 (.load 7 true (.t 3)), o 5 (.call 90 [.t 4]), o 6 (.not (.t 5)), om 7 6, og 8 (.fad 7 (.t 1)) 7, og 9 (.load 5 true (.t 8)) 7, og 10 (.call 91 [.t 9]) 7, og 11 (.not (.t 10)) 7, o 12 (.pick (.t 7) bT (.t 11))]
 (.ite (.t 12) (sq [o 2 (.mv bF)]
  .ret)
 .skip))
 (sq [oa 13 7 1, oa 14 2 13, ol 15 14, o 16 (.clo 93 [.t 1]), o 17 (.call 92 [.t 15, .t 16]), o 18 (.not (.t 17)), om 2 18]
 .ret)))
noncomputable def X.i_IsBoard (p0 : TBoard) : Option Bool :=
 ((X.i_IsRules p0.Rules).bind fun v7 => (bif (!v7) then some false else ((X.i_IsMap p0.Map).bind fun v10 => (bif (!v10) then some false else ((X.g_ContainsFunc_int p0.Map.Terrain (fun q0 => X.i_IsBoard_1 q0 p0)).bind fun v13 => some (!v13))))))
theorem i_IsBoard_ok (p0 : TBoard) (r : Bool) (H : X.i_IsBoard p0 = some r) : FK 37 [.agg (eTBoard p0)] (cB r) := by
 unfold X.i_IsBoard at H
 refine fi Tryz.f37 i_IsBoard_ir [(2, cB r)] [] glL Tryz.func37 ?_
 refine so [] [] [(1, pk 1)] [(1, va (eTBoard p0))] id ?_
 refine seq_in ?_
 obtain ⟨v7, h8, H⟩ := oB H
 rcases oC H with ⟨c9, H⟩ | ⟨c9, H⟩
 ·refine sn ([.res (cB v7)] ++ rg 5 true []) [] [(12, cB true)] [] [] (fun t => aI (i_IsRules_ok p0.Rules v7 h8) (aG 5 c9 (t))) ?_
  refine it rT ?_
  refine so [] [] [(2, cB false)] [] id ?_
  cases H
  exact er
 ·obtain ⟨v10, h11, H⟩ := oB H
  refine sn ([.res (cB v7)] ++ rg 3 false ([.res (cB v10)] ++ rg 2 false [])) [] [(12, cB (!v10))] [] [] (fun t => aI (i_IsRules_ok p0.Rules v7 h8) (aG 3 c9 (aI (i_IsMap_ok p0.Map v10 h11) (aG 2 c9 (t))))) ?_
  rcases oC H with ⟨c12, H⟩ | ⟨c12, H⟩
  ·refine it c12 ?_
   refine so [] [] [(2, cB false)] [] id ?_
   cases H
   exact er
  ·refine jf c12 ?_
   refine sk ?_
   obtain ⟨v13, h14, H⟩ := oB H
   refine so [.res (cB v13)] [] [(2, cB (!v13))] [] (aI (g_ContainsFunc_int_c1_ok p0.Map.Terrain (93) (eTBoard p0) (fun q0 => X.i_IsBoard_1 q0 p0) (fun q0 r h => i_IsBoard_1_ok q0 p0 r h) v13 h14)) ?_
   cases H
   exact er
def i_sizeOf_ir : S :=
 (sq [o 1 (.box 12 (.t 0)), o 2 (.mv (iv 0))]
 (sq [oa 3 7 1, oa 4 2 3, ol 5 4, o 6 (.len (.t 5)), om 2 6]
 .ret))
noncomputable def X.i_sizeOf (p0 : TBoard) : Option Int :=
 some (p0.Map.Terrain.length : Int)
theorem i_sizeOf_ok (p0 : TBoard) (r : Int) (H : X.i_sizeOf p0 = some r) : FK 103 [.agg (eTBoard p0)] (cI r) := by
 unfold X.i_sizeOf at H
 refine fi Tryz.f103 i_sizeOf_ir [(2, cI r)] [] glL Tryz.func103 ?_
 refine so [] [] [(1, pk 1)] [(1, va (eTBoard p0))] id ?_
 refine so [] [] [(2, cL p0.Map.Terrain)] [] (fun t => lI p0.Map.Terrain (t)) ?_
 cases H
 exact er
def i_isSide_ir : S :=
 (sq [o 2 (.mv bF)]
 (sq [om 3 0, o 4 (.call 59 [.t 3, .v (.int .i64 0), .v (.int .i64 1)]), om 2 4]
 .ret))
noncomputable def X.i_isSide (p0 : Int) : Option Bool :=
 ((X.i_inRange p0 0 1).bind fun v1 => some v1)
theorem i_isSide_ok (p0 : Int) (r : Bool) (H : X.i_isSide p0 = some r) : FK 98 [cI p0] (cB r) := by
 unfold X.i_isSide at H
 refine fi Tryz.f98 i_isSide_ir [(2, cB r)] [] glL Tryz.func98 ?_
 refine sn [] [] [] [] [] id ?_
 obtain ⟨v1, h2, H⟩ := oB H
 refine so [.res (cB v1)] [] [(2, cB v1)] [] (aI (i_inRange_ok p0 0 1 v1 h2)) ?_
 cases H
 exact er
def i_terrainAt_ir : S :=
 (sq [o 2 (.box 12 (.t 0)), o 4 (.alloc [.str [], .nil, .int .i64 0, .int .i64 0, .bool false])]
 (.seq (.drw [(0, 3), (1, 3), (2, 3), (0, 4), (1, 4), (2, 4), (0, 5), (1, 5), (2, 5), (0, 6), (1, 6), (2, 6), (3, 6), (4, 6), (5, 6), (0, 7), (1, 7), (2, 7), (0, 8), (1, 8), (2, 8)] [oa 5 0 2, oa 6 0 5, ol 7 6, oa 8 7 2, oa 9 2 8, ol 10 9, om 11 1, o 12 (.iad 1 (.t 10) (.t 11)), ol 13 12, o 14 (.iad 5 (.t 7) (.t 13)), o 15 (.load 5 true (.t 14)), os 5 4 15])
 .ret))
noncomputable def X.i_terrainAt (p0 : TBoard) (p1 : Int) : Option TTerrain :=
 ((at' zI p0.Map.Terrain p1).bind fun v1 => ((at' zTTerrain p0.Rules.Terrains v1).bind fun v3 => some v3))
theorem i_terrainAt_ok (p0 : TBoard) (p1 : Int) (r : TTerrain) (H : X.i_terrainAt p0 p1 = some r) : FK 198 [.agg (eTBoard p0), cI p1] (.agg (eTTerrain r)) := by
 unfold X.i_terrainAt at H
 refine fi Tryz.f198 i_terrainAt_ir [(4, pk 4)] [(4, va (eTTerrain r))] glL Tryz.func198 ?_
 refine sn [] [] [(2, pk 2), (4, pk 4)] [] [(2, va (eTBoard p0)), (4, .var [.str [], .nil, jI 0, jI 0, .bool false] false)] id ?_
 obtain ⟨v1, h2, H⟩ := oB H
 obtain ⟨v3, h4, H⟩ := oB H
 refine xn [.cs (eI v1), .cs (eTTerrain v3)] [] [] [4] [(4, va (eTTerrain v3))] (fun t => (a2 eI h2 (aI rN ((a2 eTTerrain h4 (aI rN (t))))))) ?_
 refine tl [] [(4, pk 4)] [(4, va (eTTerrain v3))] id ?_
 cases H
 exact er
def i_enterCost_ir : S :=
 (sq [o 3 (.box 12 (.t 0)), o 6 (.mv (iv 0))]
 (sq [o 7 (.load 12 true (.t 3)), om 8 2, o 9 (.call 198 [.t 7, .t 8]), o 10 (.fld 1 1 false (.t 9)), om 11 1, o 12 (.iad 1 (.t 10) (.t 11)), ol 13 12, om 6 13]
 .ret))
noncomputable def X.i_enterCost (p0 : TBoard) (p1 : Int) (p2 : Int) : Option Int :=
 ((X.i_terrainAt p0 p2).bind fun v1 => ((at' zI v1.Cost p1).bind fun v3 => some v3))
theorem i_enterCost_ok (p0 : TBoard) (p1 : Int) (p2 : Int) (r : Int) (H : X.i_enterCost p0 p1 p2 = some r) : FK 154 [.agg (eTBoard p0), cI p1, cI p2] (cI r) := by
 unfold X.i_enterCost at H
 refine fi Tryz.f154 i_enterCost_ir [(6, cI r)] [] glL Tryz.func154 ?_
 refine sn [] [] [(3, pk 3)] [] [(3, va (eTBoard p0))] id ?_
 obtain ⟨v1, h2, H⟩ := oB H
 obtain ⟨v3, h4, H⟩ := oB H
 refine so [.res (.agg (eTTerrain v1)), .cs (eI v3)] [] [(6, cI v3)] [] (fun t => aI (i_terrainAt_ok p0 p2 v1 h2) ((a2 eI h4 (t)))) ?_
 cases H
 exact er
def i_goodUnit_ir : S :=
 (sq [o 2 (.box 12 (.t 0)), o 3 (.box 4 (.t 1)), o 4 (.mv bF)]
 (.seq (.seq (.drw [(5, 7), (6, 7), (5, 8), (6, 8), (5, 9), (6, 9), (5, 10), (6, 10), (15, 17), (16, 17), (15, 18), (16, 18), (15, 19), (16, 19), (15, 20), (16, 20), (17, 20), (18, 20), (19, 20), (15, 21), (16, 21), (17, 21), (18, 21), (19, 21), (15, 22), (16, 22), (15, 23), (16, 23), (15, 24), (16, 24)] [oa 5 0 3, ol 6 5, o 7 (.call 98 [.t 6]), o 8 (.not (.t 7)), om 9 8, og 10 (.fad 1 (.t 3)) 9, og 11 (.load 1 false (.t 10)) 9, og 12 (.fad 0 (.t 2)) 9, og 13 (.fad 1 (.t 12)) 9, og 14 (.load 1 false (.t 13)) 9, og 15 (.len (.t 14)) 9, og 16 (.call 102 [.t 11, .t 15]) 9, og 17 (.not (.t 16)) 9, o 18 (.pick (.t 9) bT (.t 17)), om 19 18, og 20 (.fad 3 (.t 3)) 19, og 21 (.load 1 false (.t 20)) 19, og 22 (.fad 0 (.t 2)) 19, og 23 (.fad 1 (.t 22)) 19, og 24 (.load 1 false (.t 23)) 19, og 25 (.fad 1 (.t 3)) 19, og 26 (.load 1 false (.t 25)) 19, og 27 (.iad 6 (.t 24) (.t 26)) 19, og 28 (.fad 3 (.t 27)) 19, og 29 (.load 1 false (.t 28)) 19, og 30 (.call 59 [.t 21, .v (.int .i64 0), .t 29]) 19, og 31 (.not (.t 30)) 19, o 32 (.pick (.t 19) bT (.t 31))])
 (.ite (.t 32) (sq [o 4 (.mv bF)]
  .ret)
 .skip))
 (.seq (sq [oa 33 2 3, ol 34 33, o 35 (.bin .eql (.t 34) (.v (.int .i64 (-1))))]
 (.ite (.t 35) (sq [o 4 (.mv bT)]
  .ret)
 .skip))
 (.seq (.drw [(4, 6), (5, 6), (4, 7), (5, 7), (11, 12), (11, 13), (11, 14), (12, 14), (13, 14), (11, 15), (12, 15), (13, 15)] [oa 36 3 3, ol 37 36, o 38 (.bin .gtr (.t 37) (iv 0)), om 39 38, oh 40 (.fad 2 (.t 3)) 39, oh 41 (.load 1 false (.t 40)) 39, oh 42 (.load 12 true (.t 2)) 39, oh 43 (.call 103 [.t 42]) 39, oh 44 (.call 102 [.t 41, .t 43]) 39, o 45 (.pick (.t 39) (.t 44) bF), om 46 45, oh 47 (.load 12 true (.t 2)) 46, oh 48 (.fad 1 (.t 3)) 46, oh 49 (.load 1 false (.t 48)) 46, oh 50 (.fad 2 (.t 3)) 46, oh 51 (.load 1 false (.t 50)) 46, oh 52 (.call 154 [.t 47, .t 49, .t 51]) 46, oh 53 (.bin .neq (.t 52) (iv 0)) 46, o 54 (.pick (.t 46) (.t 53) bF), om 4 54])
 .ret))))
noncomputable def X.i_goodUnit (p0 : TBoard) (p1 : TUnit) : Option Bool :=
 ((X.i_isSide p1.Side).bind fun v12 => (bif (!v12) then some false else ((X.i_isIndex p1.Kind (p0.Rules.Kinds.length : Int)).bind fun v15 => (bif (!v15) then some false else ((at' zTKind p0.Rules.Kinds p1.Kind).bind fun v18 => ((X.i_inRange p1.Steps 0 v18.Steps).bind fun v20 => (bif (!v20) then some false else (bif (p1.At == (-1)) then some true else (bif (decide (p1.Steps > 0)) then ((X.i_sizeOf p0).bind fun v26 => ((X.i_isIndex p1.At v26).bind fun v28 => (bif v28 then ((X.i_enterCost p0 p1.Kind p1.At).bind fun v31 => some (v31 != 0)) else some false))) else some false)))))))))
theorem i_goodUnit_ok (p0 : TBoard) (p1 : TUnit) (r : Bool) (H : X.i_goodUnit p0 p1 = some r) : FK 104 [.agg (eTBoard p0), .agg (eTUnit p1)] (cB r) := by
 unfold X.i_goodUnit at H
 refine fi Tryz.f104 i_goodUnit_ir [(4, cB r)] [] glL Tryz.func104 ?_
 refine so [] [] [(2, pk 2), (3, pk 3)] [(2, va (eTBoard p0)), (3, va (eTUnit p1))] id ?_
 refine seq_in ?_
 obtain ⟨v12, h13, H⟩ := oB H
 rcases oC H with ⟨c14, H⟩ | ⟨c14, H⟩
 ·refine xn ([.res (cB v12)] ++ rg 22 true []) [] [(32, cB true)] [] [] (fun t => aI (i_isSide_ok p1.Side v12 h13) (aI trivial (aI rN (aG 9 c14 (aG 13 rT (t)))))) ?_
  refine it rT ?_
  refine so [] [] [(4, cB false)] [] id ?_
  cases H
  exact er
 ·obtain ⟨v15, h16, H⟩ := oB H
  rcases oC H with ⟨c17, H⟩ | ⟨c17, H⟩
  ·refine xn ([.res (cB v12)] ++ rg 7 false ([.res (cB v15)] ++ rg 2 false (rg 13 true []))) [] [(32, cB true)] [] [] (fun t => aI (i_isSide_ok p1.Side v12 h13) (aI trivial (aI rN (aG 7 c14 (aI (i_isIndex_ok p1.Kind (p0.Rules.Kinds.length : Int) v15 h16) (aI trivial (aI rN (aG 2 c14 (aG 13 c17 (t)))))))))) ?_
   refine it rT ?_
   refine so [] [] [(4, cB false)] [] id ?_
   cases H
   exact er
  ·obtain ⟨v18, h19, H⟩ := oB H
   obtain ⟨v20, h21, H⟩ := oB H
   refine xn ([.res (cB v12)] ++ rg 7 false ([.res (cB v15)] ++ rg 10 false ([.cs (eTKind v18)] ++ rg 3 false ([.res (cB v20)] ++ rg 2 false [])))) [] [(32, cB (!v20))] [] [] (fun t => aI (i_isSide_ok p1.Side v12 h13) (aI trivial (aI rN (aG 7 c14 (aI (i_isIndex_ok p1.Kind (p0.Rules.Kinds.length : Int) v15 h16) (aI trivial (aI rN (aG 2 c14 (aG 8 c17 ((a2 eTKind h19 (aG 2 c17 (aI rN (aI c17 (aI (i_inRange_ok p1.Steps 0 v18.Steps v20 h21) (aI trivial (aI rN (aG 2 c17 (t))))))))))))))))))) ?_
   rcases oC H with ⟨c22, H⟩ | ⟨c22, H⟩
   ·refine it c22 ?_
    refine so [] [] [(4, cB false)] [] id ?_
    cases H
    exact er
   ·refine jf c22 ?_
    refine sk ?_
    refine seq_in ?_
    refine sn [] [] [(35, cB (p1.At == (-1)))] [] [] id ?_
    rcases oC H with ⟨c24, H⟩ | ⟨c24, H⟩
    ·refine it c24 ?_
     refine so [] [] [(4, cB true)] [] id ?_
     cases H
     exact er
    ·refine jf c24 ?_
     refine sk ?_
     rcases oC H with ⟨c25, H⟩ | ⟨c25, H⟩
     ·obtain ⟨v26, h27, H⟩ := oB H
      obtain ⟨v28, h29, H⟩ := oB H
      rcases oC H with ⟨c30, H⟩ | ⟨c30, H⟩
      ·obtain ⟨v31, h32, H⟩ := oB H
       refine sx (rg 4 true ([.res (cI v26), .g true, .res (cB v28)] ++ rg 7 true ([.res (cI v31)] ++ rg 2 true []))) [] [(4, cB (v31 != 0))] [] (fun t => aG 4 c25 (aI (i_sizeOf_ok p0 v26 h27) (aI trivial (aI rN (aI c25 (aI (i_isIndex_ok p1.At v26 v28 h29) (aI trivial (aI rN (aI c25 (aG 6 c30 (aI (i_enterCost_ok p0 p1.Kind p1.At v31 h32) (aI trivial (aI rN (aG 2 c30 (t))))))))))))))) ?_
       cases H
       exact er
      ·refine sx (rg 4 true ([.res (cI v26), .g true, .res (cB v28), .g true] ++ rg 8 false [])) [] [(4, cB false)] [] (fun t => aG 4 c25 (aI (i_sizeOf_ok p0 v26 h27) (aI trivial (aI rN (aI c25 (aI (i_isIndex_ok p1.At v26 v28 h29) (aI trivial (aI rN (aI c25 (aG 8 c30 (t))))))))))) ?_
       cases H
       exact er
     ·refine sx (rg 14 false []) [] [(4, cB false)] [] (fun t => aG 6 c25 (aG 8 rF (t))) ?_
      cases H
      exact er
def i_goodState_ir : S :=
 (sq [o 2 (.box 12 (.t 0)), o 3 (.box 3 (.t 1)), o 4 (.mv bF)]
 (.seq (sq [oa 8 0 3, ol 9 8, oa 10 0 2, oa 11 6 10, ol 12 11, o 13 (.call 59 [.t 9, .v (.int .i64 0), .t 12]), o 14 (.not (.t 13)), om 15 14, og 16 (.fad 1 (.t 3)) 15, og 17 (.load 1 false (.t 16)) 15, og 18 (.call 59 [.t 17, .v (.int .i64 0), .v (.int .i64 2)]) 15, og 19 (.not (.t 18)) 15, o 20 (.pick (.t 15) bT (.t 19)), om 21 20, og 22 (.fad 2 (.t 3)) 21, og 23 (.load 1 false (.t 22)) 21, og 24 (.len (.t 23)) 21, og 25 (.bin .gtr (.t 24) (iv 12)) 21, o 26 (.pick (.t 21) bT (.t 25))]
 (.ite (.t 26) (sq [o 4 (.mv bF)]
  .ret)
 .skip))
 (sq [o 27 (.load 12 true (.t 2)), o 28 (.call 103 [.t 27]), o 29 (.msl 2 16 [.int .i64 0, .int .i64 0] (.t 28)), om 5 29]
 (.seq (sq [oa 30 2 3, ol 31 30, o 32 (.len (.t 31)), o 33 (.mv (iv 0))]
 (.blk 0 (.loop (sq [o 34 (.bin .lss (.t 33) (.t 32))]
   (.seq (.ite (.t 34) .skip
   (.exit 0))
   (.seq (.blk 1 (sq [o 35 (.iad 4 (.t 31) (.t 33)), o 36 (.load 4 true (.t 35)), o 7 (.alloc [.int .i64 0, .int .i64 0, .int .i64 0, .int .i64 0]), os 4 7 36]
    (.seq (sq [o 37 (.load 12 true (.t 2)), o 38 (.load 4 true (.t 7)), o 39 (.call 104 [.t 37, .t 38]), o 40 (.not (.t 39))]
    (.ite (.t 40) (sq [o 4 (.mv bF)]
     .ret)
    .skip))
    (.seq (sq [oa 41 2 7, ol 42 41, o 43 (.bin .lss (.t 42) (iv 0))]
    (.ite (.t 43) (.exit 1)
    .skip))
    (.seq (.drw [(0, 1), (0, 2), (0, 3), (1, 3), (2, 3), (0, 4), (1, 4), (2, 4), (3, 5), (4, 5), (3, 9), (4, 9), (5, 9), (6, 9), (7, 9), (8, 9)] [om 44 5, oa 45 2 7, ol 46 45, oa 47 0 7, ol 48 47, o 49 (.iad 2 (.t 44) (.t 46)), o 50 (.iar 2 1 (.t 49) (.t 48)), ol 51 50, o 52 (.bin .add (.t 51) (iv 1)), o 53 (.iad 2 (.t 44) (.t 46)), o 54 (.iar 2 1 (.t 53) (.t 48)), os 1 54 52])
    (.seq (.drw [(0, 1), (0, 2), (0, 3), (1, 3), (2, 3), (0, 4), (1, 4), (2, 4), (0, 5), (1, 5), (2, 5), (3, 6), (4, 6), (5, 6), (11, 12), (11, 13), (11, 14), (12, 14), (13, 14), (11, 15), (12, 15), (13, 15), (14, 16), (15, 16), (11, 19), (12, 19), (13, 19), (14, 19), (15, 19), (16, 19), (17, 19), (18, 19), (11, 20), (12, 20), (13, 20), (14, 20), (15, 20), (16, 20), (17, 20), (18, 20), (11, 21), (12, 21), (13, 21), (14, 21), (15, 21), (16, 21), (17, 21), (18, 21)] [om 55 5, oa 56 2 7, ol 57 56, oa 58 0 7, ol 59 58, o 60 (.bin .sub (iv 1) (.t 59)), o 61 (.iad 2 (.t 55) (.t 57)), o 62 (.iar 2 1 (.t 61) (.t 60)), ol 63 62, o 64 (.bin .gtr (.t 63) (iv 0)), om 65 64, og 66 (.mv (.t 5)) 65, og 67 (.fad 2 (.t 7)) 65, og 68 (.load 1 false (.t 67)) 65, og 69 (.fad 0 (.t 7)) 65, og 70 (.load 1 false (.t 69)) 65, og 71 (.iad 2 (.t 66) (.t 68)) 65, og 72 (.iar 2 1 (.t 71) (.t 70)) 65, og 73 (.load 1 false (.t 72)) 65, og 74 (.fad 0 (.t 2)) 65, og 75 (.fad 2 (.t 74)) 65, og 76 (.load 1 false (.t 75)) 65, og 77 (.bin .gtr (.t 73) (.t 76)) 65, o 78 (.pick (.t 65) bT (.t 77))])
    (.ite (.t 78) (sq [o 4 (.mv bF)]
     .ret)
    .skip)))))))
   (.ops [o 79 (.bin .add (.t 33) (iv 1)), om 33 79])))))))
 (sq [o 4 (.mv bT)]
 .ret)))))
noncomputable def X.i_goodState (p0 : TBoard) (p1 : TState) : Option Bool :=
 ((X.i_inRange p1.Turn 0 p0.Rules.Turns).bind fun v8 => (bif (!v8) then some false else ((X.i_inRange p1.Weather 0 2).bind fun v11 => (bif (!v11) then some false else (bif (decide ((p1.Units.length : Int) > 12)) then some false else ((X.i_sizeOf p0).bind fun v15 => (if 0 ≤ v15 ∧ v15.toNat ≤ LIM then ((loop (fun (x93 : (Int × (List A2_I))) => ((bif (decide (x93.1 < (p1.Units.length : Int))) then ((at' zTUnit p1.Units x93.1).bind fun v96 => ((X.i_goodUnit p0 v96).bind fun v101 => (bif (!v101) then some (Sum.inr (Sum.inr false)) else (bif (decide (v96.At < 0)) then some (Sum.inl ((W (x93.1 + 1)), x93.2)) else (if 0 ≤ v96.At ∧ v96.At < (x93.2.length : Int) then (if v96.Side = ((0 : Nat) : Int) then ((some (x93.2.set v96.At.toNat (A2_I.mk (W ((x93.2.getD v96.At.toNat zA2_I).a0 + 1)) ((x93.2.getD v96.At.toNat zA2_I).a1)))).bind fun l108 => (if (W (1 - v96.Side)) = ((0 : Nat) : Int) then (bif (decide ((l108.getD v96.At.toNat zA2_I).a0 > 0)) then some (Sum.inr (Sum.inr false)) else (bif (decide ((l108.getD v96.At.toNat zA2_I).a0 > p0.Rules.Stack)) then some (Sum.inr (Sum.inr false)) else some (Sum.inl ((W (x93.1 + 1)), l108)))) else (if (W (1 - v96.Side)) = ((1 : Nat) : Int) then (bif (decide ((l108.getD v96.At.toNat zA2_I).a1 > 0)) then some (Sum.inr (Sum.inr false)) else (bif (decide ((l108.getD v96.At.toNat zA2_I).a0 > p0.Rules.Stack)) then some (Sum.inr (Sum.inr false)) else some (Sum.inl ((W (x93.1 + 1)), l108)))) else none))) else (if v96.Side = ((1 : Nat) : Int) then ((some (x93.2.set v96.At.toNat (A2_I.mk ((x93.2.getD v96.At.toNat zA2_I).a0) (W ((x93.2.getD v96.At.toNat zA2_I).a1 + 1))))).bind fun l119 => (if (W (1 - v96.Side)) = ((0 : Nat) : Int) then (bif (decide ((l119.getD v96.At.toNat zA2_I).a0 > 0)) then some (Sum.inr (Sum.inr false)) else (bif (decide ((l119.getD v96.At.toNat zA2_I).a1 > p0.Rules.Stack)) then some (Sum.inr (Sum.inr false)) else some (Sum.inl ((W (x93.1 + 1)), l119)))) else (if (W (1 - v96.Side)) = ((1 : Nat) : Int) then (bif (decide ((l119.getD v96.At.toNat zA2_I).a1 > 0)) then some (Sum.inr (Sum.inr false)) else (bif (decide ((l119.getD v96.At.toNat zA2_I).a1 > p0.Rules.Stack)) then some (Sum.inr (Sum.inr false)) else some (Sum.inl ((W (x93.1 + 1)), l119)))) else none))) else none)) else none))))) else some (Sum.inr (Sum.inl ()))) : Option ((Int × (List A2_I)) ⊕ (Unit ⊕ Bool)))) (0, (List.replicate v15.toNat zA2_I))).bind fun y131 => (Sum.elim (fun (y133 : Unit) => some true) (fun (y134 : Bool) => some y134) y131)) else none)))))))
theorem i_goodState_ok (p0 : TBoard) (p1 : TState) (r : Bool) (H : X.i_goodState p0 p1 = some r) : FK 62 [.agg (eTBoard p0), .agg (eTState p1)] (cB r) := by
 unfold X.i_goodState at H
 refine fi Tryz.f62 i_goodState_ir [(4, cB r)] [] glL Tryz.func62 ?_
 refine so [] [] [(2, pk 2), (3, pk 3)] [(2, va (eTBoard p0)), (3, va (eTState p1))] id ?_
 refine seq_in ?_
 obtain ⟨v8, h9, H⟩ := oB H
 rcases oC H with ⟨c10, H⟩ | ⟨c10, H⟩
 ·refine sn ([.res (cB v8)] ++ rg 10 true []) [] [(26, cB true)] [] [] (fun t => aI (i_inRange_ok p1.Turn 0 p0.Rules.Turns v8 h9) (aG 5 c10 (aG 5 rT (t)))) ?_
  refine it rT ?_
  refine so [] [] [(4, cB false)] [] id ?_
  cases H
  exact er
 ·obtain ⟨v11, h12, H⟩ := oB H
  rcases oC H with ⟨c13, H⟩ | ⟨c13, H⟩
  ·refine sn ([.res (cB v8)] ++ rg 3 false ([.res (cB v11)] ++ rg 2 false (rg 5 true []))) [] [(26, cB true)] [] [] (fun t => aI (i_inRange_ok p1.Turn 0 p0.Rules.Turns v8 h9) (aG 3 c10 (aI (i_inRange_ok p1.Weather 0 2 v11 h12) (aG 2 c10 (aG 5 c13 (t)))))) ?_
   refine it rT ?_
   refine so [] [] [(4, cB false)] [] id ?_
   cases H
   exact er
  ·refine sn ([.res (cB v8)] ++ rg 3 false ([.res (cB v11)] ++ rg 7 false [])) [] [(26, cB (decide ((p1.Units.length : Int) > 12)))] [] [] (fun t => aI (i_inRange_ok p1.Turn 0 p0.Rules.Turns v8 h9) (aG 3 c10 (aI (i_inRange_ok p1.Weather 0 2 v11 h12) (aG 2 c10 (aG 3 c13 (lI p1.Units (aG 2 c13 (t)))))))) ?_
   rcases oC H with ⟨c14, H⟩ | ⟨c14, H⟩
   ·refine it c14 ?_
    refine so [] [] [(4, cB false)] [] id ?_
    cases H
    exact er
   ·refine jf c14 ?_
    refine sk ?_
    obtain ⟨v15, h16, H⟩ := oB H
    obtain ⟨g17, H⟩ := oI H
    refine sn [.res (cI v15), fh eA2_I zA2_I (List.replicate v15.toNat zA2_I)] [] [(5, ow 29 2 (List.replicate v15.toNat zA2_I))] [] [(29, ar 2 eA2_I zA2_I (List.replicate v15.toNat zA2_I))] (fun t => aI (i_sizeOf_ok p0 v15 h16) (aI (And.intro g17.1 (And.intro (List.length_replicate (n := v15.toNat) (a := zA2_I)).symm (Nat.le_trans (Nat.le_of_eq List.length_replicate) g17.2 : (List.replicate v15.toNat zA2_I).length ≤ LIM))) (aI (fF_rep eA2_I zA2_I zA2_I v15.toNat) (t)))) ?_
    refine seq_in ?_
    refine sn [] [] [(31, dc 4 eTUnit zTUnit p1.Units), (32, cL p1.Units), (33, cI 0)] [] [] (fun t => lI p1.Units (t)) ?_
    refine ends_blk ?_
    obtain ⟨y131, h132, H⟩ := oB H
    refine tl [] [(2, pk 2), (5, ow 29 2 (List.replicate v15.toNat zA2_I)), (31, dc 4 eTUnit zTUnit p1.Units), (32, cL p1.Units), (33, cI 0)] [(2, va (eTBoard p0)), (29, ar 2 eA2_I zA2_I (List.replicate v15.toNat zA2_I))] id ?_
    refine loop_in (fun (x : (Int × (List A2_I))) => lit [(2, pk 2), (5, ow 29 2 x.2), (31, dc 4 eTUnit zTUnit p1.Units), (32, cL p1.Units), (33, cI x.1)] [(2, va (eTBoard p0)), (29, ar 2 eA2_I zA2_I x.2)]) (orJ (fun (z : Unit) => At (.exit 0) (lit [] [])) (fun (z : Bool) => At .ret (lit [(4, cB z)] []))) h132 ?_ ?_
    ·clear H h132
     intro x93 y0 H
     refine sn [] [] [(34, cB (decide (x93.1 < (p1.Units.length : Int))))] [] [] id ?_
     refine seq_in ?_
     rcases oC H with ⟨c95, H⟩ | ⟨c95, H⟩
     ·refine it c95 ?_
      refine sk ?_
      refine seq_in ?_
      refine ends_blk ?_
      obtain ⟨v96, h97, H⟩ := oB H
      refine sn [.cs (eTUnit v96)] [] [(7, pk 7)] [] [(7, va (eTUnit v96))] (a2 eTUnit h97) ?_
      refine seq_in ?_
      obtain ⟨v101, h102, H⟩ := oB H
      refine sn [.res (cB v101)] [] [(40, cB (!v101))] [] [] (aI (i_goodUnit_ok p0 v96 v101 h102)) ?_
      rcases oC H with ⟨c103, H⟩ | ⟨c103, H⟩
      ·refine it c103 ?_
       refine so [] [] [(4, cB false)] [] id ?_
       refine ends_ret ?_
       cases H
       exact rsr
      ·refine jf c103 ?_
       refine sk ?_
       refine seq_in ?_
       refine sn [] [] [(43, cB (decide (v96.At < 0)))] [] [] id ?_
       rcases oC H with ⟨c105, H⟩ | ⟨c105, H⟩
       ·refine it c105 ?_
        refine ends_exit ?_
        change EndsI _ _ _ _ _ _
        refine oo [] [] [(2, pk 2), (5, ow 29 2 x93.2), (31, dc 4 eTUnit zTUnit p1.Units), (32, cL p1.Units), (33, cI (W (x93.1 + 1)))] [(2, va (eTBoard p0)), (29, ar 2 eA2_I zA2_I x93.2)] id ?_
        cases H
        exact rr
       ·refine jf c105 ?_
        refine sk ?_
        obtain ⟨g106, H⟩ := oI H
        rcases ofIte H with ⟨c107, H⟩ | ⟨c130, H⟩
        ·obtain ⟨l108, h109, H⟩ := oB H
         refine xn [.no, .nat 0, .no, .nat 0, .fn 0 (fF eA2_I zA2_I l108)] [] [] [29] [(29, .arr 2 x93.2.length (fF eA2_I zA2_I l108) false)] (fun t => aI g106 (aI (And.intro c107 (by decide : 0 < 2)) (aI (nat_lt g106) (aI rN (aI g106 (aI (And.intro c107 (by decide : 0 < 2)) (aI rT (aI (nat_lt g106) (aI (by decide : 0 + 1 ≤ 2) (aI (fF_setN eA2_I zA2_I h109 (nat_lt g106) x93.2.length) (t))))))))))) ?_
         rcases ofIte H with ⟨c110, H⟩ | ⟨c117, H⟩
         ·rcases oC H with ⟨c111, H⟩ | ⟨c111, H⟩
          ·refine xn ([.no, .nat 0] ++ rg 13 true []) [] [(78, cB true)] [] [] (fun t => aI g106 (aI (And.intro c110 (by decide : 0 < 2)) (aI (nat_lt g106) (aI rN (aG 13 c111 (t)))))) ?_
           refine it rT ?_
           refine so [] [] [(4, cB false)] [] id ?_
           refine ends_ret ?_
           cases H
           exact rsr
          ·refine xn ([.no, .nat 0] ++ rg 6 false ([.no, .g false, .nat 0] ++ rg 6 false [])) [] [(78, cB (decide ((l108.getD v96.At.toNat zA2_I).a0 > p0.Rules.Stack)))] [] [] (fun t => aI g106 (aI (And.intro c110 (by decide : 0 < 2)) (aI (nat_lt g106) (aI rN (aG 6 c111 (aI g106 (aI c111 (aI (And.intro c107 (by decide : 0 < 2)) (aI c111 (aI (nat_lt g106) (aI rN (aG 5 c111 (t))))))))))))) ?_
           rcases oC H with ⟨c112, H⟩ | ⟨c112, H⟩
           ·refine it c112 ?_
            refine so [] [] [(4, cB false)] [] id ?_
            refine ends_ret ?_
            cases H
            exact rsr
           ·refine jf c112 ?_
            refine sk ?_
            refine oo [] [.rel 5 l108.length, .rep 29 l108.length (fF eA2_I zA2_I l108)] [(2, pk 2), (5, ow 29 2 l108), (31, dc 4 eTUnit zTUnit p1.Units), (32, cL p1.Units), (33, cI (W (x93.1 + 1)))] [(2, va (eTBoard p0)), (29, ar 2 eA2_I zA2_I l108)] (fun t => aI (by simp [lenN h109] : x93.2.length = l108.length) (aI (Nat.le_of_eq (by simp [lenN h109] : l108.length = x93.2.length)) (aI (fun _ _ => rfl : ∀ i, i < l108.length → (fF eA2_I zA2_I l108) i = (fF eA2_I zA2_I l108) i) (t)))) ?_
            cases H
            exact rr
         ·rcases ofIte H with ⟨c113, H⟩ | ⟨c116, H⟩
          ·rcases oC H with ⟨c114, H⟩ | ⟨c114, H⟩
           ·refine xn ([.no, .nat 1] ++ rg 13 true []) [] [(78, cB true)] [] [] (fun t => aI g106 (aI (And.intro c113 (by decide : 1 < 2)) (aI (nat_lt g106) (aI rN (aG 13 c114 (t)))))) ?_
            refine it rT ?_
            refine so [] [] [(4, cB false)] [] id ?_
            refine ends_ret ?_
            cases H
            exact rsr
           ·refine xn ([.no, .nat 1] ++ rg 6 false ([.no, .g false, .nat 0] ++ rg 6 false [])) [] [(78, cB (decide ((l108.getD v96.At.toNat zA2_I).a0 > p0.Rules.Stack)))] [] [] (fun t => aI g106 (aI (And.intro c113 (by decide : 1 < 2)) (aI (nat_lt g106) (aI rN (aG 6 c114 (aI g106 (aI c114 (aI (And.intro c107 (by decide : 0 < 2)) (aI c114 (aI (nat_lt g106) (aI rN (aG 5 c114 (t))))))))))))) ?_
            rcases oC H with ⟨c115, H⟩ | ⟨c115, H⟩
            ·refine it c115 ?_
             refine so [] [] [(4, cB false)] [] id ?_
             refine ends_ret ?_
             cases H
             exact rsr
            ·refine jf c115 ?_
             refine sk ?_
             refine oo [] [.rel 5 l108.length, .rep 29 l108.length (fF eA2_I zA2_I l108)] [(2, pk 2), (5, ow 29 2 l108), (31, dc 4 eTUnit zTUnit p1.Units), (32, cL p1.Units), (33, cI (W (x93.1 + 1)))] [(2, va (eTBoard p0)), (29, ar 2 eA2_I zA2_I l108)] (fun t => aI (by simp [lenN h109] : x93.2.length = l108.length) (aI (Nat.le_of_eq (by simp [lenN h109] : l108.length = x93.2.length)) (aI (fun _ _ => rfl : ∀ i, i < l108.length → (fF eA2_I zA2_I l108) i = (fF eA2_I zA2_I l108) i) (t)))) ?_
             cases H
             exact rr
          ·cases H
        ·rcases ofIte H with ⟨c118, H⟩ | ⟨c129, H⟩
         ·obtain ⟨l119, h120, H⟩ := oB H
          refine xn [.no, .nat 1, .no, .nat 1, .fn 0 (fF eA2_I zA2_I l119)] [] [] [29] [(29, .arr 2 x93.2.length (fF eA2_I zA2_I l119) false)] (fun t => aI g106 (aI (And.intro c118 (by decide : 1 < 2)) (aI (nat_lt g106) (aI rN (aI g106 (aI (And.intro c118 (by decide : 1 < 2)) (aI rT (aI (nat_lt g106) (aI (by decide : 1 + 1 ≤ 2) (aI (fF_setN eA2_I zA2_I h120 (nat_lt g106) x93.2.length) (t))))))))))) ?_
          rcases ofIte H with ⟨c121, H⟩ | ⟨c128, H⟩
          ·rcases oC H with ⟨c122, H⟩ | ⟨c122, H⟩
           ·refine xn ([.no, .nat 0] ++ rg 13 true []) [] [(78, cB true)] [] [] (fun t => aI g106 (aI (And.intro c121 (by decide : 0 < 2)) (aI (nat_lt g106) (aI rN (aG 13 c122 (t)))))) ?_
            refine it rT ?_
            refine so [] [] [(4, cB false)] [] id ?_
            refine ends_ret ?_
            cases H
            exact rsr
           ·refine xn ([.no, .nat 0] ++ rg 6 false ([.no, .g false, .nat 1] ++ rg 6 false [])) [] [(78, cB (decide ((l119.getD v96.At.toNat zA2_I).a1 > p0.Rules.Stack)))] [] [] (fun t => aI g106 (aI (And.intro c121 (by decide : 0 < 2)) (aI (nat_lt g106) (aI rN (aG 6 c122 (aI g106 (aI c122 (aI (And.intro c118 (by decide : 1 < 2)) (aI c122 (aI (nat_lt g106) (aI rN (aG 5 c122 (t))))))))))))) ?_
            rcases oC H with ⟨c123, H⟩ | ⟨c123, H⟩
            ·refine it c123 ?_
             refine so [] [] [(4, cB false)] [] id ?_
             refine ends_ret ?_
             cases H
             exact rsr
            ·refine jf c123 ?_
             refine sk ?_
             refine oo [] [.rel 5 l119.length, .rep 29 l119.length (fF eA2_I zA2_I l119)] [(2, pk 2), (5, ow 29 2 l119), (31, dc 4 eTUnit zTUnit p1.Units), (32, cL p1.Units), (33, cI (W (x93.1 + 1)))] [(2, va (eTBoard p0)), (29, ar 2 eA2_I zA2_I l119)] (fun t => aI (by simp [lenN h120] : x93.2.length = l119.length) (aI (Nat.le_of_eq (by simp [lenN h120] : l119.length = x93.2.length)) (aI (fun _ _ => rfl : ∀ i, i < l119.length → (fF eA2_I zA2_I l119) i = (fF eA2_I zA2_I l119) i) (t)))) ?_
             cases H
             exact rr
          ·rcases ofIte H with ⟨c124, H⟩ | ⟨c127, H⟩
           ·rcases oC H with ⟨c125, H⟩ | ⟨c125, H⟩
            ·refine xn ([.no, .nat 1] ++ rg 13 true []) [] [(78, cB true)] [] [] (fun t => aI g106 (aI (And.intro c124 (by decide : 1 < 2)) (aI (nat_lt g106) (aI rN (aG 13 c125 (t)))))) ?_
             refine it rT ?_
             refine so [] [] [(4, cB false)] [] id ?_
             refine ends_ret ?_
             cases H
             exact rsr
            ·refine xn ([.no, .nat 1] ++ rg 6 false ([.no, .g false, .nat 1] ++ rg 6 false [])) [] [(78, cB (decide ((l119.getD v96.At.toNat zA2_I).a1 > p0.Rules.Stack)))] [] [] (fun t => aI g106 (aI (And.intro c124 (by decide : 1 < 2)) (aI (nat_lt g106) (aI rN (aG 6 c125 (aI g106 (aI c125 (aI (And.intro c118 (by decide : 1 < 2)) (aI c125 (aI (nat_lt g106) (aI rN (aG 5 c125 (t))))))))))))) ?_
             rcases oC H with ⟨c126, H⟩ | ⟨c126, H⟩
             ·refine it c126 ?_
              refine so [] [] [(4, cB false)] [] id ?_
              refine ends_ret ?_
              cases H
              exact rsr
             ·refine jf c126 ?_
              refine sk ?_
              refine oo [] [.rel 5 l119.length, .rep 29 l119.length (fF eA2_I zA2_I l119)] [(2, pk 2), (5, ow 29 2 l119), (31, dc 4 eTUnit zTUnit p1.Units), (32, cL p1.Units), (33, cI (W (x93.1 + 1)))] [(2, va (eTBoard p0)), (29, ar 2 eA2_I zA2_I l119)] (fun t => aI (by simp [lenN h120] : x93.2.length = l119.length) (aI (Nat.le_of_eq (by simp [lenN h120] : l119.length = x93.2.length)) (aI (fun _ _ => rfl : ∀ i, i < l119.length → (fF eA2_I zA2_I l119) i = (fF eA2_I zA2_I l119) i) (t)))) ?_
              cases H
              exact rr
           ·cases H
         ·cases H
     ·refine jf c95 ?_
      refine tl [] [] [] id ?_
      refine ends_exit ?_
      cases H
      exact rse
    ·clear h132
     cases y131 with
     | inl y133 =>
      replace H := ofInl H
      rintro e s ⟨rfl, rfl⟩
      change EndsI _ _ _ _ _ _
      refine so [] [] [(4, cB true)] [] id ?_
      cases H
      exact er
     | inr y134 =>
      replace H := ofInr H
      rintro e s ⟨rfl, rfl⟩
      cases H
      exact qr
def i_fits_ir : S :=
 (sq [o 2 (.box 12 (.t 0)), o 3 (.box 3 (.t 1)), o 4 (.mv bF)]
 (sq [o 5 (.load 12 true (.t 2)), o 6 (.call 37 [.t 5]), om 7 6, oh 8 (.load 12 true (.t 2)) 7, oh 9 (.load 3 true (.t 3)) 7, oh 10 (.call 62 [.t 8, .t 9]) 7, o 11 (.pick (.t 7) (.t 10) bF), om 4 11]
 .ret))
noncomputable def X.i_fits (p0 : TBoard) (p1 : TState) : Option Bool :=
 ((X.i_IsBoard p0).bind fun v1 => (bif v1 then ((X.i_goodState p0 p1).bind fun v4 => some v4) else some false))
theorem i_fits_ok (p0 : TBoard) (p1 : TState) (r : Bool) (H : X.i_fits p0 p1 = some r) : FK 119 [.agg (eTBoard p0), .agg (eTState p1)] (cB r) := by
 unfold X.i_fits at H
 refine fi Tryz.f119 i_fits_ir [(4, cB r)] [] glL Tryz.func119 ?_
 refine so [] [] [(2, pk 2), (3, pk 3)] [(2, va (eTBoard p0)), (3, va (eTState p1))] id ?_
 obtain ⟨v1, h2, H⟩ := oB H
 rcases oC H with ⟨c3, H⟩ | ⟨c3, H⟩
 ·obtain ⟨v4, h5, H⟩ := oB H
  refine so ([.res (cB v1)] ++ rg 3 true [.res (cB v4), .g true]) [] [(4, cB v4)] [] (fun t => aI (i_IsBoard_ok p0 v1 h2) (aG 3 c3 (aI (i_goodState_ok p0 p1 v4 h5) (aI c3 (t))))) ?_
  cases H
  exact er
 ·refine so ([.res (cB v1)] ++ rg 4 false []) [] [(4, cB false)] [] (fun t => aI (i_IsBoard_ok p0 v1 h2) (aG 4 c3 (t))) ?_
  cases H
  exact er
def i_hasUnit_ir : S :=
 (sq [o 3 (.box 12 (.t 0)), o 4 (.box 3 (.t 1)), o 6 (.mv bF)]
 (sq [o 7 (.load 12 true (.t 3)), o 8 (.load 3 true (.t 4)), o 9 (.call 119 [.t 7, .t 8]), om 10 9, oh 11 (.mv (.t 2)) 10, oh 12 (.fad 2 (.t 4)) 10, oh 13 (.load 1 false (.t 12)) 10, oh 14 (.len (.t 13)) 10, oh 15 (.call 102 [.t 11, .t 14]) 10, o 16 (.pick (.t 10) (.t 15) bF), om 6 16]
 .ret))
noncomputable def X.i_hasUnit (p0 : TBoard) (p1 : TState) (p2 : Int) : Option Bool :=
 ((X.i_fits p0 p1).bind fun v1 => (bif v1 then ((X.i_isIndex p2 (p1.Units.length : Int)).bind fun v4 => some v4) else some false))
theorem i_hasUnit_ok (p0 : TBoard) (p1 : TState) (p2 : Int) (r : Bool) (H : X.i_hasUnit p0 p1 p2 = some r) : FK 163 [.agg (eTBoard p0), .agg (eTState p1), cI p2] (cB r) := by
 unfold X.i_hasUnit at H
 refine fi Tryz.f163 i_hasUnit_ir [(6, cB r)] [] glL Tryz.func163 ?_
 refine sn [] [] [(3, pk 3), (4, pk 4)] [] [(3, va (eTBoard p0)), (4, va (eTState p1))] id ?_
 obtain ⟨v1, h2, H⟩ := oB H
 rcases oC H with ⟨c3, H⟩ | ⟨c3, H⟩
 ·obtain ⟨v4, h5, H⟩ := oB H
  refine so ([.res (cB v1)] ++ rg 5 true [.res (cB v4), .g true]) [] [(6, cB v4)] [] (fun t => aI (i_fits_ok p0 p1 v1 h2) (aG 4 c3 (lI p1.Units (aI c3 (aI (i_isIndex_ok p2 (p1.Units.length : Int) v4 h5) (aI c3 (t))))))) ?_
  cases H
  exact er
 ·refine so ([.res (cB v1)] ++ rg 6 false []) [] [(6, cB false)] [] (fun t => aI (i_fits_ok p0 p1 v1 h2) (aG 6 c3 (t))) ?_
  cases H
  exact er
def i_onMap_ir : S :=
 (sq [o 3 (.box 12 (.t 0)), o 4 (.box 3 (.t 1)), o 6 (.mv bF)]
 (sq [o 7 (.load 12 true (.t 3)), o 8 (.load 3 true (.t 4)), om 9 2, o 10 (.call 163 [.t 7, .t 8, .t 9]), om 11 10, oh 12 (.fad 2 (.t 4)) 11, oh 13 (.load 1 false (.t 12)) 11, oh 14 (.mv (.t 2)) 11, oh 15 (.iad 4 (.t 13) (.t 14)) 11, oh 16 (.fad 2 (.t 15)) 11, oh 17 (.load 1 false (.t 16)) 11, oh 18 (.bin .geq (.t 17) (iv 0)) 11, o 19 (.pick (.t 11) (.t 18) bF), om 6 19]
 .ret))
noncomputable def X.i_onMap (p0 : TBoard) (p1 : TState) (p2 : Int) : Option Bool :=
 ((X.i_hasUnit p0 p1 p2).bind fun v1 => (bif v1 then ((at' zTUnit p1.Units p2).bind fun v4 => some (decide (v4.At ≥ 0))) else some false))
theorem i_onMap_ok (p0 : TBoard) (p1 : TState) (p2 : Int) (r : Bool) (H : X.i_onMap p0 p1 p2 = some r) : FK 121 [.agg (eTBoard p0), .agg (eTState p1), cI p2] (cB r) := by
 unfold X.i_onMap at H
 refine fi Tryz.f121 i_onMap_ir [(6, cB r)] [] glL Tryz.func121 ?_
 refine sn [] [] [(3, pk 3), (4, pk 4)] [] [(3, va (eTBoard p0)), (4, va (eTState p1))] id ?_
 obtain ⟨v1, h2, H⟩ := oB H
 rcases oC H with ⟨c3, H⟩ | ⟨c3, H⟩
 ·obtain ⟨v4, h5, H⟩ := oB H
  refine so ([.res (cB v1)] ++ rg 4 true ([.cs (eTUnit v4)] ++ rg 4 true [])) [] [(6, cB (decide (v4.At ≥ 0)))] [] (fun t => aI (i_hasUnit_ok p0 p1 p2 v1 h2) (aG 4 c3 ((a2 eTUnit h5 (aG 4 c3 (t)))))) ?_
  cases H
  exact er
 ·refine so ([.res (cB v1)] ++ rg 8 false []) [] [(6, cB false)] [] (fun t => aI (i_hasUnit_ok p0 p1 p2 v1 h2) (aG 8 c3 (t))) ?_
  cases H
  exact er
def i_areOnMap_1_ir : S :=
 (sq [o 4 (.mv bF)]
 (sq [o 5 (.load 12 true (.t 1)), o 6 (.load 3 true (.t 2)), om 7 0, o 8 (.call 121 [.t 5, .t 6, .t 7]), o 9 (.not (.t 8)), om 4 9]
 .ret))
noncomputable def X.i_areOnMap_1 (p0 : Int) (p1 : TBoard) (p2 : TState) : Option Bool :=
 ((X.i_onMap p1 p2 p0).bind fun v1 => some (!v1))
theorem i_areOnMap_1_ok (p0 : Int) (p1 : TBoard) (p2 : TState) (r : Bool) (H : X.i_areOnMap_1 p0 p1 p2 = some r) : FK 120 [cI p0, .c (.pd (eTBoard p1) 0), .c (.pd (eTState p2) 0)] (cB r) := by
 unfold X.i_areOnMap_1 at H
 refine fi Tryz.f120 i_areOnMap_1_ir [(4, cB r)] [] glL Tryz.func120 ?_
 refine sn [] [] [] [] [] id ?_
 obtain ⟨v1, h2, H⟩ := oB H
 refine so [.res (cB v1)] [] [(4, cB (!v1))] [] (aI (i_onMap_ok p1 p2 p0 v1 h2)) ?_
 cases H
 exact er
def i_areOnMap_ir : S :=
 (sq [o 3 (.box 12 (.t 0)), o 4 (.box 3 (.t 1)), o 6 (.mv bF)]
 (.seq (sq [o 7 (.load 12 true (.t 3)), o 8 (.load 3 true (.t 4)), o 9 (.call 119 [.t 7, .t 8]), o 10 (.not (.t 9)), om 11 10, og 12 (.mv (.t 2)) 11, og 13 (.call 100 [.t 12]) 11, og 14 (.not (.t 13)) 11, o 15 (.pick (.t 11) bT (.t 14))]
 (.ite (.t 15) (sq [o 6 (.mv bF)]
  .ret)
 .skip))
 (sq [om 16 2, o 17 (.clo 120 [.t 3, .t 4]), o 18 (.call 92 [.t 16, .t 17]), o 19 (.not (.t 18)), om 6 19]
 .ret)))
noncomputable def X.i_areOnMap (p0 : TBoard) (p1 : TState) (p2 : (List Int)) : Option Bool :=
 ((X.i_fits p0 p1).bind fun v1 => (bif (!v1) then some false else ((X.i_increasing p2).bind fun v4 => (bif (!v4) then some false else ((X.g_ContainsFunc_int p2 (fun q0 => X.i_areOnMap_1 q0 p0 p1)).bind fun v7 => some (!v7))))))
theorem i_areOnMap_ok (p0 : TBoard) (p1 : TState) (p2 : (List Int)) (r : Bool) (H : X.i_areOnMap p0 p1 p2 = some r) : FK 58 [.agg (eTBoard p0), .agg (eTState p1), .c (dat 1 eI zI p2)] (cB r) := by
 unfold X.i_areOnMap at H
 refine fi Tryz.f58 i_areOnMap_ir [(6, cB r)] [] glL Tryz.func58 ?_
 refine sn [] [] [(3, pk 3), (4, pk 4)] [] [(3, va (eTBoard p0)), (4, va (eTState p1))] id ?_
 refine seq_in ?_
 obtain ⟨v1, h2, H⟩ := oB H
 rcases oC H with ⟨c3, H⟩ | ⟨c3, H⟩
 ·refine sn ([.res (cB v1)] ++ rg 4 true []) [] [(15, cB true)] [] [] (fun t => aI (i_fits_ok p0 p1 v1 h2) (aG 4 c3 (t))) ?_
  refine it rT ?_
  refine so [] [] [(6, cB false)] [] id ?_
  cases H
  exact er
 ·obtain ⟨v4, h5, H⟩ := oB H
  refine sn ([.res (cB v1)] ++ rg 2 false ([.res (cB v4)] ++ rg 2 false [])) [] [(15, cB (!v4))] [] [] (fun t => aI (i_fits_ok p0 p1 v1 h2) (aG 2 c3 (aI (i_increasing_ok p2 v4 h5) (aG 2 c3 (t))))) ?_
  rcases oC H with ⟨c6, H⟩ | ⟨c6, H⟩
  ·refine it c6 ?_
   refine so [] [] [(6, cB false)] [] id ?_
   cases H
   exact er
  ·refine jf c6 ?_
   refine sk ?_
   obtain ⟨v7, h8, H⟩ := oB H
   refine so [.res (cB v7)] [] [(6, cB (!v7))] [] (aI (g_ContainsFunc_int_c2_ok p2 (120) (eTBoard p0) (eTState p1) (fun q0 => X.i_areOnMap_1 q0 p0 p1) (fun q0 r h => i_areOnMap_1_ok q0 p0 p1 r h) v7 h8)) ?_
   cases H
   exact er
def g_Clone_Unit_ir : S :=
 (sq [o 2 (.mv (.v (.nil)))]
 (.seq (sq [om 3 0, o 4 (.isn false (.t 3))]
 (.ite (.t 4) (sq [o 2 (.mv (.v (.nil)))]
  .ret)
 .skip))
 (sq [o 5 (.bsl 4 []), om 6 0, o 7 (.app 4 32 (.t 5) (.t 6)), om 2 7]
 .ret)))
noncomputable def X.g_Clone_Unit (p0 : (List TUnit)) : Option (List TUnit) :=
 (if (([] : List TUnit) ++ p0).length ≤ LIM then some (([] : List TUnit) ++ p0) else none)
theorem g_Clone_Unit_Md_ok (p0 : (List TUnit)) (r : (List TUnit)) (H : X.g_Clone_Unit p0 = some r) : FnMu Tryz.prog gl 164 [.c (dat 4 eTUnit zTUnit p0)] [] (.c (.own 900000 4 0 r.length)) [(900000, .arr 4 r.length (fF eTUnit zTUnit r) false)] := by
 unfold X.g_Clone_Unit at H
 refine fn_mu (fn := Tryz.f164) (ir := g_Clone_Unit_ir) (E' := [(2, ow 900000 4 r)]) (E1 := [(900000, ar 4 eTUnit zTUnit r)]) glL Tryz.func164 (by kernel_rfl) (by kernel_rfl) (by kernel_rfl) (by kernel_rfl) (by kernel_rfl) ?_
 refine tl [] [(0, dc 4 eTUnit zTUnit p0)] [] id ?_
 refine split_nil (fun h0 => ?_) ?_
 ·obtain rfl := List.eq_nil_of_length_eq_zero h0
  replace H : (some ([] : List TUnit) : Option (List TUnit)) = some r := by simpa [LIM] using H
  refine sn [] [] [] [] [] id ?_
  refine seq_in ?_
  refine sn [] [] [(4, cB true)] [] [] id ?_
  refine it rT ?_
  refine so [] [] [(2, .c (.nil))] [] id ?_
  refine tl [.nlo 2 900000 4 (fF eTUnit zTUnit ([] : List TUnit))] [(2, ow 900000 4 ([] : List TUnit))] [(900000, ar 4 eTUnit zTUnit ([] : List TUnit))] (aI (by decide : 0 < 4)) ?_
  cases H
  exact er
 ·refine sn [] [] [] [] [] id ?_
  refine seq_in ?_
  refine sn [] [] [(4, cB false)] [] [] id ?_
  refine jf rF ?_
  refine sk ?_
  obtain ⟨g1, H⟩ := oI H
  refine so [fh eTUnit zTUnit ([] : List TUnit), fh eTUnit zTUnit (([] : List TUnit) ++ p0)] [] [(2, ow 7 4 (([] : List TUnit) ++ p0))] [(7, ar 4 eTUnit zTUnit (([] : List TUnit) ++ p0))] (fun t => aI (rfl : ([] : List TUnit).length = 0) (aI (fF_lit eTUnit zTUnit ([] : List TUnit)) (aI (And.intro (Nat.le_refl (([] : List TUnit).length)) (And.intro (@List.length_append _ ([] : List TUnit) p0) g1)) (aI (fF_appL eTUnit zTUnit ([] : List TUnit) p0) (aI (fF_appR eTUnit zTUnit ([] : List TUnit) p0) (t)))))) ?_
  refine tl [.ren 7 900000] [(2, ow 900000 4 (([] : List TUnit) ++ p0))] [(900000, ar 4 eTUnit zTUnit (([] : List TUnit) ++ p0))] id ?_
  cases H
  exact er
def i_cloneState_ir : S :=
 (sq [o 1 (.box 3 (.t 0)), o 2 (.alloc [.int .i64 0, .int .i64 0, .nil])]
 (sq [oa 3 2 1, ol 4 3, o 5 (.call 164 [.t 4]), oa 6 2 1, os 1 6 5]
 (sq [o 7 (.load 3 true (.t 1)), os 3 2 7]
 .ret)))
noncomputable def X.i_cloneState (p0 : TState) : Option TState :=
 ((X.g_Clone_Unit p0.Units).bind fun v1 => some (TState.mk p0.Turn p0.Weather v1))
theorem i_cloneState_Md_ok (p0 : TState) (r : TState) (H : X.i_cloneState p0 = some r) : FnMu Tryz.prog gl 122 [.agg (eTState p0)] [] (.agg [.int .i64 r.Turn, .int .i64 r.Weather, .own 900000 4 0 r.Units.length]) [(2, .var [.int .i64 r.Turn, .int .i64 r.Weather, .own 900000 4 0 r.Units.length] false), (900000, .arr 4 r.Units.length (fF eTUnit zTUnit r.Units) false)] := by
 unfold X.i_cloneState at H
 refine fn_mu (fn := Tryz.f122) (ir := i_cloneState_ir) (E' := [(2, pk 2)]) (E1 := [(2, .var [jI r.Turn, jI r.Weather, .own 900000 4 0 r.Units.length] false), (900000, ar 4 eTUnit zTUnit r.Units)]) glL Tryz.func122 (by kernel_rfl) (by kernel_rfl) (by kernel_rfl) (by kernel_rfl) (by kernel_rfl) ?_
 refine so [] [] [(1, pk 1), (2, pk 2)] [(1, va (eTState p0)), (2, .var [jI 0, jI 0, .nil] false)] id ?_
 obtain ⟨v1, h2, H⟩ := oB H
 refine sn [.mu [] [(900000, 1001)] (ow 900000 4 v1) [(900000, ar 4 eTUnit zTUnit v1)]] [] [] [1] [(1, .var [jI p0.Turn, jI p0.Weather, .own 1001 4 0 v1.length] false), (1001, ar 4 eTUnit zTUnit v1)] (aI (g_Clone_Unit_Md_ok p0.Units v1 h2)) ?_
 refine sn [] [] [] [2] [(2, .var [jI p0.Turn, jI p0.Weather, .own 1001 4 0 v1.length] false)] id ?_
 refine tl [.ren 1001 900000] [(2, pk 2)] [(2, .var [jI p0.Turn, jI p0.Weather, .own 900000 4 0 v1.length] false), (900000, ar 4 eTUnit zTUnit v1)] id ?_
 cases H
 exact er
def i_ownerOf_ir : S :=
 (sq [o 2 (.box 3 (.t 0)), o 4 (.mv (iv 0))]
 (.seq (sq [oa 7 2 2, ol 8 7, o 9 (.len (.t 8)), o 10 (.mv (iv 0))]
 (.blk 0 (.loop (sq [o 11 (.bin .lss (.t 10) (.t 9))]
   (.seq (.ite (.t 11) .skip
   (.exit 0))
   (.seq (.blk 1 (sq [o 12 (.iad 4 (.t 8) (.t 10)), o 13 (.load 4 true (.t 12)), o 6 (.alloc [.int .i64 0, .int .i64 0, .int .i64 0, .int .i64 0]), os 4 6 13]
    (sq [oa 14 2 6, ol 15 14, om 16 1, o 17 (.bin .eql (.t 15) (.t 16))]
    (.ite (.t 17) (sq [oa 18 0 6, ol 19 18, om 4 19]
     .ret)
    .skip))))
   (.ops [o 20 (.bin .add (.t 10) (iv 1)), om 10 20])))))))
 (sq [o 4 (.mv (.v (.int .i64 (-1))))]
 .ret)))
noncomputable def X.i_ownerOf (p0 : TState) (p1 : Int) : Option Int :=
 ((loop (fun (x12 : Int) => ((bif (decide (x12 < (p0.Units.length : Int))) then ((at' zTUnit p0.Units x12).bind fun v15 => (bif (v15.At == p1) then some (Sum.inr (Sum.inr v15.Side)) else some (Sum.inl (W (x12 + 1))))) else some (Sum.inr (Sum.inl ()))) : Option (Int ⊕ (Unit ⊕ Int)))) 0).bind fun y18 => (Sum.elim (fun (y20 : Unit) => some (-1)) (fun (y21 : Int) => some y21) y18))
theorem i_ownerOf_ok (p0 : TState) (p1 : Int) (r : Int) (H : X.i_ownerOf p0 p1 = some r) : FK 261 [.agg (eTState p0), cI p1] (cI r) := by
 unfold X.i_ownerOf at H
 refine fi Tryz.f261 i_ownerOf_ir [(4, cI r)] [] glL Tryz.func261 ?_
 refine sn [] [] [(2, pk 2)] [] [(2, va (eTState p0))] id ?_
 refine seq_in ?_
 refine sn [] [] [(8, dc 4 eTUnit zTUnit p0.Units), (9, cL p0.Units), (10, cI 0)] [] [] (fun t => lI p0.Units (t)) ?_
 refine ends_blk ?_
 obtain ⟨y18, h19, H⟩ := oB H
 refine tl [] [(1, cI p1), (8, dc 4 eTUnit zTUnit p0.Units), (9, cL p0.Units), (10, cI 0)] [] id ?_
 refine loop_in (fun (x : Int) => lit [(1, cI p1), (8, dc 4 eTUnit zTUnit p0.Units), (9, cL p0.Units), (10, cI x)] []) (orJ (fun (z : Unit) => At (.exit 0) (lit [] [])) (fun (z : Int) => At .ret (lit [(4, cI z)] []))) h19 ?_ ?_
 ·clear H h19
  intro x12 y0 H
  refine sn [] [] [(11, cB (decide (x12 < (p0.Units.length : Int))))] [] [] id ?_
  refine seq_in ?_
  rcases oC H with ⟨c14, H⟩ | ⟨c14, H⟩
  ·refine it c14 ?_
   refine sk ?_
   refine seq_in ?_
   refine ends_blk ?_
   obtain ⟨v15, h16, H⟩ := oB H
   refine sn [.cs (eTUnit v15)] [] [(6, pk 6)] [] [(6, va (eTUnit v15))] (a2 eTUnit h16) ?_
   refine sn [] [] [(17, cB (v15.At == p1))] [] [] id ?_
   rcases oC H with ⟨c17, H⟩ | ⟨c17, H⟩
   ·refine it c17 ?_
    refine so [] [] [(4, cI v15.Side)] [] id ?_
    refine ends_ret ?_
    cases H
    exact rsr
   ·refine jf c17 ?_
    refine sk ?_
    refine oo [] [] [(1, cI p1), (8, dc 4 eTUnit zTUnit p0.Units), (9, cL p0.Units), (10, cI (W (x12 + 1)))] [] id ?_
    cases H
    exact rr
  ·refine jf c14 ?_
   refine tl [] [] [] id ?_
   refine ends_exit ?_
   cases H
   exact rse
 ·clear h19
  cases y18 with
  | inl y20 =>
   replace H := ofInl H
   rintro e s ⟨rfl, rfl⟩
   change EndsI _ _ _ _ _ _
   refine so [] [] [(4, cI (-1))] [] id ?_
   cases H
   exact er
  | inr y21 =>
   replace H := ofInr H
   rintro e s ⟨rfl, rfl⟩
   cases H
   exact qr
def i_unitsAt_ir : S :=
 (sq [o 2 (.box 3 (.t 0)), o 4 (.mv (.v (.nil)))]
 (sq [o 8 (.bsl 1 []), om 5 8]
 (.seq (sq [oa 9 2 2, ol 10 9, o 11 (.len (.t 10)), o 12 (.mv (iv 0))]
 (.blk 0 (.loop (sq [o 13 (.bin .lss (.t 12) (.t 11))]
   (.seq (.ite (.t 13) .skip
   (.exit 0))
   (.seq (.blk 1 (sq [om 14 12, o 15 (.iad 4 (.t 10) (.t 12)), o 16 (.load 4 true (.t 15)), o 7 (.alloc [.int .i64 0, .int .i64 0, .int .i64 0, .int .i64 0]), om 6 14, os 4 7 16]
    (sq [oa 17 2 7, ol 18 17, om 19 1, o 20 (.bin .eql (.t 18) (.t 19))]
    (.ite (.t 20) (.ops [om 21 5, om 22 6, o 23 (.bsl 1 [.t 22]), o 24 (.app 1 8 (.t 21) (.t 23)), om 5 24])
    .skip))))
   (.ops [o 25 (.bin .add (.t 12) (iv 1)), om 12 25])))))))
 (sq [om 26 5, om 4 26]
 .ret))))
noncomputable def X.i_unitsAt (p0 : TState) (p1 : Int) : Option (List Int) :=
 ((loop (fun (x14 : (Int × (List Int))) => ((bif (decide (x14.1 < (p0.Units.length : Int))) then ((at' zTUnit p0.Units x14.1).bind fun v17 => (bif (v17.At == p1) then (if (x14.2 ++ ([x14.1] : List Int)).length ≤ LIM then some (Sum.inl ((W (x14.1 + 1)), (x14.2 ++ ([x14.1] : List Int)))) else none) else some (Sum.inl ((W (x14.1 + 1)), x14.2)))) else some (Sum.inr x14.2)) : Option ((Int × (List Int)) ⊕ (List Int)))) (0, ([] : List Int))).bind fun y21 => some y21)
theorem i_unitsAt_ok (p0 : TState) (p1 : Int) (r : (List Int)) (H : X.i_unitsAt p0 p1 = some r) : FK 262 [.agg (eTState p0), cI p1] (.c (dat 1 eI zI r)) := by
 unfold X.i_unitsAt at H
 refine fi Tryz.f262 i_unitsAt_ir [(4, dc 1 eI zI r)] [] glL Tryz.func262 ?_
 refine sn [] [] [(2, pk 2)] [] [(2, va (eTState p0))] id ?_
 refine sn [fh eI zI ([] : List Int)] [] [(5, ow 8 1 ([] : List Int))] [] [(8, ar 1 eI zI ([] : List Int))] (fun t => aI (rfl : ([] : List Int).length = 0) (aI (fF_lit eI zI ([] : List Int)) (t))) ?_
 refine seq_in ?_
 refine sn [] [] [(10, dc 4 eTUnit zTUnit p0.Units), (11, cL p0.Units), (12, cI 0)] [] [] (fun t => lI p0.Units (t)) ?_
 refine ends_blk ?_
 obtain ⟨y21, h22, H⟩ := oB H
 refine tl [.ren 8 1001] [(1, cI p1), (5, ow 1001 1 ([] : List Int)), (10, dc 4 eTUnit zTUnit p0.Units), (11, cL p0.Units), (12, cI 0)] [(1001, ar 1 eI zI ([] : List Int))] id ?_
 refine loop_in (fun (x : (Int × (List Int))) => lit [(1, cI p1), (5, ow 1001 1 x.2), (10, dc 4 eTUnit zTUnit p0.Units), (11, cL p0.Units), (12, cI x.1)] [(1001, ar 1 eI zI x.2)]) (fun (z : (List Int)) => At (.exit 0) (lit [(5, ow 1001 1 z)] [(1001, ar 1 eI zI z)])) h22 ?_ ?_
 ·clear H h22
  intro x14 y0 H
  refine sn [] [] [(13, cB (decide (x14.1 < (p0.Units.length : Int))))] [] [] id ?_
  refine seq_in ?_
  rcases oC H with ⟨c16, H⟩ | ⟨c16, H⟩
  ·refine it c16 ?_
   refine sk ?_
   refine seq_in ?_
   refine ends_blk ?_
   obtain ⟨v17, h18, H⟩ := oB H
   refine sn [.cs (eTUnit v17)] [] [(6, cI x14.1), (7, pk 7)] [] [(7, va (eTUnit v17))] (a2 eTUnit h18) ?_
   refine sn [] [] [(20, cB (v17.At == p1))] [] [] id ?_
   rcases oC H with ⟨c19, H⟩ | ⟨c19, H⟩
   ·refine it c19 ?_
    obtain ⟨g20, H⟩ := oI H
    refine oo [fh eI zI ([x14.1] : List Int), fh eI zI (x14.2 ++ ([x14.1] : List Int))] [] [(1, cI p1), (5, ow 24 1 (x14.2 ++ ([x14.1] : List Int))), (10, dc 4 eTUnit zTUnit p0.Units), (11, cL p0.Units), (12, cI x14.1)] [(24, ar 1 eI zI (x14.2 ++ ([x14.1] : List Int)))] (fun t => aI (rfl : ([x14.1] : List Int).length = 1) (aI (fF_lit eI zI ([x14.1] : List Int)) (aI (Nat.le_refl (([x14.1] : List Int).length)) (aI (And.intro (Nat.le_refl x14.2.length) (And.intro (@List.length_append _ x14.2 ([x14.1] : List Int)) g20)) (aI (fF_appL eI zI x14.2 ([x14.1] : List Int)) (aI (fF_appR eI zI x14.2 ([x14.1] : List Int)) (t))))))) ?_
    change EndsI _ _ _ _ _ _
    refine oo [] [.ren 24 1001] [(1, cI p1), (5, ow 1001 1 (x14.2 ++ ([x14.1] : List Int))), (10, dc 4 eTUnit zTUnit p0.Units), (11, cL p0.Units), (12, cI (W (x14.1 + 1)))] [(1001, ar 1 eI zI (x14.2 ++ ([x14.1] : List Int)))] id ?_
    cases H
    exact rr
   ·refine jf c19 ?_
    refine sk ?_
    refine oo [] [] [(1, cI p1), (5, ow 1001 1 x14.2), (10, dc 4 eTUnit zTUnit p0.Units), (11, cL p0.Units), (12, cI (W (x14.1 + 1)))] [(1001, ar 1 eI zI x14.2)] id ?_
    cases H
    exact rr
  ·refine jf c16 ?_
   refine tl [] [(5, ow 1001 1 x14.2)] [(1001, ar 1 eI zI x14.2)] id ?_
   refine ends_exit ?_
   cases H
   exact rse
 ·clear h22
  rintro e s ⟨rfl, rfl⟩
  change EndsI _ _ _ _ _ _
  refine sn [] [] [(4, ow 1001 1 y21)] [] [] id ?_
  refine tl [.frz 4] [(4, dc 1 eI zI y21)] [] (aI (Nat.le_refl y21.length)) ?_
  cases H
  exact er
def i_stackRoom_ir : S :=
 (sq [o 4 (.box 12 (.t 0)), o 5 (.box 3 (.t 1)), o 8 (.mv (iv 0))]
 (.seq (sq [o 9 (.load 3 true (.t 5)), om 10 3, o 11 (.call 261 [.t 9, .t 10]), om 12 2, o 13 (.bin .sub (iv 1) (.t 12)), o 14 (.bin .eql (.t 11) (.t 13))]
 (.ite (.t 14) (sq [o 8 (.mv (iv 0))]
  .ret)
 .skip))
 (.seq (.drw [(0, 3), (1, 3), (2, 3), (0, 4), (1, 4), (2, 4), (3, 4), (0, 5), (1, 5), (2, 5), (0, 6), (1, 6), (2, 6)] [oa 15 0 4, oa 16 2 15, ol 17 16, o 18 (.load 3 true (.t 5)), om 19 3, o 20 (.call 262 [.t 18, .t 19]), o 21 (.len (.t 20)), o 22 (.bin .sub (.t 17) (.t 21)), om 8 22])
 .ret)))
noncomputable def X.i_stackRoom (p0 : TBoard) (p1 : TState) (p2 : Int) (p3 : Int) : Option Int :=
 ((X.i_ownerOf p1 p3).bind fun v4 => (bif (v4 == (W (1 - p2))) then some 0 else ((X.i_unitsAt p1 p3).bind fun v7 => some (W (p0.Rules.Stack - (v7.length : Int))))))
theorem i_stackRoom_ok (p0 : TBoard) (p1 : TState) (p2 : Int) (p3 : Int) (r : Int) (H : X.i_stackRoom p0 p1 p2 p3 = some r) : FK 241 [.agg (eTBoard p0), .agg (eTState p1), cI p2, cI p3] (cI r) := by
 unfold X.i_stackRoom at H
 refine fi Tryz.f241 i_stackRoom_ir [(8, cI r)] [] glL Tryz.func241 ?_
 refine sn [] [] [(4, pk 4), (5, pk 5)] [] [(4, va (eTBoard p0)), (5, va (eTState p1))] id ?_
 refine seq_in ?_
 obtain ⟨v4, h5, H⟩ := oB H
 refine sn [.res (cI v4)] [] [(14, cB (v4 == (W (1 - p2))))] [] [] (aI (i_ownerOf_ok p1 p3 v4 h5)) ?_
 rcases oC H with ⟨c6, H⟩ | ⟨c6, H⟩
 ·refine it c6 ?_
  refine so [] [] [(8, cI 0)] [] id ?_
  cases H
  exact er
 ·refine jf c6 ?_
  refine sk ?_
  obtain ⟨v7, h8, H⟩ := oB H
  refine sx [.res (dc 1 eI zI v7)] [] [(8, cI (W (p0.Rules.Stack - (v7.length : Int))))] [] (fun t => aI (i_unitsAt_ok p1 p3 v7 h8) (aG 2 rN (t))) ?_
  cases H
  exact er
def g_Clone_int_ir : S :=
 (sq [o 2 (.mv (.v (.nil)))]
 (.seq (sq [om 3 0, o 4 (.isn false (.t 3))]
 (.ite (.t 4) (sq [o 2 (.mv (.v (.nil)))]
  .ret)
 .skip))
 (sq [o 5 (.bsl 1 []), om 6 0, o 7 (.app 1 8 (.t 5) (.t 6)), om 2 7]
 .ret)))
noncomputable def X.g_Clone_int (p0 : (List Int)) : Option (List Int) :=
 (if (([] : List Int) ++ p0).length ≤ LIM then some (([] : List Int) ++ p0) else none)
theorem g_Clone_int_Md_ok (p0 : (List Int)) (r : (List Int)) (H : X.g_Clone_int p0 = some r) : FnMu Tryz.prog gl 242 [.c (dat 1 eI zI p0)] [] (.c (.own 900000 1 0 r.length)) [(900000, .arr 1 r.length (fF eI zI r) false)] := by
 unfold X.g_Clone_int at H
 refine fn_mu (fn := Tryz.f242) (ir := g_Clone_int_ir) (E' := [(2, ow 900000 1 r)]) (E1 := [(900000, ar 1 eI zI r)]) glL Tryz.func242 (by kernel_rfl) (by kernel_rfl) (by kernel_rfl) (by kernel_rfl) (by kernel_rfl) ?_
 refine tl [] [(0, dc 1 eI zI p0)] [] id ?_
 refine split_nil (fun h0 => ?_) ?_
 ·obtain rfl := List.eq_nil_of_length_eq_zero h0
  replace H : (some ([] : List Int) : Option (List Int)) = some r := by simpa [LIM] using H
  refine sn [] [] [] [] [] id ?_
  refine seq_in ?_
  refine sn [] [] [(4, cB true)] [] [] id ?_
  refine it rT ?_
  refine so [] [] [(2, .c (.nil))] [] id ?_
  refine tl [.nlo 2 900000 1 (fF eI zI ([] : List Int))] [(2, ow 900000 1 ([] : List Int))] [(900000, ar 1 eI zI ([] : List Int))] (aI (by decide : 0 < 1)) ?_
  cases H
  exact er
 ·refine sn [] [] [] [] [] id ?_
  refine seq_in ?_
  refine sn [] [] [(4, cB false)] [] [] id ?_
  refine jf rF ?_
  refine sk ?_
  obtain ⟨g1, H⟩ := oI H
  refine so [fh eI zI ([] : List Int), fh eI zI (([] : List Int) ++ p0)] [] [(2, ow 7 1 (([] : List Int) ++ p0))] [(7, ar 1 eI zI (([] : List Int) ++ p0))] (fun t => aI (rfl : ([] : List Int).length = 0) (aI (fF_lit eI zI ([] : List Int)) (aI (And.intro (Nat.le_refl (([] : List Int).length)) (And.intro (@List.length_append _ ([] : List Int) p0) g1)) (aI (fF_appL eI zI ([] : List Int) p0) (aI (fF_appR eI zI ([] : List Int) p0) (t)))))) ?_
  refine tl [.ren 7 900000] [(2, ow 900000 1 (([] : List Int) ++ p0))] [(900000, ar 1 eI zI (([] : List Int) ++ p0))] id ?_
  cases H
  exact er
def g_Index_int_ir : S :=
 (sq [o 4 (.mv (iv 0))]
 (.seq (sq [om 6 0, o 7 (.len (.t 6)), o 8 (.mv (iv 0))]
 (.blk 0 (.loop (sq [o 9 (.bin .lss (.t 8) (.t 7))]
   (.seq (.ite (.t 9) .skip
   (.exit 0))
   (.seq (.blk 1 (sq [om 10 8, om 5 10]
    (sq [om 11 1, om 12 0, om 13 5, o 14 (.iad 1 (.t 12) (.t 13)), ol 15 14, o 16 (.bin .eql (.t 11) (.t 15))]
    (.ite (.t 16) (sq [om 17 5, om 4 17]
     .ret)
    .skip))))
   (.ops [o 18 (.bin .add (.t 8) (iv 1)), om 8 18])))))))
 (sq [o 4 (.mv (.v (.int .i64 (-1))))]
 .ret)))
noncomputable def X.g_Index_int (p0 : (List Int)) (p1 : Int) : Option Int :=
 ((loop (fun (x12 : Int) => ((bif (decide (x12 < (p0.length : Int))) then ((at' zI p0 x12).bind fun v15 => (bif (p1 == v15) then some (Sum.inr (Sum.inr x12)) else some (Sum.inl (W (x12 + 1))))) else some (Sum.inr (Sum.inl ()))) : Option (Int ⊕ (Unit ⊕ Int)))) 0).bind fun y18 => (Sum.elim (fun (y20 : Unit) => some (-1)) (fun (y21 : Int) => some y21) y18))
theorem g_Index_int_ok (p0 : (List Int)) (p1 : Int) (r : Int) (H : X.g_Index_int p0 p1 = some r) : FK 155 [.c (dat 1 eI zI p0), cI p1] (cI r) := by
 unfold X.g_Index_int at H
 refine fi Tryz.f155 g_Index_int_ir [(4, cI r)] [] glL Tryz.func155 ?_
 refine sn [] [] [] [] [] id ?_
 refine seq_in ?_
 refine sn [] [] [(7, cL p0), (8, cI 0)] [] [] (fun t => lI p0 (t)) ?_
 refine ends_blk ?_
 obtain ⟨y18, h19, H⟩ := oB H
 refine tl [] [(0, dc 1 eI zI p0), (1, cI p1), (7, cL p0), (8, cI 0)] [] id ?_
 refine loop_in (fun (x : Int) => lit [(0, dc 1 eI zI p0), (1, cI p1), (7, cL p0), (8, cI x)] []) (orJ (fun (z : Unit) => At (.exit 0) (lit [] [])) (fun (z : Int) => At .ret (lit [(4, cI z)] []))) h19 ?_ ?_
 ·clear H h19
  intro x12 y0 H
  refine sn [] [] [(9, cB (decide (x12 < (p0.length : Int))))] [] [] id ?_
  refine seq_in ?_
  rcases oC H with ⟨c14, H⟩ | ⟨c14, H⟩
  ·refine it c14 ?_
   refine sk ?_
   refine seq_in ?_
   refine ends_blk ?_
   refine sn [] [] [(5, cI x12)] [] [] id ?_
   obtain ⟨v15, h16, H⟩ := oB H
   refine sn [.cs (eI v15)] [] [(16, cB (p1 == v15))] [] [] (a2 eI h16) ?_
   rcases oC H with ⟨c17, H⟩ | ⟨c17, H⟩
   ·refine it c17 ?_
    refine so [] [] [(4, cI x12)] [] id ?_
    refine ends_ret ?_
    cases H
    exact rsr
   ·refine jf c17 ?_
    refine sk ?_
    refine oo [] [] [(0, dc 1 eI zI p0), (1, cI p1), (7, cL p0), (8, cI (W (x12 + 1)))] [] id ?_
    cases H
    exact rr
  ·refine jf c14 ?_
   refine tl [] [] [] id ?_
   refine ends_exit ?_
   cases H
   exact rse
 ·clear h19
  cases y18 with
  | inl y20 =>
   replace H := ofInl H
   rintro e s ⟨rfl, rfl⟩
   change EndsI _ _ _ _ _ _
   refine so [] [] [(4, cI (-1))] [] id ?_
   cases H
   exact er
  | inr y21 =>
   replace H := ofInr H
   rintro e s ⟨rfl, rfl⟩
   cases H
   exact qr
def g_Contains_int_ir : S :=
 (sq [o 4 (.mv bF)]
 (sq [om 5 0, om 6 1, o 7 (.call 155 [.t 5, .t 6]), o 8 (.bin .geq (.t 7) (iv 0)), om 4 8]
 .ret))
noncomputable def X.g_Contains_int (p0 : (List Int)) (p1 : Int) : Option Bool :=
 ((X.g_Index_int p0 p1).bind fun v1 => some (decide (v1 ≥ 0)))
theorem g_Contains_int_ok (p0 : (List Int)) (p1 : Int) (r : Bool) (H : X.g_Contains_int p0 p1 = some r) : FK 105 [.c (dat 1 eI zI p0), cI p1] (cB r) := by
 unfold X.g_Contains_int at H
 refine fi Tryz.f105 g_Contains_int_ir [(4, cB r)] [] glL Tryz.func105 ?_
 refine sn [] [] [] [] [] id ?_
 obtain ⟨v1, h2, H⟩ := oB H
 refine so [.res (cI v1)] [] [(4, cB (decide (v1 ≥ 0)))] [] (aI (g_Index_int_ok p0 p1 v1 h2)) ?_
 cases H
 exact er
def i_crossesFreely_ir : S :=
 (sq [o 2 (.box 5 (.t 0)), o 4 (.mv bF)]
 (sq [oa 5 3 2, ol 6 5, om 7 1, o 8 (.call 105 [.t 6, .t 7]), o 9 (.not (.t 8)), om 10 9, og 11 (.fad 4 (.t 2)) 10, og 12 (.load 1 false (.t 11)) 10, og 13 (.mv (.t 1)) 10, og 14 (.call 105 [.t 12, .t 13]) 10, o 15 (.pick (.t 10) bT (.t 14)), om 4 15]
 .ret))
noncomputable def X.i_crossesFreely (p0 : TMap) (p1 : Int) : Option Bool :=
 ((X.g_Contains_int p0.Rivers p1).bind fun v1 => (bif (!v1) then some true else ((X.g_Contains_int p0.Roads p1).bind fun v4 => some v4)))
theorem i_crossesFreely_ok (p0 : TMap) (p1 : Int) (r : Bool) (H : X.i_crossesFreely p0 p1 = some r) : FK 274 [.agg (eTMap p0), cI p1] (cB r) := by
 unfold X.i_crossesFreely at H
 refine fi Tryz.f274 i_crossesFreely_ir [(4, cB r)] [] glL Tryz.func274 ?_
 refine sn [] [] [(2, pk 2)] [] [(2, va (eTMap p0))] id ?_
 obtain ⟨v1, h2, H⟩ := oB H
 rcases oC H with ⟨c3, H⟩ | ⟨c3, H⟩
 ·refine so ([.res (cB v1)] ++ rg 5 true []) [] [(4, cB true)] [] (fun t => aI (g_Contains_int_ok p0.Rivers p1 v1 h2) (aG 5 c3 (t))) ?_
  cases H
  exact er
 ·obtain ⟨v4, h5, H⟩ := oB H
  refine so ([.res (cB v1)] ++ rg 4 false [.res (cB v4), .g false]) [] [(4, cB v4)] [] (fun t => aI (g_Contains_int_ok p0.Rivers p1 v1 h2) (aG 4 c3 (aI (g_Contains_int_ok p0.Roads p1 v4 h5) (aI c3 (t))))) ?_
  cases H
  exact er
def i_edgeOf_ir : S :=
 (sq [o 3 (.box 5 (.t 0)), o 6 (.mv (iv 0))]
 (sq [o 8 (.load 5 true (.t 3)), om 9 1, om 10 2, o 11 (.call 184 [.t 8, .t 9, .t 10]), om 7 11]
 (.seq (.blk 0 (sq [om 13 7, o 14 (.bin .lss (.t 13) (iv 0)), om 12 14]
  (.ite (.t 12) (sq [o 6 (.mv (.v (.int .i64 (-1))))]
   .ret)
  (sq [om 16 2, o 17 (.bin .lss (.t 16) (iv 3)), om 15 17]
   (.ite (.t 15) (sq [om 18 1, o 19 (.bin .mul (iv 3) (.t 18)), om 20 2, o 21 (.bin .add (.t 19) (.t 20)), om 6 21]
    .ret)
   .skip)))))
 (sq [om 22 7, o 23 (.bin .mul (iv 3) (.t 22)), om 24 2, o 25 (.bin .add (.t 23) (.t 24)), o 26 (.bin .sub (.t 25) (iv 3)), om 6 26]
 .ret))))
noncomputable def X.i_edgeOf (p0 : TMap) (p1 : Int) (p2 : Int) : Option Int :=
 ((X.i_nextTo p0 p1 p2).bind fun v1 => (bif (decide (v1 < 0)) then some (-1) else (bif (decide (p2 < 3)) then some (W ((W (3 * p1)) + p2)) else some (W ((W ((W (3 * v1)) + p2)) - 3)))))
theorem i_edgeOf_ok (p0 : TMap) (p1 : Int) (p2 : Int) (r : Int) (H : X.i_edgeOf p0 p1 p2 = some r) : FK 275 [.agg (eTMap p0), cI p1, cI p2] (cI r) := by
 unfold X.i_edgeOf at H
 refine fi Tryz.f275 i_edgeOf_ir [(6, cI r)] [] glL Tryz.func275 ?_
 refine sn [] [] [(3, pk 3)] [] [(3, va (eTMap p0))] id ?_
 obtain ⟨v1, h2, H⟩ := oB H
 refine sn [.res (cI v1)] [] [(7, cI v1)] [] [] (aI (i_nextTo_ok p0 p1 p2 v1 h2)) ?_
 refine seq_in ?_
 refine ends_blk ?_
 refine sn [] [] [(12, cB (decide (v1 < 0)))] [3] [] id ?_
 rcases oC H with ⟨c3, H⟩ | ⟨c3, H⟩
 ·refine it c3 ?_
  refine so [] [] [(6, cI (-1))] [] id ?_
  cases H
  exact er
 ·refine jf c3 ?_
  refine sn [] [] [(15, cB (decide (p2 < 3)))] [] [] id ?_
  rcases oC H with ⟨c4, H⟩ | ⟨c4, H⟩
  ·refine it c4 ?_
   refine so [] [] [(6, cI (W ((W (3 * p1)) + p2)))] [] id ?_
   cases H
   exact er
  ·refine jf c4 ?_
   refine sk ?_
   refine so [] [] [(6, cI (W ((W ((W (3 * v1)) + p2)) - 3)))] [] id ?_
   cases H
   exact er
def i_controls_ir : S :=
 (sq [o 3 (.box 12 (.t 0)), o 4 (.box 4 (.t 1)), o 6 (.mv bF)]
 (.seq (sq [oa 8 2 4, ol 9 8, o 10 (.bin .lss (.t 9) (iv 0)), om 11 10, og 12 (.fad 0 (.t 3)) 11, og 13 (.fad 1 (.t 12)) 11, og 14 (.load 1 false (.t 13)) 11, og 15 (.fad 1 (.t 4)) 11, og 16 (.load 1 false (.t 15)) 11, og 17 (.iad 6 (.t 14) (.t 16)) 11, og 18 (.fad 4 (.t 17)) 11, og 19 (.load 1 false (.t 18)) 11, og 20 (.not (.t 19)) 11, o 21 (.pick (.t 11) bT (.t 20)), om 22 21, og 23 (.load 12 true (.t 3)) 22, og 24 (.fad 1 (.t 4)) 22, og 25 (.load 1 false (.t 24)) 22, og 26 (.mv (.t 2)) 22, og 27 (.call 154 [.t 23, .t 25, .t 26]) 22, og 28 (.bin .eql (.t 27) (iv 0)) 22, o 29 (.pick (.t 22) bT (.t 28))]
 (.ite (.t 29) (sq [o 6 (.mv bF)]
  .ret)
 .skip))
 (.seq (sq [o 30 (.mv (iv 0))]
 (.blk 0 (.loop (sq [o 31 (.bin .lss (.t 30) (iv 6))]
   (.seq (.ite (.t 31) .skip
   (.exit 0))
   (.seq (.blk 1 (sq [om 32 30, om 7 32]
    (sq [oa 33 7 3, o 34 (.load 5 true (.t 33)), oa 35 2 4, ol 36 35, om 37 7, o 38 (.call 184 [.t 34, .t 36, .t 37]), om 39 2, o 40 (.bin .eql (.t 38) (.t 39))]
    (.ite (.t 40) (.seq (.drw [(0, 2), (1, 2), (0, 3), (1, 3), (0, 4), (1, 4), (2, 4), (3, 4), (0, 5), (1, 5), (2, 5), (3, 5), (0, 6), (1, 6), (2, 6), (3, 6), (4, 6), (5, 6), (0, 7), (1, 7)] [oa 41 7 3, o 42 (.load 5 true (.t 41)), oa 43 7 3, o 44 (.load 5 true (.t 43)), oa 45 2 4, ol 46 45, om 47 7, o 48 (.call 275 [.t 44, .t 46, .t 47]), o 49 (.call 274 [.t 42, .t 48]), om 6 49])
     .ret)
    .skip))))
   (.ops [o 50 (.bin .add (.t 30) (iv 1)), om 30 50])))))))
 (sq [o 6 (.mv bF)]
 .ret))))
noncomputable def X.i_controls (p0 : TBoard) (p1 : TUnit) (p2 : Int) : Option Bool :=
 (bif (decide (p1.At < 0)) then some false else ((at' zTKind p0.Rules.Kinds p1.Kind).bind fun v9 => (bif (!v9.Zone) then some false else ((X.i_enterCost p0 p1.Kind p2).bind fun v12 => (bif (v12 == 0) then some false else ((loop (fun (x34 : Int) => ((bif (decide (x34 < 6)) then ((X.i_nextTo p0.Map p1.At x34).bind fun v37 => (bif (v37 == p2) then ((X.i_edgeOf p0.Map p1.At x34).bind fun v40 => ((X.i_crossesFreely p0.Map v40).bind fun v42 => some (Sum.inr (Sum.inr v42)))) else some (Sum.inl (W (x34 + 1))))) else some (Sum.inr (Sum.inl ()))) : Option (Int ⊕ (Unit ⊕ Bool)))) 0).bind fun y44 => (Sum.elim (fun (y46 : Unit) => some false) (fun (y47 : Bool) => some y47) y44)))))))
theorem i_controls_ok (p0 : TBoard) (p1 : TUnit) (p2 : Int) (r : Bool) (H : X.i_controls p0 p1 p2 = some r) : FK 269 [.agg (eTBoard p0), .agg (eTUnit p1), cI p2] (cB r) := by
 unfold X.i_controls at H
 refine fi Tryz.f269 i_controls_ir [(6, cB r)] [] glL Tryz.func269 ?_
 refine sn [] [] [(3, pk 3), (4, pk 4)] [] [(3, va (eTBoard p0)), (4, va (eTUnit p1))] id ?_
 refine seq_in ?_
 rcases oC H with ⟨c8, H⟩ | ⟨c8, H⟩
 ·refine sn (rg 17 true []) [] [(29, cB true)] [] [] (fun t => aG 10 c8 (aG 7 rT (t))) ?_
  refine it rT ?_
  refine so [] [] [(6, cB false)] [] id ?_
  cases H
  exact er
 ·obtain ⟨v9, h10, H⟩ := oB H
  rcases oC H with ⟨c11, H⟩ | ⟨c11, H⟩
  ·refine sn (rg 6 false ([.cs (eTKind v9)] ++ rg 4 false (rg 7 true []))) [] [(29, cB true)] [] [] (fun t => aG 6 c8 ((a2 eTKind h10 (aG 4 c8 (aG 7 c11 (t)))))) ?_
   refine it rT ?_
   refine so [] [] [(6, cB false)] [] id ?_
   cases H
   exact er
  ·obtain ⟨v12, h13, H⟩ := oB H
   refine sn (rg 6 false ([.cs (eTKind v9)] ++ rg 9 false ([.res (cI v12)] ++ rg 2 false []))) [] [(29, cB (v12 == 0))] [] [] (fun t => aG 6 c8 ((a2 eTKind h10 (aG 4 c8 (aG 5 c11 (aI (i_enterCost_ok p0 p1.Kind p2 v12 h13) (aG 2 c11 (t)))))))) ?_
   rcases oC H with ⟨c14, H⟩ | ⟨c14, H⟩
   ·refine it c14 ?_
    refine so [] [] [(6, cB false)] [] id ?_
    cases H
    exact er
   ·refine jf c14 ?_
    refine sk ?_
    refine seq_in ?_
    refine sn [] [] [(30, cI 0)] [] [] id ?_
    refine ends_blk ?_
    obtain ⟨y44, h45, H⟩ := oB H
    refine tl [] [(2, cI p2), (3, pk 3), (4, pk 4), (30, cI 0)] [(3, va (eTBoard p0)), (4, va (eTUnit p1))] id ?_
    refine loop_in (fun (x : Int) => lit [(2, cI p2), (3, pk 3), (4, pk 4), (30, cI x)] [(3, va (eTBoard p0)), (4, va (eTUnit p1))]) (orJ (fun (z : Unit) => At (.exit 0) (lit [] [])) (fun (z : Bool) => At .ret (lit [(6, cB z)] []))) h45 ?_ ?_
    ·clear H h45
     intro x34 y0 H
     refine sn [] [] [(31, cB (decide (x34 < 6)))] [] [] id ?_
     refine seq_in ?_
     rcases oC H with ⟨c36, H⟩ | ⟨c36, H⟩
     ·refine it c36 ?_
      refine sk ?_
      refine seq_in ?_
      refine ends_blk ?_
      refine sn [] [] [(7, cI x34)] [] [] id ?_
      obtain ⟨v37, h38, H⟩ := oB H
      refine sn [.res (cI v37)] [] [(40, cB (v37 == p2))] [] [] (aI (i_nextTo_ok p0.Map p1.At x34 v37 h38)) ?_
      rcases oC H with ⟨c39, H⟩ | ⟨c39, H⟩
      ·refine it c39 ?_
       obtain ⟨v40, h41, H⟩ := oB H
       obtain ⟨v42, h43, H⟩ := oB H
       refine sx [.res (cI v40), .res (cB v42)] [] [(6, cB v42)] [] (fun t => aI (i_edgeOf_ok p0.Map p1.At x34 v40 h41) (aI trivial (aI rN (aI (i_crossesFreely_ok p0.Map v40 v42 h43) (aI trivial (aI rN (t))))))) ?_
       refine ends_ret ?_
       cases H
       exact rsr
      ·refine jf c39 ?_
       refine sk ?_
       refine oo [] [] [(2, cI p2), (3, pk 3), (4, pk 4), (30, cI (W (x34 + 1)))] [(3, va (eTBoard p0)), (4, va (eTUnit p1))] id ?_
       cases H
       exact rr
     ·refine jf c36 ?_
      refine tl [] [] [] id ?_
      refine ends_exit ?_
      cases H
      exact rse
    ·clear h45
     cases y44 with
     | inl y46 =>
      replace H := ofInl H
      rintro e s ⟨rfl, rfl⟩
      change EndsI _ _ _ _ _ _
      refine so [] [] [(6, cB false)] [] id ?_
      cases H
      exact er
     | inr y47 =>
      replace H := ofInr H
      rintro e s ⟨rfl, rfl⟩
      cases H
      exact qr
def i_inZone_ir : S :=
 (sq [o 4 (.box 12 (.t 0)), o 5 (.box 3 (.t 1)), o 8 (.mv bF)]
 (.seq (sq [oa 11 2 5, ol 12 11, o 13 (.len (.t 12)), o 14 (.mv (iv 0))]
 (.blk 0 (.loop (sq [o 15 (.bin .lss (.t 14) (.t 13))]
   (.seq (.ite (.t 15) .skip
   (.exit 0))
   (.seq (.blk 1 (sq [o 16 (.iad 4 (.t 12) (.t 14)), o 17 (.load 4 true (.t 16)), o 10 (.alloc [.int .i64 0, .int .i64 0, .int .i64 0, .int .i64 0]), os 4 10 17]
    (sq [oa 18 0 10, ol 19 18, om 20 2, o 21 (.bin .eql (.t 19) (.t 20)), om 22 21, oh 23 (.load 12 true (.t 4)) 22, oh 24 (.load 4 true (.t 10)) 22, oh 25 (.mv (.t 3)) 22, oh 26 (.call 269 [.t 23, .t 24, .t 25]) 22, o 27 (.pick (.t 22) (.t 26) bF)]
    (.ite (.t 27) (sq [o 8 (.mv bT)]
     .ret)
    .skip))))
   (.ops [o 28 (.bin .add (.t 14) (iv 1)), om 14 28])))))))
 (sq [o 8 (.mv bF)]
 .ret)))
noncomputable def X.i_inZone (p0 : TBoard) (p1 : TState) (p2 : Int) (p3 : Int) : Option Bool :=
 ((loop (fun (x18 : Int) => ((bif (decide (x18 < (p1.Units.length : Int))) then ((at' zTUnit p1.Units x18).bind fun v21 => (bif (v21.Side == p2) then ((X.i_controls p0 v21 p3).bind fun v24 => (bif v24 then some (Sum.inr (Sum.inr true)) else some (Sum.inl (W (x18 + 1))))) else some (Sum.inl (W (x18 + 1))))) else some (Sum.inr (Sum.inl ()))) : Option (Int ⊕ (Unit ⊕ Bool)))) 0).bind fun y27 => (Sum.elim (fun (y29 : Unit) => some false) (fun (y30 : Bool) => some y30) y27))
theorem i_inZone_ok (p0 : TBoard) (p1 : TState) (p2 : Int) (p3 : Int) (r : Bool) (H : X.i_inZone p0 p1 p2 p3 = some r) : FK 263 [.agg (eTBoard p0), .agg (eTState p1), cI p2, cI p3] (cB r) := by
 unfold X.i_inZone at H
 refine fi Tryz.f263 i_inZone_ir [(8, cB r)] [] glL Tryz.func263 ?_
 refine sn [] [] [(4, pk 4), (5, pk 5)] [] [(4, va (eTBoard p0)), (5, va (eTState p1))] id ?_
 refine seq_in ?_
 refine sn [] [] [(12, dc 4 eTUnit zTUnit p1.Units), (13, cL p1.Units), (14, cI 0)] [] [] (fun t => lI p1.Units (t)) ?_
 refine ends_blk ?_
 obtain ⟨y27, h28, H⟩ := oB H
 refine tl [] [(2, cI p2), (3, cI p3), (4, pk 4), (12, dc 4 eTUnit zTUnit p1.Units), (13, cL p1.Units), (14, cI 0)] [(4, va (eTBoard p0))] id ?_
 refine loop_in (fun (x : Int) => lit [(2, cI p2), (3, cI p3), (4, pk 4), (12, dc 4 eTUnit zTUnit p1.Units), (13, cL p1.Units), (14, cI x)] [(4, va (eTBoard p0))]) (orJ (fun (z : Unit) => At (.exit 0) (lit [] [])) (fun (z : Bool) => At .ret (lit [(8, cB z)] []))) h28 ?_ ?_
 ·clear H h28
  intro x18 y0 H
  refine sn [] [] [(15, cB (decide (x18 < (p1.Units.length : Int))))] [] [] id ?_
  refine seq_in ?_
  rcases oC H with ⟨c20, H⟩ | ⟨c20, H⟩
  ·refine it c20 ?_
   refine sk ?_
   refine seq_in ?_
   refine ends_blk ?_
   obtain ⟨v21, h22, H⟩ := oB H
   refine sn [.cs (eTUnit v21)] [] [(10, pk 10)] [] [(10, va (eTUnit v21))] (a2 eTUnit h22) ?_
   rcases oC H with ⟨c23, H⟩ | ⟨c23, H⟩
   ·obtain ⟨v24, h25, H⟩ := oB H
    refine sn (rg 4 true [.res (cB v24), .g true]) [] [(27, cB v24)] [] [] (fun t => aG 4 c23 (aI (i_controls_ok p0 v21 p3 v24 h25) (aI c23 (t)))) ?_
    rcases oC H with ⟨c26, H⟩ | ⟨c26, H⟩
    ·refine it c26 ?_
     refine so [] [] [(8, cB true)] [] id ?_
     refine ends_ret ?_
     cases H
     exact rsr
    ·refine jf c26 ?_
     refine sk ?_
     refine oo [] [] [(2, cI p2), (3, cI p3), (4, pk 4), (12, dc 4 eTUnit zTUnit p1.Units), (13, cL p1.Units), (14, cI (W (x18 + 1)))] [(4, va (eTBoard p0))] id ?_
     cases H
     exact rr
   ·refine sn (rg 5 false []) [] [(27, cB false)] [] [] (fun t => aG 5 c23 (t)) ?_
    refine jf rF ?_
    refine sk ?_
    refine oo [] [] [(2, cI p2), (3, cI p3), (4, pk 4), (12, dc 4 eTUnit zTUnit p1.Units), (13, cL p1.Units), (14, cI (W (x18 + 1)))] [(4, va (eTBoard p0))] id ?_
    cases H
    exact rr
  ·refine jf c20 ?_
   refine tl [] [] [] id ?_
   refine ends_exit ?_
   cases H
   exact rse
 ·clear h28
  cases y27 with
  | inl y29 =>
   replace H := ofInl H
   rintro e s ⟨rfl, rfl⟩
   change EndsI _ _ _ _ _ _
   refine so [] [] [(8, cB false)] [] id ?_
   cases H
   exact er
  | inr y30 =>
   replace H := ofInr H
   rintro e s ⟨rfl, rfl⟩
   cases H
   exact qr
def i_canFallBack_ir : S :=
 (sq [o 4 (.box 12 (.t 0)), o 5 (.box 3 (.t 1)), o 8 (.mv bF)]
 (sq [oa 13 2 5, ol 14 13, om 15 2, o 16 (.iad 4 (.t 14) (.t 15)), o 17 (.load 4 true (.t 16)), o 9 (.alloc [.int .i64 0, .int .i64 0, .int .i64 0, .int .i64 0]), os 4 9 17]
 (.seq (sq [om 18 3, o 19 (.bin .lss (.t 18) (iv 0)), om 20 19, og 21 (.load 12 true (.t 4)) 20, og 22 (.fad 1 (.t 9)) 20, og 23 (.load 1 false (.t 22)) 20, og 24 (.mv (.t 3)) 20, og 25 (.call 154 [.t 21, .t 23, .t 24]) 20, og 26 (.bin .eql (.t 25) (iv 0)) 20, o 27 (.pick (.t 20) bT (.t 26))]
 (.ite (.t 27) (sq [o 8 (.mv bF)]
  .ret)
 .skip))
 (sq [o 10 (.mv bF)]
 (.seq (sq [o 28 (.load 3 true (.t 5)), om 29 3, o 30 (.call 262 [.t 28, .t 29]), o 31 (.len (.t 30)), o 32 (.mv (iv 0))]
 (.blk 0 (.loop (sq [o 33 (.bin .lss (.t 32) (.t 31))]
   (.seq (.ite (.t 33) .skip
   (.exit 0))
   (.seq (.blk 1 (sq [o 34 (.iad 1 (.t 30) (.t 32)), ol 35 34, om 12 35]
    (.seq (.seq (.drw [(0, 2), (1, 2), (0, 6), (1, 6), (2, 6), (3, 6), (4, 6), (5, 6), (0, 7), (1, 7), (2, 7), (3, 7), (4, 7), (5, 7)] [oa 36 2 5, ol 37 36, om 38 12, o 39 (.iad 4 (.t 37) (.t 38)), oa 40 0 39, ol 41 40, oa 42 0 9, ol 43 42, o 44 (.bin .neq (.t 41) (.t 43))])
    (.ite (.t 44) (sq [o 8 (.mv bF)]
     .ret)
    .skip))
    (.ops [om 45 10, om 46 45, og 47 (.mv (.t 12)) 46, og 48 (.mv (.t 2)) 46, og 49 (.bin .neq (.t 47) (.t 48)) 46, o 50 (.pick (.t 46) bT (.t 49)), om 10 50]))))
   (.ops [o 51 (.bin .add (.t 32) (iv 1)), om 32 51])))))))
 (sq [om 52 10, om 53 52, og 54 (.load 12 true (.t 4)) 53, og 55 (.load 3 true (.t 5)) 53, og 56 (.fad 0 (.t 9)) 53, og 57 (.load 1 false (.t 56)) 53, og 58 (.bin .sub (iv 1) (.t 57)) 53, og 59 (.mv (.t 3)) 53, og 60 (.call 263 [.t 54, .t 55, .t 58, .t 59]) 53, og 61 (.not (.t 60)) 53, o 62 (.pick (.t 53) bT (.t 61)), om 8 62]
 .ret))))))
noncomputable def X.i_canFallBack (p0 : TBoard) (p1 : TState) (p2 : Int) (p3 : Int) : Option Bool :=
 ((at' zTUnit p1.Units p2).bind fun v1 => (bif (decide (p3 < 0)) then some false else ((X.i_enterCost p0 v1.Kind p3).bind fun v8 => (bif (v8 == 0) then some false else ((X.i_unitsAt p1 p3).bind fun v51 => ((loop (fun (x75 : (Bool × Int)) => ((bif (decide (x75.2 < (v51.length : Int))) then ((at' zI v51 x75.2).bind fun v78 => ((at' zTUnit p1.Units v78).bind fun v83 => (bif (v83.Side != v1.Side) then some (Sum.inr (Sum.inr false)) else (bif x75.1 then some (Sum.inl (true, (W (x75.2 + 1)))) else some (Sum.inl ((v78 != p2), (W (x75.2 + 1)))))))) else some (Sum.inr (Sum.inl x75.1))) : Option ((Bool × Int) ⊕ (Bool ⊕ Bool)))) (false, 0)).bind fun y87 => (Sum.elim (fun (y89 : Bool) => (bif y89 then some true else ((X.i_inZone p0 p1 (W (1 - v1.Side)) p3).bind fun v92 => some (!v92)))) (fun (y90 : Bool) => some y90) y87)))))))
theorem i_canFallBack_ok (p0 : TBoard) (p1 : TState) (p2 : Int) (p3 : Int) (r : Bool) (H : X.i_canFallBack p0 p1 p2 p3 = some r) : FK 243 [.agg (eTBoard p0), .agg (eTState p1), cI p2, cI p3] (cB r) := by
 unfold X.i_canFallBack at H
 refine fi Tryz.f243 i_canFallBack_ir [(8, cB r)] [] glL Tryz.func243 ?_
 refine sn [] [] [(4, pk 4), (5, pk 5)] [] [(4, va (eTBoard p0)), (5, va (eTState p1))] id ?_
 obtain ⟨v1, h2, H⟩ := oB H
 refine sn [.cs (eTUnit v1)] [] [(9, pk 9)] [] [(9, va (eTUnit v1))] (a2 eTUnit h2) ?_
 refine seq_in ?_
 rcases oC H with ⟨c7, H⟩ | ⟨c7, H⟩
 ·refine sn (rg 7 true []) [] [(27, cB true)] [] [] (fun t => aG 7 c7 (t)) ?_
  refine it rT ?_
  refine so [] [] [(8, cB false)] [] id ?_
  cases H
  exact er
 ·obtain ⟨v8, h9, H⟩ := oB H
  refine sn (rg 5 false ([.res (cI v8)] ++ rg 2 false [])) [] [(27, cB (v8 == 0))] [] [] (fun t => aG 5 c7 (aI (i_enterCost_ok p0 v1.Kind p3 v8 h9) (aG 2 c7 (t)))) ?_
  rcases oC H with ⟨c10, H⟩ | ⟨c10, H⟩
  ·refine it c10 ?_
   refine so [] [] [(8, cB false)] [] id ?_
   cases H
   exact er
  ·refine jf c10 ?_
   refine sk ?_
   refine sn [] [] [(10, cB false)] [] [] id ?_
   refine seq_in ?_
   obtain ⟨v51, h52, H⟩ := oB H
   refine sn [.res (dc 1 eI zI v51)] [] [(30, dc 1 eI zI v51), (31, cL v51), (32, cI 0)] [] [] (fun t => aI (i_unitsAt_ok p1 p3 v51 h52) (lI v51 (t))) ?_
   refine ends_blk ?_
   obtain ⟨y87, h88, H⟩ := oB H
   refine tl [] [(2, cI p2), (3, cI p3), (4, pk 4), (5, pk 5), (9, pk 9), (10, cB false), (30, dc 1 eI zI v51), (31, cL v51), (32, cI 0)] [(4, va (eTBoard p0)), (5, va (eTState p1)), (9, va (eTUnit v1))] id ?_
   refine loop_in (fun (x : (Bool × Int)) => lit [(2, cI p2), (3, cI p3), (4, pk 4), (5, pk 5), (9, pk 9), (10, cB x.1), (30, dc 1 eI zI v51), (31, cL v51), (32, cI x.2)] [(4, va (eTBoard p0)), (5, va (eTState p1)), (9, va (eTUnit v1))]) (orJ (fun (z : Bool) => At (.exit 0) (lit [(3, cI p3), (4, pk 4), (5, pk 5), (9, pk 9), (10, cB z)] [(4, va (eTBoard p0)), (5, va (eTState p1)), (9, va (eTUnit v1))])) (fun (z : Bool) => At .ret (lit [(8, cB z)] []))) h88 ?_ ?_
   ·clear H h88
    intro x75 y0 H
    refine sn [] [] [(33, cB (decide (x75.2 < (v51.length : Int))))] [] [] id ?_
    refine seq_in ?_
    rcases oC H with ⟨c77, H⟩ | ⟨c77, H⟩
    ·refine it c77 ?_
     refine sk ?_
     refine seq_in ?_
     refine ends_blk ?_
     obtain ⟨v78, h79, H⟩ := oB H
     refine sn [.cs (eI v78)] [] [(12, cI v78)] [] [] (a2 eI h79) ?_
     refine seq_in ?_
     obtain ⟨v83, h84, H⟩ := oB H
     refine xn [.cs (eTUnit v83)] [] [(44, cB (v83.Side != v1.Side))] [] [] (fun t => (a2 eTUnit h84 (aI rN (t)))) ?_
     rcases oC H with ⟨c85, H⟩ | ⟨c85, H⟩
     ·refine it c85 ?_
      refine so [] [] [(8, cB false)] [] id ?_
      refine ends_ret ?_
      cases H
      exact rsr
     ·refine jf c85 ?_
      refine sk ?_
      rcases oC H with ⟨c86, H⟩ | ⟨c86, H⟩
      ·refine oo (rg 4 true []) [] [(2, cI p2), (3, cI p3), (4, pk 4), (5, pk 5), (9, pk 9), (10, cB true), (30, dc 1 eI zI v51), (31, cL v51), (32, cI x75.2)] [(4, va (eTBoard p0)), (5, va (eTState p1)), (9, va (eTUnit v1))] (fun t => aG 4 c86 (t)) ?_
       change EndsI _ _ _ _ _ _
       refine oo [] [] [(2, cI p2), (3, cI p3), (4, pk 4), (5, pk 5), (9, pk 9), (10, cB true), (30, dc 1 eI zI v51), (31, cL v51), (32, cI (W (x75.2 + 1)))] [(4, va (eTBoard p0)), (5, va (eTState p1)), (9, va (eTUnit v1))] id ?_
       cases H
       exact rr
      ·refine oo (rg 4 false []) [] [(2, cI p2), (3, cI p3), (4, pk 4), (5, pk 5), (9, pk 9), (10, cB (v78 != p2)), (30, dc 1 eI zI v51), (31, cL v51), (32, cI x75.2)] [(4, va (eTBoard p0)), (5, va (eTState p1)), (9, va (eTUnit v1))] (fun t => aG 4 c86 (t)) ?_
       change EndsI _ _ _ _ _ _
       refine oo [] [] [(2, cI p2), (3, cI p3), (4, pk 4), (5, pk 5), (9, pk 9), (10, cB (v78 != p2)), (30, dc 1 eI zI v51), (31, cL v51), (32, cI (W (x75.2 + 1)))] [(4, va (eTBoard p0)), (5, va (eTState p1)), (9, va (eTUnit v1))] id ?_
       cases H
       exact rr
    ·refine jf c77 ?_
     refine tl [] [(3, cI p3), (4, pk 4), (5, pk 5), (9, pk 9), (10, cB x75.1)] [(4, va (eTBoard p0)), (5, va (eTState p1)), (9, va (eTUnit v1))] id ?_
     refine ends_exit ?_
     cases H
     exact rse
   ·clear h88
    cases y87 with
    | inl y89 =>
     replace H := ofInl H
     rintro e s ⟨rfl, rfl⟩
     change EndsI _ _ _ _ _ _
     rcases oC H with ⟨c91, H⟩ | ⟨c91, H⟩
     ·refine so (rg 9 true []) [] [(8, cB true)] [] (fun t => aG 9 c91 (t)) ?_
      cases H
      exact er
     ·obtain ⟨v92, h93, H⟩ := oB H
      refine so (rg 7 false ([.res (cB v92)] ++ rg 2 false [])) [] [(8, cB (!v92))] [] (fun t => aG 7 c91 (aI (i_inZone_ok p0 p1 (W (1 - v1.Side)) p3 v92 h93) (aG 2 c91 (t)))) ?_
      cases H
      exact er
    | inr y90 =>
     replace H := ofInr H
     rintro e s ⟨rfl, rfl⟩
     cases H
     exact qr
def i_absOf_ir : S :=
 (sq [o 2 (.mv (iv 0))]
 (.seq (sq [om 3 0, o 4 (.bin .lss (.t 3) (iv 0))]
 (.ite (.t 4) (sq [om 5 0, o 6 (.neg (.t 5)), om 2 6]
  .ret)
 .skip))
 (sq [om 7 0, om 2 7]
 .ret)))
noncomputable def X.i_absOf (p0 : Int) : Option Int :=
 (bif (decide (p0 < 0)) then some (W (0 - p0)) else some p0)
theorem i_absOf_ok (p0 : Int) (r : Int) (H : X.i_absOf p0 = some r) : FK 264 [cI p0] (cI r) := by
 unfold X.i_absOf at H
 refine fi Tryz.f264 i_absOf_ir [(2, cI r)] [] glL Tryz.func264 ?_
 refine sn [] [] [] [] [] id ?_
 refine seq_in ?_
 refine sn [] [] [(4, cB (decide (p0 < 0)))] [] [] id ?_
 rcases oC H with ⟨c1, H⟩ | ⟨c1, H⟩
 ·refine it c1 ?_
  refine so [] [] [(2, cI (W (0 - p0)))] [] id ?_
  cases H
  exact er
 ·refine jf c1 ?_
  refine sk ?_
  refine so [] [] [(2, cI p0)] [] id ?_
  cases H
  exact er
def i_distance_ir : S :=
 (sq [o 2 (.box 2 (.t 0)), o 3 (.box 2 (.t 1)), o 4 (.mv (iv 0))]
 (.seq (.drw [(0, 2), (1, 2), (0, 3), (1, 3), (0, 5), (1, 5), (2, 5), (3, 5), (4, 5), (0, 6), (1, 6), (2, 6), (3, 6), (4, 6), (0, 7), (1, 7), (2, 7), (3, 7), (4, 7), (5, 7), (6, 7), (0, 8), (1, 8), (2, 8), (3, 8), (4, 8), (5, 8), (6, 8), (0, 9), (1, 9), (2, 9), (3, 9), (4, 9), (5, 10), (6, 10), (7, 10), (8, 10), (9, 10)] [oa 7 0 3, ol 8 7, oa 9 0 2, ol 10 9, o 11 (.bin .sub (.t 8) (.t 10)), oa 12 1 3, ol 13 12, oa 14 1 2, ol 15 14, o 16 (.bin .sub (.t 13) (.t 15)), om 5 11, om 6 16])
 (sq [om 17 5, o 18 (.call 264 [.t 17]), om 19 6, o 20 (.call 264 [.t 19]), o 21 (.bin .add (.t 18) (.t 20)), om 22 5, om 23 6, o 24 (.bin .add (.t 22) (.t 23)), o 25 (.call 264 [.t 24]), o 26 (.bin .add (.t 21) (.t 25)), o 27 (.bin .quo (.t 26) (iv 2)), om 4 27]
 .ret)))
noncomputable def X.i_distance (p0 : THex) (p1 : THex) : Option Int :=
 ((X.i_absOf (W (p1.Q - p0.Q))).bind fun v1 => ((X.i_absOf (W (p1.R - p0.R))).bind fun v3 => ((X.i_absOf (W ((W (p1.Q - p0.Q)) + (W (p1.R - p0.R))))).bind fun v5 => some (W (Int.tdiv (W ((W (v1 + v3)) + v5)) 2)))))
theorem i_distance_ok (p0 : THex) (p1 : THex) (r : Int) (H : X.i_distance p0 p1 = some r) : FK 244 [.agg (eTHex p0), .agg (eTHex p1)] (cI r) := by
 unfold X.i_distance at H
 refine fi Tryz.f244 i_distance_ir [(4, cI r)] [] glL Tryz.func244 ?_
 refine so [] [] [(2, pk 2), (3, pk 3)] [(2, va (eTHex p0)), (3, va (eTHex p1))] id ?_
 refine sx [] [] [(5, cI (W (p1.Q - p0.Q))), (6, cI (W (p1.R - p0.R)))] [] id ?_
 obtain ⟨v1, h2, H⟩ := oB H
 obtain ⟨v3, h4, H⟩ := oB H
 obtain ⟨v5, h6, H⟩ := oB H
 refine so [.res (cI v1), .res (cI v3), .res (cI v5)] [] [(4, cI (W (Int.tdiv (W ((W (v1 + v3)) + v5)) 2)))] [] (fun t => aI (i_absOf_ok (W (p1.Q - p0.Q)) v1 h2) (aI (i_absOf_ok (W (p1.R - p0.R)) v3 h4) (aI (i_absOf_ok (W ((W (p1.Q - p0.Q)) + (W (p1.R - p0.R)))) v5 h6) (aI (by decide : (2 : Int) ≠ 0) (t))))) ?_
 cases H
 exact er
def i_retreatsFrom_ir : S :=
 (sq [o 7 (.box 12 (.t 0)), o 8 (.box 3 (.t 1)), o 14 (.mv (.v (.nil)))]
 (.seq (.drw [(0, 2), (1, 2), (0, 3), (1, 3), (0, 4), (1, 4), (2, 4), (3, 4), (0, 5), (1, 5), (0, 6), (1, 6), (0, 7), (1, 7), (0, 9), (1, 9), (2, 9), (3, 9), (4, 9), (5, 9), (6, 9), (7, 9), (8, 9)] [oa 18 7 7, o 19 (.load 5 true (.t 18)), oa 20 2 8, ol 21 20, om 22 2, o 23 (.iad 4 (.t 21) (.t 22)), oa 24 2 23, ol 25 24, o 26 (.call 225 [.t 19, .t 25]), o 15 (.alloc [.int .i64 0, .int .i64 0]), os 2 15 26])
 (.seq (sq [om 27 4, o 28 (.bin .eql (.t 27) (iv 0))]
 (.ite (.t 28) (.seq (.seq (.drw [(0, 1), (0, 2), (1, 2), (0, 3), (1, 3), (0, 4), (1, 4), (2, 4), (3, 4), (0, 5), (1, 5), (0, 6), (1, 6), (0, 7), (1, 7), (0, 8), (1, 8), (2, 8), (3, 8), (4, 8), (5, 8), (6, 8), (7, 8)] [o 29 (.load 12 true (.t 7)), o 30 (.load 3 true (.t 8)), oa 31 2 8, ol 32 31, om 33 2, o 34 (.iad 4 (.t 32) (.t 33)), oa 35 0 34, ol 36 35, om 37 3, o 38 (.call 241 [.t 29, .t 30, .t 36, .t 37]), o 39 (.bin .gtr (.t 38) (iv 0))])
  (.ite (.t 39) (.ops [om 40 6, om 41 5, o 42 (.call 242 [.t 41]), o 43 (.bsl 1 [.t 42]), o 44 (.app 1 24 (.t 40) (.t 43)), om 6 44])
  .skip))
  (sq [om 45 6, om 14 45]
  .ret))
 .skip))
 (.seq (sq [o 46 (.mv (iv 0))]
 (.blk 0 (.loop (sq [o 47 (.bin .lss (.t 46) (iv 6))]
   (.seq (.ite (.t 47) .skip
   (.exit 0))
   (.seq (.blk 1 (sq [om 48 46, om 16 48]
    (sq [oa 49 7 7, o 50 (.load 5 true (.t 49)), om 51 3, om 52 16, o 53 (.call 184 [.t 50, .t 51, .t 52]), om 17 53]
    (.seq (.drw [(0, 1), (0, 2), (1, 2), (0, 3), (1, 3), (2, 3), (6, 7), (6, 8), (6, 9), (7, 9), (8, 9), (6, 10), (6, 12), (7, 12), (8, 12), (9, 12), (10, 12), (11, 12), (6, 13), (7, 13), (8, 13), (9, 13), (10, 13), (11, 13), (12, 13), (6, 14), (7, 14), (8, 14), (9, 14), (10, 14), (11, 14), (12, 14), (6, 15), (7, 15), (8, 15), (9, 15), (10, 15), (11, 15), (12, 15), (13, 15), (14, 15), (12, 16)] [o 54 (.load 12 true (.t 7)), o 55 (.load 3 true (.t 8)), om 56 2, om 57 17, o 58 (.call 243 [.t 54, .t 55, .t 56, .t 57]), om 59 58, oh 60 (.load 2 true (.t 15)) 59, oh 61 (.fad 7 (.t 7)) 59, oh 62 (.load 5 true (.t 61)) 59, oh 63 (.mv (.t 17)) 59, oh 64 (.call 225 [.t 62, .t 63]) 59, oh 65 (.call 244 [.t 60, .t 64]) 59, oh 66 (.load 2 true (.t 15)) 59, oh 67 (.fad 7 (.t 7)) 59, oh 68 (.load 5 true (.t 67)) 59, oh 69 (.mv (.t 3)) 59, oh 70 (.call 225 [.t 68, .t 69]) 59, oh 71 (.call 244 [.t 66, .t 70]) 59, oh 72 (.bin .add (.t 71) (iv 1)) 59, oh 73 (.bin .eql (.t 65) (.t 72)) 59, o 74 (.pick (.t 59) (.t 73) bF)])
    (.ite (.t 74) (.drw [(0, 1), (0, 2), (1, 2), (0, 3), (1, 3), (2, 3), (0, 4), (1, 4), (2, 4), (3, 4), (0, 5), (1, 5), (2, 5), (3, 5), (0, 6), (1, 6), (2, 6), (3, 6), (4, 6), (5, 6), (0, 7), (1, 7), (2, 7), (3, 7), (4, 7), (5, 7), (0, 8), (1, 8), (2, 8), (3, 8), (4, 8), (5, 8), (6, 8), (7, 8), (0, 9), (1, 9), (2, 9), (3, 9), (4, 9), (5, 9), (6, 9), (7, 9), (0, 10), (1, 10), (2, 10), (3, 10), (4, 10), (5, 10), (0, 11), (1, 11), (2, 11), (3, 11), (4, 11), (5, 11), (6, 11), (7, 11), (8, 11), (9, 11), (10, 11)] [o 75 (.load 12 true (.t 7)), o 76 (.load 3 true (.t 8)), om 77 2, om 78 17, om 79 4, o 80 (.bin .sub (.t 79) (iv 1)), om 81 5, o 82 (.call 242 [.t 81]), om 83 16, o 84 (.bsl 1 [.t 83]), o 85 (.app 1 8 (.t 82) (.t 84)), om 86 6, o 87 (.call 207 [.t 75, .t 76, .t 77, .t 78, .t 80, .t 85, .t 86]), om 6 87])
    .skip)))))
   (.ops [o 88 (.bin .add (.t 46) (iv 1)), om 46 88])))))))
 (sq [om 89 6, om 14 89]
 .ret)))))
noncomputable def X.i_retreatsFrom_Mdddddzc : Nat → TBoard → TState → Int → Int → Int → (List Int) → (List (List Int)) → Option ((List (List Int)) × (List Int))
 | 0, _, _, _, _, _, _, _ => none
 | fuel + 1, p0, p1, p2, p3, p4, p5, p6 =>
 ((at' zTUnit p1.Units p2).bind fun v1 => ((X.i_hexOf p0.Map v1.At).bind fun v3 => (bif (p4 == 0) then ((X.i_stackRoom p0 p1 v1.Side p3).bind fun v13 => (bif (decide (v13 > 0)) then ((X.g_Clone_int p5).bind fun v16 => (if (p6 ++ ([v16] : List (List Int))).length ≤ LIM then some ((p6 ++ ([v16] : List (List Int))), p5) else none)) else some (p6, p5))) else ((loop (fun (x64 : (Int × (List (List Int)))) => ((bif (decide (x64.1 < 6)) then ((X.i_nextTo p0.Map p3 x64.1).bind fun v67 => ((X.i_canFallBack p0 p1 p2 v67).bind fun v69 => (bif v69 then ((X.i_hexOf p0.Map v67).bind fun v72 => ((X.i_distance v3 v72).bind fun v74 => ((X.i_hexOf p0.Map p3).bind fun v76 => ((X.i_distance v3 v76).bind fun v78 => (bif (v74 == (W (v78 + 1))) then ((X.g_Clone_int p5).bind fun v81 => (if (v81 ++ ([x64.1] : List Int)).length ≤ LIM then ((X.i_retreatsFrom_Mdddddzc fuel p0 p1 p2 v67 (W (p4 - 1)) (v81 ++ ([x64.1] : List Int)) x64.2).bind fun v84 => (if v84.2.length = (v81 ++ ([x64.1] : List Int)).length then some (Sum.inl ((W (x64.1 + 1)), v84.1)) else none)) else none)) else some (Sum.inl ((W (x64.1 + 1)), x64.2))))))) else some (Sum.inl ((W (x64.1 + 1)), x64.2))))) else some (Sum.inr x64.2)) : Option ((Int × (List (List Int))) ⊕ (List (List Int))))) (0, p6)).bind fun y87 => some (y87, p5)))))
theorem i_retreatsFrom_Mdddddzc_ok (fuel : Nat) : ∀ (p0 : TBoard) (p1 : TState) (p2 : Int) (p3 : Int) (p4 : Int) (p5 : (List Int)) (p6 : (List (List Int))) (r : ((List (List Int)) × (List Int))) (H : X.i_retreatsFrom_Mdddddzc fuel p0 p1 p2 p3 p4 p5 p6 = some r), FnMu Tryz.prog gl 207 [.agg (eTBoard p0), .agg (eTState p1), cI p2, cI p3, cI p4, .c (.own 1000000 1 0 p5.length), .c (.own 1000001 1 0 p6.length)] [(1000000, .arr 1 p5.length (fF eI zI p5) false), (1000001, .arr 1 p6.length (fF eLI zLI p6) false)] (.c (.own 900000 1 0 r.1.length)) [(900000, .arr 1 r.1.length (fF eLI zLI r.1) false), (1000000, .arr 1 r.2.length (fF eI zI r.2) true)] := by
 induction fuel with
 | zero => intro p0 p1 p2 p3 p4 p5 p6 r H; rw [X.i_retreatsFrom_Mdddddzc.eq_1] at H; cases H
 | succ fuel ih =>
 intro p0 p1 p2 p3 p4 p5 p6 r H
 rw [X.i_retreatsFrom_Mdddddzc.eq_2] at H
 refine fn_mu (fn := Tryz.f207) (ir := i_retreatsFrom_ir) (E' := [(14, ow 900000 1 r.1)]) (E1 := [(900000, ar 1 eLI zLI r.1), (1000000, .arr 1 r.2.length (fF eI zI r.2) true)]) glL Tryz.func207 (by kernel_rfl) (by kernel_rfl) (by kernel_rfl) (by kernel_rfl) (by kernel_rfl) ?_
 refine tl [.frz 5] [(0, .agg (eTBoard p0)), (1, .agg (eTState p1)), (2, cI p2), (3, cI p3), (4, cI p4), (5, dc 1 eI zI p5), (6, ow 1000001 1 p6)] [(1000000, .arr 1 p5.length (fF eI zI p5) true), (1000001, ar 1 eLI zLI p6)] (aI (Nat.le_refl p5.length)) ?_
 refine sn [] [] [(7, pk 7), (8, pk 8)] [] [(7, va (eTBoard p0)), (8, va (eTState p1))] id ?_
 obtain ⟨v1, h2, H⟩ := oB H
 obtain ⟨v3, h4, H⟩ := oB H
 refine xn [.cs (eTUnit v1), .res (.agg (eTHex v3))] [] [(15, pk 15)] [] [(15, va (eTHex v3))] (fun t => (a2 eTUnit h2 (aI rN (aI (i_hexOf_ok p0.Map v1.At v3 h4) (aI trivial (aI rN (t))))))) ?_
 refine seq_in ?_
 refine sn [] [] [(28, cB (p4 == 0))] [] [] id ?_
 rcases oC H with ⟨c12, H⟩ | ⟨c12, H⟩
 ·refine it c12 ?_
  refine seq_in ?_
  obtain ⟨v13, h14, H⟩ := oB H
  refine xn [.cs (eTUnit v1), .res (cI v13)] [] [(39, cB (decide (v13 > 0)))] [] [] (fun t => (a2 eTUnit h2 (aI rN (aI (i_stackRoom_ok p0 p1 v1.Side p3 v13 h14) (aI trivial (aI rN (t))))))) ?_
  rcases oC H with ⟨c15, H⟩ | ⟨c15, H⟩
  ·refine it c15 ?_
   obtain ⟨v16, h17, H⟩ := oB H
   obtain ⟨g18, H⟩ := oI H
   refine oo [.mu [] [(900000, 1002)] (ow 900000 1 v16) [(900000, ar 1 eI zI v16)], fh eLI zLI ([v16] : List (List Int)), fh eLI zLI (p6 ++ ([v16] : List (List Int)))] [] [(6, ow 44 1 (p6 ++ ([v16] : List (List Int))))] [(44, ar 1 eLI zLI (p6 ++ ([v16] : List (List Int)))), (1000000, .arr 1 p5.length (fF eI zI p5) true)] (fun t => aI (g_Clone_int_Md_ok p5 v16 h17) (aI (Nat.le_refl v16.length) (aI (rfl : ([v16] : List (List Int)).length = 1) (aI (fF_lit eLI zLI ([v16] : List (List Int))) (aI (Nat.le_refl (([v16] : List (List Int)).length)) (aI (And.intro (Nat.le_refl p6.length) (And.intro (@List.length_append _ p6 ([v16] : List (List Int))) g18)) (aI (fF_appL eLI zLI p6 ([v16] : List (List Int))) (aI (fF_appR eLI zLI p6 ([v16] : List (List Int))) (t))))))))) ?_
   change EndsI _ _ _ _ _ _
   refine sn [] [] [(14, ow 44 1 (p6 ++ ([v16] : List (List Int))))] [] [] id ?_
   refine tl [.ren 44 900000] [(14, ow 900000 1 (p6 ++ ([v16] : List (List Int))))] [(900000, ar 1 eLI zLI (p6 ++ ([v16] : List (List Int)))), (1000000, .arr 1 p5.length (fF eI zI p5) true)] id ?_
   cases H
   exact er
  ·refine jf c15 ?_
   refine sk ?_
   refine sn [] [] [(14, ow 1000001 1 p6)] [7, 8, 15] [] id ?_
   refine tl [.ren 1000001 900000] [(14, ow 900000 1 p6)] [(900000, ar 1 eLI zLI p6), (1000000, .arr 1 p5.length (fF eI zI p5) true)] id ?_
   cases H
   exact er
 ·refine jf c12 ?_
  refine sk ?_
  refine seq_in ?_
  refine sn [] [] [(46, cI 0)] [] [] id ?_
  refine ends_blk ?_
  obtain ⟨y87, h88, H⟩ := oB H
  refine tl [.ren 1000001 1005] [(2, cI p2), (3, cI p3), (4, cI p4), (5, dc 1 eI zI p5), (6, ow 1005 1 p6), (7, pk 7), (8, pk 8), (15, pk 15), (46, cI 0)] [(7, va (eTBoard p0)), (8, va (eTState p1)), (15, va (eTHex v3)), (1005, ar 1 eLI zLI p6), (1000000, .arr 1 p5.length (fF eI zI p5) true)] id ?_
  refine loop_in (fun (x : (Int × (List (List Int)))) => lit [(2, cI p2), (3, cI p3), (4, cI p4), (5, dc 1 eI zI p5), (6, ow 1005 1 x.2), (7, pk 7), (8, pk 8), (15, pk 15), (46, cI x.1)] [(7, va (eTBoard p0)), (8, va (eTState p1)), (15, va (eTHex v3)), (1005, ar 1 eLI zLI x.2), (1000000, .arr 1 p5.length (fF eI zI p5) true)]) (fun (z : (List (List Int))) => At (.exit 0) (lit [(6, ow 1005 1 z)] [(1005, ar 1 eLI zLI z), (1000000, .arr 1 p5.length (fF eI zI p5) true)])) h88 ?_ ?_
  ·clear H h88
   intro x64 y0 H
   refine sn [] [] [(47, cB (decide (x64.1 < 6)))] [] [] id ?_
   refine seq_in ?_
   rcases oC H with ⟨c66, H⟩ | ⟨c66, H⟩
   ·refine it c66 ?_
    refine sk ?_
    refine seq_in ?_
    refine ends_blk ?_
    refine sn [] [] [(16, cI x64.1)] [] [] id ?_
    obtain ⟨v67, h68, H⟩ := oB H
    refine sn [.res (cI v67)] [] [(17, cI v67)] [] [] (aI (i_nextTo_ok p0.Map p3 x64.1 v67 h68)) ?_
    obtain ⟨v69, h70, H⟩ := oB H
    rcases oC H with ⟨c71, H⟩ | ⟨c71, H⟩
    ·obtain ⟨v72, h73, H⟩ := oB H
     obtain ⟨v74, h75, H⟩ := oB H
     obtain ⟨v76, h77, H⟩ := oB H
     obtain ⟨v78, h79, H⟩ := oB H
     refine xn ([.res (cB v69)] ++ rg 5 true ([.res (.agg (eTHex v72)), .g true, .res (cI v74)] ++ rg 5 true ([.res (.agg (eTHex v76)), .g true, .res (cI v78)] ++ rg 3 true []))) [] [(74, cB (v74 == (W (v78 + 1))))] [] [] (fun t => aI (i_canFallBack_ok p0 p1 p2 v67 v69 h70) (aI trivial (aI rN (aG 5 c71 (aI (i_hexOf_ok p0.Map v67 v72 h73) (aI trivial (aI rN (aI c71 (aI (i_distance_ok v3 v72 v74 h75) (aI trivial (aI rN (aG 5 c71 (aI (i_hexOf_ok p0.Map p3 v76 h77) (aI trivial (aI rN (aI c71 (aI (i_distance_ok v3 v76 v78 h79) (aI trivial (aI rN (aG 3 c71 (t))))))))))))))))))))) ?_
     rcases oC H with ⟨c80, H⟩ | ⟨c80, H⟩
     ·refine it c80 ?_
      obtain ⟨v81, h82, H⟩ := oB H
      obtain ⟨g83, H⟩ := oI H
      obtain ⟨v84, h85, H⟩ := oB H
      obtain ⟨g86, H⟩ := oI H
      refine ox [.mu [] [(900000, 1008)] (ow 900000 1 v81) [(900000, ar 1 eI zI v81)], .no, fh eI zI ([x64.1] : List Int), fh eI zI (v81 ++ ([x64.1] : List Int)), .mu [(85, 1000000), (1005, 1000001)] [(900000, 1009), (1000000, 85)] (ow 900000 1 v84.1) [(900000, ar 1 eLI zLI v84.1), (1000000, .arr 1 v84.2.length (fF eI zI v84.2) true)]] [.rel 85 v84.2.length] [(2, cI p2), (3, cI p3), (4, cI p4), (5, dc 1 eI zI p5), (6, ow 1009 1 v84.1), (7, pk 7), (8, pk 8), (15, pk 15), (46, cI x64.1)] [(7, va (eTBoard p0)), (8, va (eTState p1)), (15, va (eTHex v3)), (1009, ar 1 eLI zLI v84.1), (1000000, .arr 1 p5.length (fF eI zI p5) true)] (fun t => aI (g_Clone_int_Md_ok p5 v81 h82) (aI (rfl : ([x64.1] : List Int).length = 1) (aI rT (aI (fF_lit eI zI ([x64.1] : List Int)) (aI (Nat.le_refl (([x64.1] : List Int).length)) (aI (And.intro (Nat.le_refl v81.length) (And.intro (@List.length_append _ v81 ([x64.1] : List Int)) g83)) (aI (fF_appL eI zI v81 ([x64.1] : List Int)) (aI (fF_appR eI zI v81 ([x64.1] : List Int)) (aI (ih p0 p1 p2 v67 (W (p4 - 1)) (v81 ++ ([x64.1] : List Int)) x64.2 v84 h85) (aI (Eq.symm g86) (t))))))))))) ?_
      change EndsI _ _ _ _ _ _
      refine oo [] [.ren 1009 1005] [(2, cI p2), (3, cI p3), (4, cI p4), (5, dc 1 eI zI p5), (6, ow 1005 1 v84.1), (7, pk 7), (8, pk 8), (15, pk 15), (46, cI (W (x64.1 + 1)))] [(7, va (eTBoard p0)), (8, va (eTState p1)), (15, va (eTHex v3)), (1005, ar 1 eLI zLI v84.1), (1000000, .arr 1 p5.length (fF eI zI p5) true)] id ?_
      cases H
      exact rr
     ·refine jf c80 ?_
      refine sk ?_
      refine oo [] [] [(2, cI p2), (3, cI p3), (4, cI p4), (5, dc 1 eI zI p5), (6, ow 1005 1 x64.2), (7, pk 7), (8, pk 8), (15, pk 15), (46, cI (W (x64.1 + 1)))] [(7, va (eTBoard p0)), (8, va (eTState p1)), (15, va (eTHex v3)), (1005, ar 1 eLI zLI x64.2), (1000000, .arr 1 p5.length (fF eI zI p5) true)] id ?_
      cases H
      exact rr
    ·refine xn ([.res (cB v69)] ++ rg 15 false []) [] [(74, cB false)] [] [] (fun t => aI (i_canFallBack_ok p0 p1 p2 v67 v69 h70) (aI trivial (aI rN (aG 15 c71 (t))))) ?_
     refine jf rF ?_
     refine sk ?_
     refine oo [] [] [(2, cI p2), (3, cI p3), (4, cI p4), (5, dc 1 eI zI p5), (6, ow 1005 1 x64.2), (7, pk 7), (8, pk 8), (15, pk 15), (46, cI (W (x64.1 + 1)))] [(7, va (eTBoard p0)), (8, va (eTState p1)), (15, va (eTHex v3)), (1005, ar 1 eLI zLI x64.2), (1000000, .arr 1 p5.length (fF eI zI p5) true)] id ?_
     cases H
     exact rr
   ·refine jf c66 ?_
    refine tl [] [(6, ow 1005 1 x64.2)] [(1005, ar 1 eLI zLI x64.2), (1000000, .arr 1 p5.length (fF eI zI p5) true)] id ?_
    refine ends_exit ?_
    cases H
    exact rse
  ·clear h88
   rintro e s ⟨rfl, rfl⟩
   change EndsI _ _ _ _ _ _
   refine sn [] [] [(14, ow 1005 1 y87)] [] [] id ?_
   refine tl [.ren 1005 900000] [(14, ow 900000 1 y87)] [(900000, ar 1 eLI zLI y87), (1000000, .arr 1 p5.length (fF eI zI p5) true)] id ?_
   cases H
   exact er
noncomputable def X.i_retreatsFrom_Mdddddzn : Nat → TBoard → TState → Int → Int → Int → (List Int) → Option ((List (List Int)) × (List Int))
 | 0, _, _, _, _, _, _ => none
 | fuel + 1, p0, p1, p2, p3, p4, p5 =>
 ((at' zTUnit p1.Units p2).bind fun v1 => ((X.i_hexOf p0.Map v1.At).bind fun v3 => (bif (p4 == 0) then ((X.i_stackRoom p0 p1 v1.Side p3).bind fun v13 => (bif (decide (v13 > 0)) then ((X.g_Clone_int p5).bind fun v16 => (if ([v16] : List (List Int)).length ≤ LIM then some (([v16] : List (List Int)), p5) else none)) else some (([] : List (List Int)), p5))) else ((loop (fun (x64 : (Int × (List (List Int)))) => ((bif (decide (x64.1 < 6)) then ((X.i_nextTo p0.Map p3 x64.1).bind fun v67 => ((X.i_canFallBack p0 p1 p2 v67).bind fun v69 => (bif v69 then ((X.i_hexOf p0.Map v67).bind fun v72 => ((X.i_distance v3 v72).bind fun v74 => ((X.i_hexOf p0.Map p3).bind fun v76 => ((X.i_distance v3 v76).bind fun v78 => (bif (v74 == (W (v78 + 1))) then ((X.g_Clone_int p5).bind fun v81 => (if (v81 ++ ([x64.1] : List Int)).length ≤ LIM then ((X.i_retreatsFrom_Mdddddzc 64 p0 p1 p2 v67 (W (p4 - 1)) (v81 ++ ([x64.1] : List Int)) x64.2).bind fun v84 => (if v84.2.length = (v81 ++ ([x64.1] : List Int)).length then some (Sum.inl ((W (x64.1 + 1)), v84.1)) else none)) else none)) else some (Sum.inl ((W (x64.1 + 1)), x64.2))))))) else some (Sum.inl ((W (x64.1 + 1)), x64.2))))) else some (Sum.inr x64.2)) : Option ((Int × (List (List Int))) ⊕ (List (List Int))))) (0, ([] : List (List Int)))).bind fun y87 => some (y87, p5)))))
theorem i_retreatsFrom_Mdddddzn_ok (fuel : Nat) : ∀ (p0 : TBoard) (p1 : TState) (p2 : Int) (p3 : Int) (p4 : Int) (p5 : (List Int)) (r : ((List (List Int)) × (List Int))) (H : X.i_retreatsFrom_Mdddddzn fuel p0 p1 p2 p3 p4 p5 = some r), FnMu Tryz.prog gl 207 [.agg (eTBoard p0), .agg (eTState p1), cI p2, cI p3, cI p4, .c (.own 1000000 1 0 p5.length), .c .nil] [(1000000, .arr 1 p5.length (fF eI zI p5) false)] (.c (.own 900000 1 0 r.1.length)) [(900000, .arr 1 r.1.length (fF eLI zLI r.1) false), (1000000, .arr 1 r.2.length (fF eI zI r.2) true)] := by
 induction fuel with
 | zero => intro p0 p1 p2 p3 p4 p5 r H; rw [X.i_retreatsFrom_Mdddddzn.eq_1] at H; cases H
 | succ fuel ih =>
 intro p0 p1 p2 p3 p4 p5 r H
 rw [X.i_retreatsFrom_Mdddddzn.eq_2] at H
 refine fn_mu (fn := Tryz.f207) (ir := i_retreatsFrom_ir) (E' := [(14, ow 900000 1 r.1)]) (E1 := [(900000, ar 1 eLI zLI r.1), (1000000, .arr 1 r.2.length (fF eI zI r.2) true)]) glL Tryz.func207 (by kernel_rfl) (by kernel_rfl) (by kernel_rfl) (by kernel_rfl) (by kernel_rfl) ?_
 refine tl [.frz 5] [(0, .agg (eTBoard p0)), (1, .agg (eTState p1)), (2, cI p2), (3, cI p3), (4, cI p4), (5, dc 1 eI zI p5), (6, .c (.nil))] [(1000000, .arr 1 p5.length (fF eI zI p5) true)] (aI (Nat.le_refl p5.length)) ?_
 refine sn [] [] [(7, pk 7), (8, pk 8)] [] [(7, va (eTBoard p0)), (8, va (eTState p1))] id ?_
 obtain ⟨v1, h2, H⟩ := oB H
 obtain ⟨v3, h4, H⟩ := oB H
 refine xn [.cs (eTUnit v1), .res (.agg (eTHex v3))] [] [(15, pk 15)] [] [(15, va (eTHex v3))] (fun t => (a2 eTUnit h2 (aI rN (aI (i_hexOf_ok p0.Map v1.At v3 h4) (aI trivial (aI rN (t))))))) ?_
 refine seq_in ?_
 refine sn [] [] [(28, cB (p4 == 0))] [] [] id ?_
 rcases oC H with ⟨c12, H⟩ | ⟨c12, H⟩
 ·refine it c12 ?_
  refine seq_in ?_
  obtain ⟨v13, h14, H⟩ := oB H
  refine xn [.cs (eTUnit v1), .res (cI v13)] [] [(39, cB (decide (v13 > 0)))] [] [] (fun t => (a2 eTUnit h2 (aI rN (aI (i_stackRoom_ok p0 p1 v1.Side p3 v13 h14) (aI trivial (aI rN (t))))))) ?_
  rcases oC H with ⟨c15, H⟩ | ⟨c15, H⟩
  ·refine it c15 ?_
   obtain ⟨v16, h17, H⟩ := oB H
   obtain ⟨g18, H⟩ := oI H
   refine oo [.mu [] [(900000, 1002)] (ow 900000 1 v16) [(900000, ar 1 eI zI v16)], fh eLI zLI ([v16] : List (List Int)), fh eLI zLI ([v16] : List (List Int))] [] [(6, ow 44 1 ([v16] : List (List Int)))] [(44, ar 1 eLI zLI ([v16] : List (List Int))), (1000000, .arr 1 p5.length (fF eI zI p5) true)] (fun t => aI (g_Clone_int_Md_ok p5 v16 h17) (aI (Nat.le_refl v16.length) (aI (rfl : ([v16] : List (List Int)).length = 1) (aI (fF_lit eLI zLI ([v16] : List (List Int))) (aI (Nat.le_refl (([v16] : List (List Int)).length)) (aI (And.intro (rfl : ([v16] : List (List Int)).length = ([v16] : List (List Int)).length) g18) (aI (fF_all eLI zLI ([v16] : List (List Int))) (t)))))))) ?_
   change EndsI _ _ _ _ _ _
   refine sn [] [] [(14, ow 44 1 ([v16] : List (List Int)))] [] [] id ?_
   refine tl [.ren 44 900000] [(14, ow 900000 1 ([v16] : List (List Int)))] [(900000, ar 1 eLI zLI ([v16] : List (List Int))), (1000000, .arr 1 p5.length (fF eI zI p5) true)] id ?_
   cases H
   exact er
  ·refine jf c15 ?_
   refine sk ?_
   refine sn [] [] [(14, .c (.nil))] [7, 8, 15] [] id ?_
   refine tl [.nlo 14 900000 1 (fF eLI zLI ([] : List (List Int)))] [(14, ow 900000 1 ([] : List (List Int)))] [(900000, ar 1 eLI zLI ([] : List (List Int))), (1000000, .arr 1 p5.length (fF eI zI p5) true)] (aI (by decide : 0 < 1)) ?_
   cases H
   exact er
 ·refine jf c12 ?_
  refine sk ?_
  refine seq_in ?_
  refine sn [] [] [(46, cI 0)] [] [] id ?_
  refine ends_blk ?_
  obtain ⟨y87, h88, H⟩ := oB H
  refine tl [.nlo 6 1005 1 (fF eLI zLI ([] : List (List Int)))] [(2, cI p2), (3, cI p3), (4, cI p4), (5, dc 1 eI zI p5), (6, ow 1005 1 ([] : List (List Int))), (7, pk 7), (8, pk 8), (15, pk 15), (46, cI 0)] [(7, va (eTBoard p0)), (8, va (eTState p1)), (15, va (eTHex v3)), (1005, ar 1 eLI zLI ([] : List (List Int))), (1000000, .arr 1 p5.length (fF eI zI p5) true)] (aI (by decide : 0 < 1)) ?_
  refine loop_in (fun (x : (Int × (List (List Int)))) => lit [(2, cI p2), (3, cI p3), (4, cI p4), (5, dc 1 eI zI p5), (6, ow 1005 1 x.2), (7, pk 7), (8, pk 8), (15, pk 15), (46, cI x.1)] [(7, va (eTBoard p0)), (8, va (eTState p1)), (15, va (eTHex v3)), (1005, ar 1 eLI zLI x.2), (1000000, .arr 1 p5.length (fF eI zI p5) true)]) (fun (z : (List (List Int))) => At (.exit 0) (lit [(6, ow 1005 1 z)] [(1005, ar 1 eLI zLI z), (1000000, .arr 1 p5.length (fF eI zI p5) true)])) h88 ?_ ?_
  ·clear H h88
   intro x64 y0 H
   refine sn [] [] [(47, cB (decide (x64.1 < 6)))] [] [] id ?_
   refine seq_in ?_
   rcases oC H with ⟨c66, H⟩ | ⟨c66, H⟩
   ·refine it c66 ?_
    refine sk ?_
    refine seq_in ?_
    refine ends_blk ?_
    refine sn [] [] [(16, cI x64.1)] [] [] id ?_
    obtain ⟨v67, h68, H⟩ := oB H
    refine sn [.res (cI v67)] [] [(17, cI v67)] [] [] (aI (i_nextTo_ok p0.Map p3 x64.1 v67 h68)) ?_
    obtain ⟨v69, h70, H⟩ := oB H
    rcases oC H with ⟨c71, H⟩ | ⟨c71, H⟩
    ·obtain ⟨v72, h73, H⟩ := oB H
     obtain ⟨v74, h75, H⟩ := oB H
     obtain ⟨v76, h77, H⟩ := oB H
     obtain ⟨v78, h79, H⟩ := oB H
     refine xn ([.res (cB v69)] ++ rg 5 true ([.res (.agg (eTHex v72)), .g true, .res (cI v74)] ++ rg 5 true ([.res (.agg (eTHex v76)), .g true, .res (cI v78)] ++ rg 3 true []))) [] [(74, cB (v74 == (W (v78 + 1))))] [] [] (fun t => aI (i_canFallBack_ok p0 p1 p2 v67 v69 h70) (aI trivial (aI rN (aG 5 c71 (aI (i_hexOf_ok p0.Map v67 v72 h73) (aI trivial (aI rN (aI c71 (aI (i_distance_ok v3 v72 v74 h75) (aI trivial (aI rN (aG 5 c71 (aI (i_hexOf_ok p0.Map p3 v76 h77) (aI trivial (aI rN (aI c71 (aI (i_distance_ok v3 v76 v78 h79) (aI trivial (aI rN (aG 3 c71 (t))))))))))))))))))))) ?_
     rcases oC H with ⟨c80, H⟩ | ⟨c80, H⟩
     ·refine it c80 ?_
      obtain ⟨v81, h82, H⟩ := oB H
      obtain ⟨g83, H⟩ := oI H
      obtain ⟨v84, h85, H⟩ := oB H
      obtain ⟨g86, H⟩ := oI H
      refine ox [.mu [] [(900000, 1008)] (ow 900000 1 v81) [(900000, ar 1 eI zI v81)], .no, fh eI zI ([x64.1] : List Int), fh eI zI (v81 ++ ([x64.1] : List Int)), .mu [(85, 1000000), (1005, 1000001)] [(900000, 1009), (1000000, 85)] (ow 900000 1 v84.1) [(900000, ar 1 eLI zLI v84.1), (1000000, .arr 1 v84.2.length (fF eI zI v84.2) true)]] [.rel 85 v84.2.length] [(2, cI p2), (3, cI p3), (4, cI p4), (5, dc 1 eI zI p5), (6, ow 1009 1 v84.1), (7, pk 7), (8, pk 8), (15, pk 15), (46, cI x64.1)] [(7, va (eTBoard p0)), (8, va (eTState p1)), (15, va (eTHex v3)), (1009, ar 1 eLI zLI v84.1), (1000000, .arr 1 p5.length (fF eI zI p5) true)] (fun t => aI (g_Clone_int_Md_ok p5 v81 h82) (aI (rfl : ([x64.1] : List Int).length = 1) (aI rT (aI (fF_lit eI zI ([x64.1] : List Int)) (aI (Nat.le_refl (([x64.1] : List Int).length)) (aI (And.intro (Nat.le_refl v81.length) (And.intro (@List.length_append _ v81 ([x64.1] : List Int)) g83)) (aI (fF_appL eI zI v81 ([x64.1] : List Int)) (aI (fF_appR eI zI v81 ([x64.1] : List Int)) (aI (i_retreatsFrom_Mdddddzc_ok 64 p0 p1 p2 v67 (W (p4 - 1)) (v81 ++ ([x64.1] : List Int)) x64.2 v84 h85) (aI (Eq.symm g86) (t))))))))))) ?_
      change EndsI _ _ _ _ _ _
      refine oo [] [.ren 1009 1005] [(2, cI p2), (3, cI p3), (4, cI p4), (5, dc 1 eI zI p5), (6, ow 1005 1 v84.1), (7, pk 7), (8, pk 8), (15, pk 15), (46, cI (W (x64.1 + 1)))] [(7, va (eTBoard p0)), (8, va (eTState p1)), (15, va (eTHex v3)), (1005, ar 1 eLI zLI v84.1), (1000000, .arr 1 p5.length (fF eI zI p5) true)] id ?_
      cases H
      exact rr
     ·refine jf c80 ?_
      refine sk ?_
      refine oo [] [] [(2, cI p2), (3, cI p3), (4, cI p4), (5, dc 1 eI zI p5), (6, ow 1005 1 x64.2), (7, pk 7), (8, pk 8), (15, pk 15), (46, cI (W (x64.1 + 1)))] [(7, va (eTBoard p0)), (8, va (eTState p1)), (15, va (eTHex v3)), (1005, ar 1 eLI zLI x64.2), (1000000, .arr 1 p5.length (fF eI zI p5) true)] id ?_
      cases H
      exact rr
    ·refine xn ([.res (cB v69)] ++ rg 15 false []) [] [(74, cB false)] [] [] (fun t => aI (i_canFallBack_ok p0 p1 p2 v67 v69 h70) (aI trivial (aI rN (aG 15 c71 (t))))) ?_
     refine jf rF ?_
     refine sk ?_
     refine oo [] [] [(2, cI p2), (3, cI p3), (4, cI p4), (5, dc 1 eI zI p5), (6, ow 1005 1 x64.2), (7, pk 7), (8, pk 8), (15, pk 15), (46, cI (W (x64.1 + 1)))] [(7, va (eTBoard p0)), (8, va (eTState p1)), (15, va (eTHex v3)), (1005, ar 1 eLI zLI x64.2), (1000000, .arr 1 p5.length (fF eI zI p5) true)] id ?_
     cases H
     exact rr
   ·refine jf c66 ?_
    refine tl [] [(6, ow 1005 1 x64.2)] [(1005, ar 1 eLI zLI x64.2), (1000000, .arr 1 p5.length (fF eI zI p5) true)] id ?_
    refine ends_exit ?_
    cases H
    exact rse
  ·clear h88
   rintro e s ⟨rfl, rfl⟩
   change EndsI _ _ _ _ _ _
   refine sn [] [] [(14, ow 1005 1 y87)] [] [] id ?_
   refine tl [.ren 1005 900000] [(14, ow 900000 1 y87)] [(900000, ar 1 eLI zLI y87), (1000000, .arr 1 p5.length (fF eI zI p5) true)] id ?_
   cases H
   exact er
noncomputable def X.i_retreatsFrom_Mddddddn : Nat → TBoard → TState → Int → Int → Int → (List Int) → Option (List (List Int))
 | 0, _, _, _, _, _, _ => none
 | fuel + 1, p0, p1, p2, p3, p4, p5 =>
 ((at' zTUnit p1.Units p2).bind fun v1 => ((X.i_hexOf p0.Map v1.At).bind fun v3 => (bif (p4 == 0) then ((X.i_stackRoom p0 p1 v1.Side p3).bind fun v13 => (bif (decide (v13 > 0)) then ((X.g_Clone_int p5).bind fun v16 => (if ([v16] : List (List Int)).length ≤ LIM then some ([v16] : List (List Int)) else none)) else some ([] : List (List Int)))) else ((loop (fun (x64 : (Int × (List (List Int)))) => ((bif (decide (x64.1 < 6)) then ((X.i_nextTo p0.Map p3 x64.1).bind fun v67 => ((X.i_canFallBack p0 p1 p2 v67).bind fun v69 => (bif v69 then ((X.i_hexOf p0.Map v67).bind fun v72 => ((X.i_distance v3 v72).bind fun v74 => ((X.i_hexOf p0.Map p3).bind fun v76 => ((X.i_distance v3 v76).bind fun v78 => (bif (v74 == (W (v78 + 1))) then ((X.g_Clone_int p5).bind fun v81 => (if (v81 ++ ([x64.1] : List Int)).length ≤ LIM then ((X.i_retreatsFrom_Mdddddzc 64 p0 p1 p2 v67 (W (p4 - 1)) (v81 ++ ([x64.1] : List Int)) x64.2).bind fun v84 => (if v84.2.length = (v81 ++ ([x64.1] : List Int)).length then some (Sum.inl ((W (x64.1 + 1)), v84.1)) else none)) else none)) else some (Sum.inl ((W (x64.1 + 1)), x64.2))))))) else some (Sum.inl ((W (x64.1 + 1)), x64.2))))) else some (Sum.inr x64.2)) : Option ((Int × (List (List Int))) ⊕ (List (List Int))))) (0, ([] : List (List Int)))).bind fun y87 => some y87))))
theorem i_retreatsFrom_Mddddddn_ok (fuel : Nat) : ∀ (p0 : TBoard) (p1 : TState) (p2 : Int) (p3 : Int) (p4 : Int) (p5 : (List Int)) (r : (List (List Int))) (H : X.i_retreatsFrom_Mddddddn fuel p0 p1 p2 p3 p4 p5 = some r), FnMu Tryz.prog gl 207 [.agg (eTBoard p0), .agg (eTState p1), cI p2, cI p3, cI p4, .c (dat 1 eI zI p5), .c .nil] [] (.c (.own 900000 1 0 r.length)) [(900000, .arr 1 r.length (fF eLI zLI r) false)] := by
 induction fuel with
 | zero => intro p0 p1 p2 p3 p4 p5 r H; rw [X.i_retreatsFrom_Mddddddn.eq_1] at H; cases H
 | succ fuel ih =>
 intro p0 p1 p2 p3 p4 p5 r H
 rw [X.i_retreatsFrom_Mddddddn.eq_2] at H
 refine fn_mu (fn := Tryz.f207) (ir := i_retreatsFrom_ir) (E' := [(14, ow 900000 1 r)]) (E1 := [(900000, ar 1 eLI zLI r)]) glL Tryz.func207 (by kernel_rfl) (by kernel_rfl) (by kernel_rfl) (by kernel_rfl) (by kernel_rfl) ?_
 refine sn [] [] [(7, pk 7), (8, pk 8)] [] [(7, va (eTBoard p0)), (8, va (eTState p1))] id ?_
 obtain ⟨v1, h2, H⟩ := oB H
 obtain ⟨v3, h4, H⟩ := oB H
 refine xn [.cs (eTUnit v1), .res (.agg (eTHex v3))] [] [(15, pk 15)] [] [(15, va (eTHex v3))] (fun t => (a2 eTUnit h2 (aI rN (aI (i_hexOf_ok p0.Map v1.At v3 h4) (aI trivial (aI rN (t))))))) ?_
 refine seq_in ?_
 refine sn [] [] [(28, cB (p4 == 0))] [] [] id ?_
 rcases oC H with ⟨c12, H⟩ | ⟨c12, H⟩
 ·refine it c12 ?_
  refine seq_in ?_
  obtain ⟨v13, h14, H⟩ := oB H
  refine xn [.cs (eTUnit v1), .res (cI v13)] [] [(39, cB (decide (v13 > 0)))] [] [] (fun t => (a2 eTUnit h2 (aI rN (aI (i_stackRoom_ok p0 p1 v1.Side p3 v13 h14) (aI trivial (aI rN (t))))))) ?_
  rcases oC H with ⟨c15, H⟩ | ⟨c15, H⟩
  ·refine it c15 ?_
   obtain ⟨v16, h17, H⟩ := oB H
   obtain ⟨g18, H⟩ := oI H
   refine oo [.mu [] [(900000, 1002)] (ow 900000 1 v16) [(900000, ar 1 eI zI v16)], fh eLI zLI ([v16] : List (List Int)), fh eLI zLI ([v16] : List (List Int))] [] [(6, ow 44 1 ([v16] : List (List Int)))] [(44, ar 1 eLI zLI ([v16] : List (List Int)))] (fun t => aI (g_Clone_int_Md_ok p5 v16 h17) (aI (Nat.le_refl v16.length) (aI (rfl : ([v16] : List (List Int)).length = 1) (aI (fF_lit eLI zLI ([v16] : List (List Int))) (aI (Nat.le_refl (([v16] : List (List Int)).length)) (aI (And.intro (rfl : ([v16] : List (List Int)).length = ([v16] : List (List Int)).length) g18) (aI (fF_all eLI zLI ([v16] : List (List Int))) (t)))))))) ?_
   change EndsI _ _ _ _ _ _
   refine sn [] [] [(14, ow 44 1 ([v16] : List (List Int)))] [] [] id ?_
   refine tl [.ren 44 900000] [(14, ow 900000 1 ([v16] : List (List Int)))] [(900000, ar 1 eLI zLI ([v16] : List (List Int)))] id ?_
   cases H
   exact er
  ·refine jf c15 ?_
   refine sk ?_
   refine so [] [] [(14, .c (.nil))] [] id ?_
   refine tl [.nlo 14 900000 1 (fF eLI zLI ([] : List (List Int)))] [(14, ow 900000 1 ([] : List (List Int)))] [(900000, ar 1 eLI zLI ([] : List (List Int)))] (aI (by decide : 0 < 1)) ?_
   cases H
   exact er
 ·refine jf c12 ?_
  refine sk ?_
  refine seq_in ?_
  refine sn [] [] [(46, cI 0)] [] [] id ?_
  refine ends_blk ?_
  obtain ⟨y87, h88, H⟩ := oB H
  refine tl [.nlo 6 1005 1 (fF eLI zLI ([] : List (List Int)))] [(2, cI p2), (3, cI p3), (4, cI p4), (5, dc 1 eI zI p5), (6, ow 1005 1 ([] : List (List Int))), (7, pk 7), (8, pk 8), (15, pk 15), (46, cI 0)] [(7, va (eTBoard p0)), (8, va (eTState p1)), (15, va (eTHex v3)), (1005, ar 1 eLI zLI ([] : List (List Int)))] (aI (by decide : 0 < 1)) ?_
  refine loop_in (fun (x : (Int × (List (List Int)))) => lit [(2, cI p2), (3, cI p3), (4, cI p4), (5, dc 1 eI zI p5), (6, ow 1005 1 x.2), (7, pk 7), (8, pk 8), (15, pk 15), (46, cI x.1)] [(7, va (eTBoard p0)), (8, va (eTState p1)), (15, va (eTHex v3)), (1005, ar 1 eLI zLI x.2)]) (fun (z : (List (List Int))) => At (.exit 0) (lit [(6, ow 1005 1 z)] [(1005, ar 1 eLI zLI z)])) h88 ?_ ?_
  ·clear H h88
   intro x64 y0 H
   refine sn [] [] [(47, cB (decide (x64.1 < 6)))] [] [] id ?_
   refine seq_in ?_
   rcases oC H with ⟨c66, H⟩ | ⟨c66, H⟩
   ·refine it c66 ?_
    refine sk ?_
    refine seq_in ?_
    refine ends_blk ?_
    refine sn [] [] [(16, cI x64.1)] [] [] id ?_
    obtain ⟨v67, h68, H⟩ := oB H
    refine sn [.res (cI v67)] [] [(17, cI v67)] [] [] (aI (i_nextTo_ok p0.Map p3 x64.1 v67 h68)) ?_
    obtain ⟨v69, h70, H⟩ := oB H
    rcases oC H with ⟨c71, H⟩ | ⟨c71, H⟩
    ·obtain ⟨v72, h73, H⟩ := oB H
     obtain ⟨v74, h75, H⟩ := oB H
     obtain ⟨v76, h77, H⟩ := oB H
     obtain ⟨v78, h79, H⟩ := oB H
     refine xn ([.res (cB v69)] ++ rg 5 true ([.res (.agg (eTHex v72)), .g true, .res (cI v74)] ++ rg 5 true ([.res (.agg (eTHex v76)), .g true, .res (cI v78)] ++ rg 3 true []))) [] [(74, cB (v74 == (W (v78 + 1))))] [] [] (fun t => aI (i_canFallBack_ok p0 p1 p2 v67 v69 h70) (aI trivial (aI rN (aG 5 c71 (aI (i_hexOf_ok p0.Map v67 v72 h73) (aI trivial (aI rN (aI c71 (aI (i_distance_ok v3 v72 v74 h75) (aI trivial (aI rN (aG 5 c71 (aI (i_hexOf_ok p0.Map p3 v76 h77) (aI trivial (aI rN (aI c71 (aI (i_distance_ok v3 v76 v78 h79) (aI trivial (aI rN (aG 3 c71 (t))))))))))))))))))))) ?_
     rcases oC H with ⟨c80, H⟩ | ⟨c80, H⟩
     ·refine it c80 ?_
      obtain ⟨v81, h82, H⟩ := oB H
      obtain ⟨g83, H⟩ := oI H
      obtain ⟨v84, h85, H⟩ := oB H
      obtain ⟨g86, H⟩ := oI H
      refine ox [.mu [] [(900000, 1008)] (ow 900000 1 v81) [(900000, ar 1 eI zI v81)], .no, fh eI zI ([x64.1] : List Int), fh eI zI (v81 ++ ([x64.1] : List Int)), .mu [(85, 1000000), (1005, 1000001)] [(900000, 1009), (1000000, 85)] (ow 900000 1 v84.1) [(900000, ar 1 eLI zLI v84.1), (1000000, .arr 1 v84.2.length (fF eI zI v84.2) true)]] [.rel 85 v84.2.length] [(2, cI p2), (3, cI p3), (4, cI p4), (5, dc 1 eI zI p5), (6, ow 1009 1 v84.1), (7, pk 7), (8, pk 8), (15, pk 15), (46, cI x64.1)] [(7, va (eTBoard p0)), (8, va (eTState p1)), (15, va (eTHex v3)), (1009, ar 1 eLI zLI v84.1)] (fun t => aI (g_Clone_int_Md_ok p5 v81 h82) (aI (rfl : ([x64.1] : List Int).length = 1) (aI rT (aI (fF_lit eI zI ([x64.1] : List Int)) (aI (Nat.le_refl (([x64.1] : List Int).length)) (aI (And.intro (Nat.le_refl v81.length) (And.intro (@List.length_append _ v81 ([x64.1] : List Int)) g83)) (aI (fF_appL eI zI v81 ([x64.1] : List Int)) (aI (fF_appR eI zI v81 ([x64.1] : List Int)) (aI (i_retreatsFrom_Mdddddzc_ok 64 p0 p1 p2 v67 (W (p4 - 1)) (v81 ++ ([x64.1] : List Int)) x64.2 v84 h85) (aI (Eq.symm g86) (t))))))))))) ?_
      change EndsI _ _ _ _ _ _
      refine oo [] [.ren 1009 1005] [(2, cI p2), (3, cI p3), (4, cI p4), (5, dc 1 eI zI p5), (6, ow 1005 1 v84.1), (7, pk 7), (8, pk 8), (15, pk 15), (46, cI (W (x64.1 + 1)))] [(7, va (eTBoard p0)), (8, va (eTState p1)), (15, va (eTHex v3)), (1005, ar 1 eLI zLI v84.1)] id ?_
      cases H
      exact rr
     ·refine jf c80 ?_
      refine sk ?_
      refine oo [] [] [(2, cI p2), (3, cI p3), (4, cI p4), (5, dc 1 eI zI p5), (6, ow 1005 1 x64.2), (7, pk 7), (8, pk 8), (15, pk 15), (46, cI (W (x64.1 + 1)))] [(7, va (eTBoard p0)), (8, va (eTState p1)), (15, va (eTHex v3)), (1005, ar 1 eLI zLI x64.2)] id ?_
      cases H
      exact rr
    ·refine xn ([.res (cB v69)] ++ rg 15 false []) [] [(74, cB false)] [] [] (fun t => aI (i_canFallBack_ok p0 p1 p2 v67 v69 h70) (aI trivial (aI rN (aG 15 c71 (t))))) ?_
     refine jf rF ?_
     refine sk ?_
     refine oo [] [] [(2, cI p2), (3, cI p3), (4, cI p4), (5, dc 1 eI zI p5), (6, ow 1005 1 x64.2), (7, pk 7), (8, pk 8), (15, pk 15), (46, cI (W (x64.1 + 1)))] [(7, va (eTBoard p0)), (8, va (eTState p1)), (15, va (eTHex v3)), (1005, ar 1 eLI zLI x64.2)] id ?_
     cases H
     exact rr
   ·refine jf c66 ?_
    refine tl [] [(6, ow 1005 1 x64.2)] [(1005, ar 1 eLI zLI x64.2)] id ?_
    refine ends_exit ?_
    cases H
    exact rse
  ·clear h88
   rintro e s ⟨rfl, rfl⟩
   change EndsI _ _ _ _ _ _
   refine sn [] [] [(14, ow 1005 1 y87)] [] [] id ?_
   refine tl [.ren 1005 900000] [(14, ow 900000 1 y87)] [(900000, ar 1 eLI zLI y87)] id ?_
   cases H
   exact er
def i_retreatsOf_ir : S :=
 (sq [o 4 (.box 12 (.t 0)), o 5 (.box 3 (.t 1)), o 8 (.mv (.v (.nil)))]
 (.seq (.drw [(0, 1), (0, 2), (1, 2), (0, 3), (1, 3), (2, 3), (0, 4), (1, 4), (2, 4), (0, 5), (1, 5), (2, 5), (3, 5), (4, 5), (0, 6), (1, 6), (2, 6), (0, 7), (1, 7), (2, 7), (0, 8), (1, 8), (2, 8), (0, 9), (1, 9), (2, 9), (3, 9), (4, 9), (5, 9), (6, 9), (7, 9), (8, 9), (0, 10), (1, 10), (2, 10), (3, 10), (4, 10), (5, 10), (6, 10), (7, 10), (8, 10), (9, 10)] [o 9 (.load 12 true (.t 4)), o 10 (.load 3 true (.t 5)), om 11 2, oa 12 2 5, ol 13 12, om 14 2, o 15 (.iad 4 (.t 13) (.t 14)), oa 16 2 15, ol 17 16, om 18 3, o 19 (.bsl 1 []), o 20 (.call 207 [.t 9, .t 10, .t 11, .t 17, .t 18, .t 19, .v (.nil)]), om 8 20])
 .ret))
noncomputable def X.i_retreatsOf (p0 : TBoard) (p1 : TState) (p2 : Int) (p3 : Int) : Option (List (List Int)) :=
 ((at' zTUnit p1.Units p2).bind fun v1 => ((X.i_retreatsFrom_Mddddddn 64 p0 p1 p2 v1.At p3 ([] : List Int)).bind fun v3 => some v3))
theorem i_retreatsOf_ok (p0 : TBoard) (p1 : TState) (p2 : Int) (p3 : Int) (r : (List (List Int))) (H : X.i_retreatsOf p0 p1 p2 p3 = some r) : FK 165 [.agg (eTBoard p0), .agg (eTState p1), cI p2, cI p3] (.c (dat 1 eLI zLI r)) := by
 unfold X.i_retreatsOf at H
 refine fi Tryz.f165 i_retreatsOf_ir [(8, dc 1 eLI zLI r)] [] glL Tryz.func165 ?_
 refine sn [] [] [(4, pk 4), (5, pk 5)] [] [(4, va (eTBoard p0)), (5, va (eTState p1))] id ?_
 obtain ⟨v1, h2, H⟩ := oB H
 obtain ⟨v3, h4, H⟩ := oB H
 refine sx [.cs (eTUnit v1), fh eI zI ([] : List Int), .mu [] [(900000, 1001)] (ow 900000 1 v3) [(900000, ar 1 eLI zLI v3)]] [] [(8, ow 1001 1 v3)] [(1001, ar 1 eLI zLI v3)] (fun t => (a2 eTUnit h2 (aI rN (aI (rfl : ([] : List Int).length = 0) (aI rT (aI (fF_lit eI zI ([] : List Int)) (aI (i_retreatsFrom_Mddddddn_ok 64 p0 p1 p2 v1.At p3 ([] : List Int) v3 h4) (t)))))))) ?_
 refine tl [.frz 8] [(8, dc 1 eLI zLI v3)] [] (aI (Nat.le_refl v3.length)) ?_
 cases H
 exact er
def i_loseSteps_ir : S :=
 (sq [o 3 (.box 3 (.t 0))]
 (sq [oa 7 2 3, ol 8 7, om 9 1, o 10 (.iad 4 (.t 8) (.t 9)), om 6 10]
 (sq [om 11 6, om 12 6, o 13 (.nck (.t 12)), oa 14 3 13, ol 15 14, om 16 2, o 17 (.bin .sub (.t 15) (.t 16)), o 18 (.mx true (.t 17) (iv 0)), o 19 (.nck (.t 11)), oa 20 3 19, os 1 20 18]
 (sq [om 21 6, o 22 (.nck (.t 21)), oa 23 3 22, ol 24 23, o 25 (.bin .eql (.t 24) (iv 0))]
 (.ite (.t 25) (.ops [om 26 6, o 27 (.nck (.t 26)), oa 28 2 27, ⟨none, .store 1 (.t 28) (.v (.int .i64 (-1))), none⟩])
 .skip)))))
noncomputable def X.i_loseSteps_Modd (p0 : TState) (p1 : Int) (p2 : Int) : Option TState :=
 (if 0 ≤ p1 ∧ p1 < (p0.Units.length : Int) then ((some (p0.Units.set p1.toNat (TUnit.mk ((p0.Units.getD p1.toNat zTUnit).Side) ((p0.Units.getD p1.toNat zTUnit).Kind) ((p0.Units.getD p1.toNat zTUnit).At) (if 0 > (W ((p0.Units.getD p1.toNat zTUnit).Steps - p2)) then 0 else (W ((p0.Units.getD p1.toNat zTUnit).Steps - p2)))))).bind fun l2 => (bif ((l2.getD p1.toNat zTUnit).Steps == 0) then ((some (l2.set p1.toNat (TUnit.mk ((l2.getD p1.toNat zTUnit).Side) ((l2.getD p1.toNat zTUnit).Kind) (-1) ((l2.getD p1.toNat zTUnit).Steps)))).bind fun l5 => some (TState.mk p0.Turn p0.Weather l5)) else some (TState.mk p0.Turn p0.Weather l2))) else none)
theorem i_loseSteps_Modd_ok (p0 : TState) (p1 : Int) (p2 : Int) (r : TState) (H : X.i_loseSteps_Modd p0 p1 p2 = some r) : FnMu Tryz.prog gl 166 [.agg [.int .i64 p0.Turn, .int .i64 p0.Weather, .own 1000000 4 0 p0.Units.length], cI p1, cI p2] [(1000000, .arr 4 p0.Units.length (fF eTUnit zTUnit p0.Units) false)] (.tup []) [(1000000, .arr 4 r.Units.length (fF eTUnit zTUnit r.Units) false)] := by
 unfold X.i_loseSteps_Modd at H
 refine fn_mu (fn := Tryz.f166) (ir := i_loseSteps_ir) (E' := []) (E1 := [(1000000, ar 4 eTUnit zTUnit r.Units)]) glL Tryz.func166 (by kernel_rfl) (by kernel_rfl) (by kernel_rfl) (by kernel_rfl) (by kernel_rfl) ?_
 refine sn [] [] [(3, pk 3)] [] [(3, .var [jI p0.Turn, jI p0.Weather, .own 1000000 4 0 p0.Units.length] false)] id ?_
 obtain ⟨g1, H⟩ := oI H
 refine sn [.no] [] [(6, .c (.pa 1000000 4 p1.toNat 0))] [] [] (fun t => aI g1 (t)) ?_
 obtain ⟨l2, h3, H⟩ := oB H
 refine sn [.fn 0 (fF eTUnit zTUnit l2)] [] [] [1000000, 3] [(1000000, .arr 4 p0.Units.length (fF eTUnit zTUnit l2) false)] (fun t => aI (nat_lt g1) (aI rT (aI (nat_lt g1) (aI (by decide : 3 + 1 ≤ 4) (aI (fF_setN eTUnit zTUnit h3 (nat_lt g1) p0.Units.length) (t)))))) ?_
 refine sn [] [] [(25, cB ((l2.getD p1.toNat zTUnit).Steps == 0))] [] [] (aI (nat_lt g1)) ?_
 rcases oC H with ⟨c4, H⟩ | ⟨c4, H⟩
 ·refine it c4 ?_
  obtain ⟨l5, h6, H⟩ := oB H
  refine oo [.fn 0 (fF eTUnit zTUnit l5)] [.rep 1000000 l5.length (fF eTUnit zTUnit l5)] [] [(1000000, ar 4 eTUnit zTUnit l5)] (fun t => aI rT (aI (nat_lt g1) (aI (by decide : 2 + 1 ≤ 4) (aI (fF_setN eTUnit zTUnit h6 (ltN h3 (nat_lt g1)) p0.Units.length) (aI (Nat.le_of_eq (by simp [lenN h6, lenN h3] : l5.length = p0.Units.length)) (aI (fun _ _ => rfl : ∀ i, i < l5.length → (fF eTUnit zTUnit l5) i = (fF eTUnit zTUnit l5) i) (t))))))) ?_
  cases H
  exact qn
 ·refine jf c4 ?_
  refine tl [.rep 1000000 l2.length (fF eTUnit zTUnit l2)] [] [(1000000, ar 4 eTUnit zTUnit l2)] (fun t => aI (Nat.le_of_eq (by simp [lenN h3] : l2.length = p0.Units.length)) (aI (fun _ _ => rfl : ∀ i, i < l2.length → (fF eTUnit zTUnit l2) i = (fF eTUnit zTUnit l2) i) (t))) ?_
  refine ends_skip ?_
  cases H
  exact qn
def i_pathHexes_ir : S :=
 (sq [o 3 (.box 5 (.t 0)), o 6 (.mv (.v (.nil))), o 7 (.mv bF)]
 (sq [o 11 (.bsl 1 []), om 8 11]
 (.seq (sq [om 12 2, o 13 (.len (.t 12)), o 14 (.mv (iv 0))]
 (.blk 0 (.loop (sq [o 15 (.bin .lss (.t 14) (.t 13))]
   (.seq (.ite (.t 15) .skip
   (.exit 0))
   (.seq (.blk 1 (sq [o 16 (.iad 1 (.t 12) (.t 14)), ol 17 16, om 10 17]
    (sq [o 18 (.load 5 true (.t 3)), om 19 1, om 20 10, o 21 (.call 184 [.t 18, .t 19, .t 20]), om 1 21]
    (.seq (sq [om 22 1, o 23 (.bin .lss (.t 22) (iv 0))]
    (.ite (.t 23) (sq [o 6 (.mv (.v (.nil))), o 7 (.mv bF)]
     .ret)
    .skip))
    (.ops [om 24 8, om 25 1, o 26 (.bsl 1 [.t 25]), o 27 (.app 1 8 (.t 24) (.t 26)), om 8 27])))))
   (.ops [o 28 (.bin .add (.t 14) (iv 1)), om 14 28])))))))
 (sq [om 29 8, om 6 29, o 7 (.mv bT)]
 .ret))))
noncomputable def X.i_pathHexes (p0 : TMap) (p1 : Int) (p2 : (List Int)) : Option ((List Int) × Bool) :=
 ((loop (fun (x18 : (Int × Int × (List Int))) => ((bif (decide (x18.2.1 < (p2.length : Int))) then ((at' zI p2 x18.2.1).bind fun v21 => ((X.i_nextTo p0 x18.1 v21).bind fun v23 => (bif (decide (v23 < 0)) then some (Sum.inr (Sum.inr (([] : List Int), false))) else (if (x18.2.2 ++ ([v23] : List Int)).length ≤ LIM then some (Sum.inl (v23, (W (x18.2.1 + 1)), (x18.2.2 ++ ([v23] : List Int)))) else none)))) else some (Sum.inr (Sum.inl x18.2.2))) : Option ((Int × Int × (List Int)) ⊕ ((List Int) ⊕ ((List Int) × Bool))))) (p1, 0, ([] : List Int))).bind fun y27 => (Sum.elim (fun (y29 : (List Int)) => some (y29, true)) (fun (y30 : ((List Int) × Bool)) => some (y30.1, y30.2)) y27))
theorem i_pathHexes_ok (p0 : TMap) (p1 : Int) (p2 : (List Int)) (r : ((List Int) × Bool)) (H : X.i_pathHexes p0 p1 p2 = some r) : FK 167 [.agg (eTMap p0), cI p1, .c (dat 1 eI zI p2)] (.tup [(false, [dat 1 eI zI r.1]), (false, [.bool r.2])]) := by
 unfold X.i_pathHexes at H
 refine fi Tryz.f167 i_pathHexes_ir [(6, dc 1 eI zI r.1), (7, cB r.2)] [] glL Tryz.func167 ?_
 refine sn [] [] [(3, pk 3)] [] [(3, va (eTMap p0))] id ?_
 refine sn [fh eI zI ([] : List Int)] [] [(8, ow 11 1 ([] : List Int))] [] [(11, ar 1 eI zI ([] : List Int))] (fun t => aI (rfl : ([] : List Int).length = 0) (aI (fF_lit eI zI ([] : List Int)) (t))) ?_
 refine seq_in ?_
 refine sn [] [] [(12, dc 1 eI zI p2), (13, cL p2), (14, cI 0)] [] [] (fun t => lI p2 (t)) ?_
 refine ends_blk ?_
 obtain ⟨y27, h28, H⟩ := oB H
 refine tl [.ren 11 1001] [(1, cI p1), (3, pk 3), (8, ow 1001 1 ([] : List Int)), (12, dc 1 eI zI p2), (13, cL p2), (14, cI 0)] [(3, va (eTMap p0)), (1001, ar 1 eI zI ([] : List Int))] id ?_
 refine loop_in (fun (x : (Int × Int × (List Int))) => lit [(1, cI x.1), (3, pk 3), (8, ow 1001 1 x.2.2), (12, dc 1 eI zI p2), (13, cL p2), (14, cI x.2.1)] [(3, va (eTMap p0)), (1001, ar 1 eI zI x.2.2)]) (orJ (fun (z : (List Int)) => At (.exit 0) (lit [(8, ow 1001 1 z)] [(1001, ar 1 eI zI z)])) (fun (z : ((List Int) × Bool)) => At .ret (lit [(6, dc 1 eI zI z.1), (7, cB z.2)] []))) h28 ?_ ?_
 ·clear H h28
  intro x18 y0 H
  refine sn [] [] [(15, cB (decide (x18.2.1 < (p2.length : Int))))] [] [] id ?_
  refine seq_in ?_
  rcases oC H with ⟨c20, H⟩ | ⟨c20, H⟩
  ·refine it c20 ?_
   refine sk ?_
   refine seq_in ?_
   refine ends_blk ?_
   obtain ⟨v21, h22, H⟩ := oB H
   refine sn [.cs (eI v21)] [] [(10, cI v21)] [] [] (a2 eI h22) ?_
   obtain ⟨v23, h24, H⟩ := oB H
   refine so [.res (cI v23)] [] [(1, cI v23), (3, pk 3), (8, ow 1001 1 x18.2.2), (12, dc 1 eI zI p2), (13, cL p2), (14, cI x18.2.1)] [(3, va (eTMap p0)), (1001, ar 1 eI zI x18.2.2)] (aI (i_nextTo_ok p0 x18.1 v21 v23 h24)) ?_
   refine seq_in ?_
   refine sn [] [] [(23, cB (decide (v23 < 0)))] [] [] id ?_
   rcases oC H with ⟨c25, H⟩ | ⟨c25, H⟩
   ·refine it c25 ?_
    refine so [] [] [(6, .c (.nil)), (7, cB false)] [] id ?_
    refine tl [.nld 6 1 (fF eI zI ([] : List Int))] [(6, .c (dat 1 eI zI ([] : List Int))), (7, cB false)] [] id ?_
    refine ends_ret ?_
    cases H
    exact rsr
   ·refine jf c25 ?_
    refine sk ?_
    obtain ⟨g26, H⟩ := oI H
    refine oo [fh eI zI ([v23] : List Int), fh eI zI (x18.2.2 ++ ([v23] : List Int))] [] [(1, cI v23), (3, pk 3), (8, ow 27 1 (x18.2.2 ++ ([v23] : List Int))), (12, dc 1 eI zI p2), (13, cL p2), (14, cI x18.2.1)] [(3, va (eTMap p0)), (27, ar 1 eI zI (x18.2.2 ++ ([v23] : List Int)))] (fun t => aI (rfl : ([v23] : List Int).length = 1) (aI (fF_lit eI zI ([v23] : List Int)) (aI (Nat.le_refl (([v23] : List Int).length)) (aI (And.intro (Nat.le_refl x18.2.2.length) (And.intro (@List.length_append _ x18.2.2 ([v23] : List Int)) g26)) (aI (fF_appL eI zI x18.2.2 ([v23] : List Int)) (aI (fF_appR eI zI x18.2.2 ([v23] : List Int)) (t))))))) ?_
    change EndsI _ _ _ _ _ _
    refine oo [] [.ren 27 1001] [(1, cI v23), (3, pk 3), (8, ow 1001 1 (x18.2.2 ++ ([v23] : List Int))), (12, dc 1 eI zI p2), (13, cL p2), (14, cI (W (x18.2.1 + 1)))] [(3, va (eTMap p0)), (1001, ar 1 eI zI (x18.2.2 ++ ([v23] : List Int)))] id ?_
    cases H
    exact rr
  ·refine jf c20 ?_
   refine tl [] [(8, ow 1001 1 x18.2.2)] [(1001, ar 1 eI zI x18.2.2)] id ?_
   refine ends_exit ?_
   cases H
   exact rse
 ·clear h28
  cases y27 with
  | inl y29 =>
   replace H := ofInl H
   rintro e s ⟨rfl, rfl⟩
   change EndsI _ _ _ _ _ _
   refine sn [] [] [(6, ow 1001 1 y29), (7, cB true)] [] [] id ?_
   refine tl [.frz 6] [(6, dc 1 eI zI y29), (7, cB true)] [] (aI (Nat.le_refl y29.length)) ?_
   cases H
   exact er
  | inr y30 =>
   replace H := ofInr H
   rintro e s ⟨rfl, rfl⟩
   cases H
   exact qr
def i_retreatUnit_ir : S :=
 (sq [o 4 (.box 12 (.t 0)), o 5 (.box 3 (.t 1)), o 8 (.alloc [.int .i64 0, .int .i64 0, .nil]), o 9 (.mv bF)]
 (sq [o 14 (.load 3 true (.t 5)), o 15 (.call 122 [.t 14]), o 10 (.alloc [.int .i64 0, .int .i64 0, .nil]), os 3 10 15]
 (sq [o 16 (.load 12 true (.t 4)), o 17 (.load 3 true (.t 5)), om 18 2, om 19 3, o 20 (.call 165 [.t 16, .t 17, .t 18, .t 19]), om 11 20]
 (.seq (sq [om 21 11, o 22 (.len (.t 21)), o 23 (.bin .eql (.t 22) (iv 0))]
 (.ite (.t 23) (sq [o 24 (.load 3 true (.t 10)), om 25 2, o 26 (.call 166 [.t 24, .t 25, .v (.int .i64 1)])]
  (sq [o 27 (.load 3 true (.t 10)), os 3 8 27, o 9 (.mv bF)]
  .ret))
 .skip))
 (.seq (.drw [(0, 2), (1, 2), (0, 3), (1, 3), (0, 4), (1, 4), (2, 4), (3, 4), (0, 5), (1, 5), (0, 6), (1, 6), (0, 7), (1, 7), (0, 8), (1, 8), (2, 8), (3, 8), (4, 8), (5, 8), (6, 8), (7, 8), (0, 9), (1, 9), (2, 9), (3, 9), (4, 9), (5, 9), (6, 9), (7, 9), (0, 10), (1, 10), (2, 10), (3, 10), (4, 10), (5, 10), (6, 10), (7, 10), (13, 14), (14, 15)] [oa 29 7 4, o 30 (.load 5 true (.t 29)), oa 31 2 5, ol 32 31, om 33 2, o 34 (.iad 4 (.t 32) (.t 33)), oa 35 2 34, ol 36 35, om 37 11, o 38 (.iad 1 (.t 37) (iv 0)), ol 39 38, o 40 (.call 167 [.t 30, .t 36, .t 39]), om 28 40, o 41 (.ext (.t 28) 0), o 42 (.ext (.t 28) 1), om 12 41, om 13 42])
 (.seq (.drw [(0, 2), (1, 2), (0, 3), (1, 3), (2, 3), (0, 4), (1, 4), (2, 4), (3, 4), (0, 5), (1, 5), (2, 5), (3, 5), (0, 6), (1, 6), (2, 6), (3, 6), (0, 7), (1, 7), (2, 7), (0, 8), (1, 8), (2, 8)] [oa 43 2 10, ol 44 43, om 45 2, om 46 12, om 47 12, o 48 (.len (.t 47)), o 49 (.bin .sub (.t 48) (iv 1)), o 50 (.iad 1 (.t 46) (.t 49)), ol 51 50, o 52 (.iad 4 (.t 44) (.t 45)), oa 53 2 52, os 1 53 51])
 (sq [o 54 (.load 3 true (.t 10)), os 3 8 54, o 9 (.mv bT)]
 .ret)))))))
noncomputable def X.i_retreatUnit_Mdzdd (p0 : TBoard) (p1 : TState) (p2 : Int) (p3 : Int) : Option (TState × Bool × TState) :=
 ((X.i_cloneState p1).bind fun v1 => ((X.i_retreatsOf p0 p1 p2 p3).bind fun v3 => (bif ((v3.length : Int) == 0) then ((X.i_loseSteps_Modd v1 p2 1).bind fun v10 => (if v10.Units.length = v1.Units.length then some ((TState.mk v1.Turn v1.Weather v10.Units), false, p1) else none)) else ((at' zTUnit p1.Units p2).bind fun v13 => ((at' zLI v3 0).bind fun v15 => ((X.i_pathHexes p0.Map v13.At v15).bind fun v17 => ((at' zI v17.1 (W ((v17.1.length : Int) - 1))).bind fun v19 => (if 0 ≤ p2 ∧ p2 < (v1.Units.length : Int) then ((some (v1.Units.set p2.toNat (TUnit.mk ((v1.Units.getD p2.toNat zTUnit).Side) ((v1.Units.getD p2.toNat zTUnit).Kind) v19 ((v1.Units.getD p2.toNat zTUnit).Steps)))).bind fun l22 => some ((TState.mk v1.Turn v1.Weather l22), true, p1)) else none))))))))
theorem i_retreatUnit_Mdzdd_ok (p0 : TBoard) (p1 : TState) (p2 : Int) (p3 : Int) (r : (TState × Bool × TState)) (H : X.i_retreatUnit_Mdzdd p0 p1 p2 p3 = some r) : FnMu Tryz.prog gl 123 [.agg (eTBoard p0), .agg [.int .i64 p1.Turn, .int .i64 p1.Weather, .own 1000000 4 0 p1.Units.length], cI p2, cI p3] [(1000000, .arr 4 p1.Units.length (fF eTUnit zTUnit p1.Units) false)] (.tup [(true, [.int .i64 r.1.Turn, .int .i64 r.1.Weather, .own 900000 4 0 r.1.Units.length]), (false, [.bool r.2.1])]) [(8, .var [.int .i64 r.1.Turn, .int .i64 r.1.Weather, .own 900000 4 0 r.1.Units.length] false), (900000, .arr 4 r.1.Units.length (fF eTUnit zTUnit r.1.Units) false), (1000000, .arr 4 r.2.2.Units.length (fF eTUnit zTUnit r.2.2.Units) true)] := by
 unfold X.i_retreatUnit_Mdzdd at H
 refine fn_mu (fn := Tryz.f123) (ir := i_retreatUnit_ir) (E' := [(8, pk 8), (9, cB r.2.1)]) (E1 := [(8, .var [jI r.1.Turn, jI r.1.Weather, .own 900000 4 0 r.1.Units.length] false), (900000, ar 4 eTUnit zTUnit r.1.Units), (1000000, .arr 4 r.2.2.Units.length (fF eTUnit zTUnit r.2.2.Units) true)]) glL Tryz.func123 (by kernel_rfl) (by kernel_rfl) (by kernel_rfl) (by kernel_rfl) (by kernel_rfl) ?_
 refine tl [.frz 1] [(0, .agg (eTBoard p0)), (1, .agg (eTState p1)), (2, cI p2), (3, cI p3)] [(1000000, .arr 4 p1.Units.length (fF eTUnit zTUnit p1.Units) true)] (aI (Nat.le_refl p1.Units.length)) ?_
 refine sn [] [] [(4, pk 4), (5, pk 5), (8, pk 8)] [] [(4, va (eTBoard p0)), (5, va (eTState p1)), (8, .var [jI 0, jI 0, .nil] false)] id ?_
 obtain ⟨v1, h2, H⟩ := oB H
 refine sn [.mu [] [(2, 1001), (900000, 1002)] (.agg [jI v1.Turn, jI v1.Weather, .own 900000 4 0 v1.Units.length]) [(2, .var [jI v1.Turn, jI v1.Weather, .own 900000 4 0 v1.Units.length] false), (900000, ar 4 eTUnit zTUnit v1.Units)]] [] [(10, pk 10)] [] [(10, .var [jI v1.Turn, jI v1.Weather, .own 1002 4 0 v1.Units.length] false), (1002, ar 4 eTUnit zTUnit v1.Units)] (aI (i_cloneState_Md_ok p1 v1 h2)) ?_
 obtain ⟨v3, h4, H⟩ := oB H
 refine sn [.res (dc 1 eLI zLI v3)] [] [(11, dc 1 eLI zLI v3)] [] [] (aI (i_retreatsOf_ok p0 p1 p2 p3 v3 h4)) ?_
 refine seq_in ?_
 refine sn [] [] [(23, cB ((v3.length : Int) == 0))] [] [] (fun t => lI v3 (t)) ?_
 rcases oC H with ⟨c9, H⟩ | ⟨c9, H⟩
 ·refine it c9 ?_
  obtain ⟨v10, h11, H⟩ := oB H
  obtain ⟨g12, H⟩ := oI H
  refine sn [.mu [(1002, 1000000)] [(1000000, 1002)] (.tup []) [(1000000, ar 4 eTUnit zTUnit v10.Units)]] [.agg 24 [jI v1.Turn, jI v1.Weather, .own 1002 4 0 v10.Units.length], .relc 10 2 v10.Units.length] [] [1002, 10] [(10, .var [jI v1.Turn, jI v1.Weather, .own 1002 4 0 v10.Units.length] false), (1002, ar 4 eTUnit zTUnit v10.Units)] (fun t => aI (i_loseSteps_Modd_ok v1 p2 1 v10 h11) (aI (by rw [← g12] : AV.agg [jI v1.Turn, jI v1.Weather, .own 1002 4 0 v1.Units.length] = AV.agg [jI v1.Turn, jI v1.Weather, .own 1002 4 0 v10.Units.length]) (aI (Eq.symm g12) (t)))) ?_
  refine sn [] [] [(9, cB false)] [4, 5, 8] [(8, .var [jI v1.Turn, jI v1.Weather, .own 1002 4 0 v10.Units.length] false)] id ?_
  refine tl [.ren 1002 900000] [(8, pk 8), (9, cB false)] [(8, .var [jI v1.Turn, jI v1.Weather, .own 900000 4 0 v10.Units.length] false), (900000, ar 4 eTUnit zTUnit v10.Units), (1000000, .arr 4 p1.Units.length (fF eTUnit zTUnit p1.Units) true)] id ?_
  cases H
  exact er
 ·refine jf c9 ?_
  refine sk ?_
  obtain ⟨v13, h14, H⟩ := oB H
  obtain ⟨v15, h16, H⟩ := oB H
  obtain ⟨v17, h18, H⟩ := oB H
  refine xn [.cs (eTUnit v13), .cs (eLI v15), .res (.tup [(false, [dat 1 eI zI v17.1]), (false, [.bool v17.2])])] [] [(12, dc 1 eI zI v17.1)] [] [] (fun t => (a2 eTUnit h14 (aI rN ((a2 eLI h16 (aI rN (aI (i_pathHexes_ok p0.Map v13.At v15 v17 h18) (aG 2 rN (t))))))))) ?_
  obtain ⟨v19, h20, H⟩ := oB H
  obtain ⟨g21, H⟩ := oI H
  obtain ⟨l22, h23, H⟩ := oB H
  refine xn [.cs (eI v19), .no, .fn 0 (fF eTUnit zTUnit l22)] [] [] [4, 5, 1002] [(1002, .arr 4 v1.Units.length (fF eTUnit zTUnit l22) false)] (fun t => (a2 eI h20 (aI rN (aI g21 (aI rT (aI (nat_lt g21) (aI (by decide : 2 + 1 ≤ 4) (aI (fF_setN eTUnit zTUnit h23 (nat_lt g21) v1.Units.length) (t))))))))) ?_
  refine sn [] [] [(9, cB true)] [8] [(8, .var [jI v1.Turn, jI v1.Weather, .own 1002 4 0 v1.Units.length] false)] id ?_
  refine tl [.relc 8 2 l22.length, .rep 1002 l22.length (fF eTUnit zTUnit l22), .ren 1002 900000] [(8, pk 8), (9, cB true)] [(8, .var [jI v1.Turn, jI v1.Weather, .own 900000 4 0 l22.length] false), (900000, ar 4 eTUnit zTUnit l22), (1000000, .arr 4 p1.Units.length (fF eTUnit zTUnit p1.Units) true)] (fun t => aI (by simp [lenN h23] : v1.Units.length = l22.length) (aI (Nat.le_of_eq (by simp [lenN h23] : l22.length = v1.Units.length)) (aI (fun _ _ => rfl : ∀ i, i < l22.length → (fF eTUnit zTUnit l22) i = (fF eTUnit zTUnit l22) i) (t)))) ?_
  cases H
  exact er
def i_retreatAll_ir : S :=
 (sq [o 4 (.box 12 (.t 0)), o 5 (.box 3 (.t 1)), o 8 (.alloc [.int .i64 0, .int .i64 0, .nil]), o 9 (.mv (iv 0))]
 (sq [o 16 (.load 3 true (.t 5)), o 17 (.call 122 [.t 16]), o 10 (.alloc [.int .i64 0, .int .i64 0, .nil]), os 3 10 17, o 11 (.mv (iv 0))]
 (.seq (sq [om 18 2, o 19 (.len (.t 18)), o 20 (.mv (iv 0))]
 (.blk 0 (.loop (sq [o 21 (.bin .lss (.t 20) (.t 19))]
   (.seq (.ite (.t 21) .skip
   (.exit 0))
   (.seq (.blk 1 (sq [o 22 (.iad 1 (.t 18) (.t 20)), ol 23 22, om 13 23]
    (sq [o 25 (.load 12 true (.t 4)), o 26 (.load 3 true (.t 10)), om 27 13, om 28 3, o 29 (.call 123 [.t 25, .t 26, .t 27, .t 28]), om 24 29, o 30 (.ext (.t 24) 0), o 31 (.ext (.t 24) 1), o 14 (.alloc [.int .i64 0, .int .i64 0, .nil]), os 3 14 30, om 15 31]
    (.seq (sq [om 32 15]
    (.ite (.t 32) (.ops [om 33 11, o 34 (.bin .add (.t 33) (iv 1)), om 11 34])
    .skip))
    (.ops [o 35 (.load 3 true (.t 14)), os 3 10 35])))))
   (.ops [o 36 (.bin .add (.t 20) (iv 1)), om 20 36])))))))
 (sq [o 37 (.load 3 true (.t 10)), om 38 11, os 3 8 37, om 9 38]
 .ret))))
noncomputable def X.i_retreatAll (p0 : TBoard) (p1 : TState) (p2 : (List Int)) (p3 : Int) : Option (TState × Int) :=
 ((X.i_cloneState p1).bind fun v1 => ((loop (fun (x20 : (Int × Int × Int × Int × (List TUnit))) => ((bif (decide (x20.2.1 < (p2.length : Int))) then ((at' zI p2 x20.2.1).bind fun v23 => ((X.i_retreatUnit_Mdzdd p0 (TState.mk x20.2.2.1 x20.2.2.2.1 x20.2.2.2.2) v23 p3).bind fun v25 => (if v25.2.2.Units.length = x20.2.2.2.2.length then (bif v25.2.1 then some (Sum.inl ((W (x20.1 + 1)), (W (x20.2.1 + 1)), v25.1.Turn, v25.1.Weather, v25.1.Units)) else some (Sum.inl (x20.1, (W (x20.2.1 + 1)), v25.1.Turn, v25.1.Weather, v25.1.Units))) else none))) else some (Sum.inr (x20.1, x20.2.2.1, x20.2.2.2.1, x20.2.2.2.2))) : Option ((Int × Int × Int × Int × (List TUnit)) ⊕ (Int × Int × Int × (List TUnit))))) (0, 0, v1.Turn, v1.Weather, v1.Units)).bind fun y29 => some ((TState.mk y29.2.1 y29.2.2.1 y29.2.2.2), y29.1)))
theorem i_retreatAll_Mdddd_ok (p0 : TBoard) (p1 : TState) (p2 : (List Int)) (p3 : Int) (r : (TState × Int)) (H : X.i_retreatAll p0 p1 p2 p3 = some r) : FnMu Tryz.prog gl 60 [.agg (eTBoard p0), .agg (eTState p1), .c (dat 1 eI zI p2), cI p3] [] (.tup [(true, [.int .i64 r.1.Turn, .int .i64 r.1.Weather, .own 900000 4 0 r.1.Units.length]), (false, [.int .i64 r.2])]) [(8, .var [.int .i64 r.1.Turn, .int .i64 r.1.Weather, .own 900000 4 0 r.1.Units.length] false), (900000, .arr 4 r.1.Units.length (fF eTUnit zTUnit r.1.Units) false)] := by
 unfold X.i_retreatAll at H
 refine fn_mu (fn := Tryz.f60) (ir := i_retreatAll_ir) (E' := [(8, pk 8), (9, cI r.2)]) (E1 := [(8, .var [jI r.1.Turn, jI r.1.Weather, .own 900000 4 0 r.1.Units.length] false), (900000, ar 4 eTUnit zTUnit r.1.Units)]) glL Tryz.func60 (by kernel_rfl) (by kernel_rfl) (by kernel_rfl) (by kernel_rfl) (by kernel_rfl) ?_
 refine sn [] [] [(4, pk 4), (5, pk 5), (8, pk 8)] [] [(4, va (eTBoard p0)), (5, va (eTState p1)), (8, .var [jI 0, jI 0, .nil] false)] id ?_
 obtain ⟨v1, h2, H⟩ := oB H
 refine sn [.mu [] [(2, 1001), (900000, 1002)] (.agg [jI v1.Turn, jI v1.Weather, .own 900000 4 0 v1.Units.length]) [(2, .var [jI v1.Turn, jI v1.Weather, .own 900000 4 0 v1.Units.length] false), (900000, ar 4 eTUnit zTUnit v1.Units)]] [] [(10, pk 10), (11, cI 0)] [] [(10, .var [jI v1.Turn, jI v1.Weather, .own 1002 4 0 v1.Units.length] false), (1002, ar 4 eTUnit zTUnit v1.Units)] (aI (i_cloneState_Md_ok p1 v1 h2)) ?_
 refine seq_in ?_
 refine sn [] [] [(18, dc 1 eI zI p2), (19, cL p2), (20, cI 0)] [5] [] (fun t => lI p2 (t)) ?_
 refine ends_blk ?_
 obtain ⟨y29, h30, H⟩ := oB H
 refine tl [] [(3, cI p3), (4, pk 4), (8, pk 8), (10, pk 10), (11, cI 0), (18, dc 1 eI zI p2), (19, cL p2), (20, cI 0)] [(4, va (eTBoard p0)), (8, .var [jI 0, jI 0, .nil] false), (10, .var [jI v1.Turn, jI v1.Weather, .own 1002 4 0 v1.Units.length] false), (1002, ar 4 eTUnit zTUnit v1.Units)] id ?_
 refine loop_in (fun (x : (Int × Int × Int × Int × (List TUnit))) => lit [(3, cI p3), (4, pk 4), (8, pk 8), (10, pk 10), (11, cI x.1), (18, dc 1 eI zI p2), (19, cL p2), (20, cI x.2.1)] [(4, va (eTBoard p0)), (8, .var [jI 0, jI 0, .nil] false), (10, .var [jI x.2.2.1, jI x.2.2.2.1, .own 1002 4 0 x.2.2.2.2.length] false), (1002, ar 4 eTUnit zTUnit x.2.2.2.2)]) (fun (z : (Int × Int × Int × (List TUnit))) => At (.exit 0) (lit [(8, pk 8), (10, pk 10), (11, cI z.1)] [(8, .var [jI 0, jI 0, .nil] false), (10, .var [jI z.2.1, jI z.2.2.1, .own 1002 4 0 z.2.2.2.length] false), (1002, ar 4 eTUnit zTUnit z.2.2.2)])) h30 ?_ ?_
 ·clear H h30
  intro x20 y0 H
  refine sn [] [] [(21, cB (decide (x20.2.1 < (p2.length : Int))))] [] [] id ?_
  refine seq_in ?_
  rcases oC H with ⟨c22, H⟩ | ⟨c22, H⟩
  ·refine it c22 ?_
   refine sk ?_
   refine seq_in ?_
   refine ends_blk ?_
   obtain ⟨v23, h24, H⟩ := oB H
   refine sn [.cs (eI v23)] [] [(13, cI v23)] [] [] (a2 eI h24) ?_
   obtain ⟨v25, h26, H⟩ := oB H
   obtain ⟨g27, H⟩ := oI H
   refine sn [.mu [(1002, 1000000)] [(8, 1007), (900000, 1008), (1000000, 1002)] (.tup [(true, [jI v25.1.Turn, jI v25.1.Weather, .own 900000 4 0 v25.1.Units.length]), (false, [.bool v25.2.1])]) [(8, .var [jI v25.1.Turn, jI v25.1.Weather, .own 900000 4 0 v25.1.Units.length] false), (900000, ar 4 eTUnit zTUnit v25.1.Units), (1000000, .arr 4 v25.2.2.Units.length (fF eTUnit zTUnit v25.2.2.Units) true)]] [.agg 26 [jI x20.2.2.1, jI x20.2.2.2.1, .own 1002 4 0 v25.2.2.Units.length], .relc 10 2 v25.2.2.Units.length] [(14, pk 14), (15, cB v25.2.1)] [1002, 10] [(10, .var [jI x20.2.2.1, jI x20.2.2.2.1, .own 1002 4 0 v25.2.2.Units.length] false), (14, .var [jI v25.1.Turn, jI v25.1.Weather, .own 1008 4 0 v25.1.Units.length] false), (1002, .arr 4 v25.2.2.Units.length (fF eTUnit zTUnit v25.2.2.Units) true), (1008, ar 4 eTUnit zTUnit v25.1.Units)] (fun t => aI (i_retreatUnit_Mdzdd_ok p0 (TState.mk x20.2.2.1 x20.2.2.2.1 x20.2.2.2.2) v23 p3 v25 h26) (aI (by rw [← g27] : AV.agg [jI x20.2.2.1, jI x20.2.2.2.1, .own 1002 4 0 x20.2.2.2.2.length] = AV.agg [jI x20.2.2.1, jI x20.2.2.2.1, .own 1002 4 0 v25.2.2.Units.length]) (aI (Eq.symm g27) (t)))) ?_
   refine seq_in ?_
   refine sn [] [] [(32, cB v25.2.1)] [] [] id ?_
   rcases oC H with ⟨c28, H⟩ | ⟨c28, H⟩
   ·refine it c28 ?_
    refine oo [] [] [(3, cI p3), (4, pk 4), (8, pk 8), (10, pk 10), (11, cI (W (x20.1 + 1))), (14, pk 14), (18, dc 1 eI zI p2), (19, cL p2), (20, cI x20.2.1)] [(4, va (eTBoard p0)), (8, .var [jI 0, jI 0, .nil] false), (10, .var [jI x20.2.2.1, jI x20.2.2.2.1, .own 1002 4 0 v25.2.2.Units.length] false), (14, .var [jI v25.1.Turn, jI v25.1.Weather, .own 1008 4 0 v25.1.Units.length] false), (1002, .arr 4 v25.2.2.Units.length (fF eTUnit zTUnit v25.2.2.Units) true), (1008, ar 4 eTUnit zTUnit v25.1.Units)] id ?_
    change EndsI _ _ _ _ _ _
    refine oo [] [] [(3, cI p3), (4, pk 4), (8, pk 8), (10, pk 10), (11, cI (W (x20.1 + 1))), (18, dc 1 eI zI p2), (19, cL p2), (20, cI x20.2.1)] [(4, va (eTBoard p0)), (8, .var [jI 0, jI 0, .nil] false), (10, .var [jI v25.1.Turn, jI v25.1.Weather, .own 1008 4 0 v25.1.Units.length] false), (1008, ar 4 eTUnit zTUnit v25.1.Units)] id ?_
    change EndsI _ _ _ _ _ _
    refine oo [] [.ren 1008 1002] [(3, cI p3), (4, pk 4), (8, pk 8), (10, pk 10), (11, cI (W (x20.1 + 1))), (18, dc 1 eI zI p2), (19, cL p2), (20, cI (W (x20.2.1 + 1)))] [(4, va (eTBoard p0)), (8, .var [jI 0, jI 0, .nil] false), (10, .var [jI v25.1.Turn, jI v25.1.Weather, .own 1002 4 0 v25.1.Units.length] false), (1002, ar 4 eTUnit zTUnit v25.1.Units)] id ?_
    cases H
    exact rr
   ·refine jf c28 ?_
    refine sk ?_
    refine oo [] [] [(3, cI p3), (4, pk 4), (8, pk 8), (10, pk 10), (11, cI x20.1), (18, dc 1 eI zI p2), (19, cL p2), (20, cI x20.2.1)] [(4, va (eTBoard p0)), (8, .var [jI 0, jI 0, .nil] false), (10, .var [jI v25.1.Turn, jI v25.1.Weather, .own 1008 4 0 v25.1.Units.length] false), (1008, ar 4 eTUnit zTUnit v25.1.Units)] id ?_
    change EndsI _ _ _ _ _ _
    refine oo [] [.ren 1008 1002] [(3, cI p3), (4, pk 4), (8, pk 8), (10, pk 10), (11, cI x20.1), (18, dc 1 eI zI p2), (19, cL p2), (20, cI (W (x20.2.1 + 1)))] [(4, va (eTBoard p0)), (8, .var [jI 0, jI 0, .nil] false), (10, .var [jI v25.1.Turn, jI v25.1.Weather, .own 1002 4 0 v25.1.Units.length] false), (1002, ar 4 eTUnit zTUnit v25.1.Units)] id ?_
    cases H
    exact rr
  ·refine jf c22 ?_
   refine tl [] [(8, pk 8), (10, pk 10), (11, cI x20.1)] [(8, .var [jI 0, jI 0, .nil] false), (10, .var [jI x20.2.2.1, jI x20.2.2.2.1, .own 1002 4 0 x20.2.2.2.2.length] false), (1002, ar 4 eTUnit zTUnit x20.2.2.2.2)] id ?_
   refine ends_exit ?_
   cases H
   exact rse
 ·clear h30
  rintro e s ⟨rfl, rfl⟩
  change EndsI _ _ _ _ _ _
  refine sn [] [] [(9, cI y29.1)] [8] [(8, .var [jI y29.2.1, jI y29.2.2.1, .own 1002 4 0 y29.2.2.2.length] false)] id ?_
  refine tl [.ren 1002 900000] [(8, pk 8), (9, cI y29.1)] [(8, .var [jI y29.2.1, jI y29.2.2.1, .own 900000 4 0 y29.2.2.2.length] false), (900000, ar 4 eTUnit zTUnit y29.2.2.2)] id ?_
  cases H
  exact er
def i_RetreatAll_ir : S :=
 (sq [o 4 (.box 12 (.t 0)), o 5 (.box 3 (.t 1)), o 8 (.alloc [.int .i64 0, .int .i64 0, .nil]), o 9 (.mv (iv 0)), o 10 (.mv bF)]
 (.seq (sq [o 13 (.load 12 true (.t 4)), o 14 (.load 3 true (.t 5)), om 15 2, o 16 (.call 58 [.t 13, .t 14, .t 15]), o 17 (.not (.t 16)), om 18 17, og 19 (.mv (.t 3)) 18, og 20 (.call 59 [.t 19, .v (.int .i64 1), .v (.int .i64 3)]) 18, og 21 (.not (.t 20)) 18, o 22 (.pick (.t 18) bT (.t 21))]
 (.ite (.t 22) (sq [o 23 (.build [.int .i64 0, .int .i64 0, .nil] []), os 3 8 23, o 9 (.mv (iv 0)), o 10 (.mv bF)]
  .ret)
 .skip))
 (sq [o 25 (.load 12 true (.t 4)), o 26 (.load 3 true (.t 5)), om 27 2, om 28 3, o 29 (.call 60 [.t 25, .t 26, .t 27, .t 28]), om 24 29, o 30 (.ext (.t 24) 0), o 31 (.ext (.t 24) 1), o 11 (.alloc [.int .i64 0, .int .i64 0, .nil]), os 3 11 30, om 12 31]
 (sq [o 32 (.load 3 true (.t 11)), om 33 12, os 3 8 32, om 9 33, o 10 (.mv bT)]
 .ret))))
noncomputable def X.i_RetreatAll (p0 : TBoard) (p1 : TState) (p2 : (List Int)) (p3 : Int) : Option (TState × Int × Bool) :=
 ((X.i_areOnMap p0 p1 p2).bind fun v7 => (bif (!v7) then some ((TState.mk 0 0 ([] : List TUnit)), 0, false) else ((X.i_inRange p3 1 3).bind fun v10 => (bif (!v10) then some ((TState.mk 0 0 ([] : List TUnit)), 0, false) else ((X.i_retreatAll p0 p1 p2 p3).bind fun v13 => some (v13.1, v13.2, true))))))
theorem i_RetreatAll_ok (p0 : TBoard) (p1 : TState) (p2 : (List Int)) (p3 : Int) (r : (TState × Int × Bool)) (H : X.i_RetreatAll p0 p1 p2 p3 = some r) : FK 19 [.agg (eTBoard p0), .agg (eTState p1), .c (dat 1 eI zI p2), cI p3] (.tup [(true, [.int .i64 r.1.Turn, .int .i64 r.1.Weather, dat 4 eTUnit zTUnit r.1.Units]), (false, [.int .i64 r.2.1]), (false, [.bool r.2.2])]) := by
 unfold X.i_RetreatAll at H
 refine fi Tryz.f19 i_RetreatAll_ir [(8, pk 8), (9, cI r.2.1), (10, cB r.2.2)] [(8, va (eTState r.1))] glL Tryz.func19 ?_
 refine sn [] [] [(4, pk 4), (5, pk 5), (8, pk 8)] [] [(4, va (eTBoard p0)), (5, va (eTState p1)), (8, .var [jI 0, jI 0, .nil] false)] id ?_
 refine seq_in ?_
 obtain ⟨v7, h8, H⟩ := oB H
 rcases oC H with ⟨c9, H⟩ | ⟨c9, H⟩
 ·refine sn ([.res (cB v7)] ++ rg 4 true []) [] [(22, cB true)] [] [] (fun t => aI (i_areOnMap_ok p0 p1 p2 v7 h8) (aG 4 c9 (t))) ?_
  refine it rT ?_
  refine sn [] [] [(9, cI 0), (10, cB false)] [] [] id ?_
  refine tl [.nldc 8 2 4 (fF eTUnit zTUnit ([] : List TUnit))] [(8, pk 8), (9, cI 0), (10, cB false)] [(8, .var [jI 0, jI 0, dat 4 eTUnit zTUnit ([] : List TUnit)] false)] id ?_
  cases H
  exact er
 ·obtain ⟨v10, h11, H⟩ := oB H
  refine sn ([.res (cB v7)] ++ rg 2 false ([.res (cB v10)] ++ rg 2 false [])) [] [(22, cB (!v10))] [] [] (fun t => aI (i_areOnMap_ok p0 p1 p2 v7 h8) (aG 2 c9 (aI (i_inRange_ok p3 1 3 v10 h11) (aG 2 c9 (t))))) ?_
  rcases oC H with ⟨c12, H⟩ | ⟨c12, H⟩
  ·refine it c12 ?_
   refine sn [] [] [(9, cI 0), (10, cB false)] [] [] id ?_
   refine tl [.nldc 8 2 4 (fF eTUnit zTUnit ([] : List TUnit))] [(8, pk 8), (9, cI 0), (10, cB false)] [(8, .var [jI 0, jI 0, dat 4 eTUnit zTUnit ([] : List TUnit)] false)] id ?_
   cases H
   exact er
  ·refine jf c12 ?_
   refine sk ?_
   obtain ⟨v13, h14, H⟩ := oB H
   refine sn [.mu [] [(8, 1001), (900000, 1002)] (.tup [(true, [jI v13.1.Turn, jI v13.1.Weather, .own 900000 4 0 v13.1.Units.length]), (false, [jI v13.2])]) [(8, .var [jI v13.1.Turn, jI v13.1.Weather, .own 900000 4 0 v13.1.Units.length] false), (900000, ar 4 eTUnit zTUnit v13.1.Units)]] [] [(11, pk 11), (12, cI v13.2)] [] [(11, .var [jI v13.1.Turn, jI v13.1.Weather, .own 1002 4 0 v13.1.Units.length] false), (1002, ar 4 eTUnit zTUnit v13.1.Units)] (aI (i_retreatAll_Mdddd_ok p0 p1 p2 p3 v13 h14)) ?_
   refine sn [] [] [(9, cI v13.2), (10, cB true)] [4, 5, 8] [(8, .var [jI v13.1.Turn, jI v13.1.Weather, .own 1002 4 0 v13.1.Units.length] false)] id ?_
   refine tl [.frc 8 2] [(8, pk 8), (9, cI v13.2), (10, cB true)] [(8, va (eTState v13.1))] (aI (Nat.le_refl v13.1.Units.length)) ?_
   cases H
   exact er
theorem i_RetreatAll_Mdddd_ok (p0 : TBoard) (p1 : TState) (p2 : (List Int)) (p3 : Int) (r : (TState × Int × Bool)) (H : X.i_RetreatAll p0 p1 p2 p3 = some r) : FnMu Tryz.prog gl 19 [.agg (eTBoard p0), .agg (eTState p1), .c (dat 1 eI zI p2), cI p3] [] (.tup [(true, [.int .i64 r.1.Turn, .int .i64 r.1.Weather, .own 900000 4 0 r.1.Units.length]), (false, [.int .i64 r.2.1]), (false, [.bool r.2.2])]) [(8, .var [.int .i64 r.1.Turn, .int .i64 r.1.Weather, .own 900000 4 0 r.1.Units.length] false), (900000, .arr 4 r.1.Units.length (fF eTUnit zTUnit r.1.Units) false)] := by
 unfold X.i_RetreatAll at H
 refine fn_mu (fn := Tryz.f19) (ir := i_RetreatAll_ir) (E' := [(8, pk 8), (9, cI r.2.1), (10, cB r.2.2)]) (E1 := [(8, .var [jI r.1.Turn, jI r.1.Weather, .own 900000 4 0 r.1.Units.length] false), (900000, ar 4 eTUnit zTUnit r.1.Units)]) glL Tryz.func19 (by kernel_rfl) (by kernel_rfl) (by kernel_rfl) (by kernel_rfl) (by kernel_rfl) ?_
 refine sn [] [] [(4, pk 4), (5, pk 5), (8, pk 8)] [] [(4, va (eTBoard p0)), (5, va (eTState p1)), (8, .var [jI 0, jI 0, .nil] false)] id ?_
 refine seq_in ?_
 obtain ⟨v7, h8, H⟩ := oB H
 rcases oC H with ⟨c9, H⟩ | ⟨c9, H⟩
 ·refine sn ([.res (cB v7)] ++ rg 4 true []) [] [(22, cB true)] [] [] (fun t => aI (i_areOnMap_ok p0 p1 p2 v7 h8) (aG 4 c9 (t))) ?_
  refine it rT ?_
  refine sn [] [] [(9, cI 0), (10, cB false)] [] [] id ?_
  refine tl [.nloc 8 2 900000 4 (fF eTUnit zTUnit ([] : List TUnit))] [(8, pk 8), (9, cI 0), (10, cB false)] [(8, .var [jI 0, jI 0, .own 900000 4 0 (([] : List TUnit).length)] false), (900000, ar 4 eTUnit zTUnit ([] : List TUnit))] (aI (by decide : 0 < 4)) ?_
  cases H
  exact er
 ·obtain ⟨v10, h11, H⟩ := oB H
  refine sn ([.res (cB v7)] ++ rg 2 false ([.res (cB v10)] ++ rg 2 false [])) [] [(22, cB (!v10))] [] [] (fun t => aI (i_areOnMap_ok p0 p1 p2 v7 h8) (aG 2 c9 (aI (i_inRange_ok p3 1 3 v10 h11) (aG 2 c9 (t))))) ?_
  rcases oC H with ⟨c12, H⟩ | ⟨c12, H⟩
  ·refine it c12 ?_
   refine sn [] [] [(9, cI 0), (10, cB false)] [] [] id ?_
   refine tl [.nloc 8 2 900000 4 (fF eTUnit zTUnit ([] : List TUnit))] [(8, pk 8), (9, cI 0), (10, cB false)] [(8, .var [jI 0, jI 0, .own 900000 4 0 (([] : List TUnit).length)] false), (900000, ar 4 eTUnit zTUnit ([] : List TUnit))] (aI (by decide : 0 < 4)) ?_
   cases H
   exact er
  ·refine jf c12 ?_
   refine sk ?_
   obtain ⟨v13, h14, H⟩ := oB H
   refine sn [.mu [] [(8, 1001), (900000, 1002)] (.tup [(true, [jI v13.1.Turn, jI v13.1.Weather, .own 900000 4 0 v13.1.Units.length]), (false, [jI v13.2])]) [(8, .var [jI v13.1.Turn, jI v13.1.Weather, .own 900000 4 0 v13.1.Units.length] false), (900000, ar 4 eTUnit zTUnit v13.1.Units)]] [] [(11, pk 11), (12, cI v13.2)] [] [(11, .var [jI v13.1.Turn, jI v13.1.Weather, .own 1002 4 0 v13.1.Units.length] false), (1002, ar 4 eTUnit zTUnit v13.1.Units)] (aI (i_retreatAll_Mdddd_ok p0 p1 p2 p3 v13 h14)) ?_
   refine sn [] [] [(9, cI v13.2), (10, cB true)] [4, 5, 8] [(8, .var [jI v13.1.Turn, jI v13.1.Weather, .own 1002 4 0 v13.1.Units.length] false)] id ?_
   refine tl [.ren 1002 900000] [(8, pk 8), (9, cI v13.2), (10, cB true)] [(8, .var [jI v13.1.Turn, jI v13.1.Weather, .own 900000 4 0 v13.1.Units.length] false), (900000, ar 4 eTUnit zTUnit v13.1.Units)] id ?_
   cases H
   exact er
def l_eqUnit_ir : S :=
 (sq [o 2 (.box 4 (.t 0)), o 3 (.box 4 (.t 1)), o 4 (.mv bF)]
 (.seq (sq [oa 5 0 2, ol 6 5, oa 7 0 3, ol 8 7, o 9 (.bin .neq (.t 6) (.t 8))]
 (.ite (.t 9) (sq [o 4 (.mv bF)]
  .ret)
 .skip))
 (.seq (sq [oa 10 1 2, ol 11 10, oa 12 1 3, ol 13 12, o 14 (.bin .neq (.t 11) (.t 13))]
 (.ite (.t 14) (sq [o 4 (.mv bF)]
  .ret)
 .skip))
 (.seq (sq [oa 15 2 2, ol 16 15, oa 17 2 3, ol 18 17, o 19 (.bin .neq (.t 16) (.t 18))]
 (.ite (.t 19) (sq [o 4 (.mv bF)]
  .ret)
 .skip))
 (.seq (sq [oa 20 3 2, ol 21 20, oa 22 3 3, ol 23 22, o 24 (.bin .neq (.t 21) (.t 23))]
 (.ite (.t 24) (sq [o 4 (.mv bF)]
  .ret)
 .skip))
 (sq [o 4 (.mv bT)]
 .ret))))))
noncomputable def X.l_eqUnit (p0 : TUnit) (p1 : TUnit) : Option Bool :=
 (bif (p0.Side != p1.Side) then some false else (bif (p0.Kind != p1.Kind) then some false else (bif (p0.At != p1.At) then some false else (bif (p0.Steps != p1.Steps) then some false else some true))))
theorem l_eqUnit_ok (p0 : TUnit) (p1 : TUnit) (r : Bool) (H : X.l_eqUnit p0 p1 = some r) : FK 111 [.agg (eTUnit p0), .agg (eTUnit p1)] (cB r) := by
 unfold X.l_eqUnit at H
 refine fi Tryz.f111 l_eqUnit_ir [(4, cB r)] [] glL Tryz.func111 ?_
 refine so [] [] [(2, pk 2), (3, pk 3)] [(2, va (eTUnit p0)), (3, va (eTUnit p1))] id ?_
 refine seq_in ?_
 refine sn [] [] [(9, cB (p0.Side != p1.Side))] [] [] id ?_
 rcases oC H with ⟨c2, H⟩ | ⟨c2, H⟩
 ·refine it c2 ?_
  refine so [] [] [(4, cB false)] [] id ?_
  cases H
  exact er
 ·refine jf c2 ?_
  refine sk ?_
  refine seq_in ?_
  refine sn [] [] [(14, cB (p0.Kind != p1.Kind))] [] [] id ?_
  rcases oC H with ⟨c4, H⟩ | ⟨c4, H⟩
  ·refine it c4 ?_
   refine so [] [] [(4, cB false)] [] id ?_
   cases H
   exact er
  ·refine jf c4 ?_
   refine sk ?_
   refine seq_in ?_
   refine sn [] [] [(19, cB (p0.At != p1.At))] [] [] id ?_
   rcases oC H with ⟨c6, H⟩ | ⟨c6, H⟩
   ·refine it c6 ?_
    refine so [] [] [(4, cB false)] [] id ?_
    cases H
    exact er
   ·refine jf c6 ?_
    refine sk ?_
    refine seq_in ?_
    refine so [] [] [(24, cB (p0.Steps != p1.Steps))] [] id ?_
    rcases oC H with ⟨c7, H⟩ | ⟨c7, H⟩
    ·refine it c7 ?_
     refine so [] [] [(4, cB false)] [] id ?_
     cases H
     exact er
    ·refine jf c7 ?_
     refine sk ?_
     refine so [] [] [(4, cB true)] [] id ?_
     cases H
     exact er
def l_eqUnitS_ir : S :=
 (sq [o 4 (.mv bF)]
 (.seq (sq [om 6 0, o 7 (.len (.t 6)), om 8 1, o 9 (.len (.t 8)), o 10 (.bin .neq (.t 7) (.t 9))]
 (.ite (.t 10) (sq [o 4 (.mv bF)]
  .ret)
 .skip))
 (.seq (sq [o 5 (.mv (iv 0))]
 (.blk 0 (.loop (.seq (sq [om 11 5, om 12 0, o 13 (.len (.t 12)), o 14 (.bin .lss (.t 11) (.t 13))]
   (.ite (.t 14) .skip
   (.exit 0)))
   (.seq (.blk 1 (.seq (.drw [(0, 1), (0, 4), (1, 4), (2, 4), (3, 4), (0, 5), (1, 5), (2, 5), (3, 5), (4, 5), (0, 6), (1, 6), (2, 6), (3, 6), (0, 7), (1, 7), (2, 7), (3, 7)] [om 17 0, om 18 5, o 19 (.iad 4 (.t 17) (.t 18)), o 20 (.load 4 true (.t 19)), om 21 1, om 22 5, o 23 (.iad 4 (.t 21) (.t 22)), o 24 (.load 4 true (.t 23)), o 25 (.call 111 [.t 20, .t 24]), o 26 (.not (.t 25))])
    (.ite (.t 26) (sq [o 4 (.mv bF)]
     .ret)
    .skip)))
   (.ops [om 15 5, o 16 (.bin .add (.t 15) (iv 1)), om 5 16]))))))
 (sq [o 4 (.mv bT)]
 .ret))))
noncomputable def X.l_eqUnitS (p0 : (List TUnit)) (p1 : (List TUnit)) : Option Bool :=
 (bif ((p0.length : Int) != (p1.length : Int)) then some false else ((loop (fun (x22 : Int) => ((bif (decide (x22 < (p0.length : Int))) then ((at' zTUnit p0 x22).bind fun v25 => ((at' zTUnit p1 x22).bind fun v27 => ((X.l_eqUnit v25 v27).bind fun v29 => (bif (!v29) then some (Sum.inr (Sum.inr false)) else some (Sum.inl (W (x22 + 1))))))) else some (Sum.inr (Sum.inl ()))) : Option (Int ⊕ (Unit ⊕ Bool)))) 0).bind fun y32 => (Sum.elim (fun (y34 : Unit) => some true) (fun (y35 : Bool) => some y35) y32)))
theorem l_eqUnitS_ok (p0 : (List TUnit)) (p1 : (List TUnit)) (r : Bool) (H : X.l_eqUnitS p0 p1 = some r) : FK 45 [.c (dat 4 eTUnit zTUnit p0), .c (dat 4 eTUnit zTUnit p1)] (cB r) := by
 unfold X.l_eqUnitS at H
 refine fi Tryz.f45 l_eqUnitS_ir [(4, cB r)] [] glL Tryz.func45 ?_
 refine sn [] [] [] [] [] id ?_
 refine seq_in ?_
 refine sn [] [] [(10, cB ((p0.length : Int) != (p1.length : Int)))] [] [] (fun t => lI p0 (lI p1 (t))) ?_
 rcases oC H with ⟨c2, H⟩ | ⟨c2, H⟩
 ·refine it c2 ?_
  refine so [] [] [(4, cB false)] [] id ?_
  cases H
  exact er
 ·refine jf c2 ?_
  refine sk ?_
  refine seq_in ?_
  refine sn [] [] [(5, cI 0)] [] [] id ?_
  refine ends_blk ?_
  obtain ⟨y32, h33, H⟩ := oB H
  refine tl [] [(0, dc 4 eTUnit zTUnit p0), (1, dc 4 eTUnit zTUnit p1), (5, cI 0)] [] id ?_
  refine loop_in (fun (x : Int) => lit [(0, dc 4 eTUnit zTUnit p0), (1, dc 4 eTUnit zTUnit p1), (5, cI x)] []) (orJ (fun (z : Unit) => At (.exit 0) (lit [] [])) (fun (z : Bool) => At .ret (lit [(4, cB z)] []))) h33 ?_ ?_
  ·clear H h33
   intro x22 y0 H
   refine seq_in ?_
   refine sn [] [] [(14, cB (decide (x22 < (p0.length : Int))))] [] [] (fun t => lI p0 (t)) ?_
   rcases oC H with ⟨c24, H⟩ | ⟨c24, H⟩
   ·refine it c24 ?_
    refine sk ?_
    refine seq_in ?_
    refine ends_blk ?_
    obtain ⟨v25, h26, H⟩ := oB H
    obtain ⟨v27, h28, H⟩ := oB H
    obtain ⟨v29, h30, H⟩ := oB H
    refine xn [.cs (eTUnit v25), .cs (eTUnit v27), .res (cB v29)] [] [(26, cB (!v29))] [] [] (fun t => (a2 eTUnit h26 (aI rN ((a2 eTUnit h28 (aI rN (aI (l_eqUnit_ok v25 v27 v29 h30) (aI trivial (aI rN (t)))))))))) ?_
    rcases oC H with ⟨c31, H⟩ | ⟨c31, H⟩
    ·refine it c31 ?_
     refine so [] [] [(4, cB false)] [] id ?_
     refine ends_ret ?_
     cases H
     exact rsr
    ·refine jf c31 ?_
     refine sk ?_
     refine oo [] [] [(0, dc 4 eTUnit zTUnit p0), (1, dc 4 eTUnit zTUnit p1), (5, cI (W (x22 + 1)))] [] id ?_
     cases H
     exact rr
   ·refine jf c24 ?_
    refine tl [] [] [] id ?_
    refine ends_exit ?_
    cases H
    exact rse
  ·clear h33
   cases y32 with
   | inl y34 =>
    replace H := ofInl H
    rintro e s ⟨rfl, rfl⟩
    change EndsI _ _ _ _ _ _
    refine so [] [] [(4, cB true)] [] id ?_
    cases H
    exact er
   | inr y35 =>
    replace H := ofInr H
    rintro e s ⟨rfl, rfl⟩
    cases H
    exact qr
def l_eqState_ir : S :=
 (sq [o 2 (.box 3 (.t 0)), o 3 (.box 3 (.t 1)), o 4 (.mv bF)]
 (.seq (sq [oa 5 0 2, ol 6 5, oa 7 0 3, ol 8 7, o 9 (.bin .neq (.t 6) (.t 8))]
 (.ite (.t 9) (sq [o 4 (.mv bF)]
  .ret)
 .skip))
 (.seq (sq [oa 10 1 2, ol 11 10, oa 12 1 3, ol 13 12, o 14 (.bin .neq (.t 11) (.t 13))]
 (.ite (.t 14) (sq [o 4 (.mv bF)]
  .ret)
 .skip))
 (.seq (sq [oa 15 2 2, ol 16 15, oa 17 2 3, ol 18 17, o 19 (.call 45 [.t 16, .t 18]), o 20 (.not (.t 19))]
 (.ite (.t 20) (sq [o 4 (.mv bF)]
  .ret)
 .skip))
 (sq [o 4 (.mv bT)]
 .ret)))))
noncomputable def X.l_eqState (p0 : TState) (p1 : TState) : Option Bool :=
 (bif (p0.Turn != p1.Turn) then some false else (bif (p0.Weather != p1.Weather) then some false else ((X.l_eqUnitS p0.Units p1.Units).bind fun v5 => (bif (!v5) then some false else some true))))
theorem l_eqState_ok (p0 : TState) (p1 : TState) (r : Bool) (H : X.l_eqState p0 p1 = some r) : FK 20 [.agg (eTState p0), .agg (eTState p1)] (cB r) := by
 unfold X.l_eqState at H
 refine fi Tryz.f20 l_eqState_ir [(4, cB r)] [] glL Tryz.func20 ?_
 refine so [] [] [(2, pk 2), (3, pk 3)] [(2, va (eTState p0)), (3, va (eTState p1))] id ?_
 refine seq_in ?_
 refine sn [] [] [(9, cB (p0.Turn != p1.Turn))] [] [] id ?_
 rcases oC H with ⟨c2, H⟩ | ⟨c2, H⟩
 ·refine it c2 ?_
  refine so [] [] [(4, cB false)] [] id ?_
  cases H
  exact er
 ·refine jf c2 ?_
  refine sk ?_
  refine seq_in ?_
  refine sn [] [] [(14, cB (p0.Weather != p1.Weather))] [] [] id ?_
  rcases oC H with ⟨c4, H⟩ | ⟨c4, H⟩
  ·refine it c4 ?_
   refine so [] [] [(4, cB false)] [] id ?_
   cases H
   exact er
  ·refine jf c4 ?_
   refine sk ?_
   refine seq_in ?_
   obtain ⟨v5, h6, H⟩ := oB H
   refine so [.res (cB v5)] [] [(20, cB (!v5))] [] (aI (l_eqUnitS_ok p0.Units p1.Units v5 h6)) ?_
   rcases oC H with ⟨c7, H⟩ | ⟨c7, H⟩
   ·refine it c7 ?_
    refine so [] [] [(4, cB false)] [] id ?_
    cases H
    exact er
   ·refine jf c7 ?_
    refine sk ?_
    refine so [] [] [(4, cB true)] [] id ?_
    cases H
    exact er
def l_markUnitS_ir : S :=
 (sq [o 4 (.mv (iv 0))]
 (.seq (sq [o 5 (.mv (iv 0))]
 (.blk 0 (.loop (.seq (sq [om 6 5, om 7 0, o 8 (.len (.t 7)), o 9 (.bin .lss (.t 6) (.t 8))]
   (.ite (.t 9) .skip
   (.exit 0)))
   (.seq (.blk 1 (sq [om 12 0, om 13 5, om 14 1, o 15 (.iad 4 (.t 12) (.t 13)), oa 16 0 15, os 1 16 14]
    (sq [om 17 1, o 18 (.bin .add (.t 17) (iv 1)), om 1 18]
    (sq [om 19 0, om 20 5, om 21 1, o 22 (.iad 4 (.t 19) (.t 20)), oa 23 1 22, os 1 23 21]
    (sq [om 24 1, o 25 (.bin .add (.t 24) (iv 1)), om 1 25]
    (sq [om 26 0, om 27 5, om 28 1, o 29 (.iad 4 (.t 26) (.t 27)), oa 30 2 29, os 1 30 28]
    (sq [om 31 1, o 32 (.bin .add (.t 31) (iv 1)), om 1 32]
    (sq [om 33 0, om 34 5, om 35 1, o 36 (.iad 4 (.t 33) (.t 34)), oa 37 3 36, os 1 37 35]
    (.ops [om 38 1, o 39 (.bin .add (.t 38) (iv 1)), om 1 39])))))))))
   (.ops [om 10 5, o 11 (.bin .add (.t 10) (iv 1)), om 5 11]))))))
 (sq [om 40 1, om 4 40]
 .ret)))
noncomputable def X.l_markUnitS_L (p0 : (List TUnit)) (p1 : Int) : Option Int :=
 ((loop (fun (x10 : (Int × Int)) => ((bif (decide (x10.2 < (p0.length : Int))) then ((at' zTUnit p0 x10.2).bind fun v13 => some (Sum.inl ((W ((W ((W ((W (x10.1 + 1)) + 1)) + 1)) + 1)), (W (x10.2 + 1))))) else some (Sum.inr x10.1)) : Option ((Int × Int) ⊕ Int))) (p1, 0)).bind fun y15 => some y15)
theorem l_markUnitS_L_ok (p0 : (List TUnit)) (p1 : Int) (r : Int) (H : X.l_markUnitS_L p0 p1 = some r) : FK 50 [.c (.lv (dat 4 eTUnit zTUnit p0)), cI p1] (cI r) := by
 unfold X.l_markUnitS_L at H
 refine fi Tryz.f50 l_markUnitS_ir [(4, cI r)] [] glL Tryz.func50 ?_
 refine sn [] [] [] [] [] id ?_
 refine seq_in ?_
 refine sn [] [] [(5, cI 0)] [] [] id ?_
 refine ends_blk ?_
 obtain ⟨y15, h16, H⟩ := oB H
 refine tl [] [(0, .c (.lv (dat 4 eTUnit zTUnit p0))), (1, cI p1), (5, cI 0)] [] id ?_
 refine loop_in (fun (x : (Int × Int)) => lit [(0, .c (.lv (dat 4 eTUnit zTUnit p0))), (1, cI x.1), (5, cI x.2)] []) (fun (z : Int) => At (.exit 0) (lit [(1, cI z)] [])) h16 ?_ ?_
 ·clear H h16
  intro x10 y0 H
  refine seq_in ?_
  refine sn [] [] [(9, cB (decide (x10.2 < (p0.length : Int))))] [] [] (fun t => lI p0 (t)) ?_
  rcases oC H with ⟨c12, H⟩ | ⟨c12, H⟩
  ·refine it c12 ?_
   refine sk ?_
   refine seq_in ?_
   refine ends_blk ?_
   obtain ⟨v13, h14, H⟩ := oB H
   refine sn [.cs (eTUnit v13)] [] [] [] [] (fun t => (a2 eTUnit h14 (aI rT (t)))) ?_
   refine so [] [] [(0, .c (.lv (dat 4 eTUnit zTUnit p0))), (1, cI (W (x10.1 + 1))), (5, cI x10.2)] [] id ?_
   refine sn [.cs (eTUnit v13)] [] [] [] [] (fun t => (a2 eTUnit h14 (aI rT (t)))) ?_
   refine so [] [] [(0, .c (.lv (dat 4 eTUnit zTUnit p0))), (1, cI (W ((W (x10.1 + 1)) + 1))), (5, cI x10.2)] [] id ?_
   refine sn [.cs (eTUnit v13)] [] [] [] [] (fun t => (a2 eTUnit h14 (aI rT (t)))) ?_
   refine so [] [] [(0, .c (.lv (dat 4 eTUnit zTUnit p0))), (1, cI (W ((W ((W (x10.1 + 1)) + 1)) + 1))), (5, cI x10.2)] [] id ?_
   refine sn [.cs (eTUnit v13)] [] [] [] [] (fun t => (a2 eTUnit h14 (aI rT (t)))) ?_
   refine oo [] [] [(0, .c (.lv (dat 4 eTUnit zTUnit p0))), (1, cI (W ((W ((W ((W (x10.1 + 1)) + 1)) + 1)) + 1))), (5, cI x10.2)] [] id ?_
   change EndsI _ _ _ _ _ _
   refine oo [] [] [(0, .c (.lv (dat 4 eTUnit zTUnit p0))), (1, cI (W ((W ((W ((W (x10.1 + 1)) + 1)) + 1)) + 1))), (5, cI (W (x10.2 + 1)))] [] id ?_
   cases H
   exact rr
  ·refine jf c12 ?_
   refine tl [] [(1, cI x10.1)] [] id ?_
   refine ends_exit ?_
   cases H
   exact rse
 ·clear h16
  rintro e s ⟨rfl, rfl⟩
  change EndsI _ _ _ _ _ _
  refine so [] [] [(4, cI y15)] [] id ?_
  cases H
  exact er
def l_markState_ir : S :=
 (sq [o 2 (.box 3 (.t 0)), o 4 (.mv (iv 0))]
 (sq [oa 5 2 2, ol 6 5, om 7 1, o 8 (.call 50 [.t 6, .t 7]), om 1 8]
 (sq [om 9 1, om 4 9]
 .ret)))
noncomputable def X.l_markState_L (p0 : TState) (p1 : Int) : Option Int :=
 ((X.l_markUnitS_L p0.Units p1).bind fun v1 => some v1)
theorem l_markState_L_ok (p0 : TState) (p1 : Int) (r : Int) (H : X.l_markState_L p0 p1 = some r) : FK 22 [.agg (lTState p0), cI p1] (cI r) := by
 unfold X.l_markState_L at H
 refine fi Tryz.f22 l_markState_ir [(4, cI r)] [] glL Tryz.func22 ?_
 refine sn [] [] [(2, pk 2)] [] [(2, va (lTState p0))] id ?_
 obtain ⟨v1, h2, H⟩ := oB H
 refine so [.res (cI v1)] [] [(1, cI v1)] [] (aI (l_markUnitS_L_ok p0.Units p1 v1 h2)) ?_
 refine so [] [] [(4, cI v1)] [] id ?_
 cases H
 exact er
noncomputable def X.l_markUnitS_Mod (p0 : (List TUnit)) (p1 : Int) : Option (Int × (List TUnit)) :=
 ((loop (fun (x24 : (Int × Int × (List TUnit))) => ((bif (decide (x24.2.1 < (x24.2.2.length : Int))) then (if 0 ≤ x24.2.1 ∧ x24.2.1 < (x24.2.2.length : Int) then ((some (x24.2.2.set x24.2.1.toNat (TUnit.mk x24.1 ((x24.2.2.getD x24.2.1.toNat zTUnit).Kind) ((x24.2.2.getD x24.2.1.toNat zTUnit).At) ((x24.2.2.getD x24.2.1.toNat zTUnit).Steps)))).bind fun l28 => ((some (l28.set x24.2.1.toNat (TUnit.mk ((l28.getD x24.2.1.toNat zTUnit).Side) (W (x24.1 + 1)) ((l28.getD x24.2.1.toNat zTUnit).At) ((l28.getD x24.2.1.toNat zTUnit).Steps)))).bind fun l30 => ((some (l30.set x24.2.1.toNat (TUnit.mk ((l30.getD x24.2.1.toNat zTUnit).Side) ((l30.getD x24.2.1.toNat zTUnit).Kind) (W ((W (x24.1 + 1)) + 1)) ((l30.getD x24.2.1.toNat zTUnit).Steps)))).bind fun l32 => ((some (l32.set x24.2.1.toNat (TUnit.mk ((l32.getD x24.2.1.toNat zTUnit).Side) ((l32.getD x24.2.1.toNat zTUnit).Kind) ((l32.getD x24.2.1.toNat zTUnit).At) (W ((W ((W (x24.1 + 1)) + 1)) + 1))))).bind fun l34 => some (Sum.inl ((W ((W ((W ((W (x24.1 + 1)) + 1)) + 1)) + 1)), (W (x24.2.1 + 1)), l34)))))) else none) else some (Sum.inr (x24.1, x24.2.2))) : Option ((Int × Int × (List TUnit)) ⊕ (Int × (List TUnit))))) (p1, 0, p0)).bind fun y36 => some (y36.1, y36.2))
theorem l_markUnitS_Mod_ok (p0 : (List TUnit)) (p1 : Int) (r : (Int × (List TUnit))) (H : X.l_markUnitS_Mod p0 p1 = some r) : FnMu Tryz.prog gl 50 [.c (.own 1000000 4 0 p0.length), cI p1] [(1000000, .arr 4 p0.length (fF eTUnit zTUnit p0) false)] (cI r.1) [(1000000, .arr 4 r.2.length (fF eTUnit zTUnit r.2) false)] := by
 unfold X.l_markUnitS_Mod at H
 refine fn_mu (fn := Tryz.f50) (ir := l_markUnitS_ir) (E' := [(4, cI r.1)]) (E1 := [(1000000, ar 4 eTUnit zTUnit r.2)]) glL Tryz.func50 (by kernel_rfl) (by kernel_rfl) (by kernel_rfl) (by kernel_rfl) (by kernel_rfl) ?_
 refine sn [] [] [] [] [] id ?_
 refine seq_in ?_
 refine sn [] [] [(5, cI 0)] [] [] id ?_
 refine ends_blk ?_
 obtain ⟨y36, h37, H⟩ := oB H
 refine tl [] [(0, ow 1000000 4 p0), (1, cI p1), (5, cI 0)] [(1000000, ar 4 eTUnit zTUnit p0)] id ?_
 refine loop_in (fun (x : (Int × Int × (List TUnit))) => lit [(0, ow 1000000 4 x.2.2), (1, cI x.1), (5, cI x.2.1)] [(1000000, ar 4 eTUnit zTUnit x.2.2)]) (fun (z : (Int × (List TUnit))) => At (.exit 0) (lit [(1, cI z.1)] [(1000000, ar 4 eTUnit zTUnit z.2)])) h37 ?_ ?_
 ·clear H h37
  intro x24 y0 H
  refine seq_in ?_
  refine sn [] [] [(9, cB (decide (x24.2.1 < (x24.2.2.length : Int))))] [] [] (fun t => lI x24.2.2 (t)) ?_
  rcases oC H with ⟨c26, H⟩ | ⟨c26, H⟩
  ·refine it c26 ?_
   refine sk ?_
   refine seq_in ?_
   refine ends_blk ?_
   obtain ⟨g27, H⟩ := oI H
   obtain ⟨l28, h29, H⟩ := oB H
   refine sn [.no, .fn 0 (fF eTUnit zTUnit l28)] [] [] [1000000] [(1000000, .arr 4 x24.2.2.length (fF eTUnit zTUnit l28) false)] (fun t => aI g27 (aI rT (aI (nat_lt g27) (aI (by decide : 0 + 1 ≤ 4) (aI (fF_setN eTUnit zTUnit h29 (nat_lt g27) x24.2.2.length) (t)))))) ?_
   refine so [] [] [(0, ow 1000000 4 x24.2.2), (1, cI (W (x24.1 + 1))), (5, cI x24.2.1)] [(1000000, .arr 4 x24.2.2.length (fF eTUnit zTUnit l28) false)] id ?_
   obtain ⟨l30, h31, H⟩ := oB H
   refine sn [.no, .fn 0 (fF eTUnit zTUnit l30)] [] [] [1000000] [(1000000, .arr 4 x24.2.2.length (fF eTUnit zTUnit l30) false)] (fun t => aI g27 (aI rT (aI (nat_lt g27) (aI (by decide : 1 + 1 ≤ 4) (aI (fF_setN eTUnit zTUnit h31 (ltN h29 (nat_lt g27)) x24.2.2.length) (t)))))) ?_
   refine so [] [] [(0, ow 1000000 4 x24.2.2), (1, cI (W ((W (x24.1 + 1)) + 1))), (5, cI x24.2.1)] [(1000000, .arr 4 x24.2.2.length (fF eTUnit zTUnit l30) false)] id ?_
   obtain ⟨l32, h33, H⟩ := oB H
   refine sn [.no, .fn 0 (fF eTUnit zTUnit l32)] [] [] [1000000] [(1000000, .arr 4 x24.2.2.length (fF eTUnit zTUnit l32) false)] (fun t => aI g27 (aI rT (aI (nat_lt g27) (aI (by decide : 2 + 1 ≤ 4) (aI (fF_setN eTUnit zTUnit h33 (ltN h31 (ltN h29 (nat_lt g27))) x24.2.2.length) (t)))))) ?_
   refine so [] [] [(0, ow 1000000 4 x24.2.2), (1, cI (W ((W ((W (x24.1 + 1)) + 1)) + 1))), (5, cI x24.2.1)] [(1000000, .arr 4 x24.2.2.length (fF eTUnit zTUnit l32) false)] id ?_
   obtain ⟨l34, h35, H⟩ := oB H
   refine sn [.no, .fn 0 (fF eTUnit zTUnit l34)] [] [] [1000000] [(1000000, .arr 4 x24.2.2.length (fF eTUnit zTUnit l34) false)] (fun t => aI g27 (aI rT (aI (nat_lt g27) (aI (by decide : 3 + 1 ≤ 4) (aI (fF_setN eTUnit zTUnit h35 (ltN h33 (ltN h31 (ltN h29 (nat_lt g27)))) x24.2.2.length) (t)))))) ?_
   refine oo [] [] [(0, ow 1000000 4 x24.2.2), (1, cI (W ((W ((W ((W (x24.1 + 1)) + 1)) + 1)) + 1))), (5, cI x24.2.1)] [(1000000, .arr 4 x24.2.2.length (fF eTUnit zTUnit l34) false)] id ?_
   change EndsI _ _ _ _ _ _
   refine oo [] [.rel 0 l34.length, .rep 1000000 l34.length (fF eTUnit zTUnit l34)] [(0, ow 1000000 4 l34), (1, cI (W ((W ((W ((W (x24.1 + 1)) + 1)) + 1)) + 1))), (5, cI (W (x24.2.1 + 1)))] [(1000000, ar 4 eTUnit zTUnit l34)] (fun t => aI (by simp [lenN h35, lenN h33, lenN h31, lenN h29] : x24.2.2.length = l34.length) (aI (Nat.le_of_eq (by simp [lenN h35, lenN h33, lenN h31, lenN h29] : l34.length = x24.2.2.length)) (aI (fun _ _ => rfl : ∀ i, i < l34.length → (fF eTUnit zTUnit l34) i = (fF eTUnit zTUnit l34) i) (t)))) ?_
   cases H
   exact rr
  ·refine jf c26 ?_
   refine tl [] [(1, cI x24.1)] [(1000000, ar 4 eTUnit zTUnit x24.2.2)] id ?_
   refine ends_exit ?_
   cases H
   exact rse
 ·clear h37
  rintro e s ⟨rfl, rfl⟩
  change EndsI _ _ _ _ _ _
  refine sn [] [] [(4, cI y36.1)] [] [] id ?_
  refine tl [] [(4, cI y36.1)] [(1000000, ar 4 eTUnit zTUnit y36.2)] id ?_
  cases H
  exact er
noncomputable def X.l_markState_Mod (p0 : TState) (p1 : Int) : Option (Int × TState) :=
 ((X.l_markUnitS_Mod p0.Units p1).bind fun v1 => (if v1.2.length = p0.Units.length then some (v1.1, (TState.mk p0.Turn p0.Weather v1.2)) else none))
theorem l_markState_Mod_ok (p0 : TState) (p1 : Int) (r : (Int × TState)) (H : X.l_markState_Mod p0 p1 = some r) : FnMu Tryz.prog gl 22 [.agg [.int .i64 p0.Turn, .int .i64 p0.Weather, .own 1000000 4 0 p0.Units.length], cI p1] [(1000000, .arr 4 p0.Units.length (fF eTUnit zTUnit p0.Units) false)] (cI r.1) [(1000000, .arr 4 r.2.Units.length (fF eTUnit zTUnit r.2.Units) false)] := by
 unfold X.l_markState_Mod at H
 refine fn_mu (fn := Tryz.f22) (ir := l_markState_ir) (E' := [(4, cI r.1)]) (E1 := [(1000000, ar 4 eTUnit zTUnit r.2.Units)]) glL Tryz.func22 (by kernel_rfl) (by kernel_rfl) (by kernel_rfl) (by kernel_rfl) (by kernel_rfl) ?_
 refine sn [] [] [(2, pk 2)] [] [(2, .var [jI p0.Turn, jI p0.Weather, .own 1000000 4 0 p0.Units.length] false)] id ?_
 obtain ⟨v1, h2, H⟩ := oB H
 obtain ⟨g3, H⟩ := oI H
 refine so [.mu [(1000000, 1000000)] [(1000000, 1000000)] (cI v1.1) [(1000000, ar 4 eTUnit zTUnit v1.2)]] [.rel 6 v1.2.length, .relc 2 2 v1.2.length] [(1, cI v1.1)] [(1000000, ar 4 eTUnit zTUnit v1.2)] (fun t => aI (l_markUnitS_Mod_ok p0.Units p1 v1 h2) (aG 2 (Eq.symm g3) (t))) ?_
 refine sn [] [] [(4, cI v1.1)] [] [] id ?_
 refine tl [] [(4, cI v1.1)] [(1000000, ar 4 eTUnit zTUnit v1.2)] id ?_
 cases H
 exact er
def l_heldUnitS_ir : S :=
 (sq [o 4 (.mv (iv 0))]
 (.seq (sq [o 5 (.mv (iv 0))]
 (.blk 0 (.loop (.seq (sq [om 6 5, om 7 0, o 8 (.len (.t 7)), o 9 (.bin .lss (.t 6) (.t 8))]
   (.ite (.t 9) .skip
   (.exit 0)))
   (.seq (.blk 1 (.seq (sq [om 12 0, om 13 5, o 14 (.iad 4 (.t 12) (.t 13)), oa 15 0 14, ol 16 15, om 17 1, o 18 (.bin .neq (.t 16) (.t 17))]
    (.ite (.t 18) (sq [o 4 (.mv (.v (.int .i64 (-1))))]
     .ret)
    .skip))
    (sq [om 19 1, o 20 (.bin .add (.t 19) (iv 1)), om 1 20]
    (.seq (sq [om 21 0, om 22 5, o 23 (.iad 4 (.t 21) (.t 22)), oa 24 1 23, ol 25 24, om 26 1, o 27 (.bin .neq (.t 25) (.t 26))]
    (.ite (.t 27) (sq [o 4 (.mv (.v (.int .i64 (-1))))]
     .ret)
    .skip))
    (sq [om 28 1, o 29 (.bin .add (.t 28) (iv 1)), om 1 29]
    (.seq (sq [om 30 0, om 31 5, o 32 (.iad 4 (.t 30) (.t 31)), oa 33 2 32, ol 34 33, om 35 1, o 36 (.bin .neq (.t 34) (.t 35))]
    (.ite (.t 36) (sq [o 4 (.mv (.v (.int .i64 (-1))))]
     .ret)
    .skip))
    (sq [om 37 1, o 38 (.bin .add (.t 37) (iv 1)), om 1 38]
    (.seq (sq [om 39 0, om 40 5, o 41 (.iad 4 (.t 39) (.t 40)), oa 42 3 41, ol 43 42, om 44 1, o 45 (.bin .neq (.t 43) (.t 44))]
    (.ite (.t 45) (sq [o 4 (.mv (.v (.int .i64 (-1))))]
     .ret)
    .skip))
    (.ops [om 46 1, o 47 (.bin .add (.t 46) (iv 1)), om 1 47])))))))))
   (.ops [om 10 5, o 11 (.bin .add (.t 10) (iv 1)), om 5 11]))))))
 (sq [om 48 1, om 4 48]
 .ret)))
noncomputable def X.l_heldUnitS (p0 : (List TUnit)) (p1 : Int) : Option Int :=
 ((loop (fun (x28 : (Int × Int)) => ((bif (decide (x28.2 < (p0.length : Int))) then ((at' zTUnit p0 x28.2).bind fun v34 => (bif (v34.Side != x28.1) then some (Sum.inr (Sum.inr (-1))) else (bif (v34.Kind != (W (x28.1 + 1))) then some (Sum.inr (Sum.inr (-1))) else (bif (v34.At != (W ((W (x28.1 + 1)) + 1))) then some (Sum.inr (Sum.inr (-1))) else (bif (v34.Steps != (W ((W ((W (x28.1 + 1)) + 1)) + 1))) then some (Sum.inr (Sum.inr (-1))) else some (Sum.inl ((W ((W ((W ((W (x28.1 + 1)) + 1)) + 1)) + 1)), (W (x28.2 + 1))))))))) else some (Sum.inr (Sum.inl x28.1))) : Option ((Int × Int) ⊕ (Int ⊕ Int)))) (p1, 0)).bind fun y42 => (Sum.elim (fun (y44 : Int) => some y44) (fun (y45 : Int) => some y45) y42))
theorem l_heldUnitS_ok (p0 : (List TUnit)) (p1 : Int) (r : Int) (H : X.l_heldUnitS p0 p1 = some r) : FK 52 [.c (dat 4 eTUnit zTUnit p0), cI p1] (cI r) := by
 unfold X.l_heldUnitS at H
 refine fi Tryz.f52 l_heldUnitS_ir [(4, cI r)] [] glL Tryz.func52 ?_
 refine sn [] [] [] [] [] id ?_
 refine seq_in ?_
 refine sn [] [] [(5, cI 0)] [] [] id ?_
 refine ends_blk ?_
 obtain ⟨y42, h43, H⟩ := oB H
 refine tl [] [(0, dc 4 eTUnit zTUnit p0), (1, cI p1), (5, cI 0)] [] id ?_
 refine loop_in (fun (x : (Int × Int)) => lit [(0, dc 4 eTUnit zTUnit p0), (1, cI x.1), (5, cI x.2)] []) (orJ (fun (z : Int) => At (.exit 0) (lit [(1, cI z)] [])) (fun (z : Int) => At .ret (lit [(4, cI z)] []))) h43 ?_ ?_
 ·clear H h43
  intro x28 y0 H
  refine seq_in ?_
  refine sn [] [] [(9, cB (decide (x28.2 < (p0.length : Int))))] [] [] (fun t => lI p0 (t)) ?_
  rcases oC H with ⟨c30, H⟩ | ⟨c30, H⟩
  ·refine it c30 ?_
   refine sk ?_
   refine seq_in ?_
   refine ends_blk ?_
   refine seq_in ?_
   obtain ⟨v34, h35, H⟩ := oB H
   refine sn [.cs (eTUnit v34)] [] [(18, cB (v34.Side != x28.1))] [] [] (a2 eTUnit h35) ?_
   rcases oC H with ⟨c36, H⟩ | ⟨c36, H⟩
   ·refine it c36 ?_
    refine so [] [] [(4, cI (-1))] [] id ?_
    refine ends_ret ?_
    cases H
    exact rsr
   ·refine jf c36 ?_
    refine sk ?_
    refine so [] [] [(0, dc 4 eTUnit zTUnit p0), (1, cI (W (x28.1 + 1))), (5, cI x28.2)] [] id ?_
    refine seq_in ?_
    refine sn [.cs (eTUnit v34)] [] [(27, cB (v34.Kind != (W (x28.1 + 1))))] [] [] (a2 eTUnit h35) ?_
    rcases oC H with ⟨c38, H⟩ | ⟨c38, H⟩
    ·refine it c38 ?_
     refine so [] [] [(4, cI (-1))] [] id ?_
     refine ends_ret ?_
     cases H
     exact rsr
    ·refine jf c38 ?_
     refine sk ?_
     refine so [] [] [(0, dc 4 eTUnit zTUnit p0), (1, cI (W ((W (x28.1 + 1)) + 1))), (5, cI x28.2)] [] id ?_
     refine seq_in ?_
     refine sn [.cs (eTUnit v34)] [] [(36, cB (v34.At != (W ((W (x28.1 + 1)) + 1))))] [] [] (a2 eTUnit h35) ?_
     rcases oC H with ⟨c40, H⟩ | ⟨c40, H⟩
     ·refine it c40 ?_
      refine so [] [] [(4, cI (-1))] [] id ?_
      refine ends_ret ?_
      cases H
      exact rsr
     ·refine jf c40 ?_
      refine sk ?_
      refine so [] [] [(0, dc 4 eTUnit zTUnit p0), (1, cI (W ((W ((W (x28.1 + 1)) + 1)) + 1))), (5, cI x28.2)] [] id ?_
      refine seq_in ?_
      refine sn [.cs (eTUnit v34)] [] [(45, cB (v34.Steps != (W ((W ((W (x28.1 + 1)) + 1)) + 1))))] [] [] (a2 eTUnit h35) ?_
      rcases oC H with ⟨c41, H⟩ | ⟨c41, H⟩
      ·refine it c41 ?_
       refine so [] [] [(4, cI (-1))] [] id ?_
       refine ends_ret ?_
       cases H
       exact rsr
      ·refine jf c41 ?_
       refine sk ?_
       refine oo [] [] [(0, dc 4 eTUnit zTUnit p0), (1, cI (W ((W ((W ((W (x28.1 + 1)) + 1)) + 1)) + 1))), (5, cI x28.2)] [] id ?_
       change EndsI _ _ _ _ _ _
       refine oo [] [] [(0, dc 4 eTUnit zTUnit p0), (1, cI (W ((W ((W ((W (x28.1 + 1)) + 1)) + 1)) + 1))), (5, cI (W (x28.2 + 1)))] [] id ?_
       cases H
       exact rr
  ·refine jf c30 ?_
   refine tl [] [(1, cI x28.1)] [] id ?_
   refine ends_exit ?_
   cases H
   exact rse
 ·clear h43
  cases y42 with
  | inl y44 =>
   replace H := ofInl H
   rintro e s ⟨rfl, rfl⟩
   change EndsI _ _ _ _ _ _
   refine so [] [] [(4, cI y44)] [] id ?_
   cases H
   exact er
  | inr y45 =>
   replace H := ofInr H
   rintro e s ⟨rfl, rfl⟩
   cases H
   exact qr
def l_heldState_ir : S :=
 (sq [o 2 (.box 3 (.t 0)), o 4 (.mv (iv 0))]
 (sq [oa 5 2 2, ol 6 5, om 7 1, o 8 (.call 52 [.t 6, .t 7]), om 1 8]
 (.seq (sq [om 9 1, o 10 (.bin .lss (.t 9) (iv 0))]
 (.ite (.t 10) (sq [o 4 (.mv (.v (.int .i64 (-1))))]
  .ret)
 .skip))
 (sq [om 11 1, om 4 11]
 .ret))))
noncomputable def X.l_heldState (p0 : TState) (p1 : Int) : Option Int :=
 ((X.l_heldUnitS p0.Units p1).bind fun v1 => (bif (decide (v1 < 0)) then some (-1) else some v1))
theorem l_heldState_ok (p0 : TState) (p1 : Int) (r : Int) (H : X.l_heldState p0 p1 = some r) : FK 24 [.agg (eTState p0), cI p1] (cI r) := by
 unfold X.l_heldState at H
 refine fi Tryz.f24 l_heldState_ir [(4, cI r)] [] glL Tryz.func24 ?_
 refine sn [] [] [(2, pk 2)] [] [(2, va (eTState p0))] id ?_
 obtain ⟨v1, h2, H⟩ := oB H
 refine so [.res (cI v1)] [] [(1, cI v1)] [] (aI (l_heldUnitS_ok p0.Units p1 v1 h2)) ?_
 refine seq_in ?_
 refine sn [] [] [(10, cB (decide (v1 < 0)))] [] [] id ?_
 rcases oC H with ⟨c3, H⟩ | ⟨c3, H⟩
 ·refine it c3 ?_
  refine so [] [] [(4, cI (-1))] [] id ?_
  cases H
  exact er
 ·refine jf c3 ?_
  refine sk ?_
  refine so [] [] [(4, cI v1)] [] id ?_
  cases H
  exact er
end Go.Proofs.YtjlabdoeiphegaaGreatDoor.X0
