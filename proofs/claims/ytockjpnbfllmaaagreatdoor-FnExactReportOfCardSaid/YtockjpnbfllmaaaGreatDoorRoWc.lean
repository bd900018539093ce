/- What each function that FnExactReportOf reaches computes; no condition. -/
import Derived.Test.YtockjpnbfllmaaaGreatDoorRoWb
set_option linter.unusedVariables false
set_option linter.unusedSimpArgs false
set_option maxRecDepth 100000
namespace Go.Proofs.YtockjpnbfllmaaaGreatDoor.X0
open Go Go.RowKit Go.Proofs.YtockjpnbfllmaaaGreatDoor.Ab Go.Proofs

def x_math_bits_Len_ir : S :=
 (sq [o 2 (.mv (iv 0))]
 (.seq (.ite bF (sq [om 3 0, o 4 (.conv .u32 (.t 3)), o 5 (.call 136 [.t 4]), om 2 5]
  .ret)
 .skip)
 (sq [om 6 0, o 7 (.call 137 [.t 6]), om 2 7]
 .ret)))
noncomputable def X.x_math_bits_Len (p0 : Int) : Option Int :=
 ((X.x_math_bits_Len64 p0).bind fun v1 => some v1)
theorem x_math_bits_Len_ok (p0 : Int) (r : Int) (H : X.x_math_bits_Len p0 = some r) : FK 108 [.c (.int .u64 p0)] (cI r) := by
 unfold X.x_math_bits_Len at H
 refine fi Tryz.f108 x_math_bits_Len_ir [(2, cI r)] [] glL Tryz.func108 ?_
 refine sn [] [] [] [] [] id ?_
 refine seq_in ?_
 refine jf rF ?_
 refine sk ?_
 obtain ⟨v1, h2, H⟩ := oB H
 refine so [.res (cI v1)] [] [(2, cI v1)] [] (aI (x_math_bits_Len64_ok p0 v1 h2)) ?_
 cases H
 exact er
def g_SortFunc_Unit_ir : S :=
 (sq [om 5 0, o 6 (.len (.t 5)), om 4 6]
 (.ops [om 7 0, om 8 4, om 9 4, o 10 (.conv .u64 (.t 9)), o 11 (.call 108 [.t 10]), om 12 1, o 13 (.call 107 [.t 7, .v (.int .i64 0), .t 8, .t 11, .t 12])]))
noncomputable def X.g_SortFunc_Unit_Mof (p0 : (List TUnit)) (f1 : TUnit → TUnit → Option Int) : Option (List TUnit) :=
 ((X.x_math_bits_Len (IntKind.u64.wrap (p0.length : Int))).bind fun v1 => ((X.g_pdqsortCmpFunc_Unit_Modddf p0 0 (p0.length : Int) v1 f1).bind fun v3 => (if v3.length = p0.length then some v3 else none)))
theorem g_SortFunc_Unit_Mof_c0_ok (p0 : (List TUnit)) (cf1 : FuncId) (f1 : TUnit → TUnit → Option Int) (hf1 : ∀ q0 q1 r, f1 q0 q1 = some r → FK cf1 [.agg (eTUnit q0), .agg (eTUnit q1)] (cI r)) (r : (List TUnit)) (H : X.g_SortFunc_Unit_Mof p0 f1 = some r) : FnMu Tryz.prog gl 69 [.c (.own 1000000 4 0 p0.length), .c (.clo cf1 [])] [(1000000, .arr 4 p0.length (fF eTUnit zTUnit p0) false)] (.tup []) [(1000000, .arr 4 r.length (fF eTUnit zTUnit r) false)] := by
 unfold X.g_SortFunc_Unit_Mof at H
 refine fn_mu (fn := Tryz.f69) (ir := g_SortFunc_Unit_ir) (E' := []) (E1 := [(1000000, ar 4 eTUnit zTUnit r)]) glL Tryz.func69 (by kernel_rfl) (by kernel_rfl) (by kernel_rfl) (by kernel_rfl) (by kernel_rfl) ?_
 refine sn [] [] [(4, cL p0)] [] [] (fun t => lI p0 (t)) ?_
 obtain ⟨v1, h2, H⟩ := oB H
 obtain ⟨v3, h4, H⟩ := oB H
 obtain ⟨g5, H⟩ := oI H
 refine oo [.res (cI v1), .mu [(1000000, 1000000)] [(1000000, 1000000)] (.tup []) [(1000000, ar 4 eTUnit zTUnit v3)]] [.rel 0 v3.length, .rel 7 v3.length] [] [(1000000, ar 4 eTUnit zTUnit v3)] (fun t => aI (x_math_bits_Len_ok (IntKind.u64.wrap (p0.length : Int)) v1 h2) (aI (g_pdqsortCmpFunc_Unit_Modddf_c0_ok p0 0 (p0.length : Int) v1 (cf1) f1 hf1 v3 h4) (aG 2 (Eq.symm g5) (t)))) ?_
 cases H
 exact qn
def i_compareUnits_ir : S :=
 (sq [o 2 (.box 4 (.t 0)), o 3 (.box 4 (.t 1)), o 4 (.mv (iv 0))]
 (.seq (sq [oa 5 2 2, ol 6 5, oa 7 2 3, ol 8 7, o 9 (.bin .neq (.t 6) (.t 8))]
 (.ite (.t 9) (sq [oa 10 2 2, ol 11 10, oa 12 2 3, ol 13 12, o 14 (.bin .sub (.t 11) (.t 13)), om 4 14]
  .ret)
 .skip))
 (.seq (sq [oa 15 1 2, ol 16 15, oa 17 1 3, ol 18 17, o 19 (.bin .neq (.t 16) (.t 18))]
 (.ite (.t 19) (sq [oa 20 1 2, ol 21 20, oa 22 1 3, ol 23 22, o 24 (.bin .sub (.t 21) (.t 23)), om 4 24]
  .ret)
 .skip))
 (sq [oa 25 3 2, ol 26 25, oa 27 3 3, ol 28 27, o 29 (.bin .sub (.t 26) (.t 28)), om 4 29]
 .ret))))
noncomputable def X.i_compareUnits (p0 : TUnit) (p1 : TUnit) : Option Int :=
 (bif (p0.At != p1.At) then some (W (p0.At - p1.At)) else (bif (p0.Kind != p1.Kind) then some (W (p0.Kind - p1.Kind)) else some (W (p0.Steps - p1.Steps))))
theorem i_compareUnits_ok (p0 : TUnit) (p1 : TUnit) (r : Int) (H : X.i_compareUnits p0 p1 = some r) : FK 70 [.agg (eTUnit p0), .agg (eTUnit p1)] (cI r) := by
 unfold X.i_compareUnits at H
 refine fi Tryz.f70 i_compareUnits_ir [(4, cI r)] [] glL Tryz.func70 ?_
 refine so [] [] [(2, pk 2), (3, pk 3)] [(2, va (eTUnit p0)), (3, va (eTUnit p1))] id ?_
 refine seq_in ?_
 refine sn [] [] [(9, cB (p0.At != p1.At))] [] [] id ?_
 rcases oC H with ⟨c2, H⟩ | ⟨c2, H⟩
 ·refine it c2 ?_
  refine so [] [] [(4, cI (W (p0.At - p1.At)))] [] id ?_
  cases H
  exact er
 ·refine jf c2 ?_
  refine sk ?_
  refine seq_in ?_
  refine sn [] [] [(19, cB (p0.Kind != p1.Kind))] [] [] id ?_
  rcases oC H with ⟨c3, H⟩ | ⟨c3, H⟩
  ·refine it c3 ?_
   refine so [] [] [(4, cI (W (p0.Kind - p1.Kind)))] [] id ?_
   cases H
   exact er
  ·refine jf c3 ?_
   refine sk ?_
   refine so [] [] [(4, cI (W (p0.Steps - p1.Steps)))] [] id ?_
   cases H
   exact er
def i_viewOf_ir : S :=
 (sq [o 3 (.box 12 (.t 0)), o 4 (.box 3 (.t 1)), o 6 (.alloc [.int .i64 0, .int .i64 0, .int .i64 0, .nil, .nil, .nil])]
 (.seq (.drw [(0, 1), (0, 2), (0, 3), (1, 3), (2, 3), (0, 4), (1, 4), (2, 4), (0, 5), (1, 5), (2, 5), (3, 5), (4, 5), (0, 6), (1, 6), (2, 6), (3, 6), (4, 6), (5, 6), (0, 7), (1, 7), (2, 7), (3, 7), (4, 7), (5, 7), (6, 7), (0, 8), (1, 8), (2, 8), (3, 8), (4, 8), (0, 10), (1, 10), (2, 10), (3, 10), (4, 10), (5, 10), (6, 10), (7, 10), (8, 10), (9, 10)] [om 10 2, oa 11 0 4, ol 12 11, oa 13 1 4, ol 14 13, o 15 (.load 12 true (.t 3)), o 16 (.load 3 true (.t 4)), om 17 2, o 18 (.call 67 [.t 15, .t 16, .t 17]), o 19 (.build [.int .i64 0, .int .i64 0, .int .i64 0, .nil, .nil, .nil] [(0, 1, .t 10), (1, 1, .t 12), (2, 1, .t 14), (3, 1, .t 18)]), o 7 (.alloc [.int .i64 0, .int .i64 0, .int .i64 0, .nil, .nil, .nil]), os 6 7 19])
 (.seq (sq [oa 20 2 4, ol 21 20, o 22 (.len (.t 21)), o 23 (.mv (iv 0))]
 (.blk 0 (.loop (sq [o 24 (.bin .lss (.t 23) (.t 22))]
   (.seq (.ite (.t 24) .skip
   (.exit 0))
   (.seq (.blk 1 (sq [o 25 (.iad 4 (.t 21) (.t 23)), o 26 (.load 4 true (.t 25)), o 9 (.alloc [.int .i64 0, .int .i64 0, .int .i64 0, .int .i64 0]), os 4 9 26]
    (sq [oa 27 0 9, ol 28 27, om 29 2, o 30 (.bin .eql (.t 28) (.t 29))]
    (.ite (.t 30) (.ops [oa 31 4 7, ol 32 31, o 33 (.load 4 true (.t 9)), o 34 (.bsl 4 [.t 33]), o 35 (.app 4 32 (.t 32) (.t 34)), oa 36 4 7, os 1 36 35])
    (sq [oa 37 2 9, ol 38 37, o 39 (.bin .geq (.t 38) (iv 0)), om 40 39, oh 41 (.fad 3 (.t 7)) 40, oh 42 (.load 1 false (.t 41)) 40, oh 43 (.fad 2 (.t 9)) 40, oh 44 (.load 1 false (.t 43)) 40, oh 45 (.call 68 [.t 42, .t 44]) 40, o 46 (.pick (.t 40) (.t 45) bF)]
     (.ite (.t 46) (.ops [oa 47 5 7, ol 48 47, o 49 (.load 4 true (.t 9)), o 50 (.bsl 4 [.t 49]), o 51 (.app 4 32 (.t 48) (.t 50)), oa 52 5 7, os 1 52 51])
     .skip))))))
   (.ops [o 53 (.bin .add (.t 23) (iv 1)), om 23 53])))))))
 (sq [oa 54 5 7, ol 55 54, o 56 (.call 69 [.t 55, .f 70])]
 (sq [o 57 (.load 6 true (.t 7)), os 6 6 57]
 .ret)))))
noncomputable def X.i_viewOf (p0 : TBoard) (p1 : TState) (p2 : Int) : Option TView :=
 ((X.i_seenHexes p0 p1 p2).bind fun v1 => ((loop (fun (x26 : (Int × (List TUnit) × (List TUnit))) => ((bif (decide (x26.1 < (p1.Units.length : Int))) then ((at' zTUnit p1.Units x26.1).bind fun v29 => (bif (v29.Side == p2) then (if (x26.2.1 ++ ([v29] : List TUnit)).length ≤ LIM then some (Sum.inl ((W (x26.1 + 1)), (x26.2.1 ++ ([v29] : List TUnit)), x26.2.2)) else none) else (bif (decide (v29.At ≥ 0)) then ((X.g_Contains_int v1 v29.At).bind fun v34 => (bif v34 then (if (x26.2.2 ++ ([v29] : List TUnit)).length ≤ LIM then some (Sum.inl ((W (x26.1 + 1)), x26.2.1, (x26.2.2 ++ ([v29] : List TUnit)))) else none) else some (Sum.inl ((W (x26.1 + 1)), x26.2.1, x26.2.2)))) else some (Sum.inl ((W (x26.1 + 1)), x26.2.1, x26.2.2))))) else some (Sum.inr (x26.2.1, x26.2.2))) : Option ((Int × (List TUnit) × (List TUnit)) ⊕ ((List TUnit) × (List TUnit))))) (0, ([] : List TUnit), ([] : List TUnit))).bind fun y38 => ((X.g_SortFunc_Unit_Mof y38.2 (fun q0 q1 => X.i_compareUnits q0 q1)).bind fun v40 => (if v40.length = y38.2.length then some (TView.mk p2 p1.Turn p1.Weather v1 y38.1 v40) else none))))
theorem i_viewOf_ok (p0 : TBoard) (p1 : TState) (p2 : Int) (r : TView) (H : X.i_viewOf p0 p1 p2 = some r) : FK 40 [.agg (eTBoard p0), .agg (eTState p1), cI p2] (.agg (eTView r)) := by
 unfold X.i_viewOf at H
 refine fi Tryz.f40 i_viewOf_ir [(6, pk 6)] [(6, va (eTView r))] glL Tryz.func40 ?_
 refine sn [] [] [(3, pk 3), (4, pk 4), (6, pk 6)] [] [(3, va (eTBoard p0)), (4, va (eTState p1)), (6, .var [jI 0, jI 0, jI 0, .nil, .nil, .nil] false)] id ?_
 obtain ⟨v1, h2, H⟩ := oB H
 refine xn [.res (dc 1 eI zI v1)] [] [(7, pk 7)] [] [(7, .var [jI p2, jI p1.Turn, jI p1.Weather, dat 1 eI zI v1, .nil, .nil] false)] (fun t => aI (i_seenHexes_ok p0 p1 p2 v1 h2) (aG 2 rN (t))) ?_
 refine seq_in ?_
 refine sn [] [] [(21, dc 4 eTUnit zTUnit p1.Units), (22, cL p1.Units), (23, cI 0)] [3] [] (fun t => lI p1.Units (t)) ?_
 refine ends_blk ?_
 obtain ⟨y38, h39, H⟩ := oB H
 refine tl [.nloc 7 4 1001 4 (fF eTUnit zTUnit ([] : List TUnit)), .nloc 7 5 1002 4 (fF eTUnit zTUnit ([] : List TUnit))] [(2, cI p2), (6, pk 6), (7, pk 7), (21, dc 4 eTUnit zTUnit p1.Units), (22, cL p1.Units), (23, cI 0)] [(6, .var [jI 0, jI 0, jI 0, .nil, .nil, .nil] false), (7, .var [jI p2, jI p1.Turn, jI p1.Weather, dat 1 eI zI v1, .own 1001 4 0 (([] : List TUnit).length), .own 1002 4 0 (([] : List TUnit).length)] false), (1001, ar 4 eTUnit zTUnit ([] : List TUnit)), (1002, ar 4 eTUnit zTUnit ([] : List TUnit))] (fun t => aG 2 (by decide : 0 < 4) (t)) ?_
 refine loop_in (fun (x : (Int × (List TUnit) × (List TUnit))) => lit [(2, cI p2), (6, pk 6), (7, pk 7), (21, dc 4 eTUnit zTUnit p1.Units), (22, cL p1.Units), (23, cI x.1)] [(6, .var [jI 0, jI 0, jI 0, .nil, .nil, .nil] false), (7, .var [jI p2, jI p1.Turn, jI p1.Weather, dat 1 eI zI v1, .own 1001 4 0 x.2.1.length, .own 1002 4 0 x.2.2.length] false), (1001, ar 4 eTUnit zTUnit x.2.1), (1002, ar 4 eTUnit zTUnit x.2.2)]) (fun (z : ((List TUnit) × (List TUnit))) => At (.exit 0) (lit [(6, pk 6), (7, pk 7)] [(6, .var [jI 0, jI 0, jI 0, .nil, .nil, .nil] false), (7, .var [jI p2, jI p1.Turn, jI p1.Weather, dat 1 eI zI v1, .own 1001 4 0 z.1.length, .own 1002 4 0 z.2.length] false), (1001, ar 4 eTUnit zTUnit z.1), (1002, ar 4 eTUnit zTUnit z.2)])) h39 ?_ ?_
 ·clear H h39
  intro x26 y0 H
  refine sn [] [] [(24, cB (decide (x26.1 < (p1.Units.length : Int))))] [] [] id ?_
  refine seq_in ?_
  rcases oC H with ⟨c28, H⟩ | ⟨c28, H⟩
  ·refine it c28 ?_
   refine sk ?_
   refine seq_in ?_
   refine ends_blk ?_
   obtain ⟨v29, h30, H⟩ := oB H
   refine sn [.cs (eTUnit v29)] [] [(9, pk 9)] [] [(9, va (eTUnit v29))] (a2 eTUnit h30) ?_
   refine sn [] [] [(30, cB (v29.Side == p2))] [] [] id ?_
   rcases oC H with ⟨c31, H⟩ | ⟨c31, H⟩
   ·refine it c31 ?_
    obtain ⟨g32, H⟩ := oI H
    refine oo [fh eTUnit zTUnit ([v29] : List TUnit), fh eTUnit zTUnit (x26.2.1 ++ ([v29] : List TUnit))] [] [(2, cI p2), (6, pk 6), (7, pk 7), (21, dc 4 eTUnit zTUnit p1.Units), (22, cL p1.Units), (23, cI x26.1)] [(6, .var [jI 0, jI 0, jI 0, .nil, .nil, .nil] false), (7, .var [jI p2, jI p1.Turn, jI p1.Weather, dat 1 eI zI v1, .own 35 4 0 ((x26.2.1 ++ ([v29] : List TUnit)).length), .own 1002 4 0 x26.2.2.length] false), (35, ar 4 eTUnit zTUnit (x26.2.1 ++ ([v29] : List TUnit))), (1002, ar 4 eTUnit zTUnit x26.2.2)] (fun t => aI (rfl : ([v29] : List TUnit).length = 1) (aI (fF_lit eTUnit zTUnit ([v29] : List TUnit)) (aI (And.intro (Nat.le_refl x26.2.1.length) (And.intro (@List.length_append _ x26.2.1 ([v29] : List TUnit)) g32)) (aI (fF_appL eTUnit zTUnit x26.2.1 ([v29] : List TUnit)) (aI (fF_appR eTUnit zTUnit x26.2.1 ([v29] : List TUnit)) (t)))))) ?_
    change EndsI _ _ _ _ _ _
    refine oo [] [.ren 35 1001] [(2, cI p2), (6, pk 6), (7, pk 7), (21, dc 4 eTUnit zTUnit p1.Units), (22, cL p1.Units), (23, cI (W (x26.1 + 1)))] [(6, .var [jI 0, jI 0, jI 0, .nil, .nil, .nil] false), (7, .var [jI p2, jI p1.Turn, jI p1.Weather, dat 1 eI zI v1, .own 1001 4 0 ((x26.2.1 ++ ([v29] : List TUnit)).length), .own 1002 4 0 x26.2.2.length] false), (1001, ar 4 eTUnit zTUnit (x26.2.1 ++ ([v29] : List TUnit))), (1002, ar 4 eTUnit zTUnit x26.2.2)] id ?_
    cases H
    exact rr
   ·refine jf c31 ?_
    rcases oC H with ⟨c33, H⟩ | ⟨c33, H⟩
    ·obtain ⟨v34, h35, H⟩ := oB H
     refine sn (rg 5 true [.res (cB v34), .g true]) [] [(46, cB v34)] [] [] (fun t => aG 5 c33 (aI (g_Contains_int_ok v1 v29.At v34 h35) (aI c33 (t)))) ?_
     rcases oC H with ⟨c36, H⟩ | ⟨c36, H⟩
     ·refine it c36 ?_
      obtain ⟨g37, H⟩ := oI H
      refine oo [fh eTUnit zTUnit ([v29] : List TUnit), fh eTUnit zTUnit (x26.2.2 ++ ([v29] : List TUnit))] [] [(2, cI p2), (6, pk 6), (7, pk 7), (21, dc 4 eTUnit zTUnit p1.Units), (22, cL p1.Units), (23, cI x26.1)] [(6, .var [jI 0, jI 0, jI 0, .nil, .nil, .nil] false), (7, .var [jI p2, jI p1.Turn, jI p1.Weather, dat 1 eI zI v1, .own 1001 4 0 x26.2.1.length, .own 51 4 0 ((x26.2.2 ++ ([v29] : List TUnit)).length)] false), (51, ar 4 eTUnit zTUnit (x26.2.2 ++ ([v29] : List TUnit))), (1001, ar 4 eTUnit zTUnit x26.2.1)] (fun t => aI (rfl : ([v29] : List TUnit).length = 1) (aI (fF_lit eTUnit zTUnit ([v29] : List TUnit)) (aI (And.intro (Nat.le_refl x26.2.2.length) (And.intro (@List.length_append _ x26.2.2 ([v29] : List TUnit)) g37)) (aI (fF_appL eTUnit zTUnit x26.2.2 ([v29] : List TUnit)) (aI (fF_appR eTUnit zTUnit x26.2.2 ([v29] : List TUnit)) (t)))))) ?_
      change EndsI _ _ _ _ _ _
      refine oo [] [.ren 51 1002] [(2, cI p2), (6, pk 6), (7, pk 7), (21, dc 4 eTUnit zTUnit p1.Units), (22, cL p1.Units), (23, cI (W (x26.1 + 1)))] [(6, .var [jI 0, jI 0, jI 0, .nil, .nil, .nil] false), (7, .var [jI p2, jI p1.Turn, jI p1.Weather, dat 1 eI zI v1, .own 1001 4 0 x26.2.1.length, .own 1002 4 0 ((x26.2.2 ++ ([v29] : List TUnit)).length)] false), (1001, ar 4 eTUnit zTUnit x26.2.1), (1002, ar 4 eTUnit zTUnit (x26.2.2 ++ ([v29] : List TUnit)))] id ?_
      cases H
      exact rr
     ·refine jf c36 ?_
      refine sk ?_
      refine oo [] [] [(2, cI p2), (6, pk 6), (7, pk 7), (21, dc 4 eTUnit zTUnit p1.Units), (22, cL p1.Units), (23, cI (W (x26.1 + 1)))] [(6, .var [jI 0, jI 0, jI 0, .nil, .nil, .nil] false), (7, .var [jI p2, jI p1.Turn, jI p1.Weather, dat 1 eI zI v1, .own 1001 4 0 x26.2.1.length, .own 1002 4 0 x26.2.2.length] false), (1001, ar 4 eTUnit zTUnit x26.2.1), (1002, ar 4 eTUnit zTUnit x26.2.2)] id ?_
      cases H
      exact rr
    ·refine sn (rg 6 false []) [] [(46, cB false)] [] [] (fun t => aG 6 c33 (t)) ?_
     refine jf rF ?_
     refine sk ?_
     refine oo [] [] [(2, cI p2), (6, pk 6), (7, pk 7), (21, dc 4 eTUnit zTUnit p1.Units), (22, cL p1.Units), (23, cI (W (x26.1 + 1)))] [(6, .var [jI 0, jI 0, jI 0, .nil, .nil, .nil] false), (7, .var [jI p2, jI p1.Turn, jI p1.Weather, dat 1 eI zI v1, .own 1001 4 0 x26.2.1.length, .own 1002 4 0 x26.2.2.length] false), (1001, ar 4 eTUnit zTUnit x26.2.1), (1002, ar 4 eTUnit zTUnit x26.2.2)] id ?_
     cases H
     exact rr
  ·refine jf c28 ?_
   refine tl [] [(6, pk 6), (7, pk 7)] [(6, .var [jI 0, jI 0, jI 0, .nil, .nil, .nil] false), (7, .var [jI p2, jI p1.Turn, jI p1.Weather, dat 1 eI zI v1, .own 1001 4 0 x26.2.1.length, .own 1002 4 0 x26.2.2.length] false), (1001, ar 4 eTUnit zTUnit x26.2.1), (1002, ar 4 eTUnit zTUnit x26.2.2)] id ?_
   refine ends_exit ?_
   cases H
   exact rse
 ·clear h39
  rintro e s ⟨rfl, rfl⟩
  change EndsI _ _ _ _ _ _
  obtain ⟨v40, h41, H⟩ := oB H
  obtain ⟨g42, H⟩ := oI H
  refine sn [.mu [(1002, 1000000)] [(1000000, 1002)] (.tup []) [(1000000, ar 4 eTUnit zTUnit v40)]] [.rel 55 v40.length, .relc 7 5 v40.length] [] [1002, 7] [(7, .var [jI p2, jI p1.Turn, jI p1.Weather, dat 1 eI zI v1, .own 1001 4 0 y38.1.length, .own 1002 4 0 v40.length] false), (1002, ar 4 eTUnit zTUnit v40)] (fun t => aI (g_SortFunc_Unit_Mof_c0_ok y38.2 (70) (fun q0 q1 => X.i_compareUnits q0 q1) (fun q0 q1 r h => i_compareUnits_ok q0 q1 r h) v40 h41) (aG 2 (Eq.symm g42) (t))) ?_
  refine sn [] [] [] [6] [(6, .var [jI p2, jI p1.Turn, jI p1.Weather, dat 1 eI zI v1, .own 1001 4 0 y38.1.length, .own 1002 4 0 v40.length] false)] id ?_
  refine tl [.frc 6 4, .frc 6 5] [(6, pk 6)] [(6, .var [jI p2, jI p1.Turn, jI p1.Weather, dat 1 eI zI v1, dat 4 eTUnit zTUnit y38.1, dat 4 eTUnit zTUnit v40] false)] (fun t => aI (Nat.le_refl y38.1.length) (aI (Nat.le_refl v40.length) (t))) ?_
  cases H
  exact er
def i_ReportOf_ir : S :=
 (sq [o 3 (.box 12 (.t 0)), o 4 (.box 3 (.t 1)), o 6 (.mv (.v (.str []))), o 7 (.mv bF)]
 (.seq (sq [o 8 (.load 12 true (.t 3)), o 9 (.load 3 true (.t 4)), om 10 2, o 11 (.call 39 [.t 8, .t 9, .t 10]), o 12 (.not (.t 11))]
 (.ite (.t 12) (sq [o 6 (.mv (.v (.str []))), o 7 (.mv bF)]
  .ret)
 .skip))
 (.seq (.drw [(0, 1), (0, 2), (1, 2), (0, 3), (1, 3), (2, 3), (0, 4)] [o 13 (.load 12 true (.t 3)), o 14 (.load 12 true (.t 3)), o 15 (.load 3 true (.t 4)), om 16 2, o 17 (.call 40 [.t 14, .t 15, .t 16]), o 18 (.call 32 [.t 13, .t 17]), om 6 18, o 7 (.mv bT)])
 .ret)))
noncomputable def X.i_ReportOf (p0 : TBoard) (p1 : TState) (p2 : Int) : Option ((List UInt8) × Bool) :=
 ((X.i_isLook p0 p1 p2).bind fun v4 => (bif (!v4) then some ([], false) else ((X.i_viewOf p0 p1 p2).bind fun v7 => ((X.i_reportText p0 v7).bind fun v9 => some (v9, true)))))
theorem i_ReportOf_ok (p0 : TBoard) (p1 : TState) (p2 : Int) (r : ((List UInt8) × Bool)) (H : X.i_ReportOf p0 p1 p2 = some r) : FK 17 [.agg (eTBoard p0), .agg (eTState p1), cI p2] (.tup [(false, [.str r.1]), (false, [.bool r.2])]) := by
 unfold X.i_ReportOf at H
 refine fi Tryz.f17 i_ReportOf_ir [(6, .c (.str r.1)), (7, cB r.2)] [] glL Tryz.func17 ?_
 refine sn [] [] [(3, pk 3), (4, pk 4)] [] [(3, va (eTBoard p0)), (4, va (eTState p1))] id ?_
 refine seq_in ?_
 obtain ⟨v4, h5, H⟩ := oB H
 refine sn [.res (cB v4)] [] [(12, cB (!v4))] [] [] (aI (i_isLook_ok p0 p1 p2 v4 h5)) ?_
 rcases oC H with ⟨c6, H⟩ | ⟨c6, H⟩
 ·refine it c6 ?_
  refine so [] [] [(6, .c (.str [])), (7, cB false)] [] id ?_
  cases H
  exact er
 ·refine jf c6 ?_
  refine sk ?_
  obtain ⟨v7, h8, H⟩ := oB H
  obtain ⟨v9, h10, H⟩ := oB H
  refine sx [.res (.agg (eTView v7)), .res (.c (.str v9))] [] [(6, .c (.str v9)), (7, cB true)] [] (fun t => aI (i_viewOf_ok p0 p1 p2 v7 h8) (aG 2 rN (aI (i_reportText_ok p0 v7 v9 h10) (aI trivial (aI rN (t)))))) ?_
  cases H
  exact er
def l_eqUnit_ir : S :=
 (sq [o 2 (.box 4 (.t 0)), o 3 (.box 4 (.t 1)), o 4 (.mv bF)]
 (.seq (sq [oa 5 0 2, ol 6 5, oa 7 0 3, ol 8 7, o 9 (.bin .neq (.t 6) (.t 8))]
 (.ite (.t 9) (sq [o 4 (.mv bF)]
  .ret)
 .skip))
 (.seq (sq [oa 10 1 2, ol 11 10, oa 12 1 3, ol 13 12, o 14 (.bin .neq (.t 11) (.t 13))]
 (.ite (.t 14) (sq [o 4 (.mv bF)]
  .ret)
 .skip))
 (.seq (sq [oa 15 2 2, ol 16 15, oa 17 2 3, ol 18 17, o 19 (.bin .neq (.t 16) (.t 18))]
 (.ite (.t 19) (sq [o 4 (.mv bF)]
  .ret)
 .skip))
 (.seq (sq [oa 20 3 2, ol 21 20, oa 22 3 3, ol 23 22, o 24 (.bin .neq (.t 21) (.t 23))]
 (.ite (.t 24) (sq [o 4 (.mv bF)]
  .ret)
 .skip))
 (sq [o 4 (.mv bT)]
 .ret))))))
noncomputable def X.l_eqUnit (p0 : TUnit) (p1 : TUnit) : Option Bool :=
 (bif (p0.Side != p1.Side) then some false else (bif (p0.Kind != p1.Kind) then some false else (bif (p0.At != p1.At) then some false else (bif (p0.Steps != p1.Steps) then some false else some true))))
theorem l_eqUnit_ok (p0 : TUnit) (p1 : TUnit) (r : Bool) (H : X.l_eqUnit p0 p1 = some r) : FK 59 [.agg (eTUnit p0), .agg (eTUnit p1)] (cB r) := by
 unfold X.l_eqUnit at H
 refine fi Tryz.f59 l_eqUnit_ir [(4, cB r)] [] glL Tryz.func59 ?_
 refine so [] [] [(2, pk 2), (3, pk 3)] [(2, va (eTUnit p0)), (3, va (eTUnit p1))] id ?_
 refine seq_in ?_
 refine sn [] [] [(9, cB (p0.Side != p1.Side))] [] [] id ?_
 rcases oC H with ⟨c2, H⟩ | ⟨c2, H⟩
 ·refine it c2 ?_
  refine so [] [] [(4, cB false)] [] id ?_
  cases H
  exact er
 ·refine jf c2 ?_
  refine sk ?_
  refine seq_in ?_
  refine sn [] [] [(14, cB (p0.Kind != p1.Kind))] [] [] id ?_
  rcases oC H with ⟨c4, H⟩ | ⟨c4, H⟩
  ·refine it c4 ?_
   refine so [] [] [(4, cB false)] [] id ?_
   cases H
   exact er
  ·refine jf c4 ?_
   refine sk ?_
   refine seq_in ?_
   refine sn [] [] [(19, cB (p0.At != p1.At))] [] [] id ?_
   rcases oC H with ⟨c6, H⟩ | ⟨c6, H⟩
   ·refine it c6 ?_
    refine so [] [] [(4, cB false)] [] id ?_
    cases H
    exact er
   ·refine jf c6 ?_
    refine sk ?_
    refine seq_in ?_
    refine so [] [] [(24, cB (p0.Steps != p1.Steps))] [] id ?_
    rcases oC H with ⟨c7, H⟩ | ⟨c7, H⟩
    ·refine it c7 ?_
     refine so [] [] [(4, cB false)] [] id ?_
     cases H
     exact er
    ·refine jf c7 ?_
     refine sk ?_
     refine so [] [] [(4, cB true)] [] id ?_
     cases H
     exact er
def l_eqUnitS_ir : S :=
 (sq [o 4 (.mv bF)]
 (.seq (sq [om 6 0, o 7 (.len (.t 6)), om 8 1, o 9 (.len (.t 8)), o 10 (.bin .neq (.t 7) (.t 9))]
 (.ite (.t 10) (sq [o 4 (.mv bF)]
  .ret)
 .skip))
 (.seq (sq [o 5 (.mv (iv 0))]
 (.blk 0 (.loop (.seq (sq [om 11 5, om 12 0, o 13 (.len (.t 12)), o 14 (.bin .lss (.t 11) (.t 13))]
   (.ite (.t 14) .skip
   (.exit 0)))
   (.seq (.blk 1 (.seq (.drw [(0, 1), (0, 4), (1, 4), (2, 4), (3, 4), (0, 5), (1, 5), (2, 5), (3, 5), (4, 5), (0, 6), (1, 6), (2, 6), (3, 6), (0, 7), (1, 7), (2, 7), (3, 7)] [om 17 0, om 18 5, o 19 (.iad 4 (.t 17) (.t 18)), o 20 (.load 4 true (.t 19)), om 21 1, om 22 5, o 23 (.iad 4 (.t 21) (.t 22)), o 24 (.load 4 true (.t 23)), o 25 (.call 59 [.t 20, .t 24]), o 26 (.not (.t 25))])
    (.ite (.t 26) (sq [o 4 (.mv bF)]
     .ret)
    .skip)))
   (.ops [om 15 5, o 16 (.bin .add (.t 15) (iv 1)), om 5 16]))))))
 (sq [o 4 (.mv bT)]
 .ret))))
noncomputable def X.l_eqUnitS (p0 : (List TUnit)) (p1 : (List TUnit)) : Option Bool :=
 (bif ((p0.length : Int) != (p1.length : Int)) then some false else ((loop (fun (x22 : Int) => ((bif (decide (x22 < (p0.length : Int))) then ((at' zTUnit p0 x22).bind fun v25 => ((at' zTUnit p1 x22).bind fun v27 => ((X.l_eqUnit v25 v27).bind fun v29 => (bif (!v29) then some (Sum.inr (Sum.inr false)) else some (Sum.inl (W (x22 + 1))))))) else some (Sum.inr (Sum.inl ()))) : Option (Int ⊕ (Unit ⊕ Bool)))) 0).bind fun y32 => (Sum.elim (fun (y34 : Unit) => some true) (fun (y35 : Bool) => some y35) y32)))
theorem l_eqUnitS_ok (p0 : (List TUnit)) (p1 : (List TUnit)) (r : Bool) (H : X.l_eqUnitS p0 p1 = some r) : FK 36 [.c (dat 4 eTUnit zTUnit p0), .c (dat 4 eTUnit zTUnit p1)] (cB r) := by
 unfold X.l_eqUnitS at H
 refine fi Tryz.f36 l_eqUnitS_ir [(4, cB r)] [] glL Tryz.func36 ?_
 refine sn [] [] [] [] [] id ?_
 refine seq_in ?_
 refine sn [] [] [(10, cB ((p0.length : Int) != (p1.length : Int)))] [] [] (fun t => lI p0 (lI p1 (t))) ?_
 rcases oC H with ⟨c2, H⟩ | ⟨c2, H⟩
 ·refine it c2 ?_
  refine so [] [] [(4, cB false)] [] id ?_
  cases H
  exact er
 ·refine jf c2 ?_
  refine sk ?_
  refine seq_in ?_
  refine sn [] [] [(5, cI 0)] [] [] id ?_
  refine ends_blk ?_
  obtain ⟨y32, h33, H⟩ := oB H
  refine tl [] [(0, dc 4 eTUnit zTUnit p0), (1, dc 4 eTUnit zTUnit p1), (5, cI 0)] [] id ?_
  refine loop_in (fun (x : Int) => lit [(0, dc 4 eTUnit zTUnit p0), (1, dc 4 eTUnit zTUnit p1), (5, cI x)] []) (orJ (fun (z : Unit) => At (.exit 0) (lit [] [])) (fun (z : Bool) => At .ret (lit [(4, cB z)] []))) h33 ?_ ?_
  ·clear H h33
   intro x22 y0 H
   refine seq_in ?_
   refine sn [] [] [(14, cB (decide (x22 < (p0.length : Int))))] [] [] (fun t => lI p0 (t)) ?_
   rcases oC H with ⟨c24, H⟩ | ⟨c24, H⟩
   ·refine it c24 ?_
    refine sk ?_
    refine seq_in ?_
    refine ends_blk ?_
    obtain ⟨v25, h26, H⟩ := oB H
    obtain ⟨v27, h28, H⟩ := oB H
    obtain ⟨v29, h30, H⟩ := oB H
    refine xn [.cs (eTUnit v25), .cs (eTUnit v27), .res (cB v29)] [] [(26, cB (!v29))] [] [] (fun t => (a2 eTUnit h26 (aI rN ((a2 eTUnit h28 (aI rN (aI (l_eqUnit_ok v25 v27 v29 h30) (aI trivial (aI rN (t)))))))))) ?_
    rcases oC H with ⟨c31, H⟩ | ⟨c31, H⟩
    ·refine it c31 ?_
     refine so [] [] [(4, cB false)] [] id ?_
     refine ends_ret ?_
     cases H
     exact rsr
    ·refine jf c31 ?_
     refine sk ?_
     refine oo [] [] [(0, dc 4 eTUnit zTUnit p0), (1, dc 4 eTUnit zTUnit p1), (5, cI (W (x22 + 1)))] [] id ?_
     cases H
     exact rr
   ·refine jf c24 ?_
    refine tl [] [] [] id ?_
    refine ends_exit ?_
    cases H
    exact rse
  ·clear h33
   cases y32 with
   | inl y34 =>
    replace H := ofInl H
    rintro e s ⟨rfl, rfl⟩
    change EndsI _ _ _ _ _ _
    refine so [] [] [(4, cB true)] [] id ?_
    cases H
    exact er
   | inr y35 =>
    replace H := ofInr H
    rintro e s ⟨rfl, rfl⟩
    cases H
    exact qr
def l_eqState_ir : S :=
 (sq [o 2 (.box 3 (.t 0)), o 3 (.box 3 (.t 1)), o 4 (.mv bF)]
 (.seq (sq [oa 5 0 2, ol 6 5, oa 7 0 3, ol 8 7, o 9 (.bin .neq (.t 6) (.t 8))]
 (.ite (.t 9) (sq [o 4 (.mv bF)]
  .ret)
 .skip))
 (.seq (sq [oa 10 1 2, ol 11 10, oa 12 1 3, ol 13 12, o 14 (.bin .neq (.t 11) (.t 13))]
 (.ite (.t 14) (sq [o 4 (.mv bF)]
  .ret)
 .skip))
 (.seq (sq [oa 15 2 2, ol 16 15, oa 17 2 3, ol 18 17, o 19 (.call 36 [.t 16, .t 18]), o 20 (.not (.t 19))]
 (.ite (.t 20) (sq [o 4 (.mv bF)]
  .ret)
 .skip))
 (sq [o 4 (.mv bT)]
 .ret)))))
noncomputable def X.l_eqState (p0 : TState) (p1 : TState) : Option Bool :=
 (bif (p0.Turn != p1.Turn) then some false else (bif (p0.Weather != p1.Weather) then some false else ((X.l_eqUnitS p0.Units p1.Units).bind fun v5 => (bif (!v5) then some false else some true))))
theorem l_eqState_ok (p0 : TState) (p1 : TState) (r : Bool) (H : X.l_eqState p0 p1 = some r) : FK 18 [.agg (eTState p0), .agg (eTState p1)] (cB r) := by
 unfold X.l_eqState at H
 refine fi Tryz.f18 l_eqState_ir [(4, cB r)] [] glL Tryz.func18 ?_
 refine so [] [] [(2, pk 2), (3, pk 3)] [(2, va (eTState p0)), (3, va (eTState p1))] id ?_
 refine seq_in ?_
 refine sn [] [] [(9, cB (p0.Turn != p1.Turn))] [] [] id ?_
 rcases oC H with ⟨c2, H⟩ | ⟨c2, H⟩
 ·refine it c2 ?_
  refine so [] [] [(4, cB false)] [] id ?_
  cases H
  exact er
 ·refine jf c2 ?_
  refine sk ?_
  refine seq_in ?_
  refine sn [] [] [(14, cB (p0.Weather != p1.Weather))] [] [] id ?_
  rcases oC H with ⟨c4, H⟩ | ⟨c4, H⟩
  ·refine it c4 ?_
   refine so [] [] [(4, cB false)] [] id ?_
   cases H
   exact er
  ·refine jf c4 ?_
   refine sk ?_
   refine seq_in ?_
   obtain ⟨v5, h6, H⟩ := oB H
   refine so [.res (cB v5)] [] [(20, cB (!v5))] [] (aI (l_eqUnitS_ok p0.Units p1.Units v5 h6)) ?_
   rcases oC H with ⟨c7, H⟩ | ⟨c7, H⟩
   ·refine it c7 ?_
    refine so [] [] [(4, cB false)] [] id ?_
    cases H
    exact er
   ·refine jf c7 ?_
    refine sk ?_
    refine so [] [] [(4, cB true)] [] id ?_
    cases H
    exact er
def l_FnExactReportOf_ir : S :=
 (sq [o 3 (.box 12 (.t 0)), o 4 (.box 3 (.t 1)), o 6 (.mv bF)]
 (sq [o 7 (.mv (iv 1048576))]
 (sq [o 14 (.load 12 true (.t 3)), om 15 7, o 16 (.call 6 [.t 14, .t 15]), om 7 16]
 (.seq (sq [om 17 7, o 18 (.bin .lss (.t 17) (iv 0))]
 (.ite (.t 18) (sq [o 6 (.mv bT)]
  .ret)
 .skip))
 (sq [o 19 (.load 3 true (.t 4)), om 20 7, o 21 (.call 14 [.t 19, .t 20]), om 7 21]
 (.seq (sq [om 22 7, o 23 (.bin .lss (.t 22) (iv 0))]
 (.ite (.t 23) (sq [o 6 (.mv bT)]
  .ret)
 .skip))
 (.seq (.drw [(0, 2), (1, 2), (0, 4), (1, 4), (2, 4), (3, 4), (7, 8), (8, 9)] [o 25 (.load 12 true (.t 3)), o 26 (.call 9 [.t 25]), o 27 (.load 3 true (.t 4)), o 28 (.call 16 [.t 27]), om 29 2, o 30 (.call 15 [.t 26, .t 28, .t 29]), om 24 30, o 31 (.ext (.t 24) 0), o 32 (.ext (.t 24) 1), om 8 31, om 9 32])
 (sq [o 33 (.load 12 true (.t 3)), o 34 (.call 9 [.t 33]), o 10 (.alloc [.nil, .nil, .int .i64 0, .int .i64 0, .int .i64 0, .int .i64 0, .int .i64 0, .int .i64 0, .int .i64 0, .nil, .nil, .nil]), os 12 10 34]
 (sq [o 35 (.load 3 true (.t 4)), o 36 (.call 16 [.t 35]), o 11 (.alloc [.int .i64 0, .int .i64 0, .nil]), os 3 11 36]
 (sq [o 38 (.load 12 true (.t 10)), o 39 (.load 3 true (.t 11)), om 40 2, o 41 (.call 17 [.t 38, .t 39, .t 40]), om 37 41, o 42 (.ext (.t 37) 0), o 43 (.ext (.t 37) 1), om 12 42, om 13 43]
 (.seq (sq [om 44 12, om 45 8, o 46 (.bin .neq (.t 44) (.t 45)), om 47 46, og 48 (.mv (.t 13)) 47, og 49 (.mv (.t 9)) 47, og 50 (.bqe true (.t 48) (.t 49)) 47, o 51 (.pick (.t 47) bT (.t 50))]
 (.ite (.t 51) (sq [o 6 (.mv bF)]
  .ret)
 .skip))
 (.seq (.seq (.drw [(0, 1), (0, 2)] [o 52 (.load 12 true (.t 10)), o 53 (.load 12 true (.t 3)), o 54 (.call 9 [.t 53]), o 55 (.call 12 [.t 52, .t 54]), o 56 (.not (.t 55))])
 (.ite (.t 56) (sq [o 6 (.mv bF)]
  .ret)
 .skip))
 (.seq (.seq (.drw [(0, 1), (0, 2)] [o 57 (.load 3 true (.t 11)), o 58 (.load 3 true (.t 4)), o 59 (.call 16 [.t 58]), o 60 (.call 18 [.t 57, .t 59]), o 61 (.not (.t 60))])
 (.ite (.t 61) (sq [o 6 (.mv bF)]
  .ret)
 .skip))
 (sq [o 6 (.mv bT)]
 .ret))))))))))))))
noncomputable def X.l_FnExactReportOf (p0 : TBoard) (p1 : TState) (p2 : Int) : Option Bool :=
 ((X.l_szBoard p0 1048576).bind fun v1 => (bif (decide (v1 < 0)) then some true else ((X.l_szState p1 v1).bind fun v5 => (bif (decide (v5 < 0)) then some true else ((X.l_toBoard p0).bind fun v9 => ((X.l_toState p1).bind fun v11 => ((X.s_ReportOf v9 v11 p2).bind fun v13 => ((X.l_toBoard p0).bind fun v15 => ((X.l_toState p1).bind fun v17 => ((X.i_ReportOf v15 v17 p2).bind fun v19 => (bif (!(v19.1 == v13.1)) then some false else (bif (!(v19.2 == v13.2)) then some false else ((X.l_toBoard p0).bind fun v30 => ((X.l_eqBoard v15 v30).bind fun v32 => (bif (!v32) then some false else ((X.l_toState p1).bind fun v35 => ((X.l_eqState v17 v35).bind fun v37 => (bif (!v37) then some false else some true))))))))))))))))))
theorem l_FnExactReportOf_ok (p0 : TBoard) (p1 : TState) (p2 : Int) (r : Bool) (H : X.l_FnExactReportOf p0 p1 p2 = some r) : FK 4 [.agg (eTBoard p0), .agg (eTState p1), cI p2] (cB r) := by
 unfold X.l_FnExactReportOf at H
 refine fi Tryz.f4 l_FnExactReportOf_ir [(6, cB r)] [] glL Tryz.func4 ?_
 refine sn [] [] [(3, pk 3), (4, pk 4)] [] [(3, va (eTBoard p0)), (4, va (eTState p1))] id ?_
 refine sn [] [] [(7, cI 1048576)] [] [] id ?_
 obtain ⟨v1, h2, H⟩ := oB H
 refine so [.res (cI v1)] [] [(2, cI p2), (3, pk 3), (4, pk 4), (7, cI v1)] [(3, va (eTBoard p0)), (4, va (eTState p1))] (aI (l_szBoard_ok p0 1048576 v1 h2)) ?_
 refine seq_in ?_
 refine sn [] [] [(18, cB (decide (v1 < 0)))] [] [] id ?_
 rcases oC H with ⟨c4, H⟩ | ⟨c4, H⟩
 ·refine it c4 ?_
  refine so [] [] [(6, cB true)] [] id ?_
  cases H
  exact er
 ·refine jf c4 ?_
  refine sk ?_
  obtain ⟨v5, h6, H⟩ := oB H
  refine so [.res (cI v5)] [] [(2, cI p2), (3, pk 3), (4, pk 4), (7, cI v5)] [(3, va (eTBoard p0)), (4, va (eTState p1))] (aI (l_szState_ok p1 v1 v5 h6)) ?_
  refine seq_in ?_
  refine sn [] [] [(23, cB (decide (v5 < 0)))] [] [] id ?_
  rcases oC H with ⟨c8, H⟩ | ⟨c8, H⟩
  ·refine it c8 ?_
   refine so [] [] [(6, cB true)] [] id ?_
   cases H
   exact er
  ·refine jf c8 ?_
   refine sk ?_
   obtain ⟨v9, h10, H⟩ := oB H
   obtain ⟨v11, h12, H⟩ := oB H
   obtain ⟨v13, h14, H⟩ := oB H
   refine xn [.res (.agg (eTBoard v9)), .res (.agg (eTState v11)), .res (.tup [(false, [.str v13.1]), (false, [.bool v13.2])])] [] [(8, .c (.str v13.1)), (9, cB v13.2)] [] [] (fun t => aI (l_toBoard_ok p0 v9 h10) (aG 2 rN (aI (l_toState_ok p1 v11 h12) (aG 2 rN (aI (s_ReportOf_ok v9 v11 p2 v13 h14) (aI trivial (aI rN (t)))))))) ?_
   obtain ⟨v15, h16, H⟩ := oB H
   refine sn [.res (.agg (eTBoard v15))] [] [(10, pk 10)] [] [(10, va (eTBoard v15))] (aI (l_toBoard_ok p0 v15 h16)) ?_
   obtain ⟨v17, h18, H⟩ := oB H
   refine sn [.res (.agg (eTState v17))] [] [(11, pk 11)] [] [(11, va (eTState v17))] (aI (l_toState_ok p1 v17 h18)) ?_
   obtain ⟨v19, h20, H⟩ := oB H
   refine sn [.res (.tup [(false, [.str v19.1]), (false, [.bool v19.2])])] [] [(12, .c (.str v19.1)), (13, cB v19.2)] [] [] (aI (i_ReportOf_ok v15 v17 p2 v19 h20)) ?_
   refine seq_in ?_
   rcases oC H with ⟨c23, H⟩ | ⟨c23, H⟩
   ·refine sn (rg 4 true []) [] [(51, cB true)] [] [] (fun t => aG 4 c23 (t)) ?_
    refine it rT ?_
    refine so [] [] [(6, cB false)] [] id ?_
    cases H
    exact er
   ·refine sn (rg 4 false []) [] [(51, cB (!(v19.2 == v13.2)))] [] [] (fun t => aG 4 c23 (t)) ?_
    rcases oC H with ⟨c24, H⟩ | ⟨c24, H⟩
    ·refine it c24 ?_
     refine so [] [] [(6, cB false)] [] id ?_
     cases H
     exact er
    ·refine jf c24 ?_
     refine sk ?_
     refine seq_in ?_
     obtain ⟨v30, h31, H⟩ := oB H
     obtain ⟨v32, h33, H⟩ := oB H
     refine xn [.res (.agg (eTBoard v30)), .res (cB v32)] [] [(56, cB (!v32))] [] [] (fun t => aI (l_toBoard_ok p0 v30 h31) (aG 2 rN (aI (l_eqBoard_ok v15 v30 v32 h33) (aI trivial (aI rN (t)))))) ?_
     rcases oC H with ⟨c34, H⟩ | ⟨c34, H⟩
     ·refine it c34 ?_
      refine so [] [] [(6, cB false)] [] id ?_
      cases H
      exact er
     ·refine jf c34 ?_
      refine sk ?_
      refine seq_in ?_
      obtain ⟨v35, h36, H⟩ := oB H
      obtain ⟨v37, h38, H⟩ := oB H
      refine sx [.res (.agg (eTState v35)), .res (cB v37)] [] [(61, cB (!v37))] [] (fun t => aI (l_toState_ok p1 v35 h36) (aG 2 rN (aI (l_eqState_ok v17 v35 v37 h38) (aI trivial (aI rN (t)))))) ?_
      rcases oC H with ⟨c39, H⟩ | ⟨c39, H⟩
      ·refine it c39 ?_
       refine so [] [] [(6, cB false)] [] id ?_
       cases H
       exact er
      ·refine jf c39 ?_
       refine sk ?_
       refine so [] [] [(6, cB true)] [] id ?_
       cases H
       exact er
end Go.Proofs.YtockjpnbfllmaaaGreatDoor.X0
