/- What each Go function that FnExactGroundOf reaches computes, and that it returns so; no condition. -/
import Derived.Test.YtihggbgmdlhlcaaGreatDoorGRWb
set_option linter.unusedVariables false
set_option linter.unusedSimpArgs false
set_option maxRecDepth 100000
namespace Go.Proofs.YtihggbgmdlhlcaaGreatDoor.X0
open Go Go.RowKit Go.Proofs.YtihggbgmdlhlcaaGreatDoor.Ab Go.Proofs

def i_isLook_ir : S :=
 (.seq (.ops [⟨some 3, .box 12 (.t 0), none⟩, ⟨some 4, .box 3 (.t 1), none⟩, ⟨some 6, .mv (.v (.bool false)), none⟩])
 (.seq (.ops [⟨some 7, .load 12 true (.t 3), none⟩, ⟨some 8, .load 3 true (.t 4), none⟩, ⟨some 9, .call 151 [.t 7, .t 8], none⟩, ⟨some 10, .mv (.t 9), none⟩, ⟨some 11, .mv (.t 2), some (10, true)⟩, ⟨some 12, .call 127 [.t 11], some (10, true)⟩, ⟨some 13, .pick (.t 10) (.t 12) (.v (.bool false)), none⟩, ⟨some 6, .mv (.t 13), none⟩])
 .ret))
noncomputable def X.i_isLook (p0 : TBoard) (p1 : TState) (p2 : Int) : Option Bool :=
  ((X.i_fits p0 p1).bind fun v1 => (bif v1 then ((X.i_isSide p2).bind fun v4 => some v4) else some false))
theorem i_isLook_ok (p0 : TBoard) (p1 : TState) (p2 : Int) (r : Bool) (H : X.i_isLook p0 p1 p2 = some r) : FnOk Tryz.prog gl 99 [.agg (eTBoard p0), .agg (eTState p1), cI p2] (cB r) := by
  unfold X.i_isLook at H
  refine fn_in (fn := Tryz.f99) (ir := i_isLook_ir) (s1 := lit [(6, cB r)] []) Tryz.func99 (by kernel_rfl) (by kernel_rfl) (by kernel_rfl) (by kernel_rfl) (by kernel_rfl) ?_
  refine seq_ops [] [] [(2, cI p2), (3, .c (.pk 3 0)), (4, .c (.pk 4 0))] [(3, .var (eTBoard p0) false), (4, .var (eTState p1) false)] (fun t => t) (by kernel_rfl) ?_
  obtain ⟨v1, h2, H⟩ := ofBind H
  rcases ofCond H with ⟨c3, H⟩ | ⟨c3, H⟩
  · obtain ⟨v4, h5, H⟩ := ofBind H
    refine seq_ops [.res (cB v1), .g true, .g true, .res (cB v4), .g true] [] [(6, cB v4)] [] (fun t => aI (i_fits_ok p0 p1 v1 h2) (aI c3 (aI c3 (aI (i_isSide_ok p2 v4 h5) (aI c3 (t)))))) (by kernel_rfl) ?_
    refine ends_ret ?_
    obtain rfl := Option.some.inj H
    exact And.intro (.inl rfl) rfl
  · refine seq_ops [.res (cB v1), .g false, .g false, .g false] [] [(6, cB false)] [] (fun t => aI (i_fits_ok p0 p1 v1 h2) (aI c3 (aI c3 (aI c3 (t))))) (by kernel_rfl) ?_
    refine ends_ret ?_
    obtain rfl := Option.some.inj H
    exact And.intro (.inl rfl) rfl

def i_hexesThat_ir : S :=
 (.seq (.ops [⟨some 2, .box 12 (.t 0), none⟩, ⟨some 4, .mv (.v (.nil)), none⟩])
 (.seq (.ops [⟨some 7, .bsl 1 [], none⟩, ⟨some 5, .mv (.t 7), none⟩])
 (.seq (.seq (.ops [⟨some 8, .fad 7 (.t 2), none⟩, ⟨some 9, .fad 2 (.t 8), none⟩, ⟨some 10, .load 1 false (.t 9), none⟩, ⟨some 11, .len (.t 10), none⟩, ⟨some 12, .mv (.v (.int .i64 0)), none⟩])
 (.blk 0 (.loop (.seq (.ops [⟨some 13, .bin .lss (.t 12) (.t 11), none⟩])
   (.seq (.ite (.t 13) .skip
   (.exit 0))
   (.seq (.blk 1 (.seq (.ops [⟨some 14, .mv (.t 12), none⟩, ⟨some 6, .mv (.t 14), none⟩])
    (.seq (.ops [⟨some 15, .mv (.t 1), none⟩, ⟨some 16, .mv (.t 6), none⟩, ⟨some 17, .cald (.t 15) [.t 16], none⟩])
    (.ite (.t 17) (.ops [⟨some 18, .mv (.t 5), none⟩, ⟨some 19, .mv (.t 6), none⟩, ⟨some 20, .bsl 1 [.t 19], none⟩, ⟨some 21, .app 1 8 (.t 18) (.t 20), none⟩, ⟨some 5, .mv (.t 21), none⟩])
    .skip))))
   (.ops [⟨some 22, .bin .add (.t 12) (.v (.int .i64 1)), none⟩, ⟨some 12, .mv (.t 22), none⟩])))))))
 (.seq (.ops [⟨some 23, .mv (.t 5), none⟩, ⟨some 4, .mv (.t 23), none⟩])
 .ret))))
noncomputable def X.i_hexesThat (p0 : TBoard) (f1 : Int → Option Bool) : Option (List Int) :=
  ((loop (fun (x14 : (Int × (List Int))) => ((bif (decide (x14.1 < (p0.Map.Terrain.length : Int))) then ((f1 x14.1).bind fun v17 => (bif v17 then (if (x14.2 ++ ([x14.1] : List Int)).length ≤ LIM then some (Sum.inl ((W (x14.1 + 1)), (x14.2 ++ ([x14.1] : List Int)))) else none) else some (Sum.inl ((W (x14.1 + 1)), x14.2)))) else some (Sum.inr x14.2)) : Option ((Int × (List Int)) ⊕ (List Int)))) (0, ([] : List Int))).bind fun y21 => some y21)
theorem i_hexesThat_c3_ok (p0 : TBoard) (cf1 : FuncId) (cs1_0 : List AC) (cs1_1 : List AC) (cs1_2 : List AC) (f1 : Int → Option Bool) (hf1 : ∀ q0 r, f1 q0 = some r → FnOk Tryz.prog gl cf1 [cI q0, .c (.pd cs1_0 0), .c (.pd cs1_1 0), .c (.pd cs1_2 0)] (cB r)) (r : (List Int)) (H : X.i_hexesThat p0 f1 = some r) : FnOk Tryz.prog gl 138 [.agg (eTBoard p0), .c (.clo cf1 [.pd cs1_0 0, .pd cs1_1 0, .pd cs1_2 0])] (.c (dat 1 eI zI r)) := by
  unfold X.i_hexesThat at H
  refine fn_in (fn := Tryz.f138) (ir := i_hexesThat_ir) (s1 := lit [(4, .c (dat 1 eI zI r))] []) Tryz.func138 (by kernel_rfl) (by kernel_rfl) (by kernel_rfl) (by kernel_rfl) (by kernel_rfl) ?_
  refine seq_ops [] [] [(1, .c (.clo cf1 [.pd cs1_0 0, .pd cs1_1 0, .pd cs1_2 0])), (2, .c (.pk 2 0))] [(2, .var (eTBoard p0) false)] (fun t => t) (by kernel_rfl) ?_
  refine seq_ops [.fn ([] : List Int).length (fF eI zI ([] : List Int))] [] [(1, .c (.clo cf1 [.pd cs1_0 0, .pd cs1_1 0, .pd cs1_2 0])), (2, .c (.pk 2 0)), (5, .c (.own 7 1 0 (([] : List Int).length)))] [(2, .var (eTBoard p0) false), (7, .arr 1 (([] : List Int).length) (fF eI zI ([] : List Int)) false)] (fun t => aI (rfl : ([] : List Int).length = 0) (aI (fF_lit eI zI ([] : List Int)) (t))) (by kernel_rfl) ?_
  refine seq_in ?_
  refine seq_ops [] [] [(1, .c (.clo cf1 [.pd cs1_0 0, .pd cs1_1 0, .pd cs1_2 0])), (5, .c (.own 7 1 0 (([] : List Int).length))), (11, cI (p0.Map.Terrain.length : Int)), (12, cI 0)] [(7, .arr 1 (([] : List Int).length) (fF eI zI ([] : List Int)) false)] (fun t => lI p0.Map.Terrain (t)) (by kernel_rfl) ?_
  refine ends_blk ?_
  obtain ⟨y21, h22, H⟩ := ofBind H
  refine tell [.ren 7 1001] [(1, .c (.clo cf1 [.pd cs1_0 0, .pd cs1_1 0, .pd cs1_2 0])), (5, .c (.own 1001 1 0 (([] : List Int).length))), (11, cI (p0.Map.Terrain.length : Int)), (12, cI 0)] [(1001, .arr 1 (([] : List Int).length) (fF eI zI ([] : List Int)) false)] (fun t => t) (by kernel_rfl) ?_
  refine loop_in (fun (x : (Int × (List Int))) => lit [(1, .c (.clo cf1 [.pd cs1_0 0, .pd cs1_1 0, .pd cs1_2 0])), (5, .c (.own 1001 1 0 x.2.length)), (11, cI (p0.Map.Terrain.length : Int)), (12, cI x.1)] [(1001, .arr 1 x.2.length (fF eI zI x.2) false)]) (fun (z : (List Int)) => At (.exit 0) (lit [(5, .c (.own 1001 1 0 z.length))] [(1001, .arr 1 z.length (fF eI zI z) false)])) h22 ?_ ?_
  · clear H h22
    intro x14 y0 H
    refine seq_ops [] [] [(1, .c (.clo cf1 [.pd cs1_0 0, .pd cs1_1 0, .pd cs1_2 0])), (5, .c (.own 1001 1 0 x14.2.length)), (11, cI (p0.Map.Terrain.length : Int)), (12, cI x14.1), (13, cB (decide (x14.1 < (p0.Map.Terrain.length : Int))))] [(1001, .arr 1 x14.2.length (fF eI zI x14.2) false)] (fun t => t) (by kernel_rfl) ?_
    refine seq_in ?_
    rcases ofCond H with ⟨c16, H⟩ | ⟨c16, H⟩
    · refine ite_t c16 (by kernel_rfl) ?_
      refine ends_skip ?_
      change EndsI _ _ _ _ _ _
      refine seq_in ?_
      refine ends_blk ?_
      refine seq_ops [] [] [(1, .c (.clo cf1 [.pd cs1_0 0, .pd cs1_1 0, .pd cs1_2 0])), (5, .c (.own 1001 1 0 x14.2.length)), (6, cI x14.1), (11, cI (p0.Map.Terrain.length : Int)), (12, cI x14.1)] [(1001, .arr 1 x14.2.length (fF eI zI x14.2) false)] (fun t => t) (by kernel_rfl) ?_
      obtain ⟨v17, h18, H⟩ := ofBind H
      refine seq_ops [.res (cB v17)] [] [(1, .c (.clo cf1 [.pd cs1_0 0, .pd cs1_1 0, .pd cs1_2 0])), (5, .c (.own 1001 1 0 x14.2.length)), (6, cI x14.1), (11, cI (p0.Map.Terrain.length : Int)), (12, cI x14.1), (17, cB v17)] [(1001, .arr 1 x14.2.length (fF eI zI x14.2) false)] (fun t => aI (hf1 x14.1 v17 h18) (t)) (by kernel_rfl) ?_
      rcases ofCond H with ⟨c19, H⟩ | ⟨c19, H⟩
      · refine ite_t c19 (by kernel_rfl) ?_
        obtain ⟨g20, H⟩ := ofIf H
        refine one_ops [.fn ([x14.1] : List Int).length (fF eI zI ([x14.1] : List Int)), .fn (x14.2 ++ ([x14.1] : List Int)).length (fF eI zI (x14.2 ++ ([x14.1] : List Int)))] [] [(1, .c (.clo cf1 [.pd cs1_0 0, .pd cs1_1 0, .pd cs1_2 0])), (5, .c (.own 21 1 0 ((x14.2 ++ ([x14.1] : List Int)).length))), (11, cI (p0.Map.Terrain.length : Int)), (12, cI x14.1)] [(21, .arr 1 ((x14.2 ++ ([x14.1] : List Int)).length) (fF eI zI (x14.2 ++ ([x14.1] : List Int))) false)] (fun t => aI (rfl : ([x14.1] : List Int).length = 1) (aI (fF_lit eI zI ([x14.1] : List Int)) (aI (And.intro (Nat.le_refl x14.2.length) (And.intro (@List.length_append _ x14.2 ([x14.1] : List Int)) g20)) (aI (fF_appL eI zI x14.2 ([x14.1] : List Int)) (aI (fF_appR eI zI x14.2 ([x14.1] : List Int)) (t)))))) (by kernel_rfl) ?_
        change EndsI _ _ _ _ _ _
        refine one_ops [] [.ren 21 1001] [(1, .c (.clo cf1 [.pd cs1_0 0, .pd cs1_1 0, .pd cs1_2 0])), (5, .c (.own 1001 1 0 ((x14.2 ++ ([x14.1] : List Int)).length))), (11, cI (p0.Map.Terrain.length : Int)), (12, cI (W (x14.1 + 1)))] [(1001, .arr 1 ((x14.2 ++ ([x14.1] : List Int)).length) (fF eI zI (x14.2 ++ ([x14.1] : List Int))) false)] (fun t => t) (by kernel_rfl) ?_
        obtain rfl := Option.some.inj H
        exact And.intro rfl rfl
      · refine ite_f c19 (by kernel_rfl) ?_
        refine ends_skip ?_
        change EndsI _ _ _ _ _ _
        refine one_ops [] [] [(1, .c (.clo cf1 [.pd cs1_0 0, .pd cs1_1 0, .pd cs1_2 0])), (5, .c (.own 1001 1 0 x14.2.length)), (11, cI (p0.Map.Terrain.length : Int)), (12, cI (W (x14.1 + 1)))] [(1001, .arr 1 x14.2.length (fF eI zI x14.2) false)] (fun t => t) (by kernel_rfl) ?_
        obtain rfl := Option.some.inj H
        exact And.intro rfl rfl
    · refine ite_f c16 (by kernel_rfl) ?_
      refine tell [] [(5, .c (.own 1001 1 0 x14.2.length))] [(1001, .arr 1 x14.2.length (fF eI zI x14.2) false)] (fun t => t) (by kernel_rfl) ?_
      refine ends_exit ?_
      obtain rfl := Option.some.inj H
      exact And.intro (by simp) (And.intro rfl rfl)
  · clear h22
    intro e s q
    obtain ⟨rfl, rfl⟩ := q
    change EndsI _ _ _ _ _ _
    refine seq_ops [] [] [(4, .c (.own 1001 1 0 y21.length))] [(1001, .arr 1 y21.length (fF eI zI y21) false)] (fun t => t) (by kernel_rfl) ?_
    refine tell [.frz 4] [(4, .c (dat 1 eI zI y21))] [] (fun t => aI (Nat.le_refl y21.length) (t)) (by kernel_rfl) ?_
    refine ends_ret ?_
    obtain rfl := Option.some.inj H
    exact And.intro (.inl rfl) rfl

def i_ownerOf_ir : S :=
 (.seq (.ops [⟨some 2, .box 3 (.t 0), none⟩, ⟨some 4, .mv (.v (.int .i64 0)), none⟩])
 (.seq (.seq (.ops [⟨some 7, .fad 2 (.t 2), none⟩, ⟨some 8, .load 1 false (.t 7), none⟩, ⟨some 9, .len (.t 8), none⟩, ⟨some 10, .mv (.v (.int .i64 0)), none⟩])
 (.blk 0 (.loop (.seq (.ops [⟨some 11, .bin .lss (.t 10) (.t 9), none⟩])
   (.seq (.ite (.t 11) .skip
   (.exit 0))
   (.seq (.blk 1 (.seq (.ops [⟨some 12, .iad 4 (.t 8) (.t 10), none⟩, ⟨some 13, .load 4 true (.t 12), none⟩, ⟨some 6, .alloc [.int .i64 0, .int .i64 0, .int .i64 0, .int .i64 0], none⟩, ⟨none, .store 4 (.t 6) (.t 13), none⟩])
    (.seq (.ops [⟨some 14, .fad 2 (.t 6), none⟩, ⟨some 15, .load 1 false (.t 14), none⟩, ⟨some 16, .mv (.t 1), none⟩, ⟨some 17, .bin .eql (.t 15) (.t 16), none⟩])
    (.ite (.t 17) (.seq (.ops [⟨some 18, .fad 0 (.t 6), none⟩, ⟨some 19, .load 1 false (.t 18), none⟩, ⟨some 4, .mv (.t 19), none⟩])
     .ret)
    .skip))))
   (.ops [⟨some 20, .bin .add (.t 10) (.v (.int .i64 1)), none⟩, ⟨some 10, .mv (.t 20), none⟩])))))))
 (.seq (.ops [⟨some 4, .mv (.v (.int .i64 (-1))), none⟩])
 .ret)))
noncomputable def X.i_ownerOf (p0 : TState) (p1 : Int) : Option Int :=
  ((loop (fun (x12 : Int) => ((bif (decide (x12 < (p0.Units.length : Int))) then ((at' zTUnit p0.Units x12).bind fun v15 => (bif (v15.At == p1) then some (Sum.inr (Sum.inr v15.Side)) else some (Sum.inl (W (x12 + 1))))) else some (Sum.inr (Sum.inl ()))) : Option (Int ⊕ (Unit ⊕ Int)))) 0).bind fun y18 => (Sum.elim (fun (y20 : Unit) => some (-1)) (fun (y21 : Int) => some y21) y18))
theorem i_ownerOf_ok (p0 : TState) (p1 : Int) (r : Int) (H : X.i_ownerOf p0 p1 = some r) : FnOk Tryz.prog gl 217 [.agg (eTState p0), cI p1] (cI r) := by
  unfold X.i_ownerOf at H
  refine fn_in (fn := Tryz.f217) (ir := i_ownerOf_ir) (s1 := lit [(4, cI r)] []) Tryz.func217 (by kernel_rfl) (by kernel_rfl) (by kernel_rfl) (by kernel_rfl) (by kernel_rfl) ?_
  refine seq_ops [] [] [(1, cI p1), (2, .c (.pk 2 0))] [(2, .var (eTState p0) false)] (fun t => t) (by kernel_rfl) ?_
  refine seq_in ?_
  refine seq_ops [] [] [(1, cI p1), (8, .c (dat 4 eTUnit zTUnit p0.Units)), (9, cI (p0.Units.length : Int)), (10, cI 0)] [] (fun t => lI p0.Units (t)) (by kernel_rfl) ?_
  refine ends_blk ?_
  obtain ⟨y18, h19, H⟩ := ofBind H
  refine loop_in (fun (x : Int) => lit [(1, cI p1), (8, .c (dat 4 eTUnit zTUnit p0.Units)), (9, cI (p0.Units.length : Int)), (10, cI x)] []) (orJ (fun (z : Unit) => At (.exit 0) (lit [] [])) (fun (z : Int) => At .ret (lit [(4, cI z)] []))) h19 ?_ ?_
  · clear H h19
    intro x12 y0 H
    refine seq_ops [] [] [(1, cI p1), (8, .c (dat 4 eTUnit zTUnit p0.Units)), (9, cI (p0.Units.length : Int)), (10, cI x12), (11, cB (decide (x12 < (p0.Units.length : Int))))] [] (fun t => t) (by kernel_rfl) ?_
    refine seq_in ?_
    rcases ofCond H with ⟨c14, H⟩ | ⟨c14, H⟩
    · refine ite_t c14 (by kernel_rfl) ?_
      refine ends_skip ?_
      change EndsI _ _ _ _ _ _
      refine seq_in ?_
      refine ends_blk ?_
      obtain ⟨v15, h16, H⟩ := ofBind H
      refine seq_ops [.cs (eTUnit v15)] [] [(1, cI p1), (6, .c (.pk 6 0)), (8, .c (dat 4 eTUnit zTUnit p0.Units)), (9, cI (p0.Units.length : Int)), (10, cI x12)] [(6, .var (eTUnit v15) false)] (fun t => aI (at_lt h16) (aI (at_enc (enc := eTUnit) h16) (t))) (by kernel_rfl) ?_
      refine seq_ops [] [] [(1, cI p1), (6, .c (.pk 6 0)), (8, .c (dat 4 eTUnit zTUnit p0.Units)), (9, cI (p0.Units.length : Int)), (10, cI x12), (17, cB (v15.At == p1))] [(6, .var (eTUnit v15) false)] (fun t => t) (by kernel_rfl) ?_
      rcases ofCond H with ⟨c17, H⟩ | ⟨c17, H⟩
      · refine ite_t c17 (by kernel_rfl) ?_
        refine seq_ops [] [] [(4, cI v15.Side)] [] (fun t => t) (by kernel_rfl) ?_
        refine ends_ret ?_
        obtain rfl := Option.some.inj H
        exact And.intro (by simp) (And.intro rfl rfl)
      · refine ite_f c17 (by kernel_rfl) ?_
        refine ends_skip ?_
        change EndsI _ _ _ _ _ _
        refine one_ops [] [] [(1, cI p1), (8, .c (dat 4 eTUnit zTUnit p0.Units)), (9, cI (p0.Units.length : Int)), (10, cI (W (x12 + 1)))] [] (fun t => t) (by kernel_rfl) ?_
        obtain rfl := Option.some.inj H
        exact And.intro rfl rfl
    · refine ite_f c14 (by kernel_rfl) ?_
      refine tell [] [] [] (fun t => t) (by kernel_rfl) ?_
      refine ends_exit ?_
      obtain rfl := Option.some.inj H
      exact And.intro (by simp) (And.intro rfl rfl)
  · clear h19
    cases y18 with
    | inl y20 =>
      replace H := ofInl H
      intro e s q
      obtain ⟨rfl, rfl⟩ := q
      change EndsI _ _ _ _ _ _
      refine seq_ops [] [] [(4, cI (-1))] [] (fun t => t) (by kernel_rfl) ?_
      refine ends_ret ?_
      obtain rfl := Option.some.inj H
      exact And.intro (.inl rfl) rfl
    | inr y21 =>
      replace H := ofInr H
      intro e s q
      obtain ⟨rfl, rfl⟩ := q
      obtain rfl := Option.some.inj H
      exact And.intro (.inl rfl) rfl

def i_edgeOf_ir : S :=
 (.seq (.ops [⟨some 3, .box 5 (.t 0), none⟩, ⟨some 6, .mv (.v (.int .i64 0)), none⟩])
 (.seq (.ops [⟨some 8, .load 5 true (.t 3), none⟩, ⟨some 9, .mv (.t 1), none⟩, ⟨some 10, .mv (.t 2), none⟩, ⟨some 11, .call 158 [.t 8, .t 9, .t 10], none⟩, ⟨some 7, .mv (.t 11), none⟩])
 (.seq (.blk 0 (.seq (.ops [⟨some 13, .mv (.t 7), none⟩, ⟨some 14, .bin .lss (.t 13) (.v (.int .i64 0)), none⟩, ⟨some 12, .mv (.t 14), none⟩])
  (.ite (.t 12) (.seq (.ops [⟨some 6, .mv (.v (.int .i64 (-1))), none⟩])
   .ret)
  (.seq (.ops [⟨some 16, .mv (.t 2), none⟩, ⟨some 17, .bin .lss (.t 16) (.v (.int .i64 3)), none⟩, ⟨some 15, .mv (.t 17), none⟩])
   (.ite (.t 15) (.seq (.ops [⟨some 18, .mv (.t 1), none⟩, ⟨some 19, .bin .mul (.v (.int .i64 3)) (.t 18), none⟩, ⟨some 20, .mv (.t 2), none⟩, ⟨some 21, .bin .add (.t 19) (.t 20), none⟩, ⟨some 6, .mv (.t 21), none⟩])
    .ret)
   .skip)))))
 (.seq (.ops [⟨some 22, .mv (.t 7), none⟩, ⟨some 23, .bin .mul (.v (.int .i64 3)) (.t 22), none⟩, ⟨some 24, .mv (.t 2), none⟩, ⟨some 25, .bin .add (.t 23) (.t 24), none⟩, ⟨some 26, .bin .sub (.t 25) (.v (.int .i64 3)), none⟩, ⟨some 6, .mv (.t 26), none⟩])
 .ret))))
noncomputable def X.i_edgeOf (p0 : TMap) (p1 : Int) (p2 : Int) : Option Int :=
  ((X.i_nextTo p0 p1 p2).bind fun v1 => (bif (decide (v1 < 0)) then some (-1) else (bif (decide (p2 < 3)) then some (W ((W (3 * p1)) + p2)) else some (W ((W ((W (3 * v1)) + p2)) - 3)))))
theorem i_edgeOf_ok (p0 : TMap) (p1 : Int) (p2 : Int) (r : Int) (H : X.i_edgeOf p0 p1 p2 = some r) : FnOk Tryz.prog gl 240 [.agg (eTMap p0), cI p1, cI p2] (cI r) := by
  unfold X.i_edgeOf at H
  refine fn_in (fn := Tryz.f240) (ir := i_edgeOf_ir) (s1 := lit [(6, cI r)] []) Tryz.func240 (by kernel_rfl) (by kernel_rfl) (by kernel_rfl) (by kernel_rfl) (by kernel_rfl) ?_
  refine seq_ops [] [] [(1, cI p1), (2, cI p2), (3, .c (.pk 3 0))] [(3, .var (eTMap p0) false)] (fun t => t) (by kernel_rfl) ?_
  obtain ⟨v1, h2, H⟩ := ofBind H
  refine seq_ops [.res (cI v1)] [] [(1, cI p1), (2, cI p2), (7, cI v1)] [] (fun t => aI (i_nextTo_ok p0 p1 p2 v1 h2) (t)) (by kernel_rfl) ?_
  refine seq_in ?_
  refine ends_blk ?_
  refine seq_ops [] [] [(1, cI p1), (2, cI p2), (7, cI v1), (12, cB (decide (v1 < 0)))] [] (fun t => t) (by kernel_rfl) ?_
  rcases ofCond H with ⟨c3, H⟩ | ⟨c3, H⟩
  · refine ite_t c3 (by kernel_rfl) ?_
    refine seq_ops [] [] [(6, cI (-1))] [] (fun t => t) (by kernel_rfl) ?_
    refine ends_ret ?_
    obtain rfl := Option.some.inj H
    exact And.intro (.inl rfl) rfl
  · refine ite_f c3 (by kernel_rfl) ?_
    refine seq_ops [] [] [(1, cI p1), (2, cI p2), (7, cI v1), (15, cB (decide (p2 < 3)))] [] (fun t => t) (by kernel_rfl) ?_
    rcases ofCond H with ⟨c4, H⟩ | ⟨c4, H⟩
    · refine ite_t c4 (by kernel_rfl) ?_
      refine seq_ops [] [] [(6, cI (W ((W (3 * p1)) + p2)))] [] (fun t => t) (by kernel_rfl) ?_
      refine ends_ret ?_
      obtain rfl := Option.some.inj H
      exact And.intro (.inl rfl) rfl
    · refine ite_f c4 (by kernel_rfl) ?_
      refine ends_skip ?_
      change EndsI _ _ _ _ _ _
      refine seq_ops [] [] [(6, cI (W ((W ((W (3 * v1)) + p2)) - 3)))] [] (fun t => t) (by kernel_rfl) ?_
      refine ends_ret ?_
      obtain rfl := Option.some.inj H
      exact And.intro (.inl rfl) rfl

def g_Index_int_ir : S :=
 (.seq (.ops [⟨some 4, .mv (.v (.int .i64 0)), none⟩])
 (.seq (.seq (.ops [⟨some 6, .mv (.t 0), none⟩, ⟨some 7, .len (.t 6), none⟩, ⟨some 8, .mv (.v (.int .i64 0)), none⟩])
 (.blk 0 (.loop (.seq (.ops [⟨some 9, .bin .lss (.t 8) (.t 7), none⟩])
   (.seq (.ite (.t 9) .skip
   (.exit 0))
   (.seq (.blk 1 (.seq (.ops [⟨some 10, .mv (.t 8), none⟩, ⟨some 5, .mv (.t 10), none⟩])
    (.seq (.ops [⟨some 11, .mv (.t 1), none⟩, ⟨some 12, .mv (.t 0), none⟩, ⟨some 13, .mv (.t 5), none⟩, ⟨some 14, .iad 1 (.t 12) (.t 13), none⟩, ⟨some 15, .load 1 false (.t 14), none⟩, ⟨some 16, .bin .eql (.t 11) (.t 15), none⟩])
    (.ite (.t 16) (.seq (.ops [⟨some 17, .mv (.t 5), none⟩, ⟨some 4, .mv (.t 17), none⟩])
     .ret)
    .skip))))
   (.ops [⟨some 18, .bin .add (.t 8) (.v (.int .i64 1)), none⟩, ⟨some 8, .mv (.t 18), none⟩])))))))
 (.seq (.ops [⟨some 4, .mv (.v (.int .i64 (-1))), none⟩])
 .ret)))
noncomputable def X.g_Index_int (p0 : (List Int)) (p1 : Int) : Option Int :=
  ((loop (fun (x12 : Int) => ((bif (decide (x12 < (p0.length : Int))) then ((at' zI p0 x12).bind fun v15 => (bif (p1 == v15) then some (Sum.inr (Sum.inr x12)) else some (Sum.inl (W (x12 + 1))))) else some (Sum.inr (Sum.inl ()))) : Option (Int ⊕ (Unit ⊕ Int)))) 0).bind fun y18 => (Sum.elim (fun (y20 : Unit) => some (-1)) (fun (y21 : Int) => some y21) y18))
theorem g_Index_int_ok (p0 : (List Int)) (p1 : Int) (r : Int) (H : X.g_Index_int p0 p1 = some r) : FnOk Tryz.prog gl 202 [.c (dat 1 eI zI p0), cI p1] (cI r) := by
  unfold X.g_Index_int at H
  refine fn_in (fn := Tryz.f202) (ir := g_Index_int_ir) (s1 := lit [(4, cI r)] []) Tryz.func202 (by kernel_rfl) (by kernel_rfl) (by kernel_rfl) (by kernel_rfl) (by kernel_rfl) ?_
  refine seq_ops [] [] [(0, .c (dat 1 eI zI p0)), (1, cI p1)] [] (fun t => t) (by kernel_rfl) ?_
  refine seq_in ?_
  refine seq_ops [] [] [(0, .c (dat 1 eI zI p0)), (1, cI p1), (7, cI (p0.length : Int)), (8, cI 0)] [] (fun t => lI p0 (t)) (by kernel_rfl) ?_
  refine ends_blk ?_
  obtain ⟨y18, h19, H⟩ := ofBind H
  refine loop_in (fun (x : Int) => lit [(0, .c (dat 1 eI zI p0)), (1, cI p1), (7, cI (p0.length : Int)), (8, cI x)] []) (orJ (fun (z : Unit) => At (.exit 0) (lit [] [])) (fun (z : Int) => At .ret (lit [(4, cI z)] []))) h19 ?_ ?_
  · clear H h19
    intro x12 y0 H
    refine seq_ops [] [] [(0, .c (dat 1 eI zI p0)), (1, cI p1), (7, cI (p0.length : Int)), (8, cI x12), (9, cB (decide (x12 < (p0.length : Int))))] [] (fun t => t) (by kernel_rfl) ?_
    refine seq_in ?_
    rcases ofCond H with ⟨c14, H⟩ | ⟨c14, H⟩
    · refine ite_t c14 (by kernel_rfl) ?_
      refine ends_skip ?_
      change EndsI _ _ _ _ _ _
      refine seq_in ?_
      refine ends_blk ?_
      refine seq_ops [] [] [(0, .c (dat 1 eI zI p0)), (1, cI p1), (5, cI x12), (7, cI (p0.length : Int)), (8, cI x12)] [] (fun t => t) (by kernel_rfl) ?_
      obtain ⟨v15, h16, H⟩ := ofBind H
      refine seq_ops [.cs (eI v15)] [] [(0, .c (dat 1 eI zI p0)), (1, cI p1), (5, cI x12), (7, cI (p0.length : Int)), (8, cI x12), (16, cB (p1 == v15))] [] (fun t => aI (at_lt h16) (aI (at_enc (enc := eI) h16) (t))) (by kernel_rfl) ?_
      rcases ofCond H with ⟨c17, H⟩ | ⟨c17, H⟩
      · refine ite_t c17 (by kernel_rfl) ?_
        refine seq_ops [] [] [(4, cI x12)] [] (fun t => t) (by kernel_rfl) ?_
        refine ends_ret ?_
        obtain rfl := Option.some.inj H
        exact And.intro (by simp) (And.intro rfl rfl)
      · refine ite_f c17 (by kernel_rfl) ?_
        refine ends_skip ?_
        change EndsI _ _ _ _ _ _
        refine one_ops [] [] [(0, .c (dat 1 eI zI p0)), (1, cI p1), (7, cI (p0.length : Int)), (8, cI (W (x12 + 1)))] [] (fun t => t) (by kernel_rfl) ?_
        obtain rfl := Option.some.inj H
        exact And.intro rfl rfl
    · refine ite_f c14 (by kernel_rfl) ?_
      refine tell [] [] [] (fun t => t) (by kernel_rfl) ?_
      refine ends_exit ?_
      obtain rfl := Option.some.inj H
      exact And.intro (by simp) (And.intro rfl rfl)
  · clear h19
    cases y18 with
    | inl y20 =>
      replace H := ofInl H
      intro e s q
      obtain ⟨rfl, rfl⟩ := q
      change EndsI _ _ _ _ _ _
      refine seq_ops [] [] [(4, cI (-1))] [] (fun t => t) (by kernel_rfl) ?_
      refine ends_ret ?_
      obtain rfl := Option.some.inj H
      exact And.intro (.inl rfl) rfl
    | inr y21 =>
      replace H := ofInr H
      intro e s q
      obtain ⟨rfl, rfl⟩ := q
      obtain rfl := Option.some.inj H
      exact And.intro (.inl rfl) rfl

def g_Contains_int_ir : S :=
 (.seq (.ops [⟨some 4, .mv (.v (.bool false)), none⟩])
 (.seq (.ops [⟨some 5, .mv (.t 0), none⟩, ⟨some 6, .mv (.t 1), none⟩, ⟨some 7, .call 202 [.t 5, .t 6], none⟩, ⟨some 8, .bin .geq (.t 7) (.v (.int .i64 0)), none⟩, ⟨some 4, .mv (.t 8), none⟩])
 .ret))
noncomputable def X.g_Contains_int (p0 : (List Int)) (p1 : Int) : Option Bool :=
  ((X.g_Index_int p0 p1).bind fun v1 => some (decide (v1 ≥ 0)))
theorem g_Contains_int_ok (p0 : (List Int)) (p1 : Int) (r : Bool) (H : X.g_Contains_int p0 p1 = some r) : FnOk Tryz.prog gl 142 [.c (dat 1 eI zI p0), cI p1] (cB r) := by
  unfold X.g_Contains_int at H
  refine fn_in (fn := Tryz.f142) (ir := g_Contains_int_ir) (s1 := lit [(4, cB r)] []) Tryz.func142 (by kernel_rfl) (by kernel_rfl) (by kernel_rfl) (by kernel_rfl) (by kernel_rfl) ?_
  refine seq_ops [] [] [(0, .c (dat 1 eI zI p0)), (1, cI p1)] [] (fun t => t) (by kernel_rfl) ?_
  obtain ⟨v1, h2, H⟩ := ofBind H
  refine seq_ops [.res (cI v1)] [] [(4, cB (decide (v1 ≥ 0)))] [] (fun t => aI (g_Index_int_ok p0 p1 v1 h2) (t)) (by kernel_rfl) ?_
  refine ends_ret ?_
  obtain rfl := Option.some.inj H
  exact And.intro (.inl rfl) rfl

def i_crossesFreely_ir : S :=
 (.seq (.ops [⟨some 2, .box 5 (.t 0), none⟩, ⟨some 4, .mv (.v (.bool false)), none⟩])
 (.seq (.ops [⟨some 5, .fad 3 (.t 2), none⟩, ⟨some 6, .load 1 false (.t 5), none⟩, ⟨some 7, .mv (.t 1), none⟩, ⟨some 8, .call 142 [.t 6, .t 7], none⟩, ⟨some 9, .not (.t 8), none⟩, ⟨some 10, .mv (.t 9), none⟩, ⟨some 11, .fad 4 (.t 2), some (10, false)⟩, ⟨some 12, .load 1 false (.t 11), some (10, false)⟩, ⟨some 13, .mv (.t 1), some (10, false)⟩, ⟨some 14, .call 142 [.t 12, .t 13], some (10, false)⟩, ⟨some 15, .pick (.t 10) (.v (.bool true)) (.t 14), none⟩, ⟨some 4, .mv (.t 15), none⟩])
 .ret))
noncomputable def X.i_crossesFreely (p0 : TMap) (p1 : Int) : Option Bool :=
  ((X.g_Contains_int p0.Rivers p1).bind fun v1 => (bif (!v1) then some true else ((X.g_Contains_int p0.Roads p1).bind fun v4 => some v4)))
theorem i_crossesFreely_ok (p0 : TMap) (p1 : Int) (r : Bool) (H : X.i_crossesFreely p0 p1 = some r) : FnOk Tryz.prog gl 252 [.agg (eTMap p0), cI p1] (cB r) := by
  unfold X.i_crossesFreely at H
  refine fn_in (fn := Tryz.f252) (ir := i_crossesFreely_ir) (s1 := lit [(4, cB r)] []) Tryz.func252 (by kernel_rfl) (by kernel_rfl) (by kernel_rfl) (by kernel_rfl) (by kernel_rfl) ?_
  refine seq_ops [] [] [(1, cI p1), (2, .c (.pk 2 0))] [(2, .var (eTMap p0) false)] (fun t => t) (by kernel_rfl) ?_
  obtain ⟨v1, h2, H⟩ := ofBind H
  rcases ofCond H with ⟨c3, H⟩ | ⟨c3, H⟩
  · refine seq_ops [.res (cB v1), .g true, .g true, .g true, .g true, .g true] [] [(4, cB true)] [] (fun t => aI (g_Contains_int_ok p0.Rivers p1 v1 h2) (aI c3 (aI c3 (aI c3 (aI c3 (aI c3 (t))))))) (by kernel_rfl) ?_
    refine ends_ret ?_
    obtain rfl := Option.some.inj H
    exact And.intro (.inl rfl) rfl
  · obtain ⟨v4, h5, H⟩ := ofBind H
    refine seq_ops [.res (cB v1), .g false, .g false, .g false, .g false, .res (cB v4), .g false] [] [(4, cB v4)] [] (fun t => aI (g_Contains_int_ok p0.Rivers p1 v1 h2) (aI c3 (aI c3 (aI c3 (aI c3 (aI (g_Contains_int_ok p0.Roads p1 v4 h5) (aI c3 (t)))))))) (by kernel_rfl) ?_
    refine ends_ret ?_
    obtain rfl := Option.some.inj H
    exact And.intro (.inl rfl) rfl

def i_controls_ir : S :=
 (.seq (.ops [⟨some 3, .box 12 (.t 0), none⟩, ⟨some 4, .box 4 (.t 1), none⟩, ⟨some 6, .mv (.v (.bool false)), none⟩])
 (.seq (.seq (.ops [⟨some 8, .fad 2 (.t 4), none⟩, ⟨some 9, .load 1 false (.t 8), none⟩, ⟨some 10, .bin .lss (.t 9) (.v (.int .i64 0)), none⟩, ⟨some 11, .mv (.t 10), none⟩, ⟨some 12, .fad 0 (.t 3), some (11, false)⟩, ⟨some 13, .fad 1 (.t 12), some (11, false)⟩, ⟨some 14, .load 1 false (.t 13), some (11, false)⟩, ⟨some 15, .fad 1 (.t 4), some (11, false)⟩, ⟨some 16, .load 1 false (.t 15), some (11, false)⟩, ⟨some 17, .iad 6 (.t 14) (.t 16), some (11, false)⟩, ⟨some 18, .fad 4 (.t 17), some (11, false)⟩, ⟨some 19, .load 1 false (.t 18), some (11, false)⟩, ⟨some 20, .not (.t 19), some (11, false)⟩, ⟨some 21, .pick (.t 11) (.v (.bool true)) (.t 20), none⟩, ⟨some 22, .mv (.t 21), none⟩, ⟨some 23, .load 12 true (.t 3), some (22, false)⟩, ⟨some 24, .fad 1 (.t 4), some (22, false)⟩, ⟨some 25, .load 1 false (.t 24), some (22, false)⟩, ⟨some 26, .mv (.t 2), some (22, false)⟩, ⟨some 27, .call 143 [.t 23, .t 25, .t 26], some (22, false)⟩, ⟨some 28, .bin .eql (.t 27) (.v (.int .i64 0)), some (22, false)⟩, ⟨some 29, .pick (.t 22) (.v (.bool true)) (.t 28), none⟩])
 (.ite (.t 29) (.seq (.ops [⟨some 6, .mv (.v (.bool false)), none⟩])
  .ret)
 .skip))
 (.seq (.seq (.ops [⟨some 30, .mv (.v (.int .i64 0)), none⟩])
 (.blk 0 (.loop (.seq (.ops [⟨some 31, .bin .lss (.t 30) (.v (.int .i64 6)), none⟩])
   (.seq (.ite (.t 31) .skip
   (.exit 0))
   (.seq (.blk 1 (.seq (.ops [⟨some 32, .mv (.t 30), none⟩, ⟨some 7, .mv (.t 32), none⟩])
    (.seq (.ops [⟨some 33, .fad 7 (.t 3), none⟩, ⟨some 34, .load 5 true (.t 33), none⟩, ⟨some 35, .fad 2 (.t 4), none⟩, ⟨some 36, .load 1 false (.t 35), none⟩, ⟨some 37, .mv (.t 7), none⟩, ⟨some 38, .call 158 [.t 34, .t 36, .t 37], none⟩, ⟨some 39, .mv (.t 2), none⟩, ⟨some 40, .bin .eql (.t 38) (.t 39), none⟩])
    (.ite (.t 40) (.seq (.draw 10 [⟨some 41, .fad 7 (.t 3), none⟩, ⟨some 42, .load 5 true (.t 41), none⟩, ⟨some 43, .fad 7 (.t 3), none⟩, ⟨some 44, .load 5 true (.t 43), none⟩, ⟨some 45, .fad 2 (.t 4), none⟩, ⟨some 46, .load 1 false (.t 45), none⟩, ⟨some 47, .mv (.t 7), none⟩, ⟨some 48, .call 240 [.t 44, .t 46, .t 47], none⟩, ⟨some 49, .call 252 [.t 42, .t 48], none⟩, ⟨some 6, .mv (.t 49), none⟩])
     .ret)
    .skip))))
   (.ops [⟨some 50, .bin .add (.t 30) (.v (.int .i64 1)), none⟩, ⟨some 30, .mv (.t 50), none⟩])))))))
 (.seq (.ops [⟨some 6, .mv (.v (.bool false)), none⟩])
 .ret))))
noncomputable def X.i_controls (p0 : TBoard) (p1 : TUnit) (p2 : Int) : Option Bool :=
  (bif (decide (p1.At < 0)) then some false else ((at' zTKind p0.Rules.Kinds p1.Kind).bind fun v9 => (bif (!v9.Zone) then some false else ((X.i_enterCost p0 p1.Kind p2).bind fun v12 => (bif (v12 == 0) then some false else ((loop (fun (x34 : Int) => ((bif (decide (x34 < 6)) then ((X.i_nextTo p0.Map p1.At x34).bind fun v37 => (bif (v37 == p2) then ((X.i_edgeOf p0.Map p1.At x34).bind fun v40 => ((X.i_crossesFreely p0.Map v40).bind fun v42 => some (Sum.inr (Sum.inr v42)))) else some (Sum.inl (W (x34 + 1))))) else some (Sum.inr (Sum.inl ()))) : Option (Int ⊕ (Unit ⊕ Bool)))) 0).bind fun y44 => (Sum.elim (fun (y46 : Unit) => some false) (fun (y47 : Bool) => some y47) y44)))))))
theorem i_controls_ok (p0 : TBoard) (p1 : TUnit) (p2 : Int) (r : Bool) (H : X.i_controls p0 p1 p2 = some r) : FnOk Tryz.prog gl 238 [.agg (eTBoard p0), .agg (eTUnit p1), cI p2] (cB r) := by
  unfold X.i_controls at H
  refine fn_in (fn := Tryz.f238) (ir := i_controls_ir) (s1 := lit [(6, cB r)] []) Tryz.func238 (by kernel_rfl) (by kernel_rfl) (by kernel_rfl) (by kernel_rfl) (by kernel_rfl) ?_
  refine seq_ops [] [] [(2, cI p2), (3, .c (.pk 3 0)), (4, .c (.pk 4 0))] [(3, .var (eTBoard p0) false), (4, .var (eTUnit p1) false)] (fun t => t) (by kernel_rfl) ?_
  refine seq_in ?_
  rcases ofCond H with ⟨c8, H⟩ | ⟨c8, H⟩
  · refine seq_ops [.g true, .g true, .g true, .g true, .g true, .g true, .g true, .g true, .g true, .g true, .g true, .g true, .g true, .g true, .g true, .g true, .g true] [] [(2, cI p2), (3, .c (.pk 3 0)), (4, .c (.pk 4 0)), (29, cB true)] [(3, .var (eTBoard p0) false), (4, .var (eTUnit p1) false)] (fun t => aI c8 (aI c8 (aI c8 (aI c8 (aI c8 (aI c8 (aI c8 (aI c8 (aI c8 (aI c8 (aI (rfl : (true : Bool) = true) (aI (rfl : (true : Bool) = true) (aI (rfl : (true : Bool) = true) (aI (rfl : (true : Bool) = true) (aI (rfl : (true : Bool) = true) (aI (rfl : (true : Bool) = true) (aI (rfl : (true : Bool) = true) (t)))))))))))))))))) (by kernel_rfl) ?_
    refine ite_t (rfl : (true : Bool) = true) (by kernel_rfl) ?_
    refine seq_ops [] [] [(6, cB false)] [] (fun t => t) (by kernel_rfl) ?_
    refine ends_ret ?_
    obtain rfl := Option.some.inj H
    exact And.intro (.inl rfl) rfl
  · obtain ⟨v9, h10, H⟩ := ofBind H
    rcases ofCond H with ⟨c11, H⟩ | ⟨c11, H⟩
    · refine seq_ops [.g false, .g false, .g false, .g false, .g false, .g false, .cs (eTKind v9), .g false, .g false, .g false, .g false, .g true, .g true, .g true, .g true, .g true, .g true, .g true] [] [(2, cI p2), (3, .c (.pk 3 0)), (4, .c (.pk 4 0)), (29, cB true)] [(3, .var (eTBoard p0) false), (4, .var (eTUnit p1) false)] (fun t => aI c8 (aI c8 (aI c8 (aI c8 (aI c8 (aI c8 (aI (at_lt h10) (aI (at_enc (enc := eTKind) h10) (aI c8 (aI c8 (aI c8 (aI c8 (aI c11 (aI c11 (aI c11 (aI c11 (aI c11 (aI c11 (aI c11 (t)))))))))))))))))))) (by kernel_rfl) ?_
      refine ite_t (rfl : (true : Bool) = true) (by kernel_rfl) ?_
      refine seq_ops [] [] [(6, cB false)] [] (fun t => t) (by kernel_rfl) ?_
      refine ends_ret ?_
      obtain rfl := Option.some.inj H
      exact And.intro (.inl rfl) rfl
    · obtain ⟨v12, h13, H⟩ := ofBind H
      refine seq_ops [.g false, .g false, .g false, .g false, .g false, .g false, .cs (eTKind v9), .g false, .g false, .g false, .g false, .g false, .g false, .g false, .g false, .g false, .res (cI v12), .g false, .g false] [] [(2, cI p2), (3, .c (.pk 3 0)), (4, .c (.pk 4 0)), (29, cB (v12 == 0))] [(3, .var (eTBoard p0) false), (4, .var (eTUnit p1) false)] (fun t => aI c8 (aI c8 (aI c8 (aI c8 (aI c8 (aI c8 (aI (at_lt h10) (aI (at_enc (enc := eTKind) h10) (aI c8 (aI c8 (aI c8 (aI c8 (aI c11 (aI c11 (aI c11 (aI c11 (aI c11 (aI (i_enterCost_ok p0 p1.Kind p2 v12 h13) (aI c11 (aI c11 (t))))))))))))))))))))) (by kernel_rfl) ?_
      rcases ofCond H with ⟨c14, H⟩ | ⟨c14, H⟩
      · refine ite_t c14 (by kernel_rfl) ?_
        refine seq_ops [] [] [(6, cB false)] [] (fun t => t) (by kernel_rfl) ?_
        refine ends_ret ?_
        obtain rfl := Option.some.inj H
        exact And.intro (.inl rfl) rfl
      · refine ite_f c14 (by kernel_rfl) ?_
        refine ends_skip ?_
        change EndsI _ _ _ _ _ _
        refine seq_in ?_
        refine seq_ops [] [] [(2, cI p2), (3, .c (.pk 3 0)), (4, .c (.pk 4 0)), (30, cI 0)] [(3, .var (eTBoard p0) false), (4, .var (eTUnit p1) false)] (fun t => t) (by kernel_rfl) ?_
        refine ends_blk ?_
        obtain ⟨y44, h45, H⟩ := ofBind H
        refine loop_in (fun (x : Int) => lit [(2, cI p2), (3, .c (.pk 3 0)), (4, .c (.pk 4 0)), (30, cI x)] [(3, .var (eTBoard p0) false), (4, .var (eTUnit p1) false)]) (orJ (fun (z : Unit) => At (.exit 0) (lit [] [])) (fun (z : Bool) => At .ret (lit [(6, cB z)] []))) h45 ?_ ?_
        · clear H h45
          intro x34 y0 H
          refine seq_ops [] [] [(2, cI p2), (3, .c (.pk 3 0)), (4, .c (.pk 4 0)), (30, cI x34), (31, cB (decide (x34 < 6)))] [(3, .var (eTBoard p0) false), (4, .var (eTUnit p1) false)] (fun t => t) (by kernel_rfl) ?_
          refine seq_in ?_
          rcases ofCond H with ⟨c36, H⟩ | ⟨c36, H⟩
          · refine ite_t c36 (by kernel_rfl) ?_
            refine ends_skip ?_
            change EndsI _ _ _ _ _ _
            refine seq_in ?_
            refine ends_blk ?_
            refine seq_ops [] [] [(2, cI p2), (3, .c (.pk 3 0)), (4, .c (.pk 4 0)), (7, cI x34), (30, cI x34)] [(3, .var (eTBoard p0) false), (4, .var (eTUnit p1) false)] (fun t => t) (by kernel_rfl) ?_
            obtain ⟨v37, h38, H⟩ := ofBind H
            refine seq_ops [.res (cI v37)] [] [(2, cI p2), (3, .c (.pk 3 0)), (4, .c (.pk 4 0)), (7, cI x34), (30, cI x34), (40, cB (v37 == p2))] [(3, .var (eTBoard p0) false), (4, .var (eTUnit p1) false)] (fun t => aI (i_nextTo_ok p0.Map p1.At x34 v37 h38) (t)) (by kernel_rfl) ?_
            rcases ofCond H with ⟨c39, H⟩ | ⟨c39, H⟩
            · refine ite_t c39 (by kernel_rfl) ?_
              obtain ⟨v40, h41, H⟩ := ofBind H
              obtain ⟨v42, h43, H⟩ := ofBind H
              refine seq_draw [.res (cI v40), .res (cB v42)] [] [(6, cB v42)] [] (fun t => aI (i_edgeOf_ok p0.Map p1.At x34 v40 h41) (aI trivial (aI (rfl : ([] : List Nat) = []) (aI (i_crossesFreely_ok p0.Map v40 v42 h43) (aI trivial (aI (rfl : ([] : List Nat) = []) (t))))))) (by kernel_rfl) ?_
              refine ends_ret ?_
              obtain rfl := Option.some.inj H
              exact And.intro (by simp) (And.intro rfl rfl)
            · refine ite_f c39 (by kernel_rfl) ?_
              refine ends_skip ?_
              change EndsI _ _ _ _ _ _
              refine one_ops [] [] [(2, cI p2), (3, .c (.pk 3 0)), (4, .c (.pk 4 0)), (30, cI (W (x34 + 1)))] [(3, .var (eTBoard p0) false), (4, .var (eTUnit p1) false)] (fun t => t) (by kernel_rfl) ?_
              obtain rfl := Option.some.inj H
              exact And.intro rfl rfl
          · refine ite_f c36 (by kernel_rfl) ?_
            refine tell [] [] [] (fun t => t) (by kernel_rfl) ?_
            refine ends_exit ?_
            obtain rfl := Option.some.inj H
            exact And.intro (by simp) (And.intro rfl rfl)
        · clear h45
          cases y44 with
          | inl y46 =>
            replace H := ofInl H
            intro e s q
            obtain ⟨rfl, rfl⟩ := q
            change EndsI _ _ _ _ _ _
            refine seq_ops [] [] [(6, cB false)] [] (fun t => t) (by kernel_rfl) ?_
            refine ends_ret ?_
            obtain rfl := Option.some.inj H
            exact And.intro (.inl rfl) rfl
          | inr y47 =>
            replace H := ofInr H
            intro e s q
            obtain ⟨rfl, rfl⟩ := q
            obtain rfl := Option.some.inj H
            exact And.intro (.inl rfl) rfl

def i_inZone_ir : S :=
 (.seq (.ops [⟨some 4, .box 12 (.t 0), none⟩, ⟨some 5, .box 3 (.t 1), none⟩, ⟨some 8, .mv (.v (.bool false)), none⟩])
 (.seq (.seq (.ops [⟨some 11, .fad 2 (.t 5), none⟩, ⟨some 12, .load 1 false (.t 11), none⟩, ⟨some 13, .len (.t 12), none⟩, ⟨some 14, .mv (.v (.int .i64 0)), none⟩])
 (.blk 0 (.loop (.seq (.ops [⟨some 15, .bin .lss (.t 14) (.t 13), none⟩])
   (.seq (.ite (.t 15) .skip
   (.exit 0))
   (.seq (.blk 1 (.seq (.ops [⟨some 16, .iad 4 (.t 12) (.t 14), none⟩, ⟨some 17, .load 4 true (.t 16), none⟩, ⟨some 10, .alloc [.int .i64 0, .int .i64 0, .int .i64 0, .int .i64 0], none⟩, ⟨none, .store 4 (.t 10) (.t 17), none⟩])
    (.seq (.ops [⟨some 18, .fad 0 (.t 10), none⟩, ⟨some 19, .load 1 false (.t 18), none⟩, ⟨some 20, .mv (.t 2), none⟩, ⟨some 21, .bin .eql (.t 19) (.t 20), none⟩, ⟨some 22, .mv (.t 21), none⟩, ⟨some 23, .load 12 true (.t 4), some (22, true)⟩, ⟨some 24, .load 4 true (.t 10), some (22, true)⟩, ⟨some 25, .mv (.t 3), some (22, true)⟩, ⟨some 26, .call 238 [.t 23, .t 24, .t 25], some (22, true)⟩, ⟨some 27, .pick (.t 22) (.t 26) (.v (.bool false)), none⟩])
    (.ite (.t 27) (.seq (.ops [⟨some 8, .mv (.v (.bool true)), none⟩])
     .ret)
    .skip))))
   (.ops [⟨some 28, .bin .add (.t 14) (.v (.int .i64 1)), none⟩, ⟨some 14, .mv (.t 28), none⟩])))))))
 (.seq (.ops [⟨some 8, .mv (.v (.bool false)), none⟩])
 .ret)))
noncomputable def X.i_inZone (p0 : TBoard) (p1 : TState) (p2 : Int) (p3 : Int) : Option Bool :=
  ((loop (fun (x18 : Int) => ((bif (decide (x18 < (p1.Units.length : Int))) then ((at' zTUnit p1.Units x18).bind fun v21 => (bif (v21.Side == p2) then ((X.i_controls p0 v21 p3).bind fun v24 => (bif v24 then some (Sum.inr (Sum.inr true)) else some (Sum.inl (W (x18 + 1))))) else some (Sum.inl (W (x18 + 1))))) else some (Sum.inr (Sum.inl ()))) : Option (Int ⊕ (Unit ⊕ Bool)))) 0).bind fun y27 => (Sum.elim (fun (y29 : Unit) => some false) (fun (y30 : Bool) => some y30) y27))
theorem i_inZone_ok (p0 : TBoard) (p1 : TState) (p2 : Int) (p3 : Int) (r : Bool) (H : X.i_inZone p0 p1 p2 p3 = some r) : FnOk Tryz.prog gl 218 [.agg (eTBoard p0), .agg (eTState p1), cI p2, cI p3] (cB r) := by
  unfold X.i_inZone at H
  refine fn_in (fn := Tryz.f218) (ir := i_inZone_ir) (s1 := lit [(8, cB r)] []) Tryz.func218 (by kernel_rfl) (by kernel_rfl) (by kernel_rfl) (by kernel_rfl) (by kernel_rfl) ?_
  refine seq_ops [] [] [(2, cI p2), (3, cI p3), (4, .c (.pk 4 0)), (5, .c (.pk 5 0))] [(4, .var (eTBoard p0) false), (5, .var (eTState p1) false)] (fun t => t) (by kernel_rfl) ?_
  refine seq_in ?_
  refine seq_ops [] [] [(2, cI p2), (3, cI p3), (4, .c (.pk 4 0)), (12, .c (dat 4 eTUnit zTUnit p1.Units)), (13, cI (p1.Units.length : Int)), (14, cI 0)] [(4, .var (eTBoard p0) false)] (fun t => lI p1.Units (t)) (by kernel_rfl) ?_
  refine ends_blk ?_
  obtain ⟨y27, h28, H⟩ := ofBind H
  refine loop_in (fun (x : Int) => lit [(2, cI p2), (3, cI p3), (4, .c (.pk 4 0)), (12, .c (dat 4 eTUnit zTUnit p1.Units)), (13, cI (p1.Units.length : Int)), (14, cI x)] [(4, .var (eTBoard p0) false)]) (orJ (fun (z : Unit) => At (.exit 0) (lit [] [])) (fun (z : Bool) => At .ret (lit [(8, cB z)] []))) h28 ?_ ?_
  · clear H h28
    intro x18 y0 H
    refine seq_ops [] [] [(2, cI p2), (3, cI p3), (4, .c (.pk 4 0)), (12, .c (dat 4 eTUnit zTUnit p1.Units)), (13, cI (p1.Units.length : Int)), (14, cI x18), (15, cB (decide (x18 < (p1.Units.length : Int))))] [(4, .var (eTBoard p0) false)] (fun t => t) (by kernel_rfl) ?_
    refine seq_in ?_
    rcases ofCond H with ⟨c20, H⟩ | ⟨c20, H⟩
    · refine ite_t c20 (by kernel_rfl) ?_
      refine ends_skip ?_
      change EndsI _ _ _ _ _ _
      refine seq_in ?_
      refine ends_blk ?_
      obtain ⟨v21, h22, H⟩ := ofBind H
      refine seq_ops [.cs (eTUnit v21)] [] [(2, cI p2), (3, cI p3), (4, .c (.pk 4 0)), (10, .c (.pk 10 0)), (12, .c (dat 4 eTUnit zTUnit p1.Units)), (13, cI (p1.Units.length : Int)), (14, cI x18)] [(4, .var (eTBoard p0) false), (10, .var (eTUnit v21) false)] (fun t => aI (at_lt h22) (aI (at_enc (enc := eTUnit) h22) (t))) (by kernel_rfl) ?_
      rcases ofCond H with ⟨c23, H⟩ | ⟨c23, H⟩
      · obtain ⟨v24, h25, H⟩ := ofBind H
        refine seq_ops [.g true, .g true, .g true, .g true, .res (cB v24), .g true] [] [(2, cI p2), (3, cI p3), (4, .c (.pk 4 0)), (12, .c (dat 4 eTUnit zTUnit p1.Units)), (13, cI (p1.Units.length : Int)), (14, cI x18), (27, cB v24)] [(4, .var (eTBoard p0) false)] (fun t => aI c23 (aI c23 (aI c23 (aI c23 (aI (i_controls_ok p0 v21 p3 v24 h25) (aI c23 (t))))))) (by kernel_rfl) ?_
        rcases ofCond H with ⟨c26, H⟩ | ⟨c26, H⟩
        · refine ite_t c26 (by kernel_rfl) ?_
          refine seq_ops [] [] [(8, cB true)] [] (fun t => t) (by kernel_rfl) ?_
          refine ends_ret ?_
          obtain rfl := Option.some.inj H
          exact And.intro (by simp) (And.intro rfl rfl)
        · refine ite_f c26 (by kernel_rfl) ?_
          refine ends_skip ?_
          change EndsI _ _ _ _ _ _
          refine one_ops [] [] [(2, cI p2), (3, cI p3), (4, .c (.pk 4 0)), (12, .c (dat 4 eTUnit zTUnit p1.Units)), (13, cI (p1.Units.length : Int)), (14, cI (W (x18 + 1)))] [(4, .var (eTBoard p0) false)] (fun t => t) (by kernel_rfl) ?_
          obtain rfl := Option.some.inj H
          exact And.intro rfl rfl
      · refine seq_ops [.g false, .g false, .g false, .g false, .g false] [] [(2, cI p2), (3, cI p3), (4, .c (.pk 4 0)), (12, .c (dat 4 eTUnit zTUnit p1.Units)), (13, cI (p1.Units.length : Int)), (14, cI x18), (27, cB false)] [(4, .var (eTBoard p0) false)] (fun t => aI c23 (aI c23 (aI c23 (aI c23 (aI c23 (t)))))) (by kernel_rfl) ?_
        refine ite_f (rfl : (false : Bool) = false) (by kernel_rfl) ?_
        refine ends_skip ?_
        change EndsI _ _ _ _ _ _
        refine one_ops [] [] [(2, cI p2), (3, cI p3), (4, .c (.pk 4 0)), (12, .c (dat 4 eTUnit zTUnit p1.Units)), (13, cI (p1.Units.length : Int)), (14, cI (W (x18 + 1)))] [(4, .var (eTBoard p0) false)] (fun t => t) (by kernel_rfl) ?_
        obtain rfl := Option.some.inj H
        exact And.intro rfl rfl
    · refine ite_f c20 (by kernel_rfl) ?_
      refine tell [] [] [] (fun t => t) (by kernel_rfl) ?_
      refine ends_exit ?_
      obtain rfl := Option.some.inj H
      exact And.intro (by simp) (And.intro rfl rfl)
  · clear h28
    cases y27 with
    | inl y29 =>
      replace H := ofInl H
      intro e s q
      obtain ⟨rfl, rfl⟩ := q
      change EndsI _ _ _ _ _ _
      refine seq_ops [] [] [(8, cB false)] [] (fun t => t) (by kernel_rfl) ?_
      refine ends_ret ?_
      obtain rfl := Option.some.inj H
      exact And.intro (.inl rfl) rfl
    | inr y30 =>
      replace H := ofInr H
      intro e s q
      obtain ⟨rfl, rfl⟩ := q
      obtain rfl := Option.some.inj H
      exact And.intro (.inl rfl) rfl

def i_controlOf_ir : S :=
 (.seq (.ops [⟨some 3, .box 12 (.t 0), none⟩, ⟨some 4, .box 3 (.t 1), none⟩, ⟨some 6, .mv (.v (.int .i64 0)), none⟩])
 (.seq (.ops [⟨some 10, .load 3 true (.t 4), none⟩, ⟨some 11, .mv (.t 2), none⟩, ⟨some 12, .call 217 [.t 10, .t 11], none⟩, ⟨some 7, .mv (.t 12), none⟩])
 (.seq (.draw 10 [⟨some 13, .load 12 true (.t 3), none⟩, ⟨some 14, .load 3 true (.t 4), none⟩, ⟨some 15, .mv (.t 2), none⟩, ⟨some 16, .call 218 [.t 13, .t 14, .v (.int .i64 0), .t 15], none⟩, ⟨some 17, .load 12 true (.t 3), none⟩, ⟨some 18, .load 3 true (.t 4), none⟩, ⟨some 19, .mv (.t 2), none⟩, ⟨some 20, .call 218 [.t 17, .t 18, .v (.int .i64 1), .t 19], none⟩, ⟨some 8, .mv (.t 16), none⟩, ⟨some 9, .mv (.t 20), none⟩])
 (.seq (.blk 0 (.seq (.ops [⟨some 22, .mv (.t 7), none⟩, ⟨some 23, .bin .geq (.t 22) (.v (.int .i64 0)), none⟩, ⟨some 21, .mv (.t 23), none⟩])
  (.ite (.t 21) (.seq (.ops [⟨some 24, .mv (.t 7), none⟩, ⟨some 6, .mv (.t 24), none⟩])
   .ret)
  (.seq (.ops [⟨some 26, .mv (.t 8), none⟩, ⟨some 27, .mv (.t 26), none⟩, ⟨some 28, .mv (.t 9), some (27, true)⟩, ⟨some 29, .pick (.t 27) (.t 28) (.v (.bool false)), none⟩, ⟨some 25, .mv (.t 29), none⟩])
   (.ite (.t 25) (.seq (.ops [⟨some 6, .mv (.v (.int .i64 2)), none⟩])
    .ret)
   (.seq (.ops [⟨some 31, .mv (.t 8), none⟩, ⟨some 30, .mv (.t 31), none⟩])
    (.ite (.t 30) (.seq (.ops [⟨some 6, .mv (.v (.int .i64 0)), none⟩])
     .ret)
    (.seq (.ops [⟨some 33, .mv (.t 9), none⟩, ⟨some 32, .mv (.t 33), none⟩])
     (.ite (.t 32) (.seq (.ops [⟨some 6, .mv (.v (.int .i64 1)), none⟩])
      .ret)
     .skip)))))))))
 (.seq (.ops [⟨some 6, .mv (.v (.int .i64 (-1))), none⟩])
 .ret)))))
noncomputable def X.i_controlOf (p0 : TBoard) (p1 : TState) (p2 : Int) : Option Int :=
  ((X.i_ownerOf p1 p2).bind fun v1 => ((X.i_inZone p0 p1 0 p2).bind fun v3 => ((X.i_inZone p0 p1 1 p2).bind fun v5 => (bif (decide (v1 ≥ 0)) then some v1 else (bif v3 then (bif v5 then some 2 else some 0) else (bif v5 then some 1 else some (-1)))))))
theorem i_controlOf_ok (p0 : TBoard) (p1 : TState) (p2 : Int) (r : Int) (H : X.i_controlOf p0 p1 p2 = some r) : FnOk Tryz.prog gl 160 [.agg (eTBoard p0), .agg (eTState p1), cI p2] (cI r) := by
  unfold X.i_controlOf at H
  refine fn_in (fn := Tryz.f160) (ir := i_controlOf_ir) (s1 := lit [(6, cI r)] []) Tryz.func160 (by kernel_rfl) (by kernel_rfl) (by kernel_rfl) (by kernel_rfl) (by kernel_rfl) ?_
  refine seq_ops [] [] [(2, cI p2), (3, .c (.pk 3 0)), (4, .c (.pk 4 0))] [(3, .var (eTBoard p0) false), (4, .var (eTState p1) false)] (fun t => t) (by kernel_rfl) ?_
  obtain ⟨v1, h2, H⟩ := ofBind H
  refine seq_ops [.res (cI v1)] [] [(2, cI p2), (3, .c (.pk 3 0)), (4, .c (.pk 4 0)), (7, cI v1)] [(3, .var (eTBoard p0) false), (4, .var (eTState p1) false)] (fun t => aI (i_ownerOf_ok p1 p2 v1 h2) (t)) (by kernel_rfl) ?_
  obtain ⟨v3, h4, H⟩ := ofBind H
  obtain ⟨v5, h6, H⟩ := ofBind H
  refine seq_draw [.res (cB v3), .res (cB v5)] [] [(7, cI v1), (8, cB v3), (9, cB v5)] [] (fun t => aI (i_inZone_ok p0 p1 0 p2 v3 h4) (aI trivial (aI (rfl : ([] : List Nat) = []) (aI (i_inZone_ok p0 p1 1 p2 v5 h6) (aI trivial (aI (rfl : ([] : List Nat) = []) (t))))))) (by kernel_rfl) ?_
  refine seq_in ?_
  refine ends_blk ?_
  refine seq_ops [] [] [(7, cI v1), (8, cB v3), (9, cB v5), (21, cB (decide (v1 ≥ 0)))] [] (fun t => t) (by kernel_rfl) ?_
  rcases ofCond H with ⟨c7, H⟩ | ⟨c7, H⟩
  · refine ite_t c7 (by kernel_rfl) ?_
    refine seq_ops [] [] [(6, cI v1)] [] (fun t => t) (by kernel_rfl) ?_
    refine ends_ret ?_
    obtain rfl := Option.some.inj H
    exact And.intro (.inl rfl) rfl
  · refine ite_f c7 (by kernel_rfl) ?_
    rcases ofCond H with ⟨c8, H⟩ | ⟨c8, H⟩
    · refine seq_ops [.g true, .g true] [] [(8, cB v3), (9, cB v5), (25, cB v5)] [] (fun t => aI c8 (aI c8 (t))) (by kernel_rfl) ?_
      rcases ofCond H with ⟨c9, H⟩ | ⟨c9, H⟩
      · refine ite_t c9 (by kernel_rfl) ?_
        refine seq_ops [] [] [(6, cI 2)] [] (fun t => t) (by kernel_rfl) ?_
        refine ends_ret ?_
        obtain rfl := Option.some.inj H
        exact And.intro (.inl rfl) rfl
      · refine ite_f c9 (by kernel_rfl) ?_
        refine seq_ops [] [] [(9, cB v5), (30, cB v3)] [] (fun t => t) (by kernel_rfl) ?_
        refine ite_t c8 (by kernel_rfl) ?_
        refine seq_ops [] [] [(6, cI 0)] [] (fun t => t) (by kernel_rfl) ?_
        refine ends_ret ?_
        obtain rfl := Option.some.inj H
        exact And.intro (.inl rfl) rfl
    · refine seq_ops [.g false, .g false] [] [(8, cB v3), (9, cB v5), (25, cB false)] [] (fun t => aI c8 (aI c8 (t))) (by kernel_rfl) ?_
      refine ite_f (rfl : (false : Bool) = false) (by kernel_rfl) ?_
      refine seq_ops [] [] [(9, cB v5), (30, cB v3)] [] (fun t => t) (by kernel_rfl) ?_
      refine ite_f c8 (by kernel_rfl) ?_
      refine seq_ops [] [] [(32, cB v5)] [] (fun t => t) (by kernel_rfl) ?_
      rcases ofCond H with ⟨c10, H⟩ | ⟨c10, H⟩
      · refine ite_t c10 (by kernel_rfl) ?_
        refine seq_ops [] [] [(6, cI 1)] [] (fun t => t) (by kernel_rfl) ?_
        refine ends_ret ?_
        obtain rfl := Option.some.inj H
        exact And.intro (.inl rfl) rfl
      · refine ite_f c10 (by kernel_rfl) ?_
        refine ends_skip ?_
        change EndsI _ _ _ _ _ _
        refine seq_ops [] [] [(6, cI (-1))] [] (fun t => t) (by kernel_rfl) ?_
        refine ends_ret ?_
        obtain rfl := Option.some.inj H
        exact And.intro (.inl rfl) rfl

def i_holderOf_ir : S :=
 (.seq (.ops [⟨some 3, .box 12 (.t 0), none⟩, ⟨some 4, .box 3 (.t 1), none⟩, ⟨some 6, .mv (.v (.int .i64 0)), none⟩])
 (.seq (.seq (.ops [⟨some 8, .load 12 true (.t 3), none⟩, ⟨some 9, .load 3 true (.t 4), none⟩, ⟨some 10, .mv (.t 2), none⟩, ⟨some 11, .call 160 [.t 8, .t 9, .t 10], none⟩, ⟨some 7, .mv (.t 11), none⟩])
 (.seq (.ops [⟨some 12, .mv (.t 7), none⟩, ⟨some 13, .bin .eql (.t 12) (.v (.int .i64 0)), none⟩, ⟨some 14, .mv (.t 13), none⟩, ⟨some 15, .mv (.t 7), some (14, false)⟩, ⟨some 16, .bin .eql (.t 15) (.v (.int .i64 1)), some (14, false)⟩, ⟨some 17, .pick (.t 14) (.v (.bool true)) (.t 16), none⟩])
 (.ite (.t 17) (.seq (.ops [⟨some 18, .mv (.t 7), none⟩, ⟨some 6, .mv (.t 18), none⟩])
  .ret)
 .skip)))
 (.seq (.ops [⟨some 6, .mv (.v (.int .i64 (-1))), none⟩])
 .ret)))
noncomputable def X.i_holderOf (p0 : TBoard) (p1 : TState) (p2 : Int) : Option Int :=
  ((X.i_controlOf p0 p1 p2).bind fun v1 => (bif (v1 == 0) then some v1 else (bif (v1 == 1) then some v1 else some (-1))))
theorem i_holderOf_ok (p0 : TBoard) (p1 : TState) (p2 : Int) (r : Int) (H : X.i_holderOf p0 p1 p2 = some r) : FnOk Tryz.prog gl 96 [.agg (eTBoard p0), .agg (eTState p1), cI p2] (cI r) := by
  unfold X.i_holderOf at H
  refine fn_in (fn := Tryz.f96) (ir := i_holderOf_ir) (s1 := lit [(6, cI r)] []) Tryz.func96 (by kernel_rfl) (by kernel_rfl) (by kernel_rfl) (by kernel_rfl) (by kernel_rfl) ?_
  refine seq_ops [] [] [(2, cI p2), (3, .c (.pk 3 0)), (4, .c (.pk 4 0))] [(3, .var (eTBoard p0) false), (4, .var (eTState p1) false)] (fun t => t) (by kernel_rfl) ?_
  refine seq_in ?_
  obtain ⟨v1, h2, H⟩ := ofBind H
  refine seq_ops [.res (cI v1)] [] [(7, cI v1)] [] (fun t => aI (i_controlOf_ok p0 p1 p2 v1 h2) (t)) (by kernel_rfl) ?_
  rcases ofCond H with ⟨c3, H⟩ | ⟨c3, H⟩
  · refine seq_ops [.g true, .g true, .g true] [] [(7, cI v1), (17, cB true)] [] (fun t => aI c3 (aI c3 (aI c3 (t)))) (by kernel_rfl) ?_
    refine ite_t (rfl : (true : Bool) = true) (by kernel_rfl) ?_
    refine seq_ops [] [] [(6, cI v1)] [] (fun t => t) (by kernel_rfl) ?_
    refine ends_ret ?_
    obtain rfl := Option.some.inj H
    exact And.intro (.inl rfl) rfl
  · refine seq_ops [.g false, .g false, .g false] [] [(7, cI v1), (17, cB (v1 == 1))] [] (fun t => aI c3 (aI c3 (aI c3 (t)))) (by kernel_rfl) ?_
    rcases ofCond H with ⟨c4, H⟩ | ⟨c4, H⟩
    · refine ite_t c4 (by kernel_rfl) ?_
      refine seq_ops [] [] [(6, cI v1)] [] (fun t => t) (by kernel_rfl) ?_
      refine ends_ret ?_
      obtain rfl := Option.some.inj H
      exact And.intro (.inl rfl) rfl
    · refine ite_f c4 (by kernel_rfl) ?_
      refine ends_skip ?_
      change EndsI _ _ _ _ _ _
      refine seq_ops [] [] [(6, cI (-1))] [] (fun t => t) (by kernel_rfl) ?_
      refine ends_ret ?_
      obtain rfl := Option.some.inj H
      exact And.intro (.inl rfl) rfl

def i_groundOf_1_ir : S :=
 (.seq (.ops [⟨some 5, .mv (.v (.bool false)), none⟩])
 (.seq (.draw 7 [⟨some 6, .load 12 true (.t 1), none⟩, ⟨some 7, .load 3 true (.t 2), none⟩, ⟨some 8, .mv (.t 0), none⟩, ⟨some 9, .call 96 [.t 6, .t 7, .t 8], none⟩, ⟨some 10, .load 1 false (.t 3), none⟩, ⟨some 11, .bin .eql (.t 9) (.t 10), none⟩, ⟨some 5, .mv (.t 11), none⟩])
 .ret))
noncomputable def X.i_groundOf_1 (p0 : Int) (p1 : TBoard) (p2 : TState) (p3 : Int) : Option Bool :=
  ((X.i_holderOf p1 p2 p0).bind fun v1 => some (v1 == p3))
theorem i_groundOf_1_ok (p0 : Int) (p1 : TBoard) (p2 : TState) (p3 : Int) (r : Bool) (H : X.i_groundOf_1 p0 p1 p2 p3 = some r) : FnOk Tryz.prog gl 162 [cI p0, .c (.pd (eTBoard p1) 0), .c (.pd (eTState p2) 0), .c (.pd (eI p3) 0)] (cB r) := by
  unfold X.i_groundOf_1 at H
  refine fn_in (fn := Tryz.f162) (ir := i_groundOf_1_ir) (s1 := lit [(5, cB r)] []) Tryz.func162 (by kernel_rfl) (by kernel_rfl) (by kernel_rfl) (by kernel_rfl) (by kernel_rfl) ?_
  refine seq_ops [] [] [(0, cI p0), (1, .c (.pd (eTBoard p1) 0)), (2, .c (.pd (eTState p2) 0)), (3, .c (.pd (eI p3) 0))] [] (fun t => t) (by kernel_rfl) ?_
  obtain ⟨v1, h2, H⟩ := ofBind H
  refine seq_draw [.res (cI v1)] [] [(5, cB (v1 == p3))] [] (fun t => aI (rfl : ([] : List Nat) = []) (aI (rfl : ([] : List Nat) = []) (aI (i_holderOf_ok p1 p2 p0 v1 h2) (aI trivial (aI (rfl : ([] : List Nat) = []) (aI (rfl : ([] : List Nat) = []) (t))))))) (by kernel_rfl) ?_
  refine ends_ret ?_
  obtain rfl := Option.some.inj H
  exact And.intro (.inl rfl) rfl

def i_groundOf_ir : S :=
 (.seq (.ops [⟨some 3, .box 12 (.t 0), none⟩, ⟨some 4, .box 3 (.t 1), none⟩, ⟨some 5, .box 1 (.t 2), none⟩, ⟨some 6, .mv (.v (.int .i64 0)), none⟩])
 (.seq (.ops [⟨some 7, .load 12 true (.t 3), none⟩, ⟨some 8, .clo 162 [.t 3, .t 4, .t 5], none⟩, ⟨some 9, .call 138 [.t 7, .t 8], none⟩, ⟨some 10, .len (.t 9), none⟩, ⟨some 6, .mv (.t 10), none⟩])
 .ret))
noncomputable def X.i_groundOf (p0 : TBoard) (p1 : TState) (p2 : Int) : Option Int :=
  ((X.i_hexesThat p0 (fun q0 => X.i_groundOf_1 q0 p0 p1 p2)).bind fun v1 => some (v1.length : Int))
theorem i_groundOf_ok (p0 : TBoard) (p1 : TState) (p2 : Int) (r : Int) (H : X.i_groundOf p0 p1 p2 = some r) : FnOk Tryz.prog gl 100 [.agg (eTBoard p0), .agg (eTState p1), cI p2] (cI r) := by
  unfold X.i_groundOf at H
  refine fn_in (fn := Tryz.f100) (ir := i_groundOf_ir) (s1 := lit [(6, cI r)] []) Tryz.func100 (by kernel_rfl) (by kernel_rfl) (by kernel_rfl) (by kernel_rfl) (by kernel_rfl) ?_
  refine seq_ops [] [] [(3, .c (.pk 3 0)), (4, .c (.pk 4 0)), (5, .c (.pk 5 0))] [(3, .var (eTBoard p0) false), (4, .var (eTState p1) false), (5, .var [.int .i64 p2] false)] (fun t => t) (by kernel_rfl) ?_
  obtain ⟨v1, h2, H⟩ := ofBind H
  refine seq_ops [.res (.c (dat 1 eI zI v1))] [] [(6, cI (v1.length : Int))] [] (fun t => aI (i_hexesThat_c3_ok p0 (162) (eTBoard p0) (eTState p1) (eI p2) (fun q0 => X.i_groundOf_1 q0 p0 p1 p2) (fun q0 r h => i_groundOf_1_ok q0 p0 p1 p2 r h) v1 h2) (lI v1 (t))) (by kernel_rfl) ?_
  refine ends_ret ?_
  obtain rfl := Option.some.inj H
  exact And.intro (.inl rfl) rfl

def i_GroundOf_ir : S :=
 (.seq (.ops [⟨some 3, .box 12 (.t 0), none⟩, ⟨some 4, .box 3 (.t 1), none⟩, ⟨some 6, .mv (.v (.int .i64 0)), none⟩, ⟨some 7, .mv (.v (.bool false)), none⟩])
 (.seq (.seq (.ops [⟨some 8, .load 12 true (.t 3), none⟩, ⟨some 9, .load 3 true (.t 4), none⟩, ⟨some 10, .mv (.t 2), none⟩, ⟨some 11, .call 99 [.t 8, .t 9, .t 10], none⟩, ⟨some 12, .not (.t 11), none⟩])
 (.ite (.t 12) (.seq (.ops [⟨some 6, .mv (.v (.int .i64 0)), none⟩, ⟨some 7, .mv (.v (.bool false)), none⟩])
  .ret)
 .skip))
 (.seq (.ops [⟨some 13, .load 12 true (.t 3), none⟩, ⟨some 14, .load 3 true (.t 4), none⟩, ⟨some 15, .mv (.t 2), none⟩, ⟨some 16, .call 100 [.t 13, .t 14, .t 15], none⟩, ⟨some 6, .mv (.t 16), none⟩, ⟨some 7, .mv (.v (.bool true)), none⟩])
 .ret)))
noncomputable def X.i_GroundOf (p0 : TBoard) (p1 : TState) (p2 : Int) : Option (Int × Bool) :=
  ((X.i_isLook p0 p1 p2).bind fun v1 => (bif (!v1) then some (0, false) else ((X.i_groundOf p0 p1 p2).bind fun v4 => some (v4, true))))
theorem i_GroundOf_ok (p0 : TBoard) (p1 : TState) (p2 : Int) (r : (Int × Bool)) (H : X.i_GroundOf p0 p1 p2 = some r) : FnOk Tryz.prog gl 36 [.agg (eTBoard p0), .agg (eTState p1), cI p2] (.tup [(false, [.int .i64 r.1]), (false, [.bool r.2])]) := by
  unfold X.i_GroundOf at H
  refine fn_in (fn := Tryz.f36) (ir := i_GroundOf_ir) (s1 := lit [(6, cI r.1), (7, cB r.2)] []) Tryz.func36 (by kernel_rfl) (by kernel_rfl) (by kernel_rfl) (by kernel_rfl) (by kernel_rfl) ?_
  refine seq_ops [] [] [(2, cI p2), (3, .c (.pk 3 0)), (4, .c (.pk 4 0))] [(3, .var (eTBoard p0) false), (4, .var (eTState p1) false)] (fun t => t) (by kernel_rfl) ?_
  refine seq_in ?_
  obtain ⟨v1, h2, H⟩ := ofBind H
  refine seq_ops [.res (cB v1)] [] [(2, cI p2), (3, .c (.pk 3 0)), (4, .c (.pk 4 0)), (12, cB (!v1))] [(3, .var (eTBoard p0) false), (4, .var (eTState p1) false)] (fun t => aI (i_isLook_ok p0 p1 p2 v1 h2) (t)) (by kernel_rfl) ?_
  rcases ofCond H with ⟨c3, H⟩ | ⟨c3, H⟩
  · refine ite_t c3 (by kernel_rfl) ?_
    refine seq_ops [] [] [(6, cI 0), (7, cB false)] [] (fun t => t) (by kernel_rfl) ?_
    refine ends_ret ?_
    obtain rfl := Option.some.inj H
    exact And.intro (.inl rfl) rfl
  · refine ite_f c3 (by kernel_rfl) ?_
    refine ends_skip ?_
    change EndsI _ _ _ _ _ _
    obtain ⟨v4, h5, H⟩ := ofBind H
    refine seq_ops [.res (cI v4)] [] [(6, cI v4), (7, cB true)] [] (fun t => aI (i_groundOf_ok p0 p1 p2 v4 h5) (t)) (by kernel_rfl) ?_
    refine ends_ret ?_
    obtain rfl := Option.some.inj H
    exact And.intro (.inl rfl) rfl

def l_FnExactGroundOf_ir : S :=
 (.seq (.ops [⟨some 3, .box 12 (.t 0), none⟩, ⟨some 4, .box 3 (.t 1), none⟩, ⟨some 6, .mv (.v (.bool false)), none⟩])
 (.seq (.ops [⟨some 7, .mv (.v (.int .i64 1048576)), none⟩])
 (.seq (.ops [⟨some 14, .load 12 true (.t 3), none⟩, ⟨some 15, .mv (.t 7), none⟩, ⟨some 16, .call 15 [.t 14, .t 15], none⟩, ⟨some 7, .mv (.t 16), none⟩])
 (.seq (.seq (.ops [⟨some 17, .mv (.t 7), none⟩, ⟨some 18, .bin .lss (.t 17) (.v (.int .i64 0)), none⟩])
 (.ite (.t 18) (.seq (.ops [⟨some 6, .mv (.v (.bool true)), none⟩])
  .ret)
 .skip))
 (.seq (.ops [⟨some 19, .load 3 true (.t 4), none⟩, ⟨some 20, .mv (.t 7), none⟩, ⟨some 21, .call 23 [.t 19, .t 20], none⟩, ⟨some 7, .mv (.t 21), none⟩])
 (.seq (.seq (.ops [⟨some 22, .mv (.t 7), none⟩, ⟨some 23, .bin .lss (.t 22) (.v (.int .i64 0)), none⟩])
 (.ite (.t 23) (.seq (.ops [⟨some 6, .mv (.v (.bool true)), none⟩])
  .ret)
 .skip))
 (.seq (.draw 11 [⟨some 25, .load 12 true (.t 3), none⟩, ⟨some 26, .call 18 [.t 25], none⟩, ⟨some 27, .load 3 true (.t 4), none⟩, ⟨some 28, .call 26 [.t 27], none⟩, ⟨some 29, .mv (.t 2), none⟩, ⟨some 30, .call 35 [.t 26, .t 28, .t 29], none⟩, ⟨some 24, .mv (.t 30), none⟩, ⟨some 31, .ext (.t 24) 0, none⟩, ⟨some 32, .ext (.t 24) 1, none⟩, ⟨some 8, .mv (.t 31), none⟩, ⟨some 9, .mv (.t 32), none⟩])
 (.seq (.ops [⟨some 33, .load 12 true (.t 3), none⟩, ⟨some 34, .call 18 [.t 33], none⟩, ⟨some 10, .alloc [.nil, .nil, .int .i64 0, .int .i64 0, .int .i64 0, .int .i64 0, .int .i64 0, .int .i64 0, .int .i64 0, .nil, .nil, .nil], none⟩, ⟨none, .store 12 (.t 10) (.t 34), none⟩])
 (.seq (.ops [⟨some 35, .load 3 true (.t 4), none⟩, ⟨some 36, .call 26 [.t 35], none⟩, ⟨some 11, .alloc [.int .i64 0, .int .i64 0, .nil], none⟩, ⟨none, .store 3 (.t 11) (.t 36), none⟩])
 (.seq (.ops [⟨some 38, .load 12 true (.t 10), none⟩, ⟨some 39, .load 3 true (.t 11), none⟩, ⟨some 40, .mv (.t 2), none⟩, ⟨some 41, .call 36 [.t 38, .t 39, .t 40], none⟩, ⟨some 37, .mv (.t 41), none⟩, ⟨some 42, .ext (.t 37) 0, none⟩, ⟨some 43, .ext (.t 37) 1, none⟩, ⟨some 12, .mv (.t 42), none⟩, ⟨some 13, .mv (.t 43), none⟩])
 (.seq (.seq (.ops [⟨some 44, .mv (.t 12), none⟩, ⟨some 45, .mv (.t 8), none⟩, ⟨some 46, .bin .neq (.t 44) (.t 45), none⟩, ⟨some 47, .mv (.t 46), none⟩, ⟨some 48, .mv (.t 13), some (47, false)⟩, ⟨some 49, .mv (.t 9), some (47, false)⟩, ⟨some 50, .bqe true (.t 48) (.t 49), some (47, false)⟩, ⟨some 51, .pick (.t 47) (.v (.bool true)) (.t 50), none⟩])
 (.ite (.t 51) (.seq (.ops [⟨some 6, .mv (.v (.bool false)), none⟩])
  .ret)
 .skip))
 (.seq (.seq (.draw 5 [⟨some 52, .load 12 true (.t 10), none⟩, ⟨some 53, .load 12 true (.t 3), none⟩, ⟨some 54, .call 18 [.t 53], none⟩, ⟨some 55, .call 21 [.t 52, .t 54], none⟩, ⟨some 56, .not (.t 55), none⟩])
 (.ite (.t 56) (.seq (.ops [⟨some 6, .mv (.v (.bool false)), none⟩])
  .ret)
 .skip))
 (.seq (.seq (.draw 5 [⟨some 57, .load 3 true (.t 11), none⟩, ⟨some 58, .load 3 true (.t 4), none⟩, ⟨some 59, .call 26 [.t 58], none⟩, ⟨some 60, .call 29 [.t 57, .t 59], none⟩, ⟨some 61, .not (.t 60), none⟩])
 (.ite (.t 61) (.seq (.ops [⟨some 6, .mv (.v (.bool false)), none⟩])
  .ret)
 .skip))
 (.seq (.ops [⟨some 6, .mv (.v (.bool true)), none⟩])
 .ret))))))))))))))
noncomputable def X.l_FnExactGroundOf (p0 : TBoard) (p1 : TState) (p2 : Int) : Option Bool :=
  ((X.l_szBoard p0 1048576).bind fun v1 => (bif (decide (v1 < 0)) then some true else ((X.l_szState p1 v1).bind fun v5 => (bif (decide (v5 < 0)) then some true else ((X.l_toBoard p0).bind fun v9 => ((X.l_toState p1).bind fun v11 => ((X.s_GroundOf v9 v11 p2).bind fun v13 => ((X.l_toBoard p0).bind fun v15 => ((X.l_toState p1).bind fun v17 => ((X.i_GroundOf v15 v17 p2).bind fun v19 => (bif (v19.1 != v13.1) then some false else (bif (!(v19.2 == v13.2)) then some false else ((X.l_toBoard p0).bind fun v30 => ((X.l_eqBoard v15 v30).bind fun v32 => (bif (!v32) then some false else ((X.l_toState p1).bind fun v35 => ((X.l_eqState v17 v35).bind fun v37 => (bif (!v37) then some false else some true))))))))))))))))))
theorem l_FnExactGroundOf_ok (p0 : TBoard) (p1 : TState) (p2 : Int) (r : Bool) (H : X.l_FnExactGroundOf p0 p1 p2 = some r) : FnOk Tryz.prog gl 7 [.agg (eTBoard p0), .agg (eTState p1), cI p2] (cB r) := by
  unfold X.l_FnExactGroundOf at H
  refine fn_in (fn := Tryz.f7) (ir := l_FnExactGroundOf_ir) (s1 := lit [(6, cB r)] []) Tryz.func7 (by kernel_rfl) (by kernel_rfl) (by kernel_rfl) (by kernel_rfl) (by kernel_rfl) ?_
  refine seq_ops [] [] [(2, cI p2), (3, .c (.pk 3 0)), (4, .c (.pk 4 0))] [(3, .var (eTBoard p0) false), (4, .var (eTState p1) false)] (fun t => t) (by kernel_rfl) ?_
  refine seq_ops [] [] [(2, cI p2), (3, .c (.pk 3 0)), (4, .c (.pk 4 0)), (7, cI 1048576)] [(3, .var (eTBoard p0) false), (4, .var (eTState p1) false)] (fun t => t) (by kernel_rfl) ?_
  obtain ⟨v1, h2, H⟩ := ofBind H
  refine seq_ops [.res (cI v1)] [] [(2, cI p2), (3, .c (.pk 3 0)), (4, .c (.pk 4 0)), (7, cI v1)] [(3, .var (eTBoard p0) false), (4, .var (eTState p1) false)] (fun t => aI (l_szBoard_ok p0 1048576 v1 h2) (t)) (by kernel_rfl) ?_
  refine seq_in ?_
  refine seq_ops [] [] [(2, cI p2), (3, .c (.pk 3 0)), (4, .c (.pk 4 0)), (7, cI v1), (18, cB (decide (v1 < 0)))] [(3, .var (eTBoard p0) false), (4, .var (eTState p1) false)] (fun t => t) (by kernel_rfl) ?_
  rcases ofCond H with ⟨c4, H⟩ | ⟨c4, H⟩
  · refine ite_t c4 (by kernel_rfl) ?_
    refine seq_ops [] [] [(6, cB true)] [] (fun t => t) (by kernel_rfl) ?_
    refine ends_ret ?_
    obtain rfl := Option.some.inj H
    exact And.intro (.inl rfl) rfl
  · refine ite_f c4 (by kernel_rfl) ?_
    refine ends_skip ?_
    change EndsI _ _ _ _ _ _
    obtain ⟨v5, h6, H⟩ := ofBind H
    refine seq_ops [.res (cI v5)] [] [(2, cI p2), (3, .c (.pk 3 0)), (4, .c (.pk 4 0)), (7, cI v5)] [(3, .var (eTBoard p0) false), (4, .var (eTState p1) false)] (fun t => aI (l_szState_ok p1 v1 v5 h6) (t)) (by kernel_rfl) ?_
    refine seq_in ?_
    refine seq_ops [] [] [(2, cI p2), (3, .c (.pk 3 0)), (4, .c (.pk 4 0)), (23, cB (decide (v5 < 0)))] [(3, .var (eTBoard p0) false), (4, .var (eTState p1) false)] (fun t => t) (by kernel_rfl) ?_
    rcases ofCond H with ⟨c8, H⟩ | ⟨c8, H⟩
    · refine ite_t c8 (by kernel_rfl) ?_
      refine seq_ops [] [] [(6, cB true)] [] (fun t => t) (by kernel_rfl) ?_
      refine ends_ret ?_
      obtain rfl := Option.some.inj H
      exact And.intro (.inl rfl) rfl
    · refine ite_f c8 (by kernel_rfl) ?_
      refine ends_skip ?_
      change EndsI _ _ _ _ _ _
      obtain ⟨v9, h10, H⟩ := ofBind H
      obtain ⟨v11, h12, H⟩ := ofBind H
      obtain ⟨v13, h14, H⟩ := ofBind H
      refine seq_draw [.res (.agg (eTBoard v9)), .res (.agg (eTState v11)), .res (.tup [(false, [.int .i64 v13.1]), (false, [.bool v13.2])])] [] [(2, cI p2), (3, .c (.pk 3 0)), (4, .c (.pk 4 0)), (8, cI v13.1), (9, cB v13.2)] [(3, .var (eTBoard p0) false), (4, .var (eTState p1) false)] (fun t => aI (l_toBoard_ok p0 v9 h10) (aI (rfl : ([] : List Nat) = []) (aI (rfl : ([] : List Nat) = []) (aI (l_toState_ok p1 v11 h12) (aI (rfl : ([] : List Nat) = []) (aI (rfl : ([] : List Nat) = []) (aI (s_GroundOf_ok v9 v11 p2 v13 h14) (aI trivial (aI (rfl : ([] : List Nat) = []) (t)))))))))) (by kernel_rfl) ?_
      obtain ⟨v15, h16, H⟩ := ofBind H
      refine seq_ops [.res (.agg (eTBoard v15))] [] [(2, cI p2), (3, .c (.pk 3 0)), (4, .c (.pk 4 0)), (8, cI v13.1), (9, cB v13.2), (10, .c (.pk 10 0))] [(3, .var (eTBoard p0) false), (4, .var (eTState p1) false), (10, .var (eTBoard v15) false)] (fun t => aI (l_toBoard_ok p0 v15 h16) (t)) (by kernel_rfl) ?_
      obtain ⟨v17, h18, H⟩ := ofBind H
      refine seq_ops [.res (.agg (eTState v17))] [] [(2, cI p2), (3, .c (.pk 3 0)), (4, .c (.pk 4 0)), (8, cI v13.1), (9, cB v13.2), (10, .c (.pk 10 0)), (11, .c (.pk 11 0))] [(3, .var (eTBoard p0) false), (4, .var (eTState p1) false), (10, .var (eTBoard v15) false), (11, .var (eTState v17) false)] (fun t => aI (l_toState_ok p1 v17 h18) (t)) (by kernel_rfl) ?_
      obtain ⟨v19, h20, H⟩ := ofBind H
      refine seq_ops [.res (.tup [(false, [.int .i64 v19.1]), (false, [.bool v19.2])])] [] [(3, .c (.pk 3 0)), (4, .c (.pk 4 0)), (8, cI v13.1), (9, cB v13.2), (10, .c (.pk 10 0)), (11, .c (.pk 11 0)), (12, cI v19.1), (13, cB v19.2)] [(3, .var (eTBoard p0) false), (4, .var (eTState p1) false), (10, .var (eTBoard v15) false), (11, .var (eTState v17) false)] (fun t => aI (i_GroundOf_ok v15 v17 p2 v19 h20) (t)) (by kernel_rfl) ?_
      refine seq_in ?_
      rcases ofCond H with ⟨c23, H⟩ | ⟨c23, H⟩
      · refine seq_ops [.g true, .g true, .g true, .g true] [] [(3, .c (.pk 3 0)), (4, .c (.pk 4 0)), (10, .c (.pk 10 0)), (11, .c (.pk 11 0)), (51, cB true)] [(3, .var (eTBoard p0) false), (4, .var (eTState p1) false), (10, .var (eTBoard v15) false), (11, .var (eTState v17) false)] (fun t => aI c23 (aI c23 (aI c23 (aI c23 (t))))) (by kernel_rfl) ?_
        refine ite_t (rfl : (true : Bool) = true) (by kernel_rfl) ?_
        refine seq_ops [] [] [(6, cB false)] [] (fun t => t) (by kernel_rfl) ?_
        refine ends_ret ?_
        obtain rfl := Option.some.inj H
        exact And.intro (.inl rfl) rfl
      · refine seq_ops [.g false, .g false, .g false, .g false] [] [(3, .c (.pk 3 0)), (4, .c (.pk 4 0)), (10, .c (.pk 10 0)), (11, .c (.pk 11 0)), (51, cB (!(v19.2 == v13.2)))] [(3, .var (eTBoard p0) false), (4, .var (eTState p1) false), (10, .var (eTBoard v15) false), (11, .var (eTState v17) false)] (fun t => aI c23 (aI c23 (aI c23 (aI c23 (t))))) (by kernel_rfl) ?_
        rcases ofCond H with ⟨c24, H⟩ | ⟨c24, H⟩
        · refine ite_t c24 (by kernel_rfl) ?_
          refine seq_ops [] [] [(6, cB false)] [] (fun t => t) (by kernel_rfl) ?_
          refine ends_ret ?_
          obtain rfl := Option.some.inj H
          exact And.intro (.inl rfl) rfl
        · refine ite_f c24 (by kernel_rfl) ?_
          refine ends_skip ?_
          change EndsI _ _ _ _ _ _
          refine seq_in ?_
          obtain ⟨v30, h31, H⟩ := ofBind H
          obtain ⟨v32, h33, H⟩ := ofBind H
          refine seq_draw [.res (.agg (eTBoard v30)), .res (cB v32)] [] [(4, .c (.pk 4 0)), (11, .c (.pk 11 0)), (56, cB (!v32))] [(4, .var (eTState p1) false), (11, .var (eTState v17) false)] (fun t => aI (l_toBoard_ok p0 v30 h31) (aI (rfl : ([] : List Nat) = []) (aI (rfl : ([] : List Nat) = []) (aI (l_eqBoard_ok v15 v30 v32 h33) (aI trivial (aI (rfl : ([] : List Nat) = []) (t))))))) (by kernel_rfl) ?_
          rcases ofCond H with ⟨c34, H⟩ | ⟨c34, H⟩
          · refine ite_t c34 (by kernel_rfl) ?_
            refine seq_ops [] [] [(6, cB false)] [] (fun t => t) (by kernel_rfl) ?_
            refine ends_ret ?_
            obtain rfl := Option.some.inj H
            exact And.intro (.inl rfl) rfl
          · refine ite_f c34 (by kernel_rfl) ?_
            refine ends_skip ?_
            change EndsI _ _ _ _ _ _
            refine seq_in ?_
            obtain ⟨v35, h36, H⟩ := ofBind H
            obtain ⟨v37, h38, H⟩ := ofBind H
            refine seq_draw [.res (.agg (eTState v35)), .res (cB v37)] [] [(61, cB (!v37))] [] (fun t => aI (l_toState_ok p1 v35 h36) (aI (rfl : ([] : List Nat) = []) (aI (rfl : ([] : List Nat) = []) (aI (l_eqState_ok v17 v35 v37 h38) (aI trivial (aI (rfl : ([] : List Nat) = []) (t))))))) (by kernel_rfl) ?_
            rcases ofCond H with ⟨c39, H⟩ | ⟨c39, H⟩
            · refine ite_t c39 (by kernel_rfl) ?_
              refine seq_ops [] [] [(6, cB false)] [] (fun t => t) (by kernel_rfl) ?_
              refine ends_ret ?_
              obtain rfl := Option.some.inj H
              exact And.intro (.inl rfl) rfl
            · refine ite_f c39 (by kernel_rfl) ?_
              refine ends_skip ?_
              change EndsI _ _ _ _ _ _
              refine seq_ops [] [] [(6, cB true)] [] (fun t => t) (by kernel_rfl) ?_
              refine ends_ret ?_
              obtain rfl := Option.some.inj H
              exact And.intro (.inl rfl) rfl

end Go.Proofs.YtihggbgmdlhlcaaGreatDoor.X0
