/- What each Go function that FnExactPointsNeeded reaches computes, and that it returns so; no condition. -/
import Derived.Test.YtihggbgmdlhlcaaGreatDoorPNWb
set_option linter.unusedVariables false
set_option linter.unusedSimpArgs false
set_option maxRecDepth 100000
namespace Go.Proofs.YtihggbgmdlhlcaaGreatDoor.X0
open Go Go.RowKit Go.Proofs.YtihggbgmdlhlcaaGreatDoor.Ab Go.Proofs

def i_sizeOf_ir : S :=
 (.seq (.ops [⟨some 1, .box 12 (.t 0), none⟩, ⟨some 2, .mv (.v (.int .i64 0)), none⟩])
 (.seq (.ops [⟨some 3, .fad 7 (.t 1), none⟩, ⟨some 4, .fad 2 (.t 3), none⟩, ⟨some 5, .load 1 false (.t 4), none⟩, ⟨some 6, .len (.t 5), none⟩, ⟨some 2, .mv (.t 6), none⟩])
 .ret))
noncomputable def X.i_sizeOf (p0 : TBoard) : Option Int :=
  some (p0.Map.Terrain.length : Int)
theorem i_sizeOf_ok (p0 : TBoard) (r : Int) (H : X.i_sizeOf p0 = some r) : FnOk Tryz.prog gl 91 [.agg (eTBoard p0)] (cI r) := by
  unfold X.i_sizeOf at H
  refine fn_in (fn := Tryz.f91) (ir := i_sizeOf_ir) (s1 := lit [(2, cI r)] []) Tryz.func91 (by kernel_rfl) (by kernel_rfl) (by kernel_rfl) (by kernel_rfl) (by kernel_rfl) ?_
  refine seq_ops [] [] [(1, .c (.pk 1 0))] [(1, .var (eTBoard p0) false)] (fun t => t) (by kernel_rfl) ?_
  refine seq_ops [] [] [(2, cI (p0.Map.Terrain.length : Int))] [] (fun t => lI p0.Map.Terrain (t)) (by kernel_rfl) ?_
  refine ends_ret ?_
  obtain rfl := Option.some.inj H
  exact And.intro (.inl rfl) rfl

def i_isSide_ir : S :=
 (.seq (.ops [⟨some 2, .mv (.v (.bool false)), none⟩])
 (.seq (.ops [⟨some 3, .mv (.t 0), none⟩, ⟨some 4, .call 71 [.t 3, .v (.int .i64 0), .v (.int .i64 1)], none⟩, ⟨some 2, .mv (.t 4), none⟩])
 .ret))
noncomputable def X.i_isSide (p0 : Int) : Option Bool :=
  ((X.i_inRange p0 0 1).bind fun v1 => some v1)
theorem i_isSide_ok (p0 : Int) (r : Bool) (H : X.i_isSide p0 = some r) : FnOk Tryz.prog gl 127 [cI p0] (cB r) := by
  unfold X.i_isSide at H
  refine fn_in (fn := Tryz.f127) (ir := i_isSide_ir) (s1 := lit [(2, cB r)] []) Tryz.func127 (by kernel_rfl) (by kernel_rfl) (by kernel_rfl) (by kernel_rfl) (by kernel_rfl) ?_
  refine seq_ops [] [] [(0, cI p0)] [] (fun t => t) (by kernel_rfl) ?_
  obtain ⟨v1, h2, H⟩ := ofBind H
  refine seq_ops [.res (cB v1)] [] [(2, cB v1)] [] (fun t => aI (i_inRange_ok p0 0 1 v1 h2) (t)) (by kernel_rfl) ?_
  refine ends_ret ?_
  obtain rfl := Option.some.inj H
  exact And.intro (.inl rfl) rfl

def i_terrainAt_ir : S :=
 (.seq (.ops [⟨some 2, .box 12 (.t 0), none⟩, ⟨some 4, .alloc [.str [], .nil, .int .i64 0, .int .i64 0, .bool false], none⟩])
 (.seq (.draw 11 [⟨some 5, .fad 0 (.t 2), none⟩, ⟨some 6, .fad 0 (.t 5), none⟩, ⟨some 7, .load 1 false (.t 6), none⟩, ⟨some 8, .fad 7 (.t 2), none⟩, ⟨some 9, .fad 2 (.t 8), none⟩, ⟨some 10, .load 1 false (.t 9), none⟩, ⟨some 11, .mv (.t 1), none⟩, ⟨some 12, .iad 1 (.t 10) (.t 11), none⟩, ⟨some 13, .load 1 false (.t 12), none⟩, ⟨some 14, .iad 5 (.t 7) (.t 13), none⟩, ⟨some 15, .load 5 true (.t 14), none⟩, ⟨none, .store 5 (.t 4) (.t 15), none⟩])
 .ret))
noncomputable def X.i_terrainAt (p0 : TBoard) (p1 : Int) : Option TTerrain :=
  ((at' zI p0.Map.Terrain p1).bind fun v1 => ((at' zTTerrain p0.Rules.Terrains v1).bind fun v3 => some v3))
theorem i_terrainAt_ok (p0 : TBoard) (p1 : Int) (r : TTerrain) (H : X.i_terrainAt p0 p1 = some r) : FnOk Tryz.prog gl 203 [.agg (eTBoard p0), cI p1] (.agg (eTTerrain r)) := by
  unfold X.i_terrainAt at H
  refine fn_in (fn := Tryz.f203) (ir := i_terrainAt_ir) (s1 := lit [(4, .c (.pk 4 0))] [(4, .var (eTTerrain r) false)]) Tryz.func203 (by kernel_rfl) (by kernel_rfl) (by kernel_rfl) (by kernel_rfl) (by kernel_rfl) ?_
  refine seq_ops [] [] [(1, cI p1), (2, .c (.pk 2 0)), (4, .c (.pk 4 0))] [(2, .var (eTBoard p0) false), (4, .var [.str [], .nil, .int .i64 0, .int .i64 0, .bool false] false)] (fun t => t) (by kernel_rfl) ?_
  obtain ⟨v1, h2, H⟩ := ofBind H
  obtain ⟨v3, h4, H⟩ := ofBind H
  refine seq_draw [.cs (eI v1), .cs (eTTerrain v3)] [] [(4, .c (.pk 4 0))] [(4, .var (eTTerrain v3) false)] (fun t => aI (at_lt h2) (aI (at_enc (enc := eI) h2) (aI (rfl : ([] : List Nat) = []) (aI (at_lt h4) (aI (at_enc (enc := eTTerrain) h4) (aI (rfl : ([] : List Nat) = []) (t))))))) (by kernel_rfl) ?_
  refine ends_ret ?_
  obtain rfl := Option.some.inj H
  exact And.intro (.inl rfl) rfl

def i_enterCost_ir : S :=
 (.seq (.ops [⟨some 3, .box 12 (.t 0), none⟩, ⟨some 6, .mv (.v (.int .i64 0)), none⟩])
 (.seq (.ops [⟨some 7, .load 12 true (.t 3), none⟩, ⟨some 8, .mv (.t 2), none⟩, ⟨some 9, .call 203 [.t 7, .t 8], none⟩, ⟨some 10, .fld 1 1 false (.t 9), none⟩, ⟨some 11, .mv (.t 1), none⟩, ⟨some 12, .iad 1 (.t 10) (.t 11), none⟩, ⟨some 13, .load 1 false (.t 12), none⟩, ⟨some 6, .mv (.t 13), none⟩])
 .ret))
noncomputable def X.i_enterCost (p0 : TBoard) (p1 : Int) (p2 : Int) : Option Int :=
  ((X.i_terrainAt p0 p2).bind fun v1 => ((at' zI v1.Cost p1).bind fun v3 => some v3))
theorem i_enterCost_ok (p0 : TBoard) (p1 : Int) (p2 : Int) (r : Int) (H : X.i_enterCost p0 p1 p2 = some r) : FnOk Tryz.prog gl 143 [.agg (eTBoard p0), cI p1, cI p2] (cI r) := by
  unfold X.i_enterCost at H
  refine fn_in (fn := Tryz.f143) (ir := i_enterCost_ir) (s1 := lit [(6, cI r)] []) Tryz.func143 (by kernel_rfl) (by kernel_rfl) (by kernel_rfl) (by kernel_rfl) (by kernel_rfl) ?_
  refine seq_ops [] [] [(1, cI p1), (2, cI p2), (3, .c (.pk 3 0))] [(3, .var (eTBoard p0) false)] (fun t => t) (by kernel_rfl) ?_
  obtain ⟨v1, h2, H⟩ := ofBind H
  obtain ⟨v3, h4, H⟩ := ofBind H
  refine seq_ops [.res (.agg (eTTerrain v1)), .cs (eI v3)] [] [(6, cI v3)] [] (fun t => aI (i_terrainAt_ok p0 p2 v1 h2) (aI (at_lt h4) (aI (at_enc (enc := eI) h4) (t)))) (by kernel_rfl) ?_
  refine ends_ret ?_
  obtain rfl := Option.some.inj H
  exact And.intro (.inl rfl) rfl

def i_goodUnit_ir : S :=
 (.seq (.ops [⟨some 2, .box 12 (.t 0), none⟩, ⟨some 3, .box 4 (.t 1), none⟩, ⟨some 4, .mv (.v (.bool false)), none⟩])
 (.seq (.seq (.draw 28 [⟨some 5, .fad 0 (.t 3), none⟩, ⟨some 6, .load 1 false (.t 5), none⟩, ⟨some 7, .call 127 [.t 6], none⟩, ⟨some 8, .not (.t 7), none⟩, ⟨some 9, .mv (.t 8), none⟩, ⟨some 10, .fad 1 (.t 3), some (9, false)⟩, ⟨some 11, .load 1 false (.t 10), some (9, false)⟩, ⟨some 12, .fad 0 (.t 2), some (9, false)⟩, ⟨some 13, .fad 1 (.t 12), some (9, false)⟩, ⟨some 14, .load 1 false (.t 13), some (9, false)⟩, ⟨some 15, .len (.t 14), some (9, false)⟩, ⟨some 16, .call 90 [.t 11, .t 15], some (9, false)⟩, ⟨some 17, .not (.t 16), some (9, false)⟩, ⟨some 18, .pick (.t 9) (.v (.bool true)) (.t 17), none⟩, ⟨some 19, .mv (.t 18), none⟩, ⟨some 20, .fad 3 (.t 3), some (19, false)⟩, ⟨some 21, .load 1 false (.t 20), some (19, false)⟩, ⟨some 22, .fad 0 (.t 2), some (19, false)⟩, ⟨some 23, .fad 1 (.t 22), some (19, false)⟩, ⟨some 24, .load 1 false (.t 23), some (19, false)⟩, ⟨some 25, .fad 1 (.t 3), some (19, false)⟩, ⟨some 26, .load 1 false (.t 25), some (19, false)⟩, ⟨some 27, .iad 6 (.t 24) (.t 26), some (19, false)⟩, ⟨some 28, .fad 3 (.t 27), some (19, false)⟩, ⟨some 29, .load 1 false (.t 28), some (19, false)⟩, ⟨some 30, .call 71 [.t 21, .v (.int .i64 0), .t 29], some (19, false)⟩, ⟨some 31, .not (.t 30), some (19, false)⟩, ⟨some 32, .pick (.t 19) (.v (.bool true)) (.t 31), none⟩])
 (.ite (.t 32) (.seq (.ops [⟨some 4, .mv (.v (.bool false)), none⟩])
  .ret)
 .skip))
 (.seq (.seq (.ops [⟨some 33, .fad 2 (.t 3), none⟩, ⟨some 34, .load 1 false (.t 33), none⟩, ⟨some 35, .bin .eql (.t 34) (.v (.int .i64 (-1))), none⟩])
 (.ite (.t 35) (.seq (.ops [⟨some 4, .mv (.v (.bool true)), none⟩])
  .ret)
 .skip))
 (.seq (.draw 20 [⟨some 36, .fad 3 (.t 3), none⟩, ⟨some 37, .load 1 false (.t 36), none⟩, ⟨some 38, .bin .gtr (.t 37) (.v (.int .i64 0)), none⟩, ⟨some 39, .mv (.t 38), none⟩, ⟨some 40, .fad 2 (.t 3), some (39, true)⟩, ⟨some 41, .load 1 false (.t 40), some (39, true)⟩, ⟨some 42, .load 12 true (.t 2), some (39, true)⟩, ⟨some 43, .call 91 [.t 42], some (39, true)⟩, ⟨some 44, .call 90 [.t 41, .t 43], some (39, true)⟩, ⟨some 45, .pick (.t 39) (.t 44) (.v (.bool false)), none⟩, ⟨some 46, .mv (.t 45), none⟩, ⟨some 47, .load 12 true (.t 2), some (46, true)⟩, ⟨some 48, .fad 1 (.t 3), some (46, true)⟩, ⟨some 49, .load 1 false (.t 48), some (46, true)⟩, ⟨some 50, .fad 2 (.t 3), some (46, true)⟩, ⟨some 51, .load 1 false (.t 50), some (46, true)⟩, ⟨some 52, .call 143 [.t 47, .t 49, .t 51], some (46, true)⟩, ⟨some 53, .bin .neq (.t 52) (.v (.int .i64 0)), some (46, true)⟩, ⟨some 54, .pick (.t 46) (.t 53) (.v (.bool false)), none⟩, ⟨some 4, .mv (.t 54), none⟩])
 .ret))))
noncomputable def X.i_goodUnit (p0 : TBoard) (p1 : TUnit) : Option Bool :=
  ((X.i_isSide p1.Side).bind fun v12 => (bif (!v12) then some false else ((X.i_isIndex p1.Kind (p0.Rules.Kinds.length : Int)).bind fun v15 => (bif (!v15) then some false else ((at' zTKind p0.Rules.Kinds p1.Kind).bind fun v18 => ((X.i_inRange p1.Steps 0 v18.Steps).bind fun v20 => (bif (!v20) then some false else (bif (p1.At == (-1)) then some true else (bif (decide (p1.Steps > 0)) then ((X.i_sizeOf p0).bind fun v26 => ((X.i_isIndex p1.At v26).bind fun v28 => (bif v28 then ((X.i_enterCost p0 p1.Kind p1.At).bind fun v31 => some (v31 != 0)) else some false))) else some false)))))))))
theorem i_goodUnit_ok (p0 : TBoard) (p1 : TUnit) (r : Bool) (H : X.i_goodUnit p0 p1 = some r) : FnOk Tryz.prog gl 210 [.agg (eTBoard p0), .agg (eTUnit p1)] (cB r) := by
  unfold X.i_goodUnit at H
  refine fn_in (fn := Tryz.f210) (ir := i_goodUnit_ir) (s1 := lit [(4, cB r)] []) Tryz.func210 (by kernel_rfl) (by kernel_rfl) (by kernel_rfl) (by kernel_rfl) (by kernel_rfl) ?_
  refine seq_ops [] [] [(2, .c (.pk 2 0)), (3, .c (.pk 3 0))] [(2, .var (eTBoard p0) false), (3, .var (eTUnit p1) false)] (fun t => t) (by kernel_rfl) ?_
  refine seq_in ?_
  obtain ⟨v12, h13, H⟩ := ofBind H
  rcases ofCond H with ⟨c14, H⟩ | ⟨c14, H⟩
  · refine seq_draw [.res (cB v12), .g true, .g true, .g true, .g true, .g true, .g true, .g true, .g true, .g true, .g true, .g true, .g true, .g true, .g true, .g true, .g true, .g true, .g true, .g true, .g true, .g true, .g true] [] [(2, .c (.pk 2 0)), (3, .c (.pk 3 0)), (32, cB true)] [(2, .var (eTBoard p0) false), (3, .var (eTUnit p1) false)] (fun t => aI (i_isSide_ok p1.Side v12 h13) (aI trivial (aI (rfl : ([] : List Nat) = []) (aI c14 (aI c14 (aI c14 (aI c14 (aI c14 (aI c14 (aI c14 (aI c14 (aI c14 (aI (rfl : (true : Bool) = true) (aI (rfl : (true : Bool) = true) (aI (rfl : (true : Bool) = true) (aI (rfl : (true : Bool) = true) (aI (rfl : (true : Bool) = true) (aI (rfl : (true : Bool) = true) (aI (rfl : (true : Bool) = true) (aI (rfl : (true : Bool) = true) (aI (rfl : (true : Bool) = true) (aI (rfl : (true : Bool) = true) (aI (rfl : (true : Bool) = true) (aI (rfl : (true : Bool) = true) (aI (rfl : (true : Bool) = true) (t)))))))))))))))))))))))))) (by kernel_rfl) ?_
    refine ite_t (rfl : (true : Bool) = true) (by kernel_rfl) ?_
    refine seq_ops [] [] [(4, cB false)] [] (fun t => t) (by kernel_rfl) ?_
    refine ends_ret ?_
    obtain rfl := Option.some.inj H
    exact And.intro (.inl rfl) rfl
  · obtain ⟨v15, h16, H⟩ := ofBind H
    rcases ofCond H with ⟨c17, H⟩ | ⟨c17, H⟩
    · refine seq_draw [.res (cB v12), .g false, .g false, .g false, .g false, .g false, .g false, .g false, .res (cB v15), .g false, .g false, .g true, .g true, .g true, .g true, .g true, .g true, .g true, .g true, .g true, .g true, .g true, .g true, .g true] [] [(2, .c (.pk 2 0)), (3, .c (.pk 3 0)), (32, cB true)] [(2, .var (eTBoard p0) false), (3, .var (eTUnit p1) false)] (fun t => aI (i_isSide_ok p1.Side v12 h13) (aI trivial (aI (rfl : ([] : List Nat) = []) (aI c14 (aI c14 (aI c14 (aI c14 (aI c14 (aI c14 (aI c14 (aI (i_isIndex_ok p1.Kind (p0.Rules.Kinds.length : Int) v15 h16) (aI trivial (aI (rfl : ([] : List Nat) = []) (aI c14 (aI c14 (aI c17 (aI c17 (aI c17 (aI c17 (aI c17 (aI c17 (aI c17 (aI c17 (aI c17 (aI c17 (aI c17 (aI c17 (aI c17 (t))))))))))))))))))))))))))))) (by kernel_rfl) ?_
      refine ite_t (rfl : (true : Bool) = true) (by kernel_rfl) ?_
      refine seq_ops [] [] [(4, cB false)] [] (fun t => t) (by kernel_rfl) ?_
      refine ends_ret ?_
      obtain rfl := Option.some.inj H
      exact And.intro (.inl rfl) rfl
    · obtain ⟨v18, h19, H⟩ := ofBind H
      obtain ⟨v20, h21, H⟩ := ofBind H
      refine seq_draw [.res (cB v12), .g false, .g false, .g false, .g false, .g false, .g false, .g false, .res (cB v15), .g false, .g false, .g false, .g false, .g false, .g false, .g false, .g false, .g false, .g false, .cs (eTKind v18), .g false, .g false, .g false, .res (cB v20), .g false, .g false] [] [(2, .c (.pk 2 0)), (3, .c (.pk 3 0)), (32, cB (!v20))] [(2, .var (eTBoard p0) false), (3, .var (eTUnit p1) false)] (fun t => aI (i_isSide_ok p1.Side v12 h13) (aI trivial (aI (rfl : ([] : List Nat) = []) (aI c14 (aI c14 (aI c14 (aI c14 (aI c14 (aI c14 (aI c14 (aI (i_isIndex_ok p1.Kind (p0.Rules.Kinds.length : Int) v15 h16) (aI trivial (aI (rfl : ([] : List Nat) = []) (aI c14 (aI c14 (aI c17 (aI c17 (aI c17 (aI c17 (aI c17 (aI c17 (aI c17 (aI c17 (aI (at_lt h19) (aI (at_enc (enc := eTKind) h19) (aI c17 (aI c17 (aI (rfl : ([] : List Nat) = []) (aI c17 (aI (i_inRange_ok p1.Steps 0 v18.Steps v20 h21) (aI trivial (aI (rfl : ([] : List Nat) = []) (aI c17 (aI c17 (t))))))))))))))))))))))))))))))))))) (by kernel_rfl) ?_
      rcases ofCond H with ⟨c22, H⟩ | ⟨c22, H⟩
      · refine ite_t c22 (by kernel_rfl) ?_
        refine seq_ops [] [] [(4, cB false)] [] (fun t => t) (by kernel_rfl) ?_
        refine ends_ret ?_
        obtain rfl := Option.some.inj H
        exact And.intro (.inl rfl) rfl
      · refine ite_f c22 (by kernel_rfl) ?_
        refine ends_skip ?_
        change EndsI _ _ _ _ _ _
        refine seq_in ?_
        refine seq_ops [] [] [(2, .c (.pk 2 0)), (3, .c (.pk 3 0)), (35, cB (p1.At == (-1)))] [(2, .var (eTBoard p0) false), (3, .var (eTUnit p1) false)] (fun t => t) (by kernel_rfl) ?_
        rcases ofCond H with ⟨c24, H⟩ | ⟨c24, H⟩
        · refine ite_t c24 (by kernel_rfl) ?_
          refine seq_ops [] [] [(4, cB true)] [] (fun t => t) (by kernel_rfl) ?_
          refine ends_ret ?_
          obtain rfl := Option.some.inj H
          exact And.intro (.inl rfl) rfl
        · refine ite_f c24 (by kernel_rfl) ?_
          refine ends_skip ?_
          change EndsI _ _ _ _ _ _
          rcases ofCond H with ⟨c25, H⟩ | ⟨c25, H⟩
          · obtain ⟨v26, h27, H⟩ := ofBind H
            obtain ⟨v28, h29, H⟩ := ofBind H
            rcases ofCond H with ⟨c30, H⟩ | ⟨c30, H⟩
            · obtain ⟨v31, h32, H⟩ := ofBind H
              refine seq_draw [.g true, .g true, .g true, .g true, .res (cI v26), .g true, .res (cB v28), .g true, .g true, .g true, .g true, .g true, .g true, .g true, .res (cI v31), .g true, .g true] [] [(4, cB (v31 != 0))] [] (fun t => aI c25 (aI c25 (aI c25 (aI c25 (aI (i_sizeOf_ok p0 v26 h27) (aI trivial (aI (rfl : ([] : List Nat) = []) (aI c25 (aI (i_isIndex_ok p1.At v26 v28 h29) (aI trivial (aI (rfl : ([] : List Nat) = []) (aI c25 (aI c30 (aI c30 (aI c30 (aI c30 (aI c30 (aI c30 (aI (i_enterCost_ok p0 p1.Kind p1.At v31 h32) (aI trivial (aI (rfl : ([] : List Nat) = []) (aI c30 (aI c30 (t)))))))))))))))))))))))) (by kernel_rfl) ?_
              refine ends_ret ?_
              obtain rfl := Option.some.inj H
              exact And.intro (.inl rfl) rfl
            · refine seq_draw [.g true, .g true, .g true, .g true, .res (cI v26), .g true, .res (cB v28), .g true, .g false, .g false, .g false, .g false, .g false, .g false, .g false, .g false] [] [(4, cB false)] [] (fun t => aI c25 (aI c25 (aI c25 (aI c25 (aI (i_sizeOf_ok p0 v26 h27) (aI trivial (aI (rfl : ([] : List Nat) = []) (aI c25 (aI (i_isIndex_ok p1.At v26 v28 h29) (aI trivial (aI (rfl : ([] : List Nat) = []) (aI c25 (aI c30 (aI c30 (aI c30 (aI c30 (aI c30 (aI c30 (aI c30 (aI c30 (t))))))))))))))))))))) (by kernel_rfl) ?_
              refine ends_ret ?_
              obtain rfl := Option.some.inj H
              exact And.intro (.inl rfl) rfl
          · refine seq_draw [.g false, .g false, .g false, .g false, .g false, .g false, .g false, .g false, .g false, .g false, .g false, .g false, .g false, .g false] [] [(4, cB false)] [] (fun t => aI c25 (aI c25 (aI c25 (aI c25 (aI c25 (aI c25 (aI (rfl : (false : Bool) = false) (aI (rfl : (false : Bool) = false) (aI (rfl : (false : Bool) = false) (aI (rfl : (false : Bool) = false) (aI (rfl : (false : Bool) = false) (aI (rfl : (false : Bool) = false) (aI (rfl : (false : Bool) = false) (aI (rfl : (false : Bool) = false) (t))))))))))))))) (by kernel_rfl) ?_
            refine ends_ret ?_
            obtain rfl := Option.some.inj H
            exact And.intro (.inl rfl) rfl

def i_goodState_ir : S :=
 (.seq (.ops [⟨some 2, .box 12 (.t 0), none⟩, ⟨some 3, .box 3 (.t 1), none⟩, ⟨some 4, .mv (.v (.bool false)), none⟩])
 (.seq (.seq (.ops [⟨some 8, .fad 0 (.t 3), none⟩, ⟨some 9, .load 1 false (.t 8), none⟩, ⟨some 10, .fad 0 (.t 2), none⟩, ⟨some 11, .fad 6 (.t 10), none⟩, ⟨some 12, .load 1 false (.t 11), none⟩, ⟨some 13, .call 71 [.t 9, .v (.int .i64 0), .t 12], none⟩, ⟨some 14, .not (.t 13), none⟩, ⟨some 15, .mv (.t 14), none⟩, ⟨some 16, .fad 1 (.t 3), some (15, false)⟩, ⟨some 17, .load 1 false (.t 16), some (15, false)⟩, ⟨some 18, .call 71 [.t 17, .v (.int .i64 0), .v (.int .i64 2)], some (15, false)⟩, ⟨some 19, .not (.t 18), some (15, false)⟩, ⟨some 20, .pick (.t 15) (.v (.bool true)) (.t 19), none⟩, ⟨some 21, .mv (.t 20), none⟩, ⟨some 22, .fad 2 (.t 3), some (21, false)⟩, ⟨some 23, .load 1 false (.t 22), some (21, false)⟩, ⟨some 24, .len (.t 23), some (21, false)⟩, ⟨some 25, .bin .gtr (.t 24) (.v (.int .i64 12)), some (21, false)⟩, ⟨some 26, .pick (.t 21) (.v (.bool true)) (.t 25), none⟩])
 (.ite (.t 26) (.seq (.ops [⟨some 4, .mv (.v (.bool false)), none⟩])
  .ret)
 .skip))
 (.seq (.ops [⟨some 27, .load 12 true (.t 2), none⟩, ⟨some 28, .call 91 [.t 27], none⟩, ⟨some 29, .msl 2 16 [.int .i64 0, .int .i64 0] (.t 28), none⟩, ⟨some 5, .mv (.t 29), none⟩])
 (.seq (.seq (.ops [⟨some 30, .fad 2 (.t 3), none⟩, ⟨some 31, .load 1 false (.t 30), none⟩, ⟨some 32, .len (.t 31), none⟩, ⟨some 33, .mv (.v (.int .i64 0)), none⟩])
 (.blk 0 (.loop (.seq (.ops [⟨some 34, .bin .lss (.t 33) (.t 32), none⟩])
   (.seq (.ite (.t 34) .skip
   (.exit 0))
   (.seq (.blk 1 (.seq (.ops [⟨some 35, .iad 4 (.t 31) (.t 33), none⟩, ⟨some 36, .load 4 true (.t 35), none⟩, ⟨some 7, .alloc [.int .i64 0, .int .i64 0, .int .i64 0, .int .i64 0], none⟩, ⟨none, .store 4 (.t 7) (.t 36), none⟩])
    (.seq (.seq (.ops [⟨some 37, .load 12 true (.t 2), none⟩, ⟨some 38, .load 4 true (.t 7), none⟩, ⟨some 39, .call 210 [.t 37, .t 38], none⟩, ⟨some 40, .not (.t 39), none⟩])
    (.ite (.t 40) (.seq (.ops [⟨some 4, .mv (.v (.bool false)), none⟩])
     .ret)
    .skip))
    (.seq (.seq (.ops [⟨some 41, .fad 2 (.t 7), none⟩, ⟨some 42, .load 1 false (.t 41), none⟩, ⟨some 43, .bin .lss (.t 42) (.v (.int .i64 0)), none⟩])
    (.ite (.t 43) (.exit 1)
    .skip))
    (.seq (.draw 11 [⟨some 44, .mv (.t 5), none⟩, ⟨some 45, .fad 2 (.t 7), none⟩, ⟨some 46, .load 1 false (.t 45), none⟩, ⟨some 47, .fad 0 (.t 7), none⟩, ⟨some 48, .load 1 false (.t 47), none⟩, ⟨some 49, .iad 2 (.t 44) (.t 46), none⟩, ⟨some 50, .iar 2 1 (.t 49) (.t 48), none⟩, ⟨some 51, .load 1 false (.t 50), none⟩, ⟨some 52, .bin .add (.t 51) (.v (.int .i64 1)), none⟩, ⟨some 53, .iad 2 (.t 44) (.t 46), none⟩, ⟨some 54, .iar 2 1 (.t 53) (.t 48), none⟩, ⟨none, .store 1 (.t 54) (.t 52), none⟩])
    (.seq (.draw 24 [⟨some 55, .mv (.t 5), none⟩, ⟨some 56, .fad 2 (.t 7), none⟩, ⟨some 57, .load 1 false (.t 56), none⟩, ⟨some 58, .fad 0 (.t 7), none⟩, ⟨some 59, .load 1 false (.t 58), none⟩, ⟨some 60, .bin .sub (.v (.int .i64 1)) (.t 59), none⟩, ⟨some 61, .iad 2 (.t 55) (.t 57), none⟩, ⟨some 62, .iar 2 1 (.t 61) (.t 60), none⟩, ⟨some 63, .load 1 false (.t 62), none⟩, ⟨some 64, .bin .gtr (.t 63) (.v (.int .i64 0)), none⟩, ⟨some 65, .mv (.t 64), none⟩, ⟨some 66, .mv (.t 5), some (65, false)⟩, ⟨some 67, .fad 2 (.t 7), some (65, false)⟩, ⟨some 68, .load 1 false (.t 67), some (65, false)⟩, ⟨some 69, .fad 0 (.t 7), some (65, false)⟩, ⟨some 70, .load 1 false (.t 69), some (65, false)⟩, ⟨some 71, .iad 2 (.t 66) (.t 68), some (65, false)⟩, ⟨some 72, .iar 2 1 (.t 71) (.t 70), some (65, false)⟩, ⟨some 73, .load 1 false (.t 72), some (65, false)⟩, ⟨some 74, .fad 0 (.t 2), some (65, false)⟩, ⟨some 75, .fad 2 (.t 74), some (65, false)⟩, ⟨some 76, .load 1 false (.t 75), some (65, false)⟩, ⟨some 77, .bin .gtr (.t 73) (.t 76), some (65, false)⟩, ⟨some 78, .pick (.t 65) (.v (.bool true)) (.t 77), none⟩])
    (.ite (.t 78) (.seq (.ops [⟨some 4, .mv (.v (.bool false)), none⟩])
     .ret)
    .skip)))))))
   (.ops [⟨some 79, .bin .add (.t 33) (.v (.int .i64 1)), none⟩, ⟨some 33, .mv (.t 79), none⟩])))))))
 (.seq (.ops [⟨some 4, .mv (.v (.bool true)), none⟩])
 .ret)))))
noncomputable def X.i_goodState (p0 : TBoard) (p1 : TState) : Option Bool :=
  ((X.i_inRange p1.Turn 0 p0.Rules.Turns).bind fun v8 => (bif (!v8) then some false else ((X.i_inRange p1.Weather 0 2).bind fun v11 => (bif (!v11) then some false else (bif (decide ((p1.Units.length : Int) > 12)) then some false else ((X.i_sizeOf p0).bind fun v15 => (if 0 ≤ v15 ∧ v15.toNat ≤ LIM then ((loop (fun (x85 : (Int × (List A2_I))) => ((bif (decide (x85.1 < (p1.Units.length : Int))) then ((at' zTUnit p1.Units x85.1).bind fun v88 => ((X.i_goodUnit p0 v88).bind fun v93 => (bif (!v93) then some (Sum.inr (Sum.inr false)) else (bif (decide (v88.At < 0)) then some (Sum.inl ((W (x85.1 + 1)), x85.2)) else (if 0 ≤ v88.At ∧ v88.At < (x85.2.length : Int) then (if v88.Side = ((0 : Nat) : Int) then (if (W (1 - v88.Side)) = ((0 : Nat) : Int) then (bif (decide (((x85.2.set v88.At.toNat (A2_I.mk (W ((x85.2.getD v88.At.toNat zA2_I).a0 + 1)) ((x85.2.getD v88.At.toNat zA2_I).a1))).getD v88.At.toNat zA2_I).a0 > 0)) then some (Sum.inr (Sum.inr false)) else (bif (decide (((x85.2.set v88.At.toNat (A2_I.mk (W ((x85.2.getD v88.At.toNat zA2_I).a0 + 1)) ((x85.2.getD v88.At.toNat zA2_I).a1))).getD v88.At.toNat zA2_I).a0 > p0.Rules.Stack)) then some (Sum.inr (Sum.inr false)) else some (Sum.inl ((W (x85.1 + 1)), (x85.2.set v88.At.toNat (A2_I.mk (W ((x85.2.getD v88.At.toNat zA2_I).a0 + 1)) ((x85.2.getD v88.At.toNat zA2_I).a1))))))) else (if (W (1 - v88.Side)) = ((1 : Nat) : Int) then (bif (decide (((x85.2.set v88.At.toNat (A2_I.mk (W ((x85.2.getD v88.At.toNat zA2_I).a0 + 1)) ((x85.2.getD v88.At.toNat zA2_I).a1))).getD v88.At.toNat zA2_I).a1 > 0)) then some (Sum.inr (Sum.inr false)) else (bif (decide (((x85.2.set v88.At.toNat (A2_I.mk (W ((x85.2.getD v88.At.toNat zA2_I).a0 + 1)) ((x85.2.getD v88.At.toNat zA2_I).a1))).getD v88.At.toNat zA2_I).a0 > p0.Rules.Stack)) then some (Sum.inr (Sum.inr false)) else some (Sum.inl ((W (x85.1 + 1)), (x85.2.set v88.At.toNat (A2_I.mk (W ((x85.2.getD v88.At.toNat zA2_I).a0 + 1)) ((x85.2.getD v88.At.toNat zA2_I).a1))))))) else none)) else (if v88.Side = ((1 : Nat) : Int) then (if (W (1 - v88.Side)) = ((0 : Nat) : Int) then (bif (decide (((x85.2.set v88.At.toNat (A2_I.mk ((x85.2.getD v88.At.toNat zA2_I).a0) (W ((x85.2.getD v88.At.toNat zA2_I).a1 + 1)))).getD v88.At.toNat zA2_I).a0 > 0)) then some (Sum.inr (Sum.inr false)) else (bif (decide (((x85.2.set v88.At.toNat (A2_I.mk ((x85.2.getD v88.At.toNat zA2_I).a0) (W ((x85.2.getD v88.At.toNat zA2_I).a1 + 1)))).getD v88.At.toNat zA2_I).a1 > p0.Rules.Stack)) then some (Sum.inr (Sum.inr false)) else some (Sum.inl ((W (x85.1 + 1)), (x85.2.set v88.At.toNat (A2_I.mk ((x85.2.getD v88.At.toNat zA2_I).a0) (W ((x85.2.getD v88.At.toNat zA2_I).a1 + 1)))))))) else (if (W (1 - v88.Side)) = ((1 : Nat) : Int) then (bif (decide (((x85.2.set v88.At.toNat (A2_I.mk ((x85.2.getD v88.At.toNat zA2_I).a0) (W ((x85.2.getD v88.At.toNat zA2_I).a1 + 1)))).getD v88.At.toNat zA2_I).a1 > 0)) then some (Sum.inr (Sum.inr false)) else (bif (decide (((x85.2.set v88.At.toNat (A2_I.mk ((x85.2.getD v88.At.toNat zA2_I).a0) (W ((x85.2.getD v88.At.toNat zA2_I).a1 + 1)))).getD v88.At.toNat zA2_I).a1 > p0.Rules.Stack)) then some (Sum.inr (Sum.inr false)) else some (Sum.inl ((W (x85.1 + 1)), (x85.2.set v88.At.toNat (A2_I.mk ((x85.2.getD v88.At.toNat zA2_I).a0) (W ((x85.2.getD v88.At.toNat zA2_I).a1 + 1)))))))) else none)) else none)) else none))))) else some (Sum.inr (Sum.inl ()))) : Option ((Int × (List A2_I)) ⊕ (Unit ⊕ Bool)))) (0, (List.replicate v15.toNat zA2_I))).bind fun y119 => (Sum.elim (fun (y121 : Unit) => some true) (fun (y122 : Bool) => some y122) y119)) else none)))))))
theorem i_goodState_ok (p0 : TBoard) (p1 : TState) (r : Bool) (H : X.i_goodState p0 p1 = some r) : FnOk Tryz.prog gl 177 [.agg (eTBoard p0), .agg (eTState p1)] (cB r) := by
  unfold X.i_goodState at H
  refine fn_in (fn := Tryz.f177) (ir := i_goodState_ir) (s1 := lit [(4, cB r)] []) Tryz.func177 (by kernel_rfl) (by kernel_rfl) (by kernel_rfl) (by kernel_rfl) (by kernel_rfl) ?_
  refine seq_ops [] [] [(2, .c (.pk 2 0)), (3, .c (.pk 3 0))] [(2, .var (eTBoard p0) false), (3, .var (eTState p1) false)] (fun t => t) (by kernel_rfl) ?_
  refine seq_in ?_
  obtain ⟨v8, h9, H⟩ := ofBind H
  rcases ofCond H with ⟨c10, H⟩ | ⟨c10, H⟩
  · refine seq_ops [.res (cB v8), .g true, .g true, .g true, .g true, .g true, .g true, .g true, .g true, .g true, .g true] [] [(2, .c (.pk 2 0)), (3, .c (.pk 3 0)), (26, cB true)] [(2, .var (eTBoard p0) false), (3, .var (eTState p1) false)] (fun t => aI (i_inRange_ok p1.Turn 0 p0.Rules.Turns v8 h9) (aI c10 (aI c10 (aI c10 (aI c10 (aI c10 (aI (rfl : (true : Bool) = true) (aI (rfl : (true : Bool) = true) (aI (rfl : (true : Bool) = true) (aI (rfl : (true : Bool) = true) (aI (rfl : (true : Bool) = true) (t)))))))))))) (by kernel_rfl) ?_
    refine ite_t (rfl : (true : Bool) = true) (by kernel_rfl) ?_
    refine seq_ops [] [] [(4, cB false)] [] (fun t => t) (by kernel_rfl) ?_
    refine ends_ret ?_
    obtain rfl := Option.some.inj H
    exact And.intro (.inl rfl) rfl
  · obtain ⟨v11, h12, H⟩ := ofBind H
    rcases ofCond H with ⟨c13, H⟩ | ⟨c13, H⟩
    · refine seq_ops [.res (cB v8), .g false, .g false, .g false, .res (cB v11), .g false, .g false, .g true, .g true, .g true, .g true, .g true] [] [(2, .c (.pk 2 0)), (3, .c (.pk 3 0)), (26, cB true)] [(2, .var (eTBoard p0) false), (3, .var (eTState p1) false)] (fun t => aI (i_inRange_ok p1.Turn 0 p0.Rules.Turns v8 h9) (aI c10 (aI c10 (aI c10 (aI (i_inRange_ok p1.Weather 0 2 v11 h12) (aI c10 (aI c10 (aI c13 (aI c13 (aI c13 (aI c13 (aI c13 (t))))))))))))) (by kernel_rfl) ?_
      refine ite_t (rfl : (true : Bool) = true) (by kernel_rfl) ?_
      refine seq_ops [] [] [(4, cB false)] [] (fun t => t) (by kernel_rfl) ?_
      refine ends_ret ?_
      obtain rfl := Option.some.inj H
      exact And.intro (.inl rfl) rfl
    · refine seq_ops [.res (cB v8), .g false, .g false, .g false, .res (cB v11), .g false, .g false, .g false, .g false, .g false, .g false, .g false] [] [(2, .c (.pk 2 0)), (3, .c (.pk 3 0)), (26, cB (decide ((p1.Units.length : Int) > 12)))] [(2, .var (eTBoard p0) false), (3, .var (eTState p1) false)] (fun t => aI (i_inRange_ok p1.Turn 0 p0.Rules.Turns v8 h9) (aI c10 (aI c10 (aI c10 (aI (i_inRange_ok p1.Weather 0 2 v11 h12) (aI c10 (aI c10 (aI c13 (aI c13 (aI c13 (lI p1.Units (aI c13 (aI c13 (t)))))))))))))) (by kernel_rfl) ?_
      rcases ofCond H with ⟨c14, H⟩ | ⟨c14, H⟩
      · refine ite_t c14 (by kernel_rfl) ?_
        refine seq_ops [] [] [(4, cB false)] [] (fun t => t) (by kernel_rfl) ?_
        refine ends_ret ?_
        obtain rfl := Option.some.inj H
        exact And.intro (.inl rfl) rfl
      · refine ite_f c14 (by kernel_rfl) ?_
        refine ends_skip ?_
        change EndsI _ _ _ _ _ _
        obtain ⟨v15, h16, H⟩ := ofBind H
        obtain ⟨g17, H⟩ := ofIf H
        refine seq_ops [.res (cI v15), .fn (List.replicate v15.toNat zA2_I).length (fF eA2_I zA2_I (List.replicate v15.toNat zA2_I))] [] [(2, .c (.pk 2 0)), (3, .c (.pk 3 0)), (5, .c (.own 29 2 0 ((List.replicate v15.toNat zA2_I).length)))] [(2, .var (eTBoard p0) false), (3, .var (eTState p1) false), (29, .arr 2 ((List.replicate v15.toNat zA2_I).length) (fF eA2_I zA2_I (List.replicate v15.toNat zA2_I)) false)] (fun t => aI (i_sizeOf_ok p0 v15 h16) (aI (And.intro g17.1 (And.intro (List.length_replicate (n := v15.toNat) (a := zA2_I)).symm (Nat.le_trans (Nat.le_of_eq List.length_replicate) g17.2 : (List.replicate v15.toNat zA2_I).length ≤ LIM))) (aI (fF_rep eA2_I zA2_I zA2_I v15.toNat) (t)))) (by kernel_rfl) ?_
        refine seq_in ?_
        refine seq_ops [] [] [(2, .c (.pk 2 0)), (5, .c (.own 29 2 0 ((List.replicate v15.toNat zA2_I).length))), (31, .c (dat 4 eTUnit zTUnit p1.Units)), (32, cI (p1.Units.length : Int)), (33, cI 0)] [(2, .var (eTBoard p0) false), (29, .arr 2 ((List.replicate v15.toNat zA2_I).length) (fF eA2_I zA2_I (List.replicate v15.toNat zA2_I)) false)] (fun t => lI p1.Units (t)) (by kernel_rfl) ?_
        refine ends_blk ?_
        obtain ⟨y119, h120, H⟩ := ofBind H
        refine loop_in (fun (x : (Int × (List A2_I))) => lit [(2, .c (.pk 2 0)), (5, .c (.own 29 2 0 x.2.length)), (31, .c (dat 4 eTUnit zTUnit p1.Units)), (32, cI (p1.Units.length : Int)), (33, cI x.1)] [(2, .var (eTBoard p0) false), (29, .arr 2 x.2.length (fF eA2_I zA2_I x.2) false)]) (orJ (fun (z : Unit) => At (.exit 0) (lit [] [])) (fun (z : Bool) => At .ret (lit [(4, cB z)] []))) h120 ?_ ?_
        · clear H h120
          intro x85 y0 H
          refine seq_ops [] [] [(2, .c (.pk 2 0)), (5, .c (.own 29 2 0 x85.2.length)), (31, .c (dat 4 eTUnit zTUnit p1.Units)), (32, cI (p1.Units.length : Int)), (33, cI x85.1), (34, cB (decide (x85.1 < (p1.Units.length : Int))))] [(2, .var (eTBoard p0) false), (29, .arr 2 x85.2.length (fF eA2_I zA2_I x85.2) false)] (fun t => t) (by kernel_rfl) ?_
          refine seq_in ?_
          rcases ofCond H with ⟨c87, H⟩ | ⟨c87, H⟩
          · refine ite_t c87 (by kernel_rfl) ?_
            refine ends_skip ?_
            change EndsI _ _ _ _ _ _
            refine seq_in ?_
            refine ends_blk ?_
            obtain ⟨v88, h89, H⟩ := ofBind H
            refine seq_ops [.cs (eTUnit v88)] [] [(2, .c (.pk 2 0)), (5, .c (.own 29 2 0 x85.2.length)), (7, .c (.pk 7 0)), (31, .c (dat 4 eTUnit zTUnit p1.Units)), (32, cI (p1.Units.length : Int)), (33, cI x85.1)] [(2, .var (eTBoard p0) false), (7, .var (eTUnit v88) false), (29, .arr 2 x85.2.length (fF eA2_I zA2_I x85.2) false)] (fun t => aI (at_lt h89) (aI (at_enc (enc := eTUnit) h89) (t))) (by kernel_rfl) ?_
            refine seq_in ?_
            obtain ⟨v93, h94, H⟩ := ofBind H
            refine seq_ops [.res (cB v93)] [] [(2, .c (.pk 2 0)), (5, .c (.own 29 2 0 x85.2.length)), (7, .c (.pk 7 0)), (31, .c (dat 4 eTUnit zTUnit p1.Units)), (32, cI (p1.Units.length : Int)), (33, cI x85.1), (40, cB (!v93))] [(2, .var (eTBoard p0) false), (7, .var (eTUnit v88) false), (29, .arr 2 x85.2.length (fF eA2_I zA2_I x85.2) false)] (fun t => aI (i_goodUnit_ok p0 v88 v93 h94) (t)) (by kernel_rfl) ?_
            rcases ofCond H with ⟨c95, H⟩ | ⟨c95, H⟩
            · refine ite_t c95 (by kernel_rfl) ?_
              refine seq_ops [] [] [(4, cB false)] [] (fun t => t) (by kernel_rfl) ?_
              refine ends_ret ?_
              obtain rfl := Option.some.inj H
              exact And.intro (by simp) (And.intro rfl rfl)
            · refine ite_f c95 (by kernel_rfl) ?_
              refine ends_skip ?_
              change EndsI _ _ _ _ _ _
              refine seq_in ?_
              refine seq_ops [] [] [(2, .c (.pk 2 0)), (5, .c (.own 29 2 0 x85.2.length)), (7, .c (.pk 7 0)), (31, .c (dat 4 eTUnit zTUnit p1.Units)), (32, cI (p1.Units.length : Int)), (33, cI x85.1), (43, cB (decide (v88.At < 0)))] [(2, .var (eTBoard p0) false), (7, .var (eTUnit v88) false), (29, .arr 2 x85.2.length (fF eA2_I zA2_I x85.2) false)] (fun t => t) (by kernel_rfl) ?_
              rcases ofCond H with ⟨c97, H⟩ | ⟨c97, H⟩
              · refine ite_t c97 (by kernel_rfl) ?_
                refine ends_exit ?_
                change EndsI _ _ _ _ _ _
                refine one_ops [] [] [(2, .c (.pk 2 0)), (5, .c (.own 29 2 0 x85.2.length)), (31, .c (dat 4 eTUnit zTUnit p1.Units)), (32, cI (p1.Units.length : Int)), (33, cI (W (x85.1 + 1)))] [(2, .var (eTBoard p0) false), (29, .arr 2 x85.2.length (fF eA2_I zA2_I x85.2) false)] (fun t => t) (by kernel_rfl) ?_
                obtain rfl := Option.some.inj H
                exact And.intro rfl rfl
              · refine ite_f c97 (by kernel_rfl) ?_
                refine ends_skip ?_
                change EndsI _ _ _ _ _ _
                obtain ⟨g98, H⟩ := ofIf H
                rcases ofIte H with ⟨c99, H⟩ | ⟨c118, H⟩
                · refine seq_draw [.no, .nat 0, .no, .nat 0, .fn 0 (fF eA2_I zA2_I (x85.2.set v88.At.toNat (A2_I.mk (W ((x85.2.getD v88.At.toNat zA2_I).a0 + 1)) ((x85.2.getD v88.At.toNat zA2_I).a1))))] [] [(2, .c (.pk 2 0)), (5, .c (.own 29 2 0 x85.2.length)), (7, .c (.pk 7 0)), (31, .c (dat 4 eTUnit zTUnit p1.Units)), (32, cI (p1.Units.length : Int)), (33, cI x85.1)] [(2, .var (eTBoard p0) false), (7, .var (eTUnit v88) false), (29, .arr 2 x85.2.length (fF eA2_I zA2_I (x85.2.set v88.At.toNat (A2_I.mk (W ((x85.2.getD v88.At.toNat zA2_I).a0 + 1)) ((x85.2.getD v88.At.toNat zA2_I).a1)))) false)] (fun t => aI g98 (aI (And.intro c99 (by decide : 0 < 2)) (aI (nat_lt g98) (aI (rfl : ([] : List Nat) = []) (aI g98 (aI (And.intro c99 (by decide : 0 < 2)) (aI (rfl : true = true) (aI (nat_lt g98) (aI (by decide : 0 + 1 ≤ 2) (aI (fF_set eA2_I zA2_I x85.2 v88.At.toNat (A2_I.mk (W ((x85.2.getD v88.At.toNat zA2_I).a0 + 1)) ((x85.2.getD v88.At.toNat zA2_I).a1)) (nat_lt g98) x85.2.length) (t))))))))))) (by kernel_rfl) ?_
                  rcases ofIte H with ⟨c100, H⟩ | ⟨c107, H⟩
                  · rcases ofCond H with ⟨c101, H⟩ | ⟨c101, H⟩
                    · refine seq_draw [.no, .nat 0, .g true, .g true, .g true, .g true, .g true, .g true, .g true, .g true, .g true, .g true, .g true, .g true, .g true] [] [(2, .c (.pk 2 0)), (5, .c (.own 29 2 0 x85.2.length)), (31, .c (dat 4 eTUnit zTUnit p1.Units)), (32, cI (p1.Units.length : Int)), (33, cI x85.1), (78, cB true)] [(2, .var (eTBoard p0) false), (29, .arr 2 x85.2.length (fF eA2_I zA2_I (x85.2.set v88.At.toNat (A2_I.mk (W ((x85.2.getD v88.At.toNat zA2_I).a0 + 1)) ((x85.2.getD v88.At.toNat zA2_I).a1)))) false)] (fun t => aI g98 (aI (And.intro c100 (by decide : 0 < 2)) (aI (nat_lt g98) (aI (rfl : ([] : List Nat) = []) (aI c101 (aI c101 (aI c101 (aI c101 (aI c101 (aI c101 (aI c101 (aI c101 (aI c101 (aI c101 (aI c101 (aI c101 (aI c101 (t)))))))))))))))))) (by kernel_rfl) ?_
                      refine ite_t (rfl : (true : Bool) = true) (by kernel_rfl) ?_
                      refine seq_ops [] [] [(4, cB false)] [] (fun t => t) (by kernel_rfl) ?_
                      refine ends_ret ?_
                      obtain rfl := Option.some.inj H
                      exact And.intro (by simp) (And.intro rfl rfl)
                    · refine seq_draw [.no, .nat 0, .g false, .g false, .g false, .g false, .g false, .g false, .no, .g false, .nat 0, .g false, .g false, .g false, .g false, .g false, .g false] [] [(2, .c (.pk 2 0)), (5, .c (.own 29 2 0 x85.2.length)), (31, .c (dat 4 eTUnit zTUnit p1.Units)), (32, cI (p1.Units.length : Int)), (33, cI x85.1), (78, cB (decide (((x85.2.set v88.At.toNat (A2_I.mk (W ((x85.2.getD v88.At.toNat zA2_I).a0 + 1)) ((x85.2.getD v88.At.toNat zA2_I).a1))).getD v88.At.toNat zA2_I).a0 > p0.Rules.Stack)))] [(2, .var (eTBoard p0) false), (29, .arr 2 x85.2.length (fF eA2_I zA2_I (x85.2.set v88.At.toNat (A2_I.mk (W ((x85.2.getD v88.At.toNat zA2_I).a0 + 1)) ((x85.2.getD v88.At.toNat zA2_I).a1)))) false)] (fun t => aI g98 (aI (And.intro c100 (by decide : 0 < 2)) (aI (nat_lt g98) (aI (rfl : ([] : List Nat) = []) (aI c101 (aI c101 (aI c101 (aI c101 (aI c101 (aI c101 (aI g98 (aI c101 (aI (And.intro c99 (by decide : 0 < 2)) (aI c101 (aI (nat_lt g98) (aI (rfl : ([] : List Nat) = []) (aI c101 (aI c101 (aI c101 (aI c101 (aI c101 (t)))))))))))))))))))))) (by kernel_rfl) ?_
                      rcases ofCond H with ⟨c102, H⟩ | ⟨c102, H⟩
                      · refine ite_t c102 (by kernel_rfl) ?_
                        refine seq_ops [] [] [(4, cB false)] [] (fun t => t) (by kernel_rfl) ?_
                        refine ends_ret ?_
                        obtain rfl := Option.some.inj H
                        exact And.intro (by simp) (And.intro rfl rfl)
                      · refine ite_f c102 (by kernel_rfl) ?_
                        refine ends_skip ?_
                        change EndsI _ _ _ _ _ _
                        refine one_ops [] [.rel 5 ((x85.2.set v88.At.toNat (A2_I.mk (W ((x85.2.getD v88.At.toNat zA2_I).a0 + 1)) ((x85.2.getD v88.At.toNat zA2_I).a1))).length), .rep 29 ((x85.2.set v88.At.toNat (A2_I.mk (W ((x85.2.getD v88.At.toNat zA2_I).a0 + 1)) ((x85.2.getD v88.At.toNat zA2_I).a1))).length) (fF eA2_I zA2_I (x85.2.set v88.At.toNat (A2_I.mk (W ((x85.2.getD v88.At.toNat zA2_I).a0 + 1)) ((x85.2.getD v88.At.toNat zA2_I).a1))))] [(2, .c (.pk 2 0)), (5, .c (.own 29 2 0 ((x85.2.set v88.At.toNat (A2_I.mk (W ((x85.2.getD v88.At.toNat zA2_I).a0 + 1)) ((x85.2.getD v88.At.toNat zA2_I).a1))).length))), (31, .c (dat 4 eTUnit zTUnit p1.Units)), (32, cI (p1.Units.length : Int)), (33, cI (W (x85.1 + 1)))] [(2, .var (eTBoard p0) false), (29, .arr 2 ((x85.2.set v88.At.toNat (A2_I.mk (W ((x85.2.getD v88.At.toNat zA2_I).a0 + 1)) ((x85.2.getD v88.At.toNat zA2_I).a1))).length) (fF eA2_I zA2_I (x85.2.set v88.At.toNat (A2_I.mk (W ((x85.2.getD v88.At.toNat zA2_I).a0 + 1)) ((x85.2.getD v88.At.toNat zA2_I).a1)))) false)] (fun t => aI (by simp : x85.2.length = (x85.2.set v88.At.toNat (A2_I.mk (W ((x85.2.getD v88.At.toNat zA2_I).a0 + 1)) ((x85.2.getD v88.At.toNat zA2_I).a1))).length) (aI (Nat.le_of_eq (by simp : (x85.2.set v88.At.toNat (A2_I.mk (W ((x85.2.getD v88.At.toNat zA2_I).a0 + 1)) ((x85.2.getD v88.At.toNat zA2_I).a1))).length = x85.2.length)) (aI (fun _ _ => rfl : ∀ i, i < (x85.2.set v88.At.toNat (A2_I.mk (W ((x85.2.getD v88.At.toNat zA2_I).a0 + 1)) ((x85.2.getD v88.At.toNat zA2_I).a1))).length → (fF eA2_I zA2_I (x85.2.set v88.At.toNat (A2_I.mk (W ((x85.2.getD v88.At.toNat zA2_I).a0 + 1)) ((x85.2.getD v88.At.toNat zA2_I).a1)))) i = (fF eA2_I zA2_I (x85.2.set v88.At.toNat (A2_I.mk (W ((x85.2.getD v88.At.toNat zA2_I).a0 + 1)) ((x85.2.getD v88.At.toNat zA2_I).a1)))) i) (t)))) (by kernel_rfl) ?_
                        obtain rfl := Option.some.inj H
                        exact And.intro rfl rfl
                  · rcases ofIte H with ⟨c103, H⟩ | ⟨c106, H⟩
                    · rcases ofCond H with ⟨c104, H⟩ | ⟨c104, H⟩
                      · refine seq_draw [.no, .nat 1, .g true, .g true, .g true, .g true, .g true, .g true, .g true, .g true, .g true, .g true, .g true, .g true, .g true] [] [(2, .c (.pk 2 0)), (5, .c (.own 29 2 0 x85.2.length)), (31, .c (dat 4 eTUnit zTUnit p1.Units)), (32, cI (p1.Units.length : Int)), (33, cI x85.1), (78, cB true)] [(2, .var (eTBoard p0) false), (29, .arr 2 x85.2.length (fF eA2_I zA2_I (x85.2.set v88.At.toNat (A2_I.mk (W ((x85.2.getD v88.At.toNat zA2_I).a0 + 1)) ((x85.2.getD v88.At.toNat zA2_I).a1)))) false)] (fun t => aI g98 (aI (And.intro c103 (by decide : 1 < 2)) (aI (nat_lt g98) (aI (rfl : ([] : List Nat) = []) (aI c104 (aI c104 (aI c104 (aI c104 (aI c104 (aI c104 (aI c104 (aI c104 (aI c104 (aI c104 (aI c104 (aI c104 (aI c104 (t)))))))))))))))))) (by kernel_rfl) ?_
                        refine ite_t (rfl : (true : Bool) = true) (by kernel_rfl) ?_
                        refine seq_ops [] [] [(4, cB false)] [] (fun t => t) (by kernel_rfl) ?_
                        refine ends_ret ?_
                        obtain rfl := Option.some.inj H
                        exact And.intro (by simp) (And.intro rfl rfl)
                      · refine seq_draw [.no, .nat 1, .g false, .g false, .g false, .g false, .g false, .g false, .no, .g false, .nat 0, .g false, .g false, .g false, .g false, .g false, .g false] [] [(2, .c (.pk 2 0)), (5, .c (.own 29 2 0 x85.2.length)), (31, .c (dat 4 eTUnit zTUnit p1.Units)), (32, cI (p1.Units.length : Int)), (33, cI x85.1), (78, cB (decide (((x85.2.set v88.At.toNat (A2_I.mk (W ((x85.2.getD v88.At.toNat zA2_I).a0 + 1)) ((x85.2.getD v88.At.toNat zA2_I).a1))).getD v88.At.toNat zA2_I).a0 > p0.Rules.Stack)))] [(2, .var (eTBoard p0) false), (29, .arr 2 x85.2.length (fF eA2_I zA2_I (x85.2.set v88.At.toNat (A2_I.mk (W ((x85.2.getD v88.At.toNat zA2_I).a0 + 1)) ((x85.2.getD v88.At.toNat zA2_I).a1)))) false)] (fun t => aI g98 (aI (And.intro c103 (by decide : 1 < 2)) (aI (nat_lt g98) (aI (rfl : ([] : List Nat) = []) (aI c104 (aI c104 (aI c104 (aI c104 (aI c104 (aI c104 (aI g98 (aI c104 (aI (And.intro c99 (by decide : 0 < 2)) (aI c104 (aI (nat_lt g98) (aI (rfl : ([] : List Nat) = []) (aI c104 (aI c104 (aI c104 (aI c104 (aI c104 (t)))))))))))))))))))))) (by kernel_rfl) ?_
                        rcases ofCond H with ⟨c105, H⟩ | ⟨c105, H⟩
                        · refine ite_t c105 (by kernel_rfl) ?_
                          refine seq_ops [] [] [(4, cB false)] [] (fun t => t) (by kernel_rfl) ?_
                          refine ends_ret ?_
                          obtain rfl := Option.some.inj H
                          exact And.intro (by simp) (And.intro rfl rfl)
                        · refine ite_f c105 (by kernel_rfl) ?_
                          refine ends_skip ?_
                          change EndsI _ _ _ _ _ _
                          refine one_ops [] [.rel 5 ((x85.2.set v88.At.toNat (A2_I.mk (W ((x85.2.getD v88.At.toNat zA2_I).a0 + 1)) ((x85.2.getD v88.At.toNat zA2_I).a1))).length), .rep 29 ((x85.2.set v88.At.toNat (A2_I.mk (W ((x85.2.getD v88.At.toNat zA2_I).a0 + 1)) ((x85.2.getD v88.At.toNat zA2_I).a1))).length) (fF eA2_I zA2_I (x85.2.set v88.At.toNat (A2_I.mk (W ((x85.2.getD v88.At.toNat zA2_I).a0 + 1)) ((x85.2.getD v88.At.toNat zA2_I).a1))))] [(2, .c (.pk 2 0)), (5, .c (.own 29 2 0 ((x85.2.set v88.At.toNat (A2_I.mk (W ((x85.2.getD v88.At.toNat zA2_I).a0 + 1)) ((x85.2.getD v88.At.toNat zA2_I).a1))).length))), (31, .c (dat 4 eTUnit zTUnit p1.Units)), (32, cI (p1.Units.length : Int)), (33, cI (W (x85.1 + 1)))] [(2, .var (eTBoard p0) false), (29, .arr 2 ((x85.2.set v88.At.toNat (A2_I.mk (W ((x85.2.getD v88.At.toNat zA2_I).a0 + 1)) ((x85.2.getD v88.At.toNat zA2_I).a1))).length) (fF eA2_I zA2_I (x85.2.set v88.At.toNat (A2_I.mk (W ((x85.2.getD v88.At.toNat zA2_I).a0 + 1)) ((x85.2.getD v88.At.toNat zA2_I).a1)))) false)] (fun t => aI (by simp : x85.2.length = (x85.2.set v88.At.toNat (A2_I.mk (W ((x85.2.getD v88.At.toNat zA2_I).a0 + 1)) ((x85.2.getD v88.At.toNat zA2_I).a1))).length) (aI (Nat.le_of_eq (by simp : (x85.2.set v88.At.toNat (A2_I.mk (W ((x85.2.getD v88.At.toNat zA2_I).a0 + 1)) ((x85.2.getD v88.At.toNat zA2_I).a1))).length = x85.2.length)) (aI (fun _ _ => rfl : ∀ i, i < (x85.2.set v88.At.toNat (A2_I.mk (W ((x85.2.getD v88.At.toNat zA2_I).a0 + 1)) ((x85.2.getD v88.At.toNat zA2_I).a1))).length → (fF eA2_I zA2_I (x85.2.set v88.At.toNat (A2_I.mk (W ((x85.2.getD v88.At.toNat zA2_I).a0 + 1)) ((x85.2.getD v88.At.toNat zA2_I).a1)))) i = (fF eA2_I zA2_I (x85.2.set v88.At.toNat (A2_I.mk (W ((x85.2.getD v88.At.toNat zA2_I).a0 + 1)) ((x85.2.getD v88.At.toNat zA2_I).a1)))) i) (t)))) (by kernel_rfl) ?_
                          obtain rfl := Option.some.inj H
                          exact And.intro rfl rfl
                    · cases H
                · rcases ofIte H with ⟨c108, H⟩ | ⟨c117, H⟩
                  · refine seq_draw [.no, .nat 1, .no, .nat 1, .fn 0 (fF eA2_I zA2_I (x85.2.set v88.At.toNat (A2_I.mk ((x85.2.getD v88.At.toNat zA2_I).a0) (W ((x85.2.getD v88.At.toNat zA2_I).a1 + 1)))))] [] [(2, .c (.pk 2 0)), (5, .c (.own 29 2 0 x85.2.length)), (7, .c (.pk 7 0)), (31, .c (dat 4 eTUnit zTUnit p1.Units)), (32, cI (p1.Units.length : Int)), (33, cI x85.1)] [(2, .var (eTBoard p0) false), (7, .var (eTUnit v88) false), (29, .arr 2 x85.2.length (fF eA2_I zA2_I (x85.2.set v88.At.toNat (A2_I.mk ((x85.2.getD v88.At.toNat zA2_I).a0) (W ((x85.2.getD v88.At.toNat zA2_I).a1 + 1))))) false)] (fun t => aI g98 (aI (And.intro c108 (by decide : 1 < 2)) (aI (nat_lt g98) (aI (rfl : ([] : List Nat) = []) (aI g98 (aI (And.intro c108 (by decide : 1 < 2)) (aI (rfl : true = true) (aI (nat_lt g98) (aI (by decide : 1 + 1 ≤ 2) (aI (fF_set eA2_I zA2_I x85.2 v88.At.toNat (A2_I.mk ((x85.2.getD v88.At.toNat zA2_I).a0) (W ((x85.2.getD v88.At.toNat zA2_I).a1 + 1))) (nat_lt g98) x85.2.length) (t))))))))))) (by kernel_rfl) ?_
                    rcases ofIte H with ⟨c109, H⟩ | ⟨c116, H⟩
                    · rcases ofCond H with ⟨c110, H⟩ | ⟨c110, H⟩
                      · refine seq_draw [.no, .nat 0, .g true, .g true, .g true, .g true, .g true, .g true, .g true, .g true, .g true, .g true, .g true, .g true, .g true] [] [(2, .c (.pk 2 0)), (5, .c (.own 29 2 0 x85.2.length)), (31, .c (dat 4 eTUnit zTUnit p1.Units)), (32, cI (p1.Units.length : Int)), (33, cI x85.1), (78, cB true)] [(2, .var (eTBoard p0) false), (29, .arr 2 x85.2.length (fF eA2_I zA2_I (x85.2.set v88.At.toNat (A2_I.mk ((x85.2.getD v88.At.toNat zA2_I).a0) (W ((x85.2.getD v88.At.toNat zA2_I).a1 + 1))))) false)] (fun t => aI g98 (aI (And.intro c109 (by decide : 0 < 2)) (aI (nat_lt g98) (aI (rfl : ([] : List Nat) = []) (aI c110 (aI c110 (aI c110 (aI c110 (aI c110 (aI c110 (aI c110 (aI c110 (aI c110 (aI c110 (aI c110 (aI c110 (aI c110 (t)))))))))))))))))) (by kernel_rfl) ?_
                        refine ite_t (rfl : (true : Bool) = true) (by kernel_rfl) ?_
                        refine seq_ops [] [] [(4, cB false)] [] (fun t => t) (by kernel_rfl) ?_
                        refine ends_ret ?_
                        obtain rfl := Option.some.inj H
                        exact And.intro (by simp) (And.intro rfl rfl)
                      · refine seq_draw [.no, .nat 0, .g false, .g false, .g false, .g false, .g false, .g false, .no, .g false, .nat 1, .g false, .g false, .g false, .g false, .g false, .g false] [] [(2, .c (.pk 2 0)), (5, .c (.own 29 2 0 x85.2.length)), (31, .c (dat 4 eTUnit zTUnit p1.Units)), (32, cI (p1.Units.length : Int)), (33, cI x85.1), (78, cB (decide (((x85.2.set v88.At.toNat (A2_I.mk ((x85.2.getD v88.At.toNat zA2_I).a0) (W ((x85.2.getD v88.At.toNat zA2_I).a1 + 1)))).getD v88.At.toNat zA2_I).a1 > p0.Rules.Stack)))] [(2, .var (eTBoard p0) false), (29, .arr 2 x85.2.length (fF eA2_I zA2_I (x85.2.set v88.At.toNat (A2_I.mk ((x85.2.getD v88.At.toNat zA2_I).a0) (W ((x85.2.getD v88.At.toNat zA2_I).a1 + 1))))) false)] (fun t => aI g98 (aI (And.intro c109 (by decide : 0 < 2)) (aI (nat_lt g98) (aI (rfl : ([] : List Nat) = []) (aI c110 (aI c110 (aI c110 (aI c110 (aI c110 (aI c110 (aI g98 (aI c110 (aI (And.intro c108 (by decide : 1 < 2)) (aI c110 (aI (nat_lt g98) (aI (rfl : ([] : List Nat) = []) (aI c110 (aI c110 (aI c110 (aI c110 (aI c110 (t)))))))))))))))))))))) (by kernel_rfl) ?_
                        rcases ofCond H with ⟨c111, H⟩ | ⟨c111, H⟩
                        · refine ite_t c111 (by kernel_rfl) ?_
                          refine seq_ops [] [] [(4, cB false)] [] (fun t => t) (by kernel_rfl) ?_
                          refine ends_ret ?_
                          obtain rfl := Option.some.inj H
                          exact And.intro (by simp) (And.intro rfl rfl)
                        · refine ite_f c111 (by kernel_rfl) ?_
                          refine ends_skip ?_
                          change EndsI _ _ _ _ _ _
                          refine one_ops [] [.rel 5 ((x85.2.set v88.At.toNat (A2_I.mk ((x85.2.getD v88.At.toNat zA2_I).a0) (W ((x85.2.getD v88.At.toNat zA2_I).a1 + 1)))).length), .rep 29 ((x85.2.set v88.At.toNat (A2_I.mk ((x85.2.getD v88.At.toNat zA2_I).a0) (W ((x85.2.getD v88.At.toNat zA2_I).a1 + 1)))).length) (fF eA2_I zA2_I (x85.2.set v88.At.toNat (A2_I.mk ((x85.2.getD v88.At.toNat zA2_I).a0) (W ((x85.2.getD v88.At.toNat zA2_I).a1 + 1)))))] [(2, .c (.pk 2 0)), (5, .c (.own 29 2 0 ((x85.2.set v88.At.toNat (A2_I.mk ((x85.2.getD v88.At.toNat zA2_I).a0) (W ((x85.2.getD v88.At.toNat zA2_I).a1 + 1)))).length))), (31, .c (dat 4 eTUnit zTUnit p1.Units)), (32, cI (p1.Units.length : Int)), (33, cI (W (x85.1 + 1)))] [(2, .var (eTBoard p0) false), (29, .arr 2 ((x85.2.set v88.At.toNat (A2_I.mk ((x85.2.getD v88.At.toNat zA2_I).a0) (W ((x85.2.getD v88.At.toNat zA2_I).a1 + 1)))).length) (fF eA2_I zA2_I (x85.2.set v88.At.toNat (A2_I.mk ((x85.2.getD v88.At.toNat zA2_I).a0) (W ((x85.2.getD v88.At.toNat zA2_I).a1 + 1))))) false)] (fun t => aI (by simp : x85.2.length = (x85.2.set v88.At.toNat (A2_I.mk ((x85.2.getD v88.At.toNat zA2_I).a0) (W ((x85.2.getD v88.At.toNat zA2_I).a1 + 1)))).length) (aI (Nat.le_of_eq (by simp : (x85.2.set v88.At.toNat (A2_I.mk ((x85.2.getD v88.At.toNat zA2_I).a0) (W ((x85.2.getD v88.At.toNat zA2_I).a1 + 1)))).length = x85.2.length)) (aI (fun _ _ => rfl : ∀ i, i < (x85.2.set v88.At.toNat (A2_I.mk ((x85.2.getD v88.At.toNat zA2_I).a0) (W ((x85.2.getD v88.At.toNat zA2_I).a1 + 1)))).length → (fF eA2_I zA2_I (x85.2.set v88.At.toNat (A2_I.mk ((x85.2.getD v88.At.toNat zA2_I).a0) (W ((x85.2.getD v88.At.toNat zA2_I).a1 + 1))))) i = (fF eA2_I zA2_I (x85.2.set v88.At.toNat (A2_I.mk ((x85.2.getD v88.At.toNat zA2_I).a0) (W ((x85.2.getD v88.At.toNat zA2_I).a1 + 1))))) i) (t)))) (by kernel_rfl) ?_
                          obtain rfl := Option.some.inj H
                          exact And.intro rfl rfl
                    · rcases ofIte H with ⟨c112, H⟩ | ⟨c115, H⟩
                      · rcases ofCond H with ⟨c113, H⟩ | ⟨c113, H⟩
                        · refine seq_draw [.no, .nat 1, .g true, .g true, .g true, .g true, .g true, .g true, .g true, .g true, .g true, .g true, .g true, .g true, .g true] [] [(2, .c (.pk 2 0)), (5, .c (.own 29 2 0 x85.2.length)), (31, .c (dat 4 eTUnit zTUnit p1.Units)), (32, cI (p1.Units.length : Int)), (33, cI x85.1), (78, cB true)] [(2, .var (eTBoard p0) false), (29, .arr 2 x85.2.length (fF eA2_I zA2_I (x85.2.set v88.At.toNat (A2_I.mk ((x85.2.getD v88.At.toNat zA2_I).a0) (W ((x85.2.getD v88.At.toNat zA2_I).a1 + 1))))) false)] (fun t => aI g98 (aI (And.intro c112 (by decide : 1 < 2)) (aI (nat_lt g98) (aI (rfl : ([] : List Nat) = []) (aI c113 (aI c113 (aI c113 (aI c113 (aI c113 (aI c113 (aI c113 (aI c113 (aI c113 (aI c113 (aI c113 (aI c113 (aI c113 (t)))))))))))))))))) (by kernel_rfl) ?_
                          refine ite_t (rfl : (true : Bool) = true) (by kernel_rfl) ?_
                          refine seq_ops [] [] [(4, cB false)] [] (fun t => t) (by kernel_rfl) ?_
                          refine ends_ret ?_
                          obtain rfl := Option.some.inj H
                          exact And.intro (by simp) (And.intro rfl rfl)
                        · refine seq_draw [.no, .nat 1, .g false, .g false, .g false, .g false, .g false, .g false, .no, .g false, .nat 1, .g false, .g false, .g false, .g false, .g false, .g false] [] [(2, .c (.pk 2 0)), (5, .c (.own 29 2 0 x85.2.length)), (31, .c (dat 4 eTUnit zTUnit p1.Units)), (32, cI (p1.Units.length : Int)), (33, cI x85.1), (78, cB (decide (((x85.2.set v88.At.toNat (A2_I.mk ((x85.2.getD v88.At.toNat zA2_I).a0) (W ((x85.2.getD v88.At.toNat zA2_I).a1 + 1)))).getD v88.At.toNat zA2_I).a1 > p0.Rules.Stack)))] [(2, .var (eTBoard p0) false), (29, .arr 2 x85.2.length (fF eA2_I zA2_I (x85.2.set v88.At.toNat (A2_I.mk ((x85.2.getD v88.At.toNat zA2_I).a0) (W ((x85.2.getD v88.At.toNat zA2_I).a1 + 1))))) false)] (fun t => aI g98 (aI (And.intro c112 (by decide : 1 < 2)) (aI (nat_lt g98) (aI (rfl : ([] : List Nat) = []) (aI c113 (aI c113 (aI c113 (aI c113 (aI c113 (aI c113 (aI g98 (aI c113 (aI (And.intro c108 (by decide : 1 < 2)) (aI c113 (aI (nat_lt g98) (aI (rfl : ([] : List Nat) = []) (aI c113 (aI c113 (aI c113 (aI c113 (aI c113 (t)))))))))))))))))))))) (by kernel_rfl) ?_
                          rcases ofCond H with ⟨c114, H⟩ | ⟨c114, H⟩
                          · refine ite_t c114 (by kernel_rfl) ?_
                            refine seq_ops [] [] [(4, cB false)] [] (fun t => t) (by kernel_rfl) ?_
                            refine ends_ret ?_
                            obtain rfl := Option.some.inj H
                            exact And.intro (by simp) (And.intro rfl rfl)
                          · refine ite_f c114 (by kernel_rfl) ?_
                            refine ends_skip ?_
                            change EndsI _ _ _ _ _ _
                            refine one_ops [] [.rel 5 ((x85.2.set v88.At.toNat (A2_I.mk ((x85.2.getD v88.At.toNat zA2_I).a0) (W ((x85.2.getD v88.At.toNat zA2_I).a1 + 1)))).length), .rep 29 ((x85.2.set v88.At.toNat (A2_I.mk ((x85.2.getD v88.At.toNat zA2_I).a0) (W ((x85.2.getD v88.At.toNat zA2_I).a1 + 1)))).length) (fF eA2_I zA2_I (x85.2.set v88.At.toNat (A2_I.mk ((x85.2.getD v88.At.toNat zA2_I).a0) (W ((x85.2.getD v88.At.toNat zA2_I).a1 + 1)))))] [(2, .c (.pk 2 0)), (5, .c (.own 29 2 0 ((x85.2.set v88.At.toNat (A2_I.mk ((x85.2.getD v88.At.toNat zA2_I).a0) (W ((x85.2.getD v88.At.toNat zA2_I).a1 + 1)))).length))), (31, .c (dat 4 eTUnit zTUnit p1.Units)), (32, cI (p1.Units.length : Int)), (33, cI (W (x85.1 + 1)))] [(2, .var (eTBoard p0) false), (29, .arr 2 ((x85.2.set v88.At.toNat (A2_I.mk ((x85.2.getD v88.At.toNat zA2_I).a0) (W ((x85.2.getD v88.At.toNat zA2_I).a1 + 1)))).length) (fF eA2_I zA2_I (x85.2.set v88.At.toNat (A2_I.mk ((x85.2.getD v88.At.toNat zA2_I).a0) (W ((x85.2.getD v88.At.toNat zA2_I).a1 + 1))))) false)] (fun t => aI (by simp : x85.2.length = (x85.2.set v88.At.toNat (A2_I.mk ((x85.2.getD v88.At.toNat zA2_I).a0) (W ((x85.2.getD v88.At.toNat zA2_I).a1 + 1)))).length) (aI (Nat.le_of_eq (by simp : (x85.2.set v88.At.toNat (A2_I.mk ((x85.2.getD v88.At.toNat zA2_I).a0) (W ((x85.2.getD v88.At.toNat zA2_I).a1 + 1)))).length = x85.2.length)) (aI (fun _ _ => rfl : ∀ i, i < (x85.2.set v88.At.toNat (A2_I.mk ((x85.2.getD v88.At.toNat zA2_I).a0) (W ((x85.2.getD v88.At.toNat zA2_I).a1 + 1)))).length → (fF eA2_I zA2_I (x85.2.set v88.At.toNat (A2_I.mk ((x85.2.getD v88.At.toNat zA2_I).a0) (W ((x85.2.getD v88.At.toNat zA2_I).a1 + 1))))) i = (fF eA2_I zA2_I (x85.2.set v88.At.toNat (A2_I.mk ((x85.2.getD v88.At.toNat zA2_I).a0) (W ((x85.2.getD v88.At.toNat zA2_I).a1 + 1))))) i) (t)))) (by kernel_rfl) ?_
                            obtain rfl := Option.some.inj H
                            exact And.intro rfl rfl
                      · cases H
                  · cases H
          · refine ite_f c87 (by kernel_rfl) ?_
            refine tell [] [] [] (fun t => t) (by kernel_rfl) ?_
            refine ends_exit ?_
            obtain rfl := Option.some.inj H
            exact And.intro (by simp) (And.intro rfl rfl)
        · clear h120
          cases y119 with
          | inl y121 =>
            replace H := ofInl H
            intro e s q
            obtain ⟨rfl, rfl⟩ := q
            change EndsI _ _ _ _ _ _
            refine seq_ops [] [] [(4, cB true)] [] (fun t => t) (by kernel_rfl) ?_
            refine ends_ret ?_
            obtain rfl := Option.some.inj H
            exact And.intro (.inl rfl) rfl
          | inr y122 =>
            replace H := ofInr H
            intro e s q
            obtain ⟨rfl, rfl⟩ := q
            obtain rfl := Option.some.inj H
            exact And.intro (.inl rfl) rfl

def i_fits_ir : S :=
 (.seq (.ops [⟨some 2, .box 12 (.t 0), none⟩, ⟨some 3, .box 3 (.t 1), none⟩, ⟨some 4, .mv (.v (.bool false)), none⟩])
 (.seq (.ops [⟨some 5, .load 12 true (.t 2), none⟩, ⟨some 6, .call 110 [.t 5], none⟩, ⟨some 7, .mv (.t 6), none⟩, ⟨some 8, .load 12 true (.t 2), some (7, true)⟩, ⟨some 9, .load 3 true (.t 3), some (7, true)⟩, ⟨some 10, .call 177 [.t 8, .t 9], some (7, true)⟩, ⟨some 11, .pick (.t 7) (.t 10) (.v (.bool false)), none⟩, ⟨some 4, .mv (.t 11), none⟩])
 .ret))
noncomputable def X.i_fits (p0 : TBoard) (p1 : TState) : Option Bool :=
  ((X.i_IsBoard p0).bind fun v1 => (bif v1 then ((X.i_goodState p0 p1).bind fun v4 => some v4) else some false))
theorem i_fits_ok (p0 : TBoard) (p1 : TState) (r : Bool) (H : X.i_fits p0 p1 = some r) : FnOk Tryz.prog gl 151 [.agg (eTBoard p0), .agg (eTState p1)] (cB r) := by
  unfold X.i_fits at H
  refine fn_in (fn := Tryz.f151) (ir := i_fits_ir) (s1 := lit [(4, cB r)] []) Tryz.func151 (by kernel_rfl) (by kernel_rfl) (by kernel_rfl) (by kernel_rfl) (by kernel_rfl) ?_
  refine seq_ops [] [] [(2, .c (.pk 2 0)), (3, .c (.pk 3 0))] [(2, .var (eTBoard p0) false), (3, .var (eTState p1) false)] (fun t => t) (by kernel_rfl) ?_
  obtain ⟨v1, h2, H⟩ := ofBind H
  rcases ofCond H with ⟨c3, H⟩ | ⟨c3, H⟩
  · obtain ⟨v4, h5, H⟩ := ofBind H
    refine seq_ops [.res (cB v1), .g true, .g true, .g true, .res (cB v4), .g true] [] [(4, cB v4)] [] (fun t => aI (i_IsBoard_ok p0 v1 h2) (aI c3 (aI c3 (aI c3 (aI (i_goodState_ok p0 p1 v4 h5) (aI c3 (t))))))) (by kernel_rfl) ?_
    refine ends_ret ?_
    obtain rfl := Option.some.inj H
    exact And.intro (.inl rfl) rfl
  · refine seq_ops [.res (cB v1), .g false, .g false, .g false, .g false] [] [(4, cB false)] [] (fun t => aI (i_IsBoard_ok p0 v1 h2) (aI c3 (aI c3 (aI c3 (aI c3 (t)))))) (by kernel_rfl) ?_
    refine ends_ret ?_
    obtain rfl := Option.some.inj H
    exact And.intro (.inl rfl) rfl

def i_goodConditions_ir : S :=
 (.seq (.ops [⟨some 2, .box 12 (.t 0), none⟩, ⟨some 3, .box 3 (.t 1), none⟩, ⟨some 4, .mv (.v (.bool false)), none⟩])
 (.seq (.seq (.ops [⟨some 7, .fad 0 (.t 3), none⟩, ⟨some 8, .load 1 false (.t 7), none⟩, ⟨some 9, .len (.t 8), none⟩, ⟨some 10, .bin .gtr (.t 9) (.v (.int .i64 12)), none⟩, ⟨some 11, .mv (.t 10), none⟩, ⟨some 12, .fad 1 (.t 3), some (11, false)⟩, ⟨some 13, .load 1 false (.t 12), some (11, false)⟩, ⟨some 14, .call 71 [.t 13, .v (.int .i64 0), .v (.int .i64 9)], some (11, false)⟩, ⟨some 15, .not (.t 14), some (11, false)⟩, ⟨some 16, .pick (.t 11) (.v (.bool true)) (.t 15), none⟩, ⟨some 17, .mv (.t 16), none⟩, ⟨some 18, .fad 2 (.t 3), some (17, false)⟩, ⟨some 19, .load 1 false (.t 18), some (17, false)⟩, ⟨some 20, .call 71 [.t 19, .v (.int .i64 0), .v (.int .i64 200)], some (17, false)⟩, ⟨some 21, .not (.t 20), some (17, false)⟩, ⟨some 22, .pick (.t 17) (.v (.bool true)) (.t 21), none⟩])
 (.ite (.t 22) (.seq (.ops [⟨some 4, .mv (.v (.bool false)), none⟩])
  .ret)
 .skip))
 (.seq (.seq (.ops [⟨some 23, .fad 0 (.t 3), none⟩, ⟨some 24, .load 1 false (.t 23), none⟩, ⟨some 25, .len (.t 24), none⟩, ⟨some 26, .mv (.v (.int .i64 0)), none⟩])
 (.blk 0 (.loop (.seq (.ops [⟨some 27, .bin .lss (.t 26) (.t 25), none⟩])
   (.seq (.ite (.t 27) .skip
   (.exit 0))
   (.seq (.blk 1 (.seq (.ops [⟨some 28, .mv (.t 26), none⟩, ⟨some 29, .iad 2 (.t 24) (.t 26), none⟩, ⟨some 30, .load 2 true (.t 29), none⟩, ⟨some 6, .alloc [.int .i64 0, .int .i64 0], none⟩, ⟨some 5, .mv (.t 28), none⟩, ⟨none, .store 2 (.t 6) (.t 30), none⟩])
    (.seq (.draw 28 [⟨some 31, .fad 0 (.t 6), none⟩, ⟨some 32, .load 1 false (.t 31), none⟩, ⟨some 33, .load 12 true (.t 2), none⟩, ⟨some 34, .call 91 [.t 33], none⟩, ⟨some 35, .call 90 [.t 32, .t 34], none⟩, ⟨some 36, .not (.t 35), none⟩, ⟨some 37, .mv (.t 36), none⟩, ⟨some 38, .fad 1 (.t 6), some (37, false)⟩, ⟨some 39, .load 1 false (.t 38), some (37, false)⟩, ⟨some 40, .call 71 [.t 39, .v (.int .i64 1), .v (.int .i64 20)], some (37, false)⟩, ⟨some 41, .not (.t 40), some (37, false)⟩, ⟨some 42, .pick (.t 37) (.v (.bool true)) (.t 41), none⟩, ⟨some 43, .mv (.t 42), none⟩, ⟨some 44, .mv (.t 5), some (43, false)⟩, ⟨some 45, .bin .gtr (.t 44) (.v (.int .i64 0)), some (43, false)⟩, ⟨some 46, .mv (.t 45), some (43, false)⟩, ⟨some 47, .fad 0 (.t 3), some (46, true)⟩, ⟨some 48, .load 1 false (.t 47), some (46, true)⟩, ⟨some 49, .mv (.t 5), some (46, true)⟩, ⟨some 50, .bin .sub (.t 49) (.v (.int .i64 1)), some (46, true)⟩, ⟨some 51, .iad 2 (.t 48) (.t 50), some (46, true)⟩, ⟨some 52, .fad 0 (.t 51), some (46, true)⟩, ⟨some 53, .load 1 false (.t 52), some (46, true)⟩, ⟨some 54, .fad 0 (.t 6), some (46, true)⟩, ⟨some 55, .load 1 false (.t 54), some (46, true)⟩, ⟨some 56, .bin .geq (.t 53) (.t 55), some (46, true)⟩, ⟨some 57, .pick (.t 46) (.t 56) (.v (.bool false)), some (43, false)⟩, ⟨some 58, .pick (.t 43) (.v (.bool true)) (.t 57), none⟩])
    (.ite (.t 58) (.seq (.ops [⟨some 4, .mv (.v (.bool false)), none⟩])
     .ret)
    .skip))))
   (.ops [⟨some 59, .bin .add (.t 26) (.v (.int .i64 1)), none⟩, ⟨some 26, .mv (.t 59), none⟩])))))))
 (.seq (.ops [⟨some 4, .mv (.v (.bool true)), none⟩])
 .ret))))
noncomputable def X.i_goodConditions (p0 : TBoard) (p1 : TConditions) : Option Bool :=
  (bif (decide ((p1.Goals.length : Int) > 12)) then some false else ((X.i_inRange p1.Step 0 9).bind fun v9 => (bif (!v9) then some false else ((X.i_inRange p1.Margin 0 200).bind fun v12 => (bif (!v12) then some false else ((loop (fun (x48 : Int) => ((bif (decide (x48 < (p1.Goals.length : Int))) then ((at' zTGoal p1.Goals x48).bind fun v51 => ((X.i_sizeOf p0).bind fun v53 => ((X.i_isIndex v51.At v53).bind fun v55 => (bif (!v55) then some (Sum.inr (Sum.inr false)) else ((X.i_inRange v51.Points 1 20).bind fun v58 => (bif (!v58) then some (Sum.inr (Sum.inr false)) else (bif (decide (x48 > 0)) then ((at' zTGoal p1.Goals (W (x48 - 1))).bind fun v62 => (bif (decide (v62.At ≥ v51.At)) then some (Sum.inr (Sum.inr false)) else some (Sum.inl (W (x48 + 1))))) else some (Sum.inl (W (x48 + 1)))))))))) else some (Sum.inr (Sum.inl ()))) : Option (Int ⊕ (Unit ⊕ Bool)))) 0).bind fun y65 => (Sum.elim (fun (y67 : Unit) => some true) (fun (y68 : Bool) => some y68) y65)))))))
theorem i_goodConditions_ok (p0 : TBoard) (p1 : TConditions) (r : Bool) (H : X.i_goodConditions p0 p1 = some r) : FnOk Tryz.prog gl 152 [.agg (eTBoard p0), .agg (eTConditions p1)] (cB r) := by
  unfold X.i_goodConditions at H
  refine fn_in (fn := Tryz.f152) (ir := i_goodConditions_ir) (s1 := lit [(4, cB r)] []) Tryz.func152 (by kernel_rfl) (by kernel_rfl) (by kernel_rfl) (by kernel_rfl) (by kernel_rfl) ?_
  refine seq_ops [] [] [(2, .c (.pk 2 0)), (3, .c (.pk 3 0))] [(2, .var (eTBoard p0) false), (3, .var (eTConditions p1) false)] (fun t => t) (by kernel_rfl) ?_
  refine seq_in ?_
  rcases ofCond H with ⟨c8, H⟩ | ⟨c8, H⟩
  · refine seq_ops [.g true, .g true, .g true, .g true, .g true, .g true, .g true, .g true, .g true, .g true] [] [(2, .c (.pk 2 0)), (3, .c (.pk 3 0)), (22, cB true)] [(2, .var (eTBoard p0) false), (3, .var (eTConditions p1) false)] (fun t => lI p1.Goals (aI c8 (aI c8 (aI c8 (aI c8 (aI c8 (aI (rfl : (true : Bool) = true) (aI (rfl : (true : Bool) = true) (aI (rfl : (true : Bool) = true) (aI (rfl : (true : Bool) = true) (aI (rfl : (true : Bool) = true) (t)))))))))))) (by kernel_rfl) ?_
    refine ite_t (rfl : (true : Bool) = true) (by kernel_rfl) ?_
    refine seq_ops [] [] [(4, cB false)] [] (fun t => t) (by kernel_rfl) ?_
    refine ends_ret ?_
    obtain rfl := Option.some.inj H
    exact And.intro (.inl rfl) rfl
  · obtain ⟨v9, h10, H⟩ := ofBind H
    rcases ofCond H with ⟨c11, H⟩ | ⟨c11, H⟩
    · refine seq_ops [.g false, .g false, .g false, .res (cB v9), .g false, .g false, .g true, .g true, .g true, .g true, .g true] [] [(2, .c (.pk 2 0)), (3, .c (.pk 3 0)), (22, cB true)] [(2, .var (eTBoard p0) false), (3, .var (eTConditions p1) false)] (fun t => lI p1.Goals (aI c8 (aI c8 (aI c8 (aI (i_inRange_ok p1.Step 0 9 v9 h10) (aI c8 (aI c8 (aI c11 (aI c11 (aI c11 (aI c11 (aI c11 (t))))))))))))) (by kernel_rfl) ?_
      refine ite_t (rfl : (true : Bool) = true) (by kernel_rfl) ?_
      refine seq_ops [] [] [(4, cB false)] [] (fun t => t) (by kernel_rfl) ?_
      refine ends_ret ?_
      obtain rfl := Option.some.inj H
      exact And.intro (.inl rfl) rfl
    · obtain ⟨v12, h13, H⟩ := ofBind H
      refine seq_ops [.g false, .g false, .g false, .res (cB v9), .g false, .g false, .g false, .g false, .g false, .res (cB v12), .g false, .g false] [] [(2, .c (.pk 2 0)), (3, .c (.pk 3 0)), (22, cB (!v12))] [(2, .var (eTBoard p0) false), (3, .var (eTConditions p1) false)] (fun t => lI p1.Goals (aI c8 (aI c8 (aI c8 (aI (i_inRange_ok p1.Step 0 9 v9 h10) (aI c8 (aI c8 (aI c11 (aI c11 (aI c11 (aI (i_inRange_ok p1.Margin 0 200 v12 h13) (aI c11 (aI c11 (t)))))))))))))) (by kernel_rfl) ?_
      rcases ofCond H with ⟨c14, H⟩ | ⟨c14, H⟩
      · refine ite_t c14 (by kernel_rfl) ?_
        refine seq_ops [] [] [(4, cB false)] [] (fun t => t) (by kernel_rfl) ?_
        refine ends_ret ?_
        obtain rfl := Option.some.inj H
        exact And.intro (.inl rfl) rfl
      · refine ite_f c14 (by kernel_rfl) ?_
        refine ends_skip ?_
        change EndsI _ _ _ _ _ _
        refine seq_in ?_
        refine seq_ops [] [] [(2, .c (.pk 2 0)), (3, .c (.pk 3 0)), (24, .c (dat 2 eTGoal zTGoal p1.Goals)), (25, cI (p1.Goals.length : Int)), (26, cI 0)] [(2, .var (eTBoard p0) false), (3, .var (eTConditions p1) false)] (fun t => lI p1.Goals (t)) (by kernel_rfl) ?_
        refine ends_blk ?_
        obtain ⟨y65, h66, H⟩ := ofBind H
        refine loop_in (fun (x : Int) => lit [(2, .c (.pk 2 0)), (3, .c (.pk 3 0)), (24, .c (dat 2 eTGoal zTGoal p1.Goals)), (25, cI (p1.Goals.length : Int)), (26, cI x)] [(2, .var (eTBoard p0) false), (3, .var (eTConditions p1) false)]) (orJ (fun (z : Unit) => At (.exit 0) (lit [] [])) (fun (z : Bool) => At .ret (lit [(4, cB z)] []))) h66 ?_ ?_
        · clear H h66
          intro x48 y0 H
          refine seq_ops [] [] [(2, .c (.pk 2 0)), (3, .c (.pk 3 0)), (24, .c (dat 2 eTGoal zTGoal p1.Goals)), (25, cI (p1.Goals.length : Int)), (26, cI x48), (27, cB (decide (x48 < (p1.Goals.length : Int))))] [(2, .var (eTBoard p0) false), (3, .var (eTConditions p1) false)] (fun t => t) (by kernel_rfl) ?_
          refine seq_in ?_
          rcases ofCond H with ⟨c50, H⟩ | ⟨c50, H⟩
          · refine ite_t c50 (by kernel_rfl) ?_
            refine ends_skip ?_
            change EndsI _ _ _ _ _ _
            refine seq_in ?_
            refine ends_blk ?_
            obtain ⟨v51, h52, H⟩ := ofBind H
            refine seq_ops [.cs (eTGoal v51)] [] [(2, .c (.pk 2 0)), (3, .c (.pk 3 0)), (5, cI x48), (6, .c (.pk 6 0)), (24, .c (dat 2 eTGoal zTGoal p1.Goals)), (25, cI (p1.Goals.length : Int)), (26, cI x48)] [(2, .var (eTBoard p0) false), (3, .var (eTConditions p1) false), (6, .var (eTGoal v51) false)] (fun t => aI (at_lt h52) (aI (at_enc (enc := eTGoal) h52) (t))) (by kernel_rfl) ?_
            obtain ⟨v53, h54, H⟩ := ofBind H
            obtain ⟨v55, h56, H⟩ := ofBind H
            rcases ofCond H with ⟨c57, H⟩ | ⟨c57, H⟩
            · refine seq_draw [.res (cI v53), .res (cB v55), .g true, .g true, .g true, .g true, .g true, .g true, .g true, .g true, .g true, .g true] [] [(2, .c (.pk 2 0)), (3, .c (.pk 3 0)), (24, .c (dat 2 eTGoal zTGoal p1.Goals)), (25, cI (p1.Goals.length : Int)), (26, cI x48), (58, cB true)] [(2, .var (eTBoard p0) false), (3, .var (eTConditions p1) false)] (fun t => aI (i_sizeOf_ok p0 v53 h54) (aI trivial (aI (rfl : ([] : List Nat) = []) (aI (i_isIndex_ok v51.At v53 v55 h56) (aI trivial (aI (rfl : ([] : List Nat) = []) (aI c57 (aI c57 (aI c57 (aI c57 (aI c57 (aI (rfl : (true : Bool) = true) (aI (rfl : (true : Bool) = true) (aI (rfl : (true : Bool) = true) (aI (rfl : (true : Bool) = true) (aI (rfl : (true : Bool) = true) (t))))))))))))))))) (by kernel_rfl) ?_
              refine ite_t (rfl : (true : Bool) = true) (by kernel_rfl) ?_
              refine seq_ops [] [] [(4, cB false)] [] (fun t => t) (by kernel_rfl) ?_
              refine ends_ret ?_
              obtain rfl := Option.some.inj H
              exact And.intro (by simp) (And.intro rfl rfl)
            · obtain ⟨v58, h59, H⟩ := ofBind H
              rcases ofCond H with ⟨c60, H⟩ | ⟨c60, H⟩
              · refine seq_draw [.res (cI v53), .res (cB v55), .g false, .g false, .g false, .res (cB v58), .g false, .g false, .g true, .g true, .g true, .g true, .g true] [] [(2, .c (.pk 2 0)), (3, .c (.pk 3 0)), (24, .c (dat 2 eTGoal zTGoal p1.Goals)), (25, cI (p1.Goals.length : Int)), (26, cI x48), (58, cB true)] [(2, .var (eTBoard p0) false), (3, .var (eTConditions p1) false)] (fun t => aI (i_sizeOf_ok p0 v53 h54) (aI trivial (aI (rfl : ([] : List Nat) = []) (aI (i_isIndex_ok v51.At v53 v55 h56) (aI trivial (aI (rfl : ([] : List Nat) = []) (aI c57 (aI c57 (aI c57 (aI (i_inRange_ok v51.Points 1 20 v58 h59) (aI trivial (aI (rfl : ([] : List Nat) = []) (aI c57 (aI c57 (aI c60 (aI c60 (aI c60 (aI c60 (aI c60 (t)))))))))))))))))))) (by kernel_rfl) ?_
                refine ite_t (rfl : (true : Bool) = true) (by kernel_rfl) ?_
                refine seq_ops [] [] [(4, cB false)] [] (fun t => t) (by kernel_rfl) ?_
                refine ends_ret ?_
                obtain rfl := Option.some.inj H
                exact And.intro (by simp) (And.intro rfl rfl)
              · rcases ofCond H with ⟨c61, H⟩ | ⟨c61, H⟩
                · obtain ⟨v62, h63, H⟩ := ofBind H
                  refine seq_draw [.res (cI v53), .res (cB v55), .g false, .g false, .g false, .res (cB v58), .g false, .g false, .g false, .g false, .g false, .g true, .g true, .g true, .g true, .g true, .cs (eTGoal v62), .g true, .g true, .g true, .g true, .g true, .g false, .g true, .g false] [] [(2, .c (.pk 2 0)), (3, .c (.pk 3 0)), (24, .c (dat 2 eTGoal zTGoal p1.Goals)), (25, cI (p1.Goals.length : Int)), (26, cI x48), (58, cB (decide (v62.At ≥ v51.At)))] [(2, .var (eTBoard p0) false), (3, .var (eTConditions p1) false)] (fun t => aI (i_sizeOf_ok p0 v53 h54) (aI trivial (aI (rfl : ([] : List Nat) = []) (aI (i_isIndex_ok v51.At v53 v55 h56) (aI trivial (aI (rfl : ([] : List Nat) = []) (aI c57 (aI c57 (aI c57 (aI (i_inRange_ok v51.Points 1 20 v58 h59) (aI trivial (aI (rfl : ([] : List Nat) = []) (aI c57 (aI c57 (aI c60 (aI c60 (aI c60 (aI c61 (aI c61 (aI c61 (aI c61 (aI c61 (aI (at_lt h63) (aI (at_enc (enc := eTGoal) h63) (aI c61 (aI c61 (aI (rfl : ([] : List Nat) = []) (aI c61 (aI c61 (aI c61 (aI c60 (aI c61 (aI c60 (t)))))))))))))))))))))))))))))))))) (by kernel_rfl) ?_
                  rcases ofCond H with ⟨c64, H⟩ | ⟨c64, H⟩
                  · refine ite_t c64 (by kernel_rfl) ?_
                    refine seq_ops [] [] [(4, cB false)] [] (fun t => t) (by kernel_rfl) ?_
                    refine ends_ret ?_
                    obtain rfl := Option.some.inj H
                    exact And.intro (by simp) (And.intro rfl rfl)
                  · refine ite_f c64 (by kernel_rfl) ?_
                    refine ends_skip ?_
                    change EndsI _ _ _ _ _ _
                    refine one_ops [] [] [(2, .c (.pk 2 0)), (3, .c (.pk 3 0)), (24, .c (dat 2 eTGoal zTGoal p1.Goals)), (25, cI (p1.Goals.length : Int)), (26, cI (W (x48 + 1)))] [(2, .var (eTBoard p0) false), (3, .var (eTConditions p1) false)] (fun t => t) (by kernel_rfl) ?_
                    obtain rfl := Option.some.inj H
                    exact And.intro rfl rfl
                · refine seq_draw [.res (cI v53), .res (cB v55), .g false, .g false, .g false, .res (cB v58), .g false, .g false, .g false, .g false, .g false, .g false, .g false, .g false, .g false, .g false, .g false, .g false, .g false, .g false, .g false, .g false, .g false, .g false] [] [(2, .c (.pk 2 0)), (3, .c (.pk 3 0)), (24, .c (dat 2 eTGoal zTGoal p1.Goals)), (25, cI (p1.Goals.length : Int)), (26, cI x48), (58, cB false)] [(2, .var (eTBoard p0) false), (3, .var (eTConditions p1) false)] (fun t => aI (i_sizeOf_ok p0 v53 h54) (aI trivial (aI (rfl : ([] : List Nat) = []) (aI (i_isIndex_ok v51.At v53 v55 h56) (aI trivial (aI (rfl : ([] : List Nat) = []) (aI c57 (aI c57 (aI c57 (aI (i_inRange_ok v51.Points 1 20 v58 h59) (aI trivial (aI (rfl : ([] : List Nat) = []) (aI c57 (aI c57 (aI c60 (aI c60 (aI c60 (aI c61 (aI c61 (aI c61 (aI c61 (aI c61 (aI c61 (aI c61 (aI c61 (aI c61 (aI c61 (aI c60 (aI c61 (aI c60 (t))))))))))))))))))))))))))))))) (by kernel_rfl) ?_
                  refine ite_f (rfl : (false : Bool) = false) (by kernel_rfl) ?_
                  refine ends_skip ?_
                  change EndsI _ _ _ _ _ _
                  refine one_ops [] [] [(2, .c (.pk 2 0)), (3, .c (.pk 3 0)), (24, .c (dat 2 eTGoal zTGoal p1.Goals)), (25, cI (p1.Goals.length : Int)), (26, cI (W (x48 + 1)))] [(2, .var (eTBoard p0) false), (3, .var (eTConditions p1) false)] (fun t => t) (by kernel_rfl) ?_
                  obtain rfl := Option.some.inj H
                  exact And.intro rfl rfl
          · refine ite_f c50 (by kernel_rfl) ?_
            refine tell [] [] [] (fun t => t) (by kernel_rfl) ?_
            refine ends_exit ?_
            obtain rfl := Option.some.inj H
            exact And.intro (by simp) (And.intro rfl rfl)
        · clear h66
          cases y65 with
          | inl y67 =>
            replace H := ofInl H
            intro e s q
            obtain ⟨rfl, rfl⟩ := q
            change EndsI _ _ _ _ _ _
            refine seq_ops [] [] [(4, cB true)] [] (fun t => t) (by kernel_rfl) ?_
            refine ends_ret ?_
            obtain rfl := Option.some.inj H
            exact And.intro (.inl rfl) rfl
          | inr y68 =>
            replace H := ofInr H
            intro e s q
            obtain ⟨rfl, rfl⟩ := q
            obtain rfl := Option.some.inj H
            exact And.intro (.inl rfl) rfl

def i_hasConditions_ir : S :=
 (.seq (.ops [⟨some 3, .box 12 (.t 0), none⟩, ⟨some 4, .box 3 (.t 1), none⟩, ⟨some 5, .box 3 (.t 2), none⟩, ⟨some 6, .mv (.v (.bool false)), none⟩])
 (.seq (.ops [⟨some 7, .load 12 true (.t 3), none⟩, ⟨some 8, .load 3 true (.t 4), none⟩, ⟨some 9, .call 151 [.t 7, .t 8], none⟩, ⟨some 10, .mv (.t 9), none⟩, ⟨some 11, .load 12 true (.t 3), some (10, true)⟩, ⟨some 12, .load 3 true (.t 5), some (10, true)⟩, ⟨some 13, .call 152 [.t 11, .t 12], some (10, true)⟩, ⟨some 14, .pick (.t 10) (.t 13) (.v (.bool false)), none⟩, ⟨some 6, .mv (.t 14), none⟩])
 .ret))
noncomputable def X.i_hasConditions (p0 : TBoard) (p1 : TState) (p2 : TConditions) : Option Bool :=
  ((X.i_fits p0 p1).bind fun v1 => (bif v1 then ((X.i_goodConditions p0 p2).bind fun v4 => some v4) else some false))
theorem i_hasConditions_ok (p0 : TBoard) (p1 : TState) (p2 : TConditions) (r : Bool) (H : X.i_hasConditions p0 p1 p2 = some r) : FnOk Tryz.prog gl 82 [.agg (eTBoard p0), .agg (eTState p1), .agg (eTConditions p2)] (cB r) := by
  unfold X.i_hasConditions at H
  refine fn_in (fn := Tryz.f82) (ir := i_hasConditions_ir) (s1 := lit [(6, cB r)] []) Tryz.func82 (by kernel_rfl) (by kernel_rfl) (by kernel_rfl) (by kernel_rfl) (by kernel_rfl) ?_
  refine seq_ops [] [] [(3, .c (.pk 3 0)), (4, .c (.pk 4 0)), (5, .c (.pk 5 0))] [(3, .var (eTBoard p0) false), (4, .var (eTState p1) false), (5, .var (eTConditions p2) false)] (fun t => t) (by kernel_rfl) ?_
  obtain ⟨v1, h2, H⟩ := ofBind H
  rcases ofCond H with ⟨c3, H⟩ | ⟨c3, H⟩
  · obtain ⟨v4, h5, H⟩ := ofBind H
    refine seq_ops [.res (cB v1), .g true, .g true, .g true, .res (cB v4), .g true] [] [(6, cB v4)] [] (fun t => aI (i_fits_ok p0 p1 v1 h2) (aI c3 (aI c3 (aI c3 (aI (i_goodConditions_ok p0 p2 v4 h5) (aI c3 (t))))))) (by kernel_rfl) ?_
    refine ends_ret ?_
    obtain rfl := Option.some.inj H
    exact And.intro (.inl rfl) rfl
  · refine seq_ops [.res (cB v1), .g false, .g false, .g false, .g false] [] [(6, cB false)] [] (fun t => aI (i_fits_ok p0 p1 v1 h2) (aI c3 (aI c3 (aI c3 (aI c3 (t)))))) (by kernel_rfl) ?_
    refine ends_ret ?_
    obtain rfl := Option.some.inj H
    exact And.intro (.inl rfl) rfl

def i_ownerOf_ir : S :=
 (.seq (.ops [⟨some 2, .box 3 (.t 0), none⟩, ⟨some 4, .mv (.v (.int .i64 0)), none⟩])
 (.seq (.seq (.ops [⟨some 7, .fad 2 (.t 2), none⟩, ⟨some 8, .load 1 false (.t 7), none⟩, ⟨some 9, .len (.t 8), none⟩, ⟨some 10, .mv (.v (.int .i64 0)), none⟩])
 (.blk 0 (.loop (.seq (.ops [⟨some 11, .bin .lss (.t 10) (.t 9), none⟩])
   (.seq (.ite (.t 11) .skip
   (.exit 0))
   (.seq (.blk 1 (.seq (.ops [⟨some 12, .iad 4 (.t 8) (.t 10), none⟩, ⟨some 13, .load 4 true (.t 12), none⟩, ⟨some 6, .alloc [.int .i64 0, .int .i64 0, .int .i64 0, .int .i64 0], none⟩, ⟨none, .store 4 (.t 6) (.t 13), none⟩])
    (.seq (.ops [⟨some 14, .fad 2 (.t 6), none⟩, ⟨some 15, .load 1 false (.t 14), none⟩, ⟨some 16, .mv (.t 1), none⟩, ⟨some 17, .bin .eql (.t 15) (.t 16), none⟩])
    (.ite (.t 17) (.seq (.ops [⟨some 18, .fad 0 (.t 6), none⟩, ⟨some 19, .load 1 false (.t 18), none⟩, ⟨some 4, .mv (.t 19), none⟩])
     .ret)
    .skip))))
   (.ops [⟨some 20, .bin .add (.t 10) (.v (.int .i64 1)), none⟩, ⟨some 10, .mv (.t 20), none⟩])))))))
 (.seq (.ops [⟨some 4, .mv (.v (.int .i64 (-1))), none⟩])
 .ret)))
noncomputable def X.i_ownerOf (p0 : TState) (p1 : Int) : Option Int :=
  ((loop (fun (x12 : Int) => ((bif (decide (x12 < (p0.Units.length : Int))) then ((at' zTUnit p0.Units x12).bind fun v15 => (bif (v15.At == p1) then some (Sum.inr (Sum.inr v15.Side)) else some (Sum.inl (W (x12 + 1))))) else some (Sum.inr (Sum.inl ()))) : Option (Int ⊕ (Unit ⊕ Int)))) 0).bind fun y18 => (Sum.elim (fun (y20 : Unit) => some (-1)) (fun (y21 : Int) => some y21) y18))
theorem i_ownerOf_ok (p0 : TState) (p1 : Int) (r : Int) (H : X.i_ownerOf p0 p1 = some r) : FnOk Tryz.prog gl 217 [.agg (eTState p0), cI p1] (cI r) := by
  unfold X.i_ownerOf at H
  refine fn_in (fn := Tryz.f217) (ir := i_ownerOf_ir) (s1 := lit [(4, cI r)] []) Tryz.func217 (by kernel_rfl) (by kernel_rfl) (by kernel_rfl) (by kernel_rfl) (by kernel_rfl) ?_
  refine seq_ops [] [] [(1, cI p1), (2, .c (.pk 2 0))] [(2, .var (eTState p0) false)] (fun t => t) (by kernel_rfl) ?_
  refine seq_in ?_
  refine seq_ops [] [] [(1, cI p1), (8, .c (dat 4 eTUnit zTUnit p0.Units)), (9, cI (p0.Units.length : Int)), (10, cI 0)] [] (fun t => lI p0.Units (t)) (by kernel_rfl) ?_
  refine ends_blk ?_
  obtain ⟨y18, h19, H⟩ := ofBind H
  refine loop_in (fun (x : Int) => lit [(1, cI p1), (8, .c (dat 4 eTUnit zTUnit p0.Units)), (9, cI (p0.Units.length : Int)), (10, cI x)] []) (orJ (fun (z : Unit) => At (.exit 0) (lit [] [])) (fun (z : Int) => At .ret (lit [(4, cI z)] []))) h19 ?_ ?_
  · clear H h19
    intro x12 y0 H
    refine seq_ops [] [] [(1, cI p1), (8, .c (dat 4 eTUnit zTUnit p0.Units)), (9, cI (p0.Units.length : Int)), (10, cI x12), (11, cB (decide (x12 < (p0.Units.length : Int))))] [] (fun t => t) (by kernel_rfl) ?_
    refine seq_in ?_
    rcases ofCond H with ⟨c14, H⟩ | ⟨c14, H⟩
    · refine ite_t c14 (by kernel_rfl) ?_
      refine ends_skip ?_
      change EndsI _ _ _ _ _ _
      refine seq_in ?_
      refine ends_blk ?_
      obtain ⟨v15, h16, H⟩ := ofBind H
      refine seq_ops [.cs (eTUnit v15)] [] [(1, cI p1), (6, .c (.pk 6 0)), (8, .c (dat 4 eTUnit zTUnit p0.Units)), (9, cI (p0.Units.length : Int)), (10, cI x12)] [(6, .var (eTUnit v15) false)] (fun t => aI (at_lt h16) (aI (at_enc (enc := eTUnit) h16) (t))) (by kernel_rfl) ?_
      refine seq_ops [] [] [(1, cI p1), (6, .c (.pk 6 0)), (8, .c (dat 4 eTUnit zTUnit p0.Units)), (9, cI (p0.Units.length : Int)), (10, cI x12), (17, cB (v15.At == p1))] [(6, .var (eTUnit v15) false)] (fun t => t) (by kernel_rfl) ?_
      rcases ofCond H with ⟨c17, H⟩ | ⟨c17, H⟩
      · refine ite_t c17 (by kernel_rfl) ?_
        refine seq_ops [] [] [(4, cI v15.Side)] [] (fun t => t) (by kernel_rfl) ?_
        refine ends_ret ?_
        obtain rfl := Option.some.inj H
        exact And.intro (by simp) (And.intro rfl rfl)
      · refine ite_f c17 (by kernel_rfl) ?_
        refine ends_skip ?_
        change EndsI _ _ _ _ _ _
        refine one_ops [] [] [(1, cI p1), (8, .c (dat 4 eTUnit zTUnit p0.Units)), (9, cI (p0.Units.length : Int)), (10, cI (W (x12 + 1)))] [] (fun t => t) (by kernel_rfl) ?_
        obtain rfl := Option.some.inj H
        exact And.intro rfl rfl
    · refine ite_f c14 (by kernel_rfl) ?_
      refine tell [] [] [] (fun t => t) (by kernel_rfl) ?_
      refine ends_exit ?_
      obtain rfl := Option.some.inj H
      exact And.intro (by simp) (And.intro rfl rfl)
  · clear h19
    cases y18 with
    | inl y20 =>
      replace H := ofInl H
      intro e s q
      obtain ⟨rfl, rfl⟩ := q
      change EndsI _ _ _ _ _ _
      refine seq_ops [] [] [(4, cI (-1))] [] (fun t => t) (by kernel_rfl) ?_
      refine ends_ret ?_
      obtain rfl := Option.some.inj H
      exact And.intro (.inl rfl) rfl
    | inr y21 =>
      replace H := ofInr H
      intro e s q
      obtain ⟨rfl, rfl⟩ := q
      obtain rfl := Option.some.inj H
      exact And.intro (.inl rfl) rfl

def i_edgeOf_ir : S :=
 (.seq (.ops [⟨some 3, .box 5 (.t 0), none⟩, ⟨some 6, .mv (.v (.int .i64 0)), none⟩])
 (.seq (.ops [⟨some 8, .load 5 true (.t 3), none⟩, ⟨some 9, .mv (.t 1), none⟩, ⟨some 10, .mv (.t 2), none⟩, ⟨some 11, .call 158 [.t 8, .t 9, .t 10], none⟩, ⟨some 7, .mv (.t 11), none⟩])
 (.seq (.blk 0 (.seq (.ops [⟨some 13, .mv (.t 7), none⟩, ⟨some 14, .bin .lss (.t 13) (.v (.int .i64 0)), none⟩, ⟨some 12, .mv (.t 14), none⟩])
  (.ite (.t 12) (.seq (.ops [⟨some 6, .mv (.v (.int .i64 (-1))), none⟩])
   .ret)
  (.seq (.ops [⟨some 16, .mv (.t 2), none⟩, ⟨some 17, .bin .lss (.t 16) (.v (.int .i64 3)), none⟩, ⟨some 15, .mv (.t 17), none⟩])
   (.ite (.t 15) (.seq (.ops [⟨some 18, .mv (.t 1), none⟩, ⟨some 19, .bin .mul (.v (.int .i64 3)) (.t 18), none⟩, ⟨some 20, .mv (.t 2), none⟩, ⟨some 21, .bin .add (.t 19) (.t 20), none⟩, ⟨some 6, .mv (.t 21), none⟩])
    .ret)
   .skip)))))
 (.seq (.ops [⟨some 22, .mv (.t 7), none⟩, ⟨some 23, .bin .mul (.v (.int .i64 3)) (.t 22), none⟩, ⟨some 24, .mv (.t 2), none⟩, ⟨some 25, .bin .add (.t 23) (.t 24), none⟩, ⟨some 26, .bin .sub (.t 25) (.v (.int .i64 3)), none⟩, ⟨some 6, .mv (.t 26), none⟩])
 .ret))))
noncomputable def X.i_edgeOf (p0 : TMap) (p1 : Int) (p2 : Int) : Option Int :=
  ((X.i_nextTo p0 p1 p2).bind fun v1 => (bif (decide (v1 < 0)) then some (-1) else (bif (decide (p2 < 3)) then some (W ((W (3 * p1)) + p2)) else some (W ((W ((W (3 * v1)) + p2)) - 3)))))
theorem i_edgeOf_ok (p0 : TMap) (p1 : Int) (p2 : Int) (r : Int) (H : X.i_edgeOf p0 p1 p2 = some r) : FnOk Tryz.prog gl 240 [.agg (eTMap p0), cI p1, cI p2] (cI r) := by
  unfold X.i_edgeOf at H
  refine fn_in (fn := Tryz.f240) (ir := i_edgeOf_ir) (s1 := lit [(6, cI r)] []) Tryz.func240 (by kernel_rfl) (by kernel_rfl) (by kernel_rfl) (by kernel_rfl) (by kernel_rfl) ?_
  refine seq_ops [] [] [(1, cI p1), (2, cI p2), (3, .c (.pk 3 0))] [(3, .var (eTMap p0) false)] (fun t => t) (by kernel_rfl) ?_
  obtain ⟨v1, h2, H⟩ := ofBind H
  refine seq_ops [.res (cI v1)] [] [(1, cI p1), (2, cI p2), (7, cI v1)] [] (fun t => aI (i_nextTo_ok p0 p1 p2 v1 h2) (t)) (by kernel_rfl) ?_
  refine seq_in ?_
  refine ends_blk ?_
  refine seq_ops [] [] [(1, cI p1), (2, cI p2), (7, cI v1), (12, cB (decide (v1 < 0)))] [] (fun t => t) (by kernel_rfl) ?_
  rcases ofCond H with ⟨c3, H⟩ | ⟨c3, H⟩
  · refine ite_t c3 (by kernel_rfl) ?_
    refine seq_ops [] [] [(6, cI (-1))] [] (fun t => t) (by kernel_rfl) ?_
    refine ends_ret ?_
    obtain rfl := Option.some.inj H
    exact And.intro (.inl rfl) rfl
  · refine ite_f c3 (by kernel_rfl) ?_
    refine seq_ops [] [] [(1, cI p1), (2, cI p2), (7, cI v1), (15, cB (decide (p2 < 3)))] [] (fun t => t) (by kernel_rfl) ?_
    rcases ofCond H with ⟨c4, H⟩ | ⟨c4, H⟩
    · refine ite_t c4 (by kernel_rfl) ?_
      refine seq_ops [] [] [(6, cI (W ((W (3 * p1)) + p2)))] [] (fun t => t) (by kernel_rfl) ?_
      refine ends_ret ?_
      obtain rfl := Option.some.inj H
      exact And.intro (.inl rfl) rfl
    · refine ite_f c4 (by kernel_rfl) ?_
      refine ends_skip ?_
      change EndsI _ _ _ _ _ _
      refine seq_ops [] [] [(6, cI (W ((W ((W (3 * v1)) + p2)) - 3)))] [] (fun t => t) (by kernel_rfl) ?_
      refine ends_ret ?_
      obtain rfl := Option.some.inj H
      exact And.intro (.inl rfl) rfl

def g_Index_int_ir : S :=
 (.seq (.ops [⟨some 4, .mv (.v (.int .i64 0)), none⟩])
 (.seq (.seq (.ops [⟨some 6, .mv (.t 0), none⟩, ⟨some 7, .len (.t 6), none⟩, ⟨some 8, .mv (.v (.int .i64 0)), none⟩])
 (.blk 0 (.loop (.seq (.ops [⟨some 9, .bin .lss (.t 8) (.t 7), none⟩])
   (.seq (.ite (.t 9) .skip
   (.exit 0))
   (.seq (.blk 1 (.seq (.ops [⟨some 10, .mv (.t 8), none⟩, ⟨some 5, .mv (.t 10), none⟩])
    (.seq (.ops [⟨some 11, .mv (.t 1), none⟩, ⟨some 12, .mv (.t 0), none⟩, ⟨some 13, .mv (.t 5), none⟩, ⟨some 14, .iad 1 (.t 12) (.t 13), none⟩, ⟨some 15, .load 1 false (.t 14), none⟩, ⟨some 16, .bin .eql (.t 11) (.t 15), none⟩])
    (.ite (.t 16) (.seq (.ops [⟨some 17, .mv (.t 5), none⟩, ⟨some 4, .mv (.t 17), none⟩])
     .ret)
    .skip))))
   (.ops [⟨some 18, .bin .add (.t 8) (.v (.int .i64 1)), none⟩, ⟨some 8, .mv (.t 18), none⟩])))))))
 (.seq (.ops [⟨some 4, .mv (.v (.int .i64 (-1))), none⟩])
 .ret)))
noncomputable def X.g_Index_int (p0 : (List Int)) (p1 : Int) : Option Int :=
  ((loop (fun (x12 : Int) => ((bif (decide (x12 < (p0.length : Int))) then ((at' zI p0 x12).bind fun v15 => (bif (p1 == v15) then some (Sum.inr (Sum.inr x12)) else some (Sum.inl (W (x12 + 1))))) else some (Sum.inr (Sum.inl ()))) : Option (Int ⊕ (Unit ⊕ Int)))) 0).bind fun y18 => (Sum.elim (fun (y20 : Unit) => some (-1)) (fun (y21 : Int) => some y21) y18))
theorem g_Index_int_ok (p0 : (List Int)) (p1 : Int) (r : Int) (H : X.g_Index_int p0 p1 = some r) : FnOk Tryz.prog gl 202 [.c (dat 1 eI zI p0), cI p1] (cI r) := by
  unfold X.g_Index_int at H
  refine fn_in (fn := Tryz.f202) (ir := g_Index_int_ir) (s1 := lit [(4, cI r)] []) Tryz.func202 (by kernel_rfl) (by kernel_rfl) (by kernel_rfl) (by kernel_rfl) (by kernel_rfl) ?_
  refine seq_ops [] [] [(0, .c (dat 1 eI zI p0)), (1, cI p1)] [] (fun t => t) (by kernel_rfl) ?_
  refine seq_in ?_
  refine seq_ops [] [] [(0, .c (dat 1 eI zI p0)), (1, cI p1), (7, cI (p0.length : Int)), (8, cI 0)] [] (fun t => lI p0 (t)) (by kernel_rfl) ?_
  refine ends_blk ?_
  obtain ⟨y18, h19, H⟩ := ofBind H
  refine loop_in (fun (x : Int) => lit [(0, .c (dat 1 eI zI p0)), (1, cI p1), (7, cI (p0.length : Int)), (8, cI x)] []) (orJ (fun (z : Unit) => At (.exit 0) (lit [] [])) (fun (z : Int) => At .ret (lit [(4, cI z)] []))) h19 ?_ ?_
  · clear H h19
    intro x12 y0 H
    refine seq_ops [] [] [(0, .c (dat 1 eI zI p0)), (1, cI p1), (7, cI (p0.length : Int)), (8, cI x12), (9, cB (decide (x12 < (p0.length : Int))))] [] (fun t => t) (by kernel_rfl) ?_
    refine seq_in ?_
    rcases ofCond H with ⟨c14, H⟩ | ⟨c14, H⟩
    · refine ite_t c14 (by kernel_rfl) ?_
      refine ends_skip ?_
      change EndsI _ _ _ _ _ _
      refine seq_in ?_
      refine ends_blk ?_
      refine seq_ops [] [] [(0, .c (dat 1 eI zI p0)), (1, cI p1), (5, cI x12), (7, cI (p0.length : Int)), (8, cI x12)] [] (fun t => t) (by kernel_rfl) ?_
      obtain ⟨v15, h16, H⟩ := ofBind H
      refine seq_ops [.cs (eI v15)] [] [(0, .c (dat 1 eI zI p0)), (1, cI p1), (5, cI x12), (7, cI (p0.length : Int)), (8, cI x12), (16, cB (p1 == v15))] [] (fun t => aI (at_lt h16) (aI (at_enc (enc := eI) h16) (t))) (by kernel_rfl) ?_
      rcases ofCond H with ⟨c17, H⟩ | ⟨c17, H⟩
      · refine ite_t c17 (by kernel_rfl) ?_
        refine seq_ops [] [] [(4, cI x12)] [] (fun t => t) (by kernel_rfl) ?_
        refine ends_ret ?_
        obtain rfl := Option.some.inj H
        exact And.intro (by simp) (And.intro rfl rfl)
      · refine ite_f c17 (by kernel_rfl) ?_
        refine ends_skip ?_
        change EndsI _ _ _ _ _ _
        refine one_ops [] [] [(0, .c (dat 1 eI zI p0)), (1, cI p1), (7, cI (p0.length : Int)), (8, cI (W (x12 + 1)))] [] (fun t => t) (by kernel_rfl) ?_
        obtain rfl := Option.some.inj H
        exact And.intro rfl rfl
    · refine ite_f c14 (by kernel_rfl) ?_
      refine tell [] [] [] (fun t => t) (by kernel_rfl) ?_
      refine ends_exit ?_
      obtain rfl := Option.some.inj H
      exact And.intro (by simp) (And.intro rfl rfl)
  · clear h19
    cases y18 with
    | inl y20 =>
      replace H := ofInl H
      intro e s q
      obtain ⟨rfl, rfl⟩ := q
      change EndsI _ _ _ _ _ _
      refine seq_ops [] [] [(4, cI (-1))] [] (fun t => t) (by kernel_rfl) ?_
      refine ends_ret ?_
      obtain rfl := Option.some.inj H
      exact And.intro (.inl rfl) rfl
    | inr y21 =>
      replace H := ofInr H
      intro e s q
      obtain ⟨rfl, rfl⟩ := q
      obtain rfl := Option.some.inj H
      exact And.intro (.inl rfl) rfl

def g_Contains_int_ir : S :=
 (.seq (.ops [⟨some 4, .mv (.v (.bool false)), none⟩])
 (.seq (.ops [⟨some 5, .mv (.t 0), none⟩, ⟨some 6, .mv (.t 1), none⟩, ⟨some 7, .call 202 [.t 5, .t 6], none⟩, ⟨some 8, .bin .geq (.t 7) (.v (.int .i64 0)), none⟩, ⟨some 4, .mv (.t 8), none⟩])
 .ret))
noncomputable def X.g_Contains_int (p0 : (List Int)) (p1 : Int) : Option Bool :=
  ((X.g_Index_int p0 p1).bind fun v1 => some (decide (v1 ≥ 0)))
theorem g_Contains_int_ok (p0 : (List Int)) (p1 : Int) (r : Bool) (H : X.g_Contains_int p0 p1 = some r) : FnOk Tryz.prog gl 142 [.c (dat 1 eI zI p0), cI p1] (cB r) := by
  unfold X.g_Contains_int at H
  refine fn_in (fn := Tryz.f142) (ir := g_Contains_int_ir) (s1 := lit [(4, cB r)] []) Tryz.func142 (by kernel_rfl) (by kernel_rfl) (by kernel_rfl) (by kernel_rfl) (by kernel_rfl) ?_
  refine seq_ops [] [] [(0, .c (dat 1 eI zI p0)), (1, cI p1)] [] (fun t => t) (by kernel_rfl) ?_
  obtain ⟨v1, h2, H⟩ := ofBind H
  refine seq_ops [.res (cI v1)] [] [(4, cB (decide (v1 ≥ 0)))] [] (fun t => aI (g_Index_int_ok p0 p1 v1 h2) (t)) (by kernel_rfl) ?_
  refine ends_ret ?_
  obtain rfl := Option.some.inj H
  exact And.intro (.inl rfl) rfl

def i_crossesFreely_ir : S :=
 (.seq (.ops [⟨some 2, .box 5 (.t 0), none⟩, ⟨some 4, .mv (.v (.bool false)), none⟩])
 (.seq (.ops [⟨some 5, .fad 3 (.t 2), none⟩, ⟨some 6, .load 1 false (.t 5), none⟩, ⟨some 7, .mv (.t 1), none⟩, ⟨some 8, .call 142 [.t 6, .t 7], none⟩, ⟨some 9, .not (.t 8), none⟩, ⟨some 10, .mv (.t 9), none⟩, ⟨some 11, .fad 4 (.t 2), some (10, false)⟩, ⟨some 12, .load 1 false (.t 11), some (10, false)⟩, ⟨some 13, .mv (.t 1), some (10, false)⟩, ⟨some 14, .call 142 [.t 12, .t 13], some (10, false)⟩, ⟨some 15, .pick (.t 10) (.v (.bool true)) (.t 14), none⟩, ⟨some 4, .mv (.t 15), none⟩])
 .ret))
noncomputable def X.i_crossesFreely (p0 : TMap) (p1 : Int) : Option Bool :=
  ((X.g_Contains_int p0.Rivers p1).bind fun v1 => (bif (!v1) then some true else ((X.g_Contains_int p0.Roads p1).bind fun v4 => some v4)))
theorem i_crossesFreely_ok (p0 : TMap) (p1 : Int) (r : Bool) (H : X.i_crossesFreely p0 p1 = some r) : FnOk Tryz.prog gl 252 [.agg (eTMap p0), cI p1] (cB r) := by
  unfold X.i_crossesFreely at H
  refine fn_in (fn := Tryz.f252) (ir := i_crossesFreely_ir) (s1 := lit [(4, cB r)] []) Tryz.func252 (by kernel_rfl) (by kernel_rfl) (by kernel_rfl) (by kernel_rfl) (by kernel_rfl) ?_
  refine seq_ops [] [] [(1, cI p1), (2, .c (.pk 2 0))] [(2, .var (eTMap p0) false)] (fun t => t) (by kernel_rfl) ?_
  obtain ⟨v1, h2, H⟩ := ofBind H
  rcases ofCond H with ⟨c3, H⟩ | ⟨c3, H⟩
  · refine seq_ops [.res (cB v1), .g true, .g true, .g true, .g true, .g true] [] [(4, cB true)] [] (fun t => aI (g_Contains_int_ok p0.Rivers p1 v1 h2) (aI c3 (aI c3 (aI c3 (aI c3 (aI c3 (t))))))) (by kernel_rfl) ?_
    refine ends_ret ?_
    obtain rfl := Option.some.inj H
    exact And.intro (.inl rfl) rfl
  · obtain ⟨v4, h5, H⟩ := ofBind H
    refine seq_ops [.res (cB v1), .g false, .g false, .g false, .g false, .res (cB v4), .g false] [] [(4, cB v4)] [] (fun t => aI (g_Contains_int_ok p0.Rivers p1 v1 h2) (aI c3 (aI c3 (aI c3 (aI c3 (aI (g_Contains_int_ok p0.Roads p1 v4 h5) (aI c3 (t)))))))) (by kernel_rfl) ?_
    refine ends_ret ?_
    obtain rfl := Option.some.inj H
    exact And.intro (.inl rfl) rfl

def i_controls_ir : S :=
 (.seq (.ops [⟨some 3, .box 12 (.t 0), none⟩, ⟨some 4, .box 4 (.t 1), none⟩, ⟨some 6, .mv (.v (.bool false)), none⟩])
 (.seq (.seq (.ops [⟨some 8, .fad 2 (.t 4), none⟩, ⟨some 9, .load 1 false (.t 8), none⟩, ⟨some 10, .bin .lss (.t 9) (.v (.int .i64 0)), none⟩, ⟨some 11, .mv (.t 10), none⟩, ⟨some 12, .fad 0 (.t 3), some (11, false)⟩, ⟨some 13, .fad 1 (.t 12), some (11, false)⟩, ⟨some 14, .load 1 false (.t 13), some (11, false)⟩, ⟨some 15, .fad 1 (.t 4), some (11, false)⟩, ⟨some 16, .load 1 false (.t 15), some (11, false)⟩, ⟨some 17, .iad 6 (.t 14) (.t 16), some (11, false)⟩, ⟨some 18, .fad 4 (.t 17), some (11, false)⟩, ⟨some 19, .load 1 false (.t 18), some (11, false)⟩, ⟨some 20, .not (.t 19), some (11, false)⟩, ⟨some 21, .pick (.t 11) (.v (.bool true)) (.t 20), none⟩, ⟨some 22, .mv (.t 21), none⟩, ⟨some 23, .load 12 true (.t 3), some (22, false)⟩, ⟨some 24, .fad 1 (.t 4), some (22, false)⟩, ⟨some 25, .load 1 false (.t 24), some (22, false)⟩, ⟨some 26, .mv (.t 2), some (22, false)⟩, ⟨some 27, .call 143 [.t 23, .t 25, .t 26], some (22, false)⟩, ⟨some 28, .bin .eql (.t 27) (.v (.int .i64 0)), some (22, false)⟩, ⟨some 29, .pick (.t 22) (.v (.bool true)) (.t 28), none⟩])
 (.ite (.t 29) (.seq (.ops [⟨some 6, .mv (.v (.bool false)), none⟩])
  .ret)
 .skip))
 (.seq (.seq (.ops [⟨some 30, .mv (.v (.int .i64 0)), none⟩])
 (.blk 0 (.loop (.seq (.ops [⟨some 31, .bin .lss (.t 30) (.v (.int .i64 6)), none⟩])
   (.seq (.ite (.t 31) .skip
   (.exit 0))
   (.seq (.blk 1 (.seq (.ops [⟨some 32, .mv (.t 30), none⟩, ⟨some 7, .mv (.t 32), none⟩])
    (.seq (.ops [⟨some 33, .fad 7 (.t 3), none⟩, ⟨some 34, .load 5 true (.t 33), none⟩, ⟨some 35, .fad 2 (.t 4), none⟩, ⟨some 36, .load 1 false (.t 35), none⟩, ⟨some 37, .mv (.t 7), none⟩, ⟨some 38, .call 158 [.t 34, .t 36, .t 37], none⟩, ⟨some 39, .mv (.t 2), none⟩, ⟨some 40, .bin .eql (.t 38) (.t 39), none⟩])
    (.ite (.t 40) (.seq (.draw 10 [⟨some 41, .fad 7 (.t 3), none⟩, ⟨some 42, .load 5 true (.t 41), none⟩, ⟨some 43, .fad 7 (.t 3), none⟩, ⟨some 44, .load 5 true (.t 43), none⟩, ⟨some 45, .fad 2 (.t 4), none⟩, ⟨some 46, .load 1 false (.t 45), none⟩, ⟨some 47, .mv (.t 7), none⟩, ⟨some 48, .call 240 [.t 44, .t 46, .t 47], none⟩, ⟨some 49, .call 252 [.t 42, .t 48], none⟩, ⟨some 6, .mv (.t 49), none⟩])
     .ret)
    .skip))))
   (.ops [⟨some 50, .bin .add (.t 30) (.v (.int .i64 1)), none⟩, ⟨some 30, .mv (.t 50), none⟩])))))))
 (.seq (.ops [⟨some 6, .mv (.v (.bool false)), none⟩])
 .ret))))
noncomputable def X.i_controls (p0 : TBoard) (p1 : TUnit) (p2 : Int) : Option Bool :=
  (bif (decide (p1.At < 0)) then some false else ((at' zTKind p0.Rules.Kinds p1.Kind).bind fun v9 => (bif (!v9.Zone) then some false else ((X.i_enterCost p0 p1.Kind p2).bind fun v12 => (bif (v12 == 0) then some false else ((loop (fun (x34 : Int) => ((bif (decide (x34 < 6)) then ((X.i_nextTo p0.Map p1.At x34).bind fun v37 => (bif (v37 == p2) then ((X.i_edgeOf p0.Map p1.At x34).bind fun v40 => ((X.i_crossesFreely p0.Map v40).bind fun v42 => some (Sum.inr (Sum.inr v42)))) else some (Sum.inl (W (x34 + 1))))) else some (Sum.inr (Sum.inl ()))) : Option (Int ⊕ (Unit ⊕ Bool)))) 0).bind fun y44 => (Sum.elim (fun (y46 : Unit) => some false) (fun (y47 : Bool) => some y47) y44)))))))
theorem i_controls_ok (p0 : TBoard) (p1 : TUnit) (p2 : Int) (r : Bool) (H : X.i_controls p0 p1 p2 = some r) : FnOk Tryz.prog gl 238 [.agg (eTBoard p0), .agg (eTUnit p1), cI p2] (cB r) := by
  unfold X.i_controls at H
  refine fn_in (fn := Tryz.f238) (ir := i_controls_ir) (s1 := lit [(6, cB r)] []) Tryz.func238 (by kernel_rfl) (by kernel_rfl) (by kernel_rfl) (by kernel_rfl) (by kernel_rfl) ?_
  refine seq_ops [] [] [(2, cI p2), (3, .c (.pk 3 0)), (4, .c (.pk 4 0))] [(3, .var (eTBoard p0) false), (4, .var (eTUnit p1) false)] (fun t => t) (by kernel_rfl) ?_
  refine seq_in ?_
  rcases ofCond H with ⟨c8, H⟩ | ⟨c8, H⟩
  · refine seq_ops [.g true, .g true, .g true, .g true, .g true, .g true, .g true, .g true, .g true, .g true, .g true, .g true, .g true, .g true, .g true, .g true, .g true] [] [(2, cI p2), (3, .c (.pk 3 0)), (4, .c (.pk 4 0)), (29, cB true)] [(3, .var (eTBoard p0) false), (4, .var (eTUnit p1) false)] (fun t => aI c8 (aI c8 (aI c8 (aI c8 (aI c8 (aI c8 (aI c8 (aI c8 (aI c8 (aI c8 (aI (rfl : (true : Bool) = true) (aI (rfl : (true : Bool) = true) (aI (rfl : (true : Bool) = true) (aI (rfl : (true : Bool) = true) (aI (rfl : (true : Bool) = true) (aI (rfl : (true : Bool) = true) (aI (rfl : (true : Bool) = true) (t)))))))))))))))))) (by kernel_rfl) ?_
    refine ite_t (rfl : (true : Bool) = true) (by kernel_rfl) ?_
    refine seq_ops [] [] [(6, cB false)] [] (fun t => t) (by kernel_rfl) ?_
    refine ends_ret ?_
    obtain rfl := Option.some.inj H
    exact And.intro (.inl rfl) rfl
  · obtain ⟨v9, h10, H⟩ := ofBind H
    rcases ofCond H with ⟨c11, H⟩ | ⟨c11, H⟩
    · refine seq_ops [.g false, .g false, .g false, .g false, .g false, .g false, .cs (eTKind v9), .g false, .g false, .g false, .g false, .g true, .g true, .g true, .g true, .g true, .g true, .g true] [] [(2, cI p2), (3, .c (.pk 3 0)), (4, .c (.pk 4 0)), (29, cB true)] [(3, .var (eTBoard p0) false), (4, .var (eTUnit p1) false)] (fun t => aI c8 (aI c8 (aI c8 (aI c8 (aI c8 (aI c8 (aI (at_lt h10) (aI (at_enc (enc := eTKind) h10) (aI c8 (aI c8 (aI c8 (aI c8 (aI c11 (aI c11 (aI c11 (aI c11 (aI c11 (aI c11 (aI c11 (t)))))))))))))))))))) (by kernel_rfl) ?_
      refine ite_t (rfl : (true : Bool) = true) (by kernel_rfl) ?_
      refine seq_ops [] [] [(6, cB false)] [] (fun t => t) (by kernel_rfl) ?_
      refine ends_ret ?_
      obtain rfl := Option.some.inj H
      exact And.intro (.inl rfl) rfl
    · obtain ⟨v12, h13, H⟩ := ofBind H
      refine seq_ops [.g false, .g false, .g false, .g false, .g false, .g false, .cs (eTKind v9), .g false, .g false, .g false, .g false, .g false, .g false, .g false, .g false, .g false, .res (cI v12), .g false, .g false] [] [(2, cI p2), (3, .c (.pk 3 0)), (4, .c (.pk 4 0)), (29, cB (v12 == 0))] [(3, .var (eTBoard p0) false), (4, .var (eTUnit p1) false)] (fun t => aI c8 (aI c8 (aI c8 (aI c8 (aI c8 (aI c8 (aI (at_lt h10) (aI (at_enc (enc := eTKind) h10) (aI c8 (aI c8 (aI c8 (aI c8 (aI c11 (aI c11 (aI c11 (aI c11 (aI c11 (aI (i_enterCost_ok p0 p1.Kind p2 v12 h13) (aI c11 (aI c11 (t))))))))))))))))))))) (by kernel_rfl) ?_
      rcases ofCond H with ⟨c14, H⟩ | ⟨c14, H⟩
      · refine ite_t c14 (by kernel_rfl) ?_
        refine seq_ops [] [] [(6, cB false)] [] (fun t => t) (by kernel_rfl) ?_
        refine ends_ret ?_
        obtain rfl := Option.some.inj H
        exact And.intro (.inl rfl) rfl
      · refine ite_f c14 (by kernel_rfl) ?_
        refine ends_skip ?_
        change EndsI _ _ _ _ _ _
        refine seq_in ?_
        refine seq_ops [] [] [(2, cI p2), (3, .c (.pk 3 0)), (4, .c (.pk 4 0)), (30, cI 0)] [(3, .var (eTBoard p0) false), (4, .var (eTUnit p1) false)] (fun t => t) (by kernel_rfl) ?_
        refine ends_blk ?_
        obtain ⟨y44, h45, H⟩ := ofBind H
        refine loop_in (fun (x : Int) => lit [(2, cI p2), (3, .c (.pk 3 0)), (4, .c (.pk 4 0)), (30, cI x)] [(3, .var (eTBoard p0) false), (4, .var (eTUnit p1) false)]) (orJ (fun (z : Unit) => At (.exit 0) (lit [] [])) (fun (z : Bool) => At .ret (lit [(6, cB z)] []))) h45 ?_ ?_
        · clear H h45
          intro x34 y0 H
          refine seq_ops [] [] [(2, cI p2), (3, .c (.pk 3 0)), (4, .c (.pk 4 0)), (30, cI x34), (31, cB (decide (x34 < 6)))] [(3, .var (eTBoard p0) false), (4, .var (eTUnit p1) false)] (fun t => t) (by kernel_rfl) ?_
          refine seq_in ?_
          rcases ofCond H with ⟨c36, H⟩ | ⟨c36, H⟩
          · refine ite_t c36 (by kernel_rfl) ?_
            refine ends_skip ?_
            change EndsI _ _ _ _ _ _
            refine seq_in ?_
            refine ends_blk ?_
            refine seq_ops [] [] [(2, cI p2), (3, .c (.pk 3 0)), (4, .c (.pk 4 0)), (7, cI x34), (30, cI x34)] [(3, .var (eTBoard p0) false), (4, .var (eTUnit p1) false)] (fun t => t) (by kernel_rfl) ?_
            obtain ⟨v37, h38, H⟩ := ofBind H
            refine seq_ops [.res (cI v37)] [] [(2, cI p2), (3, .c (.pk 3 0)), (4, .c (.pk 4 0)), (7, cI x34), (30, cI x34), (40, cB (v37 == p2))] [(3, .var (eTBoard p0) false), (4, .var (eTUnit p1) false)] (fun t => aI (i_nextTo_ok p0.Map p1.At x34 v37 h38) (t)) (by kernel_rfl) ?_
            rcases ofCond H with ⟨c39, H⟩ | ⟨c39, H⟩
            · refine ite_t c39 (by kernel_rfl) ?_
              obtain ⟨v40, h41, H⟩ := ofBind H
              obtain ⟨v42, h43, H⟩ := ofBind H
              refine seq_draw [.res (cI v40), .res (cB v42)] [] [(6, cB v42)] [] (fun t => aI (i_edgeOf_ok p0.Map p1.At x34 v40 h41) (aI trivial (aI (rfl : ([] : List Nat) = []) (aI (i_crossesFreely_ok p0.Map v40 v42 h43) (aI trivial (aI (rfl : ([] : List Nat) = []) (t))))))) (by kernel_rfl) ?_
              refine ends_ret ?_
              obtain rfl := Option.some.inj H
              exact And.intro (by simp) (And.intro rfl rfl)
            · refine ite_f c39 (by kernel_rfl) ?_
              refine ends_skip ?_
              change EndsI _ _ _ _ _ _
              refine one_ops [] [] [(2, cI p2), (3, .c (.pk 3 0)), (4, .c (.pk 4 0)), (30, cI (W (x34 + 1)))] [(3, .var (eTBoard p0) false), (4, .var (eTUnit p1) false)] (fun t => t) (by kernel_rfl) ?_
              obtain rfl := Option.some.inj H
              exact And.intro rfl rfl
          · refine ite_f c36 (by kernel_rfl) ?_
            refine tell [] [] [] (fun t => t) (by kernel_rfl) ?_
            refine ends_exit ?_
            obtain rfl := Option.some.inj H
            exact And.intro (by simp) (And.intro rfl rfl)
        · clear h45
          cases y44 with
          | inl y46 =>
            replace H := ofInl H
            intro e s q
            obtain ⟨rfl, rfl⟩ := q
            change EndsI _ _ _ _ _ _
            refine seq_ops [] [] [(6, cB false)] [] (fun t => t) (by kernel_rfl) ?_
            refine ends_ret ?_
            obtain rfl := Option.some.inj H
            exact And.intro (.inl rfl) rfl
          | inr y47 =>
            replace H := ofInr H
            intro e s q
            obtain ⟨rfl, rfl⟩ := q
            obtain rfl := Option.some.inj H
            exact And.intro (.inl rfl) rfl

def i_inZone_ir : S :=
 (.seq (.ops [⟨some 4, .box 12 (.t 0), none⟩, ⟨some 5, .box 3 (.t 1), none⟩, ⟨some 8, .mv (.v (.bool false)), none⟩])
 (.seq (.seq (.ops [⟨some 11, .fad 2 (.t 5), none⟩, ⟨some 12, .load 1 false (.t 11), none⟩, ⟨some 13, .len (.t 12), none⟩, ⟨some 14, .mv (.v (.int .i64 0)), none⟩])
 (.blk 0 (.loop (.seq (.ops [⟨some 15, .bin .lss (.t 14) (.t 13), none⟩])
   (.seq (.ite (.t 15) .skip
   (.exit 0))
   (.seq (.blk 1 (.seq (.ops [⟨some 16, .iad 4 (.t 12) (.t 14), none⟩, ⟨some 17, .load 4 true (.t 16), none⟩, ⟨some 10, .alloc [.int .i64 0, .int .i64 0, .int .i64 0, .int .i64 0], none⟩, ⟨none, .store 4 (.t 10) (.t 17), none⟩])
    (.seq (.ops [⟨some 18, .fad 0 (.t 10), none⟩, ⟨some 19, .load 1 false (.t 18), none⟩, ⟨some 20, .mv (.t 2), none⟩, ⟨some 21, .bin .eql (.t 19) (.t 20), none⟩, ⟨some 22, .mv (.t 21), none⟩, ⟨some 23, .load 12 true (.t 4), some (22, true)⟩, ⟨some 24, .load 4 true (.t 10), some (22, true)⟩, ⟨some 25, .mv (.t 3), some (22, true)⟩, ⟨some 26, .call 238 [.t 23, .t 24, .t 25], some (22, true)⟩, ⟨some 27, .pick (.t 22) (.t 26) (.v (.bool false)), none⟩])
    (.ite (.t 27) (.seq (.ops [⟨some 8, .mv (.v (.bool true)), none⟩])
     .ret)
    .skip))))
   (.ops [⟨some 28, .bin .add (.t 14) (.v (.int .i64 1)), none⟩, ⟨some 14, .mv (.t 28), none⟩])))))))
 (.seq (.ops [⟨some 8, .mv (.v (.bool false)), none⟩])
 .ret)))
noncomputable def X.i_inZone (p0 : TBoard) (p1 : TState) (p2 : Int) (p3 : Int) : Option Bool :=
  ((loop (fun (x18 : Int) => ((bif (decide (x18 < (p1.Units.length : Int))) then ((at' zTUnit p1.Units x18).bind fun v21 => (bif (v21.Side == p2) then ((X.i_controls p0 v21 p3).bind fun v24 => (bif v24 then some (Sum.inr (Sum.inr true)) else some (Sum.inl (W (x18 + 1))))) else some (Sum.inl (W (x18 + 1))))) else some (Sum.inr (Sum.inl ()))) : Option (Int ⊕ (Unit ⊕ Bool)))) 0).bind fun y27 => (Sum.elim (fun (y29 : Unit) => some false) (fun (y30 : Bool) => some y30) y27))
theorem i_inZone_ok (p0 : TBoard) (p1 : TState) (p2 : Int) (p3 : Int) (r : Bool) (H : X.i_inZone p0 p1 p2 p3 = some r) : FnOk Tryz.prog gl 218 [.agg (eTBoard p0), .agg (eTState p1), cI p2, cI p3] (cB r) := by
  unfold X.i_inZone at H
  refine fn_in (fn := Tryz.f218) (ir := i_inZone_ir) (s1 := lit [(8, cB r)] []) Tryz.func218 (by kernel_rfl) (by kernel_rfl) (by kernel_rfl) (by kernel_rfl) (by kernel_rfl) ?_
  refine seq_ops [] [] [(2, cI p2), (3, cI p3), (4, .c (.pk 4 0)), (5, .c (.pk 5 0))] [(4, .var (eTBoard p0) false), (5, .var (eTState p1) false)] (fun t => t) (by kernel_rfl) ?_
  refine seq_in ?_
  refine seq_ops [] [] [(2, cI p2), (3, cI p3), (4, .c (.pk 4 0)), (12, .c (dat 4 eTUnit zTUnit p1.Units)), (13, cI (p1.Units.length : Int)), (14, cI 0)] [(4, .var (eTBoard p0) false)] (fun t => lI p1.Units (t)) (by kernel_rfl) ?_
  refine ends_blk ?_
  obtain ⟨y27, h28, H⟩ := ofBind H
  refine loop_in (fun (x : Int) => lit [(2, cI p2), (3, cI p3), (4, .c (.pk 4 0)), (12, .c (dat 4 eTUnit zTUnit p1.Units)), (13, cI (p1.Units.length : Int)), (14, cI x)] [(4, .var (eTBoard p0) false)]) (orJ (fun (z : Unit) => At (.exit 0) (lit [] [])) (fun (z : Bool) => At .ret (lit [(8, cB z)] []))) h28 ?_ ?_
  · clear H h28
    intro x18 y0 H
    refine seq_ops [] [] [(2, cI p2), (3, cI p3), (4, .c (.pk 4 0)), (12, .c (dat 4 eTUnit zTUnit p1.Units)), (13, cI (p1.Units.length : Int)), (14, cI x18), (15, cB (decide (x18 < (p1.Units.length : Int))))] [(4, .var (eTBoard p0) false)] (fun t => t) (by kernel_rfl) ?_
    refine seq_in ?_
    rcases ofCond H with ⟨c20, H⟩ | ⟨c20, H⟩
    · refine ite_t c20 (by kernel_rfl) ?_
      refine ends_skip ?_
      change EndsI _ _ _ _ _ _
      refine seq_in ?_
      refine ends_blk ?_
      obtain ⟨v21, h22, H⟩ := ofBind H
      refine seq_ops [.cs (eTUnit v21)] [] [(2, cI p2), (3, cI p3), (4, .c (.pk 4 0)), (10, .c (.pk 10 0)), (12, .c (dat 4 eTUnit zTUnit p1.Units)), (13, cI (p1.Units.length : Int)), (14, cI x18)] [(4, .var (eTBoard p0) false), (10, .var (eTUnit v21) false)] (fun t => aI (at_lt h22) (aI (at_enc (enc := eTUnit) h22) (t))) (by kernel_rfl) ?_
      rcases ofCond H with ⟨c23, H⟩ | ⟨c23, H⟩
      · obtain ⟨v24, h25, H⟩ := ofBind H
        refine seq_ops [.g true, .g true, .g true, .g true, .res (cB v24), .g true] [] [(2, cI p2), (3, cI p3), (4, .c (.pk 4 0)), (12, .c (dat 4 eTUnit zTUnit p1.Units)), (13, cI (p1.Units.length : Int)), (14, cI x18), (27, cB v24)] [(4, .var (eTBoard p0) false)] (fun t => aI c23 (aI c23 (aI c23 (aI c23 (aI (i_controls_ok p0 v21 p3 v24 h25) (aI c23 (t))))))) (by kernel_rfl) ?_
        rcases ofCond H with ⟨c26, H⟩ | ⟨c26, H⟩
        · refine ite_t c26 (by kernel_rfl) ?_
          refine seq_ops [] [] [(8, cB true)] [] (fun t => t) (by kernel_rfl) ?_
          refine ends_ret ?_
          obtain rfl := Option.some.inj H
          exact And.intro (by simp) (And.intro rfl rfl)
        · refine ite_f c26 (by kernel_rfl) ?_
          refine ends_skip ?_
          change EndsI _ _ _ _ _ _
          refine one_ops [] [] [(2, cI p2), (3, cI p3), (4, .c (.pk 4 0)), (12, .c (dat 4 eTUnit zTUnit p1.Units)), (13, cI (p1.Units.length : Int)), (14, cI (W (x18 + 1)))] [(4, .var (eTBoard p0) false)] (fun t => t) (by kernel_rfl) ?_
          obtain rfl := Option.some.inj H
          exact And.intro rfl rfl
      · refine seq_ops [.g false, .g false, .g false, .g false, .g false] [] [(2, cI p2), (3, cI p3), (4, .c (.pk 4 0)), (12, .c (dat 4 eTUnit zTUnit p1.Units)), (13, cI (p1.Units.length : Int)), (14, cI x18), (27, cB false)] [(4, .var (eTBoard p0) false)] (fun t => aI c23 (aI c23 (aI c23 (aI c23 (aI c23 (t)))))) (by kernel_rfl) ?_
        refine ite_f (rfl : (false : Bool) = false) (by kernel_rfl) ?_
        refine ends_skip ?_
        change EndsI _ _ _ _ _ _
        refine one_ops [] [] [(2, cI p2), (3, cI p3), (4, .c (.pk 4 0)), (12, .c (dat 4 eTUnit zTUnit p1.Units)), (13, cI (p1.Units.length : Int)), (14, cI (W (x18 + 1)))] [(4, .var (eTBoard p0) false)] (fun t => t) (by kernel_rfl) ?_
        obtain rfl := Option.some.inj H
        exact And.intro rfl rfl
    · refine ite_f c20 (by kernel_rfl) ?_
      refine tell [] [] [] (fun t => t) (by kernel_rfl) ?_
      refine ends_exit ?_
      obtain rfl := Option.some.inj H
      exact And.intro (by simp) (And.intro rfl rfl)
  · clear h28
    cases y27 with
    | inl y29 =>
      replace H := ofInl H
      intro e s q
      obtain ⟨rfl, rfl⟩ := q
      change EndsI _ _ _ _ _ _
      refine seq_ops [] [] [(8, cB false)] [] (fun t => t) (by kernel_rfl) ?_
      refine ends_ret ?_
      obtain rfl := Option.some.inj H
      exact And.intro (.inl rfl) rfl
    | inr y30 =>
      replace H := ofInr H
      intro e s q
      obtain ⟨rfl, rfl⟩ := q
      obtain rfl := Option.some.inj H
      exact And.intro (.inl rfl) rfl

def i_controlOf_ir : S :=
 (.seq (.ops [⟨some 3, .box 12 (.t 0), none⟩, ⟨some 4, .box 3 (.t 1), none⟩, ⟨some 6, .mv (.v (.int .i64 0)), none⟩])
 (.seq (.ops [⟨some 10, .load 3 true (.t 4), none⟩, ⟨some 11, .mv (.t 2), none⟩, ⟨some 12, .call 217 [.t 10, .t 11], none⟩, ⟨some 7, .mv (.t 12), none⟩])
 (.seq (.draw 10 [⟨some 13, .load 12 true (.t 3), none⟩, ⟨some 14, .load 3 true (.t 4), none⟩, ⟨some 15, .mv (.t 2), none⟩, ⟨some 16, .call 218 [.t 13, .t 14, .v (.int .i64 0), .t 15], none⟩, ⟨some 17, .load 12 true (.t 3), none⟩, ⟨some 18, .load 3 true (.t 4), none⟩, ⟨some 19, .mv (.t 2), none⟩, ⟨some 20, .call 218 [.t 17, .t 18, .v (.int .i64 1), .t 19], none⟩, ⟨some 8, .mv (.t 16), none⟩, ⟨some 9, .mv (.t 20), none⟩])
 (.seq (.blk 0 (.seq (.ops [⟨some 22, .mv (.t 7), none⟩, ⟨some 23, .bin .geq (.t 22) (.v (.int .i64 0)), none⟩, ⟨some 21, .mv (.t 23), none⟩])
  (.ite (.t 21) (.seq (.ops [⟨some 24, .mv (.t 7), none⟩, ⟨some 6, .mv (.t 24), none⟩])
   .ret)
  (.seq (.ops [⟨some 26, .mv (.t 8), none⟩, ⟨some 27, .mv (.t 26), none⟩, ⟨some 28, .mv (.t 9), some (27, true)⟩, ⟨some 29, .pick (.t 27) (.t 28) (.v (.bool false)), none⟩, ⟨some 25, .mv (.t 29), none⟩])
   (.ite (.t 25) (.seq (.ops [⟨some 6, .mv (.v (.int .i64 2)), none⟩])
    .ret)
   (.seq (.ops [⟨some 31, .mv (.t 8), none⟩, ⟨some 30, .mv (.t 31), none⟩])
    (.ite (.t 30) (.seq (.ops [⟨some 6, .mv (.v (.int .i64 0)), none⟩])
     .ret)
    (.seq (.ops [⟨some 33, .mv (.t 9), none⟩, ⟨some 32, .mv (.t 33), none⟩])
     (.ite (.t 32) (.seq (.ops [⟨some 6, .mv (.v (.int .i64 1)), none⟩])
      .ret)
     .skip)))))))))
 (.seq (.ops [⟨some 6, .mv (.v (.int .i64 (-1))), none⟩])
 .ret)))))
noncomputable def X.i_controlOf (p0 : TBoard) (p1 : TState) (p2 : Int) : Option Int :=
  ((X.i_ownerOf p1 p2).bind fun v1 => ((X.i_inZone p0 p1 0 p2).bind fun v3 => ((X.i_inZone p0 p1 1 p2).bind fun v5 => (bif (decide (v1 ≥ 0)) then some v1 else (bif v3 then (bif v5 then some 2 else some 0) else (bif v5 then some 1 else some (-1)))))))
theorem i_controlOf_ok (p0 : TBoard) (p1 : TState) (p2 : Int) (r : Int) (H : X.i_controlOf p0 p1 p2 = some r) : FnOk Tryz.prog gl 160 [.agg (eTBoard p0), .agg (eTState p1), cI p2] (cI r) := by
  unfold X.i_controlOf at H
  refine fn_in (fn := Tryz.f160) (ir := i_controlOf_ir) (s1 := lit [(6, cI r)] []) Tryz.func160 (by kernel_rfl) (by kernel_rfl) (by kernel_rfl) (by kernel_rfl) (by kernel_rfl) ?_
  refine seq_ops [] [] [(2, cI p2), (3, .c (.pk 3 0)), (4, .c (.pk 4 0))] [(3, .var (eTBoard p0) false), (4, .var (eTState p1) false)] (fun t => t) (by kernel_rfl) ?_
  obtain ⟨v1, h2, H⟩ := ofBind H
  refine seq_ops [.res (cI v1)] [] [(2, cI p2), (3, .c (.pk 3 0)), (4, .c (.pk 4 0)), (7, cI v1)] [(3, .var (eTBoard p0) false), (4, .var (eTState p1) false)] (fun t => aI (i_ownerOf_ok p1 p2 v1 h2) (t)) (by kernel_rfl) ?_
  obtain ⟨v3, h4, H⟩ := ofBind H
  obtain ⟨v5, h6, H⟩ := ofBind H
  refine seq_draw [.res (cB v3), .res (cB v5)] [] [(7, cI v1), (8, cB v3), (9, cB v5)] [] (fun t => aI (i_inZone_ok p0 p1 0 p2 v3 h4) (aI trivial (aI (rfl : ([] : List Nat) = []) (aI (i_inZone_ok p0 p1 1 p2 v5 h6) (aI trivial (aI (rfl : ([] : List Nat) = []) (t))))))) (by kernel_rfl) ?_
  refine seq_in ?_
  refine ends_blk ?_
  refine seq_ops [] [] [(7, cI v1), (8, cB v3), (9, cB v5), (21, cB (decide (v1 ≥ 0)))] [] (fun t => t) (by kernel_rfl) ?_
  rcases ofCond H with ⟨c7, H⟩ | ⟨c7, H⟩
  · refine ite_t c7 (by kernel_rfl) ?_
    refine seq_ops [] [] [(6, cI v1)] [] (fun t => t) (by kernel_rfl) ?_
    refine ends_ret ?_
    obtain rfl := Option.some.inj H
    exact And.intro (.inl rfl) rfl
  · refine ite_f c7 (by kernel_rfl) ?_
    rcases ofCond H with ⟨c8, H⟩ | ⟨c8, H⟩
    · refine seq_ops [.g true, .g true] [] [(8, cB v3), (9, cB v5), (25, cB v5)] [] (fun t => aI c8 (aI c8 (t))) (by kernel_rfl) ?_
      rcases ofCond H with ⟨c9, H⟩ | ⟨c9, H⟩
      · refine ite_t c9 (by kernel_rfl) ?_
        refine seq_ops [] [] [(6, cI 2)] [] (fun t => t) (by kernel_rfl) ?_
        refine ends_ret ?_
        obtain rfl := Option.some.inj H
        exact And.intro (.inl rfl) rfl
      · refine ite_f c9 (by kernel_rfl) ?_
        refine seq_ops [] [] [(9, cB v5), (30, cB v3)] [] (fun t => t) (by kernel_rfl) ?_
        refine ite_t c8 (by kernel_rfl) ?_
        refine seq_ops [] [] [(6, cI 0)] [] (fun t => t) (by kernel_rfl) ?_
        refine ends_ret ?_
        obtain rfl := Option.some.inj H
        exact And.intro (.inl rfl) rfl
    · refine seq_ops [.g false, .g false] [] [(8, cB v3), (9, cB v5), (25, cB false)] [] (fun t => aI c8 (aI c8 (t))) (by kernel_rfl) ?_
      refine ite_f (rfl : (false : Bool) = false) (by kernel_rfl) ?_
      refine seq_ops [] [] [(9, cB v5), (30, cB v3)] [] (fun t => t) (by kernel_rfl) ?_
      refine ite_f c8 (by kernel_rfl) ?_
      refine seq_ops [] [] [(32, cB v5)] [] (fun t => t) (by kernel_rfl) ?_
      rcases ofCond H with ⟨c10, H⟩ | ⟨c10, H⟩
      · refine ite_t c10 (by kernel_rfl) ?_
        refine seq_ops [] [] [(6, cI 1)] [] (fun t => t) (by kernel_rfl) ?_
        refine ends_ret ?_
        obtain rfl := Option.some.inj H
        exact And.intro (.inl rfl) rfl
      · refine ite_f c10 (by kernel_rfl) ?_
        refine ends_skip ?_
        change EndsI _ _ _ _ _ _
        refine seq_ops [] [] [(6, cI (-1))] [] (fun t => t) (by kernel_rfl) ?_
        refine ends_ret ?_
        obtain rfl := Option.some.inj H
        exact And.intro (.inl rfl) rfl

def i_holderOf_ir : S :=
 (.seq (.ops [⟨some 3, .box 12 (.t 0), none⟩, ⟨some 4, .box 3 (.t 1), none⟩, ⟨some 6, .mv (.v (.int .i64 0)), none⟩])
 (.seq (.seq (.ops [⟨some 8, .load 12 true (.t 3), none⟩, ⟨some 9, .load 3 true (.t 4), none⟩, ⟨some 10, .mv (.t 2), none⟩, ⟨some 11, .call 160 [.t 8, .t 9, .t 10], none⟩, ⟨some 7, .mv (.t 11), none⟩])
 (.seq (.ops [⟨some 12, .mv (.t 7), none⟩, ⟨some 13, .bin .eql (.t 12) (.v (.int .i64 0)), none⟩, ⟨some 14, .mv (.t 13), none⟩, ⟨some 15, .mv (.t 7), some (14, false)⟩, ⟨some 16, .bin .eql (.t 15) (.v (.int .i64 1)), some (14, false)⟩, ⟨some 17, .pick (.t 14) (.v (.bool true)) (.t 16), none⟩])
 (.ite (.t 17) (.seq (.ops [⟨some 18, .mv (.t 7), none⟩, ⟨some 6, .mv (.t 18), none⟩])
  .ret)
 .skip)))
 (.seq (.ops [⟨some 6, .mv (.v (.int .i64 (-1))), none⟩])
 .ret)))
noncomputable def X.i_holderOf (p0 : TBoard) (p1 : TState) (p2 : Int) : Option Int :=
  ((X.i_controlOf p0 p1 p2).bind fun v1 => (bif (v1 == 0) then some v1 else (bif (v1 == 1) then some v1 else some (-1))))
theorem i_holderOf_ok (p0 : TBoard) (p1 : TState) (p2 : Int) (r : Int) (H : X.i_holderOf p0 p1 p2 = some r) : FnOk Tryz.prog gl 96 [.agg (eTBoard p0), .agg (eTState p1), cI p2] (cI r) := by
  unfold X.i_holderOf at H
  refine fn_in (fn := Tryz.f96) (ir := i_holderOf_ir) (s1 := lit [(6, cI r)] []) Tryz.func96 (by kernel_rfl) (by kernel_rfl) (by kernel_rfl) (by kernel_rfl) (by kernel_rfl) ?_
  refine seq_ops [] [] [(2, cI p2), (3, .c (.pk 3 0)), (4, .c (.pk 4 0))] [(3, .var (eTBoard p0) false), (4, .var (eTState p1) false)] (fun t => t) (by kernel_rfl) ?_
  refine seq_in ?_
  obtain ⟨v1, h2, H⟩ := ofBind H
  refine seq_ops [.res (cI v1)] [] [(7, cI v1)] [] (fun t => aI (i_controlOf_ok p0 p1 p2 v1 h2) (t)) (by kernel_rfl) ?_
  rcases ofCond H with ⟨c3, H⟩ | ⟨c3, H⟩
  · refine seq_ops [.g true, .g true, .g true] [] [(7, cI v1), (17, cB true)] [] (fun t => aI c3 (aI c3 (aI c3 (t)))) (by kernel_rfl) ?_
    refine ite_t (rfl : (true : Bool) = true) (by kernel_rfl) ?_
    refine seq_ops [] [] [(6, cI v1)] [] (fun t => t) (by kernel_rfl) ?_
    refine ends_ret ?_
    obtain rfl := Option.some.inj H
    exact And.intro (.inl rfl) rfl
  · refine seq_ops [.g false, .g false, .g false] [] [(7, cI v1), (17, cB (v1 == 1))] [] (fun t => aI c3 (aI c3 (aI c3 (t)))) (by kernel_rfl) ?_
    rcases ofCond H with ⟨c4, H⟩ | ⟨c4, H⟩
    · refine ite_t c4 (by kernel_rfl) ?_
      refine seq_ops [] [] [(6, cI v1)] [] (fun t => t) (by kernel_rfl) ?_
      refine ends_ret ?_
      obtain rfl := Option.some.inj H
      exact And.intro (.inl rfl) rfl
    · refine ite_f c4 (by kernel_rfl) ?_
      refine ends_skip ?_
      change EndsI _ _ _ _ _ _
      refine seq_ops [] [] [(6, cI (-1))] [] (fun t => t) (by kernel_rfl) ?_
      refine ends_ret ?_
      obtain rfl := Option.some.inj H
      exact And.intro (.inl rfl) rfl

def i_goalPoints_ir : S :=
 (.seq (.ops [⟨some 3, .box 12 (.t 0), none⟩, ⟨some 4, .box 3 (.t 1), none⟩, ⟨some 5, .box 3 (.t 2), none⟩, ⟨some 6, .alloc [.int .i64 0, .int .i64 0], none⟩])
 (.seq (.ops [⟨some 11, .build [.int .i64 0, .int .i64 0] [], none⟩, ⟨some 7, .alloc [.int .i64 0, .int .i64 0], none⟩, ⟨none, .store 2 (.t 7) (.t 11), none⟩])
 (.seq (.seq (.ops [⟨some 12, .fad 0 (.t 5), none⟩, ⟨some 13, .load 1 false (.t 12), none⟩, ⟨some 14, .len (.t 13), none⟩, ⟨some 15, .mv (.v (.int .i64 0)), none⟩])
 (.blk 0 (.loop (.seq (.ops [⟨some 16, .bin .lss (.t 15) (.t 14), none⟩])
   (.seq (.ite (.t 16) .skip
   (.exit 0))
   (.seq (.blk 1 (.seq (.ops [⟨some 17, .iad 2 (.t 13) (.t 15), none⟩, ⟨some 18, .load 2 true (.t 17), none⟩, ⟨some 9, .alloc [.int .i64 0, .int .i64 0], none⟩, ⟨none, .store 2 (.t 9) (.t 18), none⟩])
    (.seq (.ops [⟨some 19, .load 12 true (.t 3), none⟩, ⟨some 20, .load 3 true (.t 4), none⟩, ⟨some 21, .fad 0 (.t 9), none⟩, ⟨some 22, .load 1 false (.t 21), none⟩, ⟨some 23, .call 96 [.t 19, .t 20, .t 22], none⟩, ⟨some 10, .mv (.t 23), none⟩])
    (.seq (.ops [⟨some 24, .mv (.t 10), none⟩, ⟨some 25, .bin .geq (.t 24) (.v (.int .i64 0)), none⟩])
    (.ite (.t 25) (.draw 7 [⟨some 26, .mv (.t 10), none⟩, ⟨some 27, .iar 2 1 (.t 7) (.t 26), none⟩, ⟨some 28, .load 1 false (.t 27), none⟩, ⟨some 29, .fad 1 (.t 9), none⟩, ⟨some 30, .load 1 false (.t 29), none⟩, ⟨some 31, .bin .add (.t 28) (.t 30), none⟩, ⟨some 32, .iar 2 1 (.t 7) (.t 26), none⟩, ⟨none, .store 1 (.t 32) (.t 31), none⟩])
    .skip)))))
   (.ops [⟨some 33, .bin .add (.t 15) (.v (.int .i64 1)), none⟩, ⟨some 15, .mv (.t 33), none⟩])))))))
 (.seq (.ops [⟨some 34, .load 2 true (.t 7), none⟩, ⟨none, .store 2 (.t 6) (.t 34), none⟩])
 .ret))))
noncomputable def X.i_goalPoints (p0 : TBoard) (p1 : TState) (p2 : TConditions) : Option A2_I :=
  ((loop (fun (x24 : (Int × Int × Int)) => ((bif (decide (x24.1 < (p2.Goals.length : Int))) then ((at' zTGoal p2.Goals x24.1).bind fun v27 => ((X.i_holderOf p0 p1 v27.At).bind fun v29 => (bif (decide (v29 ≥ 0)) then (if v29 = ((0 : Nat) : Int) then some (Sum.inl ((W (x24.1 + 1)), (W (x24.2.1 + v27.Points)), x24.2.2)) else (if v29 = ((1 : Nat) : Int) then some (Sum.inl ((W (x24.1 + 1)), x24.2.1, (W (x24.2.2 + v27.Points)))) else none)) else some (Sum.inl ((W (x24.1 + 1)), x24.2.1, x24.2.2))))) else some (Sum.inr (x24.2.1, x24.2.2))) : Option ((Int × Int × Int) ⊕ (Int × Int)))) (0, 0, 0)).bind fun y36 => some (A2_I.mk y36.1 y36.2))
theorem i_goalPoints_ok (p0 : TBoard) (p1 : TState) (p2 : TConditions) (r : A2_I) (H : X.i_goalPoints p0 p1 p2 = some r) : FnOk Tryz.prog gl 120 [.agg (eTBoard p0), .agg (eTState p1), .agg (eTConditions p2)] (.agg (eA2_I r)) := by
  unfold X.i_goalPoints at H
  refine fn_in (fn := Tryz.f120) (ir := i_goalPoints_ir) (s1 := lit [(6, .c (.pk 6 0))] [(6, .var (eA2_I r) false)]) Tryz.func120 (by kernel_rfl) (by kernel_rfl) (by kernel_rfl) (by kernel_rfl) (by kernel_rfl) ?_
  refine seq_ops [] [] [(3, .c (.pk 3 0)), (4, .c (.pk 4 0)), (5, .c (.pk 5 0)), (6, .c (.pk 6 0))] [(3, .var (eTBoard p0) false), (4, .var (eTState p1) false), (5, .var (eTConditions p2) false), (6, .var [.int .i64 0, .int .i64 0] false)] (fun t => t) (by kernel_rfl) ?_
  refine seq_ops [] [] [(3, .c (.pk 3 0)), (4, .c (.pk 4 0)), (5, .c (.pk 5 0)), (6, .c (.pk 6 0)), (7, .c (.pk 7 0))] [(3, .var (eTBoard p0) false), (4, .var (eTState p1) false), (5, .var (eTConditions p2) false), (6, .var [.int .i64 0, .int .i64 0] false), (7, .var [.int .i64 0, .int .i64 0] false)] (fun t => t) (by kernel_rfl) ?_
  refine seq_in ?_
  refine seq_ops [] [] [(3, .c (.pk 3 0)), (4, .c (.pk 4 0)), (6, .c (.pk 6 0)), (7, .c (.pk 7 0)), (13, .c (dat 2 eTGoal zTGoal p2.Goals)), (14, cI (p2.Goals.length : Int)), (15, cI 0)] [(3, .var (eTBoard p0) false), (4, .var (eTState p1) false), (6, .var [.int .i64 0, .int .i64 0] false), (7, .var [.int .i64 0, .int .i64 0] false)] (fun t => lI p2.Goals (t)) (by kernel_rfl) ?_
  refine ends_blk ?_
  obtain ⟨y36, h37, H⟩ := ofBind H
  refine loop_in (fun (x : (Int × Int × Int)) => lit [(3, .c (.pk 3 0)), (4, .c (.pk 4 0)), (6, .c (.pk 6 0)), (7, .c (.pk 7 0)), (13, .c (dat 2 eTGoal zTGoal p2.Goals)), (14, cI (p2.Goals.length : Int)), (15, cI x.1)] [(3, .var (eTBoard p0) false), (4, .var (eTState p1) false), (6, .var [.int .i64 0, .int .i64 0] false), (7, .var [.int .i64 x.2.1, .int .i64 x.2.2] false)]) (fun (z : (Int × Int)) => At (.exit 0) (lit [(6, .c (.pk 6 0)), (7, .c (.pk 7 0))] [(6, .var [.int .i64 0, .int .i64 0] false), (7, .var [.int .i64 z.1, .int .i64 z.2] false)])) h37 ?_ ?_
  · clear H h37
    intro x24 y0 H
    refine seq_ops [] [] [(3, .c (.pk 3 0)), (4, .c (.pk 4 0)), (6, .c (.pk 6 0)), (7, .c (.pk 7 0)), (13, .c (dat 2 eTGoal zTGoal p2.Goals)), (14, cI (p2.Goals.length : Int)), (15, cI x24.1), (16, cB (decide (x24.1 < (p2.Goals.length : Int))))] [(3, .var (eTBoard p0) false), (4, .var (eTState p1) false), (6, .var [.int .i64 0, .int .i64 0] false), (7, .var [.int .i64 x24.2.1, .int .i64 x24.2.2] false)] (fun t => t) (by kernel_rfl) ?_
    refine seq_in ?_
    rcases ofCond H with ⟨c26, H⟩ | ⟨c26, H⟩
    · refine ite_t c26 (by kernel_rfl) ?_
      refine ends_skip ?_
      change EndsI _ _ _ _ _ _
      refine seq_in ?_
      refine ends_blk ?_
      obtain ⟨v27, h28, H⟩ := ofBind H
      refine seq_ops [.cs (eTGoal v27)] [] [(3, .c (.pk 3 0)), (4, .c (.pk 4 0)), (6, .c (.pk 6 0)), (7, .c (.pk 7 0)), (9, .c (.pk 9 0)), (13, .c (dat 2 eTGoal zTGoal p2.Goals)), (14, cI (p2.Goals.length : Int)), (15, cI x24.1)] [(3, .var (eTBoard p0) false), (4, .var (eTState p1) false), (6, .var [.int .i64 0, .int .i64 0] false), (7, .var [.int .i64 x24.2.1, .int .i64 x24.2.2] false), (9, .var (eTGoal v27) false)] (fun t => aI (at_lt h28) (aI (at_enc (enc := eTGoal) h28) (t))) (by kernel_rfl) ?_
      obtain ⟨v29, h30, H⟩ := ofBind H
      refine seq_ops [.res (cI v29)] [] [(3, .c (.pk 3 0)), (4, .c (.pk 4 0)), (6, .c (.pk 6 0)), (7, .c (.pk 7 0)), (9, .c (.pk 9 0)), (10, cI v29), (13, .c (dat 2 eTGoal zTGoal p2.Goals)), (14, cI (p2.Goals.length : Int)), (15, cI x24.1)] [(3, .var (eTBoard p0) false), (4, .var (eTState p1) false), (6, .var [.int .i64 0, .int .i64 0] false), (7, .var [.int .i64 x24.2.1, .int .i64 x24.2.2] false), (9, .var (eTGoal v27) false)] (fun t => aI (i_holderOf_ok p0 p1 v27.At v29 h30) (t)) (by kernel_rfl) ?_
      refine seq_ops [] [] [(3, .c (.pk 3 0)), (4, .c (.pk 4 0)), (6, .c (.pk 6 0)), (7, .c (.pk 7 0)), (9, .c (.pk 9 0)), (10, cI v29), (13, .c (dat 2 eTGoal zTGoal p2.Goals)), (14, cI (p2.Goals.length : Int)), (15, cI x24.1), (25, cB (decide (v29 ≥ 0)))] [(3, .var (eTBoard p0) false), (4, .var (eTState p1) false), (6, .var [.int .i64 0, .int .i64 0] false), (7, .var [.int .i64 x24.2.1, .int .i64 x24.2.2] false), (9, .var (eTGoal v27) false)] (fun t => t) (by kernel_rfl) ?_
      rcases ofCond H with ⟨c31, H⟩ | ⟨c31, H⟩
      · refine ite_t c31 (by kernel_rfl) ?_
        rcases ofIte H with ⟨c32, H⟩ | ⟨c35, H⟩
        · refine one_draw [.nat 0, .nat 0] [] [(3, .c (.pk 3 0)), (4, .c (.pk 4 0)), (6, .c (.pk 6 0)), (7, .c (.pk 7 0)), (13, .c (dat 2 eTGoal zTGoal p2.Goals)), (14, cI (p2.Goals.length : Int)), (15, cI x24.1)] [(3, .var (eTBoard p0) false), (4, .var (eTState p1) false), (6, .var [.int .i64 0, .int .i64 0] false), (7, .var [.int .i64 (W (x24.2.1 + v27.Points)), .int .i64 x24.2.2] false)] (fun t => aI (And.intro c32 (by decide : 0 < 2)) (aI (And.intro c32 (by decide : 0 < 2)) (t))) (by kernel_rfl) ?_
          change EndsI _ _ _ _ _ _
          refine one_ops [] [] [(3, .c (.pk 3 0)), (4, .c (.pk 4 0)), (6, .c (.pk 6 0)), (7, .c (.pk 7 0)), (13, .c (dat 2 eTGoal zTGoal p2.Goals)), (14, cI (p2.Goals.length : Int)), (15, cI (W (x24.1 + 1)))] [(3, .var (eTBoard p0) false), (4, .var (eTState p1) false), (6, .var [.int .i64 0, .int .i64 0] false), (7, .var [.int .i64 (W (x24.2.1 + v27.Points)), .int .i64 x24.2.2] false)] (fun t => t) (by kernel_rfl) ?_
          obtain rfl := Option.some.inj H
          exact And.intro rfl rfl
        · rcases ofIte H with ⟨c33, H⟩ | ⟨c34, H⟩
          · refine one_draw [.nat 1, .nat 1] [] [(3, .c (.pk 3 0)), (4, .c (.pk 4 0)), (6, .c (.pk 6 0)), (7, .c (.pk 7 0)), (13, .c (dat 2 eTGoal zTGoal p2.Goals)), (14, cI (p2.Goals.length : Int)), (15, cI x24.1)] [(3, .var (eTBoard p0) false), (4, .var (eTState p1) false), (6, .var [.int .i64 0, .int .i64 0] false), (7, .var [.int .i64 x24.2.1, .int .i64 (W (x24.2.2 + v27.Points))] false)] (fun t => aI (And.intro c33 (by decide : 1 < 2)) (aI (And.intro c33 (by decide : 1 < 2)) (t))) (by kernel_rfl) ?_
            change EndsI _ _ _ _ _ _
            refine one_ops [] [] [(3, .c (.pk 3 0)), (4, .c (.pk 4 0)), (6, .c (.pk 6 0)), (7, .c (.pk 7 0)), (13, .c (dat 2 eTGoal zTGoal p2.Goals)), (14, cI (p2.Goals.length : Int)), (15, cI (W (x24.1 + 1)))] [(3, .var (eTBoard p0) false), (4, .var (eTState p1) false), (6, .var [.int .i64 0, .int .i64 0] false), (7, .var [.int .i64 x24.2.1, .int .i64 (W (x24.2.2 + v27.Points))] false)] (fun t => t) (by kernel_rfl) ?_
            obtain rfl := Option.some.inj H
            exact And.intro rfl rfl
          · cases H
      · refine ite_f c31 (by kernel_rfl) ?_
        refine ends_skip ?_
        change EndsI _ _ _ _ _ _
        refine one_ops [] [] [(3, .c (.pk 3 0)), (4, .c (.pk 4 0)), (6, .c (.pk 6 0)), (7, .c (.pk 7 0)), (13, .c (dat 2 eTGoal zTGoal p2.Goals)), (14, cI (p2.Goals.length : Int)), (15, cI (W (x24.1 + 1)))] [(3, .var (eTBoard p0) false), (4, .var (eTState p1) false), (6, .var [.int .i64 0, .int .i64 0] false), (7, .var [.int .i64 x24.2.1, .int .i64 x24.2.2] false)] (fun t => t) (by kernel_rfl) ?_
        obtain rfl := Option.some.inj H
        exact And.intro rfl rfl
    · refine ite_f c26 (by kernel_rfl) ?_
      refine tell [] [(6, .c (.pk 6 0)), (7, .c (.pk 7 0))] [(6, .var [.int .i64 0, .int .i64 0] false), (7, .var [.int .i64 x24.2.1, .int .i64 x24.2.2] false)] (fun t => t) (by kernel_rfl) ?_
      refine ends_exit ?_
      obtain rfl := Option.some.inj H
      exact And.intro (by simp) (And.intro rfl rfl)
  · clear h37
    intro e s q
    obtain ⟨rfl, rfl⟩ := q
    change EndsI _ _ _ _ _ _
    refine seq_ops [] [] [(6, .c (.pk 6 0))] [(6, .var [.int .i64 y36.1, .int .i64 y36.2] false)] (fun t => t) (by kernel_rfl) ?_
    refine ends_ret ?_
    obtain rfl := Option.some.inj H
    exact And.intro (.inl rfl) rfl

def i_fullSteps_ir : S :=
 (.seq (.ops [⟨some 2, .box 12 (.t 0), none⟩, ⟨some 3, .box 3 (.t 1), none⟩, ⟨some 4, .alloc [.int .i64 0, .int .i64 0], none⟩])
 (.seq (.ops [⟨some 8, .build [.int .i64 0, .int .i64 0] [], none⟩, ⟨some 5, .alloc [.int .i64 0, .int .i64 0], none⟩, ⟨none, .store 2 (.t 5) (.t 8), none⟩])
 (.seq (.seq (.ops [⟨some 9, .fad 2 (.t 3), none⟩, ⟨some 10, .load 1 false (.t 9), none⟩, ⟨some 11, .len (.t 10), none⟩, ⟨some 12, .mv (.v (.int .i64 0)), none⟩])
 (.blk 0 (.loop (.seq (.ops [⟨some 13, .bin .lss (.t 12) (.t 11), none⟩])
   (.seq (.ite (.t 13) .skip
   (.exit 0))
   (.seq (.blk 1 (.seq (.ops [⟨some 14, .iad 4 (.t 10) (.t 12), none⟩, ⟨some 15, .load 4 true (.t 14), none⟩, ⟨some 7, .alloc [.int .i64 0, .int .i64 0, .int .i64 0, .int .i64 0], none⟩, ⟨none, .store 4 (.t 7) (.t 15), none⟩])
    (.draw 14 [⟨some 16, .fad 0 (.t 7), none⟩, ⟨some 17, .load 1 false (.t 16), none⟩, ⟨some 18, .iar 2 1 (.t 5) (.t 17), none⟩, ⟨some 19, .load 1 false (.t 18), none⟩, ⟨some 20, .fad 0 (.t 2), none⟩, ⟨some 21, .fad 1 (.t 20), none⟩, ⟨some 22, .load 1 false (.t 21), none⟩, ⟨some 23, .fad 1 (.t 7), none⟩, ⟨some 24, .load 1 false (.t 23), none⟩, ⟨some 25, .iad 6 (.t 22) (.t 24), none⟩, ⟨some 26, .fad 3 (.t 25), none⟩, ⟨some 27, .load 1 false (.t 26), none⟩, ⟨some 28, .bin .add (.t 19) (.t 27), none⟩, ⟨some 29, .iar 2 1 (.t 5) (.t 17), none⟩, ⟨none, .store 1 (.t 29) (.t 28), none⟩])))
   (.ops [⟨some 30, .bin .add (.t 12) (.v (.int .i64 1)), none⟩, ⟨some 12, .mv (.t 30), none⟩])))))))
 (.seq (.ops [⟨some 31, .load 2 true (.t 5), none⟩, ⟨none, .store 2 (.t 4) (.t 31), none⟩])
 .ret))))
noncomputable def X.i_fullSteps (p0 : TBoard) (p1 : TState) : Option A2_I :=
  ((loop (fun (x26 : (Int × Int × Int)) => ((bif (decide (x26.1 < (p1.Units.length : Int))) then ((at' zTUnit p1.Units x26.1).bind fun v29 => (if v29.Side = ((0 : Nat) : Int) then ((at' zTKind p0.Rules.Kinds v29.Kind).bind fun v32 => some (Sum.inl ((W (x26.1 + 1)), (W (x26.2.1 + v32.Steps)), x26.2.2))) else (if v29.Side = ((1 : Nat) : Int) then ((at' zTKind p0.Rules.Kinds v29.Kind).bind fun v35 => some (Sum.inl ((W (x26.1 + 1)), x26.2.1, (W (x26.2.2 + v35.Steps))))) else none))) else some (Sum.inr (x26.2.1, x26.2.2))) : Option ((Int × Int × Int) ⊕ (Int × Int)))) (0, 0, 0)).bind fun y39 => some (A2_I.mk y39.1 y39.2))
theorem i_fullSteps_ok (p0 : TBoard) (p1 : TState) (r : A2_I) (H : X.i_fullSteps p0 p1 = some r) : FnOk Tryz.prog gl 193 [.agg (eTBoard p0), .agg (eTState p1)] (.agg (eA2_I r)) := by
  unfold X.i_fullSteps at H
  refine fn_in (fn := Tryz.f193) (ir := i_fullSteps_ir) (s1 := lit [(4, .c (.pk 4 0))] [(4, .var (eA2_I r) false)]) Tryz.func193 (by kernel_rfl) (by kernel_rfl) (by kernel_rfl) (by kernel_rfl) (by kernel_rfl) ?_
  refine seq_ops [] [] [(2, .c (.pk 2 0)), (3, .c (.pk 3 0)), (4, .c (.pk 4 0))] [(2, .var (eTBoard p0) false), (3, .var (eTState p1) false), (4, .var [.int .i64 0, .int .i64 0] false)] (fun t => t) (by kernel_rfl) ?_
  refine seq_ops [] [] [(2, .c (.pk 2 0)), (3, .c (.pk 3 0)), (4, .c (.pk 4 0)), (5, .c (.pk 5 0))] [(2, .var (eTBoard p0) false), (3, .var (eTState p1) false), (4, .var [.int .i64 0, .int .i64 0] false), (5, .var [.int .i64 0, .int .i64 0] false)] (fun t => t) (by kernel_rfl) ?_
  refine seq_in ?_
  refine seq_ops [] [] [(2, .c (.pk 2 0)), (4, .c (.pk 4 0)), (5, .c (.pk 5 0)), (10, .c (dat 4 eTUnit zTUnit p1.Units)), (11, cI (p1.Units.length : Int)), (12, cI 0)] [(2, .var (eTBoard p0) false), (4, .var [.int .i64 0, .int .i64 0] false), (5, .var [.int .i64 0, .int .i64 0] false)] (fun t => lI p1.Units (t)) (by kernel_rfl) ?_
  refine ends_blk ?_
  obtain ⟨y39, h40, H⟩ := ofBind H
  refine loop_in (fun (x : (Int × Int × Int)) => lit [(2, .c (.pk 2 0)), (4, .c (.pk 4 0)), (5, .c (.pk 5 0)), (10, .c (dat 4 eTUnit zTUnit p1.Units)), (11, cI (p1.Units.length : Int)), (12, cI x.1)] [(2, .var (eTBoard p0) false), (4, .var [.int .i64 0, .int .i64 0] false), (5, .var [.int .i64 x.2.1, .int .i64 x.2.2] false)]) (fun (z : (Int × Int)) => At (.exit 0) (lit [(4, .c (.pk 4 0)), (5, .c (.pk 5 0))] [(4, .var [.int .i64 0, .int .i64 0] false), (5, .var [.int .i64 z.1, .int .i64 z.2] false)])) h40 ?_ ?_
  · clear H h40
    intro x26 y0 H
    refine seq_ops [] [] [(2, .c (.pk 2 0)), (4, .c (.pk 4 0)), (5, .c (.pk 5 0)), (10, .c (dat 4 eTUnit zTUnit p1.Units)), (11, cI (p1.Units.length : Int)), (12, cI x26.1), (13, cB (decide (x26.1 < (p1.Units.length : Int))))] [(2, .var (eTBoard p0) false), (4, .var [.int .i64 0, .int .i64 0] false), (5, .var [.int .i64 x26.2.1, .int .i64 x26.2.2] false)] (fun t => t) (by kernel_rfl) ?_
    refine seq_in ?_
    rcases ofCond H with ⟨c28, H⟩ | ⟨c28, H⟩
    · refine ite_t c28 (by kernel_rfl) ?_
      refine ends_skip ?_
      change EndsI _ _ _ _ _ _
      refine seq_in ?_
      refine ends_blk ?_
      obtain ⟨v29, h30, H⟩ := ofBind H
      refine seq_ops [.cs (eTUnit v29)] [] [(2, .c (.pk 2 0)), (4, .c (.pk 4 0)), (5, .c (.pk 5 0)), (7, .c (.pk 7 0)), (10, .c (dat 4 eTUnit zTUnit p1.Units)), (11, cI (p1.Units.length : Int)), (12, cI x26.1)] [(2, .var (eTBoard p0) false), (4, .var [.int .i64 0, .int .i64 0] false), (5, .var [.int .i64 x26.2.1, .int .i64 x26.2.2] false), (7, .var (eTUnit v29) false)] (fun t => aI (at_lt h30) (aI (at_enc (enc := eTUnit) h30) (t))) (by kernel_rfl) ?_
      rcases ofIte H with ⟨c31, H⟩ | ⟨c38, H⟩
      · obtain ⟨v32, h33, H⟩ := ofBind H
        refine one_draw [.nat 0, .cs (eTKind v32), .nat 0] [] [(2, .c (.pk 2 0)), (4, .c (.pk 4 0)), (5, .c (.pk 5 0)), (10, .c (dat 4 eTUnit zTUnit p1.Units)), (11, cI (p1.Units.length : Int)), (12, cI x26.1)] [(2, .var (eTBoard p0) false), (4, .var [.int .i64 0, .int .i64 0] false), (5, .var [.int .i64 (W (x26.2.1 + v32.Steps)), .int .i64 x26.2.2] false)] (fun t => aI (And.intro c31 (by decide : 0 < 2)) (aI (at_lt h33) (aI (at_enc (enc := eTKind) h33) (aI (rfl : ([] : List Nat) = []) (aI (And.intro c31 (by decide : 0 < 2)) (t)))))) (by kernel_rfl) ?_
        change EndsI _ _ _ _ _ _
        refine one_ops [] [] [(2, .c (.pk 2 0)), (4, .c (.pk 4 0)), (5, .c (.pk 5 0)), (10, .c (dat 4 eTUnit zTUnit p1.Units)), (11, cI (p1.Units.length : Int)), (12, cI (W (x26.1 + 1)))] [(2, .var (eTBoard p0) false), (4, .var [.int .i64 0, .int .i64 0] false), (5, .var [.int .i64 (W (x26.2.1 + v32.Steps)), .int .i64 x26.2.2] false)] (fun t => t) (by kernel_rfl) ?_
        obtain rfl := Option.some.inj H
        exact And.intro rfl rfl
      · rcases ofIte H with ⟨c34, H⟩ | ⟨c37, H⟩
        · obtain ⟨v35, h36, H⟩ := ofBind H
          refine one_draw [.nat 1, .cs (eTKind v35), .nat 1] [] [(2, .c (.pk 2 0)), (4, .c (.pk 4 0)), (5, .c (.pk 5 0)), (10, .c (dat 4 eTUnit zTUnit p1.Units)), (11, cI (p1.Units.length : Int)), (12, cI x26.1)] [(2, .var (eTBoard p0) false), (4, .var [.int .i64 0, .int .i64 0] false), (5, .var [.int .i64 x26.2.1, .int .i64 (W (x26.2.2 + v35.Steps))] false)] (fun t => aI (And.intro c34 (by decide : 1 < 2)) (aI (at_lt h36) (aI (at_enc (enc := eTKind) h36) (aI (rfl : ([] : List Nat) = []) (aI (And.intro c34 (by decide : 1 < 2)) (t)))))) (by kernel_rfl) ?_
          change EndsI _ _ _ _ _ _
          refine one_ops [] [] [(2, .c (.pk 2 0)), (4, .c (.pk 4 0)), (5, .c (.pk 5 0)), (10, .c (dat 4 eTUnit zTUnit p1.Units)), (11, cI (p1.Units.length : Int)), (12, cI (W (x26.1 + 1)))] [(2, .var (eTBoard p0) false), (4, .var [.int .i64 0, .int .i64 0] false), (5, .var [.int .i64 x26.2.1, .int .i64 (W (x26.2.2 + v35.Steps))] false)] (fun t => t) (by kernel_rfl) ?_
          obtain rfl := Option.some.inj H
          exact And.intro rfl rfl
        · cases H
    · refine ite_f c28 (by kernel_rfl) ?_
      refine tell [] [(4, .c (.pk 4 0)), (5, .c (.pk 5 0))] [(4, .var [.int .i64 0, .int .i64 0] false), (5, .var [.int .i64 x26.2.1, .int .i64 x26.2.2] false)] (fun t => t) (by kernel_rfl) ?_
      refine ends_exit ?_
      obtain rfl := Option.some.inj H
      exact And.intro (by simp) (And.intro rfl rfl)
  · clear h40
    intro e s q
    obtain ⟨rfl, rfl⟩ := q
    change EndsI _ _ _ _ _ _
    refine seq_ops [] [] [(4, .c (.pk 4 0))] [(4, .var [.int .i64 y39.1, .int .i64 y39.2] false)] (fun t => t) (by kernel_rfl) ?_
    refine ends_ret ?_
    obtain rfl := Option.some.inj H
    exact And.intro (.inl rfl) rfl

def i_totalPoints_ir : S :=
 (.seq (.ops [⟨some 3, .box 12 (.t 0), none⟩, ⟨some 4, .box 3 (.t 1), none⟩, ⟨some 5, .box 3 (.t 2), none⟩, ⟨some 6, .alloc [.int .i64 0, .int .i64 0], none⟩])
 (.seq (.draw 9 [⟨some 11, .load 12 true (.t 3), none⟩, ⟨some 12, .load 3 true (.t 4), none⟩, ⟨some 13, .load 3 true (.t 5), none⟩, ⟨some 14, .call 120 [.t 11, .t 12, .t 13], none⟩, ⟨some 15, .load 12 true (.t 3), none⟩, ⟨some 16, .load 3 true (.t 4), none⟩, ⟨some 17, .call 193 [.t 15, .t 16], none⟩, ⟨some 7, .alloc [.int .i64 0, .int .i64 0], none⟩, ⟨some 8, .alloc [.int .i64 0, .int .i64 0], none⟩, ⟨none, .store 2 (.t 7) (.t 14), none⟩, ⟨none, .store 2 (.t 8) (.t 17), none⟩])
 (.seq (.seq (.ops [⟨some 18, .fad 2 (.t 4), none⟩, ⟨some 19, .load 1 false (.t 18), none⟩, ⟨some 20, .len (.t 19), none⟩, ⟨some 21, .mv (.v (.int .i64 0)), none⟩])
 (.blk 0 (.loop (.seq (.ops [⟨some 22, .bin .lss (.t 21) (.t 20), none⟩])
   (.seq (.ite (.t 22) .skip
   (.exit 0))
   (.seq (.blk 1 (.seq (.ops [⟨some 23, .iad 4 (.t 19) (.t 21), none⟩, ⟨some 24, .load 4 true (.t 23), none⟩, ⟨some 10, .alloc [.int .i64 0, .int .i64 0, .int .i64 0, .int .i64 0], none⟩, ⟨none, .store 4 (.t 10) (.t 24), none⟩])
    (.draw 8 [⟨some 25, .fad 0 (.t 10), none⟩, ⟨some 26, .load 1 false (.t 25), none⟩, ⟨some 27, .iar 2 1 (.t 8) (.t 26), none⟩, ⟨some 28, .load 1 false (.t 27), none⟩, ⟨some 29, .fad 3 (.t 10), none⟩, ⟨some 30, .load 1 false (.t 29), none⟩, ⟨some 31, .bin .sub (.t 28) (.t 30), none⟩, ⟨some 32, .iar 2 1 (.t 8) (.t 26), none⟩, ⟨none, .store 1 (.t 32) (.t 31), none⟩])))
   (.ops [⟨some 33, .bin .add (.t 21) (.v (.int .i64 1)), none⟩, ⟨some 21, .mv (.t 33), none⟩])))))))
 (.seq (.ops [⟨some 34, .iar 2 1 (.t 7) (.v (.int .i64 0)), none⟩, ⟨some 35, .load 1 false (.t 34), none⟩, ⟨some 36, .fad 1 (.t 5), none⟩, ⟨some 37, .load 1 false (.t 36), none⟩, ⟨some 38, .iar 2 1 (.t 8) (.v (.int .i64 1)), none⟩, ⟨some 39, .load 1 false (.t 38), none⟩, ⟨some 40, .bin .mul (.t 37) (.t 39), none⟩, ⟨some 41, .bin .add (.t 35) (.t 40), none⟩, ⟨some 42, .iar 2 1 (.t 7) (.v (.int .i64 1)), none⟩, ⟨some 43, .load 1 false (.t 42), none⟩, ⟨some 44, .fad 1 (.t 5), none⟩, ⟨some 45, .load 1 false (.t 44), none⟩, ⟨some 46, .iar 2 1 (.t 8) (.v (.int .i64 0)), none⟩, ⟨some 47, .load 1 false (.t 46), none⟩, ⟨some 48, .bin .mul (.t 45) (.t 47), none⟩, ⟨some 49, .bin .add (.t 43) (.t 48), none⟩, ⟨some 50, .build [.int .i64 0, .int .i64 0] [(0, 1, .t 41), (1, 1, .t 49)], none⟩, ⟨none, .store 2 (.t 6) (.t 50), none⟩])
 .ret))))
noncomputable def X.i_totalPoints (p0 : TBoard) (p1 : TState) (p2 : TConditions) : Option A2_I :=
  ((X.i_goalPoints p0 p1 p2).bind fun v1 => ((X.i_fullSteps p0 p1).bind fun v3 => ((loop (fun (x50 : (Int × Int × Int)) => ((bif (decide (x50.1 < (p1.Units.length : Int))) then ((at' zTUnit p1.Units x50.1).bind fun v53 => (if v53.Side = ((0 : Nat) : Int) then some (Sum.inl ((W (x50.1 + 1)), (W (x50.2.1 - v53.Steps)), x50.2.2)) else (if v53.Side = ((1 : Nat) : Int) then some (Sum.inl ((W (x50.1 + 1)), x50.2.1, (W (x50.2.2 - v53.Steps)))) else none))) else some (Sum.inr (x50.2.1, x50.2.2))) : Option ((Int × Int × Int) ⊕ (Int × Int)))) (0, v3.a0, v3.a1)).bind fun y59 => some (A2_I.mk (W (v1.a0 + (W (p2.Step * y59.2)))) (W (v1.a1 + (W (p2.Step * y59.1))))))))
theorem i_totalPoints_ok (p0 : TBoard) (p1 : TState) (p2 : TConditions) (r : A2_I) (H : X.i_totalPoints p0 p1 p2 = some r) : FnOk Tryz.prog gl 125 [.agg (eTBoard p0), .agg (eTState p1), .agg (eTConditions p2)] (.agg (eA2_I r)) := by
  unfold X.i_totalPoints at H
  refine fn_in (fn := Tryz.f125) (ir := i_totalPoints_ir) (s1 := lit [(6, .c (.pk 6 0))] [(6, .var (eA2_I r) false)]) Tryz.func125 (by kernel_rfl) (by kernel_rfl) (by kernel_rfl) (by kernel_rfl) (by kernel_rfl) ?_
  refine seq_ops [] [] [(3, .c (.pk 3 0)), (4, .c (.pk 4 0)), (5, .c (.pk 5 0)), (6, .c (.pk 6 0))] [(3, .var (eTBoard p0) false), (4, .var (eTState p1) false), (5, .var (eTConditions p2) false), (6, .var [.int .i64 0, .int .i64 0] false)] (fun t => t) (by kernel_rfl) ?_
  obtain ⟨v1, h2, H⟩ := ofBind H
  obtain ⟨v3, h4, H⟩ := ofBind H
  refine seq_draw [.res (.agg (eA2_I v1)), .res (.agg (eA2_I v3))] [] [(4, .c (.pk 4 0)), (5, .c (.pk 5 0)), (6, .c (.pk 6 0)), (7, .c (.pk 7 0)), (8, .c (.pk 8 0))] [(4, .var (eTState p1) false), (5, .var (eTConditions p2) false), (6, .var [.int .i64 0, .int .i64 0] false), (7, .var (eA2_I v1) false), (8, .var (eA2_I v3) false)] (fun t => aI (i_goalPoints_ok p0 p1 p2 v1 h2) (aI trivial (aI (rfl : ([] : List Nat) = []) (aI (i_fullSteps_ok p0 p1 v3 h4) (aI trivial (aI (rfl : ([] : List Nat) = []) (t))))))) (by kernel_rfl) ?_
  refine seq_in ?_
  refine seq_ops [] [] [(5, .c (.pk 5 0)), (6, .c (.pk 6 0)), (7, .c (.pk 7 0)), (8, .c (.pk 8 0)), (19, .c (dat 4 eTUnit zTUnit p1.Units)), (20, cI (p1.Units.length : Int)), (21, cI 0)] [(5, .var (eTConditions p2) false), (6, .var [.int .i64 0, .int .i64 0] false), (7, .var (eA2_I v1) false), (8, .var (eA2_I v3) false)] (fun t => lI p1.Units (t)) (by kernel_rfl) ?_
  refine ends_blk ?_
  obtain ⟨y59, h60, H⟩ := ofBind H
  refine loop_in (fun (x : (Int × Int × Int)) => lit [(5, .c (.pk 5 0)), (6, .c (.pk 6 0)), (7, .c (.pk 7 0)), (8, .c (.pk 8 0)), (19, .c (dat 4 eTUnit zTUnit p1.Units)), (20, cI (p1.Units.length : Int)), (21, cI x.1)] [(5, .var (eTConditions p2) false), (6, .var [.int .i64 0, .int .i64 0] false), (7, .var (eA2_I v1) false), (8, .var [.int .i64 x.2.1, .int .i64 x.2.2] false)]) (fun (z : (Int × Int)) => At (.exit 0) (lit [(5, .c (.pk 5 0)), (6, .c (.pk 6 0)), (7, .c (.pk 7 0)), (8, .c (.pk 8 0))] [(5, .var (eTConditions p2) false), (6, .var [.int .i64 0, .int .i64 0] false), (7, .var (eA2_I v1) false), (8, .var [.int .i64 z.1, .int .i64 z.2] false)])) h60 ?_ ?_
  · clear H h60
    intro x50 y0 H
    refine seq_ops [] [] [(5, .c (.pk 5 0)), (6, .c (.pk 6 0)), (7, .c (.pk 7 0)), (8, .c (.pk 8 0)), (19, .c (dat 4 eTUnit zTUnit p1.Units)), (20, cI (p1.Units.length : Int)), (21, cI x50.1), (22, cB (decide (x50.1 < (p1.Units.length : Int))))] [(5, .var (eTConditions p2) false), (6, .var [.int .i64 0, .int .i64 0] false), (7, .var (eA2_I v1) false), (8, .var [.int .i64 x50.2.1, .int .i64 x50.2.2] false)] (fun t => t) (by kernel_rfl) ?_
    refine seq_in ?_
    rcases ofCond H with ⟨c52, H⟩ | ⟨c52, H⟩
    · refine ite_t c52 (by kernel_rfl) ?_
      refine ends_skip ?_
      change EndsI _ _ _ _ _ _
      refine seq_in ?_
      refine ends_blk ?_
      obtain ⟨v53, h54, H⟩ := ofBind H
      refine seq_ops [.cs (eTUnit v53)] [] [(5, .c (.pk 5 0)), (6, .c (.pk 6 0)), (7, .c (.pk 7 0)), (8, .c (.pk 8 0)), (10, .c (.pk 10 0)), (19, .c (dat 4 eTUnit zTUnit p1.Units)), (20, cI (p1.Units.length : Int)), (21, cI x50.1)] [(5, .var (eTConditions p2) false), (6, .var [.int .i64 0, .int .i64 0] false), (7, .var (eA2_I v1) false), (8, .var [.int .i64 x50.2.1, .int .i64 x50.2.2] false), (10, .var (eTUnit v53) false)] (fun t => aI (at_lt h54) (aI (at_enc (enc := eTUnit) h54) (t))) (by kernel_rfl) ?_
      rcases ofIte H with ⟨c55, H⟩ | ⟨c58, H⟩
      · refine one_draw [.nat 0, .nat 0] [] [(5, .c (.pk 5 0)), (6, .c (.pk 6 0)), (7, .c (.pk 7 0)), (8, .c (.pk 8 0)), (19, .c (dat 4 eTUnit zTUnit p1.Units)), (20, cI (p1.Units.length : Int)), (21, cI x50.1)] [(5, .var (eTConditions p2) false), (6, .var [.int .i64 0, .int .i64 0] false), (7, .var (eA2_I v1) false), (8, .var [.int .i64 (W (x50.2.1 - v53.Steps)), .int .i64 x50.2.2] false)] (fun t => aI (And.intro c55 (by decide : 0 < 2)) (aI (And.intro c55 (by decide : 0 < 2)) (t))) (by kernel_rfl) ?_
        change EndsI _ _ _ _ _ _
        refine one_ops [] [] [(5, .c (.pk 5 0)), (6, .c (.pk 6 0)), (7, .c (.pk 7 0)), (8, .c (.pk 8 0)), (19, .c (dat 4 eTUnit zTUnit p1.Units)), (20, cI (p1.Units.length : Int)), (21, cI (W (x50.1 + 1)))] [(5, .var (eTConditions p2) false), (6, .var [.int .i64 0, .int .i64 0] false), (7, .var (eA2_I v1) false), (8, .var [.int .i64 (W (x50.2.1 - v53.Steps)), .int .i64 x50.2.2] false)] (fun t => t) (by kernel_rfl) ?_
        obtain rfl := Option.some.inj H
        exact And.intro rfl rfl
      · rcases ofIte H with ⟨c56, H⟩ | ⟨c57, H⟩
        · refine one_draw [.nat 1, .nat 1] [] [(5, .c (.pk 5 0)), (6, .c (.pk 6 0)), (7, .c (.pk 7 0)), (8, .c (.pk 8 0)), (19, .c (dat 4 eTUnit zTUnit p1.Units)), (20, cI (p1.Units.length : Int)), (21, cI x50.1)] [(5, .var (eTConditions p2) false), (6, .var [.int .i64 0, .int .i64 0] false), (7, .var (eA2_I v1) false), (8, .var [.int .i64 x50.2.1, .int .i64 (W (x50.2.2 - v53.Steps))] false)] (fun t => aI (And.intro c56 (by decide : 1 < 2)) (aI (And.intro c56 (by decide : 1 < 2)) (t))) (by kernel_rfl) ?_
          change EndsI _ _ _ _ _ _
          refine one_ops [] [] [(5, .c (.pk 5 0)), (6, .c (.pk 6 0)), (7, .c (.pk 7 0)), (8, .c (.pk 8 0)), (19, .c (dat 4 eTUnit zTUnit p1.Units)), (20, cI (p1.Units.length : Int)), (21, cI (W (x50.1 + 1)))] [(5, .var (eTConditions p2) false), (6, .var [.int .i64 0, .int .i64 0] false), (7, .var (eA2_I v1) false), (8, .var [.int .i64 x50.2.1, .int .i64 (W (x50.2.2 - v53.Steps))] false)] (fun t => t) (by kernel_rfl) ?_
          obtain rfl := Option.some.inj H
          exact And.intro rfl rfl
        · cases H
    · refine ite_f c52 (by kernel_rfl) ?_
      refine tell [] [(5, .c (.pk 5 0)), (6, .c (.pk 6 0)), (7, .c (.pk 7 0)), (8, .c (.pk 8 0))] [(5, .var (eTConditions p2) false), (6, .var [.int .i64 0, .int .i64 0] false), (7, .var (eA2_I v1) false), (8, .var [.int .i64 x50.2.1, .int .i64 x50.2.2] false)] (fun t => t) (by kernel_rfl) ?_
      refine ends_exit ?_
      obtain rfl := Option.some.inj H
      exact And.intro (by simp) (And.intro rfl rfl)
  · clear h60
    intro e s q
    obtain ⟨rfl, rfl⟩ := q
    change EndsI _ _ _ _ _ _
    refine seq_ops [.nat 0, .nat 1, .nat 1, .nat 0] [] [(6, .c (.pk 6 0))] [(6, .var [.int .i64 (W (v1.a0 + (W (p2.Step * y59.2)))), .int .i64 (W (v1.a1 + (W (p2.Step * y59.1))))] false)] (fun t => aI (And.intro (rfl : (0 : Int) = ((0 : Nat) : Int)) (by decide : 0 < 2)) (aI (And.intro (rfl : (1 : Int) = ((1 : Nat) : Int)) (by decide : 1 < 2)) (aI (And.intro (rfl : (1 : Int) = ((1 : Nat) : Int)) (by decide : 1 < 2)) (aI (And.intro (rfl : (0 : Int) = ((0 : Nat) : Int)) (by decide : 0 < 2)) (t))))) (by kernel_rfl) ?_
    refine ends_ret ?_
    obtain rfl := Option.some.inj H
    exact And.intro (.inl rfl) rfl

def i_pointsNeeded_ir : S :=
 (.seq (.ops [⟨some 4, .box 12 (.t 0), none⟩, ⟨some 5, .box 3 (.t 1), none⟩, ⟨some 6, .box 3 (.t 2), none⟩, ⟨some 8, .mv (.v (.int .i64 0)), none⟩])
 (.seq (.ops [⟨some 10, .load 12 true (.t 4), none⟩, ⟨some 11, .load 3 true (.t 5), none⟩, ⟨some 12, .load 3 true (.t 6), none⟩, ⟨some 13, .call 125 [.t 10, .t 11, .t 12], none⟩, ⟨some 9, .alloc [.int .i64 0, .int .i64 0], none⟩, ⟨none, .store 2 (.t 9) (.t 13), none⟩])
 (.seq (.draw 14 [⟨some 14, .mv (.t 3), none⟩, ⟨some 15, .bin .sub (.v (.int .i64 1)) (.t 14), none⟩, ⟨some 16, .iar 2 1 (.t 9) (.t 15), none⟩, ⟨some 17, .load 1 false (.t 16), none⟩, ⟨some 18, .fad 2 (.t 6), none⟩, ⟨some 19, .load 1 false (.t 18), none⟩, ⟨some 20, .mx true (.t 19) (.v (.int .i64 1)), none⟩, ⟨some 21, .bin .add (.t 17) (.t 20), none⟩, ⟨some 22, .mv (.t 3), none⟩, ⟨some 23, .iar 2 1 (.t 9) (.t 22), none⟩, ⟨some 24, .load 1 false (.t 23), none⟩, ⟨some 25, .bin .sub (.t 21) (.t 24), none⟩, ⟨some 26, .mx true (.v (.int .i64 0)) (.t 25), none⟩, ⟨some 8, .mv (.t 26), none⟩])
 .ret)))
noncomputable def X.i_pointsNeeded (p0 : TBoard) (p1 : TState) (p2 : TConditions) (p3 : Int) : Option Int :=
  ((X.i_totalPoints p0 p1 p2).bind fun v1 => (if (W (1 - p3)) = ((0 : Nat) : Int) then (if p3 = ((0 : Nat) : Int) then some (if (W ((W (v1.a0 + (if 1 > p2.Margin then 1 else p2.Margin))) - v1.a0)) > 0 then (W ((W (v1.a0 + (if 1 > p2.Margin then 1 else p2.Margin))) - v1.a0)) else 0) else (if p3 = ((1 : Nat) : Int) then some (if (W ((W (v1.a0 + (if 1 > p2.Margin then 1 else p2.Margin))) - v1.a1)) > 0 then (W ((W (v1.a0 + (if 1 > p2.Margin then 1 else p2.Margin))) - v1.a1)) else 0) else none)) else (if (W (1 - p3)) = ((1 : Nat) : Int) then (if p3 = ((0 : Nat) : Int) then some (if (W ((W (v1.a1 + (if 1 > p2.Margin then 1 else p2.Margin))) - v1.a0)) > 0 then (W ((W (v1.a1 + (if 1 > p2.Margin then 1 else p2.Margin))) - v1.a0)) else 0) else (if p3 = ((1 : Nat) : Int) then some (if (W ((W (v1.a1 + (if 1 > p2.Margin then 1 else p2.Margin))) - v1.a1)) > 0 then (W ((W (v1.a1 + (if 1 > p2.Margin then 1 else p2.Margin))) - v1.a1)) else 0) else none)) else none)))
theorem i_pointsNeeded_ok (p0 : TBoard) (p1 : TState) (p2 : TConditions) (p3 : Int) (r : Int) (H : X.i_pointsNeeded p0 p1 p2 p3 = some r) : FnOk Tryz.prog gl 128 [.agg (eTBoard p0), .agg (eTState p1), .agg (eTConditions p2), cI p3] (cI r) := by
  unfold X.i_pointsNeeded at H
  refine fn_in (fn := Tryz.f128) (ir := i_pointsNeeded_ir) (s1 := lit [(8, cI r)] []) Tryz.func128 (by kernel_rfl) (by kernel_rfl) (by kernel_rfl) (by kernel_rfl) (by kernel_rfl) ?_
  refine seq_ops [] [] [(3, cI p3), (4, .c (.pk 4 0)), (5, .c (.pk 5 0)), (6, .c (.pk 6 0))] [(4, .var (eTBoard p0) false), (5, .var (eTState p1) false), (6, .var (eTConditions p2) false)] (fun t => t) (by kernel_rfl) ?_
  obtain ⟨v1, h2, H⟩ := ofBind H
  refine seq_ops [.res (.agg (eA2_I v1))] [] [(3, cI p3), (6, .c (.pk 6 0)), (9, .c (.pk 9 0))] [(6, .var (eTConditions p2) false), (9, .var (eA2_I v1) false)] (fun t => aI (i_totalPoints_ok p0 p1 p2 v1 h2) (t)) (by kernel_rfl) ?_
  rcases ofIte H with ⟨c3, H⟩ | ⟨c14, H⟩
  · rcases ofIte H with ⟨c4, H⟩ | ⟨c7, H⟩
    · refine seq_draw [.nat 0, .nat 0] [] [(8, cI (if (W ((W (v1.a0 + (if 1 > p2.Margin then 1 else p2.Margin))) - v1.a0)) > 0 then (W ((W (v1.a0 + (if 1 > p2.Margin then 1 else p2.Margin))) - v1.a0)) else 0))] [] (fun t => aI (And.intro c3 (by decide : 0 < 2)) (aI (And.intro c4 (by decide : 0 < 2)) (t))) (by kernel_rfl) ?_
      refine ends_ret ?_
      obtain rfl := Option.some.inj H
      exact And.intro (.inl rfl) rfl
    · rcases ofIte H with ⟨c5, H⟩ | ⟨c6, H⟩
      · refine seq_draw [.nat 0, .nat 1] [] [(8, cI (if (W ((W (v1.a0 + (if 1 > p2.Margin then 1 else p2.Margin))) - v1.a1)) > 0 then (W ((W (v1.a0 + (if 1 > p2.Margin then 1 else p2.Margin))) - v1.a1)) else 0))] [] (fun t => aI (And.intro c3 (by decide : 0 < 2)) (aI (And.intro c5 (by decide : 1 < 2)) (t))) (by kernel_rfl) ?_
        refine ends_ret ?_
        obtain rfl := Option.some.inj H
        exact And.intro (.inl rfl) rfl
      · cases H
  · rcases ofIte H with ⟨c8, H⟩ | ⟨c13, H⟩
    · rcases ofIte H with ⟨c9, H⟩ | ⟨c12, H⟩
      · refine seq_draw [.nat 1, .nat 0] [] [(8, cI (if (W ((W (v1.a1 + (if 1 > p2.Margin then 1 else p2.Margin))) - v1.a0)) > 0 then (W ((W (v1.a1 + (if 1 > p2.Margin then 1 else p2.Margin))) - v1.a0)) else 0))] [] (fun t => aI (And.intro c8 (by decide : 1 < 2)) (aI (And.intro c9 (by decide : 0 < 2)) (t))) (by kernel_rfl) ?_
        refine ends_ret ?_
        obtain rfl := Option.some.inj H
        exact And.intro (.inl rfl) rfl
      · rcases ofIte H with ⟨c10, H⟩ | ⟨c11, H⟩
        · refine seq_draw [.nat 1, .nat 1] [] [(8, cI (if (W ((W (v1.a1 + (if 1 > p2.Margin then 1 else p2.Margin))) - v1.a1)) > 0 then (W ((W (v1.a1 + (if 1 > p2.Margin then 1 else p2.Margin))) - v1.a1)) else 0))] [] (fun t => aI (And.intro c8 (by decide : 1 < 2)) (aI (And.intro c10 (by decide : 1 < 2)) (t))) (by kernel_rfl) ?_
          refine ends_ret ?_
          obtain rfl := Option.some.inj H
          exact And.intro (.inl rfl) rfl
        · cases H
    · cases H

def i_PointsNeeded_ir : S :=
 (.seq (.ops [⟨some 4, .box 12 (.t 0), none⟩, ⟨some 5, .box 3 (.t 1), none⟩, ⟨some 6, .box 3 (.t 2), none⟩, ⟨some 8, .mv (.v (.int .i64 0)), none⟩, ⟨some 9, .mv (.v (.bool false)), none⟩])
 (.seq (.seq (.ops [⟨some 10, .load 12 true (.t 4), none⟩, ⟨some 11, .load 3 true (.t 5), none⟩, ⟨some 12, .load 3 true (.t 6), none⟩, ⟨some 13, .call 82 [.t 10, .t 11, .t 12], none⟩, ⟨some 14, .not (.t 13), none⟩, ⟨some 15, .mv (.t 14), none⟩, ⟨some 16, .mv (.t 3), some (15, false)⟩, ⟨some 17, .call 127 [.t 16], some (15, false)⟩, ⟨some 18, .not (.t 17), some (15, false)⟩, ⟨some 19, .pick (.t 15) (.v (.bool true)) (.t 18), none⟩])
 (.ite (.t 19) (.seq (.ops [⟨some 8, .mv (.v (.int .i64 0)), none⟩, ⟨some 9, .mv (.v (.bool false)), none⟩])
  .ret)
 .skip))
 (.seq (.ops [⟨some 20, .load 12 true (.t 4), none⟩, ⟨some 21, .load 3 true (.t 5), none⟩, ⟨some 22, .load 3 true (.t 6), none⟩, ⟨some 23, .mv (.t 3), none⟩, ⟨some 24, .call 128 [.t 20, .t 21, .t 22, .t 23], none⟩, ⟨some 8, .mv (.t 24), none⟩, ⟨some 9, .mv (.v (.bool true)), none⟩])
 .ret)))
noncomputable def X.i_PointsNeeded (p0 : TBoard) (p1 : TState) (p2 : TConditions) (p3 : Int) : Option (Int × Bool) :=
  ((X.i_hasConditions p0 p1 p2).bind fun v7 => (bif (!v7) then some (0, false) else ((X.i_isSide p3).bind fun v10 => (bif (!v10) then some (0, false) else ((X.i_pointsNeeded p0 p1 p2 p3).bind fun v13 => some (v13, true))))))
theorem i_PointsNeeded_ok (p0 : TBoard) (p1 : TState) (p2 : TConditions) (p3 : Int) (r : (Int × Bool)) (H : X.i_PointsNeeded p0 p1 p2 p3 = some r) : FnOk Tryz.prog gl 58 [.agg (eTBoard p0), .agg (eTState p1), .agg (eTConditions p2), cI p3] (.tup [(false, [.int .i64 r.1]), (false, [.bool r.2])]) := by
  unfold X.i_PointsNeeded at H
  refine fn_in (fn := Tryz.f58) (ir := i_PointsNeeded_ir) (s1 := lit [(8, cI r.1), (9, cB r.2)] []) Tryz.func58 (by kernel_rfl) (by kernel_rfl) (by kernel_rfl) (by kernel_rfl) (by kernel_rfl) ?_
  refine seq_ops [] [] [(3, cI p3), (4, .c (.pk 4 0)), (5, .c (.pk 5 0)), (6, .c (.pk 6 0))] [(4, .var (eTBoard p0) false), (5, .var (eTState p1) false), (6, .var (eTConditions p2) false)] (fun t => t) (by kernel_rfl) ?_
  refine seq_in ?_
  obtain ⟨v7, h8, H⟩ := ofBind H
  rcases ofCond H with ⟨c9, H⟩ | ⟨c9, H⟩
  · refine seq_ops [.res (cB v7), .g true, .g true, .g true, .g true] [] [(3, cI p3), (4, .c (.pk 4 0)), (5, .c (.pk 5 0)), (6, .c (.pk 6 0)), (19, cB true)] [(4, .var (eTBoard p0) false), (5, .var (eTState p1) false), (6, .var (eTConditions p2) false)] (fun t => aI (i_hasConditions_ok p0 p1 p2 v7 h8) (aI c9 (aI c9 (aI c9 (aI c9 (t)))))) (by kernel_rfl) ?_
    refine ite_t (rfl : (true : Bool) = true) (by kernel_rfl) ?_
    refine seq_ops [] [] [(8, cI 0), (9, cB false)] [] (fun t => t) (by kernel_rfl) ?_
    refine ends_ret ?_
    obtain rfl := Option.some.inj H
    exact And.intro (.inl rfl) rfl
  · obtain ⟨v10, h11, H⟩ := ofBind H
    refine seq_ops [.res (cB v7), .g false, .g false, .res (cB v10), .g false, .g false] [] [(3, cI p3), (4, .c (.pk 4 0)), (5, .c (.pk 5 0)), (6, .c (.pk 6 0)), (19, cB (!v10))] [(4, .var (eTBoard p0) false), (5, .var (eTState p1) false), (6, .var (eTConditions p2) false)] (fun t => aI (i_hasConditions_ok p0 p1 p2 v7 h8) (aI c9 (aI c9 (aI (i_isSide_ok p3 v10 h11) (aI c9 (aI c9 (t))))))) (by kernel_rfl) ?_
    rcases ofCond H with ⟨c12, H⟩ | ⟨c12, H⟩
    · refine ite_t c12 (by kernel_rfl) ?_
      refine seq_ops [] [] [(8, cI 0), (9, cB false)] [] (fun t => t) (by kernel_rfl) ?_
      refine ends_ret ?_
      obtain rfl := Option.some.inj H
      exact And.intro (.inl rfl) rfl
    · refine ite_f c12 (by kernel_rfl) ?_
      refine ends_skip ?_
      change EndsI _ _ _ _ _ _
      obtain ⟨v13, h14, H⟩ := ofBind H
      refine seq_ops [.res (cI v13)] [] [(8, cI v13), (9, cB true)] [] (fun t => aI (i_pointsNeeded_ok p0 p1 p2 p3 v13 h14) (t)) (by kernel_rfl) ?_
      refine ends_ret ?_
      obtain rfl := Option.some.inj H
      exact And.intro (.inl rfl) rfl

def l_FnExactPointsNeeded_ir : S :=
 (.seq (.ops [⟨some 4, .box 12 (.t 0), none⟩, ⟨some 5, .box 3 (.t 1), none⟩, ⟨some 6, .box 3 (.t 2), none⟩, ⟨some 8, .mv (.v (.bool false)), none⟩])
 (.seq (.ops [⟨some 9, .mv (.v (.int .i64 1048576)), none⟩])
 (.seq (.ops [⟨some 17, .load 12 true (.t 4), none⟩, ⟨some 18, .mv (.t 9), none⟩, ⟨some 19, .call 15 [.t 17, .t 18], none⟩, ⟨some 9, .mv (.t 19), none⟩])
 (.seq (.seq (.ops [⟨some 20, .mv (.t 9), none⟩, ⟨some 21, .bin .lss (.t 20) (.v (.int .i64 0)), none⟩])
 (.ite (.t 21) (.seq (.ops [⟨some 8, .mv (.v (.bool true)), none⟩])
  .ret)
 .skip))
 (.seq (.ops [⟨some 22, .load 3 true (.t 5), none⟩, ⟨some 23, .mv (.t 9), none⟩, ⟨some 24, .call 23 [.t 22, .t 23], none⟩, ⟨some 9, .mv (.t 24), none⟩])
 (.seq (.seq (.ops [⟨some 25, .mv (.t 9), none⟩, ⟨some 26, .bin .lss (.t 25) (.v (.int .i64 0)), none⟩])
 (.ite (.t 26) (.seq (.ops [⟨some 8, .mv (.v (.bool true)), none⟩])
  .ret)
 .skip))
 (.seq (.ops [⟨some 27, .load 3 true (.t 6), none⟩, ⟨some 28, .mv (.t 9), none⟩, ⟨some 29, .call 24 [.t 27, .t 28], none⟩, ⟨some 9, .mv (.t 29), none⟩])
 (.seq (.seq (.ops [⟨some 30, .mv (.t 9), none⟩, ⟨some 31, .bin .lss (.t 30) (.v (.int .i64 0)), none⟩])
 (.ite (.t 31) (.seq (.ops [⟨some 8, .mv (.v (.bool true)), none⟩])
  .ret)
 .skip))
 (.seq (.draw 13 [⟨some 33, .load 12 true (.t 4), none⟩, ⟨some 34, .call 18 [.t 33], none⟩, ⟨some 35, .load 3 true (.t 5), none⟩, ⟨some 36, .call 26 [.t 35], none⟩, ⟨some 37, .load 3 true (.t 6), none⟩, ⟨some 38, .call 27 [.t 37], none⟩, ⟨some 39, .mv (.t 3), none⟩, ⟨some 40, .call 57 [.t 34, .t 36, .t 38, .t 39], none⟩, ⟨some 32, .mv (.t 40), none⟩, ⟨some 41, .ext (.t 32) 0, none⟩, ⟨some 42, .ext (.t 32) 1, none⟩, ⟨some 10, .mv (.t 41), none⟩, ⟨some 11, .mv (.t 42), none⟩])
 (.seq (.ops [⟨some 43, .load 12 true (.t 4), none⟩, ⟨some 44, .call 18 [.t 43], none⟩, ⟨some 12, .alloc [.nil, .nil, .int .i64 0, .int .i64 0, .int .i64 0, .int .i64 0, .int .i64 0, .int .i64 0, .int .i64 0, .nil, .nil, .nil], none⟩, ⟨none, .store 12 (.t 12) (.t 44), none⟩])
 (.seq (.ops [⟨some 45, .load 3 true (.t 5), none⟩, ⟨some 46, .call 26 [.t 45], none⟩, ⟨some 13, .alloc [.int .i64 0, .int .i64 0, .nil], none⟩, ⟨none, .store 3 (.t 13) (.t 46), none⟩])
 (.seq (.ops [⟨some 47, .load 3 true (.t 6), none⟩, ⟨some 48, .call 27 [.t 47], none⟩, ⟨some 14, .alloc [.nil, .int .i64 0, .int .i64 0], none⟩, ⟨none, .store 3 (.t 14) (.t 48), none⟩])
 (.seq (.ops [⟨some 50, .load 12 true (.t 12), none⟩, ⟨some 51, .load 3 true (.t 13), none⟩, ⟨some 52, .load 3 true (.t 14), none⟩, ⟨some 53, .mv (.t 3), none⟩, ⟨some 54, .call 58 [.t 50, .t 51, .t 52, .t 53], none⟩, ⟨some 49, .mv (.t 54), none⟩, ⟨some 55, .ext (.t 49) 0, none⟩, ⟨some 56, .ext (.t 49) 1, none⟩, ⟨some 15, .mv (.t 55), none⟩, ⟨some 16, .mv (.t 56), none⟩])
 (.seq (.seq (.ops [⟨some 57, .mv (.t 15), none⟩, ⟨some 58, .mv (.t 10), none⟩, ⟨some 59, .bin .neq (.t 57) (.t 58), none⟩, ⟨some 60, .mv (.t 59), none⟩, ⟨some 61, .mv (.t 16), some (60, false)⟩, ⟨some 62, .mv (.t 11), some (60, false)⟩, ⟨some 63, .bqe true (.t 61) (.t 62), some (60, false)⟩, ⟨some 64, .pick (.t 60) (.v (.bool true)) (.t 63), none⟩])
 (.ite (.t 64) (.seq (.ops [⟨some 8, .mv (.v (.bool false)), none⟩])
  .ret)
 .skip))
 (.seq (.seq (.draw 5 [⟨some 65, .load 12 true (.t 12), none⟩, ⟨some 66, .load 12 true (.t 4), none⟩, ⟨some 67, .call 18 [.t 66], none⟩, ⟨some 68, .call 21 [.t 65, .t 67], none⟩, ⟨some 69, .not (.t 68), none⟩])
 (.ite (.t 69) (.seq (.ops [⟨some 8, .mv (.v (.bool false)), none⟩])
  .ret)
 .skip))
 (.seq (.seq (.draw 5 [⟨some 70, .load 3 true (.t 13), none⟩, ⟨some 71, .load 3 true (.t 5), none⟩, ⟨some 72, .call 26 [.t 71], none⟩, ⟨some 73, .call 29 [.t 70, .t 72], none⟩, ⟨some 74, .not (.t 73), none⟩])
 (.ite (.t 74) (.seq (.ops [⟨some 8, .mv (.v (.bool false)), none⟩])
  .ret)
 .skip))
 (.seq (.seq (.draw 5 [⟨some 75, .load 3 true (.t 14), none⟩, ⟨some 76, .load 3 true (.t 6), none⟩, ⟨some 77, .call 27 [.t 76], none⟩, ⟨some 78, .call 30 [.t 75, .t 77], none⟩, ⟨some 79, .not (.t 78), none⟩])
 (.ite (.t 79) (.seq (.ops [⟨some 8, .mv (.v (.bool false)), none⟩])
  .ret)
 .skip))
 (.seq (.ops [⟨some 8, .mv (.v (.bool true)), none⟩])
 .ret))))))))))))))))))
noncomputable def X.l_FnExactPointsNeeded (p0 : TBoard) (p1 : TState) (p2 : TConditions) (p3 : Int) : Option Bool :=
  ((X.l_szBoard p0 1048576).bind fun v1 => (bif (decide (v1 < 0)) then some true else ((X.l_szState p1 v1).bind fun v5 => (bif (decide (v5 < 0)) then some true else ((X.l_szConditions p2 v5).bind fun v9 => (bif (decide (v9 < 0)) then some true else ((X.l_toBoard p0).bind fun v13 => ((X.l_toState p1).bind fun v15 => ((X.l_toConditions p2).bind fun v17 => ((X.s_PointsNeeded v13 v15 v17 p3).bind fun v19 => ((X.l_toBoard p0).bind fun v21 => ((X.l_toState p1).bind fun v23 => ((X.l_toConditions p2).bind fun v25 => ((X.i_PointsNeeded v21 v23 v25 p3).bind fun v27 => (bif (v27.1 != v19.1) then some false else (bif (!(v27.2 == v19.2)) then some false else ((X.l_toBoard p0).bind fun v38 => ((X.l_eqBoard v21 v38).bind fun v40 => (bif (!v40) then some false else ((X.l_toState p1).bind fun v48 => ((X.l_eqState v23 v48).bind fun v50 => (bif (!v50) then some false else ((X.l_toConditions p2).bind fun v53 => ((X.l_eqConditions v25 v53).bind fun v55 => (bif (!v55) then some false else some true)))))))))))))))))))))))))
theorem l_FnExactPointsNeeded_ok (p0 : TBoard) (p1 : TState) (p2 : TConditions) (p3 : Int) (r : Bool) (H : X.l_FnExactPointsNeeded p0 p1 p2 p3 = some r) : FnOk Tryz.prog gl 14 [.agg (eTBoard p0), .agg (eTState p1), .agg (eTConditions p2), cI p3] (cB r) := by
  unfold X.l_FnExactPointsNeeded at H
  refine fn_in (fn := Tryz.f14) (ir := l_FnExactPointsNeeded_ir) (s1 := lit [(8, cB r)] []) Tryz.func14 (by kernel_rfl) (by kernel_rfl) (by kernel_rfl) (by kernel_rfl) (by kernel_rfl) ?_
  refine seq_ops [] [] [(3, cI p3), (4, .c (.pk 4 0)), (5, .c (.pk 5 0)), (6, .c (.pk 6 0))] [(4, .var (eTBoard p0) false), (5, .var (eTState p1) false), (6, .var (eTConditions p2) false)] (fun t => t) (by kernel_rfl) ?_
  refine seq_ops [] [] [(3, cI p3), (4, .c (.pk 4 0)), (5, .c (.pk 5 0)), (6, .c (.pk 6 0)), (9, cI 1048576)] [(4, .var (eTBoard p0) false), (5, .var (eTState p1) false), (6, .var (eTConditions p2) false)] (fun t => t) (by kernel_rfl) ?_
  obtain ⟨v1, h2, H⟩ := ofBind H
  refine seq_ops [.res (cI v1)] [] [(3, cI p3), (4, .c (.pk 4 0)), (5, .c (.pk 5 0)), (6, .c (.pk 6 0)), (9, cI v1)] [(4, .var (eTBoard p0) false), (5, .var (eTState p1) false), (6, .var (eTConditions p2) false)] (fun t => aI (l_szBoard_ok p0 1048576 v1 h2) (t)) (by kernel_rfl) ?_
  refine seq_in ?_
  refine seq_ops [] [] [(3, cI p3), (4, .c (.pk 4 0)), (5, .c (.pk 5 0)), (6, .c (.pk 6 0)), (9, cI v1), (21, cB (decide (v1 < 0)))] [(4, .var (eTBoard p0) false), (5, .var (eTState p1) false), (6, .var (eTConditions p2) false)] (fun t => t) (by kernel_rfl) ?_
  rcases ofCond H with ⟨c4, H⟩ | ⟨c4, H⟩
  · refine ite_t c4 (by kernel_rfl) ?_
    refine seq_ops [] [] [(8, cB true)] [] (fun t => t) (by kernel_rfl) ?_
    refine ends_ret ?_
    obtain rfl := Option.some.inj H
    exact And.intro (.inl rfl) rfl
  · refine ite_f c4 (by kernel_rfl) ?_
    refine ends_skip ?_
    change EndsI _ _ _ _ _ _
    obtain ⟨v5, h6, H⟩ := ofBind H
    refine seq_ops [.res (cI v5)] [] [(3, cI p3), (4, .c (.pk 4 0)), (5, .c (.pk 5 0)), (6, .c (.pk 6 0)), (9, cI v5)] [(4, .var (eTBoard p0) false), (5, .var (eTState p1) false), (6, .var (eTConditions p2) false)] (fun t => aI (l_szState_ok p1 v1 v5 h6) (t)) (by kernel_rfl) ?_
    refine seq_in ?_
    refine seq_ops [] [] [(3, cI p3), (4, .c (.pk 4 0)), (5, .c (.pk 5 0)), (6, .c (.pk 6 0)), (9, cI v5), (26, cB (decide (v5 < 0)))] [(4, .var (eTBoard p0) false), (5, .var (eTState p1) false), (6, .var (eTConditions p2) false)] (fun t => t) (by kernel_rfl) ?_
    rcases ofCond H with ⟨c8, H⟩ | ⟨c8, H⟩
    · refine ite_t c8 (by kernel_rfl) ?_
      refine seq_ops [] [] [(8, cB true)] [] (fun t => t) (by kernel_rfl) ?_
      refine ends_ret ?_
      obtain rfl := Option.some.inj H
      exact And.intro (.inl rfl) rfl
    · refine ite_f c8 (by kernel_rfl) ?_
      refine ends_skip ?_
      change EndsI _ _ _ _ _ _
      obtain ⟨v9, h10, H⟩ := ofBind H
      refine seq_ops [.res (cI v9)] [] [(3, cI p3), (4, .c (.pk 4 0)), (5, .c (.pk 5 0)), (6, .c (.pk 6 0)), (9, cI v9)] [(4, .var (eTBoard p0) false), (5, .var (eTState p1) false), (6, .var (eTConditions p2) false)] (fun t => aI (l_szConditions_ok p2 v5 v9 h10) (t)) (by kernel_rfl) ?_
      refine seq_in ?_
      refine seq_ops [] [] [(3, cI p3), (4, .c (.pk 4 0)), (5, .c (.pk 5 0)), (6, .c (.pk 6 0)), (31, cB (decide (v9 < 0)))] [(4, .var (eTBoard p0) false), (5, .var (eTState p1) false), (6, .var (eTConditions p2) false)] (fun t => t) (by kernel_rfl) ?_
      rcases ofCond H with ⟨c12, H⟩ | ⟨c12, H⟩
      · refine ite_t c12 (by kernel_rfl) ?_
        refine seq_ops [] [] [(8, cB true)] [] (fun t => t) (by kernel_rfl) ?_
        refine ends_ret ?_
        obtain rfl := Option.some.inj H
        exact And.intro (.inl rfl) rfl
      · refine ite_f c12 (by kernel_rfl) ?_
        refine ends_skip ?_
        change EndsI _ _ _ _ _ _
        obtain ⟨v13, h14, H⟩ := ofBind H
        obtain ⟨v15, h16, H⟩ := ofBind H
        obtain ⟨v17, h18, H⟩ := ofBind H
        obtain ⟨v19, h20, H⟩ := ofBind H
        refine seq_draw [.res (.agg (eTBoard v13)), .res (.agg (eTState v15)), .res (.agg (eTConditions v17)), .res (.tup [(false, [.int .i64 v19.1]), (false, [.bool v19.2])])] [] [(3, cI p3), (4, .c (.pk 4 0)), (5, .c (.pk 5 0)), (6, .c (.pk 6 0)), (10, cI v19.1), (11, cB v19.2)] [(4, .var (eTBoard p0) false), (5, .var (eTState p1) false), (6, .var (eTConditions p2) false)] (fun t => aI (l_toBoard_ok p0 v13 h14) (aI (rfl : ([] : List Nat) = []) (aI (rfl : ([] : List Nat) = []) (aI (l_toState_ok p1 v15 h16) (aI (rfl : ([] : List Nat) = []) (aI (rfl : ([] : List Nat) = []) (aI (l_toConditions_ok p2 v17 h18) (aI (rfl : ([] : List Nat) = []) (aI (rfl : ([] : List Nat) = []) (aI (s_PointsNeeded_ok v13 v15 v17 p3 v19 h20) (aI trivial (aI (rfl : ([] : List Nat) = []) (t))))))))))))) (by kernel_rfl) ?_
        obtain ⟨v21, h22, H⟩ := ofBind H
        refine seq_ops [.res (.agg (eTBoard v21))] [] [(3, cI p3), (4, .c (.pk 4 0)), (5, .c (.pk 5 0)), (6, .c (.pk 6 0)), (10, cI v19.1), (11, cB v19.2), (12, .c (.pk 12 0))] [(4, .var (eTBoard p0) false), (5, .var (eTState p1) false), (6, .var (eTConditions p2) false), (12, .var (eTBoard v21) false)] (fun t => aI (l_toBoard_ok p0 v21 h22) (t)) (by kernel_rfl) ?_
        obtain ⟨v23, h24, H⟩ := ofBind H
        refine seq_ops [.res (.agg (eTState v23))] [] [(3, cI p3), (4, .c (.pk 4 0)), (5, .c (.pk 5 0)), (6, .c (.pk 6 0)), (10, cI v19.1), (11, cB v19.2), (12, .c (.pk 12 0)), (13, .c (.pk 13 0))] [(4, .var (eTBoard p0) false), (5, .var (eTState p1) false), (6, .var (eTConditions p2) false), (12, .var (eTBoard v21) false), (13, .var (eTState v23) false)] (fun t => aI (l_toState_ok p1 v23 h24) (t)) (by kernel_rfl) ?_
        obtain ⟨v25, h26, H⟩ := ofBind H
        refine seq_ops [.res (.agg (eTConditions v25))] [] [(3, cI p3), (4, .c (.pk 4 0)), (5, .c (.pk 5 0)), (6, .c (.pk 6 0)), (10, cI v19.1), (11, cB v19.2), (12, .c (.pk 12 0)), (13, .c (.pk 13 0)), (14, .c (.pk 14 0))] [(4, .var (eTBoard p0) false), (5, .var (eTState p1) false), (6, .var (eTConditions p2) false), (12, .var (eTBoard v21) false), (13, .var (eTState v23) false), (14, .var (eTConditions v25) false)] (fun t => aI (l_toConditions_ok p2 v25 h26) (t)) (by kernel_rfl) ?_
        obtain ⟨v27, h28, H⟩ := ofBind H
        refine seq_ops [.res (.tup [(false, [.int .i64 v27.1]), (false, [.bool v27.2])])] [] [(4, .c (.pk 4 0)), (5, .c (.pk 5 0)), (6, .c (.pk 6 0)), (10, cI v19.1), (11, cB v19.2), (12, .c (.pk 12 0)), (13, .c (.pk 13 0)), (14, .c (.pk 14 0)), (15, cI v27.1), (16, cB v27.2)] [(4, .var (eTBoard p0) false), (5, .var (eTState p1) false), (6, .var (eTConditions p2) false), (12, .var (eTBoard v21) false), (13, .var (eTState v23) false), (14, .var (eTConditions v25) false)] (fun t => aI (i_PointsNeeded_ok v21 v23 v25 p3 v27 h28) (t)) (by kernel_rfl) ?_
        refine seq_in ?_
        rcases ofCond H with ⟨c31, H⟩ | ⟨c31, H⟩
        · refine seq_ops [.g true, .g true, .g true, .g true] [] [(4, .c (.pk 4 0)), (5, .c (.pk 5 0)), (6, .c (.pk 6 0)), (12, .c (.pk 12 0)), (13, .c (.pk 13 0)), (14, .c (.pk 14 0)), (64, cB true)] [(4, .var (eTBoard p0) false), (5, .var (eTState p1) false), (6, .var (eTConditions p2) false), (12, .var (eTBoard v21) false), (13, .var (eTState v23) false), (14, .var (eTConditions v25) false)] (fun t => aI c31 (aI c31 (aI c31 (aI c31 (t))))) (by kernel_rfl) ?_
          refine ite_t (rfl : (true : Bool) = true) (by kernel_rfl) ?_
          refine seq_ops [] [] [(8, cB false)] [] (fun t => t) (by kernel_rfl) ?_
          refine ends_ret ?_
          obtain rfl := Option.some.inj H
          exact And.intro (.inl rfl) rfl
        · refine seq_ops [.g false, .g false, .g false, .g false] [] [(4, .c (.pk 4 0)), (5, .c (.pk 5 0)), (6, .c (.pk 6 0)), (12, .c (.pk 12 0)), (13, .c (.pk 13 0)), (14, .c (.pk 14 0)), (64, cB (!(v27.2 == v19.2)))] [(4, .var (eTBoard p0) false), (5, .var (eTState p1) false), (6, .var (eTConditions p2) false), (12, .var (eTBoard v21) false), (13, .var (eTState v23) false), (14, .var (eTConditions v25) false)] (fun t => aI c31 (aI c31 (aI c31 (aI c31 (t))))) (by kernel_rfl) ?_
          rcases ofCond H with ⟨c32, H⟩ | ⟨c32, H⟩
          · refine ite_t c32 (by kernel_rfl) ?_
            refine seq_ops [] [] [(8, cB false)] [] (fun t => t) (by kernel_rfl) ?_
            refine ends_ret ?_
            obtain rfl := Option.some.inj H
            exact And.intro (.inl rfl) rfl
          · refine ite_f c32 (by kernel_rfl) ?_
            refine ends_skip ?_
            change EndsI _ _ _ _ _ _
            refine seq_in ?_
            obtain ⟨v38, h39, H⟩ := ofBind H
            obtain ⟨v40, h41, H⟩ := ofBind H
            refine seq_draw [.res (.agg (eTBoard v38)), .res (cB v40)] [] [(5, .c (.pk 5 0)), (6, .c (.pk 6 0)), (13, .c (.pk 13 0)), (14, .c (.pk 14 0)), (69, cB (!v40))] [(5, .var (eTState p1) false), (6, .var (eTConditions p2) false), (13, .var (eTState v23) false), (14, .var (eTConditions v25) false)] (fun t => aI (l_toBoard_ok p0 v38 h39) (aI (rfl : ([] : List Nat) = []) (aI (rfl : ([] : List Nat) = []) (aI (l_eqBoard_ok v21 v38 v40 h41) (aI trivial (aI (rfl : ([] : List Nat) = []) (t))))))) (by kernel_rfl) ?_
            rcases ofCond H with ⟨c42, H⟩ | ⟨c42, H⟩
            · refine ite_t c42 (by kernel_rfl) ?_
              refine seq_ops [] [] [(8, cB false)] [] (fun t => t) (by kernel_rfl) ?_
              refine ends_ret ?_
              obtain rfl := Option.some.inj H
              exact And.intro (.inl rfl) rfl
            · refine ite_f c42 (by kernel_rfl) ?_
              refine ends_skip ?_
              change EndsI _ _ _ _ _ _
              refine seq_in ?_
              obtain ⟨v48, h49, H⟩ := ofBind H
              obtain ⟨v50, h51, H⟩ := ofBind H
              refine seq_draw [.res (.agg (eTState v48)), .res (cB v50)] [] [(6, .c (.pk 6 0)), (14, .c (.pk 14 0)), (74, cB (!v50))] [(6, .var (eTConditions p2) false), (14, .var (eTConditions v25) false)] (fun t => aI (l_toState_ok p1 v48 h49) (aI (rfl : ([] : List Nat) = []) (aI (rfl : ([] : List Nat) = []) (aI (l_eqState_ok v23 v48 v50 h51) (aI trivial (aI (rfl : ([] : List Nat) = []) (t))))))) (by kernel_rfl) ?_
              rcases ofCond H with ⟨c52, H⟩ | ⟨c52, H⟩
              · refine ite_t c52 (by kernel_rfl) ?_
                refine seq_ops [] [] [(8, cB false)] [] (fun t => t) (by kernel_rfl) ?_
                refine ends_ret ?_
                obtain rfl := Option.some.inj H
                exact And.intro (.inl rfl) rfl
              · refine ite_f c52 (by kernel_rfl) ?_
                refine ends_skip ?_
                change EndsI _ _ _ _ _ _
                refine seq_in ?_
                obtain ⟨v53, h54, H⟩ := ofBind H
                obtain ⟨v55, h56, H⟩ := ofBind H
                refine seq_draw [.res (.agg (eTConditions v53)), .res (cB v55)] [] [(79, cB (!v55))] [] (fun t => aI (l_toConditions_ok p2 v53 h54) (aI (rfl : ([] : List Nat) = []) (aI (rfl : ([] : List Nat) = []) (aI (l_eqConditions_ok v25 v53 v55 h56) (aI trivial (aI (rfl : ([] : List Nat) = []) (t))))))) (by kernel_rfl) ?_
                rcases ofCond H with ⟨c57, H⟩ | ⟨c57, H⟩
                · refine ite_t c57 (by kernel_rfl) ?_
                  refine seq_ops [] [] [(8, cB false)] [] (fun t => t) (by kernel_rfl) ?_
                  refine ends_ret ?_
                  obtain rfl := Option.some.inj H
                  exact And.intro (.inl rfl) rfl
                · refine ite_f c57 (by kernel_rfl) ?_
                  refine ends_skip ?_
                  change EndsI _ _ _ _ _ _
                  refine seq_ops [] [] [(8, cB true)] [] (fun t => t) (by kernel_rfl) ?_
                  refine ends_ret ?_
                  obtain rfl := Option.some.inj H
                  exact And.intro (.inl rfl) rfl

end Go.Proofs.YtihggbgmdlhlcaaGreatDoor.X0
