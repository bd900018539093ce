/- What each Go function that FnExactNextReaction reaches computes, and that it returns so; no condition. -/
import Derived.Test.YtfmeidhialmckaaGreatDoorNRWb
set_option linter.unusedVariables false
set_option linter.unusedSimpArgs false
set_option maxRecDepth 100000
namespace Go.Proofs.YtfmeidhialmckaaGreatDoor.X0
open Go Go.RowKit Go.Proofs.YtfmeidhialmckaaGreatDoor.Ab Go.Proofs

def i_terrainAt_ir : S :=
 (.seq (.ops [⟨some 2, .box 12 (.t 0), none⟩, ⟨some 4, .alloc [.str [], .nil, .int .i64 0, .int .i64 0, .bool false], none⟩])
 (.seq (.draw 11 [⟨some 5, .fad 0 (.t 2), none⟩, ⟨some 6, .fad 0 (.t 5), none⟩, ⟨some 7, .load 1 false (.t 6), none⟩, ⟨some 8, .fad 7 (.t 2), none⟩, ⟨some 9, .fad 2 (.t 8), none⟩, ⟨some 10, .load 1 false (.t 9), none⟩, ⟨some 11, .mv (.t 1), none⟩, ⟨some 12, .iad 1 (.t 10) (.t 11), none⟩, ⟨some 13, .load 1 false (.t 12), none⟩, ⟨some 14, .iad 5 (.t 7) (.t 13), none⟩, ⟨some 15, .load 5 true (.t 14), none⟩, ⟨none, .store 5 (.t 4) (.t 15), none⟩])
 .ret))
noncomputable def X.i_terrainAt (p0 : TBoard) (p1 : Int) : Option TTerrain :=
  ((at' zI p0.Map.Terrain p1).bind fun v1 => ((at' zTTerrain p0.Rules.Terrains v1).bind fun v3 => some v3))
theorem i_terrainAt_ok (p0 : TBoard) (p1 : Int) (r : TTerrain) (H : X.i_terrainAt p0 p1 = some r) : FnOk Tryz.prog gl 257 [.agg (eTBoard p0), cI p1] (.agg (eTTerrain r)) := by
  unfold X.i_terrainAt at H
  refine fn_in (fn := Tryz.f257) (ir := i_terrainAt_ir) (s1 := lit [(4, .c (.pk 4 0))] [(4, .var (eTTerrain r) false)]) Tryz.func257 (by kernel_rfl) (by kernel_rfl) (by kernel_rfl) (by kernel_rfl) (by kernel_rfl) ?_
  refine seq_ops [] [] [(1, cI p1), (2, .c (.pk 2 0)), (4, .c (.pk 4 0))] [(2, .var (eTBoard p0) false), (4, .var [.str [], .nil, .int .i64 0, .int .i64 0, .bool false] false)] (fun t => t) (by kernel_rfl) ?_
  obtain ⟨v1, h2, H⟩ := ofBind H
  obtain ⟨v3, h4, H⟩ := ofBind H
  refine seq_draw [.cs (eI v1), .cs (eTTerrain v3)] [] [(4, .c (.pk 4 0))] [(4, .var (eTTerrain v3) false)] (fun t => aI (at_lt h2) (aI (at_enc (enc := eI) h2) (aI (rfl : ([] : List Nat) = []) (aI (at_lt h4) (aI (at_enc (enc := eTTerrain) h4) (aI (rfl : ([] : List Nat) = []) (t))))))) (by kernel_rfl) ?_
  refine ends_ret ?_
  obtain rfl := Option.some.inj H
  exact And.intro (.inl rfl) rfl

def i_enterCost_ir : S :=
 (.seq (.ops [⟨some 3, .box 12 (.t 0), none⟩, ⟨some 6, .mv (.v (.int .i64 0)), none⟩])
 (.seq (.ops [⟨some 7, .load 12 true (.t 3), none⟩, ⟨some 8, .mv (.t 2), none⟩, ⟨some 9, .call 257 [.t 7, .t 8], none⟩, ⟨some 10, .fld 1 1 false (.t 9), none⟩, ⟨some 11, .mv (.t 1), none⟩, ⟨some 12, .iad 1 (.t 10) (.t 11), none⟩, ⟨some 13, .load 1 false (.t 12), none⟩, ⟨some 6, .mv (.t 13), none⟩])
 .ret))
noncomputable def X.i_enterCost (p0 : TBoard) (p1 : Int) (p2 : Int) : Option Int :=
  ((X.i_terrainAt p0 p2).bind fun v1 => ((at' zI v1.Cost p1).bind fun v3 => some v3))
theorem i_enterCost_ok (p0 : TBoard) (p1 : Int) (p2 : Int) (r : Int) (H : X.i_enterCost p0 p1 p2 = some r) : FnOk Tryz.prog gl 219 [.agg (eTBoard p0), cI p1, cI p2] (cI r) := by
  unfold X.i_enterCost at H
  refine fn_in (fn := Tryz.f219) (ir := i_enterCost_ir) (s1 := lit [(6, cI r)] []) Tryz.func219 (by kernel_rfl) (by kernel_rfl) (by kernel_rfl) (by kernel_rfl) (by kernel_rfl) ?_
  refine seq_ops [] [] [(1, cI p1), (2, cI p2), (3, .c (.pk 3 0))] [(3, .var (eTBoard p0) false)] (fun t => t) (by kernel_rfl) ?_
  obtain ⟨v1, h2, H⟩ := ofBind H
  obtain ⟨v3, h4, H⟩ := ofBind H
  refine seq_ops [.res (.agg (eTTerrain v1)), .cs (eI v3)] [] [(6, cI v3)] [] (fun t => aI (i_terrainAt_ok p0 p2 v1 h2) (aI (at_lt h4) (aI (at_enc (enc := eI) h4) (t)))) (by kernel_rfl) ?_
  refine ends_ret ?_
  obtain rfl := Option.some.inj H
  exact And.intro (.inl rfl) rfl

def i_goodUnit_ir : S :=
 (.seq (.ops [⟨some 2, .box 12 (.t 0), none⟩, ⟨some 3, .box 4 (.t 1), none⟩, ⟨some 4, .mv (.v (.bool false)), none⟩])
 (.seq (.seq (.draw 28 [⟨some 5, .fad 0 (.t 3), none⟩, ⟨some 6, .load 1 false (.t 5), none⟩, ⟨some 7, .call 113 [.t 6], none⟩, ⟨some 8, .not (.t 7), none⟩, ⟨some 9, .mv (.t 8), none⟩, ⟨some 10, .fad 1 (.t 3), some (9, false)⟩, ⟨some 11, .load 1 false (.t 10), some (9, false)⟩, ⟨some 12, .fad 0 (.t 2), some (9, false)⟩, ⟨some 13, .fad 1 (.t 12), some (9, false)⟩, ⟨some 14, .load 1 false (.t 13), some (9, false)⟩, ⟨some 15, .len (.t 14), some (9, false)⟩, ⟨some 16, .call 82 [.t 11, .t 15], some (9, false)⟩, ⟨some 17, .not (.t 16), some (9, false)⟩, ⟨some 18, .pick (.t 9) (.v (.bool true)) (.t 17), none⟩, ⟨some 19, .mv (.t 18), none⟩, ⟨some 20, .fad 3 (.t 3), some (19, false)⟩, ⟨some 21, .load 1 false (.t 20), some (19, false)⟩, ⟨some 22, .fad 0 (.t 2), some (19, false)⟩, ⟨some 23, .fad 1 (.t 22), some (19, false)⟩, ⟨some 24, .load 1 false (.t 23), some (19, false)⟩, ⟨some 25, .fad 1 (.t 3), some (19, false)⟩, ⟨some 26, .load 1 false (.t 25), some (19, false)⟩, ⟨some 27, .iad 6 (.t 24) (.t 26), some (19, false)⟩, ⟨some 28, .fad 3 (.t 27), some (19, false)⟩, ⟨some 29, .load 1 false (.t 28), some (19, false)⟩, ⟨some 30, .call 130 [.t 21, .v (.int .i64 0), .t 29], some (19, false)⟩, ⟨some 31, .not (.t 30), some (19, false)⟩, ⟨some 32, .pick (.t 19) (.v (.bool true)) (.t 31), none⟩])
 (.ite (.t 32) (.seq (.ops [⟨some 4, .mv (.v (.bool false)), none⟩])
  .ret)
 .skip))
 (.seq (.seq (.ops [⟨some 33, .fad 2 (.t 3), none⟩, ⟨some 34, .load 1 false (.t 33), none⟩, ⟨some 35, .bin .eql (.t 34) (.v (.int .i64 (-1))), none⟩])
 (.ite (.t 35) (.seq (.ops [⟨some 4, .mv (.v (.bool true)), none⟩])
  .ret)
 .skip))
 (.seq (.draw 20 [⟨some 36, .fad 3 (.t 3), none⟩, ⟨some 37, .load 1 false (.t 36), none⟩, ⟨some 38, .bin .gtr (.t 37) (.v (.int .i64 0)), none⟩, ⟨some 39, .mv (.t 38), none⟩, ⟨some 40, .fad 2 (.t 3), some (39, true)⟩, ⟨some 41, .load 1 false (.t 40), some (39, true)⟩, ⟨some 42, .load 12 true (.t 2), some (39, true)⟩, ⟨some 43, .call 83 [.t 42], some (39, true)⟩, ⟨some 44, .call 82 [.t 41, .t 43], some (39, true)⟩, ⟨some 45, .pick (.t 39) (.t 44) (.v (.bool false)), none⟩, ⟨some 46, .mv (.t 45), none⟩, ⟨some 47, .load 12 true (.t 2), some (46, true)⟩, ⟨some 48, .fad 1 (.t 3), some (46, true)⟩, ⟨some 49, .load 1 false (.t 48), some (46, true)⟩, ⟨some 50, .fad 2 (.t 3), some (46, true)⟩, ⟨some 51, .load 1 false (.t 50), some (46, true)⟩, ⟨some 52, .call 219 [.t 47, .t 49, .t 51], some (46, true)⟩, ⟨some 53, .bin .neq (.t 52) (.v (.int .i64 0)), some (46, true)⟩, ⟨some 54, .pick (.t 46) (.t 53) (.v (.bool false)), none⟩, ⟨some 4, .mv (.t 54), none⟩])
 .ret))))
noncomputable def X.i_goodUnit (p0 : TBoard) (p1 : TUnit) : Option Bool :=
  ((X.i_isSide p1.Side).bind fun v12 => (bif (!v12) then some false else ((X.i_isIndex p1.Kind (p0.Rules.Kinds.length : Int)).bind fun v15 => (bif (!v15) then some false else ((at' zTKind p0.Rules.Kinds p1.Kind).bind fun v18 => ((X.i_inRange p1.Steps 0 v18.Steps).bind fun v20 => (bif (!v20) then some false else (bif (p1.At == (-1)) then some true else (bif (decide (p1.Steps > 0)) then ((X.i_sizeOf p0).bind fun v26 => ((X.i_isIndex p1.At v26).bind fun v28 => (bif v28 then ((X.i_enterCost p0 p1.Kind p1.At).bind fun v31 => some (v31 != 0)) else some false))) else some false)))))))))
theorem i_goodUnit_ok (p0 : TBoard) (p1 : TUnit) (r : Bool) (H : X.i_goodUnit p0 p1 = some r) : FnOk Tryz.prog gl 161 [.agg (eTBoard p0), .agg (eTUnit p1)] (cB r) := by
  unfold X.i_goodUnit at H
  refine fn_in (fn := Tryz.f161) (ir := i_goodUnit_ir) (s1 := lit [(4, cB r)] []) Tryz.func161 (by kernel_rfl) (by kernel_rfl) (by kernel_rfl) (by kernel_rfl) (by kernel_rfl) ?_
  refine seq_ops [] [] [(2, .c (.pk 2 0)), (3, .c (.pk 3 0))] [(2, .var (eTBoard p0) false), (3, .var (eTUnit p1) false)] (fun t => t) (by kernel_rfl) ?_
  refine seq_in ?_
  obtain ⟨v12, h13, H⟩ := ofBind H
  rcases ofCond H with ⟨c14, H⟩ | ⟨c14, H⟩
  · refine seq_draw [.res (cB v12), .g true, .g true, .g true, .g true, .g true, .g true, .g true, .g true, .g true, .g true, .g true, .g true, .g true, .g true, .g true, .g true, .g true, .g true, .g true, .g true, .g true, .g true] [] [(2, .c (.pk 2 0)), (3, .c (.pk 3 0)), (32, cB true)] [(2, .var (eTBoard p0) false), (3, .var (eTUnit p1) false)] (fun t => aI (i_isSide_ok p1.Side v12 h13) (aI trivial (aI (rfl : ([] : List Nat) = []) (aI c14 (aI c14 (aI c14 (aI c14 (aI c14 (aI c14 (aI c14 (aI c14 (aI c14 (aI (rfl : (true : Bool) = true) (aI (rfl : (true : Bool) = true) (aI (rfl : (true : Bool) = true) (aI (rfl : (true : Bool) = true) (aI (rfl : (true : Bool) = true) (aI (rfl : (true : Bool) = true) (aI (rfl : (true : Bool) = true) (aI (rfl : (true : Bool) = true) (aI (rfl : (true : Bool) = true) (aI (rfl : (true : Bool) = true) (aI (rfl : (true : Bool) = true) (aI (rfl : (true : Bool) = true) (aI (rfl : (true : Bool) = true) (t)))))))))))))))))))))))))) (by kernel_rfl) ?_
    refine ite_t (rfl : (true : Bool) = true) (by kernel_rfl) ?_
    refine seq_ops [] [] [(4, cB false)] [] (fun t => t) (by kernel_rfl) ?_
    refine ends_ret ?_
    obtain rfl := Option.some.inj H
    exact And.intro (.inl rfl) rfl
  · obtain ⟨v15, h16, H⟩ := ofBind H
    rcases ofCond H with ⟨c17, H⟩ | ⟨c17, H⟩
    · refine seq_draw [.res (cB v12), .g false, .g false, .g false, .g false, .g false, .g false, .g false, .res (cB v15), .g false, .g false, .g true, .g true, .g true, .g true, .g true, .g true, .g true, .g true, .g true, .g true, .g true, .g true, .g true] [] [(2, .c (.pk 2 0)), (3, .c (.pk 3 0)), (32, cB true)] [(2, .var (eTBoard p0) false), (3, .var (eTUnit p1) false)] (fun t => aI (i_isSide_ok p1.Side v12 h13) (aI trivial (aI (rfl : ([] : List Nat) = []) (aI c14 (aI c14 (aI c14 (aI c14 (aI c14 (aI c14 (aI c14 (aI (i_isIndex_ok p1.Kind (p0.Rules.Kinds.length : Int) v15 h16) (aI trivial (aI (rfl : ([] : List Nat) = []) (aI c14 (aI c14 (aI c17 (aI c17 (aI c17 (aI c17 (aI c17 (aI c17 (aI c17 (aI c17 (aI c17 (aI c17 (aI c17 (aI c17 (aI c17 (t))))))))))))))))))))))))))))) (by kernel_rfl) ?_
      refine ite_t (rfl : (true : Bool) = true) (by kernel_rfl) ?_
      refine seq_ops [] [] [(4, cB false)] [] (fun t => t) (by kernel_rfl) ?_
      refine ends_ret ?_
      obtain rfl := Option.some.inj H
      exact And.intro (.inl rfl) rfl
    · obtain ⟨v18, h19, H⟩ := ofBind H
      obtain ⟨v20, h21, H⟩ := ofBind H
      refine seq_draw [.res (cB v12), .g false, .g false, .g false, .g false, .g false, .g false, .g false, .res (cB v15), .g false, .g false, .g false, .g false, .g false, .g false, .g false, .g false, .g false, .g false, .cs (eTKind v18), .g false, .g false, .g false, .res (cB v20), .g false, .g false] [] [(2, .c (.pk 2 0)), (3, .c (.pk 3 0)), (32, cB (!v20))] [(2, .var (eTBoard p0) false), (3, .var (eTUnit p1) false)] (fun t => aI (i_isSide_ok p1.Side v12 h13) (aI trivial (aI (rfl : ([] : List Nat) = []) (aI c14 (aI c14 (aI c14 (aI c14 (aI c14 (aI c14 (aI c14 (aI (i_isIndex_ok p1.Kind (p0.Rules.Kinds.length : Int) v15 h16) (aI trivial (aI (rfl : ([] : List Nat) = []) (aI c14 (aI c14 (aI c17 (aI c17 (aI c17 (aI c17 (aI c17 (aI c17 (aI c17 (aI c17 (aI (at_lt h19) (aI (at_enc (enc := eTKind) h19) (aI c17 (aI c17 (aI (rfl : ([] : List Nat) = []) (aI c17 (aI (i_inRange_ok p1.Steps 0 v18.Steps v20 h21) (aI trivial (aI (rfl : ([] : List Nat) = []) (aI c17 (aI c17 (t))))))))))))))))))))))))))))))))))) (by kernel_rfl) ?_
      rcases ofCond H with ⟨c22, H⟩ | ⟨c22, H⟩
      · refine ite_t c22 (by kernel_rfl) ?_
        refine seq_ops [] [] [(4, cB false)] [] (fun t => t) (by kernel_rfl) ?_
        refine ends_ret ?_
        obtain rfl := Option.some.inj H
        exact And.intro (.inl rfl) rfl
      · refine ite_f c22 (by kernel_rfl) ?_
        refine ends_skip ?_
        change EndsI _ _ _ _ _ _
        refine seq_in ?_
        refine seq_ops [] [] [(2, .c (.pk 2 0)), (3, .c (.pk 3 0)), (35, cB (p1.At == (-1)))] [(2, .var (eTBoard p0) false), (3, .var (eTUnit p1) false)] (fun t => t) (by kernel_rfl) ?_
        rcases ofCond H with ⟨c24, H⟩ | ⟨c24, H⟩
        · refine ite_t c24 (by kernel_rfl) ?_
          refine seq_ops [] [] [(4, cB true)] [] (fun t => t) (by kernel_rfl) ?_
          refine ends_ret ?_
          obtain rfl := Option.some.inj H
          exact And.intro (.inl rfl) rfl
        · refine ite_f c24 (by kernel_rfl) ?_
          refine ends_skip ?_
          change EndsI _ _ _ _ _ _
          rcases ofCond H with ⟨c25, H⟩ | ⟨c25, H⟩
          · obtain ⟨v26, h27, H⟩ := ofBind H
            obtain ⟨v28, h29, H⟩ := ofBind H
            rcases ofCond H with ⟨c30, H⟩ | ⟨c30, H⟩
            · obtain ⟨v31, h32, H⟩ := ofBind H
              refine seq_draw [.g true, .g true, .g true, .g true, .res (cI v26), .g true, .res (cB v28), .g true, .g true, .g true, .g true, .g true, .g true, .g true, .res (cI v31), .g true, .g true] [] [(4, cB (v31 != 0))] [] (fun t => aI c25 (aI c25 (aI c25 (aI c25 (aI (i_sizeOf_ok p0 v26 h27) (aI trivial (aI (rfl : ([] : List Nat) = []) (aI c25 (aI (i_isIndex_ok p1.At v26 v28 h29) (aI trivial (aI (rfl : ([] : List Nat) = []) (aI c25 (aI c30 (aI c30 (aI c30 (aI c30 (aI c30 (aI c30 (aI (i_enterCost_ok p0 p1.Kind p1.At v31 h32) (aI trivial (aI (rfl : ([] : List Nat) = []) (aI c30 (aI c30 (t)))))))))))))))))))))))) (by kernel_rfl) ?_
              refine ends_ret ?_
              obtain rfl := Option.some.inj H
              exact And.intro (.inl rfl) rfl
            · refine seq_draw [.g true, .g true, .g true, .g true, .res (cI v26), .g true, .res (cB v28), .g true, .g false, .g false, .g false, .g false, .g false, .g false, .g false, .g false] [] [(4, cB false)] [] (fun t => aI c25 (aI c25 (aI c25 (aI c25 (aI (i_sizeOf_ok p0 v26 h27) (aI trivial (aI (rfl : ([] : List Nat) = []) (aI c25 (aI (i_isIndex_ok p1.At v26 v28 h29) (aI trivial (aI (rfl : ([] : List Nat) = []) (aI c25 (aI c30 (aI c30 (aI c30 (aI c30 (aI c30 (aI c30 (aI c30 (aI c30 (t))))))))))))))))))))) (by kernel_rfl) ?_
              refine ends_ret ?_
              obtain rfl := Option.some.inj H
              exact And.intro (.inl rfl) rfl
          · refine seq_draw [.g false, .g false, .g false, .g false, .g false, .g false, .g false, .g false, .g false, .g false, .g false, .g false, .g false, .g false] [] [(4, cB false)] [] (fun t => aI c25 (aI c25 (aI c25 (aI c25 (aI c25 (aI c25 (aI (rfl : (false : Bool) = false) (aI (rfl : (false : Bool) = false) (aI (rfl : (false : Bool) = false) (aI (rfl : (false : Bool) = false) (aI (rfl : (false : Bool) = false) (aI (rfl : (false : Bool) = false) (aI (rfl : (false : Bool) = false) (aI (rfl : (false : Bool) = false) (t))))))))))))))) (by kernel_rfl) ?_
            refine ends_ret ?_
            obtain rfl := Option.some.inj H
            exact And.intro (.inl rfl) rfl

def i_goodState_ir : S :=
 (.seq (.ops [⟨some 2, .box 12 (.t 0), none⟩, ⟨some 3, .box 3 (.t 1), none⟩, ⟨some 4, .mv (.v (.bool false)), none⟩])
 (.seq (.seq (.ops [⟨some 8, .fad 0 (.t 3), none⟩, ⟨some 9, .load 1 false (.t 8), none⟩, ⟨some 10, .fad 0 (.t 2), none⟩, ⟨some 11, .fad 6 (.t 10), none⟩, ⟨some 12, .load 1 false (.t 11), none⟩, ⟨some 13, .call 130 [.t 9, .v (.int .i64 0), .t 12], none⟩, ⟨some 14, .not (.t 13), none⟩, ⟨some 15, .mv (.t 14), none⟩, ⟨some 16, .fad 1 (.t 3), some (15, false)⟩, ⟨some 17, .load 1 false (.t 16), some (15, false)⟩, ⟨some 18, .call 130 [.t 17, .v (.int .i64 0), .v (.int .i64 2)], some (15, false)⟩, ⟨some 19, .not (.t 18), some (15, false)⟩, ⟨some 20, .pick (.t 15) (.v (.bool true)) (.t 19), none⟩, ⟨some 21, .mv (.t 20), none⟩, ⟨some 22, .fad 2 (.t 3), some (21, false)⟩, ⟨some 23, .load 1 false (.t 22), some (21, false)⟩, ⟨some 24, .len (.t 23), some (21, false)⟩, ⟨some 25, .bin .gtr (.t 24) (.v (.int .i64 12)), some (21, false)⟩, ⟨some 26, .pick (.t 21) (.v (.bool true)) (.t 25), none⟩])
 (.ite (.t 26) (.seq (.ops [⟨some 4, .mv (.v (.bool false)), none⟩])
  .ret)
 .skip))
 (.seq (.ops [⟨some 27, .load 12 true (.t 2), none⟩, ⟨some 28, .call 83 [.t 27], none⟩, ⟨some 29, .msl 2 16 [.int .i64 0, .int .i64 0] (.t 28), none⟩, ⟨some 5, .mv (.t 29), none⟩])
 (.seq (.seq (.ops [⟨some 30, .fad 2 (.t 3), none⟩, ⟨some 31, .load 1 false (.t 30), none⟩, ⟨some 32, .len (.t 31), none⟩, ⟨some 33, .mv (.v (.int .i64 0)), none⟩])
 (.blk 0 (.loop (.seq (.ops [⟨some 34, .bin .lss (.t 33) (.t 32), none⟩])
   (.seq (.ite (.t 34) .skip
   (.exit 0))
   (.seq (.blk 1 (.seq (.ops [⟨some 35, .iad 4 (.t 31) (.t 33), none⟩, ⟨some 36, .load 4 true (.t 35), none⟩, ⟨some 7, .alloc [.int .i64 0, .int .i64 0, .int .i64 0, .int .i64 0], none⟩, ⟨none, .store 4 (.t 7) (.t 36), none⟩])
    (.seq (.seq (.ops [⟨some 37, .load 12 true (.t 2), none⟩, ⟨some 38, .load 4 true (.t 7), none⟩, ⟨some 39, .call 161 [.t 37, .t 38], none⟩, ⟨some 40, .not (.t 39), none⟩])
    (.ite (.t 40) (.seq (.ops [⟨some 4, .mv (.v (.bool false)), none⟩])
     .ret)
    .skip))
    (.seq (.seq (.ops [⟨some 41, .fad 2 (.t 7), none⟩, ⟨some 42, .load 1 false (.t 41), none⟩, ⟨some 43, .bin .lss (.t 42) (.v (.int .i64 0)), none⟩])
    (.ite (.t 43) (.exit 1)
    .skip))
    (.seq (.draw 11 [⟨some 44, .mv (.t 5), none⟩, ⟨some 45, .fad 2 (.t 7), none⟩, ⟨some 46, .load 1 false (.t 45), none⟩, ⟨some 47, .fad 0 (.t 7), none⟩, ⟨some 48, .load 1 false (.t 47), none⟩, ⟨some 49, .iad 2 (.t 44) (.t 46), none⟩, ⟨some 50, .iar 2 1 (.t 49) (.t 48), none⟩, ⟨some 51, .load 1 false (.t 50), none⟩, ⟨some 52, .bin .add (.t 51) (.v (.int .i64 1)), none⟩, ⟨some 53, .iad 2 (.t 44) (.t 46), none⟩, ⟨some 54, .iar 2 1 (.t 53) (.t 48), none⟩, ⟨none, .store 1 (.t 54) (.t 52), none⟩])
    (.seq (.draw 24 [⟨some 55, .mv (.t 5), none⟩, ⟨some 56, .fad 2 (.t 7), none⟩, ⟨some 57, .load 1 false (.t 56), none⟩, ⟨some 58, .fad 0 (.t 7), none⟩, ⟨some 59, .load 1 false (.t 58), none⟩, ⟨some 60, .bin .sub (.v (.int .i64 1)) (.t 59), none⟩, ⟨some 61, .iad 2 (.t 55) (.t 57), none⟩, ⟨some 62, .iar 2 1 (.t 61) (.t 60), none⟩, ⟨some 63, .load 1 false (.t 62), none⟩, ⟨some 64, .bin .gtr (.t 63) (.v (.int .i64 0)), none⟩, ⟨some 65, .mv (.t 64), none⟩, ⟨some 66, .mv (.t 5), some (65, false)⟩, ⟨some 67, .fad 2 (.t 7), some (65, false)⟩, ⟨some 68, .load 1 false (.t 67), some (65, false)⟩, ⟨some 69, .fad 0 (.t 7), some (65, false)⟩, ⟨some 70, .load 1 false (.t 69), some (65, false)⟩, ⟨some 71, .iad 2 (.t 66) (.t 68), some (65, false)⟩, ⟨some 72, .iar 2 1 (.t 71) (.t 70), some (65, false)⟩, ⟨some 73, .load 1 false (.t 72), some (65, false)⟩, ⟨some 74, .fad 0 (.t 2), some (65, false)⟩, ⟨some 75, .fad 2 (.t 74), some (65, false)⟩, ⟨some 76, .load 1 false (.t 75), some (65, false)⟩, ⟨some 77, .bin .gtr (.t 73) (.t 76), some (65, false)⟩, ⟨some 78, .pick (.t 65) (.v (.bool true)) (.t 77), none⟩])
    (.ite (.t 78) (.seq (.ops [⟨some 4, .mv (.v (.bool false)), none⟩])
     .ret)
    .skip)))))))
   (.ops [⟨some 79, .bin .add (.t 33) (.v (.int .i64 1)), none⟩, ⟨some 33, .mv (.t 79), none⟩])))))))
 (.seq (.ops [⟨some 4, .mv (.v (.bool true)), none⟩])
 .ret)))))
noncomputable def X.i_goodState (p0 : TBoard) (p1 : TState) : Option Bool :=
  ((X.i_inRange p1.Turn 0 p0.Rules.Turns).bind fun v8 => (bif (!v8) then some false else ((X.i_inRange p1.Weather 0 2).bind fun v11 => (bif (!v11) then some false else (bif (decide ((p1.Units.length : Int) > 12)) then some false else ((X.i_sizeOf p0).bind fun v15 => (if 0 ≤ v15 ∧ v15.toNat ≤ LIM then ((loop (fun (x85 : (Int × (List A2_I))) => ((bif (decide (x85.1 < (p1.Units.length : Int))) then ((at' zTUnit p1.Units x85.1).bind fun v88 => ((X.i_goodUnit p0 v88).bind fun v93 => (bif (!v93) then some (Sum.inr (Sum.inr false)) else (bif (decide (v88.At < 0)) then some (Sum.inl ((W (x85.1 + 1)), x85.2)) else (if 0 ≤ v88.At ∧ v88.At < (x85.2.length : Int) then (if v88.Side = ((0 : Nat) : Int) then (if (W (1 - v88.Side)) = ((0 : Nat) : Int) then (bif (decide (((x85.2.set v88.At.toNat (A2_I.mk (W ((x85.2.getD v88.At.toNat zA2_I).a0 + 1)) ((x85.2.getD v88.At.toNat zA2_I).a1))).getD v88.At.toNat zA2_I).a0 > 0)) then some (Sum.inr (Sum.inr false)) else (bif (decide (((x85.2.set v88.At.toNat (A2_I.mk (W ((x85.2.getD v88.At.toNat zA2_I).a0 + 1)) ((x85.2.getD v88.At.toNat zA2_I).a1))).getD v88.At.toNat zA2_I).a0 > p0.Rules.Stack)) then some (Sum.inr (Sum.inr false)) else some (Sum.inl ((W (x85.1 + 1)), (x85.2.set v88.At.toNat (A2_I.mk (W ((x85.2.getD v88.At.toNat zA2_I).a0 + 1)) ((x85.2.getD v88.At.toNat zA2_I).a1))))))) else (if (W (1 - v88.Side)) = ((1 : Nat) : Int) then (bif (decide (((x85.2.set v88.At.toNat (A2_I.mk (W ((x85.2.getD v88.At.toNat zA2_I).a0 + 1)) ((x85.2.getD v88.At.toNat zA2_I).a1))).getD v88.At.toNat zA2_I).a1 > 0)) then some (Sum.inr (Sum.inr false)) else (bif (decide (((x85.2.set v88.At.toNat (A2_I.mk (W ((x85.2.getD v88.At.toNat zA2_I).a0 + 1)) ((x85.2.getD v88.At.toNat zA2_I).a1))).getD v88.At.toNat zA2_I).a0 > p0.Rules.Stack)) then some (Sum.inr (Sum.inr false)) else some (Sum.inl ((W (x85.1 + 1)), (x85.2.set v88.At.toNat (A2_I.mk (W ((x85.2.getD v88.At.toNat zA2_I).a0 + 1)) ((x85.2.getD v88.At.toNat zA2_I).a1))))))) else none)) else (if v88.Side = ((1 : Nat) : Int) then (if (W (1 - v88.Side)) = ((0 : Nat) : Int) then (bif (decide (((x85.2.set v88.At.toNat (A2_I.mk ((x85.2.getD v88.At.toNat zA2_I).a0) (W ((x85.2.getD v88.At.toNat zA2_I).a1 + 1)))).getD v88.At.toNat zA2_I).a0 > 0)) then some (Sum.inr (Sum.inr false)) else (bif (decide (((x85.2.set v88.At.toNat (A2_I.mk ((x85.2.getD v88.At.toNat zA2_I).a0) (W ((x85.2.getD v88.At.toNat zA2_I).a1 + 1)))).getD v88.At.toNat zA2_I).a1 > p0.Rules.Stack)) then some (Sum.inr (Sum.inr false)) else some (Sum.inl ((W (x85.1 + 1)), (x85.2.set v88.At.toNat (A2_I.mk ((x85.2.getD v88.At.toNat zA2_I).a0) (W ((x85.2.getD v88.At.toNat zA2_I).a1 + 1)))))))) else (if (W (1 - v88.Side)) = ((1 : Nat) : Int) then (bif (decide (((x85.2.set v88.At.toNat (A2_I.mk ((x85.2.getD v88.At.toNat zA2_I).a0) (W ((x85.2.getD v88.At.toNat zA2_I).a1 + 1)))).getD v88.At.toNat zA2_I).a1 > 0)) then some (Sum.inr (Sum.inr false)) else (bif (decide (((x85.2.set v88.At.toNat (A2_I.mk ((x85.2.getD v88.At.toNat zA2_I).a0) (W ((x85.2.getD v88.At.toNat zA2_I).a1 + 1)))).getD v88.At.toNat zA2_I).a1 > p0.Rules.Stack)) then some (Sum.inr (Sum.inr false)) else some (Sum.inl ((W (x85.1 + 1)), (x85.2.set v88.At.toNat (A2_I.mk ((x85.2.getD v88.At.toNat zA2_I).a0) (W ((x85.2.getD v88.At.toNat zA2_I).a1 + 1)))))))) else none)) else none)) else none))))) else some (Sum.inr (Sum.inl ()))) : Option ((Int × (List A2_I)) ⊕ (Unit ⊕ Bool)))) (0, (List.replicate v15.toNat zA2_I))).bind fun y119 => (Sum.elim (fun (y121 : Unit) => some true) (fun (y122 : Bool) => some y122) y119)) else none)))))))
theorem i_goodState_ok (p0 : TBoard) (p1 : TState) (r : Bool) (H : X.i_goodState p0 p1 = some r) : FnOk Tryz.prog gl 98 [.agg (eTBoard p0), .agg (eTState p1)] (cB r) := by
  unfold X.i_goodState at H
  refine fn_in (fn := Tryz.f98) (ir := i_goodState_ir) (s1 := lit [(4, cB r)] []) Tryz.func98 (by kernel_rfl) (by kernel_rfl) (by kernel_rfl) (by kernel_rfl) (by kernel_rfl) ?_
  refine seq_ops [] [] [(2, .c (.pk 2 0)), (3, .c (.pk 3 0))] [(2, .var (eTBoard p0) false), (3, .var (eTState p1) false)] (fun t => t) (by kernel_rfl) ?_
  refine seq_in ?_
  obtain ⟨v8, h9, H⟩ := ofBind H
  rcases ofCond H with ⟨c10, H⟩ | ⟨c10, H⟩
  · refine seq_ops [.res (cB v8), .g true, .g true, .g true, .g true, .g true, .g true, .g true, .g true, .g true, .g true] [] [(2, .c (.pk 2 0)), (3, .c (.pk 3 0)), (26, cB true)] [(2, .var (eTBoard p0) false), (3, .var (eTState p1) false)] (fun t => aI (i_inRange_ok p1.Turn 0 p0.Rules.Turns v8 h9) (aI c10 (aI c10 (aI c10 (aI c10 (aI c10 (aI (rfl : (true : Bool) = true) (aI (rfl : (true : Bool) = true) (aI (rfl : (true : Bool) = true) (aI (rfl : (true : Bool) = true) (aI (rfl : (true : Bool) = true) (t)))))))))))) (by kernel_rfl) ?_
    refine ite_t (rfl : (true : Bool) = true) (by kernel_rfl) ?_
    refine seq_ops [] [] [(4, cB false)] [] (fun t => t) (by kernel_rfl) ?_
    refine ends_ret ?_
    obtain rfl := Option.some.inj H
    exact And.intro (.inl rfl) rfl
  · obtain ⟨v11, h12, H⟩ := ofBind H
    rcases ofCond H with ⟨c13, H⟩ | ⟨c13, H⟩
    · refine seq_ops [.res (cB v8), .g false, .g false, .g false, .res (cB v11), .g false, .g false, .g true, .g true, .g true, .g true, .g true] [] [(2, .c (.pk 2 0)), (3, .c (.pk 3 0)), (26, cB true)] [(2, .var (eTBoard p0) false), (3, .var (eTState p1) false)] (fun t => aI (i_inRange_ok p1.Turn 0 p0.Rules.Turns v8 h9) (aI c10 (aI c10 (aI c10 (aI (i_inRange_ok p1.Weather 0 2 v11 h12) (aI c10 (aI c10 (aI c13 (aI c13 (aI c13 (aI c13 (aI c13 (t))))))))))))) (by kernel_rfl) ?_
      refine ite_t (rfl : (true : Bool) = true) (by kernel_rfl) ?_
      refine seq_ops [] [] [(4, cB false)] [] (fun t => t) (by kernel_rfl) ?_
      refine ends_ret ?_
      obtain rfl := Option.some.inj H
      exact And.intro (.inl rfl) rfl
    · refine seq_ops [.res (cB v8), .g false, .g false, .g false, .res (cB v11), .g false, .g false, .g false, .g false, .g false, .g false, .g false] [] [(2, .c (.pk 2 0)), (3, .c (.pk 3 0)), (26, cB (decide ((p1.Units.length : Int) > 12)))] [(2, .var (eTBoard p0) false), (3, .var (eTState p1) false)] (fun t => aI (i_inRange_ok p1.Turn 0 p0.Rules.Turns v8 h9) (aI c10 (aI c10 (aI c10 (aI (i_inRange_ok p1.Weather 0 2 v11 h12) (aI c10 (aI c10 (aI c13 (aI c13 (aI c13 (lI p1.Units (aI c13 (aI c13 (t)))))))))))))) (by kernel_rfl) ?_
      rcases ofCond H with ⟨c14, H⟩ | ⟨c14, H⟩
      · refine ite_t c14 (by kernel_rfl) ?_
        refine seq_ops [] [] [(4, cB false)] [] (fun t => t) (by kernel_rfl) ?_
        refine ends_ret ?_
        obtain rfl := Option.some.inj H
        exact And.intro (.inl rfl) rfl
      · refine ite_f c14 (by kernel_rfl) ?_
        refine ends_skip ?_
        change EndsI _ _ _ _ _ _
        obtain ⟨v15, h16, H⟩ := ofBind H
        obtain ⟨g17, H⟩ := ofIf H
        refine seq_ops [.res (cI v15), .fn (List.replicate v15.toNat zA2_I).length (fF eA2_I zA2_I (List.replicate v15.toNat zA2_I))] [] [(2, .c (.pk 2 0)), (3, .c (.pk 3 0)), (5, .c (.own 29 2 0 ((List.replicate v15.toNat zA2_I).length)))] [(2, .var (eTBoard p0) false), (3, .var (eTState p1) false), (29, .arr 2 ((List.replicate v15.toNat zA2_I).length) (fF eA2_I zA2_I (List.replicate v15.toNat zA2_I)) false)] (fun t => aI (i_sizeOf_ok p0 v15 h16) (aI (And.intro g17.1 (And.intro (List.length_replicate (n := v15.toNat) (a := zA2_I)).symm (Nat.le_trans (Nat.le_of_eq List.length_replicate) g17.2 : (List.replicate v15.toNat zA2_I).length ≤ LIM))) (aI (fF_rep eA2_I zA2_I zA2_I v15.toNat) (t)))) (by kernel_rfl) ?_
        refine seq_in ?_
        refine seq_ops [] [] [(2, .c (.pk 2 0)), (5, .c (.own 29 2 0 ((List.replicate v15.toNat zA2_I).length))), (31, .c (dat 4 eTUnit zTUnit p1.Units)), (32, cI (p1.Units.length : Int)), (33, cI 0)] [(2, .var (eTBoard p0) false), (29, .arr 2 ((List.replicate v15.toNat zA2_I).length) (fF eA2_I zA2_I (List.replicate v15.toNat zA2_I)) false)] (fun t => lI p1.Units (t)) (by kernel_rfl) ?_
        refine ends_blk ?_
        obtain ⟨y119, h120, H⟩ := ofBind H
        refine loop_in (fun (x : (Int × (List A2_I))) => lit [(2, .c (.pk 2 0)), (5, .c (.own 29 2 0 x.2.length)), (31, .c (dat 4 eTUnit zTUnit p1.Units)), (32, cI (p1.Units.length : Int)), (33, cI x.1)] [(2, .var (eTBoard p0) false), (29, .arr 2 x.2.length (fF eA2_I zA2_I x.2) false)]) (orJ (fun (z : Unit) => At (.exit 0) (lit [] [])) (fun (z : Bool) => At .ret (lit [(4, cB z)] []))) h120 ?_ ?_
        · clear H h120
          intro x85 y0 H
          refine seq_ops [] [] [(2, .c (.pk 2 0)), (5, .c (.own 29 2 0 x85.2.length)), (31, .c (dat 4 eTUnit zTUnit p1.Units)), (32, cI (p1.Units.length : Int)), (33, cI x85.1), (34, cB (decide (x85.1 < (p1.Units.length : Int))))] [(2, .var (eTBoard p0) false), (29, .arr 2 x85.2.length (fF eA2_I zA2_I x85.2) false)] (fun t => t) (by kernel_rfl) ?_
          refine seq_in ?_
          rcases ofCond H with ⟨c87, H⟩ | ⟨c87, H⟩
          · refine ite_t c87 (by kernel_rfl) ?_
            refine ends_skip ?_
            change EndsI _ _ _ _ _ _
            refine seq_in ?_
            refine ends_blk ?_
            obtain ⟨v88, h89, H⟩ := ofBind H
            refine seq_ops [.cs (eTUnit v88)] [] [(2, .c (.pk 2 0)), (5, .c (.own 29 2 0 x85.2.length)), (7, .c (.pk 7 0)), (31, .c (dat 4 eTUnit zTUnit p1.Units)), (32, cI (p1.Units.length : Int)), (33, cI x85.1)] [(2, .var (eTBoard p0) false), (7, .var (eTUnit v88) false), (29, .arr 2 x85.2.length (fF eA2_I zA2_I x85.2) false)] (fun t => aI (at_lt h89) (aI (at_enc (enc := eTUnit) h89) (t))) (by kernel_rfl) ?_
            refine seq_in ?_
            obtain ⟨v93, h94, H⟩ := ofBind H
            refine seq_ops [.res (cB v93)] [] [(2, .c (.pk 2 0)), (5, .c (.own 29 2 0 x85.2.length)), (7, .c (.pk 7 0)), (31, .c (dat 4 eTUnit zTUnit p1.Units)), (32, cI (p1.Units.length : Int)), (33, cI x85.1), (40, cB (!v93))] [(2, .var (eTBoard p0) false), (7, .var (eTUnit v88) false), (29, .arr 2 x85.2.length (fF eA2_I zA2_I x85.2) false)] (fun t => aI (i_goodUnit_ok p0 v88 v93 h94) (t)) (by kernel_rfl) ?_
            rcases ofCond H with ⟨c95, H⟩ | ⟨c95, H⟩
            · refine ite_t c95 (by kernel_rfl) ?_
              refine seq_ops [] [] [(4, cB false)] [] (fun t => t) (by kernel_rfl) ?_
              refine ends_ret ?_
              obtain rfl := Option.some.inj H
              exact And.intro (by simp) (And.intro rfl rfl)
            · refine ite_f c95 (by kernel_rfl) ?_
              refine ends_skip ?_
              change EndsI _ _ _ _ _ _
              refine seq_in ?_
              refine seq_ops [] [] [(2, .c (.pk 2 0)), (5, .c (.own 29 2 0 x85.2.length)), (7, .c (.pk 7 0)), (31, .c (dat 4 eTUnit zTUnit p1.Units)), (32, cI (p1.Units.length : Int)), (33, cI x85.1), (43, cB (decide (v88.At < 0)))] [(2, .var (eTBoard p0) false), (7, .var (eTUnit v88) false), (29, .arr 2 x85.2.length (fF eA2_I zA2_I x85.2) false)] (fun t => t) (by kernel_rfl) ?_
              rcases ofCond H with ⟨c97, H⟩ | ⟨c97, H⟩
              · refine ite_t c97 (by kernel_rfl) ?_
                refine ends_exit ?_
                change EndsI _ _ _ _ _ _
                refine one_ops [] [] [(2, .c (.pk 2 0)), (5, .c (.own 29 2 0 x85.2.length)), (31, .c (dat 4 eTUnit zTUnit p1.Units)), (32, cI (p1.Units.length : Int)), (33, cI (W (x85.1 + 1)))] [(2, .var (eTBoard p0) false), (29, .arr 2 x85.2.length (fF eA2_I zA2_I x85.2) false)] (fun t => t) (by kernel_rfl) ?_
                obtain rfl := Option.some.inj H
                exact And.intro rfl rfl
              · refine ite_f c97 (by kernel_rfl) ?_
                refine ends_skip ?_
                change EndsI _ _ _ _ _ _
                obtain ⟨g98, H⟩ := ofIf H
                rcases ofIte H with ⟨c99, H⟩ | ⟨c118, H⟩
                · refine seq_draw [.no, .nat 0, .no, .nat 0, .fn 0 (fF eA2_I zA2_I (x85.2.set v88.At.toNat (A2_I.mk (W ((x85.2.getD v88.At.toNat zA2_I).a0 + 1)) ((x85.2.getD v88.At.toNat zA2_I).a1))))] [] [(2, .c (.pk 2 0)), (5, .c (.own 29 2 0 x85.2.length)), (7, .c (.pk 7 0)), (31, .c (dat 4 eTUnit zTUnit p1.Units)), (32, cI (p1.Units.length : Int)), (33, cI x85.1)] [(2, .var (eTBoard p0) false), (7, .var (eTUnit v88) false), (29, .arr 2 x85.2.length (fF eA2_I zA2_I (x85.2.set v88.At.toNat (A2_I.mk (W ((x85.2.getD v88.At.toNat zA2_I).a0 + 1)) ((x85.2.getD v88.At.toNat zA2_I).a1)))) false)] (fun t => aI g98 (aI (And.intro c99 (by decide : 0 < 2)) (aI (nat_lt g98) (aI (rfl : ([] : List Nat) = []) (aI g98 (aI (And.intro c99 (by decide : 0 < 2)) (aI (rfl : true = true) (aI (nat_lt g98) (aI (by decide : 0 + 1 ≤ 2) (aI (fF_set eA2_I zA2_I x85.2 v88.At.toNat (A2_I.mk (W ((x85.2.getD v88.At.toNat zA2_I).a0 + 1)) ((x85.2.getD v88.At.toNat zA2_I).a1)) (nat_lt g98) x85.2.length) (t))))))))))) (by kernel_rfl) ?_
                  rcases ofIte H with ⟨c100, H⟩ | ⟨c107, H⟩
                  · rcases ofCond H with ⟨c101, H⟩ | ⟨c101, H⟩
                    · refine seq_draw [.no, .nat 0, .g true, .g true, .g true, .g true, .g true, .g true, .g true, .g true, .g true, .g true, .g true, .g true, .g true] [] [(2, .c (.pk 2 0)), (5, .c (.own 29 2 0 x85.2.length)), (31, .c (dat 4 eTUnit zTUnit p1.Units)), (32, cI (p1.Units.length : Int)), (33, cI x85.1), (78, cB true)] [(2, .var (eTBoard p0) false), (29, .arr 2 x85.2.length (fF eA2_I zA2_I (x85.2.set v88.At.toNat (A2_I.mk (W ((x85.2.getD v88.At.toNat zA2_I).a0 + 1)) ((x85.2.getD v88.At.toNat zA2_I).a1)))) false)] (fun t => aI g98 (aI (And.intro c100 (by decide : 0 < 2)) (aI (nat_lt g98) (aI (rfl : ([] : List Nat) = []) (aI c101 (aI c101 (aI c101 (aI c101 (aI c101 (aI c101 (aI c101 (aI c101 (aI c101 (aI c101 (aI c101 (aI c101 (aI c101 (t)))))))))))))))))) (by kernel_rfl) ?_
                      refine ite_t (rfl : (true : Bool) = true) (by kernel_rfl) ?_
                      refine seq_ops [] [] [(4, cB false)] [] (fun t => t) (by kernel_rfl) ?_
                      refine ends_ret ?_
                      obtain rfl := Option.some.inj H
                      exact And.intro (by simp) (And.intro rfl rfl)
                    · refine seq_draw [.no, .nat 0, .g false, .g false, .g false, .g false, .g false, .g false, .no, .g false, .nat 0, .g false, .g false, .g false, .g false, .g false, .g false] [] [(2, .c (.pk 2 0)), (5, .c (.own 29 2 0 x85.2.length)), (31, .c (dat 4 eTUnit zTUnit p1.Units)), (32, cI (p1.Units.length : Int)), (33, cI x85.1), (78, cB (decide (((x85.2.set v88.At.toNat (A2_I.mk (W ((x85.2.getD v88.At.toNat zA2_I).a0 + 1)) ((x85.2.getD v88.At.toNat zA2_I).a1))).getD v88.At.toNat zA2_I).a0 > p0.Rules.Stack)))] [(2, .var (eTBoard p0) false), (29, .arr 2 x85.2.length (fF eA2_I zA2_I (x85.2.set v88.At.toNat (A2_I.mk (W ((x85.2.getD v88.At.toNat zA2_I).a0 + 1)) ((x85.2.getD v88.At.toNat zA2_I).a1)))) false)] (fun t => aI g98 (aI (And.intro c100 (by decide : 0 < 2)) (aI (nat_lt g98) (aI (rfl : ([] : List Nat) = []) (aI c101 (aI c101 (aI c101 (aI c101 (aI c101 (aI c101 (aI g98 (aI c101 (aI (And.intro c99 (by decide : 0 < 2)) (aI c101 (aI (nat_lt g98) (aI (rfl : ([] : List Nat) = []) (aI c101 (aI c101 (aI c101 (aI c101 (aI c101 (t)))))))))))))))))))))) (by kernel_rfl) ?_
                      rcases ofCond H with ⟨c102, H⟩ | ⟨c102, H⟩
                      · refine ite_t c102 (by kernel_rfl) ?_
                        refine seq_ops [] [] [(4, cB false)] [] (fun t => t) (by kernel_rfl) ?_
                        refine ends_ret ?_
                        obtain rfl := Option.some.inj H
                        exact And.intro (by simp) (And.intro rfl rfl)
                      · refine ite_f c102 (by kernel_rfl) ?_
                        refine ends_skip ?_
                        change EndsI _ _ _ _ _ _
                        refine one_ops [] [.rel 5 ((x85.2.set v88.At.toNat (A2_I.mk (W ((x85.2.getD v88.At.toNat zA2_I).a0 + 1)) ((x85.2.getD v88.At.toNat zA2_I).a1))).length), .rep 29 ((x85.2.set v88.At.toNat (A2_I.mk (W ((x85.2.getD v88.At.toNat zA2_I).a0 + 1)) ((x85.2.getD v88.At.toNat zA2_I).a1))).length) (fF eA2_I zA2_I (x85.2.set v88.At.toNat (A2_I.mk (W ((x85.2.getD v88.At.toNat zA2_I).a0 + 1)) ((x85.2.getD v88.At.toNat zA2_I).a1))))] [(2, .c (.pk 2 0)), (5, .c (.own 29 2 0 ((x85.2.set v88.At.toNat (A2_I.mk (W ((x85.2.getD v88.At.toNat zA2_I).a0 + 1)) ((x85.2.getD v88.At.toNat zA2_I).a1))).length))), (31, .c (dat 4 eTUnit zTUnit p1.Units)), (32, cI (p1.Units.length : Int)), (33, cI (W (x85.1 + 1)))] [(2, .var (eTBoard p0) false), (29, .arr 2 ((x85.2.set v88.At.toNat (A2_I.mk (W ((x85.2.getD v88.At.toNat zA2_I).a0 + 1)) ((x85.2.getD v88.At.toNat zA2_I).a1))).length) (fF eA2_I zA2_I (x85.2.set v88.At.toNat (A2_I.mk (W ((x85.2.getD v88.At.toNat zA2_I).a0 + 1)) ((x85.2.getD v88.At.toNat zA2_I).a1)))) false)] (fun t => aI (by simp : x85.2.length = (x85.2.set v88.At.toNat (A2_I.mk (W ((x85.2.getD v88.At.toNat zA2_I).a0 + 1)) ((x85.2.getD v88.At.toNat zA2_I).a1))).length) (aI (Nat.le_of_eq (by simp : (x85.2.set v88.At.toNat (A2_I.mk (W ((x85.2.getD v88.At.toNat zA2_I).a0 + 1)) ((x85.2.getD v88.At.toNat zA2_I).a1))).length = x85.2.length)) (aI (fun _ _ => rfl : ∀ i, i < (x85.2.set v88.At.toNat (A2_I.mk (W ((x85.2.getD v88.At.toNat zA2_I).a0 + 1)) ((x85.2.getD v88.At.toNat zA2_I).a1))).length → (fF eA2_I zA2_I (x85.2.set v88.At.toNat (A2_I.mk (W ((x85.2.getD v88.At.toNat zA2_I).a0 + 1)) ((x85.2.getD v88.At.toNat zA2_I).a1)))) i = (fF eA2_I zA2_I (x85.2.set v88.At.toNat (A2_I.mk (W ((x85.2.getD v88.At.toNat zA2_I).a0 + 1)) ((x85.2.getD v88.At.toNat zA2_I).a1)))) i) (t)))) (by kernel_rfl) ?_
                        obtain rfl := Option.some.inj H
                        exact And.intro rfl rfl
                  · rcases ofIte H with ⟨c103, H⟩ | ⟨c106, H⟩
                    · rcases ofCond H with ⟨c104, H⟩ | ⟨c104, H⟩
                      · refine seq_draw [.no, .nat 1, .g true, .g true, .g true, .g true, .g true, .g true, .g true, .g true, .g true, .g true, .g true, .g true, .g true] [] [(2, .c (.pk 2 0)), (5, .c (.own 29 2 0 x85.2.length)), (31, .c (dat 4 eTUnit zTUnit p1.Units)), (32, cI (p1.Units.length : Int)), (33, cI x85.1), (78, cB true)] [(2, .var (eTBoard p0) false), (29, .arr 2 x85.2.length (fF eA2_I zA2_I (x85.2.set v88.At.toNat (A2_I.mk (W ((x85.2.getD v88.At.toNat zA2_I).a0 + 1)) ((x85.2.getD v88.At.toNat zA2_I).a1)))) false)] (fun t => aI g98 (aI (And.intro c103 (by decide : 1 < 2)) (aI (nat_lt g98) (aI (rfl : ([] : List Nat) = []) (aI c104 (aI c104 (aI c104 (aI c104 (aI c104 (aI c104 (aI c104 (aI c104 (aI c104 (aI c104 (aI c104 (aI c104 (aI c104 (t)))))))))))))))))) (by kernel_rfl) ?_
                        refine ite_t (rfl : (true : Bool) = true) (by kernel_rfl) ?_
                        refine seq_ops [] [] [(4, cB false)] [] (fun t => t) (by kernel_rfl) ?_
                        refine ends_ret ?_
                        obtain rfl := Option.some.inj H
                        exact And.intro (by simp) (And.intro rfl rfl)
                      · refine seq_draw [.no, .nat 1, .g false, .g false, .g false, .g false, .g false, .g false, .no, .g false, .nat 0, .g false, .g false, .g false, .g false, .g false, .g false] [] [(2, .c (.pk 2 0)), (5, .c (.own 29 2 0 x85.2.length)), (31, .c (dat 4 eTUnit zTUnit p1.Units)), (32, cI (p1.Units.length : Int)), (33, cI x85.1), (78, cB (decide (((x85.2.set v88.At.toNat (A2_I.mk (W ((x85.2.getD v88.At.toNat zA2_I).a0 + 1)) ((x85.2.getD v88.At.toNat zA2_I).a1))).getD v88.At.toNat zA2_I).a0 > p0.Rules.Stack)))] [(2, .var (eTBoard p0) false), (29, .arr 2 x85.2.length (fF eA2_I zA2_I (x85.2.set v88.At.toNat (A2_I.mk (W ((x85.2.getD v88.At.toNat zA2_I).a0 + 1)) ((x85.2.getD v88.At.toNat zA2_I).a1)))) false)] (fun t => aI g98 (aI (And.intro c103 (by decide : 1 < 2)) (aI (nat_lt g98) (aI (rfl : ([] : List Nat) = []) (aI c104 (aI c104 (aI c104 (aI c104 (aI c104 (aI c104 (aI g98 (aI c104 (aI (And.intro c99 (by decide : 0 < 2)) (aI c104 (aI (nat_lt g98) (aI (rfl : ([] : List Nat) = []) (aI c104 (aI c104 (aI c104 (aI c104 (aI c104 (t)))))))))))))))))))))) (by kernel_rfl) ?_
                        rcases ofCond H with ⟨c105, H⟩ | ⟨c105, H⟩
                        · refine ite_t c105 (by kernel_rfl) ?_
                          refine seq_ops [] [] [(4, cB false)] [] (fun t => t) (by kernel_rfl) ?_
                          refine ends_ret ?_
                          obtain rfl := Option.some.inj H
                          exact And.intro (by simp) (And.intro rfl rfl)
                        · refine ite_f c105 (by kernel_rfl) ?_
                          refine ends_skip ?_
                          change EndsI _ _ _ _ _ _
                          refine one_ops [] [.rel 5 ((x85.2.set v88.At.toNat (A2_I.mk (W ((x85.2.getD v88.At.toNat zA2_I).a0 + 1)) ((x85.2.getD v88.At.toNat zA2_I).a1))).length), .rep 29 ((x85.2.set v88.At.toNat (A2_I.mk (W ((x85.2.getD v88.At.toNat zA2_I).a0 + 1)) ((x85.2.getD v88.At.toNat zA2_I).a1))).length) (fF eA2_I zA2_I (x85.2.set v88.At.toNat (A2_I.mk (W ((x85.2.getD v88.At.toNat zA2_I).a0 + 1)) ((x85.2.getD v88.At.toNat zA2_I).a1))))] [(2, .c (.pk 2 0)), (5, .c (.own 29 2 0 ((x85.2.set v88.At.toNat (A2_I.mk (W ((x85.2.getD v88.At.toNat zA2_I).a0 + 1)) ((x85.2.getD v88.At.toNat zA2_I).a1))).length))), (31, .c (dat 4 eTUnit zTUnit p1.Units)), (32, cI (p1.Units.length : Int)), (33, cI (W (x85.1 + 1)))] [(2, .var (eTBoard p0) false), (29, .arr 2 ((x85.2.set v88.At.toNat (A2_I.mk (W ((x85.2.getD v88.At.toNat zA2_I).a0 + 1)) ((x85.2.getD v88.At.toNat zA2_I).a1))).length) (fF eA2_I zA2_I (x85.2.set v88.At.toNat (A2_I.mk (W ((x85.2.getD v88.At.toNat zA2_I).a0 + 1)) ((x85.2.getD v88.At.toNat zA2_I).a1)))) false)] (fun t => aI (by simp : x85.2.length = (x85.2.set v88.At.toNat (A2_I.mk (W ((x85.2.getD v88.At.toNat zA2_I).a0 + 1)) ((x85.2.getD v88.At.toNat zA2_I).a1))).length) (aI (Nat.le_of_eq (by simp : (x85.2.set v88.At.toNat (A2_I.mk (W ((x85.2.getD v88.At.toNat zA2_I).a0 + 1)) ((x85.2.getD v88.At.toNat zA2_I).a1))).length = x85.2.length)) (aI (fun _ _ => rfl : ∀ i, i < (x85.2.set v88.At.toNat (A2_I.mk (W ((x85.2.getD v88.At.toNat zA2_I).a0 + 1)) ((x85.2.getD v88.At.toNat zA2_I).a1))).length → (fF eA2_I zA2_I (x85.2.set v88.At.toNat (A2_I.mk (W ((x85.2.getD v88.At.toNat zA2_I).a0 + 1)) ((x85.2.getD v88.At.toNat zA2_I).a1)))) i = (fF eA2_I zA2_I (x85.2.set v88.At.toNat (A2_I.mk (W ((x85.2.getD v88.At.toNat zA2_I).a0 + 1)) ((x85.2.getD v88.At.toNat zA2_I).a1)))) i) (t)))) (by kernel_rfl) ?_
                          obtain rfl := Option.some.inj H
                          exact And.intro rfl rfl
                    · cases H
                · rcases ofIte H with ⟨c108, H⟩ | ⟨c117, H⟩
                  · refine seq_draw [.no, .nat 1, .no, .nat 1, .fn 0 (fF eA2_I zA2_I (x85.2.set v88.At.toNat (A2_I.mk ((x85.2.getD v88.At.toNat zA2_I).a0) (W ((x85.2.getD v88.At.toNat zA2_I).a1 + 1)))))] [] [(2, .c (.pk 2 0)), (5, .c (.own 29 2 0 x85.2.length)), (7, .c (.pk 7 0)), (31, .c (dat 4 eTUnit zTUnit p1.Units)), (32, cI (p1.Units.length : Int)), (33, cI x85.1)] [(2, .var (eTBoard p0) false), (7, .var (eTUnit v88) false), (29, .arr 2 x85.2.length (fF eA2_I zA2_I (x85.2.set v88.At.toNat (A2_I.mk ((x85.2.getD v88.At.toNat zA2_I).a0) (W ((x85.2.getD v88.At.toNat zA2_I).a1 + 1))))) false)] (fun t => aI g98 (aI (And.intro c108 (by decide : 1 < 2)) (aI (nat_lt g98) (aI (rfl : ([] : List Nat) = []) (aI g98 (aI (And.intro c108 (by decide : 1 < 2)) (aI (rfl : true = true) (aI (nat_lt g98) (aI (by decide : 1 + 1 ≤ 2) (aI (fF_set eA2_I zA2_I x85.2 v88.At.toNat (A2_I.mk ((x85.2.getD v88.At.toNat zA2_I).a0) (W ((x85.2.getD v88.At.toNat zA2_I).a1 + 1))) (nat_lt g98) x85.2.length) (t))))))))))) (by kernel_rfl) ?_
                    rcases ofIte H with ⟨c109, H⟩ | ⟨c116, H⟩
                    · rcases ofCond H with ⟨c110, H⟩ | ⟨c110, H⟩
                      · refine seq_draw [.no, .nat 0, .g true, .g true, .g true, .g true, .g true, .g true, .g true, .g true, .g true, .g true, .g true, .g true, .g true] [] [(2, .c (.pk 2 0)), (5, .c (.own 29 2 0 x85.2.length)), (31, .c (dat 4 eTUnit zTUnit p1.Units)), (32, cI (p1.Units.length : Int)), (33, cI x85.1), (78, cB true)] [(2, .var (eTBoard p0) false), (29, .arr 2 x85.2.length (fF eA2_I zA2_I (x85.2.set v88.At.toNat (A2_I.mk ((x85.2.getD v88.At.toNat zA2_I).a0) (W ((x85.2.getD v88.At.toNat zA2_I).a1 + 1))))) false)] (fun t => aI g98 (aI (And.intro c109 (by decide : 0 < 2)) (aI (nat_lt g98) (aI (rfl : ([] : List Nat) = []) (aI c110 (aI c110 (aI c110 (aI c110 (aI c110 (aI c110 (aI c110 (aI c110 (aI c110 (aI c110 (aI c110 (aI c110 (aI c110 (t)))))))))))))))))) (by kernel_rfl) ?_
                        refine ite_t (rfl : (true : Bool) = true) (by kernel_rfl) ?_
                        refine seq_ops [] [] [(4, cB false)] [] (fun t => t) (by kernel_rfl) ?_
                        refine ends_ret ?_
                        obtain rfl := Option.some.inj H
                        exact And.intro (by simp) (And.intro rfl rfl)
                      · refine seq_draw [.no, .nat 0, .g false, .g false, .g false, .g false, .g false, .g false, .no, .g false, .nat 1, .g false, .g false, .g false, .g false, .g false, .g false] [] [(2, .c (.pk 2 0)), (5, .c (.own 29 2 0 x85.2.length)), (31, .c (dat 4 eTUnit zTUnit p1.Units)), (32, cI (p1.Units.length : Int)), (33, cI x85.1), (78, cB (decide (((x85.2.set v88.At.toNat (A2_I.mk ((x85.2.getD v88.At.toNat zA2_I).a0) (W ((x85.2.getD v88.At.toNat zA2_I).a1 + 1)))).getD v88.At.toNat zA2_I).a1 > p0.Rules.Stack)))] [(2, .var (eTBoard p0) false), (29, .arr 2 x85.2.length (fF eA2_I zA2_I (x85.2.set v88.At.toNat (A2_I.mk ((x85.2.getD v88.At.toNat zA2_I).a0) (W ((x85.2.getD v88.At.toNat zA2_I).a1 + 1))))) false)] (fun t => aI g98 (aI (And.intro c109 (by decide : 0 < 2)) (aI (nat_lt g98) (aI (rfl : ([] : List Nat) = []) (aI c110 (aI c110 (aI c110 (aI c110 (aI c110 (aI c110 (aI g98 (aI c110 (aI (And.intro c108 (by decide : 1 < 2)) (aI c110 (aI (nat_lt g98) (aI (rfl : ([] : List Nat) = []) (aI c110 (aI c110 (aI c110 (aI c110 (aI c110 (t)))))))))))))))))))))) (by kernel_rfl) ?_
                        rcases ofCond H with ⟨c111, H⟩ | ⟨c111, H⟩
                        · refine ite_t c111 (by kernel_rfl) ?_
                          refine seq_ops [] [] [(4, cB false)] [] (fun t => t) (by kernel_rfl) ?_
                          refine ends_ret ?_
                          obtain rfl := Option.some.inj H
                          exact And.intro (by simp) (And.intro rfl rfl)
                        · refine ite_f c111 (by kernel_rfl) ?_
                          refine ends_skip ?_
                          change EndsI _ _ _ _ _ _
                          refine one_ops [] [.rel 5 ((x85.2.set v88.At.toNat (A2_I.mk ((x85.2.getD v88.At.toNat zA2_I).a0) (W ((x85.2.getD v88.At.toNat zA2_I).a1 + 1)))).length), .rep 29 ((x85.2.set v88.At.toNat (A2_I.mk ((x85.2.getD v88.At.toNat zA2_I).a0) (W ((x85.2.getD v88.At.toNat zA2_I).a1 + 1)))).length) (fF eA2_I zA2_I (x85.2.set v88.At.toNat (A2_I.mk ((x85.2.getD v88.At.toNat zA2_I).a0) (W ((x85.2.getD v88.At.toNat zA2_I).a1 + 1)))))] [(2, .c (.pk 2 0)), (5, .c (.own 29 2 0 ((x85.2.set v88.At.toNat (A2_I.mk ((x85.2.getD v88.At.toNat zA2_I).a0) (W ((x85.2.getD v88.At.toNat zA2_I).a1 + 1)))).length))), (31, .c (dat 4 eTUnit zTUnit p1.Units)), (32, cI (p1.Units.length : Int)), (33, cI (W (x85.1 + 1)))] [(2, .var (eTBoard p0) false), (29, .arr 2 ((x85.2.set v88.At.toNat (A2_I.mk ((x85.2.getD v88.At.toNat zA2_I).a0) (W ((x85.2.getD v88.At.toNat zA2_I).a1 + 1)))).length) (fF eA2_I zA2_I (x85.2.set v88.At.toNat (A2_I.mk ((x85.2.getD v88.At.toNat zA2_I).a0) (W ((x85.2.getD v88.At.toNat zA2_I).a1 + 1))))) false)] (fun t => aI (by simp : x85.2.length = (x85.2.set v88.At.toNat (A2_I.mk ((x85.2.getD v88.At.toNat zA2_I).a0) (W ((x85.2.getD v88.At.toNat zA2_I).a1 + 1)))).length) (aI (Nat.le_of_eq (by simp : (x85.2.set v88.At.toNat (A2_I.mk ((x85.2.getD v88.At.toNat zA2_I).a0) (W ((x85.2.getD v88.At.toNat zA2_I).a1 + 1)))).length = x85.2.length)) (aI (fun _ _ => rfl : ∀ i, i < (x85.2.set v88.At.toNat (A2_I.mk ((x85.2.getD v88.At.toNat zA2_I).a0) (W ((x85.2.getD v88.At.toNat zA2_I).a1 + 1)))).length → (fF eA2_I zA2_I (x85.2.set v88.At.toNat (A2_I.mk ((x85.2.getD v88.At.toNat zA2_I).a0) (W ((x85.2.getD v88.At.toNat zA2_I).a1 + 1))))) i = (fF eA2_I zA2_I (x85.2.set v88.At.toNat (A2_I.mk ((x85.2.getD v88.At.toNat zA2_I).a0) (W ((x85.2.getD v88.At.toNat zA2_I).a1 + 1))))) i) (t)))) (by kernel_rfl) ?_
                          obtain rfl := Option.some.inj H
                          exact And.intro rfl rfl
                    · rcases ofIte H with ⟨c112, H⟩ | ⟨c115, H⟩
                      · rcases ofCond H with ⟨c113, H⟩ | ⟨c113, H⟩
                        · refine seq_draw [.no, .nat 1, .g true, .g true, .g true, .g true, .g true, .g true, .g true, .g true, .g true, .g true, .g true, .g true, .g true] [] [(2, .c (.pk 2 0)), (5, .c (.own 29 2 0 x85.2.length)), (31, .c (dat 4 eTUnit zTUnit p1.Units)), (32, cI (p1.Units.length : Int)), (33, cI x85.1), (78, cB true)] [(2, .var (eTBoard p0) false), (29, .arr 2 x85.2.length (fF eA2_I zA2_I (x85.2.set v88.At.toNat (A2_I.mk ((x85.2.getD v88.At.toNat zA2_I).a0) (W ((x85.2.getD v88.At.toNat zA2_I).a1 + 1))))) false)] (fun t => aI g98 (aI (And.intro c112 (by decide : 1 < 2)) (aI (nat_lt g98) (aI (rfl : ([] : List Nat) = []) (aI c113 (aI c113 (aI c113 (aI c113 (aI c113 (aI c113 (aI c113 (aI c113 (aI c113 (aI c113 (aI c113 (aI c113 (aI c113 (t)))))))))))))))))) (by kernel_rfl) ?_
                          refine ite_t (rfl : (true : Bool) = true) (by kernel_rfl) ?_
                          refine seq_ops [] [] [(4, cB false)] [] (fun t => t) (by kernel_rfl) ?_
                          refine ends_ret ?_
                          obtain rfl := Option.some.inj H
                          exact And.intro (by simp) (And.intro rfl rfl)
                        · refine seq_draw [.no, .nat 1, .g false, .g false, .g false, .g false, .g false, .g false, .no, .g false, .nat 1, .g false, .g false, .g false, .g false, .g false, .g false] [] [(2, .c (.pk 2 0)), (5, .c (.own 29 2 0 x85.2.length)), (31, .c (dat 4 eTUnit zTUnit p1.Units)), (32, cI (p1.Units.length : Int)), (33, cI x85.1), (78, cB (decide (((x85.2.set v88.At.toNat (A2_I.mk ((x85.2.getD v88.At.toNat zA2_I).a0) (W ((x85.2.getD v88.At.toNat zA2_I).a1 + 1)))).getD v88.At.toNat zA2_I).a1 > p0.Rules.Stack)))] [(2, .var (eTBoard p0) false), (29, .arr 2 x85.2.length (fF eA2_I zA2_I (x85.2.set v88.At.toNat (A2_I.mk ((x85.2.getD v88.At.toNat zA2_I).a0) (W ((x85.2.getD v88.At.toNat zA2_I).a1 + 1))))) false)] (fun t => aI g98 (aI (And.intro c112 (by decide : 1 < 2)) (aI (nat_lt g98) (aI (rfl : ([] : List Nat) = []) (aI c113 (aI c113 (aI c113 (aI c113 (aI c113 (aI c113 (aI g98 (aI c113 (aI (And.intro c108 (by decide : 1 < 2)) (aI c113 (aI (nat_lt g98) (aI (rfl : ([] : List Nat) = []) (aI c113 (aI c113 (aI c113 (aI c113 (aI c113 (t)))))))))))))))))))))) (by kernel_rfl) ?_
                          rcases ofCond H with ⟨c114, H⟩ | ⟨c114, H⟩
                          · refine ite_t c114 (by kernel_rfl) ?_
                            refine seq_ops [] [] [(4, cB false)] [] (fun t => t) (by kernel_rfl) ?_
                            refine ends_ret ?_
                            obtain rfl := Option.some.inj H
                            exact And.intro (by simp) (And.intro rfl rfl)
                          · refine ite_f c114 (by kernel_rfl) ?_
                            refine ends_skip ?_
                            change EndsI _ _ _ _ _ _
                            refine one_ops [] [.rel 5 ((x85.2.set v88.At.toNat (A2_I.mk ((x85.2.getD v88.At.toNat zA2_I).a0) (W ((x85.2.getD v88.At.toNat zA2_I).a1 + 1)))).length), .rep 29 ((x85.2.set v88.At.toNat (A2_I.mk ((x85.2.getD v88.At.toNat zA2_I).a0) (W ((x85.2.getD v88.At.toNat zA2_I).a1 + 1)))).length) (fF eA2_I zA2_I (x85.2.set v88.At.toNat (A2_I.mk ((x85.2.getD v88.At.toNat zA2_I).a0) (W ((x85.2.getD v88.At.toNat zA2_I).a1 + 1)))))] [(2, .c (.pk 2 0)), (5, .c (.own 29 2 0 ((x85.2.set v88.At.toNat (A2_I.mk ((x85.2.getD v88.At.toNat zA2_I).a0) (W ((x85.2.getD v88.At.toNat zA2_I).a1 + 1)))).length))), (31, .c (dat 4 eTUnit zTUnit p1.Units)), (32, cI (p1.Units.length : Int)), (33, cI (W (x85.1 + 1)))] [(2, .var (eTBoard p0) false), (29, .arr 2 ((x85.2.set v88.At.toNat (A2_I.mk ((x85.2.getD v88.At.toNat zA2_I).a0) (W ((x85.2.getD v88.At.toNat zA2_I).a1 + 1)))).length) (fF eA2_I zA2_I (x85.2.set v88.At.toNat (A2_I.mk ((x85.2.getD v88.At.toNat zA2_I).a0) (W ((x85.2.getD v88.At.toNat zA2_I).a1 + 1))))) false)] (fun t => aI (by simp : x85.2.length = (x85.2.set v88.At.toNat (A2_I.mk ((x85.2.getD v88.At.toNat zA2_I).a0) (W ((x85.2.getD v88.At.toNat zA2_I).a1 + 1)))).length) (aI (Nat.le_of_eq (by simp : (x85.2.set v88.At.toNat (A2_I.mk ((x85.2.getD v88.At.toNat zA2_I).a0) (W ((x85.2.getD v88.At.toNat zA2_I).a1 + 1)))).length = x85.2.length)) (aI (fun _ _ => rfl : ∀ i, i < (x85.2.set v88.At.toNat (A2_I.mk ((x85.2.getD v88.At.toNat zA2_I).a0) (W ((x85.2.getD v88.At.toNat zA2_I).a1 + 1)))).length → (fF eA2_I zA2_I (x85.2.set v88.At.toNat (A2_I.mk ((x85.2.getD v88.At.toNat zA2_I).a0) (W ((x85.2.getD v88.At.toNat zA2_I).a1 + 1))))) i = (fF eA2_I zA2_I (x85.2.set v88.At.toNat (A2_I.mk ((x85.2.getD v88.At.toNat zA2_I).a0) (W ((x85.2.getD v88.At.toNat zA2_I).a1 + 1))))) i) (t)))) (by kernel_rfl) ?_
                            obtain rfl := Option.some.inj H
                            exact And.intro rfl rfl
                      · cases H
                  · cases H
          · refine ite_f c87 (by kernel_rfl) ?_
            refine tell [] [] [] (fun t => t) (by kernel_rfl) ?_
            refine ends_exit ?_
            obtain rfl := Option.some.inj H
            exact And.intro (by simp) (And.intro rfl rfl)
        · clear h120
          cases y119 with
          | inl y121 =>
            replace H := ofInl H
            intro e s q
            obtain ⟨rfl, rfl⟩ := q
            change EndsI _ _ _ _ _ _
            refine seq_ops [] [] [(4, cB true)] [] (fun t => t) (by kernel_rfl) ?_
            refine ends_ret ?_
            obtain rfl := Option.some.inj H
            exact And.intro (.inl rfl) rfl
          | inr y122 =>
            replace H := ofInr H
            intro e s q
            obtain ⟨rfl, rfl⟩ := q
            obtain rfl := Option.some.inj H
            exact And.intro (.inl rfl) rfl

def g_Index_int_ir : S :=
 (.seq (.ops [⟨some 4, .mv (.v (.int .i64 0)), none⟩])
 (.seq (.seq (.ops [⟨some 6, .mv (.t 0), none⟩, ⟨some 7, .len (.t 6), none⟩, ⟨some 8, .mv (.v (.int .i64 0)), none⟩])
 (.blk 0 (.loop (.seq (.ops [⟨some 9, .bin .lss (.t 8) (.t 7), none⟩])
   (.seq (.ite (.t 9) .skip
   (.exit 0))
   (.seq (.blk 1 (.seq (.ops [⟨some 10, .mv (.t 8), none⟩, ⟨some 5, .mv (.t 10), none⟩])
    (.seq (.ops [⟨some 11, .mv (.t 1), none⟩, ⟨some 12, .mv (.t 0), none⟩, ⟨some 13, .mv (.t 5), none⟩, ⟨some 14, .iad 1 (.t 12) (.t 13), none⟩, ⟨some 15, .load 1 false (.t 14), none⟩, ⟨some 16, .bin .eql (.t 11) (.t 15), none⟩])
    (.ite (.t 16) (.seq (.ops [⟨some 17, .mv (.t 5), none⟩, ⟨some 4, .mv (.t 17), none⟩])
     .ret)
    .skip))))
   (.ops [⟨some 18, .bin .add (.t 8) (.v (.int .i64 1)), none⟩, ⟨some 8, .mv (.t 18), none⟩])))))))
 (.seq (.ops [⟨some 4, .mv (.v (.int .i64 (-1))), none⟩])
 .ret)))
noncomputable def X.g_Index_int (p0 : (List Int)) (p1 : Int) : Option Int :=
  ((loop (fun (x12 : Int) => ((bif (decide (x12 < (p0.length : Int))) then ((at' zI p0 x12).bind fun v15 => (bif (p1 == v15) then some (Sum.inr (Sum.inr x12)) else some (Sum.inl (W (x12 + 1))))) else some (Sum.inr (Sum.inl ()))) : Option (Int ⊕ (Unit ⊕ Int)))) 0).bind fun y18 => (Sum.elim (fun (y20 : Unit) => some (-1)) (fun (y21 : Int) => some y21) y18))
theorem g_Index_int_ok (p0 : (List Int)) (p1 : Int) (r : Int) (H : X.g_Index_int p0 p1 = some r) : FnOk Tryz.prog gl 149 [.c (dat 1 eI zI p0), cI p1] (cI r) := by
  unfold X.g_Index_int at H
  refine fn_in (fn := Tryz.f149) (ir := g_Index_int_ir) (s1 := lit [(4, cI r)] []) Tryz.func149 (by kernel_rfl) (by kernel_rfl) (by kernel_rfl) (by kernel_rfl) (by kernel_rfl) ?_
  refine seq_ops [] [] [(0, .c (dat 1 eI zI p0)), (1, cI p1)] [] (fun t => t) (by kernel_rfl) ?_
  refine seq_in ?_
  refine seq_ops [] [] [(0, .c (dat 1 eI zI p0)), (1, cI p1), (7, cI (p0.length : Int)), (8, cI 0)] [] (fun t => lI p0 (t)) (by kernel_rfl) ?_
  refine ends_blk ?_
  obtain ⟨y18, h19, H⟩ := ofBind H
  refine loop_in (fun (x : Int) => lit [(0, .c (dat 1 eI zI p0)), (1, cI p1), (7, cI (p0.length : Int)), (8, cI x)] []) (orJ (fun (z : Unit) => At (.exit 0) (lit [] [])) (fun (z : Int) => At .ret (lit [(4, cI z)] []))) h19 ?_ ?_
  · clear H h19
    intro x12 y0 H
    refine seq_ops [] [] [(0, .c (dat 1 eI zI p0)), (1, cI p1), (7, cI (p0.length : Int)), (8, cI x12), (9, cB (decide (x12 < (p0.length : Int))))] [] (fun t => t) (by kernel_rfl) ?_
    refine seq_in ?_
    rcases ofCond H with ⟨c14, H⟩ | ⟨c14, H⟩
    · refine ite_t c14 (by kernel_rfl) ?_
      refine ends_skip ?_
      change EndsI _ _ _ _ _ _
      refine seq_in ?_
      refine ends_blk ?_
      refine seq_ops [] [] [(0, .c (dat 1 eI zI p0)), (1, cI p1), (5, cI x12), (7, cI (p0.length : Int)), (8, cI x12)] [] (fun t => t) (by kernel_rfl) ?_
      obtain ⟨v15, h16, H⟩ := ofBind H
      refine seq_ops [.cs (eI v15)] [] [(0, .c (dat 1 eI zI p0)), (1, cI p1), (5, cI x12), (7, cI (p0.length : Int)), (8, cI x12), (16, cB (p1 == v15))] [] (fun t => aI (at_lt h16) (aI (at_enc (enc := eI) h16) (t))) (by kernel_rfl) ?_
      rcases ofCond H with ⟨c17, H⟩ | ⟨c17, H⟩
      · refine ite_t c17 (by kernel_rfl) ?_
        refine seq_ops [] [] [(4, cI x12)] [] (fun t => t) (by kernel_rfl) ?_
        refine ends_ret ?_
        obtain rfl := Option.some.inj H
        exact And.intro (by simp) (And.intro rfl rfl)
      · refine ite_f c17 (by kernel_rfl) ?_
        refine ends_skip ?_
        change EndsI _ _ _ _ _ _
        refine one_ops [] [] [(0, .c (dat 1 eI zI p0)), (1, cI p1), (7, cI (p0.length : Int)), (8, cI (W (x12 + 1)))] [] (fun t => t) (by kernel_rfl) ?_
        obtain rfl := Option.some.inj H
        exact And.intro rfl rfl
    · refine ite_f c14 (by kernel_rfl) ?_
      refine tell [] [] [] (fun t => t) (by kernel_rfl) ?_
      refine ends_exit ?_
      obtain rfl := Option.some.inj H
      exact And.intro (by simp) (And.intro rfl rfl)
  · clear h19
    cases y18 with
    | inl y20 =>
      replace H := ofInl H
      intro e s q
      obtain ⟨rfl, rfl⟩ := q
      change EndsI _ _ _ _ _ _
      refine seq_ops [] [] [(4, cI (-1))] [] (fun t => t) (by kernel_rfl) ?_
      refine ends_ret ?_
      obtain rfl := Option.some.inj H
      exact And.intro (.inl rfl) rfl
    | inr y21 =>
      replace H := ofInr H
      intro e s q
      obtain ⟨rfl, rfl⟩ := q
      obtain rfl := Option.some.inj H
      exact And.intro (.inl rfl) rfl

def g_Contains_int_ir : S :=
 (.seq (.ops [⟨some 4, .mv (.v (.bool false)), none⟩])
 (.seq (.ops [⟨some 5, .mv (.t 0), none⟩, ⟨some 6, .mv (.t 1), none⟩, ⟨some 7, .call 149 [.t 5, .t 6], none⟩, ⟨some 8, .bin .geq (.t 7) (.v (.int .i64 0)), none⟩, ⟨some 4, .mv (.t 8), none⟩])
 .ret))
noncomputable def X.g_Contains_int (p0 : (List Int)) (p1 : Int) : Option Bool :=
  ((X.g_Index_int p0 p1).bind fun v1 => some (decide (v1 ≥ 0)))
theorem g_Contains_int_ok (p0 : (List Int)) (p1 : Int) (r : Bool) (H : X.g_Contains_int p0 p1 = some r) : FnOk Tryz.prog gl 87 [.c (dat 1 eI zI p0), cI p1] (cB r) := by
  unfold X.g_Contains_int at H
  refine fn_in (fn := Tryz.f87) (ir := g_Contains_int_ir) (s1 := lit [(4, cB r)] []) Tryz.func87 (by kernel_rfl) (by kernel_rfl) (by kernel_rfl) (by kernel_rfl) (by kernel_rfl) ?_
  refine seq_ops [] [] [(0, .c (dat 1 eI zI p0)), (1, cI p1)] [] (fun t => t) (by kernel_rfl) ?_
  obtain ⟨v1, h2, H⟩ := ofBind H
  refine seq_ops [.res (cI v1)] [] [(4, cB (decide (v1 ≥ 0)))] [] (fun t => aI (g_Index_int_ok p0 p1 v1 h2) (t)) (by kernel_rfl) ?_
  refine ends_ret ?_
  obtain rfl := Option.some.inj H
  exact And.intro (.inl rfl) rfl

def i_different_ir : S :=
 (.seq (.ops [⟨some 2, .mv (.v (.bool false)), none⟩])
 (.seq (.seq (.ops [⟨some 5, .mv (.t 0), none⟩, ⟨some 6, .len (.t 5), none⟩, ⟨some 7, .mv (.v (.int .i64 0)), none⟩])
 (.blk 0 (.loop (.seq (.ops [⟨some 8, .bin .lss (.t 7) (.t 6), none⟩])
   (.seq (.ite (.t 8) .skip
   (.exit 0))
   (.seq (.blk 1 (.seq (.ops [⟨some 9, .mv (.t 7), none⟩, ⟨some 10, .iad 1 (.t 5) (.t 7), none⟩, ⟨some 11, .load 1 false (.t 10), none⟩, ⟨some 3, .mv (.t 9), none⟩, ⟨some 4, .mv (.t 11), none⟩])
    (.seq (.ops [⟨some 12, .mv (.t 0), none⟩, ⟨some 13, .mv (.t 3), none⟩, ⟨some 14, .slc 1 (.t 12) none (some (.t 13)), none⟩, ⟨some 15, .mv (.t 4), none⟩, ⟨some 16, .call 87 [.t 14, .t 15], none⟩])
    (.ite (.t 16) (.seq (.ops [⟨some 2, .mv (.v (.bool false)), none⟩])
     .ret)
    .skip))))
   (.ops [⟨some 17, .bin .add (.t 7) (.v (.int .i64 1)), none⟩, ⟨some 7, .mv (.t 17), none⟩])))))))
 (.seq (.ops [⟨some 2, .mv (.v (.bool true)), none⟩])
 .ret)))
noncomputable def X.i_different (p0 : (List Int)) : Option Bool :=
  ((loop (fun (x18 : Int) => ((bif (decide (x18 < (p0.length : Int))) then ((at' zI p0 x18).bind fun v21 => (if 0 ≤ (0 : Int) ∧ (0 : Int) ≤ x18 ∧ x18 ≤ (p0.length : Int) then ((X.g_Contains_int ((p0.drop (0 : Int).toNat).take (x18.toNat - (0 : Int).toNat)) v21).bind fun v24 => (bif v24 then some (Sum.inr (Sum.inr false)) else some (Sum.inl (W (x18 + 1))))) else none)) else some (Sum.inr (Sum.inl ()))) : Option (Int ⊕ (Unit ⊕ Bool)))) 0).bind fun y27 => (Sum.elim (fun (y29 : Unit) => some true) (fun (y30 : Bool) => some y30) y27))
theorem i_different_ok (p0 : (List Int)) (r : Bool) (H : X.i_different p0 = some r) : FnOk Tryz.prog gl 195 [.c (dat 1 eI zI p0)] (cB r) := by
  unfold X.i_different at H
  refine fn_in (fn := Tryz.f195) (ir := i_different_ir) (s1 := lit [(2, cB r)] []) Tryz.func195 (by kernel_rfl) (by kernel_rfl) (by kernel_rfl) (by kernel_rfl) (by kernel_rfl) ?_
  refine seq_ops [] [] [(0, .c (dat 1 eI zI p0))] [] (fun t => t) (by kernel_rfl) ?_
  refine seq_in ?_
  refine seq_ops [] [] [(0, .c (dat 1 eI zI p0)), (5, .c (dat 1 eI zI p0)), (6, cI (p0.length : Int)), (7, cI 0)] [] (fun t => lI p0 (t)) (by kernel_rfl) ?_
  refine ends_blk ?_
  obtain ⟨y27, h28, H⟩ := ofBind H
  refine loop_in (fun (x : Int) => lit [(0, .c (dat 1 eI zI p0)), (5, .c (dat 1 eI zI p0)), (6, cI (p0.length : Int)), (7, cI x)] []) (orJ (fun (z : Unit) => At (.exit 0) (lit [] [])) (fun (z : Bool) => At .ret (lit [(2, cB z)] []))) h28 ?_ ?_
  · clear H h28
    intro x18 y0 H
    refine seq_ops [] [] [(0, .c (dat 1 eI zI p0)), (5, .c (dat 1 eI zI p0)), (6, cI (p0.length : Int)), (7, cI x18), (8, cB (decide (x18 < (p0.length : Int))))] [] (fun t => t) (by kernel_rfl) ?_
    refine seq_in ?_
    rcases ofCond H with ⟨c20, H⟩ | ⟨c20, H⟩
    · refine ite_t c20 (by kernel_rfl) ?_
      refine ends_skip ?_
      change EndsI _ _ _ _ _ _
      refine seq_in ?_
      refine ends_blk ?_
      obtain ⟨v21, h22, H⟩ := ofBind H
      refine seq_ops [.cs (eI v21)] [] [(0, .c (dat 1 eI zI p0)), (3, cI x18), (4, cI v21), (5, .c (dat 1 eI zI p0)), (6, cI (p0.length : Int)), (7, cI x18)] [] (fun t => aI (at_lt h22) (aI (at_enc (enc := eI) h22) (t))) (by kernel_rfl) ?_
      obtain ⟨g23, H⟩ := ofIf H
      obtain ⟨v24, h25, H⟩ := ofBind H
      refine seq_ops [.fn ((p0.drop (0 : Int).toNat).take (x18.toNat - (0 : Int).toNat)).length (fF eI zI ((p0.drop (0 : Int).toNat).take (x18.toNat - (0 : Int).toNat))), .res (cB v24)] [] [(0, .c (dat 1 eI zI p0)), (5, .c (dat 1 eI zI p0)), (6, cI (p0.length : Int)), (7, cI x18), (16, cB v24)] [] (fun t => aI g23 (aI (len_drop p0 (0 : Int) x18 g23) (aI (fF_drop eI zI p0 (0 : Int) x18 g23) (aI (g_Contains_int_ok ((p0.drop (0 : Int).toNat).take (x18.toNat - (0 : Int).toNat)) v21 v24 h25) (t))))) (by kernel_rfl) ?_
      rcases ofCond H with ⟨c26, H⟩ | ⟨c26, H⟩
      · refine ite_t c26 (by kernel_rfl) ?_
        refine seq_ops [] [] [(2, cB false)] [] (fun t => t) (by kernel_rfl) ?_
        refine ends_ret ?_
        obtain rfl := Option.some.inj H
        exact And.intro (by simp) (And.intro rfl rfl)
      · refine ite_f c26 (by kernel_rfl) ?_
        refine ends_skip ?_
        change EndsI _ _ _ _ _ _
        refine one_ops [] [] [(0, .c (dat 1 eI zI p0)), (5, .c (dat 1 eI zI p0)), (6, cI (p0.length : Int)), (7, cI (W (x18 + 1)))] [] (fun t => t) (by kernel_rfl) ?_
        obtain rfl := Option.some.inj H
        exact And.intro rfl rfl
    · refine ite_f c20 (by kernel_rfl) ?_
      refine tell [] [] [] (fun t => t) (by kernel_rfl) ?_
      refine ends_exit ?_
      obtain rfl := Option.some.inj H
      exact And.intro (by simp) (And.intro rfl rfl)
  · clear h28
    cases y27 with
    | inl y29 =>
      replace H := ofInl H
      intro e s q
      obtain ⟨rfl, rfl⟩ := q
      change EndsI _ _ _ _ _ _
      refine seq_ops [] [] [(2, cB true)] [] (fun t => t) (by kernel_rfl) ?_
      refine ends_ret ?_
      obtain rfl := Option.some.inj H
      exact And.intro (.inl rfl) rfl
    | inr y30 =>
      replace H := ofInr H
      intro e s q
      obtain ⟨rfl, rfl⟩ := q
      obtain rfl := Option.some.inj H
      exact And.intro (.inl rfl) rfl

def i_goodMachine_1_ir : S :=
 (.seq (.ops [⟨some 3, .mv (.v (.bool false)), none⟩])
 (.seq (.ops [⟨some 4, .mv (.t 0), none⟩, ⟨some 5, .load 1 false (.t 1), none⟩, ⟨some 6, .len (.t 5), none⟩, ⟨some 7, .call 82 [.t 4, .t 6], none⟩, ⟨some 8, .not (.t 7), none⟩, ⟨some 3, .mv (.t 8), none⟩])
 .ret))
noncomputable def X.i_goodMachine_1 (p0 : Int) (p1 : (List TReaction)) : Option Bool :=
  ((X.i_isIndex p0 (p1.length : Int)).bind fun v1 => some (!v1))
theorem i_goodMachine_1_ok (p0 : Int) (p1 : (List TReaction)) (r : Bool) (H : X.i_goodMachine_1 p0 p1 = some r) : FnOk Tryz.prog gl 196 [cI p0, .c (.pd (eLTReaction p1) 0)] (cB r) := by
  unfold X.i_goodMachine_1 at H
  refine fn_in (fn := Tryz.f196) (ir := i_goodMachine_1_ir) (s1 := lit [(3, cB r)] []) Tryz.func196 (by kernel_rfl) (by kernel_rfl) (by kernel_rfl) (by kernel_rfl) (by kernel_rfl) ?_
  refine seq_ops [] [] [(0, cI p0), (1, .c (.pd (eLTReaction p1) 0))] [] (fun t => t) (by kernel_rfl) ?_
  obtain ⟨v1, h2, H⟩ := ofBind H
  refine seq_ops [.res (cB v1)] [] [(3, cB (!v1))] [] (fun t => lI p1 (aI (i_isIndex_ok p0 (p1.length : Int) v1 h2) (t))) (by kernel_rfl) ?_
  refine ends_ret ?_
  obtain rfl := Option.some.inj H
  exact And.intro (.inl rfl) rfl

def i_goodMachine_2_ir : S :=
 (.seq (.ops [⟨some 3, .mv (.v (.bool false)), none⟩])
 (.seq (.ops [⟨some 4, .mv (.t 0), none⟩, ⟨some 5, .load 1 false (.t 1), none⟩, ⟨some 6, .len (.t 5), none⟩, ⟨some 7, .bin .sub (.t 6) (.v (.int .i64 1)), none⟩, ⟨some 8, .call 130 [.t 4, .v (.int .i64 (-1)), .t 7], none⟩, ⟨some 9, .not (.t 8), none⟩, ⟨some 3, .mv (.t 9), none⟩])
 .ret))
noncomputable def X.i_goodMachine_2 (p0 : Int) (p1 : (List TReaction)) : Option Bool :=
  ((X.i_inRange p0 (-1) (W ((p1.length : Int) - 1))).bind fun v1 => some (!v1))
theorem i_goodMachine_2_ok (p0 : Int) (p1 : (List TReaction)) (r : Bool) (H : X.i_goodMachine_2 p0 p1 = some r) : FnOk Tryz.prog gl 197 [cI p0, .c (.pd (eLTReaction p1) 0)] (cB r) := by
  unfold X.i_goodMachine_2 at H
  refine fn_in (fn := Tryz.f197) (ir := i_goodMachine_2_ir) (s1 := lit [(3, cB r)] []) Tryz.func197 (by kernel_rfl) (by kernel_rfl) (by kernel_rfl) (by kernel_rfl) (by kernel_rfl) ?_
  refine seq_ops [] [] [(0, cI p0), (1, .c (.pd (eLTReaction p1) 0))] [] (fun t => t) (by kernel_rfl) ?_
  obtain ⟨v1, h2, H⟩ := ofBind H
  refine seq_ops [.res (cB v1)] [] [(3, cB (!v1))] [] (fun t => lI p1 (aI (i_inRange_ok p0 (-1) (W ((p1.length : Int) - 1)) v1 h2) (t))) (by kernel_rfl) ?_
  refine ends_ret ?_
  obtain rfl := Option.some.inj H
  exact And.intro (.inl rfl) rfl

def i_goodStack_ir : S :=
 (.seq (.ops [⟨some 2, .box 12 (.t 0), none⟩, ⟨some 3, .box 6 (.t 1), none⟩, ⟨some 4, .mv (.v (.bool false)), none⟩])
 (.seq (.ops [⟨some 8, .bsl 1 [], none⟩, ⟨some 5, .mv (.t 8), none⟩])
 (.seq (.seq (.ops [⟨some 9, .fad 0 (.t 3), none⟩, ⟨some 10, .load 1 false (.t 9), none⟩, ⟨some 11, .len (.t 10), none⟩, ⟨some 12, .mv (.v (.int .i64 0)), none⟩])
 (.blk 0 (.loop (.seq (.ops [⟨some 13, .bin .lss (.t 12) (.t 11), none⟩])
   (.seq (.ite (.t 13) .skip
   (.exit 0))
   (.seq (.blk 1 (.seq (.ops [⟨some 14, .mv (.t 12), none⟩, ⟨some 15, .iad 3 (.t 10) (.t 12), none⟩, ⟨some 16, .load 3 true (.t 15), none⟩, ⟨some 7, .alloc [.int .i64 0, .int .i64 0, .int .i64 0], none⟩, ⟨some 6, .mv (.t 14), none⟩, ⟨none, .store 3 (.t 7) (.t 16), none⟩])
    (.seq (.seq (.draw 16 [⟨some 17, .fad 0 (.t 7), none⟩, ⟨some 18, .load 1 false (.t 17), none⟩, ⟨some 19, .fad 2 (.t 3), none⟩, ⟨some 20, .fad 2 (.t 19), none⟩, ⟨some 21, .load 1 false (.t 20), none⟩, ⟨some 22, .len (.t 21), none⟩, ⟨some 23, .call 82 [.t 18, .t 22], none⟩, ⟨some 24, .not (.t 23), none⟩, ⟨some 25, .mv (.t 24), none⟩, ⟨some 26, .fad 1 (.t 7), some (25, false)⟩, ⟨some 27, .load 1 false (.t 26), some (25, false)⟩, ⟨some 28, .load 12 true (.t 2), some (25, false)⟩, ⟨some 29, .call 83 [.t 28], some (25, false)⟩, ⟨some 30, .call 82 [.t 27, .t 29], some (25, false)⟩, ⟨some 31, .not (.t 30), some (25, false)⟩, ⟨some 32, .pick (.t 25) (.v (.bool true)) (.t 31), none⟩])
    (.ite (.t 32) (.seq (.ops [⟨some 4, .mv (.v (.bool false)), none⟩])
     .ret)
    .skip))
    (.seq (.seq (.ops [⟨some 33, .mv (.t 6), none⟩, ⟨some 34, .bin .eql (.t 33) (.v (.int .i64 0)), none⟩])
    (.ite (.t 34) (.seq (.seq (.ops [⟨some 35, .fad 2 (.t 7), none⟩, ⟨some 36, .load 1 false (.t 35), none⟩, ⟨some 37, .bin .neq (.t 36) (.v (.int .i64 (-1))), none⟩])
     (.ite (.t 37) (.seq (.ops [⟨some 4, .mv (.v (.bool false)), none⟩])
      .ret)
     .skip))
     (.exit 1))
    .skip))
    (.seq (.seq (.ops [⟨some 38, .fad 1 (.t 3), none⟩, ⟨some 39, .load 1 false (.t 38), none⟩, ⟨some 40, .fad 2 (.t 7), none⟩, ⟨some 41, .load 1 false (.t 40), none⟩, ⟨some 42, .call 87 [.t 39, .t 41], none⟩, ⟨some 43, .not (.t 42), none⟩])
    (.ite (.t 43) (.seq (.ops [⟨some 4, .mv (.v (.bool false)), none⟩])
     .ret)
    .skip))
    (.ops [⟨some 44, .mv (.t 5), none⟩, ⟨some 45, .fad 2 (.t 7), none⟩, ⟨some 46, .load 1 false (.t 45), none⟩, ⟨some 47, .bsl 1 [.t 46], none⟩, ⟨some 48, .app 1 8 (.t 44) (.t 47), none⟩, ⟨some 5, .mv (.t 48), none⟩]))))))
   (.ops [⟨some 49, .bin .add (.t 12) (.v (.int .i64 1)), none⟩, ⟨some 12, .mv (.t 49), none⟩])))))))
 (.seq (.ops [⟨some 50, .mv (.t 5), none⟩, ⟨some 51, .call 195 [.t 50], none⟩, ⟨some 4, .mv (.t 51), none⟩])
 .ret))))
noncomputable def X.i_goodStack (p0 : TBoard) (p1 : TMachine) : Option Bool :=
  ((loop (fun (x58 : (Int × (List Int))) => ((bif (decide (x58.1 < (p1.Stack.length : Int))) then ((at' zTFrame p1.Stack x58.1).bind fun v61 => ((X.i_isIndex v61.Unit (p1.State.Units.length : Int)).bind fun v71 => (bif (!v71) then some (Sum.inr (Sum.inr false)) else ((X.i_sizeOf p0).bind fun v74 => ((X.i_isIndex v61.At v74).bind fun v76 => (bif (!v76) then some (Sum.inr (Sum.inr false)) else (bif (x58.1 == 0) then (bif (v61.By != (-1)) then some (Sum.inr (Sum.inr false)) else some (Sum.inl ((W (x58.1 + 1)), x58.2))) else ((X.g_Contains_int p1.Used v61.By).bind fun v83 => (bif (!v83) then some (Sum.inr (Sum.inr false)) else (if (x58.2 ++ ([v61.By] : List Int)).length ≤ LIM then some (Sum.inl ((W (x58.1 + 1)), (x58.2 ++ ([v61.By] : List Int)))) else none)))))))))) else some (Sum.inr (Sum.inl x58.2))) : Option ((Int × (List Int)) ⊕ ((List Int) ⊕ Bool)))) (0, ([] : List Int))).bind fun y87 => (Sum.elim (fun (y89 : (List Int)) => ((X.i_different y89).bind fun v91 => some v91)) (fun (y90 : Bool) => some y90) y87))
theorem i_goodStack_ok (p0 : TBoard) (p1 : TMachine) (r : Bool) (H : X.i_goodStack p0 p1 = some r) : FnOk Tryz.prog gl 198 [.agg (eTBoard p0), .agg (eTMachine p1)] (cB r) := by
  unfold X.i_goodStack at H
  refine fn_in (fn := Tryz.f198) (ir := i_goodStack_ir) (s1 := lit [(4, cB r)] []) Tryz.func198 (by kernel_rfl) (by kernel_rfl) (by kernel_rfl) (by kernel_rfl) (by kernel_rfl) ?_
  refine seq_ops [] [] [(2, .c (.pk 2 0)), (3, .c (.pk 3 0))] [(2, .var (eTBoard p0) false), (3, .var (eTMachine p1) false)] (fun t => t) (by kernel_rfl) ?_
  refine seq_ops [.fn ([] : List Int).length (fF eI zI ([] : List Int))] [] [(2, .c (.pk 2 0)), (3, .c (.pk 3 0)), (5, .c (.own 8 1 0 (([] : List Int).length)))] [(2, .var (eTBoard p0) false), (3, .var (eTMachine p1) false), (8, .arr 1 (([] : List Int).length) (fF eI zI ([] : List Int)) false)] (fun t => aI (rfl : ([] : List Int).length = 0) (aI (fF_lit eI zI ([] : List Int)) (t))) (by kernel_rfl) ?_
  refine seq_in ?_
  refine seq_ops [] [] [(2, .c (.pk 2 0)), (3, .c (.pk 3 0)), (5, .c (.own 8 1 0 (([] : List Int).length))), (10, .c (dat 3 eTFrame zTFrame p1.Stack)), (11, cI (p1.Stack.length : Int)), (12, cI 0)] [(2, .var (eTBoard p0) false), (3, .var (eTMachine p1) false), (8, .arr 1 (([] : List Int).length) (fF eI zI ([] : List Int)) false)] (fun t => lI p1.Stack (t)) (by kernel_rfl) ?_
  refine ends_blk ?_
  obtain ⟨y87, h88, H⟩ := ofBind H
  refine tell [.ren 8 1001] [(2, .c (.pk 2 0)), (3, .c (.pk 3 0)), (5, .c (.own 1001 1 0 (([] : List Int).length))), (10, .c (dat 3 eTFrame zTFrame p1.Stack)), (11, cI (p1.Stack.length : Int)), (12, cI 0)] [(2, .var (eTBoard p0) false), (3, .var (eTMachine p1) false), (1001, .arr 1 (([] : List Int).length) (fF eI zI ([] : List Int)) false)] (fun t => t) (by kernel_rfl) ?_
  refine loop_in (fun (x : (Int × (List Int))) => lit [(2, .c (.pk 2 0)), (3, .c (.pk 3 0)), (5, .c (.own 1001 1 0 x.2.length)), (10, .c (dat 3 eTFrame zTFrame p1.Stack)), (11, cI (p1.Stack.length : Int)), (12, cI x.1)] [(2, .var (eTBoard p0) false), (3, .var (eTMachine p1) false), (1001, .arr 1 x.2.length (fF eI zI x.2) false)]) (orJ (fun (z : (List Int)) => At (.exit 0) (lit [(5, .c (.own 1001 1 0 z.length))] [(1001, .arr 1 z.length (fF eI zI z) false)])) (fun (z : Bool) => At .ret (lit [(4, cB z)] []))) h88 ?_ ?_
  · clear H h88
    intro x58 y0 H
    refine seq_ops [] [] [(2, .c (.pk 2 0)), (3, .c (.pk 3 0)), (5, .c (.own 1001 1 0 x58.2.length)), (10, .c (dat 3 eTFrame zTFrame p1.Stack)), (11, cI (p1.Stack.length : Int)), (12, cI x58.1), (13, cB (decide (x58.1 < (p1.Stack.length : Int))))] [(2, .var (eTBoard p0) false), (3, .var (eTMachine p1) false), (1001, .arr 1 x58.2.length (fF eI zI x58.2) false)] (fun t => t) (by kernel_rfl) ?_
    refine seq_in ?_
    rcases ofCond H with ⟨c60, H⟩ | ⟨c60, H⟩
    · refine ite_t c60 (by kernel_rfl) ?_
      refine ends_skip ?_
      change EndsI _ _ _ _ _ _
      refine seq_in ?_
      refine ends_blk ?_
      obtain ⟨v61, h62, H⟩ := ofBind H
      refine seq_ops [.cs (eTFrame v61)] [] [(2, .c (.pk 2 0)), (3, .c (.pk 3 0)), (5, .c (.own 1001 1 0 x58.2.length)), (6, cI x58.1), (7, .c (.pk 7 0)), (10, .c (dat 3 eTFrame zTFrame p1.Stack)), (11, cI (p1.Stack.length : Int)), (12, cI x58.1)] [(2, .var (eTBoard p0) false), (3, .var (eTMachine p1) false), (7, .var (eTFrame v61) false), (1001, .arr 1 x58.2.length (fF eI zI x58.2) false)] (fun t => aI (at_lt h62) (aI (at_enc (enc := eTFrame) h62) (t))) (by kernel_rfl) ?_
      refine seq_in ?_
      obtain ⟨v71, h72, H⟩ := ofBind H
      rcases ofCond H with ⟨c73, H⟩ | ⟨c73, H⟩
      · refine seq_draw [.res (cB v71), .g true, .g true, .g true, .g true, .g true, .g true, .g true] [] [(2, .c (.pk 2 0)), (3, .c (.pk 3 0)), (5, .c (.own 1001 1 0 x58.2.length)), (6, cI x58.1), (7, .c (.pk 7 0)), (10, .c (dat 3 eTFrame zTFrame p1.Stack)), (11, cI (p1.Stack.length : Int)), (12, cI x58.1), (32, cB true)] [(2, .var (eTBoard p0) false), (3, .var (eTMachine p1) false), (7, .var (eTFrame v61) false), (1001, .arr 1 x58.2.length (fF eI zI x58.2) false)] (fun t => aI (i_isIndex_ok v61.Unit (p1.State.Units.length : Int) v71 h72) (aI trivial (aI (rfl : ([] : List Nat) = []) (aI c73 (aI c73 (aI c73 (aI c73 (aI c73 (aI c73 (aI c73 (t))))))))))) (by kernel_rfl) ?_
        refine ite_t (rfl : (true : Bool) = true) (by kernel_rfl) ?_
        refine seq_ops [] [] [(4, cB false)] [] (fun t => t) (by kernel_rfl) ?_
        refine ends_ret ?_
        obtain rfl := Option.some.inj H
        exact And.intro (by simp) (And.intro rfl rfl)
      · obtain ⟨v74, h75, H⟩ := ofBind H
        obtain ⟨v76, h77, H⟩ := ofBind H
        refine seq_draw [.res (cB v71), .g false, .g false, .g false, .g false, .res (cI v74), .g false, .res (cB v76), .g false, .g false] [] [(2, .c (.pk 2 0)), (3, .c (.pk 3 0)), (5, .c (.own 1001 1 0 x58.2.length)), (6, cI x58.1), (7, .c (.pk 7 0)), (10, .c (dat 3 eTFrame zTFrame p1.Stack)), (11, cI (p1.Stack.length : Int)), (12, cI x58.1), (32, cB (!v76))] [(2, .var (eTBoard p0) false), (3, .var (eTMachine p1) false), (7, .var (eTFrame v61) false), (1001, .arr 1 x58.2.length (fF eI zI x58.2) false)] (fun t => aI (i_isIndex_ok v61.Unit (p1.State.Units.length : Int) v71 h72) (aI trivial (aI (rfl : ([] : List Nat) = []) (aI c73 (aI c73 (aI c73 (aI c73 (aI (i_sizeOf_ok p0 v74 h75) (aI trivial (aI (rfl : ([] : List Nat) = []) (aI c73 (aI (i_isIndex_ok v61.At v74 v76 h77) (aI trivial (aI (rfl : ([] : List Nat) = []) (aI c73 (aI c73 (t))))))))))))))))) (by kernel_rfl) ?_
        rcases ofCond H with ⟨c78, H⟩ | ⟨c78, H⟩
        · refine ite_t c78 (by kernel_rfl) ?_
          refine seq_ops [] [] [(4, cB false)] [] (fun t => t) (by kernel_rfl) ?_
          refine ends_ret ?_
          obtain rfl := Option.some.inj H
          exact And.intro (by simp) (And.intro rfl rfl)
        · refine ite_f c78 (by kernel_rfl) ?_
          refine ends_skip ?_
          change EndsI _ _ _ _ _ _
          refine seq_in ?_
          refine seq_ops [] [] [(2, .c (.pk 2 0)), (3, .c (.pk 3 0)), (5, .c (.own 1001 1 0 x58.2.length)), (7, .c (.pk 7 0)), (10, .c (dat 3 eTFrame zTFrame p1.Stack)), (11, cI (p1.Stack.length : Int)), (12, cI x58.1), (34, cB (x58.1 == 0))] [(2, .var (eTBoard p0) false), (3, .var (eTMachine p1) false), (7, .var (eTFrame v61) false), (1001, .arr 1 x58.2.length (fF eI zI x58.2) false)] (fun t => t) (by kernel_rfl) ?_
          rcases ofCond H with ⟨c81, H⟩ | ⟨c81, H⟩
          · refine ite_t c81 (by kernel_rfl) ?_
            refine seq_in ?_
            refine seq_ops [] [] [(2, .c (.pk 2 0)), (3, .c (.pk 3 0)), (5, .c (.own 1001 1 0 x58.2.length)), (10, .c (dat 3 eTFrame zTFrame p1.Stack)), (11, cI (p1.Stack.length : Int)), (12, cI x58.1), (37, cB (v61.By != (-1)))] [(2, .var (eTBoard p0) false), (3, .var (eTMachine p1) false), (1001, .arr 1 x58.2.length (fF eI zI x58.2) false)] (fun t => t) (by kernel_rfl) ?_
            rcases ofCond H with ⟨c82, H⟩ | ⟨c82, H⟩
            · refine ite_t c82 (by kernel_rfl) ?_
              refine seq_ops [] [] [(4, cB false)] [] (fun t => t) (by kernel_rfl) ?_
              refine ends_ret ?_
              obtain rfl := Option.some.inj H
              exact And.intro (by simp) (And.intro rfl rfl)
            · refine ite_f c82 (by kernel_rfl) ?_
              refine ends_skip ?_
              change EndsI _ _ _ _ _ _
              refine ends_exit ?_
              change EndsI _ _ _ _ _ _
              refine one_ops [] [] [(2, .c (.pk 2 0)), (3, .c (.pk 3 0)), (5, .c (.own 1001 1 0 x58.2.length)), (10, .c (dat 3 eTFrame zTFrame p1.Stack)), (11, cI (p1.Stack.length : Int)), (12, cI (W (x58.1 + 1)))] [(2, .var (eTBoard p0) false), (3, .var (eTMachine p1) false), (1001, .arr 1 x58.2.length (fF eI zI x58.2) false)] (fun t => t) (by kernel_rfl) ?_
              obtain rfl := Option.some.inj H
              exact And.intro rfl rfl
          · refine ite_f c81 (by kernel_rfl) ?_
            refine ends_skip ?_
            change EndsI _ _ _ _ _ _
            refine seq_in ?_
            obtain ⟨v83, h84, H⟩ := ofBind H
            refine seq_ops [.res (cB v83)] [] [(2, .c (.pk 2 0)), (3, .c (.pk 3 0)), (5, .c (.own 1001 1 0 x58.2.length)), (7, .c (.pk 7 0)), (10, .c (dat 3 eTFrame zTFrame p1.Stack)), (11, cI (p1.Stack.length : Int)), (12, cI x58.1), (43, cB (!v83))] [(2, .var (eTBoard p0) false), (3, .var (eTMachine p1) false), (7, .var (eTFrame v61) false), (1001, .arr 1 x58.2.length (fF eI zI x58.2) false)] (fun t => aI (g_Contains_int_ok p1.Used v61.By v83 h84) (t)) (by kernel_rfl) ?_
            rcases ofCond H with ⟨c85, H⟩ | ⟨c85, H⟩
            · refine ite_t c85 (by kernel_rfl) ?_
              refine seq_ops [] [] [(4, cB false)] [] (fun t => t) (by kernel_rfl) ?_
              refine ends_ret ?_
              obtain rfl := Option.some.inj H
              exact And.intro (by simp) (And.intro rfl rfl)
            · refine ite_f c85 (by kernel_rfl) ?_
              refine ends_skip ?_
              change EndsI _ _ _ _ _ _
              obtain ⟨g86, H⟩ := ofIf H
              refine one_ops [.fn ([v61.By] : List Int).length (fF eI zI ([v61.By] : List Int)), .fn (x58.2 ++ ([v61.By] : List Int)).length (fF eI zI (x58.2 ++ ([v61.By] : List Int)))] [] [(2, .c (.pk 2 0)), (3, .c (.pk 3 0)), (5, .c (.own 48 1 0 ((x58.2 ++ ([v61.By] : List Int)).length))), (10, .c (dat 3 eTFrame zTFrame p1.Stack)), (11, cI (p1.Stack.length : Int)), (12, cI x58.1)] [(2, .var (eTBoard p0) false), (3, .var (eTMachine p1) false), (48, .arr 1 ((x58.2 ++ ([v61.By] : List Int)).length) (fF eI zI (x58.2 ++ ([v61.By] : List Int))) false)] (fun t => aI (rfl : ([v61.By] : List Int).length = 1) (aI (fF_lit eI zI ([v61.By] : List Int)) (aI (And.intro (Nat.le_refl x58.2.length) (And.intro (@List.length_append _ x58.2 ([v61.By] : List Int)) g86)) (aI (fF_appL eI zI x58.2 ([v61.By] : List Int)) (aI (fF_appR eI zI x58.2 ([v61.By] : List Int)) (t)))))) (by kernel_rfl) ?_
              change EndsI _ _ _ _ _ _
              refine one_ops [] [.ren 48 1001] [(2, .c (.pk 2 0)), (3, .c (.pk 3 0)), (5, .c (.own 1001 1 0 ((x58.2 ++ ([v61.By] : List Int)).length))), (10, .c (dat 3 eTFrame zTFrame p1.Stack)), (11, cI (p1.Stack.length : Int)), (12, cI (W (x58.1 + 1)))] [(2, .var (eTBoard p0) false), (3, .var (eTMachine p1) false), (1001, .arr 1 ((x58.2 ++ ([v61.By] : List Int)).length) (fF eI zI (x58.2 ++ ([v61.By] : List Int))) false)] (fun t => t) (by kernel_rfl) ?_
              obtain rfl := Option.some.inj H
              exact And.intro rfl rfl
    · refine ite_f c60 (by kernel_rfl) ?_
      refine tell [] [(5, .c (.own 1001 1 0 x58.2.length))] [(1001, .arr 1 x58.2.length (fF eI zI x58.2) false)] (fun t => t) (by kernel_rfl) ?_
      refine ends_exit ?_
      obtain rfl := Option.some.inj H
      exact And.intro (by simp) (And.intro rfl rfl)
  · clear h88
    cases y87 with
    | inl y89 =>
      replace H := ofInl H
      intro e s q
      obtain ⟨rfl, rfl⟩ := q
      change EndsI _ _ _ _ _ _
      obtain ⟨v91, h92, H⟩ := ofBind H
      refine seq_ops [.res (cB v91)] [] [(4, cB v91)] [] (fun t => aI (Nat.le_refl y89.length) (aI (i_different_ok y89 v91 h92) (t))) (by kernel_rfl) ?_
      refine ends_ret ?_
      obtain rfl := Option.some.inj H
      exact And.intro (.inl rfl) rfl
    | inr y90 =>
      replace H := ofInr H
      intro e s q
      obtain ⟨rfl, rfl⟩ := q
      obtain rfl := Option.some.inj H
      exact And.intro (.inl rfl) rfl

def i_goodMachine_ir : S :=
 (.seq (.ops [⟨some 3, .box 12 (.t 0), none⟩, ⟨some 4, .box 1 (.t 1), none⟩, ⟨some 5, .box 6 (.t 2), none⟩, ⟨some 6, .mv (.v (.bool false)), none⟩])
 (.seq (.seq (.ops [⟨some 7, .load 12 true (.t 3), none⟩, ⟨some 8, .fad 2 (.t 5), none⟩, ⟨some 9, .load 3 true (.t 8), none⟩, ⟨some 10, .call 98 [.t 7, .t 9], none⟩, ⟨some 11, .not (.t 10), none⟩, ⟨some 12, .mv (.t 11), none⟩, ⟨some 13, .load 12 true (.t 3), some (12, false)⟩, ⟨some 14, .fad 2 (.t 5), some (12, false)⟩, ⟨some 15, .load 3 true (.t 14), some (12, false)⟩, ⟨some 16, .load 1 false (.t 4), some (12, false)⟩, ⟨some 17, .call 84 [.t 13, .t 15, .t 16], some (12, false)⟩, ⟨some 18, .not (.t 17), some (12, false)⟩, ⟨some 19, .pick (.t 12) (.v (.bool true)) (.t 18), none⟩, ⟨some 20, .mv (.t 19), none⟩, ⟨some 21, .fad 1 (.t 5), some (20, false)⟩, ⟨some 22, .load 1 false (.t 21), some (20, false)⟩, ⟨some 23, .call 195 [.t 22], some (20, false)⟩, ⟨some 24, .not (.t 23), some (20, false)⟩, ⟨some 25, .pick (.t 20) (.v (.bool true)) (.t 24), none⟩])
 (.ite (.t 25) (.seq (.ops [⟨some 6, .mv (.v (.bool false)), none⟩])
  .ret)
 .skip))
 (.seq (.seq (.ops [⟨some 26, .fad 1 (.t 5), none⟩, ⟨some 27, .load 1 false (.t 26), none⟩, ⟨some 28, .clo 196 [.t 4], none⟩, ⟨some 29, .call 193 [.t 27, .t 28], none⟩, ⟨some 30, .mv (.t 29), none⟩, ⟨some 31, .fad 5 (.t 5), some (30, false)⟩, ⟨some 32, .load 1 false (.t 31), some (30, false)⟩, ⟨some 33, .clo 197 [.t 4], some (30, false)⟩, ⟨some 34, .call 193 [.t 32, .t 33], some (30, false)⟩, ⟨some 35, .pick (.t 30) (.v (.bool true)) (.t 34), none⟩])
 (.ite (.t 35) (.seq (.ops [⟨some 6, .mv (.v (.bool false)), none⟩])
  .ret)
 .skip))
 (.seq (.ops [⟨some 36, .load 12 true (.t 3), none⟩, ⟨some 37, .load 6 true (.t 5), none⟩, ⟨some 38, .call 198 [.t 36, .t 37], none⟩, ⟨some 39, .mv (.t 38), none⟩, ⟨some 40, .fad 0 (.t 5), some (39, true)⟩, ⟨some 41, .load 1 false (.t 40), some (39, true)⟩, ⟨some 42, .len (.t 41), some (39, true)⟩, ⟨some 43, .fad 5 (.t 5), some (39, true)⟩, ⟨some 44, .load 1 false (.t 43), some (39, true)⟩, ⟨some 45, .len (.t 44), some (39, true)⟩, ⟨some 46, .bin .add (.t 42) (.t 45), some (39, true)⟩, ⟨some 47, .fad 1 (.t 5), some (39, true)⟩, ⟨some 48, .load 1 false (.t 47), some (39, true)⟩, ⟨some 49, .len (.t 48), some (39, true)⟩, ⟨some 50, .bin .add (.t 49) (.v (.int .i64 1)), some (39, true)⟩, ⟨some 51, .bin .leq (.t 46) (.t 50), some (39, true)⟩, ⟨some 52, .pick (.t 39) (.t 51) (.v (.bool false)), none⟩, ⟨some 6, .mv (.t 52), none⟩])
 .ret))))
noncomputable def X.i_goodMachine (p0 : TBoard) (p1 : (List TReaction)) (p2 : TMachine) : Option Bool :=
  ((X.i_goodState p0 p2.State).bind fun v10 => (bif (!v10) then some false else ((X.i_goodReactions p0 p2.State p1).bind fun v13 => (bif (!v13) then some false else ((X.i_different p2.Used).bind fun v16 => (bif (!v16) then some false else ((X.g_ContainsFunc_int p2.Used (fun q0 => X.i_goodMachine_1 q0 p1)).bind fun v25 => (bif v25 then some false else ((X.g_ContainsFunc_int p2.Log (fun q0 => X.i_goodMachine_2 q0 p1)).bind fun v28 => (bif v28 then some false else ((X.i_goodStack p0 p2).bind fun v31 => (bif v31 then some (decide ((W ((p2.Stack.length : Int) + (p2.Log.length : Int))) ≤ (W ((p2.Used.length : Int) + 1)))) else some false))))))))))))
theorem i_goodMachine_ok (p0 : TBoard) (p1 : (List TReaction)) (p2 : TMachine) (r : Bool) (H : X.i_goodMachine p0 p1 p2 = some r) : FnOk Tryz.prog gl 138 [.agg (eTBoard p0), .c (dat 3 eTReaction zTReaction p1), .agg (eTMachine p2)] (cB r) := by
  unfold X.i_goodMachine at H
  refine fn_in (fn := Tryz.f138) (ir := i_goodMachine_ir) (s1 := lit [(6, cB r)] []) Tryz.func138 (by kernel_rfl) (by kernel_rfl) (by kernel_rfl) (by kernel_rfl) (by kernel_rfl) ?_
  refine seq_ops [] [] [(3, .c (.pk 3 0)), (4, .c (.pk 4 0)), (5, .c (.pk 5 0))] [(3, .var (eTBoard p0) false), (4, .var [dat 3 eTReaction zTReaction p1] false), (5, .var (eTMachine p2) false)] (fun t => t) (by kernel_rfl) ?_
  refine seq_in ?_
  obtain ⟨v10, h11, H⟩ := ofBind H
  rcases ofCond H with ⟨c12, H⟩ | ⟨c12, H⟩
  · refine seq_ops [.res (cB v10), .g true, .g true, .g true, .g true, .g true, .g true, .g true, .g true, .g true, .g true, .g true, .g true] [] [(3, .c (.pk 3 0)), (4, .c (.pk 4 0)), (5, .c (.pk 5 0)), (25, cB true)] [(3, .var (eTBoard p0) false), (4, .var [dat 3 eTReaction zTReaction p1] false), (5, .var (eTMachine p2) false)] (fun t => aI (i_goodState_ok p0 p2.State v10 h11) (aI c12 (aI c12 (aI c12 (aI c12 (aI c12 (aI c12 (aI c12 (aI (rfl : (true : Bool) = true) (aI (rfl : (true : Bool) = true) (aI (rfl : (true : Bool) = true) (aI (rfl : (true : Bool) = true) (aI (rfl : (true : Bool) = true) (t)))))))))))))) (by kernel_rfl) ?_
    refine ite_t (rfl : (true : Bool) = true) (by kernel_rfl) ?_
    refine seq_ops [] [] [(6, cB false)] [] (fun t => t) (by kernel_rfl) ?_
    refine ends_ret ?_
    obtain rfl := Option.some.inj H
    exact And.intro (.inl rfl) rfl
  · obtain ⟨v13, h14, H⟩ := ofBind H
    rcases ofCond H with ⟨c15, H⟩ | ⟨c15, H⟩
    · refine seq_ops [.res (cB v10), .g false, .g false, .g false, .g false, .g false, .res (cB v13), .g false, .g false, .g true, .g true, .g true, .g true, .g true] [] [(3, .c (.pk 3 0)), (4, .c (.pk 4 0)), (5, .c (.pk 5 0)), (25, cB true)] [(3, .var (eTBoard p0) false), (4, .var [dat 3 eTReaction zTReaction p1] false), (5, .var (eTMachine p2) false)] (fun t => aI (i_goodState_ok p0 p2.State v10 h11) (aI c12 (aI c12 (aI c12 (aI c12 (aI c12 (aI (i_goodReactions_ok p0 p2.State p1 v13 h14) (aI c12 (aI c12 (aI c15 (aI c15 (aI c15 (aI c15 (aI c15 (t))))))))))))))) (by kernel_rfl) ?_
      refine ite_t (rfl : (true : Bool) = true) (by kernel_rfl) ?_
      refine seq_ops [] [] [(6, cB false)] [] (fun t => t) (by kernel_rfl) ?_
      refine ends_ret ?_
      obtain rfl := Option.some.inj H
      exact And.intro (.inl rfl) rfl
    · obtain ⟨v16, h17, H⟩ := ofBind H
      refine seq_ops [.res (cB v10), .g false, .g false, .g false, .g false, .g false, .res (cB v13), .g false, .g false, .g false, .g false, .g false, .res (cB v16), .g false, .g false] [] [(3, .c (.pk 3 0)), (4, .c (.pk 4 0)), (5, .c (.pk 5 0)), (25, cB (!v16))] [(3, .var (eTBoard p0) false), (4, .var [dat 3 eTReaction zTReaction p1] false), (5, .var (eTMachine p2) false)] (fun t => aI (i_goodState_ok p0 p2.State v10 h11) (aI c12 (aI c12 (aI c12 (aI c12 (aI c12 (aI (i_goodReactions_ok p0 p2.State p1 v13 h14) (aI c12 (aI c12 (aI c15 (aI c15 (aI c15 (aI (i_different_ok p2.Used v16 h17) (aI c15 (aI c15 (t)))))))))))))))) (by kernel_rfl) ?_
      rcases ofCond H with ⟨c18, H⟩ | ⟨c18, H⟩
      · refine ite_t c18 (by kernel_rfl) ?_
        refine seq_ops [] [] [(6, cB false)] [] (fun t => t) (by kernel_rfl) ?_
        refine ends_ret ?_
        obtain rfl := Option.some.inj H
        exact And.intro (.inl rfl) rfl
      · refine ite_f c18 (by kernel_rfl) ?_
        refine ends_skip ?_
        change EndsI _ _ _ _ _ _
        refine seq_in ?_
        obtain ⟨v25, h26, H⟩ := ofBind H
        rcases ofCond H with ⟨c27, H⟩ | ⟨c27, H⟩
        · refine seq_ops [.res (cB v25), .g true, .g true, .g true, .g true, .g true] [] [(3, .c (.pk 3 0)), (5, .c (.pk 5 0)), (35, cB true)] [(3, .var (eTBoard p0) false), (5, .var (eTMachine p2) false)] (fun t => aI (g_ContainsFunc_int_c1_ok p2.Used (196) (eLTReaction p1) (fun q0 => X.i_goodMachine_1 q0 p1) (fun q0 r h => i_goodMachine_1_ok q0 p1 r h) v25 h26) (aI c27 (aI c27 (aI c27 (aI c27 (aI c27 (t))))))) (by kernel_rfl) ?_
          refine ite_t (rfl : (true : Bool) = true) (by kernel_rfl) ?_
          refine seq_ops [] [] [(6, cB false)] [] (fun t => t) (by kernel_rfl) ?_
          refine ends_ret ?_
          obtain rfl := Option.some.inj H
          exact And.intro (.inl rfl) rfl
        · obtain ⟨v28, h29, H⟩ := ofBind H
          refine seq_ops [.res (cB v25), .g false, .g false, .g false, .g false, .res (cB v28), .g false] [] [(3, .c (.pk 3 0)), (5, .c (.pk 5 0)), (35, cB v28)] [(3, .var (eTBoard p0) false), (5, .var (eTMachine p2) false)] (fun t => aI (g_ContainsFunc_int_c1_ok p2.Used (196) (eLTReaction p1) (fun q0 => X.i_goodMachine_1 q0 p1) (fun q0 r h => i_goodMachine_1_ok q0 p1 r h) v25 h26) (aI c27 (aI c27 (aI c27 (aI c27 (aI (g_ContainsFunc_int_c1_ok p2.Log (197) (eLTReaction p1) (fun q0 => X.i_goodMachine_2 q0 p1) (fun q0 r h => i_goodMachine_2_ok q0 p1 r h) v28 h29) (aI c27 (t)))))))) (by kernel_rfl) ?_
          rcases ofCond H with ⟨c30, H⟩ | ⟨c30, H⟩
          · refine ite_t c30 (by kernel_rfl) ?_
            refine seq_ops [] [] [(6, cB false)] [] (fun t => t) (by kernel_rfl) ?_
            refine ends_ret ?_
            obtain rfl := Option.some.inj H
            exact And.intro (.inl rfl) rfl
          · refine ite_f c30 (by kernel_rfl) ?_
            refine ends_skip ?_
            change EndsI _ _ _ _ _ _
            obtain ⟨v31, h32, H⟩ := ofBind H
            rcases ofCond H with ⟨c33, H⟩ | ⟨c33, H⟩
            · refine seq_ops [.res (cB v31), .g true, .g true, .g true, .g true, .g true, .g true, .g true, .g true, .g true, .g true, .g true, .g true, .g true] [] [(6, cB (decide ((W ((p2.Stack.length : Int) + (p2.Log.length : Int))) ≤ (W ((p2.Used.length : Int) + 1)))))] [] (fun t => aI (i_goodStack_ok p0 p2 v31 h32) (aI c33 (aI c33 (aI c33 (lI p2.Stack (aI c33 (aI c33 (aI c33 (lI p2.Log (aI c33 (aI c33 (aI c33 (aI c33 (lI p2.Used (aI c33 (aI c33 (aI c33 (t)))))))))))))))))) (by kernel_rfl) ?_
              refine ends_ret ?_
              obtain rfl := Option.some.inj H
              exact And.intro (.inl rfl) rfl
            · refine seq_ops [.res (cB v31), .g false, .g false, .g false, .g false, .g false, .g false, .g false, .g false, .g false, .g false, .g false, .g false, .g false] [] [(6, cB false)] [] (fun t => aI (i_goodStack_ok p0 p2 v31 h32) (aI c33 (aI c33 (aI c33 (aI c33 (aI c33 (aI c33 (aI c33 (aI c33 (aI c33 (aI c33 (aI c33 (aI c33 (aI c33 (t))))))))))))))) (by kernel_rfl) ?_
              refine ends_ret ?_
              obtain rfl := Option.some.inj H
              exact And.intro (.inl rfl) rfl

def i_hasMachine_ir : S :=
 (.seq (.ops [⟨some 3, .box 12 (.t 0), none⟩, ⟨some 5, .box 6 (.t 2), none⟩, ⟨some 6, .mv (.v (.bool false)), none⟩])
 (.seq (.ops [⟨some 7, .load 12 true (.t 3), none⟩, ⟨some 8, .call 137 [.t 7], none⟩, ⟨some 9, .mv (.t 8), none⟩, ⟨some 10, .load 12 true (.t 3), some (9, true)⟩, ⟨some 11, .mv (.t 1), some (9, true)⟩, ⟨some 12, .load 6 true (.t 5), some (9, true)⟩, ⟨some 13, .call 138 [.t 10, .t 11, .t 12], some (9, true)⟩, ⟨some 14, .pick (.t 9) (.t 13) (.v (.bool false)), none⟩, ⟨some 6, .mv (.t 14), none⟩])
 .ret))
noncomputable def X.i_hasMachine (p0 : TBoard) (p1 : (List TReaction)) (p2 : TMachine) : Option Bool :=
  ((X.i_IsBoard p0).bind fun v1 => (bif v1 then ((X.i_goodMachine p0 p1 p2).bind fun v4 => some v4) else some false))
theorem i_hasMachine_ok (p0 : TBoard) (p1 : (List TReaction)) (p2 : TMachine) (r : Bool) (H : X.i_hasMachine p0 p1 p2 = some r) : FnOk Tryz.prog gl 73 [.agg (eTBoard p0), .c (dat 3 eTReaction zTReaction p1), .agg (eTMachine p2)] (cB r) := by
  unfold X.i_hasMachine at H
  refine fn_in (fn := Tryz.f73) (ir := i_hasMachine_ir) (s1 := lit [(6, cB r)] []) Tryz.func73 (by kernel_rfl) (by kernel_rfl) (by kernel_rfl) (by kernel_rfl) (by kernel_rfl) ?_
  refine seq_ops [] [] [(1, .c (dat 3 eTReaction zTReaction p1)), (3, .c (.pk 3 0)), (5, .c (.pk 5 0))] [(3, .var (eTBoard p0) false), (5, .var (eTMachine p2) false)] (fun t => t) (by kernel_rfl) ?_
  obtain ⟨v1, h2, H⟩ := ofBind H
  rcases ofCond H with ⟨c3, H⟩ | ⟨c3, H⟩
  · obtain ⟨v4, h5, H⟩ := ofBind H
    refine seq_ops [.res (cB v1), .g true, .g true, .g true, .g true, .res (cB v4), .g true] [] [(6, cB v4)] [] (fun t => aI (i_IsBoard_ok p0 v1 h2) (aI c3 (aI c3 (aI c3 (aI c3 (aI (i_goodMachine_ok p0 p1 p2 v4 h5) (aI c3 (t)))))))) (by kernel_rfl) ?_
    refine ends_ret ?_
    obtain rfl := Option.some.inj H
    exact And.intro (.inl rfl) rfl
  · refine seq_ops [.res (cB v1), .g false, .g false, .g false, .g false, .g false] [] [(6, cB false)] [] (fun t => aI (i_IsBoard_ok p0 v1 h2) (aI c3 (aI c3 (aI c3 (aI c3 (aI c3 (t))))))) (by kernel_rfl) ?_
    refine ends_ret ?_
    obtain rfl := Option.some.inj H
    exact And.intro (.inl rfl) rfl

def i_absOf_ir : S :=
 (.seq (.ops [⟨some 2, .mv (.v (.int .i64 0)), none⟩])
 (.seq (.seq (.ops [⟨some 3, .mv (.t 0), none⟩, ⟨some 4, .bin .lss (.t 3) (.v (.int .i64 0)), none⟩])
 (.ite (.t 4) (.seq (.ops [⟨some 5, .mv (.t 0), none⟩, ⟨some 6, .neg (.t 5), none⟩, ⟨some 2, .mv (.t 6), none⟩])
  .ret)
 .skip))
 (.seq (.ops [⟨some 7, .mv (.t 0), none⟩, ⟨some 2, .mv (.t 7), none⟩])
 .ret)))
noncomputable def X.i_absOf (p0 : Int) : Option Int :=
  (bif (decide (p0 < 0)) then some (W (0 - p0)) else some p0)
theorem i_absOf_ok (p0 : Int) (r : Int) (H : X.i_absOf p0 = some r) : FnOk Tryz.prog gl 199 [cI p0] (cI r) := by
  unfold X.i_absOf at H
  refine fn_in (fn := Tryz.f199) (ir := i_absOf_ir) (s1 := lit [(2, cI r)] []) Tryz.func199 (by kernel_rfl) (by kernel_rfl) (by kernel_rfl) (by kernel_rfl) (by kernel_rfl) ?_
  refine seq_ops [] [] [(0, cI p0)] [] (fun t => t) (by kernel_rfl) ?_
  refine seq_in ?_
  refine seq_ops [] [] [(0, cI p0), (4, cB (decide (p0 < 0)))] [] (fun t => t) (by kernel_rfl) ?_
  rcases ofCond H with ⟨c1, H⟩ | ⟨c1, H⟩
  · refine ite_t c1 (by kernel_rfl) ?_
    refine seq_ops [] [] [(2, cI (W (0 - p0)))] [] (fun t => t) (by kernel_rfl) ?_
    refine ends_ret ?_
    obtain rfl := Option.some.inj H
    exact And.intro (.inl rfl) rfl
  · refine ite_f c1 (by kernel_rfl) ?_
    refine ends_skip ?_
    change EndsI _ _ _ _ _ _
    refine seq_ops [] [] [(2, cI p0)] [] (fun t => t) (by kernel_rfl) ?_
    refine ends_ret ?_
    obtain rfl := Option.some.inj H
    exact And.intro (.inl rfl) rfl

def i_distance_ir : S :=
 (.seq (.ops [⟨some 2, .box 2 (.t 0), none⟩, ⟨some 3, .box 2 (.t 1), none⟩, ⟨some 4, .mv (.v (.int .i64 0)), none⟩])
 (.seq (.draw 12 [⟨some 7, .fad 0 (.t 3), none⟩, ⟨some 8, .load 1 false (.t 7), none⟩, ⟨some 9, .fad 0 (.t 2), none⟩, ⟨some 10, .load 1 false (.t 9), none⟩, ⟨some 11, .bin .sub (.t 8) (.t 10), none⟩, ⟨some 12, .fad 1 (.t 3), none⟩, ⟨some 13, .load 1 false (.t 12), none⟩, ⟨some 14, .fad 1 (.t 2), none⟩, ⟨some 15, .load 1 false (.t 14), none⟩, ⟨some 16, .bin .sub (.t 13) (.t 15), none⟩, ⟨some 5, .mv (.t 11), none⟩, ⟨some 6, .mv (.t 16), none⟩])
 (.seq (.ops [⟨some 17, .mv (.t 5), none⟩, ⟨some 18, .call 199 [.t 17], none⟩, ⟨some 19, .mv (.t 6), none⟩, ⟨some 20, .call 199 [.t 19], none⟩, ⟨some 21, .bin .add (.t 18) (.t 20), none⟩, ⟨some 22, .mv (.t 5), none⟩, ⟨some 23, .mv (.t 6), none⟩, ⟨some 24, .bin .add (.t 22) (.t 23), none⟩, ⟨some 25, .call 199 [.t 24], none⟩, ⟨some 26, .bin .add (.t 21) (.t 25), none⟩, ⟨some 27, .bin .quo (.t 26) (.v (.int .i64 2)), none⟩, ⟨some 4, .mv (.t 27), none⟩])
 .ret)))
noncomputable def X.i_distance (p0 : THex) (p1 : THex) : Option Int :=
  ((X.i_absOf (W (p1.Q - p0.Q))).bind fun v1 => ((X.i_absOf (W (p1.R - p0.R))).bind fun v3 => ((X.i_absOf (W ((W (p1.Q - p0.Q)) + (W (p1.R - p0.R))))).bind fun v5 => some (W (Int.tdiv (W ((W (v1 + v3)) + v5)) 2)))))
theorem i_distance_ok (p0 : THex) (p1 : THex) (r : Int) (H : X.i_distance p0 p1 = some r) : FnOk Tryz.prog gl 139 [.agg (eTHex p0), .agg (eTHex p1)] (cI r) := by
  unfold X.i_distance at H
  refine fn_in (fn := Tryz.f139) (ir := i_distance_ir) (s1 := lit [(4, cI r)] []) Tryz.func139 (by kernel_rfl) (by kernel_rfl) (by kernel_rfl) (by kernel_rfl) (by kernel_rfl) ?_
  refine seq_ops [] [] [(2, .c (.pk 2 0)), (3, .c (.pk 3 0))] [(2, .var (eTHex p0) false), (3, .var (eTHex p1) false)] (fun t => t) (by kernel_rfl) ?_
  refine seq_draw [] [] [(5, cI (W (p1.Q - p0.Q))), (6, cI (W (p1.R - p0.R)))] [] (fun t => t) (by kernel_rfl) ?_
  obtain ⟨v1, h2, H⟩ := ofBind H
  obtain ⟨v3, h4, H⟩ := ofBind H
  obtain ⟨v5, h6, H⟩ := ofBind H
  refine seq_ops [.res (cI v1), .res (cI v3), .res (cI v5)] [] [(4, cI (W (Int.tdiv (W ((W (v1 + v3)) + v5)) 2)))] [] (fun t => aI (i_absOf_ok (W (p1.Q - p0.Q)) v1 h2) (aI (i_absOf_ok (W (p1.R - p0.R)) v3 h4) (aI (i_absOf_ok (W ((W (p1.Q - p0.Q)) + (W (p1.R - p0.R)))) v5 h6) (aI (by decide : (2 : Int) ≠ 0) (t))))) (by kernel_rfl) ?_
  refine ends_ret ?_
  obtain rfl := Option.some.inj H
  exact And.intro (.inl rfl) rfl

def i_nextReaction_ir : S :=
 (.seq (.ops [⟨some 3, .box 12 (.t 0), none⟩, ⟨some 5, .box 6 (.t 2), none⟩, ⟨some 6, .mv (.v (.int .i64 0)), none⟩])
 (.seq (.seq (.ops [⟨some 11, .fad 0 (.t 5), none⟩, ⟨some 12, .load 1 false (.t 11), none⟩, ⟨some 13, .len (.t 12), none⟩, ⟨some 14, .bin .eql (.t 13) (.v (.int .i64 0)), none⟩])
 (.ite (.t 14) (.seq (.ops [⟨some 6, .mv (.v (.int .i64 (-1))), none⟩])
  .ret)
 .skip))
 (.seq (.ops [⟨some 15, .fad 0 (.t 5), none⟩, ⟨some 16, .load 1 false (.t 15), none⟩, ⟨some 17, .fad 0 (.t 5), none⟩, ⟨some 18, .load 1 false (.t 17), none⟩, ⟨some 19, .len (.t 18), none⟩, ⟨some 20, .bin .sub (.t 19) (.v (.int .i64 1)), none⟩, ⟨some 21, .iad 3 (.t 16) (.t 20), none⟩, ⟨some 22, .load 3 true (.t 21), none⟩, ⟨some 7, .alloc [.int .i64 0, .int .i64 0, .int .i64 0], none⟩, ⟨none, .store 3 (.t 7) (.t 22), none⟩])
 (.seq (.seq (.ops [⟨some 23, .mv (.t 1), none⟩, ⟨some 24, .len (.t 23), none⟩, ⟨some 25, .mv (.v (.int .i64 0)), none⟩])
 (.blk 0 (.loop (.seq (.ops [⟨some 26, .bin .lss (.t 25) (.t 24), none⟩])
   (.seq (.ite (.t 26) .skip
   (.exit 0))
   (.seq (.blk 1 (.seq (.ops [⟨some 27, .mv (.t 25), none⟩, ⟨some 28, .iad 3 (.t 23) (.t 25), none⟩, ⟨some 29, .load 3 true (.t 28), none⟩, ⟨some 9, .alloc [.int .i64 0, .int .i64 0, .int .i64 0], none⟩, ⟨some 8, .mv (.t 27), none⟩, ⟨none, .store 3 (.t 9) (.t 29), none⟩])
    (.seq (.ops [⟨some 30, .fad 2 (.t 5), none⟩, ⟨some 31, .fad 2 (.t 30), none⟩, ⟨some 32, .load 1 false (.t 31), none⟩, ⟨some 33, .fad 0 (.t 9), none⟩, ⟨some 34, .load 1 false (.t 33), none⟩, ⟨some 35, .iad 4 (.t 32) (.t 34), none⟩, ⟨some 36, .load 4 true (.t 35), none⟩, ⟨some 10, .alloc [.int .i64 0, .int .i64 0, .int .i64 0, .int .i64 0], none⟩, ⟨none, .store 4 (.t 10) (.t 36), none⟩])
    (.seq (.seq (.draw 29 [⟨some 37, .fad 1 (.t 5), none⟩, ⟨some 38, .load 1 false (.t 37), none⟩, ⟨some 39, .mv (.t 8), none⟩, ⟨some 40, .call 87 [.t 38, .t 39], none⟩, ⟨some 41, .mv (.t 40), none⟩, ⟨some 42, .fad 2 (.t 5), some (41, false)⟩, ⟨some 43, .fad 2 (.t 42), some (41, false)⟩, ⟨some 44, .load 1 false (.t 43), some (41, false)⟩, ⟨some 45, .fad 0 (.t 7), some (41, false)⟩, ⟨some 46, .load 1 false (.t 45), some (41, false)⟩, ⟨some 47, .iad 4 (.t 44) (.t 46), some (41, false)⟩, ⟨some 48, .fad 0 (.t 47), some (41, false)⟩, ⟨some 49, .load 1 false (.t 48), some (41, false)⟩, ⟨some 50, .fad 0 (.t 10), some (41, false)⟩, ⟨some 51, .load 1 false (.t 50), some (41, false)⟩, ⟨some 52, .bin .eql (.t 49) (.t 51), some (41, false)⟩, ⟨some 53, .pick (.t 41) (.v (.bool true)) (.t 52), none⟩, ⟨some 54, .mv (.t 53), none⟩, ⟨some 55, .fad 1 (.t 7), some (54, false)⟩, ⟨some 56, .load 1 false (.t 55), some (54, false)⟩, ⟨some 57, .fad 1 (.t 9), some (54, false)⟩, ⟨some 58, .load 1 false (.t 57), some (54, false)⟩, ⟨some 59, .bin .neq (.t 56) (.t 58), some (54, false)⟩, ⟨some 60, .pick (.t 54) (.v (.bool true)) (.t 59), none⟩, ⟨some 61, .mv (.t 60), none⟩, ⟨some 62, .fad 2 (.t 10), some (61, false)⟩, ⟨some 63, .load 1 false (.t 62), some (61, false)⟩, ⟨some 64, .bin .lss (.t 63) (.v (.int .i64 0)), some (61, false)⟩, ⟨some 65, .pick (.t 61) (.v (.bool true)) (.t 64), none⟩])
    (.ite (.t 65) (.exit 1)
    .skip))
    (.seq (.draw 20 [⟨some 66, .fad 7 (.t 3), none⟩, ⟨some 67, .load 5 true (.t 66), none⟩, ⟨some 68, .fad 2 (.t 10), none⟩, ⟨some 69, .load 1 false (.t 68), none⟩, ⟨some 70, .call 140 [.t 67, .t 69], none⟩, ⟨some 71, .fad 7 (.t 3), none⟩, ⟨some 72, .load 5 true (.t 71), none⟩, ⟨some 73, .fad 1 (.t 7), none⟩, ⟨some 74, .load 1 false (.t 73), none⟩, ⟨some 75, .call 140 [.t 72, .t 74], none⟩, ⟨some 76, .call 139 [.t 70, .t 75], none⟩, ⟨some 77, .fad 0 (.t 3), none⟩, ⟨some 78, .fad 1 (.t 77), none⟩, ⟨some 79, .load 1 false (.t 78), none⟩, ⟨some 80, .fad 1 (.t 10), none⟩, ⟨some 81, .load 1 false (.t 80), none⟩, ⟨some 82, .iad 6 (.t 79) (.t 81), none⟩, ⟨some 83, .fad 5 (.t 82), none⟩, ⟨some 84, .load 1 false (.t 83), none⟩, ⟨some 85, .bin .leq (.t 76) (.t 84), none⟩])
    (.ite (.t 85) (.seq (.ops [⟨some 86, .mv (.t 8), none⟩, ⟨some 6, .mv (.t 86), none⟩])
     .ret)
    .skip))))))
   (.ops [⟨some 87, .bin .add (.t 25) (.v (.int .i64 1)), none⟩, ⟨some 25, .mv (.t 87), none⟩])))))))
 (.seq (.ops [⟨some 6, .mv (.v (.int .i64 (-1))), none⟩])
 .ret)))))
noncomputable def X.i_nextReaction (p0 : TBoard) (p1 : (List TReaction)) (p2 : TMachine) : Option Int :=
  (bif ((p2.Stack.length : Int) == 0) then some (-1) else ((at' zTFrame p2.Stack (W ((p2.Stack.length : Int) - 1))).bind fun v3 => ((loop (fun (x68 : Int) => ((bif (decide (x68 < (p1.length : Int))) then ((at' zTReaction p1 x68).bind fun v71 => ((at' zTUnit p2.State.Units v71.Unit).bind fun v73 => ((X.g_Contains_int p2.Used x68).bind fun v83 => (bif v83 then some (Sum.inl (W (x68 + 1))) else ((at' zTUnit p2.State.Units v3.Unit).bind fun v86 => (bif (v86.Side == v73.Side) then some (Sum.inl (W (x68 + 1))) else (bif (v3.At != v71.Watch) then some (Sum.inl (W (x68 + 1))) else (bif (decide (v73.At < 0)) then some (Sum.inl (W (x68 + 1))) else ((X.i_hexOf p0.Map v73.At).bind fun v91 => ((X.i_hexOf p0.Map v3.At).bind fun v93 => ((X.i_distance v91 v93).bind fun v95 => ((at' zTKind p0.Rules.Kinds v73.Kind).bind fun v97 => (bif (decide (v95 ≤ v97.View)) then some (Sum.inr (Sum.inr x68)) else some (Sum.inl (W (x68 + 1)))))))))))))))) else some (Sum.inr (Sum.inl ()))) : Option (Int ⊕ (Unit ⊕ Int)))) 0).bind fun y100 => (Sum.elim (fun (y102 : Unit) => some (-1)) (fun (y103 : Int) => some y103) y100))))
theorem i_nextReaction_ok (p0 : TBoard) (p1 : (List TReaction)) (p2 : TMachine) (r : Int) (H : X.i_nextReaction p0 p1 p2 = some r) : FnOk Tryz.prog gl 74 [.agg (eTBoard p0), .c (dat 3 eTReaction zTReaction p1), .agg (eTMachine p2)] (cI r) := by
  unfold X.i_nextReaction at H
  refine fn_in (fn := Tryz.f74) (ir := i_nextReaction_ir) (s1 := lit [(6, cI r)] []) Tryz.func74 (by kernel_rfl) (by kernel_rfl) (by kernel_rfl) (by kernel_rfl) (by kernel_rfl) ?_
  refine seq_ops [] [] [(1, .c (dat 3 eTReaction zTReaction p1)), (3, .c (.pk 3 0)), (5, .c (.pk 5 0))] [(3, .var (eTBoard p0) false), (5, .var (eTMachine p2) false)] (fun t => t) (by kernel_rfl) ?_
  refine seq_in ?_
  refine seq_ops [] [] [(1, .c (dat 3 eTReaction zTReaction p1)), (3, .c (.pk 3 0)), (5, .c (.pk 5 0)), (14, cB ((p2.Stack.length : Int) == 0))] [(3, .var (eTBoard p0) false), (5, .var (eTMachine p2) false)] (fun t => lI p2.Stack (t)) (by kernel_rfl) ?_
  rcases ofCond H with ⟨c2, H⟩ | ⟨c2, H⟩
  · refine ite_t c2 (by kernel_rfl) ?_
    refine seq_ops [] [] [(6, cI (-1))] [] (fun t => t) (by kernel_rfl) ?_
    refine ends_ret ?_
    obtain rfl := Option.some.inj H
    exact And.intro (.inl rfl) rfl
  · refine ite_f c2 (by kernel_rfl) ?_
    refine ends_skip ?_
    change EndsI _ _ _ _ _ _
    obtain ⟨v3, h4, H⟩ := ofBind H
    refine seq_ops [.cs (eTFrame v3)] [] [(1, .c (dat 3 eTReaction zTReaction p1)), (3, .c (.pk 3 0)), (5, .c (.pk 5 0)), (7, .c (.pk 7 0))] [(3, .var (eTBoard p0) false), (5, .var (eTMachine p2) false), (7, .var (eTFrame v3) false)] (fun t => lI p2.Stack (aI (at_lt h4) (aI (at_enc (enc := eTFrame) h4) (t)))) (by kernel_rfl) ?_
    refine seq_in ?_
    refine seq_ops [] [] [(3, .c (.pk 3 0)), (5, .c (.pk 5 0)), (7, .c (.pk 7 0)), (23, .c (dat 3 eTReaction zTReaction p1)), (24, cI (p1.length : Int)), (25, cI 0)] [(3, .var (eTBoard p0) false), (5, .var (eTMachine p2) false), (7, .var (eTFrame v3) false)] (fun t => lI p1 (t)) (by kernel_rfl) ?_
    refine ends_blk ?_
    obtain ⟨y100, h101, H⟩ := ofBind H
    refine loop_in (fun (x : Int) => lit [(3, .c (.pk 3 0)), (5, .c (.pk 5 0)), (7, .c (.pk 7 0)), (23, .c (dat 3 eTReaction zTReaction p1)), (24, cI (p1.length : Int)), (25, cI x)] [(3, .var (eTBoard p0) false), (5, .var (eTMachine p2) false), (7, .var (eTFrame v3) false)]) (orJ (fun (z : Unit) => At (.exit 0) (lit [] [])) (fun (z : Int) => At .ret (lit [(6, cI z)] []))) h101 ?_ ?_
    · clear H h101
      intro x68 y0 H
      refine seq_ops [] [] [(3, .c (.pk 3 0)), (5, .c (.pk 5 0)), (7, .c (.pk 7 0)), (23, .c (dat 3 eTReaction zTReaction p1)), (24, cI (p1.length : Int)), (25, cI x68), (26, cB (decide (x68 < (p1.length : Int))))] [(3, .var (eTBoard p0) false), (5, .var (eTMachine p2) false), (7, .var (eTFrame v3) false)] (fun t => t) (by kernel_rfl) ?_
      refine seq_in ?_
      rcases ofCond H with ⟨c70, H⟩ | ⟨c70, H⟩
      · refine ite_t c70 (by kernel_rfl) ?_
        refine ends_skip ?_
        change EndsI _ _ _ _ _ _
        refine seq_in ?_
        refine ends_blk ?_
        obtain ⟨v71, h72, H⟩ := ofBind H
        refine seq_ops [.cs (eTReaction v71)] [] [(3, .c (.pk 3 0)), (5, .c (.pk 5 0)), (7, .c (.pk 7 0)), (8, cI x68), (9, .c (.pk 9 0)), (23, .c (dat 3 eTReaction zTReaction p1)), (24, cI (p1.length : Int)), (25, cI x68)] [(3, .var (eTBoard p0) false), (5, .var (eTMachine p2) false), (7, .var (eTFrame v3) false), (9, .var (eTReaction v71) false)] (fun t => aI (at_lt h72) (aI (at_enc (enc := eTReaction) h72) (t))) (by kernel_rfl) ?_
        obtain ⟨v73, h74, H⟩ := ofBind H
        refine seq_ops [.cs (eTUnit v73)] [] [(3, .c (.pk 3 0)), (5, .c (.pk 5 0)), (7, .c (.pk 7 0)), (8, cI x68), (9, .c (.pk 9 0)), (10, .c (.pk 10 0)), (23, .c (dat 3 eTReaction zTReaction p1)), (24, cI (p1.length : Int)), (25, cI x68)] [(3, .var (eTBoard p0) false), (5, .var (eTMachine p2) false), (7, .var (eTFrame v3) false), (9, .var (eTReaction v71) false), (10, .var (eTUnit v73) false)] (fun t => aI (at_lt h74) (aI (at_enc (enc := eTUnit) h74) (t))) (by kernel_rfl) ?_
        refine seq_in ?_
        obtain ⟨v83, h84, H⟩ := ofBind H
        rcases ofCond H with ⟨c85, H⟩ | ⟨c85, H⟩
        · refine seq_draw [.res (cB v83), .g true, .g true, .g true, .g true, .g true, .g true, .g true, .g true, .g true, .g true, .g true, .g true, .g true, .g true, .g true, .g true, .g true, .g true, .g true, .g true, .g true, .g true] [] [(3, .c (.pk 3 0)), (5, .c (.pk 5 0)), (7, .c (.pk 7 0)), (8, cI x68), (10, .c (.pk 10 0)), (23, .c (dat 3 eTReaction zTReaction p1)), (24, cI (p1.length : Int)), (25, cI x68), (65, cB true)] [(3, .var (eTBoard p0) false), (5, .var (eTMachine p2) false), (7, .var (eTFrame v3) false), (10, .var (eTUnit v73) false)] (fun t => aI (g_Contains_int_ok p2.Used x68 v83 h84) (aI trivial (aI (rfl : ([] : List Nat) = []) (aI c85 (aI c85 (aI c85 (aI c85 (aI c85 (aI c85 (aI c85 (aI c85 (aI c85 (aI c85 (aI c85 (aI c85 (aI (rfl : (true : Bool) = true) (aI (rfl : (true : Bool) = true) (aI (rfl : (true : Bool) = true) (aI (rfl : (true : Bool) = true) (aI (rfl : (true : Bool) = true) (aI (rfl : (true : Bool) = true) (aI (rfl : (true : Bool) = true) (aI (rfl : (true : Bool) = true) (aI (rfl : (true : Bool) = true) (aI (rfl : (true : Bool) = true) (t)))))))))))))))))))))))))) (by kernel_rfl) ?_
          refine ite_t (rfl : (true : Bool) = true) (by kernel_rfl) ?_
          refine ends_exit ?_
          change EndsI _ _ _ _ _ _
          refine one_ops [] [] [(3, .c (.pk 3 0)), (5, .c (.pk 5 0)), (7, .c (.pk 7 0)), (23, .c (dat 3 eTReaction zTReaction p1)), (24, cI (p1.length : Int)), (25, cI (W (x68 + 1)))] [(3, .var (eTBoard p0) false), (5, .var (eTMachine p2) false), (7, .var (eTFrame v3) false)] (fun t => t) (by kernel_rfl) ?_
          obtain rfl := Option.some.inj H
          exact And.intro rfl rfl
        · obtain ⟨v86, h87, H⟩ := ofBind H
          rcases ofCond H with ⟨c88, H⟩ | ⟨c88, H⟩
          · refine seq_draw [.res (cB v83), .g false, .g false, .g false, .g false, .g false, .g false, .cs (eTUnit v86), .g false, .g false, .g false, .g false, .g false, .g false, .g true, .g true, .g true, .g true, .g true, .g true, .g true, .g true, .g true, .g true] [] [(3, .c (.pk 3 0)), (5, .c (.pk 5 0)), (7, .c (.pk 7 0)), (8, cI x68), (10, .c (.pk 10 0)), (23, .c (dat 3 eTReaction zTReaction p1)), (24, cI (p1.length : Int)), (25, cI x68), (65, cB true)] [(3, .var (eTBoard p0) false), (5, .var (eTMachine p2) false), (7, .var (eTFrame v3) false), (10, .var (eTUnit v73) false)] (fun t => aI (g_Contains_int_ok p2.Used x68 v83 h84) (aI trivial (aI (rfl : ([] : List Nat) = []) (aI c85 (aI c85 (aI c85 (aI c85 (aI c85 (aI c85 (aI (at_lt h87) (aI (at_enc (enc := eTUnit) h87) (aI c85 (aI c85 (aI (rfl : ([] : List Nat) = []) (aI c85 (aI c85 (aI c85 (aI c85 (aI c88 (aI c88 (aI c88 (aI c88 (aI c88 (aI c88 (aI (rfl : (true : Bool) = true) (aI (rfl : (true : Bool) = true) (aI (rfl : (true : Bool) = true) (aI (rfl : (true : Bool) = true) (t))))))))))))))))))))))))))))) (by kernel_rfl) ?_
            refine ite_t (rfl : (true : Bool) = true) (by kernel_rfl) ?_
            refine ends_exit ?_
            change EndsI _ _ _ _ _ _
            refine one_ops [] [] [(3, .c (.pk 3 0)), (5, .c (.pk 5 0)), (7, .c (.pk 7 0)), (23, .c (dat 3 eTReaction zTReaction p1)), (24, cI (p1.length : Int)), (25, cI (W (x68 + 1)))] [(3, .var (eTBoard p0) false), (5, .var (eTMachine p2) false), (7, .var (eTFrame v3) false)] (fun t => t) (by kernel_rfl) ?_
            obtain rfl := Option.some.inj H
            exact And.intro rfl rfl
          · rcases ofCond H with ⟨c89, H⟩ | ⟨c89, H⟩
            · refine seq_draw [.res (cB v83), .g false, .g false, .g false, .g false, .g false, .g false, .cs (eTUnit v86), .g false, .g false, .g false, .g false, .g false, .g false, .g false, .g false, .g false, .g false, .g false, .g false, .g true, .g true, .g true, .g true] [] [(3, .c (.pk 3 0)), (5, .c (.pk 5 0)), (7, .c (.pk 7 0)), (8, cI x68), (10, .c (.pk 10 0)), (23, .c (dat 3 eTReaction zTReaction p1)), (24, cI (p1.length : Int)), (25, cI x68), (65, cB true)] [(3, .var (eTBoard p0) false), (5, .var (eTMachine p2) false), (7, .var (eTFrame v3) false), (10, .var (eTUnit v73) false)] (fun t => aI (g_Contains_int_ok p2.Used x68 v83 h84) (aI trivial (aI (rfl : ([] : List Nat) = []) (aI c85 (aI c85 (aI c85 (aI c85 (aI c85 (aI c85 (aI (at_lt h87) (aI (at_enc (enc := eTUnit) h87) (aI c85 (aI c85 (aI (rfl : ([] : List Nat) = []) (aI c85 (aI c85 (aI c85 (aI c85 (aI c88 (aI c88 (aI c88 (aI c88 (aI c88 (aI c88 (aI c89 (aI c89 (aI c89 (aI c89 (t))))))))))))))))))))))))))))) (by kernel_rfl) ?_
              refine ite_t (rfl : (true : Bool) = true) (by kernel_rfl) ?_
              refine ends_exit ?_
              change EndsI _ _ _ _ _ _
              refine one_ops [] [] [(3, .c (.pk 3 0)), (5, .c (.pk 5 0)), (7, .c (.pk 7 0)), (23, .c (dat 3 eTReaction zTReaction p1)), (24, cI (p1.length : Int)), (25, cI (W (x68 + 1)))] [(3, .var (eTBoard p0) false), (5, .var (eTMachine p2) false), (7, .var (eTFrame v3) false)] (fun t => t) (by kernel_rfl) ?_
              obtain rfl := Option.some.inj H
              exact And.intro rfl rfl
            · refine seq_draw [.res (cB v83), .g false, .g false, .g false, .g false, .g false, .g false, .cs (eTUnit v86), .g false, .g false, .g false, .g false, .g false, .g false, .g false, .g false, .g false, .g false, .g false, .g false, .g false, .g false, .g false, .g false] [] [(3, .c (.pk 3 0)), (5, .c (.pk 5 0)), (7, .c (.pk 7 0)), (8, cI x68), (10, .c (.pk 10 0)), (23, .c (dat 3 eTReaction zTReaction p1)), (24, cI (p1.length : Int)), (25, cI x68), (65, cB (decide (v73.At < 0)))] [(3, .var (eTBoard p0) false), (5, .var (eTMachine p2) false), (7, .var (eTFrame v3) false), (10, .var (eTUnit v73) false)] (fun t => aI (g_Contains_int_ok p2.Used x68 v83 h84) (aI trivial (aI (rfl : ([] : List Nat) = []) (aI c85 (aI c85 (aI c85 (aI c85 (aI c85 (aI c85 (aI (at_lt h87) (aI (at_enc (enc := eTUnit) h87) (aI c85 (aI c85 (aI (rfl : ([] : List Nat) = []) (aI c85 (aI c85 (aI c85 (aI c85 (aI c88 (aI c88 (aI c88 (aI c88 (aI c88 (aI c88 (aI c89 (aI c89 (aI c89 (aI c89 (t))))))))))))))))))))))))))))) (by kernel_rfl) ?_
              rcases ofCond H with ⟨c90, H⟩ | ⟨c90, H⟩
              · refine ite_t c90 (by kernel_rfl) ?_
                refine ends_exit ?_
                change EndsI _ _ _ _ _ _
                refine one_ops [] [] [(3, .c (.pk 3 0)), (5, .c (.pk 5 0)), (7, .c (.pk 7 0)), (23, .c (dat 3 eTReaction zTReaction p1)), (24, cI (p1.length : Int)), (25, cI (W (x68 + 1)))] [(3, .var (eTBoard p0) false), (5, .var (eTMachine p2) false), (7, .var (eTFrame v3) false)] (fun t => t) (by kernel_rfl) ?_
                obtain rfl := Option.some.inj H
                exact And.intro rfl rfl
              · refine ite_f c90 (by kernel_rfl) ?_
                refine ends_skip ?_
                change EndsI _ _ _ _ _ _
                obtain ⟨v91, h92, H⟩ := ofBind H
                obtain ⟨v93, h94, H⟩ := ofBind H
                obtain ⟨v95, h96, H⟩ := ofBind H
                obtain ⟨v97, h98, H⟩ := ofBind H
                refine seq_draw [.res (.agg (eTHex v91)), .res (.agg (eTHex v93)), .res (cI v95), .cs (eTKind v97)] [] [(3, .c (.pk 3 0)), (5, .c (.pk 5 0)), (7, .c (.pk 7 0)), (8, cI x68), (23, .c (dat 3 eTReaction zTReaction p1)), (24, cI (p1.length : Int)), (25, cI x68), (85, cB (decide (v95 ≤ v97.View)))] [(3, .var (eTBoard p0) false), (5, .var (eTMachine p2) false), (7, .var (eTFrame v3) false)] (fun t => aI (i_hexOf_ok p0.Map v73.At v91 h92) (aI trivial (aI (rfl : ([] : List Nat) = []) (aI (i_hexOf_ok p0.Map v3.At v93 h94) (aI trivial (aI (rfl : ([] : List Nat) = []) (aI (i_distance_ok v91 v93 v95 h96) (aI trivial (aI (rfl : ([] : List Nat) = []) (aI (at_lt h98) (aI (at_enc (enc := eTKind) h98) (aI (rfl : ([] : List Nat) = []) (t))))))))))))) (by kernel_rfl) ?_
                rcases ofCond H with ⟨c99, H⟩ | ⟨c99, H⟩
                · refine ite_t c99 (by kernel_rfl) ?_
                  refine seq_ops [] [] [(6, cI x68)] [] (fun t => t) (by kernel_rfl) ?_
                  refine ends_ret ?_
                  obtain rfl := Option.some.inj H
                  exact And.intro (by simp) (And.intro rfl rfl)
                · refine ite_f c99 (by kernel_rfl) ?_
                  refine ends_skip ?_
                  change EndsI _ _ _ _ _ _
                  refine one_ops [] [] [(3, .c (.pk 3 0)), (5, .c (.pk 5 0)), (7, .c (.pk 7 0)), (23, .c (dat 3 eTReaction zTReaction p1)), (24, cI (p1.length : Int)), (25, cI (W (x68 + 1)))] [(3, .var (eTBoard p0) false), (5, .var (eTMachine p2) false), (7, .var (eTFrame v3) false)] (fun t => t) (by kernel_rfl) ?_
                  obtain rfl := Option.some.inj H
                  exact And.intro rfl rfl
      · refine ite_f c70 (by kernel_rfl) ?_
        refine tell [] [] [] (fun t => t) (by kernel_rfl) ?_
        refine ends_exit ?_
        obtain rfl := Option.some.inj H
        exact And.intro (by simp) (And.intro rfl rfl)
    · clear h101
      cases y100 with
      | inl y102 =>
        replace H := ofInl H
        intro e s q
        obtain ⟨rfl, rfl⟩ := q
        change EndsI _ _ _ _ _ _
        refine seq_ops [] [] [(6, cI (-1))] [] (fun t => t) (by kernel_rfl) ?_
        refine ends_ret ?_
        obtain rfl := Option.some.inj H
        exact And.intro (.inl rfl) rfl
      | inr y103 =>
        replace H := ofInr H
        intro e s q
        obtain ⟨rfl, rfl⟩ := q
        obtain rfl := Option.some.inj H
        exact And.intro (.inl rfl) rfl

def i_NextReaction_ir : S :=
 (.seq (.ops [⟨some 3, .box 12 (.t 0), none⟩, ⟨some 5, .box 6 (.t 2), none⟩, ⟨some 6, .mv (.v (.int .i64 0)), none⟩, ⟨some 7, .mv (.v (.bool false)), none⟩])
 (.seq (.seq (.ops [⟨some 8, .load 12 true (.t 3), none⟩, ⟨some 9, .mv (.t 1), none⟩, ⟨some 10, .load 6 true (.t 5), none⟩, ⟨some 11, .call 73 [.t 8, .t 9, .t 10], none⟩, ⟨some 12, .not (.t 11), none⟩, ⟨some 13, .mv (.t 12), none⟩, ⟨some 14, .load 12 true (.t 3), some (13, false)⟩, ⟨some 15, .mv (.t 1), some (13, false)⟩, ⟨some 16, .load 6 true (.t 5), some (13, false)⟩, ⟨some 17, .call 74 [.t 14, .t 15, .t 16], some (13, false)⟩, ⟨some 18, .bin .lss (.t 17) (.v (.int .i64 0)), some (13, false)⟩, ⟨some 19, .pick (.t 13) (.v (.bool true)) (.t 18), none⟩])
 (.ite (.t 19) (.seq (.ops [⟨some 6, .mv (.v (.int .i64 0)), none⟩, ⟨some 7, .mv (.v (.bool false)), none⟩])
  .ret)
 .skip))
 (.seq (.ops [⟨some 20, .load 12 true (.t 3), none⟩, ⟨some 21, .mv (.t 1), none⟩, ⟨some 22, .load 6 true (.t 5), none⟩, ⟨some 23, .call 74 [.t 20, .t 21, .t 22], none⟩, ⟨some 6, .mv (.t 23), none⟩, ⟨some 7, .mv (.v (.bool true)), none⟩])
 .ret)))
noncomputable def X.i_NextReaction (p0 : TBoard) (p1 : (List TReaction)) (p2 : TMachine) : Option (Int × Bool) :=
  ((X.i_hasMachine p0 p1 p2).bind fun v1 => (bif (!v1) then some (0, false) else ((X.i_nextReaction p0 p1 p2).bind fun v4 => (bif (decide (v4 < 0)) then some (0, false) else ((X.i_nextReaction p0 p1 p2).bind fun v7 => some (v7, true))))))
theorem i_NextReaction_ok (p0 : TBoard) (p1 : (List TReaction)) (p2 : TMachine) (r : (Int × Bool)) (H : X.i_NextReaction p0 p1 p2 = some r) : FnOk Tryz.prog gl 29 [.agg (eTBoard p0), .c (dat 3 eTReaction zTReaction p1), .agg (eTMachine p2)] (.tup [(false, [.int .i64 r.1]), (false, [.bool r.2])]) := by
  unfold X.i_NextReaction at H
  refine fn_in (fn := Tryz.f29) (ir := i_NextReaction_ir) (s1 := lit [(6, cI r.1), (7, cB r.2)] []) Tryz.func29 (by kernel_rfl) (by kernel_rfl) (by kernel_rfl) (by kernel_rfl) (by kernel_rfl) ?_
  refine seq_ops [] [] [(1, .c (dat 3 eTReaction zTReaction p1)), (3, .c (.pk 3 0)), (5, .c (.pk 5 0))] [(3, .var (eTBoard p0) false), (5, .var (eTMachine p2) false)] (fun t => t) (by kernel_rfl) ?_
  refine seq_in ?_
  obtain ⟨v1, h2, H⟩ := ofBind H
  rcases ofCond H with ⟨c3, H⟩ | ⟨c3, H⟩
  · refine seq_ops [.res (cB v1), .g true, .g true, .g true, .g true, .g true, .g true] [] [(1, .c (dat 3 eTReaction zTReaction p1)), (3, .c (.pk 3 0)), (5, .c (.pk 5 0)), (19, cB true)] [(3, .var (eTBoard p0) false), (5, .var (eTMachine p2) false)] (fun t => aI (i_hasMachine_ok p0 p1 p2 v1 h2) (aI c3 (aI c3 (aI c3 (aI c3 (aI c3 (aI c3 (t)))))))) (by kernel_rfl) ?_
    refine ite_t (rfl : (true : Bool) = true) (by kernel_rfl) ?_
    refine seq_ops [] [] [(6, cI 0), (7, cB false)] [] (fun t => t) (by kernel_rfl) ?_
    refine ends_ret ?_
    obtain rfl := Option.some.inj H
    exact And.intro (.inl rfl) rfl
  · obtain ⟨v4, h5, H⟩ := ofBind H
    refine seq_ops [.res (cB v1), .g false, .g false, .g false, .g false, .res (cI v4), .g false, .g false] [] [(1, .c (dat 3 eTReaction zTReaction p1)), (3, .c (.pk 3 0)), (5, .c (.pk 5 0)), (19, cB (decide (v4 < 0)))] [(3, .var (eTBoard p0) false), (5, .var (eTMachine p2) false)] (fun t => aI (i_hasMachine_ok p0 p1 p2 v1 h2) (aI c3 (aI c3 (aI c3 (aI c3 (aI (i_nextReaction_ok p0 p1 p2 v4 h5) (aI c3 (aI c3 (t))))))))) (by kernel_rfl) ?_
    rcases ofCond H with ⟨c6, H⟩ | ⟨c6, H⟩
    · refine ite_t c6 (by kernel_rfl) ?_
      refine seq_ops [] [] [(6, cI 0), (7, cB false)] [] (fun t => t) (by kernel_rfl) ?_
      refine ends_ret ?_
      obtain rfl := Option.some.inj H
      exact And.intro (.inl rfl) rfl
    · refine ite_f c6 (by kernel_rfl) ?_
      refine ends_skip ?_
      change EndsI _ _ _ _ _ _
      obtain ⟨v7, h8, H⟩ := ofBind H
      refine seq_ops [.res (cI v7)] [] [(6, cI v7), (7, cB true)] [] (fun t => aI (i_nextReaction_ok p0 p1 p2 v7 h8) (t)) (by kernel_rfl) ?_
      refine ends_ret ?_
      obtain rfl := Option.some.inj H
      exact And.intro (.inl rfl) rfl

def l_eqReaction_ir : S :=
 (.seq (.ops [⟨some 2, .box 3 (.t 0), none⟩, ⟨some 3, .box 3 (.t 1), none⟩, ⟨some 4, .mv (.v (.bool false)), none⟩])
 (.seq (.seq (.ops [⟨some 5, .fad 0 (.t 2), none⟩, ⟨some 6, .load 1 false (.t 5), none⟩, ⟨some 7, .fad 0 (.t 3), none⟩, ⟨some 8, .load 1 false (.t 7), none⟩, ⟨some 9, .bin .neq (.t 6) (.t 8), none⟩])
 (.ite (.t 9) (.seq (.ops [⟨some 4, .mv (.v (.bool false)), none⟩])
  .ret)
 .skip))
 (.seq (.seq (.ops [⟨some 10, .fad 1 (.t 2), none⟩, ⟨some 11, .load 1 false (.t 10), none⟩, ⟨some 12, .fad 1 (.t 3), none⟩, ⟨some 13, .load 1 false (.t 12), none⟩, ⟨some 14, .bin .neq (.t 11) (.t 13), none⟩])
 (.ite (.t 14) (.seq (.ops [⟨some 4, .mv (.v (.bool false)), none⟩])
  .ret)
 .skip))
 (.seq (.seq (.ops [⟨some 15, .fad 2 (.t 2), none⟩, ⟨some 16, .load 1 false (.t 15), none⟩, ⟨some 17, .fad 2 (.t 3), none⟩, ⟨some 18, .load 1 false (.t 17), none⟩, ⟨some 19, .bin .neq (.t 16) (.t 18), none⟩])
 (.ite (.t 19) (.seq (.ops [⟨some 4, .mv (.v (.bool false)), none⟩])
  .ret)
 .skip))
 (.seq (.ops [⟨some 4, .mv (.v (.bool true)), none⟩])
 .ret)))))
noncomputable def X.l_eqReaction (p0 : TReaction) (p1 : TReaction) : Option Bool :=
  (bif (p0.Unit != p1.Unit) then some false else (bif (p0.Watch != p1.Watch) then some false else (bif (p0.Kind != p1.Kind) then some false else some true)))
theorem l_eqReaction_ok (p0 : TReaction) (p1 : TReaction) (r : Bool) (H : X.l_eqReaction p0 p1 = some r) : FnOk Tryz.prog gl 75 [.agg (eTReaction p0), .agg (eTReaction p1)] (cB r) := by
  unfold X.l_eqReaction at H
  refine fn_in (fn := Tryz.f75) (ir := l_eqReaction_ir) (s1 := lit [(4, cB r)] []) Tryz.func75 (by kernel_rfl) (by kernel_rfl) (by kernel_rfl) (by kernel_rfl) (by kernel_rfl) ?_
  refine seq_ops [] [] [(2, .c (.pk 2 0)), (3, .c (.pk 3 0))] [(2, .var (eTReaction p0) false), (3, .var (eTReaction p1) false)] (fun t => t) (by kernel_rfl) ?_
  refine seq_in ?_
  refine seq_ops [] [] [(2, .c (.pk 2 0)), (3, .c (.pk 3 0)), (9, cB (p0.Unit != p1.Unit))] [(2, .var (eTReaction p0) false), (3, .var (eTReaction p1) false)] (fun t => t) (by kernel_rfl) ?_
  rcases ofCond H with ⟨c2, H⟩ | ⟨c2, H⟩
  · refine ite_t c2 (by kernel_rfl) ?_
    refine seq_ops [] [] [(4, cB false)] [] (fun t => t) (by kernel_rfl) ?_
    refine ends_ret ?_
    obtain rfl := Option.some.inj H
    exact And.intro (.inl rfl) rfl
  · refine ite_f c2 (by kernel_rfl) ?_
    refine ends_skip ?_
    change EndsI _ _ _ _ _ _
    refine seq_in ?_
    refine seq_ops [] [] [(2, .c (.pk 2 0)), (3, .c (.pk 3 0)), (14, cB (p0.Watch != p1.Watch))] [(2, .var (eTReaction p0) false), (3, .var (eTReaction p1) false)] (fun t => t) (by kernel_rfl) ?_
    rcases ofCond H with ⟨c4, H⟩ | ⟨c4, H⟩
    · refine ite_t c4 (by kernel_rfl) ?_
      refine seq_ops [] [] [(4, cB false)] [] (fun t => t) (by kernel_rfl) ?_
      refine ends_ret ?_
      obtain rfl := Option.some.inj H
      exact And.intro (.inl rfl) rfl
    · refine ite_f c4 (by kernel_rfl) ?_
      refine ends_skip ?_
      change EndsI _ _ _ _ _ _
      refine seq_in ?_
      refine seq_ops [] [] [(19, cB (p0.Kind != p1.Kind))] [] (fun t => t) (by kernel_rfl) ?_
      rcases ofCond H with ⟨c5, H⟩ | ⟨c5, H⟩
      · refine ite_t c5 (by kernel_rfl) ?_
        refine seq_ops [] [] [(4, cB false)] [] (fun t => t) (by kernel_rfl) ?_
        refine ends_ret ?_
        obtain rfl := Option.some.inj H
        exact And.intro (.inl rfl) rfl
      · refine ite_f c5 (by kernel_rfl) ?_
        refine ends_skip ?_
        change EndsI _ _ _ _ _ _
        refine seq_ops [] [] [(4, cB true)] [] (fun t => t) (by kernel_rfl) ?_
        refine ends_ret ?_
        obtain rfl := Option.some.inj H
        exact And.intro (.inl rfl) rfl

def l_eqReactionS_ir : S :=
 (.seq (.ops [⟨some 4, .mv (.v (.bool false)), none⟩])
 (.seq (.seq (.ops [⟨some 6, .mv (.t 0), none⟩, ⟨some 7, .len (.t 6), none⟩, ⟨some 8, .mv (.t 1), none⟩, ⟨some 9, .len (.t 8), none⟩, ⟨some 10, .bin .neq (.t 7) (.t 9), none⟩])
 (.ite (.t 10) (.seq (.ops [⟨some 4, .mv (.v (.bool false)), none⟩])
  .ret)
 .skip))
 (.seq (.seq (.ops [⟨some 5, .mv (.v (.int .i64 0)), none⟩])
 (.blk 0 (.loop (.seq (.seq (.ops [⟨some 11, .mv (.t 5), none⟩, ⟨some 12, .mv (.t 0), none⟩, ⟨some 13, .len (.t 12), none⟩, ⟨some 14, .bin .lss (.t 11) (.t 13), none⟩])
   (.ite (.t 14) .skip
   (.exit 0)))
   (.seq (.blk 1 (.seq (.draw 10 [⟨some 17, .mv (.t 0), none⟩, ⟨some 18, .mv (.t 5), none⟩, ⟨some 19, .iad 3 (.t 17) (.t 18), none⟩, ⟨some 20, .load 3 true (.t 19), none⟩, ⟨some 21, .mv (.t 1), none⟩, ⟨some 22, .mv (.t 5), none⟩, ⟨some 23, .iad 3 (.t 21) (.t 22), none⟩, ⟨some 24, .load 3 true (.t 23), none⟩, ⟨some 25, .call 75 [.t 20, .t 24], none⟩, ⟨some 26, .not (.t 25), none⟩])
    (.ite (.t 26) (.seq (.ops [⟨some 4, .mv (.v (.bool false)), none⟩])
     .ret)
    .skip)))
   (.ops [⟨some 15, .mv (.t 5), none⟩, ⟨some 16, .bin .add (.t 15) (.v (.int .i64 1)), none⟩, ⟨some 5, .mv (.t 16), none⟩]))))))
 (.seq (.ops [⟨some 4, .mv (.v (.bool true)), none⟩])
 .ret))))
noncomputable def X.l_eqReactionS (p0 : (List TReaction)) (p1 : (List TReaction)) : Option Bool :=
  (bif ((p0.length : Int) != (p1.length : Int)) then some false else ((loop (fun (x22 : Int) => ((bif (decide (x22 < (p0.length : Int))) then ((at' zTReaction p0 x22).bind fun v25 => ((at' zTReaction p1 x22).bind fun v27 => ((X.l_eqReaction v25 v27).bind fun v29 => (bif (!v29) then some (Sum.inr (Sum.inr false)) else some (Sum.inl (W (x22 + 1))))))) else some (Sum.inr (Sum.inl ()))) : Option (Int ⊕ (Unit ⊕ Bool)))) 0).bind fun y32 => (Sum.elim (fun (y34 : Unit) => some true) (fun (y35 : Bool) => some y35) y32)))
theorem l_eqReactionS_ok (p0 : (List TReaction)) (p1 : (List TReaction)) (r : Bool) (H : X.l_eqReactionS p0 p1 = some r) : FnOk Tryz.prog gl 30 [.c (dat 3 eTReaction zTReaction p0), .c (dat 3 eTReaction zTReaction p1)] (cB r) := by
  unfold X.l_eqReactionS at H
  refine fn_in (fn := Tryz.f30) (ir := l_eqReactionS_ir) (s1 := lit [(4, cB r)] []) Tryz.func30 (by kernel_rfl) (by kernel_rfl) (by kernel_rfl) (by kernel_rfl) (by kernel_rfl) ?_
  refine seq_ops [] [] [(0, .c (dat 3 eTReaction zTReaction p0)), (1, .c (dat 3 eTReaction zTReaction p1))] [] (fun t => t) (by kernel_rfl) ?_
  refine seq_in ?_
  refine seq_ops [] [] [(0, .c (dat 3 eTReaction zTReaction p0)), (1, .c (dat 3 eTReaction zTReaction p1)), (10, cB ((p0.length : Int) != (p1.length : Int)))] [] (fun t => lI p0 (lI p1 (t))) (by kernel_rfl) ?_
  rcases ofCond H with ⟨c2, H⟩ | ⟨c2, H⟩
  · refine ite_t c2 (by kernel_rfl) ?_
    refine seq_ops [] [] [(4, cB false)] [] (fun t => t) (by kernel_rfl) ?_
    refine ends_ret ?_
    obtain rfl := Option.some.inj H
    exact And.intro (.inl rfl) rfl
  · refine ite_f c2 (by kernel_rfl) ?_
    refine ends_skip ?_
    change EndsI _ _ _ _ _ _
    refine seq_in ?_
    refine seq_ops [] [] [(0, .c (dat 3 eTReaction zTReaction p0)), (1, .c (dat 3 eTReaction zTReaction p1)), (5, cI 0)] [] (fun t => t) (by kernel_rfl) ?_
    refine ends_blk ?_
    obtain ⟨y32, h33, H⟩ := ofBind H
    refine loop_in (fun (x : Int) => lit [(0, .c (dat 3 eTReaction zTReaction p0)), (1, .c (dat 3 eTReaction zTReaction p1)), (5, cI x)] []) (orJ (fun (z : Unit) => At (.exit 0) (lit [] [])) (fun (z : Bool) => At .ret (lit [(4, cB z)] []))) h33 ?_ ?_
    · clear H h33
      intro x22 y0 H
      refine seq_in ?_
      refine seq_ops [] [] [(0, .c (dat 3 eTReaction zTReaction p0)), (1, .c (dat 3 eTReaction zTReaction p1)), (5, cI x22), (14, cB (decide (x22 < (p0.length : Int))))] [] (fun t => lI p0 (t)) (by kernel_rfl) ?_
      rcases ofCond H with ⟨c24, H⟩ | ⟨c24, H⟩
      · refine ite_t c24 (by kernel_rfl) ?_
        refine ends_skip ?_
        change EndsI _ _ _ _ _ _
        refine seq_in ?_
        refine ends_blk ?_
        obtain ⟨v25, h26, H⟩ := ofBind H
        obtain ⟨v27, h28, H⟩ := ofBind H
        obtain ⟨v29, h30, H⟩ := ofBind H
        refine seq_draw [.cs (eTReaction v25), .cs (eTReaction v27), .res (cB v29)] [] [(0, .c (dat 3 eTReaction zTReaction p0)), (1, .c (dat 3 eTReaction zTReaction p1)), (5, cI x22), (26, cB (!v29))] [] (fun t => aI (at_lt h26) (aI (at_enc (enc := eTReaction) h26) (aI (rfl : ([] : List Nat) = []) (aI (at_lt h28) (aI (at_enc (enc := eTReaction) h28) (aI (rfl : ([] : List Nat) = []) (aI (l_eqReaction_ok v25 v27 v29 h30) (aI trivial (aI (rfl : ([] : List Nat) = []) (t)))))))))) (by kernel_rfl) ?_
        rcases ofCond H with ⟨c31, H⟩ | ⟨c31, H⟩
        · refine ite_t c31 (by kernel_rfl) ?_
          refine seq_ops [] [] [(4, cB false)] [] (fun t => t) (by kernel_rfl) ?_
          refine ends_ret ?_
          obtain rfl := Option.some.inj H
          exact And.intro (by simp) (And.intro rfl rfl)
        · refine ite_f c31 (by kernel_rfl) ?_
          refine ends_skip ?_
          change EndsI _ _ _ _ _ _
          refine one_ops [] [] [(0, .c (dat 3 eTReaction zTReaction p0)), (1, .c (dat 3 eTReaction zTReaction p1)), (5, cI (W (x22 + 1)))] [] (fun t => t) (by kernel_rfl) ?_
          obtain rfl := Option.some.inj H
          exact And.intro rfl rfl
      · refine ite_f c24 (by kernel_rfl) ?_
        refine tell [] [] [] (fun t => t) (by kernel_rfl) ?_
        refine ends_exit ?_
        obtain rfl := Option.some.inj H
        exact And.intro (by simp) (And.intro rfl rfl)
    · clear h33
      cases y32 with
      | inl y34 =>
        replace H := ofInl H
        intro e s q
        obtain ⟨rfl, rfl⟩ := q
        change EndsI _ _ _ _ _ _
        refine seq_ops [] [] [(4, cB true)] [] (fun t => t) (by kernel_rfl) ?_
        refine ends_ret ?_
        obtain rfl := Option.some.inj H
        exact And.intro (.inl rfl) rfl
      | inr y35 =>
        replace H := ofInr H
        intro e s q
        obtain ⟨rfl, rfl⟩ := q
        obtain rfl := Option.some.inj H
        exact And.intro (.inl rfl) rfl

def l_eqUnit_ir : S :=
 (.seq (.ops [⟨some 2, .box 4 (.t 0), none⟩, ⟨some 3, .box 4 (.t 1), none⟩, ⟨some 4, .mv (.v (.bool false)), none⟩])
 (.seq (.seq (.ops [⟨some 5, .fad 0 (.t 2), none⟩, ⟨some 6, .load 1 false (.t 5), none⟩, ⟨some 7, .fad 0 (.t 3), none⟩, ⟨some 8, .load 1 false (.t 7), none⟩, ⟨some 9, .bin .neq (.t 6) (.t 8), none⟩])
 (.ite (.t 9) (.seq (.ops [⟨some 4, .mv (.v (.bool false)), none⟩])
  .ret)
 .skip))
 (.seq (.seq (.ops [⟨some 10, .fad 1 (.t 2), none⟩, ⟨some 11, .load 1 false (.t 10), none⟩, ⟨some 12, .fad 1 (.t 3), none⟩, ⟨some 13, .load 1 false (.t 12), none⟩, ⟨some 14, .bin .neq (.t 11) (.t 13), none⟩])
 (.ite (.t 14) (.seq (.ops [⟨some 4, .mv (.v (.bool false)), none⟩])
  .ret)
 .skip))
 (.seq (.seq (.ops [⟨some 15, .fad 2 (.t 2), none⟩, ⟨some 16, .load 1 false (.t 15), none⟩, ⟨some 17, .fad 2 (.t 3), none⟩, ⟨some 18, .load 1 false (.t 17), none⟩, ⟨some 19, .bin .neq (.t 16) (.t 18), none⟩])
 (.ite (.t 19) (.seq (.ops [⟨some 4, .mv (.v (.bool false)), none⟩])
  .ret)
 .skip))
 (.seq (.seq (.ops [⟨some 20, .fad 3 (.t 2), none⟩, ⟨some 21, .load 1 false (.t 20), none⟩, ⟨some 22, .fad 3 (.t 3), none⟩, ⟨some 23, .load 1 false (.t 22), none⟩, ⟨some 24, .bin .neq (.t 21) (.t 23), none⟩])
 (.ite (.t 24) (.seq (.ops [⟨some 4, .mv (.v (.bool false)), none⟩])
  .ret)
 .skip))
 (.seq (.ops [⟨some 4, .mv (.v (.bool true)), none⟩])
 .ret))))))
noncomputable def X.l_eqUnit (p0 : TUnit) (p1 : TUnit) : Option Bool :=
  (bif (p0.Side != p1.Side) then some false else (bif (p0.Kind != p1.Kind) then some false else (bif (p0.At != p1.At) then some false else (bif (p0.Steps != p1.Steps) then some false else some true))))
theorem l_eqUnit_ok (p0 : TUnit) (p1 : TUnit) (r : Bool) (H : X.l_eqUnit p0 p1 = some r) : FnOk Tryz.prog gl 123 [.agg (eTUnit p0), .agg (eTUnit p1)] (cB r) := by
  unfold X.l_eqUnit at H
  refine fn_in (fn := Tryz.f123) (ir := l_eqUnit_ir) (s1 := lit [(4, cB r)] []) Tryz.func123 (by kernel_rfl) (by kernel_rfl) (by kernel_rfl) (by kernel_rfl) (by kernel_rfl) ?_
  refine seq_ops [] [] [(2, .c (.pk 2 0)), (3, .c (.pk 3 0))] [(2, .var (eTUnit p0) false), (3, .var (eTUnit p1) false)] (fun t => t) (by kernel_rfl) ?_
  refine seq_in ?_
  refine seq_ops [] [] [(2, .c (.pk 2 0)), (3, .c (.pk 3 0)), (9, cB (p0.Side != p1.Side))] [(2, .var (eTUnit p0) false), (3, .var (eTUnit p1) false)] (fun t => t) (by kernel_rfl) ?_
  rcases ofCond H with ⟨c2, H⟩ | ⟨c2, H⟩
  · refine ite_t c2 (by kernel_rfl) ?_
    refine seq_ops [] [] [(4, cB false)] [] (fun t => t) (by kernel_rfl) ?_
    refine ends_ret ?_
    obtain rfl := Option.some.inj H
    exact And.intro (.inl rfl) rfl
  · refine ite_f c2 (by kernel_rfl) ?_
    refine ends_skip ?_
    change EndsI _ _ _ _ _ _
    refine seq_in ?_
    refine seq_ops [] [] [(2, .c (.pk 2 0)), (3, .c (.pk 3 0)), (14, cB (p0.Kind != p1.Kind))] [(2, .var (eTUnit p0) false), (3, .var (eTUnit p1) false)] (fun t => t) (by kernel_rfl) ?_
    rcases ofCond H with ⟨c4, H⟩ | ⟨c4, H⟩
    · refine ite_t c4 (by kernel_rfl) ?_
      refine seq_ops [] [] [(4, cB false)] [] (fun t => t) (by kernel_rfl) ?_
      refine ends_ret ?_
      obtain rfl := Option.some.inj H
      exact And.intro (.inl rfl) rfl
    · refine ite_f c4 (by kernel_rfl) ?_
      refine ends_skip ?_
      change EndsI _ _ _ _ _ _
      refine seq_in ?_
      refine seq_ops [] [] [(2, .c (.pk 2 0)), (3, .c (.pk 3 0)), (19, cB (p0.At != p1.At))] [(2, .var (eTUnit p0) false), (3, .var (eTUnit p1) false)] (fun t => t) (by kernel_rfl) ?_
      rcases ofCond H with ⟨c6, H⟩ | ⟨c6, H⟩
      · refine ite_t c6 (by kernel_rfl) ?_
        refine seq_ops [] [] [(4, cB false)] [] (fun t => t) (by kernel_rfl) ?_
        refine ends_ret ?_
        obtain rfl := Option.some.inj H
        exact And.intro (.inl rfl) rfl
      · refine ite_f c6 (by kernel_rfl) ?_
        refine ends_skip ?_
        change EndsI _ _ _ _ _ _
        refine seq_in ?_
        refine seq_ops [] [] [(24, cB (p0.Steps != p1.Steps))] [] (fun t => t) (by kernel_rfl) ?_
        rcases ofCond H with ⟨c7, H⟩ | ⟨c7, H⟩
        · refine ite_t c7 (by kernel_rfl) ?_
          refine seq_ops [] [] [(4, cB false)] [] (fun t => t) (by kernel_rfl) ?_
          refine ends_ret ?_
          obtain rfl := Option.some.inj H
          exact And.intro (.inl rfl) rfl
        · refine ite_f c7 (by kernel_rfl) ?_
          refine ends_skip ?_
          change EndsI _ _ _ _ _ _
          refine seq_ops [] [] [(4, cB true)] [] (fun t => t) (by kernel_rfl) ?_
          refine ends_ret ?_
          obtain rfl := Option.some.inj H
          exact And.intro (.inl rfl) rfl

def l_eqUnitS_ir : S :=
 (.seq (.ops [⟨some 4, .mv (.v (.bool false)), none⟩])
 (.seq (.seq (.ops [⟨some 6, .mv (.t 0), none⟩, ⟨some 7, .len (.t 6), none⟩, ⟨some 8, .mv (.t 1), none⟩, ⟨some 9, .len (.t 8), none⟩, ⟨some 10, .bin .neq (.t 7) (.t 9), none⟩])
 (.ite (.t 10) (.seq (.ops [⟨some 4, .mv (.v (.bool false)), none⟩])
  .ret)
 .skip))
 (.seq (.seq (.ops [⟨some 5, .mv (.v (.int .i64 0)), none⟩])
 (.blk 0 (.loop (.seq (.seq (.ops [⟨some 11, .mv (.t 5), none⟩, ⟨some 12, .mv (.t 0), none⟩, ⟨some 13, .len (.t 12), none⟩, ⟨some 14, .bin .lss (.t 11) (.t 13), none⟩])
   (.ite (.t 14) .skip
   (.exit 0)))
   (.seq (.blk 1 (.seq (.draw 10 [⟨some 17, .mv (.t 0), none⟩, ⟨some 18, .mv (.t 5), none⟩, ⟨some 19, .iad 4 (.t 17) (.t 18), none⟩, ⟨some 20, .load 4 true (.t 19), none⟩, ⟨some 21, .mv (.t 1), none⟩, ⟨some 22, .mv (.t 5), none⟩, ⟨some 23, .iad 4 (.t 21) (.t 22), none⟩, ⟨some 24, .load 4 true (.t 23), none⟩, ⟨some 25, .call 123 [.t 20, .t 24], none⟩, ⟨some 26, .not (.t 25), none⟩])
    (.ite (.t 26) (.seq (.ops [⟨some 4, .mv (.v (.bool false)), none⟩])
     .ret)
    .skip)))
   (.ops [⟨some 15, .mv (.t 5), none⟩, ⟨some 16, .bin .add (.t 15) (.v (.int .i64 1)), none⟩, ⟨some 5, .mv (.t 16), none⟩]))))))
 (.seq (.ops [⟨some 4, .mv (.v (.bool true)), none⟩])
 .ret))))
noncomputable def X.l_eqUnitS (p0 : (List TUnit)) (p1 : (List TUnit)) : Option Bool :=
  (bif ((p0.length : Int) != (p1.length : Int)) then some false else ((loop (fun (x22 : Int) => ((bif (decide (x22 < (p0.length : Int))) then ((at' zTUnit p0 x22).bind fun v25 => ((at' zTUnit p1 x22).bind fun v27 => ((X.l_eqUnit v25 v27).bind fun v29 => (bif (!v29) then some (Sum.inr (Sum.inr false)) else some (Sum.inl (W (x22 + 1))))))) else some (Sum.inr (Sum.inl ()))) : Option (Int ⊕ (Unit ⊕ Bool)))) 0).bind fun y32 => (Sum.elim (fun (y34 : Unit) => some true) (fun (y35 : Bool) => some y35) y32)))
theorem l_eqUnitS_ok (p0 : (List TUnit)) (p1 : (List TUnit)) (r : Bool) (H : X.l_eqUnitS p0 p1 = some r) : FnOk Tryz.prog gl 60 [.c (dat 4 eTUnit zTUnit p0), .c (dat 4 eTUnit zTUnit p1)] (cB r) := by
  unfold X.l_eqUnitS at H
  refine fn_in (fn := Tryz.f60) (ir := l_eqUnitS_ir) (s1 := lit [(4, cB r)] []) Tryz.func60 (by kernel_rfl) (by kernel_rfl) (by kernel_rfl) (by kernel_rfl) (by kernel_rfl) ?_
  refine seq_ops [] [] [(0, .c (dat 4 eTUnit zTUnit p0)), (1, .c (dat 4 eTUnit zTUnit p1))] [] (fun t => t) (by kernel_rfl) ?_
  refine seq_in ?_
  refine seq_ops [] [] [(0, .c (dat 4 eTUnit zTUnit p0)), (1, .c (dat 4 eTUnit zTUnit p1)), (10, cB ((p0.length : Int) != (p1.length : Int)))] [] (fun t => lI p0 (lI p1 (t))) (by kernel_rfl) ?_
  rcases ofCond H with ⟨c2, H⟩ | ⟨c2, H⟩
  · refine ite_t c2 (by kernel_rfl) ?_
    refine seq_ops [] [] [(4, cB false)] [] (fun t => t) (by kernel_rfl) ?_
    refine ends_ret ?_
    obtain rfl := Option.some.inj H
    exact And.intro (.inl rfl) rfl
  · refine ite_f c2 (by kernel_rfl) ?_
    refine ends_skip ?_
    change EndsI _ _ _ _ _ _
    refine seq_in ?_
    refine seq_ops [] [] [(0, .c (dat 4 eTUnit zTUnit p0)), (1, .c (dat 4 eTUnit zTUnit p1)), (5, cI 0)] [] (fun t => t) (by kernel_rfl) ?_
    refine ends_blk ?_
    obtain ⟨y32, h33, H⟩ := ofBind H
    refine loop_in (fun (x : Int) => lit [(0, .c (dat 4 eTUnit zTUnit p0)), (1, .c (dat 4 eTUnit zTUnit p1)), (5, cI x)] []) (orJ (fun (z : Unit) => At (.exit 0) (lit [] [])) (fun (z : Bool) => At .ret (lit [(4, cB z)] []))) h33 ?_ ?_
    · clear H h33
      intro x22 y0 H
      refine seq_in ?_
      refine seq_ops [] [] [(0, .c (dat 4 eTUnit zTUnit p0)), (1, .c (dat 4 eTUnit zTUnit p1)), (5, cI x22), (14, cB (decide (x22 < (p0.length : Int))))] [] (fun t => lI p0 (t)) (by kernel_rfl) ?_
      rcases ofCond H with ⟨c24, H⟩ | ⟨c24, H⟩
      · refine ite_t c24 (by kernel_rfl) ?_
        refine ends_skip ?_
        change EndsI _ _ _ _ _ _
        refine seq_in ?_
        refine ends_blk ?_
        obtain ⟨v25, h26, H⟩ := ofBind H
        obtain ⟨v27, h28, H⟩ := ofBind H
        obtain ⟨v29, h30, H⟩ := ofBind H
        refine seq_draw [.cs (eTUnit v25), .cs (eTUnit v27), .res (cB v29)] [] [(0, .c (dat 4 eTUnit zTUnit p0)), (1, .c (dat 4 eTUnit zTUnit p1)), (5, cI x22), (26, cB (!v29))] [] (fun t => aI (at_lt h26) (aI (at_enc (enc := eTUnit) h26) (aI (rfl : ([] : List Nat) = []) (aI (at_lt h28) (aI (at_enc (enc := eTUnit) h28) (aI (rfl : ([] : List Nat) = []) (aI (l_eqUnit_ok v25 v27 v29 h30) (aI trivial (aI (rfl : ([] : List Nat) = []) (t)))))))))) (by kernel_rfl) ?_
        rcases ofCond H with ⟨c31, H⟩ | ⟨c31, H⟩
        · refine ite_t c31 (by kernel_rfl) ?_
          refine seq_ops [] [] [(4, cB false)] [] (fun t => t) (by kernel_rfl) ?_
          refine ends_ret ?_
          obtain rfl := Option.some.inj H
          exact And.intro (by simp) (And.intro rfl rfl)
        · refine ite_f c31 (by kernel_rfl) ?_
          refine ends_skip ?_
          change EndsI _ _ _ _ _ _
          refine one_ops [] [] [(0, .c (dat 4 eTUnit zTUnit p0)), (1, .c (dat 4 eTUnit zTUnit p1)), (5, cI (W (x22 + 1)))] [] (fun t => t) (by kernel_rfl) ?_
          obtain rfl := Option.some.inj H
          exact And.intro rfl rfl
      · refine ite_f c24 (by kernel_rfl) ?_
        refine tell [] [] [] (fun t => t) (by kernel_rfl) ?_
        refine ends_exit ?_
        obtain rfl := Option.some.inj H
        exact And.intro (by simp) (And.intro rfl rfl)
    · clear h33
      cases y32 with
      | inl y34 =>
        replace H := ofInl H
        intro e s q
        obtain ⟨rfl, rfl⟩ := q
        change EndsI _ _ _ _ _ _
        refine seq_ops [] [] [(4, cB true)] [] (fun t => t) (by kernel_rfl) ?_
        refine ends_ret ?_
        obtain rfl := Option.some.inj H
        exact And.intro (.inl rfl) rfl
      | inr y35 =>
        replace H := ofInr H
        intro e s q
        obtain ⟨rfl, rfl⟩ := q
        obtain rfl := Option.some.inj H
        exact And.intro (.inl rfl) rfl

def l_eqState_ir : S :=
 (.seq (.ops [⟨some 2, .box 3 (.t 0), none⟩, ⟨some 3, .box 3 (.t 1), none⟩, ⟨some 4, .mv (.v (.bool false)), none⟩])
 (.seq (.seq (.ops [⟨some 5, .fad 0 (.t 2), none⟩, ⟨some 6, .load 1 false (.t 5), none⟩, ⟨some 7, .fad 0 (.t 3), none⟩, ⟨some 8, .load 1 false (.t 7), none⟩, ⟨some 9, .bin .neq (.t 6) (.t 8), none⟩])
 (.ite (.t 9) (.seq (.ops [⟨some 4, .mv (.v (.bool false)), none⟩])
  .ret)
 .skip))
 (.seq (.seq (.ops [⟨some 10, .fad 1 (.t 2), none⟩, ⟨some 11, .load 1 false (.t 10), none⟩, ⟨some 12, .fad 1 (.t 3), none⟩, ⟨some 13, .load 1 false (.t 12), none⟩, ⟨some 14, .bin .neq (.t 11) (.t 13), none⟩])
 (.ite (.t 14) (.seq (.ops [⟨some 4, .mv (.v (.bool false)), none⟩])
  .ret)
 .skip))
 (.seq (.seq (.ops [⟨some 15, .fad 2 (.t 2), none⟩, ⟨some 16, .load 1 false (.t 15), none⟩, ⟨some 17, .fad 2 (.t 3), none⟩, ⟨some 18, .load 1 false (.t 17), none⟩, ⟨some 19, .call 60 [.t 16, .t 18], none⟩, ⟨some 20, .not (.t 19), none⟩])
 (.ite (.t 20) (.seq (.ops [⟨some 4, .mv (.v (.bool false)), none⟩])
  .ret)
 .skip))
 (.seq (.ops [⟨some 4, .mv (.v (.bool true)), none⟩])
 .ret)))))
noncomputable def X.l_eqState (p0 : TState) (p1 : TState) : Option Bool :=
  (bif (p0.Turn != p1.Turn) then some false else (bif (p0.Weather != p1.Weather) then some false else ((X.l_eqUnitS p0.Units p1.Units).bind fun v5 => (bif (!v5) then some false else some true))))
theorem l_eqState_ok (p0 : TState) (p1 : TState) (r : Bool) (H : X.l_eqState p0 p1 = some r) : FnOk Tryz.prog gl 19 [.agg (eTState p0), .agg (eTState p1)] (cB r) := by
  unfold X.l_eqState at H
  refine fn_in (fn := Tryz.f19) (ir := l_eqState_ir) (s1 := lit [(4, cB r)] []) Tryz.func19 (by kernel_rfl) (by kernel_rfl) (by kernel_rfl) (by kernel_rfl) (by kernel_rfl) ?_
  refine seq_ops [] [] [(2, .c (.pk 2 0)), (3, .c (.pk 3 0))] [(2, .var (eTState p0) false), (3, .var (eTState p1) false)] (fun t => t) (by kernel_rfl) ?_
  refine seq_in ?_
  refine seq_ops [] [] [(2, .c (.pk 2 0)), (3, .c (.pk 3 0)), (9, cB (p0.Turn != p1.Turn))] [(2, .var (eTState p0) false), (3, .var (eTState p1) false)] (fun t => t) (by kernel_rfl) ?_
  rcases ofCond H with ⟨c2, H⟩ | ⟨c2, H⟩
  · refine ite_t c2 (by kernel_rfl) ?_
    refine seq_ops [] [] [(4, cB false)] [] (fun t => t) (by kernel_rfl) ?_
    refine ends_ret ?_
    obtain rfl := Option.some.inj H
    exact And.intro (.inl rfl) rfl
  · refine ite_f c2 (by kernel_rfl) ?_
    refine ends_skip ?_
    change EndsI _ _ _ _ _ _
    refine seq_in ?_
    refine seq_ops [] [] [(2, .c (.pk 2 0)), (3, .c (.pk 3 0)), (14, cB (p0.Weather != p1.Weather))] [(2, .var (eTState p0) false), (3, .var (eTState p1) false)] (fun t => t) (by kernel_rfl) ?_
    rcases ofCond H with ⟨c4, H⟩ | ⟨c4, H⟩
    · refine ite_t c4 (by kernel_rfl) ?_
      refine seq_ops [] [] [(4, cB false)] [] (fun t => t) (by kernel_rfl) ?_
      refine ends_ret ?_
      obtain rfl := Option.some.inj H
      exact And.intro (.inl rfl) rfl
    · refine ite_f c4 (by kernel_rfl) ?_
      refine ends_skip ?_
      change EndsI _ _ _ _ _ _
      refine seq_in ?_
      obtain ⟨v5, h6, H⟩ := ofBind H
      refine seq_ops [.res (cB v5)] [] [(20, cB (!v5))] [] (fun t => aI (l_eqUnitS_ok p0.Units p1.Units v5 h6) (t)) (by kernel_rfl) ?_
      rcases ofCond H with ⟨c7, H⟩ | ⟨c7, H⟩
      · refine ite_t c7 (by kernel_rfl) ?_
        refine seq_ops [] [] [(4, cB false)] [] (fun t => t) (by kernel_rfl) ?_
        refine ends_ret ?_
        obtain rfl := Option.some.inj H
        exact And.intro (.inl rfl) rfl
      · refine ite_f c7 (by kernel_rfl) ?_
        refine ends_skip ?_
        change EndsI _ _ _ _ _ _
        refine seq_ops [] [] [(4, cB true)] [] (fun t => t) (by kernel_rfl) ?_
        refine ends_ret ?_
        obtain rfl := Option.some.inj H
        exact And.intro (.inl rfl) rfl

def l_eqFrame_ir : S :=
 (.seq (.ops [⟨some 2, .box 3 (.t 0), none⟩, ⟨some 3, .box 3 (.t 1), none⟩, ⟨some 4, .mv (.v (.bool false)), none⟩])
 (.seq (.seq (.ops [⟨some 5, .fad 0 (.t 2), none⟩, ⟨some 6, .load 1 false (.t 5), none⟩, ⟨some 7, .fad 0 (.t 3), none⟩, ⟨some 8, .load 1 false (.t 7), none⟩, ⟨some 9, .bin .neq (.t 6) (.t 8), none⟩])
 (.ite (.t 9) (.seq (.ops [⟨some 4, .mv (.v (.bool false)), none⟩])
  .ret)
 .skip))
 (.seq (.seq (.ops [⟨some 10, .fad 1 (.t 2), none⟩, ⟨some 11, .load 1 false (.t 10), none⟩, ⟨some 12, .fad 1 (.t 3), none⟩, ⟨some 13, .load 1 false (.t 12), none⟩, ⟨some 14, .bin .neq (.t 11) (.t 13), none⟩])
 (.ite (.t 14) (.seq (.ops [⟨some 4, .mv (.v (.bool false)), none⟩])
  .ret)
 .skip))
 (.seq (.seq (.ops [⟨some 15, .fad 2 (.t 2), none⟩, ⟨some 16, .load 1 false (.t 15), none⟩, ⟨some 17, .fad 2 (.t 3), none⟩, ⟨some 18, .load 1 false (.t 17), none⟩, ⟨some 19, .bin .neq (.t 16) (.t 18), none⟩])
 (.ite (.t 19) (.seq (.ops [⟨some 4, .mv (.v (.bool false)), none⟩])
  .ret)
 .skip))
 (.seq (.ops [⟨some 4, .mv (.v (.bool true)), none⟩])
 .ret)))))
noncomputable def X.l_eqFrame (p0 : TFrame) (p1 : TFrame) : Option Bool :=
  (bif (p0.Unit != p1.Unit) then some false else (bif (p0.At != p1.At) then some false else (bif (p0.By != p1.By) then some false else some true)))
theorem l_eqFrame_ok (p0 : TFrame) (p1 : TFrame) (r : Bool) (H : X.l_eqFrame p0 p1 = some r) : FnOk Tryz.prog gl 141 [.agg (eTFrame p0), .agg (eTFrame p1)] (cB r) := by
  unfold X.l_eqFrame at H
  refine fn_in (fn := Tryz.f141) (ir := l_eqFrame_ir) (s1 := lit [(4, cB r)] []) Tryz.func141 (by kernel_rfl) (by kernel_rfl) (by kernel_rfl) (by kernel_rfl) (by kernel_rfl) ?_
  refine seq_ops [] [] [(2, .c (.pk 2 0)), (3, .c (.pk 3 0))] [(2, .var (eTFrame p0) false), (3, .var (eTFrame p1) false)] (fun t => t) (by kernel_rfl) ?_
  refine seq_in ?_
  refine seq_ops [] [] [(2, .c (.pk 2 0)), (3, .c (.pk 3 0)), (9, cB (p0.Unit != p1.Unit))] [(2, .var (eTFrame p0) false), (3, .var (eTFrame p1) false)] (fun t => t) (by kernel_rfl) ?_
  rcases ofCond H with ⟨c2, H⟩ | ⟨c2, H⟩
  · refine ite_t c2 (by kernel_rfl) ?_
    refine seq_ops [] [] [(4, cB false)] [] (fun t => t) (by kernel_rfl) ?_
    refine ends_ret ?_
    obtain rfl := Option.some.inj H
    exact And.intro (.inl rfl) rfl
  · refine ite_f c2 (by kernel_rfl) ?_
    refine ends_skip ?_
    change EndsI _ _ _ _ _ _
    refine seq_in ?_
    refine seq_ops [] [] [(2, .c (.pk 2 0)), (3, .c (.pk 3 0)), (14, cB (p0.At != p1.At))] [(2, .var (eTFrame p0) false), (3, .var (eTFrame p1) false)] (fun t => t) (by kernel_rfl) ?_
    rcases ofCond H with ⟨c4, H⟩ | ⟨c4, H⟩
    · refine ite_t c4 (by kernel_rfl) ?_
      refine seq_ops [] [] [(4, cB false)] [] (fun t => t) (by kernel_rfl) ?_
      refine ends_ret ?_
      obtain rfl := Option.some.inj H
      exact And.intro (.inl rfl) rfl
    · refine ite_f c4 (by kernel_rfl) ?_
      refine ends_skip ?_
      change EndsI _ _ _ _ _ _
      refine seq_in ?_
      refine seq_ops [] [] [(19, cB (p0.By != p1.By))] [] (fun t => t) (by kernel_rfl) ?_
      rcases ofCond H with ⟨c5, H⟩ | ⟨c5, H⟩
      · refine ite_t c5 (by kernel_rfl) ?_
        refine seq_ops [] [] [(4, cB false)] [] (fun t => t) (by kernel_rfl) ?_
        refine ends_ret ?_
        obtain rfl := Option.some.inj H
        exact And.intro (.inl rfl) rfl
      · refine ite_f c5 (by kernel_rfl) ?_
        refine ends_skip ?_
        change EndsI _ _ _ _ _ _
        refine seq_ops [] [] [(4, cB true)] [] (fun t => t) (by kernel_rfl) ?_
        refine ends_ret ?_
        obtain rfl := Option.some.inj H
        exact And.intro (.inl rfl) rfl

def l_eqFrameS_ir : S :=
 (.seq (.ops [⟨some 4, .mv (.v (.bool false)), none⟩])
 (.seq (.seq (.ops [⟨some 6, .mv (.t 0), none⟩, ⟨some 7, .len (.t 6), none⟩, ⟨some 8, .mv (.t 1), none⟩, ⟨some 9, .len (.t 8), none⟩, ⟨some 10, .bin .neq (.t 7) (.t 9), none⟩])
 (.ite (.t 10) (.seq (.ops [⟨some 4, .mv (.v (.bool false)), none⟩])
  .ret)
 .skip))
 (.seq (.seq (.ops [⟨some 5, .mv (.v (.int .i64 0)), none⟩])
 (.blk 0 (.loop (.seq (.seq (.ops [⟨some 11, .mv (.t 5), none⟩, ⟨some 12, .mv (.t 0), none⟩, ⟨some 13, .len (.t 12), none⟩, ⟨some 14, .bin .lss (.t 11) (.t 13), none⟩])
   (.ite (.t 14) .skip
   (.exit 0)))
   (.seq (.blk 1 (.seq (.draw 10 [⟨some 17, .mv (.t 0), none⟩, ⟨some 18, .mv (.t 5), none⟩, ⟨some 19, .iad 3 (.t 17) (.t 18), none⟩, ⟨some 20, .load 3 true (.t 19), none⟩, ⟨some 21, .mv (.t 1), none⟩, ⟨some 22, .mv (.t 5), none⟩, ⟨some 23, .iad 3 (.t 21) (.t 22), none⟩, ⟨some 24, .load 3 true (.t 23), none⟩, ⟨some 25, .call 141 [.t 20, .t 24], none⟩, ⟨some 26, .not (.t 25), none⟩])
    (.ite (.t 26) (.seq (.ops [⟨some 4, .mv (.v (.bool false)), none⟩])
     .ret)
    .skip)))
   (.ops [⟨some 15, .mv (.t 5), none⟩, ⟨some 16, .bin .add (.t 15) (.v (.int .i64 1)), none⟩, ⟨some 5, .mv (.t 16), none⟩]))))))
 (.seq (.ops [⟨some 4, .mv (.v (.bool true)), none⟩])
 .ret))))
noncomputable def X.l_eqFrameS (p0 : (List TFrame)) (p1 : (List TFrame)) : Option Bool :=
  (bif ((p0.length : Int) != (p1.length : Int)) then some false else ((loop (fun (x22 : Int) => ((bif (decide (x22 < (p0.length : Int))) then ((at' zTFrame p0 x22).bind fun v25 => ((at' zTFrame p1 x22).bind fun v27 => ((X.l_eqFrame v25 v27).bind fun v29 => (bif (!v29) then some (Sum.inr (Sum.inr false)) else some (Sum.inl (W (x22 + 1))))))) else some (Sum.inr (Sum.inl ()))) : Option (Int ⊕ (Unit ⊕ Bool)))) 0).bind fun y32 => (Sum.elim (fun (y34 : Unit) => some true) (fun (y35 : Bool) => some y35) y32)))
theorem l_eqFrameS_ok (p0 : (List TFrame)) (p1 : (List TFrame)) (r : Bool) (H : X.l_eqFrameS p0 p1 = some r) : FnOk Tryz.prog gl 76 [.c (dat 3 eTFrame zTFrame p0), .c (dat 3 eTFrame zTFrame p1)] (cB r) := by
  unfold X.l_eqFrameS at H
  refine fn_in (fn := Tryz.f76) (ir := l_eqFrameS_ir) (s1 := lit [(4, cB r)] []) Tryz.func76 (by kernel_rfl) (by kernel_rfl) (by kernel_rfl) (by kernel_rfl) (by kernel_rfl) ?_
  refine seq_ops [] [] [(0, .c (dat 3 eTFrame zTFrame p0)), (1, .c (dat 3 eTFrame zTFrame p1))] [] (fun t => t) (by kernel_rfl) ?_
  refine seq_in ?_
  refine seq_ops [] [] [(0, .c (dat 3 eTFrame zTFrame p0)), (1, .c (dat 3 eTFrame zTFrame p1)), (10, cB ((p0.length : Int) != (p1.length : Int)))] [] (fun t => lI p0 (lI p1 (t))) (by kernel_rfl) ?_
  rcases ofCond H with ⟨c2, H⟩ | ⟨c2, H⟩
  · refine ite_t c2 (by kernel_rfl) ?_
    refine seq_ops [] [] [(4, cB false)] [] (fun t => t) (by kernel_rfl) ?_
    refine ends_ret ?_
    obtain rfl := Option.some.inj H
    exact And.intro (.inl rfl) rfl
  · refine ite_f c2 (by kernel_rfl) ?_
    refine ends_skip ?_
    change EndsI _ _ _ _ _ _
    refine seq_in ?_
    refine seq_ops [] [] [(0, .c (dat 3 eTFrame zTFrame p0)), (1, .c (dat 3 eTFrame zTFrame p1)), (5, cI 0)] [] (fun t => t) (by kernel_rfl) ?_
    refine ends_blk ?_
    obtain ⟨y32, h33, H⟩ := ofBind H
    refine loop_in (fun (x : Int) => lit [(0, .c (dat 3 eTFrame zTFrame p0)), (1, .c (dat 3 eTFrame zTFrame p1)), (5, cI x)] []) (orJ (fun (z : Unit) => At (.exit 0) (lit [] [])) (fun (z : Bool) => At .ret (lit [(4, cB z)] []))) h33 ?_ ?_
    · clear H h33
      intro x22 y0 H
      refine seq_in ?_
      refine seq_ops [] [] [(0, .c (dat 3 eTFrame zTFrame p0)), (1, .c (dat 3 eTFrame zTFrame p1)), (5, cI x22), (14, cB (decide (x22 < (p0.length : Int))))] [] (fun t => lI p0 (t)) (by kernel_rfl) ?_
      rcases ofCond H with ⟨c24, H⟩ | ⟨c24, H⟩
      · refine ite_t c24 (by kernel_rfl) ?_
        refine ends_skip ?_
        change EndsI _ _ _ _ _ _
        refine seq_in ?_
        refine ends_blk ?_
        obtain ⟨v25, h26, H⟩ := ofBind H
        obtain ⟨v27, h28, H⟩ := ofBind H
        obtain ⟨v29, h30, H⟩ := ofBind H
        refine seq_draw [.cs (eTFrame v25), .cs (eTFrame v27), .res (cB v29)] [] [(0, .c (dat 3 eTFrame zTFrame p0)), (1, .c (dat 3 eTFrame zTFrame p1)), (5, cI x22), (26, cB (!v29))] [] (fun t => aI (at_lt h26) (aI (at_enc (enc := eTFrame) h26) (aI (rfl : ([] : List Nat) = []) (aI (at_lt h28) (aI (at_enc (enc := eTFrame) h28) (aI (rfl : ([] : List Nat) = []) (aI (l_eqFrame_ok v25 v27 v29 h30) (aI trivial (aI (rfl : ([] : List Nat) = []) (t)))))))))) (by kernel_rfl) ?_
        rcases ofCond H with ⟨c31, H⟩ | ⟨c31, H⟩
        · refine ite_t c31 (by kernel_rfl) ?_
          refine seq_ops [] [] [(4, cB false)] [] (fun t => t) (by kernel_rfl) ?_
          refine ends_ret ?_
          obtain rfl := Option.some.inj H
          exact And.intro (by simp) (And.intro rfl rfl)
        · refine ite_f c31 (by kernel_rfl) ?_
          refine ends_skip ?_
          change EndsI _ _ _ _ _ _
          refine one_ops [] [] [(0, .c (dat 3 eTFrame zTFrame p0)), (1, .c (dat 3 eTFrame zTFrame p1)), (5, cI (W (x22 + 1)))] [] (fun t => t) (by kernel_rfl) ?_
          obtain rfl := Option.some.inj H
          exact And.intro rfl rfl
      · refine ite_f c24 (by kernel_rfl) ?_
        refine tell [] [] [] (fun t => t) (by kernel_rfl) ?_
        refine ends_exit ?_
        obtain rfl := Option.some.inj H
        exact And.intro (by simp) (And.intro rfl rfl)
    · clear h33
      cases y32 with
      | inl y34 =>
        replace H := ofInl H
        intro e s q
        obtain ⟨rfl, rfl⟩ := q
        change EndsI _ _ _ _ _ _
        refine seq_ops [] [] [(4, cB true)] [] (fun t => t) (by kernel_rfl) ?_
        refine ends_ret ?_
        obtain rfl := Option.some.inj H
        exact And.intro (.inl rfl) rfl
      | inr y35 =>
        replace H := ofInr H
        intro e s q
        obtain ⟨rfl, rfl⟩ := q
        obtain rfl := Option.some.inj H
        exact And.intro (.inl rfl) rfl

def l_eqMachine_ir : S :=
 (.seq (.ops [⟨some 2, .box 6 (.t 0), none⟩, ⟨some 3, .box 6 (.t 1), none⟩, ⟨some 4, .mv (.v (.bool false)), none⟩])
 (.seq (.seq (.ops [⟨some 5, .fad 0 (.t 2), none⟩, ⟨some 6, .load 1 false (.t 5), none⟩, ⟨some 7, .fad 0 (.t 3), none⟩, ⟨some 8, .load 1 false (.t 7), none⟩, ⟨some 9, .call 76 [.t 6, .t 8], none⟩, ⟨some 10, .not (.t 9), none⟩])
 (.ite (.t 10) (.seq (.ops [⟨some 4, .mv (.v (.bool false)), none⟩])
  .ret)
 .skip))
 (.seq (.seq (.ops [⟨some 11, .fad 1 (.t 2), none⟩, ⟨some 12, .load 1 false (.t 11), none⟩, ⟨some 13, .fad 1 (.t 3), none⟩, ⟨some 14, .load 1 false (.t 13), none⟩, ⟨some 15, .call 77 [.t 12, .t 14], none⟩, ⟨some 16, .not (.t 15), none⟩])
 (.ite (.t 16) (.seq (.ops [⟨some 4, .mv (.v (.bool false)), none⟩])
  .ret)
 .skip))
 (.seq (.seq (.ops [⟨some 17, .fad 2 (.t 2), none⟩, ⟨some 18, .load 3 true (.t 17), none⟩, ⟨some 19, .fad 2 (.t 3), none⟩, ⟨some 20, .load 3 true (.t 19), none⟩, ⟨some 21, .call 19 [.t 18, .t 20], none⟩, ⟨some 22, .not (.t 21), none⟩])
 (.ite (.t 22) (.seq (.ops [⟨some 4, .mv (.v (.bool false)), none⟩])
  .ret)
 .skip))
 (.seq (.seq (.ops [⟨some 23, .fad 5 (.t 2), none⟩, ⟨some 24, .load 1 false (.t 23), none⟩, ⟨some 25, .fad 5 (.t 3), none⟩, ⟨some 26, .load 1 false (.t 25), none⟩, ⟨some 27, .call 77 [.t 24, .t 26], none⟩, ⟨some 28, .not (.t 27), none⟩])
 (.ite (.t 28) (.seq (.ops [⟨some 4, .mv (.v (.bool false)), none⟩])
  .ret)
 .skip))
 (.seq (.ops [⟨some 4, .mv (.v (.bool true)), none⟩])
 .ret))))))
noncomputable def X.l_eqMachine (p0 : TMachine) (p1 : TMachine) : Option Bool :=
  ((X.l_eqFrameS p0.Stack p1.Stack).bind fun v4 => (bif (!v4) then some false else ((X.l_eqIntS p0.Used p1.Used).bind fun v10 => (bif (!v10) then some false else ((X.l_eqState p0.State p1.State).bind fun v16 => (bif (!v16) then some false else ((X.l_eqIntS p0.Log p1.Log).bind fun v19 => (bif (!v19) then some false else some true))))))))
theorem l_eqMachine_ok (p0 : TMachine) (p1 : TMachine) (r : Bool) (H : X.l_eqMachine p0 p1 = some r) : FnOk Tryz.prog gl 31 [.agg (eTMachine p0), .agg (eTMachine p1)] (cB r) := by
  unfold X.l_eqMachine at H
  refine fn_in (fn := Tryz.f31) (ir := l_eqMachine_ir) (s1 := lit [(4, cB r)] []) Tryz.func31 (by kernel_rfl) (by kernel_rfl) (by kernel_rfl) (by kernel_rfl) (by kernel_rfl) ?_
  refine seq_ops [] [] [(2, .c (.pk 2 0)), (3, .c (.pk 3 0))] [(2, .var (eTMachine p0) false), (3, .var (eTMachine p1) false)] (fun t => t) (by kernel_rfl) ?_
  refine seq_in ?_
  obtain ⟨v4, h5, H⟩ := ofBind H
  refine seq_ops [.res (cB v4)] [] [(2, .c (.pk 2 0)), (3, .c (.pk 3 0)), (10, cB (!v4))] [(2, .var (eTMachine p0) false), (3, .var (eTMachine p1) false)] (fun t => aI (l_eqFrameS_ok p0.Stack p1.Stack v4 h5) (t)) (by kernel_rfl) ?_
  rcases ofCond H with ⟨c6, H⟩ | ⟨c6, H⟩
  · refine ite_t c6 (by kernel_rfl) ?_
    refine seq_ops [] [] [(4, cB false)] [] (fun t => t) (by kernel_rfl) ?_
    refine ends_ret ?_
    obtain rfl := Option.some.inj H
    exact And.intro (.inl rfl) rfl
  · refine ite_f c6 (by kernel_rfl) ?_
    refine ends_skip ?_
    change EndsI _ _ _ _ _ _
    refine seq_in ?_
    obtain ⟨v10, h11, H⟩ := ofBind H
    refine seq_ops [.res (cB v10)] [] [(2, .c (.pk 2 0)), (3, .c (.pk 3 0)), (16, cB (!v10))] [(2, .var (eTMachine p0) false), (3, .var (eTMachine p1) false)] (fun t => aI (l_eqIntS_ok p0.Used p1.Used v10 h11) (t)) (by kernel_rfl) ?_
    rcases ofCond H with ⟨c12, H⟩ | ⟨c12, H⟩
    · refine ite_t c12 (by kernel_rfl) ?_
      refine seq_ops [] [] [(4, cB false)] [] (fun t => t) (by kernel_rfl) ?_
      refine ends_ret ?_
      obtain rfl := Option.some.inj H
      exact And.intro (.inl rfl) rfl
    · refine ite_f c12 (by kernel_rfl) ?_
      refine ends_skip ?_
      change EndsI _ _ _ _ _ _
      refine seq_in ?_
      obtain ⟨v16, h17, H⟩ := ofBind H
      refine seq_ops [.res (cB v16)] [] [(2, .c (.pk 2 0)), (3, .c (.pk 3 0)), (22, cB (!v16))] [(2, .var (eTMachine p0) false), (3, .var (eTMachine p1) false)] (fun t => aI (l_eqState_ok p0.State p1.State v16 h17) (t)) (by kernel_rfl) ?_
      rcases ofCond H with ⟨c18, H⟩ | ⟨c18, H⟩
      · refine ite_t c18 (by kernel_rfl) ?_
        refine seq_ops [] [] [(4, cB false)] [] (fun t => t) (by kernel_rfl) ?_
        refine ends_ret ?_
        obtain rfl := Option.some.inj H
        exact And.intro (.inl rfl) rfl
      · refine ite_f c18 (by kernel_rfl) ?_
        refine ends_skip ?_
        change EndsI _ _ _ _ _ _
        refine seq_in ?_
        obtain ⟨v19, h20, H⟩ := ofBind H
        refine seq_ops [.res (cB v19)] [] [(28, cB (!v19))] [] (fun t => aI (l_eqIntS_ok p0.Log p1.Log v19 h20) (t)) (by kernel_rfl) ?_
        rcases ofCond H with ⟨c21, H⟩ | ⟨c21, H⟩
        · refine ite_t c21 (by kernel_rfl) ?_
          refine seq_ops [] [] [(4, cB false)] [] (fun t => t) (by kernel_rfl) ?_
          refine ends_ret ?_
          obtain rfl := Option.some.inj H
          exact And.intro (.inl rfl) rfl
        · refine ite_f c21 (by kernel_rfl) ?_
          refine ends_skip ?_
          change EndsI _ _ _ _ _ _
          refine seq_ops [] [] [(4, cB true)] [] (fun t => t) (by kernel_rfl) ?_
          refine ends_ret ?_
          obtain rfl := Option.some.inj H
          exact And.intro (.inl rfl) rfl

def l_FnExactNextReaction_ir : S :=
 (.seq (.ops [⟨some 3, .box 12 (.t 0), none⟩, ⟨some 5, .box 6 (.t 2), none⟩, ⟨some 6, .mv (.v (.bool false)), none⟩])
 (.seq (.ops [⟨some 7, .mv (.v (.int .i64 1048576)), none⟩])
 (.seq (.ops [⟨some 15, .load 12 true (.t 3), none⟩, ⟨some 16, .mv (.t 7), none⟩, ⟨some 17, .call 12 [.t 15, .t 16], none⟩, ⟨some 7, .mv (.t 17), none⟩])
 (.seq (.seq (.ops [⟨some 18, .mv (.t 7), none⟩, ⟨some 19, .bin .lss (.t 18) (.v (.int .i64 0)), none⟩])
 (.ite (.t 19) (.seq (.ops [⟨some 6, .mv (.v (.bool true)), none⟩])
  .ret)
 .skip))
 (.seq (.ops [⟨some 20, .mv (.t 1), none⟩, ⟨some 21, .mv (.t 7), none⟩, ⟨some 22, .call 24 [.t 20, .t 21], none⟩, ⟨some 7, .mv (.t 22), none⟩])
 (.seq (.seq (.ops [⟨some 23, .mv (.t 7), none⟩, ⟨some 24, .bin .lss (.t 23) (.v (.int .i64 0)), none⟩])
 (.ite (.t 24) (.seq (.ops [⟨some 6, .mv (.v (.bool true)), none⟩])
  .ret)
 .skip))
 (.seq (.ops [⟨some 25, .load 6 true (.t 5), none⟩, ⟨some 26, .mv (.t 7), none⟩, ⟨some 27, .call 25 [.t 25, .t 26], none⟩, ⟨some 7, .mv (.t 27), none⟩])
 (.seq (.seq (.ops [⟨some 28, .mv (.t 7), none⟩, ⟨some 29, .bin .lss (.t 28) (.v (.int .i64 0)), none⟩])
 (.ite (.t 29) (.seq (.ops [⟨some 6, .mv (.v (.bool true)), none⟩])
  .ret)
 .skip))
 (.seq (.draw 12 [⟨some 31, .load 12 true (.t 3), none⟩, ⟨some 32, .call 15 [.t 31], none⟩, ⟨some 33, .mv (.t 1), none⟩, ⟨some 34, .call 27 [.t 33], none⟩, ⟨some 35, .load 6 true (.t 5), none⟩, ⟨some 36, .call 28 [.t 35], none⟩, ⟨some 37, .call 26 [.t 32, .t 34, .t 36], none⟩, ⟨some 30, .mv (.t 37), none⟩, ⟨some 38, .ext (.t 30) 0, none⟩, ⟨some 39, .ext (.t 30) 1, none⟩, ⟨some 8, .mv (.t 38), none⟩, ⟨some 9, .mv (.t 39), none⟩])
 (.seq (.ops [⟨some 40, .load 12 true (.t 3), none⟩, ⟨some 41, .call 15 [.t 40], none⟩, ⟨some 10, .alloc [.nil, .nil, .int .i64 0, .int .i64 0, .int .i64 0, .int .i64 0, .int .i64 0, .int .i64 0, .int .i64 0, .nil, .nil, .nil], none⟩, ⟨none, .store 12 (.t 10) (.t 41), none⟩])
 (.seq (.ops [⟨some 42, .mv (.t 1), none⟩, ⟨some 43, .call 27 [.t 42], none⟩, ⟨some 11, .mv (.t 43), none⟩])
 (.seq (.ops [⟨some 44, .load 6 true (.t 5), none⟩, ⟨some 45, .call 28 [.t 44], none⟩, ⟨some 12, .alloc [.nil, .nil, .int .i64 0, .int .i64 0, .nil, .nil], none⟩, ⟨none, .store 6 (.t 12) (.t 45), none⟩])
 (.seq (.ops [⟨some 47, .load 12 true (.t 10), none⟩, ⟨some 48, .mv (.t 11), none⟩, ⟨some 49, .load 6 true (.t 12), none⟩, ⟨some 50, .call 29 [.t 47, .t 48, .t 49], none⟩, ⟨some 46, .mv (.t 50), none⟩, ⟨some 51, .ext (.t 46) 0, none⟩, ⟨some 52, .ext (.t 46) 1, none⟩, ⟨some 13, .mv (.t 51), none⟩, ⟨some 14, .mv (.t 52), none⟩])
 (.seq (.seq (.ops [⟨some 53, .mv (.t 13), none⟩, ⟨some 54, .mv (.t 8), none⟩, ⟨some 55, .bin .neq (.t 53) (.t 54), none⟩, ⟨some 56, .mv (.t 55), none⟩, ⟨some 57, .mv (.t 14), some (56, false)⟩, ⟨some 58, .mv (.t 9), some (56, false)⟩, ⟨some 59, .bqe true (.t 57) (.t 58), some (56, false)⟩, ⟨some 60, .pick (.t 56) (.v (.bool true)) (.t 59), none⟩])
 (.ite (.t 60) (.seq (.ops [⟨some 6, .mv (.v (.bool false)), none⟩])
  .ret)
 .skip))
 (.seq (.seq (.draw 5 [⟨some 61, .load 12 true (.t 10), none⟩, ⟨some 62, .load 12 true (.t 3), none⟩, ⟨some 63, .call 15 [.t 62], none⟩, ⟨some 64, .call 18 [.t 61, .t 63], none⟩, ⟨some 65, .not (.t 64), none⟩])
 (.ite (.t 65) (.seq (.ops [⟨some 6, .mv (.v (.bool false)), none⟩])
  .ret)
 .skip))
 (.seq (.seq (.ops [⟨some 66, .mv (.t 11), none⟩, ⟨some 67, .mv (.t 1), none⟩, ⟨some 68, .call 27 [.t 67], none⟩, ⟨some 69, .call 30 [.t 66, .t 68], none⟩, ⟨some 70, .not (.t 69), none⟩])
 (.ite (.t 70) (.seq (.ops [⟨some 6, .mv (.v (.bool false)), none⟩])
  .ret)
 .skip))
 (.seq (.seq (.draw 5 [⟨some 71, .load 6 true (.t 12), none⟩, ⟨some 72, .load 6 true (.t 5), none⟩, ⟨some 73, .call 28 [.t 72], none⟩, ⟨some 74, .call 31 [.t 71, .t 73], none⟩, ⟨some 75, .not (.t 74), none⟩])
 (.ite (.t 75) (.seq (.ops [⟨some 6, .mv (.v (.bool false)), none⟩])
  .ret)
 .skip))
 (.seq (.ops [⟨some 6, .mv (.v (.bool true)), none⟩])
 .ret))))))))))))))))))
noncomputable def X.l_FnExactNextReaction (p0 : TBoard) (p1 : (List TReaction)) (p2 : TMachine) : Option Bool :=
  ((X.l_szBoard p0 1048576).bind fun v1 => (bif (decide (v1 < 0)) then some true else ((X.l_szReactionS p1 v1).bind fun v5 => (bif (decide (v5 < 0)) then some true else ((X.l_szMachine p2 v5).bind fun v9 => (bif (decide (v9 < 0)) then some true else ((X.l_toBoard p0).bind fun v13 => ((X.l_toReactionS p1).bind fun v15 => ((X.l_toMachine p2).bind fun v17 => ((X.s_NextReaction v13 v15 v17).bind fun v19 => ((X.l_toBoard p0).bind fun v21 => ((X.l_toReactionS p1).bind fun v23 => ((X.l_toMachine p2).bind fun v25 => ((X.i_NextReaction v21 v23 v25).bind fun v27 => (bif (v27.1 != v19.1) then some false else (bif (!(v27.2 == v19.2)) then some false else ((X.l_toBoard p0).bind fun v38 => ((X.l_eqBoard v21 v38).bind fun v40 => (bif (!v40) then some false else ((X.l_toReactionS p1).bind fun v48 => ((X.l_eqReactionS v23 v48).bind fun v50 => (bif (!v50) then some false else ((X.l_toMachine p2).bind fun v53 => ((X.l_eqMachine v25 v53).bind fun v55 => (bif (!v55) then some false else some true)))))))))))))))))))))))))
theorem l_FnExactNextReaction_ok (p0 : TBoard) (p1 : (List TReaction)) (p2 : TMachine) (r : Bool) (H : X.l_FnExactNextReaction p0 p1 p2 = some r) : FnOk Tryz.prog gl 6 [.agg (eTBoard p0), .c (dat 3 eTReaction zTReaction p1), .agg (eTMachine p2)] (cB r) := by
  unfold X.l_FnExactNextReaction at H
  refine fn_in (fn := Tryz.f6) (ir := l_FnExactNextReaction_ir) (s1 := lit [(6, cB r)] []) Tryz.func6 (by kernel_rfl) (by kernel_rfl) (by kernel_rfl) (by kernel_rfl) (by kernel_rfl) ?_
  refine seq_ops [] [] [(1, .c (dat 3 eTReaction zTReaction p1)), (3, .c (.pk 3 0)), (5, .c (.pk 5 0))] [(3, .var (eTBoard p0) false), (5, .var (eTMachine p2) false)] (fun t => t) (by kernel_rfl) ?_
  refine seq_ops [] [] [(1, .c (dat 3 eTReaction zTReaction p1)), (3, .c (.pk 3 0)), (5, .c (.pk 5 0)), (7, cI 1048576)] [(3, .var (eTBoard p0) false), (5, .var (eTMachine p2) false)] (fun t => t) (by kernel_rfl) ?_
  obtain ⟨v1, h2, H⟩ := ofBind H
  refine seq_ops [.res (cI v1)] [] [(1, .c (dat 3 eTReaction zTReaction p1)), (3, .c (.pk 3 0)), (5, .c (.pk 5 0)), (7, cI v1)] [(3, .var (eTBoard p0) false), (5, .var (eTMachine p2) false)] (fun t => aI (l_szBoard_ok p0 1048576 v1 h2) (t)) (by kernel_rfl) ?_
  refine seq_in ?_
  refine seq_ops [] [] [(1, .c (dat 3 eTReaction zTReaction p1)), (3, .c (.pk 3 0)), (5, .c (.pk 5 0)), (7, cI v1), (19, cB (decide (v1 < 0)))] [(3, .var (eTBoard p0) false), (5, .var (eTMachine p2) false)] (fun t => t) (by kernel_rfl) ?_
  rcases ofCond H with ⟨c4, H⟩ | ⟨c4, H⟩
  · refine ite_t c4 (by kernel_rfl) ?_
    refine seq_ops [] [] [(6, cB true)] [] (fun t => t) (by kernel_rfl) ?_
    refine ends_ret ?_
    obtain rfl := Option.some.inj H
    exact And.intro (.inl rfl) rfl
  · refine ite_f c4 (by kernel_rfl) ?_
    refine ends_skip ?_
    change EndsI _ _ _ _ _ _
    obtain ⟨v5, h6, H⟩ := ofBind H
    refine seq_ops [.res (cI v5)] [] [(1, .c (dat 3 eTReaction zTReaction p1)), (3, .c (.pk 3 0)), (5, .c (.pk 5 0)), (7, cI v5)] [(3, .var (eTBoard p0) false), (5, .var (eTMachine p2) false)] (fun t => aI (l_szReactionS_ok p1 v1 v5 h6) (t)) (by kernel_rfl) ?_
    refine seq_in ?_
    refine seq_ops [] [] [(1, .c (dat 3 eTReaction zTReaction p1)), (3, .c (.pk 3 0)), (5, .c (.pk 5 0)), (7, cI v5), (24, cB (decide (v5 < 0)))] [(3, .var (eTBoard p0) false), (5, .var (eTMachine p2) false)] (fun t => t) (by kernel_rfl) ?_
    rcases ofCond H with ⟨c8, H⟩ | ⟨c8, H⟩
    · refine ite_t c8 (by kernel_rfl) ?_
      refine seq_ops [] [] [(6, cB true)] [] (fun t => t) (by kernel_rfl) ?_
      refine ends_ret ?_
      obtain rfl := Option.some.inj H
      exact And.intro (.inl rfl) rfl
    · refine ite_f c8 (by kernel_rfl) ?_
      refine ends_skip ?_
      change EndsI _ _ _ _ _ _
      obtain ⟨v9, h10, H⟩ := ofBind H
      refine seq_ops [.res (cI v9)] [] [(1, .c (dat 3 eTReaction zTReaction p1)), (3, .c (.pk 3 0)), (5, .c (.pk 5 0)), (7, cI v9)] [(3, .var (eTBoard p0) false), (5, .var (eTMachine p2) false)] (fun t => aI (l_szMachine_ok p2 v5 v9 h10) (t)) (by kernel_rfl) ?_
      refine seq_in ?_
      refine seq_ops [] [] [(1, .c (dat 3 eTReaction zTReaction p1)), (3, .c (.pk 3 0)), (5, .c (.pk 5 0)), (29, cB (decide (v9 < 0)))] [(3, .var (eTBoard p0) false), (5, .var (eTMachine p2) false)] (fun t => t) (by kernel_rfl) ?_
      rcases ofCond H with ⟨c12, H⟩ | ⟨c12, H⟩
      · refine ite_t c12 (by kernel_rfl) ?_
        refine seq_ops [] [] [(6, cB true)] [] (fun t => t) (by kernel_rfl) ?_
        refine ends_ret ?_
        obtain rfl := Option.some.inj H
        exact And.intro (.inl rfl) rfl
      · refine ite_f c12 (by kernel_rfl) ?_
        refine ends_skip ?_
        change EndsI _ _ _ _ _ _
        obtain ⟨v13, h14, H⟩ := ofBind H
        obtain ⟨v15, h16, H⟩ := ofBind H
        obtain ⟨v17, h18, H⟩ := ofBind H
        obtain ⟨v19, h20, H⟩ := ofBind H
        refine seq_draw [.res (.agg (eTBoard v13)), .res (.c (dat 3 eTReaction zTReaction v15)), .res (.agg (eTMachine v17)), .res (.tup [(false, [.int .i64 v19.1]), (false, [.bool v19.2])])] [] [(1, .c (dat 3 eTReaction zTReaction p1)), (3, .c (.pk 3 0)), (5, .c (.pk 5 0)), (8, cI v19.1), (9, cB v19.2)] [(3, .var (eTBoard p0) false), (5, .var (eTMachine p2) false)] (fun t => aI (l_toBoard_ok p0 v13 h14) (aI (rfl : ([] : List Nat) = []) (aI (rfl : ([] : List Nat) = []) (aI (l_toReactionS_ok p1 v15 h16) (aI (rfl : ([] : List Nat) = []) (aI (rfl : ([] : List Nat) = []) (aI (l_toMachine_ok p2 v17 h18) (aI (rfl : ([] : List Nat) = []) (aI (rfl : ([] : List Nat) = []) (aI (s_NextReaction_ok v13 v15 v17 v19 h20) (aI trivial (aI (rfl : ([] : List Nat) = []) (t))))))))))))) (by kernel_rfl) ?_
        obtain ⟨v21, h22, H⟩ := ofBind H
        refine seq_ops [.res (.agg (eTBoard v21))] [] [(1, .c (dat 3 eTReaction zTReaction p1)), (3, .c (.pk 3 0)), (5, .c (.pk 5 0)), (8, cI v19.1), (9, cB v19.2), (10, .c (.pk 10 0))] [(3, .var (eTBoard p0) false), (5, .var (eTMachine p2) false), (10, .var (eTBoard v21) false)] (fun t => aI (l_toBoard_ok p0 v21 h22) (t)) (by kernel_rfl) ?_
        obtain ⟨v23, h24, H⟩ := ofBind H
        refine seq_ops [.res (.c (dat 3 eTReaction zTReaction v23))] [] [(1, .c (dat 3 eTReaction zTReaction p1)), (3, .c (.pk 3 0)), (5, .c (.pk 5 0)), (8, cI v19.1), (9, cB v19.2), (10, .c (.pk 10 0)), (11, .c (dat 3 eTReaction zTReaction v23))] [(3, .var (eTBoard p0) false), (5, .var (eTMachine p2) false), (10, .var (eTBoard v21) false)] (fun t => aI (l_toReactionS_ok p1 v23 h24) (t)) (by kernel_rfl) ?_
        obtain ⟨v25, h26, H⟩ := ofBind H
        refine seq_ops [.res (.agg (eTMachine v25))] [] [(1, .c (dat 3 eTReaction zTReaction p1)), (3, .c (.pk 3 0)), (5, .c (.pk 5 0)), (8, cI v19.1), (9, cB v19.2), (10, .c (.pk 10 0)), (11, .c (dat 3 eTReaction zTReaction v23)), (12, .c (.pk 12 0))] [(3, .var (eTBoard p0) false), (5, .var (eTMachine p2) false), (10, .var (eTBoard v21) false), (12, .var (eTMachine v25) false)] (fun t => aI (l_toMachine_ok p2 v25 h26) (t)) (by kernel_rfl) ?_
        obtain ⟨v27, h28, H⟩ := ofBind H
        refine seq_ops [.res (.tup [(false, [.int .i64 v27.1]), (false, [.bool v27.2])])] [] [(1, .c (dat 3 eTReaction zTReaction p1)), (3, .c (.pk 3 0)), (5, .c (.pk 5 0)), (8, cI v19.1), (9, cB v19.2), (10, .c (.pk 10 0)), (11, .c (dat 3 eTReaction zTReaction v23)), (12, .c (.pk 12 0)), (13, cI v27.1), (14, cB v27.2)] [(3, .var (eTBoard p0) false), (5, .var (eTMachine p2) false), (10, .var (eTBoard v21) false), (12, .var (eTMachine v25) false)] (fun t => aI (i_NextReaction_ok v21 v23 v25 v27 h28) (t)) (by kernel_rfl) ?_
        refine seq_in ?_
        rcases ofCond H with ⟨c31, H⟩ | ⟨c31, H⟩
        · refine seq_ops [.g true, .g true, .g true, .g true] [] [(1, .c (dat 3 eTReaction zTReaction p1)), (3, .c (.pk 3 0)), (5, .c (.pk 5 0)), (10, .c (.pk 10 0)), (11, .c (dat 3 eTReaction zTReaction v23)), (12, .c (.pk 12 0)), (60, cB true)] [(3, .var (eTBoard p0) false), (5, .var (eTMachine p2) false), (10, .var (eTBoard v21) false), (12, .var (eTMachine v25) false)] (fun t => aI c31 (aI c31 (aI c31 (aI c31 (t))))) (by kernel_rfl) ?_
          refine ite_t (rfl : (true : Bool) = true) (by kernel_rfl) ?_
          refine seq_ops [] [] [(6, cB false)] [] (fun t => t) (by kernel_rfl) ?_
          refine ends_ret ?_
          obtain rfl := Option.some.inj H
          exact And.intro (.inl rfl) rfl
        · refine seq_ops [.g false, .g false, .g false, .g false] [] [(1, .c (dat 3 eTReaction zTReaction p1)), (3, .c (.pk 3 0)), (5, .c (.pk 5 0)), (10, .c (.pk 10 0)), (11, .c (dat 3 eTReaction zTReaction v23)), (12, .c (.pk 12 0)), (60, cB (!(v27.2 == v19.2)))] [(3, .var (eTBoard p0) false), (5, .var (eTMachine p2) false), (10, .var (eTBoard v21) false), (12, .var (eTMachine v25) false)] (fun t => aI c31 (aI c31 (aI c31 (aI c31 (t))))) (by kernel_rfl) ?_
          rcases ofCond H with ⟨c32, H⟩ | ⟨c32, H⟩
          · refine ite_t c32 (by kernel_rfl) ?_
            refine seq_ops [] [] [(6, cB false)] [] (fun t => t) (by kernel_rfl) ?_
            refine ends_ret ?_
            obtain rfl := Option.some.inj H
            exact And.intro (.inl rfl) rfl
          · refine ite_f c32 (by kernel_rfl) ?_
            refine ends_skip ?_
            change EndsI _ _ _ _ _ _
            refine seq_in ?_
            obtain ⟨v38, h39, H⟩ := ofBind H
            obtain ⟨v40, h41, H⟩ := ofBind H
            refine seq_draw [.res (.agg (eTBoard v38)), .res (cB v40)] [] [(1, .c (dat 3 eTReaction zTReaction p1)), (5, .c (.pk 5 0)), (11, .c (dat 3 eTReaction zTReaction v23)), (12, .c (.pk 12 0)), (65, cB (!v40))] [(5, .var (eTMachine p2) false), (12, .var (eTMachine v25) false)] (fun t => aI (l_toBoard_ok p0 v38 h39) (aI (rfl : ([] : List Nat) = []) (aI (rfl : ([] : List Nat) = []) (aI (l_eqBoard_ok v21 v38 v40 h41) (aI trivial (aI (rfl : ([] : List Nat) = []) (t))))))) (by kernel_rfl) ?_
            rcases ofCond H with ⟨c42, H⟩ | ⟨c42, H⟩
            · refine ite_t c42 (by kernel_rfl) ?_
              refine seq_ops [] [] [(6, cB false)] [] (fun t => t) (by kernel_rfl) ?_
              refine ends_ret ?_
              obtain rfl := Option.some.inj H
              exact And.intro (.inl rfl) rfl
            · refine ite_f c42 (by kernel_rfl) ?_
              refine ends_skip ?_
              change EndsI _ _ _ _ _ _
              refine seq_in ?_
              obtain ⟨v48, h49, H⟩ := ofBind H
              obtain ⟨v50, h51, H⟩ := ofBind H
              refine seq_ops [.res (.c (dat 3 eTReaction zTReaction v48)), .res (cB v50)] [] [(5, .c (.pk 5 0)), (12, .c (.pk 12 0)), (70, cB (!v50))] [(5, .var (eTMachine p2) false), (12, .var (eTMachine v25) false)] (fun t => aI (l_toReactionS_ok p1 v48 h49) (aI (l_eqReactionS_ok v23 v48 v50 h51) (t))) (by kernel_rfl) ?_
              rcases ofCond H with ⟨c52, H⟩ | ⟨c52, H⟩
              · refine ite_t c52 (by kernel_rfl) ?_
                refine seq_ops [] [] [(6, cB false)] [] (fun t => t) (by kernel_rfl) ?_
                refine ends_ret ?_
                obtain rfl := Option.some.inj H
                exact And.intro (.inl rfl) rfl
              · refine ite_f c52 (by kernel_rfl) ?_
                refine ends_skip ?_
                change EndsI _ _ _ _ _ _
                refine seq_in ?_
                obtain ⟨v53, h54, H⟩ := ofBind H
                obtain ⟨v55, h56, H⟩ := ofBind H
                refine seq_draw [.res (.agg (eTMachine v53)), .res (cB v55)] [] [(75, cB (!v55))] [] (fun t => aI (l_toMachine_ok p2 v53 h54) (aI (rfl : ([] : List Nat) = []) (aI (rfl : ([] : List Nat) = []) (aI (l_eqMachine_ok v25 v53 v55 h56) (aI trivial (aI (rfl : ([] : List Nat) = []) (t))))))) (by kernel_rfl) ?_
                rcases ofCond H with ⟨c57, H⟩ | ⟨c57, H⟩
                · refine ite_t c57 (by kernel_rfl) ?_
                  refine seq_ops [] [] [(6, cB false)] [] (fun t => t) (by kernel_rfl) ?_
                  refine ends_ret ?_
                  obtain rfl := Option.some.inj H
                  exact And.intro (.inl rfl) rfl
                · refine ite_f c57 (by kernel_rfl) ?_
                  refine ends_skip ?_
                  change EndsI _ _ _ _ _ _
                  refine seq_ops [] [] [(6, cB true)] [] (fun t => t) (by kernel_rfl) ?_
                  refine ends_ret ?_
                  obtain rfl := Option.some.inj H
                  exact And.intro (.inl rfl) rfl

end Go.Proofs.YtfmeidhialmckaaGreatDoor.X0
