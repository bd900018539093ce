/- What each Go function that FnExactMayHide reaches computes, and that it returns so; no condition. -/
import Derived.Test.YtociagbpecpcnaaGreatDoorMHWb
set_option linter.unusedVariables false
set_option linter.unusedSimpArgs false
set_option maxRecDepth 100000
namespace Go.Proofs.YtociagbpecpcnaaGreatDoor.X0
open Go Go.RowKit Go.Proofs.YtociagbpecpcnaaGreatDoor.Ab Go.Proofs

def i_terrainIndex_1_ir : S :=
 (.seq (.ops [⟨some 2, .box 5 (.t 0), none⟩, ⟨some 3, .mv (.v (.bool false)), none⟩])
 (.seq (.ops [⟨some 4, .fad 0 (.t 2), none⟩, ⟨some 5, .load 1 false (.t 4), none⟩, ⟨some 6, .load 1 false (.t 1), none⟩, ⟨some 7, .bin .eql (.t 5) (.t 6), none⟩, ⟨some 3, .mv (.t 7), none⟩])
 .ret))
noncomputable def X.i_terrainIndex_1 (p0 : TTerrain) (p1 : (List UInt8)) : Option Bool :=
  some (p0.Name == p1)
theorem i_terrainIndex_1_ok (p0 : TTerrain) (p1 : (List UInt8)) (r : Bool) (H : X.i_terrainIndex_1 p0 p1 = some r) : FnOk Tryz.prog gl 226 [.agg (eTTerrain p0), .c (.pd (eS p1) 0)] (cB r) := by
  unfold X.i_terrainIndex_1 at H
  refine fn_in (fn := Tryz.f226) (ir := i_terrainIndex_1_ir) (s1 := lit [(3, cB r)] []) glL Tryz.func226 (by kernel_rfl) (by kernel_rfl) (by kernel_rfl) (by kernel_rfl) (by kernel_rfl) ?_
  refine seq_ops [] [] [(1, .c (.pd (eS p1) 0)), (2, .c (.pk 2 0))] [(2, .var (eTTerrain p0) false)] (fun t => t) (by kernel_rfl) ?_
  refine seq_ops [] [] [(3, cB (p0.Name == p1))] [] (fun t => t) (by kernel_rfl) ?_
  refine ends_ret ?_
  obtain rfl := Option.some.inj H
  exact And.intro (.inl rfl) rfl

def i_terrainIndex_ir : S :=
 (.seq (.ops [⟨some 3, .box 1 (.t 1), none⟩, ⟨some 4, .mv (.v (.int .i64 0)), none⟩])
 (.seq (.ops [⟨some 5, .mv (.t 0), none⟩, ⟨some 6, .clo 226 [.t 3], none⟩, ⟨some 7, .call 225 [.t 5, .t 6], none⟩, ⟨some 4, .mv (.t 7), none⟩])
 .ret))
noncomputable def X.i_terrainIndex (p0 : (List TTerrain)) (p1 : (List UInt8)) : Option Int :=
  ((X.g_IndexFunc_Terrain p0 (fun q0 => X.i_terrainIndex_1 q0 p1)).bind fun v1 => some v1)
theorem i_terrainIndex_ok (p0 : (List TTerrain)) (p1 : (List UInt8)) (r : Int) (H : X.i_terrainIndex p0 p1 = some r) : FnOk Tryz.prog gl 214 [.c (dat 5 eTTerrain zTTerrain p0), .c (.str p1)] (cI r) := by
  unfold X.i_terrainIndex at H
  refine fn_in (fn := Tryz.f214) (ir := i_terrainIndex_ir) (s1 := lit [(4, cI r)] []) glL Tryz.func214 (by kernel_rfl) (by kernel_rfl) (by kernel_rfl) (by kernel_rfl) (by kernel_rfl) ?_
  refine seq_ops [] [] [(0, .c (dat 5 eTTerrain zTTerrain p0)), (3, .c (.pk 3 0))] [(3, .var [.str p1] false)] (fun t => t) (by kernel_rfl) ?_
  obtain ⟨v1, h2, H⟩ := ofBind H
  refine seq_ops [.res (cI v1)] [] [(4, cI v1)] [] (fun t => aI (g_IndexFunc_Terrain_c1_ok p0 (226) (eS p1) (fun q0 => X.i_terrainIndex_1 q0 p1) (fun q0 r h => i_terrainIndex_1_ok q0 p1 r h) v1 h2) (t)) (by kernel_rfl) ?_
  refine ends_ret ?_
  obtain rfl := Option.some.inj H
  exact And.intro (.inl rfl) rfl

def i_goodKind_ir : S :=
 (.seq (.ops [⟨some 1, .box 6 (.t 0), none⟩, ⟨some 2, .mv (.v (.bool false)), none⟩])
 (.seq (.ops [⟨some 3, .fad 0 (.t 1), none⟩, ⟨some 4, .load 1 false (.t 3), none⟩, ⟨some 5, .call 223 [.t 4], none⟩, ⟨some 6, .mv (.t 5), none⟩, ⟨some 7, .fad 1 (.t 1), some (6, true)⟩, ⟨some 8, .load 1 false (.t 7), some (6, true)⟩, ⟨some 9, .call 145 [.t 8, .v (.int .i64 1), .v (.int .i64 9)], some (6, true)⟩, ⟨some 10, .pick (.t 6) (.t 9) (.v (.bool false)), none⟩, ⟨some 11, .mv (.t 10), none⟩, ⟨some 12, .fad 2 (.t 1), some (11, true)⟩, ⟨some 13, .load 1 false (.t 12), some (11, true)⟩, ⟨some 14, .call 145 [.t 13, .v (.int .i64 0), .v (.int .i64 9)], some (11, true)⟩, ⟨some 15, .pick (.t 11) (.t 14) (.v (.bool false)), none⟩, ⟨some 16, .mv (.t 15), none⟩, ⟨some 17, .fad 3 (.t 1), some (16, true)⟩, ⟨some 18, .load 1 false (.t 17), some (16, true)⟩, ⟨some 19, .call 145 [.t 18, .v (.int .i64 1), .v (.int .i64 4)], some (16, true)⟩, ⟨some 20, .pick (.t 16) (.t 19) (.v (.bool false)), none⟩, ⟨some 21, .mv (.t 20), none⟩, ⟨some 22, .fad 5 (.t 1), some (21, true)⟩, ⟨some 23, .load 1 false (.t 22), some (21, true)⟩, ⟨some 24, .call 145 [.t 23, .v (.int .i64 0), .v (.int .i64 4)], some (21, true)⟩, ⟨some 25, .pick (.t 21) (.t 24) (.v (.bool false)), none⟩, ⟨some 2, .mv (.t 25), none⟩])
 .ret))
noncomputable def X.i_goodKind (p0 : TKind) : Option Bool :=
  ((X.i_isName p0.Name).bind fun v1 => (bif v1 then ((X.i_inRange p0.Strength 1 9).bind fun v4 => (bif v4 then ((X.i_inRange p0.Moves 0 9).bind fun v7 => (bif v7 then ((X.i_inRange p0.Steps 1 4).bind fun v10 => (bif v10 then ((X.i_inRange p0.View 0 4).bind fun v13 => some v13) else some false)) else some false)) else some false)) else some false))
theorem i_goodKind_ok (p0 : TKind) (r : Bool) (H : X.i_goodKind p0 = some r) : FnOk Tryz.prog gl 215 [.agg (eTKind p0)] (cB r) := by
  unfold X.i_goodKind at H
  refine fn_in (fn := Tryz.f215) (ir := i_goodKind_ir) (s1 := lit [(2, cB r)] []) glL Tryz.func215 (by kernel_rfl) (by kernel_rfl) (by kernel_rfl) (by kernel_rfl) (by kernel_rfl) ?_
  refine seq_ops [] [] [(1, .c (.pk 1 0))] [(1, .var (eTKind p0) false)] (fun t => t) (by kernel_rfl) ?_
  obtain ⟨v1, h2, H⟩ := ofBind H
  rcases ofCond H with ⟨c3, H⟩ | ⟨c3, H⟩
  · obtain ⟨v4, h5, H⟩ := ofBind H
    rcases ofCond H with ⟨c6, H⟩ | ⟨c6, H⟩
    · obtain ⟨v7, h8, H⟩ := ofBind H
      rcases ofCond H with ⟨c9, H⟩ | ⟨c9, H⟩
      · obtain ⟨v10, h11, H⟩ := ofBind H
        rcases ofCond H with ⟨c12, H⟩ | ⟨c12, H⟩
        · obtain ⟨v13, h14, H⟩ := ofBind H
          refine seq_ops [.res (cB v1), .g true, .g true, .g true, .res (cB v4), .g true, .g true, .g true, .g true, .res (cB v7), .g true, .g true, .g true, .g true, .res (cB v10), .g true, .g true, .g true, .g true, .res (cB v13), .g true] [] [(2, cB v13)] [] (fun t => aI (i_isName_ok p0.Name v1 h2) (aI c3 (aI c3 (aI c3 (aI (i_inRange_ok p0.Strength 1 9 v4 h5) (aI c3 (aI c6 (aI c6 (aI c6 (aI (i_inRange_ok p0.Moves 0 9 v7 h8) (aI c6 (aI c9 (aI c9 (aI c9 (aI (i_inRange_ok p0.Steps 1 4 v10 h11) (aI c9 (aI c12 (aI c12 (aI c12 (aI (i_inRange_ok p0.View 0 4 v13 h14) (aI c12 (t)))))))))))))))))))))) (by kernel_rfl) ?_
          refine ends_ret ?_
          obtain rfl := Option.some.inj H
          exact And.intro (.inl rfl) rfl
        · refine seq_ops [.res (cB v1), .g true, .g true, .g true, .res (cB v4), .g true, .g true, .g true, .g true, .res (cB v7), .g true, .g true, .g true, .g true, .res (cB v10), .g true, .g false, .g false, .g false, .g false] [] [(2, cB false)] [] (fun t => aI (i_isName_ok p0.Name v1 h2) (aI c3 (aI c3 (aI c3 (aI (i_inRange_ok p0.Strength 1 9 v4 h5) (aI c3 (aI c6 (aI c6 (aI c6 (aI (i_inRange_ok p0.Moves 0 9 v7 h8) (aI c6 (aI c9 (aI c9 (aI c9 (aI (i_inRange_ok p0.Steps 1 4 v10 h11) (aI c9 (aI c12 (aI c12 (aI c12 (aI c12 (t))))))))))))))))))))) (by kernel_rfl) ?_
          refine ends_ret ?_
          obtain rfl := Option.some.inj H
          exact And.intro (.inl rfl) rfl
      · refine seq_ops [.res (cB v1), .g true, .g true, .g true, .res (cB v4), .g true, .g true, .g true, .g true, .res (cB v7), .g true, .g false, .g false, .g false, .g false, .g false, .g false, .g false, .g false] [] [(2, cB false)] [] (fun t => aI (i_isName_ok p0.Name v1 h2) (aI c3 (aI c3 (aI c3 (aI (i_inRange_ok p0.Strength 1 9 v4 h5) (aI c3 (aI c6 (aI c6 (aI c6 (aI (i_inRange_ok p0.Moves 0 9 v7 h8) (aI c6 (aI c9 (aI c9 (aI c9 (aI c9 (aI (rfl : (false : Bool) = false) (aI (rfl : (false : Bool) = false) (aI (rfl : (false : Bool) = false) (aI (rfl : (false : Bool) = false) (t)))))))))))))))))))) (by kernel_rfl) ?_
        refine ends_ret ?_
        obtain rfl := Option.some.inj H
        exact And.intro (.inl rfl) rfl
    · refine seq_ops [.res (cB v1), .g true, .g true, .g true, .res (cB v4), .g true, .g false, .g false, .g false, .g false, .g false, .g false, .g false, .g false, .g false, .g false, .g false, .g false] [] [(2, cB false)] [] (fun t => aI (i_isName_ok p0.Name v1 h2) (aI c3 (aI c3 (aI c3 (aI (i_inRange_ok p0.Strength 1 9 v4 h5) (aI c3 (aI c6 (aI c6 (aI c6 (aI c6 (aI (rfl : (false : Bool) = false) (aI (rfl : (false : Bool) = false) (aI (rfl : (false : Bool) = false) (aI (rfl : (false : Bool) = false) (aI (rfl : (false : Bool) = false) (aI (rfl : (false : Bool) = false) (aI (rfl : (false : Bool) = false) (aI (rfl : (false : Bool) = false) (t))))))))))))))))))) (by kernel_rfl) ?_
      refine ends_ret ?_
      obtain rfl := Option.some.inj H
      exact And.intro (.inl rfl) rfl
  · refine seq_ops [.res (cB v1), .g false, .g false, .g false, .g false, .g false, .g false, .g false, .g false, .g false, .g false, .g false, .g false, .g false, .g false, .g false, .g false] [] [(2, cB false)] [] (fun t => aI (i_isName_ok p0.Name v1 h2) (aI c3 (aI c3 (aI c3 (aI c3 (aI (rfl : (false : Bool) = false) (aI (rfl : (false : Bool) = false) (aI (rfl : (false : Bool) = false) (aI (rfl : (false : Bool) = false) (aI (rfl : (false : Bool) = false) (aI (rfl : (false : Bool) = false) (aI (rfl : (false : Bool) = false) (aI (rfl : (false : Bool) = false) (aI (rfl : (false : Bool) = false) (aI (rfl : (false : Bool) = false) (aI (rfl : (false : Bool) = false) (aI (rfl : (false : Bool) = false) (t)))))))))))))))))) (by kernel_rfl) ?_
    refine ends_ret ?_
    obtain rfl := Option.some.inj H
    exact And.intro (.inl rfl) rfl

def g_IndexFunc_Kind_ir : S :=
 (.seq (.ops [⟨some 4, .mv (.v (.int .i64 0)), none⟩])
 (.seq (.seq (.ops [⟨some 6, .mv (.t 0), none⟩, ⟨some 7, .len (.t 6), none⟩, ⟨some 8, .mv (.v (.int .i64 0)), none⟩])
 (.blk 0 (.loop (.seq (.ops [⟨some 9, .bin .lss (.t 8) (.t 7), none⟩])
   (.seq (.ite (.t 9) .skip
   (.exit 0))
   (.seq (.blk 1 (.seq (.ops [⟨some 10, .mv (.t 8), none⟩, ⟨some 5, .mv (.t 10), none⟩])
    (.seq (.ops [⟨some 11, .mv (.t 1), none⟩, ⟨some 12, .mv (.t 0), none⟩, ⟨some 13, .mv (.t 5), none⟩, ⟨some 14, .iad 6 (.t 12) (.t 13), none⟩, ⟨some 15, .load 6 true (.t 14), none⟩, ⟨some 16, .cald (.t 11) [.t 15], none⟩])
    (.ite (.t 16) (.seq (.ops [⟨some 17, .mv (.t 5), none⟩, ⟨some 4, .mv (.t 17), none⟩])
     .ret)
    .skip))))
   (.ops [⟨some 18, .bin .add (.t 8) (.v (.int .i64 1)), none⟩, ⟨some 8, .mv (.t 18), none⟩])))))))
 (.seq (.ops [⟨some 4, .mv (.v (.int .i64 (-1))), none⟩])
 .ret)))
noncomputable def X.g_IndexFunc_Kind (p0 : (List TKind)) (f1 : TKind → Option Bool) : Option Int :=
  ((loop (fun (x16 : Int) => ((bif (decide (x16 < (p0.length : Int))) then ((at' zTKind p0 x16).bind fun v19 => ((f1 v19).bind fun v21 => (bif v21 then some (Sum.inr (Sum.inr x16)) else some (Sum.inl (W (x16 + 1)))))) else some (Sum.inr (Sum.inl ()))) : Option (Int ⊕ (Unit ⊕ Int)))) 0).bind fun y24 => (Sum.elim (fun (y26 : Unit) => some (-1)) (fun (y27 : Int) => some y27) y24))
theorem g_IndexFunc_Kind_c1_ok (p0 : (List TKind)) (cf1 : FuncId) (cs1_0 : List AC) (f1 : TKind → Option Bool) (hf1 : ∀ q0 r, f1 q0 = some r → FnOk Tryz.prog gl cf1 [.agg (eTKind q0), .c (.pd cs1_0 0)] (cB r)) (r : Int) (H : X.g_IndexFunc_Kind p0 f1 = some r) : FnOk Tryz.prog gl 227 [.c (dat 6 eTKind zTKind p0), .c (.clo cf1 [.pd cs1_0 0])] (cI r) := by
  unfold X.g_IndexFunc_Kind at H
  refine fn_in (fn := Tryz.f227) (ir := g_IndexFunc_Kind_ir) (s1 := lit [(4, cI r)] []) glL Tryz.func227 (by kernel_rfl) (by kernel_rfl) (by kernel_rfl) (by kernel_rfl) (by kernel_rfl) ?_
  refine seq_ops [] [] [(0, .c (dat 6 eTKind zTKind p0)), (1, .c (.clo cf1 [.pd cs1_0 0]))] [] (fun t => t) (by kernel_rfl) ?_
  refine seq_in ?_
  refine seq_ops [] [] [(0, .c (dat 6 eTKind zTKind p0)), (1, .c (.clo cf1 [.pd cs1_0 0])), (7, cI (p0.length : Int)), (8, cI 0)] [] (fun t => lI p0 (t)) (by kernel_rfl) ?_
  refine ends_blk ?_
  obtain ⟨y24, h25, H⟩ := ofBind H
  refine loop_in (fun (x : Int) => lit [(0, .c (dat 6 eTKind zTKind p0)), (1, .c (.clo cf1 [.pd cs1_0 0])), (7, cI (p0.length : Int)), (8, cI x)] []) (orJ (fun (z : Unit) => At (.exit 0) (lit [] [])) (fun (z : Int) => At .ret (lit [(4, cI z)] []))) h25 ?_ ?_
  · clear H h25
    intro x16 y0 H
    refine seq_ops [] [] [(0, .c (dat 6 eTKind zTKind p0)), (1, .c (.clo cf1 [.pd cs1_0 0])), (7, cI (p0.length : Int)), (8, cI x16), (9, cB (decide (x16 < (p0.length : Int))))] [] (fun t => t) (by kernel_rfl) ?_
    refine seq_in ?_
    rcases ofCond H with ⟨c18, H⟩ | ⟨c18, H⟩
    · refine ite_t c18 (by kernel_rfl) ?_
      refine ends_skip ?_
      change EndsI _ _ _ _ _ _
      refine seq_in ?_
      refine ends_blk ?_
      refine seq_ops [] [] [(0, .c (dat 6 eTKind zTKind p0)), (1, .c (.clo cf1 [.pd cs1_0 0])), (5, cI x16), (7, cI (p0.length : Int)), (8, cI x16)] [] (fun t => t) (by kernel_rfl) ?_
      obtain ⟨v19, h20, H⟩ := ofBind H
      obtain ⟨v21, h22, H⟩ := ofBind H
      refine seq_ops [.cs (eTKind v19), .res (cB v21)] [] [(0, .c (dat 6 eTKind zTKind p0)), (1, .c (.clo cf1 [.pd cs1_0 0])), (5, cI x16), (7, cI (p0.length : Int)), (8, cI x16), (16, cB v21)] [] (fun t => aI (at_lt h20) (aI (at_enc (enc := eTKind) h20) (aI (hf1 v19 v21 h22) (t)))) (by kernel_rfl) ?_
      rcases ofCond H with ⟨c23, H⟩ | ⟨c23, H⟩
      · refine ite_t c23 (by kernel_rfl) ?_
        refine seq_ops [] [] [(4, cI x16)] [] (fun t => t) (by kernel_rfl) ?_
        refine ends_ret ?_
        obtain rfl := Option.some.inj H
        exact And.intro (by simp) (And.intro rfl rfl)
      · refine ite_f c23 (by kernel_rfl) ?_
        refine ends_skip ?_
        change EndsI _ _ _ _ _ _
        refine one_ops [] [] [(0, .c (dat 6 eTKind zTKind p0)), (1, .c (.clo cf1 [.pd cs1_0 0])), (7, cI (p0.length : Int)), (8, cI (W (x16 + 1)))] [] (fun t => t) (by kernel_rfl) ?_
        obtain rfl := Option.some.inj H
        exact And.intro rfl rfl
    · refine ite_f c18 (by kernel_rfl) ?_
      refine tell [] [] [] (fun t => t) (by kernel_rfl) ?_
      refine ends_exit ?_
      obtain rfl := Option.some.inj H
      exact And.intro (by simp) (And.intro rfl rfl)
  · clear h25
    cases y24 with
    | inl y26 =>
      replace H := ofInl H
      intro e s q
      obtain ⟨rfl, rfl⟩ := q
      change EndsI _ _ _ _ _ _
      refine seq_ops [] [] [(4, cI (-1))] [] (fun t => t) (by kernel_rfl) ?_
      refine ends_ret ?_
      obtain rfl := Option.some.inj H
      exact And.intro (.inl rfl) rfl
    | inr y27 =>
      replace H := ofInr H
      intro e s q
      obtain ⟨rfl, rfl⟩ := q
      obtain rfl := Option.some.inj H
      exact And.intro (.inl rfl) rfl

def i_kindIndex_1_ir : S :=
 (.seq (.ops [⟨some 2, .box 6 (.t 0), none⟩, ⟨some 3, .mv (.v (.bool false)), none⟩])
 (.seq (.ops [⟨some 4, .fad 0 (.t 2), none⟩, ⟨some 5, .load 1 false (.t 4), none⟩, ⟨some 6, .load 1 false (.t 1), none⟩, ⟨some 7, .bin .eql (.t 5) (.t 6), none⟩, ⟨some 3, .mv (.t 7), none⟩])
 .ret))
noncomputable def X.i_kindIndex_1 (p0 : TKind) (p1 : (List UInt8)) : Option Bool :=
  some (p0.Name == p1)
theorem i_kindIndex_1_ok (p0 : TKind) (p1 : (List UInt8)) (r : Bool) (H : X.i_kindIndex_1 p0 p1 = some r) : FnOk Tryz.prog gl 228 [.agg (eTKind p0), .c (.pd (eS p1) 0)] (cB r) := by
  unfold X.i_kindIndex_1 at H
  refine fn_in (fn := Tryz.f228) (ir := i_kindIndex_1_ir) (s1 := lit [(3, cB r)] []) glL Tryz.func228 (by kernel_rfl) (by kernel_rfl) (by kernel_rfl) (by kernel_rfl) (by kernel_rfl) ?_
  refine seq_ops [] [] [(1, .c (.pd (eS p1) 0)), (2, .c (.pk 2 0))] [(2, .var (eTKind p0) false)] (fun t => t) (by kernel_rfl) ?_
  refine seq_ops [] [] [(3, cB (p0.Name == p1))] [] (fun t => t) (by kernel_rfl) ?_
  refine ends_ret ?_
  obtain rfl := Option.some.inj H
  exact And.intro (.inl rfl) rfl

def i_kindIndex_ir : S :=
 (.seq (.ops [⟨some 3, .box 1 (.t 1), none⟩, ⟨some 4, .mv (.v (.int .i64 0)), none⟩])
 (.seq (.ops [⟨some 5, .mv (.t 0), none⟩, ⟨some 6, .clo 228 [.t 3], none⟩, ⟨some 7, .call 227 [.t 5, .t 6], none⟩, ⟨some 4, .mv (.t 7), none⟩])
 .ret))
noncomputable def X.i_kindIndex (p0 : (List TKind)) (p1 : (List UInt8)) : Option Int :=
  ((X.g_IndexFunc_Kind p0 (fun q0 => X.i_kindIndex_1 q0 p1)).bind fun v1 => some v1)
theorem i_kindIndex_ok (p0 : (List TKind)) (p1 : (List UInt8)) (r : Int) (H : X.i_kindIndex p0 p1 = some r) : FnOk Tryz.prog gl 216 [.c (dat 6 eTKind zTKind p0), .c (.str p1)] (cI r) := by
  unfold X.i_kindIndex at H
  refine fn_in (fn := Tryz.f216) (ir := i_kindIndex_ir) (s1 := lit [(4, cI r)] []) glL Tryz.func216 (by kernel_rfl) (by kernel_rfl) (by kernel_rfl) (by kernel_rfl) (by kernel_rfl) ?_
  refine seq_ops [] [] [(0, .c (dat 6 eTKind zTKind p0)), (3, .c (.pk 3 0))] [(3, .var [.str p1] false)] (fun t => t) (by kernel_rfl) ?_
  obtain ⟨v1, h2, H⟩ := ofBind H
  refine seq_ops [.res (cI v1)] [] [(4, cI v1)] [] (fun t => aI (g_IndexFunc_Kind_c1_ok p0 (228) (eS p1) (fun q0 => X.i_kindIndex_1 q0 p1) (fun q0 r h => i_kindIndex_1_ok q0 p1 r h) v1 h2) (t)) (by kernel_rfl) ?_
  refine ends_ret ?_
  obtain rfl := Option.some.inj H
  exact And.intro (.inl rfl) rfl

def i_IsRules_ir : S :=
 (.seq (.ops [⟨some 1, .box 7 (.t 0), none⟩, ⟨some 2, .mv (.v (.bool false)), none⟩])
 (.seq (.seq (.ops [⟨some 7, .fad 0 (.t 1), none⟩, ⟨some 8, .load 1 false (.t 7), none⟩, ⟨some 9, .len (.t 8), none⟩, ⟨some 10, .call 145 [.t 9, .v (.int .i64 1), .v (.int .i64 6)], none⟩, ⟨some 11, .not (.t 10), none⟩, ⟨some 12, .mv (.t 11), none⟩, ⟨some 13, .fad 1 (.t 1), some (12, false)⟩, ⟨some 14, .load 1 false (.t 13), some (12, false)⟩, ⟨some 15, .len (.t 14), some (12, false)⟩, ⟨some 16, .call 145 [.t 15, .v (.int .i64 1), .v (.int .i64 4)], some (12, false)⟩, ⟨some 17, .not (.t 16), some (12, false)⟩, ⟨some 18, .pick (.t 12) (.v (.bool true)) (.t 17), none⟩])
 (.ite (.t 18) (.seq (.ops [⟨some 2, .mv (.v (.bool false)), none⟩])
  .ret)
 .skip))
 (.seq (.seq (.ops [⟨some 19, .fad 0 (.t 1), none⟩, ⟨some 20, .load 1 false (.t 19), none⟩, ⟨some 21, .len (.t 20), none⟩, ⟨some 22, .mv (.v (.int .i64 0)), none⟩])
 (.blk 0 (.loop (.seq (.ops [⟨some 23, .bin .lss (.t 22) (.t 21), none⟩])
   (.seq (.ite (.t 23) .skip
   (.exit 0))
   (.seq (.blk 1 (.seq (.ops [⟨some 24, .mv (.t 22), none⟩, ⟨some 25, .iad 5 (.t 20) (.t 22), none⟩, ⟨some 26, .load 5 true (.t 25), none⟩, ⟨some 4, .alloc [.str [], .nil, .int .i64 0, .int .i64 0, .bool false], none⟩, ⟨some 3, .mv (.t 24), none⟩, ⟨none, .store 5 (.t 4) (.t 26), none⟩])
    (.seq (.ops [⟨some 27, .load 5 true (.t 4), none⟩, ⟨some 28, .fad 1 (.t 1), none⟩, ⟨some 29, .load 1 false (.t 28), none⟩, ⟨some 30, .len (.t 29), none⟩, ⟨some 31, .call 213 [.t 27, .t 30], none⟩, ⟨some 32, .not (.t 31), none⟩, ⟨some 33, .mv (.t 32), none⟩, ⟨some 34, .fad 0 (.t 1), some (33, false)⟩, ⟨some 35, .load 1 false (.t 34), some (33, false)⟩, ⟨some 36, .fad 0 (.t 4), some (33, false)⟩, ⟨some 37, .load 1 false (.t 36), some (33, false)⟩, ⟨some 38, .call 214 [.t 35, .t 37], some (33, false)⟩, ⟨some 39, .mv (.t 3), some (33, false)⟩, ⟨some 40, .bin .neq (.t 38) (.t 39), some (33, false)⟩, ⟨some 41, .pick (.t 33) (.v (.bool true)) (.t 40), none⟩])
    (.ite (.t 41) (.seq (.ops [⟨some 2, .mv (.v (.bool false)), none⟩])
     .ret)
    .skip))))
   (.ops [⟨some 42, .bin .add (.t 22) (.v (.int .i64 1)), none⟩, ⟨some 22, .mv (.t 42), none⟩])))))))
 (.seq (.seq (.ops [⟨some 43, .fad 1 (.t 1), none⟩, ⟨some 44, .load 1 false (.t 43), none⟩, ⟨some 45, .len (.t 44), none⟩, ⟨some 46, .mv (.v (.int .i64 0)), none⟩])
 (.blk 2 (.loop (.seq (.ops [⟨some 47, .bin .lss (.t 46) (.t 45), none⟩])
   (.seq (.ite (.t 47) .skip
   (.exit 2))
   (.seq (.blk 3 (.seq (.ops [⟨some 48, .mv (.t 46), none⟩, ⟨some 49, .iad 6 (.t 44) (.t 46), none⟩, ⟨some 50, .load 6 true (.t 49), none⟩, ⟨some 6, .alloc [.str [], .int .i64 0, .int .i64 0, .int .i64 0, .bool false, .int .i64 0], none⟩, ⟨some 5, .mv (.t 48), none⟩, ⟨none, .store 6 (.t 6) (.t 50), none⟩])
    (.seq (.ops [⟨some 51, .load 6 true (.t 6), none⟩, ⟨some 52, .call 215 [.t 51], none⟩, ⟨some 53, .not (.t 52), none⟩, ⟨some 54, .mv (.t 53), none⟩, ⟨some 55, .fad 1 (.t 1), some (54, false)⟩, ⟨some 56, .load 1 false (.t 55), some (54, false)⟩, ⟨some 57, .fad 0 (.t 6), some (54, false)⟩, ⟨some 58, .load 1 false (.t 57), some (54, false)⟩, ⟨some 59, .call 216 [.t 56, .t 58], some (54, false)⟩, ⟨some 60, .mv (.t 5), some (54, false)⟩, ⟨some 61, .bin .neq (.t 59) (.t 60), some (54, false)⟩, ⟨some 62, .pick (.t 54) (.v (.bool true)) (.t 61), none⟩])
    (.ite (.t 62) (.seq (.ops [⟨some 2, .mv (.v (.bool false)), none⟩])
     .ret)
    .skip))))
   (.ops [⟨some 63, .bin .add (.t 46) (.v (.int .i64 1)), none⟩, ⟨some 46, .mv (.t 63), none⟩])))))))
 (.seq (.ops [⟨some 64, .fad 2 (.t 1), none⟩, ⟨some 65, .load 1 false (.t 64), none⟩, ⟨some 66, .call 145 [.t 65, .v (.int .i64 1), .v (.int .i64 4)], none⟩, ⟨some 67, .mv (.t 66), none⟩, ⟨some 68, .fad 3 (.t 1), some (67, true)⟩, ⟨some 69, .load 1 false (.t 68), some (67, true)⟩, ⟨some 70, .call 145 [.t 69, .v (.int .i64 0), .v (.int .i64 9)], some (67, true)⟩, ⟨some 71, .pick (.t 67) (.t 70) (.v (.bool false)), none⟩, ⟨some 72, .mv (.t 71), none⟩, ⟨some 73, .fad 4 (.t 1), some (72, true)⟩, ⟨some 74, .load 1 false (.t 73), some (72, true)⟩, ⟨some 75, .call 145 [.t 74, .v (.int .i64 1), .v (.int .i64 9)], some (72, true)⟩, ⟨some 76, .pick (.t 72) (.t 75) (.v (.bool false)), none⟩, ⟨some 77, .mv (.t 76), none⟩, ⟨some 78, .fad 5 (.t 1), some (77, true)⟩, ⟨some 79, .load 1 false (.t 78), some (77, true)⟩, ⟨some 80, .call 145 [.t 79, .v (.int .i64 0), .v (.int .i64 20)], some (77, true)⟩, ⟨some 81, .pick (.t 77) (.t 80) (.v (.bool false)), none⟩, ⟨some 82, .mv (.t 81), none⟩, ⟨some 83, .fad 6 (.t 1), some (82, true)⟩, ⟨some 84, .load 1 false (.t 83), some (82, true)⟩, ⟨some 85, .call 145 [.t 84, .v (.int .i64 1), .v (.int .i64 30)], some (82, true)⟩, ⟨some 86, .pick (.t 82) (.t 85) (.v (.bool false)), none⟩, ⟨some 2, .mv (.t 86), none⟩])
 .ret)))))
noncomputable def X.i_IsRules (p0 : TRules) : Option Bool :=
  ((X.i_inRange (p0.Terrains.length : Int) 1 6).bind fun v7 => (bif (!v7) then some false else ((X.i_inRange (p0.Kinds.length : Int) 1 4).bind fun v10 => (bif (!v10) then some false else ((loop (fun (x70 : Int) => ((bif (decide (x70 < (p0.Terrains.length : Int))) then ((at' zTTerrain p0.Terrains x70).bind fun v73 => ((X.i_goodTerrain v73 (p0.Kinds.length : Int)).bind fun v75 => (bif (!v75) then some (Sum.inr (Sum.inr false)) else ((X.i_terrainIndex p0.Terrains v73.Name).bind fun v78 => (bif (v78 != x70) then some (Sum.inr (Sum.inr false)) else some (Sum.inl (W (x70 + 1)))))))) else some (Sum.inr (Sum.inl ()))) : Option (Int ⊕ (Unit ⊕ Bool)))) 0).bind fun y81 => (Sum.elim (fun (y83 : Unit) => ((loop (fun (x142 : Int) => ((bif (decide (x142 < (p0.Kinds.length : Int))) then ((at' zTKind p0.Kinds x142).bind fun v145 => ((X.i_goodKind v145).bind fun v147 => (bif (!v147) then some (Sum.inr (Sum.inr false)) else ((X.i_kindIndex p0.Kinds v145.Name).bind fun v150 => (bif (v150 != x142) then some (Sum.inr (Sum.inr false)) else some (Sum.inl (W (x142 + 1)))))))) else some (Sum.inr (Sum.inl ()))) : Option (Int ⊕ (Unit ⊕ Bool)))) 0).bind fun y153 => (Sum.elim (fun (y155 : Unit) => ((X.i_inRange p0.Stack 1 4).bind fun v157 => (bif v157 then ((X.i_inRange p0.River 0 9).bind fun v160 => (bif v160 then ((X.i_inRange p0.Road 1 9).bind fun v163 => (bif v163 then ((X.i_inRange p0.Supply 0 20).bind fun v166 => (bif v166 then ((X.i_inRange p0.Turns 1 30).bind fun v169 => some v169) else some false)) else some false)) else some false)) else some false))) (fun (y156 : Bool) => some y156) y153))) (fun (y84 : Bool) => some y84) y81))))))
theorem i_IsRules_ok (p0 : TRules) (r : Bool) (H : X.i_IsRules p0 = some r) : FnOk Tryz.prog gl 193 [.agg (eTRules p0)] (cB r) := by
  unfold X.i_IsRules at H
  refine fn_in (fn := Tryz.f193) (ir := i_IsRules_ir) (s1 := lit [(2, cB r)] []) glL Tryz.func193 (by kernel_rfl) (by kernel_rfl) (by kernel_rfl) (by kernel_rfl) (by kernel_rfl) ?_
  refine seq_ops [] [] [(1, .c (.pk 1 0))] [(1, .var (eTRules p0) false)] (fun t => t) (by kernel_rfl) ?_
  refine seq_in ?_
  obtain ⟨v7, h8, H⟩ := ofBind H
  rcases ofCond H with ⟨c9, H⟩ | ⟨c9, H⟩
  · refine seq_ops [.res (cB v7), .g true, .g true, .g true, .g true, .g true, .g true] [] [(1, .c (.pk 1 0)), (18, cB true)] [(1, .var (eTRules p0) false)] (fun t => lI p0.Terrains (aI (i_inRange_ok (p0.Terrains.length : Int) 1 6 v7 h8) (aI c9 (aI c9 (aI c9 (aI c9 (aI c9 (aI c9 (t))))))))) (by kernel_rfl) ?_
    refine ite_t (rfl : (true : Bool) = true) (by kernel_rfl) ?_
    refine seq_ops [] [] [(2, cB false)] [] (fun t => t) (by kernel_rfl) ?_
    refine ends_ret ?_
    obtain rfl := Option.some.inj H
    exact And.intro (.inl rfl) rfl
  · obtain ⟨v10, h11, H⟩ := ofBind H
    refine seq_ops [.res (cB v7), .g false, .g false, .g false, .g false, .res (cB v10), .g false, .g false] [] [(1, .c (.pk 1 0)), (18, cB (!v10))] [(1, .var (eTRules p0) false)] (fun t => lI p0.Terrains (aI (i_inRange_ok (p0.Terrains.length : Int) 1 6 v7 h8) (aI c9 (aI c9 (aI c9 (lI p0.Kinds (aI c9 (aI (i_inRange_ok (p0.Kinds.length : Int) 1 4 v10 h11) (aI c9 (aI c9 (t))))))))))) (by kernel_rfl) ?_
    rcases ofCond H with ⟨c12, H⟩ | ⟨c12, H⟩
    · refine ite_t c12 (by kernel_rfl) ?_
      refine seq_ops [] [] [(2, cB false)] [] (fun t => t) (by kernel_rfl) ?_
      refine ends_ret ?_
      obtain rfl := Option.some.inj H
      exact And.intro (.inl rfl) rfl
    · refine ite_f c12 (by kernel_rfl) ?_
      refine ends_skip ?_
      change EndsI _ _ _ _ _ _
      refine seq_in ?_
      refine seq_ops [] [] [(1, .c (.pk 1 0)), (20, .c (dat 5 eTTerrain zTTerrain p0.Terrains)), (21, cI (p0.Terrains.length : Int)), (22, cI 0)] [(1, .var (eTRules p0) false)] (fun t => lI p0.Terrains (t)) (by kernel_rfl) ?_
      refine ends_blk ?_
      obtain ⟨y81, h82, H⟩ := ofBind H
      refine loop_in (fun (x : Int) => lit [(1, .c (.pk 1 0)), (20, .c (dat 5 eTTerrain zTTerrain p0.Terrains)), (21, cI (p0.Terrains.length : Int)), (22, cI x)] [(1, .var (eTRules p0) false)]) (orJ (fun (z : Unit) => At (.exit 0) (lit [(1, .c (.pk 1 0))] [(1, .var (eTRules p0) false)])) (fun (z : Bool) => At .ret (lit [(2, cB z)] []))) h82 ?_ ?_
      · clear H h82
        intro x70 y0 H
        refine seq_ops [] [] [(1, .c (.pk 1 0)), (20, .c (dat 5 eTTerrain zTTerrain p0.Terrains)), (21, cI (p0.Terrains.length : Int)), (22, cI x70), (23, cB (decide (x70 < (p0.Terrains.length : Int))))] [(1, .var (eTRules p0) false)] (fun t => t) (by kernel_rfl) ?_
        refine seq_in ?_
        rcases ofCond H with ⟨c72, H⟩ | ⟨c72, H⟩
        · refine ite_t c72 (by kernel_rfl) ?_
          refine ends_skip ?_
          change EndsI _ _ _ _ _ _
          refine seq_in ?_
          refine ends_blk ?_
          obtain ⟨v73, h74, H⟩ := ofBind H
          refine seq_ops [.cs (eTTerrain v73)] [] [(1, .c (.pk 1 0)), (3, cI x70), (4, .c (.pk 4 0)), (20, .c (dat 5 eTTerrain zTTerrain p0.Terrains)), (21, cI (p0.Terrains.length : Int)), (22, cI x70)] [(1, .var (eTRules p0) false), (4, .var (eTTerrain v73) false)] (fun t => aI (at_lt h74) (aI (at_enc (enc := eTTerrain) h74) (t))) (by kernel_rfl) ?_
          obtain ⟨v75, h76, H⟩ := ofBind H
          rcases ofCond H with ⟨c77, H⟩ | ⟨c77, H⟩
          · refine seq_ops [.res (cB v75), .g true, .g true, .g true, .g true, .g true, .g true, .g true, .g true] [] [(1, .c (.pk 1 0)), (20, .c (dat 5 eTTerrain zTTerrain p0.Terrains)), (21, cI (p0.Terrains.length : Int)), (22, cI x70), (41, cB true)] [(1, .var (eTRules p0) false)] (fun t => lI p0.Kinds (aI (i_goodTerrain_ok v73 (p0.Kinds.length : Int) v75 h76) (aI c77 (aI c77 (aI c77 (aI c77 (aI c77 (aI c77 (aI c77 (aI c77 (t))))))))))) (by kernel_rfl) ?_
            refine ite_t (rfl : (true : Bool) = true) (by kernel_rfl) ?_
            refine seq_ops [] [] [(2, cB false)] [] (fun t => t) (by kernel_rfl) ?_
            refine ends_ret ?_
            obtain rfl := Option.some.inj H
            exact And.intro (by simp) (And.intro rfl rfl)
          · obtain ⟨v78, h79, H⟩ := ofBind H
            refine seq_ops [.res (cB v75), .g false, .g false, .g false, .g false, .g false, .res (cI v78), .g false, .g false, .g false] [] [(1, .c (.pk 1 0)), (20, .c (dat 5 eTTerrain zTTerrain p0.Terrains)), (21, cI (p0.Terrains.length : Int)), (22, cI x70), (41, cB (v78 != x70))] [(1, .var (eTRules p0) false)] (fun t => lI p0.Kinds (aI (i_goodTerrain_ok v73 (p0.Kinds.length : Int) v75 h76) (aI c77 (aI c77 (aI c77 (aI c77 (aI c77 (aI (i_terrainIndex_ok p0.Terrains v73.Name v78 h79) (aI c77 (aI c77 (aI c77 (t)))))))))))) (by kernel_rfl) ?_
            rcases ofCond H with ⟨c80, H⟩ | ⟨c80, H⟩
            · refine ite_t c80 (by kernel_rfl) ?_
              refine seq_ops [] [] [(2, cB false)] [] (fun t => t) (by kernel_rfl) ?_
              refine ends_ret ?_
              obtain rfl := Option.some.inj H
              exact And.intro (by simp) (And.intro rfl rfl)
            · refine ite_f c80 (by kernel_rfl) ?_
              refine ends_skip ?_
              change EndsI _ _ _ _ _ _
              refine one_ops [] [] [(1, .c (.pk 1 0)), (20, .c (dat 5 eTTerrain zTTerrain p0.Terrains)), (21, cI (p0.Terrains.length : Int)), (22, cI (W (x70 + 1)))] [(1, .var (eTRules p0) false)] (fun t => t) (by kernel_rfl) ?_
              obtain rfl := Option.some.inj H
              exact And.intro rfl rfl
        · refine ite_f c72 (by kernel_rfl) ?_
          refine tell [] [(1, .c (.pk 1 0))] [(1, .var (eTRules p0) false)] (fun t => t) (by kernel_rfl) ?_
          refine ends_exit ?_
          obtain rfl := Option.some.inj H
          exact And.intro (by simp) (And.intro rfl rfl)
      · clear h82
        cases y81 with
        | inl y83 =>
          replace H := ofInl H
          intro e s q
          obtain ⟨rfl, rfl⟩ := q
          change EndsI _ _ _ _ _ _
          refine seq_in ?_
          refine seq_ops [] [] [(1, .c (.pk 1 0)), (44, .c (dat 6 eTKind zTKind p0.Kinds)), (45, cI (p0.Kinds.length : Int)), (46, cI 0)] [(1, .var (eTRules p0) false)] (fun t => lI p0.Kinds (t)) (by kernel_rfl) ?_
          refine ends_blk ?_
          obtain ⟨y153, h154, H⟩ := ofBind H
          refine loop_in (fun (x : Int) => lit [(1, .c (.pk 1 0)), (44, .c (dat 6 eTKind zTKind p0.Kinds)), (45, cI (p0.Kinds.length : Int)), (46, cI x)] [(1, .var (eTRules p0) false)]) (orJ (fun (z : Unit) => At (.exit 2) (lit [(1, .c (.pk 1 0))] [(1, .var (eTRules p0) false)])) (fun (z : Bool) => At .ret (lit [(2, cB z)] []))) h154 ?_ ?_
          · clear H h154
            intro x142 y0 H
            refine seq_ops [] [] [(1, .c (.pk 1 0)), (44, .c (dat 6 eTKind zTKind p0.Kinds)), (45, cI (p0.Kinds.length : Int)), (46, cI x142), (47, cB (decide (x142 < (p0.Kinds.length : Int))))] [(1, .var (eTRules p0) false)] (fun t => t) (by kernel_rfl) ?_
            refine seq_in ?_
            rcases ofCond H with ⟨c144, H⟩ | ⟨c144, H⟩
            · refine ite_t c144 (by kernel_rfl) ?_
              refine ends_skip ?_
              change EndsI _ _ _ _ _ _
              refine seq_in ?_
              refine ends_blk ?_
              obtain ⟨v145, h146, H⟩ := ofBind H
              refine seq_ops [.cs (eTKind v145)] [] [(1, .c (.pk 1 0)), (5, cI x142), (6, .c (.pk 6 0)), (44, .c (dat 6 eTKind zTKind p0.Kinds)), (45, cI (p0.Kinds.length : Int)), (46, cI x142)] [(1, .var (eTRules p0) false), (6, .var (eTKind v145) false)] (fun t => aI (at_lt h146) (aI (at_enc (enc := eTKind) h146) (t))) (by kernel_rfl) ?_
              obtain ⟨v147, h148, H⟩ := ofBind H
              rcases ofCond H with ⟨c149, H⟩ | ⟨c149, H⟩
              · refine seq_ops [.res (cB v147), .g true, .g true, .g true, .g true, .g true, .g true, .g true, .g true] [] [(1, .c (.pk 1 0)), (44, .c (dat 6 eTKind zTKind p0.Kinds)), (45, cI (p0.Kinds.length : Int)), (46, cI x142), (62, cB true)] [(1, .var (eTRules p0) false)] (fun t => aI (i_goodKind_ok v145 v147 h148) (aI c149 (aI c149 (aI c149 (aI c149 (aI c149 (aI c149 (aI c149 (aI c149 (t)))))))))) (by kernel_rfl) ?_
                refine ite_t (rfl : (true : Bool) = true) (by kernel_rfl) ?_
                refine seq_ops [] [] [(2, cB false)] [] (fun t => t) (by kernel_rfl) ?_
                refine ends_ret ?_
                obtain rfl := Option.some.inj H
                exact And.intro (by simp) (And.intro rfl rfl)
              · obtain ⟨v150, h151, H⟩ := ofBind H
                refine seq_ops [.res (cB v147), .g false, .g false, .g false, .g false, .g false, .res (cI v150), .g false, .g false, .g false] [] [(1, .c (.pk 1 0)), (44, .c (dat 6 eTKind zTKind p0.Kinds)), (45, cI (p0.Kinds.length : Int)), (46, cI x142), (62, cB (v150 != x142))] [(1, .var (eTRules p0) false)] (fun t => aI (i_goodKind_ok v145 v147 h148) (aI c149 (aI c149 (aI c149 (aI c149 (aI c149 (aI (i_kindIndex_ok p0.Kinds v145.Name v150 h151) (aI c149 (aI c149 (aI c149 (t))))))))))) (by kernel_rfl) ?_
                rcases ofCond H with ⟨c152, H⟩ | ⟨c152, H⟩
                · refine ite_t c152 (by kernel_rfl) ?_
                  refine seq_ops [] [] [(2, cB false)] [] (fun t => t) (by kernel_rfl) ?_
                  refine ends_ret ?_
                  obtain rfl := Option.some.inj H
                  exact And.intro (by simp) (And.intro rfl rfl)
                · refine ite_f c152 (by kernel_rfl) ?_
                  refine ends_skip ?_
                  change EndsI _ _ _ _ _ _
                  refine one_ops [] [] [(1, .c (.pk 1 0)), (44, .c (dat 6 eTKind zTKind p0.Kinds)), (45, cI (p0.Kinds.length : Int)), (46, cI (W (x142 + 1)))] [(1, .var (eTRules p0) false)] (fun t => t) (by kernel_rfl) ?_
                  obtain rfl := Option.some.inj H
                  exact And.intro rfl rfl
            · refine ite_f c144 (by kernel_rfl) ?_
              refine tell [] [(1, .c (.pk 1 0))] [(1, .var (eTRules p0) false)] (fun t => t) (by kernel_rfl) ?_
              refine ends_exit ?_
              obtain rfl := Option.some.inj H
              exact And.intro (by simp) (And.intro rfl rfl)
          · clear h154
            cases y153 with
            | inl y155 =>
              replace H := ofInl H
              intro e s q
              obtain ⟨rfl, rfl⟩ := q
              change EndsI _ _ _ _ _ _
              obtain ⟨v157, h158, H⟩ := ofBind H
              rcases ofCond H with ⟨c159, H⟩ | ⟨c159, H⟩
              · obtain ⟨v160, h161, H⟩ := ofBind H
                rcases ofCond H with ⟨c162, H⟩ | ⟨c162, H⟩
                · obtain ⟨v163, h164, H⟩ := ofBind H
                  rcases ofCond H with ⟨c165, H⟩ | ⟨c165, H⟩
                  · obtain ⟨v166, h167, H⟩ := ofBind H
                    rcases ofCond H with ⟨c168, H⟩ | ⟨c168, H⟩
                    · obtain ⟨v169, h170, H⟩ := ofBind H
                      refine seq_ops [.res (cB v157), .g true, .g true, .g true, .res (cB v160), .g true, .g true, .g true, .g true, .res (cB v163), .g true, .g true, .g true, .g true, .res (cB v166), .g true, .g true, .g true, .g true, .res (cB v169), .g true] [] [(2, cB v169)] [] (fun t => aI (i_inRange_ok p0.Stack 1 4 v157 h158) (aI c159 (aI c159 (aI c159 (aI (i_inRange_ok p0.River 0 9 v160 h161) (aI c159 (aI c162 (aI c162 (aI c162 (aI (i_inRange_ok p0.Road 1 9 v163 h164) (aI c162 (aI c165 (aI c165 (aI c165 (aI (i_inRange_ok p0.Supply 0 20 v166 h167) (aI c165 (aI c168 (aI c168 (aI c168 (aI (i_inRange_ok p0.Turns 1 30 v169 h170) (aI c168 (t)))))))))))))))))))))) (by kernel_rfl) ?_
                      refine ends_ret ?_
                      obtain rfl := Option.some.inj H
                      exact And.intro (.inl rfl) rfl
                    · refine seq_ops [.res (cB v157), .g true, .g true, .g true, .res (cB v160), .g true, .g true, .g true, .g true, .res (cB v163), .g true, .g true, .g true, .g true, .res (cB v166), .g true, .g false, .g false, .g false, .g false] [] [(2, cB false)] [] (fun t => aI (i_inRange_ok p0.Stack 1 4 v157 h158) (aI c159 (aI c159 (aI c159 (aI (i_inRange_ok p0.River 0 9 v160 h161) (aI c159 (aI c162 (aI c162 (aI c162 (aI (i_inRange_ok p0.Road 1 9 v163 h164) (aI c162 (aI c165 (aI c165 (aI c165 (aI (i_inRange_ok p0.Supply 0 20 v166 h167) (aI c165 (aI c168 (aI c168 (aI c168 (aI c168 (t))))))))))))))))))))) (by kernel_rfl) ?_
                      refine ends_ret ?_
                      obtain rfl := Option.some.inj H
                      exact And.intro (.inl rfl) rfl
                  · refine seq_ops [.res (cB v157), .g true, .g true, .g true, .res (cB v160), .g true, .g true, .g true, .g true, .res (cB v163), .g true, .g false, .g false, .g false, .g false, .g false, .g false, .g false, .g false] [] [(2, cB false)] [] (fun t => aI (i_inRange_ok p0.Stack 1 4 v157 h158) (aI c159 (aI c159 (aI c159 (aI (i_inRange_ok p0.River 0 9 v160 h161) (aI c159 (aI c162 (aI c162 (aI c162 (aI (i_inRange_ok p0.Road 1 9 v163 h164) (aI c162 (aI c165 (aI c165 (aI c165 (aI c165 (aI (rfl : (false : Bool) = false) (aI (rfl : (false : Bool) = false) (aI (rfl : (false : Bool) = false) (aI (rfl : (false : Bool) = false) (t)))))))))))))))))))) (by kernel_rfl) ?_
                    refine ends_ret ?_
                    obtain rfl := Option.some.inj H
                    exact And.intro (.inl rfl) rfl
                · refine seq_ops [.res (cB v157), .g true, .g true, .g true, .res (cB v160), .g true, .g false, .g false, .g false, .g false, .g false, .g false, .g false, .g false, .g false, .g false, .g false, .g false] [] [(2, cB false)] [] (fun t => aI (i_inRange_ok p0.Stack 1 4 v157 h158) (aI c159 (aI c159 (aI c159 (aI (i_inRange_ok p0.River 0 9 v160 h161) (aI c159 (aI c162 (aI c162 (aI c162 (aI c162 (aI (rfl : (false : Bool) = false) (aI (rfl : (false : Bool) = false) (aI (rfl : (false : Bool) = false) (aI (rfl : (false : Bool) = false) (aI (rfl : (false : Bool) = false) (aI (rfl : (false : Bool) = false) (aI (rfl : (false : Bool) = false) (aI (rfl : (false : Bool) = false) (t))))))))))))))))))) (by kernel_rfl) ?_
                  refine ends_ret ?_
                  obtain rfl := Option.some.inj H
                  exact And.intro (.inl rfl) rfl
              · refine seq_ops [.res (cB v157), .g false, .g false, .g false, .g false, .g false, .g false, .g false, .g false, .g false, .g false, .g false, .g false, .g false, .g false, .g false, .g false] [] [(2, cB false)] [] (fun t => aI (i_inRange_ok p0.Stack 1 4 v157 h158) (aI c159 (aI c159 (aI c159 (aI c159 (aI (rfl : (false : Bool) = false) (aI (rfl : (false : Bool) = false) (aI (rfl : (false : Bool) = false) (aI (rfl : (false : Bool) = false) (aI (rfl : (false : Bool) = false) (aI (rfl : (false : Bool) = false) (aI (rfl : (false : Bool) = false) (aI (rfl : (false : Bool) = false) (aI (rfl : (false : Bool) = false) (aI (rfl : (false : Bool) = false) (aI (rfl : (false : Bool) = false) (aI (rfl : (false : Bool) = false) (t)))))))))))))))))) (by kernel_rfl) ?_
                refine ends_ret ?_
                obtain rfl := Option.some.inj H
                exact And.intro (.inl rfl) rfl
            | inr y156 =>
              replace H := ofInr H
              intro e s q
              obtain ⟨rfl, rfl⟩ := q
              obtain rfl := Option.some.inj H
              exact And.intro (.inl rfl) rfl
        | inr y84 =>
          replace H := ofInr H
          intro e s q
          obtain ⟨rfl, rfl⟩ := q
          obtain rfl := Option.some.inj H
          exact And.intro (.inl rfl) rfl

def i_indexOf_ir : S :=
 (.seq (.ops [⟨some 2, .box 5 (.t 0), none⟩, ⟨some 3, .box 2 (.t 1), none⟩, ⟨some 4, .mv (.v (.int .i64 0)), none⟩])
 (.seq (.seq (.ops [⟨some 5, .fad 0 (.t 3), none⟩, ⟨some 6, .load 1 false (.t 5), none⟩, ⟨some 7, .fad 0 (.t 2), none⟩, ⟨some 8, .load 1 false (.t 7), none⟩, ⟨some 9, .call 115 [.t 6, .t 8], none⟩, ⟨some 10, .not (.t 9), none⟩, ⟨some 11, .mv (.t 10), none⟩, ⟨some 12, .fad 1 (.t 3), some (11, false)⟩, ⟨some 13, .load 1 false (.t 12), some (11, false)⟩, ⟨some 14, .fad 1 (.t 2), some (11, false)⟩, ⟨some 15, .load 1 false (.t 14), some (11, false)⟩, ⟨some 16, .call 115 [.t 13, .t 15], some (11, false)⟩, ⟨some 17, .not (.t 16), some (11, false)⟩, ⟨some 18, .pick (.t 11) (.v (.bool true)) (.t 17), none⟩])
 (.ite (.t 18) (.seq (.ops [⟨some 4, .mv (.v (.int .i64 (-1))), none⟩])
  .ret)
 .skip))
 (.seq (.ops [⟨some 19, .fad 1 (.t 3), none⟩, ⟨some 20, .load 1 false (.t 19), none⟩, ⟨some 21, .fad 0 (.t 2), none⟩, ⟨some 22, .load 1 false (.t 21), none⟩, ⟨some 23, .bin .mul (.t 20) (.t 22), none⟩, ⟨some 24, .fad 0 (.t 3), none⟩, ⟨some 25, .load 1 false (.t 24), none⟩, ⟨some 26, .bin .add (.t 23) (.t 25), none⟩, ⟨some 4, .mv (.t 26), none⟩])
 .ret)))
noncomputable def X.i_indexOf (p0 : TMap) (p1 : THex) : Option Int :=
  ((X.i_isIndex p1.Q p0.Width).bind fun v7 => (bif (!v7) then some (-1) else ((X.i_isIndex p1.R p0.Height).bind fun v10 => (bif (!v10) then some (-1) else some (W ((W (p1.R * p0.Width)) + p1.Q))))))
theorem i_indexOf_ok (p0 : TMap) (p1 : THex) (r : Int) (H : X.i_indexOf p0 p1 = some r) : FnOk Tryz.prog gl 182 [.agg (eTMap p0), .agg (eTHex p1)] (cI r) := by
  unfold X.i_indexOf at H
  refine fn_in (fn := Tryz.f182) (ir := i_indexOf_ir) (s1 := lit [(4, cI r)] []) glL Tryz.func182 (by kernel_rfl) (by kernel_rfl) (by kernel_rfl) (by kernel_rfl) (by kernel_rfl) ?_
  refine seq_ops [] [] [(2, .c (.pk 2 0)), (3, .c (.pk 3 0))] [(2, .var (eTMap p0) false), (3, .var (eTHex p1) false)] (fun t => t) (by kernel_rfl) ?_
  refine seq_in ?_
  obtain ⟨v7, h8, H⟩ := ofBind H
  rcases ofCond H with ⟨c9, H⟩ | ⟨c9, H⟩
  · refine seq_ops [.res (cB v7), .g true, .g true, .g true, .g true, .g true, .g true, .g true] [] [(2, .c (.pk 2 0)), (3, .c (.pk 3 0)), (18, cB true)] [(2, .var (eTMap p0) false), (3, .var (eTHex p1) false)] (fun t => aI (i_isIndex_ok p1.Q p0.Width v7 h8) (aI c9 (aI c9 (aI c9 (aI c9 (aI c9 (aI c9 (aI c9 (t))))))))) (by kernel_rfl) ?_
    refine ite_t (rfl : (true : Bool) = true) (by kernel_rfl) ?_
    refine seq_ops [] [] [(4, cI (-1))] [] (fun t => t) (by kernel_rfl) ?_
    refine ends_ret ?_
    obtain rfl := Option.some.inj H
    exact And.intro (.inl rfl) rfl
  · obtain ⟨v10, h11, H⟩ := ofBind H
    refine seq_ops [.res (cB v7), .g false, .g false, .g false, .g false, .g false, .res (cB v10), .g false, .g false] [] [(2, .c (.pk 2 0)), (3, .c (.pk 3 0)), (18, cB (!v10))] [(2, .var (eTMap p0) false), (3, .var (eTHex p1) false)] (fun t => aI (i_isIndex_ok p1.Q p0.Width v7 h8) (aI c9 (aI c9 (aI c9 (aI c9 (aI c9 (aI (i_isIndex_ok p1.R p0.Height v10 h11) (aI c9 (aI c9 (t)))))))))) (by kernel_rfl) ?_
    rcases ofCond H with ⟨c12, H⟩ | ⟨c12, H⟩
    · refine ite_t c12 (by kernel_rfl) ?_
      refine seq_ops [] [] [(4, cI (-1))] [] (fun t => t) (by kernel_rfl) ?_
      refine ends_ret ?_
      obtain rfl := Option.some.inj H
      exact And.intro (.inl rfl) rfl
    · refine ite_f c12 (by kernel_rfl) ?_
      refine ends_skip ?_
      change EndsI _ _ _ _ _ _
      refine seq_ops [] [] [(4, cI (W ((W (p1.R * p0.Width)) + p1.Q)))] [] (fun t => t) (by kernel_rfl) ?_
      refine ends_ret ?_
      obtain rfl := Option.some.inj H
      exact And.intro (.inl rfl) rfl

def i_stepBy_ir : S :=
 (.seq (.ops [⟨some 3, .box 2 (.t 0), none⟩, ⟨some 6, .alloc [.int .i64 0, .int .i64 0], none⟩])
 (.seq (.draw 19 [⟨some 7, .fad 0 (.t 3), none⟩, ⟨some 8, .load 1 false (.t 7), none⟩, ⟨some 9, .mv (.t 2), none⟩, ⟨some 10, .mv (.t 1), none⟩, ⟨some 11, .iar 6 2 (.g 0) (.t 10), none⟩, ⟨some 12, .fad 0 (.t 11), none⟩, ⟨some 13, .load 1 false (.t 12), none⟩, ⟨some 14, .bin .mul (.t 9) (.t 13), none⟩, ⟨some 15, .bin .add (.t 8) (.t 14), none⟩, ⟨some 16, .fad 1 (.t 3), none⟩, ⟨some 17, .load 1 false (.t 16), none⟩, ⟨some 18, .mv (.t 2), none⟩, ⟨some 19, .mv (.t 1), none⟩, ⟨some 20, .iar 6 2 (.g 0) (.t 19), none⟩, ⟨some 21, .fad 1 (.t 20), none⟩, ⟨some 22, .load 1 false (.t 21), none⟩, ⟨some 23, .bin .mul (.t 18) (.t 22), none⟩, ⟨some 24, .bin .add (.t 17) (.t 23), none⟩, ⟨some 25, .build [.int .i64 0, .int .i64 0] [(0, 1, .t 15), (1, 1, .t 24)], none⟩, ⟨none, .store 2 (.t 6) (.t 25), none⟩])
 .ret))
noncomputable def X.i_stepBy (p0 : THex) (p1 : Int) (p2 : Int) : Option THex :=
  ((at' zTHex dirs p1).bind fun v1 => some (THex.mk (W (p0.Q + (W (p2 * v1.Q)))) (W (p0.R + (W (p2 * v1.R))))))
theorem i_stepBy_ok (p0 : THex) (p1 : Int) (p2 : Int) (r : THex) (H : X.i_stepBy p0 p1 p2 = some r) : FnOk Tryz.prog gl 183 [.agg (eTHex p0), cI p1, cI p2] (.agg (eTHex r)) := by
  unfold X.i_stepBy at H
  refine fn_in (fn := Tryz.f183) (ir := i_stepBy_ir) (s1 := lit [(6, .c (.pk 6 0))] [(6, .var (eTHex r) false)]) glL Tryz.func183 (by kernel_rfl) (by kernel_rfl) (by kernel_rfl) (by kernel_rfl) (by kernel_rfl) ?_
  refine seq_ops [] [] [(1, cI p1), (2, cI p2), (3, .c (.pk 3 0)), (6, .c (.pk 6 0))] [(3, .var (eTHex p0) false), (6, .var [.int .i64 0, .int .i64 0] false)] (fun t => t) (by kernel_rfl) ?_
  obtain ⟨v1, h2, H⟩ := ofBind H
  refine seq_draw [.cs (eTHex v1), .cs (eTHex v1)] [] [(6, .c (.pk 6 0))] [(6, .var [.int .i64 (W (p0.Q + (W (p2 * v1.Q)))), .int .i64 (W (p0.R + (W (p2 * v1.R))))] false)] (fun t => aI (at_lt h2) (aI (dirs_at h2) (aI (rfl : ([] : List Nat) = []) (aI (at_lt h2) (aI (dirs_at h2) (aI (rfl : ([] : List Nat) = []) (t))))))) (by kernel_rfl) ?_
  refine ends_ret ?_
  obtain rfl := Option.some.inj H
  exact And.intro (.inl rfl) rfl

def i_hexOf_ir : S :=
 (.seq (.ops [⟨some 2, .box 5 (.t 0), none⟩, ⟨some 4, .alloc [.int .i64 0, .int .i64 0], none⟩])
 (.seq (.draw 9 [⟨some 5, .mv (.t 1), none⟩, ⟨some 6, .fad 0 (.t 2), none⟩, ⟨some 7, .load 1 false (.t 6), none⟩, ⟨some 8, .bin .rem (.t 5) (.t 7), none⟩, ⟨some 9, .mv (.t 1), none⟩, ⟨some 10, .fad 0 (.t 2), none⟩, ⟨some 11, .load 1 false (.t 10), none⟩, ⟨some 12, .bin .quo (.t 9) (.t 11), none⟩, ⟨some 13, .build [.int .i64 0, .int .i64 0] [(0, 1, .t 8), (1, 1, .t 12)], none⟩, ⟨none, .store 2 (.t 4) (.t 13), none⟩])
 .ret))
noncomputable def X.i_hexOf (p0 : TMap) (p1 : Int) : Option THex :=
  (if p0.Width ≠ 0 then (if p0.Width ≠ 0 then some (THex.mk (Int.tmod p1 p0.Width) (W (Int.tdiv p1 p0.Width))) else none) else none)
theorem i_hexOf_ok (p0 : TMap) (p1 : Int) (r : THex) (H : X.i_hexOf p0 p1 = some r) : FnOk Tryz.prog gl 184 [.agg (eTMap p0), cI p1] (.agg (eTHex r)) := by
  unfold X.i_hexOf at H
  refine fn_in (fn := Tryz.f184) (ir := i_hexOf_ir) (s1 := lit [(4, .c (.pk 4 0))] [(4, .var (eTHex r) false)]) glL Tryz.func184 (by kernel_rfl) (by kernel_rfl) (by kernel_rfl) (by kernel_rfl) (by kernel_rfl) ?_
  refine seq_ops [] [] [(1, cI p1), (2, .c (.pk 2 0)), (4, .c (.pk 4 0))] [(2, .var (eTMap p0) false), (4, .var [.int .i64 0, .int .i64 0] false)] (fun t => t) (by kernel_rfl) ?_
  obtain ⟨g1, H⟩ := ofIf H
  obtain ⟨g2, H⟩ := ofIf H
  refine seq_draw [] [] [(4, .c (.pk 4 0))] [(4, .var [.int .i64 (Int.tmod p1 p0.Width), .int .i64 (W (Int.tdiv p1 p0.Width))] false)] (fun t => aI g1 (aI g2 (t))) (by kernel_rfl) ?_
  refine ends_ret ?_
  obtain rfl := Option.some.inj H
  exact And.intro (.inl rfl) rfl

def i_nextTo_ir : S :=
 (.seq (.ops [⟨some 3, .box 5 (.t 0), none⟩, ⟨some 6, .mv (.v (.int .i64 0)), none⟩])
 (.seq (.draw 8 [⟨some 7, .load 5 true (.t 3), none⟩, ⟨some 8, .load 5 true (.t 3), none⟩, ⟨some 9, .mv (.t 1), none⟩, ⟨some 10, .call 184 [.t 8, .t 9], none⟩, ⟨some 11, .mv (.t 2), none⟩, ⟨some 12, .call 183 [.t 10, .t 11, .v (.int .i64 1)], none⟩, ⟨some 13, .call 182 [.t 7, .t 12], none⟩, ⟨some 6, .mv (.t 13), none⟩])
 .ret))
noncomputable def X.i_nextTo (p0 : TMap) (p1 : Int) (p2 : Int) : Option Int :=
  ((X.i_hexOf p0 p1).bind fun v1 => ((X.i_stepBy v1 p2 1).bind fun v3 => ((X.i_indexOf p0 v3).bind fun v5 => some v5)))
theorem i_nextTo_ok (p0 : TMap) (p1 : Int) (p2 : Int) (r : Int) (H : X.i_nextTo p0 p1 p2 = some r) : FnOk Tryz.prog gl 133 [.agg (eTMap p0), cI p1, cI p2] (cI r) := by
  unfold X.i_nextTo at H
  refine fn_in (fn := Tryz.f133) (ir := i_nextTo_ir) (s1 := lit [(6, cI r)] []) glL Tryz.func133 (by kernel_rfl) (by kernel_rfl) (by kernel_rfl) (by kernel_rfl) (by kernel_rfl) ?_
  refine seq_ops [] [] [(1, cI p1), (2, cI p2), (3, .c (.pk 3 0))] [(3, .var (eTMap p0) false)] (fun t => t) (by kernel_rfl) ?_
  obtain ⟨v1, h2, H⟩ := ofBind H
  obtain ⟨v3, h4, H⟩ := ofBind H
  obtain ⟨v5, h6, H⟩ := ofBind H
  refine seq_draw [.res (.agg (eTHex v1)), .res (.agg (eTHex v3)), .res (cI v5)] [] [(6, cI v5)] [] (fun t => aI (i_hexOf_ok p0 p1 v1 h2) (aI trivial (aI (rfl : ([] : List Nat) = []) (aI (i_stepBy_ok v1 p2 1 v3 h4) (aI trivial (aI (rfl : ([] : List Nat) = []) (aI (i_indexOf_ok p0 v3 v5 h6) (aI trivial (aI (rfl : ([] : List Nat) = []) (t)))))))))) (by kernel_rfl) ?_
  refine ends_ret ?_
  obtain rfl := Option.some.inj H
  exact And.intro (.inl rfl) rfl

def i_isEdge_ir : S :=
 (.seq (.ops [⟨some 2, .box 5 (.t 0), none⟩, ⟨some 4, .mv (.v (.bool false)), none⟩])
 (.seq (.ops [⟨some 5, .mv (.t 1), none⟩, ⟨some 6, .fad 0 (.t 2), none⟩, ⟨some 7, .load 1 false (.t 6), none⟩, ⟨some 8, .bin .mul (.v (.int .i64 3)) (.t 7), none⟩, ⟨some 9, .fad 1 (.t 2), none⟩, ⟨some 10, .load 1 false (.t 9), none⟩, ⟨some 11, .bin .mul (.t 8) (.t 10), none⟩, ⟨some 12, .bin .sub (.t 11) (.v (.int .i64 1)), none⟩, ⟨some 13, .call 145 [.t 5, .v (.int .i64 0), .t 12], none⟩, ⟨some 14, .mv (.t 13), none⟩, ⟨some 15, .load 5 true (.t 2), some (14, true)⟩, ⟨some 16, .mv (.t 1), some (14, true)⟩, ⟨some 17, .bin .quo (.t 16) (.v (.int .i64 3)), some (14, true)⟩, ⟨some 18, .mv (.t 1), some (14, true)⟩, ⟨some 19, .bin .rem (.t 18) (.v (.int .i64 3)), some (14, true)⟩, ⟨some 20, .call 133 [.t 15, .t 17, .t 19], some (14, true)⟩, ⟨some 21, .bin .geq (.t 20) (.v (.int .i64 0)), some (14, true)⟩, ⟨some 22, .pick (.t 14) (.t 21) (.v (.bool false)), none⟩, ⟨some 4, .mv (.t 22), none⟩])
 .ret))
noncomputable def X.i_isEdge (p0 : TMap) (p1 : Int) : Option Bool :=
  ((X.i_inRange p1 0 (W ((W ((W (3 * p0.Width)) * p0.Height)) - 1))).bind fun v1 => (bif v1 then ((X.i_nextTo p0 (W (Int.tdiv p1 3)) (Int.tmod p1 3)).bind fun v4 => some (decide (v4 ≥ 0))) else some false))
theorem i_isEdge_ok (p0 : TMap) (p1 : Int) (r : Bool) (H : X.i_isEdge p0 p1 = some r) : FnOk Tryz.prog gl 217 [.agg (eTMap p0), cI p1] (cB r) := by
  unfold X.i_isEdge at H
  refine fn_in (fn := Tryz.f217) (ir := i_isEdge_ir) (s1 := lit [(4, cB r)] []) glL Tryz.func217 (by kernel_rfl) (by kernel_rfl) (by kernel_rfl) (by kernel_rfl) (by kernel_rfl) ?_
  refine seq_ops [] [] [(1, cI p1), (2, .c (.pk 2 0))] [(2, .var (eTMap p0) false)] (fun t => t) (by kernel_rfl) ?_
  obtain ⟨v1, h2, H⟩ := ofBind H
  rcases ofCond H with ⟨c3, H⟩ | ⟨c3, H⟩
  · obtain ⟨v4, h5, H⟩ := ofBind H
    refine seq_ops [.res (cB v1), .g true, .g true, .g true, .g true, .g true, .g true, .res (cI v4), .g true, .g true] [] [(4, cB (decide (v4 ≥ 0)))] [] (fun t => aI (i_inRange_ok p1 0 (W ((W ((W (3 * p0.Width)) * p0.Height)) - 1)) v1 h2) (aI c3 (aI c3 (aI c3 (aI (by decide : (3 : Int) ≠ 0) (aI c3 (aI c3 (aI (by decide : (3 : Int) ≠ 0) (aI c3 (aI (i_nextTo_ok p0 (W (Int.tdiv p1 3)) (Int.tmod p1 3) v4 h5) (aI c3 (aI c3 (t))))))))))))) (by kernel_rfl) ?_
    refine ends_ret ?_
    obtain rfl := Option.some.inj H
    exact And.intro (.inl rfl) rfl
  · refine seq_ops [.res (cB v1), .g false, .g false, .g false, .g false, .g false, .g false, .g false, .g false] [] [(4, cB false)] [] (fun t => aI (i_inRange_ok p1 0 (W ((W ((W (3 * p0.Width)) * p0.Height)) - 1)) v1 h2) (aI c3 (aI c3 (aI c3 (aI c3 (aI c3 (aI c3 (aI c3 (aI c3 (t)))))))))) (by kernel_rfl) ?_
    refine ends_ret ?_
    obtain rfl := Option.some.inj H
    exact And.intro (.inl rfl) rfl

def i_IsMap_ir : S :=
 (.seq (.ops [⟨some 1, .box 5 (.t 0), none⟩, ⟨some 2, .mv (.v (.bool false)), none⟩])
 (.seq (.seq (.ops [⟨some 9, .fad 0 (.t 1), none⟩, ⟨some 10, .load 1 false (.t 9), none⟩, ⟨some 11, .call 145 [.t 10, .v (.int .i64 1), .v (.int .i64 10)], none⟩, ⟨some 12, .not (.t 11), none⟩, ⟨some 13, .mv (.t 12), none⟩, ⟨some 14, .fad 1 (.t 1), some (13, false)⟩, ⟨some 15, .load 1 false (.t 14), some (13, false)⟩, ⟨some 16, .call 145 [.t 15, .v (.int .i64 1), .v (.int .i64 10)], some (13, false)⟩, ⟨some 17, .not (.t 16), some (13, false)⟩, ⟨some 18, .pick (.t 13) (.v (.bool true)) (.t 17), none⟩, ⟨some 19, .mv (.t 18), none⟩, ⟨some 20, .fad 2 (.t 1), some (19, false)⟩, ⟨some 21, .load 1 false (.t 20), some (19, false)⟩, ⟨some 22, .len (.t 21), some (19, false)⟩, ⟨some 23, .fad 0 (.t 1), some (19, false)⟩, ⟨some 24, .load 1 false (.t 23), some (19, false)⟩, ⟨some 25, .fad 1 (.t 1), some (19, false)⟩, ⟨some 26, .load 1 false (.t 25), some (19, false)⟩, ⟨some 27, .bin .mul (.t 24) (.t 26), some (19, false)⟩, ⟨some 28, .bin .neq (.t 22) (.t 27), some (19, false)⟩, ⟨some 29, .pick (.t 19) (.v (.bool true)) (.t 28), none⟩])
 (.ite (.t 29) (.seq (.ops [⟨some 2, .mv (.v (.bool false)), none⟩])
  .ret)
 .skip))
 (.seq (.seq (.ops [⟨some 30, .fad 2 (.t 1), none⟩, ⟨some 31, .load 1 false (.t 30), none⟩, ⟨some 32, .len (.t 31), none⟩, ⟨some 33, .mv (.v (.int .i64 0)), none⟩])
 (.blk 0 (.loop (.seq (.ops [⟨some 34, .bin .lss (.t 33) (.t 32), none⟩])
   (.seq (.ite (.t 34) .skip
   (.exit 0))
   (.seq (.blk 1 (.seq (.ops [⟨some 35, .iad 1 (.t 31) (.t 33), none⟩, ⟨some 36, .load 1 false (.t 35), none⟩, ⟨some 4, .mv (.t 36), none⟩])
    (.seq (.ops [⟨some 37, .mv (.t 4), none⟩, ⟨some 38, .call 115 [.t 37, .v (.int .i64 6)], none⟩, ⟨some 39, .not (.t 38), none⟩])
    (.ite (.t 39) (.seq (.ops [⟨some 2, .mv (.v (.bool false)), none⟩])
     .ret)
    .skip))))
   (.ops [⟨some 40, .bin .add (.t 33) (.v (.int .i64 1)), none⟩, ⟨some 33, .mv (.t 40), none⟩])))))))
 (.seq (.seq (.ops [⟨some 41, .fad 3 (.t 1), none⟩, ⟨some 42, .load 1 false (.t 41), none⟩, ⟨some 43, .fad 4 (.t 1), none⟩, ⟨some 44, .load 1 false (.t 43), none⟩, ⟨some 45, .bsl 1 [.t 42, .t 44], none⟩, ⟨some 46, .len (.t 45), none⟩, ⟨some 47, .mv (.v (.int .i64 0)), none⟩])
 (.blk 2 (.loop (.seq (.ops [⟨some 48, .bin .lss (.t 47) (.t 46), none⟩])
   (.seq (.ite (.t 48) .skip
   (.exit 2))
   (.seq (.blk 3 (.seq (.ops [⟨some 49, .iad 1 (.t 45) (.t 47), none⟩, ⟨some 50, .load 1 false (.t 49), none⟩, ⟨some 6, .mv (.t 50), none⟩])
    (.seq (.seq (.ops [⟨some 51, .mv (.t 6), none⟩, ⟨some 52, .call 147 [.t 51], none⟩, ⟨some 53, .not (.t 52), none⟩])
    (.ite (.t 53) (.seq (.ops [⟨some 2, .mv (.v (.bool false)), none⟩])
     .ret)
    .skip))
    (.seq (.ops [⟨some 54, .mv (.t 6), none⟩, ⟨some 55, .len (.t 54), none⟩, ⟨some 56, .mv (.v (.int .i64 0)), none⟩])
    (.blk 4 (.loop (.seq (.ops [⟨some 57, .bin .lss (.t 56) (.t 55), none⟩])
      (.seq (.ite (.t 57) .skip
      (.exit 4))
      (.seq (.blk 5 (.seq (.ops [⟨some 58, .iad 1 (.t 54) (.t 56), none⟩, ⟨some 59, .load 1 false (.t 58), none⟩, ⟨some 8, .mv (.t 59), none⟩])
       (.seq (.ops [⟨some 60, .load 5 true (.t 1), none⟩, ⟨some 61, .mv (.t 8), none⟩, ⟨some 62, .call 217 [.t 60, .t 61], none⟩, ⟨some 63, .not (.t 62), none⟩])
       (.ite (.t 63) (.seq (.ops [⟨some 2, .mv (.v (.bool false)), none⟩])
        .ret)
       .skip))))
      (.ops [⟨some 64, .bin .add (.t 56) (.v (.int .i64 1)), none⟩, ⟨some 56, .mv (.t 64), none⟩]))))))))))
   (.ops [⟨some 65, .bin .add (.t 47) (.v (.int .i64 1)), none⟩, ⟨some 47, .mv (.t 65), none⟩])))))))
 (.seq (.ops [⟨some 2, .mv (.v (.bool true)), none⟩])
 .ret)))))
noncomputable def X.i_IsMap (p0 : TMap) : Option Bool :=
  ((X.i_inRange p0.Width 1 10).bind fun v8 => (bif (!v8) then some false else ((X.i_inRange p0.Height 1 10).bind fun v11 => (bif (!v11) then some false else (bif ((p0.Terrain.length : Int) != (W (p0.Width * p0.Height))) then some false else ((loop (fun (x57 : Int) => ((bif (decide (x57 < (p0.Terrain.length : Int))) then ((at' zI p0.Terrain x57).bind fun v60 => ((X.i_isIndex v60 6).bind fun v62 => (bif (!v62) then some (Sum.inr (Sum.inr false)) else some (Sum.inl (W (x57 + 1)))))) else some (Sum.inr (Sum.inl ()))) : Option (Int ⊕ (Unit ⊕ Bool)))) 0).bind fun y65 => (Sum.elim (fun (y67 : Unit) => ((loop (fun (x142 : Int) => ((bif (decide (x142 < (([p0.Rivers, p0.Roads] : List (List Int)).length : Int))) then (if 0 ≤ x142 ∧ x142 < (([p0.Rivers, p0.Roads] : List (List Int)).length : Int) then ((X.i_increasing (([p0.Rivers, p0.Roads] : List (List Int)).getD x142.toNat zLI)).bind fun v149 => (bif (!v149) then some (Sum.inr (Sum.inr false)) else ((loop (fun (x167 : Int) => ((bif (decide (x167 < ((([p0.Rivers, p0.Roads] : List (List Int)).getD x142.toNat zLI).length : Int))) then ((at' zI (([p0.Rivers, p0.Roads] : List (List Int)).getD x142.toNat zLI) x167).bind fun v170 => ((X.i_isEdge p0 v170).bind fun v172 => (bif (!v172) then some (Sum.inr (Sum.inr false)) else some (Sum.inl (W (x167 + 1)))))) else some (Sum.inr (Sum.inl ()))) : Option (Int ⊕ (Unit ⊕ Bool)))) 0).bind fun y175 => (Sum.elim (fun (y177 : Unit) => some (Sum.inl (W (x142 + 1)))) (fun (y178 : Bool) => some (Sum.inr (Sum.inr y178))) y175)))) else none) else some (Sum.inr (Sum.inl ()))) : Option (Int ⊕ (Unit ⊕ Bool)))) 0).bind fun y179 => (Sum.elim (fun (y181 : Unit) => some true) (fun (y182 : Bool) => some y182) y179))) (fun (y68 : Bool) => some y68) y65)))))))
theorem i_IsMap_ok (p0 : TMap) (r : Bool) (H : X.i_IsMap p0 = some r) : FnOk Tryz.prog gl 194 [.agg (eTMap p0)] (cB r) := by
  unfold X.i_IsMap at H
  refine fn_in (fn := Tryz.f194) (ir := i_IsMap_ir) (s1 := lit [(2, cB r)] []) glL Tryz.func194 (by kernel_rfl) (by kernel_rfl) (by kernel_rfl) (by kernel_rfl) (by kernel_rfl) ?_
  refine seq_ops [] [] [(1, .c (.pk 1 0))] [(1, .var (eTMap p0) false)] (fun t => t) (by kernel_rfl) ?_
  refine seq_in ?_
  obtain ⟨v8, h9, H⟩ := ofBind H
  rcases ofCond H with ⟨c10, H⟩ | ⟨c10, H⟩
  · refine seq_ops [.res (cB v8), .g true, .g true, .g true, .g true, .g true, .g true, .g true, .g true, .g true, .g true, .g true, .g true, .g true, .g true, .g true] [] [(1, .c (.pk 1 0)), (29, cB true)] [(1, .var (eTMap p0) false)] (fun t => aI (i_inRange_ok p0.Width 1 10 v8 h9) (aI c10 (aI c10 (aI c10 (aI c10 (aI c10 (aI (rfl : (true : Bool) = true) (aI (rfl : (true : Bool) = true) (aI (rfl : (true : Bool) = true) (aI (rfl : (true : Bool) = true) (aI (rfl : (true : Bool) = true) (aI (rfl : (true : Bool) = true) (aI (rfl : (true : Bool) = true) (aI (rfl : (true : Bool) = true) (aI (rfl : (true : Bool) = true) (aI (rfl : (true : Bool) = true) (t))))))))))))))))) (by kernel_rfl) ?_
    refine ite_t (rfl : (true : Bool) = true) (by kernel_rfl) ?_
    refine seq_ops [] [] [(2, cB false)] [] (fun t => t) (by kernel_rfl) ?_
    refine ends_ret ?_
    obtain rfl := Option.some.inj H
    exact And.intro (.inl rfl) rfl
  · obtain ⟨v11, h12, H⟩ := ofBind H
    rcases ofCond H with ⟨c13, H⟩ | ⟨c13, H⟩
    · refine seq_ops [.res (cB v8), .g false, .g false, .g false, .res (cB v11), .g false, .g false, .g true, .g true, .g true, .g true, .g true, .g true, .g true, .g true, .g true, .g true] [] [(1, .c (.pk 1 0)), (29, cB true)] [(1, .var (eTMap p0) false)] (fun t => aI (i_inRange_ok p0.Width 1 10 v8 h9) (aI c10 (aI c10 (aI c10 (aI (i_inRange_ok p0.Height 1 10 v11 h12) (aI c10 (aI c10 (aI c13 (aI c13 (aI c13 (aI c13 (aI c13 (aI c13 (aI c13 (aI c13 (aI c13 (aI c13 (t)))))))))))))))))) (by kernel_rfl) ?_
      refine ite_t (rfl : (true : Bool) = true) (by kernel_rfl) ?_
      refine seq_ops [] [] [(2, cB false)] [] (fun t => t) (by kernel_rfl) ?_
      refine ends_ret ?_
      obtain rfl := Option.some.inj H
      exact And.intro (.inl rfl) rfl
    · refine seq_ops [.res (cB v8), .g false, .g false, .g false, .res (cB v11), .g false, .g false, .g false, .g false, .g false, .g false, .g false, .g false, .g false, .g false, .g false, .g false] [] [(1, .c (.pk 1 0)), (29, cB ((p0.Terrain.length : Int) != (W (p0.Width * p0.Height))))] [(1, .var (eTMap p0) false)] (fun t => aI (i_inRange_ok p0.Width 1 10 v8 h9) (aI c10 (aI c10 (aI c10 (aI (i_inRange_ok p0.Height 1 10 v11 h12) (aI c10 (aI c10 (aI c13 (aI c13 (aI c13 (lI p0.Terrain (aI c13 (aI c13 (aI c13 (aI c13 (aI c13 (aI c13 (aI c13 (t))))))))))))))))))) (by kernel_rfl) ?_
      rcases ofCond H with ⟨c14, H⟩ | ⟨c14, H⟩
      · refine ite_t c14 (by kernel_rfl) ?_
        refine seq_ops [] [] [(2, cB false)] [] (fun t => t) (by kernel_rfl) ?_
        refine ends_ret ?_
        obtain rfl := Option.some.inj H
        exact And.intro (.inl rfl) rfl
      · refine ite_f c14 (by kernel_rfl) ?_
        refine ends_skip ?_
        change EndsI _ _ _ _ _ _
        refine seq_in ?_
        refine seq_ops [] [] [(1, .c (.pk 1 0)), (31, .c (dat 1 eI zI p0.Terrain)), (32, cI (p0.Terrain.length : Int)), (33, cI 0)] [(1, .var (eTMap p0) false)] (fun t => lI p0.Terrain (t)) (by kernel_rfl) ?_
        refine ends_blk ?_
        obtain ⟨y65, h66, H⟩ := ofBind H
        refine loop_in (fun (x : Int) => lit [(1, .c (.pk 1 0)), (31, .c (dat 1 eI zI p0.Terrain)), (32, cI (p0.Terrain.length : Int)), (33, cI x)] [(1, .var (eTMap p0) false)]) (orJ (fun (z : Unit) => At (.exit 0) (lit [(1, .c (.pk 1 0))] [(1, .var (eTMap p0) false)])) (fun (z : Bool) => At .ret (lit [(2, cB z)] []))) h66 ?_ ?_
        · clear H h66
          intro x57 y0 H
          refine seq_ops [] [] [(1, .c (.pk 1 0)), (31, .c (dat 1 eI zI p0.Terrain)), (32, cI (p0.Terrain.length : Int)), (33, cI x57), (34, cB (decide (x57 < (p0.Terrain.length : Int))))] [(1, .var (eTMap p0) false)] (fun t => t) (by kernel_rfl) ?_
          refine seq_in ?_
          rcases ofCond H with ⟨c59, H⟩ | ⟨c59, H⟩
          · refine ite_t c59 (by kernel_rfl) ?_
            refine ends_skip ?_
            change EndsI _ _ _ _ _ _
            refine seq_in ?_
            refine ends_blk ?_
            obtain ⟨v60, h61, H⟩ := ofBind H
            refine seq_ops [.cs (eI v60)] [] [(1, .c (.pk 1 0)), (4, cI v60), (31, .c (dat 1 eI zI p0.Terrain)), (32, cI (p0.Terrain.length : Int)), (33, cI x57)] [(1, .var (eTMap p0) false)] (fun t => aI (at_lt h61) (aI (at_enc (enc := eI) h61) (t))) (by kernel_rfl) ?_
            obtain ⟨v62, h63, H⟩ := ofBind H
            refine seq_ops [.res (cB v62)] [] [(1, .c (.pk 1 0)), (31, .c (dat 1 eI zI p0.Terrain)), (32, cI (p0.Terrain.length : Int)), (33, cI x57), (39, cB (!v62))] [(1, .var (eTMap p0) false)] (fun t => aI (i_isIndex_ok v60 6 v62 h63) (t)) (by kernel_rfl) ?_
            rcases ofCond H with ⟨c64, H⟩ | ⟨c64, H⟩
            · refine ite_t c64 (by kernel_rfl) ?_
              refine seq_ops [] [] [(2, cB false)] [] (fun t => t) (by kernel_rfl) ?_
              refine ends_ret ?_
              obtain rfl := Option.some.inj H
              exact And.intro (by simp) (And.intro rfl rfl)
            · refine ite_f c64 (by kernel_rfl) ?_
              refine ends_skip ?_
              change EndsI _ _ _ _ _ _
              refine one_ops [] [] [(1, .c (.pk 1 0)), (31, .c (dat 1 eI zI p0.Terrain)), (32, cI (p0.Terrain.length : Int)), (33, cI (W (x57 + 1)))] [(1, .var (eTMap p0) false)] (fun t => t) (by kernel_rfl) ?_
              obtain rfl := Option.some.inj H
              exact And.intro rfl rfl
          · refine ite_f c59 (by kernel_rfl) ?_
            refine tell [] [(1, .c (.pk 1 0))] [(1, .var (eTMap p0) false)] (fun t => t) (by kernel_rfl) ?_
            refine ends_exit ?_
            obtain rfl := Option.some.inj H
            exact And.intro (by simp) (And.intro rfl rfl)
        · clear h66
          cases y65 with
          | inl y67 =>
            replace H := ofInl H
            intro e s q
            obtain ⟨rfl, rfl⟩ := q
            change EndsI _ _ _ _ _ _
            refine seq_in ?_
            refine seq_ops [.fn ([p0.Rivers, p0.Roads] : List (List Int)).length (fF eLI zLI ([p0.Rivers, p0.Roads] : List (List Int)))] [] [(1, .c (.pk 1 0)), (45, .c (.own 45 1 0 (([p0.Rivers, p0.Roads] : List (List Int)).length))), (46, cI (([p0.Rivers, p0.Roads] : List (List Int)).length : Int)), (47, cI 0)] [(1, .var (eTMap p0) false), (45, .arr 1 (([p0.Rivers, p0.Roads] : List (List Int)).length) (fF eLI zLI ([p0.Rivers, p0.Roads] : List (List Int))) false)] (fun t => aI (rfl : ([p0.Rivers, p0.Roads] : List (List Int)).length = 2) (aI (fF_lit eLI zLI ([p0.Rivers, p0.Roads] : List (List Int))) ((fun (_ : ([p0.Rivers, p0.Roads] : List (List Int)).length ≤ maxLen) => t)))) (by kernel_rfl) ?_
            refine ends_blk ?_
            obtain ⟨y179, h180, H⟩ := ofBind H
            refine loop_in (fun (x : Int) => lit [(1, .c (.pk 1 0)), (45, .c (.own 45 1 0 (([p0.Rivers, p0.Roads] : List (List Int)).length))), (46, cI (([p0.Rivers, p0.Roads] : List (List Int)).length : Int)), (47, cI x)] [(1, .var (eTMap p0) false), (45, .arr 1 (([p0.Rivers, p0.Roads] : List (List Int)).length) (fF eLI zLI ([p0.Rivers, p0.Roads] : List (List Int))) false)]) (orJ (fun (z : Unit) => At (.exit 2) (lit [] [])) (fun (z : Bool) => At .ret (lit [(2, cB z)] []))) h180 ?_ ?_
            · clear H h180
              intro x142 y0 H
              refine seq_ops [] [] [(1, .c (.pk 1 0)), (45, .c (.own 45 1 0 (([p0.Rivers, p0.Roads] : List (List Int)).length))), (46, cI (([p0.Rivers, p0.Roads] : List (List Int)).length : Int)), (47, cI x142), (48, cB (decide (x142 < (([p0.Rivers, p0.Roads] : List (List Int)).length : Int))))] [(1, .var (eTMap p0) false), (45, .arr 1 (([p0.Rivers, p0.Roads] : List (List Int)).length) (fF eLI zLI ([p0.Rivers, p0.Roads] : List (List Int))) false)] (fun t => t) (by kernel_rfl) ?_
              refine seq_in ?_
              rcases ofCond H with ⟨c144, H⟩ | ⟨c144, H⟩
              · refine ite_t c144 (by kernel_rfl) ?_
                refine ends_skip ?_
                change EndsI _ _ _ _ _ _
                refine seq_in ?_
                refine ends_blk ?_
                obtain ⟨g145, H⟩ := ofIf H
                refine seq_ops [.no] [] [(1, .c (.pk 1 0)), (6, .c (dat 1 eI zI (([p0.Rivers, p0.Roads] : List (List Int)).getD x142.toNat zLI))), (45, .c (.own 45 1 0 (([p0.Rivers, p0.Roads] : List (List Int)).length))), (46, cI (([p0.Rivers, p0.Roads] : List (List Int)).length : Int)), (47, cI x142)] [(1, .var (eTMap p0) false), (45, .arr 1 (([p0.Rivers, p0.Roads] : List (List Int)).length) (fF eLI zLI ([p0.Rivers, p0.Roads] : List (List Int))) false)] (fun t => aI g145 (aI (nat_lt g145) (t))) (by kernel_rfl) ?_
                refine seq_in ?_
                obtain ⟨v149, h150, H⟩ := ofBind H
                refine seq_ops [.res (cB v149)] [] [(1, .c (.pk 1 0)), (6, .c (dat 1 eI zI (([p0.Rivers, p0.Roads] : List (List Int)).getD x142.toNat zLI))), (45, .c (.own 45 1 0 (([p0.Rivers, p0.Roads] : List (List Int)).length))), (46, cI (([p0.Rivers, p0.Roads] : List (List Int)).length : Int)), (47, cI x142), (53, cB (!v149))] [(1, .var (eTMap p0) false), (45, .arr 1 (([p0.Rivers, p0.Roads] : List (List Int)).length) (fF eLI zLI ([p0.Rivers, p0.Roads] : List (List Int))) false)] (fun t => aI (i_increasing_ok (([p0.Rivers, p0.Roads] : List (List Int)).getD x142.toNat zLI) v149 h150) (t)) (by kernel_rfl) ?_
                rcases ofCond H with ⟨c151, H⟩ | ⟨c151, H⟩
                · refine ite_t c151 (by kernel_rfl) ?_
                  refine seq_ops [] [] [(2, cB false)] [] (fun t => t) (by kernel_rfl) ?_
                  refine ends_ret ?_
                  obtain rfl := Option.some.inj H
                  exact And.intro (by simp) (And.intro rfl rfl)
                · refine ite_f c151 (by kernel_rfl) ?_
                  refine ends_skip ?_
                  change EndsI _ _ _ _ _ _
                  refine seq_ops [] [] [(1, .c (.pk 1 0)), (45, .c (.own 45 1 0 (([p0.Rivers, p0.Roads] : List (List Int)).length))), (46, cI (([p0.Rivers, p0.Roads] : List (List Int)).length : Int)), (47, cI x142), (54, .c (dat 1 eI zI (([p0.Rivers, p0.Roads] : List (List Int)).getD x142.toNat zLI))), (55, cI ((([p0.Rivers, p0.Roads] : List (List Int)).getD x142.toNat zLI).length : Int)), (56, cI 0)] [(1, .var (eTMap p0) false), (45, .arr 1 (([p0.Rivers, p0.Roads] : List (List Int)).length) (fF eLI zLI ([p0.Rivers, p0.Roads] : List (List Int))) false)] (fun t => (fun (_ : (([p0.Rivers, p0.Roads] : List (List Int)).getD x142.toNat zLI).length ≤ maxLen) => t)) (by kernel_rfl) ?_
                  refine ends_blk ?_
                  obtain ⟨y175, h176, H⟩ := ofBind H
                  refine loop_in (fun (x : Int) => lit [(1, .c (.pk 1 0)), (45, .c (.own 45 1 0 (([p0.Rivers, p0.Roads] : List (List Int)).length))), (46, cI (([p0.Rivers, p0.Roads] : List (List Int)).length : Int)), (47, cI x142), (54, .c (dat 1 eI zI (([p0.Rivers, p0.Roads] : List (List Int)).getD x142.toNat zLI))), (55, cI ((([p0.Rivers, p0.Roads] : List (List Int)).getD x142.toNat zLI).length : Int)), (56, cI x)] [(1, .var (eTMap p0) false), (45, .arr 1 (([p0.Rivers, p0.Roads] : List (List Int)).length) (fF eLI zLI ([p0.Rivers, p0.Roads] : List (List Int))) false)]) (orJ (fun (z : Unit) => At (.exit 4) (lit [(1, .c (.pk 1 0)), (45, .c (.own 45 1 0 (([p0.Rivers, p0.Roads] : List (List Int)).length))), (46, cI (([p0.Rivers, p0.Roads] : List (List Int)).length : Int)), (47, cI x142)] [(1, .var (eTMap p0) false), (45, .arr 1 (([p0.Rivers, p0.Roads] : List (List Int)).length) (fF eLI zLI ([p0.Rivers, p0.Roads] : List (List Int))) false)])) (fun (z : Bool) => At .ret (lit [(2, cB z)] []))) h176 ?_ ?_
                  · clear H h176
                    intro x167 y0 H
                    refine seq_ops [] [] [(1, .c (.pk 1 0)), (45, .c (.own 45 1 0 (([p0.Rivers, p0.Roads] : List (List Int)).length))), (46, cI (([p0.Rivers, p0.Roads] : List (List Int)).length : Int)), (47, cI x142), (54, .c (dat 1 eI zI (([p0.Rivers, p0.Roads] : List (List Int)).getD x142.toNat zLI))), (55, cI ((([p0.Rivers, p0.Roads] : List (List Int)).getD x142.toNat zLI).length : Int)), (56, cI x167), (57, cB (decide (x167 < ((([p0.Rivers, p0.Roads] : List (List Int)).getD x142.toNat zLI).length : Int))))] [(1, .var (eTMap p0) false), (45, .arr 1 (([p0.Rivers, p0.Roads] : List (List Int)).length) (fF eLI zLI ([p0.Rivers, p0.Roads] : List (List Int))) false)] (fun t => t) (by kernel_rfl) ?_
                    refine seq_in ?_
                    rcases ofCond H with ⟨c169, H⟩ | ⟨c169, H⟩
                    · refine ite_t c169 (by kernel_rfl) ?_
                      refine ends_skip ?_
                      change EndsI _ _ _ _ _ _
                      refine seq_in ?_
                      refine ends_blk ?_
                      obtain ⟨v170, h171, H⟩ := ofBind H
                      refine seq_ops [.cs (eI v170)] [] [(1, .c (.pk 1 0)), (8, cI v170), (45, .c (.own 45 1 0 (([p0.Rivers, p0.Roads] : List (List Int)).length))), (46, cI (([p0.Rivers, p0.Roads] : List (List Int)).length : Int)), (47, cI x142), (54, .c (dat 1 eI zI (([p0.Rivers, p0.Roads] : List (List Int)).getD x142.toNat zLI))), (55, cI ((([p0.Rivers, p0.Roads] : List (List Int)).getD x142.toNat zLI).length : Int)), (56, cI x167)] [(1, .var (eTMap p0) false), (45, .arr 1 (([p0.Rivers, p0.Roads] : List (List Int)).length) (fF eLI zLI ([p0.Rivers, p0.Roads] : List (List Int))) false)] (fun t => aI (at_lt h171) (aI (at_enc (enc := eI) h171) (t))) (by kernel_rfl) ?_
                      obtain ⟨v172, h173, H⟩ := ofBind H
                      refine seq_ops [.res (cB v172)] [] [(1, .c (.pk 1 0)), (45, .c (.own 45 1 0 (([p0.Rivers, p0.Roads] : List (List Int)).length))), (46, cI (([p0.Rivers, p0.Roads] : List (List Int)).length : Int)), (47, cI x142), (54, .c (dat 1 eI zI (([p0.Rivers, p0.Roads] : List (List Int)).getD x142.toNat zLI))), (55, cI ((([p0.Rivers, p0.Roads] : List (List Int)).getD x142.toNat zLI).length : Int)), (56, cI x167), (63, cB (!v172))] [(1, .var (eTMap p0) false), (45, .arr 1 (([p0.Rivers, p0.Roads] : List (List Int)).length) (fF eLI zLI ([p0.Rivers, p0.Roads] : List (List Int))) false)] (fun t => aI (i_isEdge_ok p0 v170 v172 h173) (t)) (by kernel_rfl) ?_
                      rcases ofCond H with ⟨c174, H⟩ | ⟨c174, H⟩
                      · refine ite_t c174 (by kernel_rfl) ?_
                        refine seq_ops [] [] [(2, cB false)] [] (fun t => t) (by kernel_rfl) ?_
                        refine ends_ret ?_
                        obtain rfl := Option.some.inj H
                        exact And.intro (by simp) (And.intro rfl rfl)
                      · refine ite_f c174 (by kernel_rfl) ?_
                        refine ends_skip ?_
                        change EndsI _ _ _ _ _ _
                        refine one_ops [] [] [(1, .c (.pk 1 0)), (45, .c (.own 45 1 0 (([p0.Rivers, p0.Roads] : List (List Int)).length))), (46, cI (([p0.Rivers, p0.Roads] : List (List Int)).length : Int)), (47, cI x142), (54, .c (dat 1 eI zI (([p0.Rivers, p0.Roads] : List (List Int)).getD x142.toNat zLI))), (55, cI ((([p0.Rivers, p0.Roads] : List (List Int)).getD x142.toNat zLI).length : Int)), (56, cI (W (x167 + 1)))] [(1, .var (eTMap p0) false), (45, .arr 1 (([p0.Rivers, p0.Roads] : List (List Int)).length) (fF eLI zLI ([p0.Rivers, p0.Roads] : List (List Int))) false)] (fun t => t) (by kernel_rfl) ?_
                        obtain rfl := Option.some.inj H
                        exact And.intro rfl rfl
                    · refine ite_f c169 (by kernel_rfl) ?_
                      refine tell [] [(1, .c (.pk 1 0)), (45, .c (.own 45 1 0 (([p0.Rivers, p0.Roads] : List (List Int)).length))), (46, cI (([p0.Rivers, p0.Roads] : List (List Int)).length : Int)), (47, cI x142)] [(1, .var (eTMap p0) false), (45, .arr 1 (([p0.Rivers, p0.Roads] : List (List Int)).length) (fF eLI zLI ([p0.Rivers, p0.Roads] : List (List Int))) false)] (fun t => t) (by kernel_rfl) ?_
                      refine ends_exit ?_
                      obtain rfl := Option.some.inj H
                      exact And.intro (by simp) (And.intro rfl rfl)
                  · clear h176
                    cases y175 with
                    | inl y177 =>
                      replace H := ofInl H
                      intro e s q
                      obtain ⟨rfl, rfl⟩ := q
                      change EndsI _ _ _ _ _ _
                      refine one_ops [] [] [(1, .c (.pk 1 0)), (45, .c (.own 45 1 0 (([p0.Rivers, p0.Roads] : List (List Int)).length))), (46, cI (([p0.Rivers, p0.Roads] : List (List Int)).length : Int)), (47, cI (W (x142 + 1)))] [(1, .var (eTMap p0) false), (45, .arr 1 (([p0.Rivers, p0.Roads] : List (List Int)).length) (fF eLI zLI ([p0.Rivers, p0.Roads] : List (List Int))) false)] (fun t => t) (by kernel_rfl) ?_
                      obtain rfl := Option.some.inj H
                      exact And.intro rfl rfl
                    | inr y178 =>
                      replace H := ofInr H
                      intro e s q
                      obtain ⟨rfl, rfl⟩ := q
                      obtain rfl := Option.some.inj H
                      exact And.intro (by simp) (And.intro rfl rfl)
              · refine ite_f c144 (by kernel_rfl) ?_
                refine tell [] [] [] (fun t => t) (by kernel_rfl) ?_
                refine ends_exit ?_
                obtain rfl := Option.some.inj H
                exact And.intro (by simp) (And.intro rfl rfl)
            · clear h180
              cases y179 with
              | inl y181 =>
                replace H := ofInl H
                intro e s q
                obtain ⟨rfl, rfl⟩ := q
                change EndsI _ _ _ _ _ _
                refine seq_ops [] [] [(2, cB true)] [] (fun t => t) (by kernel_rfl) ?_
                refine ends_ret ?_
                obtain rfl := Option.some.inj H
                exact And.intro (.inl rfl) rfl
              | inr y182 =>
                replace H := ofInr H
                intro e s q
                obtain ⟨rfl, rfl⟩ := q
                obtain rfl := Option.some.inj H
                exact And.intro (.inl rfl) rfl
          | inr y68 =>
            replace H := ofInr H
            intro e s q
            obtain ⟨rfl, rfl⟩ := q
            obtain rfl := Option.some.inj H
            exact And.intro (.inl rfl) rfl

def i_IsBoard_1_ir : S :=
 (.seq (.ops [⟨some 3, .mv (.v (.bool false)), none⟩])
 (.seq (.ops [⟨some 4, .mv (.t 0), none⟩, ⟨some 5, .fad 0 (.t 1), none⟩, ⟨some 6, .fad 0 (.t 5), none⟩, ⟨some 7, .load 1 false (.t 6), none⟩, ⟨some 8, .len (.t 7), none⟩, ⟨some 9, .bin .geq (.t 4) (.t 8), none⟩, ⟨some 3, .mv (.t 9), none⟩])
 .ret))
noncomputable def X.i_IsBoard_1 (p0 : Int) (p1 : TBoard) : Option Bool :=
  some (decide (p0 ≥ (p1.Rules.Terrains.length : Int)))
theorem i_IsBoard_1_ok (p0 : Int) (p1 : TBoard) (r : Bool) (H : X.i_IsBoard_1 p0 p1 = some r) : FnOk Tryz.prog gl 195 [cI p0, .c (.pd (eTBoard p1) 0)] (cB r) := by
  unfold X.i_IsBoard_1 at H
  refine fn_in (fn := Tryz.f195) (ir := i_IsBoard_1_ir) (s1 := lit [(3, cB r)] []) glL Tryz.func195 (by kernel_rfl) (by kernel_rfl) (by kernel_rfl) (by kernel_rfl) (by kernel_rfl) ?_
  refine seq_ops [] [] [(0, cI p0), (1, .c (.pd (eTBoard p1) 0))] [] (fun t => t) (by kernel_rfl) ?_
  refine seq_ops [] [] [(3, cB (decide (p0 ≥ (p1.Rules.Terrains.length : Int))))] [] (fun t => lI p1.Rules.Terrains (t)) (by kernel_rfl) ?_
  refine ends_ret ?_
  obtain rfl := Option.some.inj H
  exact And.intro (.inl rfl) rfl

def i_IsBoard_ir : S :=
 (.seq (.ops [⟨some 1, .box 12 (.t 0), none⟩, ⟨some 2, .mv (.v (.bool false)), none⟩])
 (.seq (.seq (.ops [⟨some 3, .fad 0 (.t 1), none⟩, ⟨some 4, .load 7 true (.t 3), none⟩, ⟨some 5, .call 193 [.t 4], none⟩, ⟨some 6, .not (.t 5), none⟩, ⟨some 7, .mv (.t 6), none⟩, ⟨some 8, .fad 7 (.t 1), some (7, false)⟩, ⟨some 9, .load 5 true (.t 8), some (7, false)⟩, ⟨some 10, .call 194 [.t 9], some (7, false)⟩, ⟨some 11, .not (.t 10), some (7, false)⟩, ⟨some 12, .pick (.t 7) (.v (.bool true)) (.t 11), none⟩])
 (.ite (.t 12) (.seq (.ops [⟨some 2, .mv (.v (.bool false)), none⟩])
  .ret)
 .skip))
 (.seq (.ops [⟨some 13, .fad 7 (.t 1), none⟩, ⟨some 14, .fad 2 (.t 13), none⟩, ⟨some 15, .load 1 false (.t 14), none⟩, ⟨some 16, .clo 195 [.t 1], none⟩, ⟨some 17, .call 70 [.t 15, .t 16], none⟩, ⟨some 18, .not (.t 17), none⟩, ⟨some 2, .mv (.t 18), none⟩])
 .ret)))
noncomputable def X.i_IsBoard (p0 : TBoard) : Option Bool :=
  ((X.i_IsRules p0.Rules).bind fun v7 => (bif (!v7) then some false else ((X.i_IsMap p0.Map).bind fun v10 => (bif (!v10) then some false else ((X.g_ContainsFunc_int p0.Map.Terrain (fun q0 => X.i_IsBoard_1 q0 p0)).bind fun v13 => some (!v13))))))
theorem i_IsBoard_ok (p0 : TBoard) (r : Bool) (H : X.i_IsBoard p0 = some r) : FnOk Tryz.prog gl 143 [.agg (eTBoard p0)] (cB r) := by
  unfold X.i_IsBoard at H
  refine fn_in (fn := Tryz.f143) (ir := i_IsBoard_ir) (s1 := lit [(2, cB r)] []) glL Tryz.func143 (by kernel_rfl) (by kernel_rfl) (by kernel_rfl) (by kernel_rfl) (by kernel_rfl) ?_
  refine seq_ops [] [] [(1, .c (.pk 1 0))] [(1, .var (eTBoard p0) false)] (fun t => t) (by kernel_rfl) ?_
  refine seq_in ?_
  obtain ⟨v7, h8, H⟩ := ofBind H
  rcases ofCond H with ⟨c9, H⟩ | ⟨c9, H⟩
  · refine seq_ops [.res (cB v7), .g true, .g true, .g true, .g true, .g true] [] [(1, .c (.pk 1 0)), (12, cB true)] [(1, .var (eTBoard p0) false)] (fun t => aI (i_IsRules_ok p0.Rules v7 h8) (aI c9 (aI c9 (aI c9 (aI c9 (aI c9 (t))))))) (by kernel_rfl) ?_
    refine ite_t (rfl : (true : Bool) = true) (by kernel_rfl) ?_
    refine seq_ops [] [] [(2, cB false)] [] (fun t => t) (by kernel_rfl) ?_
    refine ends_ret ?_
    obtain rfl := Option.some.inj H
    exact And.intro (.inl rfl) rfl
  · obtain ⟨v10, h11, H⟩ := ofBind H
    refine seq_ops [.res (cB v7), .g false, .g false, .g false, .res (cB v10), .g false, .g false] [] [(1, .c (.pk 1 0)), (12, cB (!v10))] [(1, .var (eTBoard p0) false)] (fun t => aI (i_IsRules_ok p0.Rules v7 h8) (aI c9 (aI c9 (aI c9 (aI (i_IsMap_ok p0.Map v10 h11) (aI c9 (aI c9 (t)))))))) (by kernel_rfl) ?_
    rcases ofCond H with ⟨c12, H⟩ | ⟨c12, H⟩
    · refine ite_t c12 (by kernel_rfl) ?_
      refine seq_ops [] [] [(2, cB false)] [] (fun t => t) (by kernel_rfl) ?_
      refine ends_ret ?_
      obtain rfl := Option.some.inj H
      exact And.intro (.inl rfl) rfl
    · refine ite_f c12 (by kernel_rfl) ?_
      refine ends_skip ?_
      change EndsI _ _ _ _ _ _
      obtain ⟨v13, h14, H⟩ := ofBind H
      refine seq_ops [.res (cB v13)] [] [(2, cB (!v13))] [] (fun t => aI (g_ContainsFunc_int_c1_ok p0.Map.Terrain (195) (eTBoard p0) (fun q0 => X.i_IsBoard_1 q0 p0) (fun q0 r h => i_IsBoard_1_ok q0 p0 r h) v13 h14) (t)) (by kernel_rfl) ?_
      refine ends_ret ?_
      obtain rfl := Option.some.inj H
      exact And.intro (.inl rfl) rfl

def i_hasView_ir : S :=
 (.seq (.ops [⟨some 2, .box 12 (.t 0), none⟩, ⟨some 3, .box 6 (.t 1), none⟩, ⟨some 4, .mv (.v (.bool false)), none⟩])
 (.seq (.ops [⟨some 5, .load 12 true (.t 2), none⟩, ⟨some 6, .call 143 [.t 5], none⟩, ⟨some 7, .mv (.t 6), none⟩, ⟨some 8, .load 12 true (.t 2), some (7, true)⟩, ⟨some 9, .load 6 true (.t 3), some (7, true)⟩, ⟨some 10, .call 89 [.t 8, .t 9], some (7, true)⟩, ⟨some 11, .pick (.t 7) (.t 10) (.v (.bool false)), none⟩, ⟨some 4, .mv (.t 11), none⟩])
 .ret))
noncomputable def X.i_hasView (p0 : TBoard) (p1 : TView) : Option Bool :=
  ((X.i_IsBoard p0).bind fun v1 => (bif v1 then ((X.i_goodView p0 p1).bind fun v4 => some v4) else some false))
theorem i_hasView_ok (p0 : TBoard) (p1 : TView) (r : Bool) (H : X.i_hasView p0 p1 = some r) : FnOk Tryz.prog gl 83 [.agg (eTBoard p0), .agg (eTView p1)] (cB r) := by
  unfold X.i_hasView at H
  refine fn_in (fn := Tryz.f83) (ir := i_hasView_ir) (s1 := lit [(4, cB r)] []) glL Tryz.func83 (by kernel_rfl) (by kernel_rfl) (by kernel_rfl) (by kernel_rfl) (by kernel_rfl) ?_
  refine seq_ops [] [] [(2, .c (.pk 2 0)), (3, .c (.pk 3 0))] [(2, .var (eTBoard p0) false), (3, .var (eTView p1) false)] (fun t => t) (by kernel_rfl) ?_
  obtain ⟨v1, h2, H⟩ := ofBind H
  rcases ofCond H with ⟨c3, H⟩ | ⟨c3, H⟩
  · obtain ⟨v4, h5, H⟩ := ofBind H
    refine seq_ops [.res (cB v1), .g true, .g true, .g true, .res (cB v4), .g true] [] [(4, cB v4)] [] (fun t => aI (i_IsBoard_ok p0 v1 h2) (aI c3 (aI c3 (aI c3 (aI (i_goodView_ok p0 p1 v4 h5) (aI c3 (t))))))) (by kernel_rfl) ?_
    refine ends_ret ?_
    obtain rfl := Option.some.inj H
    exact And.intro (.inl rfl) rfl
  · refine seq_ops [.res (cB v1), .g false, .g false, .g false, .g false] [] [(4, cB false)] [] (fun t => aI (i_IsBoard_ok p0 v1 h2) (aI c3 (aI c3 (aI c3 (aI c3 (t)))))) (by kernel_rfl) ?_
    refine ends_ret ?_
    obtain rfl := Option.some.inj H
    exact And.intro (.inl rfl) rfl

def i_isHiding_ir : S :=
 (.seq (.ops [⟨some 3, .box 12 (.t 0), none⟩, ⟨some 4, .box 6 (.t 1), none⟩, ⟨some 6, .mv (.v (.bool false)), none⟩])
 (.seq (.ops [⟨some 7, .load 12 true (.t 3), none⟩, ⟨some 8, .load 6 true (.t 4), none⟩, ⟨some 9, .call 83 [.t 7, .t 8], none⟩, ⟨some 10, .mv (.t 9), none⟩, ⟨some 11, .mv (.t 2), some (10, true)⟩, ⟨some 12, .fad 0 (.t 3), some (10, true)⟩, ⟨some 13, .fad 1 (.t 12), some (10, true)⟩, ⟨some 14, .load 1 false (.t 13), some (10, true)⟩, ⟨some 15, .len (.t 14), some (10, true)⟩, ⟨some 16, .call 115 [.t 11, .t 15], some (10, true)⟩, ⟨some 17, .pick (.t 10) (.t 16) (.v (.bool false)), none⟩, ⟨some 6, .mv (.t 17), none⟩])
 .ret))
noncomputable def X.i_isHiding (p0 : TBoard) (p1 : TView) (p2 : Int) : Option Bool :=
  ((X.i_hasView p0 p1).bind fun v1 => (bif v1 then ((X.i_isIndex p2 (p0.Rules.Kinds.length : Int)).bind fun v4 => some v4) else some false))
theorem i_isHiding_ok (p0 : TBoard) (p1 : TView) (p2 : Int) (r : Bool) (H : X.i_isHiding p0 p1 p2 = some r) : FnOk Tryz.prog gl 94 [.agg (eTBoard p0), .agg (eTView p1), cI p2] (cB r) := by
  unfold X.i_isHiding at H
  refine fn_in (fn := Tryz.f94) (ir := i_isHiding_ir) (s1 := lit [(6, cB r)] []) glL Tryz.func94 (by kernel_rfl) (by kernel_rfl) (by kernel_rfl) (by kernel_rfl) (by kernel_rfl) ?_
  refine seq_ops [] [] [(2, cI p2), (3, .c (.pk 3 0)), (4, .c (.pk 4 0))] [(3, .var (eTBoard p0) false), (4, .var (eTView p1) false)] (fun t => t) (by kernel_rfl) ?_
  obtain ⟨v1, h2, H⟩ := ofBind H
  rcases ofCond H with ⟨c3, H⟩ | ⟨c3, H⟩
  · obtain ⟨v4, h5, H⟩ := ofBind H
    refine seq_ops [.res (cB v1), .g true, .g true, .g true, .g true, .g true, .g true, .res (cB v4), .g true] [] [(6, cB v4)] [] (fun t => aI (i_hasView_ok p0 p1 v1 h2) (aI c3 (aI c3 (aI c3 (aI c3 (aI c3 (lI p0.Rules.Kinds (aI c3 (aI (i_isIndex_ok p2 (p0.Rules.Kinds.length : Int) v4 h5) (aI c3 (t))))))))))) (by kernel_rfl) ?_
    refine ends_ret ?_
    obtain rfl := Option.some.inj H
    exact And.intro (.inl rfl) rfl
  · refine seq_ops [.res (cB v1), .g false, .g false, .g false, .g false, .g false, .g false, .g false] [] [(6, cB false)] [] (fun t => aI (i_hasView_ok p0 p1 v1 h2) (aI c3 (aI c3 (aI c3 (aI c3 (aI c3 (aI c3 (aI c3 (t))))))))) (by kernel_rfl) ?_
    refine ends_ret ?_
    obtain rfl := Option.some.inj H
    exact And.intro (.inl rfl) rfl

def i_hexesThat_ir : S :=
 (.seq (.ops [⟨some 2, .box 12 (.t 0), none⟩, ⟨some 4, .mv (.v (.nil)), none⟩])
 (.seq (.ops [⟨some 7, .bsl 1 [], none⟩, ⟨some 5, .mv (.t 7), none⟩])
 (.seq (.seq (.ops [⟨some 8, .fad 7 (.t 2), none⟩, ⟨some 9, .fad 2 (.t 8), none⟩, ⟨some 10, .load 1 false (.t 9), none⟩, ⟨some 11, .len (.t 10), none⟩, ⟨some 12, .mv (.v (.int .i64 0)), none⟩])
 (.blk 0 (.loop (.seq (.ops [⟨some 13, .bin .lss (.t 12) (.t 11), none⟩])
   (.seq (.ite (.t 13) .skip
   (.exit 0))
   (.seq (.blk 1 (.seq (.ops [⟨some 14, .mv (.t 12), none⟩, ⟨some 6, .mv (.t 14), none⟩])
    (.seq (.ops [⟨some 15, .mv (.t 1), none⟩, ⟨some 16, .mv (.t 6), none⟩, ⟨some 17, .cald (.t 15) [.t 16], none⟩])
    (.ite (.t 17) (.ops [⟨some 18, .mv (.t 5), none⟩, ⟨some 19, .mv (.t 6), none⟩, ⟨some 20, .bsl 1 [.t 19], none⟩, ⟨some 21, .app 1 8 (.t 18) (.t 20), none⟩, ⟨some 5, .mv (.t 21), none⟩])
    .skip))))
   (.ops [⟨some 22, .bin .add (.t 12) (.v (.int .i64 1)), none⟩, ⟨some 12, .mv (.t 22), none⟩])))))))
 (.seq (.ops [⟨some 23, .mv (.t 5), none⟩, ⟨some 4, .mv (.t 23), none⟩])
 .ret))))
noncomputable def X.i_hexesThat (p0 : TBoard) (f1 : Int → Option Bool) : Option (List Int) :=
  ((loop (fun (x14 : (Int × (List Int))) => ((bif (decide (x14.1 < (p0.Map.Terrain.length : Int))) then ((f1 x14.1).bind fun v17 => (bif v17 then (if (x14.2 ++ ([x14.1] : List Int)).length ≤ LIM then some (Sum.inl ((W (x14.1 + 1)), (x14.2 ++ ([x14.1] : List Int)))) else none) else some (Sum.inl ((W (x14.1 + 1)), x14.2)))) else some (Sum.inr x14.2)) : Option ((Int × (List Int)) ⊕ (List Int)))) (0, ([] : List Int))).bind fun y21 => some y21)
theorem i_hexesThat_c3_ok (p0 : TBoard) (cf1 : FuncId) (cs1_0 : List AC) (cs1_1 : List AC) (cs1_2 : List AC) (f1 : Int → Option Bool) (hf1 : ∀ q0 r, f1 q0 = some r → FnOk Tryz.prog gl cf1 [cI q0, .c (.pd cs1_0 0), .c (.pd cs1_1 0), .c (.pd cs1_2 0)] (cB r)) (r : (List Int)) (H : X.i_hexesThat p0 f1 = some r) : FnOk Tryz.prog gl 84 [.agg (eTBoard p0), .c (.clo cf1 [.pd cs1_0 0, .pd cs1_1 0, .pd cs1_2 0])] (.c (dat 1 eI zI r)) := by
  unfold X.i_hexesThat at H
  refine fn_in (fn := Tryz.f84) (ir := i_hexesThat_ir) (s1 := lit [(4, .c (dat 1 eI zI r))] []) glL Tryz.func84 (by kernel_rfl) (by kernel_rfl) (by kernel_rfl) (by kernel_rfl) (by kernel_rfl) ?_
  refine seq_ops [] [] [(1, .c (.clo cf1 [.pd cs1_0 0, .pd cs1_1 0, .pd cs1_2 0])), (2, .c (.pk 2 0))] [(2, .var (eTBoard p0) false)] (fun t => t) (by kernel_rfl) ?_
  refine seq_ops [.fn ([] : List Int).length (fF eI zI ([] : List Int))] [] [(1, .c (.clo cf1 [.pd cs1_0 0, .pd cs1_1 0, .pd cs1_2 0])), (2, .c (.pk 2 0)), (5, .c (.own 7 1 0 (([] : List Int).length)))] [(2, .var (eTBoard p0) false), (7, .arr 1 (([] : List Int).length) (fF eI zI ([] : List Int)) false)] (fun t => aI (rfl : ([] : List Int).length = 0) (aI (fF_lit eI zI ([] : List Int)) (t))) (by kernel_rfl) ?_
  refine seq_in ?_
  refine seq_ops [] [] [(1, .c (.clo cf1 [.pd cs1_0 0, .pd cs1_1 0, .pd cs1_2 0])), (5, .c (.own 7 1 0 (([] : List Int).length))), (11, cI (p0.Map.Terrain.length : Int)), (12, cI 0)] [(7, .arr 1 (([] : List Int).length) (fF eI zI ([] : List Int)) false)] (fun t => lI p0.Map.Terrain (t)) (by kernel_rfl) ?_
  refine ends_blk ?_
  obtain ⟨y21, h22, H⟩ := ofBind H
  refine tell [.ren 7 1001] [(1, .c (.clo cf1 [.pd cs1_0 0, .pd cs1_1 0, .pd cs1_2 0])), (5, .c (.own 1001 1 0 (([] : List Int).length))), (11, cI (p0.Map.Terrain.length : Int)), (12, cI 0)] [(1001, .arr 1 (([] : List Int).length) (fF eI zI ([] : List Int)) false)] (fun t => t) (by kernel_rfl) ?_
  refine loop_in (fun (x : (Int × (List Int))) => lit [(1, .c (.clo cf1 [.pd cs1_0 0, .pd cs1_1 0, .pd cs1_2 0])), (5, .c (.own 1001 1 0 x.2.length)), (11, cI (p0.Map.Terrain.length : Int)), (12, cI x.1)] [(1001, .arr 1 x.2.length (fF eI zI x.2) false)]) (fun (z : (List Int)) => At (.exit 0) (lit [(5, .c (.own 1001 1 0 z.length))] [(1001, .arr 1 z.length (fF eI zI z) false)])) h22 ?_ ?_
  · clear H h22
    intro x14 y0 H
    refine seq_ops [] [] [(1, .c (.clo cf1 [.pd cs1_0 0, .pd cs1_1 0, .pd cs1_2 0])), (5, .c (.own 1001 1 0 x14.2.length)), (11, cI (p0.Map.Terrain.length : Int)), (12, cI x14.1), (13, cB (decide (x14.1 < (p0.Map.Terrain.length : Int))))] [(1001, .arr 1 x14.2.length (fF eI zI x14.2) false)] (fun t => t) (by kernel_rfl) ?_
    refine seq_in ?_
    rcases ofCond H with ⟨c16, H⟩ | ⟨c16, H⟩
    · refine ite_t c16 (by kernel_rfl) ?_
      refine ends_skip ?_
      change EndsI _ _ _ _ _ _
      refine seq_in ?_
      refine ends_blk ?_
      refine seq_ops [] [] [(1, .c (.clo cf1 [.pd cs1_0 0, .pd cs1_1 0, .pd cs1_2 0])), (5, .c (.own 1001 1 0 x14.2.length)), (6, cI x14.1), (11, cI (p0.Map.Terrain.length : Int)), (12, cI x14.1)] [(1001, .arr 1 x14.2.length (fF eI zI x14.2) false)] (fun t => t) (by kernel_rfl) ?_
      obtain ⟨v17, h18, H⟩ := ofBind H
      refine seq_ops [.res (cB v17)] [] [(1, .c (.clo cf1 [.pd cs1_0 0, .pd cs1_1 0, .pd cs1_2 0])), (5, .c (.own 1001 1 0 x14.2.length)), (6, cI x14.1), (11, cI (p0.Map.Terrain.length : Int)), (12, cI x14.1), (17, cB v17)] [(1001, .arr 1 x14.2.length (fF eI zI x14.2) false)] (fun t => aI (hf1 x14.1 v17 h18) (t)) (by kernel_rfl) ?_
      rcases ofCond H with ⟨c19, H⟩ | ⟨c19, H⟩
      · refine ite_t c19 (by kernel_rfl) ?_
        obtain ⟨g20, H⟩ := ofIf H
        refine one_ops [.fn ([x14.1] : List Int).length (fF eI zI ([x14.1] : List Int)), .fn (x14.2 ++ ([x14.1] : List Int)).length (fF eI zI (x14.2 ++ ([x14.1] : List Int)))] [] [(1, .c (.clo cf1 [.pd cs1_0 0, .pd cs1_1 0, .pd cs1_2 0])), (5, .c (.own 21 1 0 ((x14.2 ++ ([x14.1] : List Int)).length))), (11, cI (p0.Map.Terrain.length : Int)), (12, cI x14.1)] [(21, .arr 1 ((x14.2 ++ ([x14.1] : List Int)).length) (fF eI zI (x14.2 ++ ([x14.1] : List Int))) false)] (fun t => aI (rfl : ([x14.1] : List Int).length = 1) (aI (fF_lit eI zI ([x14.1] : List Int)) (aI (And.intro (Nat.le_refl x14.2.length) (And.intro (@List.length_append _ x14.2 ([x14.1] : List Int)) g20)) (aI (fF_appL eI zI x14.2 ([x14.1] : List Int)) (aI (fF_appR eI zI x14.2 ([x14.1] : List Int)) (t)))))) (by kernel_rfl) ?_
        change EndsI _ _ _ _ _ _
        refine one_ops [] [.ren 21 1001] [(1, .c (.clo cf1 [.pd cs1_0 0, .pd cs1_1 0, .pd cs1_2 0])), (5, .c (.own 1001 1 0 ((x14.2 ++ ([x14.1] : List Int)).length))), (11, cI (p0.Map.Terrain.length : Int)), (12, cI (W (x14.1 + 1)))] [(1001, .arr 1 ((x14.2 ++ ([x14.1] : List Int)).length) (fF eI zI (x14.2 ++ ([x14.1] : List Int))) false)] (fun t => t) (by kernel_rfl) ?_
        obtain rfl := Option.some.inj H
        exact And.intro rfl rfl
      · refine ite_f c19 (by kernel_rfl) ?_
        refine ends_skip ?_
        change EndsI _ _ _ _ _ _
        refine one_ops [] [] [(1, .c (.clo cf1 [.pd cs1_0 0, .pd cs1_1 0, .pd cs1_2 0])), (5, .c (.own 1001 1 0 x14.2.length)), (11, cI (p0.Map.Terrain.length : Int)), (12, cI (W (x14.1 + 1)))] [(1001, .arr 1 x14.2.length (fF eI zI x14.2) false)] (fun t => t) (by kernel_rfl) ?_
        obtain rfl := Option.some.inj H
        exact And.intro rfl rfl
    · refine ite_f c16 (by kernel_rfl) ?_
      refine tell [] [(5, .c (.own 1001 1 0 x14.2.length))] [(1001, .arr 1 x14.2.length (fF eI zI x14.2) false)] (fun t => t) (by kernel_rfl) ?_
      refine ends_exit ?_
      obtain rfl := Option.some.inj H
      exact And.intro (by simp) (And.intro rfl rfl)
  · clear h22
    intro e s q
    obtain ⟨rfl, rfl⟩ := q
    change EndsI _ _ _ _ _ _
    refine seq_ops [] [] [(4, .c (.own 1001 1 0 y21.length))] [(1001, .arr 1 y21.length (fF eI zI y21) false)] (fun t => t) (by kernel_rfl) ?_
    refine tell [.frz 4] [(4, .c (dat 1 eI zI y21))] [] (fun t => aI (Nat.le_refl y21.length) (t)) (by kernel_rfl) ?_
    refine ends_ret ?_
    obtain rfl := Option.some.inj H
    exact And.intro (.inl rfl) rfl

def g_IndexFunc_Unit_ir : S :=
 (.seq (.ops [⟨some 4, .mv (.v (.int .i64 0)), none⟩])
 (.seq (.seq (.ops [⟨some 6, .mv (.t 0), none⟩, ⟨some 7, .len (.t 6), none⟩, ⟨some 8, .mv (.v (.int .i64 0)), none⟩])
 (.blk 0 (.loop (.seq (.ops [⟨some 9, .bin .lss (.t 8) (.t 7), none⟩])
   (.seq (.ite (.t 9) .skip
   (.exit 0))
   (.seq (.blk 1 (.seq (.ops [⟨some 10, .mv (.t 8), none⟩, ⟨some 5, .mv (.t 10), none⟩])
    (.seq (.ops [⟨some 11, .mv (.t 1), none⟩, ⟨some 12, .mv (.t 0), none⟩, ⟨some 13, .mv (.t 5), none⟩, ⟨some 14, .iad 4 (.t 12) (.t 13), none⟩, ⟨some 15, .load 4 true (.t 14), none⟩, ⟨some 16, .cald (.t 11) [.t 15], none⟩])
    (.ite (.t 16) (.seq (.ops [⟨some 17, .mv (.t 5), none⟩, ⟨some 4, .mv (.t 17), none⟩])
     .ret)
    .skip))))
   (.ops [⟨some 18, .bin .add (.t 8) (.v (.int .i64 1)), none⟩, ⟨some 8, .mv (.t 18), none⟩])))))))
 (.seq (.ops [⟨some 4, .mv (.v (.int .i64 (-1))), none⟩])
 .ret)))
noncomputable def X.g_IndexFunc_Unit (p0 : (List TUnit)) (f1 : TUnit → Option Bool) : Option Int :=
  ((loop (fun (x16 : Int) => ((bif (decide (x16 < (p0.length : Int))) then ((at' zTUnit p0 x16).bind fun v19 => ((f1 v19).bind fun v21 => (bif v21 then some (Sum.inr (Sum.inr x16)) else some (Sum.inl (W (x16 + 1)))))) else some (Sum.inr (Sum.inl ()))) : Option (Int ⊕ (Unit ⊕ Int)))) 0).bind fun y24 => (Sum.elim (fun (y26 : Unit) => some (-1)) (fun (y27 : Int) => some y27) y24))
theorem g_IndexFunc_Unit_c1_ok (p0 : (List TUnit)) (cf1 : FuncId) (cs1_0 : List AC) (f1 : TUnit → Option Bool) (hf1 : ∀ q0 r, f1 q0 = some r → FnOk Tryz.prog gl cf1 [.agg (eTUnit q0), .c (.pd cs1_0 0)] (cB r)) (r : Int) (H : X.g_IndexFunc_Unit p0 f1 = some r) : FnOk Tryz.prog gl 198 [.c (dat 4 eTUnit zTUnit p0), .c (.clo cf1 [.pd cs1_0 0])] (cI r) := by
  unfold X.g_IndexFunc_Unit at H
  refine fn_in (fn := Tryz.f198) (ir := g_IndexFunc_Unit_ir) (s1 := lit [(4, cI r)] []) glL Tryz.func198 (by kernel_rfl) (by kernel_rfl) (by kernel_rfl) (by kernel_rfl) (by kernel_rfl) ?_
  refine seq_ops [] [] [(0, .c (dat 4 eTUnit zTUnit p0)), (1, .c (.clo cf1 [.pd cs1_0 0]))] [] (fun t => t) (by kernel_rfl) ?_
  refine seq_in ?_
  refine seq_ops [] [] [(0, .c (dat 4 eTUnit zTUnit p0)), (1, .c (.clo cf1 [.pd cs1_0 0])), (7, cI (p0.length : Int)), (8, cI 0)] [] (fun t => lI p0 (t)) (by kernel_rfl) ?_
  refine ends_blk ?_
  obtain ⟨y24, h25, H⟩ := ofBind H
  refine loop_in (fun (x : Int) => lit [(0, .c (dat 4 eTUnit zTUnit p0)), (1, .c (.clo cf1 [.pd cs1_0 0])), (7, cI (p0.length : Int)), (8, cI x)] []) (orJ (fun (z : Unit) => At (.exit 0) (lit [] [])) (fun (z : Int) => At .ret (lit [(4, cI z)] []))) h25 ?_ ?_
  · clear H h25
    intro x16 y0 H
    refine seq_ops [] [] [(0, .c (dat 4 eTUnit zTUnit p0)), (1, .c (.clo cf1 [.pd cs1_0 0])), (7, cI (p0.length : Int)), (8, cI x16), (9, cB (decide (x16 < (p0.length : Int))))] [] (fun t => t) (by kernel_rfl) ?_
    refine seq_in ?_
    rcases ofCond H with ⟨c18, H⟩ | ⟨c18, H⟩
    · refine ite_t c18 (by kernel_rfl) ?_
      refine ends_skip ?_
      change EndsI _ _ _ _ _ _
      refine seq_in ?_
      refine ends_blk ?_
      refine seq_ops [] [] [(0, .c (dat 4 eTUnit zTUnit p0)), (1, .c (.clo cf1 [.pd cs1_0 0])), (5, cI x16), (7, cI (p0.length : Int)), (8, cI x16)] [] (fun t => t) (by kernel_rfl) ?_
      obtain ⟨v19, h20, H⟩ := ofBind H
      obtain ⟨v21, h22, H⟩ := ofBind H
      refine seq_ops [.cs (eTUnit v19), .res (cB v21)] [] [(0, .c (dat 4 eTUnit zTUnit p0)), (1, .c (.clo cf1 [.pd cs1_0 0])), (5, cI x16), (7, cI (p0.length : Int)), (8, cI x16), (16, cB v21)] [] (fun t => aI (at_lt h20) (aI (at_enc (enc := eTUnit) h20) (aI (hf1 v19 v21 h22) (t)))) (by kernel_rfl) ?_
      rcases ofCond H with ⟨c23, H⟩ | ⟨c23, H⟩
      · refine ite_t c23 (by kernel_rfl) ?_
        refine seq_ops [] [] [(4, cI x16)] [] (fun t => t) (by kernel_rfl) ?_
        refine ends_ret ?_
        obtain rfl := Option.some.inj H
        exact And.intro (by simp) (And.intro rfl rfl)
      · refine ite_f c23 (by kernel_rfl) ?_
        refine ends_skip ?_
        change EndsI _ _ _ _ _ _
        refine one_ops [] [] [(0, .c (dat 4 eTUnit zTUnit p0)), (1, .c (.clo cf1 [.pd cs1_0 0])), (7, cI (p0.length : Int)), (8, cI (W (x16 + 1)))] [] (fun t => t) (by kernel_rfl) ?_
        obtain rfl := Option.some.inj H
        exact And.intro rfl rfl
    · refine ite_f c18 (by kernel_rfl) ?_
      refine tell [] [] [] (fun t => t) (by kernel_rfl) ?_
      refine ends_exit ?_
      obtain rfl := Option.some.inj H
      exact And.intro (by simp) (And.intro rfl rfl)
  · clear h25
    cases y24 with
    | inl y26 =>
      replace H := ofInl H
      intro e s q
      obtain ⟨rfl, rfl⟩ := q
      change EndsI _ _ _ _ _ _
      refine seq_ops [] [] [(4, cI (-1))] [] (fun t => t) (by kernel_rfl) ?_
      refine ends_ret ?_
      obtain rfl := Option.some.inj H
      exact And.intro (.inl rfl) rfl
    | inr y27 =>
      replace H := ofInr H
      intro e s q
      obtain ⟨rfl, rfl⟩ := q
      obtain rfl := Option.some.inj H
      exact And.intro (.inl rfl) rfl

def g_ContainsFunc_Unit_ir : S :=
 (.seq (.ops [⟨some 4, .mv (.v (.bool false)), none⟩])
 (.seq (.ops [⟨some 5, .mv (.t 0), none⟩, ⟨some 6, .mv (.t 1), none⟩, ⟨some 7, .call 198 [.t 5, .t 6], none⟩, ⟨some 8, .bin .geq (.t 7) (.v (.int .i64 0)), none⟩, ⟨some 4, .mv (.t 8), none⟩])
 .ret))
noncomputable def X.g_ContainsFunc_Unit (p0 : (List TUnit)) (f1 : TUnit → Option Bool) : Option Bool :=
  ((X.g_IndexFunc_Unit p0 f1).bind fun v1 => some (decide (v1 ≥ 0)))
theorem g_ContainsFunc_Unit_c1_ok (p0 : (List TUnit)) (cf1 : FuncId) (cs1_0 : List AC) (f1 : TUnit → Option Bool) (hf1 : ∀ q0 r, f1 q0 = some r → FnOk Tryz.prog gl cf1 [.agg (eTUnit q0), .c (.pd cs1_0 0)] (cB r)) (r : Bool) (H : X.g_ContainsFunc_Unit p0 f1 = some r) : FnOk Tryz.prog gl 155 [.c (dat 4 eTUnit zTUnit p0), .c (.clo cf1 [.pd cs1_0 0])] (cB r) := by
  unfold X.g_ContainsFunc_Unit at H
  refine fn_in (fn := Tryz.f155) (ir := g_ContainsFunc_Unit_ir) (s1 := lit [(4, cB r)] []) glL Tryz.func155 (by kernel_rfl) (by kernel_rfl) (by kernel_rfl) (by kernel_rfl) (by kernel_rfl) ?_
  refine seq_ops [] [] [(0, .c (dat 4 eTUnit zTUnit p0)), (1, .c (.clo cf1 [.pd cs1_0 0]))] [] (fun t => t) (by kernel_rfl) ?_
  obtain ⟨v1, h2, H⟩ := ofBind H
  refine seq_ops [.res (cI v1)] [] [(4, cB (decide (v1 ≥ 0)))] [] (fun t => aI (g_IndexFunc_Unit_c1_ok p0 (cf1) (cs1_0) f1 hf1 v1 h2) (t)) (by kernel_rfl) ?_
  refine ends_ret ?_
  obtain rfl := Option.some.inj H
  exact And.intro (.inl rfl) rfl

def i_mayHide_1_1_ir : S :=
 (.seq (.ops [⟨some 2, .box 4 (.t 0), none⟩, ⟨some 3, .mv (.v (.bool false)), none⟩])
 (.seq (.ops [⟨some 4, .fad 2 (.t 2), none⟩, ⟨some 5, .load 1 false (.t 4), none⟩, ⟨some 6, .load 1 false (.t 1), none⟩, ⟨some 7, .bin .eql (.t 5) (.t 6), none⟩, ⟨some 3, .mv (.t 7), none⟩])
 .ret))
noncomputable def X.i_mayHide_1_1 (p0 : TUnit) (p1 : Int) : Option Bool :=
  some (p0.At == p1)
theorem i_mayHide_1_1_ok (p0 : TUnit) (p1 : Int) (r : Bool) (H : X.i_mayHide_1_1 p0 p1 = some r) : FnOk Tryz.prog gl 156 [.agg (eTUnit p0), .c (.pd (eI p1) 0)] (cB r) := by
  unfold X.i_mayHide_1_1 at H
  refine fn_in (fn := Tryz.f156) (ir := i_mayHide_1_1_ir) (s1 := lit [(3, cB r)] []) glL Tryz.func156 (by kernel_rfl) (by kernel_rfl) (by kernel_rfl) (by kernel_rfl) (by kernel_rfl) ?_
  refine seq_ops [] [] [(1, .c (.pd (eI p1) 0)), (2, .c (.pk 2 0))] [(2, .var (eTUnit p0) false)] (fun t => t) (by kernel_rfl) ?_
  refine seq_ops [] [] [(3, cB (p0.At == p1))] [] (fun t => t) (by kernel_rfl) ?_
  refine ends_ret ?_
  obtain rfl := Option.some.inj H
  exact And.intro (.inl rfl) rfl

def i_mayHide_1_ir : S :=
 (.seq (.ops [⟨some 4, .box 1 (.t 0), none⟩, ⟨some 5, .mv (.v (.bool false)), none⟩])
 (.seq (.ops [⟨some 7, .fad 4 (.t 1), none⟩, ⟨some 8, .load 1 false (.t 7), none⟩, ⟨some 9, .clo 156 [.t 4], none⟩, ⟨some 10, .call 155 [.t 8, .t 9], none⟩, ⟨some 6, .mv (.t 10), none⟩])
 (.seq (.ops [⟨some 11, .mv (.t 6), none⟩, ⟨some 12, .not (.t 11), none⟩, ⟨some 13, .mv (.t 12), none⟩, ⟨some 14, .fad 3 (.t 1), some (13, true)⟩, ⟨some 15, .load 1 false (.t 14), some (13, true)⟩, ⟨some 16, .load 1 false (.t 4), some (13, true)⟩, ⟨some 17, .call 86 [.t 15, .t 16], some (13, true)⟩, ⟨some 18, .not (.t 17), some (13, true)⟩, ⟨some 19, .pick (.t 13) (.t 18) (.v (.bool false)), none⟩, ⟨some 20, .mv (.t 19), none⟩, ⟨some 21, .load 12 true (.t 2), some (20, true)⟩, ⟨some 22, .load 1 false (.t 3), some (20, true)⟩, ⟨some 23, .load 1 false (.t 4), some (20, true)⟩, ⟨some 24, .call 157 [.t 21, .t 22, .t 23], some (20, true)⟩, ⟨some 25, .bin .neq (.t 24) (.v (.int .i64 0)), some (20, true)⟩, ⟨some 26, .pick (.t 20) (.t 25) (.v (.bool false)), none⟩, ⟨some 5, .mv (.t 26), none⟩])
 .ret)))
noncomputable def X.i_mayHide_1 (p0 : Int) (p1 : TView) (p2 : TBoard) (p3 : Int) : Option Bool :=
  ((X.g_ContainsFunc_Unit p1.Own (fun q0 => X.i_mayHide_1_1 q0 p0)).bind fun v1 => (bif (!v1) then ((X.g_Contains_int p1.Seen p0).bind fun v4 => (bif (!v4) then ((X.i_enterCost p2 p3 p0).bind fun v7 => some (v7 != 0)) else some false)) else some false))
theorem i_mayHide_1_ok (p0 : Int) (p1 : TView) (p2 : TBoard) (p3 : Int) (r : Bool) (H : X.i_mayHide_1 p0 p1 p2 p3 = some r) : FnOk Tryz.prog gl 154 [cI p0, .c (.pd (eTView p1) 0), .c (.pd (eTBoard p2) 0), .c (.pd (eI p3) 0)] (cB r) := by
  unfold X.i_mayHide_1 at H
  refine fn_in (fn := Tryz.f154) (ir := i_mayHide_1_ir) (s1 := lit [(5, cB r)] []) glL Tryz.func154 (by kernel_rfl) (by kernel_rfl) (by kernel_rfl) (by kernel_rfl) (by kernel_rfl) ?_
  refine seq_ops [] [] [(1, .c (.pd (eTView p1) 0)), (2, .c (.pd (eTBoard p2) 0)), (3, .c (.pd (eI p3) 0)), (4, .c (.pk 4 0))] [(4, .var [.int .i64 p0] false)] (fun t => t) (by kernel_rfl) ?_
  obtain ⟨v1, h2, H⟩ := ofBind H
  refine seq_ops [.res (cB v1)] [] [(1, .c (.pd (eTView p1) 0)), (2, .c (.pd (eTBoard p2) 0)), (3, .c (.pd (eI p3) 0)), (4, .c (.pk 4 0)), (6, cB v1)] [(4, .var [.int .i64 p0] false)] (fun t => aI (g_ContainsFunc_Unit_c1_ok p1.Own (156) (eI p0) (fun q0 => X.i_mayHide_1_1 q0 p0) (fun q0 r h => i_mayHide_1_1_ok q0 p0 r h) v1 h2) (t)) (by kernel_rfl) ?_
  rcases ofCond H with ⟨c3, H⟩ | ⟨c3, H⟩
  · obtain ⟨v4, h5, H⟩ := ofBind H
    rcases ofCond H with ⟨c6, H⟩ | ⟨c6, H⟩
    · obtain ⟨v7, h8, H⟩ := ofBind H
      refine seq_ops [.g true, .g true, .g true, .g true, .res (cB v4), .g true, .g true, .g true, .g true, .g true, .g true, .res (cI v7), .g true, .g true] [] [(5, cB (v7 != 0))] [] (fun t => aI c3 (aI c3 (aI c3 (aI c3 (aI (g_Contains_int_ok p1.Seen p0 v4 h5) (aI c3 (aI c3 (aI c6 (aI c6 (aI c6 (aI c6 (aI (i_enterCost_ok p2 p3 p0 v7 h8) (aI c6 (aI c6 (t))))))))))))))) (by kernel_rfl) ?_
      refine ends_ret ?_
      obtain rfl := Option.some.inj H
      exact And.intro (.inl rfl) rfl
    · refine seq_ops [.g true, .g true, .g true, .g true, .res (cB v4), .g true, .g true, .g false, .g false, .g false, .g false, .g false, .g false] [] [(5, cB false)] [] (fun t => aI c3 (aI c3 (aI c3 (aI c3 (aI (g_Contains_int_ok p1.Seen p0 v4 h5) (aI c3 (aI c3 (aI c6 (aI c6 (aI c6 (aI c6 (aI c6 (aI c6 (t)))))))))))))) (by kernel_rfl) ?_
      refine ends_ret ?_
      obtain rfl := Option.some.inj H
      exact And.intro (.inl rfl) rfl
  · refine seq_ops [.g false, .g false, .g false, .g false, .g false, .g false, .g false, .g false, .g false, .g false, .g false, .g false] [] [(5, cB false)] [] (fun t => aI c3 (aI c3 (aI c3 (aI c3 (aI c3 (aI c3 (aI (rfl : (false : Bool) = false) (aI (rfl : (false : Bool) = false) (aI (rfl : (false : Bool) = false) (aI (rfl : (false : Bool) = false) (aI (rfl : (false : Bool) = false) (aI (rfl : (false : Bool) = false) (t))))))))))))) (by kernel_rfl) ?_
    refine ends_ret ?_
    obtain rfl := Option.some.inj H
    exact And.intro (.inl rfl) rfl

def i_mayHide_ir : S :=
 (.seq (.ops [⟨some 3, .box 12 (.t 0), none⟩, ⟨some 4, .box 6 (.t 1), none⟩, ⟨some 5, .box 1 (.t 2), none⟩, ⟨some 6, .mv (.v (.nil)), none⟩])
 (.seq (.ops [⟨some 7, .load 12 true (.t 3), none⟩, ⟨some 8, .clo 154 [.t 4, .t 3, .t 5], none⟩, ⟨some 9, .call 84 [.t 7, .t 8], none⟩, ⟨some 6, .mv (.t 9), none⟩])
 .ret))
noncomputable def X.i_mayHide (p0 : TBoard) (p1 : TView) (p2 : Int) : Option (List Int) :=
  ((X.i_hexesThat p0 (fun q0 => X.i_mayHide_1 q0 p1 p0 p2)).bind fun v1 => some v1)
theorem i_mayHide_ok (p0 : TBoard) (p1 : TView) (p2 : Int) (r : (List Int)) (H : X.i_mayHide p0 p1 p2 = some r) : FnOk Tryz.prog gl 95 [.agg (eTBoard p0), .agg (eTView p1), cI p2] (.c (dat 1 eI zI r)) := by
  unfold X.i_mayHide at H
  refine fn_in (fn := Tryz.f95) (ir := i_mayHide_ir) (s1 := lit [(6, .c (dat 1 eI zI r))] []) glL Tryz.func95 (by kernel_rfl) (by kernel_rfl) (by kernel_rfl) (by kernel_rfl) (by kernel_rfl) ?_
  refine seq_ops [] [] [(3, .c (.pk 3 0)), (4, .c (.pk 4 0)), (5, .c (.pk 5 0))] [(3, .var (eTBoard p0) false), (4, .var (eTView p1) false), (5, .var [.int .i64 p2] false)] (fun t => t) (by kernel_rfl) ?_
  obtain ⟨v1, h2, H⟩ := ofBind H
  refine seq_ops [.res (.c (dat 1 eI zI v1))] [] [(6, .c (dat 1 eI zI v1))] [] (fun t => aI (i_hexesThat_c3_ok p0 (154) (eTView p1) (eTBoard p0) (eI p2) (fun q0 => X.i_mayHide_1 q0 p1 p0 p2) (fun q0 r h => i_mayHide_1_ok q0 p1 p0 p2 r h) v1 h2) (t)) (by kernel_rfl) ?_
  refine ends_ret ?_
  obtain rfl := Option.some.inj H
  exact And.intro (.inl rfl) rfl

def i_MayHide_ir : S :=
 (.seq (.ops [⟨some 3, .box 12 (.t 0), none⟩, ⟨some 4, .box 6 (.t 1), none⟩, ⟨some 6, .mv (.v (.nil)), none⟩, ⟨some 7, .mv (.v (.bool false)), none⟩])
 (.seq (.seq (.ops [⟨some 8, .load 12 true (.t 3), none⟩, ⟨some 9, .load 6 true (.t 4), none⟩, ⟨some 10, .mv (.t 2), none⟩, ⟨some 11, .call 94 [.t 8, .t 9, .t 10], none⟩, ⟨some 12, .not (.t 11), none⟩])
 (.ite (.t 12) (.seq (.ops [⟨some 6, .mv (.v (.nil)), none⟩, ⟨some 7, .mv (.v (.bool false)), none⟩])
  .ret)
 .skip))
 (.seq (.ops [⟨some 13, .load 12 true (.t 3), none⟩, ⟨some 14, .load 6 true (.t 4), none⟩, ⟨some 15, .mv (.t 2), none⟩, ⟨some 16, .call 95 [.t 13, .t 14, .t 15], none⟩, ⟨some 6, .mv (.t 16), none⟩, ⟨some 7, .mv (.v (.bool true)), none⟩])
 .ret)))
noncomputable def X.i_MayHide (p0 : TBoard) (p1 : TView) (p2 : Int) : Option ((List Int) × Bool) :=
  ((X.i_isHiding p0 p1 p2).bind fun v1 => (bif (!v1) then some (([] : List Int), false) else ((X.i_mayHide p0 p1 p2).bind fun v4 => some (v4, true))))
theorem i_MayHide_ok (p0 : TBoard) (p1 : TView) (p2 : Int) (r : ((List Int) × Bool)) (H : X.i_MayHide p0 p1 p2 = some r) : FnOk Tryz.prog gl 34 [.agg (eTBoard p0), .agg (eTView p1), cI p2] (.tup [(false, [dat 1 eI zI r.1]), (false, [.bool r.2])]) := by
  unfold X.i_MayHide at H
  refine fn_in (fn := Tryz.f34) (ir := i_MayHide_ir) (s1 := lit [(6, .c (dat 1 eI zI r.1)), (7, cB r.2)] []) glL Tryz.func34 (by kernel_rfl) (by kernel_rfl) (by kernel_rfl) (by kernel_rfl) (by kernel_rfl) ?_
  refine seq_ops [] [] [(2, cI p2), (3, .c (.pk 3 0)), (4, .c (.pk 4 0))] [(3, .var (eTBoard p0) false), (4, .var (eTView p1) false)] (fun t => t) (by kernel_rfl) ?_
  refine seq_in ?_
  obtain ⟨v1, h2, H⟩ := ofBind H
  refine seq_ops [.res (cB v1)] [] [(2, cI p2), (3, .c (.pk 3 0)), (4, .c (.pk 4 0)), (12, cB (!v1))] [(3, .var (eTBoard p0) false), (4, .var (eTView p1) false)] (fun t => aI (i_isHiding_ok p0 p1 p2 v1 h2) (t)) (by kernel_rfl) ?_
  rcases ofCond H with ⟨c3, H⟩ | ⟨c3, H⟩
  · refine ite_t c3 (by kernel_rfl) ?_
    refine seq_ops [] [] [(6, .c (.nil)), (7, cB false)] [] (fun t => t) (by kernel_rfl) ?_
    refine tell [.nld 6 1 (fF eI zI ([] : List Int))] [(6, .c (dat 1 eI zI ([] : List Int))), (7, cB false)] [] (fun t => t) (by kernel_rfl) ?_
    refine ends_ret ?_
    obtain rfl := Option.some.inj H
    exact And.intro (.inl rfl) rfl
  · refine ite_f c3 (by kernel_rfl) ?_
    refine ends_skip ?_
    change EndsI _ _ _ _ _ _
    obtain ⟨v4, h5, H⟩ := ofBind H
    refine seq_ops [.res (.c (dat 1 eI zI v4))] [] [(6, .c (dat 1 eI zI v4)), (7, cB true)] [] (fun t => aI (i_mayHide_ok p0 p1 p2 v4 h5) (t)) (by kernel_rfl) ?_
    refine ends_ret ?_
    obtain rfl := Option.some.inj H
    exact And.intro (.inl rfl) rfl

theorem i_hexesThat_Mdf_c3_ok (p0 : TBoard) (cf1 : FuncId) (cs1_0 : List AC) (cs1_1 : List AC) (cs1_2 : List AC) (f1 : Int → Option Bool) (hf1 : ∀ q0 r, f1 q0 = some r → FnOk Tryz.prog gl cf1 [cI q0, .c (.pd cs1_0 0), .c (.pd cs1_1 0), .c (.pd cs1_2 0)] (cB r)) (r : (List Int)) (H : X.i_hexesThat p0 f1 = some r) : FnMu Tryz.prog gl 84 [.agg (eTBoard p0), .c (.clo cf1 [.pd cs1_0 0, .pd cs1_1 0, .pd cs1_2 0])] [] (.c (.own 900000 1 0 r.length)) [(900000, .arr 1 r.length (fF eI zI r) false)] := by
  unfold X.i_hexesThat at H
  refine fn_mu (fn := Tryz.f84) (ir := i_hexesThat_ir) (E' := [(4, .c (.own 900000 1 0 r.length))]) (E1 := [(900000, .arr 1 r.length (fF eI zI r) false)]) glL Tryz.func84 (by kernel_rfl) (by kernel_rfl) (by kernel_rfl) (by kernel_rfl) (by kernel_rfl) ?_
  refine seq_ops [] [] [(1, .c (.clo cf1 [.pd cs1_0 0, .pd cs1_1 0, .pd cs1_2 0])), (2, .c (.pk 2 0))] [(2, .var (eTBoard p0) false)] (fun t => t) (by kernel_rfl) ?_
  refine seq_ops [.fn ([] : List Int).length (fF eI zI ([] : List Int))] [] [(1, .c (.clo cf1 [.pd cs1_0 0, .pd cs1_1 0, .pd cs1_2 0])), (2, .c (.pk 2 0)), (5, .c (.own 7 1 0 (([] : List Int).length)))] [(2, .var (eTBoard p0) false), (7, .arr 1 (([] : List Int).length) (fF eI zI ([] : List Int)) false)] (fun t => aI (rfl : ([] : List Int).length = 0) (aI (fF_lit eI zI ([] : List Int)) (t))) (by kernel_rfl) ?_
  refine seq_in ?_
  refine seq_ops [] [] [(1, .c (.clo cf1 [.pd cs1_0 0, .pd cs1_1 0, .pd cs1_2 0])), (5, .c (.own 7 1 0 (([] : List Int).length))), (11, cI (p0.Map.Terrain.length : Int)), (12, cI 0)] [(7, .arr 1 (([] : List Int).length) (fF eI zI ([] : List Int)) false)] (fun t => lI p0.Map.Terrain (t)) (by kernel_rfl) ?_
  refine ends_blk ?_
  obtain ⟨y21, h22, H⟩ := ofBind H
  refine tell [.ren 7 1001] [(1, .c (.clo cf1 [.pd cs1_0 0, .pd cs1_1 0, .pd cs1_2 0])), (5, .c (.own 1001 1 0 (([] : List Int).length))), (11, cI (p0.Map.Terrain.length : Int)), (12, cI 0)] [(1001, .arr 1 (([] : List Int).length) (fF eI zI ([] : List Int)) false)] (fun t => t) (by kernel_rfl) ?_
  refine loop_in (fun (x : (Int × (List Int))) => lit [(1, .c (.clo cf1 [.pd cs1_0 0, .pd cs1_1 0, .pd cs1_2 0])), (5, .c (.own 1001 1 0 x.2.length)), (11, cI (p0.Map.Terrain.length : Int)), (12, cI x.1)] [(1001, .arr 1 x.2.length (fF eI zI x.2) false)]) (fun (z : (List Int)) => At (.exit 0) (lit [(5, .c (.own 1001 1 0 z.length))] [(1001, .arr 1 z.length (fF eI zI z) false)])) h22 ?_ ?_
  · clear H h22
    intro x14 y0 H
    refine seq_ops [] [] [(1, .c (.clo cf1 [.pd cs1_0 0, .pd cs1_1 0, .pd cs1_2 0])), (5, .c (.own 1001 1 0 x14.2.length)), (11, cI (p0.Map.Terrain.length : Int)), (12, cI x14.1), (13, cB (decide (x14.1 < (p0.Map.Terrain.length : Int))))] [(1001, .arr 1 x14.2.length (fF eI zI x14.2) false)] (fun t => t) (by kernel_rfl) ?_
    refine seq_in ?_
    rcases ofCond H with ⟨c16, H⟩ | ⟨c16, H⟩
    · refine ite_t c16 (by kernel_rfl) ?_
      refine ends_skip ?_
      change EndsI _ _ _ _ _ _
      refine seq_in ?_
      refine ends_blk ?_
      refine seq_ops [] [] [(1, .c (.clo cf1 [.pd cs1_0 0, .pd cs1_1 0, .pd cs1_2 0])), (5, .c (.own 1001 1 0 x14.2.length)), (6, cI x14.1), (11, cI (p0.Map.Terrain.length : Int)), (12, cI x14.1)] [(1001, .arr 1 x14.2.length (fF eI zI x14.2) false)] (fun t => t) (by kernel_rfl) ?_
      obtain ⟨v17, h18, H⟩ := ofBind H
      refine seq_ops [.res (cB v17)] [] [(1, .c (.clo cf1 [.pd cs1_0 0, .pd cs1_1 0, .pd cs1_2 0])), (5, .c (.own 1001 1 0 x14.2.length)), (6, cI x14.1), (11, cI (p0.Map.Terrain.length : Int)), (12, cI x14.1), (17, cB v17)] [(1001, .arr 1 x14.2.length (fF eI zI x14.2) false)] (fun t => aI (hf1 x14.1 v17 h18) (t)) (by kernel_rfl) ?_
      rcases ofCond H with ⟨c19, H⟩ | ⟨c19, H⟩
      · refine ite_t c19 (by kernel_rfl) ?_
        obtain ⟨g20, H⟩ := ofIf H
        refine one_ops [.fn ([x14.1] : List Int).length (fF eI zI ([x14.1] : List Int)), .fn (x14.2 ++ ([x14.1] : List Int)).length (fF eI zI (x14.2 ++ ([x14.1] : List Int)))] [] [(1, .c (.clo cf1 [.pd cs1_0 0, .pd cs1_1 0, .pd cs1_2 0])), (5, .c (.own 21 1 0 ((x14.2 ++ ([x14.1] : List Int)).length))), (11, cI (p0.Map.Terrain.length : Int)), (12, cI x14.1)] [(21, .arr 1 ((x14.2 ++ ([x14.1] : List Int)).length) (fF eI zI (x14.2 ++ ([x14.1] : List Int))) false)] (fun t => aI (rfl : ([x14.1] : List Int).length = 1) (aI (fF_lit eI zI ([x14.1] : List Int)) (aI (And.intro (Nat.le_refl x14.2.length) (And.intro (@List.length_append _ x14.2 ([x14.1] : List Int)) g20)) (aI (fF_appL eI zI x14.2 ([x14.1] : List Int)) (aI (fF_appR eI zI x14.2 ([x14.1] : List Int)) (t)))))) (by kernel_rfl) ?_
        change EndsI _ _ _ _ _ _
        refine one_ops [] [.ren 21 1001] [(1, .c (.clo cf1 [.pd cs1_0 0, .pd cs1_1 0, .pd cs1_2 0])), (5, .c (.own 1001 1 0 ((x14.2 ++ ([x14.1] : List Int)).length))), (11, cI (p0.Map.Terrain.length : Int)), (12, cI (W (x14.1 + 1)))] [(1001, .arr 1 ((x14.2 ++ ([x14.1] : List Int)).length) (fF eI zI (x14.2 ++ ([x14.1] : List Int))) false)] (fun t => t) (by kernel_rfl) ?_
        obtain rfl := Option.some.inj H
        exact And.intro rfl rfl
      · refine ite_f c19 (by kernel_rfl) ?_
        refine ends_skip ?_
        change EndsI _ _ _ _ _ _
        refine one_ops [] [] [(1, .c (.clo cf1 [.pd cs1_0 0, .pd cs1_1 0, .pd cs1_2 0])), (5, .c (.own 1001 1 0 x14.2.length)), (11, cI (p0.Map.Terrain.length : Int)), (12, cI (W (x14.1 + 1)))] [(1001, .arr 1 x14.2.length (fF eI zI x14.2) false)] (fun t => t) (by kernel_rfl) ?_
        obtain rfl := Option.some.inj H
        exact And.intro rfl rfl
    · refine ite_f c16 (by kernel_rfl) ?_
      refine tell [] [(5, .c (.own 1001 1 0 x14.2.length))] [(1001, .arr 1 x14.2.length (fF eI zI x14.2) false)] (fun t => t) (by kernel_rfl) ?_
      refine ends_exit ?_
      obtain rfl := Option.some.inj H
      exact And.intro (by simp) (And.intro rfl rfl)
  · clear h22
    intro e s q
    obtain ⟨rfl, rfl⟩ := q
    change EndsI _ _ _ _ _ _
    refine seq_ops [] [] [(4, .c (.own 1001 1 0 y21.length))] [(1001, .arr 1 y21.length (fF eI zI y21) false)] (fun t => t) (by kernel_rfl) ?_
    refine tell [.ren 1001 900000] [(4, .c (.own 900000 1 0 y21.length))] [(900000, .arr 1 y21.length (fF eI zI y21) false)] (fun t => t) (by kernel_rfl) ?_
    refine ends_ret ?_
    obtain rfl := Option.some.inj H
    exact And.intro (.inl rfl) rfl

theorem i_mayHide_Mddd_ok (p0 : TBoard) (p1 : TView) (p2 : Int) (r : (List Int)) (H : X.i_mayHide p0 p1 p2 = some r) : FnMu Tryz.prog gl 95 [.agg (eTBoard p0), .agg (eTView p1), cI p2] [] (.c (.own 900000 1 0 r.length)) [(900000, .arr 1 r.length (fF eI zI r) false)] := by
  unfold X.i_mayHide at H
  refine fn_mu (fn := Tryz.f95) (ir := i_mayHide_ir) (E' := [(6, .c (.own 900000 1 0 r.length))]) (E1 := [(900000, .arr 1 r.length (fF eI zI r) false)]) glL Tryz.func95 (by kernel_rfl) (by kernel_rfl) (by kernel_rfl) (by kernel_rfl) (by kernel_rfl) ?_
  refine seq_ops [] [] [(3, .c (.pk 3 0)), (4, .c (.pk 4 0)), (5, .c (.pk 5 0))] [(3, .var (eTBoard p0) false), (4, .var (eTView p1) false), (5, .var [.int .i64 p2] false)] (fun t => t) (by kernel_rfl) ?_
  obtain ⟨v1, h2, H⟩ := ofBind H
  refine seq_ops [.mu [] [(900000, 1001)] (.c (.own 900000 1 0 v1.length)) [(900000, .arr 1 v1.length (fF eI zI v1) false)]] [] [(6, .c (.own 1001 1 0 v1.length))] [(1001, .arr 1 v1.length (fF eI zI v1) false)] (fun t => aI (i_hexesThat_Mdf_c3_ok p0 (154) (eTView p1) (eTBoard p0) (eI p2) (fun q0 => X.i_mayHide_1 q0 p1 p0 p2) (fun q0 r h => i_mayHide_1_ok q0 p1 p0 p2 r h) v1 h2) (t)) (by kernel_rfl) ?_
  refine tell [.ren 1001 900000] [(6, .c (.own 900000 1 0 v1.length))] [(900000, .arr 1 v1.length (fF eI zI v1) false)] (fun t => t) (by kernel_rfl) ?_
  refine ends_ret ?_
  obtain rfl := Option.some.inj H
  exact And.intro (.inl rfl) rfl

theorem i_MayHide_Mddd_ok (p0 : TBoard) (p1 : TView) (p2 : Int) (r : ((List Int) × Bool)) (H : X.i_MayHide p0 p1 p2 = some r) : FnMu Tryz.prog gl 34 [.agg (eTBoard p0), .agg (eTView p1), cI p2] [] (.tup [(false, [.own 900000 1 0 r.1.length]), (false, [.bool r.2])]) [(900000, .arr 1 r.1.length (fF eI zI r.1) false)] := by
  unfold X.i_MayHide at H
  refine fn_mu (fn := Tryz.f34) (ir := i_MayHide_ir) (E' := [(6, .c (.own 900000 1 0 r.1.length)), (7, cB r.2)]) (E1 := [(900000, .arr 1 r.1.length (fF eI zI r.1) false)]) glL Tryz.func34 (by kernel_rfl) (by kernel_rfl) (by kernel_rfl) (by kernel_rfl) (by kernel_rfl) ?_
  refine seq_ops [] [] [(2, cI p2), (3, .c (.pk 3 0)), (4, .c (.pk 4 0))] [(3, .var (eTBoard p0) false), (4, .var (eTView p1) false)] (fun t => t) (by kernel_rfl) ?_
  refine seq_in ?_
  obtain ⟨v1, h2, H⟩ := ofBind H
  refine seq_ops [.res (cB v1)] [] [(2, cI p2), (3, .c (.pk 3 0)), (4, .c (.pk 4 0)), (12, cB (!v1))] [(3, .var (eTBoard p0) false), (4, .var (eTView p1) false)] (fun t => aI (i_isHiding_ok p0 p1 p2 v1 h2) (t)) (by kernel_rfl) ?_
  rcases ofCond H with ⟨c3, H⟩ | ⟨c3, H⟩
  · refine ite_t c3 (by kernel_rfl) ?_
    refine seq_ops [] [] [(6, .c (.nil)), (7, cB false)] [] (fun t => t) (by kernel_rfl) ?_
    refine tell [.nlo 6 900000 1 (fF eI zI ([] : List Int))] [(6, .c (.own 900000 1 0 (([] : List Int).length))), (7, cB false)] [(900000, .arr 1 (([] : List Int).length) (fF eI zI ([] : List Int)) false)] (fun t => aI (by decide : 0 < 1) (t)) (by kernel_rfl) ?_
    refine ends_ret ?_
    obtain rfl := Option.some.inj H
    exact And.intro (.inl rfl) rfl
  · refine ite_f c3 (by kernel_rfl) ?_
    refine ends_skip ?_
    change EndsI _ _ _ _ _ _
    obtain ⟨v4, h5, H⟩ := ofBind H
    refine seq_ops [.mu [] [(900000, 1001)] (.c (.own 900000 1 0 v4.length)) [(900000, .arr 1 v4.length (fF eI zI v4) false)]] [] [(6, .c (.own 1001 1 0 v4.length)), (7, cB true)] [(1001, .arr 1 v4.length (fF eI zI v4) false)] (fun t => aI (i_mayHide_Mddd_ok p0 p1 p2 v4 h5) (t)) (by kernel_rfl) ?_
    refine tell [.ren 1001 900000] [(6, .c (.own 900000 1 0 v4.length)), (7, cB true)] [(900000, .arr 1 v4.length (fF eI zI v4) false)] (fun t => t) (by kernel_rfl) ?_
    refine ends_ret ?_
    obtain rfl := Option.some.inj H
    exact And.intro (.inl rfl) rfl

def l_FnExactMayHide_ir : S :=
 (.seq (.ops [⟨some 3, .box 12 (.t 0), none⟩, ⟨some 4, .box 6 (.t 1), none⟩, ⟨some 6, .mv (.v (.bool false)), none⟩])
 (.seq (.ops [⟨some 7, .mv (.v (.int .i64 1048576)), none⟩])
 (.seq (.ops [⟨some 19, .load 12 true (.t 3), none⟩, ⟨some 20, .mv (.t 7), none⟩, ⟨some 21, .call 12 [.t 19, .t 20], none⟩, ⟨some 7, .mv (.t 21), none⟩])
 (.seq (.seq (.ops [⟨some 22, .mv (.t 7), none⟩, ⟨some 23, .bin .lss (.t 22) (.v (.int .i64 0)), none⟩])
 (.ite (.t 23) (.seq (.ops [⟨some 6, .mv (.v (.bool true)), none⟩])
  .ret)
 .skip))
 (.seq (.ops [⟨some 24, .load 6 true (.t 4), none⟩, ⟨some 25, .mv (.t 7), none⟩, ⟨some 26, .call 25 [.t 24, .t 25], none⟩, ⟨some 7, .mv (.t 26), none⟩])
 (.seq (.seq (.ops [⟨some 27, .mv (.t 7), none⟩, ⟨some 28, .bin .lss (.t 27) (.v (.int .i64 0)), none⟩])
 (.ite (.t 28) (.seq (.ops [⟨some 6, .mv (.v (.bool true)), none⟩])
  .ret)
 .skip))
 (.seq (.draw 11 [⟨some 30, .load 12 true (.t 3), none⟩, ⟨some 31, .call 15 [.t 30], none⟩, ⟨some 32, .load 6 true (.t 4), none⟩, ⟨some 33, .call 27 [.t 32], none⟩, ⟨some 34, .mv (.t 2), none⟩, ⟨some 35, .call 33 [.t 31, .t 33, .t 34], none⟩, ⟨some 29, .mv (.t 35), none⟩, ⟨some 36, .ext (.t 29) 0, none⟩, ⟨some 37, .ext (.t 29) 1, none⟩, ⟨some 8, .mv (.t 36), none⟩, ⟨some 9, .mv (.t 37), none⟩])
 (.seq (.ops [⟨some 38, .load 12 true (.t 3), none⟩, ⟨some 39, .call 15 [.t 38], none⟩, ⟨some 10, .alloc [.nil, .nil, .int .i64 0, .int .i64 0, .int .i64 0, .int .i64 0, .int .i64 0, .int .i64 0, .int .i64 0, .nil, .nil, .nil], none⟩, ⟨none, .store 12 (.t 10) (.t 39), none⟩])
 (.seq (.ops [⟨some 40, .load 6 true (.t 4), none⟩, ⟨some 41, .call 27 [.t 40], none⟩, ⟨some 11, .alloc [.int .i64 0, .int .i64 0, .int .i64 0, .nil, .nil, .nil], none⟩, ⟨none, .store 6 (.t 11) (.t 41), none⟩])
 (.seq (.ops [⟨some 43, .load 12 true (.t 10), none⟩, ⟨some 44, .load 6 true (.t 11), none⟩, ⟨some 45, .mv (.t 2), none⟩, ⟨some 46, .call 34 [.t 43, .t 44, .t 45], none⟩, ⟨some 42, .mv (.t 46), none⟩, ⟨some 47, .ext (.t 42) 0, none⟩, ⟨some 48, .ext (.t 42) 1, none⟩, ⟨some 12, .mv (.t 47), none⟩, ⟨some 13, .mv (.t 48), none⟩])
 (.seq (.seq (.ops [⟨some 49, .mv (.t 12), none⟩, ⟨some 50, .mv (.t 8), none⟩, ⟨some 51, .call 18 [.t 49, .t 50], none⟩, ⟨some 52, .not (.t 51), none⟩, ⟨some 53, .mv (.t 52), none⟩, ⟨some 54, .mv (.t 13), some (53, false)⟩, ⟨some 55, .mv (.t 9), some (53, false)⟩, ⟨some 56, .bqe true (.t 54) (.t 55), some (53, false)⟩, ⟨some 57, .pick (.t 53) (.v (.bool true)) (.t 56), none⟩])
 (.ite (.t 57) (.seq (.ops [⟨some 6, .mv (.v (.bool false)), none⟩])
  .ret)
 .skip))
 (.seq (.seq (.draw 5 [⟨some 58, .load 12 true (.t 10), none⟩, ⟨some 59, .load 12 true (.t 3), none⟩, ⟨some 60, .call 15 [.t 59], none⟩, ⟨some 61, .call 19 [.t 58, .t 60], none⟩, ⟨some 62, .not (.t 61), none⟩])
 (.ite (.t 62) (.seq (.ops [⟨some 6, .mv (.v (.bool false)), none⟩])
  .ret)
 .skip))
 (.seq (.seq (.draw 5 [⟨some 63, .load 6 true (.t 11), none⟩, ⟨some 64, .load 6 true (.t 4), none⟩, ⟨some 65, .call 27 [.t 64], none⟩, ⟨some 66, .call 29 [.t 63, .t 65], none⟩, ⟨some 67, .not (.t 66), none⟩])
 (.ite (.t 67) (.seq (.ops [⟨some 6, .mv (.v (.bool false)), none⟩])
  .ret)
 .skip))
 (.seq (.ops [⟨some 14, .mv (.v (.int .i64 1)), none⟩])
 (.seq (.ops [⟨some 68, .load 12 true (.t 10), none⟩, ⟨some 69, .mv (.t 14), none⟩, ⟨some 70, .call 21 [.t 68, .t 69], none⟩, ⟨some 14, .mv (.t 70), none⟩])
 (.seq (.ops [⟨some 71, .load 6 true (.t 11), none⟩, ⟨some 72, .mv (.t 14), none⟩, ⟨some 73, .call 30 [.t 71, .t 72], none⟩, ⟨some 14, .mv (.t 73), none⟩])
 (.seq (.seq (.ops [⟨some 74, .mv (.t 14), none⟩, ⟨some 75, .bin .lss (.t 74) (.v (.int .i64 0)), none⟩, ⟨some 76, .mv (.t 75), none⟩, ⟨some 77, .mv (.t 12), some (76, false)⟩, ⟨some 78, .mv (.t 8), some (76, false)⟩, ⟨some 79, .call 18 [.t 77, .t 78], some (76, false)⟩, ⟨some 80, .not (.t 79), some (76, false)⟩, ⟨some 81, .pick (.t 76) (.v (.bool true)) (.t 80), none⟩, ⟨some 82, .mv (.t 81), none⟩, ⟨some 83, .mv (.t 13), some (82, false)⟩, ⟨some 84, .mv (.t 9), some (82, false)⟩, ⟨some 85, .bqe true (.t 83) (.t 84), some (82, false)⟩, ⟨some 86, .pick (.t 82) (.v (.bool true)) (.t 85), none⟩])
 (.ite (.t 86) (.seq (.ops [⟨some 6, .mv (.v (.bool false)), none⟩])
  .ret)
 .skip))
 (.seq (.ops [⟨some 15, .mv (.v (.int .i64 1)), none⟩])
 (.seq (.ops [⟨some 87, .mv (.t 12), none⟩, ⟨some 88, .mv (.t 15), none⟩, ⟨some 89, .call 23 [.t 87, .t 88], none⟩, ⟨some 15, .mv (.t 89), none⟩])
 (.seq (.ops [⟨some 16, .mv (.v (.int .i64 1)), none⟩])
 (.seq (.ops [⟨some 90, .mv (.t 12), none⟩, ⟨some 91, .mv (.t 16), none⟩, ⟨some 92, .call 24 [.t 90, .t 91], none⟩, ⟨some 16, .mv (.t 92), none⟩])
 (.seq (.seq (.ops [⟨some 93, .mv (.t 16), none⟩, ⟨some 94, .bin .lss (.t 93) (.v (.int .i64 0)), none⟩])
 (.ite (.t 94) (.seq (.ops [⟨some 6, .mv (.v (.bool false)), none⟩])
  .ret)
 .skip))
 (.seq (.seq (.ops [⟨some 95, .mv (.t 16), none⟩, ⟨some 96, .mv (.t 15), none⟩, ⟨some 97, .bin .neq (.t 95) (.t 96), none⟩])
 (.ite (.t 97) (.seq (.ops [⟨some 6, .mv (.v (.bool false)), none⟩])
  .ret)
 .skip))
 (.seq (.draw 11 [⟨some 99, .load 12 true (.t 3), none⟩, ⟨some 100, .call 15 [.t 99], none⟩, ⟨some 101, .load 6 true (.t 4), none⟩, ⟨some 102, .call 27 [.t 101], none⟩, ⟨some 103, .mv (.t 2), none⟩, ⟨some 104, .call 34 [.t 100, .t 102, .t 103], none⟩, ⟨some 98, .mv (.t 104), none⟩, ⟨some 105, .ext (.t 98) 0, none⟩, ⟨some 106, .ext (.t 98) 1, none⟩, ⟨some 17, .mv (.t 105), none⟩, ⟨some 18, .mv (.t 106), none⟩])
 (.seq (.seq (.ops [⟨some 107, .mv (.t 17), none⟩, ⟨some 108, .mv (.t 8), none⟩, ⟨some 109, .call 18 [.t 107, .t 108], none⟩, ⟨some 110, .not (.t 109), none⟩, ⟨some 111, .mv (.t 110), none⟩, ⟨some 112, .mv (.t 18), some (111, false)⟩, ⟨some 113, .mv (.t 9), some (111, false)⟩, ⟨some 114, .bqe true (.t 112) (.t 113), some (111, false)⟩, ⟨some 115, .pick (.t 111) (.v (.bool true)) (.t 114), none⟩])
 (.ite (.t 115) (.seq (.ops [⟨some 6, .mv (.v (.bool false)), none⟩])
  .ret)
 .skip))
 (.seq (.ops [⟨some 16, .mv (.v (.int .i64 1)), none⟩])
 (.seq (.ops [⟨some 116, .mv (.t 12), none⟩, ⟨some 117, .mv (.t 16), none⟩, ⟨some 118, .call 24 [.t 116, .t 117], none⟩, ⟨some 16, .mv (.t 118), none⟩])
 (.seq (.seq (.ops [⟨some 119, .mv (.t 16), none⟩, ⟨some 120, .bin .lss (.t 119) (.v (.int .i64 0)), none⟩])
 (.ite (.t 120) (.seq (.ops [⟨some 6, .mv (.v (.bool false)), none⟩])
  .ret)
 .skip))
 (.seq (.seq (.ops [⟨some 121, .mv (.t 16), none⟩, ⟨some 122, .mv (.t 15), none⟩, ⟨some 123, .bin .neq (.t 121) (.t 122), none⟩])
 (.ite (.t 123) (.seq (.ops [⟨some 6, .mv (.v (.bool false)), none⟩])
  .ret)
 .skip))
 (.seq (.ops [⟨some 6, .mv (.v (.bool true)), none⟩])
 .ret))))))))))))))))))))))))))))))
noncomputable def X.l_FnExactMayHide (p0 : TBoard) (p1 : TView) (p2 : Int) : Option Bool :=
  ((X.l_szBoard p0 1048576).bind fun v1 => (bif (decide (v1 < 0)) then some true else ((X.l_szView p1 v1).bind fun v5 => (bif (decide (v5 < 0)) then some true else ((X.l_toBoard p0).bind fun v9 => ((X.l_toView p1).bind fun v11 => ((X.s_MayHide v9 v11 p2).bind fun v13 => ((X.l_toBoard p0).bind fun v15 => ((X.l_toView p1).bind fun v17 => ((X.i_MayHide v15 v17 p2).bind fun v19 => ((X.l_eqIntS v19.1 v13.1).bind fun v25 => (bif (!v25) then some false else (bif (!(v19.2 == v13.2)) then some false else ((X.l_toBoard p0).bind fun v34 => ((X.l_eqBoard v15 v34).bind fun v36 => (bif (!v36) then some false else ((X.l_toView p1).bind fun v44 => ((X.l_eqView v17 v44).bind fun v46 => (bif (!v46) then some false else ((X.l_markBoard_L v15 1).bind fun v49 => ((X.l_markView_L v17 v49).bind fun v51 => (bif (decide (v51 < 0)) then some false else ((X.l_eqIntS v19.1 v13.1).bind fun v58 => (bif (!v58) then some false else ((X.l_markIntS_Mod v19.1 1).bind fun v61 => (if v61.2.length = v19.1.length then ((X.l_heldIntS v61.2 1).bind fun v64 => (bif (decide (v64 < 0)) then some false else (bif (v64 != v61.1) then some false else ((X.l_toBoard p0).bind fun v70 => ((X.l_toView p1).bind fun v72 => ((X.i_MayHide v70 v72 p2).bind fun v74 => ((X.l_eqIntS v74.1 v13.1).bind fun v80 => (bif (!v80) then some false else (bif (!(v74.2 == v13.2)) then some false else ((X.l_heldIntS v61.2 1).bind fun v84 => (bif (decide (v84 < 0)) then some false else (bif (v84 != v61.1) then some false else some true)))))))))))) else none))))))))))))))))))))))))))
theorem l_FnExactMayHide_T_ok (p0 : TBoard) (p1 : TView) (p2 : Int) (H : X.l_FnExactMayHide p0 p1 p2 = some true) : LawOk Tryz.prog gl 6 [.agg (eTBoard p0), .agg (eTView p1), cI p2] := by
  unfold X.l_FnExactMayHide at H
  refine lawOk_of (fn := Tryz.f6) (ir := l_FnExactMayHide_ir) (s1 := lit [(6, cB true)] []) Tryz.func6 (by kernel_rfl) (by kernel_rfl) (by kernel_rfl) (by kernel_rfl) ?_
  refine tell [] [(0, .agg [.old (dat 5 eTTerrain zTTerrain p0.Rules.Terrains), .old (dat 6 eTKind zTKind p0.Rules.Kinds), .int .i64 p0.Rules.Stack, .int .i64 p0.Rules.River, .int .i64 p0.Rules.Road, .int .i64 p0.Rules.Supply, .int .i64 p0.Rules.Turns, .int .i64 p0.Map.Width, .int .i64 p0.Map.Height, .old (dat 1 eI zI p0.Map.Terrain), .old (dat 1 eI zI p0.Map.Rivers), .old (dat 1 eI zI p0.Map.Roads)]), (1, .agg [.int .i64 p1.Side, .int .i64 p1.Turn, .int .i64 p1.Weather, .old (dat 1 eI zI p1.Seen), .old (dat 4 eTUnit zTUnit p1.Own), .old (dat 4 eTUnit zTUnit p1.Enemies)]), (2, cI p2)] [] (fun t => t) (by kernel_rfl) ?_
  refine seq_ops [] [] [(2, cI p2), (3, .c (.pk 3 0)), (4, .c (.pk 4 0))] [(3, .var [.old (dat 5 eTTerrain zTTerrain p0.Rules.Terrains), .old (dat 6 eTKind zTKind p0.Rules.Kinds), .int .i64 p0.Rules.Stack, .int .i64 p0.Rules.River, .int .i64 p0.Rules.Road, .int .i64 p0.Rules.Supply, .int .i64 p0.Rules.Turns, .int .i64 p0.Map.Width, .int .i64 p0.Map.Height, .old (dat 1 eI zI p0.Map.Terrain), .old (dat 1 eI zI p0.Map.Rivers), .old (dat 1 eI zI p0.Map.Roads)] false), (4, .var [.int .i64 p1.Side, .int .i64 p1.Turn, .int .i64 p1.Weather, .old (dat 1 eI zI p1.Seen), .old (dat 4 eTUnit zTUnit p1.Own), .old (dat 4 eTUnit zTUnit p1.Enemies)] false)] (fun t => t) (by kernel_rfl) ?_
  refine seq_ops [] [] [(2, cI p2), (3, .c (.pk 3 0)), (4, .c (.pk 4 0)), (7, cI 1048576)] [(3, .var [.old (dat 5 eTTerrain zTTerrain p0.Rules.Terrains), .old (dat 6 eTKind zTKind p0.Rules.Kinds), .int .i64 p0.Rules.Stack, .int .i64 p0.Rules.River, .int .i64 p0.Rules.Road, .int .i64 p0.Rules.Supply, .int .i64 p0.Rules.Turns, .int .i64 p0.Map.Width, .int .i64 p0.Map.Height, .old (dat 1 eI zI p0.Map.Terrain), .old (dat 1 eI zI p0.Map.Rivers), .old (dat 1 eI zI p0.Map.Roads)] false), (4, .var [.int .i64 p1.Side, .int .i64 p1.Turn, .int .i64 p1.Weather, .old (dat 1 eI zI p1.Seen), .old (dat 4 eTUnit zTUnit p1.Own), .old (dat 4 eTUnit zTUnit p1.Enemies)] false)] (fun t => t) (by kernel_rfl) ?_
  obtain ⟨v1, h2, H⟩ := ofBind H
  refine seq_ops [.res (cI v1)] [] [(2, cI p2), (3, .c (.pk 3 0)), (4, .c (.pk 4 0)), (7, cI v1)] [(3, .var [.old (dat 5 eTTerrain zTTerrain p0.Rules.Terrains), .old (dat 6 eTKind zTKind p0.Rules.Kinds), .int .i64 p0.Rules.Stack, .int .i64 p0.Rules.River, .int .i64 p0.Rules.Road, .int .i64 p0.Rules.Supply, .int .i64 p0.Rules.Turns, .int .i64 p0.Map.Width, .int .i64 p0.Map.Height, .old (dat 1 eI zI p0.Map.Terrain), .old (dat 1 eI zI p0.Map.Rivers), .old (dat 1 eI zI p0.Map.Roads)] false), (4, .var [.int .i64 p1.Side, .int .i64 p1.Turn, .int .i64 p1.Weather, .old (dat 1 eI zI p1.Seen), .old (dat 4 eTUnit zTUnit p1.Own), .old (dat 4 eTUnit zTUnit p1.Enemies)] false)] (fun t => aI ((FnOk.le2 (xs := [.agg [.old (dat 5 eTTerrain zTTerrain p0.Rules.Terrains), .old (dat 6 eTKind zTKind p0.Rules.Kinds), .int .i64 p0.Rules.Stack, .int .i64 p0.Rules.River, .int .i64 p0.Rules.Road, .int .i64 p0.Rules.Supply, .int .i64 p0.Rules.Turns, .int .i64 p0.Map.Width, .int .i64 p0.Map.Height, .old (dat 1 eI zI p0.Map.Terrain), .old (dat 1 eI zI p0.Map.Rivers), .old (dat 1 eI zI p0.Map.Roads)], cI 1048576]) (l_szBoard_ok p0 1048576 v1 h2) ⟨LeD.agg (And.intro (LeC.old _) (And.intro (LeC.old _) (And.intro (LeC.refl _) (And.intro (LeC.refl _) (And.intro (LeC.refl _) (And.intro (LeC.refl _) (And.intro (LeC.refl _) (And.intro (LeC.refl _) (And.intro (LeC.refl _) (And.intro (LeC.old _) (And.intro (LeC.old _) (And.intro (LeC.old _) (trivial))))))))))))), LeD.refl _, trivial⟩).up glTs) (t)) (by kernel_rfl) ?_
  refine seq_in ?_
  refine seq_ops [] [] [(2, cI p2), (3, .c (.pk 3 0)), (4, .c (.pk 4 0)), (7, cI v1), (23, cB (decide (v1 < 0)))] [(3, .var [.old (dat 5 eTTerrain zTTerrain p0.Rules.Terrains), .old (dat 6 eTKind zTKind p0.Rules.Kinds), .int .i64 p0.Rules.Stack, .int .i64 p0.Rules.River, .int .i64 p0.Rules.Road, .int .i64 p0.Rules.Supply, .int .i64 p0.Rules.Turns, .int .i64 p0.Map.Width, .int .i64 p0.Map.Height, .old (dat 1 eI zI p0.Map.Terrain), .old (dat 1 eI zI p0.Map.Rivers), .old (dat 1 eI zI p0.Map.Roads)] false), (4, .var [.int .i64 p1.Side, .int .i64 p1.Turn, .int .i64 p1.Weather, .old (dat 1 eI zI p1.Seen), .old (dat 4 eTUnit zTUnit p1.Own), .old (dat 4 eTUnit zTUnit p1.Enemies)] false)] (fun t => t) (by kernel_rfl) ?_
  rcases ofCond H with ⟨c4, H⟩ | ⟨c4, H⟩
  · refine ite_t c4 (by kernel_rfl) ?_
    refine seq_ops [] [] [(6, cB true)] [] (fun t => t) (by kernel_rfl) ?_
    refine ends_ret ?_
    exact And.intro (.inl rfl) rfl
  · refine ite_f c4 (by kernel_rfl) ?_
    refine ends_skip ?_
    change EndsI _ _ _ _ _ _
    obtain ⟨v5, h6, H⟩ := ofBind H
    refine seq_ops [.res (cI v5)] [] [(2, cI p2), (3, .c (.pk 3 0)), (4, .c (.pk 4 0)), (7, cI v5)] [(3, .var [.old (dat 5 eTTerrain zTTerrain p0.Rules.Terrains), .old (dat 6 eTKind zTKind p0.Rules.Kinds), .int .i64 p0.Rules.Stack, .int .i64 p0.Rules.River, .int .i64 p0.Rules.Road, .int .i64 p0.Rules.Supply, .int .i64 p0.Rules.Turns, .int .i64 p0.Map.Width, .int .i64 p0.Map.Height, .old (dat 1 eI zI p0.Map.Terrain), .old (dat 1 eI zI p0.Map.Rivers), .old (dat 1 eI zI p0.Map.Roads)] false), (4, .var [.int .i64 p1.Side, .int .i64 p1.Turn, .int .i64 p1.Weather, .old (dat 1 eI zI p1.Seen), .old (dat 4 eTUnit zTUnit p1.Own), .old (dat 4 eTUnit zTUnit p1.Enemies)] false)] (fun t => aI ((FnOk.le2 (xs := [.agg [.int .i64 p1.Side, .int .i64 p1.Turn, .int .i64 p1.Weather, .old (dat 1 eI zI p1.Seen), .old (dat 4 eTUnit zTUnit p1.Own), .old (dat 4 eTUnit zTUnit p1.Enemies)], cI v1]) (l_szView_ok p1 v1 v5 h6) ⟨LeD.agg (And.intro (LeC.refl _) (And.intro (LeC.refl _) (And.intro (LeC.refl _) (And.intro (LeC.old _) (And.intro (LeC.old _) (And.intro (LeC.old _) (trivial))))))), LeD.refl _, trivial⟩).up glTs) (t)) (by kernel_rfl) ?_
    refine seq_in ?_
    refine seq_ops [] [] [(2, cI p2), (3, .c (.pk 3 0)), (4, .c (.pk 4 0)), (28, cB (decide (v5 < 0)))] [(3, .var [.old (dat 5 eTTerrain zTTerrain p0.Rules.Terrains), .old (dat 6 eTKind zTKind p0.Rules.Kinds), .int .i64 p0.Rules.Stack, .int .i64 p0.Rules.River, .int .i64 p0.Rules.Road, .int .i64 p0.Rules.Supply, .int .i64 p0.Rules.Turns, .int .i64 p0.Map.Width, .int .i64 p0.Map.Height, .old (dat 1 eI zI p0.Map.Terrain), .old (dat 1 eI zI p0.Map.Rivers), .old (dat 1 eI zI p0.Map.Roads)] false), (4, .var [.int .i64 p1.Side, .int .i64 p1.Turn, .int .i64 p1.Weather, .old (dat 1 eI zI p1.Seen), .old (dat 4 eTUnit zTUnit p1.Own), .old (dat 4 eTUnit zTUnit p1.Enemies)] false)] (fun t => t) (by kernel_rfl) ?_
    rcases ofCond H with ⟨c8, H⟩ | ⟨c8, H⟩
    · refine ite_t c8 (by kernel_rfl) ?_
      refine seq_ops [] [] [(6, cB true)] [] (fun t => t) (by kernel_rfl) ?_
      refine ends_ret ?_
      exact And.intro (.inl rfl) rfl
    · refine ite_f c8 (by kernel_rfl) ?_
      refine ends_skip ?_
      change EndsI _ _ _ _ _ _
      obtain ⟨v9, h10, H⟩ := ofBind H
      obtain ⟨v11, h12, H⟩ := ofBind H
      obtain ⟨v13, h14, H⟩ := ofBind H
      refine seq_draw [.res (.agg (eTBoard v9)), .res (.agg (eTView v11)), .res (.tup [(false, [dat 1 eI zI v13.1]), (false, [.bool v13.2])])] [] [(2, cI p2), (3, .c (.pk 3 0)), (4, .c (.pk 4 0)), (8, .c (dat 1 eI zI v13.1)), (9, cB v13.2)] [(3, .var [.old (dat 5 eTTerrain zTTerrain p0.Rules.Terrains), .old (dat 6 eTKind zTKind p0.Rules.Kinds), .int .i64 p0.Rules.Stack, .int .i64 p0.Rules.River, .int .i64 p0.Rules.Road, .int .i64 p0.Rules.Supply, .int .i64 p0.Rules.Turns, .int .i64 p0.Map.Width, .int .i64 p0.Map.Height, .old (dat 1 eI zI p0.Map.Terrain), .old (dat 1 eI zI p0.Map.Rivers), .old (dat 1 eI zI p0.Map.Roads)] false), (4, .var [.int .i64 p1.Side, .int .i64 p1.Turn, .int .i64 p1.Weather, .old (dat 1 eI zI p1.Seen), .old (dat 4 eTUnit zTUnit p1.Own), .old (dat 4 eTUnit zTUnit p1.Enemies)] false)] (fun t => aI ((FnOk.le2 (xs := [.agg [.old (dat 5 eTTerrain zTTerrain p0.Rules.Terrains), .old (dat 6 eTKind zTKind p0.Rules.Kinds), .int .i64 p0.Rules.Stack, .int .i64 p0.Rules.River, .int .i64 p0.Rules.Road, .int .i64 p0.Rules.Supply, .int .i64 p0.Rules.Turns, .int .i64 p0.Map.Width, .int .i64 p0.Map.Height, .old (dat 1 eI zI p0.Map.Terrain), .old (dat 1 eI zI p0.Map.Rivers), .old (dat 1 eI zI p0.Map.Roads)]]) (l_toBoard_ok p0 v9 h10) ⟨LeD.agg (And.intro (LeC.old _) (And.intro (LeC.old _) (And.intro (LeC.refl _) (And.intro (LeC.refl _) (And.intro (LeC.refl _) (And.intro (LeC.refl _) (And.intro (LeC.refl _) (And.intro (LeC.refl _) (And.intro (LeC.refl _) (And.intro (LeC.old _) (And.intro (LeC.old _) (And.intro (LeC.old _) (trivial))))))))))))), trivial⟩).up glTs) (aI (rfl : ([] : List Nat) = []) (aI (rfl : ([] : List Nat) = []) (aI ((FnOk.le2 (xs := [.agg [.int .i64 p1.Side, .int .i64 p1.Turn, .int .i64 p1.Weather, .old (dat 1 eI zI p1.Seen), .old (dat 4 eTUnit zTUnit p1.Own), .old (dat 4 eTUnit zTUnit p1.Enemies)]]) (l_toView_ok p1 v11 h12) ⟨LeD.agg (And.intro (LeC.refl _) (And.intro (LeC.refl _) (And.intro (LeC.refl _) (And.intro (LeC.old _) (And.intro (LeC.old _) (And.intro (LeC.old _) (trivial))))))), trivial⟩).up glTs) (aI (rfl : ([] : List Nat) = []) (aI (rfl : ([] : List Nat) = []) (aI ((s_MayHide_ok v9 v11 p2 v13 h14).up glTs) (aI (rfl : ([] : List Nat) = []) (aI (rfl : ([] : List Nat) = []) (t)))))))))) (by kernel_rfl) ?_
      refine tell [] [(2, cI p2), (3, .c (.pk 3 0)), (4, .c (.pk 4 0)), (8, .c (dat 1 eI zI v13.1)), (9, cB v13.2)] [(3, .var [.old (dat 5 eTTerrain zTTerrain p0.Rules.Terrains), .old (dat 6 eTKind zTKind p0.Rules.Kinds), .int .i64 p0.Rules.Stack, .int .i64 p0.Rules.River, .int .i64 p0.Rules.Road, .int .i64 p0.Rules.Supply, .int .i64 p0.Rules.Turns, .int .i64 p0.Map.Width, .int .i64 p0.Map.Height, .old (dat 1 eI zI p0.Map.Terrain), .old (dat 1 eI zI p0.Map.Rivers), .old (dat 1 eI zI p0.Map.Roads)] false), (4, .var [.int .i64 p1.Side, .int .i64 p1.Turn, .int .i64 p1.Weather, .old (dat 1 eI zI p1.Seen), .old (dat 4 eTUnit zTUnit p1.Own), .old (dat 4 eTUnit zTUnit p1.Enemies)] false)] (fun t => t) (by kernel_rfl) ?_
      refine turn0 (E := [(2, cI p2), (3, .c (.pk 3 0)), (4, .c (.pk 4 0)), (8, .c (dat 1 eI zI v13.1)), (9, cB v13.2)]) (E' := [(2, cI p2), (3, .c (.pk 3 0)), (4, .c (.pk 4 0)), (8, .c (.old (dat 1 eI zI v13.1))), (9, cB v13.2)]) (H := [(3, .var [.old (dat 5 eTTerrain zTTerrain p0.Rules.Terrains), .old (dat 6 eTKind zTKind p0.Rules.Kinds), .int .i64 p0.Rules.Stack, .int .i64 p0.Rules.River, .int .i64 p0.Rules.Road, .int .i64 p0.Rules.Supply, .int .i64 p0.Rules.Turns, .int .i64 p0.Map.Width, .int .i64 p0.Map.Height, .old (dat 1 eI zI p0.Map.Terrain), .old (dat 1 eI zI p0.Map.Rivers), .old (dat 1 eI zI p0.Map.Roads)] false), (4, .var [.int .i64 p1.Side, .int .i64 p1.Turn, .int .i64 p1.Weather, .old (dat 1 eI zI p1.Seen), .old (dat 4 eTUnit zTUnit p1.Own), .old (dat 4 eTUnit zTUnit p1.Enemies)] false)]) (H' := [(3, .var [.old (dat 5 eTTerrain zTTerrain p0.Rules.Terrains), .old (dat 6 eTKind zTKind p0.Rules.Kinds), .int .i64 p0.Rules.Stack, .int .i64 p0.Rules.River, .int .i64 p0.Rules.Road, .int .i64 p0.Rules.Supply, .int .i64 p0.Rules.Turns, .int .i64 p0.Map.Width, .int .i64 p0.Map.Height, .old (dat 1 eI zI p0.Map.Terrain), .old (dat 1 eI zI p0.Map.Rivers), .old (dat 1 eI zI p0.Map.Roads)] false), (4, .var [.int .i64 p1.Side, .int .i64 p1.Turn, .int .i64 p1.Weather, .old (dat 1 eI zI p1.Seen), .old (dat 4 eTUnit zTUnit p1.Own), .old (dat 4 eTUnit zTUnit p1.Enemies)] false)]) glTn glTp (And.intro (And.intro rfl (uS (.int .i64 p2) rfl)) (And.intro (And.intro rfl (uS (.pk 3 0) rfl)) (And.intro (And.intro rfl (uS (.pk 4 0) rfl)) (And.intro (And.intro rfl (uD (dat 1 eI zI v13.1) rfl (.dat shI))) (And.intro (And.intro rfl (uS (.bool v13.2) rfl)) trivial))))) (And.intro (And.intro rfl (And.intro (uO (dat 5 eTTerrain zTTerrain p0.Rules.Terrains) (.dat shTTerrain)) (And.intro (uO (dat 6 eTKind zTKind p0.Rules.Kinds) (.dat shTKind)) (And.intro (uS (.int .i64 p0.Rules.Stack) rfl) (And.intro (uS (.int .i64 p0.Rules.River) rfl) (And.intro (uS (.int .i64 p0.Rules.Road) rfl) (And.intro (uS (.int .i64 p0.Rules.Supply) rfl) (And.intro (uS (.int .i64 p0.Rules.Turns) rfl) (And.intro (uS (.int .i64 p0.Map.Width) rfl) (And.intro (uS (.int .i64 p0.Map.Height) rfl) (And.intro (uO (dat 1 eI zI p0.Map.Terrain) (.dat shI)) (And.intro (uO (dat 1 eI zI p0.Map.Rivers) (.dat shI)) (And.intro (uO (dat 1 eI zI p0.Map.Roads) (.dat shI)) trivial))))))))))))) (And.intro (And.intro rfl (And.intro (uS (.int .i64 p1.Side) rfl) (And.intro (uS (.int .i64 p1.Turn) rfl) (And.intro (uS (.int .i64 p1.Weather) rfl) (And.intro (uO (dat 1 eI zI p1.Seen) (.dat shI)) (And.intro (uO (dat 4 eTUnit zTUnit p1.Own) (.dat shTUnit)) (And.intro (uO (dat 4 eTUnit zTUnit p1.Enemies) (.dat shTUnit)) trivial))))))) trivial)) ?_
      obtain ⟨v15, h16, H⟩ := ofBind H
      refine seq_ops [.res (.agg [.fr (dat 5 eTTerrain zTTerrain v15.Rules.Terrains), .fr (dat 6 eTKind zTKind v15.Rules.Kinds), .int .i64 v15.Rules.Stack, .int .i64 v15.Rules.River, .int .i64 v15.Rules.Road, .int .i64 v15.Rules.Supply, .int .i64 v15.Rules.Turns, .int .i64 v15.Map.Width, .int .i64 v15.Map.Height, .fr (dat 1 eI zI v15.Map.Terrain), .fr (dat 1 eI zI v15.Map.Rivers), .fr (dat 1 eI zI v15.Map.Roads)])] [] [(2, cI p2), (3, .c (.pk 3 0)), (4, .c (.pk 4 0)), (8, .c (.old (dat 1 eI zI v13.1))), (9, cB v13.2), (10, .c (.pk 10 0))] [(3, .var [.old (dat 5 eTTerrain zTTerrain p0.Rules.Terrains), .old (dat 6 eTKind zTKind p0.Rules.Kinds), .int .i64 p0.Rules.Stack, .int .i64 p0.Rules.River, .int .i64 p0.Rules.Road, .int .i64 p0.Rules.Supply, .int .i64 p0.Rules.Turns, .int .i64 p0.Map.Width, .int .i64 p0.Map.Height, .old (dat 1 eI zI p0.Map.Terrain), .old (dat 1 eI zI p0.Map.Rivers), .old (dat 1 eI zI p0.Map.Roads)] false), (4, .var [.int .i64 p1.Side, .int .i64 p1.Turn, .int .i64 p1.Weather, .old (dat 1 eI zI p1.Seen), .old (dat 4 eTUnit zTUnit p1.Own), .old (dat 4 eTUnit zTUnit p1.Enemies)] false), (10, .var [.fr (dat 5 eTTerrain zTTerrain v15.Rules.Terrains), .fr (dat 6 eTKind zTKind v15.Rules.Kinds), .int .i64 v15.Rules.Stack, .int .i64 v15.Rules.River, .int .i64 v15.Rules.Road, .int .i64 v15.Rules.Supply, .int .i64 v15.Rules.Turns, .int .i64 v15.Map.Width, .int .i64 v15.Map.Height, .fr (dat 1 eI zI v15.Map.Terrain), .fr (dat 1 eI zI v15.Map.Rivers), .fr (dat 1 eI zI v15.Map.Roads)] false)] (fun t => aI ((FnOk.le2 (xs := [.agg [.old (dat 5 eTTerrain zTTerrain p0.Rules.Terrains), .old (dat 6 eTKind zTKind p0.Rules.Kinds), .int .i64 p0.Rules.Stack, .int .i64 p0.Rules.River, .int .i64 p0.Rules.Road, .int .i64 p0.Rules.Supply, .int .i64 p0.Rules.Turns, .int .i64 p0.Map.Width, .int .i64 p0.Map.Height, .old (dat 1 eI zI p0.Map.Terrain), .old (dat 1 eI zI p0.Map.Rivers), .old (dat 1 eI zI p0.Map.Roads)]]) (l_toBoard_F_ok p0 v15 h16) ⟨LeD.agg (And.intro (LeC.old _) (And.intro (LeC.old _) (And.intro (LeC.refl _) (And.intro (LeC.refl _) (And.intro (LeC.refl _) (And.intro (LeC.refl _) (And.intro (LeC.refl _) (And.intro (LeC.refl _) (And.intro (LeC.refl _) (And.intro (LeC.old _) (And.intro (LeC.old _) (And.intro (LeC.old _) (trivial))))))))))))), trivial⟩).up glTs) (t)) (by kernel_rfl) ?_
      obtain ⟨v17, h18, H⟩ := ofBind H
      refine seq_ops [.res (.agg [.int .i64 v17.Side, .int .i64 v17.Turn, .int .i64 v17.Weather, .fr (dat 1 eI zI v17.Seen), .fr (dat 4 eTUnit zTUnit v17.Own), .fr (dat 4 eTUnit zTUnit v17.Enemies)])] [] [(2, cI p2), (3, .c (.pk 3 0)), (4, .c (.pk 4 0)), (8, .c (.old (dat 1 eI zI v13.1))), (9, cB v13.2), (10, .c (.pk 10 0)), (11, .c (.pk 11 0))] [(3, .var [.old (dat 5 eTTerrain zTTerrain p0.Rules.Terrains), .old (dat 6 eTKind zTKind p0.Rules.Kinds), .int .i64 p0.Rules.Stack, .int .i64 p0.Rules.River, .int .i64 p0.Rules.Road, .int .i64 p0.Rules.Supply, .int .i64 p0.Rules.Turns, .int .i64 p0.Map.Width, .int .i64 p0.Map.Height, .old (dat 1 eI zI p0.Map.Terrain), .old (dat 1 eI zI p0.Map.Rivers), .old (dat 1 eI zI p0.Map.Roads)] false), (4, .var [.int .i64 p1.Side, .int .i64 p1.Turn, .int .i64 p1.Weather, .old (dat 1 eI zI p1.Seen), .old (dat 4 eTUnit zTUnit p1.Own), .old (dat 4 eTUnit zTUnit p1.Enemies)] false), (10, .var [.fr (dat 5 eTTerrain zTTerrain v15.Rules.Terrains), .fr (dat 6 eTKind zTKind v15.Rules.Kinds), .int .i64 v15.Rules.Stack, .int .i64 v15.Rules.River, .int .i64 v15.Rules.Road, .int .i64 v15.Rules.Supply, .int .i64 v15.Rules.Turns, .int .i64 v15.Map.Width, .int .i64 v15.Map.Height, .fr (dat 1 eI zI v15.Map.Terrain), .fr (dat 1 eI zI v15.Map.Rivers), .fr (dat 1 eI zI v15.Map.Roads)] false), (11, .var [.int .i64 v17.Side, .int .i64 v17.Turn, .int .i64 v17.Weather, .fr (dat 1 eI zI v17.Seen), .fr (dat 4 eTUnit zTUnit v17.Own), .fr (dat 4 eTUnit zTUnit v17.Enemies)] false)] (fun t => aI ((FnOk.le2 (xs := [.agg [.int .i64 p1.Side, .int .i64 p1.Turn, .int .i64 p1.Weather, .old (dat 1 eI zI p1.Seen), .old (dat 4 eTUnit zTUnit p1.Own), .old (dat 4 eTUnit zTUnit p1.Enemies)]]) (l_toView_F_ok p1 v17 h18) ⟨LeD.agg (And.intro (LeC.refl _) (And.intro (LeC.refl _) (And.intro (LeC.refl _) (And.intro (LeC.old _) (And.intro (LeC.old _) (And.intro (LeC.old _) (trivial))))))), trivial⟩).up glTs) (t)) (by kernel_rfl) ?_
      obtain ⟨v19, h20, H⟩ := ofBind H
      refine seq_ops [.mu [] [(900000, 1001)] (.tup [(false, [.own 900000 1 0 v19.1.length]), (false, [.bool v19.2])]) [(900000, .arr 1 v19.1.length (fF eI zI v19.1) false)]] [] [(2, cI p2), (3, .c (.pk 3 0)), (4, .c (.pk 4 0)), (8, .c (.old (dat 1 eI zI v13.1))), (9, cB v13.2), (10, .c (.pk 10 0)), (11, .c (.pk 11 0)), (12, .c (.own 1001 1 0 v19.1.length)), (13, cB v19.2)] [(3, .var [.old (dat 5 eTTerrain zTTerrain p0.Rules.Terrains), .old (dat 6 eTKind zTKind p0.Rules.Kinds), .int .i64 p0.Rules.Stack, .int .i64 p0.Rules.River, .int .i64 p0.Rules.Road, .int .i64 p0.Rules.Supply, .int .i64 p0.Rules.Turns, .int .i64 p0.Map.Width, .int .i64 p0.Map.Height, .old (dat 1 eI zI p0.Map.Terrain), .old (dat 1 eI zI p0.Map.Rivers), .old (dat 1 eI zI p0.Map.Roads)] false), (4, .var [.int .i64 p1.Side, .int .i64 p1.Turn, .int .i64 p1.Weather, .old (dat 1 eI zI p1.Seen), .old (dat 4 eTUnit zTUnit p1.Own), .old (dat 4 eTUnit zTUnit p1.Enemies)] false), (10, .var [.fr (dat 5 eTTerrain zTTerrain v15.Rules.Terrains), .fr (dat 6 eTKind zTKind v15.Rules.Kinds), .int .i64 v15.Rules.Stack, .int .i64 v15.Rules.River, .int .i64 v15.Rules.Road, .int .i64 v15.Rules.Supply, .int .i64 v15.Rules.Turns, .int .i64 v15.Map.Width, .int .i64 v15.Map.Height, .fr (dat 1 eI zI v15.Map.Terrain), .fr (dat 1 eI zI v15.Map.Rivers), .fr (dat 1 eI zI v15.Map.Roads)] false), (11, .var [.int .i64 v17.Side, .int .i64 v17.Turn, .int .i64 v17.Weather, .fr (dat 1 eI zI v17.Seen), .fr (dat 4 eTUnit zTUnit v17.Own), .fr (dat 4 eTUnit zTUnit v17.Enemies)] false), (1001, .arr 1 v19.1.length (fF eI zI v19.1) false)] (fun t => aI ((FnMu.le2 (xs := [.agg [.fr (dat 5 eTTerrain zTTerrain v15.Rules.Terrains), .fr (dat 6 eTKind zTKind v15.Rules.Kinds), .int .i64 v15.Rules.Stack, .int .i64 v15.Rules.River, .int .i64 v15.Rules.Road, .int .i64 v15.Rules.Supply, .int .i64 v15.Rules.Turns, .int .i64 v15.Map.Width, .int .i64 v15.Map.Height, .fr (dat 1 eI zI v15.Map.Terrain), .fr (dat 1 eI zI v15.Map.Rivers), .fr (dat 1 eI zI v15.Map.Roads)], .agg [.int .i64 v17.Side, .int .i64 v17.Turn, .int .i64 v17.Weather, .fr (dat 1 eI zI v17.Seen), .fr (dat 4 eTUnit zTUnit v17.Own), .fr (dat 4 eTUnit zTUnit v17.Enemies)], cI p2]) (i_MayHide_Mddd_ok v15 v17 p2 v19 h20) ⟨LeK.of rfl (LeD.agg (And.intro (LeC.fr _) (And.intro (LeC.fr _) (And.intro (LeC.refl _) (And.intro (LeC.refl _) (And.intro (LeC.refl _) (And.intro (LeC.refl _) (And.intro (LeC.refl _) (And.intro (LeC.refl _) (And.intro (LeC.refl _) (And.intro (LeC.fr _) (And.intro (LeC.fr _) (And.intro (LeC.fr _) (trivial)))))))))))))), LeK.of rfl (LeD.agg (And.intro (LeC.refl _) (And.intro (LeC.refl _) (And.intro (LeC.refl _) (And.intro (LeC.fr _) (And.intro (LeC.fr _) (And.intro (LeC.fr _) (trivial)))))))), LeK.refl _, trivial⟩).up glTs) (t)) (by kernel_rfl) ?_
      refine seq_in ?_
      obtain ⟨v25, h26, H⟩ := ofBind H
      rcases ofCond H with ⟨c27, H⟩ | ⟨c27, H⟩
      · refine seq_ops [.res (cB v25), .g true, .g true, .g true, .g true] [] [(2, cI p2), (3, .c (.pk 3 0)), (4, .c (.pk 4 0)), (8, .c (.old (dat 1 eI zI v13.1))), (9, cB v13.2), (10, .c (.pk 10 0)), (11, .c (.pk 11 0)), (12, .c (.own 1001 1 0 v19.1.length)), (13, cB v19.2), (57, cB true)] [(3, .var [.old (dat 5 eTTerrain zTTerrain p0.Rules.Terrains), .old (dat 6 eTKind zTKind p0.Rules.Kinds), .int .i64 p0.Rules.Stack, .int .i64 p0.Rules.River, .int .i64 p0.Rules.Road, .int .i64 p0.Rules.Supply, .int .i64 p0.Rules.Turns, .int .i64 p0.Map.Width, .int .i64 p0.Map.Height, .old (dat 1 eI zI p0.Map.Terrain), .old (dat 1 eI zI p0.Map.Rivers), .old (dat 1 eI zI p0.Map.Roads)] false), (4, .var [.int .i64 p1.Side, .int .i64 p1.Turn, .int .i64 p1.Weather, .old (dat 1 eI zI p1.Seen), .old (dat 4 eTUnit zTUnit p1.Own), .old (dat 4 eTUnit zTUnit p1.Enemies)] false), (10, .var [.fr (dat 5 eTTerrain zTTerrain v15.Rules.Terrains), .fr (dat 6 eTKind zTKind v15.Rules.Kinds), .int .i64 v15.Rules.Stack, .int .i64 v15.Rules.River, .int .i64 v15.Rules.Road, .int .i64 v15.Rules.Supply, .int .i64 v15.Rules.Turns, .int .i64 v15.Map.Width, .int .i64 v15.Map.Height, .fr (dat 1 eI zI v15.Map.Terrain), .fr (dat 1 eI zI v15.Map.Rivers), .fr (dat 1 eI zI v15.Map.Roads)] false), (11, .var [.int .i64 v17.Side, .int .i64 v17.Turn, .int .i64 v17.Weather, .fr (dat 1 eI zI v17.Seen), .fr (dat 4 eTUnit zTUnit v17.Own), .fr (dat 4 eTUnit zTUnit v17.Enemies)] false), (1001, .arr 1 v19.1.length (fF eI zI v19.1) false)] (fun t => aI (Nat.le_refl v19.1.length) (aI ((FnOk.le2 (xs := [.c (dat 1 eI zI v19.1), .c (.old (dat 1 eI zI v13.1))]) (l_eqIntS_ok v19.1 v13.1 v25 h26) ⟨LeD.refl _, LeD.old _, trivial⟩).up glTs) (aI c27 (aI c27 (aI c27 (aI c27 (t))))))) (by kernel_rfl) ?_
        refine ite_t (rfl : (true : Bool) = true) (by kernel_rfl) ?_
        refine seq_ops [] [] [(6, cB false)] [] (fun t => t) (by kernel_rfl) ?_
        refine ends_ret ?_
        cases H
      · refine seq_ops [.res (cB v25), .g false, .g false, .g false, .g false] [] [(2, cI p2), (3, .c (.pk 3 0)), (4, .c (.pk 4 0)), (8, .c (.old (dat 1 eI zI v13.1))), (9, cB v13.2), (10, .c (.pk 10 0)), (11, .c (.pk 11 0)), (12, .c (.own 1001 1 0 v19.1.length)), (13, cB v19.2), (57, cB (!(v19.2 == v13.2)))] [(3, .var [.old (dat 5 eTTerrain zTTerrain p0.Rules.Terrains), .old (dat 6 eTKind zTKind p0.Rules.Kinds), .int .i64 p0.Rules.Stack, .int .i64 p0.Rules.River, .int .i64 p0.Rules.Road, .int .i64 p0.Rules.Supply, .int .i64 p0.Rules.Turns, .int .i64 p0.Map.Width, .int .i64 p0.Map.Height, .old (dat 1 eI zI p0.Map.Terrain), .old (dat 1 eI zI p0.Map.Rivers), .old (dat 1 eI zI p0.Map.Roads)] false), (4, .var [.int .i64 p1.Side, .int .i64 p1.Turn, .int .i64 p1.Weather, .old (dat 1 eI zI p1.Seen), .old (dat 4 eTUnit zTUnit p1.Own), .old (dat 4 eTUnit zTUnit p1.Enemies)] false), (10, .var [.fr (dat 5 eTTerrain zTTerrain v15.Rules.Terrains), .fr (dat 6 eTKind zTKind v15.Rules.Kinds), .int .i64 v15.Rules.Stack, .int .i64 v15.Rules.River, .int .i64 v15.Rules.Road, .int .i64 v15.Rules.Supply, .int .i64 v15.Rules.Turns, .int .i64 v15.Map.Width, .int .i64 v15.Map.Height, .fr (dat 1 eI zI v15.Map.Terrain), .fr (dat 1 eI zI v15.Map.Rivers), .fr (dat 1 eI zI v15.Map.Roads)] false), (11, .var [.int .i64 v17.Side, .int .i64 v17.Turn, .int .i64 v17.Weather, .fr (dat 1 eI zI v17.Seen), .fr (dat 4 eTUnit zTUnit v17.Own), .fr (dat 4 eTUnit zTUnit v17.Enemies)] false), (1001, .arr 1 v19.1.length (fF eI zI v19.1) false)] (fun t => aI (Nat.le_refl v19.1.length) (aI ((FnOk.le2 (xs := [.c (dat 1 eI zI v19.1), .c (.old (dat 1 eI zI v13.1))]) (l_eqIntS_ok v19.1 v13.1 v25 h26) ⟨LeD.refl _, LeD.old _, trivial⟩).up glTs) (aI c27 (aI c27 (aI c27 (aI c27 (t))))))) (by kernel_rfl) ?_
        rcases ofCond H with ⟨c28, H⟩ | ⟨c28, H⟩
        · refine ite_t c28 (by kernel_rfl) ?_
          refine seq_ops [] [] [(6, cB false)] [] (fun t => t) (by kernel_rfl) ?_
          refine ends_ret ?_
          cases H
        · refine ite_f c28 (by kernel_rfl) ?_
          refine ends_skip ?_
          change EndsI _ _ _ _ _ _
          refine seq_in ?_
          obtain ⟨v34, h35, H⟩ := ofBind H
          obtain ⟨v36, h37, H⟩ := ofBind H
          refine seq_draw [.res (.agg [.fr (dat 5 eTTerrain zTTerrain v34.Rules.Terrains), .fr (dat 6 eTKind zTKind v34.Rules.Kinds), .int .i64 v34.Rules.Stack, .int .i64 v34.Rules.River, .int .i64 v34.Rules.Road, .int .i64 v34.Rules.Supply, .int .i64 v34.Rules.Turns, .int .i64 v34.Map.Width, .int .i64 v34.Map.Height, .fr (dat 1 eI zI v34.Map.Terrain), .fr (dat 1 eI zI v34.Map.Rivers), .fr (dat 1 eI zI v34.Map.Roads)]), .res (cB v36)] [] [(2, cI p2), (3, .c (.pk 3 0)), (4, .c (.pk 4 0)), (8, .c (.old (dat 1 eI zI v13.1))), (9, cB v13.2), (10, .c (.pk 10 0)), (11, .c (.pk 11 0)), (12, .c (.own 1001 1 0 v19.1.length)), (13, cB v19.2), (62, cB (!v36))] [(3, .var [.old (dat 5 eTTerrain zTTerrain p0.Rules.Terrains), .old (dat 6 eTKind zTKind p0.Rules.Kinds), .int .i64 p0.Rules.Stack, .int .i64 p0.Rules.River, .int .i64 p0.Rules.Road, .int .i64 p0.Rules.Supply, .int .i64 p0.Rules.Turns, .int .i64 p0.Map.Width, .int .i64 p0.Map.Height, .old (dat 1 eI zI p0.Map.Terrain), .old (dat 1 eI zI p0.Map.Rivers), .old (dat 1 eI zI p0.Map.Roads)] false), (4, .var [.int .i64 p1.Side, .int .i64 p1.Turn, .int .i64 p1.Weather, .old (dat 1 eI zI p1.Seen), .old (dat 4 eTUnit zTUnit p1.Own), .old (dat 4 eTUnit zTUnit p1.Enemies)] false), (10, .var [.fr (dat 5 eTTerrain zTTerrain v15.Rules.Terrains), .fr (dat 6 eTKind zTKind v15.Rules.Kinds), .int .i64 v15.Rules.Stack, .int .i64 v15.Rules.River, .int .i64 v15.Rules.Road, .int .i64 v15.Rules.Supply, .int .i64 v15.Rules.Turns, .int .i64 v15.Map.Width, .int .i64 v15.Map.Height, .fr (dat 1 eI zI v15.Map.Terrain), .fr (dat 1 eI zI v15.Map.Rivers), .fr (dat 1 eI zI v15.Map.Roads)] false), (11, .var [.int .i64 v17.Side, .int .i64 v17.Turn, .int .i64 v17.Weather, .fr (dat 1 eI zI v17.Seen), .fr (dat 4 eTUnit zTUnit v17.Own), .fr (dat 4 eTUnit zTUnit v17.Enemies)] false), (1001, .arr 1 v19.1.length (fF eI zI v19.1) false)] (fun t => aI ((FnOk.le2 (xs := [.agg [.old (dat 5 eTTerrain zTTerrain p0.Rules.Terrains), .old (dat 6 eTKind zTKind p0.Rules.Kinds), .int .i64 p0.Rules.Stack, .int .i64 p0.Rules.River, .int .i64 p0.Rules.Road, .int .i64 p0.Rules.Supply, .int .i64 p0.Rules.Turns, .int .i64 p0.Map.Width, .int .i64 p0.Map.Height, .old (dat 1 eI zI p0.Map.Terrain), .old (dat 1 eI zI p0.Map.Rivers), .old (dat 1 eI zI p0.Map.Roads)]]) (l_toBoard_F_ok p0 v34 h35) ⟨LeD.agg (And.intro (LeC.old _) (And.intro (LeC.old _) (And.intro (LeC.refl _) (And.intro (LeC.refl _) (And.intro (LeC.refl _) (And.intro (LeC.refl _) (And.intro (LeC.refl _) (And.intro (LeC.refl _) (And.intro (LeC.refl _) (And.intro (LeC.old _) (And.intro (LeC.old _) (And.intro (LeC.old _) (trivial))))))))))))), trivial⟩).up glTs) (aI (rfl : ([] : List Nat) = []) (aI (rfl : ([] : List Nat) = []) (aI ((FnOk.le2 (xs := [.agg [.fr (dat 5 eTTerrain zTTerrain v15.Rules.Terrains), .fr (dat 6 eTKind zTKind v15.Rules.Kinds), .int .i64 v15.Rules.Stack, .int .i64 v15.Rules.River, .int .i64 v15.Rules.Road, .int .i64 v15.Rules.Supply, .int .i64 v15.Rules.Turns, .int .i64 v15.Map.Width, .int .i64 v15.Map.Height, .fr (dat 1 eI zI v15.Map.Terrain), .fr (dat 1 eI zI v15.Map.Rivers), .fr (dat 1 eI zI v15.Map.Roads)], .agg [.fr (dat 5 eTTerrain zTTerrain v34.Rules.Terrains), .fr (dat 6 eTKind zTKind v34.Rules.Kinds), .int .i64 v34.Rules.Stack, .int .i64 v34.Rules.River, .int .i64 v34.Rules.Road, .int .i64 v34.Rules.Supply, .int .i64 v34.Rules.Turns, .int .i64 v34.Map.Width, .int .i64 v34.Map.Height, .fr (dat 1 eI zI v34.Map.Terrain), .fr (dat 1 eI zI v34.Map.Rivers), .fr (dat 1 eI zI v34.Map.Roads)]]) (l_eqBoard_ok v15 v34 v36 h37) ⟨LeD.agg (And.intro (LeC.fr _) (And.intro (LeC.fr _) (And.intro (LeC.refl _) (And.intro (LeC.refl _) (And.intro (LeC.refl _) (And.intro (LeC.refl _) (And.intro (LeC.refl _) (And.intro (LeC.refl _) (And.intro (LeC.refl _) (And.intro (LeC.fr _) (And.intro (LeC.fr _) (And.intro (LeC.fr _) (trivial))))))))))))), LeD.agg (And.intro (LeC.fr _) (And.intro (LeC.fr _) (And.intro (LeC.refl _) (And.intro (LeC.refl _) (And.intro (LeC.refl _) (And.intro (LeC.refl _) (And.intro (LeC.refl _) (And.intro (LeC.refl _) (And.intro (LeC.refl _) (And.intro (LeC.fr _) (And.intro (LeC.fr _) (And.intro (LeC.fr _) (trivial))))))))))))), trivial⟩).up glTs) (aI trivial (aI (rfl : ([] : List Nat) = []) (t))))))) (by kernel_rfl) ?_
          rcases ofCond H with ⟨c38, H⟩ | ⟨c38, H⟩
          · refine ite_t c38 (by kernel_rfl) ?_
            refine seq_ops [] [] [(6, cB false)] [] (fun t => t) (by kernel_rfl) ?_
            refine ends_ret ?_
            cases H
          · refine ite_f c38 (by kernel_rfl) ?_
            refine ends_skip ?_
            change EndsI _ _ _ _ _ _
            refine seq_in ?_
            obtain ⟨v44, h45, H⟩ := ofBind H
            obtain ⟨v46, h47, H⟩ := ofBind H
            refine seq_draw [.res (.agg [.int .i64 v44.Side, .int .i64 v44.Turn, .int .i64 v44.Weather, .fr (dat 1 eI zI v44.Seen), .fr (dat 4 eTUnit zTUnit v44.Own), .fr (dat 4 eTUnit zTUnit v44.Enemies)]), .res (cB v46)] [] [(2, cI p2), (3, .c (.pk 3 0)), (4, .c (.pk 4 0)), (8, .c (.old (dat 1 eI zI v13.1))), (9, cB v13.2), (10, .c (.pk 10 0)), (11, .c (.pk 11 0)), (12, .c (.own 1001 1 0 v19.1.length)), (13, cB v19.2), (67, cB (!v46))] [(3, .var [.old (dat 5 eTTerrain zTTerrain p0.Rules.Terrains), .old (dat 6 eTKind zTKind p0.Rules.Kinds), .int .i64 p0.Rules.Stack, .int .i64 p0.Rules.River, .int .i64 p0.Rules.Road, .int .i64 p0.Rules.Supply, .int .i64 p0.Rules.Turns, .int .i64 p0.Map.Width, .int .i64 p0.Map.Height, .old (dat 1 eI zI p0.Map.Terrain), .old (dat 1 eI zI p0.Map.Rivers), .old (dat 1 eI zI p0.Map.Roads)] false), (4, .var [.int .i64 p1.Side, .int .i64 p1.Turn, .int .i64 p1.Weather, .old (dat 1 eI zI p1.Seen), .old (dat 4 eTUnit zTUnit p1.Own), .old (dat 4 eTUnit zTUnit p1.Enemies)] false), (10, .var [.fr (dat 5 eTTerrain zTTerrain v15.Rules.Terrains), .fr (dat 6 eTKind zTKind v15.Rules.Kinds), .int .i64 v15.Rules.Stack, .int .i64 v15.Rules.River, .int .i64 v15.Rules.Road, .int .i64 v15.Rules.Supply, .int .i64 v15.Rules.Turns, .int .i64 v15.Map.Width, .int .i64 v15.Map.Height, .fr (dat 1 eI zI v15.Map.Terrain), .fr (dat 1 eI zI v15.Map.Rivers), .fr (dat 1 eI zI v15.Map.Roads)] false), (11, .var [.int .i64 v17.Side, .int .i64 v17.Turn, .int .i64 v17.Weather, .fr (dat 1 eI zI v17.Seen), .fr (dat 4 eTUnit zTUnit v17.Own), .fr (dat 4 eTUnit zTUnit v17.Enemies)] false), (1001, .arr 1 v19.1.length (fF eI zI v19.1) false)] (fun t => aI ((FnOk.le2 (xs := [.agg [.int .i64 p1.Side, .int .i64 p1.Turn, .int .i64 p1.Weather, .old (dat 1 eI zI p1.Seen), .old (dat 4 eTUnit zTUnit p1.Own), .old (dat 4 eTUnit zTUnit p1.Enemies)]]) (l_toView_F_ok p1 v44 h45) ⟨LeD.agg (And.intro (LeC.refl _) (And.intro (LeC.refl _) (And.intro (LeC.refl _) (And.intro (LeC.old _) (And.intro (LeC.old _) (And.intro (LeC.old _) (trivial))))))), trivial⟩).up glTs) (aI (rfl : ([] : List Nat) = []) (aI (rfl : ([] : List Nat) = []) (aI ((FnOk.le2 (xs := [.agg [.int .i64 v17.Side, .int .i64 v17.Turn, .int .i64 v17.Weather, .fr (dat 1 eI zI v17.Seen), .fr (dat 4 eTUnit zTUnit v17.Own), .fr (dat 4 eTUnit zTUnit v17.Enemies)], .agg [.int .i64 v44.Side, .int .i64 v44.Turn, .int .i64 v44.Weather, .fr (dat 1 eI zI v44.Seen), .fr (dat 4 eTUnit zTUnit v44.Own), .fr (dat 4 eTUnit zTUnit v44.Enemies)]]) (l_eqView_ok v17 v44 v46 h47) ⟨LeD.agg (And.intro (LeC.refl _) (And.intro (LeC.refl _) (And.intro (LeC.refl _) (And.intro (LeC.fr _) (And.intro (LeC.fr _) (And.intro (LeC.fr _) (trivial))))))), LeD.agg (And.intro (LeC.refl _) (And.intro (LeC.refl _) (And.intro (LeC.refl _) (And.intro (LeC.fr _) (And.intro (LeC.fr _) (And.intro (LeC.fr _) (trivial))))))), trivial⟩).up glTs) (aI trivial (aI (rfl : ([] : List Nat) = []) (t))))))) (by kernel_rfl) ?_
            rcases ofCond H with ⟨c48, H⟩ | ⟨c48, H⟩
            · refine ite_t c48 (by kernel_rfl) ?_
              refine seq_ops [] [] [(6, cB false)] [] (fun t => t) (by kernel_rfl) ?_
              refine ends_ret ?_
              cases H
            · refine ite_f c48 (by kernel_rfl) ?_
              refine ends_skip ?_
              change EndsI _ _ _ _ _ _
              refine seq_ops [] [] [(2, cI p2), (3, .c (.pk 3 0)), (4, .c (.pk 4 0)), (8, .c (.old (dat 1 eI zI v13.1))), (9, cB v13.2), (10, .c (.pk 10 0)), (11, .c (.pk 11 0)), (12, .c (.own 1001 1 0 v19.1.length)), (13, cB v19.2), (14, cI 1)] [(3, .var [.old (dat 5 eTTerrain zTTerrain p0.Rules.Terrains), .old (dat 6 eTKind zTKind p0.Rules.Kinds), .int .i64 p0.Rules.Stack, .int .i64 p0.Rules.River, .int .i64 p0.Rules.Road, .int .i64 p0.Rules.Supply, .int .i64 p0.Rules.Turns, .int .i64 p0.Map.Width, .int .i64 p0.Map.Height, .old (dat 1 eI zI p0.Map.Terrain), .old (dat 1 eI zI p0.Map.Rivers), .old (dat 1 eI zI p0.Map.Roads)] false), (4, .var [.int .i64 p1.Side, .int .i64 p1.Turn, .int .i64 p1.Weather, .old (dat 1 eI zI p1.Seen), .old (dat 4 eTUnit zTUnit p1.Own), .old (dat 4 eTUnit zTUnit p1.Enemies)] false), (10, .var [.fr (dat 5 eTTerrain zTTerrain v15.Rules.Terrains), .fr (dat 6 eTKind zTKind v15.Rules.Kinds), .int .i64 v15.Rules.Stack, .int .i64 v15.Rules.River, .int .i64 v15.Rules.Road, .int .i64 v15.Rules.Supply, .int .i64 v15.Rules.Turns, .int .i64 v15.Map.Width, .int .i64 v15.Map.Height, .fr (dat 1 eI zI v15.Map.Terrain), .fr (dat 1 eI zI v15.Map.Rivers), .fr (dat 1 eI zI v15.Map.Roads)] false), (11, .var [.int .i64 v17.Side, .int .i64 v17.Turn, .int .i64 v17.Weather, .fr (dat 1 eI zI v17.Seen), .fr (dat 4 eTUnit zTUnit v17.Own), .fr (dat 4 eTUnit zTUnit v17.Enemies)] false), (1001, .arr 1 v19.1.length (fF eI zI v19.1) false)] (fun t => t) (by kernel_rfl) ?_
              refine tell [] [(2, cI p2), (3, .c (.pk 3 0)), (4, .c (.pk 4 0)), (8, .c (.old (dat 1 eI zI v13.1))), (9, cB v13.2), (10, .c (.pk 10 0)), (11, .c (.pk 11 0)), (12, .c (.own 1001 1 0 v19.1.length)), (13, cB v19.2), (14, cI 1)] [(3, .var [.old (dat 5 eTTerrain zTTerrain p0.Rules.Terrains), .old (dat 6 eTKind zTKind p0.Rules.Kinds), .int .i64 p0.Rules.Stack, .int .i64 p0.Rules.River, .int .i64 p0.Rules.Road, .int .i64 p0.Rules.Supply, .int .i64 p0.Rules.Turns, .int .i64 p0.Map.Width, .int .i64 p0.Map.Height, .old (dat 1 eI zI p0.Map.Terrain), .old (dat 1 eI zI p0.Map.Rivers), .old (dat 1 eI zI p0.Map.Roads)] false), (4, .var [.int .i64 p1.Side, .int .i64 p1.Turn, .int .i64 p1.Weather, .old (dat 1 eI zI p1.Seen), .old (dat 4 eTUnit zTUnit p1.Own), .old (dat 4 eTUnit zTUnit p1.Enemies)] false), (10, .var [.fr (dat 5 eTTerrain zTTerrain v15.Rules.Terrains), .fr (dat 6 eTKind zTKind v15.Rules.Kinds), .int .i64 v15.Rules.Stack, .int .i64 v15.Rules.River, .int .i64 v15.Rules.Road, .int .i64 v15.Rules.Supply, .int .i64 v15.Rules.Turns, .int .i64 v15.Map.Width, .int .i64 v15.Map.Height, .fr (dat 1 eI zI v15.Map.Terrain), .fr (dat 1 eI zI v15.Map.Rivers), .fr (dat 1 eI zI v15.Map.Roads)] false), (11, .var [.int .i64 v17.Side, .int .i64 v17.Turn, .int .i64 v17.Weather, .fr (dat 1 eI zI v17.Seen), .fr (dat 4 eTUnit zTUnit v17.Own), .fr (dat 4 eTUnit zTUnit v17.Enemies)] false), (1001, .arr 1 v19.1.length (fF eI zI v19.1) false)] (fun t => t) (by kernel_rfl) ?_
              refine turn (E := [(2, cI p2), (3, .c (.pk 3 0)), (4, .c (.pk 4 0)), (8, .c (.old (dat 1 eI zI v13.1))), (9, cB v13.2), (10, .c (.pk 10 0)), (11, .c (.pk 11 0)), (12, .c (.own 1001 1 0 v19.1.length)), (13, cB v19.2), (14, cI 1)]) (E' := [(2, cI p2), (3, .c (.pk 3 0)), (4, .c (.pk 4 0)), (8, .c (dat 1 eI zI v13.1)), (9, cB v13.2), (10, .c (.pk 10 0)), (11, .c (.pk 11 0)), (12, .c (.own 1001 1 0 v19.1.length)), (13, cB v19.2), (14, cI 1)]) (H := [(3, .var [.old (dat 5 eTTerrain zTTerrain p0.Rules.Terrains), .old (dat 6 eTKind zTKind p0.Rules.Kinds), .int .i64 p0.Rules.Stack, .int .i64 p0.Rules.River, .int .i64 p0.Rules.Road, .int .i64 p0.Rules.Supply, .int .i64 p0.Rules.Turns, .int .i64 p0.Map.Width, .int .i64 p0.Map.Height, .old (dat 1 eI zI p0.Map.Terrain), .old (dat 1 eI zI p0.Map.Rivers), .old (dat 1 eI zI p0.Map.Roads)] false), (4, .var [.int .i64 p1.Side, .int .i64 p1.Turn, .int .i64 p1.Weather, .old (dat 1 eI zI p1.Seen), .old (dat 4 eTUnit zTUnit p1.Own), .old (dat 4 eTUnit zTUnit p1.Enemies)] false), (10, .var [.fr (dat 5 eTTerrain zTTerrain v15.Rules.Terrains), .fr (dat 6 eTKind zTKind v15.Rules.Kinds), .int .i64 v15.Rules.Stack, .int .i64 v15.Rules.River, .int .i64 v15.Rules.Road, .int .i64 v15.Rules.Supply, .int .i64 v15.Rules.Turns, .int .i64 v15.Map.Width, .int .i64 v15.Map.Height, .fr (dat 1 eI zI v15.Map.Terrain), .fr (dat 1 eI zI v15.Map.Rivers), .fr (dat 1 eI zI v15.Map.Roads)] false), (11, .var [.int .i64 v17.Side, .int .i64 v17.Turn, .int .i64 v17.Weather, .fr (dat 1 eI zI v17.Seen), .fr (dat 4 eTUnit zTUnit v17.Own), .fr (dat 4 eTUnit zTUnit v17.Enemies)] false), (1001, .arr 1 v19.1.length (fF eI zI v19.1) false)]) (H' := [(3, .var (eTBoard p0) false), (4, .var (eTView p1) false), (10, .var [.lv (dat 5 eTTerrain zTTerrain v15.Rules.Terrains), .lv (dat 6 eTKind zTKind v15.Rules.Kinds), .int .i64 v15.Rules.Stack, .int .i64 v15.Rules.River, .int .i64 v15.Rules.Road, .int .i64 v15.Rules.Supply, .int .i64 v15.Rules.Turns, .int .i64 v15.Map.Width, .int .i64 v15.Map.Height, .lv (dat 1 eI zI v15.Map.Terrain), .lv (dat 1 eI zI v15.Map.Rivers), .lv (dat 1 eI zI v15.Map.Roads)] false), (11, .var [.int .i64 v17.Side, .int .i64 v17.Turn, .int .i64 v17.Weather, .lv (dat 1 eI zI v17.Seen), .lv (dat 4 eTUnit zTUnit v17.Own), .lv (dat 4 eTUnit zTUnit v17.Enemies)] false), (1001, .arr 1 v19.1.length (fF eI zI v19.1) false)]) glTn (And.intro (And.intro rfl (tS (.int .i64 p2) rfl)) (And.intro (And.intro rfl (tS (.pk 3 0) rfl)) (And.intro (And.intro rfl (tS (.pk 4 0) rfl)) (And.intro (And.intro rfl (tO (dat 1 eI zI v13.1))) (And.intro (And.intro rfl (tS (.bool v13.2) rfl)) (And.intro (And.intro rfl (tS (.pk 10 0) rfl)) (And.intro (And.intro rfl (tS (.pk 11 0) rfl)) (And.intro (And.intro rfl (tS (.own 1001 1 0 v19.1.length) rfl)) (And.intro (And.intro rfl (tS (.bool v19.2) rfl)) (And.intro (And.intro rfl (tS (.int .i64 1) rfl)) trivial)))))))))) (And.intro (And.intro rfl (And.intro (tO (dat 5 eTTerrain zTTerrain p0.Rules.Terrains)) (And.intro (tO (dat 6 eTKind zTKind p0.Rules.Kinds)) (And.intro (tS (.int .i64 p0.Rules.Stack) rfl) (And.intro (tS (.int .i64 p0.Rules.River) rfl) (And.intro (tS (.int .i64 p0.Rules.Road) rfl) (And.intro (tS (.int .i64 p0.Rules.Supply) rfl) (And.intro (tS (.int .i64 p0.Rules.Turns) rfl) (And.intro (tS (.int .i64 p0.Map.Width) rfl) (And.intro (tS (.int .i64 p0.Map.Height) rfl) (And.intro (tO (dat 1 eI zI p0.Map.Terrain)) (And.intro (tO (dat 1 eI zI p0.Map.Rivers)) (And.intro (tO (dat 1 eI zI p0.Map.Roads)) trivial))))))))))))) (And.intro (And.intro rfl (And.intro (tS (.int .i64 p1.Side) rfl) (And.intro (tS (.int .i64 p1.Turn) rfl) (And.intro (tS (.int .i64 p1.Weather) rfl) (And.intro (tO (dat 1 eI zI p1.Seen)) (And.intro (tO (dat 4 eTUnit zTUnit p1.Own)) (And.intro (tO (dat 4 eTUnit zTUnit p1.Enemies)) trivial))))))) (And.intro (And.intro rfl (And.intro (tF (dat 5 eTTerrain zTTerrain v15.Rules.Terrains) rfl (.dat shTTerrain)) (And.intro (tF (dat 6 eTKind zTKind v15.Rules.Kinds) rfl (.dat shTKind)) (And.intro (tS (.int .i64 v15.Rules.Stack) rfl) (And.intro (tS (.int .i64 v15.Rules.River) rfl) (And.intro (tS (.int .i64 v15.Rules.Road) rfl) (And.intro (tS (.int .i64 v15.Rules.Supply) rfl) (And.intro (tS (.int .i64 v15.Rules.Turns) rfl) (And.intro (tS (.int .i64 v15.Map.Width) rfl) (And.intro (tS (.int .i64 v15.Map.Height) rfl) (And.intro (tF (dat 1 eI zI v15.Map.Terrain) rfl (.dat shI)) (And.intro (tF (dat 1 eI zI v15.Map.Rivers) rfl (.dat shI)) (And.intro (tF (dat 1 eI zI v15.Map.Roads) rfl (.dat shI)) trivial))))))))))))) (And.intro (And.intro rfl (And.intro (tS (.int .i64 v17.Side) rfl) (And.intro (tS (.int .i64 v17.Turn) rfl) (And.intro (tS (.int .i64 v17.Weather) rfl) (And.intro (tF (dat 1 eI zI v17.Seen) rfl (.dat shI)) (And.intro (tF (dat 4 eTUnit zTUnit v17.Own) rfl (.dat shTUnit)) (And.intro (tF (dat 4 eTUnit zTUnit v17.Enemies) rfl (.dat shTUnit)) trivial))))))) (And.intro (And.intro rfl ⟨rfl, rfl, rfl, fun i _ => rfl⟩) trivial))))) ?_
              obtain ⟨v49, h50, H⟩ := ofBind H
              refine seq_ops [.res (cI v49)] [] [(2, cI p2), (3, .c (.pk 3 0)), (4, .c (.pk 4 0)), (8, .c (dat 1 eI zI v13.1)), (9, cB v13.2), (11, .c (.pk 11 0)), (12, .c (.own 1001 1 0 v19.1.length)), (13, cB v19.2), (14, cI v49)] [(3, .var (eTBoard p0) false), (4, .var (eTView p1) false), (11, .var [.int .i64 v17.Side, .int .i64 v17.Turn, .int .i64 v17.Weather, .lv (dat 1 eI zI v17.Seen), .lv (dat 4 eTUnit zTUnit v17.Own), .lv (dat 4 eTUnit zTUnit v17.Enemies)] false), (1001, .arr 1 v19.1.length (fF eI zI v19.1) false)] (fun t => aI ((l_markBoard_L_ok v15 1 v49 h50).up glTs) (t)) (by kernel_rfl) ?_
              obtain ⟨v51, h52, H⟩ := ofBind H
              refine seq_ops [.res (cI v51)] [] [(2, cI p2), (3, .c (.pk 3 0)), (4, .c (.pk 4 0)), (8, .c (dat 1 eI zI v13.1)), (9, cB v13.2), (12, .c (.own 1001 1 0 v19.1.length)), (13, cB v19.2), (14, cI v51)] [(3, .var (eTBoard p0) false), (4, .var (eTView p1) false), (1001, .arr 1 v19.1.length (fF eI zI v19.1) false)] (fun t => aI ((l_markView_L_ok v17 v49 v51 h52).up glTs) (t)) (by kernel_rfl) ?_
              refine seq_in ?_
              rcases ofCond H with ⟨c57, H⟩ | ⟨c57, H⟩
              · refine seq_ops [.g true, .g true, .g true, .g true, .g true, .g true, .g true, .g true, .g true] [] [(2, cI p2), (3, .c (.pk 3 0)), (4, .c (.pk 4 0)), (8, .c (dat 1 eI zI v13.1)), (9, cB v13.2), (12, .c (.own 1001 1 0 v19.1.length)), (86, cB true)] [(3, .var (eTBoard p0) false), (4, .var (eTView p1) false), (1001, .arr 1 v19.1.length (fF eI zI v19.1) false)] (fun t => aI c57 (aI c57 (aI c57 (aI c57 (aI c57 (aI (rfl : (true : Bool) = true) (aI (rfl : (true : Bool) = true) (aI (rfl : (true : Bool) = true) (aI (rfl : (true : Bool) = true) (t)))))))))) (by kernel_rfl) ?_
                refine ite_t (rfl : (true : Bool) = true) (by kernel_rfl) ?_
                refine seq_ops [] [] [(6, cB false)] [] (fun t => t) (by kernel_rfl) ?_
                refine ends_ret ?_
                cases H
              · obtain ⟨v58, h59, H⟩ := ofBind H
                rcases ofCond H with ⟨c60, H⟩ | ⟨c60, H⟩
                · refine seq_ops [.g false, .g false, .g false, .res (cB v58), .g false, .g false, .g true, .g true, .g true, .g true] [] [(2, cI p2), (3, .c (.pk 3 0)), (4, .c (.pk 4 0)), (8, .c (dat 1 eI zI v13.1)), (9, cB v13.2), (12, .c (.own 1001 1 0 v19.1.length)), (86, cB true)] [(3, .var (eTBoard p0) false), (4, .var (eTView p1) false), (1001, .arr 1 v19.1.length (fF eI zI v19.1) false)] (fun t => aI c57 (aI c57 (aI c57 (aI (Nat.le_refl v19.1.length) (aI ((l_eqIntS_ok v19.1 v13.1 v58 h59).up glTs) (aI c57 (aI c57 (aI c60 (aI c60 (aI c60 (aI c60 (t)))))))))))) (by kernel_rfl) ?_
                  refine ite_t (rfl : (true : Bool) = true) (by kernel_rfl) ?_
                  refine seq_ops [] [] [(6, cB false)] [] (fun t => t) (by kernel_rfl) ?_
                  refine ends_ret ?_
                  cases H
                · refine seq_ops [.g false, .g false, .g false, .res (cB v58), .g false, .g false, .g false, .g false, .g false, .g false] [] [(2, cI p2), (3, .c (.pk 3 0)), (4, .c (.pk 4 0)), (8, .c (dat 1 eI zI v13.1)), (9, cB v13.2), (12, .c (.own 1001 1 0 v19.1.length)), (86, cB (!(v19.2 == v13.2)))] [(3, .var (eTBoard p0) false), (4, .var (eTView p1) false), (1001, .arr 1 v19.1.length (fF eI zI v19.1) false)] (fun t => aI c57 (aI c57 (aI c57 (aI (Nat.le_refl v19.1.length) (aI ((l_eqIntS_ok v19.1 v13.1 v58 h59).up glTs) (aI c57 (aI c57 (aI c60 (aI c60 (aI c60 (aI c60 (t)))))))))))) (by kernel_rfl) ?_
                  refine ite_f c28 (by kernel_rfl) ?_
                  refine ends_skip ?_
                  change EndsI _ _ _ _ _ _
                  refine seq_ops [] [] [(2, cI p2), (3, .c (.pk 3 0)), (4, .c (.pk 4 0)), (8, .c (dat 1 eI zI v13.1)), (9, cB v13.2), (12, .c (.own 1001 1 0 v19.1.length)), (15, cI 1)] [(3, .var (eTBoard p0) false), (4, .var (eTView p1) false), (1001, .arr 1 v19.1.length (fF eI zI v19.1) false)] (fun t => t) (by kernel_rfl) ?_
                  obtain ⟨v61, h62, H⟩ := ofBind H
                  obtain ⟨g63, H⟩ := ofIf H
                  refine seq_ops [.mu [(1001, 1000000)] [(1000000, 1001)] (cI v61.1) [(1000000, .arr 1 v61.2.length (fF eI zI v61.2) false)]] [.rel 12 v61.2.length, .rel 87 v61.2.length] [(2, cI p2), (3, .c (.pk 3 0)), (4, .c (.pk 4 0)), (8, .c (dat 1 eI zI v13.1)), (9, cB v13.2), (12, .c (.own 1001 1 0 v61.2.length)), (15, cI v61.1)] [(3, .var (eTBoard p0) false), (4, .var (eTView p1) false), (1001, .arr 1 v61.2.length (fF eI zI v61.2) false)] (fun t => aI ((l_markIntS_Mod_ok v19.1 1 v61 h62).up glTs) (aI (Eq.symm g63) (aI (Eq.symm g63) (t)))) (by kernel_rfl) ?_
                  refine seq_ops [] [] [(2, cI p2), (3, .c (.pk 3 0)), (4, .c (.pk 4 0)), (8, .c (dat 1 eI zI v13.1)), (9, cB v13.2), (12, .c (.own 1001 1 0 v61.2.length)), (15, cI v61.1), (16, cI 1)] [(3, .var (eTBoard p0) false), (4, .var (eTView p1) false), (1001, .arr 1 v61.2.length (fF eI zI v61.2) false)] (fun t => t) (by kernel_rfl) ?_
                  obtain ⟨v64, h65, H⟩ := ofBind H
                  refine seq_ops [.res (cI v64)] [] [(2, cI p2), (3, .c (.pk 3 0)), (4, .c (.pk 4 0)), (8, .c (dat 1 eI zI v13.1)), (9, cB v13.2), (12, .c (.own 1001 1 0 v61.2.length)), (15, cI v61.1), (16, cI v64)] [(3, .var (eTBoard p0) false), (4, .var (eTView p1) false), (1001, .arr 1 v61.2.length (fF eI zI v61.2) false)] (fun t => aI (Nat.le_refl v61.2.length) (aI ((l_heldIntS_ok v61.2 1 v64 h65).up glTs) (t))) (by kernel_rfl) ?_
                  refine seq_in ?_
                  refine seq_ops [] [] [(2, cI p2), (3, .c (.pk 3 0)), (4, .c (.pk 4 0)), (8, .c (dat 1 eI zI v13.1)), (9, cB v13.2), (12, .c (.own 1001 1 0 v61.2.length)), (15, cI v61.1), (16, cI v64), (94, cB (decide (v64 < 0)))] [(3, .var (eTBoard p0) false), (4, .var (eTView p1) false), (1001, .arr 1 v61.2.length (fF eI zI v61.2) false)] (fun t => t) (by kernel_rfl) ?_
                  rcases ofCond H with ⟨c67, H⟩ | ⟨c67, H⟩
                  · refine ite_t c67 (by kernel_rfl) ?_
                    refine seq_ops [] [] [(6, cB false)] [] (fun t => t) (by kernel_rfl) ?_
                    refine ends_ret ?_
                    cases H
                  · refine ite_f c67 (by kernel_rfl) ?_
                    refine ends_skip ?_
                    change EndsI _ _ _ _ _ _
                    refine seq_in ?_
                    refine seq_ops [] [] [(2, cI p2), (3, .c (.pk 3 0)), (4, .c (.pk 4 0)), (8, .c (dat 1 eI zI v13.1)), (9, cB v13.2), (12, .c (.own 1001 1 0 v61.2.length)), (15, cI v61.1), (97, cB (v64 != v61.1))] [(3, .var (eTBoard p0) false), (4, .var (eTView p1) false), (1001, .arr 1 v61.2.length (fF eI zI v61.2) false)] (fun t => t) (by kernel_rfl) ?_
                    rcases ofCond H with ⟨c69, H⟩ | ⟨c69, H⟩
                    · refine ite_t c69 (by kernel_rfl) ?_
                      refine seq_ops [] [] [(6, cB false)] [] (fun t => t) (by kernel_rfl) ?_
                      refine ends_ret ?_
                      cases H
                    · refine ite_f c69 (by kernel_rfl) ?_
                      refine ends_skip ?_
                      change EndsI _ _ _ _ _ _
                      obtain ⟨v70, h71, H⟩ := ofBind H
                      obtain ⟨v72, h73, H⟩ := ofBind H
                      obtain ⟨v74, h75, H⟩ := ofBind H
                      refine seq_draw [.res (.agg (eTBoard v70)), .res (.agg (eTView v72)), .res (.tup [(false, [dat 1 eI zI v74.1]), (false, [.bool v74.2])])] [] [(8, .c (dat 1 eI zI v13.1)), (9, cB v13.2), (12, .c (.own 1001 1 0 v61.2.length)), (15, cI v61.1), (17, .c (dat 1 eI zI v74.1)), (18, cB v74.2)] [(1001, .arr 1 v61.2.length (fF eI zI v61.2) false)] (fun t => aI ((l_toBoard_ok p0 v70 h71).up glTs) (aI (rfl : ([] : List Nat) = []) (aI (rfl : ([] : List Nat) = []) (aI ((l_toView_ok p1 v72 h73).up glTs) (aI (rfl : ([] : List Nat) = []) (aI (rfl : ([] : List Nat) = []) (aI ((i_MayHide_ok v70 v72 p2 v74 h75).up glTs) (aI (rfl : ([] : List Nat) = []) (aI (rfl : ([] : List Nat) = []) (t)))))))))) (by kernel_rfl) ?_
                      refine seq_in ?_
                      obtain ⟨v80, h81, H⟩ := ofBind H
                      rcases ofCond H with ⟨c82, H⟩ | ⟨c82, H⟩
                      · refine seq_ops [.res (cB v80), .g true, .g true, .g true, .g true] [] [(12, .c (.own 1001 1 0 v61.2.length)), (15, cI v61.1), (115, cB true)] [(1001, .arr 1 v61.2.length (fF eI zI v61.2) false)] (fun t => aI ((l_eqIntS_ok v74.1 v13.1 v80 h81).up glTs) (aI c82 (aI c82 (aI c82 (aI c82 (t)))))) (by kernel_rfl) ?_
                        refine ite_t (rfl : (true : Bool) = true) (by kernel_rfl) ?_
                        refine seq_ops [] [] [(6, cB false)] [] (fun t => t) (by kernel_rfl) ?_
                        refine ends_ret ?_
                        cases H
                      · refine seq_ops [.res (cB v80), .g false, .g false, .g false, .g false] [] [(12, .c (.own 1001 1 0 v61.2.length)), (15, cI v61.1), (115, cB (!(v74.2 == v13.2)))] [(1001, .arr 1 v61.2.length (fF eI zI v61.2) false)] (fun t => aI ((l_eqIntS_ok v74.1 v13.1 v80 h81).up glTs) (aI c82 (aI c82 (aI c82 (aI c82 (t)))))) (by kernel_rfl) ?_
                        rcases ofCond H with ⟨c83, H⟩ | ⟨c83, H⟩
                        · refine ite_t c83 (by kernel_rfl) ?_
                          refine seq_ops [] [] [(6, cB false)] [] (fun t => t) (by kernel_rfl) ?_
                          refine ends_ret ?_
                          cases H
                        · refine ite_f c83 (by kernel_rfl) ?_
                          refine ends_skip ?_
                          change EndsI _ _ _ _ _ _
                          refine seq_ops [] [] [(12, .c (.own 1001 1 0 v61.2.length)), (15, cI v61.1), (16, cI 1)] [(1001, .arr 1 v61.2.length (fF eI zI v61.2) false)] (fun t => t) (by kernel_rfl) ?_
                          obtain ⟨v84, h85, H⟩ := ofBind H
                          refine seq_ops [.res (cI v84)] [] [(15, cI v61.1), (16, cI v84)] [] (fun t => aI (Nat.le_refl v61.2.length) (aI ((l_heldIntS_ok v61.2 1 v84 h85).up glTs) (t))) (by kernel_rfl) ?_
                          refine seq_in ?_
                          refine seq_ops [] [] [(15, cI v61.1), (16, cI v84), (120, cB (decide (v84 < 0)))] [] (fun t => t) (by kernel_rfl) ?_
                          rcases ofCond H with ⟨c87, H⟩ | ⟨c87, H⟩
                          · refine ite_t c87 (by kernel_rfl) ?_
                            refine seq_ops [] [] [(6, cB false)] [] (fun t => t) (by kernel_rfl) ?_
                            refine ends_ret ?_
                            cases H
                          · refine ite_f c87 (by kernel_rfl) ?_
                            refine ends_skip ?_
                            change EndsI _ _ _ _ _ _
                            refine seq_in ?_
                            refine seq_ops [] [] [(123, cB (v84 != v61.1))] [] (fun t => t) (by kernel_rfl) ?_
                            rcases ofCond H with ⟨c88, H⟩ | ⟨c88, H⟩
                            · refine ite_t c88 (by kernel_rfl) ?_
                              refine seq_ops [] [] [(6, cB false)] [] (fun t => t) (by kernel_rfl) ?_
                              refine ends_ret ?_
                              cases H
                            · refine ite_f c88 (by kernel_rfl) ?_
                              refine ends_skip ?_
                              change EndsI _ _ _ _ _ _
                              refine seq_ops [] [] [(6, cB true)] [] (fun t => t) (by kernel_rfl) ?_
                              refine ends_ret ?_
                              exact And.intro (.inl rfl) rfl

end Go.Proofs.YtociagbpecpcnaaGreatDoor.X0
