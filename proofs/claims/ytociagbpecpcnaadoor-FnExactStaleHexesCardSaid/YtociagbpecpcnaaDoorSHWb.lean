/- What each Go function that FnExactStaleHexes reaches computes, and that it returns so; no condition. -/
import Derived.Test.YtociagbpecpcnaaDoorSHWa
set_option linter.unusedVariables false
set_option linter.unusedSimpArgs false
set_option maxRecDepth 100000
namespace Go.Proofs.YtociagbpecpcnaaDoor.X0
open Go Go.RowKit Go.Proofs.YtociagbpecpcnaaDoor.Ab Go.Proofs

def i_goodTerrain_ir : S :=
 (.seq (.ops [⟨some 2, .box 5 (.t 0), none⟩, ⟨some 4, .mv (.v (.bool false)), none⟩])
 (.seq (.seq (.ops [⟨some 5, .fad 0 (.t 2), none⟩, ⟨some 6, .load 1 false (.t 5), none⟩, ⟨some 7, .call 84 [.t 6], none⟩, ⟨some 8, .not (.t 7), none⟩, ⟨some 9, .mv (.t 8), none⟩, ⟨some 10, .fad 1 (.t 2), some (9, false)⟩, ⟨some 11, .load 1 false (.t 10), some (9, false)⟩, ⟨some 12, .len (.t 11), some (9, false)⟩, ⟨some 13, .mv (.t 1), some (9, false)⟩, ⟨some 14, .bin .neq (.t 12) (.t 13), some (9, false)⟩, ⟨some 15, .pick (.t 9) (.v (.bool true)) (.t 14), none⟩, ⟨some 16, .mv (.t 15), none⟩, ⟨some 17, .fad 2 (.t 2), some (16, false)⟩, ⟨some 18, .load 1 false (.t 17), some (16, false)⟩, ⟨some 19, .call 34 [.t 18, .v (.int .i64 (-3)), .v (.int .i64 3)], some (16, false)⟩, ⟨some 20, .not (.t 19), some (16, false)⟩, ⟨some 21, .pick (.t 16) (.v (.bool true)) (.t 20), none⟩, ⟨some 22, .mv (.t 21), none⟩, ⟨some 23, .fad 3 (.t 2), some (22, false)⟩, ⟨some 24, .load 1 false (.t 23), some (22, false)⟩, ⟨some 25, .call 34 [.t 24, .v (.int .i64 0), .v (.int .i64 3)], some (22, false)⟩, ⟨some 26, .not (.t 25), some (22, false)⟩, ⟨some 27, .pick (.t 22) (.v (.bool true)) (.t 26), none⟩])
 (.ite (.t 27) (.seq (.ops [⟨some 4, .mv (.v (.bool false)), none⟩])
  .ret)
 .skip))
 (.seq (.ops [⟨some 28, .fad 1 (.t 2), none⟩, ⟨some 29, .load 1 false (.t 28), none⟩, ⟨some 30, .call 54 [.t 29, .f 85], none⟩, ⟨some 31, .not (.t 30), none⟩, ⟨some 4, .mv (.t 31), none⟩])
 .ret)))
noncomputable def X.i_goodTerrain (p0 : TTerrain) (p1 : Int) : Option Bool :=
  ((X.i_isName p0.Name).bind fun v1 => (bif (!v1) then some false else (bif ((p0.Cost.length : Int) != p1) then some false else ((X.i_inRange p0.Shift (-3) 3).bind fun v5 => (bif (!v5) then some false else ((X.i_inRange p0.Height 0 3).bind fun v8 => (bif (!v8) then some false else ((X.g_ContainsFunc_int p0.Cost (fun q0 => X.i_goodTerrain_1 q0)).bind fun v11 => some (!v11)))))))))
theorem i_goodTerrain_ok (p0 : TTerrain) (p1 : Int) (r : Bool) (H : X.i_goodTerrain p0 p1 = some r) : FnOk Tryd.prog gl 67 [.agg (eTTerrain p0), cI p1] (cB r) := by
  unfold X.i_goodTerrain at H
  refine fn_in (fn := Tryd.f67) (ir := i_goodTerrain_ir) (s1 := lit [(4, cB r)] []) glL Tryd.func67 (by kernel_rfl) (by kernel_rfl) (by kernel_rfl) (by kernel_rfl) (by kernel_rfl) ?_
  refine seq_ops [] [] [(1, cI p1), (2, .c (.pk 2 0))] [(2, .var (eTTerrain p0) false)] (fun t => t) (by kernel_rfl) ?_
  refine seq_in ?_
  obtain ⟨v1, h2, H⟩ := ofBind H
  rcases ofCond H with ⟨c3, H⟩ | ⟨c3, H⟩
  · refine seq_ops [.res (cB v1), .g true, .g true, .g true, .g true, .g true, .g true, .g true, .g true, .g true, .g true, .g true, .g true, .g true, .g true, .g true, .g true] [] [(2, .c (.pk 2 0)), (27, cB true)] [(2, .var (eTTerrain p0) false)] (fun t => aI (i_isName_ok p0.Name v1 h2) (aI c3 (aI c3 (aI c3 (aI c3 (aI c3 (aI c3 (aI (rfl : (true : Bool) = true) (aI (rfl : (true : Bool) = true) (aI (rfl : (true : Bool) = true) (aI (rfl : (true : Bool) = true) (aI (rfl : (true : Bool) = true) (aI (rfl : (true : Bool) = true) (aI (rfl : (true : Bool) = true) (aI (rfl : (true : Bool) = true) (aI (rfl : (true : Bool) = true) (aI (rfl : (true : Bool) = true) (t)))))))))))))))))) (by kernel_rfl) ?_
    refine ite_t (rfl : (true : Bool) = true) (by kernel_rfl) ?_
    refine seq_ops [] [] [(4, cB false)] [] (fun t => t) (by kernel_rfl) ?_
    refine ends_ret ?_
    obtain rfl := Option.some.inj H
    exact And.intro (.inl rfl) rfl
  · rcases ofCond H with ⟨c4, H⟩ | ⟨c4, H⟩
    · refine seq_ops [.res (cB v1), .g false, .g false, .g false, .g false, .g false, .g false, .g true, .g true, .g true, .g true, .g true, .g true, .g true, .g true, .g true, .g true] [] [(2, .c (.pk 2 0)), (27, cB true)] [(2, .var (eTTerrain p0) false)] (fun t => aI (i_isName_ok p0.Name v1 h2) (aI c3 (aI c3 (aI c3 (lI p0.Cost (aI c3 (aI c3 (aI c3 (aI c4 (aI c4 (aI c4 (aI c4 (aI c4 (aI (rfl : (true : Bool) = true) (aI (rfl : (true : Bool) = true) (aI (rfl : (true : Bool) = true) (aI (rfl : (true : Bool) = true) (aI (rfl : (true : Bool) = true) (t))))))))))))))))))) (by kernel_rfl) ?_
      refine ite_t (rfl : (true : Bool) = true) (by kernel_rfl) ?_
      refine seq_ops [] [] [(4, cB false)] [] (fun t => t) (by kernel_rfl) ?_
      refine ends_ret ?_
      obtain rfl := Option.some.inj H
      exact And.intro (.inl rfl) rfl
    · obtain ⟨v5, h6, H⟩ := ofBind H
      rcases ofCond H with ⟨c7, H⟩ | ⟨c7, H⟩
      · refine seq_ops [.res (cB v1), .g false, .g false, .g false, .g false, .g false, .g false, .g false, .g false, .g false, .res (cB v5), .g false, .g false, .g true, .g true, .g true, .g true, .g true] [] [(2, .c (.pk 2 0)), (27, cB true)] [(2, .var (eTTerrain p0) false)] (fun t => aI (i_isName_ok p0.Name v1 h2) (aI c3 (aI c3 (aI c3 (lI p0.Cost (aI c3 (aI c3 (aI c3 (aI c4 (aI c4 (aI c4 (aI (i_inRange_ok p0.Shift (-3) 3 v5 h6) (aI c4 (aI c4 (aI c7 (aI c7 (aI c7 (aI c7 (aI c7 (t)))))))))))))))))))) (by kernel_rfl) ?_
        refine ite_t (rfl : (true : Bool) = true) (by kernel_rfl) ?_
        refine seq_ops [] [] [(4, cB false)] [] (fun t => t) (by kernel_rfl) ?_
        refine ends_ret ?_
        obtain rfl := Option.some.inj H
        exact And.intro (.inl rfl) rfl
      · obtain ⟨v8, h9, H⟩ := ofBind H
        refine seq_ops [.res (cB v1), .g false, .g false, .g false, .g false, .g false, .g false, .g false, .g false, .g false, .res (cB v5), .g false, .g false, .g false, .g false, .g false, .res (cB v8), .g false, .g false] [] [(2, .c (.pk 2 0)), (27, cB (!v8))] [(2, .var (eTTerrain p0) false)] (fun t => aI (i_isName_ok p0.Name v1 h2) (aI c3 (aI c3 (aI c3 (lI p0.Cost (aI c3 (aI c3 (aI c3 (aI c4 (aI c4 (aI c4 (aI (i_inRange_ok p0.Shift (-3) 3 v5 h6) (aI c4 (aI c4 (aI c7 (aI c7 (aI c7 (aI (i_inRange_ok p0.Height 0 3 v8 h9) (aI c7 (aI c7 (t))))))))))))))))))))) (by kernel_rfl) ?_
        rcases ofCond H with ⟨c10, H⟩ | ⟨c10, H⟩
        · refine ite_t c10 (by kernel_rfl) ?_
          refine seq_ops [] [] [(4, cB false)] [] (fun t => t) (by kernel_rfl) ?_
          refine ends_ret ?_
          obtain rfl := Option.some.inj H
          exact And.intro (.inl rfl) rfl
        · refine ite_f c10 (by kernel_rfl) ?_
          refine ends_skip ?_
          change EndsI _ _ _ _ _ _
          obtain ⟨v11, h12, H⟩ := ofBind H
          refine seq_ops [.res (cB v11)] [] [(4, cB (!v11))] [] (fun t => aI (g_ContainsFunc_int_c0_ok p0.Cost (85) (fun q0 => X.i_goodTerrain_1 q0) (fun q0 r h => i_goodTerrain_1_ok q0 r h) v11 h12) (t)) (by kernel_rfl) ?_
          refine ends_ret ?_
          obtain rfl := Option.some.inj H
          exact And.intro (.inl rfl) rfl

def g_IndexFunc_Terrain_ir : S :=
 (.seq (.ops [⟨some 4, .mv (.v (.int .i64 0)), none⟩])
 (.seq (.seq (.ops [⟨some 6, .mv (.t 0), none⟩, ⟨some 7, .len (.t 6), none⟩, ⟨some 8, .mv (.v (.int .i64 0)), none⟩])
 (.blk 0 (.loop (.seq (.ops [⟨some 9, .bin .lss (.t 8) (.t 7), none⟩])
   (.seq (.ite (.t 9) .skip
   (.exit 0))
   (.seq (.blk 1 (.seq (.ops [⟨some 10, .mv (.t 8), none⟩, ⟨some 5, .mv (.t 10), none⟩])
    (.seq (.ops [⟨some 11, .mv (.t 1), none⟩, ⟨some 12, .mv (.t 0), none⟩, ⟨some 13, .mv (.t 5), none⟩, ⟨some 14, .iad 5 (.t 12) (.t 13), none⟩, ⟨some 15, .load 5 true (.t 14), none⟩, ⟨some 16, .cald (.t 11) [.t 15], none⟩])
    (.ite (.t 16) (.seq (.ops [⟨some 17, .mv (.t 5), none⟩, ⟨some 4, .mv (.t 17), none⟩])
     .ret)
    .skip))))
   (.ops [⟨some 18, .bin .add (.t 8) (.v (.int .i64 1)), none⟩, ⟨some 8, .mv (.t 18), none⟩])))))))
 (.seq (.ops [⟨some 4, .mv (.v (.int .i64 (-1))), none⟩])
 .ret)))
noncomputable def X.g_IndexFunc_Terrain (p0 : (List TTerrain)) (f1 : TTerrain → Option Bool) : Option Int :=
  ((loop (fun (x16 : Int) => ((bif (decide (x16 < (p0.length : Int))) then ((at' zTTerrain p0 x16).bind fun v19 => ((f1 v19).bind fun v21 => (bif v21 then some (Sum.inr (Sum.inr x16)) else some (Sum.inl (W (x16 + 1)))))) else some (Sum.inr (Sum.inl ()))) : Option (Int ⊕ (Unit ⊕ Int)))) 0).bind fun y24 => (Sum.elim (fun (y26 : Unit) => some (-1)) (fun (y27 : Int) => some y27) y24))
theorem g_IndexFunc_Terrain_c1_ok (p0 : (List TTerrain)) (cf1 : FuncId) (cs1_0 : List AC) (f1 : TTerrain → Option Bool) (hf1 : ∀ q0 r, f1 q0 = some r → FnOk Tryd.prog gl cf1 [.agg (eTTerrain q0), .c (.pd cs1_0 0)] (cB r)) (r : Int) (H : X.g_IndexFunc_Terrain p0 f1 = some r) : FnOk Tryd.prog gl 86 [.c (dat 5 eTTerrain zTTerrain p0), .c (.clo cf1 [.pd cs1_0 0])] (cI r) := by
  unfold X.g_IndexFunc_Terrain at H
  refine fn_in (fn := Tryd.f86) (ir := g_IndexFunc_Terrain_ir) (s1 := lit [(4, cI r)] []) glL Tryd.func86 (by kernel_rfl) (by kernel_rfl) (by kernel_rfl) (by kernel_rfl) (by kernel_rfl) ?_
  refine seq_ops [] [] [(0, .c (dat 5 eTTerrain zTTerrain p0)), (1, .c (.clo cf1 [.pd cs1_0 0]))] [] (fun t => t) (by kernel_rfl) ?_
  refine seq_in ?_
  refine seq_ops [] [] [(0, .c (dat 5 eTTerrain zTTerrain p0)), (1, .c (.clo cf1 [.pd cs1_0 0])), (7, cI (p0.length : Int)), (8, cI 0)] [] (fun t => lI p0 (t)) (by kernel_rfl) ?_
  refine ends_blk ?_
  obtain ⟨y24, h25, H⟩ := ofBind H
  refine loop_in (fun (x : Int) => lit [(0, .c (dat 5 eTTerrain zTTerrain p0)), (1, .c (.clo cf1 [.pd cs1_0 0])), (7, cI (p0.length : Int)), (8, cI x)] []) (orJ (fun (z : Unit) => At (.exit 0) (lit [] [])) (fun (z : Int) => At .ret (lit [(4, cI z)] []))) h25 ?_ ?_
  · clear H h25
    intro x16 y0 H
    refine seq_ops [] [] [(0, .c (dat 5 eTTerrain zTTerrain p0)), (1, .c (.clo cf1 [.pd cs1_0 0])), (7, cI (p0.length : Int)), (8, cI x16), (9, cB (decide (x16 < (p0.length : Int))))] [] (fun t => t) (by kernel_rfl) ?_
    refine seq_in ?_
    rcases ofCond H with ⟨c18, H⟩ | ⟨c18, H⟩
    · refine ite_t c18 (by kernel_rfl) ?_
      refine ends_skip ?_
      change EndsI _ _ _ _ _ _
      refine seq_in ?_
      refine ends_blk ?_
      refine seq_ops [] [] [(0, .c (dat 5 eTTerrain zTTerrain p0)), (1, .c (.clo cf1 [.pd cs1_0 0])), (5, cI x16), (7, cI (p0.length : Int)), (8, cI x16)] [] (fun t => t) (by kernel_rfl) ?_
      obtain ⟨v19, h20, H⟩ := ofBind H
      obtain ⟨v21, h22, H⟩ := ofBind H
      refine seq_ops [.cs (eTTerrain v19), .res (cB v21)] [] [(0, .c (dat 5 eTTerrain zTTerrain p0)), (1, .c (.clo cf1 [.pd cs1_0 0])), (5, cI x16), (7, cI (p0.length : Int)), (8, cI x16), (16, cB v21)] [] (fun t => aI (at_lt h20) (aI (at_enc (enc := eTTerrain) h20) (aI (hf1 v19 v21 h22) (t)))) (by kernel_rfl) ?_
      rcases ofCond H with ⟨c23, H⟩ | ⟨c23, H⟩
      · refine ite_t c23 (by kernel_rfl) ?_
        refine seq_ops [] [] [(4, cI x16)] [] (fun t => t) (by kernel_rfl) ?_
        refine ends_ret ?_
        obtain rfl := Option.some.inj H
        exact And.intro (by simp) (And.intro rfl rfl)
      · refine ite_f c23 (by kernel_rfl) ?_
        refine ends_skip ?_
        change EndsI _ _ _ _ _ _
        refine one_ops [] [] [(0, .c (dat 5 eTTerrain zTTerrain p0)), (1, .c (.clo cf1 [.pd cs1_0 0])), (7, cI (p0.length : Int)), (8, cI (W (x16 + 1)))] [] (fun t => t) (by kernel_rfl) ?_
        obtain rfl := Option.some.inj H
        exact And.intro rfl rfl
    · refine ite_f c18 (by kernel_rfl) ?_
      refine tell [] [] [] (fun t => t) (by kernel_rfl) ?_
      refine ends_exit ?_
      obtain rfl := Option.some.inj H
      exact And.intro (by simp) (And.intro rfl rfl)
  · clear h25
    cases y24 with
    | inl y26 =>
      replace H := ofInl H
      intro e s q
      obtain ⟨rfl, rfl⟩ := q
      change EndsI _ _ _ _ _ _
      refine seq_ops [] [] [(4, cI (-1))] [] (fun t => t) (by kernel_rfl) ?_
      refine ends_ret ?_
      obtain rfl := Option.some.inj H
      exact And.intro (.inl rfl) rfl
    | inr y27 =>
      replace H := ofInr H
      intro e s q
      obtain ⟨rfl, rfl⟩ := q
      obtain rfl := Option.some.inj H
      exact And.intro (.inl rfl) rfl

def i_terrainIndex_1_ir : S :=
 (.seq (.ops [⟨some 2, .box 5 (.t 0), none⟩, ⟨some 3, .mv (.v (.bool false)), none⟩])
 (.seq (.ops [⟨some 4, .fad 0 (.t 2), none⟩, ⟨some 5, .load 1 false (.t 4), none⟩, ⟨some 6, .load 1 false (.t 1), none⟩, ⟨some 7, .bin .eql (.t 5) (.t 6), none⟩, ⟨some 3, .mv (.t 7), none⟩])
 .ret))
noncomputable def X.i_terrainIndex_1 (p0 : TTerrain) (p1 : (List UInt8)) : Option Bool :=
  some (p0.Name == p1)
theorem i_terrainIndex_1_ok (p0 : TTerrain) (p1 : (List UInt8)) (r : Bool) (H : X.i_terrainIndex_1 p0 p1 = some r) : FnOk Tryd.prog gl 87 [.agg (eTTerrain p0), .c (.pd (eS p1) 0)] (cB r) := by
  unfold X.i_terrainIndex_1 at H
  refine fn_in (fn := Tryd.f87) (ir := i_terrainIndex_1_ir) (s1 := lit [(3, cB r)] []) glL Tryd.func87 (by kernel_rfl) (by kernel_rfl) (by kernel_rfl) (by kernel_rfl) (by kernel_rfl) ?_
  refine seq_ops [] [] [(1, .c (.pd (eS p1) 0)), (2, .c (.pk 2 0))] [(2, .var (eTTerrain p0) false)] (fun t => t) (by kernel_rfl) ?_
  refine seq_ops [] [] [(3, cB (p0.Name == p1))] [] (fun t => t) (by kernel_rfl) ?_
  refine ends_ret ?_
  obtain rfl := Option.some.inj H
  exact And.intro (.inl rfl) rfl

def i_terrainIndex_ir : S :=
 (.seq (.ops [⟨some 3, .box 1 (.t 1), none⟩, ⟨some 4, .mv (.v (.int .i64 0)), none⟩])
 (.seq (.ops [⟨some 5, .mv (.t 0), none⟩, ⟨some 6, .clo 87 [.t 3], none⟩, ⟨some 7, .call 86 [.t 5, .t 6], none⟩, ⟨some 4, .mv (.t 7), none⟩])
 .ret))
noncomputable def X.i_terrainIndex (p0 : (List TTerrain)) (p1 : (List UInt8)) : Option Int :=
  ((X.g_IndexFunc_Terrain p0 (fun q0 => X.i_terrainIndex_1 q0 p1)).bind fun v1 => some v1)
theorem i_terrainIndex_ok (p0 : (List TTerrain)) (p1 : (List UInt8)) (r : Int) (H : X.i_terrainIndex p0 p1 = some r) : FnOk Tryd.prog gl 68 [.c (dat 5 eTTerrain zTTerrain p0), .c (.str p1)] (cI r) := by
  unfold X.i_terrainIndex at H
  refine fn_in (fn := Tryd.f68) (ir := i_terrainIndex_ir) (s1 := lit [(4, cI r)] []) glL Tryd.func68 (by kernel_rfl) (by kernel_rfl) (by kernel_rfl) (by kernel_rfl) (by kernel_rfl) ?_
  refine seq_ops [] [] [(0, .c (dat 5 eTTerrain zTTerrain p0)), (3, .c (.pk 3 0))] [(3, .var [.str p1] false)] (fun t => t) (by kernel_rfl) ?_
  obtain ⟨v1, h2, H⟩ := ofBind H
  refine seq_ops [.res (cI v1)] [] [(4, cI v1)] [] (fun t => aI (g_IndexFunc_Terrain_c1_ok p0 (87) (eS p1) (fun q0 => X.i_terrainIndex_1 q0 p1) (fun q0 r h => i_terrainIndex_1_ok q0 p1 r h) v1 h2) (t)) (by kernel_rfl) ?_
  refine ends_ret ?_
  obtain rfl := Option.some.inj H
  exact And.intro (.inl rfl) rfl

def i_goodKind_ir : S :=
 (.seq (.ops [⟨some 1, .box 6 (.t 0), none⟩, ⟨some 2, .mv (.v (.bool false)), none⟩])
 (.seq (.ops [⟨some 3, .fad 0 (.t 1), none⟩, ⟨some 4, .load 1 false (.t 3), none⟩, ⟨some 5, .call 84 [.t 4], none⟩, ⟨some 6, .mv (.t 5), none⟩, ⟨some 7, .fad 1 (.t 1), some (6, true)⟩, ⟨some 8, .load 1 false (.t 7), some (6, true)⟩, ⟨some 9, .call 34 [.t 8, .v (.int .i64 1), .v (.int .i64 9)], some (6, true)⟩, ⟨some 10, .pick (.t 6) (.t 9) (.v (.bool false)), none⟩, ⟨some 11, .mv (.t 10), none⟩, ⟨some 12, .fad 2 (.t 1), some (11, true)⟩, ⟨some 13, .load 1 false (.t 12), some (11, true)⟩, ⟨some 14, .call 34 [.t 13, .v (.int .i64 0), .v (.int .i64 9)], some (11, true)⟩, ⟨some 15, .pick (.t 11) (.t 14) (.v (.bool false)), none⟩, ⟨some 16, .mv (.t 15), none⟩, ⟨some 17, .fad 3 (.t 1), some (16, true)⟩, ⟨some 18, .load 1 false (.t 17), some (16, true)⟩, ⟨some 19, .call 34 [.t 18, .v (.int .i64 1), .v (.int .i64 4)], some (16, true)⟩, ⟨some 20, .pick (.t 16) (.t 19) (.v (.bool false)), none⟩, ⟨some 21, .mv (.t 20), none⟩, ⟨some 22, .fad 5 (.t 1), some (21, true)⟩, ⟨some 23, .load 1 false (.t 22), some (21, true)⟩, ⟨some 24, .call 34 [.t 23, .v (.int .i64 0), .v (.int .i64 4)], some (21, true)⟩, ⟨some 25, .pick (.t 21) (.t 24) (.v (.bool false)), none⟩, ⟨some 2, .mv (.t 25), none⟩])
 .ret))
noncomputable def X.i_goodKind (p0 : TKind) : Option Bool :=
  ((X.i_isName p0.Name).bind fun v1 => (bif v1 then ((X.i_inRange p0.Strength 1 9).bind fun v4 => (bif v4 then ((X.i_inRange p0.Moves 0 9).bind fun v7 => (bif v7 then ((X.i_inRange p0.Steps 1 4).bind fun v10 => (bif v10 then ((X.i_inRange p0.View 0 4).bind fun v13 => some v13) else some false)) else some false)) else some false)) else some false))
theorem i_goodKind_ok (p0 : TKind) (r : Bool) (H : X.i_goodKind p0 = some r) : FnOk Tryd.prog gl 69 [.agg (eTKind p0)] (cB r) := by
  unfold X.i_goodKind at H
  refine fn_in (fn := Tryd.f69) (ir := i_goodKind_ir) (s1 := lit [(2, cB r)] []) glL Tryd.func69 (by kernel_rfl) (by kernel_rfl) (by kernel_rfl) (by kernel_rfl) (by kernel_rfl) ?_
  refine seq_ops [] [] [(1, .c (.pk 1 0))] [(1, .var (eTKind p0) false)] (fun t => t) (by kernel_rfl) ?_
  obtain ⟨v1, h2, H⟩ := ofBind H
  rcases ofCond H with ⟨c3, H⟩ | ⟨c3, H⟩
  · obtain ⟨v4, h5, H⟩ := ofBind H
    rcases ofCond H with ⟨c6, H⟩ | ⟨c6, H⟩
    · obtain ⟨v7, h8, H⟩ := ofBind H
      rcases ofCond H with ⟨c9, H⟩ | ⟨c9, H⟩
      · obtain ⟨v10, h11, H⟩ := ofBind H
        rcases ofCond H with ⟨c12, H⟩ | ⟨c12, H⟩
        · obtain ⟨v13, h14, H⟩ := ofBind H
          refine seq_ops [.res (cB v1), .g true, .g true, .g true, .res (cB v4), .g true, .g true, .g true, .g true, .res (cB v7), .g true, .g true, .g true, .g true, .res (cB v10), .g true, .g true, .g true, .g true, .res (cB v13), .g true] [] [(2, cB v13)] [] (fun t => aI (i_isName_ok p0.Name v1 h2) (aI c3 (aI c3 (aI c3 (aI (i_inRange_ok p0.Strength 1 9 v4 h5) (aI c3 (aI c6 (aI c6 (aI c6 (aI (i_inRange_ok p0.Moves 0 9 v7 h8) (aI c6 (aI c9 (aI c9 (aI c9 (aI (i_inRange_ok p0.Steps 1 4 v10 h11) (aI c9 (aI c12 (aI c12 (aI c12 (aI (i_inRange_ok p0.View 0 4 v13 h14) (aI c12 (t)))))))))))))))))))))) (by kernel_rfl) ?_
          refine ends_ret ?_
          obtain rfl := Option.some.inj H
          exact And.intro (.inl rfl) rfl
        · refine seq_ops [.res (cB v1), .g true, .g true, .g true, .res (cB v4), .g true, .g true, .g true, .g true, .res (cB v7), .g true, .g true, .g true, .g true, .res (cB v10), .g true, .g false, .g false, .g false, .g false] [] [(2, cB false)] [] (fun t => aI (i_isName_ok p0.Name v1 h2) (aI c3 (aI c3 (aI c3 (aI (i_inRange_ok p0.Strength 1 9 v4 h5) (aI c3 (aI c6 (aI c6 (aI c6 (aI (i_inRange_ok p0.Moves 0 9 v7 h8) (aI c6 (aI c9 (aI c9 (aI c9 (aI (i_inRange_ok p0.Steps 1 4 v10 h11) (aI c9 (aI c12 (aI c12 (aI c12 (aI c12 (t))))))))))))))))))))) (by kernel_rfl) ?_
          refine ends_ret ?_
          obtain rfl := Option.some.inj H
          exact And.intro (.inl rfl) rfl
      · refine seq_ops [.res (cB v1), .g true, .g true, .g true, .res (cB v4), .g true, .g true, .g true, .g true, .res (cB v7), .g true, .g false, .g false, .g false, .g false, .g false, .g false, .g false, .g false] [] [(2, cB false)] [] (fun t => aI (i_isName_ok p0.Name v1 h2) (aI c3 (aI c3 (aI c3 (aI (i_inRange_ok p0.Strength 1 9 v4 h5) (aI c3 (aI c6 (aI c6 (aI c6 (aI (i_inRange_ok p0.Moves 0 9 v7 h8) (aI c6 (aI c9 (aI c9 (aI c9 (aI c9 (aI (rfl : (false : Bool) = false) (aI (rfl : (false : Bool) = false) (aI (rfl : (false : Bool) = false) (aI (rfl : (false : Bool) = false) (t)))))))))))))))))))) (by kernel_rfl) ?_
        refine ends_ret ?_
        obtain rfl := Option.some.inj H
        exact And.intro (.inl rfl) rfl
    · refine seq_ops [.res (cB v1), .g true, .g true, .g true, .res (cB v4), .g true, .g false, .g false, .g false, .g false, .g false, .g false, .g false, .g false, .g false, .g false, .g false, .g false] [] [(2, cB false)] [] (fun t => aI (i_isName_ok p0.Name v1 h2) (aI c3 (aI c3 (aI c3 (aI (i_inRange_ok p0.Strength 1 9 v4 h5) (aI c3 (aI c6 (aI c6 (aI c6 (aI c6 (aI (rfl : (false : Bool) = false) (aI (rfl : (false : Bool) = false) (aI (rfl : (false : Bool) = false) (aI (rfl : (false : Bool) = false) (aI (rfl : (false : Bool) = false) (aI (rfl : (false : Bool) = false) (aI (rfl : (false : Bool) = false) (aI (rfl : (false : Bool) = false) (t))))))))))))))))))) (by kernel_rfl) ?_
      refine ends_ret ?_
      obtain rfl := Option.some.inj H
      exact And.intro (.inl rfl) rfl
  · refine seq_ops [.res (cB v1), .g false, .g false, .g false, .g false, .g false, .g false, .g false, .g false, .g false, .g false, .g false, .g false, .g false, .g false, .g false, .g false] [] [(2, cB false)] [] (fun t => aI (i_isName_ok p0.Name v1 h2) (aI c3 (aI c3 (aI c3 (aI c3 (aI (rfl : (false : Bool) = false) (aI (rfl : (false : Bool) = false) (aI (rfl : (false : Bool) = false) (aI (rfl : (false : Bool) = false) (aI (rfl : (false : Bool) = false) (aI (rfl : (false : Bool) = false) (aI (rfl : (false : Bool) = false) (aI (rfl : (false : Bool) = false) (aI (rfl : (false : Bool) = false) (aI (rfl : (false : Bool) = false) (aI (rfl : (false : Bool) = false) (aI (rfl : (false : Bool) = false) (t)))))))))))))))))) (by kernel_rfl) ?_
    refine ends_ret ?_
    obtain rfl := Option.some.inj H
    exact And.intro (.inl rfl) rfl

def g_IndexFunc_Kind_ir : S :=
 (.seq (.ops [⟨some 4, .mv (.v (.int .i64 0)), none⟩])
 (.seq (.seq (.ops [⟨some 6, .mv (.t 0), none⟩, ⟨some 7, .len (.t 6), none⟩, ⟨some 8, .mv (.v (.int .i64 0)), none⟩])
 (.blk 0 (.loop (.seq (.ops [⟨some 9, .bin .lss (.t 8) (.t 7), none⟩])
   (.seq (.ite (.t 9) .skip
   (.exit 0))
   (.seq (.blk 1 (.seq (.ops [⟨some 10, .mv (.t 8), none⟩, ⟨some 5, .mv (.t 10), none⟩])
    (.seq (.ops [⟨some 11, .mv (.t 1), none⟩, ⟨some 12, .mv (.t 0), none⟩, ⟨some 13, .mv (.t 5), none⟩, ⟨some 14, .iad 6 (.t 12) (.t 13), none⟩, ⟨some 15, .load 6 true (.t 14), none⟩, ⟨some 16, .cald (.t 11) [.t 15], none⟩])
    (.ite (.t 16) (.seq (.ops [⟨some 17, .mv (.t 5), none⟩, ⟨some 4, .mv (.t 17), none⟩])
     .ret)
    .skip))))
   (.ops [⟨some 18, .bin .add (.t 8) (.v (.int .i64 1)), none⟩, ⟨some 8, .mv (.t 18), none⟩])))))))
 (.seq (.ops [⟨some 4, .mv (.v (.int .i64 (-1))), none⟩])
 .ret)))
noncomputable def X.g_IndexFunc_Kind (p0 : (List TKind)) (f1 : TKind → Option Bool) : Option Int :=
  ((loop (fun (x16 : Int) => ((bif (decide (x16 < (p0.length : Int))) then ((at' zTKind p0 x16).bind fun v19 => ((f1 v19).bind fun v21 => (bif v21 then some (Sum.inr (Sum.inr x16)) else some (Sum.inl (W (x16 + 1)))))) else some (Sum.inr (Sum.inl ()))) : Option (Int ⊕ (Unit ⊕ Int)))) 0).bind fun y24 => (Sum.elim (fun (y26 : Unit) => some (-1)) (fun (y27 : Int) => some y27) y24))
theorem g_IndexFunc_Kind_c1_ok (p0 : (List TKind)) (cf1 : FuncId) (cs1_0 : List AC) (f1 : TKind → Option Bool) (hf1 : ∀ q0 r, f1 q0 = some r → FnOk Tryd.prog gl cf1 [.agg (eTKind q0), .c (.pd cs1_0 0)] (cB r)) (r : Int) (H : X.g_IndexFunc_Kind p0 f1 = some r) : FnOk Tryd.prog gl 88 [.c (dat 6 eTKind zTKind p0), .c (.clo cf1 [.pd cs1_0 0])] (cI r) := by
  unfold X.g_IndexFunc_Kind at H
  refine fn_in (fn := Tryd.f88) (ir := g_IndexFunc_Kind_ir) (s1 := lit [(4, cI r)] []) glL Tryd.func88 (by kernel_rfl) (by kernel_rfl) (by kernel_rfl) (by kernel_rfl) (by kernel_rfl) ?_
  refine seq_ops [] [] [(0, .c (dat 6 eTKind zTKind p0)), (1, .c (.clo cf1 [.pd cs1_0 0]))] [] (fun t => t) (by kernel_rfl) ?_
  refine seq_in ?_
  refine seq_ops [] [] [(0, .c (dat 6 eTKind zTKind p0)), (1, .c (.clo cf1 [.pd cs1_0 0])), (7, cI (p0.length : Int)), (8, cI 0)] [] (fun t => lI p0 (t)) (by kernel_rfl) ?_
  refine ends_blk ?_
  obtain ⟨y24, h25, H⟩ := ofBind H
  refine loop_in (fun (x : Int) => lit [(0, .c (dat 6 eTKind zTKind p0)), (1, .c (.clo cf1 [.pd cs1_0 0])), (7, cI (p0.length : Int)), (8, cI x)] []) (orJ (fun (z : Unit) => At (.exit 0) (lit [] [])) (fun (z : Int) => At .ret (lit [(4, cI z)] []))) h25 ?_ ?_
  · clear H h25
    intro x16 y0 H
    refine seq_ops [] [] [(0, .c (dat 6 eTKind zTKind p0)), (1, .c (.clo cf1 [.pd cs1_0 0])), (7, cI (p0.length : Int)), (8, cI x16), (9, cB (decide (x16 < (p0.length : Int))))] [] (fun t => t) (by kernel_rfl) ?_
    refine seq_in ?_
    rcases ofCond H with ⟨c18, H⟩ | ⟨c18, H⟩
    · refine ite_t c18 (by kernel_rfl) ?_
      refine ends_skip ?_
      change EndsI _ _ _ _ _ _
      refine seq_in ?_
      refine ends_blk ?_
      refine seq_ops [] [] [(0, .c (dat 6 eTKind zTKind p0)), (1, .c (.clo cf1 [.pd cs1_0 0])), (5, cI x16), (7, cI (p0.length : Int)), (8, cI x16)] [] (fun t => t) (by kernel_rfl) ?_
      obtain ⟨v19, h20, H⟩ := ofBind H
      obtain ⟨v21, h22, H⟩ := ofBind H
      refine seq_ops [.cs (eTKind v19), .res (cB v21)] [] [(0, .c (dat 6 eTKind zTKind p0)), (1, .c (.clo cf1 [.pd cs1_0 0])), (5, cI x16), (7, cI (p0.length : Int)), (8, cI x16), (16, cB v21)] [] (fun t => aI (at_lt h20) (aI (at_enc (enc := eTKind) h20) (aI (hf1 v19 v21 h22) (t)))) (by kernel_rfl) ?_
      rcases ofCond H with ⟨c23, H⟩ | ⟨c23, H⟩
      · refine ite_t c23 (by kernel_rfl) ?_
        refine seq_ops [] [] [(4, cI x16)] [] (fun t => t) (by kernel_rfl) ?_
        refine ends_ret ?_
        obtain rfl := Option.some.inj H
        exact And.intro (by simp) (And.intro rfl rfl)
      · refine ite_f c23 (by kernel_rfl) ?_
        refine ends_skip ?_
        change EndsI _ _ _ _ _ _
        refine one_ops [] [] [(0, .c (dat 6 eTKind zTKind p0)), (1, .c (.clo cf1 [.pd cs1_0 0])), (7, cI (p0.length : Int)), (8, cI (W (x16 + 1)))] [] (fun t => t) (by kernel_rfl) ?_
        obtain rfl := Option.some.inj H
        exact And.intro rfl rfl
    · refine ite_f c18 (by kernel_rfl) ?_
      refine tell [] [] [] (fun t => t) (by kernel_rfl) ?_
      refine ends_exit ?_
      obtain rfl := Option.some.inj H
      exact And.intro (by simp) (And.intro rfl rfl)
  · clear h25
    cases y24 with
    | inl y26 =>
      replace H := ofInl H
      intro e s q
      obtain ⟨rfl, rfl⟩ := q
      change EndsI _ _ _ _ _ _
      refine seq_ops [] [] [(4, cI (-1))] [] (fun t => t) (by kernel_rfl) ?_
      refine ends_ret ?_
      obtain rfl := Option.some.inj H
      exact And.intro (.inl rfl) rfl
    | inr y27 =>
      replace H := ofInr H
      intro e s q
      obtain ⟨rfl, rfl⟩ := q
      obtain rfl := Option.some.inj H
      exact And.intro (.inl rfl) rfl

def i_kindIndex_1_ir : S :=
 (.seq (.ops [⟨some 2, .box 6 (.t 0), none⟩, ⟨some 3, .mv (.v (.bool false)), none⟩])
 (.seq (.ops [⟨some 4, .fad 0 (.t 2), none⟩, ⟨some 5, .load 1 false (.t 4), none⟩, ⟨some 6, .load 1 false (.t 1), none⟩, ⟨some 7, .bin .eql (.t 5) (.t 6), none⟩, ⟨some 3, .mv (.t 7), none⟩])
 .ret))
noncomputable def X.i_kindIndex_1 (p0 : TKind) (p1 : (List UInt8)) : Option Bool :=
  some (p0.Name == p1)
theorem i_kindIndex_1_ok (p0 : TKind) (p1 : (List UInt8)) (r : Bool) (H : X.i_kindIndex_1 p0 p1 = some r) : FnOk Tryd.prog gl 89 [.agg (eTKind p0), .c (.pd (eS p1) 0)] (cB r) := by
  unfold X.i_kindIndex_1 at H
  refine fn_in (fn := Tryd.f89) (ir := i_kindIndex_1_ir) (s1 := lit [(3, cB r)] []) glL Tryd.func89 (by kernel_rfl) (by kernel_rfl) (by kernel_rfl) (by kernel_rfl) (by kernel_rfl) ?_
  refine seq_ops [] [] [(1, .c (.pd (eS p1) 0)), (2, .c (.pk 2 0))] [(2, .var (eTKind p0) false)] (fun t => t) (by kernel_rfl) ?_
  refine seq_ops [] [] [(3, cB (p0.Name == p1))] [] (fun t => t) (by kernel_rfl) ?_
  refine ends_ret ?_
  obtain rfl := Option.some.inj H
  exact And.intro (.inl rfl) rfl

def i_kindIndex_ir : S :=
 (.seq (.ops [⟨some 3, .box 1 (.t 1), none⟩, ⟨some 4, .mv (.v (.int .i64 0)), none⟩])
 (.seq (.ops [⟨some 5, .mv (.t 0), none⟩, ⟨some 6, .clo 89 [.t 3], none⟩, ⟨some 7, .call 88 [.t 5, .t 6], none⟩, ⟨some 4, .mv (.t 7), none⟩])
 .ret))
noncomputable def X.i_kindIndex (p0 : (List TKind)) (p1 : (List UInt8)) : Option Int :=
  ((X.g_IndexFunc_Kind p0 (fun q0 => X.i_kindIndex_1 q0 p1)).bind fun v1 => some v1)
theorem i_kindIndex_ok (p0 : (List TKind)) (p1 : (List UInt8)) (r : Int) (H : X.i_kindIndex p0 p1 = some r) : FnOk Tryd.prog gl 70 [.c (dat 6 eTKind zTKind p0), .c (.str p1)] (cI r) := by
  unfold X.i_kindIndex at H
  refine fn_in (fn := Tryd.f70) (ir := i_kindIndex_ir) (s1 := lit [(4, cI r)] []) glL Tryd.func70 (by kernel_rfl) (by kernel_rfl) (by kernel_rfl) (by kernel_rfl) (by kernel_rfl) ?_
  refine seq_ops [] [] [(0, .c (dat 6 eTKind zTKind p0)), (3, .c (.pk 3 0))] [(3, .var [.str p1] false)] (fun t => t) (by kernel_rfl) ?_
  obtain ⟨v1, h2, H⟩ := ofBind H
  refine seq_ops [.res (cI v1)] [] [(4, cI v1)] [] (fun t => aI (g_IndexFunc_Kind_c1_ok p0 (89) (eS p1) (fun q0 => X.i_kindIndex_1 q0 p1) (fun q0 r h => i_kindIndex_1_ok q0 p1 r h) v1 h2) (t)) (by kernel_rfl) ?_
  refine ends_ret ?_
  obtain rfl := Option.some.inj H
  exact And.intro (.inl rfl) rfl

def i_IsRules_ir : S :=
 (.seq (.ops [⟨some 1, .box 7 (.t 0), none⟩, ⟨some 2, .mv (.v (.bool false)), none⟩])
 (.seq (.seq (.ops [⟨some 7, .fad 0 (.t 1), none⟩, ⟨some 8, .load 1 false (.t 7), none⟩, ⟨some 9, .len (.t 8), none⟩, ⟨some 10, .call 34 [.t 9, .v (.int .i64 1), .v (.int .i64 6)], none⟩, ⟨some 11, .not (.t 10), none⟩, ⟨some 12, .mv (.t 11), none⟩, ⟨some 13, .fad 1 (.t 1), some (12, false)⟩, ⟨some 14, .load 1 false (.t 13), some (12, false)⟩, ⟨some 15, .len (.t 14), some (12, false)⟩, ⟨some 16, .call 34 [.t 15, .v (.int .i64 1), .v (.int .i64 4)], some (12, false)⟩, ⟨some 17, .not (.t 16), some (12, false)⟩, ⟨some 18, .pick (.t 12) (.v (.bool true)) (.t 17), none⟩])
 (.ite (.t 18) (.seq (.ops [⟨some 2, .mv (.v (.bool false)), none⟩])
  .ret)
 .skip))
 (.seq (.seq (.ops [⟨some 19, .fad 0 (.t 1), none⟩, ⟨some 20, .load 1 false (.t 19), none⟩, ⟨some 21, .len (.t 20), none⟩, ⟨some 22, .mv (.v (.int .i64 0)), none⟩])
 (.blk 0 (.loop (.seq (.ops [⟨some 23, .bin .lss (.t 22) (.t 21), none⟩])
   (.seq (.ite (.t 23) .skip
   (.exit 0))
   (.seq (.blk 1 (.seq (.ops [⟨some 24, .mv (.t 22), none⟩, ⟨some 25, .iad 5 (.t 20) (.t 22), none⟩, ⟨some 26, .load 5 true (.t 25), none⟩, ⟨some 4, .alloc [.str [], .nil, .int .i64 0, .int .i64 0, .bool false], none⟩, ⟨some 3, .mv (.t 24), none⟩, ⟨none, .store 5 (.t 4) (.t 26), none⟩])
    (.seq (.ops [⟨some 27, .load 5 true (.t 4), none⟩, ⟨some 28, .fad 1 (.t 1), none⟩, ⟨some 29, .load 1 false (.t 28), none⟩, ⟨some 30, .len (.t 29), none⟩, ⟨some 31, .call 67 [.t 27, .t 30], none⟩, ⟨some 32, .not (.t 31), none⟩, ⟨some 33, .mv (.t 32), none⟩, ⟨some 34, .fad 0 (.t 1), some (33, false)⟩, ⟨some 35, .load 1 false (.t 34), some (33, false)⟩, ⟨some 36, .fad 0 (.t 4), some (33, false)⟩, ⟨some 37, .load 1 false (.t 36), some (33, false)⟩, ⟨some 38, .call 68 [.t 35, .t 37], some (33, false)⟩, ⟨some 39, .mv (.t 3), some (33, false)⟩, ⟨some 40, .bin .neq (.t 38) (.t 39), some (33, false)⟩, ⟨some 41, .pick (.t 33) (.v (.bool true)) (.t 40), none⟩])
    (.ite (.t 41) (.seq (.ops [⟨some 2, .mv (.v (.bool false)), none⟩])
     .ret)
    .skip))))
   (.ops [⟨some 42, .bin .add (.t 22) (.v (.int .i64 1)), none⟩, ⟨some 22, .mv (.t 42), none⟩])))))))
 (.seq (.seq (.ops [⟨some 43, .fad 1 (.t 1), none⟩, ⟨some 44, .load 1 false (.t 43), none⟩, ⟨some 45, .len (.t 44), none⟩, ⟨some 46, .mv (.v (.int .i64 0)), none⟩])
 (.blk 2 (.loop (.seq (.ops [⟨some 47, .bin .lss (.t 46) (.t 45), none⟩])
   (.seq (.ite (.t 47) .skip
   (.exit 2))
   (.seq (.blk 3 (.seq (.ops [⟨some 48, .mv (.t 46), none⟩, ⟨some 49, .iad 6 (.t 44) (.t 46), none⟩, ⟨some 50, .load 6 true (.t 49), none⟩, ⟨some 6, .alloc [.str [], .int .i64 0, .int .i64 0, .int .i64 0, .bool false, .int .i64 0], none⟩, ⟨some 5, .mv (.t 48), none⟩, ⟨none, .store 6 (.t 6) (.t 50), none⟩])
    (.seq (.ops [⟨some 51, .load 6 true (.t 6), none⟩, ⟨some 52, .call 69 [.t 51], none⟩, ⟨some 53, .not (.t 52), none⟩, ⟨some 54, .mv (.t 53), none⟩, ⟨some 55, .fad 1 (.t 1), some (54, false)⟩, ⟨some 56, .load 1 false (.t 55), some (54, false)⟩, ⟨some 57, .fad 0 (.t 6), some (54, false)⟩, ⟨some 58, .load 1 false (.t 57), some (54, false)⟩, ⟨some 59, .call 70 [.t 56, .t 58], some (54, false)⟩, ⟨some 60, .mv (.t 5), some (54, false)⟩, ⟨some 61, .bin .neq (.t 59) (.t 60), some (54, false)⟩, ⟨some 62, .pick (.t 54) (.v (.bool true)) (.t 61), none⟩])
    (.ite (.t 62) (.seq (.ops [⟨some 2, .mv (.v (.bool false)), none⟩])
     .ret)
    .skip))))
   (.ops [⟨some 63, .bin .add (.t 46) (.v (.int .i64 1)), none⟩, ⟨some 46, .mv (.t 63), none⟩])))))))
 (.seq (.ops [⟨some 64, .fad 2 (.t 1), none⟩, ⟨some 65, .load 1 false (.t 64), none⟩, ⟨some 66, .call 34 [.t 65, .v (.int .i64 1), .v (.int .i64 4)], none⟩, ⟨some 67, .mv (.t 66), none⟩, ⟨some 68, .fad 3 (.t 1), some (67, true)⟩, ⟨some 69, .load 1 false (.t 68), some (67, true)⟩, ⟨some 70, .call 34 [.t 69, .v (.int .i64 0), .v (.int .i64 9)], some (67, true)⟩, ⟨some 71, .pick (.t 67) (.t 70) (.v (.bool false)), none⟩, ⟨some 72, .mv (.t 71), none⟩, ⟨some 73, .fad 4 (.t 1), some (72, true)⟩, ⟨some 74, .load 1 false (.t 73), some (72, true)⟩, ⟨some 75, .call 34 [.t 74, .v (.int .i64 1), .v (.int .i64 9)], some (72, true)⟩, ⟨some 76, .pick (.t 72) (.t 75) (.v (.bool false)), none⟩, ⟨some 77, .mv (.t 76), none⟩, ⟨some 78, .fad 5 (.t 1), some (77, true)⟩, ⟨some 79, .load 1 false (.t 78), some (77, true)⟩, ⟨some 80, .call 34 [.t 79, .v (.int .i64 0), .v (.int .i64 20)], some (77, true)⟩, ⟨some 81, .pick (.t 77) (.t 80) (.v (.bool false)), none⟩, ⟨some 82, .mv (.t 81), none⟩, ⟨some 83, .fad 6 (.t 1), some (82, true)⟩, ⟨some 84, .load 1 false (.t 83), some (82, true)⟩, ⟨some 85, .call 34 [.t 84, .v (.int .i64 1), .v (.int .i64 30)], some (82, true)⟩, ⟨some 86, .pick (.t 82) (.t 85) (.v (.bool false)), none⟩, ⟨some 2, .mv (.t 86), none⟩])
 .ret)))))
noncomputable def X.i_IsRules (p0 : TRules) : Option Bool :=
  ((X.i_inRange (p0.Terrains.length : Int) 1 6).bind fun v7 => (bif (!v7) then some false else ((X.i_inRange (p0.Kinds.length : Int) 1 4).bind fun v10 => (bif (!v10) then some false else ((loop (fun (x70 : Int) => ((bif (decide (x70 < (p0.Terrains.length : Int))) then ((at' zTTerrain p0.Terrains x70).bind fun v73 => ((X.i_goodTerrain v73 (p0.Kinds.length : Int)).bind fun v75 => (bif (!v75) then some (Sum.inr (Sum.inr false)) else ((X.i_terrainIndex p0.Terrains v73.Name).bind fun v78 => (bif (v78 != x70) then some (Sum.inr (Sum.inr false)) else some (Sum.inl (W (x70 + 1)))))))) else some (Sum.inr (Sum.inl ()))) : Option (Int ⊕ (Unit ⊕ Bool)))) 0).bind fun y81 => (Sum.elim (fun (y83 : Unit) => ((loop (fun (x142 : Int) => ((bif (decide (x142 < (p0.Kinds.length : Int))) then ((at' zTKind p0.Kinds x142).bind fun v145 => ((X.i_goodKind v145).bind fun v147 => (bif (!v147) then some (Sum.inr (Sum.inr false)) else ((X.i_kindIndex p0.Kinds v145.Name).bind fun v150 => (bif (v150 != x142) then some (Sum.inr (Sum.inr false)) else some (Sum.inl (W (x142 + 1)))))))) else some (Sum.inr (Sum.inl ()))) : Option (Int ⊕ (Unit ⊕ Bool)))) 0).bind fun y153 => (Sum.elim (fun (y155 : Unit) => ((X.i_inRange p0.Stack 1 4).bind fun v157 => (bif v157 then ((X.i_inRange p0.River 0 9).bind fun v160 => (bif v160 then ((X.i_inRange p0.Road 1 9).bind fun v163 => (bif v163 then ((X.i_inRange p0.Supply 0 20).bind fun v166 => (bif v166 then ((X.i_inRange p0.Turns 1 30).bind fun v169 => some v169) else some false)) else some false)) else some false)) else some false))) (fun (y156 : Bool) => some y156) y153))) (fun (y84 : Bool) => some y84) y81))))))
theorem i_IsRules_ok (p0 : TRules) (r : Bool) (H : X.i_IsRules p0 = some r) : FnOk Tryd.prog gl 52 [.agg (eTRules p0)] (cB r) := by
  unfold X.i_IsRules at H
  refine fn_in (fn := Tryd.f52) (ir := i_IsRules_ir) (s1 := lit [(2, cB r)] []) glL Tryd.func52 (by kernel_rfl) (by kernel_rfl) (by kernel_rfl) (by kernel_rfl) (by kernel_rfl) ?_
  refine seq_ops [] [] [(1, .c (.pk 1 0))] [(1, .var (eTRules p0) false)] (fun t => t) (by kernel_rfl) ?_
  refine seq_in ?_
  obtain ⟨v7, h8, H⟩ := ofBind H
  rcases ofCond H with ⟨c9, H⟩ | ⟨c9, H⟩
  · refine seq_ops [.res (cB v7), .g true, .g true, .g true, .g true, .g true, .g true] [] [(1, .c (.pk 1 0)), (18, cB true)] [(1, .var (eTRules p0) false)] (fun t => lI p0.Terrains (aI (i_inRange_ok (p0.Terrains.length : Int) 1 6 v7 h8) (aI c9 (aI c9 (aI c9 (aI c9 (aI c9 (aI c9 (t))))))))) (by kernel_rfl) ?_
    refine ite_t (rfl : (true : Bool) = true) (by kernel_rfl) ?_
    refine seq_ops [] [] [(2, cB false)] [] (fun t => t) (by kernel_rfl) ?_
    refine ends_ret ?_
    obtain rfl := Option.some.inj H
    exact And.intro (.inl rfl) rfl
  · obtain ⟨v10, h11, H⟩ := ofBind H
    refine seq_ops [.res (cB v7), .g false, .g false, .g false, .g false, .res (cB v10), .g false, .g false] [] [(1, .c (.pk 1 0)), (18, cB (!v10))] [(1, .var (eTRules p0) false)] (fun t => lI p0.Terrains (aI (i_inRange_ok (p0.Terrains.length : Int) 1 6 v7 h8) (aI c9 (aI c9 (aI c9 (lI p0.Kinds (aI c9 (aI (i_inRange_ok (p0.Kinds.length : Int) 1 4 v10 h11) (aI c9 (aI c9 (t))))))))))) (by kernel_rfl) ?_
    rcases ofCond H with ⟨c12, H⟩ | ⟨c12, H⟩
    · refine ite_t c12 (by kernel_rfl) ?_
      refine seq_ops [] [] [(2, cB false)] [] (fun t => t) (by kernel_rfl) ?_
      refine ends_ret ?_
      obtain rfl := Option.some.inj H
      exact And.intro (.inl rfl) rfl
    · refine ite_f c12 (by kernel_rfl) ?_
      refine ends_skip ?_
      change EndsI _ _ _ _ _ _
      refine seq_in ?_
      refine seq_ops [] [] [(1, .c (.pk 1 0)), (20, .c (dat 5 eTTerrain zTTerrain p0.Terrains)), (21, cI (p0.Terrains.length : Int)), (22, cI 0)] [(1, .var (eTRules p0) false)] (fun t => lI p0.Terrains (t)) (by kernel_rfl) ?_
      refine ends_blk ?_
      obtain ⟨y81, h82, H⟩ := ofBind H
      refine loop_in (fun (x : Int) => lit [(1, .c (.pk 1 0)), (20, .c (dat 5 eTTerrain zTTerrain p0.Terrains)), (21, cI (p0.Terrains.length : Int)), (22, cI x)] [(1, .var (eTRules p0) false)]) (orJ (fun (z : Unit) => At (.exit 0) (lit [(1, .c (.pk 1 0))] [(1, .var (eTRules p0) false)])) (fun (z : Bool) => At .ret (lit [(2, cB z)] []))) h82 ?_ ?_
      · clear H h82
        intro x70 y0 H
        refine seq_ops [] [] [(1, .c (.pk 1 0)), (20, .c (dat 5 eTTerrain zTTerrain p0.Terrains)), (21, cI (p0.Terrains.length : Int)), (22, cI x70), (23, cB (decide (x70 < (p0.Terrains.length : Int))))] [(1, .var (eTRules p0) false)] (fun t => t) (by kernel_rfl) ?_
        refine seq_in ?_
        rcases ofCond H with ⟨c72, H⟩ | ⟨c72, H⟩
        · refine ite_t c72 (by kernel_rfl) ?_
          refine ends_skip ?_
          change EndsI _ _ _ _ _ _
          refine seq_in ?_
          refine ends_blk ?_
          obtain ⟨v73, h74, H⟩ := ofBind H
          refine seq_ops [.cs (eTTerrain v73)] [] [(1, .c (.pk 1 0)), (3, cI x70), (4, .c (.pk 4 0)), (20, .c (dat 5 eTTerrain zTTerrain p0.Terrains)), (21, cI (p0.Terrains.length : Int)), (22, cI x70)] [(1, .var (eTRules p0) false), (4, .var (eTTerrain v73) false)] (fun t => aI (at_lt h74) (aI (at_enc (enc := eTTerrain) h74) (t))) (by kernel_rfl) ?_
          obtain ⟨v75, h76, H⟩ := ofBind H
          rcases ofCond H with ⟨c77, H⟩ | ⟨c77, H⟩
          · refine seq_ops [.res (cB v75), .g true, .g true, .g true, .g true, .g true, .g true, .g true, .g true] [] [(1, .c (.pk 1 0)), (20, .c (dat 5 eTTerrain zTTerrain p0.Terrains)), (21, cI (p0.Terrains.length : Int)), (22, cI x70), (41, cB true)] [(1, .var (eTRules p0) false)] (fun t => lI p0.Kinds (aI (i_goodTerrain_ok v73 (p0.Kinds.length : Int) v75 h76) (aI c77 (aI c77 (aI c77 (aI c77 (aI c77 (aI c77 (aI c77 (aI c77 (t))))))))))) (by kernel_rfl) ?_
            refine ite_t (rfl : (true : Bool) = true) (by kernel_rfl) ?_
            refine seq_ops [] [] [(2, cB false)] [] (fun t => t) (by kernel_rfl) ?_
            refine ends_ret ?_
            obtain rfl := Option.some.inj H
            exact And.intro (by simp) (And.intro rfl rfl)
          · obtain ⟨v78, h79, H⟩ := ofBind H
            refine seq_ops [.res (cB v75), .g false, .g false, .g false, .g false, .g false, .res (cI v78), .g false, .g false, .g false] [] [(1, .c (.pk 1 0)), (20, .c (dat 5 eTTerrain zTTerrain p0.Terrains)), (21, cI (p0.Terrains.length : Int)), (22, cI x70), (41, cB (v78 != x70))] [(1, .var (eTRules p0) false)] (fun t => lI p0.Kinds (aI (i_goodTerrain_ok v73 (p0.Kinds.length : Int) v75 h76) (aI c77 (aI c77 (aI c77 (aI c77 (aI c77 (aI (i_terrainIndex_ok p0.Terrains v73.Name v78 h79) (aI c77 (aI c77 (aI c77 (t)))))))))))) (by kernel_rfl) ?_
            rcases ofCond H with ⟨c80, H⟩ | ⟨c80, H⟩
            · refine ite_t c80 (by kernel_rfl) ?_
              refine seq_ops [] [] [(2, cB false)] [] (fun t => t) (by kernel_rfl) ?_
              refine ends_ret ?_
              obtain rfl := Option.some.inj H
              exact And.intro (by simp) (And.intro rfl rfl)
            · refine ite_f c80 (by kernel_rfl) ?_
              refine ends_skip ?_
              change EndsI _ _ _ _ _ _
              refine one_ops [] [] [(1, .c (.pk 1 0)), (20, .c (dat 5 eTTerrain zTTerrain p0.Terrains)), (21, cI (p0.Terrains.length : Int)), (22, cI (W (x70 + 1)))] [(1, .var (eTRules p0) false)] (fun t => t) (by kernel_rfl) ?_
              obtain rfl := Option.some.inj H
              exact And.intro rfl rfl
        · refine ite_f c72 (by kernel_rfl) ?_
          refine tell [] [(1, .c (.pk 1 0))] [(1, .var (eTRules p0) false)] (fun t => t) (by kernel_rfl) ?_
          refine ends_exit ?_
          obtain rfl := Option.some.inj H
          exact And.intro (by simp) (And.intro rfl rfl)
      · clear h82
        cases y81 with
        | inl y83 =>
          replace H := ofInl H
          intro e s q
          obtain ⟨rfl, rfl⟩ := q
          change EndsI _ _ _ _ _ _
          refine seq_in ?_
          refine seq_ops [] [] [(1, .c (.pk 1 0)), (44, .c (dat 6 eTKind zTKind p0.Kinds)), (45, cI (p0.Kinds.length : Int)), (46, cI 0)] [(1, .var (eTRules p0) false)] (fun t => lI p0.Kinds (t)) (by kernel_rfl) ?_
          refine ends_blk ?_
          obtain ⟨y153, h154, H⟩ := ofBind H
          refine loop_in (fun (x : Int) => lit [(1, .c (.pk 1 0)), (44, .c (dat 6 eTKind zTKind p0.Kinds)), (45, cI (p0.Kinds.length : Int)), (46, cI x)] [(1, .var (eTRules p0) false)]) (orJ (fun (z : Unit) => At (.exit 2) (lit [(1, .c (.pk 1 0))] [(1, .var (eTRules p0) false)])) (fun (z : Bool) => At .ret (lit [(2, cB z)] []))) h154 ?_ ?_
          · clear H h154
            intro x142 y0 H
            refine seq_ops [] [] [(1, .c (.pk 1 0)), (44, .c (dat 6 eTKind zTKind p0.Kinds)), (45, cI (p0.Kinds.length : Int)), (46, cI x142), (47, cB (decide (x142 < (p0.Kinds.length : Int))))] [(1, .var (eTRules p0) false)] (fun t => t) (by kernel_rfl) ?_
            refine seq_in ?_
            rcases ofCond H with ⟨c144, H⟩ | ⟨c144, H⟩
            · refine ite_t c144 (by kernel_rfl) ?_
              refine ends_skip ?_
              change EndsI _ _ _ _ _ _
              refine seq_in ?_
              refine ends_blk ?_
              obtain ⟨v145, h146, H⟩ := ofBind H
              refine seq_ops [.cs (eTKind v145)] [] [(1, .c (.pk 1 0)), (5, cI x142), (6, .c (.pk 6 0)), (44, .c (dat 6 eTKind zTKind p0.Kinds)), (45, cI (p0.Kinds.length : Int)), (46, cI x142)] [(1, .var (eTRules p0) false), (6, .var (eTKind v145) false)] (fun t => aI (at_lt h146) (aI (at_enc (enc := eTKind) h146) (t))) (by kernel_rfl) ?_
              obtain ⟨v147, h148, H⟩ := ofBind H
              rcases ofCond H with ⟨c149, H⟩ | ⟨c149, H⟩
              · refine seq_ops [.res (cB v147), .g true, .g true, .g true, .g true, .g true, .g true, .g true, .g true] [] [(1, .c (.pk 1 0)), (44, .c (dat 6 eTKind zTKind p0.Kinds)), (45, cI (p0.Kinds.length : Int)), (46, cI x142), (62, cB true)] [(1, .var (eTRules p0) false)] (fun t => aI (i_goodKind_ok v145 v147 h148) (aI c149 (aI c149 (aI c149 (aI c149 (aI c149 (aI c149 (aI c149 (aI c149 (t)))))))))) (by kernel_rfl) ?_
                refine ite_t (rfl : (true : Bool) = true) (by kernel_rfl) ?_
                refine seq_ops [] [] [(2, cB false)] [] (fun t => t) (by kernel_rfl) ?_
                refine ends_ret ?_
                obtain rfl := Option.some.inj H
                exact And.intro (by simp) (And.intro rfl rfl)
              · obtain ⟨v150, h151, H⟩ := ofBind H
                refine seq_ops [.res (cB v147), .g false, .g false, .g false, .g false, .g false, .res (cI v150), .g false, .g false, .g false] [] [(1, .c (.pk 1 0)), (44, .c (dat 6 eTKind zTKind p0.Kinds)), (45, cI (p0.Kinds.length : Int)), (46, cI x142), (62, cB (v150 != x142))] [(1, .var (eTRules p0) false)] (fun t => aI (i_goodKind_ok v145 v147 h148) (aI c149 (aI c149 (aI c149 (aI c149 (aI c149 (aI (i_kindIndex_ok p0.Kinds v145.Name v150 h151) (aI c149 (aI c149 (aI c149 (t))))))))))) (by kernel_rfl) ?_
                rcases ofCond H with ⟨c152, H⟩ | ⟨c152, H⟩
                · refine ite_t c152 (by kernel_rfl) ?_
                  refine seq_ops [] [] [(2, cB false)] [] (fun t => t) (by kernel_rfl) ?_
                  refine ends_ret ?_
                  obtain rfl := Option.some.inj H
                  exact And.intro (by simp) (And.intro rfl rfl)
                · refine ite_f c152 (by kernel_rfl) ?_
                  refine ends_skip ?_
                  change EndsI _ _ _ _ _ _
                  refine one_ops [] [] [(1, .c (.pk 1 0)), (44, .c (dat 6 eTKind zTKind p0.Kinds)), (45, cI (p0.Kinds.length : Int)), (46, cI (W (x142 + 1)))] [(1, .var (eTRules p0) false)] (fun t => t) (by kernel_rfl) ?_
                  obtain rfl := Option.some.inj H
                  exact And.intro rfl rfl
            · refine ite_f c144 (by kernel_rfl) ?_
              refine tell [] [(1, .c (.pk 1 0))] [(1, .var (eTRules p0) false)] (fun t => t) (by kernel_rfl) ?_
              refine ends_exit ?_
              obtain rfl := Option.some.inj H
              exact And.intro (by simp) (And.intro rfl rfl)
          · clear h154
            cases y153 with
            | inl y155 =>
              replace H := ofInl H
              intro e s q
              obtain ⟨rfl, rfl⟩ := q
              change EndsI _ _ _ _ _ _
              obtain ⟨v157, h158, H⟩ := ofBind H
              rcases ofCond H with ⟨c159, H⟩ | ⟨c159, H⟩
              · obtain ⟨v160, h161, H⟩ := ofBind H
                rcases ofCond H with ⟨c162, H⟩ | ⟨c162, H⟩
                · obtain ⟨v163, h164, H⟩ := ofBind H
                  rcases ofCond H with ⟨c165, H⟩ | ⟨c165, H⟩
                  · obtain ⟨v166, h167, H⟩ := ofBind H
                    rcases ofCond H with ⟨c168, H⟩ | ⟨c168, H⟩
                    · obtain ⟨v169, h170, H⟩ := ofBind H
                      refine seq_ops [.res (cB v157), .g true, .g true, .g true, .res (cB v160), .g true, .g true, .g true, .g true, .res (cB v163), .g true, .g true, .g true, .g true, .res (cB v166), .g true, .g true, .g true, .g true, .res (cB v169), .g true] [] [(2, cB v169)] [] (fun t => aI (i_inRange_ok p0.Stack 1 4 v157 h158) (aI c159 (aI c159 (aI c159 (aI (i_inRange_ok p0.River 0 9 v160 h161) (aI c159 (aI c162 (aI c162 (aI c162 (aI (i_inRange_ok p0.Road 1 9 v163 h164) (aI c162 (aI c165 (aI c165 (aI c165 (aI (i_inRange_ok p0.Supply 0 20 v166 h167) (aI c165 (aI c168 (aI c168 (aI c168 (aI (i_inRange_ok p0.Turns 1 30 v169 h170) (aI c168 (t)))))))))))))))))))))) (by kernel_rfl) ?_
                      refine ends_ret ?_
                      obtain rfl := Option.some.inj H
                      exact And.intro (.inl rfl) rfl
                    · refine seq_ops [.res (cB v157), .g true, .g true, .g true, .res (cB v160), .g true, .g true, .g true, .g true, .res (cB v163), .g true, .g true, .g true, .g true, .res (cB v166), .g true, .g false, .g false, .g false, .g false] [] [(2, cB false)] [] (fun t => aI (i_inRange_ok p0.Stack 1 4 v157 h158) (aI c159 (aI c159 (aI c159 (aI (i_inRange_ok p0.River 0 9 v160 h161) (aI c159 (aI c162 (aI c162 (aI c162 (aI (i_inRange_ok p0.Road 1 9 v163 h164) (aI c162 (aI c165 (aI c165 (aI c165 (aI (i_inRange_ok p0.Supply 0 20 v166 h167) (aI c165 (aI c168 (aI c168 (aI c168 (aI c168 (t))))))))))))))))))))) (by kernel_rfl) ?_
                      refine ends_ret ?_
                      obtain rfl := Option.some.inj H
                      exact And.intro (.inl rfl) rfl
                  · refine seq_ops [.res (cB v157), .g true, .g true, .g true, .res (cB v160), .g true, .g true, .g true, .g true, .res (cB v163), .g true, .g false, .g false, .g false, .g false, .g false, .g false, .g false, .g false] [] [(2, cB false)] [] (fun t => aI (i_inRange_ok p0.Stack 1 4 v157 h158) (aI c159 (aI c159 (aI c159 (aI (i_inRange_ok p0.River 0 9 v160 h161) (aI c159 (aI c162 (aI c162 (aI c162 (aI (i_inRange_ok p0.Road 1 9 v163 h164) (aI c162 (aI c165 (aI c165 (aI c165 (aI c165 (aI (rfl : (false : Bool) = false) (aI (rfl : (false : Bool) = false) (aI (rfl : (false : Bool) = false) (aI (rfl : (false : Bool) = false) (t)))))))))))))))))))) (by kernel_rfl) ?_
                    refine ends_ret ?_
                    obtain rfl := Option.some.inj H
                    exact And.intro (.inl rfl) rfl
                · refine seq_ops [.res (cB v157), .g true, .g true, .g true, .res (cB v160), .g true, .g false, .g false, .g false, .g false, .g false, .g false, .g false, .g false, .g false, .g false, .g false, .g false] [] [(2, cB false)] [] (fun t => aI (i_inRange_ok p0.Stack 1 4 v157 h158) (aI c159 (aI c159 (aI c159 (aI (i_inRange_ok p0.River 0 9 v160 h161) (aI c159 (aI c162 (aI c162 (aI c162 (aI c162 (aI (rfl : (false : Bool) = false) (aI (rfl : (false : Bool) = false) (aI (rfl : (false : Bool) = false) (aI (rfl : (false : Bool) = false) (aI (rfl : (false : Bool) = false) (aI (rfl : (false : Bool) = false) (aI (rfl : (false : Bool) = false) (aI (rfl : (false : Bool) = false) (t))))))))))))))))))) (by kernel_rfl) ?_
                  refine ends_ret ?_
                  obtain rfl := Option.some.inj H
                  exact And.intro (.inl rfl) rfl
              · refine seq_ops [.res (cB v157), .g false, .g false, .g false, .g false, .g false, .g false, .g false, .g false, .g false, .g false, .g false, .g false, .g false, .g false, .g false, .g false] [] [(2, cB false)] [] (fun t => aI (i_inRange_ok p0.Stack 1 4 v157 h158) (aI c159 (aI c159 (aI c159 (aI c159 (aI (rfl : (false : Bool) = false) (aI (rfl : (false : Bool) = false) (aI (rfl : (false : Bool) = false) (aI (rfl : (false : Bool) = false) (aI (rfl : (false : Bool) = false) (aI (rfl : (false : Bool) = false) (aI (rfl : (false : Bool) = false) (aI (rfl : (false : Bool) = false) (aI (rfl : (false : Bool) = false) (aI (rfl : (false : Bool) = false) (aI (rfl : (false : Bool) = false) (aI (rfl : (false : Bool) = false) (t)))))))))))))))))) (by kernel_rfl) ?_
                refine ends_ret ?_
                obtain rfl := Option.some.inj H
                exact And.intro (.inl rfl) rfl
            | inr y156 =>
              replace H := ofInr H
              intro e s q
              obtain ⟨rfl, rfl⟩ := q
              obtain rfl := Option.some.inj H
              exact And.intro (.inl rfl) rfl
        | inr y84 =>
          replace H := ofInr H
          intro e s q
          obtain ⟨rfl, rfl⟩ := q
          obtain rfl := Option.some.inj H
          exact And.intro (.inl rfl) rfl

def i_isIndex_ir : S :=
 (.seq (.ops [⟨some 4, .mv (.v (.bool false)), none⟩])
 (.seq (.ops [⟨some 5, .mv (.t 0), none⟩, ⟨some 6, .mv (.t 1), none⟩, ⟨some 7, .bin .sub (.t 6) (.v (.int .i64 1)), none⟩, ⟨some 8, .call 34 [.t 5, .v (.int .i64 0), .t 7], none⟩, ⟨some 4, .mv (.t 8), none⟩])
 .ret))
noncomputable def X.i_isIndex (p0 : Int) (p1 : Int) : Option Bool :=
  ((X.i_inRange p0 0 (W (p1 - 1))).bind fun v1 => some v1)
theorem i_isIndex_ok (p0 : Int) (p1 : Int) (r : Bool) (H : X.i_isIndex p0 p1 = some r) : FnOk Tryd.prog gl 71 [cI p0, cI p1] (cB r) := by
  unfold X.i_isIndex at H
  refine fn_in (fn := Tryd.f71) (ir := i_isIndex_ir) (s1 := lit [(4, cB r)] []) glL Tryd.func71 (by kernel_rfl) (by kernel_rfl) (by kernel_rfl) (by kernel_rfl) (by kernel_rfl) ?_
  refine seq_ops [] [] [(0, cI p0), (1, cI p1)] [] (fun t => t) (by kernel_rfl) ?_
  obtain ⟨v1, h2, H⟩ := ofBind H
  refine seq_ops [.res (cB v1)] [] [(4, cB v1)] [] (fun t => aI (i_inRange_ok p0 0 (W (p1 - 1)) v1 h2) (t)) (by kernel_rfl) ?_
  refine ends_ret ?_
  obtain rfl := Option.some.inj H
  exact And.intro (.inl rfl) rfl

def i_increasing_ir : S :=
 (.seq (.ops [⟨some 2, .mv (.v (.bool false)), none⟩])
 (.seq (.seq (.ops [⟨some 3, .mv (.v (.int .i64 1)), none⟩])
 (.blk 0 (.loop (.seq (.seq (.ops [⟨some 4, .mv (.t 3), none⟩, ⟨some 5, .mv (.t 0), none⟩, ⟨some 6, .len (.t 5), none⟩, ⟨some 7, .bin .lss (.t 4) (.t 6), none⟩])
   (.ite (.t 7) .skip
   (.exit 0)))
   (.seq (.blk 1 (.seq (.draw 10 [⟨some 10, .mv (.t 0), none⟩, ⟨some 11, .mv (.t 3), none⟩, ⟨some 12, .bin .sub (.t 11) (.v (.int .i64 1)), none⟩, ⟨some 13, .iad 1 (.t 10) (.t 12), none⟩, ⟨some 14, .load 1 false (.t 13), none⟩, ⟨some 15, .mv (.t 0), none⟩, ⟨some 16, .mv (.t 3), none⟩, ⟨some 17, .iad 1 (.t 15) (.t 16), none⟩, ⟨some 18, .load 1 false (.t 17), none⟩, ⟨some 19, .bin .geq (.t 14) (.t 18), none⟩])
    (.ite (.t 19) (.seq (.ops [⟨some 2, .mv (.v (.bool false)), none⟩])
     .ret)
    .skip)))
   (.ops [⟨some 8, .mv (.t 3), none⟩, ⟨some 9, .bin .add (.t 8) (.v (.int .i64 1)), none⟩, ⟨some 3, .mv (.t 9), none⟩]))))))
 (.seq (.ops [⟨some 2, .mv (.v (.bool true)), none⟩])
 .ret)))
noncomputable def X.i_increasing (p0 : (List Int)) : Option Bool :=
  ((loop (fun (x16 : Int) => ((bif (decide (x16 < (p0.length : Int))) then ((at' zI p0 (W (x16 - 1))).bind fun v19 => ((at' zI p0 x16).bind fun v21 => (bif (decide (v19 ≥ v21)) then some (Sum.inr (Sum.inr false)) else some (Sum.inl (W (x16 + 1)))))) else some (Sum.inr (Sum.inl ()))) : Option (Int ⊕ (Unit ⊕ Bool)))) 1).bind fun y24 => (Sum.elim (fun (y26 : Unit) => some true) (fun (y27 : Bool) => some y27) y24))
theorem i_increasing_ok (p0 : (List Int)) (r : Bool) (H : X.i_increasing p0 = some r) : FnOk Tryd.prog gl 72 [.c (dat 1 eI zI p0)] (cB r) := by
  unfold X.i_increasing at H
  refine fn_in (fn := Tryd.f72) (ir := i_increasing_ir) (s1 := lit [(2, cB r)] []) glL Tryd.func72 (by kernel_rfl) (by kernel_rfl) (by kernel_rfl) (by kernel_rfl) (by kernel_rfl) ?_
  refine seq_ops [] [] [(0, .c (dat 1 eI zI p0))] [] (fun t => t) (by kernel_rfl) ?_
  refine seq_in ?_
  refine seq_ops [] [] [(0, .c (dat 1 eI zI p0)), (3, cI 1)] [] (fun t => t) (by kernel_rfl) ?_
  refine ends_blk ?_
  obtain ⟨y24, h25, H⟩ := ofBind H
  refine loop_in (fun (x : Int) => lit [(0, .c (dat 1 eI zI p0)), (3, cI x)] []) (orJ (fun (z : Unit) => At (.exit 0) (lit [] [])) (fun (z : Bool) => At .ret (lit [(2, cB z)] []))) h25 ?_ ?_
  · clear H h25
    intro x16 y0 H
    refine seq_in ?_
    refine seq_ops [] [] [(0, .c (dat 1 eI zI p0)), (3, cI x16), (7, cB (decide (x16 < (p0.length : Int))))] [] (fun t => lI p0 (t)) (by kernel_rfl) ?_
    rcases ofCond H with ⟨c18, H⟩ | ⟨c18, H⟩
    · refine ite_t c18 (by kernel_rfl) ?_
      refine ends_skip ?_
      change EndsI _ _ _ _ _ _
      refine seq_in ?_
      refine ends_blk ?_
      obtain ⟨v19, h20, H⟩ := ofBind H
      obtain ⟨v21, h22, H⟩ := ofBind H
      refine seq_draw [.cs (eI v19), .cs (eI v21)] [] [(0, .c (dat 1 eI zI p0)), (3, cI x16), (19, cB (decide (v19 ≥ v21)))] [] (fun t => aI (at_lt h20) (aI (at_enc (enc := eI) h20) (aI (rfl : ([] : List Nat) = []) (aI (at_lt h22) (aI (at_enc (enc := eI) h22) (aI (rfl : ([] : List Nat) = []) (t))))))) (by kernel_rfl) ?_
      rcases ofCond H with ⟨c23, H⟩ | ⟨c23, H⟩
      · refine ite_t c23 (by kernel_rfl) ?_
        refine seq_ops [] [] [(2, cB false)] [] (fun t => t) (by kernel_rfl) ?_
        refine ends_ret ?_
        obtain rfl := Option.some.inj H
        exact And.intro (by simp) (And.intro rfl rfl)
      · refine ite_f c23 (by kernel_rfl) ?_
        refine ends_skip ?_
        change EndsI _ _ _ _ _ _
        refine one_ops [] [] [(0, .c (dat 1 eI zI p0)), (3, cI (W (x16 + 1)))] [] (fun t => t) (by kernel_rfl) ?_
        obtain rfl := Option.some.inj H
        exact And.intro rfl rfl
    · refine ite_f c18 (by kernel_rfl) ?_
      refine tell [] [] [] (fun t => t) (by kernel_rfl) ?_
      refine ends_exit ?_
      obtain rfl := Option.some.inj H
      exact And.intro (by simp) (And.intro rfl rfl)
  · clear h25
    cases y24 with
    | inl y26 =>
      replace H := ofInl H
      intro e s q
      obtain ⟨rfl, rfl⟩ := q
      change EndsI _ _ _ _ _ _
      refine seq_ops [] [] [(2, cB true)] [] (fun t => t) (by kernel_rfl) ?_
      refine ends_ret ?_
      obtain rfl := Option.some.inj H
      exact And.intro (.inl rfl) rfl
    | inr y27 =>
      replace H := ofInr H
      intro e s q
      obtain ⟨rfl, rfl⟩ := q
      obtain rfl := Option.some.inj H
      exact And.intro (.inl rfl) rfl

def i_indexOf_ir : S :=
 (.seq (.ops [⟨some 2, .box 5 (.t 0), none⟩, ⟨some 3, .box 2 (.t 1), none⟩, ⟨some 4, .mv (.v (.int .i64 0)), none⟩])
 (.seq (.seq (.ops [⟨some 5, .fad 0 (.t 3), none⟩, ⟨some 6, .load 1 false (.t 5), none⟩, ⟨some 7, .fad 0 (.t 2), none⟩, ⟨some 8, .load 1 false (.t 7), none⟩, ⟨some 9, .call 71 [.t 6, .t 8], none⟩, ⟨some 10, .not (.t 9), none⟩, ⟨some 11, .mv (.t 10), none⟩, ⟨some 12, .fad 1 (.t 3), some (11, false)⟩, ⟨some 13, .load 1 false (.t 12), some (11, false)⟩, ⟨some 14, .fad 1 (.t 2), some (11, false)⟩, ⟨some 15, .load 1 false (.t 14), some (11, false)⟩, ⟨some 16, .call 71 [.t 13, .t 15], some (11, false)⟩, ⟨some 17, .not (.t 16), some (11, false)⟩, ⟨some 18, .pick (.t 11) (.v (.bool true)) (.t 17), none⟩])
 (.ite (.t 18) (.seq (.ops [⟨some 4, .mv (.v (.int .i64 (-1))), none⟩])
  .ret)
 .skip))
 (.seq (.ops [⟨some 19, .fad 1 (.t 3), none⟩, ⟨some 20, .load 1 false (.t 19), none⟩, ⟨some 21, .fad 0 (.t 2), none⟩, ⟨some 22, .load 1 false (.t 21), none⟩, ⟨some 23, .bin .mul (.t 20) (.t 22), none⟩, ⟨some 24, .fad 0 (.t 3), none⟩, ⟨some 25, .load 1 false (.t 24), none⟩, ⟨some 26, .bin .add (.t 23) (.t 25), none⟩, ⟨some 4, .mv (.t 26), none⟩])
 .ret)))
noncomputable def X.i_indexOf (p0 : TMap) (p1 : THex) : Option Int :=
  ((X.i_isIndex p1.Q p0.Width).bind fun v7 => (bif (!v7) then some (-1) else ((X.i_isIndex p1.R p0.Height).bind fun v10 => (bif (!v10) then some (-1) else some (W ((W (p1.R * p0.Width)) + p1.Q))))))
theorem i_indexOf_ok (p0 : TMap) (p1 : THex) (r : Int) (H : X.i_indexOf p0 p1 = some r) : FnOk Tryd.prog gl 93 [.agg (eTMap p0), .agg (eTHex p1)] (cI r) := by
  unfold X.i_indexOf at H
  refine fn_in (fn := Tryd.f93) (ir := i_indexOf_ir) (s1 := lit [(4, cI r)] []) glL Tryd.func93 (by kernel_rfl) (by kernel_rfl) (by kernel_rfl) (by kernel_rfl) (by kernel_rfl) ?_
  refine seq_ops [] [] [(2, .c (.pk 2 0)), (3, .c (.pk 3 0))] [(2, .var (eTMap p0) false), (3, .var (eTHex p1) false)] (fun t => t) (by kernel_rfl) ?_
  refine seq_in ?_
  obtain ⟨v7, h8, H⟩ := ofBind H
  rcases ofCond H with ⟨c9, H⟩ | ⟨c9, H⟩
  · refine seq_ops [.res (cB v7), .g true, .g true, .g true, .g true, .g true, .g true, .g true] [] [(2, .c (.pk 2 0)), (3, .c (.pk 3 0)), (18, cB true)] [(2, .var (eTMap p0) false), (3, .var (eTHex p1) false)] (fun t => aI (i_isIndex_ok p1.Q p0.Width v7 h8) (aI c9 (aI c9 (aI c9 (aI c9 (aI c9 (aI c9 (aI c9 (t))))))))) (by kernel_rfl) ?_
    refine ite_t (rfl : (true : Bool) = true) (by kernel_rfl) ?_
    refine seq_ops [] [] [(4, cI (-1))] [] (fun t => t) (by kernel_rfl) ?_
    refine ends_ret ?_
    obtain rfl := Option.some.inj H
    exact And.intro (.inl rfl) rfl
  · obtain ⟨v10, h11, H⟩ := ofBind H
    refine seq_ops [.res (cB v7), .g false, .g false, .g false, .g false, .g false, .res (cB v10), .g false, .g false] [] [(2, .c (.pk 2 0)), (3, .c (.pk 3 0)), (18, cB (!v10))] [(2, .var (eTMap p0) false), (3, .var (eTHex p1) false)] (fun t => aI (i_isIndex_ok p1.Q p0.Width v7 h8) (aI c9 (aI c9 (aI c9 (aI c9 (aI c9 (aI (i_isIndex_ok p1.R p0.Height v10 h11) (aI c9 (aI c9 (t)))))))))) (by kernel_rfl) ?_
    rcases ofCond H with ⟨c12, H⟩ | ⟨c12, H⟩
    · refine ite_t c12 (by kernel_rfl) ?_
      refine seq_ops [] [] [(4, cI (-1))] [] (fun t => t) (by kernel_rfl) ?_
      refine ends_ret ?_
      obtain rfl := Option.some.inj H
      exact And.intro (.inl rfl) rfl
    · refine ite_f c12 (by kernel_rfl) ?_
      refine ends_skip ?_
      change EndsI _ _ _ _ _ _
      refine seq_ops [] [] [(4, cI (W ((W (p1.R * p0.Width)) + p1.Q)))] [] (fun t => t) (by kernel_rfl) ?_
      refine ends_ret ?_
      obtain rfl := Option.some.inj H
      exact And.intro (.inl rfl) rfl

def i_stepBy_ir : S :=
 (.seq (.ops [⟨some 3, .box 2 (.t 0), none⟩, ⟨some 6, .alloc [.int .i64 0, .int .i64 0], none⟩])
 (.seq (.draw 19 [⟨some 7, .fad 0 (.t 3), none⟩, ⟨some 8, .load 1 false (.t 7), none⟩, ⟨some 9, .mv (.t 2), none⟩, ⟨some 10, .mv (.t 1), none⟩, ⟨some 11, .iar 6 2 (.g 0) (.t 10), none⟩, ⟨some 12, .fad 0 (.t 11), none⟩, ⟨some 13, .load 1 false (.t 12), none⟩, ⟨some 14, .bin .mul (.t 9) (.t 13), none⟩, ⟨some 15, .bin .add (.t 8) (.t 14), none⟩, ⟨some 16, .fad 1 (.t 3), none⟩, ⟨some 17, .load 1 false (.t 16), none⟩, ⟨some 18, .mv (.t 2), none⟩, ⟨some 19, .mv (.t 1), none⟩, ⟨some 20, .iar 6 2 (.g 0) (.t 19), none⟩, ⟨some 21, .fad 1 (.t 20), none⟩, ⟨some 22, .load 1 false (.t 21), none⟩, ⟨some 23, .bin .mul (.t 18) (.t 22), none⟩, ⟨some 24, .bin .add (.t 17) (.t 23), none⟩, ⟨some 25, .build [.int .i64 0, .int .i64 0] [(0, 1, .t 15), (1, 1, .t 24)], none⟩, ⟨none, .store 2 (.t 6) (.t 25), none⟩])
 .ret))
noncomputable def X.i_stepBy (p0 : THex) (p1 : Int) (p2 : Int) : Option THex :=
  ((at' zTHex dirs p1).bind fun v1 => some (THex.mk (W (p0.Q + (W (p2 * v1.Q)))) (W (p0.R + (W (p2 * v1.R))))))
theorem i_stepBy_ok (p0 : THex) (p1 : Int) (p2 : Int) (r : THex) (H : X.i_stepBy p0 p1 p2 = some r) : FnOk Tryd.prog gl 94 [.agg (eTHex p0), cI p1, cI p2] (.agg (eTHex r)) := by
  unfold X.i_stepBy at H
  refine fn_in (fn := Tryd.f94) (ir := i_stepBy_ir) (s1 := lit [(6, .c (.pk 6 0))] [(6, .var (eTHex r) false)]) glL Tryd.func94 (by kernel_rfl) (by kernel_rfl) (by kernel_rfl) (by kernel_rfl) (by kernel_rfl) ?_
  refine seq_ops [] [] [(1, cI p1), (2, cI p2), (3, .c (.pk 3 0)), (6, .c (.pk 6 0))] [(3, .var (eTHex p0) false), (6, .var [.int .i64 0, .int .i64 0] false)] (fun t => t) (by kernel_rfl) ?_
  obtain ⟨v1, h2, H⟩ := ofBind H
  refine seq_draw [.cs (eTHex v1), .cs (eTHex v1)] [] [(6, .c (.pk 6 0))] [(6, .var [.int .i64 (W (p0.Q + (W (p2 * v1.Q)))), .int .i64 (W (p0.R + (W (p2 * v1.R))))] false)] (fun t => aI (at_lt h2) (aI (dirs_at h2) (aI (rfl : ([] : List Nat) = []) (aI (at_lt h2) (aI (dirs_at h2) (aI (rfl : ([] : List Nat) = []) (t))))))) (by kernel_rfl) ?_
  refine ends_ret ?_
  obtain rfl := Option.some.inj H
  exact And.intro (.inl rfl) rfl

def i_hexOf_ir : S :=
 (.seq (.ops [⟨some 2, .box 5 (.t 0), none⟩, ⟨some 4, .alloc [.int .i64 0, .int .i64 0], none⟩])
 (.seq (.draw 9 [⟨some 5, .mv (.t 1), none⟩, ⟨some 6, .fad 0 (.t 2), none⟩, ⟨some 7, .load 1 false (.t 6), none⟩, ⟨some 8, .bin .rem (.t 5) (.t 7), none⟩, ⟨some 9, .mv (.t 1), none⟩, ⟨some 10, .fad 0 (.t 2), none⟩, ⟨some 11, .load 1 false (.t 10), none⟩, ⟨some 12, .bin .quo (.t 9) (.t 11), none⟩, ⟨some 13, .build [.int .i64 0, .int .i64 0] [(0, 1, .t 8), (1, 1, .t 12)], none⟩, ⟨none, .store 2 (.t 4) (.t 13), none⟩])
 .ret))
noncomputable def X.i_hexOf (p0 : TMap) (p1 : Int) : Option THex :=
  (if p0.Width ≠ 0 then (if p0.Width ≠ 0 then some (THex.mk (Int.tmod p1 p0.Width) (W (Int.tdiv p1 p0.Width))) else none) else none)
theorem i_hexOf_ok (p0 : TMap) (p1 : Int) (r : THex) (H : X.i_hexOf p0 p1 = some r) : FnOk Tryd.prog gl 95 [.agg (eTMap p0), cI p1] (.agg (eTHex r)) := by
  unfold X.i_hexOf at H
  refine fn_in (fn := Tryd.f95) (ir := i_hexOf_ir) (s1 := lit [(4, .c (.pk 4 0))] [(4, .var (eTHex r) false)]) glL Tryd.func95 (by kernel_rfl) (by kernel_rfl) (by kernel_rfl) (by kernel_rfl) (by kernel_rfl) ?_
  refine seq_ops [] [] [(1, cI p1), (2, .c (.pk 2 0)), (4, .c (.pk 4 0))] [(2, .var (eTMap p0) false), (4, .var [.int .i64 0, .int .i64 0] false)] (fun t => t) (by kernel_rfl) ?_
  obtain ⟨g1, H⟩ := ofIf H
  obtain ⟨g2, H⟩ := ofIf H
  refine seq_draw [] [] [(4, .c (.pk 4 0))] [(4, .var [.int .i64 (Int.tmod p1 p0.Width), .int .i64 (W (Int.tdiv p1 p0.Width))] false)] (fun t => aI g1 (aI g2 (t))) (by kernel_rfl) ?_
  refine ends_ret ?_
  obtain rfl := Option.some.inj H
  exact And.intro (.inl rfl) rfl

def i_nextTo_ir : S :=
 (.seq (.ops [⟨some 3, .box 5 (.t 0), none⟩, ⟨some 6, .mv (.v (.int .i64 0)), none⟩])
 (.seq (.draw 8 [⟨some 7, .load 5 true (.t 3), none⟩, ⟨some 8, .load 5 true (.t 3), none⟩, ⟨some 9, .mv (.t 1), none⟩, ⟨some 10, .call 95 [.t 8, .t 9], none⟩, ⟨some 11, .mv (.t 2), none⟩, ⟨some 12, .call 94 [.t 10, .t 11, .v (.int .i64 1)], none⟩, ⟨some 13, .call 93 [.t 7, .t 12], none⟩, ⟨some 6, .mv (.t 13), none⟩])
 .ret))
noncomputable def X.i_nextTo (p0 : TMap) (p1 : Int) (p2 : Int) : Option Int :=
  ((X.i_hexOf p0 p1).bind fun v1 => ((X.i_stepBy v1 p2 1).bind fun v3 => ((X.i_indexOf p0 v3).bind fun v5 => some v5)))
theorem i_nextTo_ok (p0 : TMap) (p1 : Int) (p2 : Int) (r : Int) (H : X.i_nextTo p0 p1 p2 = some r) : FnOk Tryd.prog gl 90 [.agg (eTMap p0), cI p1, cI p2] (cI r) := by
  unfold X.i_nextTo at H
  refine fn_in (fn := Tryd.f90) (ir := i_nextTo_ir) (s1 := lit [(6, cI r)] []) glL Tryd.func90 (by kernel_rfl) (by kernel_rfl) (by kernel_rfl) (by kernel_rfl) (by kernel_rfl) ?_
  refine seq_ops [] [] [(1, cI p1), (2, cI p2), (3, .c (.pk 3 0))] [(3, .var (eTMap p0) false)] (fun t => t) (by kernel_rfl) ?_
  obtain ⟨v1, h2, H⟩ := ofBind H
  obtain ⟨v3, h4, H⟩ := ofBind H
  obtain ⟨v5, h6, H⟩ := ofBind H
  refine seq_draw [.res (.agg (eTHex v1)), .res (.agg (eTHex v3)), .res (cI v5)] [] [(6, cI v5)] [] (fun t => aI (i_hexOf_ok p0 p1 v1 h2) (aI trivial (aI (rfl : ([] : List Nat) = []) (aI (i_stepBy_ok v1 p2 1 v3 h4) (aI trivial (aI (rfl : ([] : List Nat) = []) (aI (i_indexOf_ok p0 v3 v5 h6) (aI trivial (aI (rfl : ([] : List Nat) = []) (t)))))))))) (by kernel_rfl) ?_
  refine ends_ret ?_
  obtain rfl := Option.some.inj H
  exact And.intro (.inl rfl) rfl

def i_isEdge_ir : S :=
 (.seq (.ops [⟨some 2, .box 5 (.t 0), none⟩, ⟨some 4, .mv (.v (.bool false)), none⟩])
 (.seq (.ops [⟨some 5, .mv (.t 1), none⟩, ⟨some 6, .fad 0 (.t 2), none⟩, ⟨some 7, .load 1 false (.t 6), none⟩, ⟨some 8, .bin .mul (.v (.int .i64 3)) (.t 7), none⟩, ⟨some 9, .fad 1 (.t 2), none⟩, ⟨some 10, .load 1 false (.t 9), none⟩, ⟨some 11, .bin .mul (.t 8) (.t 10), none⟩, ⟨some 12, .bin .sub (.t 11) (.v (.int .i64 1)), none⟩, ⟨some 13, .call 34 [.t 5, .v (.int .i64 0), .t 12], none⟩, ⟨some 14, .mv (.t 13), none⟩, ⟨some 15, .load 5 true (.t 2), some (14, true)⟩, ⟨some 16, .mv (.t 1), some (14, true)⟩, ⟨some 17, .bin .quo (.t 16) (.v (.int .i64 3)), some (14, true)⟩, ⟨some 18, .mv (.t 1), some (14, true)⟩, ⟨some 19, .bin .rem (.t 18) (.v (.int .i64 3)), some (14, true)⟩, ⟨some 20, .call 90 [.t 15, .t 17, .t 19], some (14, true)⟩, ⟨some 21, .bin .geq (.t 20) (.v (.int .i64 0)), some (14, true)⟩, ⟨some 22, .pick (.t 14) (.t 21) (.v (.bool false)), none⟩, ⟨some 4, .mv (.t 22), none⟩])
 .ret))
noncomputable def X.i_isEdge (p0 : TMap) (p1 : Int) : Option Bool :=
  ((X.i_inRange p1 0 (W ((W ((W (3 * p0.Width)) * p0.Height)) - 1))).bind fun v1 => (bif v1 then ((X.i_nextTo p0 (W (Int.tdiv p1 3)) (Int.tmod p1 3)).bind fun v4 => some (decide (v4 ≥ 0))) else some false))
theorem i_isEdge_ok (p0 : TMap) (p1 : Int) (r : Bool) (H : X.i_isEdge p0 p1 = some r) : FnOk Tryd.prog gl 73 [.agg (eTMap p0), cI p1] (cB r) := by
  unfold X.i_isEdge at H
  refine fn_in (fn := Tryd.f73) (ir := i_isEdge_ir) (s1 := lit [(4, cB r)] []) glL Tryd.func73 (by kernel_rfl) (by kernel_rfl) (by kernel_rfl) (by kernel_rfl) (by kernel_rfl) ?_
  refine seq_ops [] [] [(1, cI p1), (2, .c (.pk 2 0))] [(2, .var (eTMap p0) false)] (fun t => t) (by kernel_rfl) ?_
  obtain ⟨v1, h2, H⟩ := ofBind H
  rcases ofCond H with ⟨c3, H⟩ | ⟨c3, H⟩
  · obtain ⟨v4, h5, H⟩ := ofBind H
    refine seq_ops [.res (cB v1), .g true, .g true, .g true, .g true, .g true, .g true, .res (cI v4), .g true, .g true] [] [(4, cB (decide (v4 ≥ 0)))] [] (fun t => aI (i_inRange_ok p1 0 (W ((W ((W (3 * p0.Width)) * p0.Height)) - 1)) v1 h2) (aI c3 (aI c3 (aI c3 (aI (by decide : (3 : Int) ≠ 0) (aI c3 (aI c3 (aI (by decide : (3 : Int) ≠ 0) (aI c3 (aI (i_nextTo_ok p0 (W (Int.tdiv p1 3)) (Int.tmod p1 3) v4 h5) (aI c3 (aI c3 (t))))))))))))) (by kernel_rfl) ?_
    refine ends_ret ?_
    obtain rfl := Option.some.inj H
    exact And.intro (.inl rfl) rfl
  · refine seq_ops [.res (cB v1), .g false, .g false, .g false, .g false, .g false, .g false, .g false, .g false] [] [(4, cB false)] [] (fun t => aI (i_inRange_ok p1 0 (W ((W ((W (3 * p0.Width)) * p0.Height)) - 1)) v1 h2) (aI c3 (aI c3 (aI c3 (aI c3 (aI c3 (aI c3 (aI c3 (aI c3 (t)))))))))) (by kernel_rfl) ?_
    refine ends_ret ?_
    obtain rfl := Option.some.inj H
    exact And.intro (.inl rfl) rfl

def i_IsMap_ir : S :=
 (.seq (.ops [⟨some 1, .box 5 (.t 0), none⟩, ⟨some 2, .mv (.v (.bool false)), none⟩])
 (.seq (.seq (.ops [⟨some 9, .fad 0 (.t 1), none⟩, ⟨some 10, .load 1 false (.t 9), none⟩, ⟨some 11, .call 34 [.t 10, .v (.int .i64 1), .v (.int .i64 10)], none⟩, ⟨some 12, .not (.t 11), none⟩, ⟨some 13, .mv (.t 12), none⟩, ⟨some 14, .fad 1 (.t 1), some (13, false)⟩, ⟨some 15, .load 1 false (.t 14), some (13, false)⟩, ⟨some 16, .call 34 [.t 15, .v (.int .i64 1), .v (.int .i64 10)], some (13, false)⟩, ⟨some 17, .not (.t 16), some (13, false)⟩, ⟨some 18, .pick (.t 13) (.v (.bool true)) (.t 17), none⟩, ⟨some 19, .mv (.t 18), none⟩, ⟨some 20, .fad 2 (.t 1), some (19, false)⟩, ⟨some 21, .load 1 false (.t 20), some (19, false)⟩, ⟨some 22, .len (.t 21), some (19, false)⟩, ⟨some 23, .fad 0 (.t 1), some (19, false)⟩, ⟨some 24, .load 1 false (.t 23), some (19, false)⟩, ⟨some 25, .fad 1 (.t 1), some (19, false)⟩, ⟨some 26, .load 1 false (.t 25), some (19, false)⟩, ⟨some 27, .bin .mul (.t 24) (.t 26), some (19, false)⟩, ⟨some 28, .bin .neq (.t 22) (.t 27), some (19, false)⟩, ⟨some 29, .pick (.t 19) (.v (.bool true)) (.t 28), none⟩])
 (.ite (.t 29) (.seq (.ops [⟨some 2, .mv (.v (.bool false)), none⟩])
  .ret)
 .skip))
 (.seq (.seq (.ops [⟨some 30, .fad 2 (.t 1), none⟩, ⟨some 31, .load 1 false (.t 30), none⟩, ⟨some 32, .len (.t 31), none⟩, ⟨some 33, .mv (.v (.int .i64 0)), none⟩])
 (.blk 0 (.loop (.seq (.ops [⟨some 34, .bin .lss (.t 33) (.t 32), none⟩])
   (.seq (.ite (.t 34) .skip
   (.exit 0))
   (.seq (.blk 1 (.seq (.ops [⟨some 35, .iad 1 (.t 31) (.t 33), none⟩, ⟨some 36, .load 1 false (.t 35), none⟩, ⟨some 4, .mv (.t 36), none⟩])
    (.seq (.ops [⟨some 37, .mv (.t 4), none⟩, ⟨some 38, .call 71 [.t 37, .v (.int .i64 6)], none⟩, ⟨some 39, .not (.t 38), none⟩])
    (.ite (.t 39) (.seq (.ops [⟨some 2, .mv (.v (.bool false)), none⟩])
     .ret)
    .skip))))
   (.ops [⟨some 40, .bin .add (.t 33) (.v (.int .i64 1)), none⟩, ⟨some 33, .mv (.t 40), none⟩])))))))
 (.seq (.seq (.ops [⟨some 41, .fad 3 (.t 1), none⟩, ⟨some 42, .load 1 false (.t 41), none⟩, ⟨some 43, .fad 4 (.t 1), none⟩, ⟨some 44, .load 1 false (.t 43), none⟩, ⟨some 45, .bsl 1 [.t 42, .t 44], none⟩, ⟨some 46, .len (.t 45), none⟩, ⟨some 47, .mv (.v (.int .i64 0)), none⟩])
 (.blk 2 (.loop (.seq (.ops [⟨some 48, .bin .lss (.t 47) (.t 46), none⟩])
   (.seq (.ite (.t 48) .skip
   (.exit 2))
   (.seq (.blk 3 (.seq (.ops [⟨some 49, .iad 1 (.t 45) (.t 47), none⟩, ⟨some 50, .load 1 false (.t 49), none⟩, ⟨some 6, .mv (.t 50), none⟩])
    (.seq (.seq (.ops [⟨some 51, .mv (.t 6), none⟩, ⟨some 52, .call 72 [.t 51], none⟩, ⟨some 53, .not (.t 52), none⟩])
    (.ite (.t 53) (.seq (.ops [⟨some 2, .mv (.v (.bool false)), none⟩])
     .ret)
    .skip))
    (.seq (.ops [⟨some 54, .mv (.t 6), none⟩, ⟨some 55, .len (.t 54), none⟩, ⟨some 56, .mv (.v (.int .i64 0)), none⟩])
    (.blk 4 (.loop (.seq (.ops [⟨some 57, .bin .lss (.t 56) (.t 55), none⟩])
      (.seq (.ite (.t 57) .skip
      (.exit 4))
      (.seq (.blk 5 (.seq (.ops [⟨some 58, .iad 1 (.t 54) (.t 56), none⟩, ⟨some 59, .load 1 false (.t 58), none⟩, ⟨some 8, .mv (.t 59), none⟩])
       (.seq (.ops [⟨some 60, .load 5 true (.t 1), none⟩, ⟨some 61, .mv (.t 8), none⟩, ⟨some 62, .call 73 [.t 60, .t 61], none⟩, ⟨some 63, .not (.t 62), none⟩])
       (.ite (.t 63) (.seq (.ops [⟨some 2, .mv (.v (.bool false)), none⟩])
        .ret)
       .skip))))
      (.ops [⟨some 64, .bin .add (.t 56) (.v (.int .i64 1)), none⟩, ⟨some 56, .mv (.t 64), none⟩]))))))))))
   (.ops [⟨some 65, .bin .add (.t 47) (.v (.int .i64 1)), none⟩, ⟨some 47, .mv (.t 65), none⟩])))))))
 (.seq (.ops [⟨some 2, .mv (.v (.bool true)), none⟩])
 .ret)))))
noncomputable def X.i_IsMap (p0 : TMap) : Option Bool :=
  ((X.i_inRange p0.Width 1 10).bind fun v8 => (bif (!v8) then some false else ((X.i_inRange p0.Height 1 10).bind fun v11 => (bif (!v11) then some false else (bif ((p0.Terrain.length : Int) != (W (p0.Width * p0.Height))) then some false else ((loop (fun (x57 : Int) => ((bif (decide (x57 < (p0.Terrain.length : Int))) then ((at' zI p0.Terrain x57).bind fun v60 => ((X.i_isIndex v60 6).bind fun v62 => (bif (!v62) then some (Sum.inr (Sum.inr false)) else some (Sum.inl (W (x57 + 1)))))) else some (Sum.inr (Sum.inl ()))) : Option (Int ⊕ (Unit ⊕ Bool)))) 0).bind fun y65 => (Sum.elim (fun (y67 : Unit) => ((loop (fun (x142 : Int) => ((bif (decide (x142 < (([p0.Rivers, p0.Roads] : List (List Int)).length : Int))) then (if 0 ≤ x142 ∧ x142 < (([p0.Rivers, p0.Roads] : List (List Int)).length : Int) then ((X.i_increasing (([p0.Rivers, p0.Roads] : List (List Int)).getD x142.toNat zLI)).bind fun v149 => (bif (!v149) then some (Sum.inr (Sum.inr false)) else ((loop (fun (x167 : Int) => ((bif (decide (x167 < ((([p0.Rivers, p0.Roads] : List (List Int)).getD x142.toNat zLI).length : Int))) then ((at' zI (([p0.Rivers, p0.Roads] : List (List Int)).getD x142.toNat zLI) x167).bind fun v170 => ((X.i_isEdge p0 v170).bind fun v172 => (bif (!v172) then some (Sum.inr (Sum.inr false)) else some (Sum.inl (W (x167 + 1)))))) else some (Sum.inr (Sum.inl ()))) : Option (Int ⊕ (Unit ⊕ Bool)))) 0).bind fun y175 => (Sum.elim (fun (y177 : Unit) => some (Sum.inl (W (x142 + 1)))) (fun (y178 : Bool) => some (Sum.inr (Sum.inr y178))) y175)))) else none) else some (Sum.inr (Sum.inl ()))) : Option (Int ⊕ (Unit ⊕ Bool)))) 0).bind fun y179 => (Sum.elim (fun (y181 : Unit) => some true) (fun (y182 : Bool) => some y182) y179))) (fun (y68 : Bool) => some y68) y65)))))))
theorem i_IsMap_ok (p0 : TMap) (r : Bool) (H : X.i_IsMap p0 = some r) : FnOk Tryd.prog gl 53 [.agg (eTMap p0)] (cB r) := by
  unfold X.i_IsMap at H
  refine fn_in (fn := Tryd.f53) (ir := i_IsMap_ir) (s1 := lit [(2, cB r)] []) glL Tryd.func53 (by kernel_rfl) (by kernel_rfl) (by kernel_rfl) (by kernel_rfl) (by kernel_rfl) ?_
  refine seq_ops [] [] [(1, .c (.pk 1 0))] [(1, .var (eTMap p0) false)] (fun t => t) (by kernel_rfl) ?_
  refine seq_in ?_
  obtain ⟨v8, h9, H⟩ := ofBind H
  rcases ofCond H with ⟨c10, H⟩ | ⟨c10, H⟩
  · refine seq_ops [.res (cB v8), .g true, .g true, .g true, .g true, .g true, .g true, .g true, .g true, .g true, .g true, .g true, .g true, .g true, .g true, .g true] [] [(1, .c (.pk 1 0)), (29, cB true)] [(1, .var (eTMap p0) false)] (fun t => aI (i_inRange_ok p0.Width 1 10 v8 h9) (aI c10 (aI c10 (aI c10 (aI c10 (aI c10 (aI (rfl : (true : Bool) = true) (aI (rfl : (true : Bool) = true) (aI (rfl : (true : Bool) = true) (aI (rfl : (true : Bool) = true) (aI (rfl : (true : Bool) = true) (aI (rfl : (true : Bool) = true) (aI (rfl : (true : Bool) = true) (aI (rfl : (true : Bool) = true) (aI (rfl : (true : Bool) = true) (aI (rfl : (true : Bool) = true) (t))))))))))))))))) (by kernel_rfl) ?_
    refine ite_t (rfl : (true : Bool) = true) (by kernel_rfl) ?_
    refine seq_ops [] [] [(2, cB false)] [] (fun t => t) (by kernel_rfl) ?_
    refine ends_ret ?_
    obtain rfl := Option.some.inj H
    exact And.intro (.inl rfl) rfl
  · obtain ⟨v11, h12, H⟩ := ofBind H
    rcases ofCond H with ⟨c13, H⟩ | ⟨c13, H⟩
    · refine seq_ops [.res (cB v8), .g false, .g false, .g false, .res (cB v11), .g false, .g false, .g true, .g true, .g true, .g true, .g true, .g true, .g true, .g true, .g true, .g true] [] [(1, .c (.pk 1 0)), (29, cB true)] [(1, .var (eTMap p0) false)] (fun t => aI (i_inRange_ok p0.Width 1 10 v8 h9) (aI c10 (aI c10 (aI c10 (aI (i_inRange_ok p0.Height 1 10 v11 h12) (aI c10 (aI c10 (aI c13 (aI c13 (aI c13 (aI c13 (aI c13 (aI c13 (aI c13 (aI c13 (aI c13 (aI c13 (t)))))))))))))))))) (by kernel_rfl) ?_
      refine ite_t (rfl : (true : Bool) = true) (by kernel_rfl) ?_
      refine seq_ops [] [] [(2, cB false)] [] (fun t => t) (by kernel_rfl) ?_
      refine ends_ret ?_
      obtain rfl := Option.some.inj H
      exact And.intro (.inl rfl) rfl
    · refine seq_ops [.res (cB v8), .g false, .g false, .g false, .res (cB v11), .g false, .g false, .g false, .g false, .g false, .g false, .g false, .g false, .g false, .g false, .g false, .g false] [] [(1, .c (.pk 1 0)), (29, cB ((p0.Terrain.length : Int) != (W (p0.Width * p0.Height))))] [(1, .var (eTMap p0) false)] (fun t => aI (i_inRange_ok p0.Width 1 10 v8 h9) (aI c10 (aI c10 (aI c10 (aI (i_inRange_ok p0.Height 1 10 v11 h12) (aI c10 (aI c10 (aI c13 (aI c13 (aI c13 (lI p0.Terrain (aI c13 (aI c13 (aI c13 (aI c13 (aI c13 (aI c13 (aI c13 (t))))))))))))))))))) (by kernel_rfl) ?_
      rcases ofCond H with ⟨c14, H⟩ | ⟨c14, H⟩
      · refine ite_t c14 (by kernel_rfl) ?_
        refine seq_ops [] [] [(2, cB false)] [] (fun t => t) (by kernel_rfl) ?_
        refine ends_ret ?_
        obtain rfl := Option.some.inj H
        exact And.intro (.inl rfl) rfl
      · refine ite_f c14 (by kernel_rfl) ?_
        refine ends_skip ?_
        change EndsI _ _ _ _ _ _
        refine seq_in ?_
        refine seq_ops [] [] [(1, .c (.pk 1 0)), (31, .c (dat 1 eI zI p0.Terrain)), (32, cI (p0.Terrain.length : Int)), (33, cI 0)] [(1, .var (eTMap p0) false)] (fun t => lI p0.Terrain (t)) (by kernel_rfl) ?_
        refine ends_blk ?_
        obtain ⟨y65, h66, H⟩ := ofBind H
        refine loop_in (fun (x : Int) => lit [(1, .c (.pk 1 0)), (31, .c (dat 1 eI zI p0.Terrain)), (32, cI (p0.Terrain.length : Int)), (33, cI x)] [(1, .var (eTMap p0) false)]) (orJ (fun (z : Unit) => At (.exit 0) (lit [(1, .c (.pk 1 0))] [(1, .var (eTMap p0) false)])) (fun (z : Bool) => At .ret (lit [(2, cB z)] []))) h66 ?_ ?_
        · clear H h66
          intro x57 y0 H
          refine seq_ops [] [] [(1, .c (.pk 1 0)), (31, .c (dat 1 eI zI p0.Terrain)), (32, cI (p0.Terrain.length : Int)), (33, cI x57), (34, cB (decide (x57 < (p0.Terrain.length : Int))))] [(1, .var (eTMap p0) false)] (fun t => t) (by kernel_rfl) ?_
          refine seq_in ?_
          rcases ofCond H with ⟨c59, H⟩ | ⟨c59, H⟩
          · refine ite_t c59 (by kernel_rfl) ?_
            refine ends_skip ?_
            change EndsI _ _ _ _ _ _
            refine seq_in ?_
            refine ends_blk ?_
            obtain ⟨v60, h61, H⟩ := ofBind H
            refine seq_ops [.cs (eI v60)] [] [(1, .c (.pk 1 0)), (4, cI v60), (31, .c (dat 1 eI zI p0.Terrain)), (32, cI (p0.Terrain.length : Int)), (33, cI x57)] [(1, .var (eTMap p0) false)] (fun t => aI (at_lt h61) (aI (at_enc (enc := eI) h61) (t))) (by kernel_rfl) ?_
            obtain ⟨v62, h63, H⟩ := ofBind H
            refine seq_ops [.res (cB v62)] [] [(1, .c (.pk 1 0)), (31, .c (dat 1 eI zI p0.Terrain)), (32, cI (p0.Terrain.length : Int)), (33, cI x57), (39, cB (!v62))] [(1, .var (eTMap p0) false)] (fun t => aI (i_isIndex_ok v60 6 v62 h63) (t)) (by kernel_rfl) ?_
            rcases ofCond H with ⟨c64, H⟩ | ⟨c64, H⟩
            · refine ite_t c64 (by kernel_rfl) ?_
              refine seq_ops [] [] [(2, cB false)] [] (fun t => t) (by kernel_rfl) ?_
              refine ends_ret ?_
              obtain rfl := Option.some.inj H
              exact And.intro (by simp) (And.intro rfl rfl)
            · refine ite_f c64 (by kernel_rfl) ?_
              refine ends_skip ?_
              change EndsI _ _ _ _ _ _
              refine one_ops [] [] [(1, .c (.pk 1 0)), (31, .c (dat 1 eI zI p0.Terrain)), (32, cI (p0.Terrain.length : Int)), (33, cI (W (x57 + 1)))] [(1, .var (eTMap p0) false)] (fun t => t) (by kernel_rfl) ?_
              obtain rfl := Option.some.inj H
              exact And.intro rfl rfl
          · refine ite_f c59 (by kernel_rfl) ?_
            refine tell [] [(1, .c (.pk 1 0))] [(1, .var (eTMap p0) false)] (fun t => t) (by kernel_rfl) ?_
            refine ends_exit ?_
            obtain rfl := Option.some.inj H
            exact And.intro (by simp) (And.intro rfl rfl)
        · clear h66
          cases y65 with
          | inl y67 =>
            replace H := ofInl H
            intro e s q
            obtain ⟨rfl, rfl⟩ := q
            change EndsI _ _ _ _ _ _
            refine seq_in ?_
            refine seq_ops [.fn ([p0.Rivers, p0.Roads] : List (List Int)).length (fF eLI zLI ([p0.Rivers, p0.Roads] : List (List Int)))] [] [(1, .c (.pk 1 0)), (45, .c (.own 45 1 0 (([p0.Rivers, p0.Roads] : List (List Int)).length))), (46, cI (([p0.Rivers, p0.Roads] : List (List Int)).length : Int)), (47, cI 0)] [(1, .var (eTMap p0) false), (45, .arr 1 (([p0.Rivers, p0.Roads] : List (List Int)).length) (fF eLI zLI ([p0.Rivers, p0.Roads] : List (List Int))) false)] (fun t => aI (rfl : ([p0.Rivers, p0.Roads] : List (List Int)).length = 2) (aI (fF_lit eLI zLI ([p0.Rivers, p0.Roads] : List (List Int))) ((fun (_ : ([p0.Rivers, p0.Roads] : List (List Int)).length ≤ maxLen) => t)))) (by kernel_rfl) ?_
            refine ends_blk ?_
            obtain ⟨y179, h180, H⟩ := ofBind H
            refine loop_in (fun (x : Int) => lit [(1, .c (.pk 1 0)), (45, .c (.own 45 1 0 (([p0.Rivers, p0.Roads] : List (List Int)).length))), (46, cI (([p0.Rivers, p0.Roads] : List (List Int)).length : Int)), (47, cI x)] [(1, .var (eTMap p0) false), (45, .arr 1 (([p0.Rivers, p0.Roads] : List (List Int)).length) (fF eLI zLI ([p0.Rivers, p0.Roads] : List (List Int))) false)]) (orJ (fun (z : Unit) => At (.exit 2) (lit [] [])) (fun (z : Bool) => At .ret (lit [(2, cB z)] []))) h180 ?_ ?_
            · clear H h180
              intro x142 y0 H
              refine seq_ops [] [] [(1, .c (.pk 1 0)), (45, .c (.own 45 1 0 (([p0.Rivers, p0.Roads] : List (List Int)).length))), (46, cI (([p0.Rivers, p0.Roads] : List (List Int)).length : Int)), (47, cI x142), (48, cB (decide (x142 < (([p0.Rivers, p0.Roads] : List (List Int)).length : Int))))] [(1, .var (eTMap p0) false), (45, .arr 1 (([p0.Rivers, p0.Roads] : List (List Int)).length) (fF eLI zLI ([p0.Rivers, p0.Roads] : List (List Int))) false)] (fun t => t) (by kernel_rfl) ?_
              refine seq_in ?_
              rcases ofCond H with ⟨c144, H⟩ | ⟨c144, H⟩
              · refine ite_t c144 (by kernel_rfl) ?_
                refine ends_skip ?_
                change EndsI _ _ _ _ _ _
                refine seq_in ?_
                refine ends_blk ?_
                obtain ⟨g145, H⟩ := ofIf H
                refine seq_ops [.no] [] [(1, .c (.pk 1 0)), (6, .c (dat 1 eI zI (([p0.Rivers, p0.Roads] : List (List Int)).getD x142.toNat zLI))), (45, .c (.own 45 1 0 (([p0.Rivers, p0.Roads] : List (List Int)).length))), (46, cI (([p0.Rivers, p0.Roads] : List (List Int)).length : Int)), (47, cI x142)] [(1, .var (eTMap p0) false), (45, .arr 1 (([p0.Rivers, p0.Roads] : List (List Int)).length) (fF eLI zLI ([p0.Rivers, p0.Roads] : List (List Int))) false)] (fun t => aI g145 (aI (nat_lt g145) (t))) (by kernel_rfl) ?_
                refine seq_in ?_
                obtain ⟨v149, h150, H⟩ := ofBind H
                refine seq_ops [.res (cB v149)] [] [(1, .c (.pk 1 0)), (6, .c (dat 1 eI zI (([p0.Rivers, p0.Roads] : List (List Int)).getD x142.toNat zLI))), (45, .c (.own 45 1 0 (([p0.Rivers, p0.Roads] : List (List Int)).length))), (46, cI (([p0.Rivers, p0.Roads] : List (List Int)).length : Int)), (47, cI x142), (53, cB (!v149))] [(1, .var (eTMap p0) false), (45, .arr 1 (([p0.Rivers, p0.Roads] : List (List Int)).length) (fF eLI zLI ([p0.Rivers, p0.Roads] : List (List Int))) false)] (fun t => aI (i_increasing_ok (([p0.Rivers, p0.Roads] : List (List Int)).getD x142.toNat zLI) v149 h150) (t)) (by kernel_rfl) ?_
                rcases ofCond H with ⟨c151, H⟩ | ⟨c151, H⟩
                · refine ite_t c151 (by kernel_rfl) ?_
                  refine seq_ops [] [] [(2, cB false)] [] (fun t => t) (by kernel_rfl) ?_
                  refine ends_ret ?_
                  obtain rfl := Option.some.inj H
                  exact And.intro (by simp) (And.intro rfl rfl)
                · refine ite_f c151 (by kernel_rfl) ?_
                  refine ends_skip ?_
                  change EndsI _ _ _ _ _ _
                  refine seq_ops [] [] [(1, .c (.pk 1 0)), (45, .c (.own 45 1 0 (([p0.Rivers, p0.Roads] : List (List Int)).length))), (46, cI (([p0.Rivers, p0.Roads] : List (List Int)).length : Int)), (47, cI x142), (54, .c (dat 1 eI zI (([p0.Rivers, p0.Roads] : List (List Int)).getD x142.toNat zLI))), (55, cI ((([p0.Rivers, p0.Roads] : List (List Int)).getD x142.toNat zLI).length : Int)), (56, cI 0)] [(1, .var (eTMap p0) false), (45, .arr 1 (([p0.Rivers, p0.Roads] : List (List Int)).length) (fF eLI zLI ([p0.Rivers, p0.Roads] : List (List Int))) false)] (fun t => (fun (_ : (([p0.Rivers, p0.Roads] : List (List Int)).getD x142.toNat zLI).length ≤ maxLen) => t)) (by kernel_rfl) ?_
                  refine ends_blk ?_
                  obtain ⟨y175, h176, H⟩ := ofBind H
                  refine loop_in (fun (x : Int) => lit [(1, .c (.pk 1 0)), (45, .c (.own 45 1 0 (([p0.Rivers, p0.Roads] : List (List Int)).length))), (46, cI (([p0.Rivers, p0.Roads] : List (List Int)).length : Int)), (47, cI x142), (54, .c (dat 1 eI zI (([p0.Rivers, p0.Roads] : List (List Int)).getD x142.toNat zLI))), (55, cI ((([p0.Rivers, p0.Roads] : List (List Int)).getD x142.toNat zLI).length : Int)), (56, cI x)] [(1, .var (eTMap p0) false), (45, .arr 1 (([p0.Rivers, p0.Roads] : List (List Int)).length) (fF eLI zLI ([p0.Rivers, p0.Roads] : List (List Int))) false)]) (orJ (fun (z : Unit) => At (.exit 4) (lit [(1, .c (.pk 1 0)), (45, .c (.own 45 1 0 (([p0.Rivers, p0.Roads] : List (List Int)).length))), (46, cI (([p0.Rivers, p0.Roads] : List (List Int)).length : Int)), (47, cI x142)] [(1, .var (eTMap p0) false), (45, .arr 1 (([p0.Rivers, p0.Roads] : List (List Int)).length) (fF eLI zLI ([p0.Rivers, p0.Roads] : List (List Int))) false)])) (fun (z : Bool) => At .ret (lit [(2, cB z)] []))) h176 ?_ ?_
                  · clear H h176
                    intro x167 y0 H
                    refine seq_ops [] [] [(1, .c (.pk 1 0)), (45, .c (.own 45 1 0 (([p0.Rivers, p0.Roads] : List (List Int)).length))), (46, cI (([p0.Rivers, p0.Roads] : List (List Int)).length : Int)), (47, cI x142), (54, .c (dat 1 eI zI (([p0.Rivers, p0.Roads] : List (List Int)).getD x142.toNat zLI))), (55, cI ((([p0.Rivers, p0.Roads] : List (List Int)).getD x142.toNat zLI).length : Int)), (56, cI x167), (57, cB (decide (x167 < ((([p0.Rivers, p0.Roads] : List (List Int)).getD x142.toNat zLI).length : Int))))] [(1, .var (eTMap p0) false), (45, .arr 1 (([p0.Rivers, p0.Roads] : List (List Int)).length) (fF eLI zLI ([p0.Rivers, p0.Roads] : List (List Int))) false)] (fun t => t) (by kernel_rfl) ?_
                    refine seq_in ?_
                    rcases ofCond H with ⟨c169, H⟩ | ⟨c169, H⟩
                    · refine ite_t c169 (by kernel_rfl) ?_
                      refine ends_skip ?_
                      change EndsI _ _ _ _ _ _
                      refine seq_in ?_
                      refine ends_blk ?_
                      obtain ⟨v170, h171, H⟩ := ofBind H
                      refine seq_ops [.cs (eI v170)] [] [(1, .c (.pk 1 0)), (8, cI v170), (45, .c (.own 45 1 0 (([p0.Rivers, p0.Roads] : List (List Int)).length))), (46, cI (([p0.Rivers, p0.Roads] : List (List Int)).length : Int)), (47, cI x142), (54, .c (dat 1 eI zI (([p0.Rivers, p0.Roads] : List (List Int)).getD x142.toNat zLI))), (55, cI ((([p0.Rivers, p0.Roads] : List (List Int)).getD x142.toNat zLI).length : Int)), (56, cI x167)] [(1, .var (eTMap p0) false), (45, .arr 1 (([p0.Rivers, p0.Roads] : List (List Int)).length) (fF eLI zLI ([p0.Rivers, p0.Roads] : List (List Int))) false)] (fun t => aI (at_lt h171) (aI (at_enc (enc := eI) h171) (t))) (by kernel_rfl) ?_
                      obtain ⟨v172, h173, H⟩ := ofBind H
                      refine seq_ops [.res (cB v172)] [] [(1, .c (.pk 1 0)), (45, .c (.own 45 1 0 (([p0.Rivers, p0.Roads] : List (List Int)).length))), (46, cI (([p0.Rivers, p0.Roads] : List (List Int)).length : Int)), (47, cI x142), (54, .c (dat 1 eI zI (([p0.Rivers, p0.Roads] : List (List Int)).getD x142.toNat zLI))), (55, cI ((([p0.Rivers, p0.Roads] : List (List Int)).getD x142.toNat zLI).length : Int)), (56, cI x167), (63, cB (!v172))] [(1, .var (eTMap p0) false), (45, .arr 1 (([p0.Rivers, p0.Roads] : List (List Int)).length) (fF eLI zLI ([p0.Rivers, p0.Roads] : List (List Int))) false)] (fun t => aI (i_isEdge_ok p0 v170 v172 h173) (t)) (by kernel_rfl) ?_
                      rcases ofCond H with ⟨c174, H⟩ | ⟨c174, H⟩
                      · refine ite_t c174 (by kernel_rfl) ?_
                        refine seq_ops [] [] [(2, cB false)] [] (fun t => t) (by kernel_rfl) ?_
                        refine ends_ret ?_
                        obtain rfl := Option.some.inj H
                        exact And.intro (by simp) (And.intro rfl rfl)
                      · refine ite_f c174 (by kernel_rfl) ?_
                        refine ends_skip ?_
                        change EndsI _ _ _ _ _ _
                        refine one_ops [] [] [(1, .c (.pk 1 0)), (45, .c (.own 45 1 0 (([p0.Rivers, p0.Roads] : List (List Int)).length))), (46, cI (([p0.Rivers, p0.Roads] : List (List Int)).length : Int)), (47, cI x142), (54, .c (dat 1 eI zI (([p0.Rivers, p0.Roads] : List (List Int)).getD x142.toNat zLI))), (55, cI ((([p0.Rivers, p0.Roads] : List (List Int)).getD x142.toNat zLI).length : Int)), (56, cI (W (x167 + 1)))] [(1, .var (eTMap p0) false), (45, .arr 1 (([p0.Rivers, p0.Roads] : List (List Int)).length) (fF eLI zLI ([p0.Rivers, p0.Roads] : List (List Int))) false)] (fun t => t) (by kernel_rfl) ?_
                        obtain rfl := Option.some.inj H
                        exact And.intro rfl rfl
                    · refine ite_f c169 (by kernel_rfl) ?_
                      refine tell [] [(1, .c (.pk 1 0)), (45, .c (.own 45 1 0 (([p0.Rivers, p0.Roads] : List (List Int)).length))), (46, cI (([p0.Rivers, p0.Roads] : List (List Int)).length : Int)), (47, cI x142)] [(1, .var (eTMap p0) false), (45, .arr 1 (([p0.Rivers, p0.Roads] : List (List Int)).length) (fF eLI zLI ([p0.Rivers, p0.Roads] : List (List Int))) false)] (fun t => t) (by kernel_rfl) ?_
                      refine ends_exit ?_
                      obtain rfl := Option.some.inj H
                      exact And.intro (by simp) (And.intro rfl rfl)
                  · clear h176
                    cases y175 with
                    | inl y177 =>
                      replace H := ofInl H
                      intro e s q
                      obtain ⟨rfl, rfl⟩ := q
                      change EndsI _ _ _ _ _ _
                      refine one_ops [] [] [(1, .c (.pk 1 0)), (45, .c (.own 45 1 0 (([p0.Rivers, p0.Roads] : List (List Int)).length))), (46, cI (([p0.Rivers, p0.Roads] : List (List Int)).length : Int)), (47, cI (W (x142 + 1)))] [(1, .var (eTMap p0) false), (45, .arr 1 (([p0.Rivers, p0.Roads] : List (List Int)).length) (fF eLI zLI ([p0.Rivers, p0.Roads] : List (List Int))) false)] (fun t => t) (by kernel_rfl) ?_
                      obtain rfl := Option.some.inj H
                      exact And.intro rfl rfl
                    | inr y178 =>
                      replace H := ofInr H
                      intro e s q
                      obtain ⟨rfl, rfl⟩ := q
                      obtain rfl := Option.some.inj H
                      exact And.intro (by simp) (And.intro rfl rfl)
              · refine ite_f c144 (by kernel_rfl) ?_
                refine tell [] [] [] (fun t => t) (by kernel_rfl) ?_
                refine ends_exit ?_
                obtain rfl := Option.some.inj H
                exact And.intro (by simp) (And.intro rfl rfl)
            · clear h180
              cases y179 with
              | inl y181 =>
                replace H := ofInl H
                intro e s q
                obtain ⟨rfl, rfl⟩ := q
                change EndsI _ _ _ _ _ _
                refine seq_ops [] [] [(2, cB true)] [] (fun t => t) (by kernel_rfl) ?_
                refine ends_ret ?_
                obtain rfl := Option.some.inj H
                exact And.intro (.inl rfl) rfl
              | inr y182 =>
                replace H := ofInr H
                intro e s q
                obtain ⟨rfl, rfl⟩ := q
                obtain rfl := Option.some.inj H
                exact And.intro (.inl rfl) rfl
          | inr y68 =>
            replace H := ofInr H
            intro e s q
            obtain ⟨rfl, rfl⟩ := q
            obtain rfl := Option.some.inj H
            exact And.intro (.inl rfl) rfl

theorem g_IndexFunc_int_c1_ok (p0 : (List Int)) (cf1 : FuncId) (cs1_0 : List AC) (f1 : Int → Option Bool) (hf1 : ∀ q0 r, f1 q0 = some r → FnOk Tryd.prog gl cf1 [cI q0, .c (.pd cs1_0 0)] (cB r)) (r : Int) (H : X.g_IndexFunc_int p0 f1 = some r) : FnOk Tryd.prog gl 74 [.c (dat 1 eI zI p0), .c (.clo cf1 [.pd cs1_0 0])] (cI r) := by
  unfold X.g_IndexFunc_int at H
  refine fn_in (fn := Tryd.f74) (ir := g_IndexFunc_int_ir) (s1 := lit [(4, cI r)] []) glL Tryd.func74 (by kernel_rfl) (by kernel_rfl) (by kernel_rfl) (by kernel_rfl) (by kernel_rfl) ?_
  refine seq_ops [] [] [(0, .c (dat 1 eI zI p0)), (1, .c (.clo cf1 [.pd cs1_0 0]))] [] (fun t => t) (by kernel_rfl) ?_
  refine seq_in ?_
  refine seq_ops [] [] [(0, .c (dat 1 eI zI p0)), (1, .c (.clo cf1 [.pd cs1_0 0])), (7, cI (p0.length : Int)), (8, cI 0)] [] (fun t => lI p0 (t)) (by kernel_rfl) ?_
  refine ends_blk ?_
  obtain ⟨y24, h25, H⟩ := ofBind H
  refine loop_in (fun (x : Int) => lit [(0, .c (dat 1 eI zI p0)), (1, .c (.clo cf1 [.pd cs1_0 0])), (7, cI (p0.length : Int)), (8, cI x)] []) (orJ (fun (z : Unit) => At (.exit 0) (lit [] [])) (fun (z : Int) => At .ret (lit [(4, cI z)] []))) h25 ?_ ?_
  · clear H h25
    intro x16 y0 H
    refine seq_ops [] [] [(0, .c (dat 1 eI zI p0)), (1, .c (.clo cf1 [.pd cs1_0 0])), (7, cI (p0.length : Int)), (8, cI x16), (9, cB (decide (x16 < (p0.length : Int))))] [] (fun t => t) (by kernel_rfl) ?_
    refine seq_in ?_
    rcases ofCond H with ⟨c18, H⟩ | ⟨c18, H⟩
    · refine ite_t c18 (by kernel_rfl) ?_
      refine ends_skip ?_
      change EndsI _ _ _ _ _ _
      refine seq_in ?_
      refine ends_blk ?_
      refine seq_ops [] [] [(0, .c (dat 1 eI zI p0)), (1, .c (.clo cf1 [.pd cs1_0 0])), (5, cI x16), (7, cI (p0.length : Int)), (8, cI x16)] [] (fun t => t) (by kernel_rfl) ?_
      obtain ⟨v19, h20, H⟩ := ofBind H
      obtain ⟨v21, h22, H⟩ := ofBind H
      refine seq_ops [.cs (eI v19), .res (cB v21)] [] [(0, .c (dat 1 eI zI p0)), (1, .c (.clo cf1 [.pd cs1_0 0])), (5, cI x16), (7, cI (p0.length : Int)), (8, cI x16), (16, cB v21)] [] (fun t => aI (at_lt h20) (aI (at_enc (enc := eI) h20) (aI (hf1 v19 v21 h22) (t)))) (by kernel_rfl) ?_
      rcases ofCond H with ⟨c23, H⟩ | ⟨c23, H⟩
      · refine ite_t c23 (by kernel_rfl) ?_
        refine seq_ops [] [] [(4, cI x16)] [] (fun t => t) (by kernel_rfl) ?_
        refine ends_ret ?_
        obtain rfl := Option.some.inj H
        exact And.intro (by simp) (And.intro rfl rfl)
      · refine ite_f c23 (by kernel_rfl) ?_
        refine ends_skip ?_
        change EndsI _ _ _ _ _ _
        refine one_ops [] [] [(0, .c (dat 1 eI zI p0)), (1, .c (.clo cf1 [.pd cs1_0 0])), (7, cI (p0.length : Int)), (8, cI (W (x16 + 1)))] [] (fun t => t) (by kernel_rfl) ?_
        obtain rfl := Option.some.inj H
        exact And.intro rfl rfl
    · refine ite_f c18 (by kernel_rfl) ?_
      refine tell [] [] [] (fun t => t) (by kernel_rfl) ?_
      refine ends_exit ?_
      obtain rfl := Option.some.inj H
      exact And.intro (by simp) (And.intro rfl rfl)
  · clear h25
    cases y24 with
    | inl y26 =>
      replace H := ofInl H
      intro e s q
      obtain ⟨rfl, rfl⟩ := q
      change EndsI _ _ _ _ _ _
      refine seq_ops [] [] [(4, cI (-1))] [] (fun t => t) (by kernel_rfl) ?_
      refine ends_ret ?_
      obtain rfl := Option.some.inj H
      exact And.intro (.inl rfl) rfl
    | inr y27 =>
      replace H := ofInr H
      intro e s q
      obtain ⟨rfl, rfl⟩ := q
      obtain rfl := Option.some.inj H
      exact And.intro (.inl rfl) rfl

theorem g_ContainsFunc_int_c1_ok (p0 : (List Int)) (cf1 : FuncId) (cs1_0 : List AC) (f1 : Int → Option Bool) (hf1 : ∀ q0 r, f1 q0 = some r → FnOk Tryd.prog gl cf1 [cI q0, .c (.pd cs1_0 0)] (cB r)) (r : Bool) (H : X.g_ContainsFunc_int p0 f1 = some r) : FnOk Tryd.prog gl 54 [.c (dat 1 eI zI p0), .c (.clo cf1 [.pd cs1_0 0])] (cB r) := by
  unfold X.g_ContainsFunc_int at H
  refine fn_in (fn := Tryd.f54) (ir := g_ContainsFunc_int_ir) (s1 := lit [(4, cB r)] []) glL Tryd.func54 (by kernel_rfl) (by kernel_rfl) (by kernel_rfl) (by kernel_rfl) (by kernel_rfl) ?_
  refine seq_ops [] [] [(0, .c (dat 1 eI zI p0)), (1, .c (.clo cf1 [.pd cs1_0 0]))] [] (fun t => t) (by kernel_rfl) ?_
  obtain ⟨v1, h2, H⟩ := ofBind H
  refine seq_ops [.res (cI v1)] [] [(4, cB (decide (v1 ≥ 0)))] [] (fun t => aI (g_IndexFunc_int_c1_ok p0 (cf1) (cs1_0) f1 hf1 v1 h2) (t)) (by kernel_rfl) ?_
  refine ends_ret ?_
  obtain rfl := Option.some.inj H
  exact And.intro (.inl rfl) rfl

def i_IsBoard_1_ir : S :=
 (.seq (.ops [⟨some 3, .mv (.v (.bool false)), none⟩])
 (.seq (.ops [⟨some 4, .mv (.t 0), none⟩, ⟨some 5, .fad 0 (.t 1), none⟩, ⟨some 6, .fad 0 (.t 5), none⟩, ⟨some 7, .load 1 false (.t 6), none⟩, ⟨some 8, .len (.t 7), none⟩, ⟨some 9, .bin .geq (.t 4) (.t 8), none⟩, ⟨some 3, .mv (.t 9), none⟩])
 .ret))
noncomputable def X.i_IsBoard_1 (p0 : Int) (p1 : TBoard) : Option Bool :=
  some (decide (p0 ≥ (p1.Rules.Terrains.length : Int)))
theorem i_IsBoard_1_ok (p0 : Int) (p1 : TBoard) (r : Bool) (H : X.i_IsBoard_1 p0 p1 = some r) : FnOk Tryd.prog gl 55 [cI p0, .c (.pd (eTBoard p1) 0)] (cB r) := by
  unfold X.i_IsBoard_1 at H
  refine fn_in (fn := Tryd.f55) (ir := i_IsBoard_1_ir) (s1 := lit [(3, cB r)] []) glL Tryd.func55 (by kernel_rfl) (by kernel_rfl) (by kernel_rfl) (by kernel_rfl) (by kernel_rfl) ?_
  refine seq_ops [] [] [(0, cI p0), (1, .c (.pd (eTBoard p1) 0))] [] (fun t => t) (by kernel_rfl) ?_
  refine seq_ops [] [] [(3, cB (decide (p0 ≥ (p1.Rules.Terrains.length : Int))))] [] (fun t => lI p1.Rules.Terrains (t)) (by kernel_rfl) ?_
  refine ends_ret ?_
  obtain rfl := Option.some.inj H
  exact And.intro (.inl rfl) rfl

def i_IsBoard_ir : S :=
 (.seq (.ops [⟨some 1, .box 12 (.t 0), none⟩, ⟨some 2, .mv (.v (.bool false)), none⟩])
 (.seq (.seq (.ops [⟨some 3, .fad 0 (.t 1), none⟩, ⟨some 4, .load 7 true (.t 3), none⟩, ⟨some 5, .call 52 [.t 4], none⟩, ⟨some 6, .not (.t 5), none⟩, ⟨some 7, .mv (.t 6), none⟩, ⟨some 8, .fad 7 (.t 1), some (7, false)⟩, ⟨some 9, .load 5 true (.t 8), some (7, false)⟩, ⟨some 10, .call 53 [.t 9], some (7, false)⟩, ⟨some 11, .not (.t 10), some (7, false)⟩, ⟨some 12, .pick (.t 7) (.v (.bool true)) (.t 11), none⟩])
 (.ite (.t 12) (.seq (.ops [⟨some 2, .mv (.v (.bool false)), none⟩])
  .ret)
 .skip))
 (.seq (.ops [⟨some 13, .fad 7 (.t 1), none⟩, ⟨some 14, .fad 2 (.t 13), none⟩, ⟨some 15, .load 1 false (.t 14), none⟩, ⟨some 16, .clo 55 [.t 1], none⟩, ⟨some 17, .call 54 [.t 15, .t 16], none⟩, ⟨some 18, .not (.t 17), none⟩, ⟨some 2, .mv (.t 18), none⟩])
 .ret)))
noncomputable def X.i_IsBoard (p0 : TBoard) : Option Bool :=
  ((X.i_IsRules p0.Rules).bind fun v7 => (bif (!v7) then some false else ((X.i_IsMap p0.Map).bind fun v10 => (bif (!v10) then some false else ((X.g_ContainsFunc_int p0.Map.Terrain (fun q0 => X.i_IsBoard_1 q0 p0)).bind fun v13 => some (!v13))))))
theorem i_IsBoard_ok (p0 : TBoard) (r : Bool) (H : X.i_IsBoard p0 = some r) : FnOk Tryd.prog gl 32 [.agg (eTBoard p0)] (cB r) := by
  unfold X.i_IsBoard at H
  refine fn_in (fn := Tryd.f32) (ir := i_IsBoard_ir) (s1 := lit [(2, cB r)] []) glL Tryd.func32 (by kernel_rfl) (by kernel_rfl) (by kernel_rfl) (by kernel_rfl) (by kernel_rfl) ?_
  refine seq_ops [] [] [(1, .c (.pk 1 0))] [(1, .var (eTBoard p0) false)] (fun t => t) (by kernel_rfl) ?_
  refine seq_in ?_
  obtain ⟨v7, h8, H⟩ := ofBind H
  rcases ofCond H with ⟨c9, H⟩ | ⟨c9, H⟩
  · refine seq_ops [.res (cB v7), .g true, .g true, .g true, .g true, .g true] [] [(1, .c (.pk 1 0)), (12, cB true)] [(1, .var (eTBoard p0) false)] (fun t => aI (i_IsRules_ok p0.Rules v7 h8) (aI c9 (aI c9 (aI c9 (aI c9 (aI c9 (t))))))) (by kernel_rfl) ?_
    refine ite_t (rfl : (true : Bool) = true) (by kernel_rfl) ?_
    refine seq_ops [] [] [(2, cB false)] [] (fun t => t) (by kernel_rfl) ?_
    refine ends_ret ?_
    obtain rfl := Option.some.inj H
    exact And.intro (.inl rfl) rfl
  · obtain ⟨v10, h11, H⟩ := ofBind H
    refine seq_ops [.res (cB v7), .g false, .g false, .g false, .res (cB v10), .g false, .g false] [] [(1, .c (.pk 1 0)), (12, cB (!v10))] [(1, .var (eTBoard p0) false)] (fun t => aI (i_IsRules_ok p0.Rules v7 h8) (aI c9 (aI c9 (aI c9 (aI (i_IsMap_ok p0.Map v10 h11) (aI c9 (aI c9 (t)))))))) (by kernel_rfl) ?_
    rcases ofCond H with ⟨c12, H⟩ | ⟨c12, H⟩
    · refine ite_t c12 (by kernel_rfl) ?_
      refine seq_ops [] [] [(2, cB false)] [] (fun t => t) (by kernel_rfl) ?_
      refine ends_ret ?_
      obtain rfl := Option.some.inj H
      exact And.intro (.inl rfl) rfl
    · refine ite_f c12 (by kernel_rfl) ?_
      refine ends_skip ?_
      change EndsI _ _ _ _ _ _
      obtain ⟨v13, h14, H⟩ := ofBind H
      refine seq_ops [.res (cB v13)] [] [(2, cB (!v13))] [] (fun t => aI (g_ContainsFunc_int_c1_ok p0.Map.Terrain (55) (eTBoard p0) (fun q0 => X.i_IsBoard_1 q0 p0) (fun q0 r h => i_IsBoard_1_ok q0 p0 r h) v13 h14) (t)) (by kernel_rfl) ?_
      refine ends_ret ?_
      obtain rfl := Option.some.inj H
      exact And.intro (.inl rfl) rfl

def i_sizeOf_ir : S :=
 (.seq (.ops [⟨some 1, .box 12 (.t 0), none⟩, ⟨some 2, .mv (.v (.int .i64 0)), none⟩])
 (.seq (.ops [⟨some 3, .fad 7 (.t 1), none⟩, ⟨some 4, .fad 2 (.t 3), none⟩, ⟨some 5, .load 1 false (.t 4), none⟩, ⟨some 6, .len (.t 5), none⟩, ⟨some 2, .mv (.t 6), none⟩])
 .ret))
noncomputable def X.i_sizeOf (p0 : TBoard) : Option Int :=
  some (p0.Map.Terrain.length : Int)
theorem i_sizeOf_ok (p0 : TBoard) (r : Int) (H : X.i_sizeOf p0 = some r) : FnOk Tryd.prog gl 45 [.agg (eTBoard p0)] (cI r) := by
  unfold X.i_sizeOf at H
  refine fn_in (fn := Tryd.f45) (ir := i_sizeOf_ir) (s1 := lit [(2, cI r)] []) glL Tryd.func45 (by kernel_rfl) (by kernel_rfl) (by kernel_rfl) (by kernel_rfl) (by kernel_rfl) ?_
  refine seq_ops [] [] [(1, .c (.pk 1 0))] [(1, .var (eTBoard p0) false)] (fun t => t) (by kernel_rfl) ?_
  refine seq_ops [] [] [(2, cI (p0.Map.Terrain.length : Int))] [] (fun t => lI p0.Map.Terrain (t)) (by kernel_rfl) ?_
  refine ends_ret ?_
  obtain rfl := Option.some.inj H
  exact And.intro (.inl rfl) rfl

def i_goodMemory_ir : S :=
 (.seq (.ops [⟨some 2, .box 12 (.t 0), none⟩, ⟨some 3, .box 2 (.t 1), none⟩, ⟨some 4, .mv (.v (.bool false)), none⟩])
 (.seq (.seq (.draw 14 [⟨some 7, .fad 0 (.t 3), none⟩, ⟨some 8, .load 1 false (.t 7), none⟩, ⟨some 9, .len (.t 8), none⟩, ⟨some 10, .load 12 true (.t 2), none⟩, ⟨some 11, .call 45 [.t 10], none⟩, ⟨some 12, .bin .neq (.t 9) (.t 11), none⟩, ⟨some 13, .mv (.t 12), none⟩, ⟨some 14, .fad 1 (.t 3), some (13, false)⟩, ⟨some 15, .load 1 false (.t 14), some (13, false)⟩, ⟨some 16, .len (.t 15), some (13, false)⟩, ⟨some 17, .load 12 true (.t 2), some (13, false)⟩, ⟨some 18, .call 45 [.t 17], some (13, false)⟩, ⟨some 19, .bin .neq (.t 16) (.t 18), some (13, false)⟩, ⟨some 20, .pick (.t 13) (.v (.bool true)) (.t 19), none⟩])
 (.ite (.t 20) (.seq (.ops [⟨some 4, .mv (.v (.bool false)), none⟩])
  .ret)
 .skip))
 (.seq (.seq (.ops [⟨some 21, .fad 0 (.t 3), none⟩, ⟨some 22, .load 1 false (.t 21), none⟩, ⟨some 23, .len (.t 22), none⟩, ⟨some 24, .mv (.v (.int .i64 0)), none⟩])
 (.blk 0 (.loop (.seq (.ops [⟨some 25, .bin .lss (.t 24) (.t 23), none⟩])
   (.seq (.ite (.t 25) .skip
   (.exit 0))
   (.seq (.blk 1 (.seq (.ops [⟨some 26, .mv (.t 24), none⟩, ⟨some 27, .iad 1 (.t 22) (.t 24), none⟩, ⟨some 28, .load 1 false (.t 27), none⟩, ⟨some 5, .mv (.t 26), none⟩, ⟨some 6, .mv (.t 28), none⟩])
    (.seq (.ops [⟨some 29, .mv (.t 6), none⟩, ⟨some 30, .fad 0 (.t 2), none⟩, ⟨some 31, .fad 6 (.t 30), none⟩, ⟨some 32, .load 1 false (.t 31), none⟩, ⟨some 33, .call 34 [.t 29, .v (.int .i64 (-1)), .t 32], none⟩, ⟨some 34, .not (.t 33), none⟩, ⟨some 35, .mv (.t 34), none⟩, ⟨some 36, .fad 1 (.t 3), some (35, false)⟩, ⟨some 37, .load 1 false (.t 36), some (35, false)⟩, ⟨some 38, .mv (.t 5), some (35, false)⟩, ⟨some 39, .iad 1 (.t 37) (.t 38), some (35, false)⟩, ⟨some 40, .load 1 false (.t 39), some (35, false)⟩, ⟨some 41, .call 34 [.t 40, .v (.int .i64 0), .v (.int .i64 4)], some (35, false)⟩, ⟨some 42, .not (.t 41), some (35, false)⟩, ⟨some 43, .pick (.t 35) (.v (.bool true)) (.t 42), none⟩, ⟨some 44, .mv (.t 43), none⟩, ⟨some 45, .mv (.t 6), some (44, false)⟩, ⟨some 46, .bin .eql (.t 45) (.v (.int .i64 (-1))), some (44, false)⟩, ⟨some 47, .mv (.t 46), some (44, false)⟩, ⟨some 48, .fad 1 (.t 3), some (47, true)⟩, ⟨some 49, .load 1 false (.t 48), some (47, true)⟩, ⟨some 50, .mv (.t 5), some (47, true)⟩, ⟨some 51, .iad 1 (.t 49) (.t 50), some (47, true)⟩, ⟨some 52, .load 1 false (.t 51), some (47, true)⟩, ⟨some 53, .bin .neq (.t 52) (.v (.int .i64 0)), some (47, true)⟩, ⟨some 54, .pick (.t 47) (.t 53) (.v (.bool false)), some (44, false)⟩, ⟨some 55, .pick (.t 44) (.v (.bool true)) (.t 54), none⟩])
    (.ite (.t 55) (.seq (.ops [⟨some 4, .mv (.v (.bool false)), none⟩])
     .ret)
    .skip))))
   (.ops [⟨some 56, .bin .add (.t 24) (.v (.int .i64 1)), none⟩, ⟨some 24, .mv (.t 56), none⟩])))))))
 (.seq (.ops [⟨some 4, .mv (.v (.bool true)), none⟩])
 .ret))))
noncomputable def X.i_goodMemory (p0 : TBoard) (p1 : TMemory) : Option Bool :=
  ((X.i_sizeOf p0).bind fun v7 => (bif ((p1.Turns.length : Int) != v7) then some false else ((X.i_sizeOf p0).bind fun v10 => (bif ((p1.Counts.length : Int) != v10) then some false else ((loop (fun (x42 : Int) => ((bif (decide (x42 < (p1.Turns.length : Int))) then ((at' zI p1.Turns x42).bind fun v45 => ((X.i_inRange v45 (-1) p0.Rules.Turns).bind fun v47 => (bif (!v47) then some (Sum.inr (Sum.inr false)) else ((at' zI p1.Counts x42).bind fun v50 => ((X.i_inRange v50 0 4).bind fun v52 => (bif (!v52) then some (Sum.inr (Sum.inr false)) else (bif (v45 == (-1)) then (bif (v50 != 0) then some (Sum.inr (Sum.inr false)) else some (Sum.inl (W (x42 + 1)))) else some (Sum.inl (W (x42 + 1)))))))))) else some (Sum.inr (Sum.inl ()))) : Option (Int ⊕ (Unit ⊕ Bool)))) 0).bind fun y57 => (Sum.elim (fun (y59 : Unit) => some true) (fun (y60 : Bool) => some y60) y57))))))
theorem i_goodMemory_ok (p0 : TBoard) (p1 : TMemory) (r : Bool) (H : X.i_goodMemory p0 p1 = some r) : FnOk Tryd.prog gl 33 [.agg (eTBoard p0), .agg (eTMemory p1)] (cB r) := by
  unfold X.i_goodMemory at H
  refine fn_in (fn := Tryd.f33) (ir := i_goodMemory_ir) (s1 := lit [(4, cB r)] []) glL Tryd.func33 (by kernel_rfl) (by kernel_rfl) (by kernel_rfl) (by kernel_rfl) (by kernel_rfl) ?_
  refine seq_ops [] [] [(2, .c (.pk 2 0)), (3, .c (.pk 3 0))] [(2, .var (eTBoard p0) false), (3, .var (eTMemory p1) false)] (fun t => t) (by kernel_rfl) ?_
  refine seq_in ?_
  obtain ⟨v7, h8, H⟩ := ofBind H
  rcases ofCond H with ⟨c9, H⟩ | ⟨c9, H⟩
  · refine seq_draw [.res (cI v7), .g true, .g true, .g true, .g true, .g true, .g true, .g true] [] [(2, .c (.pk 2 0)), (3, .c (.pk 3 0)), (20, cB true)] [(2, .var (eTBoard p0) false), (3, .var (eTMemory p1) false)] (fun t => aI (i_sizeOf_ok p0 v7 h8) (aI trivial (aI (rfl : ([] : List Nat) = []) (aI c9 (aI c9 (aI c9 (aI c9 (aI c9 (aI c9 (aI c9 (t))))))))))) (by kernel_rfl) ?_
    refine ite_t (rfl : (true : Bool) = true) (by kernel_rfl) ?_
    refine seq_ops [] [] [(4, cB false)] [] (fun t => t) (by kernel_rfl) ?_
    refine ends_ret ?_
    obtain rfl := Option.some.inj H
    exact And.intro (.inl rfl) rfl
  · obtain ⟨v10, h11, H⟩ := ofBind H
    refine seq_draw [.res (cI v7), .g false, .g false, .g false, .g false, .g false, .res (cI v10), .g false, .g false] [] [(2, .c (.pk 2 0)), (3, .c (.pk 3 0)), (20, cB ((p1.Counts.length : Int) != v10))] [(2, .var (eTBoard p0) false), (3, .var (eTMemory p1) false)] (fun t => aI (i_sizeOf_ok p0 v7 h8) (aI trivial (aI (rfl : ([] : List Nat) = []) (aI c9 (aI c9 (aI c9 (aI c9 (aI c9 (aI (i_sizeOf_ok p0 v10 h11) (aI trivial (aI (rfl : ([] : List Nat) = []) (aI c9 (aI c9 (t)))))))))))))) (by kernel_rfl) ?_
    rcases ofCond H with ⟨c12, H⟩ | ⟨c12, H⟩
    · refine ite_t c12 (by kernel_rfl) ?_
      refine seq_ops [] [] [(4, cB false)] [] (fun t => t) (by kernel_rfl) ?_
      refine ends_ret ?_
      obtain rfl := Option.some.inj H
      exact And.intro (.inl rfl) rfl
    · refine ite_f c12 (by kernel_rfl) ?_
      refine ends_skip ?_
      change EndsI _ _ _ _ _ _
      refine seq_in ?_
      refine seq_ops [] [] [(2, .c (.pk 2 0)), (3, .c (.pk 3 0)), (22, .c (dat 1 eI zI p1.Turns)), (23, cI (p1.Turns.length : Int)), (24, cI 0)] [(2, .var (eTBoard p0) false), (3, .var (eTMemory p1) false)] (fun t => lI p1.Turns (t)) (by kernel_rfl) ?_
      refine ends_blk ?_
      obtain ⟨y57, h58, H⟩ := ofBind H
      refine loop_in (fun (x : Int) => lit [(2, .c (.pk 2 0)), (3, .c (.pk 3 0)), (22, .c (dat 1 eI zI p1.Turns)), (23, cI (p1.Turns.length : Int)), (24, cI x)] [(2, .var (eTBoard p0) false), (3, .var (eTMemory p1) false)]) (orJ (fun (z : Unit) => At (.exit 0) (lit [] [])) (fun (z : Bool) => At .ret (lit [(4, cB z)] []))) h58 ?_ ?_
      · clear H h58
        intro x42 y0 H
        refine seq_ops [] [] [(2, .c (.pk 2 0)), (3, .c (.pk 3 0)), (22, .c (dat 1 eI zI p1.Turns)), (23, cI (p1.Turns.length : Int)), (24, cI x42), (25, cB (decide (x42 < (p1.Turns.length : Int))))] [(2, .var (eTBoard p0) false), (3, .var (eTMemory p1) false)] (fun t => t) (by kernel_rfl) ?_
        refine seq_in ?_
        rcases ofCond H with ⟨c44, H⟩ | ⟨c44, H⟩
        · refine ite_t c44 (by kernel_rfl) ?_
          refine ends_skip ?_
          change EndsI _ _ _ _ _ _
          refine seq_in ?_
          refine ends_blk ?_
          obtain ⟨v45, h46, H⟩ := ofBind H
          refine seq_ops [.cs (eI v45)] [] [(2, .c (.pk 2 0)), (3, .c (.pk 3 0)), (5, cI x42), (6, cI v45), (22, .c (dat 1 eI zI p1.Turns)), (23, cI (p1.Turns.length : Int)), (24, cI x42)] [(2, .var (eTBoard p0) false), (3, .var (eTMemory p1) false)] (fun t => aI (at_lt h46) (aI (at_enc (enc := eI) h46) (t))) (by kernel_rfl) ?_
          obtain ⟨v47, h48, H⟩ := ofBind H
          rcases ofCond H with ⟨c49, H⟩ | ⟨c49, H⟩
          · refine seq_ops [.res (cB v47), .g true, .g true, .g true, .g true, .g true, .g true, .g true, .g true, .g true, .g true, .g true, .g true, .g true] [] [(2, .c (.pk 2 0)), (3, .c (.pk 3 0)), (22, .c (dat 1 eI zI p1.Turns)), (23, cI (p1.Turns.length : Int)), (24, cI x42), (55, cB true)] [(2, .var (eTBoard p0) false), (3, .var (eTMemory p1) false)] (fun t => aI (i_inRange_ok v45 (-1) p0.Rules.Turns v47 h48) (aI c49 (aI c49 (aI c49 (aI c49 (aI c49 (aI c49 (aI c49 (aI c49 (aI (rfl : (true : Bool) = true) (aI (rfl : (true : Bool) = true) (aI (rfl : (true : Bool) = true) (aI (rfl : (true : Bool) = true) (aI (rfl : (true : Bool) = true) (t))))))))))))))) (by kernel_rfl) ?_
            refine ite_t (rfl : (true : Bool) = true) (by kernel_rfl) ?_
            refine seq_ops [] [] [(4, cB false)] [] (fun t => t) (by kernel_rfl) ?_
            refine ends_ret ?_
            obtain rfl := Option.some.inj H
            exact And.intro (by simp) (And.intro rfl rfl)
          · obtain ⟨v50, h51, H⟩ := ofBind H
            obtain ⟨v52, h53, H⟩ := ofBind H
            rcases ofCond H with ⟨c54, H⟩ | ⟨c54, H⟩
            · refine seq_ops [.res (cB v47), .g false, .g false, .g false, .g false, .cs (eI v50), .g false, .g false, .res (cB v52), .g false, .g false, .g true, .g true, .g true, .g true, .g true] [] [(2, .c (.pk 2 0)), (3, .c (.pk 3 0)), (22, .c (dat 1 eI zI p1.Turns)), (23, cI (p1.Turns.length : Int)), (24, cI x42), (55, cB true)] [(2, .var (eTBoard p0) false), (3, .var (eTMemory p1) false)] (fun t => aI (i_inRange_ok v45 (-1) p0.Rules.Turns v47 h48) (aI c49 (aI c49 (aI c49 (aI c49 (aI (at_lt h51) (aI (at_enc (enc := eI) h51) (aI c49 (aI c49 (aI (i_inRange_ok v50 0 4 v52 h53) (aI c49 (aI c49 (aI c54 (aI c54 (aI c54 (aI c54 (aI c54 (t)))))))))))))))))) (by kernel_rfl) ?_
              refine ite_t (rfl : (true : Bool) = true) (by kernel_rfl) ?_
              refine seq_ops [] [] [(4, cB false)] [] (fun t => t) (by kernel_rfl) ?_
              refine ends_ret ?_
              obtain rfl := Option.some.inj H
              exact And.intro (by simp) (And.intro rfl rfl)
            · rcases ofCond H with ⟨c55, H⟩ | ⟨c55, H⟩
              · refine seq_ops [.res (cB v47), .g false, .g false, .g false, .g false, .cs (eI v50), .g false, .g false, .res (cB v52), .g false, .g false, .g false, .g false, .g false, .g true, .g true, .g true, .g true, .cs (eI v50), .g true, .g true, .g false, .g true, .g false] [] [(2, .c (.pk 2 0)), (3, .c (.pk 3 0)), (22, .c (dat 1 eI zI p1.Turns)), (23, cI (p1.Turns.length : Int)), (24, cI x42), (55, cB (v50 != 0))] [(2, .var (eTBoard p0) false), (3, .var (eTMemory p1) false)] (fun t => aI (i_inRange_ok v45 (-1) p0.Rules.Turns v47 h48) (aI c49 (aI c49 (aI c49 (aI c49 (aI (at_lt h51) (aI (at_enc (enc := eI) h51) (aI c49 (aI c49 (aI (i_inRange_ok v50 0 4 v52 h53) (aI c49 (aI c49 (aI c54 (aI c54 (aI c54 (aI c55 (aI c55 (aI c55 (aI c55 (aI (at_lt h51) (aI (at_enc (enc := eI) h51) (aI c55 (aI c55 (aI c54 (aI c55 (aI c54 (t))))))))))))))))))))))))))) (by kernel_rfl) ?_
                rcases ofCond H with ⟨c56, H⟩ | ⟨c56, H⟩
                · refine ite_t c56 (by kernel_rfl) ?_
                  refine seq_ops [] [] [(4, cB false)] [] (fun t => t) (by kernel_rfl) ?_
                  refine ends_ret ?_
                  obtain rfl := Option.some.inj H
                  exact And.intro (by simp) (And.intro rfl rfl)
                · refine ite_f c56 (by kernel_rfl) ?_
                  refine ends_skip ?_
                  change EndsI _ _ _ _ _ _
                  refine one_ops [] [] [(2, .c (.pk 2 0)), (3, .c (.pk 3 0)), (22, .c (dat 1 eI zI p1.Turns)), (23, cI (p1.Turns.length : Int)), (24, cI (W (x42 + 1)))] [(2, .var (eTBoard p0) false), (3, .var (eTMemory p1) false)] (fun t => t) (by kernel_rfl) ?_
                  obtain rfl := Option.some.inj H
                  exact And.intro rfl rfl
              · refine seq_ops [.res (cB v47), .g false, .g false, .g false, .g false, .cs (eI v50), .g false, .g false, .res (cB v52), .g false, .g false, .g false, .g false, .g false, .g false, .g false, .g false, .g false, .g false, .g false, .g false, .g false, .g false] [] [(2, .c (.pk 2 0)), (3, .c (.pk 3 0)), (22, .c (dat 1 eI zI p1.Turns)), (23, cI (p1.Turns.length : Int)), (24, cI x42), (55, cB false)] [(2, .var (eTBoard p0) false), (3, .var (eTMemory p1) false)] (fun t => aI (i_inRange_ok v45 (-1) p0.Rules.Turns v47 h48) (aI c49 (aI c49 (aI c49 (aI c49 (aI (at_lt h51) (aI (at_enc (enc := eI) h51) (aI c49 (aI c49 (aI (i_inRange_ok v50 0 4 v52 h53) (aI c49 (aI c49 (aI c54 (aI c54 (aI c54 (aI c55 (aI c55 (aI c55 (aI c55 (aI c55 (aI c55 (aI c54 (aI c55 (aI c54 (t))))))))))))))))))))))))) (by kernel_rfl) ?_
                refine ite_f (rfl : (false : Bool) = false) (by kernel_rfl) ?_
                refine ends_skip ?_
                change EndsI _ _ _ _ _ _
                refine one_ops [] [] [(2, .c (.pk 2 0)), (3, .c (.pk 3 0)), (22, .c (dat 1 eI zI p1.Turns)), (23, cI (p1.Turns.length : Int)), (24, cI (W (x42 + 1)))] [(2, .var (eTBoard p0) false), (3, .var (eTMemory p1) false)] (fun t => t) (by kernel_rfl) ?_
                obtain rfl := Option.some.inj H
                exact And.intro rfl rfl
        · refine ite_f c44 (by kernel_rfl) ?_
          refine tell [] [] [] (fun t => t) (by kernel_rfl) ?_
          refine ends_exit ?_
          obtain rfl := Option.some.inj H
          exact And.intro (by simp) (And.intro rfl rfl)
      · clear h58
        cases y57 with
        | inl y59 =>
          replace H := ofInl H
          intro e s q
          obtain ⟨rfl, rfl⟩ := q
          change EndsI _ _ _ _ _ _
          refine seq_ops [] [] [(4, cB true)] [] (fun t => t) (by kernel_rfl) ?_
          refine ends_ret ?_
          obtain rfl := Option.some.inj H
          exact And.intro (.inl rfl) rfl
        | inr y60 =>
          replace H := ofInr H
          intro e s q
          obtain ⟨rfl, rfl⟩ := q
          obtain rfl := Option.some.inj H
          exact And.intro (.inl rfl) rfl

def i_hexesThat_ir : S :=
 (.seq (.ops [⟨some 2, .box 12 (.t 0), none⟩, ⟨some 4, .mv (.v (.nil)), none⟩])
 (.seq (.ops [⟨some 7, .bsl 1 [], none⟩, ⟨some 5, .mv (.t 7), none⟩])
 (.seq (.seq (.ops [⟨some 8, .fad 7 (.t 2), none⟩, ⟨some 9, .fad 2 (.t 8), none⟩, ⟨some 10, .load 1 false (.t 9), none⟩, ⟨some 11, .len (.t 10), none⟩, ⟨some 12, .mv (.v (.int .i64 0)), none⟩])
 (.blk 0 (.loop (.seq (.ops [⟨some 13, .bin .lss (.t 12) (.t 11), none⟩])
   (.seq (.ite (.t 13) .skip
   (.exit 0))
   (.seq (.blk 1 (.seq (.ops [⟨some 14, .mv (.t 12), none⟩, ⟨some 6, .mv (.t 14), none⟩])
    (.seq (.ops [⟨some 15, .mv (.t 1), none⟩, ⟨some 16, .mv (.t 6), none⟩, ⟨some 17, .cald (.t 15) [.t 16], none⟩])
    (.ite (.t 17) (.ops [⟨some 18, .mv (.t 5), none⟩, ⟨some 19, .mv (.t 6), none⟩, ⟨some 20, .bsl 1 [.t 19], none⟩, ⟨some 21, .app 1 8 (.t 18) (.t 20), none⟩, ⟨some 5, .mv (.t 21), none⟩])
    .skip))))
   (.ops [⟨some 22, .bin .add (.t 12) (.v (.int .i64 1)), none⟩, ⟨some 12, .mv (.t 22), none⟩])))))))
 (.seq (.ops [⟨some 23, .mv (.t 5), none⟩, ⟨some 4, .mv (.t 23), none⟩])
 .ret))))
noncomputable def X.i_hexesThat (p0 : TBoard) (f1 : Int → Option Bool) : Option (List Int) :=
  ((loop (fun (x14 : (Int × (List Int))) => ((bif (decide (x14.1 < (p0.Map.Terrain.length : Int))) then ((f1 x14.1).bind fun v17 => (bif v17 then (if (x14.2 ++ ([x14.1] : List Int)).length ≤ LIM then some (Sum.inl ((W (x14.1 + 1)), (x14.2 ++ ([x14.1] : List Int)))) else none) else some (Sum.inl ((W (x14.1 + 1)), x14.2)))) else some (Sum.inr x14.2)) : Option ((Int × (List Int)) ⊕ (List Int)))) (0, ([] : List Int))).bind fun y21 => some y21)
theorem i_hexesThat_c3_ok (p0 : TBoard) (cf1 : FuncId) (cs1_0 : List AC) (cs1_1 : List AC) (cs1_2 : List AC) (f1 : Int → Option Bool) (hf1 : ∀ q0 r, f1 q0 = some r → FnOk Tryd.prog gl cf1 [cI q0, .c (.pd cs1_0 0), .c (.pd cs1_1 0), .c (.pd cs1_2 0)] (cB r)) (r : (List Int)) (H : X.i_hexesThat p0 f1 = some r) : FnOk Tryd.prog gl 35 [.agg (eTBoard p0), .c (.clo cf1 [.pd cs1_0 0, .pd cs1_1 0, .pd cs1_2 0])] (.c (dat 1 eI zI r)) := by
  unfold X.i_hexesThat at H
  refine fn_in (fn := Tryd.f35) (ir := i_hexesThat_ir) (s1 := lit [(4, .c (dat 1 eI zI r))] []) glL Tryd.func35 (by kernel_rfl) (by kernel_rfl) (by kernel_rfl) (by kernel_rfl) (by kernel_rfl) ?_
  refine seq_ops [] [] [(1, .c (.clo cf1 [.pd cs1_0 0, .pd cs1_1 0, .pd cs1_2 0])), (2, .c (.pk 2 0))] [(2, .var (eTBoard p0) false)] (fun t => t) (by kernel_rfl) ?_
  refine seq_ops [.fn ([] : List Int).length (fF eI zI ([] : List Int))] [] [(1, .c (.clo cf1 [.pd cs1_0 0, .pd cs1_1 0, .pd cs1_2 0])), (2, .c (.pk 2 0)), (5, .c (.own 7 1 0 (([] : List Int).length)))] [(2, .var (eTBoard p0) false), (7, .arr 1 (([] : List Int).length) (fF eI zI ([] : List Int)) false)] (fun t => aI (rfl : ([] : List Int).length = 0) (aI (fF_lit eI zI ([] : List Int)) (t))) (by kernel_rfl) ?_
  refine seq_in ?_
  refine seq_ops [] [] [(1, .c (.clo cf1 [.pd cs1_0 0, .pd cs1_1 0, .pd cs1_2 0])), (5, .c (.own 7 1 0 (([] : List Int).length))), (11, cI (p0.Map.Terrain.length : Int)), (12, cI 0)] [(7, .arr 1 (([] : List Int).length) (fF eI zI ([] : List Int)) false)] (fun t => lI p0.Map.Terrain (t)) (by kernel_rfl) ?_
  refine ends_blk ?_
  obtain ⟨y21, h22, H⟩ := ofBind H
  refine tell [.ren 7 1001] [(1, .c (.clo cf1 [.pd cs1_0 0, .pd cs1_1 0, .pd cs1_2 0])), (5, .c (.own 1001 1 0 (([] : List Int).length))), (11, cI (p0.Map.Terrain.length : Int)), (12, cI 0)] [(1001, .arr 1 (([] : List Int).length) (fF eI zI ([] : List Int)) false)] (fun t => t) (by kernel_rfl) ?_
  refine loop_in (fun (x : (Int × (List Int))) => lit [(1, .c (.clo cf1 [.pd cs1_0 0, .pd cs1_1 0, .pd cs1_2 0])), (5, .c (.own 1001 1 0 x.2.length)), (11, cI (p0.Map.Terrain.length : Int)), (12, cI x.1)] [(1001, .arr 1 x.2.length (fF eI zI x.2) false)]) (fun (z : (List Int)) => At (.exit 0) (lit [(5, .c (.own 1001 1 0 z.length))] [(1001, .arr 1 z.length (fF eI zI z) false)])) h22 ?_ ?_
  · clear H h22
    intro x14 y0 H
    refine seq_ops [] [] [(1, .c (.clo cf1 [.pd cs1_0 0, .pd cs1_1 0, .pd cs1_2 0])), (5, .c (.own 1001 1 0 x14.2.length)), (11, cI (p0.Map.Terrain.length : Int)), (12, cI x14.1), (13, cB (decide (x14.1 < (p0.Map.Terrain.length : Int))))] [(1001, .arr 1 x14.2.length (fF eI zI x14.2) false)] (fun t => t) (by kernel_rfl) ?_
    refine seq_in ?_
    rcases ofCond H with ⟨c16, H⟩ | ⟨c16, H⟩
    · refine ite_t c16 (by kernel_rfl) ?_
      refine ends_skip ?_
      change EndsI _ _ _ _ _ _
      refine seq_in ?_
      refine ends_blk ?_
      refine seq_ops [] [] [(1, .c (.clo cf1 [.pd cs1_0 0, .pd cs1_1 0, .pd cs1_2 0])), (5, .c (.own 1001 1 0 x14.2.length)), (6, cI x14.1), (11, cI (p0.Map.Terrain.length : Int)), (12, cI x14.1)] [(1001, .arr 1 x14.2.length (fF eI zI x14.2) false)] (fun t => t) (by kernel_rfl) ?_
      obtain ⟨v17, h18, H⟩ := ofBind H
      refine seq_ops [.res (cB v17)] [] [(1, .c (.clo cf1 [.pd cs1_0 0, .pd cs1_1 0, .pd cs1_2 0])), (5, .c (.own 1001 1 0 x14.2.length)), (6, cI x14.1), (11, cI (p0.Map.Terrain.length : Int)), (12, cI x14.1), (17, cB v17)] [(1001, .arr 1 x14.2.length (fF eI zI x14.2) false)] (fun t => aI (hf1 x14.1 v17 h18) (t)) (by kernel_rfl) ?_
      rcases ofCond H with ⟨c19, H⟩ | ⟨c19, H⟩
      · refine ite_t c19 (by kernel_rfl) ?_
        obtain ⟨g20, H⟩ := ofIf H
        refine one_ops [.fn ([x14.1] : List Int).length (fF eI zI ([x14.1] : List Int)), .fn (x14.2 ++ ([x14.1] : List Int)).length (fF eI zI (x14.2 ++ ([x14.1] : List Int)))] [] [(1, .c (.clo cf1 [.pd cs1_0 0, .pd cs1_1 0, .pd cs1_2 0])), (5, .c (.own 21 1 0 ((x14.2 ++ ([x14.1] : List Int)).length))), (11, cI (p0.Map.Terrain.length : Int)), (12, cI x14.1)] [(21, .arr 1 ((x14.2 ++ ([x14.1] : List Int)).length) (fF eI zI (x14.2 ++ ([x14.1] : List Int))) false)] (fun t => aI (rfl : ([x14.1] : List Int).length = 1) (aI (fF_lit eI zI ([x14.1] : List Int)) (aI (And.intro (Nat.le_refl x14.2.length) (And.intro (@List.length_append _ x14.2 ([x14.1] : List Int)) g20)) (aI (fF_appL eI zI x14.2 ([x14.1] : List Int)) (aI (fF_appR eI zI x14.2 ([x14.1] : List Int)) (t)))))) (by kernel_rfl) ?_
        change EndsI _ _ _ _ _ _
        refine one_ops [] [.ren 21 1001] [(1, .c (.clo cf1 [.pd cs1_0 0, .pd cs1_1 0, .pd cs1_2 0])), (5, .c (.own 1001 1 0 ((x14.2 ++ ([x14.1] : List Int)).length))), (11, cI (p0.Map.Terrain.length : Int)), (12, cI (W (x14.1 + 1)))] [(1001, .arr 1 ((x14.2 ++ ([x14.1] : List Int)).length) (fF eI zI (x14.2 ++ ([x14.1] : List Int))) false)] (fun t => t) (by kernel_rfl) ?_
        obtain rfl := Option.some.inj H
        exact And.intro rfl rfl
      · refine ite_f c19 (by kernel_rfl) ?_
        refine ends_skip ?_
        change EndsI _ _ _ _ _ _
        refine one_ops [] [] [(1, .c (.clo cf1 [.pd cs1_0 0, .pd cs1_1 0, .pd cs1_2 0])), (5, .c (.own 1001 1 0 x14.2.length)), (11, cI (p0.Map.Terrain.length : Int)), (12, cI (W (x14.1 + 1)))] [(1001, .arr 1 x14.2.length (fF eI zI x14.2) false)] (fun t => t) (by kernel_rfl) ?_
        obtain rfl := Option.some.inj H
        exact And.intro rfl rfl
    · refine ite_f c16 (by kernel_rfl) ?_
      refine tell [] [(5, .c (.own 1001 1 0 x14.2.length))] [(1001, .arr 1 x14.2.length (fF eI zI x14.2) false)] (fun t => t) (by kernel_rfl) ?_
      refine ends_exit ?_
      obtain rfl := Option.some.inj H
      exact And.intro (by simp) (And.intro rfl rfl)
  · clear h22
    intro e s q
    obtain ⟨rfl, rfl⟩ := q
    change EndsI _ _ _ _ _ _
    refine seq_ops [] [] [(4, .c (.own 1001 1 0 y21.length))] [(1001, .arr 1 y21.length (fF eI zI y21) false)] (fun t => t) (by kernel_rfl) ?_
    refine tell [.frz 4] [(4, .c (dat 1 eI zI y21))] [] (fun t => aI (Nat.le_refl y21.length) (t)) (by kernel_rfl) ?_
    refine ends_ret ?_
    obtain rfl := Option.some.inj H
    exact And.intro (.inl rfl) rfl

def i_StaleHexes_1_ir : S :=
 (.seq (.ops [⟨some 5, .mv (.v (.bool false)), none⟩])
 (.seq (.draw 18 [⟨some 6, .fad 0 (.t 1), none⟩, ⟨some 7, .load 1 false (.t 6), none⟩, ⟨some 8, .mv (.t 0), none⟩, ⟨some 9, .iad 1 (.t 7) (.t 8), none⟩, ⟨some 10, .load 1 false (.t 9), none⟩, ⟨some 11, .bin .eql (.t 10) (.v (.int .i64 (-1))), none⟩, ⟨some 12, .mv (.t 11), none⟩, ⟨some 13, .fad 0 (.t 1), some (12, false)⟩, ⟨some 14, .load 1 false (.t 13), some (12, false)⟩, ⟨some 15, .mv (.t 0), some (12, false)⟩, ⟨some 16, .iad 1 (.t 14) (.t 15), some (12, false)⟩, ⟨some 17, .load 1 false (.t 16), some (12, false)⟩, ⟨some 18, .load 1 false (.t 2), some (12, false)⟩, ⟨some 19, .load 1 false (.t 3), some (12, false)⟩, ⟨some 20, .bin .sub (.t 18) (.t 19), some (12, false)⟩, ⟨some 21, .bin .leq (.t 17) (.t 20), some (12, false)⟩, ⟨some 22, .pick (.t 12) (.v (.bool true)) (.t 21), none⟩, ⟨some 5, .mv (.t 22), none⟩])
 .ret))
noncomputable def X.i_StaleHexes_1 (p0 : Int) (p1 : TMemory) (p2 : Int) (p3 : Int) : Option Bool :=
  ((at' zI p1.Turns p0).bind fun v1 => (bif (v1 == (-1)) then some true else some (decide (v1 ≤ (W (p2 - p3))))))
theorem i_StaleHexes_1_ok (p0 : Int) (p1 : TMemory) (p2 : Int) (p3 : Int) (r : Bool) (H : X.i_StaleHexes_1 p0 p1 p2 p3 = some r) : FnOk Tryd.prog gl 36 [cI p0, .c (.pd (eTMemory p1) 0), .c (.pd (eI p2) 0), .c (.pd (eI p3) 0)] (cB r) := by
  unfold X.i_StaleHexes_1 at H
  refine fn_in (fn := Tryd.f36) (ir := i_StaleHexes_1_ir) (s1 := lit [(5, cB r)] []) glL Tryd.func36 (by kernel_rfl) (by kernel_rfl) (by kernel_rfl) (by kernel_rfl) (by kernel_rfl) ?_
  refine seq_ops [] [] [(0, cI p0), (1, .c (.pd (eTMemory p1) 0)), (2, .c (.pd (eI p2) 0)), (3, .c (.pd (eI p3) 0))] [] (fun t => t) (by kernel_rfl) ?_
  obtain ⟨v1, h2, H⟩ := ofBind H
  rcases ofCond H with ⟨c3, H⟩ | ⟨c3, H⟩
  · refine seq_draw [.cs (eI v1), .g true, .g true, .g true, .g true, .g true, .g true, .g true, .g true, .g true, .g true] [] [(5, cB true)] [] (fun t => aI (rfl : ([] : List Nat) = []) (aI (at_lt h2) (aI (at_enc (enc := eI) h2) (aI (rfl : ([] : List Nat) = []) (aI c3 (aI c3 (aI c3 (aI c3 (aI c3 (aI c3 (aI c3 (aI c3 (aI c3 (aI c3 (t))))))))))))))) (by kernel_rfl) ?_
    refine ends_ret ?_
    obtain rfl := Option.some.inj H
    exact And.intro (.inl rfl) rfl
  · refine seq_draw [.cs (eI v1), .g false, .g false, .g false, .g false, .cs (eI v1), .g false, .g false, .g false, .g false, .g false, .g false] [] [(5, cB (decide (v1 ≤ (W (p2 - p3)))))] [] (fun t => aI (rfl : ([] : List Nat) = []) (aI (at_lt h2) (aI (at_enc (enc := eI) h2) (aI (rfl : ([] : List Nat) = []) (aI c3 (aI c3 (aI (rfl : ([] : List Nat) = []) (aI c3 (aI c3 (aI (at_lt h2) (aI (at_enc (enc := eI) h2) (aI c3 (aI (rfl : ([] : List Nat) = []) (aI c3 (aI (rfl : ([] : List Nat) = []) (aI c3 (aI (rfl : ([] : List Nat) = []) (aI c3 (aI c3 (aI c3 (t))))))))))))))))))))) (by kernel_rfl) ?_
    refine ends_ret ?_
    obtain rfl := Option.some.inj H
    exact And.intro (.inl rfl) rfl

def i_StaleHexes_ir : S :=
 (.seq (.ops [⟨some 4, .box 12 (.t 0), none⟩, ⟨some 5, .box 2 (.t 1), none⟩, ⟨some 6, .box 1 (.t 2), none⟩, ⟨some 7, .box 1 (.t 3), none⟩, ⟨some 8, .mv (.v (.nil)), none⟩, ⟨some 9, .mv (.v (.bool false)), none⟩])
 (.seq (.seq (.ops [⟨some 10, .load 12 true (.t 4), none⟩, ⟨some 11, .call 32 [.t 10], none⟩, ⟨some 12, .not (.t 11), none⟩, ⟨some 13, .mv (.t 12), none⟩, ⟨some 14, .load 12 true (.t 4), some (13, false)⟩, ⟨some 15, .load 2 true (.t 5), some (13, false)⟩, ⟨some 16, .call 33 [.t 14, .t 15], some (13, false)⟩, ⟨some 17, .not (.t 16), some (13, false)⟩, ⟨some 18, .pick (.t 13) (.v (.bool true)) (.t 17), none⟩, ⟨some 19, .mv (.t 18), none⟩, ⟨some 20, .load 1 false (.t 6), some (19, false)⟩, ⟨some 21, .fad 0 (.t 4), some (19, false)⟩, ⟨some 22, .fad 6 (.t 21), some (19, false)⟩, ⟨some 23, .load 1 false (.t 22), some (19, false)⟩, ⟨some 24, .call 34 [.t 20, .v (.int .i64 0), .t 23], some (19, false)⟩, ⟨some 25, .not (.t 24), some (19, false)⟩, ⟨some 26, .pick (.t 19) (.v (.bool true)) (.t 25), none⟩, ⟨some 27, .mv (.t 26), none⟩, ⟨some 28, .load 1 false (.t 7), some (27, false)⟩, ⟨some 29, .call 34 [.t 28, .v (.int .i64 0), .v (.int .i64 100)], some (27, false)⟩, ⟨some 30, .not (.t 29), some (27, false)⟩, ⟨some 31, .pick (.t 27) (.v (.bool true)) (.t 30), none⟩])
 (.ite (.t 31) (.seq (.ops [⟨some 8, .mv (.v (.nil)), none⟩, ⟨some 9, .mv (.v (.bool false)), none⟩])
  .ret)
 .skip))
 (.seq (.ops [⟨some 32, .load 12 true (.t 4), none⟩, ⟨some 33, .clo 36 [.t 5, .t 6, .t 7], none⟩, ⟨some 34, .call 35 [.t 32, .t 33], none⟩, ⟨some 8, .mv (.t 34), none⟩, ⟨some 9, .mv (.v (.bool true)), none⟩])
 .ret)))
noncomputable def X.i_StaleHexes (p0 : TBoard) (p1 : TMemory) (p2 : Int) (p3 : Int) : Option ((List Int) × Bool) :=
  ((X.i_IsBoard p0).bind fun v1 => (bif (!v1) then some (([] : List Int), false) else ((X.i_goodMemory p0 p1).bind fun v4 => (bif (!v4) then some (([] : List Int), false) else ((X.i_inRange p2 0 p0.Rules.Turns).bind fun v7 => (bif (!v7) then some (([] : List Int), false) else ((X.i_inRange p3 0 100).bind fun v10 => (bif (!v10) then some (([] : List Int), false) else ((X.i_hexesThat p0 (fun q0 => X.i_StaleHexes_1 q0 p1 p2 p3)).bind fun v13 => some (v13, true))))))))))
theorem i_StaleHexes_ok (p0 : TBoard) (p1 : TMemory) (p2 : Int) (p3 : Int) (r : ((List Int) × Bool)) (H : X.i_StaleHexes p0 p1 p2 p3 = some r) : FnOk Tryd.prog gl 11 [.agg (eTBoard p0), .agg (eTMemory p1), cI p2, cI p3] (.tup [(false, [dat 1 eI zI r.1]), (false, [.bool r.2])]) := by
  unfold X.i_StaleHexes at H
  refine fn_in (fn := Tryd.f11) (ir := i_StaleHexes_ir) (s1 := lit [(8, .c (dat 1 eI zI r.1)), (9, cB r.2)] []) glL Tryd.func11 (by kernel_rfl) (by kernel_rfl) (by kernel_rfl) (by kernel_rfl) (by kernel_rfl) ?_
  refine seq_ops [] [] [(4, .c (.pk 4 0)), (5, .c (.pk 5 0)), (6, .c (.pk 6 0)), (7, .c (.pk 7 0))] [(4, .var (eTBoard p0) false), (5, .var (eTMemory p1) false), (6, .var [.int .i64 p2] false), (7, .var [.int .i64 p3] false)] (fun t => t) (by kernel_rfl) ?_
  refine seq_in ?_
  obtain ⟨v1, h2, H⟩ := ofBind H
  rcases ofCond H with ⟨c3, H⟩ | ⟨c3, H⟩
  · refine seq_ops [.res (cB v1), .g true, .g true, .g true, .g true, .g true, .g true, .g true, .g true, .g true, .g true, .g true, .g true, .g true, .g true, .g true, .g true] [] [(4, .c (.pk 4 0)), (5, .c (.pk 5 0)), (6, .c (.pk 6 0)), (7, .c (.pk 7 0)), (31, cB true)] [(4, .var (eTBoard p0) false), (5, .var (eTMemory p1) false), (6, .var [.int .i64 p2] false), (7, .var [.int .i64 p3] false)] (fun t => aI (i_IsBoard_ok p0 v1 h2) (aI c3 (aI c3 (aI c3 (aI c3 (aI c3 (aI (rfl : (true : Bool) = true) (aI (rfl : (true : Bool) = true) (aI (rfl : (true : Bool) = true) (aI (rfl : (true : Bool) = true) (aI (rfl : (true : Bool) = true) (aI (rfl : (true : Bool) = true) (aI (rfl : (true : Bool) = true) (aI (rfl : (true : Bool) = true) (aI (rfl : (true : Bool) = true) (aI (rfl : (true : Bool) = true) (aI (rfl : (true : Bool) = true) (t)))))))))))))))))) (by kernel_rfl) ?_
    refine ite_t (rfl : (true : Bool) = true) (by kernel_rfl) ?_
    refine seq_ops [] [] [(8, .c (.nil)), (9, cB false)] [] (fun t => t) (by kernel_rfl) ?_
    refine tell [.nld 8 1 (fF eI zI ([] : List Int))] [(8, .c (dat 1 eI zI ([] : List Int))), (9, cB false)] [] (fun t => t) (by kernel_rfl) ?_
    refine ends_ret ?_
    obtain rfl := Option.some.inj H
    exact And.intro (.inl rfl) rfl
  · obtain ⟨v4, h5, H⟩ := ofBind H
    rcases ofCond H with ⟨c6, H⟩ | ⟨c6, H⟩
    · refine seq_ops [.res (cB v1), .g false, .g false, .g false, .res (cB v4), .g false, .g false, .g true, .g true, .g true, .g true, .g true, .g true, .g true, .g true, .g true, .g true, .g true] [] [(4, .c (.pk 4 0)), (5, .c (.pk 5 0)), (6, .c (.pk 6 0)), (7, .c (.pk 7 0)), (31, cB true)] [(4, .var (eTBoard p0) false), (5, .var (eTMemory p1) false), (6, .var [.int .i64 p2] false), (7, .var [.int .i64 p3] false)] (fun t => aI (i_IsBoard_ok p0 v1 h2) (aI c3 (aI c3 (aI c3 (aI (i_goodMemory_ok p0 p1 v4 h5) (aI c3 (aI c3 (aI c6 (aI c6 (aI c6 (aI c6 (aI c6 (aI c6 (aI c6 (aI (rfl : (true : Bool) = true) (aI (rfl : (true : Bool) = true) (aI (rfl : (true : Bool) = true) (aI (rfl : (true : Bool) = true) (t))))))))))))))))))) (by kernel_rfl) ?_
      refine ite_t (rfl : (true : Bool) = true) (by kernel_rfl) ?_
      refine seq_ops [] [] [(8, .c (.nil)), (9, cB false)] [] (fun t => t) (by kernel_rfl) ?_
      refine tell [.nld 8 1 (fF eI zI ([] : List Int))] [(8, .c (dat 1 eI zI ([] : List Int))), (9, cB false)] [] (fun t => t) (by kernel_rfl) ?_
      refine ends_ret ?_
      obtain rfl := Option.some.inj H
      exact And.intro (.inl rfl) rfl
    · obtain ⟨v7, h8, H⟩ := ofBind H
      rcases ofCond H with ⟨c9, H⟩ | ⟨c9, H⟩
      · refine seq_ops [.res (cB v1), .g false, .g false, .g false, .res (cB v4), .g false, .g false, .g false, .g false, .g false, .g false, .g false, .res (cB v7), .g false, .g false, .g true, .g true, .g true, .g true] [] [(4, .c (.pk 4 0)), (5, .c (.pk 5 0)), (6, .c (.pk 6 0)), (7, .c (.pk 7 0)), (31, cB true)] [(4, .var (eTBoard p0) false), (5, .var (eTMemory p1) false), (6, .var [.int .i64 p2] false), (7, .var [.int .i64 p3] false)] (fun t => aI (i_IsBoard_ok p0 v1 h2) (aI c3 (aI c3 (aI c3 (aI (i_goodMemory_ok p0 p1 v4 h5) (aI c3 (aI c3 (aI c6 (aI c6 (aI c6 (aI c6 (aI c6 (aI (i_inRange_ok p2 0 p0.Rules.Turns v7 h8) (aI c6 (aI c6 (aI c9 (aI c9 (aI c9 (aI c9 (t)))))))))))))))))))) (by kernel_rfl) ?_
        refine ite_t (rfl : (true : Bool) = true) (by kernel_rfl) ?_
        refine seq_ops [] [] [(8, .c (.nil)), (9, cB false)] [] (fun t => t) (by kernel_rfl) ?_
        refine tell [.nld 8 1 (fF eI zI ([] : List Int))] [(8, .c (dat 1 eI zI ([] : List Int))), (9, cB false)] [] (fun t => t) (by kernel_rfl) ?_
        refine ends_ret ?_
        obtain rfl := Option.some.inj H
        exact And.intro (.inl rfl) rfl
      · obtain ⟨v10, h11, H⟩ := ofBind H
        refine seq_ops [.res (cB v1), .g false, .g false, .g false, .res (cB v4), .g false, .g false, .g false, .g false, .g false, .g false, .g false, .res (cB v7), .g false, .g false, .g false, .g false, .res (cB v10), .g false, .g false] [] [(4, .c (.pk 4 0)), (5, .c (.pk 5 0)), (6, .c (.pk 6 0)), (7, .c (.pk 7 0)), (31, cB (!v10))] [(4, .var (eTBoard p0) false), (5, .var (eTMemory p1) false), (6, .var [.int .i64 p2] false), (7, .var [.int .i64 p3] false)] (fun t => aI (i_IsBoard_ok p0 v1 h2) (aI c3 (aI c3 (aI c3 (aI (i_goodMemory_ok p0 p1 v4 h5) (aI c3 (aI c3 (aI c6 (aI c6 (aI c6 (aI c6 (aI c6 (aI (i_inRange_ok p2 0 p0.Rules.Turns v7 h8) (aI c6 (aI c6 (aI c9 (aI c9 (aI (i_inRange_ok p3 0 100 v10 h11) (aI c9 (aI c9 (t))))))))))))))))))))) (by kernel_rfl) ?_
        rcases ofCond H with ⟨c12, H⟩ | ⟨c12, H⟩
        · refine ite_t c12 (by kernel_rfl) ?_
          refine seq_ops [] [] [(8, .c (.nil)), (9, cB false)] [] (fun t => t) (by kernel_rfl) ?_
          refine tell [.nld 8 1 (fF eI zI ([] : List Int))] [(8, .c (dat 1 eI zI ([] : List Int))), (9, cB false)] [] (fun t => t) (by kernel_rfl) ?_
          refine ends_ret ?_
          obtain rfl := Option.some.inj H
          exact And.intro (.inl rfl) rfl
        · refine ite_f c12 (by kernel_rfl) ?_
          refine ends_skip ?_
          change EndsI _ _ _ _ _ _
          obtain ⟨v13, h14, H⟩ := ofBind H
          refine seq_ops [.res (.c (dat 1 eI zI v13))] [] [(8, .c (dat 1 eI zI v13)), (9, cB true)] [] (fun t => aI (i_hexesThat_c3_ok p0 (36) (eTMemory p1) (eI p2) (eI p3) (fun q0 => X.i_StaleHexes_1 q0 p1 p2 p3) (fun q0 r h => i_StaleHexes_1_ok q0 p1 p2 p3 r h) v13 h14) (t)) (by kernel_rfl) ?_
          refine ends_ret ?_
          obtain rfl := Option.some.inj H
          exact And.intro (.inl rfl) rfl

theorem i_hexesThat_Mdf_c3_ok (p0 : TBoard) (cf1 : FuncId) (cs1_0 : List AC) (cs1_1 : List AC) (cs1_2 : List AC) (f1 : Int → Option Bool) (hf1 : ∀ q0 r, f1 q0 = some r → FnOk Tryd.prog gl cf1 [cI q0, .c (.pd cs1_0 0), .c (.pd cs1_1 0), .c (.pd cs1_2 0)] (cB r)) (r : (List Int)) (H : X.i_hexesThat p0 f1 = some r) : FnMu Tryd.prog gl 35 [.agg (eTBoard p0), .c (.clo cf1 [.pd cs1_0 0, .pd cs1_1 0, .pd cs1_2 0])] [] (.c (.own 900000 1 0 r.length)) [(900000, .arr 1 r.length (fF eI zI r) false)] := by
  unfold X.i_hexesThat at H
  refine fn_mu (fn := Tryd.f35) (ir := i_hexesThat_ir) (E' := [(4, .c (.own 900000 1 0 r.length))]) (E1 := [(900000, .arr 1 r.length (fF eI zI r) false)]) glL Tryd.func35 (by kernel_rfl) (by kernel_rfl) (by kernel_rfl) (by kernel_rfl) (by kernel_rfl) ?_
  refine seq_ops [] [] [(1, .c (.clo cf1 [.pd cs1_0 0, .pd cs1_1 0, .pd cs1_2 0])), (2, .c (.pk 2 0))] [(2, .var (eTBoard p0) false)] (fun t => t) (by kernel_rfl) ?_
  refine seq_ops [.fn ([] : List Int).length (fF eI zI ([] : List Int))] [] [(1, .c (.clo cf1 [.pd cs1_0 0, .pd cs1_1 0, .pd cs1_2 0])), (2, .c (.pk 2 0)), (5, .c (.own 7 1 0 (([] : List Int).length)))] [(2, .var (eTBoard p0) false), (7, .arr 1 (([] : List Int).length) (fF eI zI ([] : List Int)) false)] (fun t => aI (rfl : ([] : List Int).length = 0) (aI (fF_lit eI zI ([] : List Int)) (t))) (by kernel_rfl) ?_
  refine seq_in ?_
  refine seq_ops [] [] [(1, .c (.clo cf1 [.pd cs1_0 0, .pd cs1_1 0, .pd cs1_2 0])), (5, .c (.own 7 1 0 (([] : List Int).length))), (11, cI (p0.Map.Terrain.length : Int)), (12, cI 0)] [(7, .arr 1 (([] : List Int).length) (fF eI zI ([] : List Int)) false)] (fun t => lI p0.Map.Terrain (t)) (by kernel_rfl) ?_
  refine ends_blk ?_
  obtain ⟨y21, h22, H⟩ := ofBind H
  refine tell [.ren 7 1001] [(1, .c (.clo cf1 [.pd cs1_0 0, .pd cs1_1 0, .pd cs1_2 0])), (5, .c (.own 1001 1 0 (([] : List Int).length))), (11, cI (p0.Map.Terrain.length : Int)), (12, cI 0)] [(1001, .arr 1 (([] : List Int).length) (fF eI zI ([] : List Int)) false)] (fun t => t) (by kernel_rfl) ?_
  refine loop_in (fun (x : (Int × (List Int))) => lit [(1, .c (.clo cf1 [.pd cs1_0 0, .pd cs1_1 0, .pd cs1_2 0])), (5, .c (.own 1001 1 0 x.2.length)), (11, cI (p0.Map.Terrain.length : Int)), (12, cI x.1)] [(1001, .arr 1 x.2.length (fF eI zI x.2) false)]) (fun (z : (List Int)) => At (.exit 0) (lit [(5, .c (.own 1001 1 0 z.length))] [(1001, .arr 1 z.length (fF eI zI z) false)])) h22 ?_ ?_
  · clear H h22
    intro x14 y0 H
    refine seq_ops [] [] [(1, .c (.clo cf1 [.pd cs1_0 0, .pd cs1_1 0, .pd cs1_2 0])), (5, .c (.own 1001 1 0 x14.2.length)), (11, cI (p0.Map.Terrain.length : Int)), (12, cI x14.1), (13, cB (decide (x14.1 < (p0.Map.Terrain.length : Int))))] [(1001, .arr 1 x14.2.length (fF eI zI x14.2) false)] (fun t => t) (by kernel_rfl) ?_
    refine seq_in ?_
    rcases ofCond H with ⟨c16, H⟩ | ⟨c16, H⟩
    · refine ite_t c16 (by kernel_rfl) ?_
      refine ends_skip ?_
      change EndsI _ _ _ _ _ _
      refine seq_in ?_
      refine ends_blk ?_
      refine seq_ops [] [] [(1, .c (.clo cf1 [.pd cs1_0 0, .pd cs1_1 0, .pd cs1_2 0])), (5, .c (.own 1001 1 0 x14.2.length)), (6, cI x14.1), (11, cI (p0.Map.Terrain.length : Int)), (12, cI x14.1)] [(1001, .arr 1 x14.2.length (fF eI zI x14.2) false)] (fun t => t) (by kernel_rfl) ?_
      obtain ⟨v17, h18, H⟩ := ofBind H
      refine seq_ops [.res (cB v17)] [] [(1, .c (.clo cf1 [.pd cs1_0 0, .pd cs1_1 0, .pd cs1_2 0])), (5, .c (.own 1001 1 0 x14.2.length)), (6, cI x14.1), (11, cI (p0.Map.Terrain.length : Int)), (12, cI x14.1), (17, cB v17)] [(1001, .arr 1 x14.2.length (fF eI zI x14.2) false)] (fun t => aI (hf1 x14.1 v17 h18) (t)) (by kernel_rfl) ?_
      rcases ofCond H with ⟨c19, H⟩ | ⟨c19, H⟩
      · refine ite_t c19 (by kernel_rfl) ?_
        obtain ⟨g20, H⟩ := ofIf H
        refine one_ops [.fn ([x14.1] : List Int).length (fF eI zI ([x14.1] : List Int)), .fn (x14.2 ++ ([x14.1] : List Int)).length (fF eI zI (x14.2 ++ ([x14.1] : List Int)))] [] [(1, .c (.clo cf1 [.pd cs1_0 0, .pd cs1_1 0, .pd cs1_2 0])), (5, .c (.own 21 1 0 ((x14.2 ++ ([x14.1] : List Int)).length))), (11, cI (p0.Map.Terrain.length : Int)), (12, cI x14.1)] [(21, .arr 1 ((x14.2 ++ ([x14.1] : List Int)).length) (fF eI zI (x14.2 ++ ([x14.1] : List Int))) false)] (fun t => aI (rfl : ([x14.1] : List Int).length = 1) (aI (fF_lit eI zI ([x14.1] : List Int)) (aI (And.intro (Nat.le_refl x14.2.length) (And.intro (@List.length_append _ x14.2 ([x14.1] : List Int)) g20)) (aI (fF_appL eI zI x14.2 ([x14.1] : List Int)) (aI (fF_appR eI zI x14.2 ([x14.1] : List Int)) (t)))))) (by kernel_rfl) ?_
        change EndsI _ _ _ _ _ _
        refine one_ops [] [.ren 21 1001] [(1, .c (.clo cf1 [.pd cs1_0 0, .pd cs1_1 0, .pd cs1_2 0])), (5, .c (.own 1001 1 0 ((x14.2 ++ ([x14.1] : List Int)).length))), (11, cI (p0.Map.Terrain.length : Int)), (12, cI (W (x14.1 + 1)))] [(1001, .arr 1 ((x14.2 ++ ([x14.1] : List Int)).length) (fF eI zI (x14.2 ++ ([x14.1] : List Int))) false)] (fun t => t) (by kernel_rfl) ?_
        obtain rfl := Option.some.inj H
        exact And.intro rfl rfl
      · refine ite_f c19 (by kernel_rfl) ?_
        refine ends_skip ?_
        change EndsI _ _ _ _ _ _
        refine one_ops [] [] [(1, .c (.clo cf1 [.pd cs1_0 0, .pd cs1_1 0, .pd cs1_2 0])), (5, .c (.own 1001 1 0 x14.2.length)), (11, cI (p0.Map.Terrain.length : Int)), (12, cI (W (x14.1 + 1)))] [(1001, .arr 1 x14.2.length (fF eI zI x14.2) false)] (fun t => t) (by kernel_rfl) ?_
        obtain rfl := Option.some.inj H
        exact And.intro rfl rfl
    · refine ite_f c16 (by kernel_rfl) ?_
      refine tell [] [(5, .c (.own 1001 1 0 x14.2.length))] [(1001, .arr 1 x14.2.length (fF eI zI x14.2) false)] (fun t => t) (by kernel_rfl) ?_
      refine ends_exit ?_
      obtain rfl := Option.some.inj H
      exact And.intro (by simp) (And.intro rfl rfl)
  · clear h22
    intro e s q
    obtain ⟨rfl, rfl⟩ := q
    change EndsI _ _ _ _ _ _
    refine seq_ops [] [] [(4, .c (.own 1001 1 0 y21.length))] [(1001, .arr 1 y21.length (fF eI zI y21) false)] (fun t => t) (by kernel_rfl) ?_
    refine tell [.ren 1001 900000] [(4, .c (.own 900000 1 0 y21.length))] [(900000, .arr 1 y21.length (fF eI zI y21) false)] (fun t => t) (by kernel_rfl) ?_
    refine ends_ret ?_
    obtain rfl := Option.some.inj H
    exact And.intro (.inl rfl) rfl

theorem i_StaleHexes_Mdddd_ok (p0 : TBoard) (p1 : TMemory) (p2 : Int) (p3 : Int) (r : ((List Int) × Bool)) (H : X.i_StaleHexes p0 p1 p2 p3 = some r) : FnMu Tryd.prog gl 11 [.agg (eTBoard p0), .agg (eTMemory p1), cI p2, cI p3] [] (.tup [(false, [.own 900000 1 0 r.1.length]), (false, [.bool r.2])]) [(900000, .arr 1 r.1.length (fF eI zI r.1) false)] := by
  unfold X.i_StaleHexes at H
  refine fn_mu (fn := Tryd.f11) (ir := i_StaleHexes_ir) (E' := [(8, .c (.own 900000 1 0 r.1.length)), (9, cB r.2)]) (E1 := [(900000, .arr 1 r.1.length (fF eI zI r.1) false)]) glL Tryd.func11 (by kernel_rfl) (by kernel_rfl) (by kernel_rfl) (by kernel_rfl) (by kernel_rfl) ?_
  refine seq_ops [] [] [(4, .c (.pk 4 0)), (5, .c (.pk 5 0)), (6, .c (.pk 6 0)), (7, .c (.pk 7 0))] [(4, .var (eTBoard p0) false), (5, .var (eTMemory p1) false), (6, .var [.int .i64 p2] false), (7, .var [.int .i64 p3] false)] (fun t => t) (by kernel_rfl) ?_
  refine seq_in ?_
  obtain ⟨v1, h2, H⟩ := ofBind H
  rcases ofCond H with ⟨c3, H⟩ | ⟨c3, H⟩
  · refine seq_ops [.res (cB v1), .g true, .g true, .g true, .g true, .g true, .g true, .g true, .g true, .g true, .g true, .g true, .g true, .g true, .g true, .g true, .g true] [] [(4, .c (.pk 4 0)), (5, .c (.pk 5 0)), (6, .c (.pk 6 0)), (7, .c (.pk 7 0)), (31, cB true)] [(4, .var (eTBoard p0) false), (5, .var (eTMemory p1) false), (6, .var [.int .i64 p2] false), (7, .var [.int .i64 p3] false)] (fun t => aI (i_IsBoard_ok p0 v1 h2) (aI c3 (aI c3 (aI c3 (aI c3 (aI c3 (aI (rfl : (true : Bool) = true) (aI (rfl : (true : Bool) = true) (aI (rfl : (true : Bool) = true) (aI (rfl : (true : Bool) = true) (aI (rfl : (true : Bool) = true) (aI (rfl : (true : Bool) = true) (aI (rfl : (true : Bool) = true) (aI (rfl : (true : Bool) = true) (aI (rfl : (true : Bool) = true) (aI (rfl : (true : Bool) = true) (aI (rfl : (true : Bool) = true) (t)))))))))))))))))) (by kernel_rfl) ?_
    refine ite_t (rfl : (true : Bool) = true) (by kernel_rfl) ?_
    refine seq_ops [] [] [(8, .c (.nil)), (9, cB false)] [] (fun t => t) (by kernel_rfl) ?_
    refine tell [.nlo 8 900000 1 (fF eI zI ([] : List Int))] [(8, .c (.own 900000 1 0 (([] : List Int).length))), (9, cB false)] [(900000, .arr 1 (([] : List Int).length) (fF eI zI ([] : List Int)) false)] (fun t => aI (by decide : 0 < 1) (t)) (by kernel_rfl) ?_
    refine ends_ret ?_
    obtain rfl := Option.some.inj H
    exact And.intro (.inl rfl) rfl
  · obtain ⟨v4, h5, H⟩ := ofBind H
    rcases ofCond H with ⟨c6, H⟩ | ⟨c6, H⟩
    · refine seq_ops [.res (cB v1), .g false, .g false, .g false, .res (cB v4), .g false, .g false, .g true, .g true, .g true, .g true, .g true, .g true, .g true, .g true, .g true, .g true, .g true] [] [(4, .c (.pk 4 0)), (5, .c (.pk 5 0)), (6, .c (.pk 6 0)), (7, .c (.pk 7 0)), (31, cB true)] [(4, .var (eTBoard p0) false), (5, .var (eTMemory p1) false), (6, .var [.int .i64 p2] false), (7, .var [.int .i64 p3] false)] (fun t => aI (i_IsBoard_ok p0 v1 h2) (aI c3 (aI c3 (aI c3 (aI (i_goodMemory_ok p0 p1 v4 h5) (aI c3 (aI c3 (aI c6 (aI c6 (aI c6 (aI c6 (aI c6 (aI c6 (aI c6 (aI (rfl : (true : Bool) = true) (aI (rfl : (true : Bool) = true) (aI (rfl : (true : Bool) = true) (aI (rfl : (true : Bool) = true) (t))))))))))))))))))) (by kernel_rfl) ?_
      refine ite_t (rfl : (true : Bool) = true) (by kernel_rfl) ?_
      refine seq_ops [] [] [(8, .c (.nil)), (9, cB false)] [] (fun t => t) (by kernel_rfl) ?_
      refine tell [.nlo 8 900000 1 (fF eI zI ([] : List Int))] [(8, .c (.own 900000 1 0 (([] : List Int).length))), (9, cB false)] [(900000, .arr 1 (([] : List Int).length) (fF eI zI ([] : List Int)) false)] (fun t => aI (by decide : 0 < 1) (t)) (by kernel_rfl) ?_
      refine ends_ret ?_
      obtain rfl := Option.some.inj H
      exact And.intro (.inl rfl) rfl
    · obtain ⟨v7, h8, H⟩ := ofBind H
      rcases ofCond H with ⟨c9, H⟩ | ⟨c9, H⟩
      · refine seq_ops [.res (cB v1), .g false, .g false, .g false, .res (cB v4), .g false, .g false, .g false, .g false, .g false, .g false, .g false, .res (cB v7), .g false, .g false, .g true, .g true, .g true, .g true] [] [(4, .c (.pk 4 0)), (5, .c (.pk 5 0)), (6, .c (.pk 6 0)), (7, .c (.pk 7 0)), (31, cB true)] [(4, .var (eTBoard p0) false), (5, .var (eTMemory p1) false), (6, .var [.int .i64 p2] false), (7, .var [.int .i64 p3] false)] (fun t => aI (i_IsBoard_ok p0 v1 h2) (aI c3 (aI c3 (aI c3 (aI (i_goodMemory_ok p0 p1 v4 h5) (aI c3 (aI c3 (aI c6 (aI c6 (aI c6 (aI c6 (aI c6 (aI (i_inRange_ok p2 0 p0.Rules.Turns v7 h8) (aI c6 (aI c6 (aI c9 (aI c9 (aI c9 (aI c9 (t)))))))))))))))))))) (by kernel_rfl) ?_
        refine ite_t (rfl : (true : Bool) = true) (by kernel_rfl) ?_
        refine seq_ops [] [] [(8, .c (.nil)), (9, cB false)] [] (fun t => t) (by kernel_rfl) ?_
        refine tell [.nlo 8 900000 1 (fF eI zI ([] : List Int))] [(8, .c (.own 900000 1 0 (([] : List Int).length))), (9, cB false)] [(900000, .arr 1 (([] : List Int).length) (fF eI zI ([] : List Int)) false)] (fun t => aI (by decide : 0 < 1) (t)) (by kernel_rfl) ?_
        refine ends_ret ?_
        obtain rfl := Option.some.inj H
        exact And.intro (.inl rfl) rfl
      · obtain ⟨v10, h11, H⟩ := ofBind H
        refine seq_ops [.res (cB v1), .g false, .g false, .g false, .res (cB v4), .g false, .g false, .g false, .g false, .g false, .g false, .g false, .res (cB v7), .g false, .g false, .g false, .g false, .res (cB v10), .g false, .g false] [] [(4, .c (.pk 4 0)), (5, .c (.pk 5 0)), (6, .c (.pk 6 0)), (7, .c (.pk 7 0)), (31, cB (!v10))] [(4, .var (eTBoard p0) false), (5, .var (eTMemory p1) false), (6, .var [.int .i64 p2] false), (7, .var [.int .i64 p3] false)] (fun t => aI (i_IsBoard_ok p0 v1 h2) (aI c3 (aI c3 (aI c3 (aI (i_goodMemory_ok p0 p1 v4 h5) (aI c3 (aI c3 (aI c6 (aI c6 (aI c6 (aI c6 (aI c6 (aI (i_inRange_ok p2 0 p0.Rules.Turns v7 h8) (aI c6 (aI c6 (aI c9 (aI c9 (aI (i_inRange_ok p3 0 100 v10 h11) (aI c9 (aI c9 (t))))))))))))))))))))) (by kernel_rfl) ?_
        rcases ofCond H with ⟨c12, H⟩ | ⟨c12, H⟩
        · refine ite_t c12 (by kernel_rfl) ?_
          refine seq_ops [] [] [(8, .c (.nil)), (9, cB false)] [] (fun t => t) (by kernel_rfl) ?_
          refine tell [.nlo 8 900000 1 (fF eI zI ([] : List Int))] [(8, .c (.own 900000 1 0 (([] : List Int).length))), (9, cB false)] [(900000, .arr 1 (([] : List Int).length) (fF eI zI ([] : List Int)) false)] (fun t => aI (by decide : 0 < 1) (t)) (by kernel_rfl) ?_
          refine ends_ret ?_
          obtain rfl := Option.some.inj H
          exact And.intro (.inl rfl) rfl
        · refine ite_f c12 (by kernel_rfl) ?_
          refine ends_skip ?_
          change EndsI _ _ _ _ _ _
          obtain ⟨v13, h14, H⟩ := ofBind H
          refine seq_ops [.mu [] [(900000, 1001)] (.c (.own 900000 1 0 v13.length)) [(900000, .arr 1 v13.length (fF eI zI v13) false)]] [] [(8, .c (.own 1001 1 0 v13.length)), (9, cB true)] [(1001, .arr 1 v13.length (fF eI zI v13) false)] (fun t => aI (i_hexesThat_Mdf_c3_ok p0 (36) (eTMemory p1) (eI p2) (eI p3) (fun q0 => X.i_StaleHexes_1 q0 p1 p2 p3) (fun q0 r h => i_StaleHexes_1_ok q0 p1 p2 p3 r h) v13 h14) (t)) (by kernel_rfl) ?_
          refine tell [.ren 1001 900000] [(8, .c (.own 900000 1 0 v13.length)), (9, cB true)] [(900000, .arr 1 v13.length (fF eI zI v13) false)] (fun t => t) (by kernel_rfl) ?_
          refine ends_ret ?_
          obtain rfl := Option.some.inj H
          exact And.intro (.inl rfl) rfl

def l_eqIntS_ir : S :=
 (.seq (.ops [⟨some 4, .mv (.v (.bool false)), none⟩])
 (.seq (.seq (.ops [⟨some 6, .mv (.t 0), none⟩, ⟨some 7, .len (.t 6), none⟩, ⟨some 8, .mv (.t 1), none⟩, ⟨some 9, .len (.t 8), none⟩, ⟨some 10, .bin .neq (.t 7) (.t 9), none⟩])
 (.ite (.t 10) (.seq (.ops [⟨some 4, .mv (.v (.bool false)), none⟩])
  .ret)
 .skip))
 (.seq (.seq (.ops [⟨some 5, .mv (.v (.int .i64 0)), none⟩])
 (.blk 0 (.loop (.seq (.seq (.ops [⟨some 11, .mv (.t 5), none⟩, ⟨some 12, .mv (.t 0), none⟩, ⟨some 13, .len (.t 12), none⟩, ⟨some 14, .bin .lss (.t 11) (.t 13), none⟩])
   (.ite (.t 14) .skip
   (.exit 0)))
   (.seq (.blk 1 (.seq (.draw 9 [⟨some 17, .mv (.t 0), none⟩, ⟨some 18, .mv (.t 5), none⟩, ⟨some 19, .iad 1 (.t 17) (.t 18), none⟩, ⟨some 20, .load 1 false (.t 19), none⟩, ⟨some 21, .mv (.t 1), none⟩, ⟨some 22, .mv (.t 5), none⟩, ⟨some 23, .iad 1 (.t 21) (.t 22), none⟩, ⟨some 24, .load 1 false (.t 23), none⟩, ⟨some 25, .bin .neq (.t 20) (.t 24), none⟩])
    (.ite (.t 25) (.seq (.ops [⟨some 4, .mv (.v (.bool false)), none⟩])
     .ret)
    .skip)))
   (.ops [⟨some 15, .mv (.t 5), none⟩, ⟨some 16, .bin .add (.t 15) (.v (.int .i64 1)), none⟩, ⟨some 5, .mv (.t 16), none⟩]))))))
 (.seq (.ops [⟨some 4, .mv (.v (.bool true)), none⟩])
 .ret))))
noncomputable def X.l_eqIntS (p0 : (List Int)) (p1 : (List Int)) : Option Bool :=
  (bif ((p0.length : Int) != (p1.length : Int)) then some false else ((loop (fun (x18 : Int) => ((bif (decide (x18 < (p0.length : Int))) then ((at' zI p0 x18).bind fun v21 => ((at' zI p1 x18).bind fun v23 => (bif (v21 != v23) then some (Sum.inr (Sum.inr false)) else some (Sum.inl (W (x18 + 1)))))) else some (Sum.inr (Sum.inl ()))) : Option (Int ⊕ (Unit ⊕ Bool)))) 0).bind fun y26 => (Sum.elim (fun (y28 : Unit) => some true) (fun (y29 : Bool) => some y29) y26)))
theorem l_eqIntS_ok (p0 : (List Int)) (p1 : (List Int)) (r : Bool) (H : X.l_eqIntS p0 p1 = some r) : FnOk Tryd.prog gl 12 [.c (dat 1 eI zI p0), .c (dat 1 eI zI p1)] (cB r) := by
  unfold X.l_eqIntS at H
  refine fn_in (fn := Tryd.f12) (ir := l_eqIntS_ir) (s1 := lit [(4, cB r)] []) glL Tryd.func12 (by kernel_rfl) (by kernel_rfl) (by kernel_rfl) (by kernel_rfl) (by kernel_rfl) ?_
  refine seq_ops [] [] [(0, .c (dat 1 eI zI p0)), (1, .c (dat 1 eI zI p1))] [] (fun t => t) (by kernel_rfl) ?_
  refine seq_in ?_
  refine seq_ops [] [] [(0, .c (dat 1 eI zI p0)), (1, .c (dat 1 eI zI p1)), (10, cB ((p0.length : Int) != (p1.length : Int)))] [] (fun t => lI p0 (lI p1 (t))) (by kernel_rfl) ?_
  rcases ofCond H with ⟨c2, H⟩ | ⟨c2, H⟩
  · refine ite_t c2 (by kernel_rfl) ?_
    refine seq_ops [] [] [(4, cB false)] [] (fun t => t) (by kernel_rfl) ?_
    refine ends_ret ?_
    obtain rfl := Option.some.inj H
    exact And.intro (.inl rfl) rfl
  · refine ite_f c2 (by kernel_rfl) ?_
    refine ends_skip ?_
    change EndsI _ _ _ _ _ _
    refine seq_in ?_
    refine seq_ops [] [] [(0, .c (dat 1 eI zI p0)), (1, .c (dat 1 eI zI p1)), (5, cI 0)] [] (fun t => t) (by kernel_rfl) ?_
    refine ends_blk ?_
    obtain ⟨y26, h27, H⟩ := ofBind H
    refine loop_in (fun (x : Int) => lit [(0, .c (dat 1 eI zI p0)), (1, .c (dat 1 eI zI p1)), (5, cI x)] []) (orJ (fun (z : Unit) => At (.exit 0) (lit [] [])) (fun (z : Bool) => At .ret (lit [(4, cB z)] []))) h27 ?_ ?_
    · clear H h27
      intro x18 y0 H
      refine seq_in ?_
      refine seq_ops [] [] [(0, .c (dat 1 eI zI p0)), (1, .c (dat 1 eI zI p1)), (5, cI x18), (14, cB (decide (x18 < (p0.length : Int))))] [] (fun t => lI p0 (t)) (by kernel_rfl) ?_
      rcases ofCond H with ⟨c20, H⟩ | ⟨c20, H⟩
      · refine ite_t c20 (by kernel_rfl) ?_
        refine ends_skip ?_
        change EndsI _ _ _ _ _ _
        refine seq_in ?_
        refine ends_blk ?_
        obtain ⟨v21, h22, H⟩ := ofBind H
        obtain ⟨v23, h24, H⟩ := ofBind H
        refine seq_draw [.cs (eI v21), .cs (eI v23)] [] [(0, .c (dat 1 eI zI p0)), (1, .c (dat 1 eI zI p1)), (5, cI x18), (25, cB (v21 != v23))] [] (fun t => aI (at_lt h22) (aI (at_enc (enc := eI) h22) (aI (rfl : ([] : List Nat) = []) (aI (at_lt h24) (aI (at_enc (enc := eI) h24) (aI (rfl : ([] : List Nat) = []) (t))))))) (by kernel_rfl) ?_
        rcases ofCond H with ⟨c25, H⟩ | ⟨c25, H⟩
        · refine ite_t c25 (by kernel_rfl) ?_
          refine seq_ops [] [] [(4, cB false)] [] (fun t => t) (by kernel_rfl) ?_
          refine ends_ret ?_
          obtain rfl := Option.some.inj H
          exact And.intro (by simp) (And.intro rfl rfl)
        · refine ite_f c25 (by kernel_rfl) ?_
          refine ends_skip ?_
          change EndsI _ _ _ _ _ _
          refine one_ops [] [] [(0, .c (dat 1 eI zI p0)), (1, .c (dat 1 eI zI p1)), (5, cI (W (x18 + 1)))] [] (fun t => t) (by kernel_rfl) ?_
          obtain rfl := Option.some.inj H
          exact And.intro rfl rfl
      · refine ite_f c20 (by kernel_rfl) ?_
        refine tell [] [] [] (fun t => t) (by kernel_rfl) ?_
        refine ends_exit ?_
        obtain rfl := Option.some.inj H
        exact And.intro (by simp) (And.intro rfl rfl)
    · clear h27
      cases y26 with
      | inl y28 =>
        replace H := ofInl H
        intro e s q
        obtain ⟨rfl, rfl⟩ := q
        change EndsI _ _ _ _ _ _
        refine seq_ops [] [] [(4, cB true)] [] (fun t => t) (by kernel_rfl) ?_
        refine ends_ret ?_
        obtain rfl := Option.some.inj H
        exact And.intro (.inl rfl) rfl
      | inr y29 =>
        replace H := ofInr H
        intro e s q
        obtain ⟨rfl, rfl⟩ := q
        obtain rfl := Option.some.inj H
        exact And.intro (.inl rfl) rfl

def l_eqTerrain_ir : S :=
 (.seq (.ops [⟨some 2, .box 5 (.t 0), none⟩, ⟨some 3, .box 5 (.t 1), none⟩, ⟨some 4, .mv (.v (.bool false)), none⟩])
 (.seq (.seq (.ops [⟨some 5, .fad 0 (.t 2), none⟩, ⟨some 6, .load 1 false (.t 5), none⟩, ⟨some 7, .fad 0 (.t 3), none⟩, ⟨some 8, .load 1 false (.t 7), none⟩, ⟨some 9, .bin .neq (.t 6) (.t 8), none⟩])
 (.ite (.t 9) (.seq (.ops [⟨some 4, .mv (.v (.bool false)), none⟩])
  .ret)
 .skip))
 (.seq (.seq (.ops [⟨some 10, .fad 1 (.t 2), none⟩, ⟨some 11, .load 1 false (.t 10), none⟩, ⟨some 12, .fad 1 (.t 3), none⟩, ⟨some 13, .load 1 false (.t 12), none⟩, ⟨some 14, .call 12 [.t 11, .t 13], none⟩, ⟨some 15, .not (.t 14), none⟩])
 (.ite (.t 15) (.seq (.ops [⟨some 4, .mv (.v (.bool false)), none⟩])
  .ret)
 .skip))
 (.seq (.seq (.ops [⟨some 16, .fad 2 (.t 2), none⟩, ⟨some 17, .load 1 false (.t 16), none⟩, ⟨some 18, .fad 2 (.t 3), none⟩, ⟨some 19, .load 1 false (.t 18), none⟩, ⟨some 20, .bin .neq (.t 17) (.t 19), none⟩])
 (.ite (.t 20) (.seq (.ops [⟨some 4, .mv (.v (.bool false)), none⟩])
  .ret)
 .skip))
 (.seq (.seq (.ops [⟨some 21, .fad 3 (.t 2), none⟩, ⟨some 22, .load 1 false (.t 21), none⟩, ⟨some 23, .fad 3 (.t 3), none⟩, ⟨some 24, .load 1 false (.t 23), none⟩, ⟨some 25, .bin .neq (.t 22) (.t 24), none⟩])
 (.ite (.t 25) (.seq (.ops [⟨some 4, .mv (.v (.bool false)), none⟩])
  .ret)
 .skip))
 (.seq (.seq (.ops [⟨some 26, .fad 4 (.t 2), none⟩, ⟨some 27, .load 1 false (.t 26), none⟩, ⟨some 28, .fad 4 (.t 3), none⟩, ⟨some 29, .load 1 false (.t 28), none⟩, ⟨some 30, .bqe true (.t 27) (.t 29), none⟩])
 (.ite (.t 30) (.seq (.ops [⟨some 4, .mv (.v (.bool false)), none⟩])
  .ret)
 .skip))
 (.seq (.ops [⟨some 4, .mv (.v (.bool true)), none⟩])
 .ret)))))))
noncomputable def X.l_eqTerrain (p0 : TTerrain) (p1 : TTerrain) : Option Bool :=
  (bif (!(p0.Name == p1.Name)) then some false else ((X.l_eqIntS p0.Cost p1.Cost).bind fun v6 => (bif (!v6) then some false else (bif (p0.Shift != p1.Shift) then some false else (bif (p0.Height != p1.Height) then some false else (bif (!(p0.Blocks == p1.Blocks)) then some false else some true))))))
theorem l_eqTerrain_ok (p0 : TTerrain) (p1 : TTerrain) (r : Bool) (H : X.l_eqTerrain p0 p1 = some r) : FnOk Tryd.prog gl 75 [.agg (eTTerrain p0), .agg (eTTerrain p1)] (cB r) := by
  unfold X.l_eqTerrain at H
  refine fn_in (fn := Tryd.f75) (ir := l_eqTerrain_ir) (s1 := lit [(4, cB r)] []) glL Tryd.func75 (by kernel_rfl) (by kernel_rfl) (by kernel_rfl) (by kernel_rfl) (by kernel_rfl) ?_
  refine seq_ops [] [] [(2, .c (.pk 2 0)), (3, .c (.pk 3 0))] [(2, .var (eTTerrain p0) false), (3, .var (eTTerrain p1) false)] (fun t => t) (by kernel_rfl) ?_
  refine seq_in ?_
  refine seq_ops [] [] [(2, .c (.pk 2 0)), (3, .c (.pk 3 0)), (9, cB (!(p0.Name == p1.Name)))] [(2, .var (eTTerrain p0) false), (3, .var (eTTerrain p1) false)] (fun t => t) (by kernel_rfl) ?_
  rcases ofCond H with ⟨c2, H⟩ | ⟨c2, H⟩
  · refine ite_t c2 (by kernel_rfl) ?_
    refine seq_ops [] [] [(4, cB false)] [] (fun t => t) (by kernel_rfl) ?_
    refine ends_ret ?_
    obtain rfl := Option.some.inj H
    exact And.intro (.inl rfl) rfl
  · refine ite_f c2 (by kernel_rfl) ?_
    refine ends_skip ?_
    change EndsI _ _ _ _ _ _
    refine seq_in ?_
    obtain ⟨v6, h7, H⟩ := ofBind H
    refine seq_ops [.res (cB v6)] [] [(2, .c (.pk 2 0)), (3, .c (.pk 3 0)), (15, cB (!v6))] [(2, .var (eTTerrain p0) false), (3, .var (eTTerrain p1) false)] (fun t => aI (l_eqIntS_ok p0.Cost p1.Cost v6 h7) (t)) (by kernel_rfl) ?_
    rcases ofCond H with ⟨c8, H⟩ | ⟨c8, H⟩
    · refine ite_t c8 (by kernel_rfl) ?_
      refine seq_ops [] [] [(4, cB false)] [] (fun t => t) (by kernel_rfl) ?_
      refine ends_ret ?_
      obtain rfl := Option.some.inj H
      exact And.intro (.inl rfl) rfl
    · refine ite_f c8 (by kernel_rfl) ?_
      refine ends_skip ?_
      change EndsI _ _ _ _ _ _
      refine seq_in ?_
      refine seq_ops [] [] [(2, .c (.pk 2 0)), (3, .c (.pk 3 0)), (20, cB (p0.Shift != p1.Shift))] [(2, .var (eTTerrain p0) false), (3, .var (eTTerrain p1) false)] (fun t => t) (by kernel_rfl) ?_
      rcases ofCond H with ⟨c10, H⟩ | ⟨c10, H⟩
      · refine ite_t c10 (by kernel_rfl) ?_
        refine seq_ops [] [] [(4, cB false)] [] (fun t => t) (by kernel_rfl) ?_
        refine ends_ret ?_
        obtain rfl := Option.some.inj H
        exact And.intro (.inl rfl) rfl
      · refine ite_f c10 (by kernel_rfl) ?_
        refine ends_skip ?_
        change EndsI _ _ _ _ _ _
        refine seq_in ?_
        refine seq_ops [] [] [(2, .c (.pk 2 0)), (3, .c (.pk 3 0)), (25, cB (p0.Height != p1.Height))] [(2, .var (eTTerrain p0) false), (3, .var (eTTerrain p1) false)] (fun t => t) (by kernel_rfl) ?_
        rcases ofCond H with ⟨c12, H⟩ | ⟨c12, H⟩
        · refine ite_t c12 (by kernel_rfl) ?_
          refine seq_ops [] [] [(4, cB false)] [] (fun t => t) (by kernel_rfl) ?_
          refine ends_ret ?_
          obtain rfl := Option.some.inj H
          exact And.intro (.inl rfl) rfl
        · refine ite_f c12 (by kernel_rfl) ?_
          refine ends_skip ?_
          change EndsI _ _ _ _ _ _
          refine seq_in ?_
          refine seq_ops [] [] [(30, cB (!(p0.Blocks == p1.Blocks)))] [] (fun t => t) (by kernel_rfl) ?_
          rcases ofCond H with ⟨c13, H⟩ | ⟨c13, H⟩
          · refine ite_t c13 (by kernel_rfl) ?_
            refine seq_ops [] [] [(4, cB false)] [] (fun t => t) (by kernel_rfl) ?_
            refine ends_ret ?_
            obtain rfl := Option.some.inj H
            exact And.intro (.inl rfl) rfl
          · refine ite_f c13 (by kernel_rfl) ?_
            refine ends_skip ?_
            change EndsI _ _ _ _ _ _
            refine seq_ops [] [] [(4, cB true)] [] (fun t => t) (by kernel_rfl) ?_
            refine ends_ret ?_
            obtain rfl := Option.some.inj H
            exact And.intro (.inl rfl) rfl

def l_eqTerrainS_ir : S :=
 (.seq (.ops [⟨some 4, .mv (.v (.bool false)), none⟩])
 (.seq (.seq (.ops [⟨some 6, .mv (.t 0), none⟩, ⟨some 7, .len (.t 6), none⟩, ⟨some 8, .mv (.t 1), none⟩, ⟨some 9, .len (.t 8), none⟩, ⟨some 10, .bin .neq (.t 7) (.t 9), none⟩])
 (.ite (.t 10) (.seq (.ops [⟨some 4, .mv (.v (.bool false)), none⟩])
  .ret)
 .skip))
 (.seq (.seq (.ops [⟨some 5, .mv (.v (.int .i64 0)), none⟩])
 (.blk 0 (.loop (.seq (.seq (.ops [⟨some 11, .mv (.t 5), none⟩, ⟨some 12, .mv (.t 0), none⟩, ⟨some 13, .len (.t 12), none⟩, ⟨some 14, .bin .lss (.t 11) (.t 13), none⟩])
   (.ite (.t 14) .skip
   (.exit 0)))
   (.seq (.blk 1 (.seq (.draw 10 [⟨some 17, .mv (.t 0), none⟩, ⟨some 18, .mv (.t 5), none⟩, ⟨some 19, .iad 5 (.t 17) (.t 18), none⟩, ⟨some 20, .load 5 true (.t 19), none⟩, ⟨some 21, .mv (.t 1), none⟩, ⟨some 22, .mv (.t 5), none⟩, ⟨some 23, .iad 5 (.t 21) (.t 22), none⟩, ⟨some 24, .load 5 true (.t 23), none⟩, ⟨some 25, .call 75 [.t 20, .t 24], none⟩, ⟨some 26, .not (.t 25), none⟩])
    (.ite (.t 26) (.seq (.ops [⟨some 4, .mv (.v (.bool false)), none⟩])
     .ret)
    .skip)))
   (.ops [⟨some 15, .mv (.t 5), none⟩, ⟨some 16, .bin .add (.t 15) (.v (.int .i64 1)), none⟩, ⟨some 5, .mv (.t 16), none⟩]))))))
 (.seq (.ops [⟨some 4, .mv (.v (.bool true)), none⟩])
 .ret))))
noncomputable def X.l_eqTerrainS (p0 : (List TTerrain)) (p1 : (List TTerrain)) : Option Bool :=
  (bif ((p0.length : Int) != (p1.length : Int)) then some false else ((loop (fun (x22 : Int) => ((bif (decide (x22 < (p0.length : Int))) then ((at' zTTerrain p0 x22).bind fun v25 => ((at' zTTerrain p1 x22).bind fun v27 => ((X.l_eqTerrain v25 v27).bind fun v29 => (bif (!v29) then some (Sum.inr (Sum.inr false)) else some (Sum.inl (W (x22 + 1))))))) else some (Sum.inr (Sum.inl ()))) : Option (Int ⊕ (Unit ⊕ Bool)))) 0).bind fun y32 => (Sum.elim (fun (y34 : Unit) => some true) (fun (y35 : Bool) => some y35) y32)))
theorem l_eqTerrainS_ok (p0 : (List TTerrain)) (p1 : (List TTerrain)) (r : Bool) (H : X.l_eqTerrainS p0 p1 = some r) : FnOk Tryd.prog gl 56 [.c (dat 5 eTTerrain zTTerrain p0), .c (dat 5 eTTerrain zTTerrain p1)] (cB r) := by
  unfold X.l_eqTerrainS at H
  refine fn_in (fn := Tryd.f56) (ir := l_eqTerrainS_ir) (s1 := lit [(4, cB r)] []) glL Tryd.func56 (by kernel_rfl) (by kernel_rfl) (by kernel_rfl) (by kernel_rfl) (by kernel_rfl) ?_
  refine seq_ops [] [] [(0, .c (dat 5 eTTerrain zTTerrain p0)), (1, .c (dat 5 eTTerrain zTTerrain p1))] [] (fun t => t) (by kernel_rfl) ?_
  refine seq_in ?_
  refine seq_ops [] [] [(0, .c (dat 5 eTTerrain zTTerrain p0)), (1, .c (dat 5 eTTerrain zTTerrain p1)), (10, cB ((p0.length : Int) != (p1.length : Int)))] [] (fun t => lI p0 (lI p1 (t))) (by kernel_rfl) ?_
  rcases ofCond H with ⟨c2, H⟩ | ⟨c2, H⟩
  · refine ite_t c2 (by kernel_rfl) ?_
    refine seq_ops [] [] [(4, cB false)] [] (fun t => t) (by kernel_rfl) ?_
    refine ends_ret ?_
    obtain rfl := Option.some.inj H
    exact And.intro (.inl rfl) rfl
  · refine ite_f c2 (by kernel_rfl) ?_
    refine ends_skip ?_
    change EndsI _ _ _ _ _ _
    refine seq_in ?_
    refine seq_ops [] [] [(0, .c (dat 5 eTTerrain zTTerrain p0)), (1, .c (dat 5 eTTerrain zTTerrain p1)), (5, cI 0)] [] (fun t => t) (by kernel_rfl) ?_
    refine ends_blk ?_
    obtain ⟨y32, h33, H⟩ := ofBind H
    refine loop_in (fun (x : Int) => lit [(0, .c (dat 5 eTTerrain zTTerrain p0)), (1, .c (dat 5 eTTerrain zTTerrain p1)), (5, cI x)] []) (orJ (fun (z : Unit) => At (.exit 0) (lit [] [])) (fun (z : Bool) => At .ret (lit [(4, cB z)] []))) h33 ?_ ?_
    · clear H h33
      intro x22 y0 H
      refine seq_in ?_
      refine seq_ops [] [] [(0, .c (dat 5 eTTerrain zTTerrain p0)), (1, .c (dat 5 eTTerrain zTTerrain p1)), (5, cI x22), (14, cB (decide (x22 < (p0.length : Int))))] [] (fun t => lI p0 (t)) (by kernel_rfl) ?_
      rcases ofCond H with ⟨c24, H⟩ | ⟨c24, H⟩
      · refine ite_t c24 (by kernel_rfl) ?_
        refine ends_skip ?_
        change EndsI _ _ _ _ _ _
        refine seq_in ?_
        refine ends_blk ?_
        obtain ⟨v25, h26, H⟩ := ofBind H
        obtain ⟨v27, h28, H⟩ := ofBind H
        obtain ⟨v29, h30, H⟩ := ofBind H
        refine seq_draw [.cs (eTTerrain v25), .cs (eTTerrain v27), .res (cB v29)] [] [(0, .c (dat 5 eTTerrain zTTerrain p0)), (1, .c (dat 5 eTTerrain zTTerrain p1)), (5, cI x22), (26, cB (!v29))] [] (fun t => aI (at_lt h26) (aI (at_enc (enc := eTTerrain) h26) (aI (rfl : ([] : List Nat) = []) (aI (at_lt h28) (aI (at_enc (enc := eTTerrain) h28) (aI (rfl : ([] : List Nat) = []) (aI (l_eqTerrain_ok v25 v27 v29 h30) (aI trivial (aI (rfl : ([] : List Nat) = []) (t)))))))))) (by kernel_rfl) ?_
        rcases ofCond H with ⟨c31, H⟩ | ⟨c31, H⟩
        · refine ite_t c31 (by kernel_rfl) ?_
          refine seq_ops [] [] [(4, cB false)] [] (fun t => t) (by kernel_rfl) ?_
          refine ends_ret ?_
          obtain rfl := Option.some.inj H
          exact And.intro (by simp) (And.intro rfl rfl)
        · refine ite_f c31 (by kernel_rfl) ?_
          refine ends_skip ?_
          change EndsI _ _ _ _ _ _
          refine one_ops [] [] [(0, .c (dat 5 eTTerrain zTTerrain p0)), (1, .c (dat 5 eTTerrain zTTerrain p1)), (5, cI (W (x22 + 1)))] [] (fun t => t) (by kernel_rfl) ?_
          obtain rfl := Option.some.inj H
          exact And.intro rfl rfl
      · refine ite_f c24 (by kernel_rfl) ?_
        refine tell [] [] [] (fun t => t) (by kernel_rfl) ?_
        refine ends_exit ?_
        obtain rfl := Option.some.inj H
        exact And.intro (by simp) (And.intro rfl rfl)
    · clear h33
      cases y32 with
      | inl y34 =>
        replace H := ofInl H
        intro e s q
        obtain ⟨rfl, rfl⟩ := q
        change EndsI _ _ _ _ _ _
        refine seq_ops [] [] [(4, cB true)] [] (fun t => t) (by kernel_rfl) ?_
        refine ends_ret ?_
        obtain rfl := Option.some.inj H
        exact And.intro (.inl rfl) rfl
      | inr y35 =>
        replace H := ofInr H
        intro e s q
        obtain ⟨rfl, rfl⟩ := q
        obtain rfl := Option.some.inj H
        exact And.intro (.inl rfl) rfl

def l_eqKind_ir : S :=
 (.seq (.ops [⟨some 2, .box 6 (.t 0), none⟩, ⟨some 3, .box 6 (.t 1), none⟩, ⟨some 4, .mv (.v (.bool false)), none⟩])
 (.seq (.seq (.ops [⟨some 5, .fad 0 (.t 2), none⟩, ⟨some 6, .load 1 false (.t 5), none⟩, ⟨some 7, .fad 0 (.t 3), none⟩, ⟨some 8, .load 1 false (.t 7), none⟩, ⟨some 9, .bin .neq (.t 6) (.t 8), none⟩])
 (.ite (.t 9) (.seq (.ops [⟨some 4, .mv (.v (.bool false)), none⟩])
  .ret)
 .skip))
 (.seq (.seq (.ops [⟨some 10, .fad 1 (.t 2), none⟩, ⟨some 11, .load 1 false (.t 10), none⟩, ⟨some 12, .fad 1 (.t 3), none⟩, ⟨some 13, .load 1 false (.t 12), none⟩, ⟨some 14, .bin .neq (.t 11) (.t 13), none⟩])
 (.ite (.t 14) (.seq (.ops [⟨some 4, .mv (.v (.bool false)), none⟩])
  .ret)
 .skip))
 (.seq (.seq (.ops [⟨some 15, .fad 2 (.t 2), none⟩, ⟨some 16, .load 1 false (.t 15), none⟩, ⟨some 17, .fad 2 (.t 3), none⟩, ⟨some 18, .load 1 false (.t 17), none⟩, ⟨some 19, .bin .neq (.t 16) (.t 18), none⟩])
 (.ite (.t 19) (.seq (.ops [⟨some 4, .mv (.v (.bool false)), none⟩])
  .ret)
 .skip))
 (.seq (.seq (.ops [⟨some 20, .fad 3 (.t 2), none⟩, ⟨some 21, .load 1 false (.t 20), none⟩, ⟨some 22, .fad 3 (.t 3), none⟩, ⟨some 23, .load 1 false (.t 22), none⟩, ⟨some 24, .bin .neq (.t 21) (.t 23), none⟩])
 (.ite (.t 24) (.seq (.ops [⟨some 4, .mv (.v (.bool false)), none⟩])
  .ret)
 .skip))
 (.seq (.seq (.ops [⟨some 25, .fad 4 (.t 2), none⟩, ⟨some 26, .load 1 false (.t 25), none⟩, ⟨some 27, .fad 4 (.t 3), none⟩, ⟨some 28, .load 1 false (.t 27), none⟩, ⟨some 29, .bqe true (.t 26) (.t 28), none⟩])
 (.ite (.t 29) (.seq (.ops [⟨some 4, .mv (.v (.bool false)), none⟩])
  .ret)
 .skip))
 (.seq (.seq (.ops [⟨some 30, .fad 5 (.t 2), none⟩, ⟨some 31, .load 1 false (.t 30), none⟩, ⟨some 32, .fad 5 (.t 3), none⟩, ⟨some 33, .load 1 false (.t 32), none⟩, ⟨some 34, .bin .neq (.t 31) (.t 33), none⟩])
 (.ite (.t 34) (.seq (.ops [⟨some 4, .mv (.v (.bool false)), none⟩])
  .ret)
 .skip))
 (.seq (.ops [⟨some 4, .mv (.v (.bool true)), none⟩])
 .ret))))))))
noncomputable def X.l_eqKind (p0 : TKind) (p1 : TKind) : Option Bool :=
  (bif (!(p0.Name == p1.Name)) then some false else (bif (p0.Strength != p1.Strength) then some false else (bif (p0.Moves != p1.Moves) then some false else (bif (p0.Steps != p1.Steps) then some false else (bif (!(p0.Zone == p1.Zone)) then some false else (bif (p0.View != p1.View) then some false else some true))))))
theorem l_eqKind_ok (p0 : TKind) (p1 : TKind) (r : Bool) (H : X.l_eqKind p0 p1 = some r) : FnOk Tryd.prog gl 76 [.agg (eTKind p0), .agg (eTKind p1)] (cB r) := by
  unfold X.l_eqKind at H
  refine fn_in (fn := Tryd.f76) (ir := l_eqKind_ir) (s1 := lit [(4, cB r)] []) glL Tryd.func76 (by kernel_rfl) (by kernel_rfl) (by kernel_rfl) (by kernel_rfl) (by kernel_rfl) ?_
  refine seq_ops [] [] [(2, .c (.pk 2 0)), (3, .c (.pk 3 0))] [(2, .var (eTKind p0) false), (3, .var (eTKind p1) false)] (fun t => t) (by kernel_rfl) ?_
  refine seq_in ?_
  refine seq_ops [] [] [(2, .c (.pk 2 0)), (3, .c (.pk 3 0)), (9, cB (!(p0.Name == p1.Name)))] [(2, .var (eTKind p0) false), (3, .var (eTKind p1) false)] (fun t => t) (by kernel_rfl) ?_
  rcases ofCond H with ⟨c2, H⟩ | ⟨c2, H⟩
  · refine ite_t c2 (by kernel_rfl) ?_
    refine seq_ops [] [] [(4, cB false)] [] (fun t => t) (by kernel_rfl) ?_
    refine ends_ret ?_
    obtain rfl := Option.some.inj H
    exact And.intro (.inl rfl) rfl
  · refine ite_f c2 (by kernel_rfl) ?_
    refine ends_skip ?_
    change EndsI _ _ _ _ _ _
    refine seq_in ?_
    refine seq_ops [] [] [(2, .c (.pk 2 0)), (3, .c (.pk 3 0)), (14, cB (p0.Strength != p1.Strength))] [(2, .var (eTKind p0) false), (3, .var (eTKind p1) false)] (fun t => t) (by kernel_rfl) ?_
    rcases ofCond H with ⟨c4, H⟩ | ⟨c4, H⟩
    · refine ite_t c4 (by kernel_rfl) ?_
      refine seq_ops [] [] [(4, cB false)] [] (fun t => t) (by kernel_rfl) ?_
      refine ends_ret ?_
      obtain rfl := Option.some.inj H
      exact And.intro (.inl rfl) rfl
    · refine ite_f c4 (by kernel_rfl) ?_
      refine ends_skip ?_
      change EndsI _ _ _ _ _ _
      refine seq_in ?_
      refine seq_ops [] [] [(2, .c (.pk 2 0)), (3, .c (.pk 3 0)), (19, cB (p0.Moves != p1.Moves))] [(2, .var (eTKind p0) false), (3, .var (eTKind p1) false)] (fun t => t) (by kernel_rfl) ?_
      rcases ofCond H with ⟨c6, H⟩ | ⟨c6, H⟩
      · refine ite_t c6 (by kernel_rfl) ?_
        refine seq_ops [] [] [(4, cB false)] [] (fun t => t) (by kernel_rfl) ?_
        refine ends_ret ?_
        obtain rfl := Option.some.inj H
        exact And.intro (.inl rfl) rfl
      · refine ite_f c6 (by kernel_rfl) ?_
        refine ends_skip ?_
        change EndsI _ _ _ _ _ _
        refine seq_in ?_
        refine seq_ops [] [] [(2, .c (.pk 2 0)), (3, .c (.pk 3 0)), (24, cB (p0.Steps != p1.Steps))] [(2, .var (eTKind p0) false), (3, .var (eTKind p1) false)] (fun t => t) (by kernel_rfl) ?_
        rcases ofCond H with ⟨c8, H⟩ | ⟨c8, H⟩
        · refine ite_t c8 (by kernel_rfl) ?_
          refine seq_ops [] [] [(4, cB false)] [] (fun t => t) (by kernel_rfl) ?_
          refine ends_ret ?_
          obtain rfl := Option.some.inj H
          exact And.intro (.inl rfl) rfl
        · refine ite_f c8 (by kernel_rfl) ?_
          refine ends_skip ?_
          change EndsI _ _ _ _ _ _
          refine seq_in ?_
          refine seq_ops [] [] [(2, .c (.pk 2 0)), (3, .c (.pk 3 0)), (29, cB (!(p0.Zone == p1.Zone)))] [(2, .var (eTKind p0) false), (3, .var (eTKind p1) false)] (fun t => t) (by kernel_rfl) ?_
          rcases ofCond H with ⟨c10, H⟩ | ⟨c10, H⟩
          · refine ite_t c10 (by kernel_rfl) ?_
            refine seq_ops [] [] [(4, cB false)] [] (fun t => t) (by kernel_rfl) ?_
            refine ends_ret ?_
            obtain rfl := Option.some.inj H
            exact And.intro (.inl rfl) rfl
          · refine ite_f c10 (by kernel_rfl) ?_
            refine ends_skip ?_
            change EndsI _ _ _ _ _ _
            refine seq_in ?_
            refine seq_ops [] [] [(34, cB (p0.View != p1.View))] [] (fun t => t) (by kernel_rfl) ?_
            rcases ofCond H with ⟨c11, H⟩ | ⟨c11, H⟩
            · refine ite_t c11 (by kernel_rfl) ?_
              refine seq_ops [] [] [(4, cB false)] [] (fun t => t) (by kernel_rfl) ?_
              refine ends_ret ?_
              obtain rfl := Option.some.inj H
              exact And.intro (.inl rfl) rfl
            · refine ite_f c11 (by kernel_rfl) ?_
              refine ends_skip ?_
              change EndsI _ _ _ _ _ _
              refine seq_ops [] [] [(4, cB true)] [] (fun t => t) (by kernel_rfl) ?_
              refine ends_ret ?_
              obtain rfl := Option.some.inj H
              exact And.intro (.inl rfl) rfl

def l_eqKindS_ir : S :=
 (.seq (.ops [⟨some 4, .mv (.v (.bool false)), none⟩])
 (.seq (.seq (.ops [⟨some 6, .mv (.t 0), none⟩, ⟨some 7, .len (.t 6), none⟩, ⟨some 8, .mv (.t 1), none⟩, ⟨some 9, .len (.t 8), none⟩, ⟨some 10, .bin .neq (.t 7) (.t 9), none⟩])
 (.ite (.t 10) (.seq (.ops [⟨some 4, .mv (.v (.bool false)), none⟩])
  .ret)
 .skip))
 (.seq (.seq (.ops [⟨some 5, .mv (.v (.int .i64 0)), none⟩])
 (.blk 0 (.loop (.seq (.seq (.ops [⟨some 11, .mv (.t 5), none⟩, ⟨some 12, .mv (.t 0), none⟩, ⟨some 13, .len (.t 12), none⟩, ⟨some 14, .bin .lss (.t 11) (.t 13), none⟩])
   (.ite (.t 14) .skip
   (.exit 0)))
   (.seq (.blk 1 (.seq (.draw 10 [⟨some 17, .mv (.t 0), none⟩, ⟨some 18, .mv (.t 5), none⟩, ⟨some 19, .iad 6 (.t 17) (.t 18), none⟩, ⟨some 20, .load 6 true (.t 19), none⟩, ⟨some 21, .mv (.t 1), none⟩, ⟨some 22, .mv (.t 5), none⟩, ⟨some 23, .iad 6 (.t 21) (.t 22), none⟩, ⟨some 24, .load 6 true (.t 23), none⟩, ⟨some 25, .call 76 [.t 20, .t 24], none⟩, ⟨some 26, .not (.t 25), none⟩])
    (.ite (.t 26) (.seq (.ops [⟨some 4, .mv (.v (.bool false)), none⟩])
     .ret)
    .skip)))
   (.ops [⟨some 15, .mv (.t 5), none⟩, ⟨some 16, .bin .add (.t 15) (.v (.int .i64 1)), none⟩, ⟨some 5, .mv (.t 16), none⟩]))))))
 (.seq (.ops [⟨some 4, .mv (.v (.bool true)), none⟩])
 .ret))))
noncomputable def X.l_eqKindS (p0 : (List TKind)) (p1 : (List TKind)) : Option Bool :=
  (bif ((p0.length : Int) != (p1.length : Int)) then some false else ((loop (fun (x22 : Int) => ((bif (decide (x22 < (p0.length : Int))) then ((at' zTKind p0 x22).bind fun v25 => ((at' zTKind p1 x22).bind fun v27 => ((X.l_eqKind v25 v27).bind fun v29 => (bif (!v29) then some (Sum.inr (Sum.inr false)) else some (Sum.inl (W (x22 + 1))))))) else some (Sum.inr (Sum.inl ()))) : Option (Int ⊕ (Unit ⊕ Bool)))) 0).bind fun y32 => (Sum.elim (fun (y34 : Unit) => some true) (fun (y35 : Bool) => some y35) y32)))
theorem l_eqKindS_ok (p0 : (List TKind)) (p1 : (List TKind)) (r : Bool) (H : X.l_eqKindS p0 p1 = some r) : FnOk Tryd.prog gl 57 [.c (dat 6 eTKind zTKind p0), .c (dat 6 eTKind zTKind p1)] (cB r) := by
  unfold X.l_eqKindS at H
  refine fn_in (fn := Tryd.f57) (ir := l_eqKindS_ir) (s1 := lit [(4, cB r)] []) glL Tryd.func57 (by kernel_rfl) (by kernel_rfl) (by kernel_rfl) (by kernel_rfl) (by kernel_rfl) ?_
  refine seq_ops [] [] [(0, .c (dat 6 eTKind zTKind p0)), (1, .c (dat 6 eTKind zTKind p1))] [] (fun t => t) (by kernel_rfl) ?_
  refine seq_in ?_
  refine seq_ops [] [] [(0, .c (dat 6 eTKind zTKind p0)), (1, .c (dat 6 eTKind zTKind p1)), (10, cB ((p0.length : Int) != (p1.length : Int)))] [] (fun t => lI p0 (lI p1 (t))) (by kernel_rfl) ?_
  rcases ofCond H with ⟨c2, H⟩ | ⟨c2, H⟩
  · refine ite_t c2 (by kernel_rfl) ?_
    refine seq_ops [] [] [(4, cB false)] [] (fun t => t) (by kernel_rfl) ?_
    refine ends_ret ?_
    obtain rfl := Option.some.inj H
    exact And.intro (.inl rfl) rfl
  · refine ite_f c2 (by kernel_rfl) ?_
    refine ends_skip ?_
    change EndsI _ _ _ _ _ _
    refine seq_in ?_
    refine seq_ops [] [] [(0, .c (dat 6 eTKind zTKind p0)), (1, .c (dat 6 eTKind zTKind p1)), (5, cI 0)] [] (fun t => t) (by kernel_rfl) ?_
    refine ends_blk ?_
    obtain ⟨y32, h33, H⟩ := ofBind H
    refine loop_in (fun (x : Int) => lit [(0, .c (dat 6 eTKind zTKind p0)), (1, .c (dat 6 eTKind zTKind p1)), (5, cI x)] []) (orJ (fun (z : Unit) => At (.exit 0) (lit [] [])) (fun (z : Bool) => At .ret (lit [(4, cB z)] []))) h33 ?_ ?_
    · clear H h33
      intro x22 y0 H
      refine seq_in ?_
      refine seq_ops [] [] [(0, .c (dat 6 eTKind zTKind p0)), (1, .c (dat 6 eTKind zTKind p1)), (5, cI x22), (14, cB (decide (x22 < (p0.length : Int))))] [] (fun t => lI p0 (t)) (by kernel_rfl) ?_
      rcases ofCond H with ⟨c24, H⟩ | ⟨c24, H⟩
      · refine ite_t c24 (by kernel_rfl) ?_
        refine ends_skip ?_
        change EndsI _ _ _ _ _ _
        refine seq_in ?_
        refine ends_blk ?_
        obtain ⟨v25, h26, H⟩ := ofBind H
        obtain ⟨v27, h28, H⟩ := ofBind H
        obtain ⟨v29, h30, H⟩ := ofBind H
        refine seq_draw [.cs (eTKind v25), .cs (eTKind v27), .res (cB v29)] [] [(0, .c (dat 6 eTKind zTKind p0)), (1, .c (dat 6 eTKind zTKind p1)), (5, cI x22), (26, cB (!v29))] [] (fun t => aI (at_lt h26) (aI (at_enc (enc := eTKind) h26) (aI (rfl : ([] : List Nat) = []) (aI (at_lt h28) (aI (at_enc (enc := eTKind) h28) (aI (rfl : ([] : List Nat) = []) (aI (l_eqKind_ok v25 v27 v29 h30) (aI trivial (aI (rfl : ([] : List Nat) = []) (t)))))))))) (by kernel_rfl) ?_
        rcases ofCond H with ⟨c31, H⟩ | ⟨c31, H⟩
        · refine ite_t c31 (by kernel_rfl) ?_
          refine seq_ops [] [] [(4, cB false)] [] (fun t => t) (by kernel_rfl) ?_
          refine ends_ret ?_
          obtain rfl := Option.some.inj H
          exact And.intro (by simp) (And.intro rfl rfl)
        · refine ite_f c31 (by kernel_rfl) ?_
          refine ends_skip ?_
          change EndsI _ _ _ _ _ _
          refine one_ops [] [] [(0, .c (dat 6 eTKind zTKind p0)), (1, .c (dat 6 eTKind zTKind p1)), (5, cI (W (x22 + 1)))] [] (fun t => t) (by kernel_rfl) ?_
          obtain rfl := Option.some.inj H
          exact And.intro rfl rfl
      · refine ite_f c24 (by kernel_rfl) ?_
        refine tell [] [] [] (fun t => t) (by kernel_rfl) ?_
        refine ends_exit ?_
        obtain rfl := Option.some.inj H
        exact And.intro (by simp) (And.intro rfl rfl)
    · clear h33
      cases y32 with
      | inl y34 =>
        replace H := ofInl H
        intro e s q
        obtain ⟨rfl, rfl⟩ := q
        change EndsI _ _ _ _ _ _
        refine seq_ops [] [] [(4, cB true)] [] (fun t => t) (by kernel_rfl) ?_
        refine ends_ret ?_
        obtain rfl := Option.some.inj H
        exact And.intro (.inl rfl) rfl
      | inr y35 =>
        replace H := ofInr H
        intro e s q
        obtain ⟨rfl, rfl⟩ := q
        obtain rfl := Option.some.inj H
        exact And.intro (.inl rfl) rfl

def l_eqRules_ir : S :=
 (.seq (.ops [⟨some 2, .box 7 (.t 0), none⟩, ⟨some 3, .box 7 (.t 1), none⟩, ⟨some 4, .mv (.v (.bool false)), none⟩])
 (.seq (.seq (.ops [⟨some 5, .fad 0 (.t 2), none⟩, ⟨some 6, .load 1 false (.t 5), none⟩, ⟨some 7, .fad 0 (.t 3), none⟩, ⟨some 8, .load 1 false (.t 7), none⟩, ⟨some 9, .call 56 [.t 6, .t 8], none⟩, ⟨some 10, .not (.t 9), none⟩])
 (.ite (.t 10) (.seq (.ops [⟨some 4, .mv (.v (.bool false)), none⟩])
  .ret)
 .skip))
 (.seq (.seq (.ops [⟨some 11, .fad 1 (.t 2), none⟩, ⟨some 12, .load 1 false (.t 11), none⟩, ⟨some 13, .fad 1 (.t 3), none⟩, ⟨some 14, .load 1 false (.t 13), none⟩, ⟨some 15, .call 57 [.t 12, .t 14], none⟩, ⟨some 16, .not (.t 15), none⟩])
 (.ite (.t 16) (.seq (.ops [⟨some 4, .mv (.v (.bool false)), none⟩])
  .ret)
 .skip))
 (.seq (.seq (.ops [⟨some 17, .fad 2 (.t 2), none⟩, ⟨some 18, .load 1 false (.t 17), none⟩, ⟨some 19, .fad 2 (.t 3), none⟩, ⟨some 20, .load 1 false (.t 19), none⟩, ⟨some 21, .bin .neq (.t 18) (.t 20), none⟩])
 (.ite (.t 21) (.seq (.ops [⟨some 4, .mv (.v (.bool false)), none⟩])
  .ret)
 .skip))
 (.seq (.seq (.ops [⟨some 22, .fad 3 (.t 2), none⟩, ⟨some 23, .load 1 false (.t 22), none⟩, ⟨some 24, .fad 3 (.t 3), none⟩, ⟨some 25, .load 1 false (.t 24), none⟩, ⟨some 26, .bin .neq (.t 23) (.t 25), none⟩])
 (.ite (.t 26) (.seq (.ops [⟨some 4, .mv (.v (.bool false)), none⟩])
  .ret)
 .skip))
 (.seq (.seq (.ops [⟨some 27, .fad 4 (.t 2), none⟩, ⟨some 28, .load 1 false (.t 27), none⟩, ⟨some 29, .fad 4 (.t 3), none⟩, ⟨some 30, .load 1 false (.t 29), none⟩, ⟨some 31, .bin .neq (.t 28) (.t 30), none⟩])
 (.ite (.t 31) (.seq (.ops [⟨some 4, .mv (.v (.bool false)), none⟩])
  .ret)
 .skip))
 (.seq (.seq (.ops [⟨some 32, .fad 5 (.t 2), none⟩, ⟨some 33, .load 1 false (.t 32), none⟩, ⟨some 34, .fad 5 (.t 3), none⟩, ⟨some 35, .load 1 false (.t 34), none⟩, ⟨some 36, .bin .neq (.t 33) (.t 35), none⟩])
 (.ite (.t 36) (.seq (.ops [⟨some 4, .mv (.v (.bool false)), none⟩])
  .ret)
 .skip))
 (.seq (.seq (.ops [⟨some 37, .fad 6 (.t 2), none⟩, ⟨some 38, .load 1 false (.t 37), none⟩, ⟨some 39, .fad 6 (.t 3), none⟩, ⟨some 40, .load 1 false (.t 39), none⟩, ⟨some 41, .bin .neq (.t 38) (.t 40), none⟩])
 (.ite (.t 41) (.seq (.ops [⟨some 4, .mv (.v (.bool false)), none⟩])
  .ret)
 .skip))
 (.seq (.ops [⟨some 4, .mv (.v (.bool true)), none⟩])
 .ret)))))))))
noncomputable def X.l_eqRules (p0 : TRules) (p1 : TRules) : Option Bool :=
  ((X.l_eqTerrainS p0.Terrains p1.Terrains).bind fun v4 => (bif (!v4) then some false else ((X.l_eqKindS p0.Kinds p1.Kinds).bind fun v10 => (bif (!v10) then some false else (bif (p0.Stack != p1.Stack) then some false else (bif (p0.River != p1.River) then some false else (bif (p0.Road != p1.Road) then some false else (bif (p0.Supply != p1.Supply) then some false else (bif (p0.Turns != p1.Turns) then some false else some true)))))))))
theorem l_eqRules_ok (p0 : TRules) (p1 : TRules) (r : Bool) (H : X.l_eqRules p0 p1 = some r) : FnOk Tryd.prog gl 37 [.agg (eTRules p0), .agg (eTRules p1)] (cB r) := by
  unfold X.l_eqRules at H
  refine fn_in (fn := Tryd.f37) (ir := l_eqRules_ir) (s1 := lit [(4, cB r)] []) glL Tryd.func37 (by kernel_rfl) (by kernel_rfl) (by kernel_rfl) (by kernel_rfl) (by kernel_rfl) ?_
  refine seq_ops [] [] [(2, .c (.pk 2 0)), (3, .c (.pk 3 0))] [(2, .var (eTRules p0) false), (3, .var (eTRules p1) false)] (fun t => t) (by kernel_rfl) ?_
  refine seq_in ?_
  obtain ⟨v4, h5, H⟩ := ofBind H
  refine seq_ops [.res (cB v4)] [] [(2, .c (.pk 2 0)), (3, .c (.pk 3 0)), (10, cB (!v4))] [(2, .var (eTRules p0) false), (3, .var (eTRules p1) false)] (fun t => aI (l_eqTerrainS_ok p0.Terrains p1.Terrains v4 h5) (t)) (by kernel_rfl) ?_
  rcases ofCond H with ⟨c6, H⟩ | ⟨c6, H⟩
  · refine ite_t c6 (by kernel_rfl) ?_
    refine seq_ops [] [] [(4, cB false)] [] (fun t => t) (by kernel_rfl) ?_
    refine ends_ret ?_
    obtain rfl := Option.some.inj H
    exact And.intro (.inl rfl) rfl
  · refine ite_f c6 (by kernel_rfl) ?_
    refine ends_skip ?_
    change EndsI _ _ _ _ _ _
    refine seq_in ?_
    obtain ⟨v10, h11, H⟩ := ofBind H
    refine seq_ops [.res (cB v10)] [] [(2, .c (.pk 2 0)), (3, .c (.pk 3 0)), (16, cB (!v10))] [(2, .var (eTRules p0) false), (3, .var (eTRules p1) false)] (fun t => aI (l_eqKindS_ok p0.Kinds p1.Kinds v10 h11) (t)) (by kernel_rfl) ?_
    rcases ofCond H with ⟨c12, H⟩ | ⟨c12, H⟩
    · refine ite_t c12 (by kernel_rfl) ?_
      refine seq_ops [] [] [(4, cB false)] [] (fun t => t) (by kernel_rfl) ?_
      refine ends_ret ?_
      obtain rfl := Option.some.inj H
      exact And.intro (.inl rfl) rfl
    · refine ite_f c12 (by kernel_rfl) ?_
      refine ends_skip ?_
      change EndsI _ _ _ _ _ _
      refine seq_in ?_
      refine seq_ops [] [] [(2, .c (.pk 2 0)), (3, .c (.pk 3 0)), (21, cB (p0.Stack != p1.Stack))] [(2, .var (eTRules p0) false), (3, .var (eTRules p1) false)] (fun t => t) (by kernel_rfl) ?_
      rcases ofCond H with ⟨c14, H⟩ | ⟨c14, H⟩
      · refine ite_t c14 (by kernel_rfl) ?_
        refine seq_ops [] [] [(4, cB false)] [] (fun t => t) (by kernel_rfl) ?_
        refine ends_ret ?_
        obtain rfl := Option.some.inj H
        exact And.intro (.inl rfl) rfl
      · refine ite_f c14 (by kernel_rfl) ?_
        refine ends_skip ?_
        change EndsI _ _ _ _ _ _
        refine seq_in ?_
        refine seq_ops [] [] [(2, .c (.pk 2 0)), (3, .c (.pk 3 0)), (26, cB (p0.River != p1.River))] [(2, .var (eTRules p0) false), (3, .var (eTRules p1) false)] (fun t => t) (by kernel_rfl) ?_
        rcases ofCond H with ⟨c16, H⟩ | ⟨c16, H⟩
        · refine ite_t c16 (by kernel_rfl) ?_
          refine seq_ops [] [] [(4, cB false)] [] (fun t => t) (by kernel_rfl) ?_
          refine ends_ret ?_
          obtain rfl := Option.some.inj H
          exact And.intro (.inl rfl) rfl
        · refine ite_f c16 (by kernel_rfl) ?_
          refine ends_skip ?_
          change EndsI _ _ _ _ _ _
          refine seq_in ?_
          refine seq_ops [] [] [(2, .c (.pk 2 0)), (3, .c (.pk 3 0)), (31, cB (p0.Road != p1.Road))] [(2, .var (eTRules p0) false), (3, .var (eTRules p1) false)] (fun t => t) (by kernel_rfl) ?_
          rcases ofCond H with ⟨c18, H⟩ | ⟨c18, H⟩
          · refine ite_t c18 (by kernel_rfl) ?_
            refine seq_ops [] [] [(4, cB false)] [] (fun t => t) (by kernel_rfl) ?_
            refine ends_ret ?_
            obtain rfl := Option.some.inj H
            exact And.intro (.inl rfl) rfl
          · refine ite_f c18 (by kernel_rfl) ?_
            refine ends_skip ?_
            change EndsI _ _ _ _ _ _
            refine seq_in ?_
            refine seq_ops [] [] [(2, .c (.pk 2 0)), (3, .c (.pk 3 0)), (36, cB (p0.Supply != p1.Supply))] [(2, .var (eTRules p0) false), (3, .var (eTRules p1) false)] (fun t => t) (by kernel_rfl) ?_
            rcases ofCond H with ⟨c20, H⟩ | ⟨c20, H⟩
            · refine ite_t c20 (by kernel_rfl) ?_
              refine seq_ops [] [] [(4, cB false)] [] (fun t => t) (by kernel_rfl) ?_
              refine ends_ret ?_
              obtain rfl := Option.some.inj H
              exact And.intro (.inl rfl) rfl
            · refine ite_f c20 (by kernel_rfl) ?_
              refine ends_skip ?_
              change EndsI _ _ _ _ _ _
              refine seq_in ?_
              refine seq_ops [] [] [(41, cB (p0.Turns != p1.Turns))] [] (fun t => t) (by kernel_rfl) ?_
              rcases ofCond H with ⟨c21, H⟩ | ⟨c21, H⟩
              · refine ite_t c21 (by kernel_rfl) ?_
                refine seq_ops [] [] [(4, cB false)] [] (fun t => t) (by kernel_rfl) ?_
                refine ends_ret ?_
                obtain rfl := Option.some.inj H
                exact And.intro (.inl rfl) rfl
              · refine ite_f c21 (by kernel_rfl) ?_
                refine ends_skip ?_
                change EndsI _ _ _ _ _ _
                refine seq_ops [] [] [(4, cB true)] [] (fun t => t) (by kernel_rfl) ?_
                refine ends_ret ?_
                obtain rfl := Option.some.inj H
                exact And.intro (.inl rfl) rfl

def l_eqMap_ir : S :=
 (.seq (.ops [⟨some 2, .box 5 (.t 0), none⟩, ⟨some 3, .box 5 (.t 1), none⟩, ⟨some 4, .mv (.v (.bool false)), none⟩])
 (.seq (.seq (.ops [⟨some 5, .fad 0 (.t 2), none⟩, ⟨some 6, .load 1 false (.t 5), none⟩, ⟨some 7, .fad 0 (.t 3), none⟩, ⟨some 8, .load 1 false (.t 7), none⟩, ⟨some 9, .bin .neq (.t 6) (.t 8), none⟩])
 (.ite (.t 9) (.seq (.ops [⟨some 4, .mv (.v (.bool false)), none⟩])
  .ret)
 .skip))
 (.seq (.seq (.ops [⟨some 10, .fad 1 (.t 2), none⟩, ⟨some 11, .load 1 false (.t 10), none⟩, ⟨some 12, .fad 1 (.t 3), none⟩, ⟨some 13, .load 1 false (.t 12), none⟩, ⟨some 14, .bin .neq (.t 11) (.t 13), none⟩])
 (.ite (.t 14) (.seq (.ops [⟨some 4, .mv (.v (.bool false)), none⟩])
  .ret)
 .skip))
 (.seq (.seq (.ops [⟨some 15, .fad 2 (.t 2), none⟩, ⟨some 16, .load 1 false (.t 15), none⟩, ⟨some 17, .fad 2 (.t 3), none⟩, ⟨some 18, .load 1 false (.t 17), none⟩, ⟨some 19, .call 12 [.t 16, .t 18], none⟩, ⟨some 20, .not (.t 19), none⟩])
 (.ite (.t 20) (.seq (.ops [⟨some 4, .mv (.v (.bool false)), none⟩])
  .ret)
 .skip))
 (.seq (.seq (.ops [⟨some 21, .fad 3 (.t 2), none⟩, ⟨some 22, .load 1 false (.t 21), none⟩, ⟨some 23, .fad 3 (.t 3), none⟩, ⟨some 24, .load 1 false (.t 23), none⟩, ⟨some 25, .call 12 [.t 22, .t 24], none⟩, ⟨some 26, .not (.t 25), none⟩])
 (.ite (.t 26) (.seq (.ops [⟨some 4, .mv (.v (.bool false)), none⟩])
  .ret)
 .skip))
 (.seq (.seq (.ops [⟨some 27, .fad 4 (.t 2), none⟩, ⟨some 28, .load 1 false (.t 27), none⟩, ⟨some 29, .fad 4 (.t 3), none⟩, ⟨some 30, .load 1 false (.t 29), none⟩, ⟨some 31, .call 12 [.t 28, .t 30], none⟩, ⟨some 32, .not (.t 31), none⟩])
 (.ite (.t 32) (.seq (.ops [⟨some 4, .mv (.v (.bool false)), none⟩])
  .ret)
 .skip))
 (.seq (.ops [⟨some 4, .mv (.v (.bool true)), none⟩])
 .ret)))))))
noncomputable def X.l_eqMap (p0 : TMap) (p1 : TMap) : Option Bool :=
  (bif (p0.Width != p1.Width) then some false else (bif (p0.Height != p1.Height) then some false else ((X.l_eqIntS p0.Terrain p1.Terrain).bind fun v8 => (bif (!v8) then some false else ((X.l_eqIntS p0.Rivers p1.Rivers).bind fun v14 => (bif (!v14) then some false else ((X.l_eqIntS p0.Roads p1.Roads).bind fun v17 => (bif (!v17) then some false else some true))))))))
theorem l_eqMap_ok (p0 : TMap) (p1 : TMap) (r : Bool) (H : X.l_eqMap p0 p1 = some r) : FnOk Tryd.prog gl 38 [.agg (eTMap p0), .agg (eTMap p1)] (cB r) := by
  unfold X.l_eqMap at H
  refine fn_in (fn := Tryd.f38) (ir := l_eqMap_ir) (s1 := lit [(4, cB r)] []) glL Tryd.func38 (by kernel_rfl) (by kernel_rfl) (by kernel_rfl) (by kernel_rfl) (by kernel_rfl) ?_
  refine seq_ops [] [] [(2, .c (.pk 2 0)), (3, .c (.pk 3 0))] [(2, .var (eTMap p0) false), (3, .var (eTMap p1) false)] (fun t => t) (by kernel_rfl) ?_
  refine seq_in ?_
  refine seq_ops [] [] [(2, .c (.pk 2 0)), (3, .c (.pk 3 0)), (9, cB (p0.Width != p1.Width))] [(2, .var (eTMap p0) false), (3, .var (eTMap p1) false)] (fun t => t) (by kernel_rfl) ?_
  rcases ofCond H with ⟨c2, H⟩ | ⟨c2, H⟩
  · refine ite_t c2 (by kernel_rfl) ?_
    refine seq_ops [] [] [(4, cB false)] [] (fun t => t) (by kernel_rfl) ?_
    refine ends_ret ?_
    obtain rfl := Option.some.inj H
    exact And.intro (.inl rfl) rfl
  · refine ite_f c2 (by kernel_rfl) ?_
    refine ends_skip ?_
    change EndsI _ _ _ _ _ _
    refine seq_in ?_
    refine seq_ops [] [] [(2, .c (.pk 2 0)), (3, .c (.pk 3 0)), (14, cB (p0.Height != p1.Height))] [(2, .var (eTMap p0) false), (3, .var (eTMap p1) false)] (fun t => t) (by kernel_rfl) ?_
    rcases ofCond H with ⟨c4, H⟩ | ⟨c4, H⟩
    · refine ite_t c4 (by kernel_rfl) ?_
      refine seq_ops [] [] [(4, cB false)] [] (fun t => t) (by kernel_rfl) ?_
      refine ends_ret ?_
      obtain rfl := Option.some.inj H
      exact And.intro (.inl rfl) rfl
    · refine ite_f c4 (by kernel_rfl) ?_
      refine ends_skip ?_
      change EndsI _ _ _ _ _ _
      refine seq_in ?_
      obtain ⟨v8, h9, H⟩ := ofBind H
      refine seq_ops [.res (cB v8)] [] [(2, .c (.pk 2 0)), (3, .c (.pk 3 0)), (20, cB (!v8))] [(2, .var (eTMap p0) false), (3, .var (eTMap p1) false)] (fun t => aI (l_eqIntS_ok p0.Terrain p1.Terrain v8 h9) (t)) (by kernel_rfl) ?_
      rcases ofCond H with ⟨c10, H⟩ | ⟨c10, H⟩
      · refine ite_t c10 (by kernel_rfl) ?_
        refine seq_ops [] [] [(4, cB false)] [] (fun t => t) (by kernel_rfl) ?_
        refine ends_ret ?_
        obtain rfl := Option.some.inj H
        exact And.intro (.inl rfl) rfl
      · refine ite_f c10 (by kernel_rfl) ?_
        refine ends_skip ?_
        change EndsI _ _ _ _ _ _
        refine seq_in ?_
        obtain ⟨v14, h15, H⟩ := ofBind H
        refine seq_ops [.res (cB v14)] [] [(2, .c (.pk 2 0)), (3, .c (.pk 3 0)), (26, cB (!v14))] [(2, .var (eTMap p0) false), (3, .var (eTMap p1) false)] (fun t => aI (l_eqIntS_ok p0.Rivers p1.Rivers v14 h15) (t)) (by kernel_rfl) ?_
        rcases ofCond H with ⟨c16, H⟩ | ⟨c16, H⟩
        · refine ite_t c16 (by kernel_rfl) ?_
          refine seq_ops [] [] [(4, cB false)] [] (fun t => t) (by kernel_rfl) ?_
          refine ends_ret ?_
          obtain rfl := Option.some.inj H
          exact And.intro (.inl rfl) rfl
        · refine ite_f c16 (by kernel_rfl) ?_
          refine ends_skip ?_
          change EndsI _ _ _ _ _ _
          refine seq_in ?_
          obtain ⟨v17, h18, H⟩ := ofBind H
          refine seq_ops [.res (cB v17)] [] [(32, cB (!v17))] [] (fun t => aI (l_eqIntS_ok p0.Roads p1.Roads v17 h18) (t)) (by kernel_rfl) ?_
          rcases ofCond H with ⟨c19, H⟩ | ⟨c19, H⟩
          · refine ite_t c19 (by kernel_rfl) ?_
            refine seq_ops [] [] [(4, cB false)] [] (fun t => t) (by kernel_rfl) ?_
            refine ends_ret ?_
            obtain rfl := Option.some.inj H
            exact And.intro (.inl rfl) rfl
          · refine ite_f c19 (by kernel_rfl) ?_
            refine ends_skip ?_
            change EndsI _ _ _ _ _ _
            refine seq_ops [] [] [(4, cB true)] [] (fun t => t) (by kernel_rfl) ?_
            refine ends_ret ?_
            obtain rfl := Option.some.inj H
            exact And.intro (.inl rfl) rfl

def l_eqBoard_ir : S :=
 (.seq (.ops [⟨some 2, .box 12 (.t 0), none⟩, ⟨some 3, .box 12 (.t 1), none⟩, ⟨some 4, .mv (.v (.bool false)), none⟩])
 (.seq (.seq (.ops [⟨some 5, .fad 0 (.t 2), none⟩, ⟨some 6, .load 7 true (.t 5), none⟩, ⟨some 7, .fad 0 (.t 3), none⟩, ⟨some 8, .load 7 true (.t 7), none⟩, ⟨some 9, .call 37 [.t 6, .t 8], none⟩, ⟨some 10, .not (.t 9), none⟩])
 (.ite (.t 10) (.seq (.ops [⟨some 4, .mv (.v (.bool false)), none⟩])
  .ret)
 .skip))
 (.seq (.seq (.ops [⟨some 11, .fad 7 (.t 2), none⟩, ⟨some 12, .load 5 true (.t 11), none⟩, ⟨some 13, .fad 7 (.t 3), none⟩, ⟨some 14, .load 5 true (.t 13), none⟩, ⟨some 15, .call 38 [.t 12, .t 14], none⟩, ⟨some 16, .not (.t 15), none⟩])
 (.ite (.t 16) (.seq (.ops [⟨some 4, .mv (.v (.bool false)), none⟩])
  .ret)
 .skip))
 (.seq (.ops [⟨some 4, .mv (.v (.bool true)), none⟩])
 .ret))))
noncomputable def X.l_eqBoard (p0 : TBoard) (p1 : TBoard) : Option Bool :=
  ((X.l_eqRules p0.Rules p1.Rules).bind fun v4 => (bif (!v4) then some false else ((X.l_eqMap p0.Map p1.Map).bind fun v7 => (bif (!v7) then some false else some true))))
theorem l_eqBoard_ok (p0 : TBoard) (p1 : TBoard) (r : Bool) (H : X.l_eqBoard p0 p1 = some r) : FnOk Tryd.prog gl 13 [.agg (eTBoard p0), .agg (eTBoard p1)] (cB r) := by
  unfold X.l_eqBoard at H
  refine fn_in (fn := Tryd.f13) (ir := l_eqBoard_ir) (s1 := lit [(4, cB r)] []) glL Tryd.func13 (by kernel_rfl) (by kernel_rfl) (by kernel_rfl) (by kernel_rfl) (by kernel_rfl) ?_
  refine seq_ops [] [] [(2, .c (.pk 2 0)), (3, .c (.pk 3 0))] [(2, .var (eTBoard p0) false), (3, .var (eTBoard p1) false)] (fun t => t) (by kernel_rfl) ?_
  refine seq_in ?_
  obtain ⟨v4, h5, H⟩ := ofBind H
  refine seq_ops [.res (cB v4)] [] [(2, .c (.pk 2 0)), (3, .c (.pk 3 0)), (10, cB (!v4))] [(2, .var (eTBoard p0) false), (3, .var (eTBoard p1) false)] (fun t => aI (l_eqRules_ok p0.Rules p1.Rules v4 h5) (t)) (by kernel_rfl) ?_
  rcases ofCond H with ⟨c6, H⟩ | ⟨c6, H⟩
  · refine ite_t c6 (by kernel_rfl) ?_
    refine seq_ops [] [] [(4, cB false)] [] (fun t => t) (by kernel_rfl) ?_
    refine ends_ret ?_
    obtain rfl := Option.some.inj H
    exact And.intro (.inl rfl) rfl
  · refine ite_f c6 (by kernel_rfl) ?_
    refine ends_skip ?_
    change EndsI _ _ _ _ _ _
    refine seq_in ?_
    obtain ⟨v7, h8, H⟩ := ofBind H
    refine seq_ops [.res (cB v7)] [] [(16, cB (!v7))] [] (fun t => aI (l_eqMap_ok p0.Map p1.Map v7 h8) (t)) (by kernel_rfl) ?_
    rcases ofCond H with ⟨c9, H⟩ | ⟨c9, H⟩
    · refine ite_t c9 (by kernel_rfl) ?_
      refine seq_ops [] [] [(4, cB false)] [] (fun t => t) (by kernel_rfl) ?_
      refine ends_ret ?_
      obtain rfl := Option.some.inj H
      exact And.intro (.inl rfl) rfl
    · refine ite_f c9 (by kernel_rfl) ?_
      refine ends_skip ?_
      change EndsI _ _ _ _ _ _
      refine seq_ops [] [] [(4, cB true)] [] (fun t => t) (by kernel_rfl) ?_
      refine ends_ret ?_
      obtain rfl := Option.some.inj H
      exact And.intro (.inl rfl) rfl

def l_eqMemory_ir : S :=
 (.seq (.ops [⟨some 2, .box 2 (.t 0), none⟩, ⟨some 3, .box 2 (.t 1), none⟩, ⟨some 4, .mv (.v (.bool false)), none⟩])
 (.seq (.seq (.ops [⟨some 5, .fad 0 (.t 2), none⟩, ⟨some 6, .load 1 false (.t 5), none⟩, ⟨some 7, .fad 0 (.t 3), none⟩, ⟨some 8, .load 1 false (.t 7), none⟩, ⟨some 9, .call 12 [.t 6, .t 8], none⟩, ⟨some 10, .not (.t 9), none⟩])
 (.ite (.t 10) (.seq (.ops [⟨some 4, .mv (.v (.bool false)), none⟩])
  .ret)
 .skip))
 (.seq (.seq (.ops [⟨some 11, .fad 1 (.t 2), none⟩, ⟨some 12, .load 1 false (.t 11), none⟩, ⟨some 13, .fad 1 (.t 3), none⟩, ⟨some 14, .load 1 false (.t 13), none⟩, ⟨some 15, .call 12 [.t 12, .t 14], none⟩, ⟨some 16, .not (.t 15), none⟩])
 (.ite (.t 16) (.seq (.ops [⟨some 4, .mv (.v (.bool false)), none⟩])
  .ret)
 .skip))
 (.seq (.ops [⟨some 4, .mv (.v (.bool true)), none⟩])
 .ret))))
noncomputable def X.l_eqMemory (p0 : TMemory) (p1 : TMemory) : Option Bool :=
  ((X.l_eqIntS p0.Turns p1.Turns).bind fun v4 => (bif (!v4) then some false else ((X.l_eqIntS p0.Counts p1.Counts).bind fun v7 => (bif (!v7) then some false else some true))))
theorem l_eqMemory_ok (p0 : TMemory) (p1 : TMemory) (r : Bool) (H : X.l_eqMemory p0 p1 = some r) : FnOk Tryd.prog gl 14 [.agg (eTMemory p0), .agg (eTMemory p1)] (cB r) := by
  unfold X.l_eqMemory at H
  refine fn_in (fn := Tryd.f14) (ir := l_eqMemory_ir) (s1 := lit [(4, cB r)] []) glL Tryd.func14 (by kernel_rfl) (by kernel_rfl) (by kernel_rfl) (by kernel_rfl) (by kernel_rfl) ?_
  refine seq_ops [] [] [(2, .c (.pk 2 0)), (3, .c (.pk 3 0))] [(2, .var (eTMemory p0) false), (3, .var (eTMemory p1) false)] (fun t => t) (by kernel_rfl) ?_
  refine seq_in ?_
  obtain ⟨v4, h5, H⟩ := ofBind H
  refine seq_ops [.res (cB v4)] [] [(2, .c (.pk 2 0)), (3, .c (.pk 3 0)), (10, cB (!v4))] [(2, .var (eTMemory p0) false), (3, .var (eTMemory p1) false)] (fun t => aI (l_eqIntS_ok p0.Turns p1.Turns v4 h5) (t)) (by kernel_rfl) ?_
  rcases ofCond H with ⟨c6, H⟩ | ⟨c6, H⟩
  · refine ite_t c6 (by kernel_rfl) ?_
    refine seq_ops [] [] [(4, cB false)] [] (fun t => t) (by kernel_rfl) ?_
    refine ends_ret ?_
    obtain rfl := Option.some.inj H
    exact And.intro (.inl rfl) rfl
  · refine ite_f c6 (by kernel_rfl) ?_
    refine ends_skip ?_
    change EndsI _ _ _ _ _ _
    refine seq_in ?_
    obtain ⟨v7, h8, H⟩ := ofBind H
    refine seq_ops [.res (cB v7)] [] [(16, cB (!v7))] [] (fun t => aI (l_eqIntS_ok p0.Counts p1.Counts v7 h8) (t)) (by kernel_rfl) ?_
    rcases ofCond H with ⟨c9, H⟩ | ⟨c9, H⟩
    · refine ite_t c9 (by kernel_rfl) ?_
      refine seq_ops [] [] [(4, cB false)] [] (fun t => t) (by kernel_rfl) ?_
      refine ends_ret ?_
      obtain rfl := Option.some.inj H
      exact And.intro (.inl rfl) rfl
    · refine ite_f c9 (by kernel_rfl) ?_
      refine ends_skip ?_
      change EndsI _ _ _ _ _ _
      refine seq_ops [] [] [(4, cB true)] [] (fun t => t) (by kernel_rfl) ?_
      refine ends_ret ?_
      obtain rfl := Option.some.inj H
      exact And.intro (.inl rfl) rfl

def l_markIntS_ir : S :=
 (.seq (.ops [⟨some 4, .mv (.v (.int .i64 0)), none⟩])
 (.seq (.seq (.ops [⟨some 5, .mv (.v (.int .i64 0)), none⟩])
 (.blk 0 (.loop (.seq (.seq (.ops [⟨some 6, .mv (.t 5), none⟩, ⟨some 7, .mv (.t 0), none⟩, ⟨some 8, .len (.t 7), none⟩, ⟨some 9, .bin .lss (.t 6) (.t 8), none⟩])
   (.ite (.t 9) .skip
   (.exit 0)))
   (.seq (.blk 1 (.seq (.ops [⟨some 12, .mv (.t 0), none⟩, ⟨some 13, .mv (.t 5), none⟩, ⟨some 14, .mv (.t 1), none⟩, ⟨some 15, .iad 1 (.t 12) (.t 13), none⟩, ⟨none, .store 1 (.t 15) (.t 14), none⟩])
    (.ops [⟨some 16, .mv (.t 1), none⟩, ⟨some 17, .bin .add (.t 16) (.v (.int .i64 1)), none⟩, ⟨some 1, .mv (.t 17), none⟩])))
   (.ops [⟨some 10, .mv (.t 5), none⟩, ⟨some 11, .bin .add (.t 10) (.v (.int .i64 1)), none⟩, ⟨some 5, .mv (.t 11), none⟩]))))))
 (.seq (.ops [⟨some 18, .mv (.t 1), none⟩, ⟨some 4, .mv (.t 18), none⟩])
 .ret)))
noncomputable def X.l_markIntS_L (p0 : (List Int)) (p1 : Int) : Option Int :=
  ((loop (fun (x10 : (Int × Int)) => ((bif (decide (x10.2 < (p0.length : Int))) then ((at' zI p0 x10.2).bind fun v13 => some (Sum.inl ((W (x10.1 + 1)), (W (x10.2 + 1))))) else some (Sum.inr x10.1)) : Option ((Int × Int) ⊕ Int))) (p1, 0)).bind fun y15 => some y15)
theorem l_markIntS_L_ok (p0 : (List Int)) (p1 : Int) (r : Int) (H : X.l_markIntS_L p0 p1 = some r) : FnOk Tryd.prog gl 17 [.c (.lv (dat 1 eI zI p0)), cI p1] (cI r) := by
  unfold X.l_markIntS_L at H
  refine fn_in (fn := Tryd.f17) (ir := l_markIntS_ir) (s1 := lit [(4, cI r)] []) glL Tryd.func17 (by kernel_rfl) (by kernel_rfl) (by kernel_rfl) (by kernel_rfl) (by kernel_rfl) ?_
  refine seq_ops [] [] [(0, .c (.lv (dat 1 eI zI p0))), (1, cI p1)] [] (fun t => t) (by kernel_rfl) ?_
  refine seq_in ?_
  refine seq_ops [] [] [(0, .c (.lv (dat 1 eI zI p0))), (1, cI p1), (5, cI 0)] [] (fun t => t) (by kernel_rfl) ?_
  refine ends_blk ?_
  obtain ⟨y15, h16, H⟩ := ofBind H
  refine loop_in (fun (x : (Int × Int)) => lit [(0, .c (.lv (dat 1 eI zI p0))), (1, cI x.1), (5, cI x.2)] []) (fun (z : Int) => At (.exit 0) (lit [(1, cI z)] [])) h16 ?_ ?_
  · clear H h16
    intro x10 y0 H
    refine seq_in ?_
    refine seq_ops [] [] [(0, .c (.lv (dat 1 eI zI p0))), (1, cI x10.1), (5, cI x10.2), (9, cB (decide (x10.2 < (p0.length : Int))))] [] (fun t => lI p0 (t)) (by kernel_rfl) ?_
    rcases ofCond H with ⟨c12, H⟩ | ⟨c12, H⟩
    · refine ite_t c12 (by kernel_rfl) ?_
      refine ends_skip ?_
      change EndsI _ _ _ _ _ _
      refine seq_in ?_
      refine ends_blk ?_
      obtain ⟨v13, h14, H⟩ := ofBind H
      refine seq_ops [.cs (eI v13)] [] [(0, .c (.lv (dat 1 eI zI p0))), (1, cI x10.1), (5, cI x10.2)] [] (fun t => aI (at_lt h14) (aI (at_enc (enc := eI) h14) (aI (rfl : true = true) (t)))) (by kernel_rfl) ?_
      refine one_ops [] [] [(0, .c (.lv (dat 1 eI zI p0))), (1, cI (W (x10.1 + 1))), (5, cI x10.2)] [] (fun t => t) (by kernel_rfl) ?_
      change EndsI _ _ _ _ _ _
      refine one_ops [] [] [(0, .c (.lv (dat 1 eI zI p0))), (1, cI (W (x10.1 + 1))), (5, cI (W (x10.2 + 1)))] [] (fun t => t) (by kernel_rfl) ?_
      obtain rfl := Option.some.inj H
      exact And.intro rfl rfl
    · refine ite_f c12 (by kernel_rfl) ?_
      refine tell [] [(1, cI x10.1)] [] (fun t => t) (by kernel_rfl) ?_
      refine ends_exit ?_
      obtain rfl := Option.some.inj H
      exact And.intro (by simp) (And.intro rfl rfl)
  · clear h16
    intro e s q
    obtain ⟨rfl, rfl⟩ := q
    change EndsI _ _ _ _ _ _
    refine seq_ops [] [] [(4, cI y15)] [] (fun t => t) (by kernel_rfl) ?_
    refine ends_ret ?_
    obtain rfl := Option.some.inj H
    exact And.intro (.inl rfl) rfl

def l_markText_ir : S :=
 (.seq (.ops [⟨some 2, .mv (.v (.str [])), none⟩])
 (.seq (.seq (.ops [⟨some 4, .mv (.t 0), none⟩, ⟨some 5, .bin .leq (.t 4) (.v (.int .i64 0)), none⟩])
 (.ite (.t 5) (.seq (.ops [⟨some 2, .mv (.v (.str [109, 48])), none⟩])
  .ret)
 .skip))
 (.seq (.ops [⟨some 3, .mv (.v (.str [])), none⟩])
 (.seq (.blk 0 (.loop (.seq (.seq (.ops [⟨some 6, .mv (.t 0), none⟩, ⟨some 7, .bin .gtr (.t 6) (.v (.int .i64 0)), none⟩])
   (.ite (.t 7) .skip
   (.exit 0)))
   (.blk 1 (.seq (.ops [⟨some 8, .mv (.t 0), none⟩, ⟨some 9, .bin .rem (.t 8) (.v (.int .i64 10)), none⟩, ⟨some 10, .bin .add (.v (.int .i64 48)) (.t 9), none⟩, ⟨some 11, .conv .u8 (.t 10), none⟩, ⟨some 12, .bsl 1 [.t 11], none⟩, ⟨some 13, .b2s (.t 12), none⟩, ⟨some 14, .mv (.t 3), none⟩, ⟨some 15, .bin .add (.t 13) (.t 14), none⟩, ⟨some 3, .mv (.t 15), none⟩])
    (.ops [⟨some 16, .mv (.t 0), none⟩, ⟨some 17, .bin .quo (.t 16) (.v (.int .i64 10)), none⟩, ⟨some 0, .mv (.t 17), none⟩]))))))
 (.seq (.ops [⟨some 18, .mv (.t 3), none⟩, ⟨some 19, .bin .add (.v (.str [109])) (.t 18), none⟩, ⟨some 2, .mv (.t 19), none⟩])
 .ret)))))
noncomputable def X.l_markText (p0 : Int) : Option (List UInt8) :=
  (bif (decide (p0 ≤ 0)) then some [109, 48] else ((loop (fun (x12 : (Int × (List UInt8))) => ((bif (decide (x12.1 > 0)) then (if ([(IntKind.u8.wrap (W (48 + (Int.tmod x12.1 10))))] : List Int).all inU8 = true then (if (bytesOf ([(IntKind.u8.wrap (W (48 + (Int.tmod x12.1 10))))] : List Int)).length + x12.2.length ≤ maxLen then some (Sum.inl ((W (Int.tdiv x12.1 10)), ((bytesOf ([(IntKind.u8.wrap (W (48 + (Int.tmod x12.1 10))))] : List Int)) ++ x12.2))) else none) else none) else some (Sum.inr x12.2)) : Option ((Int × (List UInt8)) ⊕ (List UInt8)))) (p0, [])).bind fun y17 => (if ([109] : List UInt8).length + y17.length ≤ maxLen then some (([109] : List UInt8) ++ y17) else none)))
theorem l_markText_ok (p0 : Int) (r : (List UInt8)) (H : X.l_markText p0 = some r) : FnOk Tryd.prog gl 77 [cI p0] (.c (.str r)) := by
  unfold X.l_markText at H
  refine fn_in (fn := Tryd.f77) (ir := l_markText_ir) (s1 := lit [(2, .c (.str r))] []) glL Tryd.func77 (by kernel_rfl) (by kernel_rfl) (by kernel_rfl) (by kernel_rfl) (by kernel_rfl) ?_
  refine seq_ops [] [] [(0, cI p0)] [] (fun t => t) (by kernel_rfl) ?_
  refine seq_in ?_
  refine seq_ops [] [] [(0, cI p0), (5, cB (decide (p0 ≤ 0)))] [] (fun t => t) (by kernel_rfl) ?_
  rcases ofCond H with ⟨c2, H⟩ | ⟨c2, H⟩
  · refine ite_t c2 (by kernel_rfl) ?_
    refine seq_ops [] [] [(2, .c (.str [109, 48]))] [] (fun t => t) (by kernel_rfl) ?_
    refine ends_ret ?_
    obtain rfl := Option.some.inj H
    exact And.intro (.inl rfl) rfl
  · refine ite_f c2 (by kernel_rfl) ?_
    refine ends_skip ?_
    change EndsI _ _ _ _ _ _
    refine seq_ops [] [] [(0, cI p0), (3, .c (.str []))] [] (fun t => t) (by kernel_rfl) ?_
    refine seq_in ?_
    refine ends_blk ?_
    obtain ⟨y17, h18, H⟩ := ofBind H
    refine loop_in (fun (x : (Int × (List UInt8))) => lit [(0, cI x.1), (3, .c (.str x.2))] []) (fun (z : (List UInt8)) => At (.exit 0) (lit [(3, .c (.str z))] [])) h18 ?_ ?_
    · clear H h18
      intro x12 y0 H
      refine seq_in ?_
      refine seq_ops [] [] [(0, cI x12.1), (3, .c (.str x12.2)), (7, cB (decide (x12.1 > 0)))] [] (fun t => t) (by kernel_rfl) ?_
      rcases ofCond H with ⟨c14, H⟩ | ⟨c14, H⟩
      · refine ite_t c14 (by kernel_rfl) ?_
        refine ends_skip ?_
        change EndsI _ _ _ _ _ _
        refine ends_blk ?_
        obtain ⟨g15, H⟩ := ofIf H
        obtain ⟨g16, H⟩ := ofIf H
        refine seq_ops [.fn ([(IntKind.u8.wrap (W (48 + (Int.tmod x12.1 10))))] : List Int).length (fF eU zI ([(IntKind.u8.wrap (W (48 + (Int.tmod x12.1 10))))] : List Int)), .str (bytesOf ([(IntKind.u8.wrap (W (48 + (Int.tmod x12.1 10))))] : List Int))] [] [(0, cI x12.1), (3, .c (.str ((bytesOf ([(IntKind.u8.wrap (W (48 + (Int.tmod x12.1 10))))] : List Int)) ++ x12.2)))] [] (fun t => aI (by decide : (10 : Int) ≠ 0) (aI (rfl : ([(IntKind.u8.wrap (W (48 + (Int.tmod x12.1 10))))] : List Int).length = 1) (aI (fF_lit eU zI ([(IntKind.u8.wrap (W (48 + (Int.tmod x12.1 10))))] : List Int)) (aI (Nat.le_refl (([(IntKind.u8.wrap (W (48 + (Int.tmod x12.1 10))))] : List Int).length)) (aI (bytesOf_len ([(IntKind.u8.wrap (W (48 + (Int.tmod x12.1 10))))] : List Int)) (aI (bytesOf_at ([(IntKind.u8.wrap (W (48 + (Int.tmod x12.1 10))))] : List Int) g15) (aI g16 (t)))))))) (by kernel_rfl) ?_
        refine one_ops [] [] [(0, cI (W (Int.tdiv x12.1 10))), (3, .c (.str ((bytesOf ([(IntKind.u8.wrap (W (48 + (Int.tmod x12.1 10))))] : List Int)) ++ x12.2)))] [] (fun t => aI (by decide : (10 : Int) ≠ 0) (t)) (by kernel_rfl) ?_
        obtain rfl := Option.some.inj H
        exact And.intro rfl rfl
      · refine ite_f c14 (by kernel_rfl) ?_
        refine tell [] [(3, .c (.str x12.2))] [] (fun t => t) (by kernel_rfl) ?_
        refine ends_exit ?_
        obtain rfl := Option.some.inj H
        exact And.intro (by simp) (And.intro rfl rfl)
    · clear h18
      intro e s q
      obtain ⟨rfl, rfl⟩ := q
      change EndsI _ _ _ _ _ _
      obtain ⟨g19, H⟩ := ofIf H
      refine seq_ops [] [] [(2, .c (.str (([109] : List UInt8) ++ y17)))] [] (fun t => aI g19 (t)) (by kernel_rfl) ?_
      refine ends_ret ?_
      obtain rfl := Option.some.inj H
      exact And.intro (.inl rfl) rfl

def l_markTerrainS_ir : S :=
 (.seq (.ops [⟨some 4, .mv (.v (.int .i64 0)), none⟩])
 (.seq (.seq (.ops [⟨some 5, .mv (.v (.int .i64 0)), none⟩])
 (.blk 0 (.loop (.seq (.seq (.ops [⟨some 6, .mv (.t 5), none⟩, ⟨some 7, .mv (.t 0), none⟩, ⟨some 8, .len (.t 7), none⟩, ⟨some 9, .bin .lss (.t 6) (.t 8), none⟩])
   (.ite (.t 9) .skip
   (.exit 0)))
   (.seq (.blk 1 (.seq (.ops [⟨some 12, .mv (.t 0), none⟩, ⟨some 13, .mv (.t 5), none⟩, ⟨some 14, .mv (.t 1), none⟩, ⟨some 15, .call 77 [.t 14], none⟩, ⟨some 16, .iad 5 (.t 12) (.t 13), none⟩, ⟨some 17, .fad 0 (.t 16), none⟩, ⟨none, .store 1 (.t 17) (.t 15), none⟩])
    (.seq (.ops [⟨some 18, .mv (.t 1), none⟩, ⟨some 19, .bin .add (.t 18) (.v (.int .i64 1)), none⟩, ⟨some 1, .mv (.t 19), none⟩])
    (.seq (.ops [⟨some 20, .mv (.t 0), none⟩, ⟨some 21, .mv (.t 5), none⟩, ⟨some 22, .iad 5 (.t 20) (.t 21), none⟩, ⟨some 23, .fad 1 (.t 22), none⟩, ⟨some 24, .load 1 false (.t 23), none⟩, ⟨some 25, .mv (.t 1), none⟩, ⟨some 26, .call 17 [.t 24, .t 25], none⟩, ⟨some 1, .mv (.t 26), none⟩])
    (.seq (.ops [⟨some 27, .mv (.t 0), none⟩, ⟨some 28, .mv (.t 5), none⟩, ⟨some 29, .mv (.t 1), none⟩, ⟨some 30, .iad 5 (.t 27) (.t 28), none⟩, ⟨some 31, .fad 2 (.t 30), none⟩, ⟨none, .store 1 (.t 31) (.t 29), none⟩])
    (.seq (.ops [⟨some 32, .mv (.t 1), none⟩, ⟨some 33, .bin .add (.t 32) (.v (.int .i64 1)), none⟩, ⟨some 1, .mv (.t 33), none⟩])
    (.seq (.ops [⟨some 34, .mv (.t 0), none⟩, ⟨some 35, .mv (.t 5), none⟩, ⟨some 36, .mv (.t 1), none⟩, ⟨some 37, .iad 5 (.t 34) (.t 35), none⟩, ⟨some 38, .fad 3 (.t 37), none⟩, ⟨none, .store 1 (.t 38) (.t 36), none⟩])
    (.seq (.ops [⟨some 39, .mv (.t 1), none⟩, ⟨some 40, .bin .add (.t 39) (.v (.int .i64 1)), none⟩, ⟨some 1, .mv (.t 40), none⟩])
    (.seq (.ops [⟨some 41, .mv (.t 0), none⟩, ⟨some 42, .mv (.t 5), none⟩, ⟨some 43, .mv (.t 1), none⟩, ⟨some 44, .bin .rem (.t 43) (.v (.int .i64 3)), none⟩, ⟨some 45, .bin .eql (.t 44) (.v (.int .i64 0)), none⟩, ⟨some 46, .iad 5 (.t 41) (.t 42), none⟩, ⟨some 47, .fad 4 (.t 46), none⟩, ⟨none, .store 1 (.t 47) (.t 45), none⟩])
    (.ops [⟨some 48, .mv (.t 1), none⟩, ⟨some 49, .bin .add (.t 48) (.v (.int .i64 1)), none⟩, ⟨some 1, .mv (.t 49), none⟩]))))))))))
   (.ops [⟨some 10, .mv (.t 5), none⟩, ⟨some 11, .bin .add (.t 10) (.v (.int .i64 1)), none⟩, ⟨some 5, .mv (.t 11), none⟩]))))))
 (.seq (.ops [⟨some 50, .mv (.t 1), none⟩, ⟨some 4, .mv (.t 50), none⟩])
 .ret)))
noncomputable def X.l_markTerrainS_L (p0 : (List TTerrain)) (p1 : Int) : Option Int :=
  ((loop (fun (x18 : (Int × Int)) => ((bif (decide (x18.2 < (p0.length : Int))) then ((X.l_markText x18.1).bind fun v21 => ((at' zTTerrain p0 x18.2).bind fun v23 => ((X.l_markIntS_L v23.Cost (W (x18.1 + 1))).bind fun v25 => some (Sum.inl ((W ((W ((W (v25 + 1)) + 1)) + 1)), (W (x18.2 + 1))))))) else some (Sum.inr x18.1)) : Option ((Int × Int) ⊕ Int))) (p1, 0)).bind fun y27 => some y27)
theorem l_markTerrainS_L_ok (p0 : (List TTerrain)) (p1 : Int) (r : Int) (H : X.l_markTerrainS_L p0 p1 = some r) : FnOk Tryd.prog gl 58 [.c (.lv (dat 5 eTTerrain zTTerrain p0)), cI p1] (cI r) := by
  unfold X.l_markTerrainS_L at H
  refine fn_in (fn := Tryd.f58) (ir := l_markTerrainS_ir) (s1 := lit [(4, cI r)] []) glL Tryd.func58 (by kernel_rfl) (by kernel_rfl) (by kernel_rfl) (by kernel_rfl) (by kernel_rfl) ?_
  refine seq_ops [] [] [(0, .c (.lv (dat 5 eTTerrain zTTerrain p0))), (1, cI p1)] [] (fun t => t) (by kernel_rfl) ?_
  refine seq_in ?_
  refine seq_ops [] [] [(0, .c (.lv (dat 5 eTTerrain zTTerrain p0))), (1, cI p1), (5, cI 0)] [] (fun t => t) (by kernel_rfl) ?_
  refine ends_blk ?_
  obtain ⟨y27, h28, H⟩ := ofBind H
  refine loop_in (fun (x : (Int × Int)) => lit [(0, .c (.lv (dat 5 eTTerrain zTTerrain p0))), (1, cI x.1), (5, cI x.2)] []) (fun (z : Int) => At (.exit 0) (lit [(1, cI z)] [])) h28 ?_ ?_
  · clear H h28
    intro x18 y0 H
    refine seq_in ?_
    refine seq_ops [] [] [(0, .c (.lv (dat 5 eTTerrain zTTerrain p0))), (1, cI x18.1), (5, cI x18.2), (9, cB (decide (x18.2 < (p0.length : Int))))] [] (fun t => lI p0 (t)) (by kernel_rfl) ?_
    rcases ofCond H with ⟨c20, H⟩ | ⟨c20, H⟩
    · refine ite_t c20 (by kernel_rfl) ?_
      refine ends_skip ?_
      change EndsI _ _ _ _ _ _
      refine seq_in ?_
      refine ends_blk ?_
      obtain ⟨v21, h22, H⟩ := ofBind H
      obtain ⟨v23, h24, H⟩ := ofBind H
      refine seq_ops [.res (.c (.str v21)), .cs (eTTerrain v23)] [] [(0, .c (.lv (dat 5 eTTerrain zTTerrain p0))), (1, cI x18.1), (5, cI x18.2)] [] (fun t => aI (l_markText_ok x18.1 v21 h22) (aI (at_lt h24) (aI (at_enc (enc := eTTerrain) h24) (aI (rfl : true = true) (t))))) (by kernel_rfl) ?_
      refine seq_ops [] [] [(0, .c (.lv (dat 5 eTTerrain zTTerrain p0))), (1, cI (W (x18.1 + 1))), (5, cI x18.2)] [] (fun t => t) (by kernel_rfl) ?_
      obtain ⟨v25, h26, H⟩ := ofBind H
      refine seq_ops [.cs (eTTerrain v23), .res (cI v25)] [] [(0, .c (.lv (dat 5 eTTerrain zTTerrain p0))), (1, cI v25), (5, cI x18.2)] [] (fun t => aI (at_lt h24) (aI (at_enc (enc := eTTerrain) h24) (aI (l_markIntS_L_ok v23.Cost (W (x18.1 + 1)) v25 h26) (t)))) (by kernel_rfl) ?_
      refine seq_ops [.cs (eTTerrain v23)] [] [(0, .c (.lv (dat 5 eTTerrain zTTerrain p0))), (1, cI v25), (5, cI x18.2)] [] (fun t => aI (at_lt h24) (aI (at_enc (enc := eTTerrain) h24) (aI (rfl : true = true) (t)))) (by kernel_rfl) ?_
      refine seq_ops [] [] [(0, .c (.lv (dat 5 eTTerrain zTTerrain p0))), (1, cI (W (v25 + 1))), (5, cI x18.2)] [] (fun t => t) (by kernel_rfl) ?_
      refine seq_ops [.cs (eTTerrain v23)] [] [(0, .c (.lv (dat 5 eTTerrain zTTerrain p0))), (1, cI (W (v25 + 1))), (5, cI x18.2)] [] (fun t => aI (at_lt h24) (aI (at_enc (enc := eTTerrain) h24) (aI (rfl : true = true) (t)))) (by kernel_rfl) ?_
      refine seq_ops [] [] [(0, .c (.lv (dat 5 eTTerrain zTTerrain p0))), (1, cI (W ((W (v25 + 1)) + 1))), (5, cI x18.2)] [] (fun t => t) (by kernel_rfl) ?_
      refine seq_ops [.cs (eTTerrain v23)] [] [(0, .c (.lv (dat 5 eTTerrain zTTerrain p0))), (1, cI (W ((W (v25 + 1)) + 1))), (5, cI x18.2)] [] (fun t => aI (by decide : (3 : Int) ≠ 0) (aI (at_lt h24) (aI (at_enc (enc := eTTerrain) h24) (aI (rfl : true = true) (t))))) (by kernel_rfl) ?_
      refine one_ops [] [] [(0, .c (.lv (dat 5 eTTerrain zTTerrain p0))), (1, cI (W ((W ((W (v25 + 1)) + 1)) + 1))), (5, cI x18.2)] [] (fun t => t) (by kernel_rfl) ?_
      change EndsI _ _ _ _ _ _
      refine one_ops [] [] [(0, .c (.lv (dat 5 eTTerrain zTTerrain p0))), (1, cI (W ((W ((W (v25 + 1)) + 1)) + 1))), (5, cI (W (x18.2 + 1)))] [] (fun t => t) (by kernel_rfl) ?_
      obtain rfl := Option.some.inj H
      exact And.intro rfl rfl
    · refine ite_f c20 (by kernel_rfl) ?_
      refine tell [] [(1, cI x18.1)] [] (fun t => t) (by kernel_rfl) ?_
      refine ends_exit ?_
      obtain rfl := Option.some.inj H
      exact And.intro (by simp) (And.intro rfl rfl)
  · clear h28
    intro e s q
    obtain ⟨rfl, rfl⟩ := q
    change EndsI _ _ _ _ _ _
    refine seq_ops [] [] [(4, cI y27)] [] (fun t => t) (by kernel_rfl) ?_
    refine ends_ret ?_
    obtain rfl := Option.some.inj H
    exact And.intro (.inl rfl) rfl

def l_markKindS_ir : S :=
 (.seq (.ops [⟨some 4, .mv (.v (.int .i64 0)), none⟩])
 (.seq (.seq (.ops [⟨some 5, .mv (.v (.int .i64 0)), none⟩])
 (.blk 0 (.loop (.seq (.seq (.ops [⟨some 6, .mv (.t 5), none⟩, ⟨some 7, .mv (.t 0), none⟩, ⟨some 8, .len (.t 7), none⟩, ⟨some 9, .bin .lss (.t 6) (.t 8), none⟩])
   (.ite (.t 9) .skip
   (.exit 0)))
   (.seq (.blk 1 (.seq (.ops [⟨some 12, .mv (.t 0), none⟩, ⟨some 13, .mv (.t 5), none⟩, ⟨some 14, .mv (.t 1), none⟩, ⟨some 15, .call 77 [.t 14], none⟩, ⟨some 16, .iad 6 (.t 12) (.t 13), none⟩, ⟨some 17, .fad 0 (.t 16), none⟩, ⟨none, .store 1 (.t 17) (.t 15), none⟩])
    (.seq (.ops [⟨some 18, .mv (.t 1), none⟩, ⟨some 19, .bin .add (.t 18) (.v (.int .i64 1)), none⟩, ⟨some 1, .mv (.t 19), none⟩])
    (.seq (.ops [⟨some 20, .mv (.t 0), none⟩, ⟨some 21, .mv (.t 5), none⟩, ⟨some 22, .mv (.t 1), none⟩, ⟨some 23, .iad 6 (.t 20) (.t 21), none⟩, ⟨some 24, .fad 1 (.t 23), none⟩, ⟨none, .store 1 (.t 24) (.t 22), none⟩])
    (.seq (.ops [⟨some 25, .mv (.t 1), none⟩, ⟨some 26, .bin .add (.t 25) (.v (.int .i64 1)), none⟩, ⟨some 1, .mv (.t 26), none⟩])
    (.seq (.ops [⟨some 27, .mv (.t 0), none⟩, ⟨some 28, .mv (.t 5), none⟩, ⟨some 29, .mv (.t 1), none⟩, ⟨some 30, .iad 6 (.t 27) (.t 28), none⟩, ⟨some 31, .fad 2 (.t 30), none⟩, ⟨none, .store 1 (.t 31) (.t 29), none⟩])
    (.seq (.ops [⟨some 32, .mv (.t 1), none⟩, ⟨some 33, .bin .add (.t 32) (.v (.int .i64 1)), none⟩, ⟨some 1, .mv (.t 33), none⟩])
    (.seq (.ops [⟨some 34, .mv (.t 0), none⟩, ⟨some 35, .mv (.t 5), none⟩, ⟨some 36, .mv (.t 1), none⟩, ⟨some 37, .iad 6 (.t 34) (.t 35), none⟩, ⟨some 38, .fad 3 (.t 37), none⟩, ⟨none, .store 1 (.t 38) (.t 36), none⟩])
    (.seq (.ops [⟨some 39, .mv (.t 1), none⟩, ⟨some 40, .bin .add (.t 39) (.v (.int .i64 1)), none⟩, ⟨some 1, .mv (.t 40), none⟩])
    (.seq (.ops [⟨some 41, .mv (.t 0), none⟩, ⟨some 42, .mv (.t 5), none⟩, ⟨some 43, .mv (.t 1), none⟩, ⟨some 44, .bin .rem (.t 43) (.v (.int .i64 3)), none⟩, ⟨some 45, .bin .eql (.t 44) (.v (.int .i64 0)), none⟩, ⟨some 46, .iad 6 (.t 41) (.t 42), none⟩, ⟨some 47, .fad 4 (.t 46), none⟩, ⟨none, .store 1 (.t 47) (.t 45), none⟩])
    (.seq (.ops [⟨some 48, .mv (.t 1), none⟩, ⟨some 49, .bin .add (.t 48) (.v (.int .i64 1)), none⟩, ⟨some 1, .mv (.t 49), none⟩])
    (.seq (.ops [⟨some 50, .mv (.t 0), none⟩, ⟨some 51, .mv (.t 5), none⟩, ⟨some 52, .mv (.t 1), none⟩, ⟨some 53, .iad 6 (.t 50) (.t 51), none⟩, ⟨some 54, .fad 5 (.t 53), none⟩, ⟨none, .store 1 (.t 54) (.t 52), none⟩])
    (.ops [⟨some 55, .mv (.t 1), none⟩, ⟨some 56, .bin .add (.t 55) (.v (.int .i64 1)), none⟩, ⟨some 1, .mv (.t 56), none⟩])))))))))))))
   (.ops [⟨some 10, .mv (.t 5), none⟩, ⟨some 11, .bin .add (.t 10) (.v (.int .i64 1)), none⟩, ⟨some 5, .mv (.t 11), none⟩]))))))
 (.seq (.ops [⟨some 57, .mv (.t 1), none⟩, ⟨some 4, .mv (.t 57), none⟩])
 .ret)))
noncomputable def X.l_markKindS_L (p0 : (List TKind)) (p1 : Int) : Option Int :=
  ((loop (fun (x14 : (Int × Int)) => ((bif (decide (x14.2 < (p0.length : Int))) then ((X.l_markText x14.1).bind fun v17 => ((at' zTKind p0 x14.2).bind fun v19 => some (Sum.inl ((W ((W ((W ((W ((W ((W (x14.1 + 1)) + 1)) + 1)) + 1)) + 1)) + 1)), (W (x14.2 + 1)))))) else some (Sum.inr x14.1)) : Option ((Int × Int) ⊕ Int))) (p1, 0)).bind fun y21 => some y21)
theorem l_markKindS_L_ok (p0 : (List TKind)) (p1 : Int) (r : Int) (H : X.l_markKindS_L p0 p1 = some r) : FnOk Tryd.prog gl 59 [.c (.lv (dat 6 eTKind zTKind p0)), cI p1] (cI r) := by
  unfold X.l_markKindS_L at H
  refine fn_in (fn := Tryd.f59) (ir := l_markKindS_ir) (s1 := lit [(4, cI r)] []) glL Tryd.func59 (by kernel_rfl) (by kernel_rfl) (by kernel_rfl) (by kernel_rfl) (by kernel_rfl) ?_
  refine seq_ops [] [] [(0, .c (.lv (dat 6 eTKind zTKind p0))), (1, cI p1)] [] (fun t => t) (by kernel_rfl) ?_
  refine seq_in ?_
  refine seq_ops [] [] [(0, .c (.lv (dat 6 eTKind zTKind p0))), (1, cI p1), (5, cI 0)] [] (fun t => t) (by kernel_rfl) ?_
  refine ends_blk ?_
  obtain ⟨y21, h22, H⟩ := ofBind H
  refine loop_in (fun (x : (Int × Int)) => lit [(0, .c (.lv (dat 6 eTKind zTKind p0))), (1, cI x.1), (5, cI x.2)] []) (fun (z : Int) => At (.exit 0) (lit [(1, cI z)] [])) h22 ?_ ?_
  · clear H h22
    intro x14 y0 H
    refine seq_in ?_
    refine seq_ops [] [] [(0, .c (.lv (dat 6 eTKind zTKind p0))), (1, cI x14.1), (5, cI x14.2), (9, cB (decide (x14.2 < (p0.length : Int))))] [] (fun t => lI p0 (t)) (by kernel_rfl) ?_
    rcases ofCond H with ⟨c16, H⟩ | ⟨c16, H⟩
    · refine ite_t c16 (by kernel_rfl) ?_
      refine ends_skip ?_
      change EndsI _ _ _ _ _ _
      refine seq_in ?_
      refine ends_blk ?_
      obtain ⟨v17, h18, H⟩ := ofBind H
      obtain ⟨v19, h20, H⟩ := ofBind H
      refine seq_ops [.res (.c (.str v17)), .cs (eTKind v19)] [] [(0, .c (.lv (dat 6 eTKind zTKind p0))), (1, cI x14.1), (5, cI x14.2)] [] (fun t => aI (l_markText_ok x14.1 v17 h18) (aI (at_lt h20) (aI (at_enc (enc := eTKind) h20) (aI (rfl : true = true) (t))))) (by kernel_rfl) ?_
      refine seq_ops [] [] [(0, .c (.lv (dat 6 eTKind zTKind p0))), (1, cI (W (x14.1 + 1))), (5, cI x14.2)] [] (fun t => t) (by kernel_rfl) ?_
      refine seq_ops [.cs (eTKind v19)] [] [(0, .c (.lv (dat 6 eTKind zTKind p0))), (1, cI (W (x14.1 + 1))), (5, cI x14.2)] [] (fun t => aI (at_lt h20) (aI (at_enc (enc := eTKind) h20) (aI (rfl : true = true) (t)))) (by kernel_rfl) ?_
      refine seq_ops [] [] [(0, .c (.lv (dat 6 eTKind zTKind p0))), (1, cI (W ((W (x14.1 + 1)) + 1))), (5, cI x14.2)] [] (fun t => t) (by kernel_rfl) ?_
      refine seq_ops [.cs (eTKind v19)] [] [(0, .c (.lv (dat 6 eTKind zTKind p0))), (1, cI (W ((W (x14.1 + 1)) + 1))), (5, cI x14.2)] [] (fun t => aI (at_lt h20) (aI (at_enc (enc := eTKind) h20) (aI (rfl : true = true) (t)))) (by kernel_rfl) ?_
      refine seq_ops [] [] [(0, .c (.lv (dat 6 eTKind zTKind p0))), (1, cI (W ((W ((W (x14.1 + 1)) + 1)) + 1))), (5, cI x14.2)] [] (fun t => t) (by kernel_rfl) ?_
      refine seq_ops [.cs (eTKind v19)] [] [(0, .c (.lv (dat 6 eTKind zTKind p0))), (1, cI (W ((W ((W (x14.1 + 1)) + 1)) + 1))), (5, cI x14.2)] [] (fun t => aI (at_lt h20) (aI (at_enc (enc := eTKind) h20) (aI (rfl : true = true) (t)))) (by kernel_rfl) ?_
      refine seq_ops [] [] [(0, .c (.lv (dat 6 eTKind zTKind p0))), (1, cI (W ((W ((W ((W (x14.1 + 1)) + 1)) + 1)) + 1))), (5, cI x14.2)] [] (fun t => t) (by kernel_rfl) ?_
      refine seq_ops [.cs (eTKind v19)] [] [(0, .c (.lv (dat 6 eTKind zTKind p0))), (1, cI (W ((W ((W ((W (x14.1 + 1)) + 1)) + 1)) + 1))), (5, cI x14.2)] [] (fun t => aI (by decide : (3 : Int) ≠ 0) (aI (at_lt h20) (aI (at_enc (enc := eTKind) h20) (aI (rfl : true = true) (t))))) (by kernel_rfl) ?_
      refine seq_ops [] [] [(0, .c (.lv (dat 6 eTKind zTKind p0))), (1, cI (W ((W ((W ((W ((W (x14.1 + 1)) + 1)) + 1)) + 1)) + 1))), (5, cI x14.2)] [] (fun t => t) (by kernel_rfl) ?_
      refine seq_ops [.cs (eTKind v19)] [] [(0, .c (.lv (dat 6 eTKind zTKind p0))), (1, cI (W ((W ((W ((W ((W (x14.1 + 1)) + 1)) + 1)) + 1)) + 1))), (5, cI x14.2)] [] (fun t => aI (at_lt h20) (aI (at_enc (enc := eTKind) h20) (aI (rfl : true = true) (t)))) (by kernel_rfl) ?_
      refine one_ops [] [] [(0, .c (.lv (dat 6 eTKind zTKind p0))), (1, cI (W ((W ((W ((W ((W ((W (x14.1 + 1)) + 1)) + 1)) + 1)) + 1)) + 1))), (5, cI x14.2)] [] (fun t => t) (by kernel_rfl) ?_
      change EndsI _ _ _ _ _ _
      refine one_ops [] [] [(0, .c (.lv (dat 6 eTKind zTKind p0))), (1, cI (W ((W ((W ((W ((W ((W (x14.1 + 1)) + 1)) + 1)) + 1)) + 1)) + 1))), (5, cI (W (x14.2 + 1)))] [] (fun t => t) (by kernel_rfl) ?_
      obtain rfl := Option.some.inj H
      exact And.intro rfl rfl
    · refine ite_f c16 (by kernel_rfl) ?_
      refine tell [] [(1, cI x14.1)] [] (fun t => t) (by kernel_rfl) ?_
      refine ends_exit ?_
      obtain rfl := Option.some.inj H
      exact And.intro (by simp) (And.intro rfl rfl)
  · clear h22
    intro e s q
    obtain ⟨rfl, rfl⟩ := q
    change EndsI _ _ _ _ _ _
    refine seq_ops [] [] [(4, cI y21)] [] (fun t => t) (by kernel_rfl) ?_
    refine ends_ret ?_
    obtain rfl := Option.some.inj H
    exact And.intro (.inl rfl) rfl

def l_markRules_ir : S :=
 (.seq (.ops [⟨some 2, .box 7 (.t 0), none⟩, ⟨some 4, .mv (.v (.int .i64 0)), none⟩])
 (.seq (.ops [⟨some 5, .fad 0 (.t 2), none⟩, ⟨some 6, .load 1 false (.t 5), none⟩, ⟨some 7, .mv (.t 1), none⟩, ⟨some 8, .call 58 [.t 6, .t 7], none⟩, ⟨some 1, .mv (.t 8), none⟩])
 (.seq (.ops [⟨some 9, .fad 1 (.t 2), none⟩, ⟨some 10, .load 1 false (.t 9), none⟩, ⟨some 11, .mv (.t 1), none⟩, ⟨some 12, .call 59 [.t 10, .t 11], none⟩, ⟨some 1, .mv (.t 12), none⟩])
 (.seq (.ops [⟨some 13, .mv (.t 1), none⟩, ⟨some 4, .mv (.t 13), none⟩])
 .ret))))
noncomputable def X.l_markRules_L (p0 : TRules) (p1 : Int) : Option Int :=
  ((X.l_markTerrainS_L p0.Terrains p1).bind fun v1 => ((X.l_markKindS_L p0.Kinds v1).bind fun v3 => some v3))
theorem l_markRules_L_ok (p0 : TRules) (p1 : Int) (r : Int) (H : X.l_markRules_L p0 p1 = some r) : FnOk Tryd.prog gl 39 [.agg [.lv (dat 5 eTTerrain zTTerrain p0.Terrains), .lv (dat 6 eTKind zTKind p0.Kinds), .int .i64 p0.Stack, .int .i64 p0.River, .int .i64 p0.Road, .int .i64 p0.Supply, .int .i64 p0.Turns], cI p1] (cI r) := by
  unfold X.l_markRules_L at H
  refine fn_in (fn := Tryd.f39) (ir := l_markRules_ir) (s1 := lit [(4, cI r)] []) glL Tryd.func39 (by kernel_rfl) (by kernel_rfl) (by kernel_rfl) (by kernel_rfl) (by kernel_rfl) ?_
  refine seq_ops [] [] [(1, cI p1), (2, .c (.pk 2 0))] [(2, .var [.lv (dat 5 eTTerrain zTTerrain p0.Terrains), .lv (dat 6 eTKind zTKind p0.Kinds), .int .i64 p0.Stack, .int .i64 p0.River, .int .i64 p0.Road, .int .i64 p0.Supply, .int .i64 p0.Turns] false)] (fun t => t) (by kernel_rfl) ?_
  obtain ⟨v1, h2, H⟩ := ofBind H
  refine seq_ops [.res (cI v1)] [] [(1, cI v1), (2, .c (.pk 2 0))] [(2, .var [.lv (dat 5 eTTerrain zTTerrain p0.Terrains), .lv (dat 6 eTKind zTKind p0.Kinds), .int .i64 p0.Stack, .int .i64 p0.River, .int .i64 p0.Road, .int .i64 p0.Supply, .int .i64 p0.Turns] false)] (fun t => aI (l_markTerrainS_L_ok p0.Terrains p1 v1 h2) (t)) (by kernel_rfl) ?_
  obtain ⟨v3, h4, H⟩ := ofBind H
  refine seq_ops [.res (cI v3)] [] [(1, cI v3)] [] (fun t => aI (l_markKindS_L_ok p0.Kinds v1 v3 h4) (t)) (by kernel_rfl) ?_
  refine seq_ops [] [] [(4, cI v3)] [] (fun t => t) (by kernel_rfl) ?_
  refine ends_ret ?_
  obtain rfl := Option.some.inj H
  exact And.intro (.inl rfl) rfl

def l_markMap_ir : S :=
 (.seq (.ops [⟨some 2, .box 5 (.t 0), none⟩, ⟨some 4, .mv (.v (.int .i64 0)), none⟩])
 (.seq (.ops [⟨some 5, .fad 2 (.t 2), none⟩, ⟨some 6, .load 1 false (.t 5), none⟩, ⟨some 7, .mv (.t 1), none⟩, ⟨some 8, .call 17 [.t 6, .t 7], none⟩, ⟨some 1, .mv (.t 8), none⟩])
 (.seq (.ops [⟨some 9, .fad 3 (.t 2), none⟩, ⟨some 10, .load 1 false (.t 9), none⟩, ⟨some 11, .mv (.t 1), none⟩, ⟨some 12, .call 17 [.t 10, .t 11], none⟩, ⟨some 1, .mv (.t 12), none⟩])
 (.seq (.ops [⟨some 13, .fad 4 (.t 2), none⟩, ⟨some 14, .load 1 false (.t 13), none⟩, ⟨some 15, .mv (.t 1), none⟩, ⟨some 16, .call 17 [.t 14, .t 15], none⟩, ⟨some 1, .mv (.t 16), none⟩])
 (.seq (.ops [⟨some 17, .mv (.t 1), none⟩, ⟨some 4, .mv (.t 17), none⟩])
 .ret)))))
noncomputable def X.l_markMap_L (p0 : TMap) (p1 : Int) : Option Int :=
  ((X.l_markIntS_L p0.Terrain p1).bind fun v1 => ((X.l_markIntS_L p0.Rivers v1).bind fun v3 => ((X.l_markIntS_L p0.Roads v3).bind fun v5 => some v5)))
theorem l_markMap_L_ok (p0 : TMap) (p1 : Int) (r : Int) (H : X.l_markMap_L p0 p1 = some r) : FnOk Tryd.prog gl 40 [.agg [.int .i64 p0.Width, .int .i64 p0.Height, .lv (dat 1 eI zI p0.Terrain), .lv (dat 1 eI zI p0.Rivers), .lv (dat 1 eI zI p0.Roads)], cI p1] (cI r) := by
  unfold X.l_markMap_L at H
  refine fn_in (fn := Tryd.f40) (ir := l_markMap_ir) (s1 := lit [(4, cI r)] []) glL Tryd.func40 (by kernel_rfl) (by kernel_rfl) (by kernel_rfl) (by kernel_rfl) (by kernel_rfl) ?_
  refine seq_ops [] [] [(1, cI p1), (2, .c (.pk 2 0))] [(2, .var [.int .i64 p0.Width, .int .i64 p0.Height, .lv (dat 1 eI zI p0.Terrain), .lv (dat 1 eI zI p0.Rivers), .lv (dat 1 eI zI p0.Roads)] false)] (fun t => t) (by kernel_rfl) ?_
  obtain ⟨v1, h2, H⟩ := ofBind H
  refine seq_ops [.res (cI v1)] [] [(1, cI v1), (2, .c (.pk 2 0))] [(2, .var [.int .i64 p0.Width, .int .i64 p0.Height, .lv (dat 1 eI zI p0.Terrain), .lv (dat 1 eI zI p0.Rivers), .lv (dat 1 eI zI p0.Roads)] false)] (fun t => aI (l_markIntS_L_ok p0.Terrain p1 v1 h2) (t)) (by kernel_rfl) ?_
  obtain ⟨v3, h4, H⟩ := ofBind H
  refine seq_ops [.res (cI v3)] [] [(1, cI v3), (2, .c (.pk 2 0))] [(2, .var [.int .i64 p0.Width, .int .i64 p0.Height, .lv (dat 1 eI zI p0.Terrain), .lv (dat 1 eI zI p0.Rivers), .lv (dat 1 eI zI p0.Roads)] false)] (fun t => aI (l_markIntS_L_ok p0.Rivers v1 v3 h4) (t)) (by kernel_rfl) ?_
  obtain ⟨v5, h6, H⟩ := ofBind H
  refine seq_ops [.res (cI v5)] [] [(1, cI v5)] [] (fun t => aI (l_markIntS_L_ok p0.Roads v3 v5 h6) (t)) (by kernel_rfl) ?_
  refine seq_ops [] [] [(4, cI v5)] [] (fun t => t) (by kernel_rfl) ?_
  refine ends_ret ?_
  obtain rfl := Option.some.inj H
  exact And.intro (.inl rfl) rfl

def l_markBoard_ir : S :=
 (.seq (.ops [⟨some 2, .box 12 (.t 0), none⟩, ⟨some 4, .mv (.v (.int .i64 0)), none⟩])
 (.seq (.ops [⟨some 5, .fad 0 (.t 2), none⟩, ⟨some 6, .load 7 true (.t 5), none⟩, ⟨some 7, .mv (.t 1), none⟩, ⟨some 8, .call 39 [.t 6, .t 7], none⟩, ⟨some 1, .mv (.t 8), none⟩])
 (.seq (.ops [⟨some 9, .fad 7 (.t 2), none⟩, ⟨some 10, .load 5 true (.t 9), none⟩, ⟨some 11, .mv (.t 1), none⟩, ⟨some 12, .call 40 [.t 10, .t 11], none⟩, ⟨some 1, .mv (.t 12), none⟩])
 (.seq (.ops [⟨some 13, .mv (.t 1), none⟩, ⟨some 4, .mv (.t 13), none⟩])
 .ret))))
noncomputable def X.l_markBoard_L (p0 : TBoard) (p1 : Int) : Option Int :=
  ((X.l_markRules_L p0.Rules p1).bind fun v1 => ((X.l_markMap_L p0.Map v1).bind fun v3 => some v3))
theorem l_markBoard_L_ok (p0 : TBoard) (p1 : Int) (r : Int) (H : X.l_markBoard_L p0 p1 = some r) : FnOk Tryd.prog gl 15 [.agg [.lv (dat 5 eTTerrain zTTerrain p0.Rules.Terrains), .lv (dat 6 eTKind zTKind p0.Rules.Kinds), .int .i64 p0.Rules.Stack, .int .i64 p0.Rules.River, .int .i64 p0.Rules.Road, .int .i64 p0.Rules.Supply, .int .i64 p0.Rules.Turns, .int .i64 p0.Map.Width, .int .i64 p0.Map.Height, .lv (dat 1 eI zI p0.Map.Terrain), .lv (dat 1 eI zI p0.Map.Rivers), .lv (dat 1 eI zI p0.Map.Roads)], cI p1] (cI r) := by
  unfold X.l_markBoard_L at H
  refine fn_in (fn := Tryd.f15) (ir := l_markBoard_ir) (s1 := lit [(4, cI r)] []) glL Tryd.func15 (by kernel_rfl) (by kernel_rfl) (by kernel_rfl) (by kernel_rfl) (by kernel_rfl) ?_
  refine seq_ops [] [] [(1, cI p1), (2, .c (.pk 2 0))] [(2, .var [.lv (dat 5 eTTerrain zTTerrain p0.Rules.Terrains), .lv (dat 6 eTKind zTKind p0.Rules.Kinds), .int .i64 p0.Rules.Stack, .int .i64 p0.Rules.River, .int .i64 p0.Rules.Road, .int .i64 p0.Rules.Supply, .int .i64 p0.Rules.Turns, .int .i64 p0.Map.Width, .int .i64 p0.Map.Height, .lv (dat 1 eI zI p0.Map.Terrain), .lv (dat 1 eI zI p0.Map.Rivers), .lv (dat 1 eI zI p0.Map.Roads)] false)] (fun t => t) (by kernel_rfl) ?_
  obtain ⟨v1, h2, H⟩ := ofBind H
  refine seq_ops [.res (cI v1)] [] [(1, cI v1), (2, .c (.pk 2 0))] [(2, .var [.lv (dat 5 eTTerrain zTTerrain p0.Rules.Terrains), .lv (dat 6 eTKind zTKind p0.Rules.Kinds), .int .i64 p0.Rules.Stack, .int .i64 p0.Rules.River, .int .i64 p0.Rules.Road, .int .i64 p0.Rules.Supply, .int .i64 p0.Rules.Turns, .int .i64 p0.Map.Width, .int .i64 p0.Map.Height, .lv (dat 1 eI zI p0.Map.Terrain), .lv (dat 1 eI zI p0.Map.Rivers), .lv (dat 1 eI zI p0.Map.Roads)] false)] (fun t => aI (l_markRules_L_ok p0.Rules p1 v1 h2) (t)) (by kernel_rfl) ?_
  obtain ⟨v3, h4, H⟩ := ofBind H
  refine seq_ops [.res (cI v3)] [] [(1, cI v3)] [] (fun t => aI (l_markMap_L_ok p0.Map v1 v3 h4) (t)) (by kernel_rfl) ?_
  refine seq_ops [] [] [(4, cI v3)] [] (fun t => t) (by kernel_rfl) ?_
  refine ends_ret ?_
  obtain rfl := Option.some.inj H
  exact And.intro (.inl rfl) rfl

def l_markMemory_ir : S :=
 (.seq (.ops [⟨some 2, .box 2 (.t 0), none⟩, ⟨some 4, .mv (.v (.int .i64 0)), none⟩])
 (.seq (.ops [⟨some 5, .fad 0 (.t 2), none⟩, ⟨some 6, .load 1 false (.t 5), none⟩, ⟨some 7, .mv (.t 1), none⟩, ⟨some 8, .call 17 [.t 6, .t 7], none⟩, ⟨some 1, .mv (.t 8), none⟩])
 (.seq (.ops [⟨some 9, .fad 1 (.t 2), none⟩, ⟨some 10, .load 1 false (.t 9), none⟩, ⟨some 11, .mv (.t 1), none⟩, ⟨some 12, .call 17 [.t 10, .t 11], none⟩, ⟨some 1, .mv (.t 12), none⟩])
 (.seq (.ops [⟨some 13, .mv (.t 1), none⟩, ⟨some 4, .mv (.t 13), none⟩])
 .ret))))
noncomputable def X.l_markMemory_L (p0 : TMemory) (p1 : Int) : Option Int :=
  ((X.l_markIntS_L p0.Turns p1).bind fun v1 => ((X.l_markIntS_L p0.Counts v1).bind fun v3 => some v3))
theorem l_markMemory_L_ok (p0 : TMemory) (p1 : Int) (r : Int) (H : X.l_markMemory_L p0 p1 = some r) : FnOk Tryd.prog gl 16 [.agg [.lv (dat 1 eI zI p0.Turns), .lv (dat 1 eI zI p0.Counts)], cI p1] (cI r) := by
  unfold X.l_markMemory_L at H
  refine fn_in (fn := Tryd.f16) (ir := l_markMemory_ir) (s1 := lit [(4, cI r)] []) glL Tryd.func16 (by kernel_rfl) (by kernel_rfl) (by kernel_rfl) (by kernel_rfl) (by kernel_rfl) ?_
  refine seq_ops [] [] [(1, cI p1), (2, .c (.pk 2 0))] [(2, .var [.lv (dat 1 eI zI p0.Turns), .lv (dat 1 eI zI p0.Counts)] false)] (fun t => t) (by kernel_rfl) ?_
  obtain ⟨v1, h2, H⟩ := ofBind H
  refine seq_ops [.res (cI v1)] [] [(1, cI v1), (2, .c (.pk 2 0))] [(2, .var [.lv (dat 1 eI zI p0.Turns), .lv (dat 1 eI zI p0.Counts)] false)] (fun t => aI (l_markIntS_L_ok p0.Turns p1 v1 h2) (t)) (by kernel_rfl) ?_
  obtain ⟨v3, h4, H⟩ := ofBind H
  refine seq_ops [.res (cI v3)] [] [(1, cI v3)] [] (fun t => aI (l_markIntS_L_ok p0.Counts v1 v3 h4) (t)) (by kernel_rfl) ?_
  refine seq_ops [] [] [(4, cI v3)] [] (fun t => t) (by kernel_rfl) ?_
  refine ends_ret ?_
  obtain rfl := Option.some.inj H
  exact And.intro (.inl rfl) rfl

noncomputable def X.l_markIntS_Mod (p0 : (List Int)) (p1 : Int) : Option (Int × (List Int)) :=
  ((loop (fun (x8 : (Int × Int × (List Int))) => ((bif (decide (x8.2.1 < (x8.2.2.length : Int))) then (if 0 ≤ x8.2.1 ∧ x8.2.1 < (x8.2.2.length : Int) then some (Sum.inl ((W (x8.1 + 1)), (W (x8.2.1 + 1)), (x8.2.2.set x8.2.1.toNat x8.1))) else none) else some (Sum.inr (x8.1, x8.2.2))) : Option ((Int × Int × (List Int)) ⊕ (Int × (List Int))))) (p1, 0, p0)).bind fun y12 => some (y12.1, y12.2))
theorem l_markIntS_Mod_ok (p0 : (List Int)) (p1 : Int) (r : (Int × (List Int))) (H : X.l_markIntS_Mod p0 p1 = some r) : FnMu Tryd.prog gl 17 [.c (.own 1000000 1 0 p0.length), cI p1] [(1000000, .arr 1 p0.length (fF eI zI p0) false)] (cI r.1) [(1000000, .arr 1 r.2.length (fF eI zI r.2) false)] := by
  unfold X.l_markIntS_Mod at H
  refine fn_mu (fn := Tryd.f17) (ir := l_markIntS_ir) (E' := [(4, cI r.1)]) (E1 := [(1000000, .arr 1 r.2.length (fF eI zI r.2) false)]) glL Tryd.func17 (by kernel_rfl) (by kernel_rfl) (by kernel_rfl) (by kernel_rfl) (by kernel_rfl) ?_
  refine seq_ops [] [] [(0, .c (.own 1000000 1 0 p0.length)), (1, cI p1)] [(1000000, .arr 1 p0.length (fF eI zI p0) false)] (fun t => t) (by kernel_rfl) ?_
  refine seq_in ?_
  refine seq_ops [] [] [(0, .c (.own 1000000 1 0 p0.length)), (1, cI p1), (5, cI 0)] [(1000000, .arr 1 p0.length (fF eI zI p0) false)] (fun t => t) (by kernel_rfl) ?_
  refine ends_blk ?_
  obtain ⟨y12, h13, H⟩ := ofBind H
  refine loop_in (fun (x : (Int × Int × (List Int))) => lit [(0, .c (.own 1000000 1 0 x.2.2.length)), (1, cI x.1), (5, cI x.2.1)] [(1000000, .arr 1 x.2.2.length (fF eI zI x.2.2) false)]) (fun (z : (Int × (List Int))) => At (.exit 0) (lit [(1, cI z.1)] [(1000000, .arr 1 z.2.length (fF eI zI z.2) false)])) h13 ?_ ?_
  · clear H h13
    intro x8 y0 H
    refine seq_in ?_
    refine seq_ops [] [] [(0, .c (.own 1000000 1 0 x8.2.2.length)), (1, cI x8.1), (5, cI x8.2.1), (9, cB (decide (x8.2.1 < (x8.2.2.length : Int))))] [(1000000, .arr 1 x8.2.2.length (fF eI zI x8.2.2) false)] (fun t => lI x8.2.2 (t)) (by kernel_rfl) ?_
    rcases ofCond H with ⟨c10, H⟩ | ⟨c10, H⟩
    · refine ite_t c10 (by kernel_rfl) ?_
      refine ends_skip ?_
      change EndsI _ _ _ _ _ _
      refine seq_in ?_
      refine ends_blk ?_
      obtain ⟨g11, H⟩ := ofIf H
      refine seq_ops [.no, .fn 0 (fF eI zI (x8.2.2.set x8.2.1.toNat x8.1))] [] [(0, .c (.own 1000000 1 0 x8.2.2.length)), (1, cI x8.1), (5, cI x8.2.1)] [(1000000, .arr 1 x8.2.2.length (fF eI zI (x8.2.2.set x8.2.1.toNat x8.1)) false)] (fun t => aI g11 (aI (rfl : true = true) (aI (nat_lt g11) (aI (by decide : 0 + 1 ≤ 1) (aI (fF_set eI zI x8.2.2 x8.2.1.toNat x8.1 (nat_lt g11) x8.2.2.length) (t)))))) (by kernel_rfl) ?_
      refine one_ops [] [] [(0, .c (.own 1000000 1 0 x8.2.2.length)), (1, cI (W (x8.1 + 1))), (5, cI x8.2.1)] [(1000000, .arr 1 x8.2.2.length (fF eI zI (x8.2.2.set x8.2.1.toNat x8.1)) false)] (fun t => t) (by kernel_rfl) ?_
      change EndsI _ _ _ _ _ _
      refine one_ops [] [.rel 0 ((x8.2.2.set x8.2.1.toNat x8.1).length), .rep 1000000 ((x8.2.2.set x8.2.1.toNat x8.1).length) (fF eI zI (x8.2.2.set x8.2.1.toNat x8.1))] [(0, .c (.own 1000000 1 0 ((x8.2.2.set x8.2.1.toNat x8.1).length))), (1, cI (W (x8.1 + 1))), (5, cI (W (x8.2.1 + 1)))] [(1000000, .arr 1 ((x8.2.2.set x8.2.1.toNat x8.1).length) (fF eI zI (x8.2.2.set x8.2.1.toNat x8.1)) false)] (fun t => aI (by simp : x8.2.2.length = (x8.2.2.set x8.2.1.toNat x8.1).length) (aI (Nat.le_of_eq (by simp : (x8.2.2.set x8.2.1.toNat x8.1).length = x8.2.2.length)) (aI (fun _ _ => rfl : ∀ i, i < (x8.2.2.set x8.2.1.toNat x8.1).length → (fF eI zI (x8.2.2.set x8.2.1.toNat x8.1)) i = (fF eI zI (x8.2.2.set x8.2.1.toNat x8.1)) i) (t)))) (by kernel_rfl) ?_
      obtain rfl := Option.some.inj H
      exact And.intro rfl rfl
    · refine ite_f c10 (by kernel_rfl) ?_
      refine tell [] [(1, cI x8.1)] [(1000000, .arr 1 x8.2.2.length (fF eI zI x8.2.2) false)] (fun t => t) (by kernel_rfl) ?_
      refine ends_exit ?_
      obtain rfl := Option.some.inj H
      exact And.intro (by simp) (And.intro rfl rfl)
  · clear h13
    intro e s q
    obtain ⟨rfl, rfl⟩ := q
    change EndsI _ _ _ _ _ _
    refine seq_ops [] [] [(4, cI y12.1)] [(1000000, .arr 1 y12.2.length (fF eI zI y12.2) false)] (fun t => t) (by kernel_rfl) ?_
    refine ends_ret ?_
    obtain rfl := Option.some.inj H
    exact And.intro (.inl rfl) rfl

def l_heldIntS_ir : S :=
 (.seq (.ops [⟨some 4, .mv (.v (.int .i64 0)), none⟩])
 (.seq (.seq (.ops [⟨some 5, .mv (.v (.int .i64 0)), none⟩])
 (.blk 0 (.loop (.seq (.seq (.ops [⟨some 6, .mv (.t 5), none⟩, ⟨some 7, .mv (.t 0), none⟩, ⟨some 8, .len (.t 7), none⟩, ⟨some 9, .bin .lss (.t 6) (.t 8), none⟩])
   (.ite (.t 9) .skip
   (.exit 0)))
   (.seq (.blk 1 (.seq (.seq (.ops [⟨some 12, .mv (.t 0), none⟩, ⟨some 13, .mv (.t 5), none⟩, ⟨some 14, .iad 1 (.t 12) (.t 13), none⟩, ⟨some 15, .load 1 false (.t 14), none⟩, ⟨some 16, .mv (.t 1), none⟩, ⟨some 17, .bin .neq (.t 15) (.t 16), none⟩])
    (.ite (.t 17) (.seq (.ops [⟨some 4, .mv (.v (.int .i64 (-1))), none⟩])
     .ret)
    .skip))
    (.ops [⟨some 18, .mv (.t 1), none⟩, ⟨some 19, .bin .add (.t 18) (.v (.int .i64 1)), none⟩, ⟨some 1, .mv (.t 19), none⟩])))
   (.ops [⟨some 10, .mv (.t 5), none⟩, ⟨some 11, .bin .add (.t 10) (.v (.int .i64 1)), none⟩, ⟨some 5, .mv (.t 11), none⟩]))))))
 (.seq (.ops [⟨some 20, .mv (.t 1), none⟩, ⟨some 4, .mv (.t 20), none⟩])
 .ret)))
noncomputable def X.l_heldIntS (p0 : (List Int)) (p1 : Int) : Option Int :=
  ((loop (fun (x12 : (Int × Int)) => ((bif (decide (x12.2 < (p0.length : Int))) then ((at' zI p0 x12.2).bind fun v15 => (bif (v15 != x12.1) then some (Sum.inr (Sum.inr (-1))) else some (Sum.inl ((W (x12.1 + 1)), (W (x12.2 + 1)))))) else some (Sum.inr (Sum.inl x12.1))) : Option ((Int × Int) ⊕ (Int ⊕ Int)))) (p1, 0)).bind fun y18 => (Sum.elim (fun (y20 : Int) => some y20) (fun (y21 : Int) => some y21) y18))
theorem l_heldIntS_ok (p0 : (List Int)) (p1 : Int) (r : Int) (H : X.l_heldIntS p0 p1 = some r) : FnOk Tryd.prog gl 18 [.c (dat 1 eI zI p0), cI p1] (cI r) := by
  unfold X.l_heldIntS at H
  refine fn_in (fn := Tryd.f18) (ir := l_heldIntS_ir) (s1 := lit [(4, cI r)] []) glL Tryd.func18 (by kernel_rfl) (by kernel_rfl) (by kernel_rfl) (by kernel_rfl) (by kernel_rfl) ?_
  refine seq_ops [] [] [(0, .c (dat 1 eI zI p0)), (1, cI p1)] [] (fun t => t) (by kernel_rfl) ?_
  refine seq_in ?_
  refine seq_ops [] [] [(0, .c (dat 1 eI zI p0)), (1, cI p1), (5, cI 0)] [] (fun t => t) (by kernel_rfl) ?_
  refine ends_blk ?_
  obtain ⟨y18, h19, H⟩ := ofBind H
  refine loop_in (fun (x : (Int × Int)) => lit [(0, .c (dat 1 eI zI p0)), (1, cI x.1), (5, cI x.2)] []) (orJ (fun (z : Int) => At (.exit 0) (lit [(1, cI z)] [])) (fun (z : Int) => At .ret (lit [(4, cI z)] []))) h19 ?_ ?_
  · clear H h19
    intro x12 y0 H
    refine seq_in ?_
    refine seq_ops [] [] [(0, .c (dat 1 eI zI p0)), (1, cI x12.1), (5, cI x12.2), (9, cB (decide (x12.2 < (p0.length : Int))))] [] (fun t => lI p0 (t)) (by kernel_rfl) ?_
    rcases ofCond H with ⟨c14, H⟩ | ⟨c14, H⟩
    · refine ite_t c14 (by kernel_rfl) ?_
      refine ends_skip ?_
      change EndsI _ _ _ _ _ _
      refine seq_in ?_
      refine ends_blk ?_
      refine seq_in ?_
      obtain ⟨v15, h16, H⟩ := ofBind H
      refine seq_ops [.cs (eI v15)] [] [(0, .c (dat 1 eI zI p0)), (1, cI x12.1), (5, cI x12.2), (17, cB (v15 != x12.1))] [] (fun t => aI (at_lt h16) (aI (at_enc (enc := eI) h16) (t))) (by kernel_rfl) ?_
      rcases ofCond H with ⟨c17, H⟩ | ⟨c17, H⟩
      · refine ite_t c17 (by kernel_rfl) ?_
        refine seq_ops [] [] [(4, cI (-1))] [] (fun t => t) (by kernel_rfl) ?_
        refine ends_ret ?_
        obtain rfl := Option.some.inj H
        exact And.intro (by simp) (And.intro rfl rfl)
      · refine ite_f c17 (by kernel_rfl) ?_
        refine ends_skip ?_
        change EndsI _ _ _ _ _ _
        refine one_ops [] [] [(0, .c (dat 1 eI zI p0)), (1, cI (W (x12.1 + 1))), (5, cI x12.2)] [] (fun t => t) (by kernel_rfl) ?_
        change EndsI _ _ _ _ _ _
        refine one_ops [] [] [(0, .c (dat 1 eI zI p0)), (1, cI (W (x12.1 + 1))), (5, cI (W (x12.2 + 1)))] [] (fun t => t) (by kernel_rfl) ?_
        obtain rfl := Option.some.inj H
        exact And.intro rfl rfl
    · refine ite_f c14 (by kernel_rfl) ?_
      refine tell [] [(1, cI x12.1)] [] (fun t => t) (by kernel_rfl) ?_
      refine ends_exit ?_
      obtain rfl := Option.some.inj H
      exact And.intro (by simp) (And.intro rfl rfl)
  · clear h19
    cases y18 with
    | inl y20 =>
      replace H := ofInl H
      intro e s q
      obtain ⟨rfl, rfl⟩ := q
      change EndsI _ _ _ _ _ _
      refine seq_ops [] [] [(4, cI y20)] [] (fun t => t) (by kernel_rfl) ?_
      refine ends_ret ?_
      obtain rfl := Option.some.inj H
      exact And.intro (.inl rfl) rfl
    | inr y21 =>
      replace H := ofInr H
      intro e s q
      obtain ⟨rfl, rfl⟩ := q
      obtain rfl := Option.some.inj H
      exact And.intro (.inl rfl) rfl

end Go.Proofs.YtociagbpecpcnaaDoor.X0
