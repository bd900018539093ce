/- What each Go function that FnExactWinnerOf reaches computes, and that it returns so; no condition. -/
import Derived.Test.YtfmeidhialmckaaGreatDoorWOWb
set_option linter.unusedVariables false
set_option linter.unusedSimpArgs false
set_option maxRecDepth 100000
namespace Go.Proofs.YtfmeidhialmckaaGreatDoor.X0
open Go Go.RowKit Go.Proofs.YtfmeidhialmckaaGreatDoor.Ab Go.Proofs

def i_IsRules_ir : S :=
 (.seq (.ops [⟨some 1, .box 7 (.t 0), none⟩, ⟨some 2, .mv (.v (.bool false)), none⟩])
 (.seq (.seq (.ops [⟨some 7, .fad 0 (.t 1), none⟩, ⟨some 8, .load 1 false (.t 7), none⟩, ⟨some 9, .len (.t 8), none⟩, ⟨some 10, .call 130 [.t 9, .v (.int .i64 1), .v (.int .i64 6)], none⟩, ⟨some 11, .not (.t 10), none⟩, ⟨some 12, .mv (.t 11), none⟩, ⟨some 13, .fad 1 (.t 1), some (12, false)⟩, ⟨some 14, .load 1 false (.t 13), some (12, false)⟩, ⟨some 15, .len (.t 14), some (12, false)⟩, ⟨some 16, .call 130 [.t 15, .v (.int .i64 1), .v (.int .i64 4)], some (12, false)⟩, ⟨some 17, .not (.t 16), some (12, false)⟩, ⟨some 18, .pick (.t 12) (.v (.bool true)) (.t 17), none⟩])
 (.ite (.t 18) (.seq (.ops [⟨some 2, .mv (.v (.bool false)), none⟩])
  .ret)
 .skip))
 (.seq (.seq (.ops [⟨some 19, .fad 0 (.t 1), none⟩, ⟨some 20, .load 1 false (.t 19), none⟩, ⟨some 21, .len (.t 20), none⟩, ⟨some 22, .mv (.v (.int .i64 0)), none⟩])
 (.blk 0 (.loop (.seq (.ops [⟨some 23, .bin .lss (.t 22) (.t 21), none⟩])
   (.seq (.ite (.t 23) .skip
   (.exit 0))
   (.seq (.blk 1 (.seq (.ops [⟨some 24, .mv (.t 22), none⟩, ⟨some 25, .iad 5 (.t 20) (.t 22), none⟩, ⟨some 26, .load 5 true (.t 25), none⟩, ⟨some 4, .alloc [.str [], .nil, .int .i64 0, .int .i64 0, .bool false], none⟩, ⟨some 3, .mv (.t 24), none⟩, ⟨none, .store 5 (.t 4) (.t 26), none⟩])
    (.seq (.ops [⟨some 27, .load 5 true (.t 4), none⟩, ⟨some 28, .fad 1 (.t 1), none⟩, ⟨some 29, .load 1 false (.t 28), none⟩, ⟨some 30, .len (.t 29), none⟩, ⟨some 31, .call 242 [.t 27, .t 30], none⟩, ⟨some 32, .not (.t 31), none⟩, ⟨some 33, .mv (.t 32), none⟩, ⟨some 34, .fad 0 (.t 1), some (33, false)⟩, ⟨some 35, .load 1 false (.t 34), some (33, false)⟩, ⟨some 36, .fad 0 (.t 4), some (33, false)⟩, ⟨some 37, .load 1 false (.t 36), some (33, false)⟩, ⟨some 38, .call 243 [.t 35, .t 37], some (33, false)⟩, ⟨some 39, .mv (.t 3), some (33, false)⟩, ⟨some 40, .bin .neq (.t 38) (.t 39), some (33, false)⟩, ⟨some 41, .pick (.t 33) (.v (.bool true)) (.t 40), none⟩])
    (.ite (.t 41) (.seq (.ops [⟨some 2, .mv (.v (.bool false)), none⟩])
     .ret)
    .skip))))
   (.ops [⟨some 42, .bin .add (.t 22) (.v (.int .i64 1)), none⟩, ⟨some 22, .mv (.t 42), none⟩])))))))
 (.seq (.seq (.ops [⟨some 43, .fad 1 (.t 1), none⟩, ⟨some 44, .load 1 false (.t 43), none⟩, ⟨some 45, .len (.t 44), none⟩, ⟨some 46, .mv (.v (.int .i64 0)), none⟩])
 (.blk 2 (.loop (.seq (.ops [⟨some 47, .bin .lss (.t 46) (.t 45), none⟩])
   (.seq (.ite (.t 47) .skip
   (.exit 2))
   (.seq (.blk 3 (.seq (.ops [⟨some 48, .mv (.t 46), none⟩, ⟨some 49, .iad 6 (.t 44) (.t 46), none⟩, ⟨some 50, .load 6 true (.t 49), none⟩, ⟨some 6, .alloc [.str [], .int .i64 0, .int .i64 0, .int .i64 0, .bool false, .int .i64 0], none⟩, ⟨some 5, .mv (.t 48), none⟩, ⟨none, .store 6 (.t 6) (.t 50), none⟩])
    (.seq (.ops [⟨some 51, .load 6 true (.t 6), none⟩, ⟨some 52, .call 244 [.t 51], none⟩, ⟨some 53, .not (.t 52), none⟩, ⟨some 54, .mv (.t 53), none⟩, ⟨some 55, .fad 1 (.t 1), some (54, false)⟩, ⟨some 56, .load 1 false (.t 55), some (54, false)⟩, ⟨some 57, .fad 0 (.t 6), some (54, false)⟩, ⟨some 58, .load 1 false (.t 57), some (54, false)⟩, ⟨some 59, .call 245 [.t 56, .t 58], some (54, false)⟩, ⟨some 60, .mv (.t 5), some (54, false)⟩, ⟨some 61, .bin .neq (.t 59) (.t 60), some (54, false)⟩, ⟨some 62, .pick (.t 54) (.v (.bool true)) (.t 61), none⟩])
    (.ite (.t 62) (.seq (.ops [⟨some 2, .mv (.v (.bool false)), none⟩])
     .ret)
    .skip))))
   (.ops [⟨some 63, .bin .add (.t 46) (.v (.int .i64 1)), none⟩, ⟨some 46, .mv (.t 63), none⟩])))))))
 (.seq (.ops [⟨some 64, .fad 2 (.t 1), none⟩, ⟨some 65, .load 1 false (.t 64), none⟩, ⟨some 66, .call 130 [.t 65, .v (.int .i64 1), .v (.int .i64 4)], none⟩, ⟨some 67, .mv (.t 66), none⟩, ⟨some 68, .fad 3 (.t 1), some (67, true)⟩, ⟨some 69, .load 1 false (.t 68), some (67, true)⟩, ⟨some 70, .call 130 [.t 69, .v (.int .i64 0), .v (.int .i64 9)], some (67, true)⟩, ⟨some 71, .pick (.t 67) (.t 70) (.v (.bool false)), none⟩, ⟨some 72, .mv (.t 71), none⟩, ⟨some 73, .fad 4 (.t 1), some (72, true)⟩, ⟨some 74, .load 1 false (.t 73), some (72, true)⟩, ⟨some 75, .call 130 [.t 74, .v (.int .i64 1), .v (.int .i64 9)], some (72, true)⟩, ⟨some 76, .pick (.t 72) (.t 75) (.v (.bool false)), none⟩, ⟨some 77, .mv (.t 76), none⟩, ⟨some 78, .fad 5 (.t 1), some (77, true)⟩, ⟨some 79, .load 1 false (.t 78), some (77, true)⟩, ⟨some 80, .call 130 [.t 79, .v (.int .i64 0), .v (.int .i64 20)], some (77, true)⟩, ⟨some 81, .pick (.t 77) (.t 80) (.v (.bool false)), none⟩, ⟨some 82, .mv (.t 81), none⟩, ⟨some 83, .fad 6 (.t 1), some (82, true)⟩, ⟨some 84, .load 1 false (.t 83), some (82, true)⟩, ⟨some 85, .call 130 [.t 84, .v (.int .i64 1), .v (.int .i64 30)], some (82, true)⟩, ⟨some 86, .pick (.t 82) (.t 85) (.v (.bool false)), none⟩, ⟨some 2, .mv (.t 86), none⟩])
 .ret)))))
noncomputable def X.i_IsRules (p0 : TRules) : Option Bool :=
  ((X.i_inRange (p0.Terrains.length : Int) 1 6).bind fun v7 => (bif (!v7) then some false else ((X.i_inRange (p0.Kinds.length : Int) 1 4).bind fun v10 => (bif (!v10) then some false else ((loop (fun (x70 : Int) => ((bif (decide (x70 < (p0.Terrains.length : Int))) then ((at' zTTerrain p0.Terrains x70).bind fun v73 => ((X.i_goodTerrain v73 (p0.Kinds.length : Int)).bind fun v75 => (bif (!v75) then some (Sum.inr (Sum.inr false)) else ((X.i_terrainIndex p0.Terrains v73.Name).bind fun v78 => (bif (v78 != x70) then some (Sum.inr (Sum.inr false)) else some (Sum.inl (W (x70 + 1)))))))) else some (Sum.inr (Sum.inl ()))) : Option (Int ⊕ (Unit ⊕ Bool)))) 0).bind fun y81 => (Sum.elim (fun (y83 : Unit) => ((loop (fun (x142 : Int) => ((bif (decide (x142 < (p0.Kinds.length : Int))) then ((at' zTKind p0.Kinds x142).bind fun v145 => ((X.i_goodKind v145).bind fun v147 => (bif (!v147) then some (Sum.inr (Sum.inr false)) else ((X.i_kindIndex p0.Kinds v145.Name).bind fun v150 => (bif (v150 != x142) then some (Sum.inr (Sum.inr false)) else some (Sum.inl (W (x142 + 1)))))))) else some (Sum.inr (Sum.inl ()))) : Option (Int ⊕ (Unit ⊕ Bool)))) 0).bind fun y153 => (Sum.elim (fun (y155 : Unit) => ((X.i_inRange p0.Stack 1 4).bind fun v157 => (bif v157 then ((X.i_inRange p0.River 0 9).bind fun v160 => (bif v160 then ((X.i_inRange p0.Road 1 9).bind fun v163 => (bif v163 then ((X.i_inRange p0.Supply 0 20).bind fun v166 => (bif v166 then ((X.i_inRange p0.Turns 1 30).bind fun v169 => some v169) else some false)) else some false)) else some false)) else some false))) (fun (y156 : Bool) => some y156) y153))) (fun (y84 : Bool) => some y84) y81))))))
theorem i_IsRules_ok (p0 : TRules) (r : Bool) (H : X.i_IsRules p0 = some r) : FnOk Tryz.prog gl 191 [.agg (eTRules p0)] (cB r) := by
  unfold X.i_IsRules at H
  refine fn_in (fn := Tryz.f191) (ir := i_IsRules_ir) (s1 := lit [(2, cB r)] []) Tryz.func191 (by kernel_rfl) (by kernel_rfl) (by kernel_rfl) (by kernel_rfl) (by kernel_rfl) ?_
  refine seq_ops [] [] [(1, .c (.pk 1 0))] [(1, .var (eTRules p0) false)] (fun t => t) (by kernel_rfl) ?_
  refine seq_in ?_
  obtain ⟨v7, h8, H⟩ := ofBind H
  rcases ofCond H with ⟨c9, H⟩ | ⟨c9, H⟩
  · refine seq_ops [.res (cB v7), .g true, .g true, .g true, .g true, .g true, .g true] [] [(1, .c (.pk 1 0)), (18, cB true)] [(1, .var (eTRules p0) false)] (fun t => lI p0.Terrains (aI (i_inRange_ok (p0.Terrains.length : Int) 1 6 v7 h8) (aI c9 (aI c9 (aI c9 (aI c9 (aI c9 (aI c9 (t))))))))) (by kernel_rfl) ?_
    refine ite_t (rfl : (true : Bool) = true) (by kernel_rfl) ?_
    refine seq_ops [] [] [(2, cB false)] [] (fun t => t) (by kernel_rfl) ?_
    refine ends_ret ?_
    obtain rfl := Option.some.inj H
    exact And.intro (.inl rfl) rfl
  · obtain ⟨v10, h11, H⟩ := ofBind H
    refine seq_ops [.res (cB v7), .g false, .g false, .g false, .g false, .res (cB v10), .g false, .g false] [] [(1, .c (.pk 1 0)), (18, cB (!v10))] [(1, .var (eTRules p0) false)] (fun t => lI p0.Terrains (aI (i_inRange_ok (p0.Terrains.length : Int) 1 6 v7 h8) (aI c9 (aI c9 (aI c9 (lI p0.Kinds (aI c9 (aI (i_inRange_ok (p0.Kinds.length : Int) 1 4 v10 h11) (aI c9 (aI c9 (t))))))))))) (by kernel_rfl) ?_
    rcases ofCond H with ⟨c12, H⟩ | ⟨c12, H⟩
    · refine ite_t c12 (by kernel_rfl) ?_
      refine seq_ops [] [] [(2, cB false)] [] (fun t => t) (by kernel_rfl) ?_
      refine ends_ret ?_
      obtain rfl := Option.some.inj H
      exact And.intro (.inl rfl) rfl
    · refine ite_f c12 (by kernel_rfl) ?_
      refine ends_skip ?_
      change EndsI _ _ _ _ _ _
      refine seq_in ?_
      refine seq_ops [] [] [(1, .c (.pk 1 0)), (20, .c (dat 5 eTTerrain zTTerrain p0.Terrains)), (21, cI (p0.Terrains.length : Int)), (22, cI 0)] [(1, .var (eTRules p0) false)] (fun t => lI p0.Terrains (t)) (by kernel_rfl) ?_
      refine ends_blk ?_
      obtain ⟨y81, h82, H⟩ := ofBind H
      refine loop_in (fun (x : Int) => lit [(1, .c (.pk 1 0)), (20, .c (dat 5 eTTerrain zTTerrain p0.Terrains)), (21, cI (p0.Terrains.length : Int)), (22, cI x)] [(1, .var (eTRules p0) false)]) (orJ (fun (z : Unit) => At (.exit 0) (lit [(1, .c (.pk 1 0))] [(1, .var (eTRules p0) false)])) (fun (z : Bool) => At .ret (lit [(2, cB z)] []))) h82 ?_ ?_
      · clear H h82
        intro x70 y0 H
        refine seq_ops [] [] [(1, .c (.pk 1 0)), (20, .c (dat 5 eTTerrain zTTerrain p0.Terrains)), (21, cI (p0.Terrains.length : Int)), (22, cI x70), (23, cB (decide (x70 < (p0.Terrains.length : Int))))] [(1, .var (eTRules p0) false)] (fun t => t) (by kernel_rfl) ?_
        refine seq_in ?_
        rcases ofCond H with ⟨c72, H⟩ | ⟨c72, H⟩
        · refine ite_t c72 (by kernel_rfl) ?_
          refine ends_skip ?_
          change EndsI _ _ _ _ _ _
          refine seq_in ?_
          refine ends_blk ?_
          obtain ⟨v73, h74, H⟩ := ofBind H
          refine seq_ops [.cs (eTTerrain v73)] [] [(1, .c (.pk 1 0)), (3, cI x70), (4, .c (.pk 4 0)), (20, .c (dat 5 eTTerrain zTTerrain p0.Terrains)), (21, cI (p0.Terrains.length : Int)), (22, cI x70)] [(1, .var (eTRules p0) false), (4, .var (eTTerrain v73) false)] (fun t => aI (at_lt h74) (aI (at_enc (enc := eTTerrain) h74) (t))) (by kernel_rfl) ?_
          obtain ⟨v75, h76, H⟩ := ofBind H
          rcases ofCond H with ⟨c77, H⟩ | ⟨c77, H⟩
          · refine seq_ops [.res (cB v75), .g true, .g true, .g true, .g true, .g true, .g true, .g true, .g true] [] [(1, .c (.pk 1 0)), (20, .c (dat 5 eTTerrain zTTerrain p0.Terrains)), (21, cI (p0.Terrains.length : Int)), (22, cI x70), (41, cB true)] [(1, .var (eTRules p0) false)] (fun t => lI p0.Kinds (aI (i_goodTerrain_ok v73 (p0.Kinds.length : Int) v75 h76) (aI c77 (aI c77 (aI c77 (aI c77 (aI c77 (aI c77 (aI c77 (aI c77 (t))))))))))) (by kernel_rfl) ?_
            refine ite_t (rfl : (true : Bool) = true) (by kernel_rfl) ?_
            refine seq_ops [] [] [(2, cB false)] [] (fun t => t) (by kernel_rfl) ?_
            refine ends_ret ?_
            obtain rfl := Option.some.inj H
            exact And.intro (by simp) (And.intro rfl rfl)
          · obtain ⟨v78, h79, H⟩ := ofBind H
            refine seq_ops [.res (cB v75), .g false, .g false, .g false, .g false, .g false, .res (cI v78), .g false, .g false, .g false] [] [(1, .c (.pk 1 0)), (20, .c (dat 5 eTTerrain zTTerrain p0.Terrains)), (21, cI (p0.Terrains.length : Int)), (22, cI x70), (41, cB (v78 != x70))] [(1, .var (eTRules p0) false)] (fun t => lI p0.Kinds (aI (i_goodTerrain_ok v73 (p0.Kinds.length : Int) v75 h76) (aI c77 (aI c77 (aI c77 (aI c77 (aI c77 (aI (i_terrainIndex_ok p0.Terrains v73.Name v78 h79) (aI c77 (aI c77 (aI c77 (t)))))))))))) (by kernel_rfl) ?_
            rcases ofCond H with ⟨c80, H⟩ | ⟨c80, H⟩
            · refine ite_t c80 (by kernel_rfl) ?_
              refine seq_ops [] [] [(2, cB false)] [] (fun t => t) (by kernel_rfl) ?_
              refine ends_ret ?_
              obtain rfl := Option.some.inj H
              exact And.intro (by simp) (And.intro rfl rfl)
            · refine ite_f c80 (by kernel_rfl) ?_
              refine ends_skip ?_
              change EndsI _ _ _ _ _ _
              refine one_ops [] [] [(1, .c (.pk 1 0)), (20, .c (dat 5 eTTerrain zTTerrain p0.Terrains)), (21, cI (p0.Terrains.length : Int)), (22, cI (W (x70 + 1)))] [(1, .var (eTRules p0) false)] (fun t => t) (by kernel_rfl) ?_
              obtain rfl := Option.some.inj H
              exact And.intro rfl rfl
        · refine ite_f c72 (by kernel_rfl) ?_
          refine tell [] [(1, .c (.pk 1 0))] [(1, .var (eTRules p0) false)] (fun t => t) (by kernel_rfl) ?_
          refine ends_exit ?_
          obtain rfl := Option.some.inj H
          exact And.intro (by simp) (And.intro rfl rfl)
      · clear h82
        cases y81 with
        | inl y83 =>
          replace H := ofInl H
          intro e s q
          obtain ⟨rfl, rfl⟩ := q
          change EndsI _ _ _ _ _ _
          refine seq_in ?_
          refine seq_ops [] [] [(1, .c (.pk 1 0)), (44, .c (dat 6 eTKind zTKind p0.Kinds)), (45, cI (p0.Kinds.length : Int)), (46, cI 0)] [(1, .var (eTRules p0) false)] (fun t => lI p0.Kinds (t)) (by kernel_rfl) ?_
          refine ends_blk ?_
          obtain ⟨y153, h154, H⟩ := ofBind H
          refine loop_in (fun (x : Int) => lit [(1, .c (.pk 1 0)), (44, .c (dat 6 eTKind zTKind p0.Kinds)), (45, cI (p0.Kinds.length : Int)), (46, cI x)] [(1, .var (eTRules p0) false)]) (orJ (fun (z : Unit) => At (.exit 2) (lit [(1, .c (.pk 1 0))] [(1, .var (eTRules p0) false)])) (fun (z : Bool) => At .ret (lit [(2, cB z)] []))) h154 ?_ ?_
          · clear H h154
            intro x142 y0 H
            refine seq_ops [] [] [(1, .c (.pk 1 0)), (44, .c (dat 6 eTKind zTKind p0.Kinds)), (45, cI (p0.Kinds.length : Int)), (46, cI x142), (47, cB (decide (x142 < (p0.Kinds.length : Int))))] [(1, .var (eTRules p0) false)] (fun t => t) (by kernel_rfl) ?_
            refine seq_in ?_
            rcases ofCond H with ⟨c144, H⟩ | ⟨c144, H⟩
            · refine ite_t c144 (by kernel_rfl) ?_
              refine ends_skip ?_
              change EndsI _ _ _ _ _ _
              refine seq_in ?_
              refine ends_blk ?_
              obtain ⟨v145, h146, H⟩ := ofBind H
              refine seq_ops [.cs (eTKind v145)] [] [(1, .c (.pk 1 0)), (5, cI x142), (6, .c (.pk 6 0)), (44, .c (dat 6 eTKind zTKind p0.Kinds)), (45, cI (p0.Kinds.length : Int)), (46, cI x142)] [(1, .var (eTRules p0) false), (6, .var (eTKind v145) false)] (fun t => aI (at_lt h146) (aI (at_enc (enc := eTKind) h146) (t))) (by kernel_rfl) ?_
              obtain ⟨v147, h148, H⟩ := ofBind H
              rcases ofCond H with ⟨c149, H⟩ | ⟨c149, H⟩
              · refine seq_ops [.res (cB v147), .g true, .g true, .g true, .g true, .g true, .g true, .g true, .g true] [] [(1, .c (.pk 1 0)), (44, .c (dat 6 eTKind zTKind p0.Kinds)), (45, cI (p0.Kinds.length : Int)), (46, cI x142), (62, cB true)] [(1, .var (eTRules p0) false)] (fun t => aI (i_goodKind_ok v145 v147 h148) (aI c149 (aI c149 (aI c149 (aI c149 (aI c149 (aI c149 (aI c149 (aI c149 (t)))))))))) (by kernel_rfl) ?_
                refine ite_t (rfl : (true : Bool) = true) (by kernel_rfl) ?_
                refine seq_ops [] [] [(2, cB false)] [] (fun t => t) (by kernel_rfl) ?_
                refine ends_ret ?_
                obtain rfl := Option.some.inj H
                exact And.intro (by simp) (And.intro rfl rfl)
              · obtain ⟨v150, h151, H⟩ := ofBind H
                refine seq_ops [.res (cB v147), .g false, .g false, .g false, .g false, .g false, .res (cI v150), .g false, .g false, .g false] [] [(1, .c (.pk 1 0)), (44, .c (dat 6 eTKind zTKind p0.Kinds)), (45, cI (p0.Kinds.length : Int)), (46, cI x142), (62, cB (v150 != x142))] [(1, .var (eTRules p0) false)] (fun t => aI (i_goodKind_ok v145 v147 h148) (aI c149 (aI c149 (aI c149 (aI c149 (aI c149 (aI (i_kindIndex_ok p0.Kinds v145.Name v150 h151) (aI c149 (aI c149 (aI c149 (t))))))))))) (by kernel_rfl) ?_
                rcases ofCond H with ⟨c152, H⟩ | ⟨c152, H⟩
                · refine ite_t c152 (by kernel_rfl) ?_
                  refine seq_ops [] [] [(2, cB false)] [] (fun t => t) (by kernel_rfl) ?_
                  refine ends_ret ?_
                  obtain rfl := Option.some.inj H
                  exact And.intro (by simp) (And.intro rfl rfl)
                · refine ite_f c152 (by kernel_rfl) ?_
                  refine ends_skip ?_
                  change EndsI _ _ _ _ _ _
                  refine one_ops [] [] [(1, .c (.pk 1 0)), (44, .c (dat 6 eTKind zTKind p0.Kinds)), (45, cI (p0.Kinds.length : Int)), (46, cI (W (x142 + 1)))] [(1, .var (eTRules p0) false)] (fun t => t) (by kernel_rfl) ?_
                  obtain rfl := Option.some.inj H
                  exact And.intro rfl rfl
            · refine ite_f c144 (by kernel_rfl) ?_
              refine tell [] [(1, .c (.pk 1 0))] [(1, .var (eTRules p0) false)] (fun t => t) (by kernel_rfl) ?_
              refine ends_exit ?_
              obtain rfl := Option.some.inj H
              exact And.intro (by simp) (And.intro rfl rfl)
          · clear h154
            cases y153 with
            | inl y155 =>
              replace H := ofInl H
              intro e s q
              obtain ⟨rfl, rfl⟩ := q
              change EndsI _ _ _ _ _ _
              obtain ⟨v157, h158, H⟩ := ofBind H
              rcases ofCond H with ⟨c159, H⟩ | ⟨c159, H⟩
              · obtain ⟨v160, h161, H⟩ := ofBind H
                rcases ofCond H with ⟨c162, H⟩ | ⟨c162, H⟩
                · obtain ⟨v163, h164, H⟩ := ofBind H
                  rcases ofCond H with ⟨c165, H⟩ | ⟨c165, H⟩
                  · obtain ⟨v166, h167, H⟩ := ofBind H
                    rcases ofCond H with ⟨c168, H⟩ | ⟨c168, H⟩
                    · obtain ⟨v169, h170, H⟩ := ofBind H
                      refine seq_ops [.res (cB v157), .g true, .g true, .g true, .res (cB v160), .g true, .g true, .g true, .g true, .res (cB v163), .g true, .g true, .g true, .g true, .res (cB v166), .g true, .g true, .g true, .g true, .res (cB v169), .g true] [] [(2, cB v169)] [] (fun t => aI (i_inRange_ok p0.Stack 1 4 v157 h158) (aI c159 (aI c159 (aI c159 (aI (i_inRange_ok p0.River 0 9 v160 h161) (aI c159 (aI c162 (aI c162 (aI c162 (aI (i_inRange_ok p0.Road 1 9 v163 h164) (aI c162 (aI c165 (aI c165 (aI c165 (aI (i_inRange_ok p0.Supply 0 20 v166 h167) (aI c165 (aI c168 (aI c168 (aI c168 (aI (i_inRange_ok p0.Turns 1 30 v169 h170) (aI c168 (t)))))))))))))))))))))) (by kernel_rfl) ?_
                      refine ends_ret ?_
                      obtain rfl := Option.some.inj H
                      exact And.intro (.inl rfl) rfl
                    · refine seq_ops [.res (cB v157), .g true, .g true, .g true, .res (cB v160), .g true, .g true, .g true, .g true, .res (cB v163), .g true, .g true, .g true, .g true, .res (cB v166), .g true, .g false, .g false, .g false, .g false] [] [(2, cB false)] [] (fun t => aI (i_inRange_ok p0.Stack 1 4 v157 h158) (aI c159 (aI c159 (aI c159 (aI (i_inRange_ok p0.River 0 9 v160 h161) (aI c159 (aI c162 (aI c162 (aI c162 (aI (i_inRange_ok p0.Road 1 9 v163 h164) (aI c162 (aI c165 (aI c165 (aI c165 (aI (i_inRange_ok p0.Supply 0 20 v166 h167) (aI c165 (aI c168 (aI c168 (aI c168 (aI c168 (t))))))))))))))))))))) (by kernel_rfl) ?_
                      refine ends_ret ?_
                      obtain rfl := Option.some.inj H
                      exact And.intro (.inl rfl) rfl
                  · refine seq_ops [.res (cB v157), .g true, .g true, .g true, .res (cB v160), .g true, .g true, .g true, .g true, .res (cB v163), .g true, .g false, .g false, .g false, .g false, .g false, .g false, .g false, .g false] [] [(2, cB false)] [] (fun t => aI (i_inRange_ok p0.Stack 1 4 v157 h158) (aI c159 (aI c159 (aI c159 (aI (i_inRange_ok p0.River 0 9 v160 h161) (aI c159 (aI c162 (aI c162 (aI c162 (aI (i_inRange_ok p0.Road 1 9 v163 h164) (aI c162 (aI c165 (aI c165 (aI c165 (aI c165 (aI (rfl : (false : Bool) = false) (aI (rfl : (false : Bool) = false) (aI (rfl : (false : Bool) = false) (aI (rfl : (false : Bool) = false) (t)))))))))))))))))))) (by kernel_rfl) ?_
                    refine ends_ret ?_
                    obtain rfl := Option.some.inj H
                    exact And.intro (.inl rfl) rfl
                · refine seq_ops [.res (cB v157), .g true, .g true, .g true, .res (cB v160), .g true, .g false, .g false, .g false, .g false, .g false, .g false, .g false, .g false, .g false, .g false, .g false, .g false] [] [(2, cB false)] [] (fun t => aI (i_inRange_ok p0.Stack 1 4 v157 h158) (aI c159 (aI c159 (aI c159 (aI (i_inRange_ok p0.River 0 9 v160 h161) (aI c159 (aI c162 (aI c162 (aI c162 (aI c162 (aI (rfl : (false : Bool) = false) (aI (rfl : (false : Bool) = false) (aI (rfl : (false : Bool) = false) (aI (rfl : (false : Bool) = false) (aI (rfl : (false : Bool) = false) (aI (rfl : (false : Bool) = false) (aI (rfl : (false : Bool) = false) (aI (rfl : (false : Bool) = false) (t))))))))))))))))))) (by kernel_rfl) ?_
                  refine ends_ret ?_
                  obtain rfl := Option.some.inj H
                  exact And.intro (.inl rfl) rfl
              · refine seq_ops [.res (cB v157), .g false, .g false, .g false, .g false, .g false, .g false, .g false, .g false, .g false, .g false, .g false, .g false, .g false, .g false, .g false, .g false] [] [(2, cB false)] [] (fun t => aI (i_inRange_ok p0.Stack 1 4 v157 h158) (aI c159 (aI c159 (aI c159 (aI c159 (aI (rfl : (false : Bool) = false) (aI (rfl : (false : Bool) = false) (aI (rfl : (false : Bool) = false) (aI (rfl : (false : Bool) = false) (aI (rfl : (false : Bool) = false) (aI (rfl : (false : Bool) = false) (aI (rfl : (false : Bool) = false) (aI (rfl : (false : Bool) = false) (aI (rfl : (false : Bool) = false) (aI (rfl : (false : Bool) = false) (aI (rfl : (false : Bool) = false) (aI (rfl : (false : Bool) = false) (t)))))))))))))))))) (by kernel_rfl) ?_
                refine ends_ret ?_
                obtain rfl := Option.some.inj H
                exact And.intro (.inl rfl) rfl
            | inr y156 =>
              replace H := ofInr H
              intro e s q
              obtain ⟨rfl, rfl⟩ := q
              obtain rfl := Option.some.inj H
              exact And.intro (.inl rfl) rfl
        | inr y84 =>
          replace H := ofInr H
          intro e s q
          obtain ⟨rfl, rfl⟩ := q
          obtain rfl := Option.some.inj H
          exact And.intro (.inl rfl) rfl

def i_increasing_ir : S :=
 (.seq (.ops [⟨some 2, .mv (.v (.bool false)), none⟩])
 (.seq (.seq (.ops [⟨some 3, .mv (.v (.int .i64 1)), none⟩])
 (.blk 0 (.loop (.seq (.seq (.ops [⟨some 4, .mv (.t 3), none⟩, ⟨some 5, .mv (.t 0), none⟩, ⟨some 6, .len (.t 5), none⟩, ⟨some 7, .bin .lss (.t 4) (.t 6), none⟩])
   (.ite (.t 7) .skip
   (.exit 0)))
   (.seq (.blk 1 (.seq (.draw 10 [⟨some 10, .mv (.t 0), none⟩, ⟨some 11, .mv (.t 3), none⟩, ⟨some 12, .bin .sub (.t 11) (.v (.int .i64 1)), none⟩, ⟨some 13, .iad 1 (.t 10) (.t 12), none⟩, ⟨some 14, .load 1 false (.t 13), none⟩, ⟨some 15, .mv (.t 0), none⟩, ⟨some 16, .mv (.t 3), none⟩, ⟨some 17, .iad 1 (.t 15) (.t 16), none⟩, ⟨some 18, .load 1 false (.t 17), none⟩, ⟨some 19, .bin .geq (.t 14) (.t 18), none⟩])
    (.ite (.t 19) (.seq (.ops [⟨some 2, .mv (.v (.bool false)), none⟩])
     .ret)
    .skip)))
   (.ops [⟨some 8, .mv (.t 3), none⟩, ⟨some 9, .bin .add (.t 8) (.v (.int .i64 1)), none⟩, ⟨some 3, .mv (.t 9), none⟩]))))))
 (.seq (.ops [⟨some 2, .mv (.v (.bool true)), none⟩])
 .ret)))
noncomputable def X.i_increasing (p0 : (List Int)) : Option Bool :=
  ((loop (fun (x16 : Int) => ((bif (decide (x16 < (p0.length : Int))) then ((at' zI p0 (W (x16 - 1))).bind fun v19 => ((at' zI p0 x16).bind fun v21 => (bif (decide (v19 ≥ v21)) then some (Sum.inr (Sum.inr false)) else some (Sum.inl (W (x16 + 1)))))) else some (Sum.inr (Sum.inl ()))) : Option (Int ⊕ (Unit ⊕ Bool)))) 1).bind fun y24 => (Sum.elim (fun (y26 : Unit) => some true) (fun (y27 : Bool) => some y27) y24))
theorem i_increasing_ok (p0 : (List Int)) (r : Bool) (H : X.i_increasing p0 = some r) : FnOk Tryz.prog gl 216 [.c (dat 1 eI zI p0)] (cB r) := by
  unfold X.i_increasing at H
  refine fn_in (fn := Tryz.f216) (ir := i_increasing_ir) (s1 := lit [(2, cB r)] []) Tryz.func216 (by kernel_rfl) (by kernel_rfl) (by kernel_rfl) (by kernel_rfl) (by kernel_rfl) ?_
  refine seq_ops [] [] [(0, .c (dat 1 eI zI p0))] [] (fun t => t) (by kernel_rfl) ?_
  refine seq_in ?_
  refine seq_ops [] [] [(0, .c (dat 1 eI zI p0)), (3, cI 1)] [] (fun t => t) (by kernel_rfl) ?_
  refine ends_blk ?_
  obtain ⟨y24, h25, H⟩ := ofBind H
  refine loop_in (fun (x : Int) => lit [(0, .c (dat 1 eI zI p0)), (3, cI x)] []) (orJ (fun (z : Unit) => At (.exit 0) (lit [] [])) (fun (z : Bool) => At .ret (lit [(2, cB z)] []))) h25 ?_ ?_
  · clear H h25
    intro x16 y0 H
    refine seq_in ?_
    refine seq_ops [] [] [(0, .c (dat 1 eI zI p0)), (3, cI x16), (7, cB (decide (x16 < (p0.length : Int))))] [] (fun t => lI p0 (t)) (by kernel_rfl) ?_
    rcases ofCond H with ⟨c18, H⟩ | ⟨c18, H⟩
    · refine ite_t c18 (by kernel_rfl) ?_
      refine ends_skip ?_
      change EndsI _ _ _ _ _ _
      refine seq_in ?_
      refine ends_blk ?_
      obtain ⟨v19, h20, H⟩ := ofBind H
      obtain ⟨v21, h22, H⟩ := ofBind H
      refine seq_draw [.cs (eI v19), .cs (eI v21)] [] [(0, .c (dat 1 eI zI p0)), (3, cI x16), (19, cB (decide (v19 ≥ v21)))] [] (fun t => aI (at_lt h20) (aI (at_enc (enc := eI) h20) (aI (rfl : ([] : List Nat) = []) (aI (at_lt h22) (aI (at_enc (enc := eI) h22) (aI (rfl : ([] : List Nat) = []) (t))))))) (by kernel_rfl) ?_
      rcases ofCond H with ⟨c23, H⟩ | ⟨c23, H⟩
      · refine ite_t c23 (by kernel_rfl) ?_
        refine seq_ops [] [] [(2, cB false)] [] (fun t => t) (by kernel_rfl) ?_
        refine ends_ret ?_
        obtain rfl := Option.some.inj H
        exact And.intro (by simp) (And.intro rfl rfl)
      · refine ite_f c23 (by kernel_rfl) ?_
        refine ends_skip ?_
        change EndsI _ _ _ _ _ _
        refine one_ops [] [] [(0, .c (dat 1 eI zI p0)), (3, cI (W (x16 + 1)))] [] (fun t => t) (by kernel_rfl) ?_
        obtain rfl := Option.some.inj H
        exact And.intro rfl rfl
    · refine ite_f c18 (by kernel_rfl) ?_
      refine tell [] [] [] (fun t => t) (by kernel_rfl) ?_
      refine ends_exit ?_
      obtain rfl := Option.some.inj H
      exact And.intro (by simp) (And.intro rfl rfl)
  · clear h25
    cases y24 with
    | inl y26 =>
      replace H := ofInl H
      intro e s q
      obtain ⟨rfl, rfl⟩ := q
      change EndsI _ _ _ _ _ _
      refine seq_ops [] [] [(2, cB true)] [] (fun t => t) (by kernel_rfl) ?_
      refine ends_ret ?_
      obtain rfl := Option.some.inj H
      exact And.intro (.inl rfl) rfl
    | inr y27 =>
      replace H := ofInr H
      intro e s q
      obtain ⟨rfl, rfl⟩ := q
      obtain rfl := Option.some.inj H
      exact And.intro (.inl rfl) rfl

def i_hexOf_ir : S :=
 (.seq (.ops [⟨some 2, .box 5 (.t 0), none⟩, ⟨some 4, .alloc [.int .i64 0, .int .i64 0], none⟩])
 (.seq (.draw 9 [⟨some 5, .mv (.t 1), none⟩, ⟨some 6, .fad 0 (.t 2), none⟩, ⟨some 7, .load 1 false (.t 6), none⟩, ⟨some 8, .bin .rem (.t 5) (.t 7), none⟩, ⟨some 9, .mv (.t 1), none⟩, ⟨some 10, .fad 0 (.t 2), none⟩, ⟨some 11, .load 1 false (.t 10), none⟩, ⟨some 12, .bin .quo (.t 9) (.t 11), none⟩, ⟨some 13, .build [.int .i64 0, .int .i64 0] [(0, 1, .t 8), (1, 1, .t 12)], none⟩, ⟨none, .store 2 (.t 4) (.t 13), none⟩])
 .ret))
noncomputable def X.i_hexOf (p0 : TMap) (p1 : Int) : Option THex :=
  (if p0.Width ≠ 0 then (if p0.Width ≠ 0 then some (THex.mk (Int.tmod p1 p0.Width) (W (Int.tdiv p1 p0.Width))) else none) else none)
theorem i_hexOf_ok (p0 : TMap) (p1 : Int) (r : THex) (H : X.i_hexOf p0 p1 = some r) : FnOk Tryz.prog gl 140 [.agg (eTMap p0), cI p1] (.agg (eTHex r)) := by
  unfold X.i_hexOf at H
  refine fn_in (fn := Tryz.f140) (ir := i_hexOf_ir) (s1 := lit [(4, .c (.pk 4 0))] [(4, .var (eTHex r) false)]) Tryz.func140 (by kernel_rfl) (by kernel_rfl) (by kernel_rfl) (by kernel_rfl) (by kernel_rfl) ?_
  refine seq_ops [] [] [(1, cI p1), (2, .c (.pk 2 0)), (4, .c (.pk 4 0))] [(2, .var (eTMap p0) false), (4, .var [.int .i64 0, .int .i64 0] false)] (fun t => t) (by kernel_rfl) ?_
  obtain ⟨g1, H⟩ := ofIf H
  obtain ⟨g2, H⟩ := ofIf H
  refine seq_draw [] [] [(4, .c (.pk 4 0))] [(4, .var [.int .i64 (Int.tmod p1 p0.Width), .int .i64 (W (Int.tdiv p1 p0.Width))] false)] (fun t => aI g1 (aI g2 (t))) (by kernel_rfl) ?_
  refine ends_ret ?_
  obtain rfl := Option.some.inj H
  exact And.intro (.inl rfl) rfl

def i_indexOf_ir : S :=
 (.seq (.ops [⟨some 2, .box 5 (.t 0), none⟩, ⟨some 3, .box 2 (.t 1), none⟩, ⟨some 4, .mv (.v (.int .i64 0)), none⟩])
 (.seq (.seq (.ops [⟨some 5, .fad 0 (.t 3), none⟩, ⟨some 6, .load 1 false (.t 5), none⟩, ⟨some 7, .fad 0 (.t 2), none⟩, ⟨some 8, .load 1 false (.t 7), none⟩, ⟨some 9, .call 82 [.t 6, .t 8], none⟩, ⟨some 10, .not (.t 9), none⟩, ⟨some 11, .mv (.t 10), none⟩, ⟨some 12, .fad 1 (.t 3), some (11, false)⟩, ⟨some 13, .load 1 false (.t 12), some (11, false)⟩, ⟨some 14, .fad 1 (.t 2), some (11, false)⟩, ⟨some 15, .load 1 false (.t 14), some (11, false)⟩, ⟨some 16, .call 82 [.t 13, .t 15], some (11, false)⟩, ⟨some 17, .not (.t 16), some (11, false)⟩, ⟨some 18, .pick (.t 11) (.v (.bool true)) (.t 17), none⟩])
 (.ite (.t 18) (.seq (.ops [⟨some 4, .mv (.v (.int .i64 (-1))), none⟩])
  .ret)
 .skip))
 (.seq (.ops [⟨some 19, .fad 1 (.t 3), none⟩, ⟨some 20, .load 1 false (.t 19), none⟩, ⟨some 21, .fad 0 (.t 2), none⟩, ⟨some 22, .load 1 false (.t 21), none⟩, ⟨some 23, .bin .mul (.t 20) (.t 22), none⟩, ⟨some 24, .fad 0 (.t 3), none⟩, ⟨some 25, .load 1 false (.t 24), none⟩, ⟨some 26, .bin .add (.t 23) (.t 25), none⟩, ⟨some 4, .mv (.t 26), none⟩])
 .ret)))
noncomputable def X.i_indexOf (p0 : TMap) (p1 : THex) : Option Int :=
  ((X.i_isIndex p1.Q p0.Width).bind fun v7 => (bif (!v7) then some (-1) else ((X.i_isIndex p1.R p0.Height).bind fun v10 => (bif (!v10) then some (-1) else some (W ((W (p1.R * p0.Width)) + p1.Q))))))
theorem i_indexOf_ok (p0 : TMap) (p1 : THex) (r : Int) (H : X.i_indexOf p0 p1 = some r) : FnOk Tryz.prog gl 240 [.agg (eTMap p0), .agg (eTHex p1)] (cI r) := by
  unfold X.i_indexOf at H
  refine fn_in (fn := Tryz.f240) (ir := i_indexOf_ir) (s1 := lit [(4, cI r)] []) Tryz.func240 (by kernel_rfl) (by kernel_rfl) (by kernel_rfl) (by kernel_rfl) (by kernel_rfl) ?_
  refine seq_ops [] [] [(2, .c (.pk 2 0)), (3, .c (.pk 3 0))] [(2, .var (eTMap p0) false), (3, .var (eTHex p1) false)] (fun t => t) (by kernel_rfl) ?_
  refine seq_in ?_
  obtain ⟨v7, h8, H⟩ := ofBind H
  rcases ofCond H with ⟨c9, H⟩ | ⟨c9, H⟩
  · refine seq_ops [.res (cB v7), .g true, .g true, .g true, .g true, .g true, .g true, .g true] [] [(2, .c (.pk 2 0)), (3, .c (.pk 3 0)), (18, cB true)] [(2, .var (eTMap p0) false), (3, .var (eTHex p1) false)] (fun t => aI (i_isIndex_ok p1.Q p0.Width v7 h8) (aI c9 (aI c9 (aI c9 (aI c9 (aI c9 (aI c9 (aI c9 (t))))))))) (by kernel_rfl) ?_
    refine ite_t (rfl : (true : Bool) = true) (by kernel_rfl) ?_
    refine seq_ops [] [] [(4, cI (-1))] [] (fun t => t) (by kernel_rfl) ?_
    refine ends_ret ?_
    obtain rfl := Option.some.inj H
    exact And.intro (.inl rfl) rfl
  · obtain ⟨v10, h11, H⟩ := ofBind H
    refine seq_ops [.res (cB v7), .g false, .g false, .g false, .g false, .g false, .res (cB v10), .g false, .g false] [] [(2, .c (.pk 2 0)), (3, .c (.pk 3 0)), (18, cB (!v10))] [(2, .var (eTMap p0) false), (3, .var (eTHex p1) false)] (fun t => aI (i_isIndex_ok p1.Q p0.Width v7 h8) (aI c9 (aI c9 (aI c9 (aI c9 (aI c9 (aI (i_isIndex_ok p1.R p0.Height v10 h11) (aI c9 (aI c9 (t)))))))))) (by kernel_rfl) ?_
    rcases ofCond H with ⟨c12, H⟩ | ⟨c12, H⟩
    · refine ite_t c12 (by kernel_rfl) ?_
      refine seq_ops [] [] [(4, cI (-1))] [] (fun t => t) (by kernel_rfl) ?_
      refine ends_ret ?_
      obtain rfl := Option.some.inj H
      exact And.intro (.inl rfl) rfl
    · refine ite_f c12 (by kernel_rfl) ?_
      refine ends_skip ?_
      change EndsI _ _ _ _ _ _
      refine seq_ops [] [] [(4, cI (W ((W (p1.R * p0.Width)) + p1.Q)))] [] (fun t => t) (by kernel_rfl) ?_
      refine ends_ret ?_
      obtain rfl := Option.some.inj H
      exact And.intro (.inl rfl) rfl

def i_stepBy_ir : S :=
 (.seq (.ops [⟨some 3, .box 2 (.t 0), none⟩, ⟨some 6, .alloc [.int .i64 0, .int .i64 0], none⟩])
 (.seq (.draw 19 [⟨some 7, .fad 0 (.t 3), none⟩, ⟨some 8, .load 1 false (.t 7), none⟩, ⟨some 9, .mv (.t 2), none⟩, ⟨some 10, .mv (.t 1), none⟩, ⟨some 11, .iar 6 2 (.g 0) (.t 10), none⟩, ⟨some 12, .fad 0 (.t 11), none⟩, ⟨some 13, .load 1 false (.t 12), none⟩, ⟨some 14, .bin .mul (.t 9) (.t 13), none⟩, ⟨some 15, .bin .add (.t 8) (.t 14), none⟩, ⟨some 16, .fad 1 (.t 3), none⟩, ⟨some 17, .load 1 false (.t 16), none⟩, ⟨some 18, .mv (.t 2), none⟩, ⟨some 19, .mv (.t 1), none⟩, ⟨some 20, .iar 6 2 (.g 0) (.t 19), none⟩, ⟨some 21, .fad 1 (.t 20), none⟩, ⟨some 22, .load 1 false (.t 21), none⟩, ⟨some 23, .bin .mul (.t 18) (.t 22), none⟩, ⟨some 24, .bin .add (.t 17) (.t 23), none⟩, ⟨some 25, .build [.int .i64 0, .int .i64 0] [(0, 1, .t 15), (1, 1, .t 24)], none⟩, ⟨none, .store 2 (.t 6) (.t 25), none⟩])
 .ret))
noncomputable def X.i_stepBy (p0 : THex) (p1 : Int) (p2 : Int) : Option THex :=
  ((at' zTHex dirs p1).bind fun v1 => some (THex.mk (W (p0.Q + (W (p2 * v1.Q)))) (W (p0.R + (W (p2 * v1.R))))))
theorem i_stepBy_ok (p0 : THex) (p1 : Int) (p2 : Int) (r : THex) (H : X.i_stepBy p0 p1 p2 = some r) : FnOk Tryz.prog gl 241 [.agg (eTHex p0), cI p1, cI p2] (.agg (eTHex r)) := by
  unfold X.i_stepBy at H
  refine fn_in (fn := Tryz.f241) (ir := i_stepBy_ir) (s1 := lit [(6, .c (.pk 6 0))] [(6, .var (eTHex r) false)]) Tryz.func241 (by kernel_rfl) (by kernel_rfl) (by kernel_rfl) (by kernel_rfl) (by kernel_rfl) ?_
  refine seq_ops [] [] [(1, cI p1), (2, cI p2), (3, .c (.pk 3 0)), (6, .c (.pk 6 0))] [(3, .var (eTHex p0) false), (6, .var [.int .i64 0, .int .i64 0] false)] (fun t => t) (by kernel_rfl) ?_
  obtain ⟨v1, h2, H⟩ := ofBind H
  refine seq_draw [.cs (eTHex v1), .cs (eTHex v1)] [] [(6, .c (.pk 6 0))] [(6, .var [.int .i64 (W (p0.Q + (W (p2 * v1.Q)))), .int .i64 (W (p0.R + (W (p2 * v1.R))))] false)] (fun t => aI (at_lt h2) (aI (dirs_at h2) (aI (rfl : ([] : List Nat) = []) (aI (at_lt h2) (aI (dirs_at h2) (aI (rfl : ([] : List Nat) = []) (t))))))) (by kernel_rfl) ?_
  refine ends_ret ?_
  obtain rfl := Option.some.inj H
  exact And.intro (.inl rfl) rfl

def i_nextTo_ir : S :=
 (.seq (.ops [⟨some 3, .box 5 (.t 0), none⟩, ⟨some 6, .mv (.v (.int .i64 0)), none⟩])
 (.seq (.draw 8 [⟨some 7, .load 5 true (.t 3), none⟩, ⟨some 8, .load 5 true (.t 3), none⟩, ⟨some 9, .mv (.t 1), none⟩, ⟨some 10, .call 140 [.t 8, .t 9], none⟩, ⟨some 11, .mv (.t 2), none⟩, ⟨some 12, .call 241 [.t 10, .t 11, .v (.int .i64 1)], none⟩, ⟨some 13, .call 240 [.t 7, .t 12], none⟩, ⟨some 6, .mv (.t 13), none⟩])
 .ret))
noncomputable def X.i_nextTo (p0 : TMap) (p1 : Int) (p2 : Int) : Option Int :=
  ((X.i_hexOf p0 p1).bind fun v1 => ((X.i_stepBy v1 p2 1).bind fun v3 => ((X.i_indexOf p0 v3).bind fun v5 => some v5)))
theorem i_nextTo_ok (p0 : TMap) (p1 : Int) (p2 : Int) (r : Int) (H : X.i_nextTo p0 p1 p2 = some r) : FnOk Tryz.prog gl 189 [.agg (eTMap p0), cI p1, cI p2] (cI r) := by
  unfold X.i_nextTo at H
  refine fn_in (fn := Tryz.f189) (ir := i_nextTo_ir) (s1 := lit [(6, cI r)] []) Tryz.func189 (by kernel_rfl) (by kernel_rfl) (by kernel_rfl) (by kernel_rfl) (by kernel_rfl) ?_
  refine seq_ops [] [] [(1, cI p1), (2, cI p2), (3, .c (.pk 3 0))] [(3, .var (eTMap p0) false)] (fun t => t) (by kernel_rfl) ?_
  obtain ⟨v1, h2, H⟩ := ofBind H
  obtain ⟨v3, h4, H⟩ := ofBind H
  obtain ⟨v5, h6, H⟩ := ofBind H
  refine seq_draw [.res (.agg (eTHex v1)), .res (.agg (eTHex v3)), .res (cI v5)] [] [(6, cI v5)] [] (fun t => aI (i_hexOf_ok p0 p1 v1 h2) (aI trivial (aI (rfl : ([] : List Nat) = []) (aI (i_stepBy_ok v1 p2 1 v3 h4) (aI trivial (aI (rfl : ([] : List Nat) = []) (aI (i_indexOf_ok p0 v3 v5 h6) (aI trivial (aI (rfl : ([] : List Nat) = []) (t)))))))))) (by kernel_rfl) ?_
  refine ends_ret ?_
  obtain rfl := Option.some.inj H
  exact And.intro (.inl rfl) rfl

def i_isEdge_ir : S :=
 (.seq (.ops [⟨some 2, .box 5 (.t 0), none⟩, ⟨some 4, .mv (.v (.bool false)), none⟩])
 (.seq (.ops [⟨some 5, .mv (.t 1), none⟩, ⟨some 6, .fad 0 (.t 2), none⟩, ⟨some 7, .load 1 false (.t 6), none⟩, ⟨some 8, .bin .mul (.v (.int .i64 3)) (.t 7), none⟩, ⟨some 9, .fad 1 (.t 2), none⟩, ⟨some 10, .load 1 false (.t 9), none⟩, ⟨some 11, .bin .mul (.t 8) (.t 10), none⟩, ⟨some 12, .bin .sub (.t 11) (.v (.int .i64 1)), none⟩, ⟨some 13, .call 130 [.t 5, .v (.int .i64 0), .t 12], none⟩, ⟨some 14, .mv (.t 13), none⟩, ⟨some 15, .load 5 true (.t 2), some (14, true)⟩, ⟨some 16, .mv (.t 1), some (14, true)⟩, ⟨some 17, .bin .quo (.t 16) (.v (.int .i64 3)), some (14, true)⟩, ⟨some 18, .mv (.t 1), some (14, true)⟩, ⟨some 19, .bin .rem (.t 18) (.v (.int .i64 3)), some (14, true)⟩, ⟨some 20, .call 189 [.t 15, .t 17, .t 19], some (14, true)⟩, ⟨some 21, .bin .geq (.t 20) (.v (.int .i64 0)), some (14, true)⟩, ⟨some 22, .pick (.t 14) (.t 21) (.v (.bool false)), none⟩, ⟨some 4, .mv (.t 22), none⟩])
 .ret))
noncomputable def X.i_isEdge (p0 : TMap) (p1 : Int) : Option Bool :=
  ((X.i_inRange p1 0 (W ((W ((W (3 * p0.Width)) * p0.Height)) - 1))).bind fun v1 => (bif v1 then ((X.i_nextTo p0 (W (Int.tdiv p1 3)) (Int.tmod p1 3)).bind fun v4 => some (decide (v4 ≥ 0))) else some false))
theorem i_isEdge_ok (p0 : TMap) (p1 : Int) (r : Bool) (H : X.i_isEdge p0 p1 = some r) : FnOk Tryz.prog gl 246 [.agg (eTMap p0), cI p1] (cB r) := by
  unfold X.i_isEdge at H
  refine fn_in (fn := Tryz.f246) (ir := i_isEdge_ir) (s1 := lit [(4, cB r)] []) Tryz.func246 (by kernel_rfl) (by kernel_rfl) (by kernel_rfl) (by kernel_rfl) (by kernel_rfl) ?_
  refine seq_ops [] [] [(1, cI p1), (2, .c (.pk 2 0))] [(2, .var (eTMap p0) false)] (fun t => t) (by kernel_rfl) ?_
  obtain ⟨v1, h2, H⟩ := ofBind H
  rcases ofCond H with ⟨c3, H⟩ | ⟨c3, H⟩
  · obtain ⟨v4, h5, H⟩ := ofBind H
    refine seq_ops [.res (cB v1), .g true, .g true, .g true, .g true, .g true, .g true, .res (cI v4), .g true, .g true] [] [(4, cB (decide (v4 ≥ 0)))] [] (fun t => aI (i_inRange_ok p1 0 (W ((W ((W (3 * p0.Width)) * p0.Height)) - 1)) v1 h2) (aI c3 (aI c3 (aI c3 (aI (by decide : (3 : Int) ≠ 0) (aI c3 (aI c3 (aI (by decide : (3 : Int) ≠ 0) (aI c3 (aI (i_nextTo_ok p0 (W (Int.tdiv p1 3)) (Int.tmod p1 3) v4 h5) (aI c3 (aI c3 (t))))))))))))) (by kernel_rfl) ?_
    refine ends_ret ?_
    obtain rfl := Option.some.inj H
    exact And.intro (.inl rfl) rfl
  · refine seq_ops [.res (cB v1), .g false, .g false, .g false, .g false, .g false, .g false, .g false, .g false] [] [(4, cB false)] [] (fun t => aI (i_inRange_ok p1 0 (W ((W ((W (3 * p0.Width)) * p0.Height)) - 1)) v1 h2) (aI c3 (aI c3 (aI c3 (aI c3 (aI c3 (aI c3 (aI c3 (aI c3 (t)))))))))) (by kernel_rfl) ?_
    refine ends_ret ?_
    obtain rfl := Option.some.inj H
    exact And.intro (.inl rfl) rfl

def i_IsMap_ir : S :=
 (.seq (.ops [⟨some 1, .box 5 (.t 0), none⟩, ⟨some 2, .mv (.v (.bool false)), none⟩])
 (.seq (.seq (.ops [⟨some 9, .fad 0 (.t 1), none⟩, ⟨some 10, .load 1 false (.t 9), none⟩, ⟨some 11, .call 130 [.t 10, .v (.int .i64 1), .v (.int .i64 10)], none⟩, ⟨some 12, .not (.t 11), none⟩, ⟨some 13, .mv (.t 12), none⟩, ⟨some 14, .fad 1 (.t 1), some (13, false)⟩, ⟨some 15, .load 1 false (.t 14), some (13, false)⟩, ⟨some 16, .call 130 [.t 15, .v (.int .i64 1), .v (.int .i64 10)], some (13, false)⟩, ⟨some 17, .not (.t 16), some (13, false)⟩, ⟨some 18, .pick (.t 13) (.v (.bool true)) (.t 17), none⟩, ⟨some 19, .mv (.t 18), none⟩, ⟨some 20, .fad 2 (.t 1), some (19, false)⟩, ⟨some 21, .load 1 false (.t 20), some (19, false)⟩, ⟨some 22, .len (.t 21), some (19, false)⟩, ⟨some 23, .fad 0 (.t 1), some (19, false)⟩, ⟨some 24, .load 1 false (.t 23), some (19, false)⟩, ⟨some 25, .fad 1 (.t 1), some (19, false)⟩, ⟨some 26, .load 1 false (.t 25), some (19, false)⟩, ⟨some 27, .bin .mul (.t 24) (.t 26), some (19, false)⟩, ⟨some 28, .bin .neq (.t 22) (.t 27), some (19, false)⟩, ⟨some 29, .pick (.t 19) (.v (.bool true)) (.t 28), none⟩])
 (.ite (.t 29) (.seq (.ops [⟨some 2, .mv (.v (.bool false)), none⟩])
  .ret)
 .skip))
 (.seq (.seq (.ops [⟨some 30, .fad 2 (.t 1), none⟩, ⟨some 31, .load 1 false (.t 30), none⟩, ⟨some 32, .len (.t 31), none⟩, ⟨some 33, .mv (.v (.int .i64 0)), none⟩])
 (.blk 0 (.loop (.seq (.ops [⟨some 34, .bin .lss (.t 33) (.t 32), none⟩])
   (.seq (.ite (.t 34) .skip
   (.exit 0))
   (.seq (.blk 1 (.seq (.ops [⟨some 35, .iad 1 (.t 31) (.t 33), none⟩, ⟨some 36, .load 1 false (.t 35), none⟩, ⟨some 4, .mv (.t 36), none⟩])
    (.seq (.ops [⟨some 37, .mv (.t 4), none⟩, ⟨some 38, .call 82 [.t 37, .v (.int .i64 6)], none⟩, ⟨some 39, .not (.t 38), none⟩])
    (.ite (.t 39) (.seq (.ops [⟨some 2, .mv (.v (.bool false)), none⟩])
     .ret)
    .skip))))
   (.ops [⟨some 40, .bin .add (.t 33) (.v (.int .i64 1)), none⟩, ⟨some 33, .mv (.t 40), none⟩])))))))
 (.seq (.seq (.ops [⟨some 41, .fad 3 (.t 1), none⟩, ⟨some 42, .load 1 false (.t 41), none⟩, ⟨some 43, .fad 4 (.t 1), none⟩, ⟨some 44, .load 1 false (.t 43), none⟩, ⟨some 45, .bsl 1 [.t 42, .t 44], none⟩, ⟨some 46, .len (.t 45), none⟩, ⟨some 47, .mv (.v (.int .i64 0)), none⟩])
 (.blk 2 (.loop (.seq (.ops [⟨some 48, .bin .lss (.t 47) (.t 46), none⟩])
   (.seq (.ite (.t 48) .skip
   (.exit 2))
   (.seq (.blk 3 (.seq (.ops [⟨some 49, .iad 1 (.t 45) (.t 47), none⟩, ⟨some 50, .load 1 false (.t 49), none⟩, ⟨some 6, .mv (.t 50), none⟩])
    (.seq (.seq (.ops [⟨some 51, .mv (.t 6), none⟩, ⟨some 52, .call 216 [.t 51], none⟩, ⟨some 53, .not (.t 52), none⟩])
    (.ite (.t 53) (.seq (.ops [⟨some 2, .mv (.v (.bool false)), none⟩])
     .ret)
    .skip))
    (.seq (.ops [⟨some 54, .mv (.t 6), none⟩, ⟨some 55, .len (.t 54), none⟩, ⟨some 56, .mv (.v (.int .i64 0)), none⟩])
    (.blk 4 (.loop (.seq (.ops [⟨some 57, .bin .lss (.t 56) (.t 55), none⟩])
      (.seq (.ite (.t 57) .skip
      (.exit 4))
      (.seq (.blk 5 (.seq (.ops [⟨some 58, .iad 1 (.t 54) (.t 56), none⟩, ⟨some 59, .load 1 false (.t 58), none⟩, ⟨some 8, .mv (.t 59), none⟩])
       (.seq (.ops [⟨some 60, .load 5 true (.t 1), none⟩, ⟨some 61, .mv (.t 8), none⟩, ⟨some 62, .call 246 [.t 60, .t 61], none⟩, ⟨some 63, .not (.t 62), none⟩])
       (.ite (.t 63) (.seq (.ops [⟨some 2, .mv (.v (.bool false)), none⟩])
        .ret)
       .skip))))
      (.ops [⟨some 64, .bin .add (.t 56) (.v (.int .i64 1)), none⟩, ⟨some 56, .mv (.t 64), none⟩]))))))))))
   (.ops [⟨some 65, .bin .add (.t 47) (.v (.int .i64 1)), none⟩, ⟨some 47, .mv (.t 65), none⟩])))))))
 (.seq (.ops [⟨some 2, .mv (.v (.bool true)), none⟩])
 .ret)))))
noncomputable def X.i_IsMap (p0 : TMap) : Option Bool :=
  ((X.i_inRange p0.Width 1 10).bind fun v8 => (bif (!v8) then some false else ((X.i_inRange p0.Height 1 10).bind fun v11 => (bif (!v11) then some false else (bif ((p0.Terrain.length : Int) != (W (p0.Width * p0.Height))) then some false else ((loop (fun (x57 : Int) => ((bif (decide (x57 < (p0.Terrain.length : Int))) then ((at' zI p0.Terrain x57).bind fun v60 => ((X.i_isIndex v60 6).bind fun v62 => (bif (!v62) then some (Sum.inr (Sum.inr false)) else some (Sum.inl (W (x57 + 1)))))) else some (Sum.inr (Sum.inl ()))) : Option (Int ⊕ (Unit ⊕ Bool)))) 0).bind fun y65 => (Sum.elim (fun (y67 : Unit) => ((loop (fun (x142 : Int) => ((bif (decide (x142 < (([p0.Rivers, p0.Roads] : List (List Int)).length : Int))) then (if 0 ≤ x142 ∧ x142 < (([p0.Rivers, p0.Roads] : List (List Int)).length : Int) then ((X.i_increasing (([p0.Rivers, p0.Roads] : List (List Int)).getD x142.toNat zLI)).bind fun v149 => (bif (!v149) then some (Sum.inr (Sum.inr false)) else ((loop (fun (x167 : Int) => ((bif (decide (x167 < ((([p0.Rivers, p0.Roads] : List (List Int)).getD x142.toNat zLI).length : Int))) then ((at' zI (([p0.Rivers, p0.Roads] : List (List Int)).getD x142.toNat zLI) x167).bind fun v170 => ((X.i_isEdge p0 v170).bind fun v172 => (bif (!v172) then some (Sum.inr (Sum.inr false)) else some (Sum.inl (W (x167 + 1)))))) else some (Sum.inr (Sum.inl ()))) : Option (Int ⊕ (Unit ⊕ Bool)))) 0).bind fun y175 => (Sum.elim (fun (y177 : Unit) => some (Sum.inl (W (x142 + 1)))) (fun (y178 : Bool) => some (Sum.inr (Sum.inr y178))) y175)))) else none) else some (Sum.inr (Sum.inl ()))) : Option (Int ⊕ (Unit ⊕ Bool)))) 0).bind fun y179 => (Sum.elim (fun (y181 : Unit) => some true) (fun (y182 : Bool) => some y182) y179))) (fun (y68 : Bool) => some y68) y65)))))))
theorem i_IsMap_ok (p0 : TMap) (r : Bool) (H : X.i_IsMap p0 = some r) : FnOk Tryz.prog gl 192 [.agg (eTMap p0)] (cB r) := by
  unfold X.i_IsMap at H
  refine fn_in (fn := Tryz.f192) (ir := i_IsMap_ir) (s1 := lit [(2, cB r)] []) Tryz.func192 (by kernel_rfl) (by kernel_rfl) (by kernel_rfl) (by kernel_rfl) (by kernel_rfl) ?_
  refine seq_ops [] [] [(1, .c (.pk 1 0))] [(1, .var (eTMap p0) false)] (fun t => t) (by kernel_rfl) ?_
  refine seq_in ?_
  obtain ⟨v8, h9, H⟩ := ofBind H
  rcases ofCond H with ⟨c10, H⟩ | ⟨c10, H⟩
  · refine seq_ops [.res (cB v8), .g true, .g true, .g true, .g true, .g true, .g true, .g true, .g true, .g true, .g true, .g true, .g true, .g true, .g true, .g true] [] [(1, .c (.pk 1 0)), (29, cB true)] [(1, .var (eTMap p0) false)] (fun t => aI (i_inRange_ok p0.Width 1 10 v8 h9) (aI c10 (aI c10 (aI c10 (aI c10 (aI c10 (aI (rfl : (true : Bool) = true) (aI (rfl : (true : Bool) = true) (aI (rfl : (true : Bool) = true) (aI (rfl : (true : Bool) = true) (aI (rfl : (true : Bool) = true) (aI (rfl : (true : Bool) = true) (aI (rfl : (true : Bool) = true) (aI (rfl : (true : Bool) = true) (aI (rfl : (true : Bool) = true) (aI (rfl : (true : Bool) = true) (t))))))))))))))))) (by kernel_rfl) ?_
    refine ite_t (rfl : (true : Bool) = true) (by kernel_rfl) ?_
    refine seq_ops [] [] [(2, cB false)] [] (fun t => t) (by kernel_rfl) ?_
    refine ends_ret ?_
    obtain rfl := Option.some.inj H
    exact And.intro (.inl rfl) rfl
  · obtain ⟨v11, h12, H⟩ := ofBind H
    rcases ofCond H with ⟨c13, H⟩ | ⟨c13, H⟩
    · refine seq_ops [.res (cB v8), .g false, .g false, .g false, .res (cB v11), .g false, .g false, .g true, .g true, .g true, .g true, .g true, .g true, .g true, .g true, .g true, .g true] [] [(1, .c (.pk 1 0)), (29, cB true)] [(1, .var (eTMap p0) false)] (fun t => aI (i_inRange_ok p0.Width 1 10 v8 h9) (aI c10 (aI c10 (aI c10 (aI (i_inRange_ok p0.Height 1 10 v11 h12) (aI c10 (aI c10 (aI c13 (aI c13 (aI c13 (aI c13 (aI c13 (aI c13 (aI c13 (aI c13 (aI c13 (aI c13 (t)))))))))))))))))) (by kernel_rfl) ?_
      refine ite_t (rfl : (true : Bool) = true) (by kernel_rfl) ?_
      refine seq_ops [] [] [(2, cB false)] [] (fun t => t) (by kernel_rfl) ?_
      refine ends_ret ?_
      obtain rfl := Option.some.inj H
      exact And.intro (.inl rfl) rfl
    · refine seq_ops [.res (cB v8), .g false, .g false, .g false, .res (cB v11), .g false, .g false, .g false, .g false, .g false, .g false, .g false, .g false, .g false, .g false, .g false, .g false] [] [(1, .c (.pk 1 0)), (29, cB ((p0.Terrain.length : Int) != (W (p0.Width * p0.Height))))] [(1, .var (eTMap p0) false)] (fun t => aI (i_inRange_ok p0.Width 1 10 v8 h9) (aI c10 (aI c10 (aI c10 (aI (i_inRange_ok p0.Height 1 10 v11 h12) (aI c10 (aI c10 (aI c13 (aI c13 (aI c13 (lI p0.Terrain (aI c13 (aI c13 (aI c13 (aI c13 (aI c13 (aI c13 (aI c13 (t))))))))))))))))))) (by kernel_rfl) ?_
      rcases ofCond H with ⟨c14, H⟩ | ⟨c14, H⟩
      · refine ite_t c14 (by kernel_rfl) ?_
        refine seq_ops [] [] [(2, cB false)] [] (fun t => t) (by kernel_rfl) ?_
        refine ends_ret ?_
        obtain rfl := Option.some.inj H
        exact And.intro (.inl rfl) rfl
      · refine ite_f c14 (by kernel_rfl) ?_
        refine ends_skip ?_
        change EndsI _ _ _ _ _ _
        refine seq_in ?_
        refine seq_ops [] [] [(1, .c (.pk 1 0)), (31, .c (dat 1 eI zI p0.Terrain)), (32, cI (p0.Terrain.length : Int)), (33, cI 0)] [(1, .var (eTMap p0) false)] (fun t => lI p0.Terrain (t)) (by kernel_rfl) ?_
        refine ends_blk ?_
        obtain ⟨y65, h66, H⟩ := ofBind H
        refine loop_in (fun (x : Int) => lit [(1, .c (.pk 1 0)), (31, .c (dat 1 eI zI p0.Terrain)), (32, cI (p0.Terrain.length : Int)), (33, cI x)] [(1, .var (eTMap p0) false)]) (orJ (fun (z : Unit) => At (.exit 0) (lit [(1, .c (.pk 1 0))] [(1, .var (eTMap p0) false)])) (fun (z : Bool) => At .ret (lit [(2, cB z)] []))) h66 ?_ ?_
        · clear H h66
          intro x57 y0 H
          refine seq_ops [] [] [(1, .c (.pk 1 0)), (31, .c (dat 1 eI zI p0.Terrain)), (32, cI (p0.Terrain.length : Int)), (33, cI x57), (34, cB (decide (x57 < (p0.Terrain.length : Int))))] [(1, .var (eTMap p0) false)] (fun t => t) (by kernel_rfl) ?_
          refine seq_in ?_
          rcases ofCond H with ⟨c59, H⟩ | ⟨c59, H⟩
          · refine ite_t c59 (by kernel_rfl) ?_
            refine ends_skip ?_
            change EndsI _ _ _ _ _ _
            refine seq_in ?_
            refine ends_blk ?_
            obtain ⟨v60, h61, H⟩ := ofBind H
            refine seq_ops [.cs (eI v60)] [] [(1, .c (.pk 1 0)), (4, cI v60), (31, .c (dat 1 eI zI p0.Terrain)), (32, cI (p0.Terrain.length : Int)), (33, cI x57)] [(1, .var (eTMap p0) false)] (fun t => aI (at_lt h61) (aI (at_enc (enc := eI) h61) (t))) (by kernel_rfl) ?_
            obtain ⟨v62, h63, H⟩ := ofBind H
            refine seq_ops [.res (cB v62)] [] [(1, .c (.pk 1 0)), (31, .c (dat 1 eI zI p0.Terrain)), (32, cI (p0.Terrain.length : Int)), (33, cI x57), (39, cB (!v62))] [(1, .var (eTMap p0) false)] (fun t => aI (i_isIndex_ok v60 6 v62 h63) (t)) (by kernel_rfl) ?_
            rcases ofCond H with ⟨c64, H⟩ | ⟨c64, H⟩
            · refine ite_t c64 (by kernel_rfl) ?_
              refine seq_ops [] [] [(2, cB false)] [] (fun t => t) (by kernel_rfl) ?_
              refine ends_ret ?_
              obtain rfl := Option.some.inj H
              exact And.intro (by simp) (And.intro rfl rfl)
            · refine ite_f c64 (by kernel_rfl) ?_
              refine ends_skip ?_
              change EndsI _ _ _ _ _ _
              refine one_ops [] [] [(1, .c (.pk 1 0)), (31, .c (dat 1 eI zI p0.Terrain)), (32, cI (p0.Terrain.length : Int)), (33, cI (W (x57 + 1)))] [(1, .var (eTMap p0) false)] (fun t => t) (by kernel_rfl) ?_
              obtain rfl := Option.some.inj H
              exact And.intro rfl rfl
          · refine ite_f c59 (by kernel_rfl) ?_
            refine tell [] [(1, .c (.pk 1 0))] [(1, .var (eTMap p0) false)] (fun t => t) (by kernel_rfl) ?_
            refine ends_exit ?_
            obtain rfl := Option.some.inj H
            exact And.intro (by simp) (And.intro rfl rfl)
        · clear h66
          cases y65 with
          | inl y67 =>
            replace H := ofInl H
            intro e s q
            obtain ⟨rfl, rfl⟩ := q
            change EndsI _ _ _ _ _ _
            refine seq_in ?_
            refine seq_ops [.fn ([p0.Rivers, p0.Roads] : List (List Int)).length (fF eLI zLI ([p0.Rivers, p0.Roads] : List (List Int)))] [] [(1, .c (.pk 1 0)), (45, .c (.own 45 1 0 (([p0.Rivers, p0.Roads] : List (List Int)).length))), (46, cI (([p0.Rivers, p0.Roads] : List (List Int)).length : Int)), (47, cI 0)] [(1, .var (eTMap p0) false), (45, .arr 1 (([p0.Rivers, p0.Roads] : List (List Int)).length) (fF eLI zLI ([p0.Rivers, p0.Roads] : List (List Int))) false)] (fun t => aI (rfl : ([p0.Rivers, p0.Roads] : List (List Int)).length = 2) (aI (fF_lit eLI zLI ([p0.Rivers, p0.Roads] : List (List Int))) ((fun (_ : ([p0.Rivers, p0.Roads] : List (List Int)).length ≤ maxLen) => t)))) (by kernel_rfl) ?_
            refine ends_blk ?_
            obtain ⟨y179, h180, H⟩ := ofBind H
            refine loop_in (fun (x : Int) => lit [(1, .c (.pk 1 0)), (45, .c (.own 45 1 0 (([p0.Rivers, p0.Roads] : List (List Int)).length))), (46, cI (([p0.Rivers, p0.Roads] : List (List Int)).length : Int)), (47, cI x)] [(1, .var (eTMap p0) false), (45, .arr 1 (([p0.Rivers, p0.Roads] : List (List Int)).length) (fF eLI zLI ([p0.Rivers, p0.Roads] : List (List Int))) false)]) (orJ (fun (z : Unit) => At (.exit 2) (lit [] [])) (fun (z : Bool) => At .ret (lit [(2, cB z)] []))) h180 ?_ ?_
            · clear H h180
              intro x142 y0 H
              refine seq_ops [] [] [(1, .c (.pk 1 0)), (45, .c (.own 45 1 0 (([p0.Rivers, p0.Roads] : List (List Int)).length))), (46, cI (([p0.Rivers, p0.Roads] : List (List Int)).length : Int)), (47, cI x142), (48, cB (decide (x142 < (([p0.Rivers, p0.Roads] : List (List Int)).length : Int))))] [(1, .var (eTMap p0) false), (45, .arr 1 (([p0.Rivers, p0.Roads] : List (List Int)).length) (fF eLI zLI ([p0.Rivers, p0.Roads] : List (List Int))) false)] (fun t => t) (by kernel_rfl) ?_
              refine seq_in ?_
              rcases ofCond H with ⟨c144, H⟩ | ⟨c144, H⟩
              · refine ite_t c144 (by kernel_rfl) ?_
                refine ends_skip ?_
                change EndsI _ _ _ _ _ _
                refine seq_in ?_
                refine ends_blk ?_
                obtain ⟨g145, H⟩ := ofIf H
                refine seq_ops [.no] [] [(1, .c (.pk 1 0)), (6, .c (dat 1 eI zI (([p0.Rivers, p0.Roads] : List (List Int)).getD x142.toNat zLI))), (45, .c (.own 45 1 0 (([p0.Rivers, p0.Roads] : List (List Int)).length))), (46, cI (([p0.Rivers, p0.Roads] : List (List Int)).length : Int)), (47, cI x142)] [(1, .var (eTMap p0) false), (45, .arr 1 (([p0.Rivers, p0.Roads] : List (List Int)).length) (fF eLI zLI ([p0.Rivers, p0.Roads] : List (List Int))) false)] (fun t => aI g145 (aI (nat_lt g145) (t))) (by kernel_rfl) ?_
                refine seq_in ?_
                obtain ⟨v149, h150, H⟩ := ofBind H
                refine seq_ops [.res (cB v149)] [] [(1, .c (.pk 1 0)), (6, .c (dat 1 eI zI (([p0.Rivers, p0.Roads] : List (List Int)).getD x142.toNat zLI))), (45, .c (.own 45 1 0 (([p0.Rivers, p0.Roads] : List (List Int)).length))), (46, cI (([p0.Rivers, p0.Roads] : List (List Int)).length : Int)), (47, cI x142), (53, cB (!v149))] [(1, .var (eTMap p0) false), (45, .arr 1 (([p0.Rivers, p0.Roads] : List (List Int)).length) (fF eLI zLI ([p0.Rivers, p0.Roads] : List (List Int))) false)] (fun t => aI (i_increasing_ok (([p0.Rivers, p0.Roads] : List (List Int)).getD x142.toNat zLI) v149 h150) (t)) (by kernel_rfl) ?_
                rcases ofCond H with ⟨c151, H⟩ | ⟨c151, H⟩
                · refine ite_t c151 (by kernel_rfl) ?_
                  refine seq_ops [] [] [(2, cB false)] [] (fun t => t) (by kernel_rfl) ?_
                  refine ends_ret ?_
                  obtain rfl := Option.some.inj H
                  exact And.intro (by simp) (And.intro rfl rfl)
                · refine ite_f c151 (by kernel_rfl) ?_
                  refine ends_skip ?_
                  change EndsI _ _ _ _ _ _
                  refine seq_ops [] [] [(1, .c (.pk 1 0)), (45, .c (.own 45 1 0 (([p0.Rivers, p0.Roads] : List (List Int)).length))), (46, cI (([p0.Rivers, p0.Roads] : List (List Int)).length : Int)), (47, cI x142), (54, .c (dat 1 eI zI (([p0.Rivers, p0.Roads] : List (List Int)).getD x142.toNat zLI))), (55, cI ((([p0.Rivers, p0.Roads] : List (List Int)).getD x142.toNat zLI).length : Int)), (56, cI 0)] [(1, .var (eTMap p0) false), (45, .arr 1 (([p0.Rivers, p0.Roads] : List (List Int)).length) (fF eLI zLI ([p0.Rivers, p0.Roads] : List (List Int))) false)] (fun t => (fun (_ : (([p0.Rivers, p0.Roads] : List (List Int)).getD x142.toNat zLI).length ≤ maxLen) => t)) (by kernel_rfl) ?_
                  refine ends_blk ?_
                  obtain ⟨y175, h176, H⟩ := ofBind H
                  refine loop_in (fun (x : Int) => lit [(1, .c (.pk 1 0)), (45, .c (.own 45 1 0 (([p0.Rivers, p0.Roads] : List (List Int)).length))), (46, cI (([p0.Rivers, p0.Roads] : List (List Int)).length : Int)), (47, cI x142), (54, .c (dat 1 eI zI (([p0.Rivers, p0.Roads] : List (List Int)).getD x142.toNat zLI))), (55, cI ((([p0.Rivers, p0.Roads] : List (List Int)).getD x142.toNat zLI).length : Int)), (56, cI x)] [(1, .var (eTMap p0) false), (45, .arr 1 (([p0.Rivers, p0.Roads] : List (List Int)).length) (fF eLI zLI ([p0.Rivers, p0.Roads] : List (List Int))) false)]) (orJ (fun (z : Unit) => At (.exit 4) (lit [(1, .c (.pk 1 0)), (45, .c (.own 45 1 0 (([p0.Rivers, p0.Roads] : List (List Int)).length))), (46, cI (([p0.Rivers, p0.Roads] : List (List Int)).length : Int)), (47, cI x142)] [(1, .var (eTMap p0) false), (45, .arr 1 (([p0.Rivers, p0.Roads] : List (List Int)).length) (fF eLI zLI ([p0.Rivers, p0.Roads] : List (List Int))) false)])) (fun (z : Bool) => At .ret (lit [(2, cB z)] []))) h176 ?_ ?_
                  · clear H h176
                    intro x167 y0 H
                    refine seq_ops [] [] [(1, .c (.pk 1 0)), (45, .c (.own 45 1 0 (([p0.Rivers, p0.Roads] : List (List Int)).length))), (46, cI (([p0.Rivers, p0.Roads] : List (List Int)).length : Int)), (47, cI x142), (54, .c (dat 1 eI zI (([p0.Rivers, p0.Roads] : List (List Int)).getD x142.toNat zLI))), (55, cI ((([p0.Rivers, p0.Roads] : List (List Int)).getD x142.toNat zLI).length : Int)), (56, cI x167), (57, cB (decide (x167 < ((([p0.Rivers, p0.Roads] : List (List Int)).getD x142.toNat zLI).length : Int))))] [(1, .var (eTMap p0) false), (45, .arr 1 (([p0.Rivers, p0.Roads] : List (List Int)).length) (fF eLI zLI ([p0.Rivers, p0.Roads] : List (List Int))) false)] (fun t => t) (by kernel_rfl) ?_
                    refine seq_in ?_
                    rcases ofCond H with ⟨c169, H⟩ | ⟨c169, H⟩
                    · refine ite_t c169 (by kernel_rfl) ?_
                      refine ends_skip ?_
                      change EndsI _ _ _ _ _ _
                      refine seq_in ?_
                      refine ends_blk ?_
                      obtain ⟨v170, h171, H⟩ := ofBind H
                      refine seq_ops [.cs (eI v170)] [] [(1, .c (.pk 1 0)), (8, cI v170), (45, .c (.own 45 1 0 (([p0.Rivers, p0.Roads] : List (List Int)).length))), (46, cI (([p0.Rivers, p0.Roads] : List (List Int)).length : Int)), (47, cI x142), (54, .c (dat 1 eI zI (([p0.Rivers, p0.Roads] : List (List Int)).getD x142.toNat zLI))), (55, cI ((([p0.Rivers, p0.Roads] : List (List Int)).getD x142.toNat zLI).length : Int)), (56, cI x167)] [(1, .var (eTMap p0) false), (45, .arr 1 (([p0.Rivers, p0.Roads] : List (List Int)).length) (fF eLI zLI ([p0.Rivers, p0.Roads] : List (List Int))) false)] (fun t => aI (at_lt h171) (aI (at_enc (enc := eI) h171) (t))) (by kernel_rfl) ?_
                      obtain ⟨v172, h173, H⟩ := ofBind H
                      refine seq_ops [.res (cB v172)] [] [(1, .c (.pk 1 0)), (45, .c (.own 45 1 0 (([p0.Rivers, p0.Roads] : List (List Int)).length))), (46, cI (([p0.Rivers, p0.Roads] : List (List Int)).length : Int)), (47, cI x142), (54, .c (dat 1 eI zI (([p0.Rivers, p0.Roads] : List (List Int)).getD x142.toNat zLI))), (55, cI ((([p0.Rivers, p0.Roads] : List (List Int)).getD x142.toNat zLI).length : Int)), (56, cI x167), (63, cB (!v172))] [(1, .var (eTMap p0) false), (45, .arr 1 (([p0.Rivers, p0.Roads] : List (List Int)).length) (fF eLI zLI ([p0.Rivers, p0.Roads] : List (List Int))) false)] (fun t => aI (i_isEdge_ok p0 v170 v172 h173) (t)) (by kernel_rfl) ?_
                      rcases ofCond H with ⟨c174, H⟩ | ⟨c174, H⟩
                      · refine ite_t c174 (by kernel_rfl) ?_
                        refine seq_ops [] [] [(2, cB false)] [] (fun t => t) (by kernel_rfl) ?_
                        refine ends_ret ?_
                        obtain rfl := Option.some.inj H
                        exact And.intro (by simp) (And.intro rfl rfl)
                      · refine ite_f c174 (by kernel_rfl) ?_
                        refine ends_skip ?_
                        change EndsI _ _ _ _ _ _
                        refine one_ops [] [] [(1, .c (.pk 1 0)), (45, .c (.own 45 1 0 (([p0.Rivers, p0.Roads] : List (List Int)).length))), (46, cI (([p0.Rivers, p0.Roads] : List (List Int)).length : Int)), (47, cI x142), (54, .c (dat 1 eI zI (([p0.Rivers, p0.Roads] : List (List Int)).getD x142.toNat zLI))), (55, cI ((([p0.Rivers, p0.Roads] : List (List Int)).getD x142.toNat zLI).length : Int)), (56, cI (W (x167 + 1)))] [(1, .var (eTMap p0) false), (45, .arr 1 (([p0.Rivers, p0.Roads] : List (List Int)).length) (fF eLI zLI ([p0.Rivers, p0.Roads] : List (List Int))) false)] (fun t => t) (by kernel_rfl) ?_
                        obtain rfl := Option.some.inj H
                        exact And.intro rfl rfl
                    · refine ite_f c169 (by kernel_rfl) ?_
                      refine tell [] [(1, .c (.pk 1 0)), (45, .c (.own 45 1 0 (([p0.Rivers, p0.Roads] : List (List Int)).length))), (46, cI (([p0.Rivers, p0.Roads] : List (List Int)).length : Int)), (47, cI x142)] [(1, .var (eTMap p0) false), (45, .arr 1 (([p0.Rivers, p0.Roads] : List (List Int)).length) (fF eLI zLI ([p0.Rivers, p0.Roads] : List (List Int))) false)] (fun t => t) (by kernel_rfl) ?_
                      refine ends_exit ?_
                      obtain rfl := Option.some.inj H
                      exact And.intro (by simp) (And.intro rfl rfl)
                  · clear h176
                    cases y175 with
                    | inl y177 =>
                      replace H := ofInl H
                      intro e s q
                      obtain ⟨rfl, rfl⟩ := q
                      change EndsI _ _ _ _ _ _
                      refine one_ops [] [] [(1, .c (.pk 1 0)), (45, .c (.own 45 1 0 (([p0.Rivers, p0.Roads] : List (List Int)).length))), (46, cI (([p0.Rivers, p0.Roads] : List (List Int)).length : Int)), (47, cI (W (x142 + 1)))] [(1, .var (eTMap p0) false), (45, .arr 1 (([p0.Rivers, p0.Roads] : List (List Int)).length) (fF eLI zLI ([p0.Rivers, p0.Roads] : List (List Int))) false)] (fun t => t) (by kernel_rfl) ?_
                      obtain rfl := Option.some.inj H
                      exact And.intro rfl rfl
                    | inr y178 =>
                      replace H := ofInr H
                      intro e s q
                      obtain ⟨rfl, rfl⟩ := q
                      obtain rfl := Option.some.inj H
                      exact And.intro (by simp) (And.intro rfl rfl)
              · refine ite_f c144 (by kernel_rfl) ?_
                refine tell [] [] [] (fun t => t) (by kernel_rfl) ?_
                refine ends_exit ?_
                obtain rfl := Option.some.inj H
                exact And.intro (by simp) (And.intro rfl rfl)
            · clear h180
              cases y179 with
              | inl y181 =>
                replace H := ofInl H
                intro e s q
                obtain ⟨rfl, rfl⟩ := q
                change EndsI _ _ _ _ _ _
                refine seq_ops [] [] [(2, cB true)] [] (fun t => t) (by kernel_rfl) ?_
                refine ends_ret ?_
                obtain rfl := Option.some.inj H
                exact And.intro (.inl rfl) rfl
              | inr y182 =>
                replace H := ofInr H
                intro e s q
                obtain ⟨rfl, rfl⟩ := q
                obtain rfl := Option.some.inj H
                exact And.intro (.inl rfl) rfl
          | inr y68 =>
            replace H := ofInr H
            intro e s q
            obtain ⟨rfl, rfl⟩ := q
            obtain rfl := Option.some.inj H
            exact And.intro (.inl rfl) rfl

theorem g_IndexFunc_int_c1_ok (p0 : (List Int)) (cf1 : FuncId) (cs1_0 : List AC) (f1 : Int → Option Bool) (hf1 : ∀ q0 r, f1 q0 = some r → FnOk Tryz.prog gl cf1 [cI q0, .c (.pd cs1_0 0)] (cB r)) (r : Int) (H : X.g_IndexFunc_int p0 f1 = some r) : FnOk Tryz.prog gl 247 [.c (dat 1 eI zI p0), .c (.clo cf1 [.pd cs1_0 0])] (cI r) := by
  unfold X.g_IndexFunc_int at H
  refine fn_in (fn := Tryz.f247) (ir := g_IndexFunc_int_ir) (s1 := lit [(4, cI r)] []) Tryz.func247 (by kernel_rfl) (by kernel_rfl) (by kernel_rfl) (by kernel_rfl) (by kernel_rfl) ?_
  refine seq_ops [] [] [(0, .c (dat 1 eI zI p0)), (1, .c (.clo cf1 [.pd cs1_0 0]))] [] (fun t => t) (by kernel_rfl) ?_
  refine seq_in ?_
  refine seq_ops [] [] [(0, .c (dat 1 eI zI p0)), (1, .c (.clo cf1 [.pd cs1_0 0])), (7, cI (p0.length : Int)), (8, cI 0)] [] (fun t => lI p0 (t)) (by kernel_rfl) ?_
  refine ends_blk ?_
  obtain ⟨y24, h25, H⟩ := ofBind H
  refine loop_in (fun (x : Int) => lit [(0, .c (dat 1 eI zI p0)), (1, .c (.clo cf1 [.pd cs1_0 0])), (7, cI (p0.length : Int)), (8, cI x)] []) (orJ (fun (z : Unit) => At (.exit 0) (lit [] [])) (fun (z : Int) => At .ret (lit [(4, cI z)] []))) h25 ?_ ?_
  · clear H h25
    intro x16 y0 H
    refine seq_ops [] [] [(0, .c (dat 1 eI zI p0)), (1, .c (.clo cf1 [.pd cs1_0 0])), (7, cI (p0.length : Int)), (8, cI x16), (9, cB (decide (x16 < (p0.length : Int))))] [] (fun t => t) (by kernel_rfl) ?_
    refine seq_in ?_
    rcases ofCond H with ⟨c18, H⟩ | ⟨c18, H⟩
    · refine ite_t c18 (by kernel_rfl) ?_
      refine ends_skip ?_
      change EndsI _ _ _ _ _ _
      refine seq_in ?_
      refine ends_blk ?_
      refine seq_ops [] [] [(0, .c (dat 1 eI zI p0)), (1, .c (.clo cf1 [.pd cs1_0 0])), (5, cI x16), (7, cI (p0.length : Int)), (8, cI x16)] [] (fun t => t) (by kernel_rfl) ?_
      obtain ⟨v19, h20, H⟩ := ofBind H
      obtain ⟨v21, h22, H⟩ := ofBind H
      refine seq_ops [.cs (eI v19), .res (cB v21)] [] [(0, .c (dat 1 eI zI p0)), (1, .c (.clo cf1 [.pd cs1_0 0])), (5, cI x16), (7, cI (p0.length : Int)), (8, cI x16), (16, cB v21)] [] (fun t => aI (at_lt h20) (aI (at_enc (enc := eI) h20) (aI (hf1 v19 v21 h22) (t)))) (by kernel_rfl) ?_
      rcases ofCond H with ⟨c23, H⟩ | ⟨c23, H⟩
      · refine ite_t c23 (by kernel_rfl) ?_
        refine seq_ops [] [] [(4, cI x16)] [] (fun t => t) (by kernel_rfl) ?_
        refine ends_ret ?_
        obtain rfl := Option.some.inj H
        exact And.intro (by simp) (And.intro rfl rfl)
      · refine ite_f c23 (by kernel_rfl) ?_
        refine ends_skip ?_
        change EndsI _ _ _ _ _ _
        refine one_ops [] [] [(0, .c (dat 1 eI zI p0)), (1, .c (.clo cf1 [.pd cs1_0 0])), (7, cI (p0.length : Int)), (8, cI (W (x16 + 1)))] [] (fun t => t) (by kernel_rfl) ?_
        obtain rfl := Option.some.inj H
        exact And.intro rfl rfl
    · refine ite_f c18 (by kernel_rfl) ?_
      refine tell [] [] [] (fun t => t) (by kernel_rfl) ?_
      refine ends_exit ?_
      obtain rfl := Option.some.inj H
      exact And.intro (by simp) (And.intro rfl rfl)
  · clear h25
    cases y24 with
    | inl y26 =>
      replace H := ofInl H
      intro e s q
      obtain ⟨rfl, rfl⟩ := q
      change EndsI _ _ _ _ _ _
      refine seq_ops [] [] [(4, cI (-1))] [] (fun t => t) (by kernel_rfl) ?_
      refine ends_ret ?_
      obtain rfl := Option.some.inj H
      exact And.intro (.inl rfl) rfl
    | inr y27 =>
      replace H := ofInr H
      intro e s q
      obtain ⟨rfl, rfl⟩ := q
      obtain rfl := Option.some.inj H
      exact And.intro (.inl rfl) rfl

theorem g_ContainsFunc_int_c1_ok (p0 : (List Int)) (cf1 : FuncId) (cs1_0 : List AC) (f1 : Int → Option Bool) (hf1 : ∀ q0 r, f1 q0 = some r → FnOk Tryz.prog gl cf1 [cI q0, .c (.pd cs1_0 0)] (cB r)) (r : Bool) (H : X.g_ContainsFunc_int p0 f1 = some r) : FnOk Tryz.prog gl 193 [.c (dat 1 eI zI p0), .c (.clo cf1 [.pd cs1_0 0])] (cB r) := by
  unfold X.g_ContainsFunc_int at H
  refine fn_in (fn := Tryz.f193) (ir := g_ContainsFunc_int_ir) (s1 := lit [(4, cB r)] []) Tryz.func193 (by kernel_rfl) (by kernel_rfl) (by kernel_rfl) (by kernel_rfl) (by kernel_rfl) ?_
  refine seq_ops [] [] [(0, .c (dat 1 eI zI p0)), (1, .c (.clo cf1 [.pd cs1_0 0]))] [] (fun t => t) (by kernel_rfl) ?_
  obtain ⟨v1, h2, H⟩ := ofBind H
  refine seq_ops [.res (cI v1)] [] [(4, cB (decide (v1 ≥ 0)))] [] (fun t => aI (g_IndexFunc_int_c1_ok p0 (cf1) (cs1_0) f1 hf1 v1 h2) (t)) (by kernel_rfl) ?_
  refine ends_ret ?_
  obtain rfl := Option.some.inj H
  exact And.intro (.inl rfl) rfl

def i_IsBoard_1_ir : S :=
 (.seq (.ops [⟨some 3, .mv (.v (.bool false)), none⟩])
 (.seq (.ops [⟨some 4, .mv (.t 0), none⟩, ⟨some 5, .fad 0 (.t 1), none⟩, ⟨some 6, .fad 0 (.t 5), none⟩, ⟨some 7, .load 1 false (.t 6), none⟩, ⟨some 8, .len (.t 7), none⟩, ⟨some 9, .bin .geq (.t 4) (.t 8), none⟩, ⟨some 3, .mv (.t 9), none⟩])
 .ret))
noncomputable def X.i_IsBoard_1 (p0 : Int) (p1 : TBoard) : Option Bool :=
  some (decide (p0 ≥ (p1.Rules.Terrains.length : Int)))
theorem i_IsBoard_1_ok (p0 : Int) (p1 : TBoard) (r : Bool) (H : X.i_IsBoard_1 p0 p1 = some r) : FnOk Tryz.prog gl 194 [cI p0, .c (.pd (eTBoard p1) 0)] (cB r) := by
  unfold X.i_IsBoard_1 at H
  refine fn_in (fn := Tryz.f194) (ir := i_IsBoard_1_ir) (s1 := lit [(3, cB r)] []) Tryz.func194 (by kernel_rfl) (by kernel_rfl) (by kernel_rfl) (by kernel_rfl) (by kernel_rfl) ?_
  refine seq_ops [] [] [(0, cI p0), (1, .c (.pd (eTBoard p1) 0))] [] (fun t => t) (by kernel_rfl) ?_
  refine seq_ops [] [] [(3, cB (decide (p0 ≥ (p1.Rules.Terrains.length : Int))))] [] (fun t => lI p1.Rules.Terrains (t)) (by kernel_rfl) ?_
  refine ends_ret ?_
  obtain rfl := Option.some.inj H
  exact And.intro (.inl rfl) rfl

def i_IsBoard_ir : S :=
 (.seq (.ops [⟨some 1, .box 12 (.t 0), none⟩, ⟨some 2, .mv (.v (.bool false)), none⟩])
 (.seq (.seq (.ops [⟨some 3, .fad 0 (.t 1), none⟩, ⟨some 4, .load 7 true (.t 3), none⟩, ⟨some 5, .call 191 [.t 4], none⟩, ⟨some 6, .not (.t 5), none⟩, ⟨some 7, .mv (.t 6), none⟩, ⟨some 8, .fad 7 (.t 1), some (7, false)⟩, ⟨some 9, .load 5 true (.t 8), some (7, false)⟩, ⟨some 10, .call 192 [.t 9], some (7, false)⟩, ⟨some 11, .not (.t 10), some (7, false)⟩, ⟨some 12, .pick (.t 7) (.v (.bool true)) (.t 11), none⟩])
 (.ite (.t 12) (.seq (.ops [⟨some 2, .mv (.v (.bool false)), none⟩])
  .ret)
 .skip))
 (.seq (.ops [⟨some 13, .fad 7 (.t 1), none⟩, ⟨some 14, .fad 2 (.t 13), none⟩, ⟨some 15, .load 1 false (.t 14), none⟩, ⟨some 16, .clo 194 [.t 1], none⟩, ⟨some 17, .call 193 [.t 15, .t 16], none⟩, ⟨some 18, .not (.t 17), none⟩, ⟨some 2, .mv (.t 18), none⟩])
 .ret)))
noncomputable def X.i_IsBoard (p0 : TBoard) : Option Bool :=
  ((X.i_IsRules p0.Rules).bind fun v7 => (bif (!v7) then some false else ((X.i_IsMap p0.Map).bind fun v10 => (bif (!v10) then some false else ((X.g_ContainsFunc_int p0.Map.Terrain (fun q0 => X.i_IsBoard_1 q0 p0)).bind fun v13 => some (!v13))))))
theorem i_IsBoard_ok (p0 : TBoard) (r : Bool) (H : X.i_IsBoard p0 = some r) : FnOk Tryz.prog gl 137 [.agg (eTBoard p0)] (cB r) := by
  unfold X.i_IsBoard at H
  refine fn_in (fn := Tryz.f137) (ir := i_IsBoard_ir) (s1 := lit [(2, cB r)] []) Tryz.func137 (by kernel_rfl) (by kernel_rfl) (by kernel_rfl) (by kernel_rfl) (by kernel_rfl) ?_
  refine seq_ops [] [] [(1, .c (.pk 1 0))] [(1, .var (eTBoard p0) false)] (fun t => t) (by kernel_rfl) ?_
  refine seq_in ?_
  obtain ⟨v7, h8, H⟩ := ofBind H
  rcases ofCond H with ⟨c9, H⟩ | ⟨c9, H⟩
  · refine seq_ops [.res (cB v7), .g true, .g true, .g true, .g true, .g true] [] [(1, .c (.pk 1 0)), (12, cB true)] [(1, .var (eTBoard p0) false)] (fun t => aI (i_IsRules_ok p0.Rules v7 h8) (aI c9 (aI c9 (aI c9 (aI c9 (aI c9 (t))))))) (by kernel_rfl) ?_
    refine ite_t (rfl : (true : Bool) = true) (by kernel_rfl) ?_
    refine seq_ops [] [] [(2, cB false)] [] (fun t => t) (by kernel_rfl) ?_
    refine ends_ret ?_
    obtain rfl := Option.some.inj H
    exact And.intro (.inl rfl) rfl
  · obtain ⟨v10, h11, H⟩ := ofBind H
    refine seq_ops [.res (cB v7), .g false, .g false, .g false, .res (cB v10), .g false, .g false] [] [(1, .c (.pk 1 0)), (12, cB (!v10))] [(1, .var (eTBoard p0) false)] (fun t => aI (i_IsRules_ok p0.Rules v7 h8) (aI c9 (aI c9 (aI c9 (aI (i_IsMap_ok p0.Map v10 h11) (aI c9 (aI c9 (t)))))))) (by kernel_rfl) ?_
    rcases ofCond H with ⟨c12, H⟩ | ⟨c12, H⟩
    · refine ite_t c12 (by kernel_rfl) ?_
      refine seq_ops [] [] [(2, cB false)] [] (fun t => t) (by kernel_rfl) ?_
      refine ends_ret ?_
      obtain rfl := Option.some.inj H
      exact And.intro (.inl rfl) rfl
    · refine ite_f c12 (by kernel_rfl) ?_
      refine ends_skip ?_
      change EndsI _ _ _ _ _ _
      obtain ⟨v13, h14, H⟩ := ofBind H
      refine seq_ops [.res (cB v13)] [] [(2, cB (!v13))] [] (fun t => aI (g_ContainsFunc_int_c1_ok p0.Map.Terrain (194) (eTBoard p0) (fun q0 => X.i_IsBoard_1 q0 p0) (fun q0 r h => i_IsBoard_1_ok q0 p0 r h) v13 h14) (t)) (by kernel_rfl) ?_
      refine ends_ret ?_
      obtain rfl := Option.some.inj H
      exact And.intro (.inl rfl) rfl

def i_fits_ir : S :=
 (.seq (.ops [⟨some 2, .box 12 (.t 0), none⟩, ⟨some 3, .box 3 (.t 1), none⟩, ⟨some 4, .mv (.v (.bool false)), none⟩])
 (.seq (.ops [⟨some 5, .load 12 true (.t 2), none⟩, ⟨some 6, .call 137 [.t 5], none⟩, ⟨some 7, .mv (.t 6), none⟩, ⟨some 8, .load 12 true (.t 2), some (7, true)⟩, ⟨some 9, .load 3 true (.t 3), some (7, true)⟩, ⟨some 10, .call 98 [.t 8, .t 9], some (7, true)⟩, ⟨some 11, .pick (.t 7) (.t 10) (.v (.bool false)), none⟩, ⟨some 4, .mv (.t 11), none⟩])
 .ret))
noncomputable def X.i_fits (p0 : TBoard) (p1 : TState) : Option Bool :=
  ((X.i_IsBoard p0).bind fun v1 => (bif v1 then ((X.i_goodState p0 p1).bind fun v4 => some v4) else some false))
theorem i_fits_ok (p0 : TBoard) (p1 : TState) (r : Bool) (H : X.i_fits p0 p1 = some r) : FnOk Tryz.prog gl 112 [.agg (eTBoard p0), .agg (eTState p1)] (cB r) := by
  unfold X.i_fits at H
  refine fn_in (fn := Tryz.f112) (ir := i_fits_ir) (s1 := lit [(4, cB r)] []) Tryz.func112 (by kernel_rfl) (by kernel_rfl) (by kernel_rfl) (by kernel_rfl) (by kernel_rfl) ?_
  refine seq_ops [] [] [(2, .c (.pk 2 0)), (3, .c (.pk 3 0))] [(2, .var (eTBoard p0) false), (3, .var (eTState p1) false)] (fun t => t) (by kernel_rfl) ?_
  obtain ⟨v1, h2, H⟩ := ofBind H
  rcases ofCond H with ⟨c3, H⟩ | ⟨c3, H⟩
  · obtain ⟨v4, h5, H⟩ := ofBind H
    refine seq_ops [.res (cB v1), .g true, .g true, .g true, .res (cB v4), .g true] [] [(4, cB v4)] [] (fun t => aI (i_IsBoard_ok p0 v1 h2) (aI c3 (aI c3 (aI c3 (aI (i_goodState_ok p0 p1 v4 h5) (aI c3 (t))))))) (by kernel_rfl) ?_
    refine ends_ret ?_
    obtain rfl := Option.some.inj H
    exact And.intro (.inl rfl) rfl
  · refine seq_ops [.res (cB v1), .g false, .g false, .g false, .g false] [] [(4, cB false)] [] (fun t => aI (i_IsBoard_ok p0 v1 h2) (aI c3 (aI c3 (aI c3 (aI c3 (t)))))) (by kernel_rfl) ?_
    refine ends_ret ?_
    obtain rfl := Option.some.inj H
    exact And.intro (.inl rfl) rfl

def i_goodConditions_ir : S :=
 (.seq (.ops [⟨some 2, .box 12 (.t 0), none⟩, ⟨some 3, .box 3 (.t 1), none⟩, ⟨some 4, .mv (.v (.bool false)), none⟩])
 (.seq (.seq (.ops [⟨some 7, .fad 0 (.t 3), none⟩, ⟨some 8, .load 1 false (.t 7), none⟩, ⟨some 9, .len (.t 8), none⟩, ⟨some 10, .bin .gtr (.t 9) (.v (.int .i64 12)), none⟩, ⟨some 11, .mv (.t 10), none⟩, ⟨some 12, .fad 1 (.t 3), some (11, false)⟩, ⟨some 13, .load 1 false (.t 12), some (11, false)⟩, ⟨some 14, .call 130 [.t 13, .v (.int .i64 0), .v (.int .i64 9)], some (11, false)⟩, ⟨some 15, .not (.t 14), some (11, false)⟩, ⟨some 16, .pick (.t 11) (.v (.bool true)) (.t 15), none⟩, ⟨some 17, .mv (.t 16), none⟩, ⟨some 18, .fad 2 (.t 3), some (17, false)⟩, ⟨some 19, .load 1 false (.t 18), some (17, false)⟩, ⟨some 20, .call 130 [.t 19, .v (.int .i64 0), .v (.int .i64 200)], some (17, false)⟩, ⟨some 21, .not (.t 20), some (17, false)⟩, ⟨some 22, .pick (.t 17) (.v (.bool true)) (.t 21), none⟩])
 (.ite (.t 22) (.seq (.ops [⟨some 4, .mv (.v (.bool false)), none⟩])
  .ret)
 .skip))
 (.seq (.seq (.ops [⟨some 23, .fad 0 (.t 3), none⟩, ⟨some 24, .load 1 false (.t 23), none⟩, ⟨some 25, .len (.t 24), none⟩, ⟨some 26, .mv (.v (.int .i64 0)), none⟩])
 (.blk 0 (.loop (.seq (.ops [⟨some 27, .bin .lss (.t 26) (.t 25), none⟩])
   (.seq (.ite (.t 27) .skip
   (.exit 0))
   (.seq (.blk 1 (.seq (.ops [⟨some 28, .mv (.t 26), none⟩, ⟨some 29, .iad 2 (.t 24) (.t 26), none⟩, ⟨some 30, .load 2 true (.t 29), none⟩, ⟨some 6, .alloc [.int .i64 0, .int .i64 0], none⟩, ⟨some 5, .mv (.t 28), none⟩, ⟨none, .store 2 (.t 6) (.t 30), none⟩])
    (.seq (.draw 28 [⟨some 31, .fad 0 (.t 6), none⟩, ⟨some 32, .load 1 false (.t 31), none⟩, ⟨some 33, .load 12 true (.t 2), none⟩, ⟨some 34, .call 83 [.t 33], none⟩, ⟨some 35, .call 82 [.t 32, .t 34], none⟩, ⟨some 36, .not (.t 35), none⟩, ⟨some 37, .mv (.t 36), none⟩, ⟨some 38, .fad 1 (.t 6), some (37, false)⟩, ⟨some 39, .load 1 false (.t 38), some (37, false)⟩, ⟨some 40, .call 130 [.t 39, .v (.int .i64 1), .v (.int .i64 20)], some (37, false)⟩, ⟨some 41, .not (.t 40), some (37, false)⟩, ⟨some 42, .pick (.t 37) (.v (.bool true)) (.t 41), none⟩, ⟨some 43, .mv (.t 42), none⟩, ⟨some 44, .mv (.t 5), some (43, false)⟩, ⟨some 45, .bin .gtr (.t 44) (.v (.int .i64 0)), some (43, false)⟩, ⟨some 46, .mv (.t 45), some (43, false)⟩, ⟨some 47, .fad 0 (.t 3), some (46, true)⟩, ⟨some 48, .load 1 false (.t 47), some (46, true)⟩, ⟨some 49, .mv (.t 5), some (46, true)⟩, ⟨some 50, .bin .sub (.t 49) (.v (.int .i64 1)), some (46, true)⟩, ⟨some 51, .iad 2 (.t 48) (.t 50), some (46, true)⟩, ⟨some 52, .fad 0 (.t 51), some (46, true)⟩, ⟨some 53, .load 1 false (.t 52), some (46, true)⟩, ⟨some 54, .fad 0 (.t 6), some (46, true)⟩, ⟨some 55, .load 1 false (.t 54), some (46, true)⟩, ⟨some 56, .bin .geq (.t 53) (.t 55), some (46, true)⟩, ⟨some 57, .pick (.t 46) (.t 56) (.v (.bool false)), some (43, false)⟩, ⟨some 58, .pick (.t 43) (.v (.bool true)) (.t 57), none⟩])
    (.ite (.t 58) (.seq (.ops [⟨some 4, .mv (.v (.bool false)), none⟩])
     .ret)
    .skip))))
   (.ops [⟨some 59, .bin .add (.t 26) (.v (.int .i64 1)), none⟩, ⟨some 26, .mv (.t 59), none⟩])))))))
 (.seq (.ops [⟨some 4, .mv (.v (.bool true)), none⟩])
 .ret))))
noncomputable def X.i_goodConditions (p0 : TBoard) (p1 : TConditions) : Option Bool :=
  (bif (decide ((p1.Goals.length : Int) > 12)) then some false else ((X.i_inRange p1.Step 0 9).bind fun v9 => (bif (!v9) then some false else ((X.i_inRange p1.Margin 0 200).bind fun v12 => (bif (!v12) then some false else ((loop (fun (x48 : Int) => ((bif (decide (x48 < (p1.Goals.length : Int))) then ((at' zTGoal p1.Goals x48).bind fun v51 => ((X.i_sizeOf p0).bind fun v53 => ((X.i_isIndex v51.At v53).bind fun v55 => (bif (!v55) then some (Sum.inr (Sum.inr false)) else ((X.i_inRange v51.Points 1 20).bind fun v58 => (bif (!v58) then some (Sum.inr (Sum.inr false)) else (bif (decide (x48 > 0)) then ((at' zTGoal p1.Goals (W (x48 - 1))).bind fun v62 => (bif (decide (v62.At ≥ v51.At)) then some (Sum.inr (Sum.inr false)) else some (Sum.inl (W (x48 + 1))))) else some (Sum.inl (W (x48 + 1)))))))))) else some (Sum.inr (Sum.inl ()))) : Option (Int ⊕ (Unit ⊕ Bool)))) 0).bind fun y65 => (Sum.elim (fun (y67 : Unit) => some true) (fun (y68 : Bool) => some y68) y65)))))))
theorem i_goodConditions_ok (p0 : TBoard) (p1 : TConditions) (r : Bool) (H : X.i_goodConditions p0 p1 = some r) : FnOk Tryz.prog gl 155 [.agg (eTBoard p0), .agg (eTConditions p1)] (cB r) := by
  unfold X.i_goodConditions at H
  refine fn_in (fn := Tryz.f155) (ir := i_goodConditions_ir) (s1 := lit [(4, cB r)] []) Tryz.func155 (by kernel_rfl) (by kernel_rfl) (by kernel_rfl) (by kernel_rfl) (by kernel_rfl) ?_
  refine seq_ops [] [] [(2, .c (.pk 2 0)), (3, .c (.pk 3 0))] [(2, .var (eTBoard p0) false), (3, .var (eTConditions p1) false)] (fun t => t) (by kernel_rfl) ?_
  refine seq_in ?_
  rcases ofCond H with ⟨c8, H⟩ | ⟨c8, H⟩
  · refine seq_ops [.g true, .g true, .g true, .g true, .g true, .g true, .g true, .g true, .g true, .g true] [] [(2, .c (.pk 2 0)), (3, .c (.pk 3 0)), (22, cB true)] [(2, .var (eTBoard p0) false), (3, .var (eTConditions p1) false)] (fun t => lI p1.Goals (aI c8 (aI c8 (aI c8 (aI c8 (aI c8 (aI (rfl : (true : Bool) = true) (aI (rfl : (true : Bool) = true) (aI (rfl : (true : Bool) = true) (aI (rfl : (true : Bool) = true) (aI (rfl : (true : Bool) = true) (t)))))))))))) (by kernel_rfl) ?_
    refine ite_t (rfl : (true : Bool) = true) (by kernel_rfl) ?_
    refine seq_ops [] [] [(4, cB false)] [] (fun t => t) (by kernel_rfl) ?_
    refine ends_ret ?_
    obtain rfl := Option.some.inj H
    exact And.intro (.inl rfl) rfl
  · obtain ⟨v9, h10, H⟩ := ofBind H
    rcases ofCond H with ⟨c11, H⟩ | ⟨c11, H⟩
    · refine seq_ops [.g false, .g false, .g false, .res (cB v9), .g false, .g false, .g true, .g true, .g true, .g true, .g true] [] [(2, .c (.pk 2 0)), (3, .c (.pk 3 0)), (22, cB true)] [(2, .var (eTBoard p0) false), (3, .var (eTConditions p1) false)] (fun t => lI p1.Goals (aI c8 (aI c8 (aI c8 (aI (i_inRange_ok p1.Step 0 9 v9 h10) (aI c8 (aI c8 (aI c11 (aI c11 (aI c11 (aI c11 (aI c11 (t))))))))))))) (by kernel_rfl) ?_
      refine ite_t (rfl : (true : Bool) = true) (by kernel_rfl) ?_
      refine seq_ops [] [] [(4, cB false)] [] (fun t => t) (by kernel_rfl) ?_
      refine ends_ret ?_
      obtain rfl := Option.some.inj H
      exact And.intro (.inl rfl) rfl
    · obtain ⟨v12, h13, H⟩ := ofBind H
      refine seq_ops [.g false, .g false, .g false, .res (cB v9), .g false, .g false, .g false, .g false, .g false, .res (cB v12), .g false, .g false] [] [(2, .c (.pk 2 0)), (3, .c (.pk 3 0)), (22, cB (!v12))] [(2, .var (eTBoard p0) false), (3, .var (eTConditions p1) false)] (fun t => lI p1.Goals (aI c8 (aI c8 (aI c8 (aI (i_inRange_ok p1.Step 0 9 v9 h10) (aI c8 (aI c8 (aI c11 (aI c11 (aI c11 (aI (i_inRange_ok p1.Margin 0 200 v12 h13) (aI c11 (aI c11 (t)))))))))))))) (by kernel_rfl) ?_
      rcases ofCond H with ⟨c14, H⟩ | ⟨c14, H⟩
      · refine ite_t c14 (by kernel_rfl) ?_
        refine seq_ops [] [] [(4, cB false)] [] (fun t => t) (by kernel_rfl) ?_
        refine ends_ret ?_
        obtain rfl := Option.some.inj H
        exact And.intro (.inl rfl) rfl
      · refine ite_f c14 (by kernel_rfl) ?_
        refine ends_skip ?_
        change EndsI _ _ _ _ _ _
        refine seq_in ?_
        refine seq_ops [] [] [(2, .c (.pk 2 0)), (3, .c (.pk 3 0)), (24, .c (dat 2 eTGoal zTGoal p1.Goals)), (25, cI (p1.Goals.length : Int)), (26, cI 0)] [(2, .var (eTBoard p0) false), (3, .var (eTConditions p1) false)] (fun t => lI p1.Goals (t)) (by kernel_rfl) ?_
        refine ends_blk ?_
        obtain ⟨y65, h66, H⟩ := ofBind H
        refine loop_in (fun (x : Int) => lit [(2, .c (.pk 2 0)), (3, .c (.pk 3 0)), (24, .c (dat 2 eTGoal zTGoal p1.Goals)), (25, cI (p1.Goals.length : Int)), (26, cI x)] [(2, .var (eTBoard p0) false), (3, .var (eTConditions p1) false)]) (orJ (fun (z : Unit) => At (.exit 0) (lit [] [])) (fun (z : Bool) => At .ret (lit [(4, cB z)] []))) h66 ?_ ?_
        · clear H h66
          intro x48 y0 H
          refine seq_ops [] [] [(2, .c (.pk 2 0)), (3, .c (.pk 3 0)), (24, .c (dat 2 eTGoal zTGoal p1.Goals)), (25, cI (p1.Goals.length : Int)), (26, cI x48), (27, cB (decide (x48 < (p1.Goals.length : Int))))] [(2, .var (eTBoard p0) false), (3, .var (eTConditions p1) false)] (fun t => t) (by kernel_rfl) ?_
          refine seq_in ?_
          rcases ofCond H with ⟨c50, H⟩ | ⟨c50, H⟩
          · refine ite_t c50 (by kernel_rfl) ?_
            refine ends_skip ?_
            change EndsI _ _ _ _ _ _
            refine seq_in ?_
            refine ends_blk ?_
            obtain ⟨v51, h52, H⟩ := ofBind H
            refine seq_ops [.cs (eTGoal v51)] [] [(2, .c (.pk 2 0)), (3, .c (.pk 3 0)), (5, cI x48), (6, .c (.pk 6 0)), (24, .c (dat 2 eTGoal zTGoal p1.Goals)), (25, cI (p1.Goals.length : Int)), (26, cI x48)] [(2, .var (eTBoard p0) false), (3, .var (eTConditions p1) false), (6, .var (eTGoal v51) false)] (fun t => aI (at_lt h52) (aI (at_enc (enc := eTGoal) h52) (t))) (by kernel_rfl) ?_
            obtain ⟨v53, h54, H⟩ := ofBind H
            obtain ⟨v55, h56, H⟩ := ofBind H
            rcases ofCond H with ⟨c57, H⟩ | ⟨c57, H⟩
            · refine seq_draw [.res (cI v53), .res (cB v55), .g true, .g true, .g true, .g true, .g true, .g true, .g true, .g true, .g true, .g true] [] [(2, .c (.pk 2 0)), (3, .c (.pk 3 0)), (24, .c (dat 2 eTGoal zTGoal p1.Goals)), (25, cI (p1.Goals.length : Int)), (26, cI x48), (58, cB true)] [(2, .var (eTBoard p0) false), (3, .var (eTConditions p1) false)] (fun t => aI (i_sizeOf_ok p0 v53 h54) (aI trivial (aI (rfl : ([] : List Nat) = []) (aI (i_isIndex_ok v51.At v53 v55 h56) (aI trivial (aI (rfl : ([] : List Nat) = []) (aI c57 (aI c57 (aI c57 (aI c57 (aI c57 (aI (rfl : (true : Bool) = true) (aI (rfl : (true : Bool) = true) (aI (rfl : (true : Bool) = true) (aI (rfl : (true : Bool) = true) (aI (rfl : (true : Bool) = true) (t))))))))))))))))) (by kernel_rfl) ?_
              refine ite_t (rfl : (true : Bool) = true) (by kernel_rfl) ?_
              refine seq_ops [] [] [(4, cB false)] [] (fun t => t) (by kernel_rfl) ?_
              refine ends_ret ?_
              obtain rfl := Option.some.inj H
              exact And.intro (by simp) (And.intro rfl rfl)
            · obtain ⟨v58, h59, H⟩ := ofBind H
              rcases ofCond H with ⟨c60, H⟩ | ⟨c60, H⟩
              · refine seq_draw [.res (cI v53), .res (cB v55), .g false, .g false, .g false, .res (cB v58), .g false, .g false, .g true, .g true, .g true, .g true, .g true] [] [(2, .c (.pk 2 0)), (3, .c (.pk 3 0)), (24, .c (dat 2 eTGoal zTGoal p1.Goals)), (25, cI (p1.Goals.length : Int)), (26, cI x48), (58, cB true)] [(2, .var (eTBoard p0) false), (3, .var (eTConditions p1) false)] (fun t => aI (i_sizeOf_ok p0 v53 h54) (aI trivial (aI (rfl : ([] : List Nat) = []) (aI (i_isIndex_ok v51.At v53 v55 h56) (aI trivial (aI (rfl : ([] : List Nat) = []) (aI c57 (aI c57 (aI c57 (aI (i_inRange_ok v51.Points 1 20 v58 h59) (aI trivial (aI (rfl : ([] : List Nat) = []) (aI c57 (aI c57 (aI c60 (aI c60 (aI c60 (aI c60 (aI c60 (t)))))))))))))))))))) (by kernel_rfl) ?_
                refine ite_t (rfl : (true : Bool) = true) (by kernel_rfl) ?_
                refine seq_ops [] [] [(4, cB false)] [] (fun t => t) (by kernel_rfl) ?_
                refine ends_ret ?_
                obtain rfl := Option.some.inj H
                exact And.intro (by simp) (And.intro rfl rfl)
              · rcases ofCond H with ⟨c61, H⟩ | ⟨c61, H⟩
                · obtain ⟨v62, h63, H⟩ := ofBind H
                  refine seq_draw [.res (cI v53), .res (cB v55), .g false, .g false, .g false, .res (cB v58), .g false, .g false, .g false, .g false, .g false, .g true, .g true, .g true, .g true, .g true, .cs (eTGoal v62), .g true, .g true, .g true, .g true, .g true, .g false, .g true, .g false] [] [(2, .c (.pk 2 0)), (3, .c (.pk 3 0)), (24, .c (dat 2 eTGoal zTGoal p1.Goals)), (25, cI (p1.Goals.length : Int)), (26, cI x48), (58, cB (decide (v62.At ≥ v51.At)))] [(2, .var (eTBoard p0) false), (3, .var (eTConditions p1) false)] (fun t => aI (i_sizeOf_ok p0 v53 h54) (aI trivial (aI (rfl : ([] : List Nat) = []) (aI (i_isIndex_ok v51.At v53 v55 h56) (aI trivial (aI (rfl : ([] : List Nat) = []) (aI c57 (aI c57 (aI c57 (aI (i_inRange_ok v51.Points 1 20 v58 h59) (aI trivial (aI (rfl : ([] : List Nat) = []) (aI c57 (aI c57 (aI c60 (aI c60 (aI c60 (aI c61 (aI c61 (aI c61 (aI c61 (aI c61 (aI (at_lt h63) (aI (at_enc (enc := eTGoal) h63) (aI c61 (aI c61 (aI (rfl : ([] : List Nat) = []) (aI c61 (aI c61 (aI c61 (aI c60 (aI c61 (aI c60 (t)))))))))))))))))))))))))))))))))) (by kernel_rfl) ?_
                  rcases ofCond H with ⟨c64, H⟩ | ⟨c64, H⟩
                  · refine ite_t c64 (by kernel_rfl) ?_
                    refine seq_ops [] [] [(4, cB false)] [] (fun t => t) (by kernel_rfl) ?_
                    refine ends_ret ?_
                    obtain rfl := Option.some.inj H
                    exact And.intro (by simp) (And.intro rfl rfl)
                  · refine ite_f c64 (by kernel_rfl) ?_
                    refine ends_skip ?_
                    change EndsI _ _ _ _ _ _
                    refine one_ops [] [] [(2, .c (.pk 2 0)), (3, .c (.pk 3 0)), (24, .c (dat 2 eTGoal zTGoal p1.Goals)), (25, cI (p1.Goals.length : Int)), (26, cI (W (x48 + 1)))] [(2, .var (eTBoard p0) false), (3, .var (eTConditions p1) false)] (fun t => t) (by kernel_rfl) ?_
                    obtain rfl := Option.some.inj H
                    exact And.intro rfl rfl
                · refine seq_draw [.res (cI v53), .res (cB v55), .g false, .g false, .g false, .res (cB v58), .g false, .g false, .g false, .g false, .g false, .g false, .g false, .g false, .g false, .g false, .g false, .g false, .g false, .g false, .g false, .g false, .g false, .g false] [] [(2, .c (.pk 2 0)), (3, .c (.pk 3 0)), (24, .c (dat 2 eTGoal zTGoal p1.Goals)), (25, cI (p1.Goals.length : Int)), (26, cI x48), (58, cB false)] [(2, .var (eTBoard p0) false), (3, .var (eTConditions p1) false)] (fun t => aI (i_sizeOf_ok p0 v53 h54) (aI trivial (aI (rfl : ([] : List Nat) = []) (aI (i_isIndex_ok v51.At v53 v55 h56) (aI trivial (aI (rfl : ([] : List Nat) = []) (aI c57 (aI c57 (aI c57 (aI (i_inRange_ok v51.Points 1 20 v58 h59) (aI trivial (aI (rfl : ([] : List Nat) = []) (aI c57 (aI c57 (aI c60 (aI c60 (aI c60 (aI c61 (aI c61 (aI c61 (aI c61 (aI c61 (aI c61 (aI c61 (aI c61 (aI c61 (aI c61 (aI c60 (aI c61 (aI c60 (t))))))))))))))))))))))))))))))) (by kernel_rfl) ?_
                  refine ite_f (rfl : (false : Bool) = false) (by kernel_rfl) ?_
                  refine ends_skip ?_
                  change EndsI _ _ _ _ _ _
                  refine one_ops [] [] [(2, .c (.pk 2 0)), (3, .c (.pk 3 0)), (24, .c (dat 2 eTGoal zTGoal p1.Goals)), (25, cI (p1.Goals.length : Int)), (26, cI (W (x48 + 1)))] [(2, .var (eTBoard p0) false), (3, .var (eTConditions p1) false)] (fun t => t) (by kernel_rfl) ?_
                  obtain rfl := Option.some.inj H
                  exact And.intro rfl rfl
          · refine ite_f c50 (by kernel_rfl) ?_
            refine tell [] [] [] (fun t => t) (by kernel_rfl) ?_
            refine ends_exit ?_
            obtain rfl := Option.some.inj H
            exact And.intro (by simp) (And.intro rfl rfl)
        · clear h66
          cases y65 with
          | inl y67 =>
            replace H := ofInl H
            intro e s q
            obtain ⟨rfl, rfl⟩ := q
            change EndsI _ _ _ _ _ _
            refine seq_ops [] [] [(4, cB true)] [] (fun t => t) (by kernel_rfl) ?_
            refine ends_ret ?_
            obtain rfl := Option.some.inj H
            exact And.intro (.inl rfl) rfl
          | inr y68 =>
            replace H := ofInr H
            intro e s q
            obtain ⟨rfl, rfl⟩ := q
            obtain rfl := Option.some.inj H
            exact And.intro (.inl rfl) rfl

def i_hasConditions_ir : S :=
 (.seq (.ops [⟨some 3, .box 12 (.t 0), none⟩, ⟨some 4, .box 3 (.t 1), none⟩, ⟨some 5, .box 3 (.t 2), none⟩, ⟨some 6, .mv (.v (.bool false)), none⟩])
 (.seq (.ops [⟨some 7, .load 12 true (.t 3), none⟩, ⟨some 8, .load 3 true (.t 4), none⟩, ⟨some 9, .call 112 [.t 7, .t 8], none⟩, ⟨some 10, .mv (.t 9), none⟩, ⟨some 11, .load 12 true (.t 3), some (10, true)⟩, ⟨some 12, .load 3 true (.t 5), some (10, true)⟩, ⟨some 13, .call 155 [.t 11, .t 12], some (10, true)⟩, ⟨some 14, .pick (.t 10) (.t 13) (.v (.bool false)), none⟩, ⟨some 6, .mv (.t 14), none⟩])
 .ret))
noncomputable def X.i_hasConditions (p0 : TBoard) (p1 : TState) (p2 : TConditions) : Option Bool :=
  ((X.i_fits p0 p1).bind fun v1 => (bif v1 then ((X.i_goodConditions p0 p2).bind fun v4 => some v4) else some false))
theorem i_hasConditions_ok (p0 : TBoard) (p1 : TState) (p2 : TConditions) (r : Bool) (H : X.i_hasConditions p0 p1 p2 = some r) : FnOk Tryz.prog gl 92 [.agg (eTBoard p0), .agg (eTState p1), .agg (eTConditions p2)] (cB r) := by
  unfold X.i_hasConditions at H
  refine fn_in (fn := Tryz.f92) (ir := i_hasConditions_ir) (s1 := lit [(6, cB r)] []) Tryz.func92 (by kernel_rfl) (by kernel_rfl) (by kernel_rfl) (by kernel_rfl) (by kernel_rfl) ?_
  refine seq_ops [] [] [(3, .c (.pk 3 0)), (4, .c (.pk 4 0)), (5, .c (.pk 5 0))] [(3, .var (eTBoard p0) false), (4, .var (eTState p1) false), (5, .var (eTConditions p2) false)] (fun t => t) (by kernel_rfl) ?_
  obtain ⟨v1, h2, H⟩ := ofBind H
  rcases ofCond H with ⟨c3, H⟩ | ⟨c3, H⟩
  · obtain ⟨v4, h5, H⟩ := ofBind H
    refine seq_ops [.res (cB v1), .g true, .g true, .g true, .res (cB v4), .g true] [] [(6, cB v4)] [] (fun t => aI (i_fits_ok p0 p1 v1 h2) (aI c3 (aI c3 (aI c3 (aI (i_goodConditions_ok p0 p2 v4 h5) (aI c3 (t))))))) (by kernel_rfl) ?_
    refine ends_ret ?_
    obtain rfl := Option.some.inj H
    exact And.intro (.inl rfl) rfl
  · refine seq_ops [.res (cB v1), .g false, .g false, .g false, .g false] [] [(6, cB false)] [] (fun t => aI (i_fits_ok p0 p1 v1 h2) (aI c3 (aI c3 (aI c3 (aI c3 (t)))))) (by kernel_rfl) ?_
    refine ends_ret ?_
    obtain rfl := Option.some.inj H
    exact And.intro (.inl rfl) rfl

def i_unitsOf_ir : S :=
 (.seq (.ops [⟨some 2, .box 3 (.t 0), none⟩, ⟨some 4, .mv (.v (.nil)), none⟩])
 (.seq (.ops [⟨some 8, .bsl 1 [], none⟩, ⟨some 5, .mv (.t 8), none⟩])
 (.seq (.seq (.ops [⟨some 9, .fad 2 (.t 2), none⟩, ⟨some 10, .load 1 false (.t 9), none⟩, ⟨some 11, .len (.t 10), none⟩, ⟨some 12, .mv (.v (.int .i64 0)), none⟩])
 (.blk 0 (.loop (.seq (.ops [⟨some 13, .bin .lss (.t 12) (.t 11), none⟩])
   (.seq (.ite (.t 13) .skip
   (.exit 0))
   (.seq (.blk 1 (.seq (.ops [⟨some 14, .mv (.t 12), none⟩, ⟨some 15, .iad 4 (.t 10) (.t 12), none⟩, ⟨some 16, .load 4 true (.t 15), none⟩, ⟨some 7, .alloc [.int .i64 0, .int .i64 0, .int .i64 0, .int .i64 0], none⟩, ⟨some 6, .mv (.t 14), none⟩, ⟨none, .store 4 (.t 7) (.t 16), none⟩])
    (.seq (.ops [⟨some 17, .fad 0 (.t 7), none⟩, ⟨some 18, .load 1 false (.t 17), none⟩, ⟨some 19, .mv (.t 1), none⟩, ⟨some 20, .bin .eql (.t 18) (.t 19), none⟩, ⟨some 21, .mv (.t 20), none⟩, ⟨some 22, .fad 2 (.t 7), some (21, true)⟩, ⟨some 23, .load 1 false (.t 22), some (21, true)⟩, ⟨some 24, .bin .geq (.t 23) (.v (.int .i64 0)), some (21, true)⟩, ⟨some 25, .pick (.t 21) (.t 24) (.v (.bool false)), none⟩])
    (.ite (.t 25) (.ops [⟨some 26, .mv (.t 5), none⟩, ⟨some 27, .mv (.t 6), none⟩, ⟨some 28, .bsl 1 [.t 27], none⟩, ⟨some 29, .app 1 8 (.t 26) (.t 28), none⟩, ⟨some 5, .mv (.t 29), none⟩])
    .skip))))
   (.ops [⟨some 30, .bin .add (.t 12) (.v (.int .i64 1)), none⟩, ⟨some 12, .mv (.t 30), none⟩])))))))
 (.seq (.ops [⟨some 31, .mv (.t 5), none⟩, ⟨some 4, .mv (.t 31), none⟩])
 .ret))))
noncomputable def X.i_unitsOf (p0 : TState) (p1 : Int) : Option (List Int) :=
  ((loop (fun (x16 : (Int × (List Int))) => ((bif (decide (x16.1 < (p0.Units.length : Int))) then ((at' zTUnit p0.Units x16.1).bind fun v19 => (bif (v19.Side == p1) then (bif (decide (v19.At ≥ 0)) then (if (x16.2 ++ ([x16.1] : List Int)).length ≤ LIM then some (Sum.inl ((W (x16.1 + 1)), (x16.2 ++ ([x16.1] : List Int)))) else none) else some (Sum.inl ((W (x16.1 + 1)), x16.2))) else some (Sum.inl ((W (x16.1 + 1)), x16.2)))) else some (Sum.inr x16.2)) : Option ((Int × (List Int)) ⊕ (List Int)))) (0, ([] : List Int))).bind fun y24 => some y24)
theorem i_unitsOf_ok (p0 : TState) (p1 : Int) (r : (List Int)) (H : X.i_unitsOf p0 p1 = some r) : FnOk Tryz.prog gl 93 [.agg (eTState p0), cI p1] (.c (dat 1 eI zI r)) := by
  unfold X.i_unitsOf at H
  refine fn_in (fn := Tryz.f93) (ir := i_unitsOf_ir) (s1 := lit [(4, .c (dat 1 eI zI r))] []) Tryz.func93 (by kernel_rfl) (by kernel_rfl) (by kernel_rfl) (by kernel_rfl) (by kernel_rfl) ?_
  refine seq_ops [] [] [(1, cI p1), (2, .c (.pk 2 0))] [(2, .var (eTState p0) false)] (fun t => t) (by kernel_rfl) ?_
  refine seq_ops [.fn ([] : List Int).length (fF eI zI ([] : List Int))] [] [(1, cI p1), (2, .c (.pk 2 0)), (5, .c (.own 8 1 0 (([] : List Int).length)))] [(2, .var (eTState p0) false), (8, .arr 1 (([] : List Int).length) (fF eI zI ([] : List Int)) false)] (fun t => aI (rfl : ([] : List Int).length = 0) (aI (fF_lit eI zI ([] : List Int)) (t))) (by kernel_rfl) ?_
  refine seq_in ?_
  refine seq_ops [] [] [(1, cI p1), (5, .c (.own 8 1 0 (([] : List Int).length))), (10, .c (dat 4 eTUnit zTUnit p0.Units)), (11, cI (p0.Units.length : Int)), (12, cI 0)] [(8, .arr 1 (([] : List Int).length) (fF eI zI ([] : List Int)) false)] (fun t => lI p0.Units (t)) (by kernel_rfl) ?_
  refine ends_blk ?_
  obtain ⟨y24, h25, H⟩ := ofBind H
  refine tell [.ren 8 1001] [(1, cI p1), (5, .c (.own 1001 1 0 (([] : List Int).length))), (10, .c (dat 4 eTUnit zTUnit p0.Units)), (11, cI (p0.Units.length : Int)), (12, cI 0)] [(1001, .arr 1 (([] : List Int).length) (fF eI zI ([] : List Int)) false)] (fun t => t) (by kernel_rfl) ?_
  refine loop_in (fun (x : (Int × (List Int))) => lit [(1, cI p1), (5, .c (.own 1001 1 0 x.2.length)), (10, .c (dat 4 eTUnit zTUnit p0.Units)), (11, cI (p0.Units.length : Int)), (12, cI x.1)] [(1001, .arr 1 x.2.length (fF eI zI x.2) false)]) (fun (z : (List Int)) => At (.exit 0) (lit [(5, .c (.own 1001 1 0 z.length))] [(1001, .arr 1 z.length (fF eI zI z) false)])) h25 ?_ ?_
  · clear H h25
    intro x16 y0 H
    refine seq_ops [] [] [(1, cI p1), (5, .c (.own 1001 1 0 x16.2.length)), (10, .c (dat 4 eTUnit zTUnit p0.Units)), (11, cI (p0.Units.length : Int)), (12, cI x16.1), (13, cB (decide (x16.1 < (p0.Units.length : Int))))] [(1001, .arr 1 x16.2.length (fF eI zI x16.2) false)] (fun t => t) (by kernel_rfl) ?_
    refine seq_in ?_
    rcases ofCond H with ⟨c18, H⟩ | ⟨c18, H⟩
    · refine ite_t c18 (by kernel_rfl) ?_
      refine ends_skip ?_
      change EndsI _ _ _ _ _ _
      refine seq_in ?_
      refine ends_blk ?_
      obtain ⟨v19, h20, H⟩ := ofBind H
      refine seq_ops [.cs (eTUnit v19)] [] [(1, cI p1), (5, .c (.own 1001 1 0 x16.2.length)), (6, cI x16.1), (7, .c (.pk 7 0)), (10, .c (dat 4 eTUnit zTUnit p0.Units)), (11, cI (p0.Units.length : Int)), (12, cI x16.1)] [(7, .var (eTUnit v19) false), (1001, .arr 1 x16.2.length (fF eI zI x16.2) false)] (fun t => aI (at_lt h20) (aI (at_enc (enc := eTUnit) h20) (t))) (by kernel_rfl) ?_
      rcases ofCond H with ⟨c21, H⟩ | ⟨c21, H⟩
      · refine seq_ops [.g true, .g true, .g true, .g true] [] [(1, cI p1), (5, .c (.own 1001 1 0 x16.2.length)), (6, cI x16.1), (10, .c (dat 4 eTUnit zTUnit p0.Units)), (11, cI (p0.Units.length : Int)), (12, cI x16.1), (25, cB (decide (v19.At ≥ 0)))] [(1001, .arr 1 x16.2.length (fF eI zI x16.2) false)] (fun t => aI c21 (aI c21 (aI c21 (aI c21 (t))))) (by kernel_rfl) ?_
        rcases ofCond H with ⟨c22, H⟩ | ⟨c22, H⟩
        · refine ite_t c22 (by kernel_rfl) ?_
          obtain ⟨g23, H⟩ := ofIf H
          refine one_ops [.fn ([x16.1] : List Int).length (fF eI zI ([x16.1] : List Int)), .fn (x16.2 ++ ([x16.1] : List Int)).length (fF eI zI (x16.2 ++ ([x16.1] : List Int)))] [] [(1, cI p1), (5, .c (.own 29 1 0 ((x16.2 ++ ([x16.1] : List Int)).length))), (10, .c (dat 4 eTUnit zTUnit p0.Units)), (11, cI (p0.Units.length : Int)), (12, cI x16.1)] [(29, .arr 1 ((x16.2 ++ ([x16.1] : List Int)).length) (fF eI zI (x16.2 ++ ([x16.1] : List Int))) false)] (fun t => aI (rfl : ([x16.1] : List Int).length = 1) (aI (fF_lit eI zI ([x16.1] : List Int)) (aI (And.intro (Nat.le_refl x16.2.length) (And.intro (@List.length_append _ x16.2 ([x16.1] : List Int)) g23)) (aI (fF_appL eI zI x16.2 ([x16.1] : List Int)) (aI (fF_appR eI zI x16.2 ([x16.1] : List Int)) (t)))))) (by kernel_rfl) ?_
          change EndsI _ _ _ _ _ _
          refine one_ops [] [.ren 29 1001] [(1, cI p1), (5, .c (.own 1001 1 0 ((x16.2 ++ ([x16.1] : List Int)).length))), (10, .c (dat 4 eTUnit zTUnit p0.Units)), (11, cI (p0.Units.length : Int)), (12, cI (W (x16.1 + 1)))] [(1001, .arr 1 ((x16.2 ++ ([x16.1] : List Int)).length) (fF eI zI (x16.2 ++ ([x16.1] : List Int))) false)] (fun t => t) (by kernel_rfl) ?_
          obtain rfl := Option.some.inj H
          exact And.intro rfl rfl
        · refine ite_f c22 (by kernel_rfl) ?_
          refine ends_skip ?_
          change EndsI _ _ _ _ _ _
          refine one_ops [] [] [(1, cI p1), (5, .c (.own 1001 1 0 x16.2.length)), (10, .c (dat 4 eTUnit zTUnit p0.Units)), (11, cI (p0.Units.length : Int)), (12, cI (W (x16.1 + 1)))] [(1001, .arr 1 x16.2.length (fF eI zI x16.2) false)] (fun t => t) (by kernel_rfl) ?_
          obtain rfl := Option.some.inj H
          exact And.intro rfl rfl
      · refine seq_ops [.g false, .g false, .g false, .g false] [] [(1, cI p1), (5, .c (.own 1001 1 0 x16.2.length)), (6, cI x16.1), (10, .c (dat 4 eTUnit zTUnit p0.Units)), (11, cI (p0.Units.length : Int)), (12, cI x16.1), (25, cB false)] [(1001, .arr 1 x16.2.length (fF eI zI x16.2) false)] (fun t => aI c21 (aI c21 (aI c21 (aI c21 (t))))) (by kernel_rfl) ?_
        refine ite_f (rfl : (false : Bool) = false) (by kernel_rfl) ?_
        refine ends_skip ?_
        change EndsI _ _ _ _ _ _
        refine one_ops [] [] [(1, cI p1), (5, .c (.own 1001 1 0 x16.2.length)), (10, .c (dat 4 eTUnit zTUnit p0.Units)), (11, cI (p0.Units.length : Int)), (12, cI (W (x16.1 + 1)))] [(1001, .arr 1 x16.2.length (fF eI zI x16.2) false)] (fun t => t) (by kernel_rfl) ?_
        obtain rfl := Option.some.inj H
        exact And.intro rfl rfl
    · refine ite_f c18 (by kernel_rfl) ?_
      refine tell [] [(5, .c (.own 1001 1 0 x16.2.length))] [(1001, .arr 1 x16.2.length (fF eI zI x16.2) false)] (fun t => t) (by kernel_rfl) ?_
      refine ends_exit ?_
      obtain rfl := Option.some.inj H
      exact And.intro (by simp) (And.intro rfl rfl)
  · clear h25
    intro e s q
    obtain ⟨rfl, rfl⟩ := q
    change EndsI _ _ _ _ _ _
    refine seq_ops [] [] [(4, .c (.own 1001 1 0 y24.length))] [(1001, .arr 1 y24.length (fF eI zI y24) false)] (fun t => t) (by kernel_rfl) ?_
    refine tell [.frz 4] [(4, .c (dat 1 eI zI y24))] [] (fun t => aI (Nat.le_refl y24.length) (t)) (by kernel_rfl) ?_
    refine ends_ret ?_
    obtain rfl := Option.some.inj H
    exact And.intro (.inl rfl) rfl

def i_ownerOf_ir : S :=
 (.seq (.ops [⟨some 2, .box 3 (.t 0), none⟩, ⟨some 4, .mv (.v (.int .i64 0)), none⟩])
 (.seq (.seq (.ops [⟨some 7, .fad 2 (.t 2), none⟩, ⟨some 8, .load 1 false (.t 7), none⟩, ⟨some 9, .len (.t 8), none⟩, ⟨some 10, .mv (.v (.int .i64 0)), none⟩])
 (.blk 0 (.loop (.seq (.ops [⟨some 11, .bin .lss (.t 10) (.t 9), none⟩])
   (.seq (.ite (.t 11) .skip
   (.exit 0))
   (.seq (.blk 1 (.seq (.ops [⟨some 12, .iad 4 (.t 8) (.t 10), none⟩, ⟨some 13, .load 4 true (.t 12), none⟩, ⟨some 6, .alloc [.int .i64 0, .int .i64 0, .int .i64 0, .int .i64 0], none⟩, ⟨none, .store 4 (.t 6) (.t 13), none⟩])
    (.seq (.ops [⟨some 14, .fad 2 (.t 6), none⟩, ⟨some 15, .load 1 false (.t 14), none⟩, ⟨some 16, .mv (.t 1), none⟩, ⟨some 17, .bin .eql (.t 15) (.t 16), none⟩])
    (.ite (.t 17) (.seq (.ops [⟨some 18, .fad 0 (.t 6), none⟩, ⟨some 19, .load 1 false (.t 18), none⟩, ⟨some 4, .mv (.t 19), none⟩])
     .ret)
    .skip))))
   (.ops [⟨some 20, .bin .add (.t 10) (.v (.int .i64 1)), none⟩, ⟨some 10, .mv (.t 20), none⟩])))))))
 (.seq (.ops [⟨some 4, .mv (.v (.int .i64 (-1))), none⟩])
 .ret)))
noncomputable def X.i_ownerOf (p0 : TState) (p1 : Int) : Option Int :=
  ((loop (fun (x12 : Int) => ((bif (decide (x12 < (p0.Units.length : Int))) then ((at' zTUnit p0.Units x12).bind fun v15 => (bif (v15.At == p1) then some (Sum.inr (Sum.inr v15.Side)) else some (Sum.inl (W (x12 + 1))))) else some (Sum.inr (Sum.inl ()))) : Option (Int ⊕ (Unit ⊕ Int)))) 0).bind fun y18 => (Sum.elim (fun (y20 : Unit) => some (-1)) (fun (y21 : Int) => some y21) y18))
theorem i_ownerOf_ok (p0 : TState) (p1 : Int) (r : Int) (H : X.i_ownerOf p0 p1 = some r) : FnOk Tryz.prog gl 293 [.agg (eTState p0), cI p1] (cI r) := by
  unfold X.i_ownerOf at H
  refine fn_in (fn := Tryz.f293) (ir := i_ownerOf_ir) (s1 := lit [(4, cI r)] []) Tryz.func293 (by kernel_rfl) (by kernel_rfl) (by kernel_rfl) (by kernel_rfl) (by kernel_rfl) ?_
  refine seq_ops [] [] [(1, cI p1), (2, .c (.pk 2 0))] [(2, .var (eTState p0) false)] (fun t => t) (by kernel_rfl) ?_
  refine seq_in ?_
  refine seq_ops [] [] [(1, cI p1), (8, .c (dat 4 eTUnit zTUnit p0.Units)), (9, cI (p0.Units.length : Int)), (10, cI 0)] [] (fun t => lI p0.Units (t)) (by kernel_rfl) ?_
  refine ends_blk ?_
  obtain ⟨y18, h19, H⟩ := ofBind H
  refine loop_in (fun (x : Int) => lit [(1, cI p1), (8, .c (dat 4 eTUnit zTUnit p0.Units)), (9, cI (p0.Units.length : Int)), (10, cI x)] []) (orJ (fun (z : Unit) => At (.exit 0) (lit [] [])) (fun (z : Int) => At .ret (lit [(4, cI z)] []))) h19 ?_ ?_
  · clear H h19
    intro x12 y0 H
    refine seq_ops [] [] [(1, cI p1), (8, .c (dat 4 eTUnit zTUnit p0.Units)), (9, cI (p0.Units.length : Int)), (10, cI x12), (11, cB (decide (x12 < (p0.Units.length : Int))))] [] (fun t => t) (by kernel_rfl) ?_
    refine seq_in ?_
    rcases ofCond H with ⟨c14, H⟩ | ⟨c14, H⟩
    · refine ite_t c14 (by kernel_rfl) ?_
      refine ends_skip ?_
      change EndsI _ _ _ _ _ _
      refine seq_in ?_
      refine ends_blk ?_
      obtain ⟨v15, h16, H⟩ := ofBind H
      refine seq_ops [.cs (eTUnit v15)] [] [(1, cI p1), (6, .c (.pk 6 0)), (8, .c (dat 4 eTUnit zTUnit p0.Units)), (9, cI (p0.Units.length : Int)), (10, cI x12)] [(6, .var (eTUnit v15) false)] (fun t => aI (at_lt h16) (aI (at_enc (enc := eTUnit) h16) (t))) (by kernel_rfl) ?_
      refine seq_ops [] [] [(1, cI p1), (6, .c (.pk 6 0)), (8, .c (dat 4 eTUnit zTUnit p0.Units)), (9, cI (p0.Units.length : Int)), (10, cI x12), (17, cB (v15.At == p1))] [(6, .var (eTUnit v15) false)] (fun t => t) (by kernel_rfl) ?_
      rcases ofCond H with ⟨c17, H⟩ | ⟨c17, H⟩
      · refine ite_t c17 (by kernel_rfl) ?_
        refine seq_ops [] [] [(4, cI v15.Side)] [] (fun t => t) (by kernel_rfl) ?_
        refine ends_ret ?_
        obtain rfl := Option.some.inj H
        exact And.intro (by simp) (And.intro rfl rfl)
      · refine ite_f c17 (by kernel_rfl) ?_
        refine ends_skip ?_
        change EndsI _ _ _ _ _ _
        refine one_ops [] [] [(1, cI p1), (8, .c (dat 4 eTUnit zTUnit p0.Units)), (9, cI (p0.Units.length : Int)), (10, cI (W (x12 + 1)))] [] (fun t => t) (by kernel_rfl) ?_
        obtain rfl := Option.some.inj H
        exact And.intro rfl rfl
    · refine ite_f c14 (by kernel_rfl) ?_
      refine tell [] [] [] (fun t => t) (by kernel_rfl) ?_
      refine ends_exit ?_
      obtain rfl := Option.some.inj H
      exact And.intro (by simp) (And.intro rfl rfl)
  · clear h19
    cases y18 with
    | inl y20 =>
      replace H := ofInl H
      intro e s q
      obtain ⟨rfl, rfl⟩ := q
      change EndsI _ _ _ _ _ _
      refine seq_ops [] [] [(4, cI (-1))] [] (fun t => t) (by kernel_rfl) ?_
      refine ends_ret ?_
      obtain rfl := Option.some.inj H
      exact And.intro (.inl rfl) rfl
    | inr y21 =>
      replace H := ofInr H
      intro e s q
      obtain ⟨rfl, rfl⟩ := q
      obtain rfl := Option.some.inj H
      exact And.intro (.inl rfl) rfl

def i_edgeOf_ir : S :=
 (.seq (.ops [⟨some 3, .box 5 (.t 0), none⟩, ⟨some 6, .mv (.v (.int .i64 0)), none⟩])
 (.seq (.ops [⟨some 8, .load 5 true (.t 3), none⟩, ⟨some 9, .mv (.t 1), none⟩, ⟨some 10, .mv (.t 2), none⟩, ⟨some 11, .call 189 [.t 8, .t 9, .t 10], none⟩, ⟨some 7, .mv (.t 11), none⟩])
 (.seq (.blk 0 (.seq (.ops [⟨some 13, .mv (.t 7), none⟩, ⟨some 14, .bin .lss (.t 13) (.v (.int .i64 0)), none⟩, ⟨some 12, .mv (.t 14), none⟩])
  (.ite (.t 12) (.seq (.ops [⟨some 6, .mv (.v (.int .i64 (-1))), none⟩])
   .ret)
  (.seq (.ops [⟨some 16, .mv (.t 2), none⟩, ⟨some 17, .bin .lss (.t 16) (.v (.int .i64 3)), none⟩, ⟨some 15, .mv (.t 17), none⟩])
   (.ite (.t 15) (.seq (.ops [⟨some 18, .mv (.t 1), none⟩, ⟨some 19, .bin .mul (.v (.int .i64 3)) (.t 18), none⟩, ⟨some 20, .mv (.t 2), none⟩, ⟨some 21, .bin .add (.t 19) (.t 20), none⟩, ⟨some 6, .mv (.t 21), none⟩])
    .ret)
   .skip)))))
 (.seq (.ops [⟨some 22, .mv (.t 7), none⟩, ⟨some 23, .bin .mul (.v (.int .i64 3)) (.t 22), none⟩, ⟨some 24, .mv (.t 2), none⟩, ⟨some 25, .bin .add (.t 23) (.t 24), none⟩, ⟨some 26, .bin .sub (.t 25) (.v (.int .i64 3)), none⟩, ⟨some 6, .mv (.t 26), none⟩])
 .ret))))
noncomputable def X.i_edgeOf (p0 : TMap) (p1 : Int) (p2 : Int) : Option Int :=
  ((X.i_nextTo p0 p1 p2).bind fun v1 => (bif (decide (v1 < 0)) then some (-1) else (bif (decide (p2 < 3)) then some (W ((W (3 * p1)) + p2)) else some (W ((W ((W (3 * v1)) + p2)) - 3)))))
theorem i_edgeOf_ok (p0 : TMap) (p1 : Int) (p2 : Int) (r : Int) (H : X.i_edgeOf p0 p1 p2 = some r) : FnOk Tryz.prog gl 238 [.agg (eTMap p0), cI p1, cI p2] (cI r) := by
  unfold X.i_edgeOf at H
  refine fn_in (fn := Tryz.f238) (ir := i_edgeOf_ir) (s1 := lit [(6, cI r)] []) Tryz.func238 (by kernel_rfl) (by kernel_rfl) (by kernel_rfl) (by kernel_rfl) (by kernel_rfl) ?_
  refine seq_ops [] [] [(1, cI p1), (2, cI p2), (3, .c (.pk 3 0))] [(3, .var (eTMap p0) false)] (fun t => t) (by kernel_rfl) ?_
  obtain ⟨v1, h2, H⟩ := ofBind H
  refine seq_ops [.res (cI v1)] [] [(1, cI p1), (2, cI p2), (7, cI v1)] [] (fun t => aI (i_nextTo_ok p0 p1 p2 v1 h2) (t)) (by kernel_rfl) ?_
  refine seq_in ?_
  refine ends_blk ?_
  refine seq_ops [] [] [(1, cI p1), (2, cI p2), (7, cI v1), (12, cB (decide (v1 < 0)))] [] (fun t => t) (by kernel_rfl) ?_
  rcases ofCond H with ⟨c3, H⟩ | ⟨c3, H⟩
  · refine ite_t c3 (by kernel_rfl) ?_
    refine seq_ops [] [] [(6, cI (-1))] [] (fun t => t) (by kernel_rfl) ?_
    refine ends_ret ?_
    obtain rfl := Option.some.inj H
    exact And.intro (.inl rfl) rfl
  · refine ite_f c3 (by kernel_rfl) ?_
    refine seq_ops [] [] [(1, cI p1), (2, cI p2), (7, cI v1), (15, cB (decide (p2 < 3)))] [] (fun t => t) (by kernel_rfl) ?_
    rcases ofCond H with ⟨c4, H⟩ | ⟨c4, H⟩
    · refine ite_t c4 (by kernel_rfl) ?_
      refine seq_ops [] [] [(6, cI (W ((W (3 * p1)) + p2)))] [] (fun t => t) (by kernel_rfl) ?_
      refine ends_ret ?_
      obtain rfl := Option.some.inj H
      exact And.intro (.inl rfl) rfl
    · refine ite_f c4 (by kernel_rfl) ?_
      refine ends_skip ?_
      change EndsI _ _ _ _ _ _
      refine seq_ops [] [] [(6, cI (W ((W ((W (3 * v1)) + p2)) - 3)))] [] (fun t => t) (by kernel_rfl) ?_
      refine ends_ret ?_
      obtain rfl := Option.some.inj H
      exact And.intro (.inl rfl) rfl

def g_Index_int_ir : S :=
 (.seq (.ops [⟨some 4, .mv (.v (.int .i64 0)), none⟩])
 (.seq (.seq (.ops [⟨some 6, .mv (.t 0), none⟩, ⟨some 7, .len (.t 6), none⟩, ⟨some 8, .mv (.v (.int .i64 0)), none⟩])
 (.blk 0 (.loop (.seq (.ops [⟨some 9, .bin .lss (.t 8) (.t 7), none⟩])
   (.seq (.ite (.t 9) .skip
   (.exit 0))
   (.seq (.blk 1 (.seq (.ops [⟨some 10, .mv (.t 8), none⟩, ⟨some 5, .mv (.t 10), none⟩])
    (.seq (.ops [⟨some 11, .mv (.t 1), none⟩, ⟨some 12, .mv (.t 0), none⟩, ⟨some 13, .mv (.t 5), none⟩, ⟨some 14, .iad 1 (.t 12) (.t 13), none⟩, ⟨some 15, .load 1 false (.t 14), none⟩, ⟨some 16, .bin .eql (.t 11) (.t 15), none⟩])
    (.ite (.t 16) (.seq (.ops [⟨some 17, .mv (.t 5), none⟩, ⟨some 4, .mv (.t 17), none⟩])
     .ret)
    .skip))))
   (.ops [⟨some 18, .bin .add (.t 8) (.v (.int .i64 1)), none⟩, ⟨some 8, .mv (.t 18), none⟩])))))))
 (.seq (.ops [⟨some 4, .mv (.v (.int .i64 (-1))), none⟩])
 .ret)))
noncomputable def X.g_Index_int (p0 : (List Int)) (p1 : Int) : Option Int :=
  ((loop (fun (x12 : Int) => ((bif (decide (x12 < (p0.length : Int))) then ((at' zI p0 x12).bind fun v15 => (bif (p1 == v15) then some (Sum.inr (Sum.inr x12)) else some (Sum.inl (W (x12 + 1))))) else some (Sum.inr (Sum.inl ()))) : Option (Int ⊕ (Unit ⊕ Int)))) 0).bind fun y18 => (Sum.elim (fun (y20 : Unit) => some (-1)) (fun (y21 : Int) => some y21) y18))
theorem g_Index_int_ok (p0 : (List Int)) (p1 : Int) (r : Int) (H : X.g_Index_int p0 p1 = some r) : FnOk Tryz.prog gl 149 [.c (dat 1 eI zI p0), cI p1] (cI r) := by
  unfold X.g_Index_int at H
  refine fn_in (fn := Tryz.f149) (ir := g_Index_int_ir) (s1 := lit [(4, cI r)] []) Tryz.func149 (by kernel_rfl) (by kernel_rfl) (by kernel_rfl) (by kernel_rfl) (by kernel_rfl) ?_
  refine seq_ops [] [] [(0, .c (dat 1 eI zI p0)), (1, cI p1)] [] (fun t => t) (by kernel_rfl) ?_
  refine seq_in ?_
  refine seq_ops [] [] [(0, .c (dat 1 eI zI p0)), (1, cI p1), (7, cI (p0.length : Int)), (8, cI 0)] [] (fun t => lI p0 (t)) (by kernel_rfl) ?_
  refine ends_blk ?_
  obtain ⟨y18, h19, H⟩ := ofBind H
  refine loop_in (fun (x : Int) => lit [(0, .c (dat 1 eI zI p0)), (1, cI p1), (7, cI (p0.length : Int)), (8, cI x)] []) (orJ (fun (z : Unit) => At (.exit 0) (lit [] [])) (fun (z : Int) => At .ret (lit [(4, cI z)] []))) h19 ?_ ?_
  · clear H h19
    intro x12 y0 H
    refine seq_ops [] [] [(0, .c (dat 1 eI zI p0)), (1, cI p1), (7, cI (p0.length : Int)), (8, cI x12), (9, cB (decide (x12 < (p0.length : Int))))] [] (fun t => t) (by kernel_rfl) ?_
    refine seq_in ?_
    rcases ofCond H with ⟨c14, H⟩ | ⟨c14, H⟩
    · refine ite_t c14 (by kernel_rfl) ?_
      refine ends_skip ?_
      change EndsI _ _ _ _ _ _
      refine seq_in ?_
      refine ends_blk ?_
      refine seq_ops [] [] [(0, .c (dat 1 eI zI p0)), (1, cI p1), (5, cI x12), (7, cI (p0.length : Int)), (8, cI x12)] [] (fun t => t) (by kernel_rfl) ?_
      obtain ⟨v15, h16, H⟩ := ofBind H
      refine seq_ops [.cs (eI v15)] [] [(0, .c (dat 1 eI zI p0)), (1, cI p1), (5, cI x12), (7, cI (p0.length : Int)), (8, cI x12), (16, cB (p1 == v15))] [] (fun t => aI (at_lt h16) (aI (at_enc (enc := eI) h16) (t))) (by kernel_rfl) ?_
      rcases ofCond H with ⟨c17, H⟩ | ⟨c17, H⟩
      · refine ite_t c17 (by kernel_rfl) ?_
        refine seq_ops [] [] [(4, cI x12)] [] (fun t => t) (by kernel_rfl) ?_
        refine ends_ret ?_
        obtain rfl := Option.some.inj H
        exact And.intro (by simp) (And.intro rfl rfl)
      · refine ite_f c17 (by kernel_rfl) ?_
        refine ends_skip ?_
        change EndsI _ _ _ _ _ _
        refine one_ops [] [] [(0, .c (dat 1 eI zI p0)), (1, cI p1), (7, cI (p0.length : Int)), (8, cI (W (x12 + 1)))] [] (fun t => t) (by kernel_rfl) ?_
        obtain rfl := Option.some.inj H
        exact And.intro rfl rfl
    · refine ite_f c14 (by kernel_rfl) ?_
      refine tell [] [] [] (fun t => t) (by kernel_rfl) ?_
      refine ends_exit ?_
      obtain rfl := Option.some.inj H
      exact And.intro (by simp) (And.intro rfl rfl)
  · clear h19
    cases y18 with
    | inl y20 =>
      replace H := ofInl H
      intro e s q
      obtain ⟨rfl, rfl⟩ := q
      change EndsI _ _ _ _ _ _
      refine seq_ops [] [] [(4, cI (-1))] [] (fun t => t) (by kernel_rfl) ?_
      refine ends_ret ?_
      obtain rfl := Option.some.inj H
      exact And.intro (.inl rfl) rfl
    | inr y21 =>
      replace H := ofInr H
      intro e s q
      obtain ⟨rfl, rfl⟩ := q
      obtain rfl := Option.some.inj H
      exact And.intro (.inl rfl) rfl

def g_Contains_int_ir : S :=
 (.seq (.ops [⟨some 4, .mv (.v (.bool false)), none⟩])
 (.seq (.ops [⟨some 5, .mv (.t 0), none⟩, ⟨some 6, .mv (.t 1), none⟩, ⟨some 7, .call 149 [.t 5, .t 6], none⟩, ⟨some 8, .bin .geq (.t 7) (.v (.int .i64 0)), none⟩, ⟨some 4, .mv (.t 8), none⟩])
 .ret))
noncomputable def X.g_Contains_int (p0 : (List Int)) (p1 : Int) : Option Bool :=
  ((X.g_Index_int p0 p1).bind fun v1 => some (decide (v1 ≥ 0)))
theorem g_Contains_int_ok (p0 : (List Int)) (p1 : Int) (r : Bool) (H : X.g_Contains_int p0 p1 = some r) : FnOk Tryz.prog gl 87 [.c (dat 1 eI zI p0), cI p1] (cB r) := by
  unfold X.g_Contains_int at H
  refine fn_in (fn := Tryz.f87) (ir := g_Contains_int_ir) (s1 := lit [(4, cB r)] []) Tryz.func87 (by kernel_rfl) (by kernel_rfl) (by kernel_rfl) (by kernel_rfl) (by kernel_rfl) ?_
  refine seq_ops [] [] [(0, .c (dat 1 eI zI p0)), (1, cI p1)] [] (fun t => t) (by kernel_rfl) ?_
  obtain ⟨v1, h2, H⟩ := ofBind H
  refine seq_ops [.res (cI v1)] [] [(4, cB (decide (v1 ≥ 0)))] [] (fun t => aI (g_Index_int_ok p0 p1 v1 h2) (t)) (by kernel_rfl) ?_
  refine ends_ret ?_
  obtain rfl := Option.some.inj H
  exact And.intro (.inl rfl) rfl

def i_crossesFreely_ir : S :=
 (.seq (.ops [⟨some 2, .box 5 (.t 0), none⟩, ⟨some 4, .mv (.v (.bool false)), none⟩])
 (.seq (.ops [⟨some 5, .fad 3 (.t 2), none⟩, ⟨some 6, .load 1 false (.t 5), none⟩, ⟨some 7, .mv (.t 1), none⟩, ⟨some 8, .call 87 [.t 6, .t 7], none⟩, ⟨some 9, .not (.t 8), none⟩, ⟨some 10, .mv (.t 9), none⟩, ⟨some 11, .fad 4 (.t 2), some (10, false)⟩, ⟨some 12, .load 1 false (.t 11), some (10, false)⟩, ⟨some 13, .mv (.t 1), some (10, false)⟩, ⟨some 14, .call 87 [.t 12, .t 13], some (10, false)⟩, ⟨some 15, .pick (.t 10) (.v (.bool true)) (.t 14), none⟩, ⟨some 4, .mv (.t 15), none⟩])
 .ret))
noncomputable def X.i_crossesFreely (p0 : TMap) (p1 : Int) : Option Bool :=
  ((X.g_Contains_int p0.Rivers p1).bind fun v1 => (bif (!v1) then some true else ((X.g_Contains_int p0.Roads p1).bind fun v4 => some v4)))
theorem i_crossesFreely_ok (p0 : TMap) (p1 : Int) (r : Bool) (H : X.i_crossesFreely p0 p1 = some r) : FnOk Tryz.prog gl 308 [.agg (eTMap p0), cI p1] (cB r) := by
  unfold X.i_crossesFreely at H
  refine fn_in (fn := Tryz.f308) (ir := i_crossesFreely_ir) (s1 := lit [(4, cB r)] []) Tryz.func308 (by kernel_rfl) (by kernel_rfl) (by kernel_rfl) (by kernel_rfl) (by kernel_rfl) ?_
  refine seq_ops [] [] [(1, cI p1), (2, .c (.pk 2 0))] [(2, .var (eTMap p0) false)] (fun t => t) (by kernel_rfl) ?_
  obtain ⟨v1, h2, H⟩ := ofBind H
  rcases ofCond H with ⟨c3, H⟩ | ⟨c3, H⟩
  · refine seq_ops [.res (cB v1), .g true, .g true, .g true, .g true, .g true] [] [(4, cB true)] [] (fun t => aI (g_Contains_int_ok p0.Rivers p1 v1 h2) (aI c3 (aI c3 (aI c3 (aI c3 (aI c3 (t))))))) (by kernel_rfl) ?_
    refine ends_ret ?_
    obtain rfl := Option.some.inj H
    exact And.intro (.inl rfl) rfl
  · obtain ⟨v4, h5, H⟩ := ofBind H
    refine seq_ops [.res (cB v1), .g false, .g false, .g false, .g false, .res (cB v4), .g false] [] [(4, cB v4)] [] (fun t => aI (g_Contains_int_ok p0.Rivers p1 v1 h2) (aI c3 (aI c3 (aI c3 (aI c3 (aI (g_Contains_int_ok p0.Roads p1 v4 h5) (aI c3 (t)))))))) (by kernel_rfl) ?_
    refine ends_ret ?_
    obtain rfl := Option.some.inj H
    exact And.intro (.inl rfl) rfl

def i_controls_ir : S :=
 (.seq (.ops [⟨some 3, .box 12 (.t 0), none⟩, ⟨some 4, .box 4 (.t 1), none⟩, ⟨some 6, .mv (.v (.bool false)), none⟩])
 (.seq (.seq (.ops [⟨some 8, .fad 2 (.t 4), none⟩, ⟨some 9, .load 1 false (.t 8), none⟩, ⟨some 10, .bin .lss (.t 9) (.v (.int .i64 0)), none⟩, ⟨some 11, .mv (.t 10), none⟩, ⟨some 12, .fad 0 (.t 3), some (11, false)⟩, ⟨some 13, .fad 1 (.t 12), some (11, false)⟩, ⟨some 14, .load 1 false (.t 13), some (11, false)⟩, ⟨some 15, .fad 1 (.t 4), some (11, false)⟩, ⟨some 16, .load 1 false (.t 15), some (11, false)⟩, ⟨some 17, .iad 6 (.t 14) (.t 16), some (11, false)⟩, ⟨some 18, .fad 4 (.t 17), some (11, false)⟩, ⟨some 19, .load 1 false (.t 18), some (11, false)⟩, ⟨some 20, .not (.t 19), some (11, false)⟩, ⟨some 21, .pick (.t 11) (.v (.bool true)) (.t 20), none⟩, ⟨some 22, .mv (.t 21), none⟩, ⟨some 23, .load 12 true (.t 3), some (22, false)⟩, ⟨some 24, .fad 1 (.t 4), some (22, false)⟩, ⟨some 25, .load 1 false (.t 24), some (22, false)⟩, ⟨some 26, .mv (.t 2), some (22, false)⟩, ⟨some 27, .call 219 [.t 23, .t 25, .t 26], some (22, false)⟩, ⟨some 28, .bin .eql (.t 27) (.v (.int .i64 0)), some (22, false)⟩, ⟨some 29, .pick (.t 22) (.v (.bool true)) (.t 28), none⟩])
 (.ite (.t 29) (.seq (.ops [⟨some 6, .mv (.v (.bool false)), none⟩])
  .ret)
 .skip))
 (.seq (.seq (.ops [⟨some 30, .mv (.v (.int .i64 0)), none⟩])
 (.blk 0 (.loop (.seq (.ops [⟨some 31, .bin .lss (.t 30) (.v (.int .i64 6)), none⟩])
   (.seq (.ite (.t 31) .skip
   (.exit 0))
   (.seq (.blk 1 (.seq (.ops [⟨some 32, .mv (.t 30), none⟩, ⟨some 7, .mv (.t 32), none⟩])
    (.seq (.ops [⟨some 33, .fad 7 (.t 3), none⟩, ⟨some 34, .load 5 true (.t 33), none⟩, ⟨some 35, .fad 2 (.t 4), none⟩, ⟨some 36, .load 1 false (.t 35), none⟩, ⟨some 37, .mv (.t 7), none⟩, ⟨some 38, .call 189 [.t 34, .t 36, .t 37], none⟩, ⟨some 39, .mv (.t 2), none⟩, ⟨some 40, .bin .eql (.t 38) (.t 39), none⟩])
    (.ite (.t 40) (.seq (.draw 10 [⟨some 41, .fad 7 (.t 3), none⟩, ⟨some 42, .load 5 true (.t 41), none⟩, ⟨some 43, .fad 7 (.t 3), none⟩, ⟨some 44, .load 5 true (.t 43), none⟩, ⟨some 45, .fad 2 (.t 4), none⟩, ⟨some 46, .load 1 false (.t 45), none⟩, ⟨some 47, .mv (.t 7), none⟩, ⟨some 48, .call 238 [.t 44, .t 46, .t 47], none⟩, ⟨some 49, .call 308 [.t 42, .t 48], none⟩, ⟨some 6, .mv (.t 49), none⟩])
     .ret)
    .skip))))
   (.ops [⟨some 50, .bin .add (.t 30) (.v (.int .i64 1)), none⟩, ⟨some 30, .mv (.t 50), none⟩])))))))
 (.seq (.ops [⟨some 6, .mv (.v (.bool false)), none⟩])
 .ret))))
noncomputable def X.i_controls (p0 : TBoard) (p1 : TUnit) (p2 : Int) : Option Bool :=
  (bif (decide (p1.At < 0)) then some false else ((at' zTKind p0.Rules.Kinds p1.Kind).bind fun v9 => (bif (!v9.Zone) then some false else ((X.i_enterCost p0 p1.Kind p2).bind fun v12 => (bif (v12 == 0) then some false else ((loop (fun (x34 : Int) => ((bif (decide (x34 < 6)) then ((X.i_nextTo p0.Map p1.At x34).bind fun v37 => (bif (v37 == p2) then ((X.i_edgeOf p0.Map p1.At x34).bind fun v40 => ((X.i_crossesFreely p0.Map v40).bind fun v42 => some (Sum.inr (Sum.inr v42)))) else some (Sum.inl (W (x34 + 1))))) else some (Sum.inr (Sum.inl ()))) : Option (Int ⊕ (Unit ⊕ Bool)))) 0).bind fun y44 => (Sum.elim (fun (y46 : Unit) => some false) (fun (y47 : Bool) => some y47) y44)))))))
theorem i_controls_ok (p0 : TBoard) (p1 : TUnit) (p2 : Int) (r : Bool) (H : X.i_controls p0 p1 p2 = some r) : FnOk Tryz.prog gl 301 [.agg (eTBoard p0), .agg (eTUnit p1), cI p2] (cB r) := by
  unfold X.i_controls at H
  refine fn_in (fn := Tryz.f301) (ir := i_controls_ir) (s1 := lit [(6, cB r)] []) Tryz.func301 (by kernel_rfl) (by kernel_rfl) (by kernel_rfl) (by kernel_rfl) (by kernel_rfl) ?_
  refine seq_ops [] [] [(2, cI p2), (3, .c (.pk 3 0)), (4, .c (.pk 4 0))] [(3, .var (eTBoard p0) false), (4, .var (eTUnit p1) false)] (fun t => t) (by kernel_rfl) ?_
  refine seq_in ?_
  rcases ofCond H with ⟨c8, H⟩ | ⟨c8, H⟩
  · refine seq_ops [.g true, .g true, .g true, .g true, .g true, .g true, .g true, .g true, .g true, .g true, .g true, .g true, .g true, .g true, .g true, .g true, .g true] [] [(2, cI p2), (3, .c (.pk 3 0)), (4, .c (.pk 4 0)), (29, cB true)] [(3, .var (eTBoard p0) false), (4, .var (eTUnit p1) false)] (fun t => aI c8 (aI c8 (aI c8 (aI c8 (aI c8 (aI c8 (aI c8 (aI c8 (aI c8 (aI c8 (aI (rfl : (true : Bool) = true) (aI (rfl : (true : Bool) = true) (aI (rfl : (true : Bool) = true) (aI (rfl : (true : Bool) = true) (aI (rfl : (true : Bool) = true) (aI (rfl : (true : Bool) = true) (aI (rfl : (true : Bool) = true) (t)))))))))))))))))) (by kernel_rfl) ?_
    refine ite_t (rfl : (true : Bool) = true) (by kernel_rfl) ?_
    refine seq_ops [] [] [(6, cB false)] [] (fun t => t) (by kernel_rfl) ?_
    refine ends_ret ?_
    obtain rfl := Option.some.inj H
    exact And.intro (.inl rfl) rfl
  · obtain ⟨v9, h10, H⟩ := ofBind H
    rcases ofCond H with ⟨c11, H⟩ | ⟨c11, H⟩
    · refine seq_ops [.g false, .g false, .g false, .g false, .g false, .g false, .cs (eTKind v9), .g false, .g false, .g false, .g false, .g true, .g true, .g true, .g true, .g true, .g true, .g true] [] [(2, cI p2), (3, .c (.pk 3 0)), (4, .c (.pk 4 0)), (29, cB true)] [(3, .var (eTBoard p0) false), (4, .var (eTUnit p1) false)] (fun t => aI c8 (aI c8 (aI c8 (aI c8 (aI c8 (aI c8 (aI (at_lt h10) (aI (at_enc (enc := eTKind) h10) (aI c8 (aI c8 (aI c8 (aI c8 (aI c11 (aI c11 (aI c11 (aI c11 (aI c11 (aI c11 (aI c11 (t)))))))))))))))))))) (by kernel_rfl) ?_
      refine ite_t (rfl : (true : Bool) = true) (by kernel_rfl) ?_
      refine seq_ops [] [] [(6, cB false)] [] (fun t => t) (by kernel_rfl) ?_
      refine ends_ret ?_
      obtain rfl := Option.some.inj H
      exact And.intro (.inl rfl) rfl
    · obtain ⟨v12, h13, H⟩ := ofBind H
      refine seq_ops [.g false, .g false, .g false, .g false, .g false, .g false, .cs (eTKind v9), .g false, .g false, .g false, .g false, .g false, .g false, .g false, .g false, .g false, .res (cI v12), .g false, .g false] [] [(2, cI p2), (3, .c (.pk 3 0)), (4, .c (.pk 4 0)), (29, cB (v12 == 0))] [(3, .var (eTBoard p0) false), (4, .var (eTUnit p1) false)] (fun t => aI c8 (aI c8 (aI c8 (aI c8 (aI c8 (aI c8 (aI (at_lt h10) (aI (at_enc (enc := eTKind) h10) (aI c8 (aI c8 (aI c8 (aI c8 (aI c11 (aI c11 (aI c11 (aI c11 (aI c11 (aI (i_enterCost_ok p0 p1.Kind p2 v12 h13) (aI c11 (aI c11 (t))))))))))))))))))))) (by kernel_rfl) ?_
      rcases ofCond H with ⟨c14, H⟩ | ⟨c14, H⟩
      · refine ite_t c14 (by kernel_rfl) ?_
        refine seq_ops [] [] [(6, cB false)] [] (fun t => t) (by kernel_rfl) ?_
        refine ends_ret ?_
        obtain rfl := Option.some.inj H
        exact And.intro (.inl rfl) rfl
      · refine ite_f c14 (by kernel_rfl) ?_
        refine ends_skip ?_
        change EndsI _ _ _ _ _ _
        refine seq_in ?_
        refine seq_ops [] [] [(2, cI p2), (3, .c (.pk 3 0)), (4, .c (.pk 4 0)), (30, cI 0)] [(3, .var (eTBoard p0) false), (4, .var (eTUnit p1) false)] (fun t => t) (by kernel_rfl) ?_
        refine ends_blk ?_
        obtain ⟨y44, h45, H⟩ := ofBind H
        refine loop_in (fun (x : Int) => lit [(2, cI p2), (3, .c (.pk 3 0)), (4, .c (.pk 4 0)), (30, cI x)] [(3, .var (eTBoard p0) false), (4, .var (eTUnit p1) false)]) (orJ (fun (z : Unit) => At (.exit 0) (lit [] [])) (fun (z : Bool) => At .ret (lit [(6, cB z)] []))) h45 ?_ ?_
        · clear H h45
          intro x34 y0 H
          refine seq_ops [] [] [(2, cI p2), (3, .c (.pk 3 0)), (4, .c (.pk 4 0)), (30, cI x34), (31, cB (decide (x34 < 6)))] [(3, .var (eTBoard p0) false), (4, .var (eTUnit p1) false)] (fun t => t) (by kernel_rfl) ?_
          refine seq_in ?_
          rcases ofCond H with ⟨c36, H⟩ | ⟨c36, H⟩
          · refine ite_t c36 (by kernel_rfl) ?_
            refine ends_skip ?_
            change EndsI _ _ _ _ _ _
            refine seq_in ?_
            refine ends_blk ?_
            refine seq_ops [] [] [(2, cI p2), (3, .c (.pk 3 0)), (4, .c (.pk 4 0)), (7, cI x34), (30, cI x34)] [(3, .var (eTBoard p0) false), (4, .var (eTUnit p1) false)] (fun t => t) (by kernel_rfl) ?_
            obtain ⟨v37, h38, H⟩ := ofBind H
            refine seq_ops [.res (cI v37)] [] [(2, cI p2), (3, .c (.pk 3 0)), (4, .c (.pk 4 0)), (7, cI x34), (30, cI x34), (40, cB (v37 == p2))] [(3, .var (eTBoard p0) false), (4, .var (eTUnit p1) false)] (fun t => aI (i_nextTo_ok p0.Map p1.At x34 v37 h38) (t)) (by kernel_rfl) ?_
            rcases ofCond H with ⟨c39, H⟩ | ⟨c39, H⟩
            · refine ite_t c39 (by kernel_rfl) ?_
              obtain ⟨v40, h41, H⟩ := ofBind H
              obtain ⟨v42, h43, H⟩ := ofBind H
              refine seq_draw [.res (cI v40), .res (cB v42)] [] [(6, cB v42)] [] (fun t => aI (i_edgeOf_ok p0.Map p1.At x34 v40 h41) (aI trivial (aI (rfl : ([] : List Nat) = []) (aI (i_crossesFreely_ok p0.Map v40 v42 h43) (aI trivial (aI (rfl : ([] : List Nat) = []) (t))))))) (by kernel_rfl) ?_
              refine ends_ret ?_
              obtain rfl := Option.some.inj H
              exact And.intro (by simp) (And.intro rfl rfl)
            · refine ite_f c39 (by kernel_rfl) ?_
              refine ends_skip ?_
              change EndsI _ _ _ _ _ _
              refine one_ops [] [] [(2, cI p2), (3, .c (.pk 3 0)), (4, .c (.pk 4 0)), (30, cI (W (x34 + 1)))] [(3, .var (eTBoard p0) false), (4, .var (eTUnit p1) false)] (fun t => t) (by kernel_rfl) ?_
              obtain rfl := Option.some.inj H
              exact And.intro rfl rfl
          · refine ite_f c36 (by kernel_rfl) ?_
            refine tell [] [] [] (fun t => t) (by kernel_rfl) ?_
            refine ends_exit ?_
            obtain rfl := Option.some.inj H
            exact And.intro (by simp) (And.intro rfl rfl)
        · clear h45
          cases y44 with
          | inl y46 =>
            replace H := ofInl H
            intro e s q
            obtain ⟨rfl, rfl⟩ := q
            change EndsI _ _ _ _ _ _
            refine seq_ops [] [] [(6, cB false)] [] (fun t => t) (by kernel_rfl) ?_
            refine ends_ret ?_
            obtain rfl := Option.some.inj H
            exact And.intro (.inl rfl) rfl
          | inr y47 =>
            replace H := ofInr H
            intro e s q
            obtain ⟨rfl, rfl⟩ := q
            obtain rfl := Option.some.inj H
            exact And.intro (.inl rfl) rfl

def i_inZone_ir : S :=
 (.seq (.ops [⟨some 4, .box 12 (.t 0), none⟩, ⟨some 5, .box 3 (.t 1), none⟩, ⟨some 8, .mv (.v (.bool false)), none⟩])
 (.seq (.seq (.ops [⟨some 11, .fad 2 (.t 5), none⟩, ⟨some 12, .load 1 false (.t 11), none⟩, ⟨some 13, .len (.t 12), none⟩, ⟨some 14, .mv (.v (.int .i64 0)), none⟩])
 (.blk 0 (.loop (.seq (.ops [⟨some 15, .bin .lss (.t 14) (.t 13), none⟩])
   (.seq (.ite (.t 15) .skip
   (.exit 0))
   (.seq (.blk 1 (.seq (.ops [⟨some 16, .iad 4 (.t 12) (.t 14), none⟩, ⟨some 17, .load 4 true (.t 16), none⟩, ⟨some 10, .alloc [.int .i64 0, .int .i64 0, .int .i64 0, .int .i64 0], none⟩, ⟨none, .store 4 (.t 10) (.t 17), none⟩])
    (.seq (.ops [⟨some 18, .fad 0 (.t 10), none⟩, ⟨some 19, .load 1 false (.t 18), none⟩, ⟨some 20, .mv (.t 2), none⟩, ⟨some 21, .bin .eql (.t 19) (.t 20), none⟩, ⟨some 22, .mv (.t 21), none⟩, ⟨some 23, .load 12 true (.t 4), some (22, true)⟩, ⟨some 24, .load 4 true (.t 10), some (22, true)⟩, ⟨some 25, .mv (.t 3), some (22, true)⟩, ⟨some 26, .call 301 [.t 23, .t 24, .t 25], some (22, true)⟩, ⟨some 27, .pick (.t 22) (.t 26) (.v (.bool false)), none⟩])
    (.ite (.t 27) (.seq (.ops [⟨some 8, .mv (.v (.bool true)), none⟩])
     .ret)
    .skip))))
   (.ops [⟨some 28, .bin .add (.t 14) (.v (.int .i64 1)), none⟩, ⟨some 14, .mv (.t 28), none⟩])))))))
 (.seq (.ops [⟨some 8, .mv (.v (.bool false)), none⟩])
 .ret)))
noncomputable def X.i_inZone (p0 : TBoard) (p1 : TState) (p2 : Int) (p3 : Int) : Option Bool :=
  ((loop (fun (x18 : Int) => ((bif (decide (x18 < (p1.Units.length : Int))) then ((at' zTUnit p1.Units x18).bind fun v21 => (bif (v21.Side == p2) then ((X.i_controls p0 v21 p3).bind fun v24 => (bif v24 then some (Sum.inr (Sum.inr true)) else some (Sum.inl (W (x18 + 1))))) else some (Sum.inl (W (x18 + 1))))) else some (Sum.inr (Sum.inl ()))) : Option (Int ⊕ (Unit ⊕ Bool)))) 0).bind fun y27 => (Sum.elim (fun (y29 : Unit) => some false) (fun (y30 : Bool) => some y30) y27))
theorem i_inZone_ok (p0 : TBoard) (p1 : TState) (p2 : Int) (p3 : Int) (r : Bool) (H : X.i_inZone p0 p1 p2 p3 = some r) : FnOk Tryz.prog gl 294 [.agg (eTBoard p0), .agg (eTState p1), cI p2, cI p3] (cB r) := by
  unfold X.i_inZone at H
  refine fn_in (fn := Tryz.f294) (ir := i_inZone_ir) (s1 := lit [(8, cB r)] []) Tryz.func294 (by kernel_rfl) (by kernel_rfl) (by kernel_rfl) (by kernel_rfl) (by kernel_rfl) ?_
  refine seq_ops [] [] [(2, cI p2), (3, cI p3), (4, .c (.pk 4 0)), (5, .c (.pk 5 0))] [(4, .var (eTBoard p0) false), (5, .var (eTState p1) false)] (fun t => t) (by kernel_rfl) ?_
  refine seq_in ?_
  refine seq_ops [] [] [(2, cI p2), (3, cI p3), (4, .c (.pk 4 0)), (12, .c (dat 4 eTUnit zTUnit p1.Units)), (13, cI (p1.Units.length : Int)), (14, cI 0)] [(4, .var (eTBoard p0) false)] (fun t => lI p1.Units (t)) (by kernel_rfl) ?_
  refine ends_blk ?_
  obtain ⟨y27, h28, H⟩ := ofBind H
  refine loop_in (fun (x : Int) => lit [(2, cI p2), (3, cI p3), (4, .c (.pk 4 0)), (12, .c (dat 4 eTUnit zTUnit p1.Units)), (13, cI (p1.Units.length : Int)), (14, cI x)] [(4, .var (eTBoard p0) false)]) (orJ (fun (z : Unit) => At (.exit 0) (lit [] [])) (fun (z : Bool) => At .ret (lit [(8, cB z)] []))) h28 ?_ ?_
  · clear H h28
    intro x18 y0 H
    refine seq_ops [] [] [(2, cI p2), (3, cI p3), (4, .c (.pk 4 0)), (12, .c (dat 4 eTUnit zTUnit p1.Units)), (13, cI (p1.Units.length : Int)), (14, cI x18), (15, cB (decide (x18 < (p1.Units.length : Int))))] [(4, .var (eTBoard p0) false)] (fun t => t) (by kernel_rfl) ?_
    refine seq_in ?_
    rcases ofCond H with ⟨c20, H⟩ | ⟨c20, H⟩
    · refine ite_t c20 (by kernel_rfl) ?_
      refine ends_skip ?_
      change EndsI _ _ _ _ _ _
      refine seq_in ?_
      refine ends_blk ?_
      obtain ⟨v21, h22, H⟩ := ofBind H
      refine seq_ops [.cs (eTUnit v21)] [] [(2, cI p2), (3, cI p3), (4, .c (.pk 4 0)), (10, .c (.pk 10 0)), (12, .c (dat 4 eTUnit zTUnit p1.Units)), (13, cI (p1.Units.length : Int)), (14, cI x18)] [(4, .var (eTBoard p0) false), (10, .var (eTUnit v21) false)] (fun t => aI (at_lt h22) (aI (at_enc (enc := eTUnit) h22) (t))) (by kernel_rfl) ?_
      rcases ofCond H with ⟨c23, H⟩ | ⟨c23, H⟩
      · obtain ⟨v24, h25, H⟩ := ofBind H
        refine seq_ops [.g true, .g true, .g true, .g true, .res (cB v24), .g true] [] [(2, cI p2), (3, cI p3), (4, .c (.pk 4 0)), (12, .c (dat 4 eTUnit zTUnit p1.Units)), (13, cI (p1.Units.length : Int)), (14, cI x18), (27, cB v24)] [(4, .var (eTBoard p0) false)] (fun t => aI c23 (aI c23 (aI c23 (aI c23 (aI (i_controls_ok p0 v21 p3 v24 h25) (aI c23 (t))))))) (by kernel_rfl) ?_
        rcases ofCond H with ⟨c26, H⟩ | ⟨c26, H⟩
        · refine ite_t c26 (by kernel_rfl) ?_
          refine seq_ops [] [] [(8, cB true)] [] (fun t => t) (by kernel_rfl) ?_
          refine ends_ret ?_
          obtain rfl := Option.some.inj H
          exact And.intro (by simp) (And.intro rfl rfl)
        · refine ite_f c26 (by kernel_rfl) ?_
          refine ends_skip ?_
          change EndsI _ _ _ _ _ _
          refine one_ops [] [] [(2, cI p2), (3, cI p3), (4, .c (.pk 4 0)), (12, .c (dat 4 eTUnit zTUnit p1.Units)), (13, cI (p1.Units.length : Int)), (14, cI (W (x18 + 1)))] [(4, .var (eTBoard p0) false)] (fun t => t) (by kernel_rfl) ?_
          obtain rfl := Option.some.inj H
          exact And.intro rfl rfl
      · refine seq_ops [.g false, .g false, .g false, .g false, .g false] [] [(2, cI p2), (3, cI p3), (4, .c (.pk 4 0)), (12, .c (dat 4 eTUnit zTUnit p1.Units)), (13, cI (p1.Units.length : Int)), (14, cI x18), (27, cB false)] [(4, .var (eTBoard p0) false)] (fun t => aI c23 (aI c23 (aI c23 (aI c23 (aI c23 (t)))))) (by kernel_rfl) ?_
        refine ite_f (rfl : (false : Bool) = false) (by kernel_rfl) ?_
        refine ends_skip ?_
        change EndsI _ _ _ _ _ _
        refine one_ops [] [] [(2, cI p2), (3, cI p3), (4, .c (.pk 4 0)), (12, .c (dat 4 eTUnit zTUnit p1.Units)), (13, cI (p1.Units.length : Int)), (14, cI (W (x18 + 1)))] [(4, .var (eTBoard p0) false)] (fun t => t) (by kernel_rfl) ?_
        obtain rfl := Option.some.inj H
        exact And.intro rfl rfl
    · refine ite_f c20 (by kernel_rfl) ?_
      refine tell [] [] [] (fun t => t) (by kernel_rfl) ?_
      refine ends_exit ?_
      obtain rfl := Option.some.inj H
      exact And.intro (by simp) (And.intro rfl rfl)
  · clear h28
    cases y27 with
    | inl y29 =>
      replace H := ofInl H
      intro e s q
      obtain ⟨rfl, rfl⟩ := q
      change EndsI _ _ _ _ _ _
      refine seq_ops [] [] [(8, cB false)] [] (fun t => t) (by kernel_rfl) ?_
      refine ends_ret ?_
      obtain rfl := Option.some.inj H
      exact And.intro (.inl rfl) rfl
    | inr y30 =>
      replace H := ofInr H
      intro e s q
      obtain ⟨rfl, rfl⟩ := q
      obtain rfl := Option.some.inj H
      exact And.intro (.inl rfl) rfl

def i_controlOf_ir : S :=
 (.seq (.ops [⟨some 3, .box 12 (.t 0), none⟩, ⟨some 4, .box 3 (.t 1), none⟩, ⟨some 6, .mv (.v (.int .i64 0)), none⟩])
 (.seq (.ops [⟨some 10, .load 3 true (.t 4), none⟩, ⟨some 11, .mv (.t 2), none⟩, ⟨some 12, .call 293 [.t 10, .t 11], none⟩, ⟨some 7, .mv (.t 12), none⟩])
 (.seq (.draw 10 [⟨some 13, .load 12 true (.t 3), none⟩, ⟨some 14, .load 3 true (.t 4), none⟩, ⟨some 15, .mv (.t 2), none⟩, ⟨some 16, .call 294 [.t 13, .t 14, .v (.int .i64 0), .t 15], none⟩, ⟨some 17, .load 12 true (.t 3), none⟩, ⟨some 18, .load 3 true (.t 4), none⟩, ⟨some 19, .mv (.t 2), none⟩, ⟨some 20, .call 294 [.t 17, .t 18, .v (.int .i64 1), .t 19], none⟩, ⟨some 8, .mv (.t 16), none⟩, ⟨some 9, .mv (.t 20), none⟩])
 (.seq (.blk 0 (.seq (.ops [⟨some 22, .mv (.t 7), none⟩, ⟨some 23, .bin .geq (.t 22) (.v (.int .i64 0)), none⟩, ⟨some 21, .mv (.t 23), none⟩])
  (.ite (.t 21) (.seq (.ops [⟨some 24, .mv (.t 7), none⟩, ⟨some 6, .mv (.t 24), none⟩])
   .ret)
  (.seq (.ops [⟨some 26, .mv (.t 8), none⟩, ⟨some 27, .mv (.t 26), none⟩, ⟨some 28, .mv (.t 9), some (27, true)⟩, ⟨some 29, .pick (.t 27) (.t 28) (.v (.bool false)), none⟩, ⟨some 25, .mv (.t 29), none⟩])
   (.ite (.t 25) (.seq (.ops [⟨some 6, .mv (.v (.int .i64 2)), none⟩])
    .ret)
   (.seq (.ops [⟨some 31, .mv (.t 8), none⟩, ⟨some 30, .mv (.t 31), none⟩])
    (.ite (.t 30) (.seq (.ops [⟨some 6, .mv (.v (.int .i64 0)), none⟩])
     .ret)
    (.seq (.ops [⟨some 33, .mv (.t 9), none⟩, ⟨some 32, .mv (.t 33), none⟩])
     (.ite (.t 32) (.seq (.ops [⟨some 6, .mv (.v (.int .i64 1)), none⟩])
      .ret)
     .skip)))))))))
 (.seq (.ops [⟨some 6, .mv (.v (.int .i64 (-1))), none⟩])
 .ret)))))
noncomputable def X.i_controlOf (p0 : TBoard) (p1 : TState) (p2 : Int) : Option Int :=
  ((X.i_ownerOf p1 p2).bind fun v1 => ((X.i_inZone p0 p1 0 p2).bind fun v3 => ((X.i_inZone p0 p1 1 p2).bind fun v5 => (bif (decide (v1 ≥ 0)) then some v1 else (bif v3 then (bif v5 then some 2 else some 0) else (bif v5 then some 1 else some (-1)))))))
theorem i_controlOf_ok (p0 : TBoard) (p1 : TState) (p2 : Int) (r : Int) (H : X.i_controlOf p0 p1 p2 = some r) : FnOk Tryz.prog gl 281 [.agg (eTBoard p0), .agg (eTState p1), cI p2] (cI r) := by
  unfold X.i_controlOf at H
  refine fn_in (fn := Tryz.f281) (ir := i_controlOf_ir) (s1 := lit [(6, cI r)] []) Tryz.func281 (by kernel_rfl) (by kernel_rfl) (by kernel_rfl) (by kernel_rfl) (by kernel_rfl) ?_
  refine seq_ops [] [] [(2, cI p2), (3, .c (.pk 3 0)), (4, .c (.pk 4 0))] [(3, .var (eTBoard p0) false), (4, .var (eTState p1) false)] (fun t => t) (by kernel_rfl) ?_
  obtain ⟨v1, h2, H⟩ := ofBind H
  refine seq_ops [.res (cI v1)] [] [(2, cI p2), (3, .c (.pk 3 0)), (4, .c (.pk 4 0)), (7, cI v1)] [(3, .var (eTBoard p0) false), (4, .var (eTState p1) false)] (fun t => aI (i_ownerOf_ok p1 p2 v1 h2) (t)) (by kernel_rfl) ?_
  obtain ⟨v3, h4, H⟩ := ofBind H
  obtain ⟨v5, h6, H⟩ := ofBind H
  refine seq_draw [.res (cB v3), .res (cB v5)] [] [(7, cI v1), (8, cB v3), (9, cB v5)] [] (fun t => aI (i_inZone_ok p0 p1 0 p2 v3 h4) (aI trivial (aI (rfl : ([] : List Nat) = []) (aI (i_inZone_ok p0 p1 1 p2 v5 h6) (aI trivial (aI (rfl : ([] : List Nat) = []) (t))))))) (by kernel_rfl) ?_
  refine seq_in ?_
  refine ends_blk ?_
  refine seq_ops [] [] [(7, cI v1), (8, cB v3), (9, cB v5), (21, cB (decide (v1 ≥ 0)))] [] (fun t => t) (by kernel_rfl) ?_
  rcases ofCond H with ⟨c7, H⟩ | ⟨c7, H⟩
  · refine ite_t c7 (by kernel_rfl) ?_
    refine seq_ops [] [] [(6, cI v1)] [] (fun t => t) (by kernel_rfl) ?_
    refine ends_ret ?_
    obtain rfl := Option.some.inj H
    exact And.intro (.inl rfl) rfl
  · refine ite_f c7 (by kernel_rfl) ?_
    rcases ofCond H with ⟨c8, H⟩ | ⟨c8, H⟩
    · refine seq_ops [.g true, .g true] [] [(8, cB v3), (9, cB v5), (25, cB v5)] [] (fun t => aI c8 (aI c8 (t))) (by kernel_rfl) ?_
      rcases ofCond H with ⟨c9, H⟩ | ⟨c9, H⟩
      · refine ite_t c9 (by kernel_rfl) ?_
        refine seq_ops [] [] [(6, cI 2)] [] (fun t => t) (by kernel_rfl) ?_
        refine ends_ret ?_
        obtain rfl := Option.some.inj H
        exact And.intro (.inl rfl) rfl
      · refine ite_f c9 (by kernel_rfl) ?_
        refine seq_ops [] [] [(9, cB v5), (30, cB v3)] [] (fun t => t) (by kernel_rfl) ?_
        refine ite_t c8 (by kernel_rfl) ?_
        refine seq_ops [] [] [(6, cI 0)] [] (fun t => t) (by kernel_rfl) ?_
        refine ends_ret ?_
        obtain rfl := Option.some.inj H
        exact And.intro (.inl rfl) rfl
    · refine seq_ops [.g false, .g false] [] [(8, cB v3), (9, cB v5), (25, cB false)] [] (fun t => aI c8 (aI c8 (t))) (by kernel_rfl) ?_
      refine ite_f (rfl : (false : Bool) = false) (by kernel_rfl) ?_
      refine seq_ops [] [] [(9, cB v5), (30, cB v3)] [] (fun t => t) (by kernel_rfl) ?_
      refine ite_f c8 (by kernel_rfl) ?_
      refine seq_ops [] [] [(32, cB v5)] [] (fun t => t) (by kernel_rfl) ?_
      rcases ofCond H with ⟨c10, H⟩ | ⟨c10, H⟩
      · refine ite_t c10 (by kernel_rfl) ?_
        refine seq_ops [] [] [(6, cI 1)] [] (fun t => t) (by kernel_rfl) ?_
        refine ends_ret ?_
        obtain rfl := Option.some.inj H
        exact And.intro (.inl rfl) rfl
      · refine ite_f c10 (by kernel_rfl) ?_
        refine ends_skip ?_
        change EndsI _ _ _ _ _ _
        refine seq_ops [] [] [(6, cI (-1))] [] (fun t => t) (by kernel_rfl) ?_
        refine ends_ret ?_
        obtain rfl := Option.some.inj H
        exact And.intro (.inl rfl) rfl

def i_holderOf_ir : S :=
 (.seq (.ops [⟨some 3, .box 12 (.t 0), none⟩, ⟨some 4, .box 3 (.t 1), none⟩, ⟨some 6, .mv (.v (.int .i64 0)), none⟩])
 (.seq (.seq (.ops [⟨some 8, .load 12 true (.t 3), none⟩, ⟨some 9, .load 3 true (.t 4), none⟩, ⟨some 10, .mv (.t 2), none⟩, ⟨some 11, .call 281 [.t 8, .t 9, .t 10], none⟩, ⟨some 7, .mv (.t 11), none⟩])
 (.seq (.ops [⟨some 12, .mv (.t 7), none⟩, ⟨some 13, .bin .eql (.t 12) (.v (.int .i64 0)), none⟩, ⟨some 14, .mv (.t 13), none⟩, ⟨some 15, .mv (.t 7), some (14, false)⟩, ⟨some 16, .bin .eql (.t 15) (.v (.int .i64 1)), some (14, false)⟩, ⟨some 17, .pick (.t 14) (.v (.bool true)) (.t 16), none⟩])
 (.ite (.t 17) (.seq (.ops [⟨some 18, .mv (.t 7), none⟩, ⟨some 6, .mv (.t 18), none⟩])
  .ret)
 .skip)))
 (.seq (.ops [⟨some 6, .mv (.v (.int .i64 (-1))), none⟩])
 .ret)))
noncomputable def X.i_holderOf (p0 : TBoard) (p1 : TState) (p2 : Int) : Option Int :=
  ((X.i_controlOf p0 p1 p2).bind fun v1 => (bif (v1 == 0) then some v1 else (bif (v1 == 1) then some v1 else some (-1))))
theorem i_holderOf_ok (p0 : TBoard) (p1 : TState) (p2 : Int) (r : Int) (H : X.i_holderOf p0 p1 p2 = some r) : FnOk Tryz.prog gl 252 [.agg (eTBoard p0), .agg (eTState p1), cI p2] (cI r) := by
  unfold X.i_holderOf at H
  refine fn_in (fn := Tryz.f252) (ir := i_holderOf_ir) (s1 := lit [(6, cI r)] []) Tryz.func252 (by kernel_rfl) (by kernel_rfl) (by kernel_rfl) (by kernel_rfl) (by kernel_rfl) ?_
  refine seq_ops [] [] [(2, cI p2), (3, .c (.pk 3 0)), (4, .c (.pk 4 0))] [(3, .var (eTBoard p0) false), (4, .var (eTState p1) false)] (fun t => t) (by kernel_rfl) ?_
  refine seq_in ?_
  obtain ⟨v1, h2, H⟩ := ofBind H
  refine seq_ops [.res (cI v1)] [] [(7, cI v1)] [] (fun t => aI (i_controlOf_ok p0 p1 p2 v1 h2) (t)) (by kernel_rfl) ?_
  rcases ofCond H with ⟨c3, H⟩ | ⟨c3, H⟩
  · refine seq_ops [.g true, .g true, .g true] [] [(7, cI v1), (17, cB true)] [] (fun t => aI c3 (aI c3 (aI c3 (t)))) (by kernel_rfl) ?_
    refine ite_t (rfl : (true : Bool) = true) (by kernel_rfl) ?_
    refine seq_ops [] [] [(6, cI v1)] [] (fun t => t) (by kernel_rfl) ?_
    refine ends_ret ?_
    obtain rfl := Option.some.inj H
    exact And.intro (.inl rfl) rfl
  · refine seq_ops [.g false, .g false, .g false] [] [(7, cI v1), (17, cB (v1 == 1))] [] (fun t => aI c3 (aI c3 (aI c3 (t)))) (by kernel_rfl) ?_
    rcases ofCond H with ⟨c4, H⟩ | ⟨c4, H⟩
    · refine ite_t c4 (by kernel_rfl) ?_
      refine seq_ops [] [] [(6, cI v1)] [] (fun t => t) (by kernel_rfl) ?_
      refine ends_ret ?_
      obtain rfl := Option.some.inj H
      exact And.intro (.inl rfl) rfl
    · refine ite_f c4 (by kernel_rfl) ?_
      refine ends_skip ?_
      change EndsI _ _ _ _ _ _
      refine seq_ops [] [] [(6, cI (-1))] [] (fun t => t) (by kernel_rfl) ?_
      refine ends_ret ?_
      obtain rfl := Option.some.inj H
      exact And.intro (.inl rfl) rfl

def i_goalPoints_ir : S :=
 (.seq (.ops [⟨some 3, .box 12 (.t 0), none⟩, ⟨some 4, .box 3 (.t 1), none⟩, ⟨some 5, .box 3 (.t 2), none⟩, ⟨some 6, .alloc [.int .i64 0, .int .i64 0], none⟩])
 (.seq (.ops [⟨some 11, .build [.int .i64 0, .int .i64 0] [], none⟩, ⟨some 7, .alloc [.int .i64 0, .int .i64 0], none⟩, ⟨none, .store 2 (.t 7) (.t 11), none⟩])
 (.seq (.seq (.ops [⟨some 12, .fad 0 (.t 5), none⟩, ⟨some 13, .load 1 false (.t 12), none⟩, ⟨some 14, .len (.t 13), none⟩, ⟨some 15, .mv (.v (.int .i64 0)), none⟩])
 (.blk 0 (.loop (.seq (.ops [⟨some 16, .bin .lss (.t 15) (.t 14), none⟩])
   (.seq (.ite (.t 16) .skip
   (.exit 0))
   (.seq (.blk 1 (.seq (.ops [⟨some 17, .iad 2 (.t 13) (.t 15), none⟩, ⟨some 18, .load 2 true (.t 17), none⟩, ⟨some 9, .alloc [.int .i64 0, .int .i64 0], none⟩, ⟨none, .store 2 (.t 9) (.t 18), none⟩])
    (.seq (.ops [⟨some 19, .load 12 true (.t 3), none⟩, ⟨some 20, .load 3 true (.t 4), none⟩, ⟨some 21, .fad 0 (.t 9), none⟩, ⟨some 22, .load 1 false (.t 21), none⟩, ⟨some 23, .call 252 [.t 19, .t 20, .t 22], none⟩, ⟨some 10, .mv (.t 23), none⟩])
    (.seq (.ops [⟨some 24, .mv (.t 10), none⟩, ⟨some 25, .bin .geq (.t 24) (.v (.int .i64 0)), none⟩])
    (.ite (.t 25) (.draw 7 [⟨some 26, .mv (.t 10), none⟩, ⟨some 27, .iar 2 1 (.t 7) (.t 26), none⟩, ⟨some 28, .load 1 false (.t 27), none⟩, ⟨some 29, .fad 1 (.t 9), none⟩, ⟨some 30, .load 1 false (.t 29), none⟩, ⟨some 31, .bin .add (.t 28) (.t 30), none⟩, ⟨some 32, .iar 2 1 (.t 7) (.t 26), none⟩, ⟨none, .store 1 (.t 32) (.t 31), none⟩])
    .skip)))))
   (.ops [⟨some 33, .bin .add (.t 15) (.v (.int .i64 1)), none⟩, ⟨some 15, .mv (.t 33), none⟩])))))))
 (.seq (.ops [⟨some 34, .load 2 true (.t 7), none⟩, ⟨none, .store 2 (.t 6) (.t 34), none⟩])
 .ret))))
noncomputable def X.i_goalPoints (p0 : TBoard) (p1 : TState) (p2 : TConditions) : Option A2_I :=
  ((loop (fun (x24 : (Int × Int × Int)) => ((bif (decide (x24.1 < (p2.Goals.length : Int))) then ((at' zTGoal p2.Goals x24.1).bind fun v27 => ((X.i_holderOf p0 p1 v27.At).bind fun v29 => (bif (decide (v29 ≥ 0)) then (if v29 = ((0 : Nat) : Int) then some (Sum.inl ((W (x24.1 + 1)), (W (x24.2.1 + v27.Points)), x24.2.2)) else (if v29 = ((1 : Nat) : Int) then some (Sum.inl ((W (x24.1 + 1)), x24.2.1, (W (x24.2.2 + v27.Points)))) else none)) else some (Sum.inl ((W (x24.1 + 1)), x24.2.1, x24.2.2))))) else some (Sum.inr (x24.2.1, x24.2.2))) : Option ((Int × Int × Int) ⊕ (Int × Int)))) (0, 0, 0)).bind fun y36 => some (A2_I.mk y36.1 y36.2))
theorem i_goalPoints_ok (p0 : TBoard) (p1 : TState) (p2 : TConditions) (r : A2_I) (H : X.i_goalPoints p0 p1 p2 = some r) : FnOk Tryz.prog gl 209 [.agg (eTBoard p0), .agg (eTState p1), .agg (eTConditions p2)] (.agg (eA2_I r)) := by
  unfold X.i_goalPoints at H
  refine fn_in (fn := Tryz.f209) (ir := i_goalPoints_ir) (s1 := lit [(6, .c (.pk 6 0))] [(6, .var (eA2_I r) false)]) Tryz.func209 (by kernel_rfl) (by kernel_rfl) (by kernel_rfl) (by kernel_rfl) (by kernel_rfl) ?_
  refine seq_ops [] [] [(3, .c (.pk 3 0)), (4, .c (.pk 4 0)), (5, .c (.pk 5 0)), (6, .c (.pk 6 0))] [(3, .var (eTBoard p0) false), (4, .var (eTState p1) false), (5, .var (eTConditions p2) false), (6, .var [.int .i64 0, .int .i64 0] false)] (fun t => t) (by kernel_rfl) ?_
  refine seq_ops [] [] [(3, .c (.pk 3 0)), (4, .c (.pk 4 0)), (5, .c (.pk 5 0)), (6, .c (.pk 6 0)), (7, .c (.pk 7 0))] [(3, .var (eTBoard p0) false), (4, .var (eTState p1) false), (5, .var (eTConditions p2) false), (6, .var [.int .i64 0, .int .i64 0] false), (7, .var [.int .i64 0, .int .i64 0] false)] (fun t => t) (by kernel_rfl) ?_
  refine seq_in ?_
  refine seq_ops [] [] [(3, .c (.pk 3 0)), (4, .c (.pk 4 0)), (6, .c (.pk 6 0)), (7, .c (.pk 7 0)), (13, .c (dat 2 eTGoal zTGoal p2.Goals)), (14, cI (p2.Goals.length : Int)), (15, cI 0)] [(3, .var (eTBoard p0) false), (4, .var (eTState p1) false), (6, .var [.int .i64 0, .int .i64 0] false), (7, .var [.int .i64 0, .int .i64 0] false)] (fun t => lI p2.Goals (t)) (by kernel_rfl) ?_
  refine ends_blk ?_
  obtain ⟨y36, h37, H⟩ := ofBind H
  refine loop_in (fun (x : (Int × Int × Int)) => lit [(3, .c (.pk 3 0)), (4, .c (.pk 4 0)), (6, .c (.pk 6 0)), (7, .c (.pk 7 0)), (13, .c (dat 2 eTGoal zTGoal p2.Goals)), (14, cI (p2.Goals.length : Int)), (15, cI x.1)] [(3, .var (eTBoard p0) false), (4, .var (eTState p1) false), (6, .var [.int .i64 0, .int .i64 0] false), (7, .var [.int .i64 x.2.1, .int .i64 x.2.2] false)]) (fun (z : (Int × Int)) => At (.exit 0) (lit [(6, .c (.pk 6 0)), (7, .c (.pk 7 0))] [(6, .var [.int .i64 0, .int .i64 0] false), (7, .var [.int .i64 z.1, .int .i64 z.2] false)])) h37 ?_ ?_
  · clear H h37
    intro x24 y0 H
    refine seq_ops [] [] [(3, .c (.pk 3 0)), (4, .c (.pk 4 0)), (6, .c (.pk 6 0)), (7, .c (.pk 7 0)), (13, .c (dat 2 eTGoal zTGoal p2.Goals)), (14, cI (p2.Goals.length : Int)), (15, cI x24.1), (16, cB (decide (x24.1 < (p2.Goals.length : Int))))] [(3, .var (eTBoard p0) false), (4, .var (eTState p1) false), (6, .var [.int .i64 0, .int .i64 0] false), (7, .var [.int .i64 x24.2.1, .int .i64 x24.2.2] false)] (fun t => t) (by kernel_rfl) ?_
    refine seq_in ?_
    rcases ofCond H with ⟨c26, H⟩ | ⟨c26, H⟩
    · refine ite_t c26 (by kernel_rfl) ?_
      refine ends_skip ?_
      change EndsI _ _ _ _ _ _
      refine seq_in ?_
      refine ends_blk ?_
      obtain ⟨v27, h28, H⟩ := ofBind H
      refine seq_ops [.cs (eTGoal v27)] [] [(3, .c (.pk 3 0)), (4, .c (.pk 4 0)), (6, .c (.pk 6 0)), (7, .c (.pk 7 0)), (9, .c (.pk 9 0)), (13, .c (dat 2 eTGoal zTGoal p2.Goals)), (14, cI (p2.Goals.length : Int)), (15, cI x24.1)] [(3, .var (eTBoard p0) false), (4, .var (eTState p1) false), (6, .var [.int .i64 0, .int .i64 0] false), (7, .var [.int .i64 x24.2.1, .int .i64 x24.2.2] false), (9, .var (eTGoal v27) false)] (fun t => aI (at_lt h28) (aI (at_enc (enc := eTGoal) h28) (t))) (by kernel_rfl) ?_
      obtain ⟨v29, h30, H⟩ := ofBind H
      refine seq_ops [.res (cI v29)] [] [(3, .c (.pk 3 0)), (4, .c (.pk 4 0)), (6, .c (.pk 6 0)), (7, .c (.pk 7 0)), (9, .c (.pk 9 0)), (10, cI v29), (13, .c (dat 2 eTGoal zTGoal p2.Goals)), (14, cI (p2.Goals.length : Int)), (15, cI x24.1)] [(3, .var (eTBoard p0) false), (4, .var (eTState p1) false), (6, .var [.int .i64 0, .int .i64 0] false), (7, .var [.int .i64 x24.2.1, .int .i64 x24.2.2] false), (9, .var (eTGoal v27) false)] (fun t => aI (i_holderOf_ok p0 p1 v27.At v29 h30) (t)) (by kernel_rfl) ?_
      refine seq_ops [] [] [(3, .c (.pk 3 0)), (4, .c (.pk 4 0)), (6, .c (.pk 6 0)), (7, .c (.pk 7 0)), (9, .c (.pk 9 0)), (10, cI v29), (13, .c (dat 2 eTGoal zTGoal p2.Goals)), (14, cI (p2.Goals.length : Int)), (15, cI x24.1), (25, cB (decide (v29 ≥ 0)))] [(3, .var (eTBoard p0) false), (4, .var (eTState p1) false), (6, .var [.int .i64 0, .int .i64 0] false), (7, .var [.int .i64 x24.2.1, .int .i64 x24.2.2] false), (9, .var (eTGoal v27) false)] (fun t => t) (by kernel_rfl) ?_
      rcases ofCond H with ⟨c31, H⟩ | ⟨c31, H⟩
      · refine ite_t c31 (by kernel_rfl) ?_
        rcases ofIte H with ⟨c32, H⟩ | ⟨c35, H⟩
        · refine one_draw [.nat 0, .nat 0] [] [(3, .c (.pk 3 0)), (4, .c (.pk 4 0)), (6, .c (.pk 6 0)), (7, .c (.pk 7 0)), (13, .c (dat 2 eTGoal zTGoal p2.Goals)), (14, cI (p2.Goals.length : Int)), (15, cI x24.1)] [(3, .var (eTBoard p0) false), (4, .var (eTState p1) false), (6, .var [.int .i64 0, .int .i64 0] false), (7, .var [.int .i64 (W (x24.2.1 + v27.Points)), .int .i64 x24.2.2] false)] (fun t => aI (And.intro c32 (by decide : 0 < 2)) (aI (And.intro c32 (by decide : 0 < 2)) (t))) (by kernel_rfl) ?_
          change EndsI _ _ _ _ _ _
          refine one_ops [] [] [(3, .c (.pk 3 0)), (4, .c (.pk 4 0)), (6, .c (.pk 6 0)), (7, .c (.pk 7 0)), (13, .c (dat 2 eTGoal zTGoal p2.Goals)), (14, cI (p2.Goals.length : Int)), (15, cI (W (x24.1 + 1)))] [(3, .var (eTBoard p0) false), (4, .var (eTState p1) false), (6, .var [.int .i64 0, .int .i64 0] false), (7, .var [.int .i64 (W (x24.2.1 + v27.Points)), .int .i64 x24.2.2] false)] (fun t => t) (by kernel_rfl) ?_
          obtain rfl := Option.some.inj H
          exact And.intro rfl rfl
        · rcases ofIte H with ⟨c33, H⟩ | ⟨c34, H⟩
          · refine one_draw [.nat 1, .nat 1] [] [(3, .c (.pk 3 0)), (4, .c (.pk 4 0)), (6, .c (.pk 6 0)), (7, .c (.pk 7 0)), (13, .c (dat 2 eTGoal zTGoal p2.Goals)), (14, cI (p2.Goals.length : Int)), (15, cI x24.1)] [(3, .var (eTBoard p0) false), (4, .var (eTState p1) false), (6, .var [.int .i64 0, .int .i64 0] false), (7, .var [.int .i64 x24.2.1, .int .i64 (W (x24.2.2 + v27.Points))] false)] (fun t => aI (And.intro c33 (by decide : 1 < 2)) (aI (And.intro c33 (by decide : 1 < 2)) (t))) (by kernel_rfl) ?_
            change EndsI _ _ _ _ _ _
            refine one_ops [] [] [(3, .c (.pk 3 0)), (4, .c (.pk 4 0)), (6, .c (.pk 6 0)), (7, .c (.pk 7 0)), (13, .c (dat 2 eTGoal zTGoal p2.Goals)), (14, cI (p2.Goals.length : Int)), (15, cI (W (x24.1 + 1)))] [(3, .var (eTBoard p0) false), (4, .var (eTState p1) false), (6, .var [.int .i64 0, .int .i64 0] false), (7, .var [.int .i64 x24.2.1, .int .i64 (W (x24.2.2 + v27.Points))] false)] (fun t => t) (by kernel_rfl) ?_
            obtain rfl := Option.some.inj H
            exact And.intro rfl rfl
          · cases H
      · refine ite_f c31 (by kernel_rfl) ?_
        refine ends_skip ?_
        change EndsI _ _ _ _ _ _
        refine one_ops [] [] [(3, .c (.pk 3 0)), (4, .c (.pk 4 0)), (6, .c (.pk 6 0)), (7, .c (.pk 7 0)), (13, .c (dat 2 eTGoal zTGoal p2.Goals)), (14, cI (p2.Goals.length : Int)), (15, cI (W (x24.1 + 1)))] [(3, .var (eTBoard p0) false), (4, .var (eTState p1) false), (6, .var [.int .i64 0, .int .i64 0] false), (7, .var [.int .i64 x24.2.1, .int .i64 x24.2.2] false)] (fun t => t) (by kernel_rfl) ?_
        obtain rfl := Option.some.inj H
        exact And.intro rfl rfl
    · refine ite_f c26 (by kernel_rfl) ?_
      refine tell [] [(6, .c (.pk 6 0)), (7, .c (.pk 7 0))] [(6, .var [.int .i64 0, .int .i64 0] false), (7, .var [.int .i64 x24.2.1, .int .i64 x24.2.2] false)] (fun t => t) (by kernel_rfl) ?_
      refine ends_exit ?_
      obtain rfl := Option.some.inj H
      exact And.intro (by simp) (And.intro rfl rfl)
  · clear h37
    intro e s q
    obtain ⟨rfl, rfl⟩ := q
    change EndsI _ _ _ _ _ _
    refine seq_ops [] [] [(6, .c (.pk 6 0))] [(6, .var [.int .i64 y36.1, .int .i64 y36.2] false)] (fun t => t) (by kernel_rfl) ?_
    refine ends_ret ?_
    obtain rfl := Option.some.inj H
    exact And.intro (.inl rfl) rfl

def i_fullSteps_ir : S :=
 (.seq (.ops [⟨some 2, .box 12 (.t 0), none⟩, ⟨some 3, .box 3 (.t 1), none⟩, ⟨some 4, .alloc [.int .i64 0, .int .i64 0], none⟩])
 (.seq (.ops [⟨some 8, .build [.int .i64 0, .int .i64 0] [], none⟩, ⟨some 5, .alloc [.int .i64 0, .int .i64 0], none⟩, ⟨none, .store 2 (.t 5) (.t 8), none⟩])
 (.seq (.seq (.ops [⟨some 9, .fad 2 (.t 3), none⟩, ⟨some 10, .load 1 false (.t 9), none⟩, ⟨some 11, .len (.t 10), none⟩, ⟨some 12, .mv (.v (.int .i64 0)), none⟩])
 (.blk 0 (.loop (.seq (.ops [⟨some 13, .bin .lss (.t 12) (.t 11), none⟩])
   (.seq (.ite (.t 13) .skip
   (.exit 0))
   (.seq (.blk 1 (.seq (.ops [⟨some 14, .iad 4 (.t 10) (.t 12), none⟩, ⟨some 15, .load 4 true (.t 14), none⟩, ⟨some 7, .alloc [.int .i64 0, .int .i64 0, .int .i64 0, .int .i64 0], none⟩, ⟨none, .store 4 (.t 7) (.t 15), none⟩])
    (.draw 14 [⟨some 16, .fad 0 (.t 7), none⟩, ⟨some 17, .load 1 false (.t 16), none⟩, ⟨some 18, .iar 2 1 (.t 5) (.t 17), none⟩, ⟨some 19, .load 1 false (.t 18), none⟩, ⟨some 20, .fad 0 (.t 2), none⟩, ⟨some 21, .fad 1 (.t 20), none⟩, ⟨some 22, .load 1 false (.t 21), none⟩, ⟨some 23, .fad 1 (.t 7), none⟩, ⟨some 24, .load 1 false (.t 23), none⟩, ⟨some 25, .iad 6 (.t 22) (.t 24), none⟩, ⟨some 26, .fad 3 (.t 25), none⟩, ⟨some 27, .load 1 false (.t 26), none⟩, ⟨some 28, .bin .add (.t 19) (.t 27), none⟩, ⟨some 29, .iar 2 1 (.t 5) (.t 17), none⟩, ⟨none, .store 1 (.t 29) (.t 28), none⟩])))
   (.ops [⟨some 30, .bin .add (.t 12) (.v (.int .i64 1)), none⟩, ⟨some 12, .mv (.t 30), none⟩])))))))
 (.seq (.ops [⟨some 31, .load 2 true (.t 5), none⟩, ⟨none, .store 2 (.t 4) (.t 31), none⟩])
 .ret))))
noncomputable def X.i_fullSteps (p0 : TBoard) (p1 : TState) : Option A2_I :=
  ((loop (fun (x26 : (Int × Int × Int)) => ((bif (decide (x26.1 < (p1.Units.length : Int))) then ((at' zTUnit p1.Units x26.1).bind fun v29 => (if v29.Side = ((0 : Nat) : Int) then ((at' zTKind p0.Rules.Kinds v29.Kind).bind fun v32 => some (Sum.inl ((W (x26.1 + 1)), (W (x26.2.1 + v32.Steps)), x26.2.2))) else (if v29.Side = ((1 : Nat) : Int) then ((at' zTKind p0.Rules.Kinds v29.Kind).bind fun v35 => some (Sum.inl ((W (x26.1 + 1)), x26.2.1, (W (x26.2.2 + v35.Steps))))) else none))) else some (Sum.inr (x26.2.1, x26.2.2))) : Option ((Int × Int × Int) ⊕ (Int × Int)))) (0, 0, 0)).bind fun y39 => some (A2_I.mk y39.1 y39.2))
theorem i_fullSteps_ok (p0 : TBoard) (p1 : TState) (r : A2_I) (H : X.i_fullSteps p0 p1 = some r) : FnOk Tryz.prog gl 210 [.agg (eTBoard p0), .agg (eTState p1)] (.agg (eA2_I r)) := by
  unfold X.i_fullSteps at H
  refine fn_in (fn := Tryz.f210) (ir := i_fullSteps_ir) (s1 := lit [(4, .c (.pk 4 0))] [(4, .var (eA2_I r) false)]) Tryz.func210 (by kernel_rfl) (by kernel_rfl) (by kernel_rfl) (by kernel_rfl) (by kernel_rfl) ?_
  refine seq_ops [] [] [(2, .c (.pk 2 0)), (3, .c (.pk 3 0)), (4, .c (.pk 4 0))] [(2, .var (eTBoard p0) false), (3, .var (eTState p1) false), (4, .var [.int .i64 0, .int .i64 0] false)] (fun t => t) (by kernel_rfl) ?_
  refine seq_ops [] [] [(2, .c (.pk 2 0)), (3, .c (.pk 3 0)), (4, .c (.pk 4 0)), (5, .c (.pk 5 0))] [(2, .var (eTBoard p0) false), (3, .var (eTState p1) false), (4, .var [.int .i64 0, .int .i64 0] false), (5, .var [.int .i64 0, .int .i64 0] false)] (fun t => t) (by kernel_rfl) ?_
  refine seq_in ?_
  refine seq_ops [] [] [(2, .c (.pk 2 0)), (4, .c (.pk 4 0)), (5, .c (.pk 5 0)), (10, .c (dat 4 eTUnit zTUnit p1.Units)), (11, cI (p1.Units.length : Int)), (12, cI 0)] [(2, .var (eTBoard p0) false), (4, .var [.int .i64 0, .int .i64 0] false), (5, .var [.int .i64 0, .int .i64 0] false)] (fun t => lI p1.Units (t)) (by kernel_rfl) ?_
  refine ends_blk ?_
  obtain ⟨y39, h40, H⟩ := ofBind H
  refine loop_in (fun (x : (Int × Int × Int)) => lit [(2, .c (.pk 2 0)), (4, .c (.pk 4 0)), (5, .c (.pk 5 0)), (10, .c (dat 4 eTUnit zTUnit p1.Units)), (11, cI (p1.Units.length : Int)), (12, cI x.1)] [(2, .var (eTBoard p0) false), (4, .var [.int .i64 0, .int .i64 0] false), (5, .var [.int .i64 x.2.1, .int .i64 x.2.2] false)]) (fun (z : (Int × Int)) => At (.exit 0) (lit [(4, .c (.pk 4 0)), (5, .c (.pk 5 0))] [(4, .var [.int .i64 0, .int .i64 0] false), (5, .var [.int .i64 z.1, .int .i64 z.2] false)])) h40 ?_ ?_
  · clear H h40
    intro x26 y0 H
    refine seq_ops [] [] [(2, .c (.pk 2 0)), (4, .c (.pk 4 0)), (5, .c (.pk 5 0)), (10, .c (dat 4 eTUnit zTUnit p1.Units)), (11, cI (p1.Units.length : Int)), (12, cI x26.1), (13, cB (decide (x26.1 < (p1.Units.length : Int))))] [(2, .var (eTBoard p0) false), (4, .var [.int .i64 0, .int .i64 0] false), (5, .var [.int .i64 x26.2.1, .int .i64 x26.2.2] false)] (fun t => t) (by kernel_rfl) ?_
    refine seq_in ?_
    rcases ofCond H with ⟨c28, H⟩ | ⟨c28, H⟩
    · refine ite_t c28 (by kernel_rfl) ?_
      refine ends_skip ?_
      change EndsI _ _ _ _ _ _
      refine seq_in ?_
      refine ends_blk ?_
      obtain ⟨v29, h30, H⟩ := ofBind H
      refine seq_ops [.cs (eTUnit v29)] [] [(2, .c (.pk 2 0)), (4, .c (.pk 4 0)), (5, .c (.pk 5 0)), (7, .c (.pk 7 0)), (10, .c (dat 4 eTUnit zTUnit p1.Units)), (11, cI (p1.Units.length : Int)), (12, cI x26.1)] [(2, .var (eTBoard p0) false), (4, .var [.int .i64 0, .int .i64 0] false), (5, .var [.int .i64 x26.2.1, .int .i64 x26.2.2] false), (7, .var (eTUnit v29) false)] (fun t => aI (at_lt h30) (aI (at_enc (enc := eTUnit) h30) (t))) (by kernel_rfl) ?_
      rcases ofIte H with ⟨c31, H⟩ | ⟨c38, H⟩
      · obtain ⟨v32, h33, H⟩ := ofBind H
        refine one_draw [.nat 0, .cs (eTKind v32), .nat 0] [] [(2, .c (.pk 2 0)), (4, .c (.pk 4 0)), (5, .c (.pk 5 0)), (10, .c (dat 4 eTUnit zTUnit p1.Units)), (11, cI (p1.Units.length : Int)), (12, cI x26.1)] [(2, .var (eTBoard p0) false), (4, .var [.int .i64 0, .int .i64 0] false), (5, .var [.int .i64 (W (x26.2.1 + v32.Steps)), .int .i64 x26.2.2] false)] (fun t => aI (And.intro c31 (by decide : 0 < 2)) (aI (at_lt h33) (aI (at_enc (enc := eTKind) h33) (aI (rfl : ([] : List Nat) = []) (aI (And.intro c31 (by decide : 0 < 2)) (t)))))) (by kernel_rfl) ?_
        change EndsI _ _ _ _ _ _
        refine one_ops [] [] [(2, .c (.pk 2 0)), (4, .c (.pk 4 0)), (5, .c (.pk 5 0)), (10, .c (dat 4 eTUnit zTUnit p1.Units)), (11, cI (p1.Units.length : Int)), (12, cI (W (x26.1 + 1)))] [(2, .var (eTBoard p0) false), (4, .var [.int .i64 0, .int .i64 0] false), (5, .var [.int .i64 (W (x26.2.1 + v32.Steps)), .int .i64 x26.2.2] false)] (fun t => t) (by kernel_rfl) ?_
        obtain rfl := Option.some.inj H
        exact And.intro rfl rfl
      · rcases ofIte H with ⟨c34, H⟩ | ⟨c37, H⟩
        · obtain ⟨v35, h36, H⟩ := ofBind H
          refine one_draw [.nat 1, .cs (eTKind v35), .nat 1] [] [(2, .c (.pk 2 0)), (4, .c (.pk 4 0)), (5, .c (.pk 5 0)), (10, .c (dat 4 eTUnit zTUnit p1.Units)), (11, cI (p1.Units.length : Int)), (12, cI x26.1)] [(2, .var (eTBoard p0) false), (4, .var [.int .i64 0, .int .i64 0] false), (5, .var [.int .i64 x26.2.1, .int .i64 (W (x26.2.2 + v35.Steps))] false)] (fun t => aI (And.intro c34 (by decide : 1 < 2)) (aI (at_lt h36) (aI (at_enc (enc := eTKind) h36) (aI (rfl : ([] : List Nat) = []) (aI (And.intro c34 (by decide : 1 < 2)) (t)))))) (by kernel_rfl) ?_
          change EndsI _ _ _ _ _ _
          refine one_ops [] [] [(2, .c (.pk 2 0)), (4, .c (.pk 4 0)), (5, .c (.pk 5 0)), (10, .c (dat 4 eTUnit zTUnit p1.Units)), (11, cI (p1.Units.length : Int)), (12, cI (W (x26.1 + 1)))] [(2, .var (eTBoard p0) false), (4, .var [.int .i64 0, .int .i64 0] false), (5, .var [.int .i64 x26.2.1, .int .i64 (W (x26.2.2 + v35.Steps))] false)] (fun t => t) (by kernel_rfl) ?_
          obtain rfl := Option.some.inj H
          exact And.intro rfl rfl
        · cases H
    · refine ite_f c28 (by kernel_rfl) ?_
      refine tell [] [(4, .c (.pk 4 0)), (5, .c (.pk 5 0))] [(4, .var [.int .i64 0, .int .i64 0] false), (5, .var [.int .i64 x26.2.1, .int .i64 x26.2.2] false)] (fun t => t) (by kernel_rfl) ?_
      refine ends_exit ?_
      obtain rfl := Option.some.inj H
      exact And.intro (by simp) (And.intro rfl rfl)
  · clear h40
    intro e s q
    obtain ⟨rfl, rfl⟩ := q
    change EndsI _ _ _ _ _ _
    refine seq_ops [] [] [(4, .c (.pk 4 0))] [(4, .var [.int .i64 y39.1, .int .i64 y39.2] false)] (fun t => t) (by kernel_rfl) ?_
    refine ends_ret ?_
    obtain rfl := Option.some.inj H
    exact And.intro (.inl rfl) rfl

def i_totalPoints_ir : S :=
 (.seq (.ops [⟨some 3, .box 12 (.t 0), none⟩, ⟨some 4, .box 3 (.t 1), none⟩, ⟨some 5, .box 3 (.t 2), none⟩, ⟨some 6, .alloc [.int .i64 0, .int .i64 0], none⟩])
 (.seq (.draw 9 [⟨some 11, .load 12 true (.t 3), none⟩, ⟨some 12, .load 3 true (.t 4), none⟩, ⟨some 13, .load 3 true (.t 5), none⟩, ⟨some 14, .call 209 [.t 11, .t 12, .t 13], none⟩, ⟨some 15, .load 12 true (.t 3), none⟩, ⟨some 16, .load 3 true (.t 4), none⟩, ⟨some 17, .call 210 [.t 15, .t 16], none⟩, ⟨some 7, .alloc [.int .i64 0, .int .i64 0], none⟩, ⟨some 8, .alloc [.int .i64 0, .int .i64 0], none⟩, ⟨none, .store 2 (.t 7) (.t 14), none⟩, ⟨none, .store 2 (.t 8) (.t 17), none⟩])
 (.seq (.seq (.ops [⟨some 18, .fad 2 (.t 4), none⟩, ⟨some 19, .load 1 false (.t 18), none⟩, ⟨some 20, .len (.t 19), none⟩, ⟨some 21, .mv (.v (.int .i64 0)), none⟩])
 (.blk 0 (.loop (.seq (.ops [⟨some 22, .bin .lss (.t 21) (.t 20), none⟩])
   (.seq (.ite (.t 22) .skip
   (.exit 0))
   (.seq (.blk 1 (.seq (.ops [⟨some 23, .iad 4 (.t 19) (.t 21), none⟩, ⟨some 24, .load 4 true (.t 23), none⟩, ⟨some 10, .alloc [.int .i64 0, .int .i64 0, .int .i64 0, .int .i64 0], none⟩, ⟨none, .store 4 (.t 10) (.t 24), none⟩])
    (.draw 8 [⟨some 25, .fad 0 (.t 10), none⟩, ⟨some 26, .load 1 false (.t 25), none⟩, ⟨some 27, .iar 2 1 (.t 8) (.t 26), none⟩, ⟨some 28, .load 1 false (.t 27), none⟩, ⟨some 29, .fad 3 (.t 10), none⟩, ⟨some 30, .load 1 false (.t 29), none⟩, ⟨some 31, .bin .sub (.t 28) (.t 30), none⟩, ⟨some 32, .iar 2 1 (.t 8) (.t 26), none⟩, ⟨none, .store 1 (.t 32) (.t 31), none⟩])))
   (.ops [⟨some 33, .bin .add (.t 21) (.v (.int .i64 1)), none⟩, ⟨some 21, .mv (.t 33), none⟩])))))))
 (.seq (.ops [⟨some 34, .iar 2 1 (.t 7) (.v (.int .i64 0)), none⟩, ⟨some 35, .load 1 false (.t 34), none⟩, ⟨some 36, .fad 1 (.t 5), none⟩, ⟨some 37, .load 1 false (.t 36), none⟩, ⟨some 38, .iar 2 1 (.t 8) (.v (.int .i64 1)), none⟩, ⟨some 39, .load 1 false (.t 38), none⟩, ⟨some 40, .bin .mul (.t 37) (.t 39), none⟩, ⟨some 41, .bin .add (.t 35) (.t 40), none⟩, ⟨some 42, .iar 2 1 (.t 7) (.v (.int .i64 1)), none⟩, ⟨some 43, .load 1 false (.t 42), none⟩, ⟨some 44, .fad 1 (.t 5), none⟩, ⟨some 45, .load 1 false (.t 44), none⟩, ⟨some 46, .iar 2 1 (.t 8) (.v (.int .i64 0)), none⟩, ⟨some 47, .load 1 false (.t 46), none⟩, ⟨some 48, .bin .mul (.t 45) (.t 47), none⟩, ⟨some 49, .bin .add (.t 43) (.t 48), none⟩, ⟨some 50, .build [.int .i64 0, .int .i64 0] [(0, 1, .t 41), (1, 1, .t 49)], none⟩, ⟨none, .store 2 (.t 6) (.t 50), none⟩])
 .ret))))
noncomputable def X.i_totalPoints (p0 : TBoard) (p1 : TState) (p2 : TConditions) : Option A2_I :=
  ((X.i_goalPoints p0 p1 p2).bind fun v1 => ((X.i_fullSteps p0 p1).bind fun v3 => ((loop (fun (x50 : (Int × Int × Int)) => ((bif (decide (x50.1 < (p1.Units.length : Int))) then ((at' zTUnit p1.Units x50.1).bind fun v53 => (if v53.Side = ((0 : Nat) : Int) then some (Sum.inl ((W (x50.1 + 1)), (W (x50.2.1 - v53.Steps)), x50.2.2)) else (if v53.Side = ((1 : Nat) : Int) then some (Sum.inl ((W (x50.1 + 1)), x50.2.1, (W (x50.2.2 - v53.Steps)))) else none))) else some (Sum.inr (x50.2.1, x50.2.2))) : Option ((Int × Int × Int) ⊕ (Int × Int)))) (0, v3.a0, v3.a1)).bind fun y59 => some (A2_I.mk (W (v1.a0 + (W (p2.Step * y59.2)))) (W (v1.a1 + (W (p2.Step * y59.1))))))))
theorem i_totalPoints_ok (p0 : TBoard) (p1 : TState) (p2 : TConditions) (r : A2_I) (H : X.i_totalPoints p0 p1 p2 = some r) : FnOk Tryz.prog gl 156 [.agg (eTBoard p0), .agg (eTState p1), .agg (eTConditions p2)] (.agg (eA2_I r)) := by
  unfold X.i_totalPoints at H
  refine fn_in (fn := Tryz.f156) (ir := i_totalPoints_ir) (s1 := lit [(6, .c (.pk 6 0))] [(6, .var (eA2_I r) false)]) Tryz.func156 (by kernel_rfl) (by kernel_rfl) (by kernel_rfl) (by kernel_rfl) (by kernel_rfl) ?_
  refine seq_ops [] [] [(3, .c (.pk 3 0)), (4, .c (.pk 4 0)), (5, .c (.pk 5 0)), (6, .c (.pk 6 0))] [(3, .var (eTBoard p0) false), (4, .var (eTState p1) false), (5, .var (eTConditions p2) false), (6, .var [.int .i64 0, .int .i64 0] false)] (fun t => t) (by kernel_rfl) ?_
  obtain ⟨v1, h2, H⟩ := ofBind H
  obtain ⟨v3, h4, H⟩ := ofBind H
  refine seq_draw [.res (.agg (eA2_I v1)), .res (.agg (eA2_I v3))] [] [(4, .c (.pk 4 0)), (5, .c (.pk 5 0)), (6, .c (.pk 6 0)), (7, .c (.pk 7 0)), (8, .c (.pk 8 0))] [(4, .var (eTState p1) false), (5, .var (eTConditions p2) false), (6, .var [.int .i64 0, .int .i64 0] false), (7, .var (eA2_I v1) false), (8, .var (eA2_I v3) false)] (fun t => aI (i_goalPoints_ok p0 p1 p2 v1 h2) (aI trivial (aI (rfl : ([] : List Nat) = []) (aI (i_fullSteps_ok p0 p1 v3 h4) (aI trivial (aI (rfl : ([] : List Nat) = []) (t))))))) (by kernel_rfl) ?_
  refine seq_in ?_
  refine seq_ops [] [] [(5, .c (.pk 5 0)), (6, .c (.pk 6 0)), (7, .c (.pk 7 0)), (8, .c (.pk 8 0)), (19, .c (dat 4 eTUnit zTUnit p1.Units)), (20, cI (p1.Units.length : Int)), (21, cI 0)] [(5, .var (eTConditions p2) false), (6, .var [.int .i64 0, .int .i64 0] false), (7, .var (eA2_I v1) false), (8, .var (eA2_I v3) false)] (fun t => lI p1.Units (t)) (by kernel_rfl) ?_
  refine ends_blk ?_
  obtain ⟨y59, h60, H⟩ := ofBind H
  refine loop_in (fun (x : (Int × Int × Int)) => lit [(5, .c (.pk 5 0)), (6, .c (.pk 6 0)), (7, .c (.pk 7 0)), (8, .c (.pk 8 0)), (19, .c (dat 4 eTUnit zTUnit p1.Units)), (20, cI (p1.Units.length : Int)), (21, cI x.1)] [(5, .var (eTConditions p2) false), (6, .var [.int .i64 0, .int .i64 0] false), (7, .var (eA2_I v1) false), (8, .var [.int .i64 x.2.1, .int .i64 x.2.2] false)]) (fun (z : (Int × Int)) => At (.exit 0) (lit [(5, .c (.pk 5 0)), (6, .c (.pk 6 0)), (7, .c (.pk 7 0)), (8, .c (.pk 8 0))] [(5, .var (eTConditions p2) false), (6, .var [.int .i64 0, .int .i64 0] false), (7, .var (eA2_I v1) false), (8, .var [.int .i64 z.1, .int .i64 z.2] false)])) h60 ?_ ?_
  · clear H h60
    intro x50 y0 H
    refine seq_ops [] [] [(5, .c (.pk 5 0)), (6, .c (.pk 6 0)), (7, .c (.pk 7 0)), (8, .c (.pk 8 0)), (19, .c (dat 4 eTUnit zTUnit p1.Units)), (20, cI (p1.Units.length : Int)), (21, cI x50.1), (22, cB (decide (x50.1 < (p1.Units.length : Int))))] [(5, .var (eTConditions p2) false), (6, .var [.int .i64 0, .int .i64 0] false), (7, .var (eA2_I v1) false), (8, .var [.int .i64 x50.2.1, .int .i64 x50.2.2] false)] (fun t => t) (by kernel_rfl) ?_
    refine seq_in ?_
    rcases ofCond H with ⟨c52, H⟩ | ⟨c52, H⟩
    · refine ite_t c52 (by kernel_rfl) ?_
      refine ends_skip ?_
      change EndsI _ _ _ _ _ _
      refine seq_in ?_
      refine ends_blk ?_
      obtain ⟨v53, h54, H⟩ := ofBind H
      refine seq_ops [.cs (eTUnit v53)] [] [(5, .c (.pk 5 0)), (6, .c (.pk 6 0)), (7, .c (.pk 7 0)), (8, .c (.pk 8 0)), (10, .c (.pk 10 0)), (19, .c (dat 4 eTUnit zTUnit p1.Units)), (20, cI (p1.Units.length : Int)), (21, cI x50.1)] [(5, .var (eTConditions p2) false), (6, .var [.int .i64 0, .int .i64 0] false), (7, .var (eA2_I v1) false), (8, .var [.int .i64 x50.2.1, .int .i64 x50.2.2] false), (10, .var (eTUnit v53) false)] (fun t => aI (at_lt h54) (aI (at_enc (enc := eTUnit) h54) (t))) (by kernel_rfl) ?_
      rcases ofIte H with ⟨c55, H⟩ | ⟨c58, H⟩
      · refine one_draw [.nat 0, .nat 0] [] [(5, .c (.pk 5 0)), (6, .c (.pk 6 0)), (7, .c (.pk 7 0)), (8, .c (.pk 8 0)), (19, .c (dat 4 eTUnit zTUnit p1.Units)), (20, cI (p1.Units.length : Int)), (21, cI x50.1)] [(5, .var (eTConditions p2) false), (6, .var [.int .i64 0, .int .i64 0] false), (7, .var (eA2_I v1) false), (8, .var [.int .i64 (W (x50.2.1 - v53.Steps)), .int .i64 x50.2.2] false)] (fun t => aI (And.intro c55 (by decide : 0 < 2)) (aI (And.intro c55 (by decide : 0 < 2)) (t))) (by kernel_rfl) ?_
        change EndsI _ _ _ _ _ _
        refine one_ops [] [] [(5, .c (.pk 5 0)), (6, .c (.pk 6 0)), (7, .c (.pk 7 0)), (8, .c (.pk 8 0)), (19, .c (dat 4 eTUnit zTUnit p1.Units)), (20, cI (p1.Units.length : Int)), (21, cI (W (x50.1 + 1)))] [(5, .var (eTConditions p2) false), (6, .var [.int .i64 0, .int .i64 0] false), (7, .var (eA2_I v1) false), (8, .var [.int .i64 (W (x50.2.1 - v53.Steps)), .int .i64 x50.2.2] false)] (fun t => t) (by kernel_rfl) ?_
        obtain rfl := Option.some.inj H
        exact And.intro rfl rfl
      · rcases ofIte H with ⟨c56, H⟩ | ⟨c57, H⟩
        · refine one_draw [.nat 1, .nat 1] [] [(5, .c (.pk 5 0)), (6, .c (.pk 6 0)), (7, .c (.pk 7 0)), (8, .c (.pk 8 0)), (19, .c (dat 4 eTUnit zTUnit p1.Units)), (20, cI (p1.Units.length : Int)), (21, cI x50.1)] [(5, .var (eTConditions p2) false), (6, .var [.int .i64 0, .int .i64 0] false), (7, .var (eA2_I v1) false), (8, .var [.int .i64 x50.2.1, .int .i64 (W (x50.2.2 - v53.Steps))] false)] (fun t => aI (And.intro c56 (by decide : 1 < 2)) (aI (And.intro c56 (by decide : 1 < 2)) (t))) (by kernel_rfl) ?_
          change EndsI _ _ _ _ _ _
          refine one_ops [] [] [(5, .c (.pk 5 0)), (6, .c (.pk 6 0)), (7, .c (.pk 7 0)), (8, .c (.pk 8 0)), (19, .c (dat 4 eTUnit zTUnit p1.Units)), (20, cI (p1.Units.length : Int)), (21, cI (W (x50.1 + 1)))] [(5, .var (eTConditions p2) false), (6, .var [.int .i64 0, .int .i64 0] false), (7, .var (eA2_I v1) false), (8, .var [.int .i64 x50.2.1, .int .i64 (W (x50.2.2 - v53.Steps))] false)] (fun t => t) (by kernel_rfl) ?_
          obtain rfl := Option.some.inj H
          exact And.intro rfl rfl
        · cases H
    · refine ite_f c52 (by kernel_rfl) ?_
      refine tell [] [(5, .c (.pk 5 0)), (6, .c (.pk 6 0)), (7, .c (.pk 7 0)), (8, .c (.pk 8 0))] [(5, .var (eTConditions p2) false), (6, .var [.int .i64 0, .int .i64 0] false), (7, .var (eA2_I v1) false), (8, .var [.int .i64 x50.2.1, .int .i64 x50.2.2] false)] (fun t => t) (by kernel_rfl) ?_
      refine ends_exit ?_
      obtain rfl := Option.some.inj H
      exact And.intro (by simp) (And.intro rfl rfl)
  · clear h60
    intro e s q
    obtain ⟨rfl, rfl⟩ := q
    change EndsI _ _ _ _ _ _
    refine seq_ops [.nat 0, .nat 1, .nat 1, .nat 0] [] [(6, .c (.pk 6 0))] [(6, .var [.int .i64 (W (v1.a0 + (W (p2.Step * y59.2)))), .int .i64 (W (v1.a1 + (W (p2.Step * y59.1))))] false)] (fun t => aI (And.intro (rfl : (0 : Int) = ((0 : Nat) : Int)) (by decide : 0 < 2)) (aI (And.intro (rfl : (1 : Int) = ((1 : Nat) : Int)) (by decide : 1 < 2)) (aI (And.intro (rfl : (1 : Int) = ((1 : Nat) : Int)) (by decide : 1 < 2)) (aI (And.intro (rfl : (0 : Int) = ((0 : Nat) : Int)) (by decide : 0 < 2)) (t))))) (by kernel_rfl) ?_
    refine ends_ret ?_
    obtain rfl := Option.some.inj H
    exact And.intro (.inl rfl) rfl

def i_pointsNeeded_ir : S :=
 (.seq (.ops [⟨some 4, .box 12 (.t 0), none⟩, ⟨some 5, .box 3 (.t 1), none⟩, ⟨some 6, .box 3 (.t 2), none⟩, ⟨some 8, .mv (.v (.int .i64 0)), none⟩])
 (.seq (.ops [⟨some 10, .load 12 true (.t 4), none⟩, ⟨some 11, .load 3 true (.t 5), none⟩, ⟨some 12, .load 3 true (.t 6), none⟩, ⟨some 13, .call 156 [.t 10, .t 11, .t 12], none⟩, ⟨some 9, .alloc [.int .i64 0, .int .i64 0], none⟩, ⟨none, .store 2 (.t 9) (.t 13), none⟩])
 (.seq (.draw 14 [⟨some 14, .mv (.t 3), none⟩, ⟨some 15, .bin .sub (.v (.int .i64 1)) (.t 14), none⟩, ⟨some 16, .iar 2 1 (.t 9) (.t 15), none⟩, ⟨some 17, .load 1 false (.t 16), none⟩, ⟨some 18, .fad 2 (.t 6), none⟩, ⟨some 19, .load 1 false (.t 18), none⟩, ⟨some 20, .mx true (.t 19) (.v (.int .i64 1)), none⟩, ⟨some 21, .bin .add (.t 17) (.t 20), none⟩, ⟨some 22, .mv (.t 3), none⟩, ⟨some 23, .iar 2 1 (.t 9) (.t 22), none⟩, ⟨some 24, .load 1 false (.t 23), none⟩, ⟨some 25, .bin .sub (.t 21) (.t 24), none⟩, ⟨some 26, .mx true (.v (.int .i64 0)) (.t 25), none⟩, ⟨some 8, .mv (.t 26), none⟩])
 .ret)))
noncomputable def X.i_pointsNeeded (p0 : TBoard) (p1 : TState) (p2 : TConditions) (p3 : Int) : Option Int :=
  ((X.i_totalPoints p0 p1 p2).bind fun v1 => (if (W (1 - p3)) = ((0 : Nat) : Int) then (if p3 = ((0 : Nat) : Int) then some (if (W ((W (v1.a0 + (if 1 > p2.Margin then 1 else p2.Margin))) - v1.a0)) > 0 then (W ((W (v1.a0 + (if 1 > p2.Margin then 1 else p2.Margin))) - v1.a0)) else 0) else (if p3 = ((1 : Nat) : Int) then some (if (W ((W (v1.a0 + (if 1 > p2.Margin then 1 else p2.Margin))) - v1.a1)) > 0 then (W ((W (v1.a0 + (if 1 > p2.Margin then 1 else p2.Margin))) - v1.a1)) else 0) else none)) else (if (W (1 - p3)) = ((1 : Nat) : Int) then (if p3 = ((0 : Nat) : Int) then some (if (W ((W (v1.a1 + (if 1 > p2.Margin then 1 else p2.Margin))) - v1.a0)) > 0 then (W ((W (v1.a1 + (if 1 > p2.Margin then 1 else p2.Margin))) - v1.a0)) else 0) else (if p3 = ((1 : Nat) : Int) then some (if (W ((W (v1.a1 + (if 1 > p2.Margin then 1 else p2.Margin))) - v1.a1)) > 0 then (W ((W (v1.a1 + (if 1 > p2.Margin then 1 else p2.Margin))) - v1.a1)) else 0) else none)) else none)))
theorem i_pointsNeeded_ok (p0 : TBoard) (p1 : TState) (p2 : TConditions) (p3 : Int) (r : Int) (H : X.i_pointsNeeded p0 p1 p2 p3 = some r) : FnOk Tryz.prog gl 94 [.agg (eTBoard p0), .agg (eTState p1), .agg (eTConditions p2), cI p3] (cI r) := by
  unfold X.i_pointsNeeded at H
  refine fn_in (fn := Tryz.f94) (ir := i_pointsNeeded_ir) (s1 := lit [(8, cI r)] []) Tryz.func94 (by kernel_rfl) (by kernel_rfl) (by kernel_rfl) (by kernel_rfl) (by kernel_rfl) ?_
  refine seq_ops [] [] [(3, cI p3), (4, .c (.pk 4 0)), (5, .c (.pk 5 0)), (6, .c (.pk 6 0))] [(4, .var (eTBoard p0) false), (5, .var (eTState p1) false), (6, .var (eTConditions p2) false)] (fun t => t) (by kernel_rfl) ?_
  obtain ⟨v1, h2, H⟩ := ofBind H
  refine seq_ops [.res (.agg (eA2_I v1))] [] [(3, cI p3), (6, .c (.pk 6 0)), (9, .c (.pk 9 0))] [(6, .var (eTConditions p2) false), (9, .var (eA2_I v1) false)] (fun t => aI (i_totalPoints_ok p0 p1 p2 v1 h2) (t)) (by kernel_rfl) ?_
  rcases ofIte H with ⟨c3, H⟩ | ⟨c14, H⟩
  · rcases ofIte H with ⟨c4, H⟩ | ⟨c7, H⟩
    · refine seq_draw [.nat 0, .nat 0] [] [(8, cI (if (W ((W (v1.a0 + (if 1 > p2.Margin then 1 else p2.Margin))) - v1.a0)) > 0 then (W ((W (v1.a0 + (if 1 > p2.Margin then 1 else p2.Margin))) - v1.a0)) else 0))] [] (fun t => aI (And.intro c3 (by decide : 0 < 2)) (aI (And.intro c4 (by decide : 0 < 2)) (t))) (by kernel_rfl) ?_
      refine ends_ret ?_
      obtain rfl := Option.some.inj H
      exact And.intro (.inl rfl) rfl
    · rcases ofIte H with ⟨c5, H⟩ | ⟨c6, H⟩
      · refine seq_draw [.nat 0, .nat 1] [] [(8, cI (if (W ((W (v1.a0 + (if 1 > p2.Margin then 1 else p2.Margin))) - v1.a1)) > 0 then (W ((W (v1.a0 + (if 1 > p2.Margin then 1 else p2.Margin))) - v1.a1)) else 0))] [] (fun t => aI (And.intro c3 (by decide : 0 < 2)) (aI (And.intro c5 (by decide : 1 < 2)) (t))) (by kernel_rfl) ?_
        refine ends_ret ?_
        obtain rfl := Option.some.inj H
        exact And.intro (.inl rfl) rfl
      · cases H
  · rcases ofIte H with ⟨c8, H⟩ | ⟨c13, H⟩
    · rcases ofIte H with ⟨c9, H⟩ | ⟨c12, H⟩
      · refine seq_draw [.nat 1, .nat 0] [] [(8, cI (if (W ((W (v1.a1 + (if 1 > p2.Margin then 1 else p2.Margin))) - v1.a0)) > 0 then (W ((W (v1.a1 + (if 1 > p2.Margin then 1 else p2.Margin))) - v1.a0)) else 0))] [] (fun t => aI (And.intro c8 (by decide : 1 < 2)) (aI (And.intro c9 (by decide : 0 < 2)) (t))) (by kernel_rfl) ?_
        refine ends_ret ?_
        obtain rfl := Option.some.inj H
        exact And.intro (.inl rfl) rfl
      · rcases ofIte H with ⟨c10, H⟩ | ⟨c11, H⟩
        · refine seq_draw [.nat 1, .nat 1] [] [(8, cI (if (W ((W (v1.a1 + (if 1 > p2.Margin then 1 else p2.Margin))) - v1.a1)) > 0 then (W ((W (v1.a1 + (if 1 > p2.Margin then 1 else p2.Margin))) - v1.a1)) else 0))] [] (fun t => aI (And.intro c8 (by decide : 1 < 2)) (aI (And.intro c10 (by decide : 1 < 2)) (t))) (by kernel_rfl) ?_
          refine ends_ret ?_
          obtain rfl := Option.some.inj H
          exact And.intro (.inl rfl) rfl
        · cases H
    · cases H

def i_WinnerOf_ir : S :=
 (.seq (.ops [⟨some 3, .box 12 (.t 0), none⟩, ⟨some 4, .box 3 (.t 1), none⟩, ⟨some 5, .box 3 (.t 2), none⟩, ⟨some 6, .mv (.v (.int .i64 0)), none⟩, ⟨some 7, .mv (.v (.bool false)), none⟩])
 (.seq (.seq (.ops [⟨some 10, .load 12 true (.t 3), none⟩, ⟨some 11, .load 3 true (.t 4), none⟩, ⟨some 12, .load 3 true (.t 5), none⟩, ⟨some 13, .call 92 [.t 10, .t 11, .t 12], none⟩, ⟨some 14, .not (.t 13), none⟩])
 (.ite (.t 14) (.seq (.ops [⟨some 6, .mv (.v (.int .i64 0)), none⟩, ⟨some 7, .mv (.v (.bool false)), none⟩])
  .ret)
 .skip))
 (.seq (.draw 10 [⟨some 15, .load 3 true (.t 4), none⟩, ⟨some 16, .call 93 [.t 15, .v (.int .i64 0)], none⟩, ⟨some 17, .len (.t 16), none⟩, ⟨some 18, .bin .gtr (.t 17) (.v (.int .i64 0)), none⟩, ⟨some 19, .load 3 true (.t 4), none⟩, ⟨some 20, .call 93 [.t 19, .v (.int .i64 1)], none⟩, ⟨some 21, .len (.t 20), none⟩, ⟨some 22, .bin .gtr (.t 21) (.v (.int .i64 0)), none⟩, ⟨some 8, .mv (.t 18), none⟩, ⟨some 9, .mv (.t 22), none⟩])
 (.seq (.blk 0 (.seq (.ops [⟨some 24, .mv (.t 8), none⟩, ⟨some 25, .not (.t 24), none⟩, ⟨some 26, .mv (.t 25), none⟩, ⟨some 27, .mv (.t 9), some (26, true)⟩, ⟨some 28, .not (.t 27), some (26, true)⟩, ⟨some 29, .pick (.t 26) (.t 28) (.v (.bool false)), none⟩, ⟨some 23, .mv (.t 29), none⟩])
  (.ite (.t 23) (.seq (.ops [⟨some 6, .mv (.v (.int .i64 3)), none⟩, ⟨some 7, .mv (.v (.bool true)), none⟩])
   .ret)
  (.seq (.ops [⟨some 31, .mv (.t 8), none⟩, ⟨some 32, .not (.t 31), none⟩, ⟨some 30, .mv (.t 32), none⟩])
   (.ite (.t 30) (.seq (.ops [⟨some 6, .mv (.v (.int .i64 2)), none⟩, ⟨some 7, .mv (.v (.bool true)), none⟩])
    .ret)
   (.seq (.ops [⟨some 34, .mv (.t 9), none⟩, ⟨some 35, .not (.t 34), none⟩, ⟨some 33, .mv (.t 35), none⟩])
    (.ite (.t 33) (.seq (.ops [⟨some 6, .mv (.v (.int .i64 1)), none⟩, ⟨some 7, .mv (.v (.bool true)), none⟩])
     .ret)
    (.seq (.ops [⟨some 37, .fad 0 (.t 4), none⟩, ⟨some 38, .load 1 false (.t 37), none⟩, ⟨some 39, .fad 0 (.t 3), none⟩, ⟨some 40, .fad 6 (.t 39), none⟩, ⟨some 41, .load 1 false (.t 40), none⟩, ⟨some 42, .bin .lss (.t 38) (.t 41), none⟩, ⟨some 36, .mv (.t 42), none⟩])
     (.ite (.t 36) (.seq (.ops [⟨some 6, .mv (.v (.int .i64 0)), none⟩, ⟨some 7, .mv (.v (.bool true)), none⟩])
      .ret)
     (.seq (.ops [⟨some 44, .load 12 true (.t 3), none⟩, ⟨some 45, .load 3 true (.t 4), none⟩, ⟨some 46, .load 3 true (.t 5), none⟩, ⟨some 47, .call 94 [.t 44, .t 45, .t 46, .v (.int .i64 0)], none⟩, ⟨some 48, .bin .eql (.t 47) (.v (.int .i64 0)), none⟩, ⟨some 43, .mv (.t 48), none⟩])
      (.ite (.t 43) (.seq (.ops [⟨some 6, .mv (.v (.int .i64 1)), none⟩, ⟨some 7, .mv (.v (.bool true)), none⟩])
       .ret)
      (.seq (.ops [⟨some 50, .load 12 true (.t 3), none⟩, ⟨some 51, .load 3 true (.t 4), none⟩, ⟨some 52, .load 3 true (.t 5), none⟩, ⟨some 53, .call 94 [.t 50, .t 51, .t 52, .v (.int .i64 1)], none⟩, ⟨some 54, .bin .eql (.t 53) (.v (.int .i64 0)), none⟩, ⟨some 49, .mv (.t 54), none⟩])
       (.ite (.t 49) (.seq (.ops [⟨some 6, .mv (.v (.int .i64 2)), none⟩, ⟨some 7, .mv (.v (.bool true)), none⟩])
        .ret)
       .skip)))))))))))))
 (.seq (.ops [⟨some 6, .mv (.v (.int .i64 3)), none⟩, ⟨some 7, .mv (.v (.bool true)), none⟩])
 .ret)))))
noncomputable def X.i_WinnerOf (p0 : TBoard) (p1 : TState) (p2 : TConditions) : Option (Int × Bool) :=
  ((X.i_hasConditions p0 p1 p2).bind fun v4 => (bif (!v4) then some (0, false) else ((X.i_unitsOf p1 0).bind fun v7 => ((X.i_unitsOf p1 1).bind fun v9 => (bif (!(decide ((v7.length : Int) > 0))) then (bif (!(decide ((v9.length : Int) > 0))) then some (3, true) else some (2, true)) else (bif (!(decide ((v9.length : Int) > 0))) then some (1, true) else (bif (decide (p1.Turn < p0.Rules.Turns)) then some (0, true) else ((X.i_pointsNeeded p0 p1 p2 0).bind fun v15 => (bif (v15 == 0) then some (1, true) else ((X.i_pointsNeeded p0 p1 p2 1).bind fun v18 => (bif (v18 == 0) then some (2, true) else some (3, true))))))))))))
theorem i_WinnerOf_ok (p0 : TBoard) (p1 : TState) (p2 : TConditions) (r : (Int × Bool)) (H : X.i_WinnerOf p0 p1 p2 = some r) : FnOk Tryz.prog gl 37 [.agg (eTBoard p0), .agg (eTState p1), .agg (eTConditions p2)] (.tup [(false, [.int .i64 r.1]), (false, [.bool r.2])]) := by
  unfold X.i_WinnerOf at H
  refine fn_in (fn := Tryz.f37) (ir := i_WinnerOf_ir) (s1 := lit [(6, cI r.1), (7, cB r.2)] []) Tryz.func37 (by kernel_rfl) (by kernel_rfl) (by kernel_rfl) (by kernel_rfl) (by kernel_rfl) ?_
  refine seq_ops [] [] [(3, .c (.pk 3 0)), (4, .c (.pk 4 0)), (5, .c (.pk 5 0))] [(3, .var (eTBoard p0) false), (4, .var (eTState p1) false), (5, .var (eTConditions p2) false)] (fun t => t) (by kernel_rfl) ?_
  refine seq_in ?_
  obtain ⟨v4, h5, H⟩ := ofBind H
  refine seq_ops [.res (cB v4)] [] [(3, .c (.pk 3 0)), (4, .c (.pk 4 0)), (5, .c (.pk 5 0)), (14, cB (!v4))] [(3, .var (eTBoard p0) false), (4, .var (eTState p1) false), (5, .var (eTConditions p2) false)] (fun t => aI (i_hasConditions_ok p0 p1 p2 v4 h5) (t)) (by kernel_rfl) ?_
  rcases ofCond H with ⟨c6, H⟩ | ⟨c6, H⟩
  · refine ite_t c6 (by kernel_rfl) ?_
    refine seq_ops [] [] [(6, cI 0), (7, cB false)] [] (fun t => t) (by kernel_rfl) ?_
    refine ends_ret ?_
    obtain rfl := Option.some.inj H
    exact And.intro (.inl rfl) rfl
  · refine ite_f c6 (by kernel_rfl) ?_
    refine ends_skip ?_
    change EndsI _ _ _ _ _ _
    obtain ⟨v7, h8, H⟩ := ofBind H
    obtain ⟨v9, h10, H⟩ := ofBind H
    refine seq_draw [.res (.c (dat 1 eI zI v7)), .res (.c (dat 1 eI zI v9))] [] [(3, .c (.pk 3 0)), (4, .c (.pk 4 0)), (5, .c (.pk 5 0)), (8, cB (decide ((v7.length : Int) > 0))), (9, cB (decide ((v9.length : Int) > 0)))] [(3, .var (eTBoard p0) false), (4, .var (eTState p1) false), (5, .var (eTConditions p2) false)] (fun t => aI (i_unitsOf_ok p1 0 v7 h8) (aI (rfl : ([] : List Nat) = []) (aI (rfl : ([] : List Nat) = []) (aI (i_unitsOf_ok p1 1 v9 h10) (aI (rfl : ([] : List Nat) = []) (aI (rfl : ([] : List Nat) = []) (t))))))) (by kernel_rfl) ?_
    refine seq_in ?_
    refine ends_blk ?_
    rcases ofCond H with ⟨c11, H⟩ | ⟨c11, H⟩
    · refine seq_ops [.g true, .g true, .g true] [] [(3, .c (.pk 3 0)), (4, .c (.pk 4 0)), (5, .c (.pk 5 0)), (8, cB (decide ((v7.length : Int) > 0))), (9, cB (decide ((v9.length : Int) > 0))), (23, cB (!(decide ((v9.length : Int) > 0))))] [(3, .var (eTBoard p0) false), (4, .var (eTState p1) false), (5, .var (eTConditions p2) false)] (fun t => aI c11 (aI c11 (aI c11 (t)))) (by kernel_rfl) ?_
      rcases ofCond H with ⟨c12, H⟩ | ⟨c12, H⟩
      · refine ite_t c12 (by kernel_rfl) ?_
        refine seq_ops [] [] [(6, cI 3), (7, cB true)] [] (fun t => t) (by kernel_rfl) ?_
        refine ends_ret ?_
        obtain rfl := Option.some.inj H
        exact And.intro (.inl rfl) rfl
      · refine ite_f c12 (by kernel_rfl) ?_
        refine seq_ops [] [] [(3, .c (.pk 3 0)), (4, .c (.pk 4 0)), (5, .c (.pk 5 0)), (9, cB (decide ((v9.length : Int) > 0))), (30, cB (!(decide ((v7.length : Int) > 0))))] [(3, .var (eTBoard p0) false), (4, .var (eTState p1) false), (5, .var (eTConditions p2) false)] (fun t => t) (by kernel_rfl) ?_
        refine ite_t c11 (by kernel_rfl) ?_
        refine seq_ops [] [] [(6, cI 2), (7, cB true)] [] (fun t => t) (by kernel_rfl) ?_
        refine ends_ret ?_
        obtain rfl := Option.some.inj H
        exact And.intro (.inl rfl) rfl
    · refine seq_ops [.g false, .g false, .g false] [] [(3, .c (.pk 3 0)), (4, .c (.pk 4 0)), (5, .c (.pk 5 0)), (8, cB (decide ((v7.length : Int) > 0))), (9, cB (decide ((v9.length : Int) > 0))), (23, cB false)] [(3, .var (eTBoard p0) false), (4, .var (eTState p1) false), (5, .var (eTConditions p2) false)] (fun t => aI c11 (aI c11 (aI c11 (t)))) (by kernel_rfl) ?_
      refine ite_f (rfl : (false : Bool) = false) (by kernel_rfl) ?_
      refine seq_ops [] [] [(3, .c (.pk 3 0)), (4, .c (.pk 4 0)), (5, .c (.pk 5 0)), (9, cB (decide ((v9.length : Int) > 0))), (30, cB (!(decide ((v7.length : Int) > 0))))] [(3, .var (eTBoard p0) false), (4, .var (eTState p1) false), (5, .var (eTConditions p2) false)] (fun t => t) (by kernel_rfl) ?_
      refine ite_f c11 (by kernel_rfl) ?_
      refine seq_ops [] [] [(3, .c (.pk 3 0)), (4, .c (.pk 4 0)), (5, .c (.pk 5 0)), (33, cB (!(decide ((v9.length : Int) > 0))))] [(3, .var (eTBoard p0) false), (4, .var (eTState p1) false), (5, .var (eTConditions p2) false)] (fun t => t) (by kernel_rfl) ?_
      rcases ofCond H with ⟨c13, H⟩ | ⟨c13, H⟩
      · refine ite_t c13 (by kernel_rfl) ?_
        refine seq_ops [] [] [(6, cI 1), (7, cB true)] [] (fun t => t) (by kernel_rfl) ?_
        refine ends_ret ?_
        obtain rfl := Option.some.inj H
        exact And.intro (.inl rfl) rfl
      · refine ite_f c13 (by kernel_rfl) ?_
        refine seq_ops [] [] [(3, .c (.pk 3 0)), (4, .c (.pk 4 0)), (5, .c (.pk 5 0)), (36, cB (decide (p1.Turn < p0.Rules.Turns)))] [(3, .var (eTBoard p0) false), (4, .var (eTState p1) false), (5, .var (eTConditions p2) false)] (fun t => t) (by kernel_rfl) ?_
        rcases ofCond H with ⟨c14, H⟩ | ⟨c14, H⟩
        · refine ite_t c14 (by kernel_rfl) ?_
          refine seq_ops [] [] [(6, cI 0), (7, cB true)] [] (fun t => t) (by kernel_rfl) ?_
          refine ends_ret ?_
          obtain rfl := Option.some.inj H
          exact And.intro (.inl rfl) rfl
        · refine ite_f c14 (by kernel_rfl) ?_
          obtain ⟨v15, h16, H⟩ := ofBind H
          refine seq_ops [.res (cI v15)] [] [(3, .c (.pk 3 0)), (4, .c (.pk 4 0)), (5, .c (.pk 5 0)), (43, cB (v15 == 0))] [(3, .var (eTBoard p0) false), (4, .var (eTState p1) false), (5, .var (eTConditions p2) false)] (fun t => aI (i_pointsNeeded_ok p0 p1 p2 0 v15 h16) (t)) (by kernel_rfl) ?_
          rcases ofCond H with ⟨c17, H⟩ | ⟨c17, H⟩
          · refine ite_t c17 (by kernel_rfl) ?_
            refine seq_ops [] [] [(6, cI 1), (7, cB true)] [] (fun t => t) (by kernel_rfl) ?_
            refine ends_ret ?_
            obtain rfl := Option.some.inj H
            exact And.intro (.inl rfl) rfl
          · refine ite_f c17 (by kernel_rfl) ?_
            obtain ⟨v18, h19, H⟩ := ofBind H
            refine seq_ops [.res (cI v18)] [] [(49, cB (v18 == 0))] [] (fun t => aI (i_pointsNeeded_ok p0 p1 p2 1 v18 h19) (t)) (by kernel_rfl) ?_
            rcases ofCond H with ⟨c20, H⟩ | ⟨c20, H⟩
            · refine ite_t c20 (by kernel_rfl) ?_
              refine seq_ops [] [] [(6, cI 2), (7, cB true)] [] (fun t => t) (by kernel_rfl) ?_
              refine ends_ret ?_
              obtain rfl := Option.some.inj H
              exact And.intro (.inl rfl) rfl
            · refine ite_f c20 (by kernel_rfl) ?_
              refine ends_skip ?_
              change EndsI _ _ _ _ _ _
              refine seq_ops [] [] [(6, cI 3), (7, cB true)] [] (fun t => t) (by kernel_rfl) ?_
              refine ends_ret ?_
              obtain rfl := Option.some.inj H
              exact And.intro (.inl rfl) rfl

def l_eqGoal_ir : S :=
 (.seq (.ops [⟨some 2, .box 2 (.t 0), none⟩, ⟨some 3, .box 2 (.t 1), none⟩, ⟨some 4, .mv (.v (.bool false)), none⟩])
 (.seq (.seq (.ops [⟨some 5, .fad 0 (.t 2), none⟩, ⟨some 6, .load 1 false (.t 5), none⟩, ⟨some 7, .fad 0 (.t 3), none⟩, ⟨some 8, .load 1 false (.t 7), none⟩, ⟨some 9, .bin .neq (.t 6) (.t 8), none⟩])
 (.ite (.t 9) (.seq (.ops [⟨some 4, .mv (.v (.bool false)), none⟩])
  .ret)
 .skip))
 (.seq (.seq (.ops [⟨some 10, .fad 1 (.t 2), none⟩, ⟨some 11, .load 1 false (.t 10), none⟩, ⟨some 12, .fad 1 (.t 3), none⟩, ⟨some 13, .load 1 false (.t 12), none⟩, ⟨some 14, .bin .neq (.t 11) (.t 13), none⟩])
 (.ite (.t 14) (.seq (.ops [⟨some 4, .mv (.v (.bool false)), none⟩])
  .ret)
 .skip))
 (.seq (.ops [⟨some 4, .mv (.v (.bool true)), none⟩])
 .ret))))
noncomputable def X.l_eqGoal (p0 : TGoal) (p1 : TGoal) : Option Bool :=
  (bif (p0.At != p1.At) then some false else (bif (p0.Points != p1.Points) then some false else some true))
theorem l_eqGoal_ok (p0 : TGoal) (p1 : TGoal) (r : Bool) (H : X.l_eqGoal p0 p1 = some r) : FnOk Tryz.prog gl 157 [.agg (eTGoal p0), .agg (eTGoal p1)] (cB r) := by
  unfold X.l_eqGoal at H
  refine fn_in (fn := Tryz.f157) (ir := l_eqGoal_ir) (s1 := lit [(4, cB r)] []) Tryz.func157 (by kernel_rfl) (by kernel_rfl) (by kernel_rfl) (by kernel_rfl) (by kernel_rfl) ?_
  refine seq_ops [] [] [(2, .c (.pk 2 0)), (3, .c (.pk 3 0))] [(2, .var (eTGoal p0) false), (3, .var (eTGoal p1) false)] (fun t => t) (by kernel_rfl) ?_
  refine seq_in ?_
  refine seq_ops [] [] [(2, .c (.pk 2 0)), (3, .c (.pk 3 0)), (9, cB (p0.At != p1.At))] [(2, .var (eTGoal p0) false), (3, .var (eTGoal p1) false)] (fun t => t) (by kernel_rfl) ?_
  rcases ofCond H with ⟨c2, H⟩ | ⟨c2, H⟩
  · refine ite_t c2 (by kernel_rfl) ?_
    refine seq_ops [] [] [(4, cB false)] [] (fun t => t) (by kernel_rfl) ?_
    refine ends_ret ?_
    obtain rfl := Option.some.inj H
    exact And.intro (.inl rfl) rfl
  · refine ite_f c2 (by kernel_rfl) ?_
    refine ends_skip ?_
    change EndsI _ _ _ _ _ _
    refine seq_in ?_
    refine seq_ops [] [] [(14, cB (p0.Points != p1.Points))] [] (fun t => t) (by kernel_rfl) ?_
    rcases ofCond H with ⟨c3, H⟩ | ⟨c3, H⟩
    · refine ite_t c3 (by kernel_rfl) ?_
      refine seq_ops [] [] [(4, cB false)] [] (fun t => t) (by kernel_rfl) ?_
      refine ends_ret ?_
      obtain rfl := Option.some.inj H
      exact And.intro (.inl rfl) rfl
    · refine ite_f c3 (by kernel_rfl) ?_
      refine ends_skip ?_
      change EndsI _ _ _ _ _ _
      refine seq_ops [] [] [(4, cB true)] [] (fun t => t) (by kernel_rfl) ?_
      refine ends_ret ?_
      obtain rfl := Option.some.inj H
      exact And.intro (.inl rfl) rfl

def l_eqGoalS_ir : S :=
 (.seq (.ops [⟨some 4, .mv (.v (.bool false)), none⟩])
 (.seq (.seq (.ops [⟨some 6, .mv (.t 0), none⟩, ⟨some 7, .len (.t 6), none⟩, ⟨some 8, .mv (.t 1), none⟩, ⟨some 9, .len (.t 8), none⟩, ⟨some 10, .bin .neq (.t 7) (.t 9), none⟩])
 (.ite (.t 10) (.seq (.ops [⟨some 4, .mv (.v (.bool false)), none⟩])
  .ret)
 .skip))
 (.seq (.seq (.ops [⟨some 5, .mv (.v (.int .i64 0)), none⟩])
 (.blk 0 (.loop (.seq (.seq (.ops [⟨some 11, .mv (.t 5), none⟩, ⟨some 12, .mv (.t 0), none⟩, ⟨some 13, .len (.t 12), none⟩, ⟨some 14, .bin .lss (.t 11) (.t 13), none⟩])
   (.ite (.t 14) .skip
   (.exit 0)))
   (.seq (.blk 1 (.seq (.draw 10 [⟨some 17, .mv (.t 0), none⟩, ⟨some 18, .mv (.t 5), none⟩, ⟨some 19, .iad 2 (.t 17) (.t 18), none⟩, ⟨some 20, .load 2 true (.t 19), none⟩, ⟨some 21, .mv (.t 1), none⟩, ⟨some 22, .mv (.t 5), none⟩, ⟨some 23, .iad 2 (.t 21) (.t 22), none⟩, ⟨some 24, .load 2 true (.t 23), none⟩, ⟨some 25, .call 157 [.t 20, .t 24], none⟩, ⟨some 26, .not (.t 25), none⟩])
    (.ite (.t 26) (.seq (.ops [⟨some 4, .mv (.v (.bool false)), none⟩])
     .ret)
    .skip)))
   (.ops [⟨some 15, .mv (.t 5), none⟩, ⟨some 16, .bin .add (.t 15) (.v (.int .i64 1)), none⟩, ⟨some 5, .mv (.t 16), none⟩]))))))
 (.seq (.ops [⟨some 4, .mv (.v (.bool true)), none⟩])
 .ret))))
noncomputable def X.l_eqGoalS (p0 : (List TGoal)) (p1 : (List TGoal)) : Option Bool :=
  (bif ((p0.length : Int) != (p1.length : Int)) then some false else ((loop (fun (x22 : Int) => ((bif (decide (x22 < (p0.length : Int))) then ((at' zTGoal p0 x22).bind fun v25 => ((at' zTGoal p1 x22).bind fun v27 => ((X.l_eqGoal v25 v27).bind fun v29 => (bif (!v29) then some (Sum.inr (Sum.inr false)) else some (Sum.inl (W (x22 + 1))))))) else some (Sum.inr (Sum.inl ()))) : Option (Int ⊕ (Unit ⊕ Bool)))) 0).bind fun y32 => (Sum.elim (fun (y34 : Unit) => some true) (fun (y35 : Bool) => some y35) y32)))
theorem l_eqGoalS_ok (p0 : (List TGoal)) (p1 : (List TGoal)) (r : Bool) (H : X.l_eqGoalS p0 p1 = some r) : FnOk Tryz.prog gl 95 [.c (dat 2 eTGoal zTGoal p0), .c (dat 2 eTGoal zTGoal p1)] (cB r) := by
  unfold X.l_eqGoalS at H
  refine fn_in (fn := Tryz.f95) (ir := l_eqGoalS_ir) (s1 := lit [(4, cB r)] []) Tryz.func95 (by kernel_rfl) (by kernel_rfl) (by kernel_rfl) (by kernel_rfl) (by kernel_rfl) ?_
  refine seq_ops [] [] [(0, .c (dat 2 eTGoal zTGoal p0)), (1, .c (dat 2 eTGoal zTGoal p1))] [] (fun t => t) (by kernel_rfl) ?_
  refine seq_in ?_
  refine seq_ops [] [] [(0, .c (dat 2 eTGoal zTGoal p0)), (1, .c (dat 2 eTGoal zTGoal p1)), (10, cB ((p0.length : Int) != (p1.length : Int)))] [] (fun t => lI p0 (lI p1 (t))) (by kernel_rfl) ?_
  rcases ofCond H with ⟨c2, H⟩ | ⟨c2, H⟩
  · refine ite_t c2 (by kernel_rfl) ?_
    refine seq_ops [] [] [(4, cB false)] [] (fun t => t) (by kernel_rfl) ?_
    refine ends_ret ?_
    obtain rfl := Option.some.inj H
    exact And.intro (.inl rfl) rfl
  · refine ite_f c2 (by kernel_rfl) ?_
    refine ends_skip ?_
    change EndsI _ _ _ _ _ _
    refine seq_in ?_
    refine seq_ops [] [] [(0, .c (dat 2 eTGoal zTGoal p0)), (1, .c (dat 2 eTGoal zTGoal p1)), (5, cI 0)] [] (fun t => t) (by kernel_rfl) ?_
    refine ends_blk ?_
    obtain ⟨y32, h33, H⟩ := ofBind H
    refine loop_in (fun (x : Int) => lit [(0, .c (dat 2 eTGoal zTGoal p0)), (1, .c (dat 2 eTGoal zTGoal p1)), (5, cI x)] []) (orJ (fun (z : Unit) => At (.exit 0) (lit [] [])) (fun (z : Bool) => At .ret (lit [(4, cB z)] []))) h33 ?_ ?_
    · clear H h33
      intro x22 y0 H
      refine seq_in ?_
      refine seq_ops [] [] [(0, .c (dat 2 eTGoal zTGoal p0)), (1, .c (dat 2 eTGoal zTGoal p1)), (5, cI x22), (14, cB (decide (x22 < (p0.length : Int))))] [] (fun t => lI p0 (t)) (by kernel_rfl) ?_
      rcases ofCond H with ⟨c24, H⟩ | ⟨c24, H⟩
      · refine ite_t c24 (by kernel_rfl) ?_
        refine ends_skip ?_
        change EndsI _ _ _ _ _ _
        refine seq_in ?_
        refine ends_blk ?_
        obtain ⟨v25, h26, H⟩ := ofBind H
        obtain ⟨v27, h28, H⟩ := ofBind H
        obtain ⟨v29, h30, H⟩ := ofBind H
        refine seq_draw [.cs (eTGoal v25), .cs (eTGoal v27), .res (cB v29)] [] [(0, .c (dat 2 eTGoal zTGoal p0)), (1, .c (dat 2 eTGoal zTGoal p1)), (5, cI x22), (26, cB (!v29))] [] (fun t => aI (at_lt h26) (aI (at_enc (enc := eTGoal) h26) (aI (rfl : ([] : List Nat) = []) (aI (at_lt h28) (aI (at_enc (enc := eTGoal) h28) (aI (rfl : ([] : List Nat) = []) (aI (l_eqGoal_ok v25 v27 v29 h30) (aI trivial (aI (rfl : ([] : List Nat) = []) (t)))))))))) (by kernel_rfl) ?_
        rcases ofCond H with ⟨c31, H⟩ | ⟨c31, H⟩
        · refine ite_t c31 (by kernel_rfl) ?_
          refine seq_ops [] [] [(4, cB false)] [] (fun t => t) (by kernel_rfl) ?_
          refine ends_ret ?_
          obtain rfl := Option.some.inj H
          exact And.intro (by simp) (And.intro rfl rfl)
        · refine ite_f c31 (by kernel_rfl) ?_
          refine ends_skip ?_
          change EndsI _ _ _ _ _ _
          refine one_ops [] [] [(0, .c (dat 2 eTGoal zTGoal p0)), (1, .c (dat 2 eTGoal zTGoal p1)), (5, cI (W (x22 + 1)))] [] (fun t => t) (by kernel_rfl) ?_
          obtain rfl := Option.some.inj H
          exact And.intro rfl rfl
      · refine ite_f c24 (by kernel_rfl) ?_
        refine tell [] [] [] (fun t => t) (by kernel_rfl) ?_
        refine ends_exit ?_
        obtain rfl := Option.some.inj H
        exact And.intro (by simp) (And.intro rfl rfl)
    · clear h33
      cases y32 with
      | inl y34 =>
        replace H := ofInl H
        intro e s q
        obtain ⟨rfl, rfl⟩ := q
        change EndsI _ _ _ _ _ _
        refine seq_ops [] [] [(4, cB true)] [] (fun t => t) (by kernel_rfl) ?_
        refine ends_ret ?_
        obtain rfl := Option.some.inj H
        exact And.intro (.inl rfl) rfl
      | inr y35 =>
        replace H := ofInr H
        intro e s q
        obtain ⟨rfl, rfl⟩ := q
        obtain rfl := Option.some.inj H
        exact And.intro (.inl rfl) rfl

def l_eqConditions_ir : S :=
 (.seq (.ops [⟨some 2, .box 3 (.t 0), none⟩, ⟨some 3, .box 3 (.t 1), none⟩, ⟨some 4, .mv (.v (.bool false)), none⟩])
 (.seq (.seq (.ops [⟨some 5, .fad 0 (.t 2), none⟩, ⟨some 6, .load 1 false (.t 5), none⟩, ⟨some 7, .fad 0 (.t 3), none⟩, ⟨some 8, .load 1 false (.t 7), none⟩, ⟨some 9, .call 95 [.t 6, .t 8], none⟩, ⟨some 10, .not (.t 9), none⟩])
 (.ite (.t 10) (.seq (.ops [⟨some 4, .mv (.v (.bool false)), none⟩])
  .ret)
 .skip))
 (.seq (.seq (.ops [⟨some 11, .fad 1 (.t 2), none⟩, ⟨some 12, .load 1 false (.t 11), none⟩, ⟨some 13, .fad 1 (.t 3), none⟩, ⟨some 14, .load 1 false (.t 13), none⟩, ⟨some 15, .bin .neq (.t 12) (.t 14), none⟩])
 (.ite (.t 15) (.seq (.ops [⟨some 4, .mv (.v (.bool false)), none⟩])
  .ret)
 .skip))
 (.seq (.seq (.ops [⟨some 16, .fad 2 (.t 2), none⟩, ⟨some 17, .load 1 false (.t 16), none⟩, ⟨some 18, .fad 2 (.t 3), none⟩, ⟨some 19, .load 1 false (.t 18), none⟩, ⟨some 20, .bin .neq (.t 17) (.t 19), none⟩])
 (.ite (.t 20) (.seq (.ops [⟨some 4, .mv (.v (.bool false)), none⟩])
  .ret)
 .skip))
 (.seq (.ops [⟨some 4, .mv (.v (.bool true)), none⟩])
 .ret)))))
noncomputable def X.l_eqConditions (p0 : TConditions) (p1 : TConditions) : Option Bool :=
  ((X.l_eqGoalS p0.Goals p1.Goals).bind fun v4 => (bif (!v4) then some false else (bif (p0.Step != p1.Step) then some false else (bif (p0.Margin != p1.Margin) then some false else some true))))
theorem l_eqConditions_ok (p0 : TConditions) (p1 : TConditions) (r : Bool) (H : X.l_eqConditions p0 p1 = some r) : FnOk Tryz.prog gl 38 [.agg (eTConditions p0), .agg (eTConditions p1)] (cB r) := by
  unfold X.l_eqConditions at H
  refine fn_in (fn := Tryz.f38) (ir := l_eqConditions_ir) (s1 := lit [(4, cB r)] []) Tryz.func38 (by kernel_rfl) (by kernel_rfl) (by kernel_rfl) (by kernel_rfl) (by kernel_rfl) ?_
  refine seq_ops [] [] [(2, .c (.pk 2 0)), (3, .c (.pk 3 0))] [(2, .var (eTConditions p0) false), (3, .var (eTConditions p1) false)] (fun t => t) (by kernel_rfl) ?_
  refine seq_in ?_
  obtain ⟨v4, h5, H⟩ := ofBind H
  refine seq_ops [.res (cB v4)] [] [(2, .c (.pk 2 0)), (3, .c (.pk 3 0)), (10, cB (!v4))] [(2, .var (eTConditions p0) false), (3, .var (eTConditions p1) false)] (fun t => aI (l_eqGoalS_ok p0.Goals p1.Goals v4 h5) (t)) (by kernel_rfl) ?_
  rcases ofCond H with ⟨c6, H⟩ | ⟨c6, H⟩
  · refine ite_t c6 (by kernel_rfl) ?_
    refine seq_ops [] [] [(4, cB false)] [] (fun t => t) (by kernel_rfl) ?_
    refine ends_ret ?_
    obtain rfl := Option.some.inj H
    exact And.intro (.inl rfl) rfl
  · refine ite_f c6 (by kernel_rfl) ?_
    refine ends_skip ?_
    change EndsI _ _ _ _ _ _
    refine seq_in ?_
    refine seq_ops [] [] [(2, .c (.pk 2 0)), (3, .c (.pk 3 0)), (15, cB (p0.Step != p1.Step))] [(2, .var (eTConditions p0) false), (3, .var (eTConditions p1) false)] (fun t => t) (by kernel_rfl) ?_
    rcases ofCond H with ⟨c8, H⟩ | ⟨c8, H⟩
    · refine ite_t c8 (by kernel_rfl) ?_
      refine seq_ops [] [] [(4, cB false)] [] (fun t => t) (by kernel_rfl) ?_
      refine ends_ret ?_
      obtain rfl := Option.some.inj H
      exact And.intro (.inl rfl) rfl
    · refine ite_f c8 (by kernel_rfl) ?_
      refine ends_skip ?_
      change EndsI _ _ _ _ _ _
      refine seq_in ?_
      refine seq_ops [] [] [(20, cB (p0.Margin != p1.Margin))] [] (fun t => t) (by kernel_rfl) ?_
      rcases ofCond H with ⟨c9, H⟩ | ⟨c9, H⟩
      · refine ite_t c9 (by kernel_rfl) ?_
        refine seq_ops [] [] [(4, cB false)] [] (fun t => t) (by kernel_rfl) ?_
        refine ends_ret ?_
        obtain rfl := Option.some.inj H
        exact And.intro (.inl rfl) rfl
      · refine ite_f c9 (by kernel_rfl) ?_
        refine ends_skip ?_
        change EndsI _ _ _ _ _ _
        refine seq_ops [] [] [(4, cB true)] [] (fun t => t) (by kernel_rfl) ?_
        refine ends_ret ?_
        obtain rfl := Option.some.inj H
        exact And.intro (.inl rfl) rfl

def l_FnExactWinnerOf_ir : S :=
 (.seq (.ops [⟨some 3, .box 12 (.t 0), none⟩, ⟨some 4, .box 3 (.t 1), none⟩, ⟨some 5, .box 3 (.t 2), none⟩, ⟨some 6, .mv (.v (.bool false)), none⟩])
 (.seq (.ops [⟨some 7, .mv (.v (.int .i64 1048576)), none⟩])
 (.seq (.ops [⟨some 15, .load 12 true (.t 3), none⟩, ⟨some 16, .mv (.t 7), none⟩, ⟨some 17, .call 12 [.t 15, .t 16], none⟩, ⟨some 7, .mv (.t 17), none⟩])
 (.seq (.seq (.ops [⟨some 18, .mv (.t 7), none⟩, ⟨some 19, .bin .lss (.t 18) (.v (.int .i64 0)), none⟩])
 (.ite (.t 19) (.seq (.ops [⟨some 6, .mv (.v (.bool true)), none⟩])
  .ret)
 .skip))
 (.seq (.ops [⟨some 20, .load 3 true (.t 4), none⟩, ⟨some 21, .mv (.t 7), none⟩, ⟨some 22, .call 13 [.t 20, .t 21], none⟩, ⟨some 7, .mv (.t 22), none⟩])
 (.seq (.seq (.ops [⟨some 23, .mv (.t 7), none⟩, ⟨some 24, .bin .lss (.t 23) (.v (.int .i64 0)), none⟩])
 (.ite (.t 24) (.seq (.ops [⟨some 6, .mv (.v (.bool true)), none⟩])
  .ret)
 .skip))
 (.seq (.ops [⟨some 25, .load 3 true (.t 5), none⟩, ⟨some 26, .mv (.t 7), none⟩, ⟨some 27, .call 34 [.t 25, .t 26], none⟩, ⟨some 7, .mv (.t 27), none⟩])
 (.seq (.seq (.ops [⟨some 28, .mv (.t 7), none⟩, ⟨some 29, .bin .lss (.t 28) (.v (.int .i64 0)), none⟩])
 (.ite (.t 29) (.seq (.ops [⟨some 6, .mv (.v (.bool true)), none⟩])
  .ret)
 .skip))
 (.seq (.draw 12 [⟨some 31, .load 12 true (.t 3), none⟩, ⟨some 32, .call 15 [.t 31], none⟩, ⟨some 33, .load 3 true (.t 4), none⟩, ⟨some 34, .call 16 [.t 33], none⟩, ⟨some 35, .load 3 true (.t 5), none⟩, ⟨some 36, .call 36 [.t 35], none⟩, ⟨some 37, .call 35 [.t 32, .t 34, .t 36], none⟩, ⟨some 30, .mv (.t 37), none⟩, ⟨some 38, .ext (.t 30) 0, none⟩, ⟨some 39, .ext (.t 30) 1, none⟩, ⟨some 8, .mv (.t 38), none⟩, ⟨some 9, .mv (.t 39), none⟩])
 (.seq (.ops [⟨some 40, .load 12 true (.t 3), none⟩, ⟨some 41, .call 15 [.t 40], none⟩, ⟨some 10, .alloc [.nil, .nil, .int .i64 0, .int .i64 0, .int .i64 0, .int .i64 0, .int .i64 0, .int .i64 0, .int .i64 0, .nil, .nil, .nil], none⟩, ⟨none, .store 12 (.t 10) (.t 41), none⟩])
 (.seq (.ops [⟨some 42, .load 3 true (.t 4), none⟩, ⟨some 43, .call 16 [.t 42], none⟩, ⟨some 11, .alloc [.int .i64 0, .int .i64 0, .nil], none⟩, ⟨none, .store 3 (.t 11) (.t 43), none⟩])
 (.seq (.ops [⟨some 44, .load 3 true (.t 5), none⟩, ⟨some 45, .call 36 [.t 44], none⟩, ⟨some 12, .alloc [.nil, .int .i64 0, .int .i64 0], none⟩, ⟨none, .store 3 (.t 12) (.t 45), none⟩])
 (.seq (.ops [⟨some 47, .load 12 true (.t 10), none⟩, ⟨some 48, .load 3 true (.t 11), none⟩, ⟨some 49, .load 3 true (.t 12), none⟩, ⟨some 50, .call 37 [.t 47, .t 48, .t 49], none⟩, ⟨some 46, .mv (.t 50), none⟩, ⟨some 51, .ext (.t 46) 0, none⟩, ⟨some 52, .ext (.t 46) 1, none⟩, ⟨some 13, .mv (.t 51), none⟩, ⟨some 14, .mv (.t 52), none⟩])
 (.seq (.seq (.ops [⟨some 53, .mv (.t 13), none⟩, ⟨some 54, .mv (.t 8), none⟩, ⟨some 55, .bin .neq (.t 53) (.t 54), none⟩, ⟨some 56, .mv (.t 55), none⟩, ⟨some 57, .mv (.t 14), some (56, false)⟩, ⟨some 58, .mv (.t 9), some (56, false)⟩, ⟨some 59, .bqe true (.t 57) (.t 58), some (56, false)⟩, ⟨some 60, .pick (.t 56) (.v (.bool true)) (.t 59), none⟩])
 (.ite (.t 60) (.seq (.ops [⟨some 6, .mv (.v (.bool false)), none⟩])
  .ret)
 .skip))
 (.seq (.seq (.draw 5 [⟨some 61, .load 12 true (.t 10), none⟩, ⟨some 62, .load 12 true (.t 3), none⟩, ⟨some 63, .call 15 [.t 62], none⟩, ⟨some 64, .call 18 [.t 61, .t 63], none⟩, ⟨some 65, .not (.t 64), none⟩])
 (.ite (.t 65) (.seq (.ops [⟨some 6, .mv (.v (.bool false)), none⟩])
  .ret)
 .skip))
 (.seq (.seq (.draw 5 [⟨some 66, .load 3 true (.t 11), none⟩, ⟨some 67, .load 3 true (.t 4), none⟩, ⟨some 68, .call 16 [.t 67], none⟩, ⟨some 69, .call 19 [.t 66, .t 68], none⟩, ⟨some 70, .not (.t 69), none⟩])
 (.ite (.t 70) (.seq (.ops [⟨some 6, .mv (.v (.bool false)), none⟩])
  .ret)
 .skip))
 (.seq (.seq (.draw 5 [⟨some 71, .load 3 true (.t 12), none⟩, ⟨some 72, .load 3 true (.t 5), none⟩, ⟨some 73, .call 36 [.t 72], none⟩, ⟨some 74, .call 38 [.t 71, .t 73], none⟩, ⟨some 75, .not (.t 74), none⟩])
 (.ite (.t 75) (.seq (.ops [⟨some 6, .mv (.v (.bool false)), none⟩])
  .ret)
 .skip))
 (.seq (.ops [⟨some 6, .mv (.v (.bool true)), none⟩])
 .ret))))))))))))))))))
noncomputable def X.l_FnExactWinnerOf (p0 : TBoard) (p1 : TState) (p2 : TConditions) : Option Bool :=
  ((X.l_szBoard p0 1048576).bind fun v1 => (bif (decide (v1 < 0)) then some true else ((X.l_szState p1 v1).bind fun v5 => (bif (decide (v5 < 0)) then some true else ((X.l_szConditions p2 v5).bind fun v9 => (bif (decide (v9 < 0)) then some true else ((X.l_toBoard p0).bind fun v13 => ((X.l_toState p1).bind fun v15 => ((X.l_toConditions p2).bind fun v17 => ((X.s_WinnerOf v13 v15 v17).bind fun v19 => ((X.l_toBoard p0).bind fun v21 => ((X.l_toState p1).bind fun v23 => ((X.l_toConditions p2).bind fun v25 => ((X.i_WinnerOf v21 v23 v25).bind fun v27 => (bif (v27.1 != v19.1) then some false else (bif (!(v27.2 == v19.2)) then some false else ((X.l_toBoard p0).bind fun v38 => ((X.l_eqBoard v21 v38).bind fun v40 => (bif (!v40) then some false else ((X.l_toState p1).bind fun v48 => ((X.l_eqState v23 v48).bind fun v50 => (bif (!v50) then some false else ((X.l_toConditions p2).bind fun v53 => ((X.l_eqConditions v25 v53).bind fun v55 => (bif (!v55) then some false else some true)))))))))))))))))))))))))
theorem l_FnExactWinnerOf_ok (p0 : TBoard) (p1 : TState) (p2 : TConditions) (r : Bool) (H : X.l_FnExactWinnerOf p0 p1 p2 = some r) : FnOk Tryz.prog gl 8 [.agg (eTBoard p0), .agg (eTState p1), .agg (eTConditions p2)] (cB r) := by
  unfold X.l_FnExactWinnerOf at H
  refine fn_in (fn := Tryz.f8) (ir := l_FnExactWinnerOf_ir) (s1 := lit [(6, cB r)] []) Tryz.func8 (by kernel_rfl) (by kernel_rfl) (by kernel_rfl) (by kernel_rfl) (by kernel_rfl) ?_
  refine seq_ops [] [] [(3, .c (.pk 3 0)), (4, .c (.pk 4 0)), (5, .c (.pk 5 0))] [(3, .var (eTBoard p0) false), (4, .var (eTState p1) false), (5, .var (eTConditions p2) false)] (fun t => t) (by kernel_rfl) ?_
  refine seq_ops [] [] [(3, .c (.pk 3 0)), (4, .c (.pk 4 0)), (5, .c (.pk 5 0)), (7, cI 1048576)] [(3, .var (eTBoard p0) false), (4, .var (eTState p1) false), (5, .var (eTConditions p2) false)] (fun t => t) (by kernel_rfl) ?_
  obtain ⟨v1, h2, H⟩ := ofBind H
  refine seq_ops [.res (cI v1)] [] [(3, .c (.pk 3 0)), (4, .c (.pk 4 0)), (5, .c (.pk 5 0)), (7, cI v1)] [(3, .var (eTBoard p0) false), (4, .var (eTState p1) false), (5, .var (eTConditions p2) false)] (fun t => aI (l_szBoard_ok p0 1048576 v1 h2) (t)) (by kernel_rfl) ?_
  refine seq_in ?_
  refine seq_ops [] [] [(3, .c (.pk 3 0)), (4, .c (.pk 4 0)), (5, .c (.pk 5 0)), (7, cI v1), (19, cB (decide (v1 < 0)))] [(3, .var (eTBoard p0) false), (4, .var (eTState p1) false), (5, .var (eTConditions p2) false)] (fun t => t) (by kernel_rfl) ?_
  rcases ofCond H with ⟨c4, H⟩ | ⟨c4, H⟩
  · refine ite_t c4 (by kernel_rfl) ?_
    refine seq_ops [] [] [(6, cB true)] [] (fun t => t) (by kernel_rfl) ?_
    refine ends_ret ?_
    obtain rfl := Option.some.inj H
    exact And.intro (.inl rfl) rfl
  · refine ite_f c4 (by kernel_rfl) ?_
    refine ends_skip ?_
    change EndsI _ _ _ _ _ _
    obtain ⟨v5, h6, H⟩ := ofBind H
    refine seq_ops [.res (cI v5)] [] [(3, .c (.pk 3 0)), (4, .c (.pk 4 0)), (5, .c (.pk 5 0)), (7, cI v5)] [(3, .var (eTBoard p0) false), (4, .var (eTState p1) false), (5, .var (eTConditions p2) false)] (fun t => aI (l_szState_ok p1 v1 v5 h6) (t)) (by kernel_rfl) ?_
    refine seq_in ?_
    refine seq_ops [] [] [(3, .c (.pk 3 0)), (4, .c (.pk 4 0)), (5, .c (.pk 5 0)), (7, cI v5), (24, cB (decide (v5 < 0)))] [(3, .var (eTBoard p0) false), (4, .var (eTState p1) false), (5, .var (eTConditions p2) false)] (fun t => t) (by kernel_rfl) ?_
    rcases ofCond H with ⟨c8, H⟩ | ⟨c8, H⟩
    · refine ite_t c8 (by kernel_rfl) ?_
      refine seq_ops [] [] [(6, cB true)] [] (fun t => t) (by kernel_rfl) ?_
      refine ends_ret ?_
      obtain rfl := Option.some.inj H
      exact And.intro (.inl rfl) rfl
    · refine ite_f c8 (by kernel_rfl) ?_
      refine ends_skip ?_
      change EndsI _ _ _ _ _ _
      obtain ⟨v9, h10, H⟩ := ofBind H
      refine seq_ops [.res (cI v9)] [] [(3, .c (.pk 3 0)), (4, .c (.pk 4 0)), (5, .c (.pk 5 0)), (7, cI v9)] [(3, .var (eTBoard p0) false), (4, .var (eTState p1) false), (5, .var (eTConditions p2) false)] (fun t => aI (l_szConditions_ok p2 v5 v9 h10) (t)) (by kernel_rfl) ?_
      refine seq_in ?_
      refine seq_ops [] [] [(3, .c (.pk 3 0)), (4, .c (.pk 4 0)), (5, .c (.pk 5 0)), (29, cB (decide (v9 < 0)))] [(3, .var (eTBoard p0) false), (4, .var (eTState p1) false), (5, .var (eTConditions p2) false)] (fun t => t) (by kernel_rfl) ?_
      rcases ofCond H with ⟨c12, H⟩ | ⟨c12, H⟩
      · refine ite_t c12 (by kernel_rfl) ?_
        refine seq_ops [] [] [(6, cB true)] [] (fun t => t) (by kernel_rfl) ?_
        refine ends_ret ?_
        obtain rfl := Option.some.inj H
        exact And.intro (.inl rfl) rfl
      · refine ite_f c12 (by kernel_rfl) ?_
        refine ends_skip ?_
        change EndsI _ _ _ _ _ _
        obtain ⟨v13, h14, H⟩ := ofBind H
        obtain ⟨v15, h16, H⟩ := ofBind H
        obtain ⟨v17, h18, H⟩ := ofBind H
        obtain ⟨v19, h20, H⟩ := ofBind H
        refine seq_draw [.res (.agg (eTBoard v13)), .res (.agg (eTState v15)), .res (.agg (eTConditions v17)), .res (.tup [(false, [.int .i64 v19.1]), (false, [.bool v19.2])])] [] [(3, .c (.pk 3 0)), (4, .c (.pk 4 0)), (5, .c (.pk 5 0)), (8, cI v19.1), (9, cB v19.2)] [(3, .var (eTBoard p0) false), (4, .var (eTState p1) false), (5, .var (eTConditions p2) false)] (fun t => aI (l_toBoard_ok p0 v13 h14) (aI (rfl : ([] : List Nat) = []) (aI (rfl : ([] : List Nat) = []) (aI (l_toState_ok p1 v15 h16) (aI (rfl : ([] : List Nat) = []) (aI (rfl : ([] : List Nat) = []) (aI (l_toConditions_ok p2 v17 h18) (aI (rfl : ([] : List Nat) = []) (aI (rfl : ([] : List Nat) = []) (aI (s_WinnerOf_ok v13 v15 v17 v19 h20) (aI trivial (aI (rfl : ([] : List Nat) = []) (t))))))))))))) (by kernel_rfl) ?_
        obtain ⟨v21, h22, H⟩ := ofBind H
        refine seq_ops [.res (.agg (eTBoard v21))] [] [(3, .c (.pk 3 0)), (4, .c (.pk 4 0)), (5, .c (.pk 5 0)), (8, cI v19.1), (9, cB v19.2), (10, .c (.pk 10 0))] [(3, .var (eTBoard p0) false), (4, .var (eTState p1) false), (5, .var (eTConditions p2) false), (10, .var (eTBoard v21) false)] (fun t => aI (l_toBoard_ok p0 v21 h22) (t)) (by kernel_rfl) ?_
        obtain ⟨v23, h24, H⟩ := ofBind H
        refine seq_ops [.res (.agg (eTState v23))] [] [(3, .c (.pk 3 0)), (4, .c (.pk 4 0)), (5, .c (.pk 5 0)), (8, cI v19.1), (9, cB v19.2), (10, .c (.pk 10 0)), (11, .c (.pk 11 0))] [(3, .var (eTBoard p0) false), (4, .var (eTState p1) false), (5, .var (eTConditions p2) false), (10, .var (eTBoard v21) false), (11, .var (eTState v23) false)] (fun t => aI (l_toState_ok p1 v23 h24) (t)) (by kernel_rfl) ?_
        obtain ⟨v25, h26, H⟩ := ofBind H
        refine seq_ops [.res (.agg (eTConditions v25))] [] [(3, .c (.pk 3 0)), (4, .c (.pk 4 0)), (5, .c (.pk 5 0)), (8, cI v19.1), (9, cB v19.2), (10, .c (.pk 10 0)), (11, .c (.pk 11 0)), (12, .c (.pk 12 0))] [(3, .var (eTBoard p0) false), (4, .var (eTState p1) false), (5, .var (eTConditions p2) false), (10, .var (eTBoard v21) false), (11, .var (eTState v23) false), (12, .var (eTConditions v25) false)] (fun t => aI (l_toConditions_ok p2 v25 h26) (t)) (by kernel_rfl) ?_
        obtain ⟨v27, h28, H⟩ := ofBind H
        refine seq_ops [.res (.tup [(false, [.int .i64 v27.1]), (false, [.bool v27.2])])] [] [(3, .c (.pk 3 0)), (4, .c (.pk 4 0)), (5, .c (.pk 5 0)), (8, cI v19.1), (9, cB v19.2), (10, .c (.pk 10 0)), (11, .c (.pk 11 0)), (12, .c (.pk 12 0)), (13, cI v27.1), (14, cB v27.2)] [(3, .var (eTBoard p0) false), (4, .var (eTState p1) false), (5, .var (eTConditions p2) false), (10, .var (eTBoard v21) false), (11, .var (eTState v23) false), (12, .var (eTConditions v25) false)] (fun t => aI (i_WinnerOf_ok v21 v23 v25 v27 h28) (t)) (by kernel_rfl) ?_
        refine seq_in ?_
        rcases ofCond H with ⟨c31, H⟩ | ⟨c31, H⟩
        · refine seq_ops [.g true, .g true, .g true, .g true] [] [(3, .c (.pk 3 0)), (4, .c (.pk 4 0)), (5, .c (.pk 5 0)), (10, .c (.pk 10 0)), (11, .c (.pk 11 0)), (12, .c (.pk 12 0)), (60, cB true)] [(3, .var (eTBoard p0) false), (4, .var (eTState p1) false), (5, .var (eTConditions p2) false), (10, .var (eTBoard v21) false), (11, .var (eTState v23) false), (12, .var (eTConditions v25) false)] (fun t => aI c31 (aI c31 (aI c31 (aI c31 (t))))) (by kernel_rfl) ?_
          refine ite_t (rfl : (true : Bool) = true) (by kernel_rfl) ?_
          refine seq_ops [] [] [(6, cB false)] [] (fun t => t) (by kernel_rfl) ?_
          refine ends_ret ?_
          obtain rfl := Option.some.inj H
          exact And.intro (.inl rfl) rfl
        · refine seq_ops [.g false, .g false, .g false, .g false] [] [(3, .c (.pk 3 0)), (4, .c (.pk 4 0)), (5, .c (.pk 5 0)), (10, .c (.pk 10 0)), (11, .c (.pk 11 0)), (12, .c (.pk 12 0)), (60, cB (!(v27.2 == v19.2)))] [(3, .var (eTBoard p0) false), (4, .var (eTState p1) false), (5, .var (eTConditions p2) false), (10, .var (eTBoard v21) false), (11, .var (eTState v23) false), (12, .var (eTConditions v25) false)] (fun t => aI c31 (aI c31 (aI c31 (aI c31 (t))))) (by kernel_rfl) ?_
          rcases ofCond H with ⟨c32, H⟩ | ⟨c32, H⟩
          · refine ite_t c32 (by kernel_rfl) ?_
            refine seq_ops [] [] [(6, cB false)] [] (fun t => t) (by kernel_rfl) ?_
            refine ends_ret ?_
            obtain rfl := Option.some.inj H
            exact And.intro (.inl rfl) rfl
          · refine ite_f c32 (by kernel_rfl) ?_
            refine ends_skip ?_
            change EndsI _ _ _ _ _ _
            refine seq_in ?_
            obtain ⟨v38, h39, H⟩ := ofBind H
            obtain ⟨v40, h41, H⟩ := ofBind H
            refine seq_draw [.res (.agg (eTBoard v38)), .res (cB v40)] [] [(4, .c (.pk 4 0)), (5, .c (.pk 5 0)), (11, .c (.pk 11 0)), (12, .c (.pk 12 0)), (65, cB (!v40))] [(4, .var (eTState p1) false), (5, .var (eTConditions p2) false), (11, .var (eTState v23) false), (12, .var (eTConditions v25) false)] (fun t => aI (l_toBoard_ok p0 v38 h39) (aI (rfl : ([] : List Nat) = []) (aI (rfl : ([] : List Nat) = []) (aI (l_eqBoard_ok v21 v38 v40 h41) (aI trivial (aI (rfl : ([] : List Nat) = []) (t))))))) (by kernel_rfl) ?_
            rcases ofCond H with ⟨c42, H⟩ | ⟨c42, H⟩
            · refine ite_t c42 (by kernel_rfl) ?_
              refine seq_ops [] [] [(6, cB false)] [] (fun t => t) (by kernel_rfl) ?_
              refine ends_ret ?_
              obtain rfl := Option.some.inj H
              exact And.intro (.inl rfl) rfl
            · refine ite_f c42 (by kernel_rfl) ?_
              refine ends_skip ?_
              change EndsI _ _ _ _ _ _
              refine seq_in ?_
              obtain ⟨v48, h49, H⟩ := ofBind H
              obtain ⟨v50, h51, H⟩ := ofBind H
              refine seq_draw [.res (.agg (eTState v48)), .res (cB v50)] [] [(5, .c (.pk 5 0)), (12, .c (.pk 12 0)), (70, cB (!v50))] [(5, .var (eTConditions p2) false), (12, .var (eTConditions v25) false)] (fun t => aI (l_toState_ok p1 v48 h49) (aI (rfl : ([] : List Nat) = []) (aI (rfl : ([] : List Nat) = []) (aI (l_eqState_ok v23 v48 v50 h51) (aI trivial (aI (rfl : ([] : List Nat) = []) (t))))))) (by kernel_rfl) ?_
              rcases ofCond H with ⟨c52, H⟩ | ⟨c52, H⟩
              · refine ite_t c52 (by kernel_rfl) ?_
                refine seq_ops [] [] [(6, cB false)] [] (fun t => t) (by kernel_rfl) ?_
                refine ends_ret ?_
                obtain rfl := Option.some.inj H
                exact And.intro (.inl rfl) rfl
              · refine ite_f c52 (by kernel_rfl) ?_
                refine ends_skip ?_
                change EndsI _ _ _ _ _ _
                refine seq_in ?_
                obtain ⟨v53, h54, H⟩ := ofBind H
                obtain ⟨v55, h56, H⟩ := ofBind H
                refine seq_draw [.res (.agg (eTConditions v53)), .res (cB v55)] [] [(75, cB (!v55))] [] (fun t => aI (l_toConditions_ok p2 v53 h54) (aI (rfl : ([] : List Nat) = []) (aI (rfl : ([] : List Nat) = []) (aI (l_eqConditions_ok v25 v53 v55 h56) (aI trivial (aI (rfl : ([] : List Nat) = []) (t))))))) (by kernel_rfl) ?_
                rcases ofCond H with ⟨c57, H⟩ | ⟨c57, H⟩
                · refine ite_t c57 (by kernel_rfl) ?_
                  refine seq_ops [] [] [(6, cB false)] [] (fun t => t) (by kernel_rfl) ?_
                  refine ends_ret ?_
                  obtain rfl := Option.some.inj H
                  exact And.intro (.inl rfl) rfl
                · refine ite_f c57 (by kernel_rfl) ?_
                  refine ends_skip ?_
                  change EndsI _ _ _ _ _ _
                  refine seq_ops [] [] [(6, cB true)] [] (fun t => t) (by kernel_rfl) ?_
                  refine ends_ret ?_
                  obtain rfl := Option.some.inj H
                  exact And.intro (.inl rfl) rfl

end Go.Proofs.YtfmeidhialmckaaGreatDoor.X0
