/- What each Go function that FnExactSideWorth reaches computes, and that it returns so; no condition. -/
import Derived.Test.YtihggbgmdlhlcaaGreatDoorSWWb
set_option linter.unusedVariables false
set_option linter.unusedSimpArgs false
set_option maxRecDepth 100000
namespace Go.Proofs.YtihggbgmdlhlcaaGreatDoor.X0
open Go Go.RowKit Go.Proofs.YtihggbgmdlhlcaaGreatDoor.Ab Go.Proofs

def i_IsMap_ir : S :=
 (.seq (.ops [⟨some 1, .box 5 (.t 0), none⟩, ⟨some 2, .mv (.v (.bool false)), none⟩])
 (.seq (.seq (.ops [⟨some 9, .fad 0 (.t 1), none⟩, ⟨some 10, .load 1 false (.t 9), none⟩, ⟨some 11, .call 71 [.t 10, .v (.int .i64 1), .v (.int .i64 10)], none⟩, ⟨some 12, .not (.t 11), none⟩, ⟨some 13, .mv (.t 12), none⟩, ⟨some 14, .fad 1 (.t 1), some (13, false)⟩, ⟨some 15, .load 1 false (.t 14), some (13, false)⟩, ⟨some 16, .call 71 [.t 15, .v (.int .i64 1), .v (.int .i64 10)], some (13, false)⟩, ⟨some 17, .not (.t 16), some (13, false)⟩, ⟨some 18, .pick (.t 13) (.v (.bool true)) (.t 17), none⟩, ⟨some 19, .mv (.t 18), none⟩, ⟨some 20, .fad 2 (.t 1), some (19, false)⟩, ⟨some 21, .load 1 false (.t 20), some (19, false)⟩, ⟨some 22, .len (.t 21), some (19, false)⟩, ⟨some 23, .fad 0 (.t 1), some (19, false)⟩, ⟨some 24, .load 1 false (.t 23), some (19, false)⟩, ⟨some 25, .fad 1 (.t 1), some (19, false)⟩, ⟨some 26, .load 1 false (.t 25), some (19, false)⟩, ⟨some 27, .bin .mul (.t 24) (.t 26), some (19, false)⟩, ⟨some 28, .bin .neq (.t 22) (.t 27), some (19, false)⟩, ⟨some 29, .pick (.t 19) (.v (.bool true)) (.t 28), none⟩])
 (.ite (.t 29) (.seq (.ops [⟨some 2, .mv (.v (.bool false)), none⟩])
  .ret)
 .skip))
 (.seq (.seq (.ops [⟨some 30, .fad 2 (.t 1), none⟩, ⟨some 31, .load 1 false (.t 30), none⟩, ⟨some 32, .len (.t 31), none⟩, ⟨some 33, .mv (.v (.int .i64 0)), none⟩])
 (.blk 0 (.loop (.seq (.ops [⟨some 34, .bin .lss (.t 33) (.t 32), none⟩])
   (.seq (.ite (.t 34) .skip
   (.exit 0))
   (.seq (.blk 1 (.seq (.ops [⟨some 35, .iad 1 (.t 31) (.t 33), none⟩, ⟨some 36, .load 1 false (.t 35), none⟩, ⟨some 4, .mv (.t 36), none⟩])
    (.seq (.ops [⟨some 37, .mv (.t 4), none⟩, ⟨some 38, .call 90 [.t 37, .v (.int .i64 6)], none⟩, ⟨some 39, .not (.t 38), none⟩])
    (.ite (.t 39) (.seq (.ops [⟨some 2, .mv (.v (.bool false)), none⟩])
     .ret)
    .skip))))
   (.ops [⟨some 40, .bin .add (.t 33) (.v (.int .i64 1)), none⟩, ⟨some 33, .mv (.t 40), none⟩])))))))
 (.seq (.seq (.ops [⟨some 41, .fad 3 (.t 1), none⟩, ⟨some 42, .load 1 false (.t 41), none⟩, ⟨some 43, .fad 4 (.t 1), none⟩, ⟨some 44, .load 1 false (.t 43), none⟩, ⟨some 45, .bsl 1 [.t 42, .t 44], none⟩, ⟨some 46, .len (.t 45), none⟩, ⟨some 47, .mv (.v (.int .i64 0)), none⟩])
 (.blk 2 (.loop (.seq (.ops [⟨some 48, .bin .lss (.t 47) (.t 46), none⟩])
   (.seq (.ite (.t 48) .skip
   (.exit 2))
   (.seq (.blk 3 (.seq (.ops [⟨some 49, .iad 1 (.t 45) (.t 47), none⟩, ⟨some 50, .load 1 false (.t 49), none⟩, ⟨some 6, .mv (.t 50), none⟩])
    (.seq (.seq (.ops [⟨some 51, .mv (.t 6), none⟩, ⟨some 52, .call 189 [.t 51], none⟩, ⟨some 53, .not (.t 52), none⟩])
    (.ite (.t 53) (.seq (.ops [⟨some 2, .mv (.v (.bool false)), none⟩])
     .ret)
    .skip))
    (.seq (.ops [⟨some 54, .mv (.t 6), none⟩, ⟨some 55, .len (.t 54), none⟩, ⟨some 56, .mv (.v (.int .i64 0)), none⟩])
    (.blk 4 (.loop (.seq (.ops [⟨some 57, .bin .lss (.t 56) (.t 55), none⟩])
      (.seq (.ite (.t 57) .skip
      (.exit 4))
      (.seq (.blk 5 (.seq (.ops [⟨some 58, .iad 1 (.t 54) (.t 56), none⟩, ⟨some 59, .load 1 false (.t 58), none⟩, ⟨some 8, .mv (.t 59), none⟩])
       (.seq (.ops [⟨some 60, .load 5 true (.t 1), none⟩, ⟨some 61, .mv (.t 8), none⟩, ⟨some 62, .call 231 [.t 60, .t 61], none⟩, ⟨some 63, .not (.t 62), none⟩])
       (.ite (.t 63) (.seq (.ops [⟨some 2, .mv (.v (.bool false)), none⟩])
        .ret)
       .skip))))
      (.ops [⟨some 64, .bin .add (.t 56) (.v (.int .i64 1)), none⟩, ⟨some 56, .mv (.t 64), none⟩]))))))))))
   (.ops [⟨some 65, .bin .add (.t 47) (.v (.int .i64 1)), none⟩, ⟨some 47, .mv (.t 65), none⟩])))))))
 (.seq (.ops [⟨some 2, .mv (.v (.bool true)), none⟩])
 .ret)))))
noncomputable def X.i_IsMap (p0 : TMap) : Option Bool :=
  ((X.i_inRange p0.Width 1 10).bind fun v8 => (bif (!v8) then some false else ((X.i_inRange p0.Height 1 10).bind fun v11 => (bif (!v11) then some false else (bif ((p0.Terrain.length : Int) != (W (p0.Width * p0.Height))) then some false else ((loop (fun (x57 : Int) => ((bif (decide (x57 < (p0.Terrain.length : Int))) then ((at' zI p0.Terrain x57).bind fun v60 => ((X.i_isIndex v60 6).bind fun v62 => (bif (!v62) then some (Sum.inr (Sum.inr false)) else some (Sum.inl (W (x57 + 1)))))) else some (Sum.inr (Sum.inl ()))) : Option (Int ⊕ (Unit ⊕ Bool)))) 0).bind fun y65 => (Sum.elim (fun (y67 : Unit) => ((loop (fun (x142 : Int) => ((bif (decide (x142 < (([p0.Rivers, p0.Roads] : List (List Int)).length : Int))) then (if 0 ≤ x142 ∧ x142 < (([p0.Rivers, p0.Roads] : List (List Int)).length : Int) then ((X.i_increasing (([p0.Rivers, p0.Roads] : List (List Int)).getD x142.toNat zLI)).bind fun v149 => (bif (!v149) then some (Sum.inr (Sum.inr false)) else ((loop (fun (x167 : Int) => ((bif (decide (x167 < ((([p0.Rivers, p0.Roads] : List (List Int)).getD x142.toNat zLI).length : Int))) then ((at' zI (([p0.Rivers, p0.Roads] : List (List Int)).getD x142.toNat zLI) x167).bind fun v170 => ((X.i_isEdge p0 v170).bind fun v172 => (bif (!v172) then some (Sum.inr (Sum.inr false)) else some (Sum.inl (W (x167 + 1)))))) else some (Sum.inr (Sum.inl ()))) : Option (Int ⊕ (Unit ⊕ Bool)))) 0).bind fun y175 => (Sum.elim (fun (y177 : Unit) => some (Sum.inl (W (x142 + 1)))) (fun (y178 : Bool) => some (Sum.inr (Sum.inr y178))) y175)))) else none) else some (Sum.inr (Sum.inl ()))) : Option (Int ⊕ (Unit ⊕ Bool)))) 0).bind fun y179 => (Sum.elim (fun (y181 : Unit) => some true) (fun (y182 : Bool) => some y182) y179))) (fun (y68 : Bool) => some y68) y65)))))))
theorem i_IsMap_ok (p0 : TMap) (r : Bool) (H : X.i_IsMap p0 = some r) : FnOk Tryz.prog gl 174 [.agg (eTMap p0)] (cB r) := by
  unfold X.i_IsMap at H
  refine fn_in (fn := Tryz.f174) (ir := i_IsMap_ir) (s1 := lit [(2, cB r)] []) Tryz.func174 (by kernel_rfl) (by kernel_rfl) (by kernel_rfl) (by kernel_rfl) (by kernel_rfl) ?_
  refine seq_ops [] [] [(1, .c (.pk 1 0))] [(1, .var (eTMap p0) false)] (fun t => t) (by kernel_rfl) ?_
  refine seq_in ?_
  obtain ⟨v8, h9, H⟩ := ofBind H
  rcases ofCond H with ⟨c10, H⟩ | ⟨c10, H⟩
  · refine seq_ops [.res (cB v8), .g true, .g true, .g true, .g true, .g true, .g true, .g true, .g true, .g true, .g true, .g true, .g true, .g true, .g true, .g true] [] [(1, .c (.pk 1 0)), (29, cB true)] [(1, .var (eTMap p0) false)] (fun t => aI (i_inRange_ok p0.Width 1 10 v8 h9) (aI c10 (aI c10 (aI c10 (aI c10 (aI c10 (aI (rfl : (true : Bool) = true) (aI (rfl : (true : Bool) = true) (aI (rfl : (true : Bool) = true) (aI (rfl : (true : Bool) = true) (aI (rfl : (true : Bool) = true) (aI (rfl : (true : Bool) = true) (aI (rfl : (true : Bool) = true) (aI (rfl : (true : Bool) = true) (aI (rfl : (true : Bool) = true) (aI (rfl : (true : Bool) = true) (t))))))))))))))))) (by kernel_rfl) ?_
    refine ite_t (rfl : (true : Bool) = true) (by kernel_rfl) ?_
    refine seq_ops [] [] [(2, cB false)] [] (fun t => t) (by kernel_rfl) ?_
    refine ends_ret ?_
    obtain rfl := Option.some.inj H
    exact And.intro (.inl rfl) rfl
  · obtain ⟨v11, h12, H⟩ := ofBind H
    rcases ofCond H with ⟨c13, H⟩ | ⟨c13, H⟩
    · refine seq_ops [.res (cB v8), .g false, .g false, .g false, .res (cB v11), .g false, .g false, .g true, .g true, .g true, .g true, .g true, .g true, .g true, .g true, .g true, .g true] [] [(1, .c (.pk 1 0)), (29, cB true)] [(1, .var (eTMap p0) false)] (fun t => aI (i_inRange_ok p0.Width 1 10 v8 h9) (aI c10 (aI c10 (aI c10 (aI (i_inRange_ok p0.Height 1 10 v11 h12) (aI c10 (aI c10 (aI c13 (aI c13 (aI c13 (aI c13 (aI c13 (aI c13 (aI c13 (aI c13 (aI c13 (aI c13 (t)))))))))))))))))) (by kernel_rfl) ?_
      refine ite_t (rfl : (true : Bool) = true) (by kernel_rfl) ?_
      refine seq_ops [] [] [(2, cB false)] [] (fun t => t) (by kernel_rfl) ?_
      refine ends_ret ?_
      obtain rfl := Option.some.inj H
      exact And.intro (.inl rfl) rfl
    · refine seq_ops [.res (cB v8), .g false, .g false, .g false, .res (cB v11), .g false, .g false, .g false, .g false, .g false, .g false, .g false, .g false, .g false, .g false, .g false, .g false] [] [(1, .c (.pk 1 0)), (29, cB ((p0.Terrain.length : Int) != (W (p0.Width * p0.Height))))] [(1, .var (eTMap p0) false)] (fun t => aI (i_inRange_ok p0.Width 1 10 v8 h9) (aI c10 (aI c10 (aI c10 (aI (i_inRange_ok p0.Height 1 10 v11 h12) (aI c10 (aI c10 (aI c13 (aI c13 (aI c13 (lI p0.Terrain (aI c13 (aI c13 (aI c13 (aI c13 (aI c13 (aI c13 (aI c13 (t))))))))))))))))))) (by kernel_rfl) ?_
      rcases ofCond H with ⟨c14, H⟩ | ⟨c14, H⟩
      · refine ite_t c14 (by kernel_rfl) ?_
        refine seq_ops [] [] [(2, cB false)] [] (fun t => t) (by kernel_rfl) ?_
        refine ends_ret ?_
        obtain rfl := Option.some.inj H
        exact And.intro (.inl rfl) rfl
      · refine ite_f c14 (by kernel_rfl) ?_
        refine ends_skip ?_
        change EndsI _ _ _ _ _ _
        refine seq_in ?_
        refine seq_ops [] [] [(1, .c (.pk 1 0)), (31, .c (dat 1 eI zI p0.Terrain)), (32, cI (p0.Terrain.length : Int)), (33, cI 0)] [(1, .var (eTMap p0) false)] (fun t => lI p0.Terrain (t)) (by kernel_rfl) ?_
        refine ends_blk ?_
        obtain ⟨y65, h66, H⟩ := ofBind H
        refine loop_in (fun (x : Int) => lit [(1, .c (.pk 1 0)), (31, .c (dat 1 eI zI p0.Terrain)), (32, cI (p0.Terrain.length : Int)), (33, cI x)] [(1, .var (eTMap p0) false)]) (orJ (fun (z : Unit) => At (.exit 0) (lit [(1, .c (.pk 1 0))] [(1, .var (eTMap p0) false)])) (fun (z : Bool) => At .ret (lit [(2, cB z)] []))) h66 ?_ ?_
        · clear H h66
          intro x57 y0 H
          refine seq_ops [] [] [(1, .c (.pk 1 0)), (31, .c (dat 1 eI zI p0.Terrain)), (32, cI (p0.Terrain.length : Int)), (33, cI x57), (34, cB (decide (x57 < (p0.Terrain.length : Int))))] [(1, .var (eTMap p0) false)] (fun t => t) (by kernel_rfl) ?_
          refine seq_in ?_
          rcases ofCond H with ⟨c59, H⟩ | ⟨c59, H⟩
          · refine ite_t c59 (by kernel_rfl) ?_
            refine ends_skip ?_
            change EndsI _ _ _ _ _ _
            refine seq_in ?_
            refine ends_blk ?_
            obtain ⟨v60, h61, H⟩ := ofBind H
            refine seq_ops [.cs (eI v60)] [] [(1, .c (.pk 1 0)), (4, cI v60), (31, .c (dat 1 eI zI p0.Terrain)), (32, cI (p0.Terrain.length : Int)), (33, cI x57)] [(1, .var (eTMap p0) false)] (fun t => aI (at_lt h61) (aI (at_enc (enc := eI) h61) (t))) (by kernel_rfl) ?_
            obtain ⟨v62, h63, H⟩ := ofBind H
            refine seq_ops [.res (cB v62)] [] [(1, .c (.pk 1 0)), (31, .c (dat 1 eI zI p0.Terrain)), (32, cI (p0.Terrain.length : Int)), (33, cI x57), (39, cB (!v62))] [(1, .var (eTMap p0) false)] (fun t => aI (i_isIndex_ok v60 6 v62 h63) (t)) (by kernel_rfl) ?_
            rcases ofCond H with ⟨c64, H⟩ | ⟨c64, H⟩
            · refine ite_t c64 (by kernel_rfl) ?_
              refine seq_ops [] [] [(2, cB false)] [] (fun t => t) (by kernel_rfl) ?_
              refine ends_ret ?_
              obtain rfl := Option.some.inj H
              exact And.intro (by simp) (And.intro rfl rfl)
            · refine ite_f c64 (by kernel_rfl) ?_
              refine ends_skip ?_
              change EndsI _ _ _ _ _ _
              refine one_ops [] [] [(1, .c (.pk 1 0)), (31, .c (dat 1 eI zI p0.Terrain)), (32, cI (p0.Terrain.length : Int)), (33, cI (W (x57 + 1)))] [(1, .var (eTMap p0) false)] (fun t => t) (by kernel_rfl) ?_
              obtain rfl := Option.some.inj H
              exact And.intro rfl rfl
          · refine ite_f c59 (by kernel_rfl) ?_
            refine tell [] [(1, .c (.pk 1 0))] [(1, .var (eTMap p0) false)] (fun t => t) (by kernel_rfl) ?_
            refine ends_exit ?_
            obtain rfl := Option.some.inj H
            exact And.intro (by simp) (And.intro rfl rfl)
        · clear h66
          cases y65 with
          | inl y67 =>
            replace H := ofInl H
            intro e s q
            obtain ⟨rfl, rfl⟩ := q
            change EndsI _ _ _ _ _ _
            refine seq_in ?_
            refine seq_ops [.fn ([p0.Rivers, p0.Roads] : List (List Int)).length (fF eLI zLI ([p0.Rivers, p0.Roads] : List (List Int)))] [] [(1, .c (.pk 1 0)), (45, .c (.own 45 1 0 (([p0.Rivers, p0.Roads] : List (List Int)).length))), (46, cI (([p0.Rivers, p0.Roads] : List (List Int)).length : Int)), (47, cI 0)] [(1, .var (eTMap p0) false), (45, .arr 1 (([p0.Rivers, p0.Roads] : List (List Int)).length) (fF eLI zLI ([p0.Rivers, p0.Roads] : List (List Int))) false)] (fun t => aI (rfl : ([p0.Rivers, p0.Roads] : List (List Int)).length = 2) (aI (fF_lit eLI zLI ([p0.Rivers, p0.Roads] : List (List Int))) ((fun (_ : ([p0.Rivers, p0.Roads] : List (List Int)).length ≤ maxLen) => t)))) (by kernel_rfl) ?_
            refine ends_blk ?_
            obtain ⟨y179, h180, H⟩ := ofBind H
            refine loop_in (fun (x : Int) => lit [(1, .c (.pk 1 0)), (45, .c (.own 45 1 0 (([p0.Rivers, p0.Roads] : List (List Int)).length))), (46, cI (([p0.Rivers, p0.Roads] : List (List Int)).length : Int)), (47, cI x)] [(1, .var (eTMap p0) false), (45, .arr 1 (([p0.Rivers, p0.Roads] : List (List Int)).length) (fF eLI zLI ([p0.Rivers, p0.Roads] : List (List Int))) false)]) (orJ (fun (z : Unit) => At (.exit 2) (lit [] [])) (fun (z : Bool) => At .ret (lit [(2, cB z)] []))) h180 ?_ ?_
            · clear H h180
              intro x142 y0 H
              refine seq_ops [] [] [(1, .c (.pk 1 0)), (45, .c (.own 45 1 0 (([p0.Rivers, p0.Roads] : List (List Int)).length))), (46, cI (([p0.Rivers, p0.Roads] : List (List Int)).length : Int)), (47, cI x142), (48, cB (decide (x142 < (([p0.Rivers, p0.Roads] : List (List Int)).length : Int))))] [(1, .var (eTMap p0) false), (45, .arr 1 (([p0.Rivers, p0.Roads] : List (List Int)).length) (fF eLI zLI ([p0.Rivers, p0.Roads] : List (List Int))) false)] (fun t => t) (by kernel_rfl) ?_
              refine seq_in ?_
              rcases ofCond H with ⟨c144, H⟩ | ⟨c144, H⟩
              · refine ite_t c144 (by kernel_rfl) ?_
                refine ends_skip ?_
                change EndsI _ _ _ _ _ _
                refine seq_in ?_
                refine ends_blk ?_
                obtain ⟨g145, H⟩ := ofIf H
                refine seq_ops [.no] [] [(1, .c (.pk 1 0)), (6, .c (dat 1 eI zI (([p0.Rivers, p0.Roads] : List (List Int)).getD x142.toNat zLI))), (45, .c (.own 45 1 0 (([p0.Rivers, p0.Roads] : List (List Int)).length))), (46, cI (([p0.Rivers, p0.Roads] : List (List Int)).length : Int)), (47, cI x142)] [(1, .var (eTMap p0) false), (45, .arr 1 (([p0.Rivers, p0.Roads] : List (List Int)).length) (fF eLI zLI ([p0.Rivers, p0.Roads] : List (List Int))) false)] (fun t => aI g145 (aI (nat_lt g145) (t))) (by kernel_rfl) ?_
                refine seq_in ?_
                obtain ⟨v149, h150, H⟩ := ofBind H
                refine seq_ops [.res (cB v149)] [] [(1, .c (.pk 1 0)), (6, .c (dat 1 eI zI (([p0.Rivers, p0.Roads] : List (List Int)).getD x142.toNat zLI))), (45, .c (.own 45 1 0 (([p0.Rivers, p0.Roads] : List (List Int)).length))), (46, cI (([p0.Rivers, p0.Roads] : List (List Int)).length : Int)), (47, cI x142), (53, cB (!v149))] [(1, .var (eTMap p0) false), (45, .arr 1 (([p0.Rivers, p0.Roads] : List (List Int)).length) (fF eLI zLI ([p0.Rivers, p0.Roads] : List (List Int))) false)] (fun t => aI (i_increasing_ok (([p0.Rivers, p0.Roads] : List (List Int)).getD x142.toNat zLI) v149 h150) (t)) (by kernel_rfl) ?_
                rcases ofCond H with ⟨c151, H⟩ | ⟨c151, H⟩
                · refine ite_t c151 (by kernel_rfl) ?_
                  refine seq_ops [] [] [(2, cB false)] [] (fun t => t) (by kernel_rfl) ?_
                  refine ends_ret ?_
                  obtain rfl := Option.some.inj H
                  exact And.intro (by simp) (And.intro rfl rfl)
                · refine ite_f c151 (by kernel_rfl) ?_
                  refine ends_skip ?_
                  change EndsI _ _ _ _ _ _
                  refine seq_ops [] [] [(1, .c (.pk 1 0)), (45, .c (.own 45 1 0 (([p0.Rivers, p0.Roads] : List (List Int)).length))), (46, cI (([p0.Rivers, p0.Roads] : List (List Int)).length : Int)), (47, cI x142), (54, .c (dat 1 eI zI (([p0.Rivers, p0.Roads] : List (List Int)).getD x142.toNat zLI))), (55, cI ((([p0.Rivers, p0.Roads] : List (List Int)).getD x142.toNat zLI).length : Int)), (56, cI 0)] [(1, .var (eTMap p0) false), (45, .arr 1 (([p0.Rivers, p0.Roads] : List (List Int)).length) (fF eLI zLI ([p0.Rivers, p0.Roads] : List (List Int))) false)] (fun t => (fun (_ : (([p0.Rivers, p0.Roads] : List (List Int)).getD x142.toNat zLI).length ≤ maxLen) => t)) (by kernel_rfl) ?_
                  refine ends_blk ?_
                  obtain ⟨y175, h176, H⟩ := ofBind H
                  refine loop_in (fun (x : Int) => lit [(1, .c (.pk 1 0)), (45, .c (.own 45 1 0 (([p0.Rivers, p0.Roads] : List (List Int)).length))), (46, cI (([p0.Rivers, p0.Roads] : List (List Int)).length : Int)), (47, cI x142), (54, .c (dat 1 eI zI (([p0.Rivers, p0.Roads] : List (List Int)).getD x142.toNat zLI))), (55, cI ((([p0.Rivers, p0.Roads] : List (List Int)).getD x142.toNat zLI).length : Int)), (56, cI x)] [(1, .var (eTMap p0) false), (45, .arr 1 (([p0.Rivers, p0.Roads] : List (List Int)).length) (fF eLI zLI ([p0.Rivers, p0.Roads] : List (List Int))) false)]) (orJ (fun (z : Unit) => At (.exit 4) (lit [(1, .c (.pk 1 0)), (45, .c (.own 45 1 0 (([p0.Rivers, p0.Roads] : List (List Int)).length))), (46, cI (([p0.Rivers, p0.Roads] : List (List Int)).length : Int)), (47, cI x142)] [(1, .var (eTMap p0) false), (45, .arr 1 (([p0.Rivers, p0.Roads] : List (List Int)).length) (fF eLI zLI ([p0.Rivers, p0.Roads] : List (List Int))) false)])) (fun (z : Bool) => At .ret (lit [(2, cB z)] []))) h176 ?_ ?_
                  · clear H h176
                    intro x167 y0 H
                    refine seq_ops [] [] [(1, .c (.pk 1 0)), (45, .c (.own 45 1 0 (([p0.Rivers, p0.Roads] : List (List Int)).length))), (46, cI (([p0.Rivers, p0.Roads] : List (List Int)).length : Int)), (47, cI x142), (54, .c (dat 1 eI zI (([p0.Rivers, p0.Roads] : List (List Int)).getD x142.toNat zLI))), (55, cI ((([p0.Rivers, p0.Roads] : List (List Int)).getD x142.toNat zLI).length : Int)), (56, cI x167), (57, cB (decide (x167 < ((([p0.Rivers, p0.Roads] : List (List Int)).getD x142.toNat zLI).length : Int))))] [(1, .var (eTMap p0) false), (45, .arr 1 (([p0.Rivers, p0.Roads] : List (List Int)).length) (fF eLI zLI ([p0.Rivers, p0.Roads] : List (List Int))) false)] (fun t => t) (by kernel_rfl) ?_
                    refine seq_in ?_
                    rcases ofCond H with ⟨c169, H⟩ | ⟨c169, H⟩
                    · refine ite_t c169 (by kernel_rfl) ?_
                      refine ends_skip ?_
                      change EndsI _ _ _ _ _ _
                      refine seq_in ?_
                      refine ends_blk ?_
                      obtain ⟨v170, h171, H⟩ := ofBind H
                      refine seq_ops [.cs (eI v170)] [] [(1, .c (.pk 1 0)), (8, cI v170), (45, .c (.own 45 1 0 (([p0.Rivers, p0.Roads] : List (List Int)).length))), (46, cI (([p0.Rivers, p0.Roads] : List (List Int)).length : Int)), (47, cI x142), (54, .c (dat 1 eI zI (([p0.Rivers, p0.Roads] : List (List Int)).getD x142.toNat zLI))), (55, cI ((([p0.Rivers, p0.Roads] : List (List Int)).getD x142.toNat zLI).length : Int)), (56, cI x167)] [(1, .var (eTMap p0) false), (45, .arr 1 (([p0.Rivers, p0.Roads] : List (List Int)).length) (fF eLI zLI ([p0.Rivers, p0.Roads] : List (List Int))) false)] (fun t => aI (at_lt h171) (aI (at_enc (enc := eI) h171) (t))) (by kernel_rfl) ?_
                      obtain ⟨v172, h173, H⟩ := ofBind H
                      refine seq_ops [.res (cB v172)] [] [(1, .c (.pk 1 0)), (45, .c (.own 45 1 0 (([p0.Rivers, p0.Roads] : List (List Int)).length))), (46, cI (([p0.Rivers, p0.Roads] : List (List Int)).length : Int)), (47, cI x142), (54, .c (dat 1 eI zI (([p0.Rivers, p0.Roads] : List (List Int)).getD x142.toNat zLI))), (55, cI ((([p0.Rivers, p0.Roads] : List (List Int)).getD x142.toNat zLI).length : Int)), (56, cI x167), (63, cB (!v172))] [(1, .var (eTMap p0) false), (45, .arr 1 (([p0.Rivers, p0.Roads] : List (List Int)).length) (fF eLI zLI ([p0.Rivers, p0.Roads] : List (List Int))) false)] (fun t => aI (i_isEdge_ok p0 v170 v172 h173) (t)) (by kernel_rfl) ?_
                      rcases ofCond H with ⟨c174, H⟩ | ⟨c174, H⟩
                      · refine ite_t c174 (by kernel_rfl) ?_
                        refine seq_ops [] [] [(2, cB false)] [] (fun t => t) (by kernel_rfl) ?_
                        refine ends_ret ?_
                        obtain rfl := Option.some.inj H
                        exact And.intro (by simp) (And.intro rfl rfl)
                      · refine ite_f c174 (by kernel_rfl) ?_
                        refine ends_skip ?_
                        change EndsI _ _ _ _ _ _
                        refine one_ops [] [] [(1, .c (.pk 1 0)), (45, .c (.own 45 1 0 (([p0.Rivers, p0.Roads] : List (List Int)).length))), (46, cI (([p0.Rivers, p0.Roads] : List (List Int)).length : Int)), (47, cI x142), (54, .c (dat 1 eI zI (([p0.Rivers, p0.Roads] : List (List Int)).getD x142.toNat zLI))), (55, cI ((([p0.Rivers, p0.Roads] : List (List Int)).getD x142.toNat zLI).length : Int)), (56, cI (W (x167 + 1)))] [(1, .var (eTMap p0) false), (45, .arr 1 (([p0.Rivers, p0.Roads] : List (List Int)).length) (fF eLI zLI ([p0.Rivers, p0.Roads] : List (List Int))) false)] (fun t => t) (by kernel_rfl) ?_
                        obtain rfl := Option.some.inj H
                        exact And.intro rfl rfl
                    · refine ite_f c169 (by kernel_rfl) ?_
                      refine tell [] [(1, .c (.pk 1 0)), (45, .c (.own 45 1 0 (([p0.Rivers, p0.Roads] : List (List Int)).length))), (46, cI (([p0.Rivers, p0.Roads] : List (List Int)).length : Int)), (47, cI x142)] [(1, .var (eTMap p0) false), (45, .arr 1 (([p0.Rivers, p0.Roads] : List (List Int)).length) (fF eLI zLI ([p0.Rivers, p0.Roads] : List (List Int))) false)] (fun t => t) (by kernel_rfl) ?_
                      refine ends_exit ?_
                      obtain rfl := Option.some.inj H
                      exact And.intro (by simp) (And.intro rfl rfl)
                  · clear h176
                    cases y175 with
                    | inl y177 =>
                      replace H := ofInl H
                      intro e s q
                      obtain ⟨rfl, rfl⟩ := q
                      change EndsI _ _ _ _ _ _
                      refine one_ops [] [] [(1, .c (.pk 1 0)), (45, .c (.own 45 1 0 (([p0.Rivers, p0.Roads] : List (List Int)).length))), (46, cI (([p0.Rivers, p0.Roads] : List (List Int)).length : Int)), (47, cI (W (x142 + 1)))] [(1, .var (eTMap p0) false), (45, .arr 1 (([p0.Rivers, p0.Roads] : List (List Int)).length) (fF eLI zLI ([p0.Rivers, p0.Roads] : List (List Int))) false)] (fun t => t) (by kernel_rfl) ?_
                      obtain rfl := Option.some.inj H
                      exact And.intro rfl rfl
                    | inr y178 =>
                      replace H := ofInr H
                      intro e s q
                      obtain ⟨rfl, rfl⟩ := q
                      obtain rfl := Option.some.inj H
                      exact And.intro (by simp) (And.intro rfl rfl)
              · refine ite_f c144 (by kernel_rfl) ?_
                refine tell [] [] [] (fun t => t) (by kernel_rfl) ?_
                refine ends_exit ?_
                obtain rfl := Option.some.inj H
                exact And.intro (by simp) (And.intro rfl rfl)
            · clear h180
              cases y179 with
              | inl y181 =>
                replace H := ofInl H
                intro e s q
                obtain ⟨rfl, rfl⟩ := q
                change EndsI _ _ _ _ _ _
                refine seq_ops [] [] [(2, cB true)] [] (fun t => t) (by kernel_rfl) ?_
                refine ends_ret ?_
                obtain rfl := Option.some.inj H
                exact And.intro (.inl rfl) rfl
              | inr y182 =>
                replace H := ofInr H
                intro e s q
                obtain ⟨rfl, rfl⟩ := q
                obtain rfl := Option.some.inj H
                exact And.intro (.inl rfl) rfl
          | inr y68 =>
            replace H := ofInr H
            intro e s q
            obtain ⟨rfl, rfl⟩ := q
            obtain rfl := Option.some.inj H
            exact And.intro (.inl rfl) rfl

theorem g_IndexFunc_int_c1_ok (p0 : (List Int)) (cf1 : FuncId) (cs1_0 : List AC) (f1 : Int → Option Bool) (hf1 : ∀ q0 r, f1 q0 = some r → FnOk Tryz.prog gl cf1 [cI q0, .c (.pd cs1_0 0)] (cB r)) (r : Int) (H : X.g_IndexFunc_int p0 f1 = some r) : FnOk Tryz.prog gl 232 [.c (dat 1 eI zI p0), .c (.clo cf1 [.pd cs1_0 0])] (cI r) := by
  unfold X.g_IndexFunc_int at H
  refine fn_in (fn := Tryz.f232) (ir := g_IndexFunc_int_ir) (s1 := lit [(4, cI r)] []) Tryz.func232 (by kernel_rfl) (by kernel_rfl) (by kernel_rfl) (by kernel_rfl) (by kernel_rfl) ?_
  refine seq_ops [] [] [(0, .c (dat 1 eI zI p0)), (1, .c (.clo cf1 [.pd cs1_0 0]))] [] (fun t => t) (by kernel_rfl) ?_
  refine seq_in ?_
  refine seq_ops [] [] [(0, .c (dat 1 eI zI p0)), (1, .c (.clo cf1 [.pd cs1_0 0])), (7, cI (p0.length : Int)), (8, cI 0)] [] (fun t => lI p0 (t)) (by kernel_rfl) ?_
  refine ends_blk ?_
  obtain ⟨y24, h25, H⟩ := ofBind H
  refine loop_in (fun (x : Int) => lit [(0, .c (dat 1 eI zI p0)), (1, .c (.clo cf1 [.pd cs1_0 0])), (7, cI (p0.length : Int)), (8, cI x)] []) (orJ (fun (z : Unit) => At (.exit 0) (lit [] [])) (fun (z : Int) => At .ret (lit [(4, cI z)] []))) h25 ?_ ?_
  · clear H h25
    intro x16 y0 H
    refine seq_ops [] [] [(0, .c (dat 1 eI zI p0)), (1, .c (.clo cf1 [.pd cs1_0 0])), (7, cI (p0.length : Int)), (8, cI x16), (9, cB (decide (x16 < (p0.length : Int))))] [] (fun t => t) (by kernel_rfl) ?_
    refine seq_in ?_
    rcases ofCond H with ⟨c18, H⟩ | ⟨c18, H⟩
    · refine ite_t c18 (by kernel_rfl) ?_
      refine ends_skip ?_
      change EndsI _ _ _ _ _ _
      refine seq_in ?_
      refine ends_blk ?_
      refine seq_ops [] [] [(0, .c (dat 1 eI zI p0)), (1, .c (.clo cf1 [.pd cs1_0 0])), (5, cI x16), (7, cI (p0.length : Int)), (8, cI x16)] [] (fun t => t) (by kernel_rfl) ?_
      obtain ⟨v19, h20, H⟩ := ofBind H
      obtain ⟨v21, h22, H⟩ := ofBind H
      refine seq_ops [.cs (eI v19), .res (cB v21)] [] [(0, .c (dat 1 eI zI p0)), (1, .c (.clo cf1 [.pd cs1_0 0])), (5, cI x16), (7, cI (p0.length : Int)), (8, cI x16), (16, cB v21)] [] (fun t => aI (at_lt h20) (aI (at_enc (enc := eI) h20) (aI (hf1 v19 v21 h22) (t)))) (by kernel_rfl) ?_
      rcases ofCond H with ⟨c23, H⟩ | ⟨c23, H⟩
      · refine ite_t c23 (by kernel_rfl) ?_
        refine seq_ops [] [] [(4, cI x16)] [] (fun t => t) (by kernel_rfl) ?_
        refine ends_ret ?_
        obtain rfl := Option.some.inj H
        exact And.intro (by simp) (And.intro rfl rfl)
      · refine ite_f c23 (by kernel_rfl) ?_
        refine ends_skip ?_
        change EndsI _ _ _ _ _ _
        refine one_ops [] [] [(0, .c (dat 1 eI zI p0)), (1, .c (.clo cf1 [.pd cs1_0 0])), (7, cI (p0.length : Int)), (8, cI (W (x16 + 1)))] [] (fun t => t) (by kernel_rfl) ?_
        obtain rfl := Option.some.inj H
        exact And.intro rfl rfl
    · refine ite_f c18 (by kernel_rfl) ?_
      refine tell [] [] [] (fun t => t) (by kernel_rfl) ?_
      refine ends_exit ?_
      obtain rfl := Option.some.inj H
      exact And.intro (by simp) (And.intro rfl rfl)
  · clear h25
    cases y24 with
    | inl y26 =>
      replace H := ofInl H
      intro e s q
      obtain ⟨rfl, rfl⟩ := q
      change EndsI _ _ _ _ _ _
      refine seq_ops [] [] [(4, cI (-1))] [] (fun t => t) (by kernel_rfl) ?_
      refine ends_ret ?_
      obtain rfl := Option.some.inj H
      exact And.intro (.inl rfl) rfl
    | inr y27 =>
      replace H := ofInr H
      intro e s q
      obtain ⟨rfl, rfl⟩ := q
      obtain rfl := Option.some.inj H
      exact And.intro (.inl rfl) rfl

theorem g_ContainsFunc_int_c1_ok (p0 : (List Int)) (cf1 : FuncId) (cs1_0 : List AC) (f1 : Int → Option Bool) (hf1 : ∀ q0 r, f1 q0 = some r → FnOk Tryz.prog gl cf1 [cI q0, .c (.pd cs1_0 0)] (cB r)) (r : Bool) (H : X.g_ContainsFunc_int p0 f1 = some r) : FnOk Tryz.prog gl 175 [.c (dat 1 eI zI p0), .c (.clo cf1 [.pd cs1_0 0])] (cB r) := by
  unfold X.g_ContainsFunc_int at H
  refine fn_in (fn := Tryz.f175) (ir := g_ContainsFunc_int_ir) (s1 := lit [(4, cB r)] []) Tryz.func175 (by kernel_rfl) (by kernel_rfl) (by kernel_rfl) (by kernel_rfl) (by kernel_rfl) ?_
  refine seq_ops [] [] [(0, .c (dat 1 eI zI p0)), (1, .c (.clo cf1 [.pd cs1_0 0]))] [] (fun t => t) (by kernel_rfl) ?_
  obtain ⟨v1, h2, H⟩ := ofBind H
  refine seq_ops [.res (cI v1)] [] [(4, cB (decide (v1 ≥ 0)))] [] (fun t => aI (g_IndexFunc_int_c1_ok p0 (cf1) (cs1_0) f1 hf1 v1 h2) (t)) (by kernel_rfl) ?_
  refine ends_ret ?_
  obtain rfl := Option.some.inj H
  exact And.intro (.inl rfl) rfl

def i_IsBoard_1_ir : S :=
 (.seq (.ops [⟨some 3, .mv (.v (.bool false)), none⟩])
 (.seq (.ops [⟨some 4, .mv (.t 0), none⟩, ⟨some 5, .fad 0 (.t 1), none⟩, ⟨some 6, .fad 0 (.t 5), none⟩, ⟨some 7, .load 1 false (.t 6), none⟩, ⟨some 8, .len (.t 7), none⟩, ⟨some 9, .bin .geq (.t 4) (.t 8), none⟩, ⟨some 3, .mv (.t 9), none⟩])
 .ret))
noncomputable def X.i_IsBoard_1 (p0 : Int) (p1 : TBoard) : Option Bool :=
  some (decide (p0 ≥ (p1.Rules.Terrains.length : Int)))
theorem i_IsBoard_1_ok (p0 : Int) (p1 : TBoard) (r : Bool) (H : X.i_IsBoard_1 p0 p1 = some r) : FnOk Tryz.prog gl 176 [cI p0, .c (.pd (eTBoard p1) 0)] (cB r) := by
  unfold X.i_IsBoard_1 at H
  refine fn_in (fn := Tryz.f176) (ir := i_IsBoard_1_ir) (s1 := lit [(3, cB r)] []) Tryz.func176 (by kernel_rfl) (by kernel_rfl) (by kernel_rfl) (by kernel_rfl) (by kernel_rfl) ?_
  refine seq_ops [] [] [(0, cI p0), (1, .c (.pd (eTBoard p1) 0))] [] (fun t => t) (by kernel_rfl) ?_
  refine seq_ops [] [] [(3, cB (decide (p0 ≥ (p1.Rules.Terrains.length : Int))))] [] (fun t => lI p1.Rules.Terrains (t)) (by kernel_rfl) ?_
  refine ends_ret ?_
  obtain rfl := Option.some.inj H
  exact And.intro (.inl rfl) rfl

def i_IsBoard_ir : S :=
 (.seq (.ops [⟨some 1, .box 12 (.t 0), none⟩, ⟨some 2, .mv (.v (.bool false)), none⟩])
 (.seq (.seq (.ops [⟨some 3, .fad 0 (.t 1), none⟩, ⟨some 4, .load 7 true (.t 3), none⟩, ⟨some 5, .call 173 [.t 4], none⟩, ⟨some 6, .not (.t 5), none⟩, ⟨some 7, .mv (.t 6), none⟩, ⟨some 8, .fad 7 (.t 1), some (7, false)⟩, ⟨some 9, .load 5 true (.t 8), some (7, false)⟩, ⟨some 10, .call 174 [.t 9], some (7, false)⟩, ⟨some 11, .not (.t 10), some (7, false)⟩, ⟨some 12, .pick (.t 7) (.v (.bool true)) (.t 11), none⟩])
 (.ite (.t 12) (.seq (.ops [⟨some 2, .mv (.v (.bool false)), none⟩])
  .ret)
 .skip))
 (.seq (.ops [⟨some 13, .fad 7 (.t 1), none⟩, ⟨some 14, .fad 2 (.t 13), none⟩, ⟨some 15, .load 1 false (.t 14), none⟩, ⟨some 16, .clo 176 [.t 1], none⟩, ⟨some 17, .call 175 [.t 15, .t 16], none⟩, ⟨some 18, .not (.t 17), none⟩, ⟨some 2, .mv (.t 18), none⟩])
 .ret)))
noncomputable def X.i_IsBoard (p0 : TBoard) : Option Bool :=
  ((X.i_IsRules p0.Rules).bind fun v7 => (bif (!v7) then some false else ((X.i_IsMap p0.Map).bind fun v10 => (bif (!v10) then some false else ((X.g_ContainsFunc_int p0.Map.Terrain (fun q0 => X.i_IsBoard_1 q0 p0)).bind fun v13 => some (!v13))))))
theorem i_IsBoard_ok (p0 : TBoard) (r : Bool) (H : X.i_IsBoard p0 = some r) : FnOk Tryz.prog gl 110 [.agg (eTBoard p0)] (cB r) := by
  unfold X.i_IsBoard at H
  refine fn_in (fn := Tryz.f110) (ir := i_IsBoard_ir) (s1 := lit [(2, cB r)] []) Tryz.func110 (by kernel_rfl) (by kernel_rfl) (by kernel_rfl) (by kernel_rfl) (by kernel_rfl) ?_
  refine seq_ops [] [] [(1, .c (.pk 1 0))] [(1, .var (eTBoard p0) false)] (fun t => t) (by kernel_rfl) ?_
  refine seq_in ?_
  obtain ⟨v7, h8, H⟩ := ofBind H
  rcases ofCond H with ⟨c9, H⟩ | ⟨c9, H⟩
  · refine seq_ops [.res (cB v7), .g true, .g true, .g true, .g true, .g true] [] [(1, .c (.pk 1 0)), (12, cB true)] [(1, .var (eTBoard p0) false)] (fun t => aI (i_IsRules_ok p0.Rules v7 h8) (aI c9 (aI c9 (aI c9 (aI c9 (aI c9 (t))))))) (by kernel_rfl) ?_
    refine ite_t (rfl : (true : Bool) = true) (by kernel_rfl) ?_
    refine seq_ops [] [] [(2, cB false)] [] (fun t => t) (by kernel_rfl) ?_
    refine ends_ret ?_
    obtain rfl := Option.some.inj H
    exact And.intro (.inl rfl) rfl
  · obtain ⟨v10, h11, H⟩ := ofBind H
    refine seq_ops [.res (cB v7), .g false, .g false, .g false, .res (cB v10), .g false, .g false] [] [(1, .c (.pk 1 0)), (12, cB (!v10))] [(1, .var (eTBoard p0) false)] (fun t => aI (i_IsRules_ok p0.Rules v7 h8) (aI c9 (aI c9 (aI c9 (aI (i_IsMap_ok p0.Map v10 h11) (aI c9 (aI c9 (t)))))))) (by kernel_rfl) ?_
    rcases ofCond H with ⟨c12, H⟩ | ⟨c12, H⟩
    · refine ite_t c12 (by kernel_rfl) ?_
      refine seq_ops [] [] [(2, cB false)] [] (fun t => t) (by kernel_rfl) ?_
      refine ends_ret ?_
      obtain rfl := Option.some.inj H
      exact And.intro (.inl rfl) rfl
    · refine ite_f c12 (by kernel_rfl) ?_
      refine ends_skip ?_
      change EndsI _ _ _ _ _ _
      obtain ⟨v13, h14, H⟩ := ofBind H
      refine seq_ops [.res (cB v13)] [] [(2, cB (!v13))] [] (fun t => aI (g_ContainsFunc_int_c1_ok p0.Map.Terrain (176) (eTBoard p0) (fun q0 => X.i_IsBoard_1 q0 p0) (fun q0 r h => i_IsBoard_1_ok q0 p0 r h) v13 h14) (t)) (by kernel_rfl) ?_
      refine ends_ret ?_
      obtain rfl := Option.some.inj H
      exact And.intro (.inl rfl) rfl

def i_sizeOf_ir : S :=
 (.seq (.ops [⟨some 1, .box 12 (.t 0), none⟩, ⟨some 2, .mv (.v (.int .i64 0)), none⟩])
 (.seq (.ops [⟨some 3, .fad 7 (.t 1), none⟩, ⟨some 4, .fad 2 (.t 3), none⟩, ⟨some 5, .load 1 false (.t 4), none⟩, ⟨some 6, .len (.t 5), none⟩, ⟨some 2, .mv (.t 6), none⟩])
 .ret))
noncomputable def X.i_sizeOf (p0 : TBoard) : Option Int :=
  some (p0.Map.Terrain.length : Int)
theorem i_sizeOf_ok (p0 : TBoard) (r : Int) (H : X.i_sizeOf p0 = some r) : FnOk Tryz.prog gl 91 [.agg (eTBoard p0)] (cI r) := by
  unfold X.i_sizeOf at H
  refine fn_in (fn := Tryz.f91) (ir := i_sizeOf_ir) (s1 := lit [(2, cI r)] []) Tryz.func91 (by kernel_rfl) (by kernel_rfl) (by kernel_rfl) (by kernel_rfl) (by kernel_rfl) ?_
  refine seq_ops [] [] [(1, .c (.pk 1 0))] [(1, .var (eTBoard p0) false)] (fun t => t) (by kernel_rfl) ?_
  refine seq_ops [] [] [(2, cI (p0.Map.Terrain.length : Int))] [] (fun t => lI p0.Map.Terrain (t)) (by kernel_rfl) ?_
  refine ends_ret ?_
  obtain rfl := Option.some.inj H
  exact And.intro (.inl rfl) rfl

def i_terrainAt_ir : S :=
 (.seq (.ops [⟨some 2, .box 12 (.t 0), none⟩, ⟨some 4, .alloc [.str [], .nil, .int .i64 0, .int .i64 0, .bool false], none⟩])
 (.seq (.draw 11 [⟨some 5, .fad 0 (.t 2), none⟩, ⟨some 6, .fad 0 (.t 5), none⟩, ⟨some 7, .load 1 false (.t 6), none⟩, ⟨some 8, .fad 7 (.t 2), none⟩, ⟨some 9, .fad 2 (.t 8), none⟩, ⟨some 10, .load 1 false (.t 9), none⟩, ⟨some 11, .mv (.t 1), none⟩, ⟨some 12, .iad 1 (.t 10) (.t 11), none⟩, ⟨some 13, .load 1 false (.t 12), none⟩, ⟨some 14, .iad 5 (.t 7) (.t 13), none⟩, ⟨some 15, .load 5 true (.t 14), none⟩, ⟨none, .store 5 (.t 4) (.t 15), none⟩])
 .ret))
noncomputable def X.i_terrainAt (p0 : TBoard) (p1 : Int) : Option TTerrain :=
  ((at' zI p0.Map.Terrain p1).bind fun v1 => ((at' zTTerrain p0.Rules.Terrains v1).bind fun v3 => some v3))
theorem i_terrainAt_ok (p0 : TBoard) (p1 : Int) (r : TTerrain) (H : X.i_terrainAt p0 p1 = some r) : FnOk Tryz.prog gl 203 [.agg (eTBoard p0), cI p1] (.agg (eTTerrain r)) := by
  unfold X.i_terrainAt at H
  refine fn_in (fn := Tryz.f203) (ir := i_terrainAt_ir) (s1 := lit [(4, .c (.pk 4 0))] [(4, .var (eTTerrain r) false)]) Tryz.func203 (by kernel_rfl) (by kernel_rfl) (by kernel_rfl) (by kernel_rfl) (by kernel_rfl) ?_
  refine seq_ops [] [] [(1, cI p1), (2, .c (.pk 2 0)), (4, .c (.pk 4 0))] [(2, .var (eTBoard p0) false), (4, .var [.str [], .nil, .int .i64 0, .int .i64 0, .bool false] false)] (fun t => t) (by kernel_rfl) ?_
  obtain ⟨v1, h2, H⟩ := ofBind H
  obtain ⟨v3, h4, H⟩ := ofBind H
  refine seq_draw [.cs (eI v1), .cs (eTTerrain v3)] [] [(4, .c (.pk 4 0))] [(4, .var (eTTerrain v3) false)] (fun t => aI (at_lt h2) (aI (at_enc (enc := eI) h2) (aI (rfl : ([] : List Nat) = []) (aI (at_lt h4) (aI (at_enc (enc := eTTerrain) h4) (aI (rfl : ([] : List Nat) = []) (t))))))) (by kernel_rfl) ?_
  refine ends_ret ?_
  obtain rfl := Option.some.inj H
  exact And.intro (.inl rfl) rfl

def i_enterCost_ir : S :=
 (.seq (.ops [⟨some 3, .box 12 (.t 0), none⟩, ⟨some 6, .mv (.v (.int .i64 0)), none⟩])
 (.seq (.ops [⟨some 7, .load 12 true (.t 3), none⟩, ⟨some 8, .mv (.t 2), none⟩, ⟨some 9, .call 203 [.t 7, .t 8], none⟩, ⟨some 10, .fld 1 1 false (.t 9), none⟩, ⟨some 11, .mv (.t 1), none⟩, ⟨some 12, .iad 1 (.t 10) (.t 11), none⟩, ⟨some 13, .load 1 false (.t 12), none⟩, ⟨some 6, .mv (.t 13), none⟩])
 .ret))
noncomputable def X.i_enterCost (p0 : TBoard) (p1 : Int) (p2 : Int) : Option Int :=
  ((X.i_terrainAt p0 p2).bind fun v1 => ((at' zI v1.Cost p1).bind fun v3 => some v3))
theorem i_enterCost_ok (p0 : TBoard) (p1 : Int) (p2 : Int) (r : Int) (H : X.i_enterCost p0 p1 p2 = some r) : FnOk Tryz.prog gl 143 [.agg (eTBoard p0), cI p1, cI p2] (cI r) := by
  unfold X.i_enterCost at H
  refine fn_in (fn := Tryz.f143) (ir := i_enterCost_ir) (s1 := lit [(6, cI r)] []) Tryz.func143 (by kernel_rfl) (by kernel_rfl) (by kernel_rfl) (by kernel_rfl) (by kernel_rfl) ?_
  refine seq_ops [] [] [(1, cI p1), (2, cI p2), (3, .c (.pk 3 0))] [(3, .var (eTBoard p0) false)] (fun t => t) (by kernel_rfl) ?_
  obtain ⟨v1, h2, H⟩ := ofBind H
  obtain ⟨v3, h4, H⟩ := ofBind H
  refine seq_ops [.res (.agg (eTTerrain v1)), .cs (eI v3)] [] [(6, cI v3)] [] (fun t => aI (i_terrainAt_ok p0 p2 v1 h2) (aI (at_lt h4) (aI (at_enc (enc := eI) h4) (t)))) (by kernel_rfl) ?_
  refine ends_ret ?_
  obtain rfl := Option.some.inj H
  exact And.intro (.inl rfl) rfl

def i_goodUnit_ir : S :=
 (.seq (.ops [⟨some 2, .box 12 (.t 0), none⟩, ⟨some 3, .box 4 (.t 1), none⟩, ⟨some 4, .mv (.v (.bool false)), none⟩])
 (.seq (.seq (.draw 28 [⟨some 5, .fad 0 (.t 3), none⟩, ⟨some 6, .load 1 false (.t 5), none⟩, ⟨some 7, .call 127 [.t 6], none⟩, ⟨some 8, .not (.t 7), none⟩, ⟨some 9, .mv (.t 8), none⟩, ⟨some 10, .fad 1 (.t 3), some (9, false)⟩, ⟨some 11, .load 1 false (.t 10), some (9, false)⟩, ⟨some 12, .fad 0 (.t 2), some (9, false)⟩, ⟨some 13, .fad 1 (.t 12), some (9, false)⟩, ⟨some 14, .load 1 false (.t 13), some (9, false)⟩, ⟨some 15, .len (.t 14), some (9, false)⟩, ⟨some 16, .call 90 [.t 11, .t 15], some (9, false)⟩, ⟨some 17, .not (.t 16), some (9, false)⟩, ⟨some 18, .pick (.t 9) (.v (.bool true)) (.t 17), none⟩, ⟨some 19, .mv (.t 18), none⟩, ⟨some 20, .fad 3 (.t 3), some (19, false)⟩, ⟨some 21, .load 1 false (.t 20), some (19, false)⟩, ⟨some 22, .fad 0 (.t 2), some (19, false)⟩, ⟨some 23, .fad 1 (.t 22), some (19, false)⟩, ⟨some 24, .load 1 false (.t 23), some (19, false)⟩, ⟨some 25, .fad 1 (.t 3), some (19, false)⟩, ⟨some 26, .load 1 false (.t 25), some (19, false)⟩, ⟨some 27, .iad 6 (.t 24) (.t 26), some (19, false)⟩, ⟨some 28, .fad 3 (.t 27), some (19, false)⟩, ⟨some 29, .load 1 false (.t 28), some (19, false)⟩, ⟨some 30, .call 71 [.t 21, .v (.int .i64 0), .t 29], some (19, false)⟩, ⟨some 31, .not (.t 30), some (19, false)⟩, ⟨some 32, .pick (.t 19) (.v (.bool true)) (.t 31), none⟩])
 (.ite (.t 32) (.seq (.ops [⟨some 4, .mv (.v (.bool false)), none⟩])
  .ret)
 .skip))
 (.seq (.seq (.ops [⟨some 33, .fad 2 (.t 3), none⟩, ⟨some 34, .load 1 false (.t 33), none⟩, ⟨some 35, .bin .eql (.t 34) (.v (.int .i64 (-1))), none⟩])
 (.ite (.t 35) (.seq (.ops [⟨some 4, .mv (.v (.bool true)), none⟩])
  .ret)
 .skip))
 (.seq (.draw 20 [⟨some 36, .fad 3 (.t 3), none⟩, ⟨some 37, .load 1 false (.t 36), none⟩, ⟨some 38, .bin .gtr (.t 37) (.v (.int .i64 0)), none⟩, ⟨some 39, .mv (.t 38), none⟩, ⟨some 40, .fad 2 (.t 3), some (39, true)⟩, ⟨some 41, .load 1 false (.t 40), some (39, true)⟩, ⟨some 42, .load 12 true (.t 2), some (39, true)⟩, ⟨some 43, .call 91 [.t 42], some (39, true)⟩, ⟨some 44, .call 90 [.t 41, .t 43], some (39, true)⟩, ⟨some 45, .pick (.t 39) (.t 44) (.v (.bool false)), none⟩, ⟨some 46, .mv (.t 45), none⟩, ⟨some 47, .load 12 true (.t 2), some (46, true)⟩, ⟨some 48, .fad 1 (.t 3), some (46, true)⟩, ⟨some 49, .load 1 false (.t 48), some (46, true)⟩, ⟨some 50, .fad 2 (.t 3), some (46, true)⟩, ⟨some 51, .load 1 false (.t 50), some (46, true)⟩, ⟨some 52, .call 143 [.t 47, .t 49, .t 51], some (46, true)⟩, ⟨some 53, .bin .neq (.t 52) (.v (.int .i64 0)), some (46, true)⟩, ⟨some 54, .pick (.t 46) (.t 53) (.v (.bool false)), none⟩, ⟨some 4, .mv (.t 54), none⟩])
 .ret))))
noncomputable def X.i_goodUnit (p0 : TBoard) (p1 : TUnit) : Option Bool :=
  ((X.i_isSide p1.Side).bind fun v12 => (bif (!v12) then some false else ((X.i_isIndex p1.Kind (p0.Rules.Kinds.length : Int)).bind fun v15 => (bif (!v15) then some false else ((at' zTKind p0.Rules.Kinds p1.Kind).bind fun v18 => ((X.i_inRange p1.Steps 0 v18.Steps).bind fun v20 => (bif (!v20) then some false else (bif (p1.At == (-1)) then some true else (bif (decide (p1.Steps > 0)) then ((X.i_sizeOf p0).bind fun v26 => ((X.i_isIndex p1.At v26).bind fun v28 => (bif v28 then ((X.i_enterCost p0 p1.Kind p1.At).bind fun v31 => some (v31 != 0)) else some false))) else some false)))))))))
theorem i_goodUnit_ok (p0 : TBoard) (p1 : TUnit) (r : Bool) (H : X.i_goodUnit p0 p1 = some r) : FnOk Tryz.prog gl 210 [.agg (eTBoard p0), .agg (eTUnit p1)] (cB r) := by
  unfold X.i_goodUnit at H
  refine fn_in (fn := Tryz.f210) (ir := i_goodUnit_ir) (s1 := lit [(4, cB r)] []) Tryz.func210 (by kernel_rfl) (by kernel_rfl) (by kernel_rfl) (by kernel_rfl) (by kernel_rfl) ?_
  refine seq_ops [] [] [(2, .c (.pk 2 0)), (3, .c (.pk 3 0))] [(2, .var (eTBoard p0) false), (3, .var (eTUnit p1) false)] (fun t => t) (by kernel_rfl) ?_
  refine seq_in ?_
  obtain ⟨v12, h13, H⟩ := ofBind H
  rcases ofCond H with ⟨c14, H⟩ | ⟨c14, H⟩
  · refine seq_draw [.res (cB v12), .g true, .g true, .g true, .g true, .g true, .g true, .g true, .g true, .g true, .g true, .g true, .g true, .g true, .g true, .g true, .g true, .g true, .g true, .g true, .g true, .g true, .g true] [] [(2, .c (.pk 2 0)), (3, .c (.pk 3 0)), (32, cB true)] [(2, .var (eTBoard p0) false), (3, .var (eTUnit p1) false)] (fun t => aI (i_isSide_ok p1.Side v12 h13) (aI trivial (aI (rfl : ([] : List Nat) = []) (aI c14 (aI c14 (aI c14 (aI c14 (aI c14 (aI c14 (aI c14 (aI c14 (aI c14 (aI (rfl : (true : Bool) = true) (aI (rfl : (true : Bool) = true) (aI (rfl : (true : Bool) = true) (aI (rfl : (true : Bool) = true) (aI (rfl : (true : Bool) = true) (aI (rfl : (true : Bool) = true) (aI (rfl : (true : Bool) = true) (aI (rfl : (true : Bool) = true) (aI (rfl : (true : Bool) = true) (aI (rfl : (true : Bool) = true) (aI (rfl : (true : Bool) = true) (aI (rfl : (true : Bool) = true) (aI (rfl : (true : Bool) = true) (t)))))))))))))))))))))))))) (by kernel_rfl) ?_
    refine ite_t (rfl : (true : Bool) = true) (by kernel_rfl) ?_
    refine seq_ops [] [] [(4, cB false)] [] (fun t => t) (by kernel_rfl) ?_
    refine ends_ret ?_
    obtain rfl := Option.some.inj H
    exact And.intro (.inl rfl) rfl
  · obtain ⟨v15, h16, H⟩ := ofBind H
    rcases ofCond H with ⟨c17, H⟩ | ⟨c17, H⟩
    · refine seq_draw [.res (cB v12), .g false, .g false, .g false, .g false, .g false, .g false, .g false, .res (cB v15), .g false, .g false, .g true, .g true, .g true, .g true, .g true, .g true, .g true, .g true, .g true, .g true, .g true, .g true, .g true] [] [(2, .c (.pk 2 0)), (3, .c (.pk 3 0)), (32, cB true)] [(2, .var (eTBoard p0) false), (3, .var (eTUnit p1) false)] (fun t => aI (i_isSide_ok p1.Side v12 h13) (aI trivial (aI (rfl : ([] : List Nat) = []) (aI c14 (aI c14 (aI c14 (aI c14 (aI c14 (aI c14 (aI c14 (aI (i_isIndex_ok p1.Kind (p0.Rules.Kinds.length : Int) v15 h16) (aI trivial (aI (rfl : ([] : List Nat) = []) (aI c14 (aI c14 (aI c17 (aI c17 (aI c17 (aI c17 (aI c17 (aI c17 (aI c17 (aI c17 (aI c17 (aI c17 (aI c17 (aI c17 (aI c17 (t))))))))))))))))))))))))))))) (by kernel_rfl) ?_
      refine ite_t (rfl : (true : Bool) = true) (by kernel_rfl) ?_
      refine seq_ops [] [] [(4, cB false)] [] (fun t => t) (by kernel_rfl) ?_
      refine ends_ret ?_
      obtain rfl := Option.some.inj H
      exact And.intro (.inl rfl) rfl
    · obtain ⟨v18, h19, H⟩ := ofBind H
      obtain ⟨v20, h21, H⟩ := ofBind H
      refine seq_draw [.res (cB v12), .g false, .g false, .g false, .g false, .g false, .g false, .g false, .res (cB v15), .g false, .g false, .g false, .g false, .g false, .g false, .g false, .g false, .g false, .g false, .cs (eTKind v18), .g false, .g false, .g false, .res (cB v20), .g false, .g false] [] [(2, .c (.pk 2 0)), (3, .c (.pk 3 0)), (32, cB (!v20))] [(2, .var (eTBoard p0) false), (3, .var (eTUnit p1) false)] (fun t => aI (i_isSide_ok p1.Side v12 h13) (aI trivial (aI (rfl : ([] : List Nat) = []) (aI c14 (aI c14 (aI c14 (aI c14 (aI c14 (aI c14 (aI c14 (aI (i_isIndex_ok p1.Kind (p0.Rules.Kinds.length : Int) v15 h16) (aI trivial (aI (rfl : ([] : List Nat) = []) (aI c14 (aI c14 (aI c17 (aI c17 (aI c17 (aI c17 (aI c17 (aI c17 (aI c17 (aI c17 (aI (at_lt h19) (aI (at_enc (enc := eTKind) h19) (aI c17 (aI c17 (aI (rfl : ([] : List Nat) = []) (aI c17 (aI (i_inRange_ok p1.Steps 0 v18.Steps v20 h21) (aI trivial (aI (rfl : ([] : List Nat) = []) (aI c17 (aI c17 (t))))))))))))))))))))))))))))))))))) (by kernel_rfl) ?_
      rcases ofCond H with ⟨c22, H⟩ | ⟨c22, H⟩
      · refine ite_t c22 (by kernel_rfl) ?_
        refine seq_ops [] [] [(4, cB false)] [] (fun t => t) (by kernel_rfl) ?_
        refine ends_ret ?_
        obtain rfl := Option.some.inj H
        exact And.intro (.inl rfl) rfl
      · refine ite_f c22 (by kernel_rfl) ?_
        refine ends_skip ?_
        change EndsI _ _ _ _ _ _
        refine seq_in ?_
        refine seq_ops [] [] [(2, .c (.pk 2 0)), (3, .c (.pk 3 0)), (35, cB (p1.At == (-1)))] [(2, .var (eTBoard p0) false), (3, .var (eTUnit p1) false)] (fun t => t) (by kernel_rfl) ?_
        rcases ofCond H with ⟨c24, H⟩ | ⟨c24, H⟩
        · refine ite_t c24 (by kernel_rfl) ?_
          refine seq_ops [] [] [(4, cB true)] [] (fun t => t) (by kernel_rfl) ?_
          refine ends_ret ?_
          obtain rfl := Option.some.inj H
          exact And.intro (.inl rfl) rfl
        · refine ite_f c24 (by kernel_rfl) ?_
          refine ends_skip ?_
          change EndsI _ _ _ _ _ _
          rcases ofCond H with ⟨c25, H⟩ | ⟨c25, H⟩
          · obtain ⟨v26, h27, H⟩ := ofBind H
            obtain ⟨v28, h29, H⟩ := ofBind H
            rcases ofCond H with ⟨c30, H⟩ | ⟨c30, H⟩
            · obtain ⟨v31, h32, H⟩ := ofBind H
              refine seq_draw [.g true, .g true, .g true, .g true, .res (cI v26), .g true, .res (cB v28), .g true, .g true, .g true, .g true, .g true, .g true, .g true, .res (cI v31), .g true, .g true] [] [(4, cB (v31 != 0))] [] (fun t => aI c25 (aI c25 (aI c25 (aI c25 (aI (i_sizeOf_ok p0 v26 h27) (aI trivial (aI (rfl : ([] : List Nat) = []) (aI c25 (aI (i_isIndex_ok p1.At v26 v28 h29) (aI trivial (aI (rfl : ([] : List Nat) = []) (aI c25 (aI c30 (aI c30 (aI c30 (aI c30 (aI c30 (aI c30 (aI (i_enterCost_ok p0 p1.Kind p1.At v31 h32) (aI trivial (aI (rfl : ([] : List Nat) = []) (aI c30 (aI c30 (t)))))))))))))))))))))))) (by kernel_rfl) ?_
              refine ends_ret ?_
              obtain rfl := Option.some.inj H
              exact And.intro (.inl rfl) rfl
            · refine seq_draw [.g true, .g true, .g true, .g true, .res (cI v26), .g true, .res (cB v28), .g true, .g false, .g false, .g false, .g false, .g false, .g false, .g false, .g false] [] [(4, cB false)] [] (fun t => aI c25 (aI c25 (aI c25 (aI c25 (aI (i_sizeOf_ok p0 v26 h27) (aI trivial (aI (rfl : ([] : List Nat) = []) (aI c25 (aI (i_isIndex_ok p1.At v26 v28 h29) (aI trivial (aI (rfl : ([] : List Nat) = []) (aI c25 (aI c30 (aI c30 (aI c30 (aI c30 (aI c30 (aI c30 (aI c30 (aI c30 (t))))))))))))))))))))) (by kernel_rfl) ?_
              refine ends_ret ?_
              obtain rfl := Option.some.inj H
              exact And.intro (.inl rfl) rfl
          · refine seq_draw [.g false, .g false, .g false, .g false, .g false, .g false, .g false, .g false, .g false, .g false, .g false, .g false, .g false, .g false] [] [(4, cB false)] [] (fun t => aI c25 (aI c25 (aI c25 (aI c25 (aI c25 (aI c25 (aI (rfl : (false : Bool) = false) (aI (rfl : (false : Bool) = false) (aI (rfl : (false : Bool) = false) (aI (rfl : (false : Bool) = false) (aI (rfl : (false : Bool) = false) (aI (rfl : (false : Bool) = false) (aI (rfl : (false : Bool) = false) (aI (rfl : (false : Bool) = false) (t))))))))))))))) (by kernel_rfl) ?_
            refine ends_ret ?_
            obtain rfl := Option.some.inj H
            exact And.intro (.inl rfl) rfl

def i_goodState_ir : S :=
 (.seq (.ops [⟨some 2, .box 12 (.t 0), none⟩, ⟨some 3, .box 3 (.t 1), none⟩, ⟨some 4, .mv (.v (.bool false)), none⟩])
 (.seq (.seq (.ops [⟨some 8, .fad 0 (.t 3), none⟩, ⟨some 9, .load 1 false (.t 8), none⟩, ⟨some 10, .fad 0 (.t 2), none⟩, ⟨some 11, .fad 6 (.t 10), none⟩, ⟨some 12, .load 1 false (.t 11), none⟩, ⟨some 13, .call 71 [.t 9, .v (.int .i64 0), .t 12], none⟩, ⟨some 14, .not (.t 13), none⟩, ⟨some 15, .mv (.t 14), none⟩, ⟨some 16, .fad 1 (.t 3), some (15, false)⟩, ⟨some 17, .load 1 false (.t 16), some (15, false)⟩, ⟨some 18, .call 71 [.t 17, .v (.int .i64 0), .v (.int .i64 2)], some (15, false)⟩, ⟨some 19, .not (.t 18), some (15, false)⟩, ⟨some 20, .pick (.t 15) (.v (.bool true)) (.t 19), none⟩, ⟨some 21, .mv (.t 20), none⟩, ⟨some 22, .fad 2 (.t 3), some (21, false)⟩, ⟨some 23, .load 1 false (.t 22), some (21, false)⟩, ⟨some 24, .len (.t 23), some (21, false)⟩, ⟨some 25, .bin .gtr (.t 24) (.v (.int .i64 12)), some (21, false)⟩, ⟨some 26, .pick (.t 21) (.v (.bool true)) (.t 25), none⟩])
 (.ite (.t 26) (.seq (.ops [⟨some 4, .mv (.v (.bool false)), none⟩])
  .ret)
 .skip))
 (.seq (.ops [⟨some 27, .load 12 true (.t 2), none⟩, ⟨some 28, .call 91 [.t 27], none⟩, ⟨some 29, .msl 2 16 [.int .i64 0, .int .i64 0] (.t 28), none⟩, ⟨some 5, .mv (.t 29), none⟩])
 (.seq (.seq (.ops [⟨some 30, .fad 2 (.t 3), none⟩, ⟨some 31, .load 1 false (.t 30), none⟩, ⟨some 32, .len (.t 31), none⟩, ⟨some 33, .mv (.v (.int .i64 0)), none⟩])
 (.blk 0 (.loop (.seq (.ops [⟨some 34, .bin .lss (.t 33) (.t 32), none⟩])
   (.seq (.ite (.t 34) .skip
   (.exit 0))
   (.seq (.blk 1 (.seq (.ops [⟨some 35, .iad 4 (.t 31) (.t 33), none⟩, ⟨some 36, .load 4 true (.t 35), none⟩, ⟨some 7, .alloc [.int .i64 0, .int .i64 0, .int .i64 0, .int .i64 0], none⟩, ⟨none, .store 4 (.t 7) (.t 36), none⟩])
    (.seq (.seq (.ops [⟨some 37, .load 12 true (.t 2), none⟩, ⟨some 38, .load 4 true (.t 7), none⟩, ⟨some 39, .call 210 [.t 37, .t 38], none⟩, ⟨some 40, .not (.t 39), none⟩])
    (.ite (.t 40) (.seq (.ops [⟨some 4, .mv (.v (.bool false)), none⟩])
     .ret)
    .skip))
    (.seq (.seq (.ops [⟨some 41, .fad 2 (.t 7), none⟩, ⟨some 42, .load 1 false (.t 41), none⟩, ⟨some 43, .bin .lss (.t 42) (.v (.int .i64 0)), none⟩])
    (.ite (.t 43) (.exit 1)
    .skip))
    (.seq (.draw 11 [⟨some 44, .mv (.t 5), none⟩, ⟨some 45, .fad 2 (.t 7), none⟩, ⟨some 46, .load 1 false (.t 45), none⟩, ⟨some 47, .fad 0 (.t 7), none⟩, ⟨some 48, .load 1 false (.t 47), none⟩, ⟨some 49, .iad 2 (.t 44) (.t 46), none⟩, ⟨some 50, .iar 2 1 (.t 49) (.t 48), none⟩, ⟨some 51, .load 1 false (.t 50), none⟩, ⟨some 52, .bin .add (.t 51) (.v (.int .i64 1)), none⟩, ⟨some 53, .iad 2 (.t 44) (.t 46), none⟩, ⟨some 54, .iar 2 1 (.t 53) (.t 48), none⟩, ⟨none, .store 1 (.t 54) (.t 52), none⟩])
    (.seq (.draw 24 [⟨some 55, .mv (.t 5), none⟩, ⟨some 56, .fad 2 (.t 7), none⟩, ⟨some 57, .load 1 false (.t 56), none⟩, ⟨some 58, .fad 0 (.t 7), none⟩, ⟨some 59, .load 1 false (.t 58), none⟩, ⟨some 60, .bin .sub (.v (.int .i64 1)) (.t 59), none⟩, ⟨some 61, .iad 2 (.t 55) (.t 57), none⟩, ⟨some 62, .iar 2 1 (.t 61) (.t 60), none⟩, ⟨some 63, .load 1 false (.t 62), none⟩, ⟨some 64, .bin .gtr (.t 63) (.v (.int .i64 0)), none⟩, ⟨some 65, .mv (.t 64), none⟩, ⟨some 66, .mv (.t 5), some (65, false)⟩, ⟨some 67, .fad 2 (.t 7), some (65, false)⟩, ⟨some 68, .load 1 false (.t 67), some (65, false)⟩, ⟨some 69, .fad 0 (.t 7), some (65, false)⟩, ⟨some 70, .load 1 false (.t 69), some (65, false)⟩, ⟨some 71, .iad 2 (.t 66) (.t 68), some (65, false)⟩, ⟨some 72, .iar 2 1 (.t 71) (.t 70), some (65, false)⟩, ⟨some 73, .load 1 false (.t 72), some (65, false)⟩, ⟨some 74, .fad 0 (.t 2), some (65, false)⟩, ⟨some 75, .fad 2 (.t 74), some (65, false)⟩, ⟨some 76, .load 1 false (.t 75), some (65, false)⟩, ⟨some 77, .bin .gtr (.t 73) (.t 76), some (65, false)⟩, ⟨some 78, .pick (.t 65) (.v (.bool true)) (.t 77), none⟩])
    (.ite (.t 78) (.seq (.ops [⟨some 4, .mv (.v (.bool false)), none⟩])
     .ret)
    .skip)))))))
   (.ops [⟨some 79, .bin .add (.t 33) (.v (.int .i64 1)), none⟩, ⟨some 33, .mv (.t 79), none⟩])))))))
 (.seq (.ops [⟨some 4, .mv (.v (.bool true)), none⟩])
 .ret)))))
noncomputable def X.i_goodState (p0 : TBoard) (p1 : TState) : Option Bool :=
  ((X.i_inRange p1.Turn 0 p0.Rules.Turns).bind fun v8 => (bif (!v8) then some false else ((X.i_inRange p1.Weather 0 2).bind fun v11 => (bif (!v11) then some false else (bif (decide ((p1.Units.length : Int) > 12)) then some false else ((X.i_sizeOf p0).bind fun v15 => (if 0 ≤ v15 ∧ v15.toNat ≤ LIM then ((loop (fun (x85 : (Int × (List A2_I))) => ((bif (decide (x85.1 < (p1.Units.length : Int))) then ((at' zTUnit p1.Units x85.1).bind fun v88 => ((X.i_goodUnit p0 v88).bind fun v93 => (bif (!v93) then some (Sum.inr (Sum.inr false)) else (bif (decide (v88.At < 0)) then some (Sum.inl ((W (x85.1 + 1)), x85.2)) else (if 0 ≤ v88.At ∧ v88.At < (x85.2.length : Int) then (if v88.Side = ((0 : Nat) : Int) then (if (W (1 - v88.Side)) = ((0 : Nat) : Int) then (bif (decide (((x85.2.set v88.At.toNat (A2_I.mk (W ((x85.2.getD v88.At.toNat zA2_I).a0 + 1)) ((x85.2.getD v88.At.toNat zA2_I).a1))).getD v88.At.toNat zA2_I).a0 > 0)) then some (Sum.inr (Sum.inr false)) else (bif (decide (((x85.2.set v88.At.toNat (A2_I.mk (W ((x85.2.getD v88.At.toNat zA2_I).a0 + 1)) ((x85.2.getD v88.At.toNat zA2_I).a1))).getD v88.At.toNat zA2_I).a0 > p0.Rules.Stack)) then some (Sum.inr (Sum.inr false)) else some (Sum.inl ((W (x85.1 + 1)), (x85.2.set v88.At.toNat (A2_I.mk (W ((x85.2.getD v88.At.toNat zA2_I).a0 + 1)) ((x85.2.getD v88.At.toNat zA2_I).a1))))))) else (if (W (1 - v88.Side)) = ((1 : Nat) : Int) then (bif (decide (((x85.2.set v88.At.toNat (A2_I.mk (W ((x85.2.getD v88.At.toNat zA2_I).a0 + 1)) ((x85.2.getD v88.At.toNat zA2_I).a1))).getD v88.At.toNat zA2_I).a1 > 0)) then some (Sum.inr (Sum.inr false)) else (bif (decide (((x85.2.set v88.At.toNat (A2_I.mk (W ((x85.2.getD v88.At.toNat zA2_I).a0 + 1)) ((x85.2.getD v88.At.toNat zA2_I).a1))).getD v88.At.toNat zA2_I).a0 > p0.Rules.Stack)) then some (Sum.inr (Sum.inr false)) else some (Sum.inl ((W (x85.1 + 1)), (x85.2.set v88.At.toNat (A2_I.mk (W ((x85.2.getD v88.At.toNat zA2_I).a0 + 1)) ((x85.2.getD v88.At.toNat zA2_I).a1))))))) else none)) else (if v88.Side = ((1 : Nat) : Int) then (if (W (1 - v88.Side)) = ((0 : Nat) : Int) then (bif (decide (((x85.2.set v88.At.toNat (A2_I.mk ((x85.2.getD v88.At.toNat zA2_I).a0) (W ((x85.2.getD v88.At.toNat zA2_I).a1 + 1)))).getD v88.At.toNat zA2_I).a0 > 0)) then some (Sum.inr (Sum.inr false)) else (bif (decide (((x85.2.set v88.At.toNat (A2_I.mk ((x85.2.getD v88.At.toNat zA2_I).a0) (W ((x85.2.getD v88.At.toNat zA2_I).a1 + 1)))).getD v88.At.toNat zA2_I).a1 > p0.Rules.Stack)) then some (Sum.inr (Sum.inr false)) else some (Sum.inl ((W (x85.1 + 1)), (x85.2.set v88.At.toNat (A2_I.mk ((x85.2.getD v88.At.toNat zA2_I).a0) (W ((x85.2.getD v88.At.toNat zA2_I).a1 + 1)))))))) else (if (W (1 - v88.Side)) = ((1 : Nat) : Int) then (bif (decide (((x85.2.set v88.At.toNat (A2_I.mk ((x85.2.getD v88.At.toNat zA2_I).a0) (W ((x85.2.getD v88.At.toNat zA2_I).a1 + 1)))).getD v88.At.toNat zA2_I).a1 > 0)) then some (Sum.inr (Sum.inr false)) else (bif (decide (((x85.2.set v88.At.toNat (A2_I.mk ((x85.2.getD v88.At.toNat zA2_I).a0) (W ((x85.2.getD v88.At.toNat zA2_I).a1 + 1)))).getD v88.At.toNat zA2_I).a1 > p0.Rules.Stack)) then some (Sum.inr (Sum.inr false)) else some (Sum.inl ((W (x85.1 + 1)), (x85.2.set v88.At.toNat (A2_I.mk ((x85.2.getD v88.At.toNat zA2_I).a0) (W ((x85.2.getD v88.At.toNat zA2_I).a1 + 1)))))))) else none)) else none)) else none))))) else some (Sum.inr (Sum.inl ()))) : Option ((Int × (List A2_I)) ⊕ (Unit ⊕ Bool)))) (0, (List.replicate v15.toNat zA2_I))).bind fun y119 => (Sum.elim (fun (y121 : Unit) => some true) (fun (y122 : Bool) => some y122) y119)) else none)))))))
theorem i_goodState_ok (p0 : TBoard) (p1 : TState) (r : Bool) (H : X.i_goodState p0 p1 = some r) : FnOk Tryz.prog gl 177 [.agg (eTBoard p0), .agg (eTState p1)] (cB r) := by
  unfold X.i_goodState at H
  refine fn_in (fn := Tryz.f177) (ir := i_goodState_ir) (s1 := lit [(4, cB r)] []) Tryz.func177 (by kernel_rfl) (by kernel_rfl) (by kernel_rfl) (by kernel_rfl) (by kernel_rfl) ?_
  refine seq_ops [] [] [(2, .c (.pk 2 0)), (3, .c (.pk 3 0))] [(2, .var (eTBoard p0) false), (3, .var (eTState p1) false)] (fun t => t) (by kernel_rfl) ?_
  refine seq_in ?_
  obtain ⟨v8, h9, H⟩ := ofBind H
  rcases ofCond H with ⟨c10, H⟩ | ⟨c10, H⟩
  · refine seq_ops [.res (cB v8), .g true, .g true, .g true, .g true, .g true, .g true, .g true, .g true, .g true, .g true] [] [(2, .c (.pk 2 0)), (3, .c (.pk 3 0)), (26, cB true)] [(2, .var (eTBoard p0) false), (3, .var (eTState p1) false)] (fun t => aI (i_inRange_ok p1.Turn 0 p0.Rules.Turns v8 h9) (aI c10 (aI c10 (aI c10 (aI c10 (aI c10 (aI (rfl : (true : Bool) = true) (aI (rfl : (true : Bool) = true) (aI (rfl : (true : Bool) = true) (aI (rfl : (true : Bool) = true) (aI (rfl : (true : Bool) = true) (t)))))))))))) (by kernel_rfl) ?_
    refine ite_t (rfl : (true : Bool) = true) (by kernel_rfl) ?_
    refine seq_ops [] [] [(4, cB false)] [] (fun t => t) (by kernel_rfl) ?_
    refine ends_ret ?_
    obtain rfl := Option.some.inj H
    exact And.intro (.inl rfl) rfl
  · obtain ⟨v11, h12, H⟩ := ofBind H
    rcases ofCond H with ⟨c13, H⟩ | ⟨c13, H⟩
    · refine seq_ops [.res (cB v8), .g false, .g false, .g false, .res (cB v11), .g false, .g false, .g true, .g true, .g true, .g true, .g true] [] [(2, .c (.pk 2 0)), (3, .c (.pk 3 0)), (26, cB true)] [(2, .var (eTBoard p0) false), (3, .var (eTState p1) false)] (fun t => aI (i_inRange_ok p1.Turn 0 p0.Rules.Turns v8 h9) (aI c10 (aI c10 (aI c10 (aI (i_inRange_ok p1.Weather 0 2 v11 h12) (aI c10 (aI c10 (aI c13 (aI c13 (aI c13 (aI c13 (aI c13 (t))))))))))))) (by kernel_rfl) ?_
      refine ite_t (rfl : (true : Bool) = true) (by kernel_rfl) ?_
      refine seq_ops [] [] [(4, cB false)] [] (fun t => t) (by kernel_rfl) ?_
      refine ends_ret ?_
      obtain rfl := Option.some.inj H
      exact And.intro (.inl rfl) rfl
    · refine seq_ops [.res (cB v8), .g false, .g false, .g false, .res (cB v11), .g false, .g false, .g false, .g false, .g false, .g false, .g false] [] [(2, .c (.pk 2 0)), (3, .c (.pk 3 0)), (26, cB (decide ((p1.Units.length : Int) > 12)))] [(2, .var (eTBoard p0) false), (3, .var (eTState p1) false)] (fun t => aI (i_inRange_ok p1.Turn 0 p0.Rules.Turns v8 h9) (aI c10 (aI c10 (aI c10 (aI (i_inRange_ok p1.Weather 0 2 v11 h12) (aI c10 (aI c10 (aI c13 (aI c13 (aI c13 (lI p1.Units (aI c13 (aI c13 (t)))))))))))))) (by kernel_rfl) ?_
      rcases ofCond H with ⟨c14, H⟩ | ⟨c14, H⟩
      · refine ite_t c14 (by kernel_rfl) ?_
        refine seq_ops [] [] [(4, cB false)] [] (fun t => t) (by kernel_rfl) ?_
        refine ends_ret ?_
        obtain rfl := Option.some.inj H
        exact And.intro (.inl rfl) rfl
      · refine ite_f c14 (by kernel_rfl) ?_
        refine ends_skip ?_
        change EndsI _ _ _ _ _ _
        obtain ⟨v15, h16, H⟩ := ofBind H
        obtain ⟨g17, H⟩ := ofIf H
        refine seq_ops [.res (cI v15), .fn (List.replicate v15.toNat zA2_I).length (fF eA2_I zA2_I (List.replicate v15.toNat zA2_I))] [] [(2, .c (.pk 2 0)), (3, .c (.pk 3 0)), (5, .c (.own 29 2 0 ((List.replicate v15.toNat zA2_I).length)))] [(2, .var (eTBoard p0) false), (3, .var (eTState p1) false), (29, .arr 2 ((List.replicate v15.toNat zA2_I).length) (fF eA2_I zA2_I (List.replicate v15.toNat zA2_I)) false)] (fun t => aI (i_sizeOf_ok p0 v15 h16) (aI (And.intro g17.1 (And.intro (List.length_replicate (n := v15.toNat) (a := zA2_I)).symm (Nat.le_trans (Nat.le_of_eq List.length_replicate) g17.2 : (List.replicate v15.toNat zA2_I).length ≤ LIM))) (aI (fF_rep eA2_I zA2_I zA2_I v15.toNat) (t)))) (by kernel_rfl) ?_
        refine seq_in ?_
        refine seq_ops [] [] [(2, .c (.pk 2 0)), (5, .c (.own 29 2 0 ((List.replicate v15.toNat zA2_I).length))), (31, .c (dat 4 eTUnit zTUnit p1.Units)), (32, cI (p1.Units.length : Int)), (33, cI 0)] [(2, .var (eTBoard p0) false), (29, .arr 2 ((List.replicate v15.toNat zA2_I).length) (fF eA2_I zA2_I (List.replicate v15.toNat zA2_I)) false)] (fun t => lI p1.Units (t)) (by kernel_rfl) ?_
        refine ends_blk ?_
        obtain ⟨y119, h120, H⟩ := ofBind H
        refine loop_in (fun (x : (Int × (List A2_I))) => lit [(2, .c (.pk 2 0)), (5, .c (.own 29 2 0 x.2.length)), (31, .c (dat 4 eTUnit zTUnit p1.Units)), (32, cI (p1.Units.length : Int)), (33, cI x.1)] [(2, .var (eTBoard p0) false), (29, .arr 2 x.2.length (fF eA2_I zA2_I x.2) false)]) (orJ (fun (z : Unit) => At (.exit 0) (lit [] [])) (fun (z : Bool) => At .ret (lit [(4, cB z)] []))) h120 ?_ ?_
        · clear H h120
          intro x85 y0 H
          refine seq_ops [] [] [(2, .c (.pk 2 0)), (5, .c (.own 29 2 0 x85.2.length)), (31, .c (dat 4 eTUnit zTUnit p1.Units)), (32, cI (p1.Units.length : Int)), (33, cI x85.1), (34, cB (decide (x85.1 < (p1.Units.length : Int))))] [(2, .var (eTBoard p0) false), (29, .arr 2 x85.2.length (fF eA2_I zA2_I x85.2) false)] (fun t => t) (by kernel_rfl) ?_
          refine seq_in ?_
          rcases ofCond H with ⟨c87, H⟩ | ⟨c87, H⟩
          · refine ite_t c87 (by kernel_rfl) ?_
            refine ends_skip ?_
            change EndsI _ _ _ _ _ _
            refine seq_in ?_
            refine ends_blk ?_
            obtain ⟨v88, h89, H⟩ := ofBind H
            refine seq_ops [.cs (eTUnit v88)] [] [(2, .c (.pk 2 0)), (5, .c (.own 29 2 0 x85.2.length)), (7, .c (.pk 7 0)), (31, .c (dat 4 eTUnit zTUnit p1.Units)), (32, cI (p1.Units.length : Int)), (33, cI x85.1)] [(2, .var (eTBoard p0) false), (7, .var (eTUnit v88) false), (29, .arr 2 x85.2.length (fF eA2_I zA2_I x85.2) false)] (fun t => aI (at_lt h89) (aI (at_enc (enc := eTUnit) h89) (t))) (by kernel_rfl) ?_
            refine seq_in ?_
            obtain ⟨v93, h94, H⟩ := ofBind H
            refine seq_ops [.res (cB v93)] [] [(2, .c (.pk 2 0)), (5, .c (.own 29 2 0 x85.2.length)), (7, .c (.pk 7 0)), (31, .c (dat 4 eTUnit zTUnit p1.Units)), (32, cI (p1.Units.length : Int)), (33, cI x85.1), (40, cB (!v93))] [(2, .var (eTBoard p0) false), (7, .var (eTUnit v88) false), (29, .arr 2 x85.2.length (fF eA2_I zA2_I x85.2) false)] (fun t => aI (i_goodUnit_ok p0 v88 v93 h94) (t)) (by kernel_rfl) ?_
            rcases ofCond H with ⟨c95, H⟩ | ⟨c95, H⟩
            · refine ite_t c95 (by kernel_rfl) ?_
              refine seq_ops [] [] [(4, cB false)] [] (fun t => t) (by kernel_rfl) ?_
              refine ends_ret ?_
              obtain rfl := Option.some.inj H
              exact And.intro (by simp) (And.intro rfl rfl)
            · refine ite_f c95 (by kernel_rfl) ?_
              refine ends_skip ?_
              change EndsI _ _ _ _ _ _
              refine seq_in ?_
              refine seq_ops [] [] [(2, .c (.pk 2 0)), (5, .c (.own 29 2 0 x85.2.length)), (7, .c (.pk 7 0)), (31, .c (dat 4 eTUnit zTUnit p1.Units)), (32, cI (p1.Units.length : Int)), (33, cI x85.1), (43, cB (decide (v88.At < 0)))] [(2, .var (eTBoard p0) false), (7, .var (eTUnit v88) false), (29, .arr 2 x85.2.length (fF eA2_I zA2_I x85.2) false)] (fun t => t) (by kernel_rfl) ?_
              rcases ofCond H with ⟨c97, H⟩ | ⟨c97, H⟩
              · refine ite_t c97 (by kernel_rfl) ?_
                refine ends_exit ?_
                change EndsI _ _ _ _ _ _
                refine one_ops [] [] [(2, .c (.pk 2 0)), (5, .c (.own 29 2 0 x85.2.length)), (31, .c (dat 4 eTUnit zTUnit p1.Units)), (32, cI (p1.Units.length : Int)), (33, cI (W (x85.1 + 1)))] [(2, .var (eTBoard p0) false), (29, .arr 2 x85.2.length (fF eA2_I zA2_I x85.2) false)] (fun t => t) (by kernel_rfl) ?_
                obtain rfl := Option.some.inj H
                exact And.intro rfl rfl
              · refine ite_f c97 (by kernel_rfl) ?_
                refine ends_skip ?_
                change EndsI _ _ _ _ _ _
                obtain ⟨g98, H⟩ := ofIf H
                rcases ofIte H with ⟨c99, H⟩ | ⟨c118, H⟩
                · refine seq_draw [.no, .nat 0, .no, .nat 0, .fn 0 (fF eA2_I zA2_I (x85.2.set v88.At.toNat (A2_I.mk (W ((x85.2.getD v88.At.toNat zA2_I).a0 + 1)) ((x85.2.getD v88.At.toNat zA2_I).a1))))] [] [(2, .c (.pk 2 0)), (5, .c (.own 29 2 0 x85.2.length)), (7, .c (.pk 7 0)), (31, .c (dat 4 eTUnit zTUnit p1.Units)), (32, cI (p1.Units.length : Int)), (33, cI x85.1)] [(2, .var (eTBoard p0) false), (7, .var (eTUnit v88) false), (29, .arr 2 x85.2.length (fF eA2_I zA2_I (x85.2.set v88.At.toNat (A2_I.mk (W ((x85.2.getD v88.At.toNat zA2_I).a0 + 1)) ((x85.2.getD v88.At.toNat zA2_I).a1)))) false)] (fun t => aI g98 (aI (And.intro c99 (by decide : 0 < 2)) (aI (nat_lt g98) (aI (rfl : ([] : List Nat) = []) (aI g98 (aI (And.intro c99 (by decide : 0 < 2)) (aI (rfl : true = true) (aI (nat_lt g98) (aI (by decide : 0 + 1 ≤ 2) (aI (fF_set eA2_I zA2_I x85.2 v88.At.toNat (A2_I.mk (W ((x85.2.getD v88.At.toNat zA2_I).a0 + 1)) ((x85.2.getD v88.At.toNat zA2_I).a1)) (nat_lt g98) x85.2.length) (t))))))))))) (by kernel_rfl) ?_
                  rcases ofIte H with ⟨c100, H⟩ | ⟨c107, H⟩
                  · rcases ofCond H with ⟨c101, H⟩ | ⟨c101, H⟩
                    · refine seq_draw [.no, .nat 0, .g true, .g true, .g true, .g true, .g true, .g true, .g true, .g true, .g true, .g true, .g true, .g true, .g true] [] [(2, .c (.pk 2 0)), (5, .c (.own 29 2 0 x85.2.length)), (31, .c (dat 4 eTUnit zTUnit p1.Units)), (32, cI (p1.Units.length : Int)), (33, cI x85.1), (78, cB true)] [(2, .var (eTBoard p0) false), (29, .arr 2 x85.2.length (fF eA2_I zA2_I (x85.2.set v88.At.toNat (A2_I.mk (W ((x85.2.getD v88.At.toNat zA2_I).a0 + 1)) ((x85.2.getD v88.At.toNat zA2_I).a1)))) false)] (fun t => aI g98 (aI (And.intro c100 (by decide : 0 < 2)) (aI (nat_lt g98) (aI (rfl : ([] : List Nat) = []) (aI c101 (aI c101 (aI c101 (aI c101 (aI c101 (aI c101 (aI c101 (aI c101 (aI c101 (aI c101 (aI c101 (aI c101 (aI c101 (t)))))))))))))))))) (by kernel_rfl) ?_
                      refine ite_t (rfl : (true : Bool) = true) (by kernel_rfl) ?_
                      refine seq_ops [] [] [(4, cB false)] [] (fun t => t) (by kernel_rfl) ?_
                      refine ends_ret ?_
                      obtain rfl := Option.some.inj H
                      exact And.intro (by simp) (And.intro rfl rfl)
                    · refine seq_draw [.no, .nat 0, .g false, .g false, .g false, .g false, .g false, .g false, .no, .g false, .nat 0, .g false, .g false, .g false, .g false, .g false, .g false] [] [(2, .c (.pk 2 0)), (5, .c (.own 29 2 0 x85.2.length)), (31, .c (dat 4 eTUnit zTUnit p1.Units)), (32, cI (p1.Units.length : Int)), (33, cI x85.1), (78, cB (decide (((x85.2.set v88.At.toNat (A2_I.mk (W ((x85.2.getD v88.At.toNat zA2_I).a0 + 1)) ((x85.2.getD v88.At.toNat zA2_I).a1))).getD v88.At.toNat zA2_I).a0 > p0.Rules.Stack)))] [(2, .var (eTBoard p0) false), (29, .arr 2 x85.2.length (fF eA2_I zA2_I (x85.2.set v88.At.toNat (A2_I.mk (W ((x85.2.getD v88.At.toNat zA2_I).a0 + 1)) ((x85.2.getD v88.At.toNat zA2_I).a1)))) false)] (fun t => aI g98 (aI (And.intro c100 (by decide : 0 < 2)) (aI (nat_lt g98) (aI (rfl : ([] : List Nat) = []) (aI c101 (aI c101 (aI c101 (aI c101 (aI c101 (aI c101 (aI g98 (aI c101 (aI (And.intro c99 (by decide : 0 < 2)) (aI c101 (aI (nat_lt g98) (aI (rfl : ([] : List Nat) = []) (aI c101 (aI c101 (aI c101 (aI c101 (aI c101 (t)))))))))))))))))))))) (by kernel_rfl) ?_
                      rcases ofCond H with ⟨c102, H⟩ | ⟨c102, H⟩
                      · refine ite_t c102 (by kernel_rfl) ?_
                        refine seq_ops [] [] [(4, cB false)] [] (fun t => t) (by kernel_rfl) ?_
                        refine ends_ret ?_
                        obtain rfl := Option.some.inj H
                        exact And.intro (by simp) (And.intro rfl rfl)
                      · refine ite_f c102 (by kernel_rfl) ?_
                        refine ends_skip ?_
                        change EndsI _ _ _ _ _ _
                        refine one_ops [] [.rel 5 ((x85.2.set v88.At.toNat (A2_I.mk (W ((x85.2.getD v88.At.toNat zA2_I).a0 + 1)) ((x85.2.getD v88.At.toNat zA2_I).a1))).length), .rep 29 ((x85.2.set v88.At.toNat (A2_I.mk (W ((x85.2.getD v88.At.toNat zA2_I).a0 + 1)) ((x85.2.getD v88.At.toNat zA2_I).a1))).length) (fF eA2_I zA2_I (x85.2.set v88.At.toNat (A2_I.mk (W ((x85.2.getD v88.At.toNat zA2_I).a0 + 1)) ((x85.2.getD v88.At.toNat zA2_I).a1))))] [(2, .c (.pk 2 0)), (5, .c (.own 29 2 0 ((x85.2.set v88.At.toNat (A2_I.mk (W ((x85.2.getD v88.At.toNat zA2_I).a0 + 1)) ((x85.2.getD v88.At.toNat zA2_I).a1))).length))), (31, .c (dat 4 eTUnit zTUnit p1.Units)), (32, cI (p1.Units.length : Int)), (33, cI (W (x85.1 + 1)))] [(2, .var (eTBoard p0) false), (29, .arr 2 ((x85.2.set v88.At.toNat (A2_I.mk (W ((x85.2.getD v88.At.toNat zA2_I).a0 + 1)) ((x85.2.getD v88.At.toNat zA2_I).a1))).length) (fF eA2_I zA2_I (x85.2.set v88.At.toNat (A2_I.mk (W ((x85.2.getD v88.At.toNat zA2_I).a0 + 1)) ((x85.2.getD v88.At.toNat zA2_I).a1)))) false)] (fun t => aI (by simp : x85.2.length = (x85.2.set v88.At.toNat (A2_I.mk (W ((x85.2.getD v88.At.toNat zA2_I).a0 + 1)) ((x85.2.getD v88.At.toNat zA2_I).a1))).length) (aI (Nat.le_of_eq (by simp : (x85.2.set v88.At.toNat (A2_I.mk (W ((x85.2.getD v88.At.toNat zA2_I).a0 + 1)) ((x85.2.getD v88.At.toNat zA2_I).a1))).length = x85.2.length)) (aI (fun _ _ => rfl : ∀ i, i < (x85.2.set v88.At.toNat (A2_I.mk (W ((x85.2.getD v88.At.toNat zA2_I).a0 + 1)) ((x85.2.getD v88.At.toNat zA2_I).a1))).length → (fF eA2_I zA2_I (x85.2.set v88.At.toNat (A2_I.mk (W ((x85.2.getD v88.At.toNat zA2_I).a0 + 1)) ((x85.2.getD v88.At.toNat zA2_I).a1)))) i = (fF eA2_I zA2_I (x85.2.set v88.At.toNat (A2_I.mk (W ((x85.2.getD v88.At.toNat zA2_I).a0 + 1)) ((x85.2.getD v88.At.toNat zA2_I).a1)))) i) (t)))) (by kernel_rfl) ?_
                        obtain rfl := Option.some.inj H
                        exact And.intro rfl rfl
                  · rcases ofIte H with ⟨c103, H⟩ | ⟨c106, H⟩
                    · rcases ofCond H with ⟨c104, H⟩ | ⟨c104, H⟩
                      · refine seq_draw [.no, .nat 1, .g true, .g true, .g true, .g true, .g true, .g true, .g true, .g true, .g true, .g true, .g true, .g true, .g true] [] [(2, .c (.pk 2 0)), (5, .c (.own 29 2 0 x85.2.length)), (31, .c (dat 4 eTUnit zTUnit p1.Units)), (32, cI (p1.Units.length : Int)), (33, cI x85.1), (78, cB true)] [(2, .var (eTBoard p0) false), (29, .arr 2 x85.2.length (fF eA2_I zA2_I (x85.2.set v88.At.toNat (A2_I.mk (W ((x85.2.getD v88.At.toNat zA2_I).a0 + 1)) ((x85.2.getD v88.At.toNat zA2_I).a1)))) false)] (fun t => aI g98 (aI (And.intro c103 (by decide : 1 < 2)) (aI (nat_lt g98) (aI (rfl : ([] : List Nat) = []) (aI c104 (aI c104 (aI c104 (aI c104 (aI c104 (aI c104 (aI c104 (aI c104 (aI c104 (aI c104 (aI c104 (aI c104 (aI c104 (t)))))))))))))))))) (by kernel_rfl) ?_
                        refine ite_t (rfl : (true : Bool) = true) (by kernel_rfl) ?_
                        refine seq_ops [] [] [(4, cB false)] [] (fun t => t) (by kernel_rfl) ?_
                        refine ends_ret ?_
                        obtain rfl := Option.some.inj H
                        exact And.intro (by simp) (And.intro rfl rfl)
                      · refine seq_draw [.no, .nat 1, .g false, .g false, .g false, .g false, .g false, .g false, .no, .g false, .nat 0, .g false, .g false, .g false, .g false, .g false, .g false] [] [(2, .c (.pk 2 0)), (5, .c (.own 29 2 0 x85.2.length)), (31, .c (dat 4 eTUnit zTUnit p1.Units)), (32, cI (p1.Units.length : Int)), (33, cI x85.1), (78, cB (decide (((x85.2.set v88.At.toNat (A2_I.mk (W ((x85.2.getD v88.At.toNat zA2_I).a0 + 1)) ((x85.2.getD v88.At.toNat zA2_I).a1))).getD v88.At.toNat zA2_I).a0 > p0.Rules.Stack)))] [(2, .var (eTBoard p0) false), (29, .arr 2 x85.2.length (fF eA2_I zA2_I (x85.2.set v88.At.toNat (A2_I.mk (W ((x85.2.getD v88.At.toNat zA2_I).a0 + 1)) ((x85.2.getD v88.At.toNat zA2_I).a1)))) false)] (fun t => aI g98 (aI (And.intro c103 (by decide : 1 < 2)) (aI (nat_lt g98) (aI (rfl : ([] : List Nat) = []) (aI c104 (aI c104 (aI c104 (aI c104 (aI c104 (aI c104 (aI g98 (aI c104 (aI (And.intro c99 (by decide : 0 < 2)) (aI c104 (aI (nat_lt g98) (aI (rfl : ([] : List Nat) = []) (aI c104 (aI c104 (aI c104 (aI c104 (aI c104 (t)))))))))))))))))))))) (by kernel_rfl) ?_
                        rcases ofCond H with ⟨c105, H⟩ | ⟨c105, H⟩
                        · refine ite_t c105 (by kernel_rfl) ?_
                          refine seq_ops [] [] [(4, cB false)] [] (fun t => t) (by kernel_rfl) ?_
                          refine ends_ret ?_
                          obtain rfl := Option.some.inj H
                          exact And.intro (by simp) (And.intro rfl rfl)
                        · refine ite_f c105 (by kernel_rfl) ?_
                          refine ends_skip ?_
                          change EndsI _ _ _ _ _ _
                          refine one_ops [] [.rel 5 ((x85.2.set v88.At.toNat (A2_I.mk (W ((x85.2.getD v88.At.toNat zA2_I).a0 + 1)) ((x85.2.getD v88.At.toNat zA2_I).a1))).length), .rep 29 ((x85.2.set v88.At.toNat (A2_I.mk (W ((x85.2.getD v88.At.toNat zA2_I).a0 + 1)) ((x85.2.getD v88.At.toNat zA2_I).a1))).length) (fF eA2_I zA2_I (x85.2.set v88.At.toNat (A2_I.mk (W ((x85.2.getD v88.At.toNat zA2_I).a0 + 1)) ((x85.2.getD v88.At.toNat zA2_I).a1))))] [(2, .c (.pk 2 0)), (5, .c (.own 29 2 0 ((x85.2.set v88.At.toNat (A2_I.mk (W ((x85.2.getD v88.At.toNat zA2_I).a0 + 1)) ((x85.2.getD v88.At.toNat zA2_I).a1))).length))), (31, .c (dat 4 eTUnit zTUnit p1.Units)), (32, cI (p1.Units.length : Int)), (33, cI (W (x85.1 + 1)))] [(2, .var (eTBoard p0) false), (29, .arr 2 ((x85.2.set v88.At.toNat (A2_I.mk (W ((x85.2.getD v88.At.toNat zA2_I).a0 + 1)) ((x85.2.getD v88.At.toNat zA2_I).a1))).length) (fF eA2_I zA2_I (x85.2.set v88.At.toNat (A2_I.mk (W ((x85.2.getD v88.At.toNat zA2_I).a0 + 1)) ((x85.2.getD v88.At.toNat zA2_I).a1)))) false)] (fun t => aI (by simp : x85.2.length = (x85.2.set v88.At.toNat (A2_I.mk (W ((x85.2.getD v88.At.toNat zA2_I).a0 + 1)) ((x85.2.getD v88.At.toNat zA2_I).a1))).length) (aI (Nat.le_of_eq (by simp : (x85.2.set v88.At.toNat (A2_I.mk (W ((x85.2.getD v88.At.toNat zA2_I).a0 + 1)) ((x85.2.getD v88.At.toNat zA2_I).a1))).length = x85.2.length)) (aI (fun _ _ => rfl : ∀ i, i < (x85.2.set v88.At.toNat (A2_I.mk (W ((x85.2.getD v88.At.toNat zA2_I).a0 + 1)) ((x85.2.getD v88.At.toNat zA2_I).a1))).length → (fF eA2_I zA2_I (x85.2.set v88.At.toNat (A2_I.mk (W ((x85.2.getD v88.At.toNat zA2_I).a0 + 1)) ((x85.2.getD v88.At.toNat zA2_I).a1)))) i = (fF eA2_I zA2_I (x85.2.set v88.At.toNat (A2_I.mk (W ((x85.2.getD v88.At.toNat zA2_I).a0 + 1)) ((x85.2.getD v88.At.toNat zA2_I).a1)))) i) (t)))) (by kernel_rfl) ?_
                          obtain rfl := Option.some.inj H
                          exact And.intro rfl rfl
                    · cases H
                · rcases ofIte H with ⟨c108, H⟩ | ⟨c117, H⟩
                  · refine seq_draw [.no, .nat 1, .no, .nat 1, .fn 0 (fF eA2_I zA2_I (x85.2.set v88.At.toNat (A2_I.mk ((x85.2.getD v88.At.toNat zA2_I).a0) (W ((x85.2.getD v88.At.toNat zA2_I).a1 + 1)))))] [] [(2, .c (.pk 2 0)), (5, .c (.own 29 2 0 x85.2.length)), (7, .c (.pk 7 0)), (31, .c (dat 4 eTUnit zTUnit p1.Units)), (32, cI (p1.Units.length : Int)), (33, cI x85.1)] [(2, .var (eTBoard p0) false), (7, .var (eTUnit v88) false), (29, .arr 2 x85.2.length (fF eA2_I zA2_I (x85.2.set v88.At.toNat (A2_I.mk ((x85.2.getD v88.At.toNat zA2_I).a0) (W ((x85.2.getD v88.At.toNat zA2_I).a1 + 1))))) false)] (fun t => aI g98 (aI (And.intro c108 (by decide : 1 < 2)) (aI (nat_lt g98) (aI (rfl : ([] : List Nat) = []) (aI g98 (aI (And.intro c108 (by decide : 1 < 2)) (aI (rfl : true = true) (aI (nat_lt g98) (aI (by decide : 1 + 1 ≤ 2) (aI (fF_set eA2_I zA2_I x85.2 v88.At.toNat (A2_I.mk ((x85.2.getD v88.At.toNat zA2_I).a0) (W ((x85.2.getD v88.At.toNat zA2_I).a1 + 1))) (nat_lt g98) x85.2.length) (t))))))))))) (by kernel_rfl) ?_
                    rcases ofIte H with ⟨c109, H⟩ | ⟨c116, H⟩
                    · rcases ofCond H with ⟨c110, H⟩ | ⟨c110, H⟩
                      · refine seq_draw [.no, .nat 0, .g true, .g true, .g true, .g true, .g true, .g true, .g true, .g true, .g true, .g true, .g true, .g true, .g true] [] [(2, .c (.pk 2 0)), (5, .c (.own 29 2 0 x85.2.length)), (31, .c (dat 4 eTUnit zTUnit p1.Units)), (32, cI (p1.Units.length : Int)), (33, cI x85.1), (78, cB true)] [(2, .var (eTBoard p0) false), (29, .arr 2 x85.2.length (fF eA2_I zA2_I (x85.2.set v88.At.toNat (A2_I.mk ((x85.2.getD v88.At.toNat zA2_I).a0) (W ((x85.2.getD v88.At.toNat zA2_I).a1 + 1))))) false)] (fun t => aI g98 (aI (And.intro c109 (by decide : 0 < 2)) (aI (nat_lt g98) (aI (rfl : ([] : List Nat) = []) (aI c110 (aI c110 (aI c110 (aI c110 (aI c110 (aI c110 (aI c110 (aI c110 (aI c110 (aI c110 (aI c110 (aI c110 (aI c110 (t)))))))))))))))))) (by kernel_rfl) ?_
                        refine ite_t (rfl : (true : Bool) = true) (by kernel_rfl) ?_
                        refine seq_ops [] [] [(4, cB false)] [] (fun t => t) (by kernel_rfl) ?_
                        refine ends_ret ?_
                        obtain rfl := Option.some.inj H
                        exact And.intro (by simp) (And.intro rfl rfl)
                      · refine seq_draw [.no, .nat 0, .g false, .g false, .g false, .g false, .g false, .g false, .no, .g false, .nat 1, .g false, .g false, .g false, .g false, .g false, .g false] [] [(2, .c (.pk 2 0)), (5, .c (.own 29 2 0 x85.2.length)), (31, .c (dat 4 eTUnit zTUnit p1.Units)), (32, cI (p1.Units.length : Int)), (33, cI x85.1), (78, cB (decide (((x85.2.set v88.At.toNat (A2_I.mk ((x85.2.getD v88.At.toNat zA2_I).a0) (W ((x85.2.getD v88.At.toNat zA2_I).a1 + 1)))).getD v88.At.toNat zA2_I).a1 > p0.Rules.Stack)))] [(2, .var (eTBoard p0) false), (29, .arr 2 x85.2.length (fF eA2_I zA2_I (x85.2.set v88.At.toNat (A2_I.mk ((x85.2.getD v88.At.toNat zA2_I).a0) (W ((x85.2.getD v88.At.toNat zA2_I).a1 + 1))))) false)] (fun t => aI g98 (aI (And.intro c109 (by decide : 0 < 2)) (aI (nat_lt g98) (aI (rfl : ([] : List Nat) = []) (aI c110 (aI c110 (aI c110 (aI c110 (aI c110 (aI c110 (aI g98 (aI c110 (aI (And.intro c108 (by decide : 1 < 2)) (aI c110 (aI (nat_lt g98) (aI (rfl : ([] : List Nat) = []) (aI c110 (aI c110 (aI c110 (aI c110 (aI c110 (t)))))))))))))))))))))) (by kernel_rfl) ?_
                        rcases ofCond H with ⟨c111, H⟩ | ⟨c111, H⟩
                        · refine ite_t c111 (by kernel_rfl) ?_
                          refine seq_ops [] [] [(4, cB false)] [] (fun t => t) (by kernel_rfl) ?_
                          refine ends_ret ?_
                          obtain rfl := Option.some.inj H
                          exact And.intro (by simp) (And.intro rfl rfl)
                        · refine ite_f c111 (by kernel_rfl) ?_
                          refine ends_skip ?_
                          change EndsI _ _ _ _ _ _
                          refine one_ops [] [.rel 5 ((x85.2.set v88.At.toNat (A2_I.mk ((x85.2.getD v88.At.toNat zA2_I).a0) (W ((x85.2.getD v88.At.toNat zA2_I).a1 + 1)))).length), .rep 29 ((x85.2.set v88.At.toNat (A2_I.mk ((x85.2.getD v88.At.toNat zA2_I).a0) (W ((x85.2.getD v88.At.toNat zA2_I).a1 + 1)))).length) (fF eA2_I zA2_I (x85.2.set v88.At.toNat (A2_I.mk ((x85.2.getD v88.At.toNat zA2_I).a0) (W ((x85.2.getD v88.At.toNat zA2_I).a1 + 1)))))] [(2, .c (.pk 2 0)), (5, .c (.own 29 2 0 ((x85.2.set v88.At.toNat (A2_I.mk ((x85.2.getD v88.At.toNat zA2_I).a0) (W ((x85.2.getD v88.At.toNat zA2_I).a1 + 1)))).length))), (31, .c (dat 4 eTUnit zTUnit p1.Units)), (32, cI (p1.Units.length : Int)), (33, cI (W (x85.1 + 1)))] [(2, .var (eTBoard p0) false), (29, .arr 2 ((x85.2.set v88.At.toNat (A2_I.mk ((x85.2.getD v88.At.toNat zA2_I).a0) (W ((x85.2.getD v88.At.toNat zA2_I).a1 + 1)))).length) (fF eA2_I zA2_I (x85.2.set v88.At.toNat (A2_I.mk ((x85.2.getD v88.At.toNat zA2_I).a0) (W ((x85.2.getD v88.At.toNat zA2_I).a1 + 1))))) false)] (fun t => aI (by simp : x85.2.length = (x85.2.set v88.At.toNat (A2_I.mk ((x85.2.getD v88.At.toNat zA2_I).a0) (W ((x85.2.getD v88.At.toNat zA2_I).a1 + 1)))).length) (aI (Nat.le_of_eq (by simp : (x85.2.set v88.At.toNat (A2_I.mk ((x85.2.getD v88.At.toNat zA2_I).a0) (W ((x85.2.getD v88.At.toNat zA2_I).a1 + 1)))).length = x85.2.length)) (aI (fun _ _ => rfl : ∀ i, i < (x85.2.set v88.At.toNat (A2_I.mk ((x85.2.getD v88.At.toNat zA2_I).a0) (W ((x85.2.getD v88.At.toNat zA2_I).a1 + 1)))).length → (fF eA2_I zA2_I (x85.2.set v88.At.toNat (A2_I.mk ((x85.2.getD v88.At.toNat zA2_I).a0) (W ((x85.2.getD v88.At.toNat zA2_I).a1 + 1))))) i = (fF eA2_I zA2_I (x85.2.set v88.At.toNat (A2_I.mk ((x85.2.getD v88.At.toNat zA2_I).a0) (W ((x85.2.getD v88.At.toNat zA2_I).a1 + 1))))) i) (t)))) (by kernel_rfl) ?_
                          obtain rfl := Option.some.inj H
                          exact And.intro rfl rfl
                    · rcases ofIte H with ⟨c112, H⟩ | ⟨c115, H⟩
                      · rcases ofCond H with ⟨c113, H⟩ | ⟨c113, H⟩
                        · refine seq_draw [.no, .nat 1, .g true, .g true, .g true, .g true, .g true, .g true, .g true, .g true, .g true, .g true, .g true, .g true, .g true] [] [(2, .c (.pk 2 0)), (5, .c (.own 29 2 0 x85.2.length)), (31, .c (dat 4 eTUnit zTUnit p1.Units)), (32, cI (p1.Units.length : Int)), (33, cI x85.1), (78, cB true)] [(2, .var (eTBoard p0) false), (29, .arr 2 x85.2.length (fF eA2_I zA2_I (x85.2.set v88.At.toNat (A2_I.mk ((x85.2.getD v88.At.toNat zA2_I).a0) (W ((x85.2.getD v88.At.toNat zA2_I).a1 + 1))))) false)] (fun t => aI g98 (aI (And.intro c112 (by decide : 1 < 2)) (aI (nat_lt g98) (aI (rfl : ([] : List Nat) = []) (aI c113 (aI c113 (aI c113 (aI c113 (aI c113 (aI c113 (aI c113 (aI c113 (aI c113 (aI c113 (aI c113 (aI c113 (aI c113 (t)))))))))))))))))) (by kernel_rfl) ?_
                          refine ite_t (rfl : (true : Bool) = true) (by kernel_rfl) ?_
                          refine seq_ops [] [] [(4, cB false)] [] (fun t => t) (by kernel_rfl) ?_
                          refine ends_ret ?_
                          obtain rfl := Option.some.inj H
                          exact And.intro (by simp) (And.intro rfl rfl)
                        · refine seq_draw [.no, .nat 1, .g false, .g false, .g false, .g false, .g false, .g false, .no, .g false, .nat 1, .g false, .g false, .g false, .g false, .g false, .g false] [] [(2, .c (.pk 2 0)), (5, .c (.own 29 2 0 x85.2.length)), (31, .c (dat 4 eTUnit zTUnit p1.Units)), (32, cI (p1.Units.length : Int)), (33, cI x85.1), (78, cB (decide (((x85.2.set v88.At.toNat (A2_I.mk ((x85.2.getD v88.At.toNat zA2_I).a0) (W ((x85.2.getD v88.At.toNat zA2_I).a1 + 1)))).getD v88.At.toNat zA2_I).a1 > p0.Rules.Stack)))] [(2, .var (eTBoard p0) false), (29, .arr 2 x85.2.length (fF eA2_I zA2_I (x85.2.set v88.At.toNat (A2_I.mk ((x85.2.getD v88.At.toNat zA2_I).a0) (W ((x85.2.getD v88.At.toNat zA2_I).a1 + 1))))) false)] (fun t => aI g98 (aI (And.intro c112 (by decide : 1 < 2)) (aI (nat_lt g98) (aI (rfl : ([] : List Nat) = []) (aI c113 (aI c113 (aI c113 (aI c113 (aI c113 (aI c113 (aI g98 (aI c113 (aI (And.intro c108 (by decide : 1 < 2)) (aI c113 (aI (nat_lt g98) (aI (rfl : ([] : List Nat) = []) (aI c113 (aI c113 (aI c113 (aI c113 (aI c113 (t)))))))))))))))))))))) (by kernel_rfl) ?_
                          rcases ofCond H with ⟨c114, H⟩ | ⟨c114, H⟩
                          · refine ite_t c114 (by kernel_rfl) ?_
                            refine seq_ops [] [] [(4, cB false)] [] (fun t => t) (by kernel_rfl) ?_
                            refine ends_ret ?_
                            obtain rfl := Option.some.inj H
                            exact And.intro (by simp) (And.intro rfl rfl)
                          · refine ite_f c114 (by kernel_rfl) ?_
                            refine ends_skip ?_
                            change EndsI _ _ _ _ _ _
                            refine one_ops [] [.rel 5 ((x85.2.set v88.At.toNat (A2_I.mk ((x85.2.getD v88.At.toNat zA2_I).a0) (W ((x85.2.getD v88.At.toNat zA2_I).a1 + 1)))).length), .rep 29 ((x85.2.set v88.At.toNat (A2_I.mk ((x85.2.getD v88.At.toNat zA2_I).a0) (W ((x85.2.getD v88.At.toNat zA2_I).a1 + 1)))).length) (fF eA2_I zA2_I (x85.2.set v88.At.toNat (A2_I.mk ((x85.2.getD v88.At.toNat zA2_I).a0) (W ((x85.2.getD v88.At.toNat zA2_I).a1 + 1)))))] [(2, .c (.pk 2 0)), (5, .c (.own 29 2 0 ((x85.2.set v88.At.toNat (A2_I.mk ((x85.2.getD v88.At.toNat zA2_I).a0) (W ((x85.2.getD v88.At.toNat zA2_I).a1 + 1)))).length))), (31, .c (dat 4 eTUnit zTUnit p1.Units)), (32, cI (p1.Units.length : Int)), (33, cI (W (x85.1 + 1)))] [(2, .var (eTBoard p0) false), (29, .arr 2 ((x85.2.set v88.At.toNat (A2_I.mk ((x85.2.getD v88.At.toNat zA2_I).a0) (W ((x85.2.getD v88.At.toNat zA2_I).a1 + 1)))).length) (fF eA2_I zA2_I (x85.2.set v88.At.toNat (A2_I.mk ((x85.2.getD v88.At.toNat zA2_I).a0) (W ((x85.2.getD v88.At.toNat zA2_I).a1 + 1))))) false)] (fun t => aI (by simp : x85.2.length = (x85.2.set v88.At.toNat (A2_I.mk ((x85.2.getD v88.At.toNat zA2_I).a0) (W ((x85.2.getD v88.At.toNat zA2_I).a1 + 1)))).length) (aI (Nat.le_of_eq (by simp : (x85.2.set v88.At.toNat (A2_I.mk ((x85.2.getD v88.At.toNat zA2_I).a0) (W ((x85.2.getD v88.At.toNat zA2_I).a1 + 1)))).length = x85.2.length)) (aI (fun _ _ => rfl : ∀ i, i < (x85.2.set v88.At.toNat (A2_I.mk ((x85.2.getD v88.At.toNat zA2_I).a0) (W ((x85.2.getD v88.At.toNat zA2_I).a1 + 1)))).length → (fF eA2_I zA2_I (x85.2.set v88.At.toNat (A2_I.mk ((x85.2.getD v88.At.toNat zA2_I).a0) (W ((x85.2.getD v88.At.toNat zA2_I).a1 + 1))))) i = (fF eA2_I zA2_I (x85.2.set v88.At.toNat (A2_I.mk ((x85.2.getD v88.At.toNat zA2_I).a0) (W ((x85.2.getD v88.At.toNat zA2_I).a1 + 1))))) i) (t)))) (by kernel_rfl) ?_
                            obtain rfl := Option.some.inj H
                            exact And.intro rfl rfl
                      · cases H
                  · cases H
          · refine ite_f c87 (by kernel_rfl) ?_
            refine tell [] [] [] (fun t => t) (by kernel_rfl) ?_
            refine ends_exit ?_
            obtain rfl := Option.some.inj H
            exact And.intro (by simp) (And.intro rfl rfl)
        · clear h120
          cases y119 with
          | inl y121 =>
            replace H := ofInl H
            intro e s q
            obtain ⟨rfl, rfl⟩ := q
            change EndsI _ _ _ _ _ _
            refine seq_ops [] [] [(4, cB true)] [] (fun t => t) (by kernel_rfl) ?_
            refine ends_ret ?_
            obtain rfl := Option.some.inj H
            exact And.intro (.inl rfl) rfl
          | inr y122 =>
            replace H := ofInr H
            intro e s q
            obtain ⟨rfl, rfl⟩ := q
            obtain rfl := Option.some.inj H
            exact And.intro (.inl rfl) rfl

def i_fits_ir : S :=
 (.seq (.ops [⟨some 2, .box 12 (.t 0), none⟩, ⟨some 3, .box 3 (.t 1), none⟩, ⟨some 4, .mv (.v (.bool false)), none⟩])
 (.seq (.ops [⟨some 5, .load 12 true (.t 2), none⟩, ⟨some 6, .call 110 [.t 5], none⟩, ⟨some 7, .mv (.t 6), none⟩, ⟨some 8, .load 12 true (.t 2), some (7, true)⟩, ⟨some 9, .load 3 true (.t 3), some (7, true)⟩, ⟨some 10, .call 177 [.t 8, .t 9], some (7, true)⟩, ⟨some 11, .pick (.t 7) (.t 10) (.v (.bool false)), none⟩, ⟨some 4, .mv (.t 11), none⟩])
 .ret))
noncomputable def X.i_fits (p0 : TBoard) (p1 : TState) : Option Bool :=
  ((X.i_IsBoard p0).bind fun v1 => (bif v1 then ((X.i_goodState p0 p1).bind fun v4 => some v4) else some false))
theorem i_fits_ok (p0 : TBoard) (p1 : TState) (r : Bool) (H : X.i_fits p0 p1 = some r) : FnOk Tryz.prog gl 151 [.agg (eTBoard p0), .agg (eTState p1)] (cB r) := by
  unfold X.i_fits at H
  refine fn_in (fn := Tryz.f151) (ir := i_fits_ir) (s1 := lit [(4, cB r)] []) Tryz.func151 (by kernel_rfl) (by kernel_rfl) (by kernel_rfl) (by kernel_rfl) (by kernel_rfl) ?_
  refine seq_ops [] [] [(2, .c (.pk 2 0)), (3, .c (.pk 3 0))] [(2, .var (eTBoard p0) false), (3, .var (eTState p1) false)] (fun t => t) (by kernel_rfl) ?_
  obtain ⟨v1, h2, H⟩ := ofBind H
  rcases ofCond H with ⟨c3, H⟩ | ⟨c3, H⟩
  · obtain ⟨v4, h5, H⟩ := ofBind H
    refine seq_ops [.res (cB v1), .g true, .g true, .g true, .res (cB v4), .g true] [] [(4, cB v4)] [] (fun t => aI (i_IsBoard_ok p0 v1 h2) (aI c3 (aI c3 (aI c3 (aI (i_goodState_ok p0 p1 v4 h5) (aI c3 (t))))))) (by kernel_rfl) ?_
    refine ends_ret ?_
    obtain rfl := Option.some.inj H
    exact And.intro (.inl rfl) rfl
  · refine seq_ops [.res (cB v1), .g false, .g false, .g false, .g false] [] [(4, cB false)] [] (fun t => aI (i_IsBoard_ok p0 v1 h2) (aI c3 (aI c3 (aI c3 (aI c3 (t)))))) (by kernel_rfl) ?_
    refine ends_ret ?_
    obtain rfl := Option.some.inj H
    exact And.intro (.inl rfl) rfl

def i_isLook_ir : S :=
 (.seq (.ops [⟨some 3, .box 12 (.t 0), none⟩, ⟨some 4, .box 3 (.t 1), none⟩, ⟨some 6, .mv (.v (.bool false)), none⟩])
 (.seq (.ops [⟨some 7, .load 12 true (.t 3), none⟩, ⟨some 8, .load 3 true (.t 4), none⟩, ⟨some 9, .call 151 [.t 7, .t 8], none⟩, ⟨some 10, .mv (.t 9), none⟩, ⟨some 11, .mv (.t 2), some (10, true)⟩, ⟨some 12, .call 127 [.t 11], some (10, true)⟩, ⟨some 13, .pick (.t 10) (.t 12) (.v (.bool false)), none⟩, ⟨some 6, .mv (.t 13), none⟩])
 .ret))
noncomputable def X.i_isLook (p0 : TBoard) (p1 : TState) (p2 : Int) : Option Bool :=
  ((X.i_fits p0 p1).bind fun v1 => (bif v1 then ((X.i_isSide p2).bind fun v4 => some v4) else some false))
theorem i_isLook_ok (p0 : TBoard) (p1 : TState) (p2 : Int) (r : Bool) (H : X.i_isLook p0 p1 p2 = some r) : FnOk Tryz.prog gl 99 [.agg (eTBoard p0), .agg (eTState p1), cI p2] (cB r) := by
  unfold X.i_isLook at H
  refine fn_in (fn := Tryz.f99) (ir := i_isLook_ir) (s1 := lit [(6, cB r)] []) Tryz.func99 (by kernel_rfl) (by kernel_rfl) (by kernel_rfl) (by kernel_rfl) (by kernel_rfl) ?_
  refine seq_ops [] [] [(2, cI p2), (3, .c (.pk 3 0)), (4, .c (.pk 4 0))] [(3, .var (eTBoard p0) false), (4, .var (eTState p1) false)] (fun t => t) (by kernel_rfl) ?_
  obtain ⟨v1, h2, H⟩ := ofBind H
  rcases ofCond H with ⟨c3, H⟩ | ⟨c3, H⟩
  · obtain ⟨v4, h5, H⟩ := ofBind H
    refine seq_ops [.res (cB v1), .g true, .g true, .res (cB v4), .g true] [] [(6, cB v4)] [] (fun t => aI (i_fits_ok p0 p1 v1 h2) (aI c3 (aI c3 (aI (i_isSide_ok p2 v4 h5) (aI c3 (t)))))) (by kernel_rfl) ?_
    refine ends_ret ?_
    obtain rfl := Option.some.inj H
    exact And.intro (.inl rfl) rfl
  · refine seq_ops [.res (cB v1), .g false, .g false, .g false] [] [(6, cB false)] [] (fun t => aI (i_fits_ok p0 p1 v1 h2) (aI c3 (aI c3 (aI c3 (t))))) (by kernel_rfl) ?_
    refine ends_ret ?_
    obtain rfl := Option.some.inj H
    exact And.intro (.inl rfl) rfl

def i_areSources_1_ir : S :=
 (.seq (.ops [⟨some 3, .mv (.v (.bool false)), none⟩])
 (.seq (.ops [⟨some 4, .mv (.t 0), none⟩, ⟨some 5, .load 12 true (.t 1), none⟩, ⟨some 6, .call 91 [.t 5], none⟩, ⟨some 7, .call 90 [.t 4, .t 6], none⟩, ⟨some 8, .not (.t 7), none⟩, ⟨some 3, .mv (.t 8), none⟩])
 .ret))
noncomputable def X.i_areSources_1 (p0 : Int) (p1 : TBoard) : Option Bool :=
  ((X.i_sizeOf p1).bind fun v1 => ((X.i_isIndex p0 v1).bind fun v3 => some (!v3)))
theorem i_areSources_1_ok (p0 : Int) (p1 : TBoard) (r : Bool) (H : X.i_areSources_1 p0 p1 = some r) : FnOk Tryz.prog gl 190 [cI p0, .c (.pd (eTBoard p1) 0)] (cB r) := by
  unfold X.i_areSources_1 at H
  refine fn_in (fn := Tryz.f190) (ir := i_areSources_1_ir) (s1 := lit [(3, cB r)] []) Tryz.func190 (by kernel_rfl) (by kernel_rfl) (by kernel_rfl) (by kernel_rfl) (by kernel_rfl) ?_
  refine seq_ops [] [] [(0, cI p0), (1, .c (.pd (eTBoard p1) 0))] [] (fun t => t) (by kernel_rfl) ?_
  obtain ⟨v1, h2, H⟩ := ofBind H
  obtain ⟨v3, h4, H⟩ := ofBind H
  refine seq_ops [.res (cI v1), .res (cB v3)] [] [(3, cB (!v3))] [] (fun t => aI (i_sizeOf_ok p1 v1 h2) (aI (i_isIndex_ok p0 v1 v3 h4) (t))) (by kernel_rfl) ?_
  refine ends_ret ?_
  obtain rfl := Option.some.inj H
  exact And.intro (.inl rfl) rfl

def i_areSources_ir : S :=
 (.seq (.ops [⟨some 2, .box 12 (.t 0), none⟩, ⟨some 4, .mv (.v (.bool false)), none⟩])
 (.seq (.ops [⟨some 5, .mv (.t 1), none⟩, ⟨some 6, .len (.t 5), none⟩, ⟨some 7, .bin .leq (.t 6) (.v (.int .i64 6)), none⟩, ⟨some 8, .mv (.t 7), none⟩, ⟨some 9, .mv (.t 1), some (8, true)⟩, ⟨some 10, .call 189 [.t 9], some (8, true)⟩, ⟨some 11, .pick (.t 8) (.t 10) (.v (.bool false)), none⟩, ⟨some 12, .mv (.t 11), none⟩, ⟨some 13, .mv (.t 1), some (12, true)⟩, ⟨some 14, .clo 190 [.t 2], some (12, true)⟩, ⟨some 15, .call 175 [.t 13, .t 14], some (12, true)⟩, ⟨some 16, .not (.t 15), some (12, true)⟩, ⟨some 17, .pick (.t 12) (.t 16) (.v (.bool false)), none⟩, ⟨some 4, .mv (.t 17), none⟩])
 .ret))
noncomputable def X.i_areSources (p0 : TBoard) (p1 : (List Int)) : Option Bool :=
  (bif (decide ((p1.length : Int) ≤ 6)) then ((X.i_increasing p1).bind fun v2 => (bif v2 then ((X.g_ContainsFunc_int p1 (fun q0 => X.i_areSources_1 q0 p0)).bind fun v5 => some (!v5)) else some false)) else some false)
theorem i_areSources_ok (p0 : TBoard) (p1 : (List Int)) (r : Bool) (H : X.i_areSources p0 p1 = some r) : FnOk Tryz.prog gl 122 [.agg (eTBoard p0), .c (dat 1 eI zI p1)] (cB r) := by
  unfold X.i_areSources at H
  refine fn_in (fn := Tryz.f122) (ir := i_areSources_ir) (s1 := lit [(4, cB r)] []) Tryz.func122 (by kernel_rfl) (by kernel_rfl) (by kernel_rfl) (by kernel_rfl) (by kernel_rfl) ?_
  refine seq_ops [] [] [(1, .c (dat 1 eI zI p1)), (2, .c (.pk 2 0))] [(2, .var (eTBoard p0) false)] (fun t => t) (by kernel_rfl) ?_
  rcases ofCond H with ⟨c1, H⟩ | ⟨c1, H⟩
  · obtain ⟨v2, h3, H⟩ := ofBind H
    rcases ofCond H with ⟨c4, H⟩ | ⟨c4, H⟩
    · obtain ⟨v5, h6, H⟩ := ofBind H
      refine seq_ops [.g true, .g true, .res (cB v2), .g true, .g true, .g true, .g true, .res (cB v5), .g true, .g true] [] [(4, cB (!v5))] [] (fun t => lI p1 (aI c1 (aI c1 (aI (i_increasing_ok p1 v2 h3) (aI c1 (aI c4 (aI c4 (aI c4 (aI (g_ContainsFunc_int_c1_ok p1 (190) (eTBoard p0) (fun q0 => X.i_areSources_1 q0 p0) (fun q0 r h => i_areSources_1_ok q0 p0 r h) v5 h6) (aI c4 (aI c4 (t)))))))))))) (by kernel_rfl) ?_
      refine ends_ret ?_
      obtain rfl := Option.some.inj H
      exact And.intro (.inl rfl) rfl
    · refine seq_ops [.g true, .g true, .res (cB v2), .g true, .g false, .g false, .g false, .g false, .g false] [] [(4, cB false)] [] (fun t => lI p1 (aI c1 (aI c1 (aI (i_increasing_ok p1 v2 h3) (aI c1 (aI c4 (aI c4 (aI c4 (aI c4 (aI c4 (t))))))))))) (by kernel_rfl) ?_
      refine ends_ret ?_
      obtain rfl := Option.some.inj H
      exact And.intro (.inl rfl) rfl
  · refine seq_ops [.g false, .g false, .g false, .g false, .g false, .g false, .g false, .g false] [] [(4, cB false)] [] (fun t => lI p1 (aI c1 (aI c1 (aI c1 (aI (rfl : (false : Bool) = false) (aI (rfl : (false : Bool) = false) (aI (rfl : (false : Bool) = false) (aI (rfl : (false : Bool) = false) (aI (rfl : (false : Bool) = false) (t)))))))))) (by kernel_rfl) ?_
    refine ends_ret ?_
    obtain rfl := Option.some.inj H
    exact And.intro (.inl rfl) rfl

def i_forceOf_ir : S :=
 (.seq (.ops [⟨some 2, .box 12 (.t 0), none⟩, ⟨some 3, .box 4 (.t 1), none⟩, ⟨some 4, .mv (.v (.int .i64 0)), none⟩])
 (.seq (.draw 12 [⟨some 5, .fad 0 (.t 2), none⟩, ⟨some 6, .fad 1 (.t 5), none⟩, ⟨some 7, .load 1 false (.t 6), none⟩, ⟨some 8, .fad 1 (.t 3), none⟩, ⟨some 9, .load 1 false (.t 8), none⟩, ⟨some 10, .iad 6 (.t 7) (.t 9), none⟩, ⟨some 11, .fad 1 (.t 10), none⟩, ⟨some 12, .load 1 false (.t 11), none⟩, ⟨some 13, .fad 3 (.t 3), none⟩, ⟨some 14, .load 1 false (.t 13), none⟩, ⟨some 15, .bin .mul (.t 12) (.t 14), none⟩, ⟨some 4, .mv (.t 15), none⟩])
 .ret))
noncomputable def X.i_forceOf (p0 : TBoard) (p1 : TUnit) : Option Int :=
  ((at' zTKind p0.Rules.Kinds p1.Kind).bind fun v1 => some (W (v1.Strength * p1.Steps)))
theorem i_forceOf_ok (p0 : TBoard) (p1 : TUnit) (r : Int) (H : X.i_forceOf p0 p1 = some r) : FnOk Tryz.prog gl 186 [.agg (eTBoard p0), .agg (eTUnit p1)] (cI r) := by
  unfold X.i_forceOf at H
  refine fn_in (fn := Tryz.f186) (ir := i_forceOf_ir) (s1 := lit [(4, cI r)] []) Tryz.func186 (by kernel_rfl) (by kernel_rfl) (by kernel_rfl) (by kernel_rfl) (by kernel_rfl) ?_
  refine seq_ops [] [] [(2, .c (.pk 2 0)), (3, .c (.pk 3 0))] [(2, .var (eTBoard p0) false), (3, .var (eTUnit p1) false)] (fun t => t) (by kernel_rfl) ?_
  obtain ⟨v1, h2, H⟩ := ofBind H
  refine seq_draw [.cs (eTKind v1)] [] [(4, cI (W (v1.Strength * p1.Steps)))] [] (fun t => aI (at_lt h2) (aI (at_enc (enc := eTKind) h2) (aI (rfl : ([] : List Nat) = []) (t)))) (by kernel_rfl) ?_
  refine ends_ret ?_
  obtain rfl := Option.some.inj H
  exact And.intro (.inl rfl) rfl

def i_neighboursOn_ir : S :=
 (.seq (.ops [⟨some 2, .box 5 (.t 0), none⟩, ⟨some 4, .mv (.v (.nil)), none⟩])
 (.seq (.ops [⟨some 8, .bsl 1 [], none⟩, ⟨some 5, .mv (.t 8), none⟩])
 (.seq (.seq (.ops [⟨some 9, .mv (.v (.int .i64 0)), none⟩])
 (.blk 0 (.loop (.seq (.ops [⟨some 10, .bin .lss (.t 9) (.v (.int .i64 6)), none⟩])
   (.seq (.ite (.t 10) .skip
   (.exit 0))
   (.seq (.blk 1 (.seq (.ops [⟨some 11, .mv (.t 9), none⟩, ⟨some 6, .mv (.t 11), none⟩])
    (.seq (.ops [⟨some 12, .load 5 true (.t 2), none⟩, ⟨some 13, .mv (.t 1), none⟩, ⟨some 14, .mv (.t 6), none⟩, ⟨some 15, .call 158 [.t 12, .t 13, .t 14], none⟩, ⟨some 7, .mv (.t 15), none⟩])
    (.seq (.ops [⟨some 16, .mv (.t 7), none⟩, ⟨some 17, .bin .geq (.t 16) (.v (.int .i64 0)), none⟩])
    (.ite (.t 17) (.ops [⟨some 18, .mv (.t 5), none⟩, ⟨some 19, .mv (.t 7), none⟩, ⟨some 20, .bsl 1 [.t 19], none⟩, ⟨some 21, .app 1 8 (.t 18) (.t 20), none⟩, ⟨some 5, .mv (.t 21), none⟩])
    .skip)))))
   (.ops [⟨some 22, .bin .add (.t 9) (.v (.int .i64 1)), none⟩, ⟨some 9, .mv (.t 22), none⟩])))))))
 (.seq (.ops [⟨some 23, .mv (.t 5), none⟩, ⟨some 4, .mv (.t 23), none⟩])
 .ret))))
noncomputable def X.i_neighboursOn (p0 : TMap) (p1 : Int) : Option (List Int) :=
  ((loop (fun (x14 : (Int × (List Int))) => ((bif (decide (x14.1 < 6)) then ((X.i_nextTo p0 p1 x14.1).bind fun v17 => (bif (decide (v17 ≥ 0)) then (if (x14.2 ++ ([v17] : List Int)).length ≤ LIM then some (Sum.inl ((W (x14.1 + 1)), (x14.2 ++ ([v17] : List Int)))) else none) else some (Sum.inl ((W (x14.1 + 1)), x14.2)))) else some (Sum.inr x14.2)) : Option ((Int × (List Int)) ⊕ (List Int)))) (0, ([] : List Int))).bind fun y21 => some y21)
theorem i_neighboursOn_ok (p0 : TMap) (p1 : Int) (r : (List Int)) (H : X.i_neighboursOn p0 p1 = some r) : FnOk Tryz.prog gl 92 [.agg (eTMap p0), cI p1] (.c (dat 1 eI zI r)) := by
  unfold X.i_neighboursOn at H
  refine fn_in (fn := Tryz.f92) (ir := i_neighboursOn_ir) (s1 := lit [(4, .c (dat 1 eI zI r))] []) Tryz.func92 (by kernel_rfl) (by kernel_rfl) (by kernel_rfl) (by kernel_rfl) (by kernel_rfl) ?_
  refine seq_ops [] [] [(1, cI p1), (2, .c (.pk 2 0))] [(2, .var (eTMap p0) false)] (fun t => t) (by kernel_rfl) ?_
  refine seq_ops [.fn ([] : List Int).length (fF eI zI ([] : List Int))] [] [(1, cI p1), (2, .c (.pk 2 0)), (5, .c (.own 8 1 0 (([] : List Int).length)))] [(2, .var (eTMap p0) false), (8, .arr 1 (([] : List Int).length) (fF eI zI ([] : List Int)) false)] (fun t => aI (rfl : ([] : List Int).length = 0) (aI (fF_lit eI zI ([] : List Int)) (t))) (by kernel_rfl) ?_
  refine seq_in ?_
  refine seq_ops [] [] [(1, cI p1), (2, .c (.pk 2 0)), (5, .c (.own 8 1 0 (([] : List Int).length))), (9, cI 0)] [(2, .var (eTMap p0) false), (8, .arr 1 (([] : List Int).length) (fF eI zI ([] : List Int)) false)] (fun t => t) (by kernel_rfl) ?_
  refine ends_blk ?_
  obtain ⟨y21, h22, H⟩ := ofBind H
  refine tell [.ren 8 1001] [(1, cI p1), (2, .c (.pk 2 0)), (5, .c (.own 1001 1 0 (([] : List Int).length))), (9, cI 0)] [(2, .var (eTMap p0) false), (1001, .arr 1 (([] : List Int).length) (fF eI zI ([] : List Int)) false)] (fun t => t) (by kernel_rfl) ?_
  refine loop_in (fun (x : (Int × (List Int))) => lit [(1, cI p1), (2, .c (.pk 2 0)), (5, .c (.own 1001 1 0 x.2.length)), (9, cI x.1)] [(2, .var (eTMap p0) false), (1001, .arr 1 x.2.length (fF eI zI x.2) false)]) (fun (z : (List Int)) => At (.exit 0) (lit [(5, .c (.own 1001 1 0 z.length))] [(1001, .arr 1 z.length (fF eI zI z) false)])) h22 ?_ ?_
  · clear H h22
    intro x14 y0 H
    refine seq_ops [] [] [(1, cI p1), (2, .c (.pk 2 0)), (5, .c (.own 1001 1 0 x14.2.length)), (9, cI x14.1), (10, cB (decide (x14.1 < 6)))] [(2, .var (eTMap p0) false), (1001, .arr 1 x14.2.length (fF eI zI x14.2) false)] (fun t => t) (by kernel_rfl) ?_
    refine seq_in ?_
    rcases ofCond H with ⟨c16, H⟩ | ⟨c16, H⟩
    · refine ite_t c16 (by kernel_rfl) ?_
      refine ends_skip ?_
      change EndsI _ _ _ _ _ _
      refine seq_in ?_
      refine ends_blk ?_
      refine seq_ops [] [] [(1, cI p1), (2, .c (.pk 2 0)), (5, .c (.own 1001 1 0 x14.2.length)), (6, cI x14.1), (9, cI x14.1)] [(2, .var (eTMap p0) false), (1001, .arr 1 x14.2.length (fF eI zI x14.2) false)] (fun t => t) (by kernel_rfl) ?_
      obtain ⟨v17, h18, H⟩ := ofBind H
      refine seq_ops [.res (cI v17)] [] [(1, cI p1), (2, .c (.pk 2 0)), (5, .c (.own 1001 1 0 x14.2.length)), (7, cI v17), (9, cI x14.1)] [(2, .var (eTMap p0) false), (1001, .arr 1 x14.2.length (fF eI zI x14.2) false)] (fun t => aI (i_nextTo_ok p0 p1 x14.1 v17 h18) (t)) (by kernel_rfl) ?_
      refine seq_ops [] [] [(1, cI p1), (2, .c (.pk 2 0)), (5, .c (.own 1001 1 0 x14.2.length)), (7, cI v17), (9, cI x14.1), (17, cB (decide (v17 ≥ 0)))] [(2, .var (eTMap p0) false), (1001, .arr 1 x14.2.length (fF eI zI x14.2) false)] (fun t => t) (by kernel_rfl) ?_
      rcases ofCond H with ⟨c19, H⟩ | ⟨c19, H⟩
      · refine ite_t c19 (by kernel_rfl) ?_
        obtain ⟨g20, H⟩ := ofIf H
        refine one_ops [.fn ([v17] : List Int).length (fF eI zI ([v17] : List Int)), .fn (x14.2 ++ ([v17] : List Int)).length (fF eI zI (x14.2 ++ ([v17] : List Int)))] [] [(1, cI p1), (2, .c (.pk 2 0)), (5, .c (.own 21 1 0 ((x14.2 ++ ([v17] : List Int)).length))), (9, cI x14.1)] [(2, .var (eTMap p0) false), (21, .arr 1 ((x14.2 ++ ([v17] : List Int)).length) (fF eI zI (x14.2 ++ ([v17] : List Int))) false)] (fun t => aI (rfl : ([v17] : List Int).length = 1) (aI (fF_lit eI zI ([v17] : List Int)) (aI (And.intro (Nat.le_refl x14.2.length) (And.intro (@List.length_append _ x14.2 ([v17] : List Int)) g20)) (aI (fF_appL eI zI x14.2 ([v17] : List Int)) (aI (fF_appR eI zI x14.2 ([v17] : List Int)) (t)))))) (by kernel_rfl) ?_
        change EndsI _ _ _ _ _ _
        refine one_ops [] [.ren 21 1001] [(1, cI p1), (2, .c (.pk 2 0)), (5, .c (.own 1001 1 0 ((x14.2 ++ ([v17] : List Int)).length))), (9, cI (W (x14.1 + 1)))] [(2, .var (eTMap p0) false), (1001, .arr 1 ((x14.2 ++ ([v17] : List Int)).length) (fF eI zI (x14.2 ++ ([v17] : List Int))) false)] (fun t => t) (by kernel_rfl) ?_
        obtain rfl := Option.some.inj H
        exact And.intro rfl rfl
      · refine ite_f c19 (by kernel_rfl) ?_
        refine ends_skip ?_
        change EndsI _ _ _ _ _ _
        refine one_ops [] [] [(1, cI p1), (2, .c (.pk 2 0)), (5, .c (.own 1001 1 0 x14.2.length)), (9, cI (W (x14.1 + 1)))] [(2, .var (eTMap p0) false), (1001, .arr 1 x14.2.length (fF eI zI x14.2) false)] (fun t => t) (by kernel_rfl) ?_
        obtain rfl := Option.some.inj H
        exact And.intro rfl rfl
    · refine ite_f c16 (by kernel_rfl) ?_
      refine tell [] [(5, .c (.own 1001 1 0 x14.2.length))] [(1001, .arr 1 x14.2.length (fF eI zI x14.2) false)] (fun t => t) (by kernel_rfl) ?_
      refine ends_exit ?_
      obtain rfl := Option.some.inj H
      exact And.intro (by simp) (And.intro rfl rfl)
  · clear h22
    intro e s q
    obtain ⟨rfl, rfl⟩ := q
    change EndsI _ _ _ _ _ _
    refine seq_ops [] [] [(4, .c (.own 1001 1 0 y21.length))] [(1001, .arr 1 y21.length (fF eI zI y21) false)] (fun t => t) (by kernel_rfl) ?_
    refine tell [.frz 4] [(4, .c (dat 1 eI zI y21))] [] (fun t => aI (Nat.le_refl y21.length) (t)) (by kernel_rfl) ?_
    refine ends_ret ?_
    obtain rfl := Option.some.inj H
    exact And.intro (.inl rfl) rfl

def i_spread_ir : S :=
 (.seq (.ops [⟨some 3, .box 5 (.t 0), none⟩, ⟨some 6, .mv (.v (.nil)), none⟩])
 (.seq (.ops [⟨some 15, .mv (.t 1), none⟩, ⟨some 16, .len (.t 15), none⟩, ⟨some 17, .msl 1 8 [.int .i64 0] (.t 16), none⟩, ⟨some 18, .bsl 1 [], none⟩, ⟨some 7, .mv (.t 17), none⟩, ⟨some 8, .mv (.t 18), none⟩])
 (.seq (.seq (.ops [⟨some 19, .mv (.t 7), none⟩, ⟨some 20, .len (.t 19), none⟩, ⟨some 21, .mv (.v (.int .i64 0)), none⟩])
 (.blk 0 (.loop (.seq (.ops [⟨some 22, .bin .lss (.t 21) (.t 20), none⟩])
   (.seq (.ite (.t 22) .skip
   (.exit 0))
   (.seq (.blk 1 (.seq (.ops [⟨some 23, .mv (.t 21), none⟩, ⟨some 9, .mv (.t 23), none⟩])
    (.ops [⟨some 24, .mv (.t 7), none⟩, ⟨some 25, .mv (.t 9), none⟩, ⟨some 26, .iad 1 (.t 24) (.t 25), none⟩, ⟨none, .store 1 (.t 26) (.v (.int .i64 (-1))), none⟩])))
   (.ops [⟨some 27, .bin .add (.t 21) (.v (.int .i64 1)), none⟩, ⟨some 21, .mv (.t 27), none⟩])))))))
 (.seq (.seq (.ops [⟨some 28, .mv (.t 2), none⟩, ⟨some 29, .len (.t 28), none⟩, ⟨some 30, .mv (.v (.int .i64 0)), none⟩])
 (.blk 2 (.loop (.seq (.ops [⟨some 31, .bin .lss (.t 30) (.t 29), none⟩])
   (.seq (.ite (.t 31) .skip
   (.exit 2))
   (.seq (.blk 3 (.seq (.ops [⟨some 32, .iad 1 (.t 28) (.t 30), none⟩, ⟨some 33, .load 1 false (.t 32), none⟩, ⟨some 11, .mv (.t 33), none⟩])
    (.seq (.ops [⟨some 34, .mv (.t 1), none⟩, ⟨some 35, .mv (.t 11), none⟩, ⟨some 36, .iad 1 (.t 34) (.t 35), none⟩, ⟨some 37, .load 1 false (.t 36), none⟩])
    (.ite (.t 37) (.seq (.ops [⟨some 38, .mv (.t 7), none⟩, ⟨some 39, .mv (.t 11), none⟩, ⟨some 40, .iad 1 (.t 38) (.t 39), none⟩, ⟨none, .store 1 (.t 40) (.v (.int .i64 0)), none⟩])
     (.ops [⟨some 41, .mv (.t 8), none⟩, ⟨some 42, .mv (.t 11), none⟩, ⟨some 43, .bsl 1 [.t 42], none⟩, ⟨some 44, .app 1 8 (.t 41) (.t 43), none⟩, ⟨some 8, .mv (.t 44), none⟩]))
    .skip))))
   (.ops [⟨some 45, .bin .add (.t 30) (.v (.int .i64 1)), none⟩, ⟨some 30, .mv (.t 45), none⟩])))))))
 (.seq (.seq (.ops [⟨some 12, .mv (.v (.int .i64 0)), none⟩])
 (.blk 4 (.loop (.seq (.seq (.ops [⟨some 46, .mv (.t 12), none⟩, ⟨some 47, .mv (.t 8), none⟩, ⟨some 48, .len (.t 47), none⟩, ⟨some 49, .bin .lss (.t 46) (.t 48), none⟩])
   (.ite (.t 49) .skip
   (.exit 4)))
   (.seq (.blk 5 (.seq (.draw 8 [⟨some 52, .load 5 true (.t 3), none⟩, ⟨some 53, .mv (.t 8), none⟩, ⟨some 54, .mv (.t 12), none⟩, ⟨some 55, .iad 1 (.t 53) (.t 54), none⟩, ⟨some 56, .load 1 false (.t 55), none⟩, ⟨some 57, .call 92 [.t 52, .t 56], none⟩, ⟨some 58, .len (.t 57), none⟩, ⟨some 59, .mv (.v (.int .i64 0)), none⟩])
    (.blk 6 (.loop (.seq (.ops [⟨some 60, .bin .lss (.t 59) (.t 58), none⟩])
      (.seq (.ite (.t 60) .skip
      (.exit 6))
      (.seq (.blk 7 (.seq (.ops [⟨some 61, .iad 1 (.t 57) (.t 59), none⟩, ⟨some 62, .load 1 false (.t 61), none⟩, ⟨some 14, .mv (.t 62), none⟩])
       (.seq (.ops [⟨some 63, .mv (.t 1), none⟩, ⟨some 64, .mv (.t 14), none⟩, ⟨some 65, .iad 1 (.t 63) (.t 64), none⟩, ⟨some 66, .load 1 false (.t 65), none⟩, ⟨some 67, .mv (.t 66), none⟩, ⟨some 68, .mv (.t 7), some (67, true)⟩, ⟨some 69, .mv (.t 14), some (67, true)⟩, ⟨some 70, .iad 1 (.t 68) (.t 69), some (67, true)⟩, ⟨some 71, .load 1 false (.t 70), some (67, true)⟩, ⟨some 72, .bin .lss (.t 71) (.v (.int .i64 0)), some (67, true)⟩, ⟨some 73, .pick (.t 67) (.t 72) (.v (.bool false)), none⟩])
       (.ite (.t 73) (.seq (.ops [⟨some 74, .mv (.t 7), none⟩, ⟨some 75, .mv (.t 14), none⟩, ⟨some 76, .mv (.t 7), none⟩, ⟨some 77, .mv (.t 8), none⟩, ⟨some 78, .mv (.t 12), none⟩, ⟨some 79, .iad 1 (.t 77) (.t 78), none⟩, ⟨some 80, .load 1 false (.t 79), none⟩, ⟨some 81, .iad 1 (.t 76) (.t 80), none⟩, ⟨some 82, .load 1 false (.t 81), none⟩, ⟨some 83, .bin .add (.t 82) (.v (.int .i64 1)), none⟩, ⟨some 84, .iad 1 (.t 74) (.t 75), none⟩, ⟨none, .store 1 (.t 84) (.t 83), none⟩])
        (.ops [⟨some 85, .mv (.t 8), none⟩, ⟨some 86, .mv (.t 14), none⟩, ⟨some 87, .bsl 1 [.t 86], none⟩, ⟨some 88, .app 1 8 (.t 85) (.t 87), none⟩, ⟨some 8, .mv (.t 88), none⟩]))
       .skip))))
      (.ops [⟨some 89, .bin .add (.t 59) (.v (.int .i64 1)), none⟩, ⟨some 59, .mv (.t 89), none⟩]))))))))
   (.ops [⟨some 50, .mv (.t 12), none⟩, ⟨some 51, .bin .add (.t 50) (.v (.int .i64 1)), none⟩, ⟨some 12, .mv (.t 51), none⟩]))))))
 (.seq (.ops [⟨some 90, .mv (.t 7), none⟩, ⟨some 6, .mv (.t 90), none⟩])
 .ret))))))
noncomputable def X.i_spread (p0 : TMap) (p1 : (List Bool)) (p2 : (List Int)) : Option (List Int) :=
  (if 0 ≤ (p1.length : Int) ∧ (p1.length : Int).toNat ≤ LIM then ((loop (fun (x22 : (Int × (List Int))) => ((bif (decide (x22.1 < ((List.replicate (p1.length : Int).toNat zI).length : Int))) then (if 0 ≤ x22.1 ∧ x22.1 < (x22.2.length : Int) then some (Sum.inl ((W (x22.1 + 1)), (x22.2.set x22.1.toNat (-1)))) else none) else some (Sum.inr x22.2)) : Option ((Int × (List Int)) ⊕ (List Int)))) (0, (List.replicate (p1.length : Int).toNat zI))).bind fun y26 => ((loop (fun (x78 : (Int × (List Int) × (List Int))) => ((bif (decide (x78.1 < (p2.length : Int))) then ((at' zI p2 x78.1).bind fun v81 => ((at' zB p1 v81).bind fun v83 => (bif v83 then (if 0 ≤ v81 ∧ v81 < (x78.2.1.length : Int) then (if (x78.2.2 ++ ([v81] : List Int)).length ≤ LIM then some (Sum.inl ((W (x78.1 + 1)), (x78.2.1.set v81.toNat 0), (x78.2.2 ++ ([v81] : List Int)))) else none) else none) else some (Sum.inl ((W (x78.1 + 1)), x78.2.1, x78.2.2))))) else some (Sum.inr (x78.2.1, x78.2.2))) : Option ((Int × (List Int) × (List Int)) ⊕ ((List Int) × (List Int))))) (0, y26, ([] : List Int))).bind fun y88 => ((loop (fun (x179 : (Int × (List Int) × (List Int))) => ((bif (decide (x179.1 < (x179.2.2.length : Int))) then (if 0 ≤ x179.1 ∧ x179.1 < (x179.2.2.length : Int) then ((X.i_neighboursOn p0 (x179.2.2.getD x179.1.toNat zI)).bind fun v183 => ((loop (fun (x209 : (Int × (List Int) × (List Int))) => ((bif (decide (x209.1 < (v183.length : Int))) then ((at' zI v183 x209.1).bind fun v212 => ((at' zB p1 v212).bind fun v214 => (bif v214 then (if 0 ≤ v212 ∧ v212 < (x209.2.1.length : Int) then (bif (decide ((x209.2.1.getD v212.toNat zI) < 0)) then (if 0 ≤ x179.1 ∧ x179.1 < (x209.2.2.length : Int) then (if 0 ≤ (x209.2.2.getD x179.1.toNat zI) ∧ (x209.2.2.getD x179.1.toNat zI) < (x209.2.1.length : Int) then (if (x209.2.2 ++ ([v212] : List Int)).length ≤ LIM then some (Sum.inl ((W (x209.1 + 1)), (x209.2.1.set v212.toNat (W ((x209.2.1.getD ((x209.2.2.getD x179.1.toNat zI).toNat) zI) + 1))), (x209.2.2 ++ ([v212] : List Int)))) else none) else none) else none) else some (Sum.inl ((W (x209.1 + 1)), x209.2.1, x209.2.2))) else none) else some (Sum.inl ((W (x209.1 + 1)), x209.2.1, x209.2.2))))) else some (Sum.inr (x209.2.1, x209.2.2))) : Option ((Int × (List Int) × (List Int)) ⊕ ((List Int) × (List Int))))) (0, x179.2.1, x179.2.2)).bind fun y222 => some (Sum.inl ((W (x179.1 + 1)), y222.1, y222.2)))) else none) else some (Sum.inr x179.2.1)) : Option ((Int × (List Int) × (List Int)) ⊕ (List Int)))) (0, y88.1, y88.2)).bind fun y224 => some y224))) else none)
theorem i_spread_ok (p0 : TMap) (p1 : (List Bool)) (p2 : (List Int)) (r : (List Int)) (H : X.i_spread p0 p1 p2 = some r) : FnOk Tryz.prog gl 249 [.agg (eTMap p0), .c (dat 1 eB zB p1), .c (dat 1 eI zI p2)] (.c (dat 1 eI zI r)) := by
  unfold X.i_spread at H
  refine fn_in (fn := Tryz.f249) (ir := i_spread_ir) (s1 := lit [(6, .c (dat 1 eI zI r))] []) Tryz.func249 (by kernel_rfl) (by kernel_rfl) (by kernel_rfl) (by kernel_rfl) (by kernel_rfl) ?_
  refine seq_ops [] [] [(1, .c (dat 1 eB zB p1)), (2, .c (dat 1 eI zI p2)), (3, .c (.pk 3 0))] [(3, .var (eTMap p0) false)] (fun t => t) (by kernel_rfl) ?_
  obtain ⟨g1, H⟩ := ofIf H
  refine seq_ops [.fn (List.replicate (p1.length : Int).toNat zI).length (fF eI zI (List.replicate (p1.length : Int).toNat zI)), .fn ([] : List Int).length (fF eI zI ([] : List Int))] [] [(1, .c (dat 1 eB zB p1)), (2, .c (dat 1 eI zI p2)), (3, .c (.pk 3 0)), (7, .c (.own 17 1 0 ((List.replicate (p1.length : Int).toNat zI).length))), (8, .c (.own 18 1 0 (([] : List Int).length)))] [(3, .var (eTMap p0) false), (17, .arr 1 ((List.replicate (p1.length : Int).toNat zI).length) (fF eI zI (List.replicate (p1.length : Int).toNat zI)) false), (18, .arr 1 (([] : List Int).length) (fF eI zI ([] : List Int)) false)] (fun t => lI p1 (aI (And.intro g1.1 (And.intro (List.length_replicate (n := (p1.length : Int).toNat) (a := zI)).symm (Nat.le_trans (Nat.le_of_eq List.length_replicate) g1.2 : (List.replicate (p1.length : Int).toNat zI).length ≤ LIM))) (aI (fF_rep eI zI zI (p1.length : Int).toNat) (aI (rfl : ([] : List Int).length = 0) (aI (fF_lit eI zI ([] : List Int)) (t)))))) (by kernel_rfl) ?_
  refine seq_in ?_
  refine seq_ops [] [] [(1, .c (dat 1 eB zB p1)), (2, .c (dat 1 eI zI p2)), (3, .c (.pk 3 0)), (7, .c (.own 17 1 0 ((List.replicate (p1.length : Int).toNat zI).length))), (8, .c (.own 18 1 0 (([] : List Int).length))), (20, cI ((List.replicate (p1.length : Int).toNat zI).length : Int)), (21, cI 0)] [(3, .var (eTMap p0) false), (17, .arr 1 ((List.replicate (p1.length : Int).toNat zI).length) (fF eI zI (List.replicate (p1.length : Int).toNat zI)) false), (18, .arr 1 (([] : List Int).length) (fF eI zI ([] : List Int)) false)] (fun t => (fun (_ : (List.replicate (p1.length : Int).toNat zI).length ≤ maxLen) => t)) (by kernel_rfl) ?_
  refine ends_blk ?_
  obtain ⟨y26, h27, H⟩ := ofBind H
  refine loop_in (fun (x : (Int × (List Int))) => lit [(1, .c (dat 1 eB zB p1)), (2, .c (dat 1 eI zI p2)), (3, .c (.pk 3 0)), (7, .c (.own 17 1 0 x.2.length)), (8, .c (.own 18 1 0 (([] : List Int).length))), (20, cI ((List.replicate (p1.length : Int).toNat zI).length : Int)), (21, cI x.1)] [(3, .var (eTMap p0) false), (17, .arr 1 x.2.length (fF eI zI x.2) false), (18, .arr 1 (([] : List Int).length) (fF eI zI ([] : List Int)) false)]) (fun (z : (List Int)) => At (.exit 0) (lit [(1, .c (dat 1 eB zB p1)), (2, .c (dat 1 eI zI p2)), (3, .c (.pk 3 0)), (7, .c (.own 17 1 0 z.length)), (8, .c (.own 18 1 0 (([] : List Int).length)))] [(3, .var (eTMap p0) false), (17, .arr 1 z.length (fF eI zI z) false), (18, .arr 1 (([] : List Int).length) (fF eI zI ([] : List Int)) false)])) h27 ?_ ?_
  · clear H h27
    intro x22 y0 H
    refine seq_ops [] [] [(1, .c (dat 1 eB zB p1)), (2, .c (dat 1 eI zI p2)), (3, .c (.pk 3 0)), (7, .c (.own 17 1 0 x22.2.length)), (8, .c (.own 18 1 0 (([] : List Int).length))), (20, cI ((List.replicate (p1.length : Int).toNat zI).length : Int)), (21, cI x22.1), (22, cB (decide (x22.1 < ((List.replicate (p1.length : Int).toNat zI).length : Int))))] [(3, .var (eTMap p0) false), (17, .arr 1 x22.2.length (fF eI zI x22.2) false), (18, .arr 1 (([] : List Int).length) (fF eI zI ([] : List Int)) false)] (fun t => t) (by kernel_rfl) ?_
    refine seq_in ?_
    rcases ofCond H with ⟨c24, H⟩ | ⟨c24, H⟩
    · refine ite_t c24 (by kernel_rfl) ?_
      refine ends_skip ?_
      change EndsI _ _ _ _ _ _
      refine seq_in ?_
      refine ends_blk ?_
      refine seq_ops [] [] [(1, .c (dat 1 eB zB p1)), (2, .c (dat 1 eI zI p2)), (3, .c (.pk 3 0)), (7, .c (.own 17 1 0 x22.2.length)), (8, .c (.own 18 1 0 (([] : List Int).length))), (9, cI x22.1), (20, cI ((List.replicate (p1.length : Int).toNat zI).length : Int)), (21, cI x22.1)] [(3, .var (eTMap p0) false), (17, .arr 1 x22.2.length (fF eI zI x22.2) false), (18, .arr 1 (([] : List Int).length) (fF eI zI ([] : List Int)) false)] (fun t => t) (by kernel_rfl) ?_
      obtain ⟨g25, H⟩ := ofIf H
      refine one_ops [.no, .fn 0 (fF eI zI (x22.2.set x22.1.toNat (-1)))] [] [(1, .c (dat 1 eB zB p1)), (2, .c (dat 1 eI zI p2)), (3, .c (.pk 3 0)), (7, .c (.own 17 1 0 x22.2.length)), (8, .c (.own 18 1 0 (([] : List Int).length))), (20, cI ((List.replicate (p1.length : Int).toNat zI).length : Int)), (21, cI x22.1)] [(3, .var (eTMap p0) false), (17, .arr 1 x22.2.length (fF eI zI (x22.2.set x22.1.toNat (-1))) false), (18, .arr 1 (([] : List Int).length) (fF eI zI ([] : List Int)) false)] (fun t => aI g25 (aI (rfl : true = true) (aI (nat_lt g25) (aI (by decide : 0 + 1 ≤ 1) (aI (fF_set eI zI x22.2 x22.1.toNat (-1) (nat_lt g25) x22.2.length) (t)))))) (by kernel_rfl) ?_
      change EndsI _ _ _ _ _ _
      refine one_ops [] [.rel 7 ((x22.2.set x22.1.toNat (-1)).length), .rep 17 ((x22.2.set x22.1.toNat (-1)).length) (fF eI zI (x22.2.set x22.1.toNat (-1)))] [(1, .c (dat 1 eB zB p1)), (2, .c (dat 1 eI zI p2)), (3, .c (.pk 3 0)), (7, .c (.own 17 1 0 ((x22.2.set x22.1.toNat (-1)).length))), (8, .c (.own 18 1 0 (([] : List Int).length))), (20, cI ((List.replicate (p1.length : Int).toNat zI).length : Int)), (21, cI (W (x22.1 + 1)))] [(3, .var (eTMap p0) false), (17, .arr 1 ((x22.2.set x22.1.toNat (-1)).length) (fF eI zI (x22.2.set x22.1.toNat (-1))) false), (18, .arr 1 (([] : List Int).length) (fF eI zI ([] : List Int)) false)] (fun t => aI (by simp : x22.2.length = (x22.2.set x22.1.toNat (-1)).length) (aI (Nat.le_of_eq (by simp : (x22.2.set x22.1.toNat (-1)).length = x22.2.length)) (aI (fun _ _ => rfl : ∀ i, i < (x22.2.set x22.1.toNat (-1)).length → (fF eI zI (x22.2.set x22.1.toNat (-1))) i = (fF eI zI (x22.2.set x22.1.toNat (-1))) i) (t)))) (by kernel_rfl) ?_
      obtain rfl := Option.some.inj H
      exact And.intro rfl rfl
    · refine ite_f c24 (by kernel_rfl) ?_
      refine tell [] [(1, .c (dat 1 eB zB p1)), (2, .c (dat 1 eI zI p2)), (3, .c (.pk 3 0)), (7, .c (.own 17 1 0 x22.2.length)), (8, .c (.own 18 1 0 (([] : List Int).length)))] [(3, .var (eTMap p0) false), (17, .arr 1 x22.2.length (fF eI zI x22.2) false), (18, .arr 1 (([] : List Int).length) (fF eI zI ([] : List Int)) false)] (fun t => t) (by kernel_rfl) ?_
      refine ends_exit ?_
      obtain rfl := Option.some.inj H
      exact And.intro (by simp) (And.intro rfl rfl)
  · clear h27
    intro e s q
    obtain ⟨rfl, rfl⟩ := q
    change EndsI _ _ _ _ _ _
    refine seq_in ?_
    refine seq_ops [] [] [(1, .c (dat 1 eB zB p1)), (3, .c (.pk 3 0)), (7, .c (.own 17 1 0 y26.length)), (8, .c (.own 18 1 0 (([] : List Int).length))), (28, .c (dat 1 eI zI p2)), (29, cI (p2.length : Int)), (30, cI 0)] [(3, .var (eTMap p0) false), (17, .arr 1 y26.length (fF eI zI y26) false), (18, .arr 1 (([] : List Int).length) (fF eI zI ([] : List Int)) false)] (fun t => lI p2 (t)) (by kernel_rfl) ?_
    refine ends_blk ?_
    obtain ⟨y88, h89, H⟩ := ofBind H
    refine tell [.ren 18 1002] [(1, .c (dat 1 eB zB p1)), (3, .c (.pk 3 0)), (7, .c (.own 17 1 0 y26.length)), (8, .c (.own 1002 1 0 (([] : List Int).length))), (28, .c (dat 1 eI zI p2)), (29, cI (p2.length : Int)), (30, cI 0)] [(3, .var (eTMap p0) false), (17, .arr 1 y26.length (fF eI zI y26) false), (1002, .arr 1 (([] : List Int).length) (fF eI zI ([] : List Int)) false)] (fun t => t) (by kernel_rfl) ?_
    refine loop_in (fun (x : (Int × (List Int) × (List Int))) => lit [(1, .c (dat 1 eB zB p1)), (3, .c (.pk 3 0)), (7, .c (.own 17 1 0 x.2.1.length)), (8, .c (.own 1002 1 0 x.2.2.length)), (28, .c (dat 1 eI zI p2)), (29, cI (p2.length : Int)), (30, cI x.1)] [(3, .var (eTMap p0) false), (17, .arr 1 x.2.1.length (fF eI zI x.2.1) false), (1002, .arr 1 x.2.2.length (fF eI zI x.2.2) false)]) (fun (z : ((List Int) × (List Int))) => At (.exit 2) (lit [(1, .c (dat 1 eB zB p1)), (3, .c (.pk 3 0)), (7, .c (.own 17 1 0 z.1.length)), (8, .c (.own 1002 1 0 z.2.length))] [(3, .var (eTMap p0) false), (17, .arr 1 z.1.length (fF eI zI z.1) false), (1002, .arr 1 z.2.length (fF eI zI z.2) false)])) h89 ?_ ?_
    · clear H h89
      intro x78 y0 H
      refine seq_ops [] [] [(1, .c (dat 1 eB zB p1)), (3, .c (.pk 3 0)), (7, .c (.own 17 1 0 x78.2.1.length)), (8, .c (.own 1002 1 0 x78.2.2.length)), (28, .c (dat 1 eI zI p2)), (29, cI (p2.length : Int)), (30, cI x78.1), (31, cB (decide (x78.1 < (p2.length : Int))))] [(3, .var (eTMap p0) false), (17, .arr 1 x78.2.1.length (fF eI zI x78.2.1) false), (1002, .arr 1 x78.2.2.length (fF eI zI x78.2.2) false)] (fun t => t) (by kernel_rfl) ?_
      refine seq_in ?_
      rcases ofCond H with ⟨c80, H⟩ | ⟨c80, H⟩
      · refine ite_t c80 (by kernel_rfl) ?_
        refine ends_skip ?_
        change EndsI _ _ _ _ _ _
        refine seq_in ?_
        refine ends_blk ?_
        obtain ⟨v81, h82, H⟩ := ofBind H
        refine seq_ops [.cs (eI v81)] [] [(1, .c (dat 1 eB zB p1)), (3, .c (.pk 3 0)), (7, .c (.own 17 1 0 x78.2.1.length)), (8, .c (.own 1002 1 0 x78.2.2.length)), (11, cI v81), (28, .c (dat 1 eI zI p2)), (29, cI (p2.length : Int)), (30, cI x78.1)] [(3, .var (eTMap p0) false), (17, .arr 1 x78.2.1.length (fF eI zI x78.2.1) false), (1002, .arr 1 x78.2.2.length (fF eI zI x78.2.2) false)] (fun t => aI (at_lt h82) (aI (at_enc (enc := eI) h82) (t))) (by kernel_rfl) ?_
        obtain ⟨v83, h84, H⟩ := ofBind H
        refine seq_ops [.cs (eB v83)] [] [(1, .c (dat 1 eB zB p1)), (3, .c (.pk 3 0)), (7, .c (.own 17 1 0 x78.2.1.length)), (8, .c (.own 1002 1 0 x78.2.2.length)), (11, cI v81), (28, .c (dat 1 eI zI p2)), (29, cI (p2.length : Int)), (30, cI x78.1), (37, cB v83)] [(3, .var (eTMap p0) false), (17, .arr 1 x78.2.1.length (fF eI zI x78.2.1) false), (1002, .arr 1 x78.2.2.length (fF eI zI x78.2.2) false)] (fun t => aI (at_lt h84) (aI (at_enc (enc := eB) h84) (t))) (by kernel_rfl) ?_
        rcases ofCond H with ⟨c85, H⟩ | ⟨c85, H⟩
        · refine ite_t c85 (by kernel_rfl) ?_
          obtain ⟨g86, H⟩ := ofIf H
          refine seq_ops [.no, .fn 0 (fF eI zI (x78.2.1.set v81.toNat 0))] [] [(1, .c (dat 1 eB zB p1)), (3, .c (.pk 3 0)), (7, .c (.own 17 1 0 x78.2.1.length)), (8, .c (.own 1002 1 0 x78.2.2.length)), (11, cI v81), (28, .c (dat 1 eI zI p2)), (29, cI (p2.length : Int)), (30, cI x78.1)] [(3, .var (eTMap p0) false), (17, .arr 1 x78.2.1.length (fF eI zI (x78.2.1.set v81.toNat 0)) false), (1002, .arr 1 x78.2.2.length (fF eI zI x78.2.2) false)] (fun t => aI g86 (aI (rfl : true = true) (aI (nat_lt g86) (aI (by decide : 0 + 1 ≤ 1) (aI (fF_set eI zI x78.2.1 v81.toNat 0 (nat_lt g86) x78.2.1.length) (t)))))) (by kernel_rfl) ?_
          obtain ⟨g87, H⟩ := ofIf H
          refine one_ops [.fn ([v81] : List Int).length (fF eI zI ([v81] : List Int)), .fn (x78.2.2 ++ ([v81] : List Int)).length (fF eI zI (x78.2.2 ++ ([v81] : List Int)))] [] [(1, .c (dat 1 eB zB p1)), (3, .c (.pk 3 0)), (7, .c (.own 17 1 0 x78.2.1.length)), (8, .c (.own 44 1 0 ((x78.2.2 ++ ([v81] : List Int)).length))), (28, .c (dat 1 eI zI p2)), (29, cI (p2.length : Int)), (30, cI x78.1)] [(3, .var (eTMap p0) false), (17, .arr 1 x78.2.1.length (fF eI zI (x78.2.1.set v81.toNat 0)) false), (44, .arr 1 ((x78.2.2 ++ ([v81] : List Int)).length) (fF eI zI (x78.2.2 ++ ([v81] : List Int))) false)] (fun t => aI (rfl : ([v81] : List Int).length = 1) (aI (fF_lit eI zI ([v81] : List Int)) (aI (And.intro (Nat.le_refl x78.2.2.length) (And.intro (@List.length_append _ x78.2.2 ([v81] : List Int)) g87)) (aI (fF_appL eI zI x78.2.2 ([v81] : List Int)) (aI (fF_appR eI zI x78.2.2 ([v81] : List Int)) (t)))))) (by kernel_rfl) ?_
          change EndsI _ _ _ _ _ _
          refine one_ops [] [.rel 7 ((x78.2.1.set v81.toNat 0).length), .rep 17 ((x78.2.1.set v81.toNat 0).length) (fF eI zI (x78.2.1.set v81.toNat 0)), .ren 44 1002] [(1, .c (dat 1 eB zB p1)), (3, .c (.pk 3 0)), (7, .c (.own 17 1 0 ((x78.2.1.set v81.toNat 0).length))), (8, .c (.own 1002 1 0 ((x78.2.2 ++ ([v81] : List Int)).length))), (28, .c (dat 1 eI zI p2)), (29, cI (p2.length : Int)), (30, cI (W (x78.1 + 1)))] [(3, .var (eTMap p0) false), (17, .arr 1 ((x78.2.1.set v81.toNat 0).length) (fF eI zI (x78.2.1.set v81.toNat 0)) false), (1002, .arr 1 ((x78.2.2 ++ ([v81] : List Int)).length) (fF eI zI (x78.2.2 ++ ([v81] : List Int))) false)] (fun t => aI (by simp : x78.2.1.length = (x78.2.1.set v81.toNat 0).length) (aI (Nat.le_of_eq (by simp : (x78.2.1.set v81.toNat 0).length = x78.2.1.length)) (aI (fun _ _ => rfl : ∀ i, i < (x78.2.1.set v81.toNat 0).length → (fF eI zI (x78.2.1.set v81.toNat 0)) i = (fF eI zI (x78.2.1.set v81.toNat 0)) i) (t)))) (by kernel_rfl) ?_
          obtain rfl := Option.some.inj H
          exact And.intro rfl rfl
        · refine ite_f c85 (by kernel_rfl) ?_
          refine ends_skip ?_
          change EndsI _ _ _ _ _ _
          refine one_ops [] [] [(1, .c (dat 1 eB zB p1)), (3, .c (.pk 3 0)), (7, .c (.own 17 1 0 x78.2.1.length)), (8, .c (.own 1002 1 0 x78.2.2.length)), (28, .c (dat 1 eI zI p2)), (29, cI (p2.length : Int)), (30, cI (W (x78.1 + 1)))] [(3, .var (eTMap p0) false), (17, .arr 1 x78.2.1.length (fF eI zI x78.2.1) false), (1002, .arr 1 x78.2.2.length (fF eI zI x78.2.2) false)] (fun t => t) (by kernel_rfl) ?_
          obtain rfl := Option.some.inj H
          exact And.intro rfl rfl
      · refine ite_f c80 (by kernel_rfl) ?_
        refine tell [] [(1, .c (dat 1 eB zB p1)), (3, .c (.pk 3 0)), (7, .c (.own 17 1 0 x78.2.1.length)), (8, .c (.own 1002 1 0 x78.2.2.length))] [(3, .var (eTMap p0) false), (17, .arr 1 x78.2.1.length (fF eI zI x78.2.1) false), (1002, .arr 1 x78.2.2.length (fF eI zI x78.2.2) false)] (fun t => t) (by kernel_rfl) ?_
        refine ends_exit ?_
        obtain rfl := Option.some.inj H
        exact And.intro (by simp) (And.intro rfl rfl)
    · clear h89
      intro e s q
      obtain ⟨rfl, rfl⟩ := q
      change EndsI _ _ _ _ _ _
      refine seq_in ?_
      refine seq_ops [] [] [(1, .c (dat 1 eB zB p1)), (3, .c (.pk 3 0)), (7, .c (.own 17 1 0 y88.1.length)), (8, .c (.own 1002 1 0 y88.2.length)), (12, cI 0)] [(3, .var (eTMap p0) false), (17, .arr 1 y88.1.length (fF eI zI y88.1) false), (1002, .arr 1 y88.2.length (fF eI zI y88.2) false)] (fun t => t) (by kernel_rfl) ?_
      refine ends_blk ?_
      obtain ⟨y224, h225, H⟩ := ofBind H
      refine loop_in (fun (x : (Int × (List Int) × (List Int))) => lit [(1, .c (dat 1 eB zB p1)), (3, .c (.pk 3 0)), (7, .c (.own 17 1 0 x.2.1.length)), (8, .c (.own 1002 1 0 x.2.2.length)), (12, cI x.1)] [(3, .var (eTMap p0) false), (17, .arr 1 x.2.1.length (fF eI zI x.2.1) false), (1002, .arr 1 x.2.2.length (fF eI zI x.2.2) false)]) (fun (z : (List Int)) => At (.exit 4) (lit [(7, .c (.own 17 1 0 z.length))] [(17, .arr 1 z.length (fF eI zI z) false)])) h225 ?_ ?_
      · clear H h225
        intro x179 y0 H
        refine seq_in ?_
        refine seq_ops [] [] [(1, .c (dat 1 eB zB p1)), (3, .c (.pk 3 0)), (7, .c (.own 17 1 0 x179.2.1.length)), (8, .c (.own 1002 1 0 x179.2.2.length)), (12, cI x179.1), (49, cB (decide (x179.1 < (x179.2.2.length : Int))))] [(3, .var (eTMap p0) false), (17, .arr 1 x179.2.1.length (fF eI zI x179.2.1) false), (1002, .arr 1 x179.2.2.length (fF eI zI x179.2.2) false)] (fun t => lI x179.2.2 (t)) (by kernel_rfl) ?_
        rcases ofCond H with ⟨c181, H⟩ | ⟨c181, H⟩
        · refine ite_t c181 (by kernel_rfl) ?_
          refine ends_skip ?_
          change EndsI _ _ _ _ _ _
          refine seq_in ?_
          refine ends_blk ?_
          obtain ⟨g182, H⟩ := ofIf H
          obtain ⟨v183, h184, H⟩ := ofBind H
          refine seq_draw [.no, .res (.c (dat 1 eI zI v183))] [] [(1, .c (dat 1 eB zB p1)), (3, .c (.pk 3 0)), (7, .c (.own 17 1 0 x179.2.1.length)), (8, .c (.own 1002 1 0 x179.2.2.length)), (12, cI x179.1), (57, .c (dat 1 eI zI v183)), (58, cI (v183.length : Int)), (59, cI 0)] [(3, .var (eTMap p0) false), (17, .arr 1 x179.2.1.length (fF eI zI x179.2.1) false), (1002, .arr 1 x179.2.2.length (fF eI zI x179.2.2) false)] (fun t => aI g182 (aI (nat_lt g182) (aI (rfl : ([] : List Nat) = []) (aI (i_neighboursOn_ok p0 (x179.2.2.getD x179.1.toNat zI) v183 h184) (aI (rfl : ([] : List Nat) = []) (aI (rfl : ([] : List Nat) = []) (t))))))) (by kernel_rfl) ?_
          refine ends_blk ?_
          obtain ⟨y222, h223, H⟩ := ofBind H
          refine loop_in (fun (x : (Int × (List Int) × (List Int))) => lit [(1, .c (dat 1 eB zB p1)), (3, .c (.pk 3 0)), (7, .c (.own 17 1 0 x.2.1.length)), (8, .c (.own 1002 1 0 x.2.2.length)), (12, cI x179.1), (57, .c (dat 1 eI zI v183)), (58, cI (v183.length : Int)), (59, cI x.1)] [(3, .var (eTMap p0) false), (17, .arr 1 x.2.1.length (fF eI zI x.2.1) false), (1002, .arr 1 x.2.2.length (fF eI zI x.2.2) false)]) (fun (z : ((List Int) × (List Int))) => At (.exit 6) (lit [(1, .c (dat 1 eB zB p1)), (3, .c (.pk 3 0)), (7, .c (.own 17 1 0 z.1.length)), (8, .c (.own 1002 1 0 z.2.length)), (12, cI x179.1)] [(3, .var (eTMap p0) false), (17, .arr 1 z.1.length (fF eI zI z.1) false), (1002, .arr 1 z.2.length (fF eI zI z.2) false)])) h223 ?_ ?_
          · clear H h223
            intro x209 y0 H
            refine seq_ops [] [] [(1, .c (dat 1 eB zB p1)), (3, .c (.pk 3 0)), (7, .c (.own 17 1 0 x209.2.1.length)), (8, .c (.own 1002 1 0 x209.2.2.length)), (12, cI x179.1), (57, .c (dat 1 eI zI v183)), (58, cI (v183.length : Int)), (59, cI x209.1), (60, cB (decide (x209.1 < (v183.length : Int))))] [(3, .var (eTMap p0) false), (17, .arr 1 x209.2.1.length (fF eI zI x209.2.1) false), (1002, .arr 1 x209.2.2.length (fF eI zI x209.2.2) false)] (fun t => t) (by kernel_rfl) ?_
            refine seq_in ?_
            rcases ofCond H with ⟨c211, H⟩ | ⟨c211, H⟩
            · refine ite_t c211 (by kernel_rfl) ?_
              refine ends_skip ?_
              change EndsI _ _ _ _ _ _
              refine seq_in ?_
              refine ends_blk ?_
              obtain ⟨v212, h213, H⟩ := ofBind H
              refine seq_ops [.cs (eI v212)] [] [(1, .c (dat 1 eB zB p1)), (3, .c (.pk 3 0)), (7, .c (.own 17 1 0 x209.2.1.length)), (8, .c (.own 1002 1 0 x209.2.2.length)), (12, cI x179.1), (14, cI v212), (57, .c (dat 1 eI zI v183)), (58, cI (v183.length : Int)), (59, cI x209.1)] [(3, .var (eTMap p0) false), (17, .arr 1 x209.2.1.length (fF eI zI x209.2.1) false), (1002, .arr 1 x209.2.2.length (fF eI zI x209.2.2) false)] (fun t => aI (at_lt h213) (aI (at_enc (enc := eI) h213) (t))) (by kernel_rfl) ?_
              obtain ⟨v214, h215, H⟩ := ofBind H
              rcases ofCond H with ⟨c216, H⟩ | ⟨c216, H⟩
              · obtain ⟨g217, H⟩ := ofIf H
                refine seq_ops [.cs (eB v214), .g true, .g true, .g true, .no, .g true, .g true, .g true] [] [(1, .c (dat 1 eB zB p1)), (3, .c (.pk 3 0)), (7, .c (.own 17 1 0 x209.2.1.length)), (8, .c (.own 1002 1 0 x209.2.2.length)), (12, cI x179.1), (14, cI v212), (57, .c (dat 1 eI zI v183)), (58, cI (v183.length : Int)), (59, cI x209.1), (73, cB (decide ((x209.2.1.getD v212.toNat zI) < 0)))] [(3, .var (eTMap p0) false), (17, .arr 1 x209.2.1.length (fF eI zI x209.2.1) false), (1002, .arr 1 x209.2.2.length (fF eI zI x209.2.2) false)] (fun t => aI (at_lt h215) (aI (at_enc (enc := eB) h215) (aI c216 (aI c216 (aI c216 (aI g217 (aI c216 (aI (nat_lt g217) (aI c216 (aI c216 (t))))))))))) (by kernel_rfl) ?_
                rcases ofCond H with ⟨c218, H⟩ | ⟨c218, H⟩
                · refine ite_t c218 (by kernel_rfl) ?_
                  obtain ⟨g219, H⟩ := ofIf H
                  obtain ⟨g220, H⟩ := ofIf H
                  refine seq_ops [.no, .no, .no, .fn 0 (fF eI zI (x209.2.1.set v212.toNat (W ((x209.2.1.getD ((x209.2.2.getD x179.1.toNat zI).toNat) zI) + 1))))] [] [(1, .c (dat 1 eB zB p1)), (3, .c (.pk 3 0)), (7, .c (.own 17 1 0 x209.2.1.length)), (8, .c (.own 1002 1 0 x209.2.2.length)), (12, cI x179.1), (14, cI v212), (57, .c (dat 1 eI zI v183)), (58, cI (v183.length : Int)), (59, cI x209.1)] [(3, .var (eTMap p0) false), (17, .arr 1 x209.2.1.length (fF eI zI (x209.2.1.set v212.toNat (W ((x209.2.1.getD ((x209.2.2.getD x179.1.toNat zI).toNat) zI) + 1)))) false), (1002, .arr 1 x209.2.2.length (fF eI zI x209.2.2) false)] (fun t => aI g219 (aI (nat_lt g219) (aI g220 (aI (nat_lt g220) (aI g217 (aI (rfl : true = true) (aI (nat_lt g217) (aI (by decide : 0 + 1 ≤ 1) (aI (fF_set eI zI x209.2.1 v212.toNat (W ((x209.2.1.getD ((x209.2.2.getD x179.1.toNat zI).toNat) zI) + 1)) (nat_lt g217) x209.2.1.length) (t)))))))))) (by kernel_rfl) ?_
                  obtain ⟨g221, H⟩ := ofIf H
                  refine one_ops [.fn ([v212] : List Int).length (fF eI zI ([v212] : List Int)), .fn (x209.2.2 ++ ([v212] : List Int)).length (fF eI zI (x209.2.2 ++ ([v212] : List Int)))] [] [(1, .c (dat 1 eB zB p1)), (3, .c (.pk 3 0)), (7, .c (.own 17 1 0 x209.2.1.length)), (8, .c (.own 88 1 0 ((x209.2.2 ++ ([v212] : List Int)).length))), (12, cI x179.1), (57, .c (dat 1 eI zI v183)), (58, cI (v183.length : Int)), (59, cI x209.1)] [(3, .var (eTMap p0) false), (17, .arr 1 x209.2.1.length (fF eI zI (x209.2.1.set v212.toNat (W ((x209.2.1.getD ((x209.2.2.getD x179.1.toNat zI).toNat) zI) + 1)))) false), (88, .arr 1 ((x209.2.2 ++ ([v212] : List Int)).length) (fF eI zI (x209.2.2 ++ ([v212] : List Int))) false)] (fun t => aI (rfl : ([v212] : List Int).length = 1) (aI (fF_lit eI zI ([v212] : List Int)) (aI (And.intro (Nat.le_refl x209.2.2.length) (And.intro (@List.length_append _ x209.2.2 ([v212] : List Int)) g221)) (aI (fF_appL eI zI x209.2.2 ([v212] : List Int)) (aI (fF_appR eI zI x209.2.2 ([v212] : List Int)) (t)))))) (by kernel_rfl) ?_
                  change EndsI _ _ _ _ _ _
                  refine one_ops [] [.rel 7 ((x209.2.1.set v212.toNat (W ((x209.2.1.getD ((x209.2.2.getD x179.1.toNat zI).toNat) zI) + 1))).length), .rep 17 ((x209.2.1.set v212.toNat (W ((x209.2.1.getD ((x209.2.2.getD x179.1.toNat zI).toNat) zI) + 1))).length) (fF eI zI (x209.2.1.set v212.toNat (W ((x209.2.1.getD ((x209.2.2.getD x179.1.toNat zI).toNat) zI) + 1)))), .ren 88 1002] [(1, .c (dat 1 eB zB p1)), (3, .c (.pk 3 0)), (7, .c (.own 17 1 0 ((x209.2.1.set v212.toNat (W ((x209.2.1.getD ((x209.2.2.getD x179.1.toNat zI).toNat) zI) + 1))).length))), (8, .c (.own 1002 1 0 ((x209.2.2 ++ ([v212] : List Int)).length))), (12, cI x179.1), (57, .c (dat 1 eI zI v183)), (58, cI (v183.length : Int)), (59, cI (W (x209.1 + 1)))] [(3, .var (eTMap p0) false), (17, .arr 1 ((x209.2.1.set v212.toNat (W ((x209.2.1.getD ((x209.2.2.getD x179.1.toNat zI).toNat) zI) + 1))).length) (fF eI zI (x209.2.1.set v212.toNat (W ((x209.2.1.getD ((x209.2.2.getD x179.1.toNat zI).toNat) zI) + 1)))) false), (1002, .arr 1 ((x209.2.2 ++ ([v212] : List Int)).length) (fF eI zI (x209.2.2 ++ ([v212] : List Int))) false)] (fun t => aI (by simp : x209.2.1.length = (x209.2.1.set v212.toNat (W ((x209.2.1.getD ((x209.2.2.getD x179.1.toNat zI).toNat) zI) + 1))).length) (aI (Nat.le_of_eq (by simp : (x209.2.1.set v212.toNat (W ((x209.2.1.getD ((x209.2.2.getD x179.1.toNat zI).toNat) zI) + 1))).length = x209.2.1.length)) (aI (fun _ _ => rfl : ∀ i, i < (x209.2.1.set v212.toNat (W ((x209.2.1.getD ((x209.2.2.getD x179.1.toNat zI).toNat) zI) + 1))).length → (fF eI zI (x209.2.1.set v212.toNat (W ((x209.2.1.getD ((x209.2.2.getD x179.1.toNat zI).toNat) zI) + 1)))) i = (fF eI zI (x209.2.1.set v212.toNat (W ((x209.2.1.getD ((x209.2.2.getD x179.1.toNat zI).toNat) zI) + 1)))) i) (t)))) (by kernel_rfl) ?_
                  obtain rfl := Option.some.inj H
                  exact And.intro rfl rfl
                · refine ite_f c218 (by kernel_rfl) ?_
                  refine ends_skip ?_
                  change EndsI _ _ _ _ _ _
                  refine one_ops [] [] [(1, .c (dat 1 eB zB p1)), (3, .c (.pk 3 0)), (7, .c (.own 17 1 0 x209.2.1.length)), (8, .c (.own 1002 1 0 x209.2.2.length)), (12, cI x179.1), (57, .c (dat 1 eI zI v183)), (58, cI (v183.length : Int)), (59, cI (W (x209.1 + 1)))] [(3, .var (eTMap p0) false), (17, .arr 1 x209.2.1.length (fF eI zI x209.2.1) false), (1002, .arr 1 x209.2.2.length (fF eI zI x209.2.2) false)] (fun t => t) (by kernel_rfl) ?_
                  obtain rfl := Option.some.inj H
                  exact And.intro rfl rfl
              · refine seq_ops [.cs (eB v214), .g false, .g false, .g false, .g false, .g false, .g false] [] [(1, .c (dat 1 eB zB p1)), (3, .c (.pk 3 0)), (7, .c (.own 17 1 0 x209.2.1.length)), (8, .c (.own 1002 1 0 x209.2.2.length)), (12, cI x179.1), (14, cI v212), (57, .c (dat 1 eI zI v183)), (58, cI (v183.length : Int)), (59, cI x209.1), (73, cB false)] [(3, .var (eTMap p0) false), (17, .arr 1 x209.2.1.length (fF eI zI x209.2.1) false), (1002, .arr 1 x209.2.2.length (fF eI zI x209.2.2) false)] (fun t => aI (at_lt h215) (aI (at_enc (enc := eB) h215) (aI c216 (aI c216 (aI c216 (aI c216 (aI c216 (aI c216 (t))))))))) (by kernel_rfl) ?_
                refine ite_f (rfl : (false : Bool) = false) (by kernel_rfl) ?_
                refine ends_skip ?_
                change EndsI _ _ _ _ _ _
                refine one_ops [] [] [(1, .c (dat 1 eB zB p1)), (3, .c (.pk 3 0)), (7, .c (.own 17 1 0 x209.2.1.length)), (8, .c (.own 1002 1 0 x209.2.2.length)), (12, cI x179.1), (57, .c (dat 1 eI zI v183)), (58, cI (v183.length : Int)), (59, cI (W (x209.1 + 1)))] [(3, .var (eTMap p0) false), (17, .arr 1 x209.2.1.length (fF eI zI x209.2.1) false), (1002, .arr 1 x209.2.2.length (fF eI zI x209.2.2) false)] (fun t => t) (by kernel_rfl) ?_
                obtain rfl := Option.some.inj H
                exact And.intro rfl rfl
            · refine ite_f c211 (by kernel_rfl) ?_
              refine tell [] [(1, .c (dat 1 eB zB p1)), (3, .c (.pk 3 0)), (7, .c (.own 17 1 0 x209.2.1.length)), (8, .c (.own 1002 1 0 x209.2.2.length)), (12, cI x179.1)] [(3, .var (eTMap p0) false), (17, .arr 1 x209.2.1.length (fF eI zI x209.2.1) false), (1002, .arr 1 x209.2.2.length (fF eI zI x209.2.2) false)] (fun t => t) (by kernel_rfl) ?_
              refine ends_exit ?_
              obtain rfl := Option.some.inj H
              exact And.intro (by simp) (And.intro rfl rfl)
          · clear h223
            intro e s q
            obtain ⟨rfl, rfl⟩ := q
            change EndsI _ _ _ _ _ _
            refine one_ops [] [] [(1, .c (dat 1 eB zB p1)), (3, .c (.pk 3 0)), (7, .c (.own 17 1 0 y222.1.length)), (8, .c (.own 1002 1 0 y222.2.length)), (12, cI (W (x179.1 + 1)))] [(3, .var (eTMap p0) false), (17, .arr 1 y222.1.length (fF eI zI y222.1) false), (1002, .arr 1 y222.2.length (fF eI zI y222.2) false)] (fun t => t) (by kernel_rfl) ?_
            obtain rfl := Option.some.inj H
            exact And.intro rfl rfl
        · refine ite_f c181 (by kernel_rfl) ?_
          refine tell [] [(7, .c (.own 17 1 0 x179.2.1.length))] [(17, .arr 1 x179.2.1.length (fF eI zI x179.2.1) false)] (fun t => t) (by kernel_rfl) ?_
          refine ends_exit ?_
          obtain rfl := Option.some.inj H
          exact And.intro (by simp) (And.intro rfl rfl)
      · clear h225
        intro e s q
        obtain ⟨rfl, rfl⟩ := q
        change EndsI _ _ _ _ _ _
        refine seq_ops [] [] [(6, .c (.own 17 1 0 y224.length))] [(17, .arr 1 y224.length (fF eI zI y224) false)] (fun t => t) (by kernel_rfl) ?_
        refine tell [.frz 6] [(6, .c (dat 1 eI zI y224))] [] (fun t => aI (Nat.le_refl y224.length) (t)) (by kernel_rfl) ?_
        refine ends_ret ?_
        obtain rfl := Option.some.inj H
        exact And.intro (.inl rfl) rfl

def i_supplyWay_ir : S :=
 (.seq (.ops [⟨some 4, .box 12 (.t 0), none⟩, ⟨some 5, .box 4 (.t 1), none⟩, ⟨some 8, .mv (.v (.int .i64 0)), none⟩])
 (.seq (.seq (.ops [⟨some 10, .fad 2 (.t 5), none⟩, ⟨some 11, .load 1 false (.t 10), none⟩, ⟨some 12, .bin .lss (.t 11) (.v (.int .i64 0)), none⟩])
 (.ite (.t 12) (.seq (.ops [⟨some 8, .mv (.v (.int .i64 (-1))), none⟩])
  .ret)
 .skip))
 (.seq (.draw 10 [⟨some 13, .fad 7 (.t 4), none⟩, ⟨some 14, .load 5 true (.t 13), none⟩, ⟨some 15, .mv (.t 2), none⟩, ⟨some 16, .mv (.t 3), none⟩, ⟨some 17, .call 249 [.t 14, .t 15, .t 16], none⟩, ⟨some 18, .fad 2 (.t 5), none⟩, ⟨some 19, .load 1 false (.t 18), none⟩, ⟨some 20, .iad 1 (.t 17) (.t 19), none⟩, ⟨some 21, .load 1 false (.t 20), none⟩, ⟨some 9, .mv (.t 21), none⟩])
 (.seq (.seq (.ops [⟨some 22, .mv (.t 9), none⟩, ⟨some 23, .fad 0 (.t 4), none⟩, ⟨some 24, .fad 5 (.t 23), none⟩, ⟨some 25, .load 1 false (.t 24), none⟩, ⟨some 26, .bin .gtr (.t 22) (.t 25), none⟩])
 (.ite (.t 26) (.seq (.ops [⟨some 8, .mv (.v (.int .i64 (-1))), none⟩])
  .ret)
 .skip))
 (.seq (.ops [⟨some 27, .mv (.t 9), none⟩, ⟨some 8, .mv (.t 27), none⟩])
 .ret)))))
noncomputable def X.i_supplyWay (p0 : TBoard) (p1 : TUnit) (p2 : (List Bool)) (p3 : (List Int)) : Option Int :=
  (bif (decide (p1.At < 0)) then some (-1) else ((X.i_spread p0.Map p2 p3).bind fun v3 => ((at' zI v3 p1.At).bind fun v5 => (bif (decide (v5 > p0.Rules.Supply)) then some (-1) else some v5))))
theorem i_supplyWay_ok (p0 : TBoard) (p1 : TUnit) (p2 : (List Bool)) (p3 : (List Int)) (r : Int) (H : X.i_supplyWay p0 p1 p2 p3 = some r) : FnOk Tryz.prog gl 235 [.agg (eTBoard p0), .agg (eTUnit p1), .c (dat 1 eB zB p2), .c (dat 1 eI zI p3)] (cI r) := by
  unfold X.i_supplyWay at H
  refine fn_in (fn := Tryz.f235) (ir := i_supplyWay_ir) (s1 := lit [(8, cI r)] []) Tryz.func235 (by kernel_rfl) (by kernel_rfl) (by kernel_rfl) (by kernel_rfl) (by kernel_rfl) ?_
  refine seq_ops [] [] [(2, .c (dat 1 eB zB p2)), (3, .c (dat 1 eI zI p3)), (4, .c (.pk 4 0)), (5, .c (.pk 5 0))] [(4, .var (eTBoard p0) false), (5, .var (eTUnit p1) false)] (fun t => t) (by kernel_rfl) ?_
  refine seq_in ?_
  refine seq_ops [] [] [(2, .c (dat 1 eB zB p2)), (3, .c (dat 1 eI zI p3)), (4, .c (.pk 4 0)), (5, .c (.pk 5 0)), (12, cB (decide (p1.At < 0)))] [(4, .var (eTBoard p0) false), (5, .var (eTUnit p1) false)] (fun t => t) (by kernel_rfl) ?_
  rcases ofCond H with ⟨c2, H⟩ | ⟨c2, H⟩
  · refine ite_t c2 (by kernel_rfl) ?_
    refine seq_ops [] [] [(8, cI (-1))] [] (fun t => t) (by kernel_rfl) ?_
    refine ends_ret ?_
    obtain rfl := Option.some.inj H
    exact And.intro (.inl rfl) rfl
  · refine ite_f c2 (by kernel_rfl) ?_
    refine ends_skip ?_
    change EndsI _ _ _ _ _ _
    obtain ⟨v3, h4, H⟩ := ofBind H
    obtain ⟨v5, h6, H⟩ := ofBind H
    refine seq_draw [.res (.c (dat 1 eI zI v3)), .cs (eI v5)] [] [(4, .c (.pk 4 0)), (9, cI v5)] [(4, .var (eTBoard p0) false)] (fun t => aI (i_spread_ok p0.Map p2 p3 v3 h4) (aI (rfl : ([] : List Nat) = []) (aI (rfl : ([] : List Nat) = []) (aI (at_lt h6) (aI (at_enc (enc := eI) h6) (aI (rfl : ([] : List Nat) = []) (t))))))) (by kernel_rfl) ?_
    refine seq_in ?_
    refine seq_ops [] [] [(9, cI v5), (26, cB (decide (v5 > p0.Rules.Supply)))] [] (fun t => t) (by kernel_rfl) ?_
    rcases ofCond H with ⟨c7, H⟩ | ⟨c7, H⟩
    · refine ite_t c7 (by kernel_rfl) ?_
      refine seq_ops [] [] [(8, cI (-1))] [] (fun t => t) (by kernel_rfl) ?_
      refine ends_ret ?_
      obtain rfl := Option.some.inj H
      exact And.intro (.inl rfl) rfl
    · refine ite_f c7 (by kernel_rfl) ?_
      refine ends_skip ?_
      change EndsI _ _ _ _ _ _
      refine seq_ops [] [] [(8, cI v5)] [] (fun t => t) (by kernel_rfl) ?_
      refine ends_ret ?_
      obtain rfl := Option.some.inj H
      exact And.intro (.inl rfl) rfl

def i_ownerOf_ir : S :=
 (.seq (.ops [⟨some 2, .box 3 (.t 0), none⟩, ⟨some 4, .mv (.v (.int .i64 0)), none⟩])
 (.seq (.seq (.ops [⟨some 7, .fad 2 (.t 2), none⟩, ⟨some 8, .load 1 false (.t 7), none⟩, ⟨some 9, .len (.t 8), none⟩, ⟨some 10, .mv (.v (.int .i64 0)), none⟩])
 (.blk 0 (.loop (.seq (.ops [⟨some 11, .bin .lss (.t 10) (.t 9), none⟩])
   (.seq (.ite (.t 11) .skip
   (.exit 0))
   (.seq (.blk 1 (.seq (.ops [⟨some 12, .iad 4 (.t 8) (.t 10), none⟩, ⟨some 13, .load 4 true (.t 12), none⟩, ⟨some 6, .alloc [.int .i64 0, .int .i64 0, .int .i64 0, .int .i64 0], none⟩, ⟨none, .store 4 (.t 6) (.t 13), none⟩])
    (.seq (.ops [⟨some 14, .fad 2 (.t 6), none⟩, ⟨some 15, .load 1 false (.t 14), none⟩, ⟨some 16, .mv (.t 1), none⟩, ⟨some 17, .bin .eql (.t 15) (.t 16), none⟩])
    (.ite (.t 17) (.seq (.ops [⟨some 18, .fad 0 (.t 6), none⟩, ⟨some 19, .load 1 false (.t 18), none⟩, ⟨some 4, .mv (.t 19), none⟩])
     .ret)
    .skip))))
   (.ops [⟨some 20, .bin .add (.t 10) (.v (.int .i64 1)), none⟩, ⟨some 10, .mv (.t 20), none⟩])))))))
 (.seq (.ops [⟨some 4, .mv (.v (.int .i64 (-1))), none⟩])
 .ret)))
noncomputable def X.i_ownerOf (p0 : TState) (p1 : Int) : Option Int :=
  ((loop (fun (x12 : Int) => ((bif (decide (x12 < (p0.Units.length : Int))) then ((at' zTUnit p0.Units x12).bind fun v15 => (bif (v15.At == p1) then some (Sum.inr (Sum.inr v15.Side)) else some (Sum.inl (W (x12 + 1))))) else some (Sum.inr (Sum.inl ()))) : Option (Int ⊕ (Unit ⊕ Int)))) 0).bind fun y18 => (Sum.elim (fun (y20 : Unit) => some (-1)) (fun (y21 : Int) => some y21) y18))
theorem i_ownerOf_ok (p0 : TState) (p1 : Int) (r : Int) (H : X.i_ownerOf p0 p1 = some r) : FnOk Tryz.prog gl 217 [.agg (eTState p0), cI p1] (cI r) := by
  unfold X.i_ownerOf at H
  refine fn_in (fn := Tryz.f217) (ir := i_ownerOf_ir) (s1 := lit [(4, cI r)] []) Tryz.func217 (by kernel_rfl) (by kernel_rfl) (by kernel_rfl) (by kernel_rfl) (by kernel_rfl) ?_
  refine seq_ops [] [] [(1, cI p1), (2, .c (.pk 2 0))] [(2, .var (eTState p0) false)] (fun t => t) (by kernel_rfl) ?_
  refine seq_in ?_
  refine seq_ops [] [] [(1, cI p1), (8, .c (dat 4 eTUnit zTUnit p0.Units)), (9, cI (p0.Units.length : Int)), (10, cI 0)] [] (fun t => lI p0.Units (t)) (by kernel_rfl) ?_
  refine ends_blk ?_
  obtain ⟨y18, h19, H⟩ := ofBind H
  refine loop_in (fun (x : Int) => lit [(1, cI p1), (8, .c (dat 4 eTUnit zTUnit p0.Units)), (9, cI (p0.Units.length : Int)), (10, cI x)] []) (orJ (fun (z : Unit) => At (.exit 0) (lit [] [])) (fun (z : Int) => At .ret (lit [(4, cI z)] []))) h19 ?_ ?_
  · clear H h19
    intro x12 y0 H
    refine seq_ops [] [] [(1, cI p1), (8, .c (dat 4 eTUnit zTUnit p0.Units)), (9, cI (p0.Units.length : Int)), (10, cI x12), (11, cB (decide (x12 < (p0.Units.length : Int))))] [] (fun t => t) (by kernel_rfl) ?_
    refine seq_in ?_
    rcases ofCond H with ⟨c14, H⟩ | ⟨c14, H⟩
    · refine ite_t c14 (by kernel_rfl) ?_
      refine ends_skip ?_
      change EndsI _ _ _ _ _ _
      refine seq_in ?_
      refine ends_blk ?_
      obtain ⟨v15, h16, H⟩ := ofBind H
      refine seq_ops [.cs (eTUnit v15)] [] [(1, cI p1), (6, .c (.pk 6 0)), (8, .c (dat 4 eTUnit zTUnit p0.Units)), (9, cI (p0.Units.length : Int)), (10, cI x12)] [(6, .var (eTUnit v15) false)] (fun t => aI (at_lt h16) (aI (at_enc (enc := eTUnit) h16) (t))) (by kernel_rfl) ?_
      refine seq_ops [] [] [(1, cI p1), (6, .c (.pk 6 0)), (8, .c (dat 4 eTUnit zTUnit p0.Units)), (9, cI (p0.Units.length : Int)), (10, cI x12), (17, cB (v15.At == p1))] [(6, .var (eTUnit v15) false)] (fun t => t) (by kernel_rfl) ?_
      rcases ofCond H with ⟨c17, H⟩ | ⟨c17, H⟩
      · refine ite_t c17 (by kernel_rfl) ?_
        refine seq_ops [] [] [(4, cI v15.Side)] [] (fun t => t) (by kernel_rfl) ?_
        refine ends_ret ?_
        obtain rfl := Option.some.inj H
        exact And.intro (by simp) (And.intro rfl rfl)
      · refine ite_f c17 (by kernel_rfl) ?_
        refine ends_skip ?_
        change EndsI _ _ _ _ _ _
        refine one_ops [] [] [(1, cI p1), (8, .c (dat 4 eTUnit zTUnit p0.Units)), (9, cI (p0.Units.length : Int)), (10, cI (W (x12 + 1)))] [] (fun t => t) (by kernel_rfl) ?_
        obtain rfl := Option.some.inj H
        exact And.intro rfl rfl
    · refine ite_f c14 (by kernel_rfl) ?_
      refine tell [] [] [] (fun t => t) (by kernel_rfl) ?_
      refine ends_exit ?_
      obtain rfl := Option.some.inj H
      exact And.intro (by simp) (And.intro rfl rfl)
  · clear h19
    cases y18 with
    | inl y20 =>
      replace H := ofInl H
      intro e s q
      obtain ⟨rfl, rfl⟩ := q
      change EndsI _ _ _ _ _ _
      refine seq_ops [] [] [(4, cI (-1))] [] (fun t => t) (by kernel_rfl) ?_
      refine ends_ret ?_
      obtain rfl := Option.some.inj H
      exact And.intro (.inl rfl) rfl
    | inr y21 =>
      replace H := ofInr H
      intro e s q
      obtain ⟨rfl, rfl⟩ := q
      obtain rfl := Option.some.inj H
      exact And.intro (.inl rfl) rfl

def i_edgeOf_ir : S :=
 (.seq (.ops [⟨some 3, .box 5 (.t 0), none⟩, ⟨some 6, .mv (.v (.int .i64 0)), none⟩])
 (.seq (.ops [⟨some 8, .load 5 true (.t 3), none⟩, ⟨some 9, .mv (.t 1), none⟩, ⟨some 10, .mv (.t 2), none⟩, ⟨some 11, .call 158 [.t 8, .t 9, .t 10], none⟩, ⟨some 7, .mv (.t 11), none⟩])
 (.seq (.blk 0 (.seq (.ops [⟨some 13, .mv (.t 7), none⟩, ⟨some 14, .bin .lss (.t 13) (.v (.int .i64 0)), none⟩, ⟨some 12, .mv (.t 14), none⟩])
  (.ite (.t 12) (.seq (.ops [⟨some 6, .mv (.v (.int .i64 (-1))), none⟩])
   .ret)
  (.seq (.ops [⟨some 16, .mv (.t 2), none⟩, ⟨some 17, .bin .lss (.t 16) (.v (.int .i64 3)), none⟩, ⟨some 15, .mv (.t 17), none⟩])
   (.ite (.t 15) (.seq (.ops [⟨some 18, .mv (.t 1), none⟩, ⟨some 19, .bin .mul (.v (.int .i64 3)) (.t 18), none⟩, ⟨some 20, .mv (.t 2), none⟩, ⟨some 21, .bin .add (.t 19) (.t 20), none⟩, ⟨some 6, .mv (.t 21), none⟩])
    .ret)
   .skip)))))
 (.seq (.ops [⟨some 22, .mv (.t 7), none⟩, ⟨some 23, .bin .mul (.v (.int .i64 3)) (.t 22), none⟩, ⟨some 24, .mv (.t 2), none⟩, ⟨some 25, .bin .add (.t 23) (.t 24), none⟩, ⟨some 26, .bin .sub (.t 25) (.v (.int .i64 3)), none⟩, ⟨some 6, .mv (.t 26), none⟩])
 .ret))))
noncomputable def X.i_edgeOf (p0 : TMap) (p1 : Int) (p2 : Int) : Option Int :=
  ((X.i_nextTo p0 p1 p2).bind fun v1 => (bif (decide (v1 < 0)) then some (-1) else (bif (decide (p2 < 3)) then some (W ((W (3 * p1)) + p2)) else some (W ((W ((W (3 * v1)) + p2)) - 3)))))
theorem i_edgeOf_ok (p0 : TMap) (p1 : Int) (p2 : Int) (r : Int) (H : X.i_edgeOf p0 p1 p2 = some r) : FnOk Tryz.prog gl 240 [.agg (eTMap p0), cI p1, cI p2] (cI r) := by
  unfold X.i_edgeOf at H
  refine fn_in (fn := Tryz.f240) (ir := i_edgeOf_ir) (s1 := lit [(6, cI r)] []) Tryz.func240 (by kernel_rfl) (by kernel_rfl) (by kernel_rfl) (by kernel_rfl) (by kernel_rfl) ?_
  refine seq_ops [] [] [(1, cI p1), (2, cI p2), (3, .c (.pk 3 0))] [(3, .var (eTMap p0) false)] (fun t => t) (by kernel_rfl) ?_
  obtain ⟨v1, h2, H⟩ := ofBind H
  refine seq_ops [.res (cI v1)] [] [(1, cI p1), (2, cI p2), (7, cI v1)] [] (fun t => aI (i_nextTo_ok p0 p1 p2 v1 h2) (t)) (by kernel_rfl) ?_
  refine seq_in ?_
  refine ends_blk ?_
  refine seq_ops [] [] [(1, cI p1), (2, cI p2), (7, cI v1), (12, cB (decide (v1 < 0)))] [] (fun t => t) (by kernel_rfl) ?_
  rcases ofCond H with ⟨c3, H⟩ | ⟨c3, H⟩
  · refine ite_t c3 (by kernel_rfl) ?_
    refine seq_ops [] [] [(6, cI (-1))] [] (fun t => t) (by kernel_rfl) ?_
    refine ends_ret ?_
    obtain rfl := Option.some.inj H
    exact And.intro (.inl rfl) rfl
  · refine ite_f c3 (by kernel_rfl) ?_
    refine seq_ops [] [] [(1, cI p1), (2, cI p2), (7, cI v1), (15, cB (decide (p2 < 3)))] [] (fun t => t) (by kernel_rfl) ?_
    rcases ofCond H with ⟨c4, H⟩ | ⟨c4, H⟩
    · refine ite_t c4 (by kernel_rfl) ?_
      refine seq_ops [] [] [(6, cI (W ((W (3 * p1)) + p2)))] [] (fun t => t) (by kernel_rfl) ?_
      refine ends_ret ?_
      obtain rfl := Option.some.inj H
      exact And.intro (.inl rfl) rfl
    · refine ite_f c4 (by kernel_rfl) ?_
      refine ends_skip ?_
      change EndsI _ _ _ _ _ _
      refine seq_ops [] [] [(6, cI (W ((W ((W (3 * v1)) + p2)) - 3)))] [] (fun t => t) (by kernel_rfl) ?_
      refine ends_ret ?_
      obtain rfl := Option.some.inj H
      exact And.intro (.inl rfl) rfl

def g_Index_int_ir : S :=
 (.seq (.ops [⟨some 4, .mv (.v (.int .i64 0)), none⟩])
 (.seq (.seq (.ops [⟨some 6, .mv (.t 0), none⟩, ⟨some 7, .len (.t 6), none⟩, ⟨some 8, .mv (.v (.int .i64 0)), none⟩])
 (.blk 0 (.loop (.seq (.ops [⟨some 9, .bin .lss (.t 8) (.t 7), none⟩])
   (.seq (.ite (.t 9) .skip
   (.exit 0))
   (.seq (.blk 1 (.seq (.ops [⟨some 10, .mv (.t 8), none⟩, ⟨some 5, .mv (.t 10), none⟩])
    (.seq (.ops [⟨some 11, .mv (.t 1), none⟩, ⟨some 12, .mv (.t 0), none⟩, ⟨some 13, .mv (.t 5), none⟩, ⟨some 14, .iad 1 (.t 12) (.t 13), none⟩, ⟨some 15, .load 1 false (.t 14), none⟩, ⟨some 16, .bin .eql (.t 11) (.t 15), none⟩])
    (.ite (.t 16) (.seq (.ops [⟨some 17, .mv (.t 5), none⟩, ⟨some 4, .mv (.t 17), none⟩])
     .ret)
    .skip))))
   (.ops [⟨some 18, .bin .add (.t 8) (.v (.int .i64 1)), none⟩, ⟨some 8, .mv (.t 18), none⟩])))))))
 (.seq (.ops [⟨some 4, .mv (.v (.int .i64 (-1))), none⟩])
 .ret)))
noncomputable def X.g_Index_int (p0 : (List Int)) (p1 : Int) : Option Int :=
  ((loop (fun (x12 : Int) => ((bif (decide (x12 < (p0.length : Int))) then ((at' zI p0 x12).bind fun v15 => (bif (p1 == v15) then some (Sum.inr (Sum.inr x12)) else some (Sum.inl (W (x12 + 1))))) else some (Sum.inr (Sum.inl ()))) : Option (Int ⊕ (Unit ⊕ Int)))) 0).bind fun y18 => (Sum.elim (fun (y20 : Unit) => some (-1)) (fun (y21 : Int) => some y21) y18))
theorem g_Index_int_ok (p0 : (List Int)) (p1 : Int) (r : Int) (H : X.g_Index_int p0 p1 = some r) : FnOk Tryz.prog gl 202 [.c (dat 1 eI zI p0), cI p1] (cI r) := by
  unfold X.g_Index_int at H
  refine fn_in (fn := Tryz.f202) (ir := g_Index_int_ir) (s1 := lit [(4, cI r)] []) Tryz.func202 (by kernel_rfl) (by kernel_rfl) (by kernel_rfl) (by kernel_rfl) (by kernel_rfl) ?_
  refine seq_ops [] [] [(0, .c (dat 1 eI zI p0)), (1, cI p1)] [] (fun t => t) (by kernel_rfl) ?_
  refine seq_in ?_
  refine seq_ops [] [] [(0, .c (dat 1 eI zI p0)), (1, cI p1), (7, cI (p0.length : Int)), (8, cI 0)] [] (fun t => lI p0 (t)) (by kernel_rfl) ?_
  refine ends_blk ?_
  obtain ⟨y18, h19, H⟩ := ofBind H
  refine loop_in (fun (x : Int) => lit [(0, .c (dat 1 eI zI p0)), (1, cI p1), (7, cI (p0.length : Int)), (8, cI x)] []) (orJ (fun (z : Unit) => At (.exit 0) (lit [] [])) (fun (z : Int) => At .ret (lit [(4, cI z)] []))) h19 ?_ ?_
  · clear H h19
    intro x12 y0 H
    refine seq_ops [] [] [(0, .c (dat 1 eI zI p0)), (1, cI p1), (7, cI (p0.length : Int)), (8, cI x12), (9, cB (decide (x12 < (p0.length : Int))))] [] (fun t => t) (by kernel_rfl) ?_
    refine seq_in ?_
    rcases ofCond H with ⟨c14, H⟩ | ⟨c14, H⟩
    · refine ite_t c14 (by kernel_rfl) ?_
      refine ends_skip ?_
      change EndsI _ _ _ _ _ _
      refine seq_in ?_
      refine ends_blk ?_
      refine seq_ops [] [] [(0, .c (dat 1 eI zI p0)), (1, cI p1), (5, cI x12), (7, cI (p0.length : Int)), (8, cI x12)] [] (fun t => t) (by kernel_rfl) ?_
      obtain ⟨v15, h16, H⟩ := ofBind H
      refine seq_ops [.cs (eI v15)] [] [(0, .c (dat 1 eI zI p0)), (1, cI p1), (5, cI x12), (7, cI (p0.length : Int)), (8, cI x12), (16, cB (p1 == v15))] [] (fun t => aI (at_lt h16) (aI (at_enc (enc := eI) h16) (t))) (by kernel_rfl) ?_
      rcases ofCond H with ⟨c17, H⟩ | ⟨c17, H⟩
      · refine ite_t c17 (by kernel_rfl) ?_
        refine seq_ops [] [] [(4, cI x12)] [] (fun t => t) (by kernel_rfl) ?_
        refine ends_ret ?_
        obtain rfl := Option.some.inj H
        exact And.intro (by simp) (And.intro rfl rfl)
      · refine ite_f c17 (by kernel_rfl) ?_
        refine ends_skip ?_
        change EndsI _ _ _ _ _ _
        refine one_ops [] [] [(0, .c (dat 1 eI zI p0)), (1, cI p1), (7, cI (p0.length : Int)), (8, cI (W (x12 + 1)))] [] (fun t => t) (by kernel_rfl) ?_
        obtain rfl := Option.some.inj H
        exact And.intro rfl rfl
    · refine ite_f c14 (by kernel_rfl) ?_
      refine tell [] [] [] (fun t => t) (by kernel_rfl) ?_
      refine ends_exit ?_
      obtain rfl := Option.some.inj H
      exact And.intro (by simp) (And.intro rfl rfl)
  · clear h19
    cases y18 with
    | inl y20 =>
      replace H := ofInl H
      intro e s q
      obtain ⟨rfl, rfl⟩ := q
      change EndsI _ _ _ _ _ _
      refine seq_ops [] [] [(4, cI (-1))] [] (fun t => t) (by kernel_rfl) ?_
      refine ends_ret ?_
      obtain rfl := Option.some.inj H
      exact And.intro (.inl rfl) rfl
    | inr y21 =>
      replace H := ofInr H
      intro e s q
      obtain ⟨rfl, rfl⟩ := q
      obtain rfl := Option.some.inj H
      exact And.intro (.inl rfl) rfl

def g_Contains_int_ir : S :=
 (.seq (.ops [⟨some 4, .mv (.v (.bool false)), none⟩])
 (.seq (.ops [⟨some 5, .mv (.t 0), none⟩, ⟨some 6, .mv (.t 1), none⟩, ⟨some 7, .call 202 [.t 5, .t 6], none⟩, ⟨some 8, .bin .geq (.t 7) (.v (.int .i64 0)), none⟩, ⟨some 4, .mv (.t 8), none⟩])
 .ret))
noncomputable def X.g_Contains_int (p0 : (List Int)) (p1 : Int) : Option Bool :=
  ((X.g_Index_int p0 p1).bind fun v1 => some (decide (v1 ≥ 0)))
theorem g_Contains_int_ok (p0 : (List Int)) (p1 : Int) (r : Bool) (H : X.g_Contains_int p0 p1 = some r) : FnOk Tryz.prog gl 142 [.c (dat 1 eI zI p0), cI p1] (cB r) := by
  unfold X.g_Contains_int at H
  refine fn_in (fn := Tryz.f142) (ir := g_Contains_int_ir) (s1 := lit [(4, cB r)] []) Tryz.func142 (by kernel_rfl) (by kernel_rfl) (by kernel_rfl) (by kernel_rfl) (by kernel_rfl) ?_
  refine seq_ops [] [] [(0, .c (dat 1 eI zI p0)), (1, cI p1)] [] (fun t => t) (by kernel_rfl) ?_
  obtain ⟨v1, h2, H⟩ := ofBind H
  refine seq_ops [.res (cI v1)] [] [(4, cB (decide (v1 ≥ 0)))] [] (fun t => aI (g_Index_int_ok p0 p1 v1 h2) (t)) (by kernel_rfl) ?_
  refine ends_ret ?_
  obtain rfl := Option.some.inj H
  exact And.intro (.inl rfl) rfl

def i_crossesFreely_ir : S :=
 (.seq (.ops [⟨some 2, .box 5 (.t 0), none⟩, ⟨some 4, .mv (.v (.bool false)), none⟩])
 (.seq (.ops [⟨some 5, .fad 3 (.t 2), none⟩, ⟨some 6, .load 1 false (.t 5), none⟩, ⟨some 7, .mv (.t 1), none⟩, ⟨some 8, .call 142 [.t 6, .t 7], none⟩, ⟨some 9, .not (.t 8), none⟩, ⟨some 10, .mv (.t 9), none⟩, ⟨some 11, .fad 4 (.t 2), some (10, false)⟩, ⟨some 12, .load 1 false (.t 11), some (10, false)⟩, ⟨some 13, .mv (.t 1), some (10, false)⟩, ⟨some 14, .call 142 [.t 12, .t 13], some (10, false)⟩, ⟨some 15, .pick (.t 10) (.v (.bool true)) (.t 14), none⟩, ⟨some 4, .mv (.t 15), none⟩])
 .ret))
noncomputable def X.i_crossesFreely (p0 : TMap) (p1 : Int) : Option Bool :=
  ((X.g_Contains_int p0.Rivers p1).bind fun v1 => (bif (!v1) then some true else ((X.g_Contains_int p0.Roads p1).bind fun v4 => some v4)))
theorem i_crossesFreely_ok (p0 : TMap) (p1 : Int) (r : Bool) (H : X.i_crossesFreely p0 p1 = some r) : FnOk Tryz.prog gl 252 [.agg (eTMap p0), cI p1] (cB r) := by
  unfold X.i_crossesFreely at H
  refine fn_in (fn := Tryz.f252) (ir := i_crossesFreely_ir) (s1 := lit [(4, cB r)] []) Tryz.func252 (by kernel_rfl) (by kernel_rfl) (by kernel_rfl) (by kernel_rfl) (by kernel_rfl) ?_
  refine seq_ops [] [] [(1, cI p1), (2, .c (.pk 2 0))] [(2, .var (eTMap p0) false)] (fun t => t) (by kernel_rfl) ?_
  obtain ⟨v1, h2, H⟩ := ofBind H
  rcases ofCond H with ⟨c3, H⟩ | ⟨c3, H⟩
  · refine seq_ops [.res (cB v1), .g true, .g true, .g true, .g true, .g true] [] [(4, cB true)] [] (fun t => aI (g_Contains_int_ok p0.Rivers p1 v1 h2) (aI c3 (aI c3 (aI c3 (aI c3 (aI c3 (t))))))) (by kernel_rfl) ?_
    refine ends_ret ?_
    obtain rfl := Option.some.inj H
    exact And.intro (.inl rfl) rfl
  · obtain ⟨v4, h5, H⟩ := ofBind H
    refine seq_ops [.res (cB v1), .g false, .g false, .g false, .g false, .res (cB v4), .g false] [] [(4, cB v4)] [] (fun t => aI (g_Contains_int_ok p0.Rivers p1 v1 h2) (aI c3 (aI c3 (aI c3 (aI c3 (aI (g_Contains_int_ok p0.Roads p1 v4 h5) (aI c3 (t)))))))) (by kernel_rfl) ?_
    refine ends_ret ?_
    obtain rfl := Option.some.inj H
    exact And.intro (.inl rfl) rfl

def i_controls_ir : S :=
 (.seq (.ops [⟨some 3, .box 12 (.t 0), none⟩, ⟨some 4, .box 4 (.t 1), none⟩, ⟨some 6, .mv (.v (.bool false)), none⟩])
 (.seq (.seq (.ops [⟨some 8, .fad 2 (.t 4), none⟩, ⟨some 9, .load 1 false (.t 8), none⟩, ⟨some 10, .bin .lss (.t 9) (.v (.int .i64 0)), none⟩, ⟨some 11, .mv (.t 10), none⟩, ⟨some 12, .fad 0 (.t 3), some (11, false)⟩, ⟨some 13, .fad 1 (.t 12), some (11, false)⟩, ⟨some 14, .load 1 false (.t 13), some (11, false)⟩, ⟨some 15, .fad 1 (.t 4), some (11, false)⟩, ⟨some 16, .load 1 false (.t 15), some (11, false)⟩, ⟨some 17, .iad 6 (.t 14) (.t 16), some (11, false)⟩, ⟨some 18, .fad 4 (.t 17), some (11, false)⟩, ⟨some 19, .load 1 false (.t 18), some (11, false)⟩, ⟨some 20, .not (.t 19), some (11, false)⟩, ⟨some 21, .pick (.t 11) (.v (.bool true)) (.t 20), none⟩, ⟨some 22, .mv (.t 21), none⟩, ⟨some 23, .load 12 true (.t 3), some (22, false)⟩, ⟨some 24, .fad 1 (.t 4), some (22, false)⟩, ⟨some 25, .load 1 false (.t 24), some (22, false)⟩, ⟨some 26, .mv (.t 2), some (22, false)⟩, ⟨some 27, .call 143 [.t 23, .t 25, .t 26], some (22, false)⟩, ⟨some 28, .bin .eql (.t 27) (.v (.int .i64 0)), some (22, false)⟩, ⟨some 29, .pick (.t 22) (.v (.bool true)) (.t 28), none⟩])
 (.ite (.t 29) (.seq (.ops [⟨some 6, .mv (.v (.bool false)), none⟩])
  .ret)
 .skip))
 (.seq (.seq (.ops [⟨some 30, .mv (.v (.int .i64 0)), none⟩])
 (.blk 0 (.loop (.seq (.ops [⟨some 31, .bin .lss (.t 30) (.v (.int .i64 6)), none⟩])
   (.seq (.ite (.t 31) .skip
   (.exit 0))
   (.seq (.blk 1 (.seq (.ops [⟨some 32, .mv (.t 30), none⟩, ⟨some 7, .mv (.t 32), none⟩])
    (.seq (.ops [⟨some 33, .fad 7 (.t 3), none⟩, ⟨some 34, .load 5 true (.t 33), none⟩, ⟨some 35, .fad 2 (.t 4), none⟩, ⟨some 36, .load 1 false (.t 35), none⟩, ⟨some 37, .mv (.t 7), none⟩, ⟨some 38, .call 158 [.t 34, .t 36, .t 37], none⟩, ⟨some 39, .mv (.t 2), none⟩, ⟨some 40, .bin .eql (.t 38) (.t 39), none⟩])
    (.ite (.t 40) (.seq (.draw 10 [⟨some 41, .fad 7 (.t 3), none⟩, ⟨some 42, .load 5 true (.t 41), none⟩, ⟨some 43, .fad 7 (.t 3), none⟩, ⟨some 44, .load 5 true (.t 43), none⟩, ⟨some 45, .fad 2 (.t 4), none⟩, ⟨some 46, .load 1 false (.t 45), none⟩, ⟨some 47, .mv (.t 7), none⟩, ⟨some 48, .call 240 [.t 44, .t 46, .t 47], none⟩, ⟨some 49, .call 252 [.t 42, .t 48], none⟩, ⟨some 6, .mv (.t 49), none⟩])
     .ret)
    .skip))))
   (.ops [⟨some 50, .bin .add (.t 30) (.v (.int .i64 1)), none⟩, ⟨some 30, .mv (.t 50), none⟩])))))))
 (.seq (.ops [⟨some 6, .mv (.v (.bool false)), none⟩])
 .ret))))
noncomputable def X.i_controls (p0 : TBoard) (p1 : TUnit) (p2 : Int) : Option Bool :=
  (bif (decide (p1.At < 0)) then some false else ((at' zTKind p0.Rules.Kinds p1.Kind).bind fun v9 => (bif (!v9.Zone) then some false else ((X.i_enterCost p0 p1.Kind p2).bind fun v12 => (bif (v12 == 0) then some false else ((loop (fun (x34 : Int) => ((bif (decide (x34 < 6)) then ((X.i_nextTo p0.Map p1.At x34).bind fun v37 => (bif (v37 == p2) then ((X.i_edgeOf p0.Map p1.At x34).bind fun v40 => ((X.i_crossesFreely p0.Map v40).bind fun v42 => some (Sum.inr (Sum.inr v42)))) else some (Sum.inl (W (x34 + 1))))) else some (Sum.inr (Sum.inl ()))) : Option (Int ⊕ (Unit ⊕ Bool)))) 0).bind fun y44 => (Sum.elim (fun (y46 : Unit) => some false) (fun (y47 : Bool) => some y47) y44)))))))
theorem i_controls_ok (p0 : TBoard) (p1 : TUnit) (p2 : Int) (r : Bool) (H : X.i_controls p0 p1 p2 = some r) : FnOk Tryz.prog gl 238 [.agg (eTBoard p0), .agg (eTUnit p1), cI p2] (cB r) := by
  unfold X.i_controls at H
  refine fn_in (fn := Tryz.f238) (ir := i_controls_ir) (s1 := lit [(6, cB r)] []) Tryz.func238 (by kernel_rfl) (by kernel_rfl) (by kernel_rfl) (by kernel_rfl) (by kernel_rfl) ?_
  refine seq_ops [] [] [(2, cI p2), (3, .c (.pk 3 0)), (4, .c (.pk 4 0))] [(3, .var (eTBoard p0) false), (4, .var (eTUnit p1) false)] (fun t => t) (by kernel_rfl) ?_
  refine seq_in ?_
  rcases ofCond H with ⟨c8, H⟩ | ⟨c8, H⟩
  · refine seq_ops [.g true, .g true, .g true, .g true, .g true, .g true, .g true, .g true, .g true, .g true, .g true, .g true, .g true, .g true, .g true, .g true, .g true] [] [(2, cI p2), (3, .c (.pk 3 0)), (4, .c (.pk 4 0)), (29, cB true)] [(3, .var (eTBoard p0) false), (4, .var (eTUnit p1) false)] (fun t => aI c8 (aI c8 (aI c8 (aI c8 (aI c8 (aI c8 (aI c8 (aI c8 (aI c8 (aI c8 (aI (rfl : (true : Bool) = true) (aI (rfl : (true : Bool) = true) (aI (rfl : (true : Bool) = true) (aI (rfl : (true : Bool) = true) (aI (rfl : (true : Bool) = true) (aI (rfl : (true : Bool) = true) (aI (rfl : (true : Bool) = true) (t)))))))))))))))))) (by kernel_rfl) ?_
    refine ite_t (rfl : (true : Bool) = true) (by kernel_rfl) ?_
    refine seq_ops [] [] [(6, cB false)] [] (fun t => t) (by kernel_rfl) ?_
    refine ends_ret ?_
    obtain rfl := Option.some.inj H
    exact And.intro (.inl rfl) rfl
  · obtain ⟨v9, h10, H⟩ := ofBind H
    rcases ofCond H with ⟨c11, H⟩ | ⟨c11, H⟩
    · refine seq_ops [.g false, .g false, .g false, .g false, .g false, .g false, .cs (eTKind v9), .g false, .g false, .g false, .g false, .g true, .g true, .g true, .g true, .g true, .g true, .g true] [] [(2, cI p2), (3, .c (.pk 3 0)), (4, .c (.pk 4 0)), (29, cB true)] [(3, .var (eTBoard p0) false), (4, .var (eTUnit p1) false)] (fun t => aI c8 (aI c8 (aI c8 (aI c8 (aI c8 (aI c8 (aI (at_lt h10) (aI (at_enc (enc := eTKind) h10) (aI c8 (aI c8 (aI c8 (aI c8 (aI c11 (aI c11 (aI c11 (aI c11 (aI c11 (aI c11 (aI c11 (t)))))))))))))))))))) (by kernel_rfl) ?_
      refine ite_t (rfl : (true : Bool) = true) (by kernel_rfl) ?_
      refine seq_ops [] [] [(6, cB false)] [] (fun t => t) (by kernel_rfl) ?_
      refine ends_ret ?_
      obtain rfl := Option.some.inj H
      exact And.intro (.inl rfl) rfl
    · obtain ⟨v12, h13, H⟩ := ofBind H
      refine seq_ops [.g false, .g false, .g false, .g false, .g false, .g false, .cs (eTKind v9), .g false, .g false, .g false, .g false, .g false, .g false, .g false, .g false, .g false, .res (cI v12), .g false, .g false] [] [(2, cI p2), (3, .c (.pk 3 0)), (4, .c (.pk 4 0)), (29, cB (v12 == 0))] [(3, .var (eTBoard p0) false), (4, .var (eTUnit p1) false)] (fun t => aI c8 (aI c8 (aI c8 (aI c8 (aI c8 (aI c8 (aI (at_lt h10) (aI (at_enc (enc := eTKind) h10) (aI c8 (aI c8 (aI c8 (aI c8 (aI c11 (aI c11 (aI c11 (aI c11 (aI c11 (aI (i_enterCost_ok p0 p1.Kind p2 v12 h13) (aI c11 (aI c11 (t))))))))))))))))))))) (by kernel_rfl) ?_
      rcases ofCond H with ⟨c14, H⟩ | ⟨c14, H⟩
      · refine ite_t c14 (by kernel_rfl) ?_
        refine seq_ops [] [] [(6, cB false)] [] (fun t => t) (by kernel_rfl) ?_
        refine ends_ret ?_
        obtain rfl := Option.some.inj H
        exact And.intro (.inl rfl) rfl
      · refine ite_f c14 (by kernel_rfl) ?_
        refine ends_skip ?_
        change EndsI _ _ _ _ _ _
        refine seq_in ?_
        refine seq_ops [] [] [(2, cI p2), (3, .c (.pk 3 0)), (4, .c (.pk 4 0)), (30, cI 0)] [(3, .var (eTBoard p0) false), (4, .var (eTUnit p1) false)] (fun t => t) (by kernel_rfl) ?_
        refine ends_blk ?_
        obtain ⟨y44, h45, H⟩ := ofBind H
        refine loop_in (fun (x : Int) => lit [(2, cI p2), (3, .c (.pk 3 0)), (4, .c (.pk 4 0)), (30, cI x)] [(3, .var (eTBoard p0) false), (4, .var (eTUnit p1) false)]) (orJ (fun (z : Unit) => At (.exit 0) (lit [] [])) (fun (z : Bool) => At .ret (lit [(6, cB z)] []))) h45 ?_ ?_
        · clear H h45
          intro x34 y0 H
          refine seq_ops [] [] [(2, cI p2), (3, .c (.pk 3 0)), (4, .c (.pk 4 0)), (30, cI x34), (31, cB (decide (x34 < 6)))] [(3, .var (eTBoard p0) false), (4, .var (eTUnit p1) false)] (fun t => t) (by kernel_rfl) ?_
          refine seq_in ?_
          rcases ofCond H with ⟨c36, H⟩ | ⟨c36, H⟩
          · refine ite_t c36 (by kernel_rfl) ?_
            refine ends_skip ?_
            change EndsI _ _ _ _ _ _
            refine seq_in ?_
            refine ends_blk ?_
            refine seq_ops [] [] [(2, cI p2), (3, .c (.pk 3 0)), (4, .c (.pk 4 0)), (7, cI x34), (30, cI x34)] [(3, .var (eTBoard p0) false), (4, .var (eTUnit p1) false)] (fun t => t) (by kernel_rfl) ?_
            obtain ⟨v37, h38, H⟩ := ofBind H
            refine seq_ops [.res (cI v37)] [] [(2, cI p2), (3, .c (.pk 3 0)), (4, .c (.pk 4 0)), (7, cI x34), (30, cI x34), (40, cB (v37 == p2))] [(3, .var (eTBoard p0) false), (4, .var (eTUnit p1) false)] (fun t => aI (i_nextTo_ok p0.Map p1.At x34 v37 h38) (t)) (by kernel_rfl) ?_
            rcases ofCond H with ⟨c39, H⟩ | ⟨c39, H⟩
            · refine ite_t c39 (by kernel_rfl) ?_
              obtain ⟨v40, h41, H⟩ := ofBind H
              obtain ⟨v42, h43, H⟩ := ofBind H
              refine seq_draw [.res (cI v40), .res (cB v42)] [] [(6, cB v42)] [] (fun t => aI (i_edgeOf_ok p0.Map p1.At x34 v40 h41) (aI trivial (aI (rfl : ([] : List Nat) = []) (aI (i_crossesFreely_ok p0.Map v40 v42 h43) (aI trivial (aI (rfl : ([] : List Nat) = []) (t))))))) (by kernel_rfl) ?_
              refine ends_ret ?_
              obtain rfl := Option.some.inj H
              exact And.intro (by simp) (And.intro rfl rfl)
            · refine ite_f c39 (by kernel_rfl) ?_
              refine ends_skip ?_
              change EndsI _ _ _ _ _ _
              refine one_ops [] [] [(2, cI p2), (3, .c (.pk 3 0)), (4, .c (.pk 4 0)), (30, cI (W (x34 + 1)))] [(3, .var (eTBoard p0) false), (4, .var (eTUnit p1) false)] (fun t => t) (by kernel_rfl) ?_
              obtain rfl := Option.some.inj H
              exact And.intro rfl rfl
          · refine ite_f c36 (by kernel_rfl) ?_
            refine tell [] [] [] (fun t => t) (by kernel_rfl) ?_
            refine ends_exit ?_
            obtain rfl := Option.some.inj H
            exact And.intro (by simp) (And.intro rfl rfl)
        · clear h45
          cases y44 with
          | inl y46 =>
            replace H := ofInl H
            intro e s q
            obtain ⟨rfl, rfl⟩ := q
            change EndsI _ _ _ _ _ _
            refine seq_ops [] [] [(6, cB false)] [] (fun t => t) (by kernel_rfl) ?_
            refine ends_ret ?_
            obtain rfl := Option.some.inj H
            exact And.intro (.inl rfl) rfl
          | inr y47 =>
            replace H := ofInr H
            intro e s q
            obtain ⟨rfl, rfl⟩ := q
            obtain rfl := Option.some.inj H
            exact And.intro (.inl rfl) rfl

def i_inZone_ir : S :=
 (.seq (.ops [⟨some 4, .box 12 (.t 0), none⟩, ⟨some 5, .box 3 (.t 1), none⟩, ⟨some 8, .mv (.v (.bool false)), none⟩])
 (.seq (.seq (.ops [⟨some 11, .fad 2 (.t 5), none⟩, ⟨some 12, .load 1 false (.t 11), none⟩, ⟨some 13, .len (.t 12), none⟩, ⟨some 14, .mv (.v (.int .i64 0)), none⟩])
 (.blk 0 (.loop (.seq (.ops [⟨some 15, .bin .lss (.t 14) (.t 13), none⟩])
   (.seq (.ite (.t 15) .skip
   (.exit 0))
   (.seq (.blk 1 (.seq (.ops [⟨some 16, .iad 4 (.t 12) (.t 14), none⟩, ⟨some 17, .load 4 true (.t 16), none⟩, ⟨some 10, .alloc [.int .i64 0, .int .i64 0, .int .i64 0, .int .i64 0], none⟩, ⟨none, .store 4 (.t 10) (.t 17), none⟩])
    (.seq (.ops [⟨some 18, .fad 0 (.t 10), none⟩, ⟨some 19, .load 1 false (.t 18), none⟩, ⟨some 20, .mv (.t 2), none⟩, ⟨some 21, .bin .eql (.t 19) (.t 20), none⟩, ⟨some 22, .mv (.t 21), none⟩, ⟨some 23, .load 12 true (.t 4), some (22, true)⟩, ⟨some 24, .load 4 true (.t 10), some (22, true)⟩, ⟨some 25, .mv (.t 3), some (22, true)⟩, ⟨some 26, .call 238 [.t 23, .t 24, .t 25], some (22, true)⟩, ⟨some 27, .pick (.t 22) (.t 26) (.v (.bool false)), none⟩])
    (.ite (.t 27) (.seq (.ops [⟨some 8, .mv (.v (.bool true)), none⟩])
     .ret)
    .skip))))
   (.ops [⟨some 28, .bin .add (.t 14) (.v (.int .i64 1)), none⟩, ⟨some 14, .mv (.t 28), none⟩])))))))
 (.seq (.ops [⟨some 8, .mv (.v (.bool false)), none⟩])
 .ret)))
noncomputable def X.i_inZone (p0 : TBoard) (p1 : TState) (p2 : Int) (p3 : Int) : Option Bool :=
  ((loop (fun (x18 : Int) => ((bif (decide (x18 < (p1.Units.length : Int))) then ((at' zTUnit p1.Units x18).bind fun v21 => (bif (v21.Side == p2) then ((X.i_controls p0 v21 p3).bind fun v24 => (bif v24 then some (Sum.inr (Sum.inr true)) else some (Sum.inl (W (x18 + 1))))) else some (Sum.inl (W (x18 + 1))))) else some (Sum.inr (Sum.inl ()))) : Option (Int ⊕ (Unit ⊕ Bool)))) 0).bind fun y27 => (Sum.elim (fun (y29 : Unit) => some false) (fun (y30 : Bool) => some y30) y27))
theorem i_inZone_ok (p0 : TBoard) (p1 : TState) (p2 : Int) (p3 : Int) (r : Bool) (H : X.i_inZone p0 p1 p2 p3 = some r) : FnOk Tryz.prog gl 218 [.agg (eTBoard p0), .agg (eTState p1), cI p2, cI p3] (cB r) := by
  unfold X.i_inZone at H
  refine fn_in (fn := Tryz.f218) (ir := i_inZone_ir) (s1 := lit [(8, cB r)] []) Tryz.func218 (by kernel_rfl) (by kernel_rfl) (by kernel_rfl) (by kernel_rfl) (by kernel_rfl) ?_
  refine seq_ops [] [] [(2, cI p2), (3, cI p3), (4, .c (.pk 4 0)), (5, .c (.pk 5 0))] [(4, .var (eTBoard p0) false), (5, .var (eTState p1) false)] (fun t => t) (by kernel_rfl) ?_
  refine seq_in ?_
  refine seq_ops [] [] [(2, cI p2), (3, cI p3), (4, .c (.pk 4 0)), (12, .c (dat 4 eTUnit zTUnit p1.Units)), (13, cI (p1.Units.length : Int)), (14, cI 0)] [(4, .var (eTBoard p0) false)] (fun t => lI p1.Units (t)) (by kernel_rfl) ?_
  refine ends_blk ?_
  obtain ⟨y27, h28, H⟩ := ofBind H
  refine loop_in (fun (x : Int) => lit [(2, cI p2), (3, cI p3), (4, .c (.pk 4 0)), (12, .c (dat 4 eTUnit zTUnit p1.Units)), (13, cI (p1.Units.length : Int)), (14, cI x)] [(4, .var (eTBoard p0) false)]) (orJ (fun (z : Unit) => At (.exit 0) (lit [] [])) (fun (z : Bool) => At .ret (lit [(8, cB z)] []))) h28 ?_ ?_
  · clear H h28
    intro x18 y0 H
    refine seq_ops [] [] [(2, cI p2), (3, cI p3), (4, .c (.pk 4 0)), (12, .c (dat 4 eTUnit zTUnit p1.Units)), (13, cI (p1.Units.length : Int)), (14, cI x18), (15, cB (decide (x18 < (p1.Units.length : Int))))] [(4, .var (eTBoard p0) false)] (fun t => t) (by kernel_rfl) ?_
    refine seq_in ?_
    rcases ofCond H with ⟨c20, H⟩ | ⟨c20, H⟩
    · refine ite_t c20 (by kernel_rfl) ?_
      refine ends_skip ?_
      change EndsI _ _ _ _ _ _
      refine seq_in ?_
      refine ends_blk ?_
      obtain ⟨v21, h22, H⟩ := ofBind H
      refine seq_ops [.cs (eTUnit v21)] [] [(2, cI p2), (3, cI p3), (4, .c (.pk 4 0)), (10, .c (.pk 10 0)), (12, .c (dat 4 eTUnit zTUnit p1.Units)), (13, cI (p1.Units.length : Int)), (14, cI x18)] [(4, .var (eTBoard p0) false), (10, .var (eTUnit v21) false)] (fun t => aI (at_lt h22) (aI (at_enc (enc := eTUnit) h22) (t))) (by kernel_rfl) ?_
      rcases ofCond H with ⟨c23, H⟩ | ⟨c23, H⟩
      · obtain ⟨v24, h25, H⟩ := ofBind H
        refine seq_ops [.g true, .g true, .g true, .g true, .res (cB v24), .g true] [] [(2, cI p2), (3, cI p3), (4, .c (.pk 4 0)), (12, .c (dat 4 eTUnit zTUnit p1.Units)), (13, cI (p1.Units.length : Int)), (14, cI x18), (27, cB v24)] [(4, .var (eTBoard p0) false)] (fun t => aI c23 (aI c23 (aI c23 (aI c23 (aI (i_controls_ok p0 v21 p3 v24 h25) (aI c23 (t))))))) (by kernel_rfl) ?_
        rcases ofCond H with ⟨c26, H⟩ | ⟨c26, H⟩
        · refine ite_t c26 (by kernel_rfl) ?_
          refine seq_ops [] [] [(8, cB true)] [] (fun t => t) (by kernel_rfl) ?_
          refine ends_ret ?_
          obtain rfl := Option.some.inj H
          exact And.intro (by simp) (And.intro rfl rfl)
        · refine ite_f c26 (by kernel_rfl) ?_
          refine ends_skip ?_
          change EndsI _ _ _ _ _ _
          refine one_ops [] [] [(2, cI p2), (3, cI p3), (4, .c (.pk 4 0)), (12, .c (dat 4 eTUnit zTUnit p1.Units)), (13, cI (p1.Units.length : Int)), (14, cI (W (x18 + 1)))] [(4, .var (eTBoard p0) false)] (fun t => t) (by kernel_rfl) ?_
          obtain rfl := Option.some.inj H
          exact And.intro rfl rfl
      · refine seq_ops [.g false, .g false, .g false, .g false, .g false] [] [(2, cI p2), (3, cI p3), (4, .c (.pk 4 0)), (12, .c (dat 4 eTUnit zTUnit p1.Units)), (13, cI (p1.Units.length : Int)), (14, cI x18), (27, cB false)] [(4, .var (eTBoard p0) false)] (fun t => aI c23 (aI c23 (aI c23 (aI c23 (aI c23 (t)))))) (by kernel_rfl) ?_
        refine ite_f (rfl : (false : Bool) = false) (by kernel_rfl) ?_
        refine ends_skip ?_
        change EndsI _ _ _ _ _ _
        refine one_ops [] [] [(2, cI p2), (3, cI p3), (4, .c (.pk 4 0)), (12, .c (dat 4 eTUnit zTUnit p1.Units)), (13, cI (p1.Units.length : Int)), (14, cI (W (x18 + 1)))] [(4, .var (eTBoard p0) false)] (fun t => t) (by kernel_rfl) ?_
        obtain rfl := Option.some.inj H
        exact And.intro rfl rfl
    · refine ite_f c20 (by kernel_rfl) ?_
      refine tell [] [] [] (fun t => t) (by kernel_rfl) ?_
      refine ends_exit ?_
      obtain rfl := Option.some.inj H
      exact And.intro (by simp) (And.intro rfl rfl)
  · clear h28
    cases y27 with
    | inl y29 =>
      replace H := ofInl H
      intro e s q
      obtain ⟨rfl, rfl⟩ := q
      change EndsI _ _ _ _ _ _
      refine seq_ops [] [] [(8, cB false)] [] (fun t => t) (by kernel_rfl) ?_
      refine ends_ret ?_
      obtain rfl := Option.some.inj H
      exact And.intro (.inl rfl) rfl
    | inr y30 =>
      replace H := ofInr H
      intro e s q
      obtain ⟨rfl, rfl⟩ := q
      obtain rfl := Option.some.inj H
      exact And.intro (.inl rfl) rfl

def i_blockedFor_ir : S :=
 (.seq (.ops [⟨some 4, .box 12 (.t 0), none⟩, ⟨some 5, .box 3 (.t 1), none⟩, ⟨some 8, .mv (.v (.bool false)), none⟩])
 (.seq (.ops [⟨some 10, .load 3 true (.t 5), none⟩, ⟨some 11, .mv (.t 3), none⟩, ⟨some 12, .call 217 [.t 10, .t 11], none⟩, ⟨some 9, .mv (.t 12), none⟩])
 (.seq (.ops [⟨some 13, .mv (.t 9), none⟩, ⟨some 14, .mv (.t 2), none⟩, ⟨some 15, .bin .sub (.v (.int .i64 1)) (.t 14), none⟩, ⟨some 16, .bin .eql (.t 13) (.t 15), none⟩, ⟨some 17, .mv (.t 16), none⟩, ⟨some 18, .mv (.t 9), some (17, false)⟩, ⟨some 19, .mv (.t 2), some (17, false)⟩, ⟨some 20, .bin .neq (.t 18) (.t 19), some (17, false)⟩, ⟨some 21, .mv (.t 20), some (17, false)⟩, ⟨some 22, .load 12 true (.t 4), some (21, true)⟩, ⟨some 23, .load 3 true (.t 5), some (21, true)⟩, ⟨some 24, .mv (.t 2), some (21, true)⟩, ⟨some 25, .bin .sub (.v (.int .i64 1)) (.t 24), some (21, true)⟩, ⟨some 26, .mv (.t 3), some (21, true)⟩, ⟨some 27, .call 218 [.t 22, .t 23, .t 25, .t 26], some (21, true)⟩, ⟨some 28, .pick (.t 21) (.t 27) (.v (.bool false)), some (17, false)⟩, ⟨some 29, .pick (.t 17) (.v (.bool true)) (.t 28), none⟩, ⟨some 8, .mv (.t 29), none⟩])
 .ret)))
noncomputable def X.i_blockedFor (p0 : TBoard) (p1 : TState) (p2 : Int) (p3 : Int) : Option Bool :=
  ((X.i_ownerOf p1 p3).bind fun v1 => (bif (v1 == (W (1 - p2))) then some true else (bif (v1 != p2) then ((X.i_inZone p0 p1 (W (1 - p2)) p3).bind fun v5 => some v5) else some false)))
theorem i_blockedFor_ok (p0 : TBoard) (p1 : TState) (p2 : Int) (p3 : Int) (r : Bool) (H : X.i_blockedFor p0 p1 p2 p3 = some r) : FnOk Tryz.prog gl 250 [.agg (eTBoard p0), .agg (eTState p1), cI p2, cI p3] (cB r) := by
  unfold X.i_blockedFor at H
  refine fn_in (fn := Tryz.f250) (ir := i_blockedFor_ir) (s1 := lit [(8, cB r)] []) Tryz.func250 (by kernel_rfl) (by kernel_rfl) (by kernel_rfl) (by kernel_rfl) (by kernel_rfl) ?_
  refine seq_ops [] [] [(2, cI p2), (3, cI p3), (4, .c (.pk 4 0)), (5, .c (.pk 5 0))] [(4, .var (eTBoard p0) false), (5, .var (eTState p1) false)] (fun t => t) (by kernel_rfl) ?_
  obtain ⟨v1, h2, H⟩ := ofBind H
  refine seq_ops [.res (cI v1)] [] [(2, cI p2), (3, cI p3), (4, .c (.pk 4 0)), (5, .c (.pk 5 0)), (9, cI v1)] [(4, .var (eTBoard p0) false), (5, .var (eTState p1) false)] (fun t => aI (i_ownerOf_ok p1 p3 v1 h2) (t)) (by kernel_rfl) ?_
  rcases ofCond H with ⟨c3, H⟩ | ⟨c3, H⟩
  · refine seq_ops [.g true, .g true, .g true, .g true, .g true, .g true] [] [(8, cB true)] [] (fun t => aI c3 (aI c3 (aI c3 (aI c3 (aI c3 (aI c3 (t))))))) (by kernel_rfl) ?_
    refine ends_ret ?_
    obtain rfl := Option.some.inj H
    exact And.intro (.inl rfl) rfl
  · rcases ofCond H with ⟨c4, H⟩ | ⟨c4, H⟩
    · obtain ⟨v5, h6, H⟩ := ofBind H
      refine seq_ops [.g false, .g false, .g false, .g false, .g true, .g true, .g true, .g true, .g true, .g true, .res (cB v5), .g false, .g true, .g false] [] [(8, cB v5)] [] (fun t => aI c3 (aI c3 (aI c3 (aI c3 (aI c4 (aI c4 (aI c4 (aI c4 (aI c4 (aI c4 (aI (i_inZone_ok p0 p1 (W (1 - p2)) p3 v5 h6) (aI c3 (aI c4 (aI c3 (t))))))))))))))) (by kernel_rfl) ?_
      refine ends_ret ?_
      obtain rfl := Option.some.inj H
      exact And.intro (.inl rfl) rfl
    · refine seq_ops [.g false, .g false, .g false, .g false, .g false, .g false, .g false, .g false, .g false, .g false, .g false, .g false, .g false] [] [(8, cB false)] [] (fun t => aI c3 (aI c3 (aI c3 (aI c3 (aI c4 (aI c4 (aI c4 (aI c4 (aI c4 (aI c4 (aI c3 (aI c4 (aI c3 (t)))))))))))))) (by kernel_rfl) ?_
      refine ends_ret ?_
      obtain rfl := Option.some.inj H
      exact And.intro (.inl rfl) rfl

def i_openFor_ir : S :=
 (.seq (.ops [⟨some 4, .box 12 (.t 0), none⟩, ⟨some 5, .box 3 (.t 1), none⟩, ⟨some 8, .mv (.v (.nil)), none⟩])
 (.seq (.ops [⟨some 11, .bsl 1 [], none⟩, ⟨some 9, .mv (.t 11), none⟩])
 (.seq (.seq (.ops [⟨some 12, .fad 7 (.t 4), none⟩, ⟨some 13, .fad 2 (.t 12), none⟩, ⟨some 14, .load 1 false (.t 13), none⟩, ⟨some 15, .len (.t 14), none⟩, ⟨some 16, .mv (.v (.int .i64 0)), none⟩])
 (.blk 0 (.loop (.seq (.ops [⟨some 17, .bin .lss (.t 16) (.t 15), none⟩])
   (.seq (.ite (.t 17) .skip
   (.exit 0))
   (.seq (.blk 1 (.seq (.ops [⟨some 18, .mv (.t 16), none⟩, ⟨some 10, .mv (.t 18), none⟩])
    (.ops [⟨some 19, .mv (.t 9), none⟩, ⟨some 20, .load 12 true (.t 4), none⟩, ⟨some 21, .mv (.t 3), none⟩, ⟨some 22, .mv (.t 10), none⟩, ⟨some 23, .call 143 [.t 20, .t 21, .t 22], none⟩, ⟨some 24, .bin .neq (.t 23) (.v (.int .i64 0)), none⟩, ⟨some 25, .mv (.t 24), none⟩, ⟨some 26, .load 12 true (.t 4), some (25, true)⟩, ⟨some 27, .load 3 true (.t 5), some (25, true)⟩, ⟨some 28, .mv (.t 2), some (25, true)⟩, ⟨some 29, .mv (.t 10), some (25, true)⟩, ⟨some 30, .call 250 [.t 26, .t 27, .t 28, .t 29], some (25, true)⟩, ⟨some 31, .not (.t 30), some (25, true)⟩, ⟨some 32, .pick (.t 25) (.t 31) (.v (.bool false)), none⟩, ⟨some 33, .bsl 1 [.t 32], none⟩, ⟨some 34, .app 1 1 (.t 19) (.t 33), none⟩, ⟨some 9, .mv (.t 34), none⟩])))
   (.ops [⟨some 35, .bin .add (.t 16) (.v (.int .i64 1)), none⟩, ⟨some 16, .mv (.t 35), none⟩])))))))
 (.seq (.ops [⟨some 36, .mv (.t 9), none⟩, ⟨some 8, .mv (.t 36), none⟩])
 .ret))))
noncomputable def X.i_openFor (p0 : TBoard) (p1 : TState) (p2 : Int) (p3 : Int) : Option (List Bool) :=
  ((loop (fun (x20 : (Int × (List Bool))) => ((bif (decide (x20.1 < (p0.Map.Terrain.length : Int))) then ((X.i_enterCost p0 p3 x20.1).bind fun v23 => (bif (v23 != 0) then ((X.i_blockedFor p0 p1 p2 x20.1).bind fun v26 => (if (x20.2 ++ ([(!v26)] : List Bool)).length ≤ LIM then some (Sum.inl ((W (x20.1 + 1)), (x20.2 ++ ([(!v26)] : List Bool)))) else none)) else (if (x20.2 ++ ([false] : List Bool)).length ≤ LIM then some (Sum.inl ((W (x20.1 + 1)), (x20.2 ++ ([false] : List Bool)))) else none))) else some (Sum.inr x20.2)) : Option ((Int × (List Bool)) ⊕ (List Bool)))) (0, ([] : List Bool))).bind fun y30 => some y30)
theorem i_openFor_ok (p0 : TBoard) (p1 : TState) (p2 : Int) (p3 : Int) (r : (List Bool)) (H : X.i_openFor p0 p1 p2 p3 = some r) : FnOk Tryz.prog gl 236 [.agg (eTBoard p0), .agg (eTState p1), cI p2, cI p3] (.c (dat 1 eB zB r)) := by
  unfold X.i_openFor at H
  refine fn_in (fn := Tryz.f236) (ir := i_openFor_ir) (s1 := lit [(8, .c (dat 1 eB zB r))] []) Tryz.func236 (by kernel_rfl) (by kernel_rfl) (by kernel_rfl) (by kernel_rfl) (by kernel_rfl) ?_
  refine seq_ops [] [] [(2, cI p2), (3, cI p3), (4, .c (.pk 4 0)), (5, .c (.pk 5 0))] [(4, .var (eTBoard p0) false), (5, .var (eTState p1) false)] (fun t => t) (by kernel_rfl) ?_
  refine seq_ops [.fn ([] : List Bool).length (fF eB zB ([] : List Bool))] [] [(2, cI p2), (3, cI p3), (4, .c (.pk 4 0)), (5, .c (.pk 5 0)), (9, .c (.own 11 1 0 (([] : List Bool).length)))] [(4, .var (eTBoard p0) false), (5, .var (eTState p1) false), (11, .arr 1 (([] : List Bool).length) (fF eB zB ([] : List Bool)) false)] (fun t => aI (rfl : ([] : List Bool).length = 0) (aI (fF_lit eB zB ([] : List Bool)) (t))) (by kernel_rfl) ?_
  refine seq_in ?_
  refine seq_ops [] [] [(2, cI p2), (3, cI p3), (4, .c (.pk 4 0)), (5, .c (.pk 5 0)), (9, .c (.own 11 1 0 (([] : List Bool).length))), (15, cI (p0.Map.Terrain.length : Int)), (16, cI 0)] [(4, .var (eTBoard p0) false), (5, .var (eTState p1) false), (11, .arr 1 (([] : List Bool).length) (fF eB zB ([] : List Bool)) false)] (fun t => lI p0.Map.Terrain (t)) (by kernel_rfl) ?_
  refine ends_blk ?_
  obtain ⟨y30, h31, H⟩ := ofBind H
  refine tell [.ren 11 1001] [(2, cI p2), (3, cI p3), (4, .c (.pk 4 0)), (5, .c (.pk 5 0)), (9, .c (.own 1001 1 0 (([] : List Bool).length))), (15, cI (p0.Map.Terrain.length : Int)), (16, cI 0)] [(4, .var (eTBoard p0) false), (5, .var (eTState p1) false), (1001, .arr 1 (([] : List Bool).length) (fF eB zB ([] : List Bool)) false)] (fun t => t) (by kernel_rfl) ?_
  refine loop_in (fun (x : (Int × (List Bool))) => lit [(2, cI p2), (3, cI p3), (4, .c (.pk 4 0)), (5, .c (.pk 5 0)), (9, .c (.own 1001 1 0 x.2.length)), (15, cI (p0.Map.Terrain.length : Int)), (16, cI x.1)] [(4, .var (eTBoard p0) false), (5, .var (eTState p1) false), (1001, .arr 1 x.2.length (fF eB zB x.2) false)]) (fun (z : (List Bool)) => At (.exit 0) (lit [(9, .c (.own 1001 1 0 z.length))] [(1001, .arr 1 z.length (fF eB zB z) false)])) h31 ?_ ?_
  · clear H h31
    intro x20 y0 H
    refine seq_ops [] [] [(2, cI p2), (3, cI p3), (4, .c (.pk 4 0)), (5, .c (.pk 5 0)), (9, .c (.own 1001 1 0 x20.2.length)), (15, cI (p0.Map.Terrain.length : Int)), (16, cI x20.1), (17, cB (decide (x20.1 < (p0.Map.Terrain.length : Int))))] [(4, .var (eTBoard p0) false), (5, .var (eTState p1) false), (1001, .arr 1 x20.2.length (fF eB zB x20.2) false)] (fun t => t) (by kernel_rfl) ?_
    refine seq_in ?_
    rcases ofCond H with ⟨c22, H⟩ | ⟨c22, H⟩
    · refine ite_t c22 (by kernel_rfl) ?_
      refine ends_skip ?_
      change EndsI _ _ _ _ _ _
      refine seq_in ?_
      refine ends_blk ?_
      refine seq_ops [] [] [(2, cI p2), (3, cI p3), (4, .c (.pk 4 0)), (5, .c (.pk 5 0)), (9, .c (.own 1001 1 0 x20.2.length)), (10, cI x20.1), (15, cI (p0.Map.Terrain.length : Int)), (16, cI x20.1)] [(4, .var (eTBoard p0) false), (5, .var (eTState p1) false), (1001, .arr 1 x20.2.length (fF eB zB x20.2) false)] (fun t => t) (by kernel_rfl) ?_
      obtain ⟨v23, h24, H⟩ := ofBind H
      rcases ofCond H with ⟨c25, H⟩ | ⟨c25, H⟩
      · obtain ⟨v26, h27, H⟩ := ofBind H
        obtain ⟨g28, H⟩ := ofIf H
        refine one_ops [.res (cI v23), .g true, .g true, .g true, .g true, .g true, .res (cB v26), .g true, .g true, .fn ([(!v26)] : List Bool).length (fF eB zB ([(!v26)] : List Bool)), .fn (x20.2 ++ ([(!v26)] : List Bool)).length (fF eB zB (x20.2 ++ ([(!v26)] : List Bool)))] [] [(2, cI p2), (3, cI p3), (4, .c (.pk 4 0)), (5, .c (.pk 5 0)), (9, .c (.own 34 1 0 ((x20.2 ++ ([(!v26)] : List Bool)).length))), (15, cI (p0.Map.Terrain.length : Int)), (16, cI x20.1)] [(4, .var (eTBoard p0) false), (5, .var (eTState p1) false), (34, .arr 1 ((x20.2 ++ ([(!v26)] : List Bool)).length) (fF eB zB (x20.2 ++ ([(!v26)] : List Bool))) false)] (fun t => aI (i_enterCost_ok p0 p3 x20.1 v23 h24) (aI c25 (aI c25 (aI c25 (aI c25 (aI c25 (aI (i_blockedFor_ok p0 p1 p2 x20.1 v26 h27) (aI c25 (aI c25 (aI (rfl : ([(!v26)] : List Bool).length = 1) (aI (fF_lit eB zB ([(!v26)] : List Bool)) (aI (And.intro (Nat.le_refl x20.2.length) (And.intro (@List.length_append _ x20.2 ([(!v26)] : List Bool)) g28)) (aI (fF_appL eB zB x20.2 ([(!v26)] : List Bool)) (aI (fF_appR eB zB x20.2 ([(!v26)] : List Bool)) (t))))))))))))))) (by kernel_rfl) ?_
        change EndsI _ _ _ _ _ _
        refine one_ops [] [.ren 34 1001] [(2, cI p2), (3, cI p3), (4, .c (.pk 4 0)), (5, .c (.pk 5 0)), (9, .c (.own 1001 1 0 ((x20.2 ++ ([(!v26)] : List Bool)).length))), (15, cI (p0.Map.Terrain.length : Int)), (16, cI (W (x20.1 + 1)))] [(4, .var (eTBoard p0) false), (5, .var (eTState p1) false), (1001, .arr 1 ((x20.2 ++ ([(!v26)] : List Bool)).length) (fF eB zB (x20.2 ++ ([(!v26)] : List Bool))) false)] (fun t => t) (by kernel_rfl) ?_
        obtain rfl := Option.some.inj H
        exact And.intro rfl rfl
      · obtain ⟨g29, H⟩ := ofIf H
        refine one_ops [.res (cI v23), .g false, .g false, .g false, .g false, .g false, .g false, .g false, .fn ([false] : List Bool).length (fF eB zB ([false] : List Bool)), .fn (x20.2 ++ ([false] : List Bool)).length (fF eB zB (x20.2 ++ ([false] : List Bool)))] [] [(2, cI p2), (3, cI p3), (4, .c (.pk 4 0)), (5, .c (.pk 5 0)), (9, .c (.own 34 1 0 ((x20.2 ++ ([false] : List Bool)).length))), (15, cI (p0.Map.Terrain.length : Int)), (16, cI x20.1)] [(4, .var (eTBoard p0) false), (5, .var (eTState p1) false), (34, .arr 1 ((x20.2 ++ ([false] : List Bool)).length) (fF eB zB (x20.2 ++ ([false] : List Bool))) false)] (fun t => aI (i_enterCost_ok p0 p3 x20.1 v23 h24) (aI c25 (aI c25 (aI c25 (aI c25 (aI c25 (aI c25 (aI c25 (aI (rfl : ([false] : List Bool).length = 1) (aI (fF_lit eB zB ([false] : List Bool)) (aI (And.intro (Nat.le_refl x20.2.length) (And.intro (@List.length_append _ x20.2 ([false] : List Bool)) g29)) (aI (fF_appL eB zB x20.2 ([false] : List Bool)) (aI (fF_appR eB zB x20.2 ([false] : List Bool)) (t)))))))))))))) (by kernel_rfl) ?_
        change EndsI _ _ _ _ _ _
        refine one_ops [] [.ren 34 1001] [(2, cI p2), (3, cI p3), (4, .c (.pk 4 0)), (5, .c (.pk 5 0)), (9, .c (.own 1001 1 0 ((x20.2 ++ ([false] : List Bool)).length))), (15, cI (p0.Map.Terrain.length : Int)), (16, cI (W (x20.1 + 1)))] [(4, .var (eTBoard p0) false), (5, .var (eTState p1) false), (1001, .arr 1 ((x20.2 ++ ([false] : List Bool)).length) (fF eB zB (x20.2 ++ ([false] : List Bool))) false)] (fun t => t) (by kernel_rfl) ?_
        obtain rfl := Option.some.inj H
        exact And.intro rfl rfl
    · refine ite_f c22 (by kernel_rfl) ?_
      refine tell [] [(9, .c (.own 1001 1 0 x20.2.length))] [(1001, .arr 1 x20.2.length (fF eB zB x20.2) false)] (fun t => t) (by kernel_rfl) ?_
      refine ends_exit ?_
      obtain rfl := Option.some.inj H
      exact And.intro (by simp) (And.intro rfl rfl)
  · clear h31
    intro e s q
    obtain ⟨rfl, rfl⟩ := q
    change EndsI _ _ _ _ _ _
    refine seq_ops [] [] [(8, .c (.own 1001 1 0 y30.length))] [(1001, .arr 1 y30.length (fF eB zB y30) false)] (fun t => t) (by kernel_rfl) ?_
    refine tell [.frz 8] [(8, .c (dat 1 eB zB y30))] [] (fun t => aI (Nat.le_refl y30.length) (t)) (by kernel_rfl) ?_
    refine ends_ret ?_
    obtain rfl := Option.some.inj H
    exact And.intro (.inl rfl) rfl

def i_wayOf_ir : S :=
 (.seq (.ops [⟨some 4, .box 12 (.t 0), none⟩, ⟨some 5, .box 3 (.t 1), none⟩, ⟨some 6, .box 4 (.t 2), none⟩, ⟨some 8, .mv (.v (.int .i64 0)), none⟩])
 (.seq (.draw 12 [⟨some 9, .load 12 true (.t 4), none⟩, ⟨some 10, .load 4 true (.t 6), none⟩, ⟨some 11, .load 12 true (.t 4), none⟩, ⟨some 12, .load 3 true (.t 5), none⟩, ⟨some 13, .fad 0 (.t 6), none⟩, ⟨some 14, .load 1 false (.t 13), none⟩, ⟨some 15, .fad 1 (.t 6), none⟩, ⟨some 16, .load 1 false (.t 15), none⟩, ⟨some 17, .call 236 [.t 11, .t 12, .t 14, .t 16], none⟩, ⟨some 18, .mv (.t 3), none⟩, ⟨some 19, .call 235 [.t 9, .t 10, .t 17, .t 18], none⟩, ⟨some 8, .mv (.t 19), none⟩])
 .ret))
noncomputable def X.i_wayOf (p0 : TBoard) (p1 : TState) (p2 : TUnit) (p3 : (List Int)) : Option Int :=
  ((X.i_openFor p0 p1 p2.Side p2.Kind).bind fun v1 => ((X.i_supplyWay p0 p2 v1 p3).bind fun v3 => some v3))
theorem i_wayOf_ok (p0 : TBoard) (p1 : TState) (p2 : TUnit) (p3 : (List Int)) (r : Int) (H : X.i_wayOf p0 p1 p2 p3 = some r) : FnOk Tryz.prog gl 187 [.agg (eTBoard p0), .agg (eTState p1), .agg (eTUnit p2), .c (dat 1 eI zI p3)] (cI r) := by
  unfold X.i_wayOf at H
  refine fn_in (fn := Tryz.f187) (ir := i_wayOf_ir) (s1 := lit [(8, cI r)] []) Tryz.func187 (by kernel_rfl) (by kernel_rfl) (by kernel_rfl) (by kernel_rfl) (by kernel_rfl) ?_
  refine seq_ops [] [] [(3, .c (dat 1 eI zI p3)), (4, .c (.pk 4 0)), (5, .c (.pk 5 0)), (6, .c (.pk 6 0))] [(4, .var (eTBoard p0) false), (5, .var (eTState p1) false), (6, .var (eTUnit p2) false)] (fun t => t) (by kernel_rfl) ?_
  obtain ⟨v1, h2, H⟩ := ofBind H
  obtain ⟨v3, h4, H⟩ := ofBind H
  refine seq_draw [.res (.c (dat 1 eB zB v1)), .res (cI v3)] [] [(8, cI v3)] [] (fun t => aI (i_openFor_ok p0 p1 p2.Side p2.Kind v1 h2) (aI (rfl : ([] : List Nat) = []) (aI (rfl : ([] : List Nat) = []) (aI (i_supplyWay_ok p0 p2 v1 p3 v3 h4) (aI trivial (aI (rfl : ([] : List Nat) = []) (t))))))) (by kernel_rfl) ?_
  refine ends_ret ?_
  obtain rfl := Option.some.inj H
  exact And.intro (.inl rfl) rfl

def i_unitWorth_ir : S :=
 (.seq (.ops [⟨some 4, .box 12 (.t 0), none⟩, ⟨some 5, .box 3 (.t 1), none⟩, ⟨some 6, .box 4 (.t 2), none⟩, ⟨some 8, .mv (.v (.int .i64 0)), none⟩])
 (.seq (.seq (.ops [⟨some 10, .fad 2 (.t 6), none⟩, ⟨some 11, .load 1 false (.t 10), none⟩, ⟨some 12, .bin .lss (.t 11) (.v (.int .i64 0)), none⟩])
 (.ite (.t 12) (.seq (.ops [⟨some 8, .mv (.v (.int .i64 0)), none⟩])
  .ret)
 .skip))
 (.seq (.ops [⟨some 13, .load 12 true (.t 4), none⟩, ⟨some 14, .load 4 true (.t 6), none⟩, ⟨some 15, .call 186 [.t 13, .t 14], none⟩, ⟨some 9, .mv (.t 15), none⟩])
 (.seq (.seq (.ops [⟨some 16, .load 12 true (.t 4), none⟩, ⟨some 17, .load 3 true (.t 5), none⟩, ⟨some 18, .load 4 true (.t 6), none⟩, ⟨some 19, .mv (.t 3), none⟩, ⟨some 20, .call 187 [.t 16, .t 17, .t 18, .t 19], none⟩, ⟨some 21, .bin .geq (.t 20) (.v (.int .i64 0)), none⟩])
 (.ite (.t 21) (.ops [⟨some 22, .mv (.t 9), none⟩, ⟨some 23, .bin .mul (.t 22) (.v (.int .i64 3)), none⟩, ⟨some 9, .mv (.t 23), none⟩])
 .skip))
 (.seq (.ops [⟨some 24, .mv (.t 9), none⟩, ⟨some 8, .mv (.t 24), none⟩])
 .ret)))))
noncomputable def X.i_unitWorth (p0 : TBoard) (p1 : TState) (p2 : TUnit) (p3 : (List Int)) : Option Int :=
  (bif (decide (p2.At < 0)) then some 0 else ((X.i_forceOf p0 p2).bind fun v3 => ((X.i_wayOf p0 p1 p2 p3).bind fun v5 => (bif (decide (v5 ≥ 0)) then some (W (v3 * 3)) else some v3))))
theorem i_unitWorth_ok (p0 : TBoard) (p1 : TState) (p2 : TUnit) (p3 : (List Int)) (r : Int) (H : X.i_unitWorth p0 p1 p2 p3 = some r) : FnOk Tryz.prog gl 118 [.agg (eTBoard p0), .agg (eTState p1), .agg (eTUnit p2), .c (dat 1 eI zI p3)] (cI r) := by
  unfold X.i_unitWorth at H
  refine fn_in (fn := Tryz.f118) (ir := i_unitWorth_ir) (s1 := lit [(8, cI r)] []) Tryz.func118 (by kernel_rfl) (by kernel_rfl) (by kernel_rfl) (by kernel_rfl) (by kernel_rfl) ?_
  refine seq_ops [] [] [(3, .c (dat 1 eI zI p3)), (4, .c (.pk 4 0)), (5, .c (.pk 5 0)), (6, .c (.pk 6 0))] [(4, .var (eTBoard p0) false), (5, .var (eTState p1) false), (6, .var (eTUnit p2) false)] (fun t => t) (by kernel_rfl) ?_
  refine seq_in ?_
  refine seq_ops [] [] [(3, .c (dat 1 eI zI p3)), (4, .c (.pk 4 0)), (5, .c (.pk 5 0)), (6, .c (.pk 6 0)), (12, cB (decide (p2.At < 0)))] [(4, .var (eTBoard p0) false), (5, .var (eTState p1) false), (6, .var (eTUnit p2) false)] (fun t => t) (by kernel_rfl) ?_
  rcases ofCond H with ⟨c2, H⟩ | ⟨c2, H⟩
  · refine ite_t c2 (by kernel_rfl) ?_
    refine seq_ops [] [] [(8, cI 0)] [] (fun t => t) (by kernel_rfl) ?_
    refine ends_ret ?_
    obtain rfl := Option.some.inj H
    exact And.intro (.inl rfl) rfl
  · refine ite_f c2 (by kernel_rfl) ?_
    refine ends_skip ?_
    change EndsI _ _ _ _ _ _
    obtain ⟨v3, h4, H⟩ := ofBind H
    refine seq_ops [.res (cI v3)] [] [(3, .c (dat 1 eI zI p3)), (4, .c (.pk 4 0)), (5, .c (.pk 5 0)), (6, .c (.pk 6 0)), (9, cI v3)] [(4, .var (eTBoard p0) false), (5, .var (eTState p1) false), (6, .var (eTUnit p2) false)] (fun t => aI (i_forceOf_ok p0 p2 v3 h4) (t)) (by kernel_rfl) ?_
    refine seq_in ?_
    obtain ⟨v5, h6, H⟩ := ofBind H
    refine seq_ops [.res (cI v5)] [] [(9, cI v3), (21, cB (decide (v5 ≥ 0)))] [] (fun t => aI (i_wayOf_ok p0 p1 p2 p3 v5 h6) (t)) (by kernel_rfl) ?_
    rcases ofCond H with ⟨c7, H⟩ | ⟨c7, H⟩
    · refine ite_t c7 (by kernel_rfl) ?_
      refine one_ops [] [] [(9, cI (W (v3 * 3)))] [] (fun t => t) (by kernel_rfl) ?_
      change EndsI _ _ _ _ _ _
      refine seq_ops [] [] [(8, cI (W (v3 * 3)))] [] (fun t => t) (by kernel_rfl) ?_
      refine ends_ret ?_
      obtain rfl := Option.some.inj H
      exact And.intro (.inl rfl) rfl
    · refine ite_f c7 (by kernel_rfl) ?_
      refine ends_skip ?_
      change EndsI _ _ _ _ _ _
      refine seq_ops [] [] [(8, cI v3)] [] (fun t => t) (by kernel_rfl) ?_
      refine ends_ret ?_
      obtain rfl := Option.some.inj H
      exact And.intro (.inl rfl) rfl

def i_unitsOf_ir : S :=
 (.seq (.ops [⟨some 2, .box 3 (.t 0), none⟩, ⟨some 4, .mv (.v (.nil)), none⟩])
 (.seq (.ops [⟨some 8, .bsl 1 [], none⟩, ⟨some 5, .mv (.t 8), none⟩])
 (.seq (.seq (.ops [⟨some 9, .fad 2 (.t 2), none⟩, ⟨some 10, .load 1 false (.t 9), none⟩, ⟨some 11, .len (.t 10), none⟩, ⟨some 12, .mv (.v (.int .i64 0)), none⟩])
 (.blk 0 (.loop (.seq (.ops [⟨some 13, .bin .lss (.t 12) (.t 11), none⟩])
   (.seq (.ite (.t 13) .skip
   (.exit 0))
   (.seq (.blk 1 (.seq (.ops [⟨some 14, .mv (.t 12), none⟩, ⟨some 15, .iad 4 (.t 10) (.t 12), none⟩, ⟨some 16, .load 4 true (.t 15), none⟩, ⟨some 7, .alloc [.int .i64 0, .int .i64 0, .int .i64 0, .int .i64 0], none⟩, ⟨some 6, .mv (.t 14), none⟩, ⟨none, .store 4 (.t 7) (.t 16), none⟩])
    (.seq (.ops [⟨some 17, .fad 0 (.t 7), none⟩, ⟨some 18, .load 1 false (.t 17), none⟩, ⟨some 19, .mv (.t 1), none⟩, ⟨some 20, .bin .eql (.t 18) (.t 19), none⟩, ⟨some 21, .mv (.t 20), none⟩, ⟨some 22, .fad 2 (.t 7), some (21, true)⟩, ⟨some 23, .load 1 false (.t 22), some (21, true)⟩, ⟨some 24, .bin .geq (.t 23) (.v (.int .i64 0)), some (21, true)⟩, ⟨some 25, .pick (.t 21) (.t 24) (.v (.bool false)), none⟩])
    (.ite (.t 25) (.ops [⟨some 26, .mv (.t 5), none⟩, ⟨some 27, .mv (.t 6), none⟩, ⟨some 28, .bsl 1 [.t 27], none⟩, ⟨some 29, .app 1 8 (.t 26) (.t 28), none⟩, ⟨some 5, .mv (.t 29), none⟩])
    .skip))))
   (.ops [⟨some 30, .bin .add (.t 12) (.v (.int .i64 1)), none⟩, ⟨some 12, .mv (.t 30), none⟩])))))))
 (.seq (.ops [⟨some 31, .mv (.t 5), none⟩, ⟨some 4, .mv (.t 31), none⟩])
 .ret))))
noncomputable def X.i_unitsOf (p0 : TState) (p1 : Int) : Option (List Int) :=
  ((loop (fun (x16 : (Int × (List Int))) => ((bif (decide (x16.1 < (p0.Units.length : Int))) then ((at' zTUnit p0.Units x16.1).bind fun v19 => (bif (v19.Side == p1) then (bif (decide (v19.At ≥ 0)) then (if (x16.2 ++ ([x16.1] : List Int)).length ≤ LIM then some (Sum.inl ((W (x16.1 + 1)), (x16.2 ++ ([x16.1] : List Int)))) else none) else some (Sum.inl ((W (x16.1 + 1)), x16.2))) else some (Sum.inl ((W (x16.1 + 1)), x16.2)))) else some (Sum.inr x16.2)) : Option ((Int × (List Int)) ⊕ (List Int)))) (0, ([] : List Int))).bind fun y24 => some y24)
theorem i_unitsOf_ok (p0 : TState) (p1 : Int) (r : (List Int)) (H : X.i_unitsOf p0 p1 = some r) : FnOk Tryz.prog gl 191 [.agg (eTState p0), cI p1] (.c (dat 1 eI zI r)) := by
  unfold X.i_unitsOf at H
  refine fn_in (fn := Tryz.f191) (ir := i_unitsOf_ir) (s1 := lit [(4, .c (dat 1 eI zI r))] []) Tryz.func191 (by kernel_rfl) (by kernel_rfl) (by kernel_rfl) (by kernel_rfl) (by kernel_rfl) ?_
  refine seq_ops [] [] [(1, cI p1), (2, .c (.pk 2 0))] [(2, .var (eTState p0) false)] (fun t => t) (by kernel_rfl) ?_
  refine seq_ops [.fn ([] : List Int).length (fF eI zI ([] : List Int))] [] [(1, cI p1), (2, .c (.pk 2 0)), (5, .c (.own 8 1 0 (([] : List Int).length)))] [(2, .var (eTState p0) false), (8, .arr 1 (([] : List Int).length) (fF eI zI ([] : List Int)) false)] (fun t => aI (rfl : ([] : List Int).length = 0) (aI (fF_lit eI zI ([] : List Int)) (t))) (by kernel_rfl) ?_
  refine seq_in ?_
  refine seq_ops [] [] [(1, cI p1), (5, .c (.own 8 1 0 (([] : List Int).length))), (10, .c (dat 4 eTUnit zTUnit p0.Units)), (11, cI (p0.Units.length : Int)), (12, cI 0)] [(8, .arr 1 (([] : List Int).length) (fF eI zI ([] : List Int)) false)] (fun t => lI p0.Units (t)) (by kernel_rfl) ?_
  refine ends_blk ?_
  obtain ⟨y24, h25, H⟩ := ofBind H
  refine tell [.ren 8 1001] [(1, cI p1), (5, .c (.own 1001 1 0 (([] : List Int).length))), (10, .c (dat 4 eTUnit zTUnit p0.Units)), (11, cI (p0.Units.length : Int)), (12, cI 0)] [(1001, .arr 1 (([] : List Int).length) (fF eI zI ([] : List Int)) false)] (fun t => t) (by kernel_rfl) ?_
  refine loop_in (fun (x : (Int × (List Int))) => lit [(1, cI p1), (5, .c (.own 1001 1 0 x.2.length)), (10, .c (dat 4 eTUnit zTUnit p0.Units)), (11, cI (p0.Units.length : Int)), (12, cI x.1)] [(1001, .arr 1 x.2.length (fF eI zI x.2) false)]) (fun (z : (List Int)) => At (.exit 0) (lit [(5, .c (.own 1001 1 0 z.length))] [(1001, .arr 1 z.length (fF eI zI z) false)])) h25 ?_ ?_
  · clear H h25
    intro x16 y0 H
    refine seq_ops [] [] [(1, cI p1), (5, .c (.own 1001 1 0 x16.2.length)), (10, .c (dat 4 eTUnit zTUnit p0.Units)), (11, cI (p0.Units.length : Int)), (12, cI x16.1), (13, cB (decide (x16.1 < (p0.Units.length : Int))))] [(1001, .arr 1 x16.2.length (fF eI zI x16.2) false)] (fun t => t) (by kernel_rfl) ?_
    refine seq_in ?_
    rcases ofCond H with ⟨c18, H⟩ | ⟨c18, H⟩
    · refine ite_t c18 (by kernel_rfl) ?_
      refine ends_skip ?_
      change EndsI _ _ _ _ _ _
      refine seq_in ?_
      refine ends_blk ?_
      obtain ⟨v19, h20, H⟩ := ofBind H
      refine seq_ops [.cs (eTUnit v19)] [] [(1, cI p1), (5, .c (.own 1001 1 0 x16.2.length)), (6, cI x16.1), (7, .c (.pk 7 0)), (10, .c (dat 4 eTUnit zTUnit p0.Units)), (11, cI (p0.Units.length : Int)), (12, cI x16.1)] [(7, .var (eTUnit v19) false), (1001, .arr 1 x16.2.length (fF eI zI x16.2) false)] (fun t => aI (at_lt h20) (aI (at_enc (enc := eTUnit) h20) (t))) (by kernel_rfl) ?_
      rcases ofCond H with ⟨c21, H⟩ | ⟨c21, H⟩
      · refine seq_ops [.g true, .g true, .g true, .g true] [] [(1, cI p1), (5, .c (.own 1001 1 0 x16.2.length)), (6, cI x16.1), (10, .c (dat 4 eTUnit zTUnit p0.Units)), (11, cI (p0.Units.length : Int)), (12, cI x16.1), (25, cB (decide (v19.At ≥ 0)))] [(1001, .arr 1 x16.2.length (fF eI zI x16.2) false)] (fun t => aI c21 (aI c21 (aI c21 (aI c21 (t))))) (by kernel_rfl) ?_
        rcases ofCond H with ⟨c22, H⟩ | ⟨c22, H⟩
        · refine ite_t c22 (by kernel_rfl) ?_
          obtain ⟨g23, H⟩ := ofIf H
          refine one_ops [.fn ([x16.1] : List Int).length (fF eI zI ([x16.1] : List Int)), .fn (x16.2 ++ ([x16.1] : List Int)).length (fF eI zI (x16.2 ++ ([x16.1] : List Int)))] [] [(1, cI p1), (5, .c (.own 29 1 0 ((x16.2 ++ ([x16.1] : List Int)).length))), (10, .c (dat 4 eTUnit zTUnit p0.Units)), (11, cI (p0.Units.length : Int)), (12, cI x16.1)] [(29, .arr 1 ((x16.2 ++ ([x16.1] : List Int)).length) (fF eI zI (x16.2 ++ ([x16.1] : List Int))) false)] (fun t => aI (rfl : ([x16.1] : List Int).length = 1) (aI (fF_lit eI zI ([x16.1] : List Int)) (aI (And.intro (Nat.le_refl x16.2.length) (And.intro (@List.length_append _ x16.2 ([x16.1] : List Int)) g23)) (aI (fF_appL eI zI x16.2 ([x16.1] : List Int)) (aI (fF_appR eI zI x16.2 ([x16.1] : List Int)) (t)))))) (by kernel_rfl) ?_
          change EndsI _ _ _ _ _ _
          refine one_ops [] [.ren 29 1001] [(1, cI p1), (5, .c (.own 1001 1 0 ((x16.2 ++ ([x16.1] : List Int)).length))), (10, .c (dat 4 eTUnit zTUnit p0.Units)), (11, cI (p0.Units.length : Int)), (12, cI (W (x16.1 + 1)))] [(1001, .arr 1 ((x16.2 ++ ([x16.1] : List Int)).length) (fF eI zI (x16.2 ++ ([x16.1] : List Int))) false)] (fun t => t) (by kernel_rfl) ?_
          obtain rfl := Option.some.inj H
          exact And.intro rfl rfl
        · refine ite_f c22 (by kernel_rfl) ?_
          refine ends_skip ?_
          change EndsI _ _ _ _ _ _
          refine one_ops [] [] [(1, cI p1), (5, .c (.own 1001 1 0 x16.2.length)), (10, .c (dat 4 eTUnit zTUnit p0.Units)), (11, cI (p0.Units.length : Int)), (12, cI (W (x16.1 + 1)))] [(1001, .arr 1 x16.2.length (fF eI zI x16.2) false)] (fun t => t) (by kernel_rfl) ?_
          obtain rfl := Option.some.inj H
          exact And.intro rfl rfl
      · refine seq_ops [.g false, .g false, .g false, .g false] [] [(1, cI p1), (5, .c (.own 1001 1 0 x16.2.length)), (6, cI x16.1), (10, .c (dat 4 eTUnit zTUnit p0.Units)), (11, cI (p0.Units.length : Int)), (12, cI x16.1), (25, cB false)] [(1001, .arr 1 x16.2.length (fF eI zI x16.2) false)] (fun t => aI c21 (aI c21 (aI c21 (aI c21 (t))))) (by kernel_rfl) ?_
        refine ite_f (rfl : (false : Bool) = false) (by kernel_rfl) ?_
        refine ends_skip ?_
        change EndsI _ _ _ _ _ _
        refine one_ops [] [] [(1, cI p1), (5, .c (.own 1001 1 0 x16.2.length)), (10, .c (dat 4 eTUnit zTUnit p0.Units)), (11, cI (p0.Units.length : Int)), (12, cI (W (x16.1 + 1)))] [(1001, .arr 1 x16.2.length (fF eI zI x16.2) false)] (fun t => t) (by kernel_rfl) ?_
        obtain rfl := Option.some.inj H
        exact And.intro rfl rfl
    · refine ite_f c18 (by kernel_rfl) ?_
      refine tell [] [(5, .c (.own 1001 1 0 x16.2.length))] [(1001, .arr 1 x16.2.length (fF eI zI x16.2) false)] (fun t => t) (by kernel_rfl) ?_
      refine ends_exit ?_
      obtain rfl := Option.some.inj H
      exact And.intro (by simp) (And.intro rfl rfl)
  · clear h25
    intro e s q
    obtain ⟨rfl, rfl⟩ := q
    change EndsI _ _ _ _ _ _
    refine seq_ops [] [] [(4, .c (.own 1001 1 0 y24.length))] [(1001, .arr 1 y24.length (fF eI zI y24) false)] (fun t => t) (by kernel_rfl) ?_
    refine tell [.frz 4] [(4, .c (dat 1 eI zI y24))] [] (fun t => aI (Nat.le_refl y24.length) (t)) (by kernel_rfl) ?_
    refine ends_ret ?_
    obtain rfl := Option.some.inj H
    exact And.intro (.inl rfl) rfl

def i_sideWorth_ir : S :=
 (.seq (.ops [⟨some 4, .box 12 (.t 0), none⟩, ⟨some 5, .box 3 (.t 1), none⟩, ⟨some 8, .mv (.v (.int .i64 0)), none⟩])
 (.seq (.ops [⟨some 9, .mv (.v (.int .i64 0)), none⟩])
 (.seq (.seq (.ops [⟨some 12, .load 3 true (.t 5), none⟩, ⟨some 13, .mv (.t 2), none⟩, ⟨some 14, .call 191 [.t 12, .t 13], none⟩, ⟨some 15, .len (.t 14), none⟩, ⟨some 16, .mv (.v (.int .i64 0)), none⟩])
 (.blk 0 (.loop (.seq (.ops [⟨some 17, .bin .lss (.t 16) (.t 15), none⟩])
   (.seq (.ite (.t 17) .skip
   (.exit 0))
   (.seq (.blk 1 (.seq (.ops [⟨some 18, .iad 1 (.t 14) (.t 16), none⟩, ⟨some 19, .load 1 false (.t 18), none⟩, ⟨some 11, .mv (.t 19), none⟩])
    (.draw 12 [⟨some 20, .mv (.t 9), none⟩, ⟨some 21, .load 12 true (.t 4), none⟩, ⟨some 22, .load 3 true (.t 5), none⟩, ⟨some 23, .fad 2 (.t 5), none⟩, ⟨some 24, .load 1 false (.t 23), none⟩, ⟨some 25, .mv (.t 11), none⟩, ⟨some 26, .iad 4 (.t 24) (.t 25), none⟩, ⟨some 27, .load 4 true (.t 26), none⟩, ⟨some 28, .mv (.t 3), none⟩, ⟨some 29, .call 118 [.t 21, .t 22, .t 27, .t 28], none⟩, ⟨some 30, .bin .add (.t 20) (.t 29), none⟩, ⟨some 9, .mv (.t 30), none⟩])))
   (.ops [⟨some 31, .bin .add (.t 16) (.v (.int .i64 1)), none⟩, ⟨some 16, .mv (.t 31), none⟩])))))))
 (.seq (.ops [⟨some 32, .mv (.t 9), none⟩, ⟨some 8, .mv (.t 32), none⟩])
 .ret))))
noncomputable def X.i_sideWorth (p0 : TBoard) (p1 : TState) (p2 : Int) (p3 : (List Int)) : Option Int :=
  ((X.i_unitsOf p1 p2).bind fun v1 => ((loop (fun (x20 : (Int × Int)) => ((bif (decide (x20.2 < (v1.length : Int))) then ((at' zI v1 x20.2).bind fun v23 => ((at' zTUnit p1.Units v23).bind fun v25 => ((X.i_unitWorth p0 p1 v25 p3).bind fun v27 => some (Sum.inl ((W (x20.1 + v27)), (W (x20.2 + 1))))))) else some (Sum.inr x20.1)) : Option ((Int × Int) ⊕ Int))) (0, 0)).bind fun y29 => some y29))
theorem i_sideWorth_ok (p0 : TBoard) (p1 : TState) (p2 : Int) (p3 : (List Int)) (r : Int) (H : X.i_sideWorth p0 p1 p2 p3 = some r) : FnOk Tryz.prog gl 123 [.agg (eTBoard p0), .agg (eTState p1), cI p2, .c (dat 1 eI zI p3)] (cI r) := by
  unfold X.i_sideWorth at H
  refine fn_in (fn := Tryz.f123) (ir := i_sideWorth_ir) (s1 := lit [(8, cI r)] []) Tryz.func123 (by kernel_rfl) (by kernel_rfl) (by kernel_rfl) (by kernel_rfl) (by kernel_rfl) ?_
  refine seq_ops [] [] [(2, cI p2), (3, .c (dat 1 eI zI p3)), (4, .c (.pk 4 0)), (5, .c (.pk 5 0))] [(4, .var (eTBoard p0) false), (5, .var (eTState p1) false)] (fun t => t) (by kernel_rfl) ?_
  refine seq_ops [] [] [(2, cI p2), (3, .c (dat 1 eI zI p3)), (4, .c (.pk 4 0)), (5, .c (.pk 5 0)), (9, cI 0)] [(4, .var (eTBoard p0) false), (5, .var (eTState p1) false)] (fun t => t) (by kernel_rfl) ?_
  refine seq_in ?_
  obtain ⟨v1, h2, H⟩ := ofBind H
  refine seq_ops [.res (.c (dat 1 eI zI v1))] [] [(3, .c (dat 1 eI zI p3)), (4, .c (.pk 4 0)), (5, .c (.pk 5 0)), (9, cI 0), (14, .c (dat 1 eI zI v1)), (15, cI (v1.length : Int)), (16, cI 0)] [(4, .var (eTBoard p0) false), (5, .var (eTState p1) false)] (fun t => aI (i_unitsOf_ok p1 p2 v1 h2) (lI v1 (t))) (by kernel_rfl) ?_
  refine ends_blk ?_
  obtain ⟨y29, h30, H⟩ := ofBind H
  refine loop_in (fun (x : (Int × Int)) => lit [(3, .c (dat 1 eI zI p3)), (4, .c (.pk 4 0)), (5, .c (.pk 5 0)), (9, cI x.1), (14, .c (dat 1 eI zI v1)), (15, cI (v1.length : Int)), (16, cI x.2)] [(4, .var (eTBoard p0) false), (5, .var (eTState p1) false)]) (fun (z : Int) => At (.exit 0) (lit [(9, cI z)] [])) h30 ?_ ?_
  · clear H h30
    intro x20 y0 H
    refine seq_ops [] [] [(3, .c (dat 1 eI zI p3)), (4, .c (.pk 4 0)), (5, .c (.pk 5 0)), (9, cI x20.1), (14, .c (dat 1 eI zI v1)), (15, cI (v1.length : Int)), (16, cI x20.2), (17, cB (decide (x20.2 < (v1.length : Int))))] [(4, .var (eTBoard p0) false), (5, .var (eTState p1) false)] (fun t => t) (by kernel_rfl) ?_
    refine seq_in ?_
    rcases ofCond H with ⟨c22, H⟩ | ⟨c22, H⟩
    · refine ite_t c22 (by kernel_rfl) ?_
      refine ends_skip ?_
      change EndsI _ _ _ _ _ _
      refine seq_in ?_
      refine ends_blk ?_
      obtain ⟨v23, h24, H⟩ := ofBind H
      refine seq_ops [.cs (eI v23)] [] [(3, .c (dat 1 eI zI p3)), (4, .c (.pk 4 0)), (5, .c (.pk 5 0)), (9, cI x20.1), (11, cI v23), (14, .c (dat 1 eI zI v1)), (15, cI (v1.length : Int)), (16, cI x20.2)] [(4, .var (eTBoard p0) false), (5, .var (eTState p1) false)] (fun t => aI (at_lt h24) (aI (at_enc (enc := eI) h24) (t))) (by kernel_rfl) ?_
      obtain ⟨v25, h26, H⟩ := ofBind H
      obtain ⟨v27, h28, H⟩ := ofBind H
      refine one_draw [.cs (eTUnit v25), .res (cI v27)] [] [(3, .c (dat 1 eI zI p3)), (4, .c (.pk 4 0)), (5, .c (.pk 5 0)), (9, cI (W (x20.1 + v27))), (14, .c (dat 1 eI zI v1)), (15, cI (v1.length : Int)), (16, cI x20.2)] [(4, .var (eTBoard p0) false), (5, .var (eTState p1) false)] (fun t => aI (at_lt h26) (aI (at_enc (enc := eTUnit) h26) (aI (rfl : ([] : List Nat) = []) (aI (i_unitWorth_ok p0 p1 v25 p3 v27 h28) (aI trivial (aI (rfl : ([] : List Nat) = []) (t))))))) (by kernel_rfl) ?_
      change EndsI _ _ _ _ _ _
      refine one_ops [] [] [(3, .c (dat 1 eI zI p3)), (4, .c (.pk 4 0)), (5, .c (.pk 5 0)), (9, cI (W (x20.1 + v27))), (14, .c (dat 1 eI zI v1)), (15, cI (v1.length : Int)), (16, cI (W (x20.2 + 1)))] [(4, .var (eTBoard p0) false), (5, .var (eTState p1) false)] (fun t => t) (by kernel_rfl) ?_
      obtain rfl := Option.some.inj H
      exact And.intro rfl rfl
    · refine ite_f c22 (by kernel_rfl) ?_
      refine tell [] [(9, cI x20.1)] [] (fun t => t) (by kernel_rfl) ?_
      refine ends_exit ?_
      obtain rfl := Option.some.inj H
      exact And.intro (by simp) (And.intro rfl rfl)
  · clear h30
    intro e s q
    obtain ⟨rfl, rfl⟩ := q
    change EndsI _ _ _ _ _ _
    refine seq_ops [] [] [(8, cI y29)] [] (fun t => t) (by kernel_rfl) ?_
    refine ends_ret ?_
    obtain rfl := Option.some.inj H
    exact And.intro (.inl rfl) rfl

def i_SideWorth_ir : S :=
 (.seq (.ops [⟨some 4, .box 12 (.t 0), none⟩, ⟨some 5, .box 3 (.t 1), none⟩, ⟨some 8, .mv (.v (.int .i64 0)), none⟩, ⟨some 9, .mv (.v (.bool false)), none⟩])
 (.seq (.seq (.ops [⟨some 10, .load 12 true (.t 4), none⟩, ⟨some 11, .load 3 true (.t 5), none⟩, ⟨some 12, .mv (.t 2), none⟩, ⟨some 13, .call 99 [.t 10, .t 11, .t 12], none⟩, ⟨some 14, .not (.t 13), none⟩, ⟨some 15, .mv (.t 14), none⟩, ⟨some 16, .load 12 true (.t 4), some (15, false)⟩, ⟨some 17, .mv (.t 3), some (15, false)⟩, ⟨some 18, .call 122 [.t 16, .t 17], some (15, false)⟩, ⟨some 19, .not (.t 18), some (15, false)⟩, ⟨some 20, .pick (.t 15) (.v (.bool true)) (.t 19), none⟩])
 (.ite (.t 20) (.seq (.ops [⟨some 8, .mv (.v (.int .i64 0)), none⟩, ⟨some 9, .mv (.v (.bool false)), none⟩])
  .ret)
 .skip))
 (.seq (.ops [⟨some 21, .load 12 true (.t 4), none⟩, ⟨some 22, .load 3 true (.t 5), none⟩, ⟨some 23, .mv (.t 2), none⟩, ⟨some 24, .mv (.t 3), none⟩, ⟨some 25, .call 123 [.t 21, .t 22, .t 23, .t 24], none⟩, ⟨some 8, .mv (.t 25), none⟩, ⟨some 9, .mv (.v (.bool true)), none⟩])
 .ret)))
noncomputable def X.i_SideWorth (p0 : TBoard) (p1 : TState) (p2 : Int) (p3 : (List Int)) : Option (Int × Bool) :=
  ((X.i_isLook p0 p1 p2).bind fun v7 => (bif (!v7) then some (0, false) else ((X.i_areSources p0 p3).bind fun v10 => (bif (!v10) then some (0, false) else ((X.i_sideWorth p0 p1 p2 p3).bind fun v13 => some (v13, true))))))
theorem i_SideWorth_ok (p0 : TBoard) (p1 : TState) (p2 : Int) (p3 : (List Int)) (r : (Int × Bool)) (H : X.i_SideWorth p0 p1 p2 p3 = some r) : FnOk Tryz.prog gl 54 [.agg (eTBoard p0), .agg (eTState p1), cI p2, .c (dat 1 eI zI p3)] (.tup [(false, [.int .i64 r.1]), (false, [.bool r.2])]) := by
  unfold X.i_SideWorth at H
  refine fn_in (fn := Tryz.f54) (ir := i_SideWorth_ir) (s1 := lit [(8, cI r.1), (9, cB r.2)] []) Tryz.func54 (by kernel_rfl) (by kernel_rfl) (by kernel_rfl) (by kernel_rfl) (by kernel_rfl) ?_
  refine seq_ops [] [] [(2, cI p2), (3, .c (dat 1 eI zI p3)), (4, .c (.pk 4 0)), (5, .c (.pk 5 0))] [(4, .var (eTBoard p0) false), (5, .var (eTState p1) false)] (fun t => t) (by kernel_rfl) ?_
  refine seq_in ?_
  obtain ⟨v7, h8, H⟩ := ofBind H
  rcases ofCond H with ⟨c9, H⟩ | ⟨c9, H⟩
  · refine seq_ops [.res (cB v7), .g true, .g true, .g true, .g true, .g true] [] [(2, cI p2), (3, .c (dat 1 eI zI p3)), (4, .c (.pk 4 0)), (5, .c (.pk 5 0)), (20, cB true)] [(4, .var (eTBoard p0) false), (5, .var (eTState p1) false)] (fun t => aI (i_isLook_ok p0 p1 p2 v7 h8) (aI c9 (aI c9 (aI c9 (aI c9 (aI c9 (t))))))) (by kernel_rfl) ?_
    refine ite_t (rfl : (true : Bool) = true) (by kernel_rfl) ?_
    refine seq_ops [] [] [(8, cI 0), (9, cB false)] [] (fun t => t) (by kernel_rfl) ?_
    refine ends_ret ?_
    obtain rfl := Option.some.inj H
    exact And.intro (.inl rfl) rfl
  · obtain ⟨v10, h11, H⟩ := ofBind H
    refine seq_ops [.res (cB v7), .g false, .g false, .g false, .res (cB v10), .g false, .g false] [] [(2, cI p2), (3, .c (dat 1 eI zI p3)), (4, .c (.pk 4 0)), (5, .c (.pk 5 0)), (20, cB (!v10))] [(4, .var (eTBoard p0) false), (5, .var (eTState p1) false)] (fun t => aI (i_isLook_ok p0 p1 p2 v7 h8) (aI c9 (aI c9 (aI c9 (aI (i_areSources_ok p0 p3 v10 h11) (aI c9 (aI c9 (t)))))))) (by kernel_rfl) ?_
    rcases ofCond H with ⟨c12, H⟩ | ⟨c12, H⟩
    · refine ite_t c12 (by kernel_rfl) ?_
      refine seq_ops [] [] [(8, cI 0), (9, cB false)] [] (fun t => t) (by kernel_rfl) ?_
      refine ends_ret ?_
      obtain rfl := Option.some.inj H
      exact And.intro (.inl rfl) rfl
    · refine ite_f c12 (by kernel_rfl) ?_
      refine ends_skip ?_
      change EndsI _ _ _ _ _ _
      obtain ⟨v13, h14, H⟩ := ofBind H
      refine seq_ops [.res (cI v13)] [] [(8, cI v13), (9, cB true)] [] (fun t => aI (i_sideWorth_ok p0 p1 p2 p3 v13 h14) (t)) (by kernel_rfl) ?_
      refine ends_ret ?_
      obtain rfl := Option.some.inj H
      exact And.intro (.inl rfl) rfl

def l_FnExactSideWorth_ir : S :=
 (.seq (.ops [⟨some 4, .box 12 (.t 0), none⟩, ⟨some 5, .box 3 (.t 1), none⟩, ⟨some 8, .mv (.v (.bool false)), none⟩])
 (.seq (.seq (.ops [⟨some 17, .mv (.t 3), none⟩, ⟨some 18, .len (.t 17), none⟩, ⟨some 19, .bin .gtr (.t 18) (.v (.int .i64 1048576)), none⟩])
 (.ite (.t 19) (.seq (.ops [⟨some 8, .mv (.v (.bool true)), none⟩])
  .ret)
 .skip))
 (.seq (.ops [⟨some 9, .mv (.v (.int .i64 1048576)), none⟩])
 (.seq (.ops [⟨some 20, .load 12 true (.t 4), none⟩, ⟨some 21, .mv (.t 9), none⟩, ⟨some 22, .call 15 [.t 20, .t 21], none⟩, ⟨some 9, .mv (.t 22), none⟩])
 (.seq (.seq (.ops [⟨some 23, .mv (.t 9), none⟩, ⟨some 24, .bin .lss (.t 23) (.v (.int .i64 0)), none⟩])
 (.ite (.t 24) (.seq (.ops [⟨some 8, .mv (.v (.bool true)), none⟩])
  .ret)
 .skip))
 (.seq (.ops [⟨some 25, .load 3 true (.t 5), none⟩, ⟨some 26, .mv (.t 9), none⟩, ⟨some 27, .call 23 [.t 25, .t 26], none⟩, ⟨some 9, .mv (.t 27), none⟩])
 (.seq (.seq (.ops [⟨some 28, .mv (.t 9), none⟩, ⟨some 29, .bin .lss (.t 28) (.v (.int .i64 0)), none⟩])
 (.ite (.t 29) (.seq (.ops [⟨some 8, .mv (.v (.bool true)), none⟩])
  .ret)
 .skip))
 (.seq (.draw 13 [⟨some 31, .load 12 true (.t 4), none⟩, ⟨some 32, .call 18 [.t 31], none⟩, ⟨some 33, .load 3 true (.t 5), none⟩, ⟨some 34, .call 26 [.t 33], none⟩, ⟨some 35, .mv (.t 2), none⟩, ⟨some 36, .mv (.t 3), none⟩, ⟨some 37, .call 48 [.t 36], none⟩, ⟨some 38, .call 53 [.t 32, .t 34, .t 35, .t 37], none⟩, ⟨some 30, .mv (.t 38), none⟩, ⟨some 39, .ext (.t 30) 0, none⟩, ⟨some 40, .ext (.t 30) 1, none⟩, ⟨some 10, .mv (.t 39), none⟩, ⟨some 11, .mv (.t 40), none⟩])
 (.seq (.ops [⟨some 41, .load 12 true (.t 4), none⟩, ⟨some 42, .call 18 [.t 41], none⟩, ⟨some 12, .alloc [.nil, .nil, .int .i64 0, .int .i64 0, .int .i64 0, .int .i64 0, .int .i64 0, .int .i64 0, .int .i64 0, .nil, .nil, .nil], none⟩, ⟨none, .store 12 (.t 12) (.t 42), none⟩])
 (.seq (.ops [⟨some 43, .load 3 true (.t 5), none⟩, ⟨some 44, .call 26 [.t 43], none⟩, ⟨some 13, .alloc [.int .i64 0, .int .i64 0, .nil], none⟩, ⟨none, .store 3 (.t 13) (.t 44), none⟩])
 (.seq (.ops [⟨some 45, .mv (.t 3), none⟩, ⟨some 46, .call 48 [.t 45], none⟩, ⟨some 14, .mv (.t 46), none⟩])
 (.seq (.ops [⟨some 48, .load 12 true (.t 12), none⟩, ⟨some 49, .load 3 true (.t 13), none⟩, ⟨some 50, .mv (.t 2), none⟩, ⟨some 51, .mv (.t 14), none⟩, ⟨some 52, .call 54 [.t 48, .t 49, .t 50, .t 51], none⟩, ⟨some 47, .mv (.t 52), none⟩, ⟨some 53, .ext (.t 47) 0, none⟩, ⟨some 54, .ext (.t 47) 1, none⟩, ⟨some 15, .mv (.t 53), none⟩, ⟨some 16, .mv (.t 54), none⟩])
 (.seq (.seq (.ops [⟨some 55, .mv (.t 15), none⟩, ⟨some 56, .mv (.t 10), none⟩, ⟨some 57, .bin .neq (.t 55) (.t 56), none⟩, ⟨some 58, .mv (.t 57), none⟩, ⟨some 59, .mv (.t 16), some (58, false)⟩, ⟨some 60, .mv (.t 11), some (58, false)⟩, ⟨some 61, .bqe true (.t 59) (.t 60), some (58, false)⟩, ⟨some 62, .pick (.t 58) (.v (.bool true)) (.t 61), none⟩])
 (.ite (.t 62) (.seq (.ops [⟨some 8, .mv (.v (.bool false)), none⟩])
  .ret)
 .skip))
 (.seq (.seq (.draw 5 [⟨some 63, .load 12 true (.t 12), none⟩, ⟨some 64, .load 12 true (.t 4), none⟩, ⟨some 65, .call 18 [.t 64], none⟩, ⟨some 66, .call 21 [.t 63, .t 65], none⟩, ⟨some 67, .not (.t 66), none⟩])
 (.ite (.t 67) (.seq (.ops [⟨some 8, .mv (.v (.bool false)), none⟩])
  .ret)
 .skip))
 (.seq (.seq (.draw 5 [⟨some 68, .load 3 true (.t 13), none⟩, ⟨some 69, .load 3 true (.t 5), none⟩, ⟨some 70, .call 26 [.t 69], none⟩, ⟨some 71, .call 29 [.t 68, .t 70], none⟩, ⟨some 72, .not (.t 71), none⟩])
 (.ite (.t 72) (.seq (.ops [⟨some 8, .mv (.v (.bool false)), none⟩])
  .ret)
 .skip))
 (.seq (.seq (.ops [⟨some 73, .mv (.t 14), none⟩, ⟨some 74, .mv (.t 3), none⟩, ⟨some 75, .call 48 [.t 74], none⟩, ⟨some 76, .call 50 [.t 73, .t 75], none⟩, ⟨some 77, .not (.t 76), none⟩])
 (.ite (.t 77) (.seq (.ops [⟨some 8, .mv (.v (.bool false)), none⟩])
  .ret)
 .skip))
 (.seq (.ops [⟨some 8, .mv (.v (.bool true)), none⟩])
 .ret)))))))))))))))))
noncomputable def X.l_FnExactSideWorth (p0 : TBoard) (p1 : TState) (p2 : Int) (p3 : (List Int)) : Option Bool :=
  (bif (decide ((p3.length : Int) > 1048576)) then some true else ((X.l_szBoard p0 1048576).bind fun v3 => (bif (decide (v3 < 0)) then some true else ((X.l_szState p1 v3).bind fun v7 => (bif (decide (v7 < 0)) then some true else ((X.l_toBoard p0).bind fun v11 => ((X.l_toState p1).bind fun v13 => ((X.l_toIntS p3).bind fun v15 => ((X.s_SideWorth v11 v13 p2 v15).bind fun v17 => ((X.l_toBoard p0).bind fun v19 => ((X.l_toState p1).bind fun v21 => ((X.l_toIntS p3).bind fun v23 => ((X.i_SideWorth v19 v21 p2 v23).bind fun v25 => (bif (v25.1 != v17.1) then some false else (bif (!(v25.2 == v17.2)) then some false else ((X.l_toBoard p0).bind fun v36 => ((X.l_eqBoard v19 v36).bind fun v38 => (bif (!v38) then some false else ((X.l_toState p1).bind fun v46 => ((X.l_eqState v21 v46).bind fun v48 => (bif (!v48) then some false else ((X.l_toIntS p3).bind fun v51 => ((X.l_eqIntS v23 v51).bind fun v53 => (bif (!v53) then some false else some true))))))))))))))))))))))))
theorem l_FnExactSideWorth_ok (p0 : TBoard) (p1 : TState) (p2 : Int) (p3 : (List Int)) (r : Bool) (H : X.l_FnExactSideWorth p0 p1 p2 p3 = some r) : FnOk Tryz.prog gl 12 [.agg (eTBoard p0), .agg (eTState p1), cI p2, .c (dat 1 eI zI p3)] (cB r) := by
  unfold X.l_FnExactSideWorth at H
  refine fn_in (fn := Tryz.f12) (ir := l_FnExactSideWorth_ir) (s1 := lit [(8, cB r)] []) Tryz.func12 (by kernel_rfl) (by kernel_rfl) (by kernel_rfl) (by kernel_rfl) (by kernel_rfl) ?_
  refine seq_ops [] [] [(2, cI p2), (3, .c (dat 1 eI zI p3)), (4, .c (.pk 4 0)), (5, .c (.pk 5 0))] [(4, .var (eTBoard p0) false), (5, .var (eTState p1) false)] (fun t => t) (by kernel_rfl) ?_
  refine seq_in ?_
  refine seq_ops [] [] [(2, cI p2), (3, .c (dat 1 eI zI p3)), (4, .c (.pk 4 0)), (5, .c (.pk 5 0)), (19, cB (decide ((p3.length : Int) > 1048576)))] [(4, .var (eTBoard p0) false), (5, .var (eTState p1) false)] (fun t => lI p3 (t)) (by kernel_rfl) ?_
  rcases ofCond H with ⟨c2, H⟩ | ⟨c2, H⟩
  · refine ite_t c2 (by kernel_rfl) ?_
    refine seq_ops [] [] [(8, cB true)] [] (fun t => t) (by kernel_rfl) ?_
    refine ends_ret ?_
    obtain rfl := Option.some.inj H
    exact And.intro (.inl rfl) rfl
  · refine ite_f c2 (by kernel_rfl) ?_
    refine ends_skip ?_
    change EndsI _ _ _ _ _ _
    refine seq_ops [] [] [(2, cI p2), (3, .c (dat 1 eI zI p3)), (4, .c (.pk 4 0)), (5, .c (.pk 5 0)), (9, cI 1048576)] [(4, .var (eTBoard p0) false), (5, .var (eTState p1) false)] (fun t => t) (by kernel_rfl) ?_
    obtain ⟨v3, h4, H⟩ := ofBind H
    refine seq_ops [.res (cI v3)] [] [(2, cI p2), (3, .c (dat 1 eI zI p3)), (4, .c (.pk 4 0)), (5, .c (.pk 5 0)), (9, cI v3)] [(4, .var (eTBoard p0) false), (5, .var (eTState p1) false)] (fun t => aI (l_szBoard_ok p0 1048576 v3 h4) (t)) (by kernel_rfl) ?_
    refine seq_in ?_
    refine seq_ops [] [] [(2, cI p2), (3, .c (dat 1 eI zI p3)), (4, .c (.pk 4 0)), (5, .c (.pk 5 0)), (9, cI v3), (24, cB (decide (v3 < 0)))] [(4, .var (eTBoard p0) false), (5, .var (eTState p1) false)] (fun t => t) (by kernel_rfl) ?_
    rcases ofCond H with ⟨c6, H⟩ | ⟨c6, H⟩
    · refine ite_t c6 (by kernel_rfl) ?_
      refine seq_ops [] [] [(8, cB true)] [] (fun t => t) (by kernel_rfl) ?_
      refine ends_ret ?_
      obtain rfl := Option.some.inj H
      exact And.intro (.inl rfl) rfl
    · refine ite_f c6 (by kernel_rfl) ?_
      refine ends_skip ?_
      change EndsI _ _ _ _ _ _
      obtain ⟨v7, h8, H⟩ := ofBind H
      refine seq_ops [.res (cI v7)] [] [(2, cI p2), (3, .c (dat 1 eI zI p3)), (4, .c (.pk 4 0)), (5, .c (.pk 5 0)), (9, cI v7)] [(4, .var (eTBoard p0) false), (5, .var (eTState p1) false)] (fun t => aI (l_szState_ok p1 v3 v7 h8) (t)) (by kernel_rfl) ?_
      refine seq_in ?_
      refine seq_ops [] [] [(2, cI p2), (3, .c (dat 1 eI zI p3)), (4, .c (.pk 4 0)), (5, .c (.pk 5 0)), (29, cB (decide (v7 < 0)))] [(4, .var (eTBoard p0) false), (5, .var (eTState p1) false)] (fun t => t) (by kernel_rfl) ?_
      rcases ofCond H with ⟨c10, H⟩ | ⟨c10, H⟩
      · refine ite_t c10 (by kernel_rfl) ?_
        refine seq_ops [] [] [(8, cB true)] [] (fun t => t) (by kernel_rfl) ?_
        refine ends_ret ?_
        obtain rfl := Option.some.inj H
        exact And.intro (.inl rfl) rfl
      · refine ite_f c10 (by kernel_rfl) ?_
        refine ends_skip ?_
        change EndsI _ _ _ _ _ _
        obtain ⟨v11, h12, H⟩ := ofBind H
        obtain ⟨v13, h14, H⟩ := ofBind H
        obtain ⟨v15, h16, H⟩ := ofBind H
        obtain ⟨v17, h18, H⟩ := ofBind H
        refine seq_draw [.res (.agg (eTBoard v11)), .res (.agg (eTState v13)), .res (.c (dat 1 eI zI v15)), .res (.tup [(false, [.int .i64 v17.1]), (false, [.bool v17.2])])] [] [(2, cI p2), (3, .c (dat 1 eI zI p3)), (4, .c (.pk 4 0)), (5, .c (.pk 5 0)), (10, cI v17.1), (11, cB v17.2)] [(4, .var (eTBoard p0) false), (5, .var (eTState p1) false)] (fun t => aI (l_toBoard_ok p0 v11 h12) (aI (rfl : ([] : List Nat) = []) (aI (rfl : ([] : List Nat) = []) (aI (l_toState_ok p1 v13 h14) (aI (rfl : ([] : List Nat) = []) (aI (rfl : ([] : List Nat) = []) (aI (l_toIntS_ok p3 v15 h16) (aI (rfl : ([] : List Nat) = []) (aI (rfl : ([] : List Nat) = []) (aI (s_SideWorth_ok v11 v13 p2 v15 v17 h18) (aI trivial (aI (rfl : ([] : List Nat) = []) (t))))))))))))) (by kernel_rfl) ?_
        obtain ⟨v19, h20, H⟩ := ofBind H
        refine seq_ops [.res (.agg (eTBoard v19))] [] [(2, cI p2), (3, .c (dat 1 eI zI p3)), (4, .c (.pk 4 0)), (5, .c (.pk 5 0)), (10, cI v17.1), (11, cB v17.2), (12, .c (.pk 12 0))] [(4, .var (eTBoard p0) false), (5, .var (eTState p1) false), (12, .var (eTBoard v19) false)] (fun t => aI (l_toBoard_ok p0 v19 h20) (t)) (by kernel_rfl) ?_
        obtain ⟨v21, h22, H⟩ := ofBind H
        refine seq_ops [.res (.agg (eTState v21))] [] [(2, cI p2), (3, .c (dat 1 eI zI p3)), (4, .c (.pk 4 0)), (5, .c (.pk 5 0)), (10, cI v17.1), (11, cB v17.2), (12, .c (.pk 12 0)), (13, .c (.pk 13 0))] [(4, .var (eTBoard p0) false), (5, .var (eTState p1) false), (12, .var (eTBoard v19) false), (13, .var (eTState v21) false)] (fun t => aI (l_toState_ok p1 v21 h22) (t)) (by kernel_rfl) ?_
        obtain ⟨v23, h24, H⟩ := ofBind H
        refine seq_ops [.res (.c (dat 1 eI zI v23))] [] [(2, cI p2), (3, .c (dat 1 eI zI p3)), (4, .c (.pk 4 0)), (5, .c (.pk 5 0)), (10, cI v17.1), (11, cB v17.2), (12, .c (.pk 12 0)), (13, .c (.pk 13 0)), (14, .c (dat 1 eI zI v23))] [(4, .var (eTBoard p0) false), (5, .var (eTState p1) false), (12, .var (eTBoard v19) false), (13, .var (eTState v21) false)] (fun t => aI (l_toIntS_ok p3 v23 h24) (t)) (by kernel_rfl) ?_
        obtain ⟨v25, h26, H⟩ := ofBind H
        refine seq_ops [.res (.tup [(false, [.int .i64 v25.1]), (false, [.bool v25.2])])] [] [(3, .c (dat 1 eI zI p3)), (4, .c (.pk 4 0)), (5, .c (.pk 5 0)), (10, cI v17.1), (11, cB v17.2), (12, .c (.pk 12 0)), (13, .c (.pk 13 0)), (14, .c (dat 1 eI zI v23)), (15, cI v25.1), (16, cB v25.2)] [(4, .var (eTBoard p0) false), (5, .var (eTState p1) false), (12, .var (eTBoard v19) false), (13, .var (eTState v21) false)] (fun t => aI (i_SideWorth_ok v19 v21 p2 v23 v25 h26) (t)) (by kernel_rfl) ?_
        refine seq_in ?_
        rcases ofCond H with ⟨c29, H⟩ | ⟨c29, H⟩
        · refine seq_ops [.g true, .g true, .g true, .g true] [] [(3, .c (dat 1 eI zI p3)), (4, .c (.pk 4 0)), (5, .c (.pk 5 0)), (12, .c (.pk 12 0)), (13, .c (.pk 13 0)), (14, .c (dat 1 eI zI v23)), (62, cB true)] [(4, .var (eTBoard p0) false), (5, .var (eTState p1) false), (12, .var (eTBoard v19) false), (13, .var (eTState v21) false)] (fun t => aI c29 (aI c29 (aI c29 (aI c29 (t))))) (by kernel_rfl) ?_
          refine ite_t (rfl : (true : Bool) = true) (by kernel_rfl) ?_
          refine seq_ops [] [] [(8, cB false)] [] (fun t => t) (by kernel_rfl) ?_
          refine ends_ret ?_
          obtain rfl := Option.some.inj H
          exact And.intro (.inl rfl) rfl
        · refine seq_ops [.g false, .g false, .g false, .g false] [] [(3, .c (dat 1 eI zI p3)), (4, .c (.pk 4 0)), (5, .c (.pk 5 0)), (12, .c (.pk 12 0)), (13, .c (.pk 13 0)), (14, .c (dat 1 eI zI v23)), (62, cB (!(v25.2 == v17.2)))] [(4, .var (eTBoard p0) false), (5, .var (eTState p1) false), (12, .var (eTBoard v19) false), (13, .var (eTState v21) false)] (fun t => aI c29 (aI c29 (aI c29 (aI c29 (t))))) (by kernel_rfl) ?_
          rcases ofCond H with ⟨c30, H⟩ | ⟨c30, H⟩
          · refine ite_t c30 (by kernel_rfl) ?_
            refine seq_ops [] [] [(8, cB false)] [] (fun t => t) (by kernel_rfl) ?_
            refine ends_ret ?_
            obtain rfl := Option.some.inj H
            exact And.intro (.inl rfl) rfl
          · refine ite_f c30 (by kernel_rfl) ?_
            refine ends_skip ?_
            change EndsI _ _ _ _ _ _
            refine seq_in ?_
            obtain ⟨v36, h37, H⟩ := ofBind H
            obtain ⟨v38, h39, H⟩ := ofBind H
            refine seq_draw [.res (.agg (eTBoard v36)), .res (cB v38)] [] [(3, .c (dat 1 eI zI p3)), (5, .c (.pk 5 0)), (13, .c (.pk 13 0)), (14, .c (dat 1 eI zI v23)), (67, cB (!v38))] [(5, .var (eTState p1) false), (13, .var (eTState v21) false)] (fun t => aI (l_toBoard_ok p0 v36 h37) (aI (rfl : ([] : List Nat) = []) (aI (rfl : ([] : List Nat) = []) (aI (l_eqBoard_ok v19 v36 v38 h39) (aI trivial (aI (rfl : ([] : List Nat) = []) (t))))))) (by kernel_rfl) ?_
            rcases ofCond H with ⟨c40, H⟩ | ⟨c40, H⟩
            · refine ite_t c40 (by kernel_rfl) ?_
              refine seq_ops [] [] [(8, cB false)] [] (fun t => t) (by kernel_rfl) ?_
              refine ends_ret ?_
              obtain rfl := Option.some.inj H
              exact And.intro (.inl rfl) rfl
            · refine ite_f c40 (by kernel_rfl) ?_
              refine ends_skip ?_
              change EndsI _ _ _ _ _ _
              refine seq_in ?_
              obtain ⟨v46, h47, H⟩ := ofBind H
              obtain ⟨v48, h49, H⟩ := ofBind H
              refine seq_draw [.res (.agg (eTState v46)), .res (cB v48)] [] [(3, .c (dat 1 eI zI p3)), (14, .c (dat 1 eI zI v23)), (72, cB (!v48))] [] (fun t => aI (l_toState_ok p1 v46 h47) (aI (rfl : ([] : List Nat) = []) (aI (rfl : ([] : List Nat) = []) (aI (l_eqState_ok v21 v46 v48 h49) (aI trivial (aI (rfl : ([] : List Nat) = []) (t))))))) (by kernel_rfl) ?_
              rcases ofCond H with ⟨c50, H⟩ | ⟨c50, H⟩
              · refine ite_t c50 (by kernel_rfl) ?_
                refine seq_ops [] [] [(8, cB false)] [] (fun t => t) (by kernel_rfl) ?_
                refine ends_ret ?_
                obtain rfl := Option.some.inj H
                exact And.intro (.inl rfl) rfl
              · refine ite_f c50 (by kernel_rfl) ?_
                refine ends_skip ?_
                change EndsI _ _ _ _ _ _
                refine seq_in ?_
                obtain ⟨v51, h52, H⟩ := ofBind H
                obtain ⟨v53, h54, H⟩ := ofBind H
                refine seq_ops [.res (.c (dat 1 eI zI v51)), .res (cB v53)] [] [(77, cB (!v53))] [] (fun t => aI (l_toIntS_ok p3 v51 h52) (aI (l_eqIntS_ok v23 v51 v53 h54) (t))) (by kernel_rfl) ?_
                rcases ofCond H with ⟨c55, H⟩ | ⟨c55, H⟩
                · refine ite_t c55 (by kernel_rfl) ?_
                  refine seq_ops [] [] [(8, cB false)] [] (fun t => t) (by kernel_rfl) ?_
                  refine ends_ret ?_
                  obtain rfl := Option.some.inj H
                  exact And.intro (.inl rfl) rfl
                · refine ite_f c55 (by kernel_rfl) ?_
                  refine ends_skip ?_
                  change EndsI _ _ _ _ _ _
                  refine seq_ops [] [] [(8, cB true)] [] (fun t => t) (by kernel_rfl) ?_
                  refine ends_ret ?_
                  obtain rfl := Option.some.inj H
                  exact And.intro (.inl rfl) rfl

end Go.Proofs.YtihggbgmdlhlcaaGreatDoor.X0
