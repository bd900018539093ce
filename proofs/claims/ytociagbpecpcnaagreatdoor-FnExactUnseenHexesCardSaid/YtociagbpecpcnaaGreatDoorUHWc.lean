/- What each Go function that FnExactUnseenHexes reaches computes, and that it returns so; no condition. -/
import Derived.Test.YtociagbpecpcnaaGreatDoorUHWb
set_option linter.unusedVariables false
set_option linter.unusedSimpArgs false
set_option maxRecDepth 100000
namespace Go.Proofs.YtociagbpecpcnaaGreatDoor.X0
open Go Go.RowKit Go.Proofs.YtociagbpecpcnaaGreatDoor.Ab Go.Proofs

def i_nextTo_ir : S :=
 (.seq (.ops [⟨some 3, .box 5 (.t 0), none⟩, ⟨some 6, .mv (.v (.int .i64 0)), none⟩])
 (.seq (.draw 8 [⟨some 7, .load 5 true (.t 3), none⟩, ⟨some 8, .load 5 true (.t 3), none⟩, ⟨some 9, .mv (.t 1), none⟩, ⟨some 10, .call 184 [.t 8, .t 9], none⟩, ⟨some 11, .mv (.t 2), none⟩, ⟨some 12, .call 183 [.t 10, .t 11, .v (.int .i64 1)], none⟩, ⟨some 13, .call 182 [.t 7, .t 12], none⟩, ⟨some 6, .mv (.t 13), none⟩])
 .ret))
noncomputable def X.i_nextTo (p0 : TMap) (p1 : Int) (p2 : Int) : Option Int :=
  ((X.i_hexOf p0 p1).bind fun v1 => ((X.i_stepBy v1 p2 1).bind fun v3 => ((X.i_indexOf p0 v3).bind fun v5 => some v5)))
theorem i_nextTo_ok (p0 : TMap) (p1 : Int) (p2 : Int) (r : Int) (H : X.i_nextTo p0 p1 p2 = some r) : FnOk Tryz.prog gl 133 [.agg (eTMap p0), cI p1, cI p2] (cI r) := by
  unfold X.i_nextTo at H
  refine fn_in (fn := Tryz.f133) (ir := i_nextTo_ir) (s1 := lit [(6, cI r)] []) glL Tryz.func133 (by kernel_rfl) (by kernel_rfl) (by kernel_rfl) (by kernel_rfl) (by kernel_rfl) ?_
  refine seq_ops [] [] [(1, cI p1), (2, cI p2), (3, .c (.pk 3 0))] [(3, .var (eTMap p0) false)] (fun t => t) (by kernel_rfl) ?_
  obtain ⟨v1, h2, H⟩ := ofBind H
  obtain ⟨v3, h4, H⟩ := ofBind H
  obtain ⟨v5, h6, H⟩ := ofBind H
  refine seq_draw [.res (.agg (eTHex v1)), .res (.agg (eTHex v3)), .res (cI v5)] [] [(6, cI v5)] [] (fun t => aI (i_hexOf_ok p0 p1 v1 h2) (aI trivial (aI (rfl : ([] : List Nat) = []) (aI (i_stepBy_ok v1 p2 1 v3 h4) (aI trivial (aI (rfl : ([] : List Nat) = []) (aI (i_indexOf_ok p0 v3 v5 h6) (aI trivial (aI (rfl : ([] : List Nat) = []) (t)))))))))) (by kernel_rfl) ?_
  refine ends_ret ?_
  obtain rfl := Option.some.inj H
  exact And.intro (.inl rfl) rfl

def i_isEdge_ir : S :=
 (.seq (.ops [⟨some 2, .box 5 (.t 0), none⟩, ⟨some 4, .mv (.v (.bool false)), none⟩])
 (.seq (.ops [⟨some 5, .mv (.t 1), none⟩, ⟨some 6, .fad 0 (.t 2), none⟩, ⟨some 7, .load 1 false (.t 6), none⟩, ⟨some 8, .bin .mul (.v (.int .i64 3)) (.t 7), none⟩, ⟨some 9, .fad 1 (.t 2), none⟩, ⟨some 10, .load 1 false (.t 9), none⟩, ⟨some 11, .bin .mul (.t 8) (.t 10), none⟩, ⟨some 12, .bin .sub (.t 11) (.v (.int .i64 1)), none⟩, ⟨some 13, .call 145 [.t 5, .v (.int .i64 0), .t 12], none⟩, ⟨some 14, .mv (.t 13), none⟩, ⟨some 15, .load 5 true (.t 2), some (14, true)⟩, ⟨some 16, .mv (.t 1), some (14, true)⟩, ⟨some 17, .bin .quo (.t 16) (.v (.int .i64 3)), some (14, true)⟩, ⟨some 18, .mv (.t 1), some (14, true)⟩, ⟨some 19, .bin .rem (.t 18) (.v (.int .i64 3)), some (14, true)⟩, ⟨some 20, .call 133 [.t 15, .t 17, .t 19], some (14, true)⟩, ⟨some 21, .bin .geq (.t 20) (.v (.int .i64 0)), some (14, true)⟩, ⟨some 22, .pick (.t 14) (.t 21) (.v (.bool false)), none⟩, ⟨some 4, .mv (.t 22), none⟩])
 .ret))
noncomputable def X.i_isEdge (p0 : TMap) (p1 : Int) : Option Bool :=
  ((X.i_inRange p1 0 (W ((W ((W (3 * p0.Width)) * p0.Height)) - 1))).bind fun v1 => (bif v1 then ((X.i_nextTo p0 (W (Int.tdiv p1 3)) (Int.tmod p1 3)).bind fun v4 => some (decide (v4 ≥ 0))) else some false))
theorem i_isEdge_ok (p0 : TMap) (p1 : Int) (r : Bool) (H : X.i_isEdge p0 p1 = some r) : FnOk Tryz.prog gl 217 [.agg (eTMap p0), cI p1] (cB r) := by
  unfold X.i_isEdge at H
  refine fn_in (fn := Tryz.f217) (ir := i_isEdge_ir) (s1 := lit [(4, cB r)] []) glL Tryz.func217 (by kernel_rfl) (by kernel_rfl) (by kernel_rfl) (by kernel_rfl) (by kernel_rfl) ?_
  refine seq_ops [] [] [(1, cI p1), (2, .c (.pk 2 0))] [(2, .var (eTMap p0) false)] (fun t => t) (by kernel_rfl) ?_
  obtain ⟨v1, h2, H⟩ := ofBind H
  rcases ofCond H with ⟨c3, H⟩ | ⟨c3, H⟩
  · obtain ⟨v4, h5, H⟩ := ofBind H
    refine seq_ops [.res (cB v1), .g true, .g true, .g true, .g true, .g true, .g true, .res (cI v4), .g true, .g true] [] [(4, cB (decide (v4 ≥ 0)))] [] (fun t => aI (i_inRange_ok p1 0 (W ((W ((W (3 * p0.Width)) * p0.Height)) - 1)) v1 h2) (aI c3 (aI c3 (aI c3 (aI (by decide : (3 : Int) ≠ 0) (aI c3 (aI c3 (aI (by decide : (3 : Int) ≠ 0) (aI c3 (aI (i_nextTo_ok p0 (W (Int.tdiv p1 3)) (Int.tmod p1 3) v4 h5) (aI c3 (aI c3 (t))))))))))))) (by kernel_rfl) ?_
    refine ends_ret ?_
    obtain rfl := Option.some.inj H
    exact And.intro (.inl rfl) rfl
  · refine seq_ops [.res (cB v1), .g false, .g false, .g false, .g false, .g false, .g false, .g false, .g false] [] [(4, cB false)] [] (fun t => aI (i_inRange_ok p1 0 (W ((W ((W (3 * p0.Width)) * p0.Height)) - 1)) v1 h2) (aI c3 (aI c3 (aI c3 (aI c3 (aI c3 (aI c3 (aI c3 (aI c3 (t)))))))))) (by kernel_rfl) ?_
    refine ends_ret ?_
    obtain rfl := Option.some.inj H
    exact And.intro (.inl rfl) rfl

def i_IsMap_ir : S :=
 (.seq (.ops [⟨some 1, .box 5 (.t 0), none⟩, ⟨some 2, .mv (.v (.bool false)), none⟩])
 (.seq (.seq (.ops [⟨some 9, .fad 0 (.t 1), none⟩, ⟨some 10, .load 1 false (.t 9), none⟩, ⟨some 11, .call 145 [.t 10, .v (.int .i64 1), .v (.int .i64 10)], none⟩, ⟨some 12, .not (.t 11), none⟩, ⟨some 13, .mv (.t 12), none⟩, ⟨some 14, .fad 1 (.t 1), some (13, false)⟩, ⟨some 15, .load 1 false (.t 14), some (13, false)⟩, ⟨some 16, .call 145 [.t 15, .v (.int .i64 1), .v (.int .i64 10)], some (13, false)⟩, ⟨some 17, .not (.t 16), some (13, false)⟩, ⟨some 18, .pick (.t 13) (.v (.bool true)) (.t 17), none⟩, ⟨some 19, .mv (.t 18), none⟩, ⟨some 20, .fad 2 (.t 1), some (19, false)⟩, ⟨some 21, .load 1 false (.t 20), some (19, false)⟩, ⟨some 22, .len (.t 21), some (19, false)⟩, ⟨some 23, .fad 0 (.t 1), some (19, false)⟩, ⟨some 24, .load 1 false (.t 23), some (19, false)⟩, ⟨some 25, .fad 1 (.t 1), some (19, false)⟩, ⟨some 26, .load 1 false (.t 25), some (19, false)⟩, ⟨some 27, .bin .mul (.t 24) (.t 26), some (19, false)⟩, ⟨some 28, .bin .neq (.t 22) (.t 27), some (19, false)⟩, ⟨some 29, .pick (.t 19) (.v (.bool true)) (.t 28), none⟩])
 (.ite (.t 29) (.seq (.ops [⟨some 2, .mv (.v (.bool false)), none⟩])
  .ret)
 .skip))
 (.seq (.seq (.ops [⟨some 30, .fad 2 (.t 1), none⟩, ⟨some 31, .load 1 false (.t 30), none⟩, ⟨some 32, .len (.t 31), none⟩, ⟨some 33, .mv (.v (.int .i64 0)), none⟩])
 (.blk 0 (.loop (.seq (.ops [⟨some 34, .bin .lss (.t 33) (.t 32), none⟩])
   (.seq (.ite (.t 34) .skip
   (.exit 0))
   (.seq (.blk 1 (.seq (.ops [⟨some 35, .iad 1 (.t 31) (.t 33), none⟩, ⟨some 36, .load 1 false (.t 35), none⟩, ⟨some 4, .mv (.t 36), none⟩])
    (.seq (.ops [⟨some 37, .mv (.t 4), none⟩, ⟨some 38, .call 115 [.t 37, .v (.int .i64 6)], none⟩, ⟨some 39, .not (.t 38), none⟩])
    (.ite (.t 39) (.seq (.ops [⟨some 2, .mv (.v (.bool false)), none⟩])
     .ret)
    .skip))))
   (.ops [⟨some 40, .bin .add (.t 33) (.v (.int .i64 1)), none⟩, ⟨some 33, .mv (.t 40), none⟩])))))))
 (.seq (.seq (.ops [⟨some 41, .fad 3 (.t 1), none⟩, ⟨some 42, .load 1 false (.t 41), none⟩, ⟨some 43, .fad 4 (.t 1), none⟩, ⟨some 44, .load 1 false (.t 43), none⟩, ⟨some 45, .bsl 1 [.t 42, .t 44], none⟩, ⟨some 46, .len (.t 45), none⟩, ⟨some 47, .mv (.v (.int .i64 0)), none⟩])
 (.blk 2 (.loop (.seq (.ops [⟨some 48, .bin .lss (.t 47) (.t 46), none⟩])
   (.seq (.ite (.t 48) .skip
   (.exit 2))
   (.seq (.blk 3 (.seq (.ops [⟨some 49, .iad 1 (.t 45) (.t 47), none⟩, ⟨some 50, .load 1 false (.t 49), none⟩, ⟨some 6, .mv (.t 50), none⟩])
    (.seq (.seq (.ops [⟨some 51, .mv (.t 6), none⟩, ⟨some 52, .call 147 [.t 51], none⟩, ⟨some 53, .not (.t 52), none⟩])
    (.ite (.t 53) (.seq (.ops [⟨some 2, .mv (.v (.bool false)), none⟩])
     .ret)
    .skip))
    (.seq (.ops [⟨some 54, .mv (.t 6), none⟩, ⟨some 55, .len (.t 54), none⟩, ⟨some 56, .mv (.v (.int .i64 0)), none⟩])
    (.blk 4 (.loop (.seq (.ops [⟨some 57, .bin .lss (.t 56) (.t 55), none⟩])
      (.seq (.ite (.t 57) .skip
      (.exit 4))
      (.seq (.blk 5 (.seq (.ops [⟨some 58, .iad 1 (.t 54) (.t 56), none⟩, ⟨some 59, .load 1 false (.t 58), none⟩, ⟨some 8, .mv (.t 59), none⟩])
       (.seq (.ops [⟨some 60, .load 5 true (.t 1), none⟩, ⟨some 61, .mv (.t 8), none⟩, ⟨some 62, .call 217 [.t 60, .t 61], none⟩, ⟨some 63, .not (.t 62), none⟩])
       (.ite (.t 63) (.seq (.ops [⟨some 2, .mv (.v (.bool false)), none⟩])
        .ret)
       .skip))))
      (.ops [⟨some 64, .bin .add (.t 56) (.v (.int .i64 1)), none⟩, ⟨some 56, .mv (.t 64), none⟩]))))))))))
   (.ops [⟨some 65, .bin .add (.t 47) (.v (.int .i64 1)), none⟩, ⟨some 47, .mv (.t 65), none⟩])))))))
 (.seq (.ops [⟨some 2, .mv (.v (.bool true)), none⟩])
 .ret)))))
noncomputable def X.i_IsMap (p0 : TMap) : Option Bool :=
  ((X.i_inRange p0.Width 1 10).bind fun v8 => (bif (!v8) then some false else ((X.i_inRange p0.Height 1 10).bind fun v11 => (bif (!v11) then some false else (bif ((p0.Terrain.length : Int) != (W (p0.Width * p0.Height))) then some false else ((loop (fun (x57 : Int) => ((bif (decide (x57 < (p0.Terrain.length : Int))) then ((at' zI p0.Terrain x57).bind fun v60 => ((X.i_isIndex v60 6).bind fun v62 => (bif (!v62) then some (Sum.inr (Sum.inr false)) else some (Sum.inl (W (x57 + 1)))))) else some (Sum.inr (Sum.inl ()))) : Option (Int ⊕ (Unit ⊕ Bool)))) 0).bind fun y65 => (Sum.elim (fun (y67 : Unit) => ((loop (fun (x142 : Int) => ((bif (decide (x142 < (([p0.Rivers, p0.Roads] : List (List Int)).length : Int))) then (if 0 ≤ x142 ∧ x142 < (([p0.Rivers, p0.Roads] : List (List Int)).length : Int) then ((X.i_increasing (([p0.Rivers, p0.Roads] : List (List Int)).getD x142.toNat zLI)).bind fun v149 => (bif (!v149) then some (Sum.inr (Sum.inr false)) else ((loop (fun (x167 : Int) => ((bif (decide (x167 < ((([p0.Rivers, p0.Roads] : List (List Int)).getD x142.toNat zLI).length : Int))) then ((at' zI (([p0.Rivers, p0.Roads] : List (List Int)).getD x142.toNat zLI) x167).bind fun v170 => ((X.i_isEdge p0 v170).bind fun v172 => (bif (!v172) then some (Sum.inr (Sum.inr false)) else some (Sum.inl (W (x167 + 1)))))) else some (Sum.inr (Sum.inl ()))) : Option (Int ⊕ (Unit ⊕ Bool)))) 0).bind fun y175 => (Sum.elim (fun (y177 : Unit) => some (Sum.inl (W (x142 + 1)))) (fun (y178 : Bool) => some (Sum.inr (Sum.inr y178))) y175)))) else none) else some (Sum.inr (Sum.inl ()))) : Option (Int ⊕ (Unit ⊕ Bool)))) 0).bind fun y179 => (Sum.elim (fun (y181 : Unit) => some true) (fun (y182 : Bool) => some y182) y179))) (fun (y68 : Bool) => some y68) y65)))))))
theorem i_IsMap_ok (p0 : TMap) (r : Bool) (H : X.i_IsMap p0 = some r) : FnOk Tryz.prog gl 194 [.agg (eTMap p0)] (cB r) := by
  unfold X.i_IsMap at H
  refine fn_in (fn := Tryz.f194) (ir := i_IsMap_ir) (s1 := lit [(2, cB r)] []) glL Tryz.func194 (by kernel_rfl) (by kernel_rfl) (by kernel_rfl) (by kernel_rfl) (by kernel_rfl) ?_
  refine seq_ops [] [] [(1, .c (.pk 1 0))] [(1, .var (eTMap p0) false)] (fun t => t) (by kernel_rfl) ?_
  refine seq_in ?_
  obtain ⟨v8, h9, H⟩ := ofBind H
  rcases ofCond H with ⟨c10, H⟩ | ⟨c10, H⟩
  · refine seq_ops [.res (cB v8), .g true, .g true, .g true, .g true, .g true, .g true, .g true, .g true, .g true, .g true, .g true, .g true, .g true, .g true, .g true] [] [(1, .c (.pk 1 0)), (29, cB true)] [(1, .var (eTMap p0) false)] (fun t => aI (i_inRange_ok p0.Width 1 10 v8 h9) (aI c10 (aI c10 (aI c10 (aI c10 (aI c10 (aI (rfl : (true : Bool) = true) (aI (rfl : (true : Bool) = true) (aI (rfl : (true : Bool) = true) (aI (rfl : (true : Bool) = true) (aI (rfl : (true : Bool) = true) (aI (rfl : (true : Bool) = true) (aI (rfl : (true : Bool) = true) (aI (rfl : (true : Bool) = true) (aI (rfl : (true : Bool) = true) (aI (rfl : (true : Bool) = true) (t))))))))))))))))) (by kernel_rfl) ?_
    refine ite_t (rfl : (true : Bool) = true) (by kernel_rfl) ?_
    refine seq_ops [] [] [(2, cB false)] [] (fun t => t) (by kernel_rfl) ?_
    refine ends_ret ?_
    obtain rfl := Option.some.inj H
    exact And.intro (.inl rfl) rfl
  · obtain ⟨v11, h12, H⟩ := ofBind H
    rcases ofCond H with ⟨c13, H⟩ | ⟨c13, H⟩
    · refine seq_ops [.res (cB v8), .g false, .g false, .g false, .res (cB v11), .g false, .g false, .g true, .g true, .g true, .g true, .g true, .g true, .g true, .g true, .g true, .g true] [] [(1, .c (.pk 1 0)), (29, cB true)] [(1, .var (eTMap p0) false)] (fun t => aI (i_inRange_ok p0.Width 1 10 v8 h9) (aI c10 (aI c10 (aI c10 (aI (i_inRange_ok p0.Height 1 10 v11 h12) (aI c10 (aI c10 (aI c13 (aI c13 (aI c13 (aI c13 (aI c13 (aI c13 (aI c13 (aI c13 (aI c13 (aI c13 (t)))))))))))))))))) (by kernel_rfl) ?_
      refine ite_t (rfl : (true : Bool) = true) (by kernel_rfl) ?_
      refine seq_ops [] [] [(2, cB false)] [] (fun t => t) (by kernel_rfl) ?_
      refine ends_ret ?_
      obtain rfl := Option.some.inj H
      exact And.intro (.inl rfl) rfl
    · refine seq_ops [.res (cB v8), .g false, .g false, .g false, .res (cB v11), .g false, .g false, .g false, .g false, .g false, .g false, .g false, .g false, .g false, .g false, .g false, .g false] [] [(1, .c (.pk 1 0)), (29, cB ((p0.Terrain.length : Int) != (W (p0.Width * p0.Height))))] [(1, .var (eTMap p0) false)] (fun t => aI (i_inRange_ok p0.Width 1 10 v8 h9) (aI c10 (aI c10 (aI c10 (aI (i_inRange_ok p0.Height 1 10 v11 h12) (aI c10 (aI c10 (aI c13 (aI c13 (aI c13 (lI p0.Terrain (aI c13 (aI c13 (aI c13 (aI c13 (aI c13 (aI c13 (aI c13 (t))))))))))))))))))) (by kernel_rfl) ?_
      rcases ofCond H with ⟨c14, H⟩ | ⟨c14, H⟩
      · refine ite_t c14 (by kernel_rfl) ?_
        refine seq_ops [] [] [(2, cB false)] [] (fun t => t) (by kernel_rfl) ?_
        refine ends_ret ?_
        obtain rfl := Option.some.inj H
        exact And.intro (.inl rfl) rfl
      · refine ite_f c14 (by kernel_rfl) ?_
        refine ends_skip ?_
        change EndsI _ _ _ _ _ _
        refine seq_in ?_
        refine seq_ops [] [] [(1, .c (.pk 1 0)), (31, .c (dat 1 eI zI p0.Terrain)), (32, cI (p0.Terrain.length : Int)), (33, cI 0)] [(1, .var (eTMap p0) false)] (fun t => lI p0.Terrain (t)) (by kernel_rfl) ?_
        refine ends_blk ?_
        obtain ⟨y65, h66, H⟩ := ofBind H
        refine loop_in (fun (x : Int) => lit [(1, .c (.pk 1 0)), (31, .c (dat 1 eI zI p0.Terrain)), (32, cI (p0.Terrain.length : Int)), (33, cI x)] [(1, .var (eTMap p0) false)]) (orJ (fun (z : Unit) => At (.exit 0) (lit [(1, .c (.pk 1 0))] [(1, .var (eTMap p0) false)])) (fun (z : Bool) => At .ret (lit [(2, cB z)] []))) h66 ?_ ?_
        · clear H h66
          intro x57 y0 H
          refine seq_ops [] [] [(1, .c (.pk 1 0)), (31, .c (dat 1 eI zI p0.Terrain)), (32, cI (p0.Terrain.length : Int)), (33, cI x57), (34, cB (decide (x57 < (p0.Terrain.length : Int))))] [(1, .var (eTMap p0) false)] (fun t => t) (by kernel_rfl) ?_
          refine seq_in ?_
          rcases ofCond H with ⟨c59, H⟩ | ⟨c59, H⟩
          · refine ite_t c59 (by kernel_rfl) ?_
            refine ends_skip ?_
            change EndsI _ _ _ _ _ _
            refine seq_in ?_
            refine ends_blk ?_
            obtain ⟨v60, h61, H⟩ := ofBind H
            refine seq_ops [.cs (eI v60)] [] [(1, .c (.pk 1 0)), (4, cI v60), (31, .c (dat 1 eI zI p0.Terrain)), (32, cI (p0.Terrain.length : Int)), (33, cI x57)] [(1, .var (eTMap p0) false)] (fun t => aI (at_lt h61) (aI (at_enc (enc := eI) h61) (t))) (by kernel_rfl) ?_
            obtain ⟨v62, h63, H⟩ := ofBind H
            refine seq_ops [.res (cB v62)] [] [(1, .c (.pk 1 0)), (31, .c (dat 1 eI zI p0.Terrain)), (32, cI (p0.Terrain.length : Int)), (33, cI x57), (39, cB (!v62))] [(1, .var (eTMap p0) false)] (fun t => aI (i_isIndex_ok v60 6 v62 h63) (t)) (by kernel_rfl) ?_
            rcases ofCond H with ⟨c64, H⟩ | ⟨c64, H⟩
            · refine ite_t c64 (by kernel_rfl) ?_
              refine seq_ops [] [] [(2, cB false)] [] (fun t => t) (by kernel_rfl) ?_
              refine ends_ret ?_
              obtain rfl := Option.some.inj H
              exact And.intro (by simp) (And.intro rfl rfl)
            · refine ite_f c64 (by kernel_rfl) ?_
              refine ends_skip ?_
              change EndsI _ _ _ _ _ _
              refine one_ops [] [] [(1, .c (.pk 1 0)), (31, .c (dat 1 eI zI p0.Terrain)), (32, cI (p0.Terrain.length : Int)), (33, cI (W (x57 + 1)))] [(1, .var (eTMap p0) false)] (fun t => t) (by kernel_rfl) ?_
              obtain rfl := Option.some.inj H
              exact And.intro rfl rfl
          · refine ite_f c59 (by kernel_rfl) ?_
            refine tell [] [(1, .c (.pk 1 0))] [(1, .var (eTMap p0) false)] (fun t => t) (by kernel_rfl) ?_
            refine ends_exit ?_
            obtain rfl := Option.some.inj H
            exact And.intro (by simp) (And.intro rfl rfl)
        · clear h66
          cases y65 with
          | inl y67 =>
            replace H := ofInl H
            intro e s q
            obtain ⟨rfl, rfl⟩ := q
            change EndsI _ _ _ _ _ _
            refine seq_in ?_
            refine seq_ops [.fn ([p0.Rivers, p0.Roads] : List (List Int)).length (fF eLI zLI ([p0.Rivers, p0.Roads] : List (List Int)))] [] [(1, .c (.pk 1 0)), (45, .c (.own 45 1 0 (([p0.Rivers, p0.Roads] : List (List Int)).length))), (46, cI (([p0.Rivers, p0.Roads] : List (List Int)).length : Int)), (47, cI 0)] [(1, .var (eTMap p0) false), (45, .arr 1 (([p0.Rivers, p0.Roads] : List (List Int)).length) (fF eLI zLI ([p0.Rivers, p0.Roads] : List (List Int))) false)] (fun t => aI (rfl : ([p0.Rivers, p0.Roads] : List (List Int)).length = 2) (aI (fF_lit eLI zLI ([p0.Rivers, p0.Roads] : List (List Int))) ((fun (_ : ([p0.Rivers, p0.Roads] : List (List Int)).length ≤ maxLen) => t)))) (by kernel_rfl) ?_
            refine ends_blk ?_
            obtain ⟨y179, h180, H⟩ := ofBind H
            refine loop_in (fun (x : Int) => lit [(1, .c (.pk 1 0)), (45, .c (.own 45 1 0 (([p0.Rivers, p0.Roads] : List (List Int)).length))), (46, cI (([p0.Rivers, p0.Roads] : List (List Int)).length : Int)), (47, cI x)] [(1, .var (eTMap p0) false), (45, .arr 1 (([p0.Rivers, p0.Roads] : List (List Int)).length) (fF eLI zLI ([p0.Rivers, p0.Roads] : List (List Int))) false)]) (orJ (fun (z : Unit) => At (.exit 2) (lit [] [])) (fun (z : Bool) => At .ret (lit [(2, cB z)] []))) h180 ?_ ?_
            · clear H h180
              intro x142 y0 H
              refine seq_ops [] [] [(1, .c (.pk 1 0)), (45, .c (.own 45 1 0 (([p0.Rivers, p0.Roads] : List (List Int)).length))), (46, cI (([p0.Rivers, p0.Roads] : List (List Int)).length : Int)), (47, cI x142), (48, cB (decide (x142 < (([p0.Rivers, p0.Roads] : List (List Int)).length : Int))))] [(1, .var (eTMap p0) false), (45, .arr 1 (([p0.Rivers, p0.Roads] : List (List Int)).length) (fF eLI zLI ([p0.Rivers, p0.Roads] : List (List Int))) false)] (fun t => t) (by kernel_rfl) ?_
              refine seq_in ?_
              rcases ofCond H with ⟨c144, H⟩ | ⟨c144, H⟩
              · refine ite_t c144 (by kernel_rfl) ?_
                refine ends_skip ?_
                change EndsI _ _ _ _ _ _
                refine seq_in ?_
                refine ends_blk ?_
                obtain ⟨g145, H⟩ := ofIf H
                refine seq_ops [.no] [] [(1, .c (.pk 1 0)), (6, .c (dat 1 eI zI (([p0.Rivers, p0.Roads] : List (List Int)).getD x142.toNat zLI))), (45, .c (.own 45 1 0 (([p0.Rivers, p0.Roads] : List (List Int)).length))), (46, cI (([p0.Rivers, p0.Roads] : List (List Int)).length : Int)), (47, cI x142)] [(1, .var (eTMap p0) false), (45, .arr 1 (([p0.Rivers, p0.Roads] : List (List Int)).length) (fF eLI zLI ([p0.Rivers, p0.Roads] : List (List Int))) false)] (fun t => aI g145 (aI (nat_lt g145) (t))) (by kernel_rfl) ?_
                refine seq_in ?_
                obtain ⟨v149, h150, H⟩ := ofBind H
                refine seq_ops [.res (cB v149)] [] [(1, .c (.pk 1 0)), (6, .c (dat 1 eI zI (([p0.Rivers, p0.Roads] : List (List Int)).getD x142.toNat zLI))), (45, .c (.own 45 1 0 (([p0.Rivers, p0.Roads] : List (List Int)).length))), (46, cI (([p0.Rivers, p0.Roads] : List (List Int)).length : Int)), (47, cI x142), (53, cB (!v149))] [(1, .var (eTMap p0) false), (45, .arr 1 (([p0.Rivers, p0.Roads] : List (List Int)).length) (fF eLI zLI ([p0.Rivers, p0.Roads] : List (List Int))) false)] (fun t => aI (i_increasing_ok (([p0.Rivers, p0.Roads] : List (List Int)).getD x142.toNat zLI) v149 h150) (t)) (by kernel_rfl) ?_
                rcases ofCond H with ⟨c151, H⟩ | ⟨c151, H⟩
                · refine ite_t c151 (by kernel_rfl) ?_
                  refine seq_ops [] [] [(2, cB false)] [] (fun t => t) (by kernel_rfl) ?_
                  refine ends_ret ?_
                  obtain rfl := Option.some.inj H
                  exact And.intro (by simp) (And.intro rfl rfl)
                · refine ite_f c151 (by kernel_rfl) ?_
                  refine ends_skip ?_
                  change EndsI _ _ _ _ _ _
                  refine seq_ops [] [] [(1, .c (.pk 1 0)), (45, .c (.own 45 1 0 (([p0.Rivers, p0.Roads] : List (List Int)).length))), (46, cI (([p0.Rivers, p0.Roads] : List (List Int)).length : Int)), (47, cI x142), (54, .c (dat 1 eI zI (([p0.Rivers, p0.Roads] : List (List Int)).getD x142.toNat zLI))), (55, cI ((([p0.Rivers, p0.Roads] : List (List Int)).getD x142.toNat zLI).length : Int)), (56, cI 0)] [(1, .var (eTMap p0) false), (45, .arr 1 (([p0.Rivers, p0.Roads] : List (List Int)).length) (fF eLI zLI ([p0.Rivers, p0.Roads] : List (List Int))) false)] (fun t => (fun (_ : (([p0.Rivers, p0.Roads] : List (List Int)).getD x142.toNat zLI).length ≤ maxLen) => t)) (by kernel_rfl) ?_
                  refine ends_blk ?_
                  obtain ⟨y175, h176, H⟩ := ofBind H
                  refine loop_in (fun (x : Int) => lit [(1, .c (.pk 1 0)), (45, .c (.own 45 1 0 (([p0.Rivers, p0.Roads] : List (List Int)).length))), (46, cI (([p0.Rivers, p0.Roads] : List (List Int)).length : Int)), (47, cI x142), (54, .c (dat 1 eI zI (([p0.Rivers, p0.Roads] : List (List Int)).getD x142.toNat zLI))), (55, cI ((([p0.Rivers, p0.Roads] : List (List Int)).getD x142.toNat zLI).length : Int)), (56, cI x)] [(1, .var (eTMap p0) false), (45, .arr 1 (([p0.Rivers, p0.Roads] : List (List Int)).length) (fF eLI zLI ([p0.Rivers, p0.Roads] : List (List Int))) false)]) (orJ (fun (z : Unit) => At (.exit 4) (lit [(1, .c (.pk 1 0)), (45, .c (.own 45 1 0 (([p0.Rivers, p0.Roads] : List (List Int)).length))), (46, cI (([p0.Rivers, p0.Roads] : List (List Int)).length : Int)), (47, cI x142)] [(1, .var (eTMap p0) false), (45, .arr 1 (([p0.Rivers, p0.Roads] : List (List Int)).length) (fF eLI zLI ([p0.Rivers, p0.Roads] : List (List Int))) false)])) (fun (z : Bool) => At .ret (lit [(2, cB z)] []))) h176 ?_ ?_
                  · clear H h176
                    intro x167 y0 H
                    refine seq_ops [] [] [(1, .c (.pk 1 0)), (45, .c (.own 45 1 0 (([p0.Rivers, p0.Roads] : List (List Int)).length))), (46, cI (([p0.Rivers, p0.Roads] : List (List Int)).length : Int)), (47, cI x142), (54, .c (dat 1 eI zI (([p0.Rivers, p0.Roads] : List (List Int)).getD x142.toNat zLI))), (55, cI ((([p0.Rivers, p0.Roads] : List (List Int)).getD x142.toNat zLI).length : Int)), (56, cI x167), (57, cB (decide (x167 < ((([p0.Rivers, p0.Roads] : List (List Int)).getD x142.toNat zLI).length : Int))))] [(1, .var (eTMap p0) false), (45, .arr 1 (([p0.Rivers, p0.Roads] : List (List Int)).length) (fF eLI zLI ([p0.Rivers, p0.Roads] : List (List Int))) false)] (fun t => t) (by kernel_rfl) ?_
                    refine seq_in ?_
                    rcases ofCond H with ⟨c169, H⟩ | ⟨c169, H⟩
                    · refine ite_t c169 (by kernel_rfl) ?_
                      refine ends_skip ?_
                      change EndsI _ _ _ _ _ _
                      refine seq_in ?_
                      refine ends_blk ?_
                      obtain ⟨v170, h171, H⟩ := ofBind H
                      refine seq_ops [.cs (eI v170)] [] [(1, .c (.pk 1 0)), (8, cI v170), (45, .c (.own 45 1 0 (([p0.Rivers, p0.Roads] : List (List Int)).length))), (46, cI (([p0.Rivers, p0.Roads] : List (List Int)).length : Int)), (47, cI x142), (54, .c (dat 1 eI zI (([p0.Rivers, p0.Roads] : List (List Int)).getD x142.toNat zLI))), (55, cI ((([p0.Rivers, p0.Roads] : List (List Int)).getD x142.toNat zLI).length : Int)), (56, cI x167)] [(1, .var (eTMap p0) false), (45, .arr 1 (([p0.Rivers, p0.Roads] : List (List Int)).length) (fF eLI zLI ([p0.Rivers, p0.Roads] : List (List Int))) false)] (fun t => aI (at_lt h171) (aI (at_enc (enc := eI) h171) (t))) (by kernel_rfl) ?_
                      obtain ⟨v172, h173, H⟩ := ofBind H
                      refine seq_ops [.res (cB v172)] [] [(1, .c (.pk 1 0)), (45, .c (.own 45 1 0 (([p0.Rivers, p0.Roads] : List (List Int)).length))), (46, cI (([p0.Rivers, p0.Roads] : List (List Int)).length : Int)), (47, cI x142), (54, .c (dat 1 eI zI (([p0.Rivers, p0.Roads] : List (List Int)).getD x142.toNat zLI))), (55, cI ((([p0.Rivers, p0.Roads] : List (List Int)).getD x142.toNat zLI).length : Int)), (56, cI x167), (63, cB (!v172))] [(1, .var (eTMap p0) false), (45, .arr 1 (([p0.Rivers, p0.Roads] : List (List Int)).length) (fF eLI zLI ([p0.Rivers, p0.Roads] : List (List Int))) false)] (fun t => aI (i_isEdge_ok p0 v170 v172 h173) (t)) (by kernel_rfl) ?_
                      rcases ofCond H with ⟨c174, H⟩ | ⟨c174, H⟩
                      · refine ite_t c174 (by kernel_rfl) ?_
                        refine seq_ops [] [] [(2, cB false)] [] (fun t => t) (by kernel_rfl) ?_
                        refine ends_ret ?_
                        obtain rfl := Option.some.inj H
                        exact And.intro (by simp) (And.intro rfl rfl)
                      · refine ite_f c174 (by kernel_rfl) ?_
                        refine ends_skip ?_
                        change EndsI _ _ _ _ _ _
                        refine one_ops [] [] [(1, .c (.pk 1 0)), (45, .c (.own 45 1 0 (([p0.Rivers, p0.Roads] : List (List Int)).length))), (46, cI (([p0.Rivers, p0.Roads] : List (List Int)).length : Int)), (47, cI x142), (54, .c (dat 1 eI zI (([p0.Rivers, p0.Roads] : List (List Int)).getD x142.toNat zLI))), (55, cI ((([p0.Rivers, p0.Roads] : List (List Int)).getD x142.toNat zLI).length : Int)), (56, cI (W (x167 + 1)))] [(1, .var (eTMap p0) false), (45, .arr 1 (([p0.Rivers, p0.Roads] : List (List Int)).length) (fF eLI zLI ([p0.Rivers, p0.Roads] : List (List Int))) false)] (fun t => t) (by kernel_rfl) ?_
                        obtain rfl := Option.some.inj H
                        exact And.intro rfl rfl
                    · refine ite_f c169 (by kernel_rfl) ?_
                      refine tell [] [(1, .c (.pk 1 0)), (45, .c (.own 45 1 0 (([p0.Rivers, p0.Roads] : List (List Int)).length))), (46, cI (([p0.Rivers, p0.Roads] : List (List Int)).length : Int)), (47, cI x142)] [(1, .var (eTMap p0) false), (45, .arr 1 (([p0.Rivers, p0.Roads] : List (List Int)).length) (fF eLI zLI ([p0.Rivers, p0.Roads] : List (List Int))) false)] (fun t => t) (by kernel_rfl) ?_
                      refine ends_exit ?_
                      obtain rfl := Option.some.inj H
                      exact And.intro (by simp) (And.intro rfl rfl)
                  · clear h176
                    cases y175 with
                    | inl y177 =>
                      replace H := ofInl H
                      intro e s q
                      obtain ⟨rfl, rfl⟩ := q
                      change EndsI _ _ _ _ _ _
                      refine one_ops [] [] [(1, .c (.pk 1 0)), (45, .c (.own 45 1 0 (([p0.Rivers, p0.Roads] : List (List Int)).length))), (46, cI (([p0.Rivers, p0.Roads] : List (List Int)).length : Int)), (47, cI (W (x142 + 1)))] [(1, .var (eTMap p0) false), (45, .arr 1 (([p0.Rivers, p0.Roads] : List (List Int)).length) (fF eLI zLI ([p0.Rivers, p0.Roads] : List (List Int))) false)] (fun t => t) (by kernel_rfl) ?_
                      obtain rfl := Option.some.inj H
                      exact And.intro rfl rfl
                    | inr y178 =>
                      replace H := ofInr H
                      intro e s q
                      obtain ⟨rfl, rfl⟩ := q
                      obtain rfl := Option.some.inj H
                      exact And.intro (by simp) (And.intro rfl rfl)
              · refine ite_f c144 (by kernel_rfl) ?_
                refine tell [] [] [] (fun t => t) (by kernel_rfl) ?_
                refine ends_exit ?_
                obtain rfl := Option.some.inj H
                exact And.intro (by simp) (And.intro rfl rfl)
            · clear h180
              cases y179 with
              | inl y181 =>
                replace H := ofInl H
                intro e s q
                obtain ⟨rfl, rfl⟩ := q
                change EndsI _ _ _ _ _ _
                refine seq_ops [] [] [(2, cB true)] [] (fun t => t) (by kernel_rfl) ?_
                refine ends_ret ?_
                obtain rfl := Option.some.inj H
                exact And.intro (.inl rfl) rfl
              | inr y182 =>
                replace H := ofInr H
                intro e s q
                obtain ⟨rfl, rfl⟩ := q
                obtain rfl := Option.some.inj H
                exact And.intro (.inl rfl) rfl
          | inr y68 =>
            replace H := ofInr H
            intro e s q
            obtain ⟨rfl, rfl⟩ := q
            obtain rfl := Option.some.inj H
            exact And.intro (.inl rfl) rfl

def i_IsBoard_1_ir : S :=
 (.seq (.ops [⟨some 3, .mv (.v (.bool false)), none⟩])
 (.seq (.ops [⟨some 4, .mv (.t 0), none⟩, ⟨some 5, .fad 0 (.t 1), none⟩, ⟨some 6, .fad 0 (.t 5), none⟩, ⟨some 7, .load 1 false (.t 6), none⟩, ⟨some 8, .len (.t 7), none⟩, ⟨some 9, .bin .geq (.t 4) (.t 8), none⟩, ⟨some 3, .mv (.t 9), none⟩])
 .ret))
noncomputable def X.i_IsBoard_1 (p0 : Int) (p1 : TBoard) : Option Bool :=
  some (decide (p0 ≥ (p1.Rules.Terrains.length : Int)))
theorem i_IsBoard_1_ok (p0 : Int) (p1 : TBoard) (r : Bool) (H : X.i_IsBoard_1 p0 p1 = some r) : FnOk Tryz.prog gl 195 [cI p0, .c (.pd (eTBoard p1) 0)] (cB r) := by
  unfold X.i_IsBoard_1 at H
  refine fn_in (fn := Tryz.f195) (ir := i_IsBoard_1_ir) (s1 := lit [(3, cB r)] []) glL Tryz.func195 (by kernel_rfl) (by kernel_rfl) (by kernel_rfl) (by kernel_rfl) (by kernel_rfl) ?_
  refine seq_ops [] [] [(0, cI p0), (1, .c (.pd (eTBoard p1) 0))] [] (fun t => t) (by kernel_rfl) ?_
  refine seq_ops [] [] [(3, cB (decide (p0 ≥ (p1.Rules.Terrains.length : Int))))] [] (fun t => lI p1.Rules.Terrains (t)) (by kernel_rfl) ?_
  refine ends_ret ?_
  obtain rfl := Option.some.inj H
  exact And.intro (.inl rfl) rfl

def i_IsBoard_ir : S :=
 (.seq (.ops [⟨some 1, .box 12 (.t 0), none⟩, ⟨some 2, .mv (.v (.bool false)), none⟩])
 (.seq (.seq (.ops [⟨some 3, .fad 0 (.t 1), none⟩, ⟨some 4, .load 7 true (.t 3), none⟩, ⟨some 5, .call 193 [.t 4], none⟩, ⟨some 6, .not (.t 5), none⟩, ⟨some 7, .mv (.t 6), none⟩, ⟨some 8, .fad 7 (.t 1), some (7, false)⟩, ⟨some 9, .load 5 true (.t 8), some (7, false)⟩, ⟨some 10, .call 194 [.t 9], some (7, false)⟩, ⟨some 11, .not (.t 10), some (7, false)⟩, ⟨some 12, .pick (.t 7) (.v (.bool true)) (.t 11), none⟩])
 (.ite (.t 12) (.seq (.ops [⟨some 2, .mv (.v (.bool false)), none⟩])
  .ret)
 .skip))
 (.seq (.ops [⟨some 13, .fad 7 (.t 1), none⟩, ⟨some 14, .fad 2 (.t 13), none⟩, ⟨some 15, .load 1 false (.t 14), none⟩, ⟨some 16, .clo 195 [.t 1], none⟩, ⟨some 17, .call 70 [.t 15, .t 16], none⟩, ⟨some 18, .not (.t 17), none⟩, ⟨some 2, .mv (.t 18), none⟩])
 .ret)))
noncomputable def X.i_IsBoard (p0 : TBoard) : Option Bool :=
  ((X.i_IsRules p0.Rules).bind fun v7 => (bif (!v7) then some false else ((X.i_IsMap p0.Map).bind fun v10 => (bif (!v10) then some false else ((X.g_ContainsFunc_int p0.Map.Terrain (fun q0 => X.i_IsBoard_1 q0 p0)).bind fun v13 => some (!v13))))))
theorem i_IsBoard_ok (p0 : TBoard) (r : Bool) (H : X.i_IsBoard p0 = some r) : FnOk Tryz.prog gl 143 [.agg (eTBoard p0)] (cB r) := by
  unfold X.i_IsBoard at H
  refine fn_in (fn := Tryz.f143) (ir := i_IsBoard_ir) (s1 := lit [(2, cB r)] []) glL Tryz.func143 (by kernel_rfl) (by kernel_rfl) (by kernel_rfl) (by kernel_rfl) (by kernel_rfl) ?_
  refine seq_ops [] [] [(1, .c (.pk 1 0))] [(1, .var (eTBoard p0) false)] (fun t => t) (by kernel_rfl) ?_
  refine seq_in ?_
  obtain ⟨v7, h8, H⟩ := ofBind H
  rcases ofCond H with ⟨c9, H⟩ | ⟨c9, H⟩
  · refine seq_ops [.res (cB v7), .g true, .g true, .g true, .g true, .g true] [] [(1, .c (.pk 1 0)), (12, cB true)] [(1, .var (eTBoard p0) false)] (fun t => aI (i_IsRules_ok p0.Rules v7 h8) (aI c9 (aI c9 (aI c9 (aI c9 (aI c9 (t))))))) (by kernel_rfl) ?_
    refine ite_t (rfl : (true : Bool) = true) (by kernel_rfl) ?_
    refine seq_ops [] [] [(2, cB false)] [] (fun t => t) (by kernel_rfl) ?_
    refine ends_ret ?_
    obtain rfl := Option.some.inj H
    exact And.intro (.inl rfl) rfl
  · obtain ⟨v10, h11, H⟩ := ofBind H
    refine seq_ops [.res (cB v7), .g false, .g false, .g false, .res (cB v10), .g false, .g false] [] [(1, .c (.pk 1 0)), (12, cB (!v10))] [(1, .var (eTBoard p0) false)] (fun t => aI (i_IsRules_ok p0.Rules v7 h8) (aI c9 (aI c9 (aI c9 (aI (i_IsMap_ok p0.Map v10 h11) (aI c9 (aI c9 (t)))))))) (by kernel_rfl) ?_
    rcases ofCond H with ⟨c12, H⟩ | ⟨c12, H⟩
    · refine ite_t c12 (by kernel_rfl) ?_
      refine seq_ops [] [] [(2, cB false)] [] (fun t => t) (by kernel_rfl) ?_
      refine ends_ret ?_
      obtain rfl := Option.some.inj H
      exact And.intro (.inl rfl) rfl
    · refine ite_f c12 (by kernel_rfl) ?_
      refine ends_skip ?_
      change EndsI _ _ _ _ _ _
      obtain ⟨v13, h14, H⟩ := ofBind H
      refine seq_ops [.res (cB v13)] [] [(2, cB (!v13))] [] (fun t => aI (g_ContainsFunc_int_c1_ok p0.Map.Terrain (195) (eTBoard p0) (fun q0 => X.i_IsBoard_1 q0 p0) (fun q0 r h => i_IsBoard_1_ok q0 p0 r h) v13 h14) (t)) (by kernel_rfl) ?_
      refine ends_ret ?_
      obtain rfl := Option.some.inj H
      exact And.intro (.inl rfl) rfl

def i_hasView_ir : S :=
 (.seq (.ops [⟨some 2, .box 12 (.t 0), none⟩, ⟨some 3, .box 6 (.t 1), none⟩, ⟨some 4, .mv (.v (.bool false)), none⟩])
 (.seq (.ops [⟨some 5, .load 12 true (.t 2), none⟩, ⟨some 6, .call 143 [.t 5], none⟩, ⟨some 7, .mv (.t 6), none⟩, ⟨some 8, .load 12 true (.t 2), some (7, true)⟩, ⟨some 9, .load 6 true (.t 3), some (7, true)⟩, ⟨some 10, .call 89 [.t 8, .t 9], some (7, true)⟩, ⟨some 11, .pick (.t 7) (.t 10) (.v (.bool false)), none⟩, ⟨some 4, .mv (.t 11), none⟩])
 .ret))
noncomputable def X.i_hasView (p0 : TBoard) (p1 : TView) : Option Bool :=
  ((X.i_IsBoard p0).bind fun v1 => (bif v1 then ((X.i_goodView p0 p1).bind fun v4 => some v4) else some false))
theorem i_hasView_ok (p0 : TBoard) (p1 : TView) (r : Bool) (H : X.i_hasView p0 p1 = some r) : FnOk Tryz.prog gl 83 [.agg (eTBoard p0), .agg (eTView p1)] (cB r) := by
  unfold X.i_hasView at H
  refine fn_in (fn := Tryz.f83) (ir := i_hasView_ir) (s1 := lit [(4, cB r)] []) glL Tryz.func83 (by kernel_rfl) (by kernel_rfl) (by kernel_rfl) (by kernel_rfl) (by kernel_rfl) ?_
  refine seq_ops [] [] [(2, .c (.pk 2 0)), (3, .c (.pk 3 0))] [(2, .var (eTBoard p0) false), (3, .var (eTView p1) false)] (fun t => t) (by kernel_rfl) ?_
  obtain ⟨v1, h2, H⟩ := ofBind H
  rcases ofCond H with ⟨c3, H⟩ | ⟨c3, H⟩
  · obtain ⟨v4, h5, H⟩ := ofBind H
    refine seq_ops [.res (cB v1), .g true, .g true, .g true, .res (cB v4), .g true] [] [(4, cB v4)] [] (fun t => aI (i_IsBoard_ok p0 v1 h2) (aI c3 (aI c3 (aI c3 (aI (i_goodView_ok p0 p1 v4 h5) (aI c3 (t))))))) (by kernel_rfl) ?_
    refine ends_ret ?_
    obtain rfl := Option.some.inj H
    exact And.intro (.inl rfl) rfl
  · refine seq_ops [.res (cB v1), .g false, .g false, .g false, .g false] [] [(4, cB false)] [] (fun t => aI (i_IsBoard_ok p0 v1 h2) (aI c3 (aI c3 (aI c3 (aI c3 (t)))))) (by kernel_rfl) ?_
    refine ends_ret ?_
    obtain rfl := Option.some.inj H
    exact And.intro (.inl rfl) rfl

def i_hexesThat_ir : S :=
 (.seq (.ops [⟨some 2, .box 12 (.t 0), none⟩, ⟨some 4, .mv (.v (.nil)), none⟩])
 (.seq (.ops [⟨some 7, .bsl 1 [], none⟩, ⟨some 5, .mv (.t 7), none⟩])
 (.seq (.seq (.ops [⟨some 8, .fad 7 (.t 2), none⟩, ⟨some 9, .fad 2 (.t 8), none⟩, ⟨some 10, .load 1 false (.t 9), none⟩, ⟨some 11, .len (.t 10), none⟩, ⟨some 12, .mv (.v (.int .i64 0)), none⟩])
 (.blk 0 (.loop (.seq (.ops [⟨some 13, .bin .lss (.t 12) (.t 11), none⟩])
   (.seq (.ite (.t 13) .skip
   (.exit 0))
   (.seq (.blk 1 (.seq (.ops [⟨some 14, .mv (.t 12), none⟩, ⟨some 6, .mv (.t 14), none⟩])
    (.seq (.ops [⟨some 15, .mv (.t 1), none⟩, ⟨some 16, .mv (.t 6), none⟩, ⟨some 17, .cald (.t 15) [.t 16], none⟩])
    (.ite (.t 17) (.ops [⟨some 18, .mv (.t 5), none⟩, ⟨some 19, .mv (.t 6), none⟩, ⟨some 20, .bsl 1 [.t 19], none⟩, ⟨some 21, .app 1 8 (.t 18) (.t 20), none⟩, ⟨some 5, .mv (.t 21), none⟩])
    .skip))))
   (.ops [⟨some 22, .bin .add (.t 12) (.v (.int .i64 1)), none⟩, ⟨some 12, .mv (.t 22), none⟩])))))))
 (.seq (.ops [⟨some 23, .mv (.t 5), none⟩, ⟨some 4, .mv (.t 23), none⟩])
 .ret))))
noncomputable def X.i_hexesThat (p0 : TBoard) (f1 : Int → Option Bool) : Option (List Int) :=
  ((loop (fun (x14 : (Int × (List Int))) => ((bif (decide (x14.1 < (p0.Map.Terrain.length : Int))) then ((f1 x14.1).bind fun v17 => (bif v17 then (if (x14.2 ++ ([x14.1] : List Int)).length ≤ LIM then some (Sum.inl ((W (x14.1 + 1)), (x14.2 ++ ([x14.1] : List Int)))) else none) else some (Sum.inl ((W (x14.1 + 1)), x14.2)))) else some (Sum.inr x14.2)) : Option ((Int × (List Int)) ⊕ (List Int)))) (0, ([] : List Int))).bind fun y21 => some y21)
theorem i_hexesThat_c1_ok (p0 : TBoard) (cf1 : FuncId) (cs1_0 : List AC) (f1 : Int → Option Bool) (hf1 : ∀ q0 r, f1 q0 = some r → FnOk Tryz.prog gl cf1 [cI q0, .c (.pd cs1_0 0)] (cB r)) (r : (List Int)) (H : X.i_hexesThat p0 f1 = some r) : FnOk Tryz.prog gl 84 [.agg (eTBoard p0), .c (.clo cf1 [.pd cs1_0 0])] (.c (dat 1 eI zI r)) := by
  unfold X.i_hexesThat at H
  refine fn_in (fn := Tryz.f84) (ir := i_hexesThat_ir) (s1 := lit [(4, .c (dat 1 eI zI r))] []) glL Tryz.func84 (by kernel_rfl) (by kernel_rfl) (by kernel_rfl) (by kernel_rfl) (by kernel_rfl) ?_
  refine seq_ops [] [] [(1, .c (.clo cf1 [.pd cs1_0 0])), (2, .c (.pk 2 0))] [(2, .var (eTBoard p0) false)] (fun t => t) (by kernel_rfl) ?_
  refine seq_ops [.fn ([] : List Int).length (fF eI zI ([] : List Int))] [] [(1, .c (.clo cf1 [.pd cs1_0 0])), (2, .c (.pk 2 0)), (5, .c (.own 7 1 0 (([] : List Int).length)))] [(2, .var (eTBoard p0) false), (7, .arr 1 (([] : List Int).length) (fF eI zI ([] : List Int)) false)] (fun t => aI (rfl : ([] : List Int).length = 0) (aI (fF_lit eI zI ([] : List Int)) (t))) (by kernel_rfl) ?_
  refine seq_in ?_
  refine seq_ops [] [] [(1, .c (.clo cf1 [.pd cs1_0 0])), (5, .c (.own 7 1 0 (([] : List Int).length))), (11, cI (p0.Map.Terrain.length : Int)), (12, cI 0)] [(7, .arr 1 (([] : List Int).length) (fF eI zI ([] : List Int)) false)] (fun t => lI p0.Map.Terrain (t)) (by kernel_rfl) ?_
  refine ends_blk ?_
  obtain ⟨y21, h22, H⟩ := ofBind H
  refine tell [.ren 7 1001] [(1, .c (.clo cf1 [.pd cs1_0 0])), (5, .c (.own 1001 1 0 (([] : List Int).length))), (11, cI (p0.Map.Terrain.length : Int)), (12, cI 0)] [(1001, .arr 1 (([] : List Int).length) (fF eI zI ([] : List Int)) false)] (fun t => t) (by kernel_rfl) ?_
  refine loop_in (fun (x : (Int × (List Int))) => lit [(1, .c (.clo cf1 [.pd cs1_0 0])), (5, .c (.own 1001 1 0 x.2.length)), (11, cI (p0.Map.Terrain.length : Int)), (12, cI x.1)] [(1001, .arr 1 x.2.length (fF eI zI x.2) false)]) (fun (z : (List Int)) => At (.exit 0) (lit [(5, .c (.own 1001 1 0 z.length))] [(1001, .arr 1 z.length (fF eI zI z) false)])) h22 ?_ ?_
  · clear H h22
    intro x14 y0 H
    refine seq_ops [] [] [(1, .c (.clo cf1 [.pd cs1_0 0])), (5, .c (.own 1001 1 0 x14.2.length)), (11, cI (p0.Map.Terrain.length : Int)), (12, cI x14.1), (13, cB (decide (x14.1 < (p0.Map.Terrain.length : Int))))] [(1001, .arr 1 x14.2.length (fF eI zI x14.2) false)] (fun t => t) (by kernel_rfl) ?_
    refine seq_in ?_
    rcases ofCond H with ⟨c16, H⟩ | ⟨c16, H⟩
    · refine ite_t c16 (by kernel_rfl) ?_
      refine ends_skip ?_
      change EndsI _ _ _ _ _ _
      refine seq_in ?_
      refine ends_blk ?_
      refine seq_ops [] [] [(1, .c (.clo cf1 [.pd cs1_0 0])), (5, .c (.own 1001 1 0 x14.2.length)), (6, cI x14.1), (11, cI (p0.Map.Terrain.length : Int)), (12, cI x14.1)] [(1001, .arr 1 x14.2.length (fF eI zI x14.2) false)] (fun t => t) (by kernel_rfl) ?_
      obtain ⟨v17, h18, H⟩ := ofBind H
      refine seq_ops [.res (cB v17)] [] [(1, .c (.clo cf1 [.pd cs1_0 0])), (5, .c (.own 1001 1 0 x14.2.length)), (6, cI x14.1), (11, cI (p0.Map.Terrain.length : Int)), (12, cI x14.1), (17, cB v17)] [(1001, .arr 1 x14.2.length (fF eI zI x14.2) false)] (fun t => aI (hf1 x14.1 v17 h18) (t)) (by kernel_rfl) ?_
      rcases ofCond H with ⟨c19, H⟩ | ⟨c19, H⟩
      · refine ite_t c19 (by kernel_rfl) ?_
        obtain ⟨g20, H⟩ := ofIf H
        refine one_ops [.fn ([x14.1] : List Int).length (fF eI zI ([x14.1] : List Int)), .fn (x14.2 ++ ([x14.1] : List Int)).length (fF eI zI (x14.2 ++ ([x14.1] : List Int)))] [] [(1, .c (.clo cf1 [.pd cs1_0 0])), (5, .c (.own 21 1 0 ((x14.2 ++ ([x14.1] : List Int)).length))), (11, cI (p0.Map.Terrain.length : Int)), (12, cI x14.1)] [(21, .arr 1 ((x14.2 ++ ([x14.1] : List Int)).length) (fF eI zI (x14.2 ++ ([x14.1] : List Int))) false)] (fun t => aI (rfl : ([x14.1] : List Int).length = 1) (aI (fF_lit eI zI ([x14.1] : List Int)) (aI (And.intro (Nat.le_refl x14.2.length) (And.intro (@List.length_append _ x14.2 ([x14.1] : List Int)) g20)) (aI (fF_appL eI zI x14.2 ([x14.1] : List Int)) (aI (fF_appR eI zI x14.2 ([x14.1] : List Int)) (t)))))) (by kernel_rfl) ?_
        change EndsI _ _ _ _ _ _
        refine one_ops [] [.ren 21 1001] [(1, .c (.clo cf1 [.pd cs1_0 0])), (5, .c (.own 1001 1 0 ((x14.2 ++ ([x14.1] : List Int)).length))), (11, cI (p0.Map.Terrain.length : Int)), (12, cI (W (x14.1 + 1)))] [(1001, .arr 1 ((x14.2 ++ ([x14.1] : List Int)).length) (fF eI zI (x14.2 ++ ([x14.1] : List Int))) false)] (fun t => t) (by kernel_rfl) ?_
        obtain rfl := Option.some.inj H
        exact And.intro rfl rfl
      · refine ite_f c19 (by kernel_rfl) ?_
        refine ends_skip ?_
        change EndsI _ _ _ _ _ _
        refine one_ops [] [] [(1, .c (.clo cf1 [.pd cs1_0 0])), (5, .c (.own 1001 1 0 x14.2.length)), (11, cI (p0.Map.Terrain.length : Int)), (12, cI (W (x14.1 + 1)))] [(1001, .arr 1 x14.2.length (fF eI zI x14.2) false)] (fun t => t) (by kernel_rfl) ?_
        obtain rfl := Option.some.inj H
        exact And.intro rfl rfl
    · refine ite_f c16 (by kernel_rfl) ?_
      refine tell [] [(5, .c (.own 1001 1 0 x14.2.length))] [(1001, .arr 1 x14.2.length (fF eI zI x14.2) false)] (fun t => t) (by kernel_rfl) ?_
      refine ends_exit ?_
      obtain rfl := Option.some.inj H
      exact And.intro (by simp) (And.intro rfl rfl)
  · clear h22
    intro e s q
    obtain ⟨rfl, rfl⟩ := q
    change EndsI _ _ _ _ _ _
    refine seq_ops [] [] [(4, .c (.own 1001 1 0 y21.length))] [(1001, .arr 1 y21.length (fF eI zI y21) false)] (fun t => t) (by kernel_rfl) ?_
    refine tell [.frz 4] [(4, .c (dat 1 eI zI y21))] [] (fun t => aI (Nat.le_refl y21.length) (t)) (by kernel_rfl) ?_
    refine ends_ret ?_
    obtain rfl := Option.some.inj H
    exact And.intro (.inl rfl) rfl

def i_UnseenHexes_1_ir : S :=
 (.seq (.ops [⟨some 3, .mv (.v (.bool false)), none⟩])
 (.seq (.ops [⟨some 4, .fad 3 (.t 1), none⟩, ⟨some 5, .load 1 false (.t 4), none⟩, ⟨some 6, .mv (.t 0), none⟩, ⟨some 7, .call 86 [.t 5, .t 6], none⟩, ⟨some 8, .not (.t 7), none⟩, ⟨some 3, .mv (.t 8), none⟩])
 .ret))
noncomputable def X.i_UnseenHexes_1 (p0 : Int) (p1 : TView) : Option Bool :=
  ((X.g_Contains_int p1.Seen p0).bind fun v1 => some (!v1))
theorem i_UnseenHexes_1_ok (p0 : Int) (p1 : TView) (r : Bool) (H : X.i_UnseenHexes_1 p0 p1 = some r) : FnOk Tryz.prog gl 85 [cI p0, .c (.pd (eTView p1) 0)] (cB r) := by
  unfold X.i_UnseenHexes_1 at H
  refine fn_in (fn := Tryz.f85) (ir := i_UnseenHexes_1_ir) (s1 := lit [(3, cB r)] []) glL Tryz.func85 (by kernel_rfl) (by kernel_rfl) (by kernel_rfl) (by kernel_rfl) (by kernel_rfl) ?_
  refine seq_ops [] [] [(0, cI p0), (1, .c (.pd (eTView p1) 0))] [] (fun t => t) (by kernel_rfl) ?_
  obtain ⟨v1, h2, H⟩ := ofBind H
  refine seq_ops [.res (cB v1)] [] [(3, cB (!v1))] [] (fun t => aI (g_Contains_int_ok p1.Seen p0 v1 h2) (t)) (by kernel_rfl) ?_
  refine ends_ret ?_
  obtain rfl := Option.some.inj H
  exact And.intro (.inl rfl) rfl

def i_UnseenHexes_ir : S :=
 (.seq (.ops [⟨some 2, .box 12 (.t 0), none⟩, ⟨some 3, .box 6 (.t 1), none⟩, ⟨some 4, .mv (.v (.nil)), none⟩, ⟨some 5, .mv (.v (.bool false)), none⟩])
 (.seq (.seq (.ops [⟨some 6, .load 12 true (.t 2), none⟩, ⟨some 7, .load 6 true (.t 3), none⟩, ⟨some 8, .call 83 [.t 6, .t 7], none⟩, ⟨some 9, .not (.t 8), none⟩])
 (.ite (.t 9) (.seq (.ops [⟨some 4, .mv (.v (.nil)), none⟩, ⟨some 5, .mv (.v (.bool false)), none⟩])
  .ret)
 .skip))
 (.seq (.ops [⟨some 10, .load 12 true (.t 2), none⟩, ⟨some 11, .clo 85 [.t 3], none⟩, ⟨some 12, .call 84 [.t 10, .t 11], none⟩, ⟨some 4, .mv (.t 12), none⟩, ⟨some 5, .mv (.v (.bool true)), none⟩])
 .ret)))
noncomputable def X.i_UnseenHexes (p0 : TBoard) (p1 : TView) : Option ((List Int) × Bool) :=
  ((X.i_hasView p0 p1).bind fun v1 => (bif (!v1) then some (([] : List Int), false) else ((X.i_hexesThat p0 (fun q0 => X.i_UnseenHexes_1 q0 p1)).bind fun v4 => some (v4, true))))
theorem i_UnseenHexes_ok (p0 : TBoard) (p1 : TView) (r : ((List Int) × Bool)) (H : X.i_UnseenHexes p0 p1 = some r) : FnOk Tryz.prog gl 28 [.agg (eTBoard p0), .agg (eTView p1)] (.tup [(false, [dat 1 eI zI r.1]), (false, [.bool r.2])]) := by
  unfold X.i_UnseenHexes at H
  refine fn_in (fn := Tryz.f28) (ir := i_UnseenHexes_ir) (s1 := lit [(4, .c (dat 1 eI zI r.1)), (5, cB r.2)] []) glL Tryz.func28 (by kernel_rfl) (by kernel_rfl) (by kernel_rfl) (by kernel_rfl) (by kernel_rfl) ?_
  refine seq_ops [] [] [(2, .c (.pk 2 0)), (3, .c (.pk 3 0))] [(2, .var (eTBoard p0) false), (3, .var (eTView p1) false)] (fun t => t) (by kernel_rfl) ?_
  refine seq_in ?_
  obtain ⟨v1, h2, H⟩ := ofBind H
  refine seq_ops [.res (cB v1)] [] [(2, .c (.pk 2 0)), (3, .c (.pk 3 0)), (9, cB (!v1))] [(2, .var (eTBoard p0) false), (3, .var (eTView p1) false)] (fun t => aI (i_hasView_ok p0 p1 v1 h2) (t)) (by kernel_rfl) ?_
  rcases ofCond H with ⟨c3, H⟩ | ⟨c3, H⟩
  · refine ite_t c3 (by kernel_rfl) ?_
    refine seq_ops [] [] [(4, .c (.nil)), (5, cB false)] [] (fun t => t) (by kernel_rfl) ?_
    refine tell [.nld 4 1 (fF eI zI ([] : List Int))] [(4, .c (dat 1 eI zI ([] : List Int))), (5, cB false)] [] (fun t => t) (by kernel_rfl) ?_
    refine ends_ret ?_
    obtain rfl := Option.some.inj H
    exact And.intro (.inl rfl) rfl
  · refine ite_f c3 (by kernel_rfl) ?_
    refine ends_skip ?_
    change EndsI _ _ _ _ _ _
    obtain ⟨v4, h5, H⟩ := ofBind H
    refine seq_ops [.res (.c (dat 1 eI zI v4))] [] [(4, .c (dat 1 eI zI v4)), (5, cB true)] [] (fun t => aI (i_hexesThat_c1_ok p0 (85) (eTView p1) (fun q0 => X.i_UnseenHexes_1 q0 p1) (fun q0 r h => i_UnseenHexes_1_ok q0 p1 r h) v4 h5) (t)) (by kernel_rfl) ?_
    refine ends_ret ?_
    obtain rfl := Option.some.inj H
    exact And.intro (.inl rfl) rfl

theorem i_hexesThat_Mdf_c1_ok (p0 : TBoard) (cf1 : FuncId) (cs1_0 : List AC) (f1 : Int → Option Bool) (hf1 : ∀ q0 r, f1 q0 = some r → FnOk Tryz.prog gl cf1 [cI q0, .c (.pd cs1_0 0)] (cB r)) (r : (List Int)) (H : X.i_hexesThat p0 f1 = some r) : FnMu Tryz.prog gl 84 [.agg (eTBoard p0), .c (.clo cf1 [.pd cs1_0 0])] [] (.c (.own 900000 1 0 r.length)) [(900000, .arr 1 r.length (fF eI zI r) false)] := by
  unfold X.i_hexesThat at H
  refine fn_mu (fn := Tryz.f84) (ir := i_hexesThat_ir) (E' := [(4, .c (.own 900000 1 0 r.length))]) (E1 := [(900000, .arr 1 r.length (fF eI zI r) false)]) glL Tryz.func84 (by kernel_rfl) (by kernel_rfl) (by kernel_rfl) (by kernel_rfl) (by kernel_rfl) ?_
  refine seq_ops [] [] [(1, .c (.clo cf1 [.pd cs1_0 0])), (2, .c (.pk 2 0))] [(2, .var (eTBoard p0) false)] (fun t => t) (by kernel_rfl) ?_
  refine seq_ops [.fn ([] : List Int).length (fF eI zI ([] : List Int))] [] [(1, .c (.clo cf1 [.pd cs1_0 0])), (2, .c (.pk 2 0)), (5, .c (.own 7 1 0 (([] : List Int).length)))] [(2, .var (eTBoard p0) false), (7, .arr 1 (([] : List Int).length) (fF eI zI ([] : List Int)) false)] (fun t => aI (rfl : ([] : List Int).length = 0) (aI (fF_lit eI zI ([] : List Int)) (t))) (by kernel_rfl) ?_
  refine seq_in ?_
  refine seq_ops [] [] [(1, .c (.clo cf1 [.pd cs1_0 0])), (5, .c (.own 7 1 0 (([] : List Int).length))), (11, cI (p0.Map.Terrain.length : Int)), (12, cI 0)] [(7, .arr 1 (([] : List Int).length) (fF eI zI ([] : List Int)) false)] (fun t => lI p0.Map.Terrain (t)) (by kernel_rfl) ?_
  refine ends_blk ?_
  obtain ⟨y21, h22, H⟩ := ofBind H
  refine tell [.ren 7 1001] [(1, .c (.clo cf1 [.pd cs1_0 0])), (5, .c (.own 1001 1 0 (([] : List Int).length))), (11, cI (p0.Map.Terrain.length : Int)), (12, cI 0)] [(1001, .arr 1 (([] : List Int).length) (fF eI zI ([] : List Int)) false)] (fun t => t) (by kernel_rfl) ?_
  refine loop_in (fun (x : (Int × (List Int))) => lit [(1, .c (.clo cf1 [.pd cs1_0 0])), (5, .c (.own 1001 1 0 x.2.length)), (11, cI (p0.Map.Terrain.length : Int)), (12, cI x.1)] [(1001, .arr 1 x.2.length (fF eI zI x.2) false)]) (fun (z : (List Int)) => At (.exit 0) (lit [(5, .c (.own 1001 1 0 z.length))] [(1001, .arr 1 z.length (fF eI zI z) false)])) h22 ?_ ?_
  · clear H h22
    intro x14 y0 H
    refine seq_ops [] [] [(1, .c (.clo cf1 [.pd cs1_0 0])), (5, .c (.own 1001 1 0 x14.2.length)), (11, cI (p0.Map.Terrain.length : Int)), (12, cI x14.1), (13, cB (decide (x14.1 < (p0.Map.Terrain.length : Int))))] [(1001, .arr 1 x14.2.length (fF eI zI x14.2) false)] (fun t => t) (by kernel_rfl) ?_
    refine seq_in ?_
    rcases ofCond H with ⟨c16, H⟩ | ⟨c16, H⟩
    · refine ite_t c16 (by kernel_rfl) ?_
      refine ends_skip ?_
      change EndsI _ _ _ _ _ _
      refine seq_in ?_
      refine ends_blk ?_
      refine seq_ops [] [] [(1, .c (.clo cf1 [.pd cs1_0 0])), (5, .c (.own 1001 1 0 x14.2.length)), (6, cI x14.1), (11, cI (p0.Map.Terrain.length : Int)), (12, cI x14.1)] [(1001, .arr 1 x14.2.length (fF eI zI x14.2) false)] (fun t => t) (by kernel_rfl) ?_
      obtain ⟨v17, h18, H⟩ := ofBind H
      refine seq_ops [.res (cB v17)] [] [(1, .c (.clo cf1 [.pd cs1_0 0])), (5, .c (.own 1001 1 0 x14.2.length)), (6, cI x14.1), (11, cI (p0.Map.Terrain.length : Int)), (12, cI x14.1), (17, cB v17)] [(1001, .arr 1 x14.2.length (fF eI zI x14.2) false)] (fun t => aI (hf1 x14.1 v17 h18) (t)) (by kernel_rfl) ?_
      rcases ofCond H with ⟨c19, H⟩ | ⟨c19, H⟩
      · refine ite_t c19 (by kernel_rfl) ?_
        obtain ⟨g20, H⟩ := ofIf H
        refine one_ops [.fn ([x14.1] : List Int).length (fF eI zI ([x14.1] : List Int)), .fn (x14.2 ++ ([x14.1] : List Int)).length (fF eI zI (x14.2 ++ ([x14.1] : List Int)))] [] [(1, .c (.clo cf1 [.pd cs1_0 0])), (5, .c (.own 21 1 0 ((x14.2 ++ ([x14.1] : List Int)).length))), (11, cI (p0.Map.Terrain.length : Int)), (12, cI x14.1)] [(21, .arr 1 ((x14.2 ++ ([x14.1] : List Int)).length) (fF eI zI (x14.2 ++ ([x14.1] : List Int))) false)] (fun t => aI (rfl : ([x14.1] : List Int).length = 1) (aI (fF_lit eI zI ([x14.1] : List Int)) (aI (And.intro (Nat.le_refl x14.2.length) (And.intro (@List.length_append _ x14.2 ([x14.1] : List Int)) g20)) (aI (fF_appL eI zI x14.2 ([x14.1] : List Int)) (aI (fF_appR eI zI x14.2 ([x14.1] : List Int)) (t)))))) (by kernel_rfl) ?_
        change EndsI _ _ _ _ _ _
        refine one_ops [] [.ren 21 1001] [(1, .c (.clo cf1 [.pd cs1_0 0])), (5, .c (.own 1001 1 0 ((x14.2 ++ ([x14.1] : List Int)).length))), (11, cI (p0.Map.Terrain.length : Int)), (12, cI (W (x14.1 + 1)))] [(1001, .arr 1 ((x14.2 ++ ([x14.1] : List Int)).length) (fF eI zI (x14.2 ++ ([x14.1] : List Int))) false)] (fun t => t) (by kernel_rfl) ?_
        obtain rfl := Option.some.inj H
        exact And.intro rfl rfl
      · refine ite_f c19 (by kernel_rfl) ?_
        refine ends_skip ?_
        change EndsI _ _ _ _ _ _
        refine one_ops [] [] [(1, .c (.clo cf1 [.pd cs1_0 0])), (5, .c (.own 1001 1 0 x14.2.length)), (11, cI (p0.Map.Terrain.length : Int)), (12, cI (W (x14.1 + 1)))] [(1001, .arr 1 x14.2.length (fF eI zI x14.2) false)] (fun t => t) (by kernel_rfl) ?_
        obtain rfl := Option.some.inj H
        exact And.intro rfl rfl
    · refine ite_f c16 (by kernel_rfl) ?_
      refine tell [] [(5, .c (.own 1001 1 0 x14.2.length))] [(1001, .arr 1 x14.2.length (fF eI zI x14.2) false)] (fun t => t) (by kernel_rfl) ?_
      refine ends_exit ?_
      obtain rfl := Option.some.inj H
      exact And.intro (by simp) (And.intro rfl rfl)
  · clear h22
    intro e s q
    obtain ⟨rfl, rfl⟩ := q
    change EndsI _ _ _ _ _ _
    refine seq_ops [] [] [(4, .c (.own 1001 1 0 y21.length))] [(1001, .arr 1 y21.length (fF eI zI y21) false)] (fun t => t) (by kernel_rfl) ?_
    refine tell [.ren 1001 900000] [(4, .c (.own 900000 1 0 y21.length))] [(900000, .arr 1 y21.length (fF eI zI y21) false)] (fun t => t) (by kernel_rfl) ?_
    refine ends_ret ?_
    obtain rfl := Option.some.inj H
    exact And.intro (.inl rfl) rfl

theorem i_UnseenHexes_Mdd_ok (p0 : TBoard) (p1 : TView) (r : ((List Int) × Bool)) (H : X.i_UnseenHexes p0 p1 = some r) : FnMu Tryz.prog gl 28 [.agg (eTBoard p0), .agg (eTView p1)] [] (.tup [(false, [.own 900000 1 0 r.1.length]), (false, [.bool r.2])]) [(900000, .arr 1 r.1.length (fF eI zI r.1) false)] := by
  unfold X.i_UnseenHexes at H
  refine fn_mu (fn := Tryz.f28) (ir := i_UnseenHexes_ir) (E' := [(4, .c (.own 900000 1 0 r.1.length)), (5, cB r.2)]) (E1 := [(900000, .arr 1 r.1.length (fF eI zI r.1) false)]) glL Tryz.func28 (by kernel_rfl) (by kernel_rfl) (by kernel_rfl) (by kernel_rfl) (by kernel_rfl) ?_
  refine seq_ops [] [] [(2, .c (.pk 2 0)), (3, .c (.pk 3 0))] [(2, .var (eTBoard p0) false), (3, .var (eTView p1) false)] (fun t => t) (by kernel_rfl) ?_
  refine seq_in ?_
  obtain ⟨v1, h2, H⟩ := ofBind H
  refine seq_ops [.res (cB v1)] [] [(2, .c (.pk 2 0)), (3, .c (.pk 3 0)), (9, cB (!v1))] [(2, .var (eTBoard p0) false), (3, .var (eTView p1) false)] (fun t => aI (i_hasView_ok p0 p1 v1 h2) (t)) (by kernel_rfl) ?_
  rcases ofCond H with ⟨c3, H⟩ | ⟨c3, H⟩
  · refine ite_t c3 (by kernel_rfl) ?_
    refine seq_ops [] [] [(4, .c (.nil)), (5, cB false)] [] (fun t => t) (by kernel_rfl) ?_
    refine tell [.nlo 4 900000 1 (fF eI zI ([] : List Int))] [(4, .c (.own 900000 1 0 (([] : List Int).length))), (5, cB false)] [(900000, .arr 1 (([] : List Int).length) (fF eI zI ([] : List Int)) false)] (fun t => aI (by decide : 0 < 1) (t)) (by kernel_rfl) ?_
    refine ends_ret ?_
    obtain rfl := Option.some.inj H
    exact And.intro (.inl rfl) rfl
  · refine ite_f c3 (by kernel_rfl) ?_
    refine ends_skip ?_
    change EndsI _ _ _ _ _ _
    obtain ⟨v4, h5, H⟩ := ofBind H
    refine seq_ops [.mu [] [(900000, 1001)] (.c (.own 900000 1 0 v4.length)) [(900000, .arr 1 v4.length (fF eI zI v4) false)]] [] [(4, .c (.own 1001 1 0 v4.length)), (5, cB true)] [(1001, .arr 1 v4.length (fF eI zI v4) false)] (fun t => aI (i_hexesThat_Mdf_c1_ok p0 (85) (eTView p1) (fun q0 => X.i_UnseenHexes_1 q0 p1) (fun q0 r h => i_UnseenHexes_1_ok q0 p1 r h) v4 h5) (t)) (by kernel_rfl) ?_
    refine tell [.ren 1001 900000] [(4, .c (.own 900000 1 0 v4.length)), (5, cB true)] [(900000, .arr 1 v4.length (fF eI zI v4) false)] (fun t => t) (by kernel_rfl) ?_
    refine ends_ret ?_
    obtain rfl := Option.some.inj H
    exact And.intro (.inl rfl) rfl

def l_eqUnit_ir : S :=
 (.seq (.ops [⟨some 2, .box 4 (.t 0), none⟩, ⟨some 3, .box 4 (.t 1), none⟩, ⟨some 4, .mv (.v (.bool false)), none⟩])
 (.seq (.seq (.ops [⟨some 5, .fad 0 (.t 2), none⟩, ⟨some 6, .load 1 false (.t 5), none⟩, ⟨some 7, .fad 0 (.t 3), none⟩, ⟨some 8, .load 1 false (.t 7), none⟩, ⟨some 9, .bin .neq (.t 6) (.t 8), none⟩])
 (.ite (.t 9) (.seq (.ops [⟨some 4, .mv (.v (.bool false)), none⟩])
  .ret)
 .skip))
 (.seq (.seq (.ops [⟨some 10, .fad 1 (.t 2), none⟩, ⟨some 11, .load 1 false (.t 10), none⟩, ⟨some 12, .fad 1 (.t 3), none⟩, ⟨some 13, .load 1 false (.t 12), none⟩, ⟨some 14, .bin .neq (.t 11) (.t 13), none⟩])
 (.ite (.t 14) (.seq (.ops [⟨some 4, .mv (.v (.bool false)), none⟩])
  .ret)
 .skip))
 (.seq (.seq (.ops [⟨some 15, .fad 2 (.t 2), none⟩, ⟨some 16, .load 1 false (.t 15), none⟩, ⟨some 17, .fad 2 (.t 3), none⟩, ⟨some 18, .load 1 false (.t 17), none⟩, ⟨some 19, .bin .neq (.t 16) (.t 18), none⟩])
 (.ite (.t 19) (.seq (.ops [⟨some 4, .mv (.v (.bool false)), none⟩])
  .ret)
 .skip))
 (.seq (.seq (.ops [⟨some 20, .fad 3 (.t 2), none⟩, ⟨some 21, .load 1 false (.t 20), none⟩, ⟨some 22, .fad 3 (.t 3), none⟩, ⟨some 23, .load 1 false (.t 22), none⟩, ⟨some 24, .bin .neq (.t 21) (.t 23), none⟩])
 (.ite (.t 24) (.seq (.ops [⟨some 4, .mv (.v (.bool false)), none⟩])
  .ret)
 .skip))
 (.seq (.ops [⟨some 4, .mv (.v (.bool true)), none⟩])
 .ret))))))
noncomputable def X.l_eqUnit (p0 : TUnit) (p1 : TUnit) : Option Bool :=
  (bif (p0.Side != p1.Side) then some false else (bif (p0.Kind != p1.Kind) then some false else (bif (p0.At != p1.At) then some false else (bif (p0.Steps != p1.Steps) then some false else some true))))
theorem l_eqUnit_ok (p0 : TUnit) (p1 : TUnit) (r : Bool) (H : X.l_eqUnit p0 p1 = some r) : FnOk Tryz.prog gl 137 [.agg (eTUnit p0), .agg (eTUnit p1)] (cB r) := by
  unfold X.l_eqUnit at H
  refine fn_in (fn := Tryz.f137) (ir := l_eqUnit_ir) (s1 := lit [(4, cB r)] []) glL Tryz.func137 (by kernel_rfl) (by kernel_rfl) (by kernel_rfl) (by kernel_rfl) (by kernel_rfl) ?_
  refine seq_ops [] [] [(2, .c (.pk 2 0)), (3, .c (.pk 3 0))] [(2, .var (eTUnit p0) false), (3, .var (eTUnit p1) false)] (fun t => t) (by kernel_rfl) ?_
  refine seq_in ?_
  refine seq_ops [] [] [(2, .c (.pk 2 0)), (3, .c (.pk 3 0)), (9, cB (p0.Side != p1.Side))] [(2, .var (eTUnit p0) false), (3, .var (eTUnit p1) false)] (fun t => t) (by kernel_rfl) ?_
  rcases ofCond H with ⟨c2, H⟩ | ⟨c2, H⟩
  · refine ite_t c2 (by kernel_rfl) ?_
    refine seq_ops [] [] [(4, cB false)] [] (fun t => t) (by kernel_rfl) ?_
    refine ends_ret ?_
    obtain rfl := Option.some.inj H
    exact And.intro (.inl rfl) rfl
  · refine ite_f c2 (by kernel_rfl) ?_
    refine ends_skip ?_
    change EndsI _ _ _ _ _ _
    refine seq_in ?_
    refine seq_ops [] [] [(2, .c (.pk 2 0)), (3, .c (.pk 3 0)), (14, cB (p0.Kind != p1.Kind))] [(2, .var (eTUnit p0) false), (3, .var (eTUnit p1) false)] (fun t => t) (by kernel_rfl) ?_
    rcases ofCond H with ⟨c4, H⟩ | ⟨c4, H⟩
    · refine ite_t c4 (by kernel_rfl) ?_
      refine seq_ops [] [] [(4, cB false)] [] (fun t => t) (by kernel_rfl) ?_
      refine ends_ret ?_
      obtain rfl := Option.some.inj H
      exact And.intro (.inl rfl) rfl
    · refine ite_f c4 (by kernel_rfl) ?_
      refine ends_skip ?_
      change EndsI _ _ _ _ _ _
      refine seq_in ?_
      refine seq_ops [] [] [(2, .c (.pk 2 0)), (3, .c (.pk 3 0)), (19, cB (p0.At != p1.At))] [(2, .var (eTUnit p0) false), (3, .var (eTUnit p1) false)] (fun t => t) (by kernel_rfl) ?_
      rcases ofCond H with ⟨c6, H⟩ | ⟨c6, H⟩
      · refine ite_t c6 (by kernel_rfl) ?_
        refine seq_ops [] [] [(4, cB false)] [] (fun t => t) (by kernel_rfl) ?_
        refine ends_ret ?_
        obtain rfl := Option.some.inj H
        exact And.intro (.inl rfl) rfl
      · refine ite_f c6 (by kernel_rfl) ?_
        refine ends_skip ?_
        change EndsI _ _ _ _ _ _
        refine seq_in ?_
        refine seq_ops [] [] [(24, cB (p0.Steps != p1.Steps))] [] (fun t => t) (by kernel_rfl) ?_
        rcases ofCond H with ⟨c7, H⟩ | ⟨c7, H⟩
        · refine ite_t c7 (by kernel_rfl) ?_
          refine seq_ops [] [] [(4, cB false)] [] (fun t => t) (by kernel_rfl) ?_
          refine ends_ret ?_
          obtain rfl := Option.some.inj H
          exact And.intro (.inl rfl) rfl
        · refine ite_f c7 (by kernel_rfl) ?_
          refine ends_skip ?_
          change EndsI _ _ _ _ _ _
          refine seq_ops [] [] [(4, cB true)] [] (fun t => t) (by kernel_rfl) ?_
          refine ends_ret ?_
          obtain rfl := Option.some.inj H
          exact And.intro (.inl rfl) rfl

def l_eqUnitS_ir : S :=
 (.seq (.ops [⟨some 4, .mv (.v (.bool false)), none⟩])
 (.seq (.seq (.ops [⟨some 6, .mv (.t 0), none⟩, ⟨some 7, .len (.t 6), none⟩, ⟨some 8, .mv (.t 1), none⟩, ⟨some 9, .len (.t 8), none⟩, ⟨some 10, .bin .neq (.t 7) (.t 9), none⟩])
 (.ite (.t 10) (.seq (.ops [⟨some 4, .mv (.v (.bool false)), none⟩])
  .ret)
 .skip))
 (.seq (.seq (.ops [⟨some 5, .mv (.v (.int .i64 0)), none⟩])
 (.blk 0 (.loop (.seq (.seq (.ops [⟨some 11, .mv (.t 5), none⟩, ⟨some 12, .mv (.t 0), none⟩, ⟨some 13, .len (.t 12), none⟩, ⟨some 14, .bin .lss (.t 11) (.t 13), none⟩])
   (.ite (.t 14) .skip
   (.exit 0)))
   (.seq (.blk 1 (.seq (.draw 10 [⟨some 17, .mv (.t 0), none⟩, ⟨some 18, .mv (.t 5), none⟩, ⟨some 19, .iad 4 (.t 17) (.t 18), none⟩, ⟨some 20, .load 4 true (.t 19), none⟩, ⟨some 21, .mv (.t 1), none⟩, ⟨some 22, .mv (.t 5), none⟩, ⟨some 23, .iad 4 (.t 21) (.t 22), none⟩, ⟨some 24, .load 4 true (.t 23), none⟩, ⟨some 25, .call 137 [.t 20, .t 24], none⟩, ⟨some 26, .not (.t 25), none⟩])
    (.ite (.t 26) (.seq (.ops [⟨some 4, .mv (.v (.bool false)), none⟩])
     .ret)
    .skip)))
   (.ops [⟨some 15, .mv (.t 5), none⟩, ⟨some 16, .bin .add (.t 15) (.v (.int .i64 1)), none⟩, ⟨some 5, .mv (.t 16), none⟩]))))))
 (.seq (.ops [⟨some 4, .mv (.v (.bool true)), none⟩])
 .ret))))
noncomputable def X.l_eqUnitS (p0 : (List TUnit)) (p1 : (List TUnit)) : Option Bool :=
  (bif ((p0.length : Int) != (p1.length : Int)) then some false else ((loop (fun (x22 : Int) => ((bif (decide (x22 < (p0.length : Int))) then ((at' zTUnit p0 x22).bind fun v25 => ((at' zTUnit p1 x22).bind fun v27 => ((X.l_eqUnit v25 v27).bind fun v29 => (bif (!v29) then some (Sum.inr (Sum.inr false)) else some (Sum.inl (W (x22 + 1))))))) else some (Sum.inr (Sum.inl ()))) : Option (Int ⊕ (Unit ⊕ Bool)))) 0).bind fun y32 => (Sum.elim (fun (y34 : Unit) => some true) (fun (y35 : Bool) => some y35) y32)))
theorem l_eqUnitS_ok (p0 : (List TUnit)) (p1 : (List TUnit)) (r : Bool) (H : X.l_eqUnitS p0 p1 = some r) : FnOk Tryz.prog gl 75 [.c (dat 4 eTUnit zTUnit p0), .c (dat 4 eTUnit zTUnit p1)] (cB r) := by
  unfold X.l_eqUnitS at H
  refine fn_in (fn := Tryz.f75) (ir := l_eqUnitS_ir) (s1 := lit [(4, cB r)] []) glL Tryz.func75 (by kernel_rfl) (by kernel_rfl) (by kernel_rfl) (by kernel_rfl) (by kernel_rfl) ?_
  refine seq_ops [] [] [(0, .c (dat 4 eTUnit zTUnit p0)), (1, .c (dat 4 eTUnit zTUnit p1))] [] (fun t => t) (by kernel_rfl) ?_
  refine seq_in ?_
  refine seq_ops [] [] [(0, .c (dat 4 eTUnit zTUnit p0)), (1, .c (dat 4 eTUnit zTUnit p1)), (10, cB ((p0.length : Int) != (p1.length : Int)))] [] (fun t => lI p0 (lI p1 (t))) (by kernel_rfl) ?_
  rcases ofCond H with ⟨c2, H⟩ | ⟨c2, H⟩
  · refine ite_t c2 (by kernel_rfl) ?_
    refine seq_ops [] [] [(4, cB false)] [] (fun t => t) (by kernel_rfl) ?_
    refine ends_ret ?_
    obtain rfl := Option.some.inj H
    exact And.intro (.inl rfl) rfl
  · refine ite_f c2 (by kernel_rfl) ?_
    refine ends_skip ?_
    change EndsI _ _ _ _ _ _
    refine seq_in ?_
    refine seq_ops [] [] [(0, .c (dat 4 eTUnit zTUnit p0)), (1, .c (dat 4 eTUnit zTUnit p1)), (5, cI 0)] [] (fun t => t) (by kernel_rfl) ?_
    refine ends_blk ?_
    obtain ⟨y32, h33, H⟩ := ofBind H
    refine loop_in (fun (x : Int) => lit [(0, .c (dat 4 eTUnit zTUnit p0)), (1, .c (dat 4 eTUnit zTUnit p1)), (5, cI x)] []) (orJ (fun (z : Unit) => At (.exit 0) (lit [] [])) (fun (z : Bool) => At .ret (lit [(4, cB z)] []))) h33 ?_ ?_
    · clear H h33
      intro x22 y0 H
      refine seq_in ?_
      refine seq_ops [] [] [(0, .c (dat 4 eTUnit zTUnit p0)), (1, .c (dat 4 eTUnit zTUnit p1)), (5, cI x22), (14, cB (decide (x22 < (p0.length : Int))))] [] (fun t => lI p0 (t)) (by kernel_rfl) ?_
      rcases ofCond H with ⟨c24, H⟩ | ⟨c24, H⟩
      · refine ite_t c24 (by kernel_rfl) ?_
        refine ends_skip ?_
        change EndsI _ _ _ _ _ _
        refine seq_in ?_
        refine ends_blk ?_
        obtain ⟨v25, h26, H⟩ := ofBind H
        obtain ⟨v27, h28, H⟩ := ofBind H
        obtain ⟨v29, h30, H⟩ := ofBind H
        refine seq_draw [.cs (eTUnit v25), .cs (eTUnit v27), .res (cB v29)] [] [(0, .c (dat 4 eTUnit zTUnit p0)), (1, .c (dat 4 eTUnit zTUnit p1)), (5, cI x22), (26, cB (!v29))] [] (fun t => aI (at_lt h26) (aI (at_enc (enc := eTUnit) h26) (aI (rfl : ([] : List Nat) = []) (aI (at_lt h28) (aI (at_enc (enc := eTUnit) h28) (aI (rfl : ([] : List Nat) = []) (aI (l_eqUnit_ok v25 v27 v29 h30) (aI trivial (aI (rfl : ([] : List Nat) = []) (t)))))))))) (by kernel_rfl) ?_
        rcases ofCond H with ⟨c31, H⟩ | ⟨c31, H⟩
        · refine ite_t c31 (by kernel_rfl) ?_
          refine seq_ops [] [] [(4, cB false)] [] (fun t => t) (by kernel_rfl) ?_
          refine ends_ret ?_
          obtain rfl := Option.some.inj H
          exact And.intro (by simp) (And.intro rfl rfl)
        · refine ite_f c31 (by kernel_rfl) ?_
          refine ends_skip ?_
          change EndsI _ _ _ _ _ _
          refine one_ops [] [] [(0, .c (dat 4 eTUnit zTUnit p0)), (1, .c (dat 4 eTUnit zTUnit p1)), (5, cI (W (x22 + 1)))] [] (fun t => t) (by kernel_rfl) ?_
          obtain rfl := Option.some.inj H
          exact And.intro rfl rfl
      · refine ite_f c24 (by kernel_rfl) ?_
        refine tell [] [] [] (fun t => t) (by kernel_rfl) ?_
        refine ends_exit ?_
        obtain rfl := Option.some.inj H
        exact And.intro (by simp) (And.intro rfl rfl)
    · clear h33
      cases y32 with
      | inl y34 =>
        replace H := ofInl H
        intro e s q
        obtain ⟨rfl, rfl⟩ := q
        change EndsI _ _ _ _ _ _
        refine seq_ops [] [] [(4, cB true)] [] (fun t => t) (by kernel_rfl) ?_
        refine ends_ret ?_
        obtain rfl := Option.some.inj H
        exact And.intro (.inl rfl) rfl
      | inr y35 =>
        replace H := ofInr H
        intro e s q
        obtain ⟨rfl, rfl⟩ := q
        obtain rfl := Option.some.inj H
        exact And.intro (.inl rfl) rfl

def l_eqView_ir : S :=
 (.seq (.ops [⟨some 2, .box 6 (.t 0), none⟩, ⟨some 3, .box 6 (.t 1), none⟩, ⟨some 4, .mv (.v (.bool false)), none⟩])
 (.seq (.seq (.ops [⟨some 5, .fad 0 (.t 2), none⟩, ⟨some 6, .load 1 false (.t 5), none⟩, ⟨some 7, .fad 0 (.t 3), none⟩, ⟨some 8, .load 1 false (.t 7), none⟩, ⟨some 9, .bin .neq (.t 6) (.t 8), none⟩])
 (.ite (.t 9) (.seq (.ops [⟨some 4, .mv (.v (.bool false)), none⟩])
  .ret)
 .skip))
 (.seq (.seq (.ops [⟨some 10, .fad 1 (.t 2), none⟩, ⟨some 11, .load 1 false (.t 10), none⟩, ⟨some 12, .fad 1 (.t 3), none⟩, ⟨some 13, .load 1 false (.t 12), none⟩, ⟨some 14, .bin .neq (.t 11) (.t 13), none⟩])
 (.ite (.t 14) (.seq (.ops [⟨some 4, .mv (.v (.bool false)), none⟩])
  .ret)
 .skip))
 (.seq (.seq (.ops [⟨some 15, .fad 2 (.t 2), none⟩, ⟨some 16, .load 1 false (.t 15), none⟩, ⟨some 17, .fad 2 (.t 3), none⟩, ⟨some 18, .load 1 false (.t 17), none⟩, ⟨some 19, .bin .neq (.t 16) (.t 18), none⟩])
 (.ite (.t 19) (.seq (.ops [⟨some 4, .mv (.v (.bool false)), none⟩])
  .ret)
 .skip))
 (.seq (.seq (.ops [⟨some 20, .fad 3 (.t 2), none⟩, ⟨some 21, .load 1 false (.t 20), none⟩, ⟨some 22, .fad 3 (.t 3), none⟩, ⟨some 23, .load 1 false (.t 22), none⟩, ⟨some 24, .call 18 [.t 21, .t 23], none⟩, ⟨some 25, .not (.t 24), none⟩])
 (.ite (.t 25) (.seq (.ops [⟨some 4, .mv (.v (.bool false)), none⟩])
  .ret)
 .skip))
 (.seq (.seq (.ops [⟨some 26, .fad 4 (.t 2), none⟩, ⟨some 27, .load 1 false (.t 26), none⟩, ⟨some 28, .fad 4 (.t 3), none⟩, ⟨some 29, .load 1 false (.t 28), none⟩, ⟨some 30, .call 75 [.t 27, .t 29], none⟩, ⟨some 31, .not (.t 30), none⟩])
 (.ite (.t 31) (.seq (.ops [⟨some 4, .mv (.v (.bool false)), none⟩])
  .ret)
 .skip))
 (.seq (.seq (.ops [⟨some 32, .fad 5 (.t 2), none⟩, ⟨some 33, .load 1 false (.t 32), none⟩, ⟨some 34, .fad 5 (.t 3), none⟩, ⟨some 35, .load 1 false (.t 34), none⟩, ⟨some 36, .call 75 [.t 33, .t 35], none⟩, ⟨some 37, .not (.t 36), none⟩])
 (.ite (.t 37) (.seq (.ops [⟨some 4, .mv (.v (.bool false)), none⟩])
  .ret)
 .skip))
 (.seq (.ops [⟨some 4, .mv (.v (.bool true)), none⟩])
 .ret))))))))
noncomputable def X.l_eqView (p0 : TView) (p1 : TView) : Option Bool :=
  (bif (p0.Side != p1.Side) then some false else (bif (p0.Turn != p1.Turn) then some false else (bif (p0.Weather != p1.Weather) then some false else ((X.l_eqIntS p0.Seen p1.Seen).bind fun v10 => (bif (!v10) then some false else ((X.l_eqUnitS p0.Own p1.Own).bind fun v16 => (bif (!v16) then some false else ((X.l_eqUnitS p0.Enemies p1.Enemies).bind fun v19 => (bif (!v19) then some false else some true)))))))))
theorem l_eqView_ok (p0 : TView) (p1 : TView) (r : Bool) (H : X.l_eqView p0 p1 = some r) : FnOk Tryz.prog gl 29 [.agg (eTView p0), .agg (eTView p1)] (cB r) := by
  unfold X.l_eqView at H
  refine fn_in (fn := Tryz.f29) (ir := l_eqView_ir) (s1 := lit [(4, cB r)] []) glL Tryz.func29 (by kernel_rfl) (by kernel_rfl) (by kernel_rfl) (by kernel_rfl) (by kernel_rfl) ?_
  refine seq_ops [] [] [(2, .c (.pk 2 0)), (3, .c (.pk 3 0))] [(2, .var (eTView p0) false), (3, .var (eTView p1) false)] (fun t => t) (by kernel_rfl) ?_
  refine seq_in ?_
  refine seq_ops [] [] [(2, .c (.pk 2 0)), (3, .c (.pk 3 0)), (9, cB (p0.Side != p1.Side))] [(2, .var (eTView p0) false), (3, .var (eTView p1) false)] (fun t => t) (by kernel_rfl) ?_
  rcases ofCond H with ⟨c2, H⟩ | ⟨c2, H⟩
  · refine ite_t c2 (by kernel_rfl) ?_
    refine seq_ops [] [] [(4, cB false)] [] (fun t => t) (by kernel_rfl) ?_
    refine ends_ret ?_
    obtain rfl := Option.some.inj H
    exact And.intro (.inl rfl) rfl
  · refine ite_f c2 (by kernel_rfl) ?_
    refine ends_skip ?_
    change EndsI _ _ _ _ _ _
    refine seq_in ?_
    refine seq_ops [] [] [(2, .c (.pk 2 0)), (3, .c (.pk 3 0)), (14, cB (p0.Turn != p1.Turn))] [(2, .var (eTView p0) false), (3, .var (eTView p1) false)] (fun t => t) (by kernel_rfl) ?_
    rcases ofCond H with ⟨c4, H⟩ | ⟨c4, H⟩
    · refine ite_t c4 (by kernel_rfl) ?_
      refine seq_ops [] [] [(4, cB false)] [] (fun t => t) (by kernel_rfl) ?_
      refine ends_ret ?_
      obtain rfl := Option.some.inj H
      exact And.intro (.inl rfl) rfl
    · refine ite_f c4 (by kernel_rfl) ?_
      refine ends_skip ?_
      change EndsI _ _ _ _ _ _
      refine seq_in ?_
      refine seq_ops [] [] [(2, .c (.pk 2 0)), (3, .c (.pk 3 0)), (19, cB (p0.Weather != p1.Weather))] [(2, .var (eTView p0) false), (3, .var (eTView p1) false)] (fun t => t) (by kernel_rfl) ?_
      rcases ofCond H with ⟨c6, H⟩ | ⟨c6, H⟩
      · refine ite_t c6 (by kernel_rfl) ?_
        refine seq_ops [] [] [(4, cB false)] [] (fun t => t) (by kernel_rfl) ?_
        refine ends_ret ?_
        obtain rfl := Option.some.inj H
        exact And.intro (.inl rfl) rfl
      · refine ite_f c6 (by kernel_rfl) ?_
        refine ends_skip ?_
        change EndsI _ _ _ _ _ _
        refine seq_in ?_
        obtain ⟨v10, h11, H⟩ := ofBind H
        refine seq_ops [.res (cB v10)] [] [(2, .c (.pk 2 0)), (3, .c (.pk 3 0)), (25, cB (!v10))] [(2, .var (eTView p0) false), (3, .var (eTView p1) false)] (fun t => aI (l_eqIntS_ok p0.Seen p1.Seen v10 h11) (t)) (by kernel_rfl) ?_
        rcases ofCond H with ⟨c12, H⟩ | ⟨c12, H⟩
        · refine ite_t c12 (by kernel_rfl) ?_
          refine seq_ops [] [] [(4, cB false)] [] (fun t => t) (by kernel_rfl) ?_
          refine ends_ret ?_
          obtain rfl := Option.some.inj H
          exact And.intro (.inl rfl) rfl
        · refine ite_f c12 (by kernel_rfl) ?_
          refine ends_skip ?_
          change EndsI _ _ _ _ _ _
          refine seq_in ?_
          obtain ⟨v16, h17, H⟩ := ofBind H
          refine seq_ops [.res (cB v16)] [] [(2, .c (.pk 2 0)), (3, .c (.pk 3 0)), (31, cB (!v16))] [(2, .var (eTView p0) false), (3, .var (eTView p1) false)] (fun t => aI (l_eqUnitS_ok p0.Own p1.Own v16 h17) (t)) (by kernel_rfl) ?_
          rcases ofCond H with ⟨c18, H⟩ | ⟨c18, H⟩
          · refine ite_t c18 (by kernel_rfl) ?_
            refine seq_ops [] [] [(4, cB false)] [] (fun t => t) (by kernel_rfl) ?_
            refine ends_ret ?_
            obtain rfl := Option.some.inj H
            exact And.intro (.inl rfl) rfl
          · refine ite_f c18 (by kernel_rfl) ?_
            refine ends_skip ?_
            change EndsI _ _ _ _ _ _
            refine seq_in ?_
            obtain ⟨v19, h20, H⟩ := ofBind H
            refine seq_ops [.res (cB v19)] [] [(37, cB (!v19))] [] (fun t => aI (l_eqUnitS_ok p0.Enemies p1.Enemies v19 h20) (t)) (by kernel_rfl) ?_
            rcases ofCond H with ⟨c21, H⟩ | ⟨c21, H⟩
            · refine ite_t c21 (by kernel_rfl) ?_
              refine seq_ops [] [] [(4, cB false)] [] (fun t => t) (by kernel_rfl) ?_
              refine ends_ret ?_
              obtain rfl := Option.some.inj H
              exact And.intro (.inl rfl) rfl
            · refine ite_f c21 (by kernel_rfl) ?_
              refine ends_skip ?_
              change EndsI _ _ _ _ _ _
              refine seq_ops [] [] [(4, cB true)] [] (fun t => t) (by kernel_rfl) ?_
              refine ends_ret ?_
              obtain rfl := Option.some.inj H
              exact And.intro (.inl rfl) rfl

def l_markUnitS_ir : S :=
 (.seq (.ops [⟨some 4, .mv (.v (.int .i64 0)), none⟩])
 (.seq (.seq (.ops [⟨some 5, .mv (.v (.int .i64 0)), none⟩])
 (.blk 0 (.loop (.seq (.seq (.ops [⟨some 6, .mv (.t 5), none⟩, ⟨some 7, .mv (.t 0), none⟩, ⟨some 8, .len (.t 7), none⟩, ⟨some 9, .bin .lss (.t 6) (.t 8), none⟩])
   (.ite (.t 9) .skip
   (.exit 0)))
   (.seq (.blk 1 (.seq (.ops [⟨some 12, .mv (.t 0), none⟩, ⟨some 13, .mv (.t 5), none⟩, ⟨some 14, .mv (.t 1), none⟩, ⟨some 15, .iad 4 (.t 12) (.t 13), none⟩, ⟨some 16, .fad 0 (.t 15), none⟩, ⟨none, .store 1 (.t 16) (.t 14), none⟩])
    (.seq (.ops [⟨some 17, .mv (.t 1), none⟩, ⟨some 18, .bin .add (.t 17) (.v (.int .i64 1)), none⟩, ⟨some 1, .mv (.t 18), none⟩])
    (.seq (.ops [⟨some 19, .mv (.t 0), none⟩, ⟨some 20, .mv (.t 5), none⟩, ⟨some 21, .mv (.t 1), none⟩, ⟨some 22, .iad 4 (.t 19) (.t 20), none⟩, ⟨some 23, .fad 1 (.t 22), none⟩, ⟨none, .store 1 (.t 23) (.t 21), none⟩])
    (.seq (.ops [⟨some 24, .mv (.t 1), none⟩, ⟨some 25, .bin .add (.t 24) (.v (.int .i64 1)), none⟩, ⟨some 1, .mv (.t 25), none⟩])
    (.seq (.ops [⟨some 26, .mv (.t 0), none⟩, ⟨some 27, .mv (.t 5), none⟩, ⟨some 28, .mv (.t 1), none⟩, ⟨some 29, .iad 4 (.t 26) (.t 27), none⟩, ⟨some 30, .fad 2 (.t 29), none⟩, ⟨none, .store 1 (.t 30) (.t 28), none⟩])
    (.seq (.ops [⟨some 31, .mv (.t 1), none⟩, ⟨some 32, .bin .add (.t 31) (.v (.int .i64 1)), none⟩, ⟨some 1, .mv (.t 32), none⟩])
    (.seq (.ops [⟨some 33, .mv (.t 0), none⟩, ⟨some 34, .mv (.t 5), none⟩, ⟨some 35, .mv (.t 1), none⟩, ⟨some 36, .iad 4 (.t 33) (.t 34), none⟩, ⟨some 37, .fad 3 (.t 36), none⟩, ⟨none, .store 1 (.t 37) (.t 35), none⟩])
    (.ops [⟨some 38, .mv (.t 1), none⟩, ⟨some 39, .bin .add (.t 38) (.v (.int .i64 1)), none⟩, ⟨some 1, .mv (.t 39), none⟩])))))))))
   (.ops [⟨some 10, .mv (.t 5), none⟩, ⟨some 11, .bin .add (.t 10) (.v (.int .i64 1)), none⟩, ⟨some 5, .mv (.t 11), none⟩]))))))
 (.seq (.ops [⟨some 40, .mv (.t 1), none⟩, ⟨some 4, .mv (.t 40), none⟩])
 .ret)))
noncomputable def X.l_markUnitS_L (p0 : (List TUnit)) (p1 : Int) : Option Int :=
  ((loop (fun (x10 : (Int × Int)) => ((bif (decide (x10.2 < (p0.length : Int))) then ((at' zTUnit p0 x10.2).bind fun v13 => some (Sum.inl ((W ((W ((W ((W (x10.1 + 1)) + 1)) + 1)) + 1)), (W (x10.2 + 1))))) else some (Sum.inr x10.1)) : Option ((Int × Int) ⊕ Int))) (p1, 0)).bind fun y15 => some y15)
theorem l_markUnitS_L_ok (p0 : (List TUnit)) (p1 : Int) (r : Int) (H : X.l_markUnitS_L p0 p1 = some r) : FnOk Tryz.prog gl 78 [.c (.lv (dat 4 eTUnit zTUnit p0)), cI p1] (cI r) := by
  unfold X.l_markUnitS_L at H
  refine fn_in (fn := Tryz.f78) (ir := l_markUnitS_ir) (s1 := lit [(4, cI r)] []) glL Tryz.func78 (by kernel_rfl) (by kernel_rfl) (by kernel_rfl) (by kernel_rfl) (by kernel_rfl) ?_
  refine seq_ops [] [] [(0, .c (.lv (dat 4 eTUnit zTUnit p0))), (1, cI p1)] [] (fun t => t) (by kernel_rfl) ?_
  refine seq_in ?_
  refine seq_ops [] [] [(0, .c (.lv (dat 4 eTUnit zTUnit p0))), (1, cI p1), (5, cI 0)] [] (fun t => t) (by kernel_rfl) ?_
  refine ends_blk ?_
  obtain ⟨y15, h16, H⟩ := ofBind H
  refine loop_in (fun (x : (Int × Int)) => lit [(0, .c (.lv (dat 4 eTUnit zTUnit p0))), (1, cI x.1), (5, cI x.2)] []) (fun (z : Int) => At (.exit 0) (lit [(1, cI z)] [])) h16 ?_ ?_
  · clear H h16
    intro x10 y0 H
    refine seq_in ?_
    refine seq_ops [] [] [(0, .c (.lv (dat 4 eTUnit zTUnit p0))), (1, cI x10.1), (5, cI x10.2), (9, cB (decide (x10.2 < (p0.length : Int))))] [] (fun t => lI p0 (t)) (by kernel_rfl) ?_
    rcases ofCond H with ⟨c12, H⟩ | ⟨c12, H⟩
    · refine ite_t c12 (by kernel_rfl) ?_
      refine ends_skip ?_
      change EndsI _ _ _ _ _ _
      refine seq_in ?_
      refine ends_blk ?_
      obtain ⟨v13, h14, H⟩ := ofBind H
      refine seq_ops [.cs (eTUnit v13)] [] [(0, .c (.lv (dat 4 eTUnit zTUnit p0))), (1, cI x10.1), (5, cI x10.2)] [] (fun t => aI (at_lt h14) (aI (at_enc (enc := eTUnit) h14) (aI (rfl : true = true) (t)))) (by kernel_rfl) ?_
      refine seq_ops [] [] [(0, .c (.lv (dat 4 eTUnit zTUnit p0))), (1, cI (W (x10.1 + 1))), (5, cI x10.2)] [] (fun t => t) (by kernel_rfl) ?_
      refine seq_ops [.cs (eTUnit v13)] [] [(0, .c (.lv (dat 4 eTUnit zTUnit p0))), (1, cI (W (x10.1 + 1))), (5, cI x10.2)] [] (fun t => aI (at_lt h14) (aI (at_enc (enc := eTUnit) h14) (aI (rfl : true = true) (t)))) (by kernel_rfl) ?_
      refine seq_ops [] [] [(0, .c (.lv (dat 4 eTUnit zTUnit p0))), (1, cI (W ((W (x10.1 + 1)) + 1))), (5, cI x10.2)] [] (fun t => t) (by kernel_rfl) ?_
      refine seq_ops [.cs (eTUnit v13)] [] [(0, .c (.lv (dat 4 eTUnit zTUnit p0))), (1, cI (W ((W (x10.1 + 1)) + 1))), (5, cI x10.2)] [] (fun t => aI (at_lt h14) (aI (at_enc (enc := eTUnit) h14) (aI (rfl : true = true) (t)))) (by kernel_rfl) ?_
      refine seq_ops [] [] [(0, .c (.lv (dat 4 eTUnit zTUnit p0))), (1, cI (W ((W ((W (x10.1 + 1)) + 1)) + 1))), (5, cI x10.2)] [] (fun t => t) (by kernel_rfl) ?_
      refine seq_ops [.cs (eTUnit v13)] [] [(0, .c (.lv (dat 4 eTUnit zTUnit p0))), (1, cI (W ((W ((W (x10.1 + 1)) + 1)) + 1))), (5, cI x10.2)] [] (fun t => aI (at_lt h14) (aI (at_enc (enc := eTUnit) h14) (aI (rfl : true = true) (t)))) (by kernel_rfl) ?_
      refine one_ops [] [] [(0, .c (.lv (dat 4 eTUnit zTUnit p0))), (1, cI (W ((W ((W ((W (x10.1 + 1)) + 1)) + 1)) + 1))), (5, cI x10.2)] [] (fun t => t) (by kernel_rfl) ?_
      change EndsI _ _ _ _ _ _
      refine one_ops [] [] [(0, .c (.lv (dat 4 eTUnit zTUnit p0))), (1, cI (W ((W ((W ((W (x10.1 + 1)) + 1)) + 1)) + 1))), (5, cI (W (x10.2 + 1)))] [] (fun t => t) (by kernel_rfl) ?_
      obtain rfl := Option.some.inj H
      exact And.intro rfl rfl
    · refine ite_f c12 (by kernel_rfl) ?_
      refine tell [] [(1, cI x10.1)] [] (fun t => t) (by kernel_rfl) ?_
      refine ends_exit ?_
      obtain rfl := Option.some.inj H
      exact And.intro (by simp) (And.intro rfl rfl)
  · clear h16
    intro e s q
    obtain ⟨rfl, rfl⟩ := q
    change EndsI _ _ _ _ _ _
    refine seq_ops [] [] [(4, cI y15)] [] (fun t => t) (by kernel_rfl) ?_
    refine ends_ret ?_
    obtain rfl := Option.some.inj H
    exact And.intro (.inl rfl) rfl

def l_markView_ir : S :=
 (.seq (.ops [⟨some 2, .box 6 (.t 0), none⟩, ⟨some 4, .mv (.v (.int .i64 0)), none⟩])
 (.seq (.ops [⟨some 5, .fad 3 (.t 2), none⟩, ⟨some 6, .load 1 false (.t 5), none⟩, ⟨some 7, .mv (.t 1), none⟩, ⟨some 8, .call 23 [.t 6, .t 7], none⟩, ⟨some 1, .mv (.t 8), none⟩])
 (.seq (.ops [⟨some 9, .fad 4 (.t 2), none⟩, ⟨some 10, .load 1 false (.t 9), none⟩, ⟨some 11, .mv (.t 1), none⟩, ⟨some 12, .call 78 [.t 10, .t 11], none⟩, ⟨some 1, .mv (.t 12), none⟩])
 (.seq (.ops [⟨some 13, .fad 5 (.t 2), none⟩, ⟨some 14, .load 1 false (.t 13), none⟩, ⟨some 15, .mv (.t 1), none⟩, ⟨some 16, .call 78 [.t 14, .t 15], none⟩, ⟨some 1, .mv (.t 16), none⟩])
 (.seq (.ops [⟨some 17, .mv (.t 1), none⟩, ⟨some 4, .mv (.t 17), none⟩])
 .ret)))))
noncomputable def X.l_markView_L (p0 : TView) (p1 : Int) : Option Int :=
  ((X.l_markIntS_L p0.Seen p1).bind fun v1 => ((X.l_markUnitS_L p0.Own v1).bind fun v3 => ((X.l_markUnitS_L p0.Enemies v3).bind fun v5 => some v5)))
theorem l_markView_L_ok (p0 : TView) (p1 : Int) (r : Int) (H : X.l_markView_L p0 p1 = some r) : FnOk Tryz.prog gl 30 [.agg [.int .i64 p0.Side, .int .i64 p0.Turn, .int .i64 p0.Weather, .lv (dat 1 eI zI p0.Seen), .lv (dat 4 eTUnit zTUnit p0.Own), .lv (dat 4 eTUnit zTUnit p0.Enemies)], cI p1] (cI r) := by
  unfold X.l_markView_L at H
  refine fn_in (fn := Tryz.f30) (ir := l_markView_ir) (s1 := lit [(4, cI r)] []) glL Tryz.func30 (by kernel_rfl) (by kernel_rfl) (by kernel_rfl) (by kernel_rfl) (by kernel_rfl) ?_
  refine seq_ops [] [] [(1, cI p1), (2, .c (.pk 2 0))] [(2, .var [.int .i64 p0.Side, .int .i64 p0.Turn, .int .i64 p0.Weather, .lv (dat 1 eI zI p0.Seen), .lv (dat 4 eTUnit zTUnit p0.Own), .lv (dat 4 eTUnit zTUnit p0.Enemies)] false)] (fun t => t) (by kernel_rfl) ?_
  obtain ⟨v1, h2, H⟩ := ofBind H
  refine seq_ops [.res (cI v1)] [] [(1, cI v1), (2, .c (.pk 2 0))] [(2, .var [.int .i64 p0.Side, .int .i64 p0.Turn, .int .i64 p0.Weather, .lv (dat 1 eI zI p0.Seen), .lv (dat 4 eTUnit zTUnit p0.Own), .lv (dat 4 eTUnit zTUnit p0.Enemies)] false)] (fun t => aI (l_markIntS_L_ok p0.Seen p1 v1 h2) (t)) (by kernel_rfl) ?_
  obtain ⟨v3, h4, H⟩ := ofBind H
  refine seq_ops [.res (cI v3)] [] [(1, cI v3), (2, .c (.pk 2 0))] [(2, .var [.int .i64 p0.Side, .int .i64 p0.Turn, .int .i64 p0.Weather, .lv (dat 1 eI zI p0.Seen), .lv (dat 4 eTUnit zTUnit p0.Own), .lv (dat 4 eTUnit zTUnit p0.Enemies)] false)] (fun t => aI (l_markUnitS_L_ok p0.Own v1 v3 h4) (t)) (by kernel_rfl) ?_
  obtain ⟨v5, h6, H⟩ := ofBind H
  refine seq_ops [.res (cI v5)] [] [(1, cI v5)] [] (fun t => aI (l_markUnitS_L_ok p0.Enemies v3 v5 h6) (t)) (by kernel_rfl) ?_
  refine seq_ops [] [] [(4, cI v5)] [] (fun t => t) (by kernel_rfl) ?_
  refine ends_ret ?_
  obtain rfl := Option.some.inj H
  exact And.intro (.inl rfl) rfl

def l_FnExactUnseenHexes_ir : S :=
 (.seq (.ops [⟨some 2, .box 12 (.t 0), none⟩, ⟨some 3, .box 6 (.t 1), none⟩, ⟨some 4, .mv (.v (.bool false)), none⟩])
 (.seq (.ops [⟨some 5, .mv (.v (.int .i64 1048576)), none⟩])
 (.seq (.ops [⟨some 17, .load 12 true (.t 2), none⟩, ⟨some 18, .mv (.t 5), none⟩, ⟨some 19, .call 12 [.t 17, .t 18], none⟩, ⟨some 5, .mv (.t 19), none⟩])
 (.seq (.seq (.ops [⟨some 20, .mv (.t 5), none⟩, ⟨some 21, .bin .lss (.t 20) (.v (.int .i64 0)), none⟩])
 (.ite (.t 21) (.seq (.ops [⟨some 4, .mv (.v (.bool true)), none⟩])
  .ret)
 .skip))
 (.seq (.ops [⟨some 22, .load 6 true (.t 3), none⟩, ⟨some 23, .mv (.t 5), none⟩, ⟨some 24, .call 25 [.t 22, .t 23], none⟩, ⟨some 5, .mv (.t 24), none⟩])
 (.seq (.seq (.ops [⟨some 25, .mv (.t 5), none⟩, ⟨some 26, .bin .lss (.t 25) (.v (.int .i64 0)), none⟩])
 (.ite (.t 26) (.seq (.ops [⟨some 4, .mv (.v (.bool true)), none⟩])
  .ret)
 .skip))
 (.seq (.draw 10 [⟨some 28, .load 12 true (.t 2), none⟩, ⟨some 29, .call 15 [.t 28], none⟩, ⟨some 30, .load 6 true (.t 3), none⟩, ⟨some 31, .call 27 [.t 30], none⟩, ⟨some 32, .call 26 [.t 29, .t 31], none⟩, ⟨some 27, .mv (.t 32), none⟩, ⟨some 33, .ext (.t 27) 0, none⟩, ⟨some 34, .ext (.t 27) 1, none⟩, ⟨some 6, .mv (.t 33), none⟩, ⟨some 7, .mv (.t 34), none⟩])
 (.seq (.ops [⟨some 35, .load 12 true (.t 2), none⟩, ⟨some 36, .call 15 [.t 35], none⟩, ⟨some 8, .alloc [.nil, .nil, .int .i64 0, .int .i64 0, .int .i64 0, .int .i64 0, .int .i64 0, .int .i64 0, .int .i64 0, .nil, .nil, .nil], none⟩, ⟨none, .store 12 (.t 8) (.t 36), none⟩])
 (.seq (.ops [⟨some 37, .load 6 true (.t 3), none⟩, ⟨some 38, .call 27 [.t 37], none⟩, ⟨some 9, .alloc [.int .i64 0, .int .i64 0, .int .i64 0, .nil, .nil, .nil], none⟩, ⟨none, .store 6 (.t 9) (.t 38), none⟩])
 (.seq (.ops [⟨some 40, .load 12 true (.t 8), none⟩, ⟨some 41, .load 6 true (.t 9), none⟩, ⟨some 42, .call 28 [.t 40, .t 41], none⟩, ⟨some 39, .mv (.t 42), none⟩, ⟨some 43, .ext (.t 39) 0, none⟩, ⟨some 44, .ext (.t 39) 1, none⟩, ⟨some 10, .mv (.t 43), none⟩, ⟨some 11, .mv (.t 44), none⟩])
 (.seq (.seq (.ops [⟨some 45, .mv (.t 10), none⟩, ⟨some 46, .mv (.t 6), none⟩, ⟨some 47, .call 18 [.t 45, .t 46], none⟩, ⟨some 48, .not (.t 47), none⟩, ⟨some 49, .mv (.t 48), none⟩, ⟨some 50, .mv (.t 11), some (49, false)⟩, ⟨some 51, .mv (.t 7), some (49, false)⟩, ⟨some 52, .bqe true (.t 50) (.t 51), some (49, false)⟩, ⟨some 53, .pick (.t 49) (.v (.bool true)) (.t 52), none⟩])
 (.ite (.t 53) (.seq (.ops [⟨some 4, .mv (.v (.bool false)), none⟩])
  .ret)
 .skip))
 (.seq (.seq (.draw 5 [⟨some 54, .load 12 true (.t 8), none⟩, ⟨some 55, .load 12 true (.t 2), none⟩, ⟨some 56, .call 15 [.t 55], none⟩, ⟨some 57, .call 19 [.t 54, .t 56], none⟩, ⟨some 58, .not (.t 57), none⟩])
 (.ite (.t 58) (.seq (.ops [⟨some 4, .mv (.v (.bool false)), none⟩])
  .ret)
 .skip))
 (.seq (.seq (.draw 5 [⟨some 59, .load 6 true (.t 9), none⟩, ⟨some 60, .load 6 true (.t 3), none⟩, ⟨some 61, .call 27 [.t 60], none⟩, ⟨some 62, .call 29 [.t 59, .t 61], none⟩, ⟨some 63, .not (.t 62), none⟩])
 (.ite (.t 63) (.seq (.ops [⟨some 4, .mv (.v (.bool false)), none⟩])
  .ret)
 .skip))
 (.seq (.ops [⟨some 12, .mv (.v (.int .i64 1)), none⟩])
 (.seq (.ops [⟨some 64, .load 12 true (.t 8), none⟩, ⟨some 65, .mv (.t 12), none⟩, ⟨some 66, .call 21 [.t 64, .t 65], none⟩, ⟨some 12, .mv (.t 66), none⟩])
 (.seq (.ops [⟨some 67, .load 6 true (.t 9), none⟩, ⟨some 68, .mv (.t 12), none⟩, ⟨some 69, .call 30 [.t 67, .t 68], none⟩, ⟨some 12, .mv (.t 69), none⟩])
 (.seq (.seq (.ops [⟨some 70, .mv (.t 12), none⟩, ⟨some 71, .bin .lss (.t 70) (.v (.int .i64 0)), none⟩, ⟨some 72, .mv (.t 71), none⟩, ⟨some 73, .mv (.t 10), some (72, false)⟩, ⟨some 74, .mv (.t 6), some (72, false)⟩, ⟨some 75, .call 18 [.t 73, .t 74], some (72, false)⟩, ⟨some 76, .not (.t 75), some (72, false)⟩, ⟨some 77, .pick (.t 72) (.v (.bool true)) (.t 76), none⟩, ⟨some 78, .mv (.t 77), none⟩, ⟨some 79, .mv (.t 11), some (78, false)⟩, ⟨some 80, .mv (.t 7), some (78, false)⟩, ⟨some 81, .bqe true (.t 79) (.t 80), some (78, false)⟩, ⟨some 82, .pick (.t 78) (.v (.bool true)) (.t 81), none⟩])
 (.ite (.t 82) (.seq (.ops [⟨some 4, .mv (.v (.bool false)), none⟩])
  .ret)
 .skip))
 (.seq (.ops [⟨some 13, .mv (.v (.int .i64 1)), none⟩])
 (.seq (.ops [⟨some 83, .mv (.t 10), none⟩, ⟨some 84, .mv (.t 13), none⟩, ⟨some 85, .call 23 [.t 83, .t 84], none⟩, ⟨some 13, .mv (.t 85), none⟩])
 (.seq (.ops [⟨some 14, .mv (.v (.int .i64 1)), none⟩])
 (.seq (.ops [⟨some 86, .mv (.t 10), none⟩, ⟨some 87, .mv (.t 14), none⟩, ⟨some 88, .call 24 [.t 86, .t 87], none⟩, ⟨some 14, .mv (.t 88), none⟩])
 (.seq (.seq (.ops [⟨some 89, .mv (.t 14), none⟩, ⟨some 90, .bin .lss (.t 89) (.v (.int .i64 0)), none⟩])
 (.ite (.t 90) (.seq (.ops [⟨some 4, .mv (.v (.bool false)), none⟩])
  .ret)
 .skip))
 (.seq (.seq (.ops [⟨some 91, .mv (.t 14), none⟩, ⟨some 92, .mv (.t 13), none⟩, ⟨some 93, .bin .neq (.t 91) (.t 92), none⟩])
 (.ite (.t 93) (.seq (.ops [⟨some 4, .mv (.v (.bool false)), none⟩])
  .ret)
 .skip))
 (.seq (.draw 10 [⟨some 95, .load 12 true (.t 2), none⟩, ⟨some 96, .call 15 [.t 95], none⟩, ⟨some 97, .load 6 true (.t 3), none⟩, ⟨some 98, .call 27 [.t 97], none⟩, ⟨some 99, .call 28 [.t 96, .t 98], none⟩, ⟨some 94, .mv (.t 99), none⟩, ⟨some 100, .ext (.t 94) 0, none⟩, ⟨some 101, .ext (.t 94) 1, none⟩, ⟨some 15, .mv (.t 100), none⟩, ⟨some 16, .mv (.t 101), none⟩])
 (.seq (.seq (.ops [⟨some 102, .mv (.t 15), none⟩, ⟨some 103, .mv (.t 6), none⟩, ⟨some 104, .call 18 [.t 102, .t 103], none⟩, ⟨some 105, .not (.t 104), none⟩, ⟨some 106, .mv (.t 105), none⟩, ⟨some 107, .mv (.t 16), some (106, false)⟩, ⟨some 108, .mv (.t 7), some (106, false)⟩, ⟨some 109, .bqe true (.t 107) (.t 108), some (106, false)⟩, ⟨some 110, .pick (.t 106) (.v (.bool true)) (.t 109), none⟩])
 (.ite (.t 110) (.seq (.ops [⟨some 4, .mv (.v (.bool false)), none⟩])
  .ret)
 .skip))
 (.seq (.ops [⟨some 14, .mv (.v (.int .i64 1)), none⟩])
 (.seq (.ops [⟨some 111, .mv (.t 10), none⟩, ⟨some 112, .mv (.t 14), none⟩, ⟨some 113, .call 24 [.t 111, .t 112], none⟩, ⟨some 14, .mv (.t 113), none⟩])
 (.seq (.seq (.ops [⟨some 114, .mv (.t 14), none⟩, ⟨some 115, .bin .lss (.t 114) (.v (.int .i64 0)), none⟩])
 (.ite (.t 115) (.seq (.ops [⟨some 4, .mv (.v (.bool false)), none⟩])
  .ret)
 .skip))
 (.seq (.seq (.ops [⟨some 116, .mv (.t 14), none⟩, ⟨some 117, .mv (.t 13), none⟩, ⟨some 118, .bin .neq (.t 116) (.t 117), none⟩])
 (.ite (.t 118) (.seq (.ops [⟨some 4, .mv (.v (.bool false)), none⟩])
  .ret)
 .skip))
 (.seq (.ops [⟨some 4, .mv (.v (.bool true)), none⟩])
 .ret))))))))))))))))))))))))))))))
noncomputable def X.l_FnExactUnseenHexes (p0 : TBoard) (p1 : TView) : Option Bool :=
  ((X.l_szBoard p0 1048576).bind fun v1 => (bif (decide (v1 < 0)) then some true else ((X.l_szView p1 v1).bind fun v5 => (bif (decide (v5 < 0)) then some true else ((X.l_toBoard p0).bind fun v9 => ((X.l_toView p1).bind fun v11 => ((X.s_UnseenHexes v9 v11).bind fun v13 => ((X.l_toBoard p0).bind fun v15 => ((X.l_toView p1).bind fun v17 => ((X.i_UnseenHexes v15 v17).bind fun v19 => ((X.l_eqIntS v19.1 v13.1).bind fun v25 => (bif (!v25) then some false else (bif (!(v19.2 == v13.2)) then some false else ((X.l_toBoard p0).bind fun v34 => ((X.l_eqBoard v15 v34).bind fun v36 => (bif (!v36) then some false else ((X.l_toView p1).bind fun v44 => ((X.l_eqView v17 v44).bind fun v46 => (bif (!v46) then some false else ((X.l_markBoard_L v15 1).bind fun v49 => ((X.l_markView_L v17 v49).bind fun v51 => (bif (decide (v51 < 0)) then some false else ((X.l_eqIntS v19.1 v13.1).bind fun v58 => (bif (!v58) then some false else ((X.l_markIntS_Mod v19.1 1).bind fun v61 => (if v61.2.length = v19.1.length then ((X.l_heldIntS v61.2 1).bind fun v64 => (bif (decide (v64 < 0)) then some false else (bif (v64 != v61.1) then some false else ((X.l_toBoard p0).bind fun v70 => ((X.l_toView p1).bind fun v72 => ((X.i_UnseenHexes v70 v72).bind fun v74 => ((X.l_eqIntS v74.1 v13.1).bind fun v80 => (bif (!v80) then some false else (bif (!(v74.2 == v13.2)) then some false else ((X.l_heldIntS v61.2 1).bind fun v84 => (bif (decide (v84 < 0)) then some false else (bif (v84 != v61.1) then some false else some true)))))))))))) else none))))))))))))))))))))))))))
theorem l_FnExactUnseenHexes_T_ok (p0 : TBoard) (p1 : TView) (H : X.l_FnExactUnseenHexes p0 p1 = some true) : LawOk Tryz.prog gl 4 [.agg (eTBoard p0), .agg (eTView p1)] := by
  unfold X.l_FnExactUnseenHexes at H
  refine lawOk_of (fn := Tryz.f4) (ir := l_FnExactUnseenHexes_ir) (s1 := lit [(4, cB true)] []) Tryz.func4 (by kernel_rfl) (by kernel_rfl) (by kernel_rfl) (by kernel_rfl) ?_
  refine tell [] [(0, .agg [.old (dat 5 eTTerrain zTTerrain p0.Rules.Terrains), .old (dat 6 eTKind zTKind p0.Rules.Kinds), .int .i64 p0.Rules.Stack, .int .i64 p0.Rules.River, .int .i64 p0.Rules.Road, .int .i64 p0.Rules.Supply, .int .i64 p0.Rules.Turns, .int .i64 p0.Map.Width, .int .i64 p0.Map.Height, .old (dat 1 eI zI p0.Map.Terrain), .old (dat 1 eI zI p0.Map.Rivers), .old (dat 1 eI zI p0.Map.Roads)]), (1, .agg [.int .i64 p1.Side, .int .i64 p1.Turn, .int .i64 p1.Weather, .old (dat 1 eI zI p1.Seen), .old (dat 4 eTUnit zTUnit p1.Own), .old (dat 4 eTUnit zTUnit p1.Enemies)])] [] (fun t => t) (by kernel_rfl) ?_
  refine seq_ops [] [] [(2, .c (.pk 2 0)), (3, .c (.pk 3 0))] [(2, .var [.old (dat 5 eTTerrain zTTerrain p0.Rules.Terrains), .old (dat 6 eTKind zTKind p0.Rules.Kinds), .int .i64 p0.Rules.Stack, .int .i64 p0.Rules.River, .int .i64 p0.Rules.Road, .int .i64 p0.Rules.Supply, .int .i64 p0.Rules.Turns, .int .i64 p0.Map.Width, .int .i64 p0.Map.Height, .old (dat 1 eI zI p0.Map.Terrain), .old (dat 1 eI zI p0.Map.Rivers), .old (dat 1 eI zI p0.Map.Roads)] false), (3, .var [.int .i64 p1.Side, .int .i64 p1.Turn, .int .i64 p1.Weather, .old (dat 1 eI zI p1.Seen), .old (dat 4 eTUnit zTUnit p1.Own), .old (dat 4 eTUnit zTUnit p1.Enemies)] false)] (fun t => t) (by kernel_rfl) ?_
  refine seq_ops [] [] [(2, .c (.pk 2 0)), (3, .c (.pk 3 0)), (5, cI 1048576)] [(2, .var [.old (dat 5 eTTerrain zTTerrain p0.Rules.Terrains), .old (dat 6 eTKind zTKind p0.Rules.Kinds), .int .i64 p0.Rules.Stack, .int .i64 p0.Rules.River, .int .i64 p0.Rules.Road, .int .i64 p0.Rules.Supply, .int .i64 p0.Rules.Turns, .int .i64 p0.Map.Width, .int .i64 p0.Map.Height, .old (dat 1 eI zI p0.Map.Terrain), .old (dat 1 eI zI p0.Map.Rivers), .old (dat 1 eI zI p0.Map.Roads)] false), (3, .var [.int .i64 p1.Side, .int .i64 p1.Turn, .int .i64 p1.Weather, .old (dat 1 eI zI p1.Seen), .old (dat 4 eTUnit zTUnit p1.Own), .old (dat 4 eTUnit zTUnit p1.Enemies)] false)] (fun t => t) (by kernel_rfl) ?_
  obtain ⟨v1, h2, H⟩ := ofBind H
  refine seq_ops [.res (cI v1)] [] [(2, .c (.pk 2 0)), (3, .c (.pk 3 0)), (5, cI v1)] [(2, .var [.old (dat 5 eTTerrain zTTerrain p0.Rules.Terrains), .old (dat 6 eTKind zTKind p0.Rules.Kinds), .int .i64 p0.Rules.Stack, .int .i64 p0.Rules.River, .int .i64 p0.Rules.Road, .int .i64 p0.Rules.Supply, .int .i64 p0.Rules.Turns, .int .i64 p0.Map.Width, .int .i64 p0.Map.Height, .old (dat 1 eI zI p0.Map.Terrain), .old (dat 1 eI zI p0.Map.Rivers), .old (dat 1 eI zI p0.Map.Roads)] false), (3, .var [.int .i64 p1.Side, .int .i64 p1.Turn, .int .i64 p1.Weather, .old (dat 1 eI zI p1.Seen), .old (dat 4 eTUnit zTUnit p1.Own), .old (dat 4 eTUnit zTUnit p1.Enemies)] false)] (fun t => aI ((FnOk.le2 (xs := [.agg [.old (dat 5 eTTerrain zTTerrain p0.Rules.Terrains), .old (dat 6 eTKind zTKind p0.Rules.Kinds), .int .i64 p0.Rules.Stack, .int .i64 p0.Rules.River, .int .i64 p0.Rules.Road, .int .i64 p0.Rules.Supply, .int .i64 p0.Rules.Turns, .int .i64 p0.Map.Width, .int .i64 p0.Map.Height, .old (dat 1 eI zI p0.Map.Terrain), .old (dat 1 eI zI p0.Map.Rivers), .old (dat 1 eI zI p0.Map.Roads)], cI 1048576]) (l_szBoard_ok p0 1048576 v1 h2) ⟨LeD.agg (And.intro (LeC.old _) (And.intro (LeC.old _) (And.intro (LeC.refl _) (And.intro (LeC.refl _) (And.intro (LeC.refl _) (And.intro (LeC.refl _) (And.intro (LeC.refl _) (And.intro (LeC.refl _) (And.intro (LeC.refl _) (And.intro (LeC.old _) (And.intro (LeC.old _) (And.intro (LeC.old _) (trivial))))))))))))), LeD.refl _, trivial⟩).up glTs) (t)) (by kernel_rfl) ?_
  refine seq_in ?_
  refine seq_ops [] [] [(2, .c (.pk 2 0)), (3, .c (.pk 3 0)), (5, cI v1), (21, cB (decide (v1 < 0)))] [(2, .var [.old (dat 5 eTTerrain zTTerrain p0.Rules.Terrains), .old (dat 6 eTKind zTKind p0.Rules.Kinds), .int .i64 p0.Rules.Stack, .int .i64 p0.Rules.River, .int .i64 p0.Rules.Road, .int .i64 p0.Rules.Supply, .int .i64 p0.Rules.Turns, .int .i64 p0.Map.Width, .int .i64 p0.Map.Height, .old (dat 1 eI zI p0.Map.Terrain), .old (dat 1 eI zI p0.Map.Rivers), .old (dat 1 eI zI p0.Map.Roads)] false), (3, .var [.int .i64 p1.Side, .int .i64 p1.Turn, .int .i64 p1.Weather, .old (dat 1 eI zI p1.Seen), .old (dat 4 eTUnit zTUnit p1.Own), .old (dat 4 eTUnit zTUnit p1.Enemies)] false)] (fun t => t) (by kernel_rfl) ?_
  rcases ofCond H with ⟨c4, H⟩ | ⟨c4, H⟩
  · refine ite_t c4 (by kernel_rfl) ?_
    refine seq_ops [] [] [(4, cB true)] [] (fun t => t) (by kernel_rfl) ?_
    refine ends_ret ?_
    exact And.intro (.inl rfl) rfl
  · refine ite_f c4 (by kernel_rfl) ?_
    refine ends_skip ?_
    change EndsI _ _ _ _ _ _
    obtain ⟨v5, h6, H⟩ := ofBind H
    refine seq_ops [.res (cI v5)] [] [(2, .c (.pk 2 0)), (3, .c (.pk 3 0)), (5, cI v5)] [(2, .var [.old (dat 5 eTTerrain zTTerrain p0.Rules.Terrains), .old (dat 6 eTKind zTKind p0.Rules.Kinds), .int .i64 p0.Rules.Stack, .int .i64 p0.Rules.River, .int .i64 p0.Rules.Road, .int .i64 p0.Rules.Supply, .int .i64 p0.Rules.Turns, .int .i64 p0.Map.Width, .int .i64 p0.Map.Height, .old (dat 1 eI zI p0.Map.Terrain), .old (dat 1 eI zI p0.Map.Rivers), .old (dat 1 eI zI p0.Map.Roads)] false), (3, .var [.int .i64 p1.Side, .int .i64 p1.Turn, .int .i64 p1.Weather, .old (dat 1 eI zI p1.Seen), .old (dat 4 eTUnit zTUnit p1.Own), .old (dat 4 eTUnit zTUnit p1.Enemies)] false)] (fun t => aI ((FnOk.le2 (xs := [.agg [.int .i64 p1.Side, .int .i64 p1.Turn, .int .i64 p1.Weather, .old (dat 1 eI zI p1.Seen), .old (dat 4 eTUnit zTUnit p1.Own), .old (dat 4 eTUnit zTUnit p1.Enemies)], cI v1]) (l_szView_ok p1 v1 v5 h6) ⟨LeD.agg (And.intro (LeC.refl _) (And.intro (LeC.refl _) (And.intro (LeC.refl _) (And.intro (LeC.old _) (And.intro (LeC.old _) (And.intro (LeC.old _) (trivial))))))), LeD.refl _, trivial⟩).up glTs) (t)) (by kernel_rfl) ?_
    refine seq_in ?_
    refine seq_ops [] [] [(2, .c (.pk 2 0)), (3, .c (.pk 3 0)), (26, cB (decide (v5 < 0)))] [(2, .var [.old (dat 5 eTTerrain zTTerrain p0.Rules.Terrains), .old (dat 6 eTKind zTKind p0.Rules.Kinds), .int .i64 p0.Rules.Stack, .int .i64 p0.Rules.River, .int .i64 p0.Rules.Road, .int .i64 p0.Rules.Supply, .int .i64 p0.Rules.Turns, .int .i64 p0.Map.Width, .int .i64 p0.Map.Height, .old (dat 1 eI zI p0.Map.Terrain), .old (dat 1 eI zI p0.Map.Rivers), .old (dat 1 eI zI p0.Map.Roads)] false), (3, .var [.int .i64 p1.Side, .int .i64 p1.Turn, .int .i64 p1.Weather, .old (dat 1 eI zI p1.Seen), .old (dat 4 eTUnit zTUnit p1.Own), .old (dat 4 eTUnit zTUnit p1.Enemies)] false)] (fun t => t) (by kernel_rfl) ?_
    rcases ofCond H with ⟨c8, H⟩ | ⟨c8, H⟩
    · refine ite_t c8 (by kernel_rfl) ?_
      refine seq_ops [] [] [(4, cB true)] [] (fun t => t) (by kernel_rfl) ?_
      refine ends_ret ?_
      exact And.intro (.inl rfl) rfl
    · refine ite_f c8 (by kernel_rfl) ?_
      refine ends_skip ?_
      change EndsI _ _ _ _ _ _
      obtain ⟨v9, h10, H⟩ := ofBind H
      obtain ⟨v11, h12, H⟩ := ofBind H
      obtain ⟨v13, h14, H⟩ := ofBind H
      refine seq_draw [.res (.agg (eTBoard v9)), .res (.agg (eTView v11)), .res (.tup [(false, [dat 1 eI zI v13.1]), (false, [.bool v13.2])])] [] [(2, .c (.pk 2 0)), (3, .c (.pk 3 0)), (6, .c (dat 1 eI zI v13.1)), (7, cB v13.2)] [(2, .var [.old (dat 5 eTTerrain zTTerrain p0.Rules.Terrains), .old (dat 6 eTKind zTKind p0.Rules.Kinds), .int .i64 p0.Rules.Stack, .int .i64 p0.Rules.River, .int .i64 p0.Rules.Road, .int .i64 p0.Rules.Supply, .int .i64 p0.Rules.Turns, .int .i64 p0.Map.Width, .int .i64 p0.Map.Height, .old (dat 1 eI zI p0.Map.Terrain), .old (dat 1 eI zI p0.Map.Rivers), .old (dat 1 eI zI p0.Map.Roads)] false), (3, .var [.int .i64 p1.Side, .int .i64 p1.Turn, .int .i64 p1.Weather, .old (dat 1 eI zI p1.Seen), .old (dat 4 eTUnit zTUnit p1.Own), .old (dat 4 eTUnit zTUnit p1.Enemies)] false)] (fun t => aI ((FnOk.le2 (xs := [.agg [.old (dat 5 eTTerrain zTTerrain p0.Rules.Terrains), .old (dat 6 eTKind zTKind p0.Rules.Kinds), .int .i64 p0.Rules.Stack, .int .i64 p0.Rules.River, .int .i64 p0.Rules.Road, .int .i64 p0.Rules.Supply, .int .i64 p0.Rules.Turns, .int .i64 p0.Map.Width, .int .i64 p0.Map.Height, .old (dat 1 eI zI p0.Map.Terrain), .old (dat 1 eI zI p0.Map.Rivers), .old (dat 1 eI zI p0.Map.Roads)]]) (l_toBoard_ok p0 v9 h10) ⟨LeD.agg (And.intro (LeC.old _) (And.intro (LeC.old _) (And.intro (LeC.refl _) (And.intro (LeC.refl _) (And.intro (LeC.refl _) (And.intro (LeC.refl _) (And.intro (LeC.refl _) (And.intro (LeC.refl _) (And.intro (LeC.refl _) (And.intro (LeC.old _) (And.intro (LeC.old _) (And.intro (LeC.old _) (trivial))))))))))))), trivial⟩).up glTs) (aI (rfl : ([] : List Nat) = []) (aI (rfl : ([] : List Nat) = []) (aI ((FnOk.le2 (xs := [.agg [.int .i64 p1.Side, .int .i64 p1.Turn, .int .i64 p1.Weather, .old (dat 1 eI zI p1.Seen), .old (dat 4 eTUnit zTUnit p1.Own), .old (dat 4 eTUnit zTUnit p1.Enemies)]]) (l_toView_ok p1 v11 h12) ⟨LeD.agg (And.intro (LeC.refl _) (And.intro (LeC.refl _) (And.intro (LeC.refl _) (And.intro (LeC.old _) (And.intro (LeC.old _) (And.intro (LeC.old _) (trivial))))))), trivial⟩).up glTs) (aI (rfl : ([] : List Nat) = []) (aI (rfl : ([] : List Nat) = []) (aI ((s_UnseenHexes_ok v9 v11 v13 h14).up glTs) (aI (rfl : ([] : List Nat) = []) (aI (rfl : ([] : List Nat) = []) (t)))))))))) (by kernel_rfl) ?_
      refine tell [] [(2, .c (.pk 2 0)), (3, .c (.pk 3 0)), (6, .c (dat 1 eI zI v13.1)), (7, cB v13.2)] [(2, .var [.old (dat 5 eTTerrain zTTerrain p0.Rules.Terrains), .old (dat 6 eTKind zTKind p0.Rules.Kinds), .int .i64 p0.Rules.Stack, .int .i64 p0.Rules.River, .int .i64 p0.Rules.Road, .int .i64 p0.Rules.Supply, .int .i64 p0.Rules.Turns, .int .i64 p0.Map.Width, .int .i64 p0.Map.Height, .old (dat 1 eI zI p0.Map.Terrain), .old (dat 1 eI zI p0.Map.Rivers), .old (dat 1 eI zI p0.Map.Roads)] false), (3, .var [.int .i64 p1.Side, .int .i64 p1.Turn, .int .i64 p1.Weather, .old (dat 1 eI zI p1.Seen), .old (dat 4 eTUnit zTUnit p1.Own), .old (dat 4 eTUnit zTUnit p1.Enemies)] false)] (fun t => t) (by kernel_rfl) ?_
      refine turn0 (E := [(2, .c (.pk 2 0)), (3, .c (.pk 3 0)), (6, .c (dat 1 eI zI v13.1)), (7, cB v13.2)]) (E' := [(2, .c (.pk 2 0)), (3, .c (.pk 3 0)), (6, .c (.old (dat 1 eI zI v13.1))), (7, cB v13.2)]) (H := [(2, .var [.old (dat 5 eTTerrain zTTerrain p0.Rules.Terrains), .old (dat 6 eTKind zTKind p0.Rules.Kinds), .int .i64 p0.Rules.Stack, .int .i64 p0.Rules.River, .int .i64 p0.Rules.Road, .int .i64 p0.Rules.Supply, .int .i64 p0.Rules.Turns, .int .i64 p0.Map.Width, .int .i64 p0.Map.Height, .old (dat 1 eI zI p0.Map.Terrain), .old (dat 1 eI zI p0.Map.Rivers), .old (dat 1 eI zI p0.Map.Roads)] false), (3, .var [.int .i64 p1.Side, .int .i64 p1.Turn, .int .i64 p1.Weather, .old (dat 1 eI zI p1.Seen), .old (dat 4 eTUnit zTUnit p1.Own), .old (dat 4 eTUnit zTUnit p1.Enemies)] false)]) (H' := [(2, .var [.old (dat 5 eTTerrain zTTerrain p0.Rules.Terrains), .old (dat 6 eTKind zTKind p0.Rules.Kinds), .int .i64 p0.Rules.Stack, .int .i64 p0.Rules.River, .int .i64 p0.Rules.Road, .int .i64 p0.Rules.Supply, .int .i64 p0.Rules.Turns, .int .i64 p0.Map.Width, .int .i64 p0.Map.Height, .old (dat 1 eI zI p0.Map.Terrain), .old (dat 1 eI zI p0.Map.Rivers), .old (dat 1 eI zI p0.Map.Roads)] false), (3, .var [.int .i64 p1.Side, .int .i64 p1.Turn, .int .i64 p1.Weather, .old (dat 1 eI zI p1.Seen), .old (dat 4 eTUnit zTUnit p1.Own), .old (dat 4 eTUnit zTUnit p1.Enemies)] false)]) glTn glTp (And.intro (And.intro rfl (uS (.pk 2 0) rfl)) (And.intro (And.intro rfl (uS (.pk 3 0) rfl)) (And.intro (And.intro rfl (uD (dat 1 eI zI v13.1) rfl (.dat shI))) (And.intro (And.intro rfl (uS (.bool v13.2) rfl)) trivial)))) (And.intro (And.intro rfl (And.intro (uO (dat 5 eTTerrain zTTerrain p0.Rules.Terrains) (.dat shTTerrain)) (And.intro (uO (dat 6 eTKind zTKind p0.Rules.Kinds) (.dat shTKind)) (And.intro (uS (.int .i64 p0.Rules.Stack) rfl) (And.intro (uS (.int .i64 p0.Rules.River) rfl) (And.intro (uS (.int .i64 p0.Rules.Road) rfl) (And.intro (uS (.int .i64 p0.Rules.Supply) rfl) (And.intro (uS (.int .i64 p0.Rules.Turns) rfl) (And.intro (uS (.int .i64 p0.Map.Width) rfl) (And.intro (uS (.int .i64 p0.Map.Height) rfl) (And.intro (uO (dat 1 eI zI p0.Map.Terrain) (.dat shI)) (And.intro (uO (dat 1 eI zI p0.Map.Rivers) (.dat shI)) (And.intro (uO (dat 1 eI zI p0.Map.Roads) (.dat shI)) trivial))))))))))))) (And.intro (And.intro rfl (And.intro (uS (.int .i64 p1.Side) rfl) (And.intro (uS (.int .i64 p1.Turn) rfl) (And.intro (uS (.int .i64 p1.Weather) rfl) (And.intro (uO (dat 1 eI zI p1.Seen) (.dat shI)) (And.intro (uO (dat 4 eTUnit zTUnit p1.Own) (.dat shTUnit)) (And.intro (uO (dat 4 eTUnit zTUnit p1.Enemies) (.dat shTUnit)) trivial))))))) trivial)) ?_
      obtain ⟨v15, h16, H⟩ := ofBind H
      refine seq_ops [.res (.agg [.fr (dat 5 eTTerrain zTTerrain v15.Rules.Terrains), .fr (dat 6 eTKind zTKind v15.Rules.Kinds), .int .i64 v15.Rules.Stack, .int .i64 v15.Rules.River, .int .i64 v15.Rules.Road, .int .i64 v15.Rules.Supply, .int .i64 v15.Rules.Turns, .int .i64 v15.Map.Width, .int .i64 v15.Map.Height, .fr (dat 1 eI zI v15.Map.Terrain), .fr (dat 1 eI zI v15.Map.Rivers), .fr (dat 1 eI zI v15.Map.Roads)])] [] [(2, .c (.pk 2 0)), (3, .c (.pk 3 0)), (6, .c (.old (dat 1 eI zI v13.1))), (7, cB v13.2), (8, .c (.pk 8 0))] [(2, .var [.old (dat 5 eTTerrain zTTerrain p0.Rules.Terrains), .old (dat 6 eTKind zTKind p0.Rules.Kinds), .int .i64 p0.Rules.Stack, .int .i64 p0.Rules.River, .int .i64 p0.Rules.Road, .int .i64 p0.Rules.Supply, .int .i64 p0.Rules.Turns, .int .i64 p0.Map.Width, .int .i64 p0.Map.Height, .old (dat 1 eI zI p0.Map.Terrain), .old (dat 1 eI zI p0.Map.Rivers), .old (dat 1 eI zI p0.Map.Roads)] false), (3, .var [.int .i64 p1.Side, .int .i64 p1.Turn, .int .i64 p1.Weather, .old (dat 1 eI zI p1.Seen), .old (dat 4 eTUnit zTUnit p1.Own), .old (dat 4 eTUnit zTUnit p1.Enemies)] false), (8, .var [.fr (dat 5 eTTerrain zTTerrain v15.Rules.Terrains), .fr (dat 6 eTKind zTKind v15.Rules.Kinds), .int .i64 v15.Rules.Stack, .int .i64 v15.Rules.River, .int .i64 v15.Rules.Road, .int .i64 v15.Rules.Supply, .int .i64 v15.Rules.Turns, .int .i64 v15.Map.Width, .int .i64 v15.Map.Height, .fr (dat 1 eI zI v15.Map.Terrain), .fr (dat 1 eI zI v15.Map.Rivers), .fr (dat 1 eI zI v15.Map.Roads)] false)] (fun t => aI ((FnOk.le2 (xs := [.agg [.old (dat 5 eTTerrain zTTerrain p0.Rules.Terrains), .old (dat 6 eTKind zTKind p0.Rules.Kinds), .int .i64 p0.Rules.Stack, .int .i64 p0.Rules.River, .int .i64 p0.Rules.Road, .int .i64 p0.Rules.Supply, .int .i64 p0.Rules.Turns, .int .i64 p0.Map.Width, .int .i64 p0.Map.Height, .old (dat 1 eI zI p0.Map.Terrain), .old (dat 1 eI zI p0.Map.Rivers), .old (dat 1 eI zI p0.Map.Roads)]]) (l_toBoard_F_ok p0 v15 h16) ⟨LeD.agg (And.intro (LeC.old _) (And.intro (LeC.old _) (And.intro (LeC.refl _) (And.intro (LeC.refl _) (And.intro (LeC.refl _) (And.intro (LeC.refl _) (And.intro (LeC.refl _) (And.intro (LeC.refl _) (And.intro (LeC.refl _) (And.intro (LeC.old _) (And.intro (LeC.old _) (And.intro (LeC.old _) (trivial))))))))))))), trivial⟩).up glTs) (t)) (by kernel_rfl) ?_
      obtain ⟨v17, h18, H⟩ := ofBind H
      refine seq_ops [.res (.agg [.int .i64 v17.Side, .int .i64 v17.Turn, .int .i64 v17.Weather, .fr (dat 1 eI zI v17.Seen), .fr (dat 4 eTUnit zTUnit v17.Own), .fr (dat 4 eTUnit zTUnit v17.Enemies)])] [] [(2, .c (.pk 2 0)), (3, .c (.pk 3 0)), (6, .c (.old (dat 1 eI zI v13.1))), (7, cB v13.2), (8, .c (.pk 8 0)), (9, .c (.pk 9 0))] [(2, .var [.old (dat 5 eTTerrain zTTerrain p0.Rules.Terrains), .old (dat 6 eTKind zTKind p0.Rules.Kinds), .int .i64 p0.Rules.Stack, .int .i64 p0.Rules.River, .int .i64 p0.Rules.Road, .int .i64 p0.Rules.Supply, .int .i64 p0.Rules.Turns, .int .i64 p0.Map.Width, .int .i64 p0.Map.Height, .old (dat 1 eI zI p0.Map.Terrain), .old (dat 1 eI zI p0.Map.Rivers), .old (dat 1 eI zI p0.Map.Roads)] false), (3, .var [.int .i64 p1.Side, .int .i64 p1.Turn, .int .i64 p1.Weather, .old (dat 1 eI zI p1.Seen), .old (dat 4 eTUnit zTUnit p1.Own), .old (dat 4 eTUnit zTUnit p1.Enemies)] false), (8, .var [.fr (dat 5 eTTerrain zTTerrain v15.Rules.Terrains), .fr (dat 6 eTKind zTKind v15.Rules.Kinds), .int .i64 v15.Rules.Stack, .int .i64 v15.Rules.River, .int .i64 v15.Rules.Road, .int .i64 v15.Rules.Supply, .int .i64 v15.Rules.Turns, .int .i64 v15.Map.Width, .int .i64 v15.Map.Height, .fr (dat 1 eI zI v15.Map.Terrain), .fr (dat 1 eI zI v15.Map.Rivers), .fr (dat 1 eI zI v15.Map.Roads)] false), (9, .var [.int .i64 v17.Side, .int .i64 v17.Turn, .int .i64 v17.Weather, .fr (dat 1 eI zI v17.Seen), .fr (dat 4 eTUnit zTUnit v17.Own), .fr (dat 4 eTUnit zTUnit v17.Enemies)] false)] (fun t => aI ((FnOk.le2 (xs := [.agg [.int .i64 p1.Side, .int .i64 p1.Turn, .int .i64 p1.Weather, .old (dat 1 eI zI p1.Seen), .old (dat 4 eTUnit zTUnit p1.Own), .old (dat 4 eTUnit zTUnit p1.Enemies)]]) (l_toView_F_ok p1 v17 h18) ⟨LeD.agg (And.intro (LeC.refl _) (And.intro (LeC.refl _) (And.intro (LeC.refl _) (And.intro (LeC.old _) (And.intro (LeC.old _) (And.intro (LeC.old _) (trivial))))))), trivial⟩).up glTs) (t)) (by kernel_rfl) ?_
      obtain ⟨v19, h20, H⟩ := ofBind H
      refine seq_ops [.mu [] [(900000, 1001)] (.tup [(false, [.own 900000 1 0 v19.1.length]), (false, [.bool v19.2])]) [(900000, .arr 1 v19.1.length (fF eI zI v19.1) false)]] [] [(2, .c (.pk 2 0)), (3, .c (.pk 3 0)), (6, .c (.old (dat 1 eI zI v13.1))), (7, cB v13.2), (8, .c (.pk 8 0)), (9, .c (.pk 9 0)), (10, .c (.own 1001 1 0 v19.1.length)), (11, cB v19.2)] [(2, .var [.old (dat 5 eTTerrain zTTerrain p0.Rules.Terrains), .old (dat 6 eTKind zTKind p0.Rules.Kinds), .int .i64 p0.Rules.Stack, .int .i64 p0.Rules.River, .int .i64 p0.Rules.Road, .int .i64 p0.Rules.Supply, .int .i64 p0.Rules.Turns, .int .i64 p0.Map.Width, .int .i64 p0.Map.Height, .old (dat 1 eI zI p0.Map.Terrain), .old (dat 1 eI zI p0.Map.Rivers), .old (dat 1 eI zI p0.Map.Roads)] false), (3, .var [.int .i64 p1.Side, .int .i64 p1.Turn, .int .i64 p1.Weather, .old (dat 1 eI zI p1.Seen), .old (dat 4 eTUnit zTUnit p1.Own), .old (dat 4 eTUnit zTUnit p1.Enemies)] false), (8, .var [.fr (dat 5 eTTerrain zTTerrain v15.Rules.Terrains), .fr (dat 6 eTKind zTKind v15.Rules.Kinds), .int .i64 v15.Rules.Stack, .int .i64 v15.Rules.River, .int .i64 v15.Rules.Road, .int .i64 v15.Rules.Supply, .int .i64 v15.Rules.Turns, .int .i64 v15.Map.Width, .int .i64 v15.Map.Height, .fr (dat 1 eI zI v15.Map.Terrain), .fr (dat 1 eI zI v15.Map.Rivers), .fr (dat 1 eI zI v15.Map.Roads)] false), (9, .var [.int .i64 v17.Side, .int .i64 v17.Turn, .int .i64 v17.Weather, .fr (dat 1 eI zI v17.Seen), .fr (dat 4 eTUnit zTUnit v17.Own), .fr (dat 4 eTUnit zTUnit v17.Enemies)] false), (1001, .arr 1 v19.1.length (fF eI zI v19.1) false)] (fun t => aI ((FnMu.le2 (xs := [.agg [.fr (dat 5 eTTerrain zTTerrain v15.Rules.Terrains), .fr (dat 6 eTKind zTKind v15.Rules.Kinds), .int .i64 v15.Rules.Stack, .int .i64 v15.Rules.River, .int .i64 v15.Rules.Road, .int .i64 v15.Rules.Supply, .int .i64 v15.Rules.Turns, .int .i64 v15.Map.Width, .int .i64 v15.Map.Height, .fr (dat 1 eI zI v15.Map.Terrain), .fr (dat 1 eI zI v15.Map.Rivers), .fr (dat 1 eI zI v15.Map.Roads)], .agg [.int .i64 v17.Side, .int .i64 v17.Turn, .int .i64 v17.Weather, .fr (dat 1 eI zI v17.Seen), .fr (dat 4 eTUnit zTUnit v17.Own), .fr (dat 4 eTUnit zTUnit v17.Enemies)]]) (i_UnseenHexes_Mdd_ok v15 v17 v19 h20) ⟨LeK.of rfl (LeD.agg (And.intro (LeC.fr _) (And.intro (LeC.fr _) (And.intro (LeC.refl _) (And.intro (LeC.refl _) (And.intro (LeC.refl _) (And.intro (LeC.refl _) (And.intro (LeC.refl _) (And.intro (LeC.refl _) (And.intro (LeC.refl _) (And.intro (LeC.fr _) (And.intro (LeC.fr _) (And.intro (LeC.fr _) (trivial)))))))))))))), LeK.of rfl (LeD.agg (And.intro (LeC.refl _) (And.intro (LeC.refl _) (And.intro (LeC.refl _) (And.intro (LeC.fr _) (And.intro (LeC.fr _) (And.intro (LeC.fr _) (trivial)))))))), trivial⟩).up glTs) (t)) (by kernel_rfl) ?_
      refine seq_in ?_
      obtain ⟨v25, h26, H⟩ := ofBind H
      rcases ofCond H with ⟨c27, H⟩ | ⟨c27, H⟩
      · refine seq_ops [.res (cB v25), .g true, .g true, .g true, .g true] [] [(2, .c (.pk 2 0)), (3, .c (.pk 3 0)), (6, .c (.old (dat 1 eI zI v13.1))), (7, cB v13.2), (8, .c (.pk 8 0)), (9, .c (.pk 9 0)), (10, .c (.own 1001 1 0 v19.1.length)), (11, cB v19.2), (53, cB true)] [(2, .var [.old (dat 5 eTTerrain zTTerrain p0.Rules.Terrains), .old (dat 6 eTKind zTKind p0.Rules.Kinds), .int .i64 p0.Rules.Stack, .int .i64 p0.Rules.River, .int .i64 p0.Rules.Road, .int .i64 p0.Rules.Supply, .int .i64 p0.Rules.Turns, .int .i64 p0.Map.Width, .int .i64 p0.Map.Height, .old (dat 1 eI zI p0.Map.Terrain), .old (dat 1 eI zI p0.Map.Rivers), .old (dat 1 eI zI p0.Map.Roads)] false), (3, .var [.int .i64 p1.Side, .int .i64 p1.Turn, .int .i64 p1.Weather, .old (dat 1 eI zI p1.Seen), .old (dat 4 eTUnit zTUnit p1.Own), .old (dat 4 eTUnit zTUnit p1.Enemies)] false), (8, .var [.fr (dat 5 eTTerrain zTTerrain v15.Rules.Terrains), .fr (dat 6 eTKind zTKind v15.Rules.Kinds), .int .i64 v15.Rules.Stack, .int .i64 v15.Rules.River, .int .i64 v15.Rules.Road, .int .i64 v15.Rules.Supply, .int .i64 v15.Rules.Turns, .int .i64 v15.Map.Width, .int .i64 v15.Map.Height, .fr (dat 1 eI zI v15.Map.Terrain), .fr (dat 1 eI zI v15.Map.Rivers), .fr (dat 1 eI zI v15.Map.Roads)] false), (9, .var [.int .i64 v17.Side, .int .i64 v17.Turn, .int .i64 v17.Weather, .fr (dat 1 eI zI v17.Seen), .fr (dat 4 eTUnit zTUnit v17.Own), .fr (dat 4 eTUnit zTUnit v17.Enemies)] false), (1001, .arr 1 v19.1.length (fF eI zI v19.1) false)] (fun t => aI (Nat.le_refl v19.1.length) (aI ((FnOk.le2 (xs := [.c (dat 1 eI zI v19.1), .c (.old (dat 1 eI zI v13.1))]) (l_eqIntS_ok v19.1 v13.1 v25 h26) ⟨LeD.refl _, LeD.old _, trivial⟩).up glTs) (aI c27 (aI c27 (aI c27 (aI c27 (t))))))) (by kernel_rfl) ?_
        refine ite_t (rfl : (true : Bool) = true) (by kernel_rfl) ?_
        refine seq_ops [] [] [(4, cB false)] [] (fun t => t) (by kernel_rfl) ?_
        refine ends_ret ?_
        cases H
      · refine seq_ops [.res (cB v25), .g false, .g false, .g false, .g false] [] [(2, .c (.pk 2 0)), (3, .c (.pk 3 0)), (6, .c (.old (dat 1 eI zI v13.1))), (7, cB v13.2), (8, .c (.pk 8 0)), (9, .c (.pk 9 0)), (10, .c (.own 1001 1 0 v19.1.length)), (11, cB v19.2), (53, cB (!(v19.2 == v13.2)))] [(2, .var [.old (dat 5 eTTerrain zTTerrain p0.Rules.Terrains), .old (dat 6 eTKind zTKind p0.Rules.Kinds), .int .i64 p0.Rules.Stack, .int .i64 p0.Rules.River, .int .i64 p0.Rules.Road, .int .i64 p0.Rules.Supply, .int .i64 p0.Rules.Turns, .int .i64 p0.Map.Width, .int .i64 p0.Map.Height, .old (dat 1 eI zI p0.Map.Terrain), .old (dat 1 eI zI p0.Map.Rivers), .old (dat 1 eI zI p0.Map.Roads)] false), (3, .var [.int .i64 p1.Side, .int .i64 p1.Turn, .int .i64 p1.Weather, .old (dat 1 eI zI p1.Seen), .old (dat 4 eTUnit zTUnit p1.Own), .old (dat 4 eTUnit zTUnit p1.Enemies)] false), (8, .var [.fr (dat 5 eTTerrain zTTerrain v15.Rules.Terrains), .fr (dat 6 eTKind zTKind v15.Rules.Kinds), .int .i64 v15.Rules.Stack, .int .i64 v15.Rules.River, .int .i64 v15.Rules.Road, .int .i64 v15.Rules.Supply, .int .i64 v15.Rules.Turns, .int .i64 v15.Map.Width, .int .i64 v15.Map.Height, .fr (dat 1 eI zI v15.Map.Terrain), .fr (dat 1 eI zI v15.Map.Rivers), .fr (dat 1 eI zI v15.Map.Roads)] false), (9, .var [.int .i64 v17.Side, .int .i64 v17.Turn, .int .i64 v17.Weather, .fr (dat 1 eI zI v17.Seen), .fr (dat 4 eTUnit zTUnit v17.Own), .fr (dat 4 eTUnit zTUnit v17.Enemies)] false), (1001, .arr 1 v19.1.length (fF eI zI v19.1) false)] (fun t => aI (Nat.le_refl v19.1.length) (aI ((FnOk.le2 (xs := [.c (dat 1 eI zI v19.1), .c (.old (dat 1 eI zI v13.1))]) (l_eqIntS_ok v19.1 v13.1 v25 h26) ⟨LeD.refl _, LeD.old _, trivial⟩).up glTs) (aI c27 (aI c27 (aI c27 (aI c27 (t))))))) (by kernel_rfl) ?_
        rcases ofCond H with ⟨c28, H⟩ | ⟨c28, H⟩
        · refine ite_t c28 (by kernel_rfl) ?_
          refine seq_ops [] [] [(4, cB false)] [] (fun t => t) (by kernel_rfl) ?_
          refine ends_ret ?_
          cases H
        · refine ite_f c28 (by kernel_rfl) ?_
          refine ends_skip ?_
          change EndsI _ _ _ _ _ _
          refine seq_in ?_
          obtain ⟨v34, h35, H⟩ := ofBind H
          obtain ⟨v36, h37, H⟩ := ofBind H
          refine seq_draw [.res (.agg [.fr (dat 5 eTTerrain zTTerrain v34.Rules.Terrains), .fr (dat 6 eTKind zTKind v34.Rules.Kinds), .int .i64 v34.Rules.Stack, .int .i64 v34.Rules.River, .int .i64 v34.Rules.Road, .int .i64 v34.Rules.Supply, .int .i64 v34.Rules.Turns, .int .i64 v34.Map.Width, .int .i64 v34.Map.Height, .fr (dat 1 eI zI v34.Map.Terrain), .fr (dat 1 eI zI v34.Map.Rivers), .fr (dat 1 eI zI v34.Map.Roads)]), .res (cB v36)] [] [(2, .c (.pk 2 0)), (3, .c (.pk 3 0)), (6, .c (.old (dat 1 eI zI v13.1))), (7, cB v13.2), (8, .c (.pk 8 0)), (9, .c (.pk 9 0)), (10, .c (.own 1001 1 0 v19.1.length)), (11, cB v19.2), (58, cB (!v36))] [(2, .var [.old (dat 5 eTTerrain zTTerrain p0.Rules.Terrains), .old (dat 6 eTKind zTKind p0.Rules.Kinds), .int .i64 p0.Rules.Stack, .int .i64 p0.Rules.River, .int .i64 p0.Rules.Road, .int .i64 p0.Rules.Supply, .int .i64 p0.Rules.Turns, .int .i64 p0.Map.Width, .int .i64 p0.Map.Height, .old (dat 1 eI zI p0.Map.Terrain), .old (dat 1 eI zI p0.Map.Rivers), .old (dat 1 eI zI p0.Map.Roads)] false), (3, .var [.int .i64 p1.Side, .int .i64 p1.Turn, .int .i64 p1.Weather, .old (dat 1 eI zI p1.Seen), .old (dat 4 eTUnit zTUnit p1.Own), .old (dat 4 eTUnit zTUnit p1.Enemies)] false), (8, .var [.fr (dat 5 eTTerrain zTTerrain v15.Rules.Terrains), .fr (dat 6 eTKind zTKind v15.Rules.Kinds), .int .i64 v15.Rules.Stack, .int .i64 v15.Rules.River, .int .i64 v15.Rules.Road, .int .i64 v15.Rules.Supply, .int .i64 v15.Rules.Turns, .int .i64 v15.Map.Width, .int .i64 v15.Map.Height, .fr (dat 1 eI zI v15.Map.Terrain), .fr (dat 1 eI zI v15.Map.Rivers), .fr (dat 1 eI zI v15.Map.Roads)] false), (9, .var [.int .i64 v17.Side, .int .i64 v17.Turn, .int .i64 v17.Weather, .fr (dat 1 eI zI v17.Seen), .fr (dat 4 eTUnit zTUnit v17.Own), .fr (dat 4 eTUnit zTUnit v17.Enemies)] false), (1001, .arr 1 v19.1.length (fF eI zI v19.1) false)] (fun t => aI ((FnOk.le2 (xs := [.agg [.old (dat 5 eTTerrain zTTerrain p0.Rules.Terrains), .old (dat 6 eTKind zTKind p0.Rules.Kinds), .int .i64 p0.Rules.Stack, .int .i64 p0.Rules.River, .int .i64 p0.Rules.Road, .int .i64 p0.Rules.Supply, .int .i64 p0.Rules.Turns, .int .i64 p0.Map.Width, .int .i64 p0.Map.Height, .old (dat 1 eI zI p0.Map.Terrain), .old (dat 1 eI zI p0.Map.Rivers), .old (dat 1 eI zI p0.Map.Roads)]]) (l_toBoard_F_ok p0 v34 h35) ⟨LeD.agg (And.intro (LeC.old _) (And.intro (LeC.old _) (And.intro (LeC.refl _) (And.intro (LeC.refl _) (And.intro (LeC.refl _) (And.intro (LeC.refl _) (And.intro (LeC.refl _) (And.intro (LeC.refl _) (And.intro (LeC.refl _) (And.intro (LeC.old _) (And.intro (LeC.old _) (And.intro (LeC.old _) (trivial))))))))))))), trivial⟩).up glTs) (aI (rfl : ([] : List Nat) = []) (aI (rfl : ([] : List Nat) = []) (aI ((FnOk.le2 (xs := [.agg [.fr (dat 5 eTTerrain zTTerrain v15.Rules.Terrains), .fr (dat 6 eTKind zTKind v15.Rules.Kinds), .int .i64 v15.Rules.Stack, .int .i64 v15.Rules.River, .int .i64 v15.Rules.Road, .int .i64 v15.Rules.Supply, .int .i64 v15.Rules.Turns, .int .i64 v15.Map.Width, .int .i64 v15.Map.Height, .fr (dat 1 eI zI v15.Map.Terrain), .fr (dat 1 eI zI v15.Map.Rivers), .fr (dat 1 eI zI v15.Map.Roads)], .agg [.fr (dat 5 eTTerrain zTTerrain v34.Rules.Terrains), .fr (dat 6 eTKind zTKind v34.Rules.Kinds), .int .i64 v34.Rules.Stack, .int .i64 v34.Rules.River, .int .i64 v34.Rules.Road, .int .i64 v34.Rules.Supply, .int .i64 v34.Rules.Turns, .int .i64 v34.Map.Width, .int .i64 v34.Map.Height, .fr (dat 1 eI zI v34.Map.Terrain), .fr (dat 1 eI zI v34.Map.Rivers), .fr (dat 1 eI zI v34.Map.Roads)]]) (l_eqBoard_ok v15 v34 v36 h37) ⟨LeD.agg (And.intro (LeC.fr _) (And.intro (LeC.fr _) (And.intro (LeC.refl _) (And.intro (LeC.refl _) (And.intro (LeC.refl _) (And.intro (LeC.refl _) (And.intro (LeC.refl _) (And.intro (LeC.refl _) (And.intro (LeC.refl _) (And.intro (LeC.fr _) (And.intro (LeC.fr _) (And.intro (LeC.fr _) (trivial))))))))))))), LeD.agg (And.intro (LeC.fr _) (And.intro (LeC.fr _) (And.intro (LeC.refl _) (And.intro (LeC.refl _) (And.intro (LeC.refl _) (And.intro (LeC.refl _) (And.intro (LeC.refl _) (And.intro (LeC.refl _) (And.intro (LeC.refl _) (And.intro (LeC.fr _) (And.intro (LeC.fr _) (And.intro (LeC.fr _) (trivial))))))))))))), trivial⟩).up glTs) (aI trivial (aI (rfl : ([] : List Nat) = []) (t))))))) (by kernel_rfl) ?_
          rcases ofCond H with ⟨c38, H⟩ | ⟨c38, H⟩
          · refine ite_t c38 (by kernel_rfl) ?_
            refine seq_ops [] [] [(4, cB false)] [] (fun t => t) (by kernel_rfl) ?_
            refine ends_ret ?_
            cases H
          · refine ite_f c38 (by kernel_rfl) ?_
            refine ends_skip ?_
            change EndsI _ _ _ _ _ _
            refine seq_in ?_
            obtain ⟨v44, h45, H⟩ := ofBind H
            obtain ⟨v46, h47, H⟩ := ofBind H
            refine seq_draw [.res (.agg [.int .i64 v44.Side, .int .i64 v44.Turn, .int .i64 v44.Weather, .fr (dat 1 eI zI v44.Seen), .fr (dat 4 eTUnit zTUnit v44.Own), .fr (dat 4 eTUnit zTUnit v44.Enemies)]), .res (cB v46)] [] [(2, .c (.pk 2 0)), (3, .c (.pk 3 0)), (6, .c (.old (dat 1 eI zI v13.1))), (7, cB v13.2), (8, .c (.pk 8 0)), (9, .c (.pk 9 0)), (10, .c (.own 1001 1 0 v19.1.length)), (11, cB v19.2), (63, cB (!v46))] [(2, .var [.old (dat 5 eTTerrain zTTerrain p0.Rules.Terrains), .old (dat 6 eTKind zTKind p0.Rules.Kinds), .int .i64 p0.Rules.Stack, .int .i64 p0.Rules.River, .int .i64 p0.Rules.Road, .int .i64 p0.Rules.Supply, .int .i64 p0.Rules.Turns, .int .i64 p0.Map.Width, .int .i64 p0.Map.Height, .old (dat 1 eI zI p0.Map.Terrain), .old (dat 1 eI zI p0.Map.Rivers), .old (dat 1 eI zI p0.Map.Roads)] false), (3, .var [.int .i64 p1.Side, .int .i64 p1.Turn, .int .i64 p1.Weather, .old (dat 1 eI zI p1.Seen), .old (dat 4 eTUnit zTUnit p1.Own), .old (dat 4 eTUnit zTUnit p1.Enemies)] false), (8, .var [.fr (dat 5 eTTerrain zTTerrain v15.Rules.Terrains), .fr (dat 6 eTKind zTKind v15.Rules.Kinds), .int .i64 v15.Rules.Stack, .int .i64 v15.Rules.River, .int .i64 v15.Rules.Road, .int .i64 v15.Rules.Supply, .int .i64 v15.Rules.Turns, .int .i64 v15.Map.Width, .int .i64 v15.Map.Height, .fr (dat 1 eI zI v15.Map.Terrain), .fr (dat 1 eI zI v15.Map.Rivers), .fr (dat 1 eI zI v15.Map.Roads)] false), (9, .var [.int .i64 v17.Side, .int .i64 v17.Turn, .int .i64 v17.Weather, .fr (dat 1 eI zI v17.Seen), .fr (dat 4 eTUnit zTUnit v17.Own), .fr (dat 4 eTUnit zTUnit v17.Enemies)] false), (1001, .arr 1 v19.1.length (fF eI zI v19.1) false)] (fun t => aI ((FnOk.le2 (xs := [.agg [.int .i64 p1.Side, .int .i64 p1.Turn, .int .i64 p1.Weather, .old (dat 1 eI zI p1.Seen), .old (dat 4 eTUnit zTUnit p1.Own), .old (dat 4 eTUnit zTUnit p1.Enemies)]]) (l_toView_F_ok p1 v44 h45) ⟨LeD.agg (And.intro (LeC.refl _) (And.intro (LeC.refl _) (And.intro (LeC.refl _) (And.intro (LeC.old _) (And.intro (LeC.old _) (And.intro (LeC.old _) (trivial))))))), trivial⟩).up glTs) (aI (rfl : ([] : List Nat) = []) (aI (rfl : ([] : List Nat) = []) (aI ((FnOk.le2 (xs := [.agg [.int .i64 v17.Side, .int .i64 v17.Turn, .int .i64 v17.Weather, .fr (dat 1 eI zI v17.Seen), .fr (dat 4 eTUnit zTUnit v17.Own), .fr (dat 4 eTUnit zTUnit v17.Enemies)], .agg [.int .i64 v44.Side, .int .i64 v44.Turn, .int .i64 v44.Weather, .fr (dat 1 eI zI v44.Seen), .fr (dat 4 eTUnit zTUnit v44.Own), .fr (dat 4 eTUnit zTUnit v44.Enemies)]]) (l_eqView_ok v17 v44 v46 h47) ⟨LeD.agg (And.intro (LeC.refl _) (And.intro (LeC.refl _) (And.intro (LeC.refl _) (And.intro (LeC.fr _) (And.intro (LeC.fr _) (And.intro (LeC.fr _) (trivial))))))), LeD.agg (And.intro (LeC.refl _) (And.intro (LeC.refl _) (And.intro (LeC.refl _) (And.intro (LeC.fr _) (And.intro (LeC.fr _) (And.intro (LeC.fr _) (trivial))))))), trivial⟩).up glTs) (aI trivial (aI (rfl : ([] : List Nat) = []) (t))))))) (by kernel_rfl) ?_
            rcases ofCond H with ⟨c48, H⟩ | ⟨c48, H⟩
            · refine ite_t c48 (by kernel_rfl) ?_
              refine seq_ops [] [] [(4, cB false)] [] (fun t => t) (by kernel_rfl) ?_
              refine ends_ret ?_
              cases H
            · refine ite_f c48 (by kernel_rfl) ?_
              refine ends_skip ?_
              change EndsI _ _ _ _ _ _
              refine seq_ops [] [] [(2, .c (.pk 2 0)), (3, .c (.pk 3 0)), (6, .c (.old (dat 1 eI zI v13.1))), (7, cB v13.2), (8, .c (.pk 8 0)), (9, .c (.pk 9 0)), (10, .c (.own 1001 1 0 v19.1.length)), (11, cB v19.2), (12, cI 1)] [(2, .var [.old (dat 5 eTTerrain zTTerrain p0.Rules.Terrains), .old (dat 6 eTKind zTKind p0.Rules.Kinds), .int .i64 p0.Rules.Stack, .int .i64 p0.Rules.River, .int .i64 p0.Rules.Road, .int .i64 p0.Rules.Supply, .int .i64 p0.Rules.Turns, .int .i64 p0.Map.Width, .int .i64 p0.Map.Height, .old (dat 1 eI zI p0.Map.Terrain), .old (dat 1 eI zI p0.Map.Rivers), .old (dat 1 eI zI p0.Map.Roads)] false), (3, .var [.int .i64 p1.Side, .int .i64 p1.Turn, .int .i64 p1.Weather, .old (dat 1 eI zI p1.Seen), .old (dat 4 eTUnit zTUnit p1.Own), .old (dat 4 eTUnit zTUnit p1.Enemies)] false), (8, .var [.fr (dat 5 eTTerrain zTTerrain v15.Rules.Terrains), .fr (dat 6 eTKind zTKind v15.Rules.Kinds), .int .i64 v15.Rules.Stack, .int .i64 v15.Rules.River, .int .i64 v15.Rules.Road, .int .i64 v15.Rules.Supply, .int .i64 v15.Rules.Turns, .int .i64 v15.Map.Width, .int .i64 v15.Map.Height, .fr (dat 1 eI zI v15.Map.Terrain), .fr (dat 1 eI zI v15.Map.Rivers), .fr (dat 1 eI zI v15.Map.Roads)] false), (9, .var [.int .i64 v17.Side, .int .i64 v17.Turn, .int .i64 v17.Weather, .fr (dat 1 eI zI v17.Seen), .fr (dat 4 eTUnit zTUnit v17.Own), .fr (dat 4 eTUnit zTUnit v17.Enemies)] false), (1001, .arr 1 v19.1.length (fF eI zI v19.1) false)] (fun t => t) (by kernel_rfl) ?_
              refine tell [] [(2, .c (.pk 2 0)), (3, .c (.pk 3 0)), (6, .c (.old (dat 1 eI zI v13.1))), (7, cB v13.2), (8, .c (.pk 8 0)), (9, .c (.pk 9 0)), (10, .c (.own 1001 1 0 v19.1.length)), (11, cB v19.2), (12, cI 1)] [(2, .var [.old (dat 5 eTTerrain zTTerrain p0.Rules.Terrains), .old (dat 6 eTKind zTKind p0.Rules.Kinds), .int .i64 p0.Rules.Stack, .int .i64 p0.Rules.River, .int .i64 p0.Rules.Road, .int .i64 p0.Rules.Supply, .int .i64 p0.Rules.Turns, .int .i64 p0.Map.Width, .int .i64 p0.Map.Height, .old (dat 1 eI zI p0.Map.Terrain), .old (dat 1 eI zI p0.Map.Rivers), .old (dat 1 eI zI p0.Map.Roads)] false), (3, .var [.int .i64 p1.Side, .int .i64 p1.Turn, .int .i64 p1.Weather, .old (dat 1 eI zI p1.Seen), .old (dat 4 eTUnit zTUnit p1.Own), .old (dat 4 eTUnit zTUnit p1.Enemies)] false), (8, .var [.fr (dat 5 eTTerrain zTTerrain v15.Rules.Terrains), .fr (dat 6 eTKind zTKind v15.Rules.Kinds), .int .i64 v15.Rules.Stack, .int .i64 v15.Rules.River, .int .i64 v15.Rules.Road, .int .i64 v15.Rules.Supply, .int .i64 v15.Rules.Turns, .int .i64 v15.Map.Width, .int .i64 v15.Map.Height, .fr (dat 1 eI zI v15.Map.Terrain), .fr (dat 1 eI zI v15.Map.Rivers), .fr (dat 1 eI zI v15.Map.Roads)] false), (9, .var [.int .i64 v17.Side, .int .i64 v17.Turn, .int .i64 v17.Weather, .fr (dat 1 eI zI v17.Seen), .fr (dat 4 eTUnit zTUnit v17.Own), .fr (dat 4 eTUnit zTUnit v17.Enemies)] false), (1001, .arr 1 v19.1.length (fF eI zI v19.1) false)] (fun t => t) (by kernel_rfl) ?_
              refine turn (E := [(2, .c (.pk 2 0)), (3, .c (.pk 3 0)), (6, .c (.old (dat 1 eI zI v13.1))), (7, cB v13.2), (8, .c (.pk 8 0)), (9, .c (.pk 9 0)), (10, .c (.own 1001 1 0 v19.1.length)), (11, cB v19.2), (12, cI 1)]) (E' := [(2, .c (.pk 2 0)), (3, .c (.pk 3 0)), (6, .c (dat 1 eI zI v13.1)), (7, cB v13.2), (8, .c (.pk 8 0)), (9, .c (.pk 9 0)), (10, .c (.own 1001 1 0 v19.1.length)), (11, cB v19.2), (12, cI 1)]) (H := [(2, .var [.old (dat 5 eTTerrain zTTerrain p0.Rules.Terrains), .old (dat 6 eTKind zTKind p0.Rules.Kinds), .int .i64 p0.Rules.Stack, .int .i64 p0.Rules.River, .int .i64 p0.Rules.Road, .int .i64 p0.Rules.Supply, .int .i64 p0.Rules.Turns, .int .i64 p0.Map.Width, .int .i64 p0.Map.Height, .old (dat 1 eI zI p0.Map.Terrain), .old (dat 1 eI zI p0.Map.Rivers), .old (dat 1 eI zI p0.Map.Roads)] false), (3, .var [.int .i64 p1.Side, .int .i64 p1.Turn, .int .i64 p1.Weather, .old (dat 1 eI zI p1.Seen), .old (dat 4 eTUnit zTUnit p1.Own), .old (dat 4 eTUnit zTUnit p1.Enemies)] false), (8, .var [.fr (dat 5 eTTerrain zTTerrain v15.Rules.Terrains), .fr (dat 6 eTKind zTKind v15.Rules.Kinds), .int .i64 v15.Rules.Stack, .int .i64 v15.Rules.River, .int .i64 v15.Rules.Road, .int .i64 v15.Rules.Supply, .int .i64 v15.Rules.Turns, .int .i64 v15.Map.Width, .int .i64 v15.Map.Height, .fr (dat 1 eI zI v15.Map.Terrain), .fr (dat 1 eI zI v15.Map.Rivers), .fr (dat 1 eI zI v15.Map.Roads)] false), (9, .var [.int .i64 v17.Side, .int .i64 v17.Turn, .int .i64 v17.Weather, .fr (dat 1 eI zI v17.Seen), .fr (dat 4 eTUnit zTUnit v17.Own), .fr (dat 4 eTUnit zTUnit v17.Enemies)] false), (1001, .arr 1 v19.1.length (fF eI zI v19.1) false)]) (H' := [(2, .var (eTBoard p0) false), (3, .var (eTView p1) false), (8, .var [.lv (dat 5 eTTerrain zTTerrain v15.Rules.Terrains), .lv (dat 6 eTKind zTKind v15.Rules.Kinds), .int .i64 v15.Rules.Stack, .int .i64 v15.Rules.River, .int .i64 v15.Rules.Road, .int .i64 v15.Rules.Supply, .int .i64 v15.Rules.Turns, .int .i64 v15.Map.Width, .int .i64 v15.Map.Height, .lv (dat 1 eI zI v15.Map.Terrain), .lv (dat 1 eI zI v15.Map.Rivers), .lv (dat 1 eI zI v15.Map.Roads)] false), (9, .var [.int .i64 v17.Side, .int .i64 v17.Turn, .int .i64 v17.Weather, .lv (dat 1 eI zI v17.Seen), .lv (dat 4 eTUnit zTUnit v17.Own), .lv (dat 4 eTUnit zTUnit v17.Enemies)] false), (1001, .arr 1 v19.1.length (fF eI zI v19.1) false)]) glTn (And.intro (And.intro rfl (tS (.pk 2 0) rfl)) (And.intro (And.intro rfl (tS (.pk 3 0) rfl)) (And.intro (And.intro rfl (tO (dat 1 eI zI v13.1))) (And.intro (And.intro rfl (tS (.bool v13.2) rfl)) (And.intro (And.intro rfl (tS (.pk 8 0) rfl)) (And.intro (And.intro rfl (tS (.pk 9 0) rfl)) (And.intro (And.intro rfl (tS (.own 1001 1 0 v19.1.length) rfl)) (And.intro (And.intro rfl (tS (.bool v19.2) rfl)) (And.intro (And.intro rfl (tS (.int .i64 1) rfl)) trivial))))))))) (And.intro (And.intro rfl (And.intro (tO (dat 5 eTTerrain zTTerrain p0.Rules.Terrains)) (And.intro (tO (dat 6 eTKind zTKind p0.Rules.Kinds)) (And.intro (tS (.int .i64 p0.Rules.Stack) rfl) (And.intro (tS (.int .i64 p0.Rules.River) rfl) (And.intro (tS (.int .i64 p0.Rules.Road) rfl) (And.intro (tS (.int .i64 p0.Rules.Supply) rfl) (And.intro (tS (.int .i64 p0.Rules.Turns) rfl) (And.intro (tS (.int .i64 p0.Map.Width) rfl) (And.intro (tS (.int .i64 p0.Map.Height) rfl) (And.intro (tO (dat 1 eI zI p0.Map.Terrain)) (And.intro (tO (dat 1 eI zI p0.Map.Rivers)) (And.intro (tO (dat 1 eI zI p0.Map.Roads)) trivial))))))))))))) (And.intro (And.intro rfl (And.intro (tS (.int .i64 p1.Side) rfl) (And.intro (tS (.int .i64 p1.Turn) rfl) (And.intro (tS (.int .i64 p1.Weather) rfl) (And.intro (tO (dat 1 eI zI p1.Seen)) (And.intro (tO (dat 4 eTUnit zTUnit p1.Own)) (And.intro (tO (dat 4 eTUnit zTUnit p1.Enemies)) trivial))))))) (And.intro (And.intro rfl (And.intro (tF (dat 5 eTTerrain zTTerrain v15.Rules.Terrains) rfl (.dat shTTerrain)) (And.intro (tF (dat 6 eTKind zTKind v15.Rules.Kinds) rfl (.dat shTKind)) (And.intro (tS (.int .i64 v15.Rules.Stack) rfl) (And.intro (tS (.int .i64 v15.Rules.River) rfl) (And.intro (tS (.int .i64 v15.Rules.Road) rfl) (And.intro (tS (.int .i64 v15.Rules.Supply) rfl) (And.intro (tS (.int .i64 v15.Rules.Turns) rfl) (And.intro (tS (.int .i64 v15.Map.Width) rfl) (And.intro (tS (.int .i64 v15.Map.Height) rfl) (And.intro (tF (dat 1 eI zI v15.Map.Terrain) rfl (.dat shI)) (And.intro (tF (dat 1 eI zI v15.Map.Rivers) rfl (.dat shI)) (And.intro (tF (dat 1 eI zI v15.Map.Roads) rfl (.dat shI)) trivial))))))))))))) (And.intro (And.intro rfl (And.intro (tS (.int .i64 v17.Side) rfl) (And.intro (tS (.int .i64 v17.Turn) rfl) (And.intro (tS (.int .i64 v17.Weather) rfl) (And.intro (tF (dat 1 eI zI v17.Seen) rfl (.dat shI)) (And.intro (tF (dat 4 eTUnit zTUnit v17.Own) rfl (.dat shTUnit)) (And.intro (tF (dat 4 eTUnit zTUnit v17.Enemies) rfl (.dat shTUnit)) trivial))))))) (And.intro (And.intro rfl ⟨rfl, rfl, rfl, fun i _ => rfl⟩) trivial))))) ?_
              obtain ⟨v49, h50, H⟩ := ofBind H
              refine seq_ops [.res (cI v49)] [] [(2, .c (.pk 2 0)), (3, .c (.pk 3 0)), (6, .c (dat 1 eI zI v13.1)), (7, cB v13.2), (9, .c (.pk 9 0)), (10, .c (.own 1001 1 0 v19.1.length)), (11, cB v19.2), (12, cI v49)] [(2, .var (eTBoard p0) false), (3, .var (eTView p1) false), (9, .var [.int .i64 v17.Side, .int .i64 v17.Turn, .int .i64 v17.Weather, .lv (dat 1 eI zI v17.Seen), .lv (dat 4 eTUnit zTUnit v17.Own), .lv (dat 4 eTUnit zTUnit v17.Enemies)] false), (1001, .arr 1 v19.1.length (fF eI zI v19.1) false)] (fun t => aI ((l_markBoard_L_ok v15 1 v49 h50).up glTs) (t)) (by kernel_rfl) ?_
              obtain ⟨v51, h52, H⟩ := ofBind H
              refine seq_ops [.res (cI v51)] [] [(2, .c (.pk 2 0)), (3, .c (.pk 3 0)), (6, .c (dat 1 eI zI v13.1)), (7, cB v13.2), (10, .c (.own 1001 1 0 v19.1.length)), (11, cB v19.2), (12, cI v51)] [(2, .var (eTBoard p0) false), (3, .var (eTView p1) false), (1001, .arr 1 v19.1.length (fF eI zI v19.1) false)] (fun t => aI ((l_markView_L_ok v17 v49 v51 h52).up glTs) (t)) (by kernel_rfl) ?_
              refine seq_in ?_
              rcases ofCond H with ⟨c57, H⟩ | ⟨c57, H⟩
              · refine seq_ops [.g true, .g true, .g true, .g true, .g true, .g true, .g true, .g true, .g true] [] [(2, .c (.pk 2 0)), (3, .c (.pk 3 0)), (6, .c (dat 1 eI zI v13.1)), (7, cB v13.2), (10, .c (.own 1001 1 0 v19.1.length)), (82, cB true)] [(2, .var (eTBoard p0) false), (3, .var (eTView p1) false), (1001, .arr 1 v19.1.length (fF eI zI v19.1) false)] (fun t => aI c57 (aI c57 (aI c57 (aI c57 (aI c57 (aI (rfl : (true : Bool) = true) (aI (rfl : (true : Bool) = true) (aI (rfl : (true : Bool) = true) (aI (rfl : (true : Bool) = true) (t)))))))))) (by kernel_rfl) ?_
                refine ite_t (rfl : (true : Bool) = true) (by kernel_rfl) ?_
                refine seq_ops [] [] [(4, cB false)] [] (fun t => t) (by kernel_rfl) ?_
                refine ends_ret ?_
                cases H
              · obtain ⟨v58, h59, H⟩ := ofBind H
                rcases ofCond H with ⟨c60, H⟩ | ⟨c60, H⟩
                · refine seq_ops [.g false, .g false, .g false, .res (cB v58), .g false, .g false, .g true, .g true, .g true, .g true] [] [(2, .c (.pk 2 0)), (3, .c (.pk 3 0)), (6, .c (dat 1 eI zI v13.1)), (7, cB v13.2), (10, .c (.own 1001 1 0 v19.1.length)), (82, cB true)] [(2, .var (eTBoard p0) false), (3, .var (eTView p1) false), (1001, .arr 1 v19.1.length (fF eI zI v19.1) false)] (fun t => aI c57 (aI c57 (aI c57 (aI (Nat.le_refl v19.1.length) (aI ((l_eqIntS_ok v19.1 v13.1 v58 h59).up glTs) (aI c57 (aI c57 (aI c60 (aI c60 (aI c60 (aI c60 (t)))))))))))) (by kernel_rfl) ?_
                  refine ite_t (rfl : (true : Bool) = true) (by kernel_rfl) ?_
                  refine seq_ops [] [] [(4, cB false)] [] (fun t => t) (by kernel_rfl) ?_
                  refine ends_ret ?_
                  cases H
                · refine seq_ops [.g false, .g false, .g false, .res (cB v58), .g false, .g false, .g false, .g false, .g false, .g false] [] [(2, .c (.pk 2 0)), (3, .c (.pk 3 0)), (6, .c (dat 1 eI zI v13.1)), (7, cB v13.2), (10, .c (.own 1001 1 0 v19.1.length)), (82, cB (!(v19.2 == v13.2)))] [(2, .var (eTBoard p0) false), (3, .var (eTView p1) false), (1001, .arr 1 v19.1.length (fF eI zI v19.1) false)] (fun t => aI c57 (aI c57 (aI c57 (aI (Nat.le_refl v19.1.length) (aI ((l_eqIntS_ok v19.1 v13.1 v58 h59).up glTs) (aI c57 (aI c57 (aI c60 (aI c60 (aI c60 (aI c60 (t)))))))))))) (by kernel_rfl) ?_
                  refine ite_f c28 (by kernel_rfl) ?_
                  refine ends_skip ?_
                  change EndsI _ _ _ _ _ _
                  refine seq_ops [] [] [(2, .c (.pk 2 0)), (3, .c (.pk 3 0)), (6, .c (dat 1 eI zI v13.1)), (7, cB v13.2), (10, .c (.own 1001 1 0 v19.1.length)), (13, cI 1)] [(2, .var (eTBoard p0) false), (3, .var (eTView p1) false), (1001, .arr 1 v19.1.length (fF eI zI v19.1) false)] (fun t => t) (by kernel_rfl) ?_
                  obtain ⟨v61, h62, H⟩ := ofBind H
                  obtain ⟨g63, H⟩ := ofIf H
                  refine seq_ops [.mu [(1001, 1000000)] [(1000000, 1001)] (cI v61.1) [(1000000, .arr 1 v61.2.length (fF eI zI v61.2) false)]] [.rel 10 v61.2.length, .rel 83 v61.2.length] [(2, .c (.pk 2 0)), (3, .c (.pk 3 0)), (6, .c (dat 1 eI zI v13.1)), (7, cB v13.2), (10, .c (.own 1001 1 0 v61.2.length)), (13, cI v61.1)] [(2, .var (eTBoard p0) false), (3, .var (eTView p1) false), (1001, .arr 1 v61.2.length (fF eI zI v61.2) false)] (fun t => aI ((l_markIntS_Mod_ok v19.1 1 v61 h62).up glTs) (aI (Eq.symm g63) (aI (Eq.symm g63) (t)))) (by kernel_rfl) ?_
                  refine seq_ops [] [] [(2, .c (.pk 2 0)), (3, .c (.pk 3 0)), (6, .c (dat 1 eI zI v13.1)), (7, cB v13.2), (10, .c (.own 1001 1 0 v61.2.length)), (13, cI v61.1), (14, cI 1)] [(2, .var (eTBoard p0) false), (3, .var (eTView p1) false), (1001, .arr 1 v61.2.length (fF eI zI v61.2) false)] (fun t => t) (by kernel_rfl) ?_
                  obtain ⟨v64, h65, H⟩ := ofBind H
                  refine seq_ops [.res (cI v64)] [] [(2, .c (.pk 2 0)), (3, .c (.pk 3 0)), (6, .c (dat 1 eI zI v13.1)), (7, cB v13.2), (10, .c (.own 1001 1 0 v61.2.length)), (13, cI v61.1), (14, cI v64)] [(2, .var (eTBoard p0) false), (3, .var (eTView p1) false), (1001, .arr 1 v61.2.length (fF eI zI v61.2) false)] (fun t => aI (Nat.le_refl v61.2.length) (aI ((l_heldIntS_ok v61.2 1 v64 h65).up glTs) (t))) (by kernel_rfl) ?_
                  refine seq_in ?_
                  refine seq_ops [] [] [(2, .c (.pk 2 0)), (3, .c (.pk 3 0)), (6, .c (dat 1 eI zI v13.1)), (7, cB v13.2), (10, .c (.own 1001 1 0 v61.2.length)), (13, cI v61.1), (14, cI v64), (90, cB (decide (v64 < 0)))] [(2, .var (eTBoard p0) false), (3, .var (eTView p1) false), (1001, .arr 1 v61.2.length (fF eI zI v61.2) false)] (fun t => t) (by kernel_rfl) ?_
                  rcases ofCond H with ⟨c67, H⟩ | ⟨c67, H⟩
                  · refine ite_t c67 (by kernel_rfl) ?_
                    refine seq_ops [] [] [(4, cB false)] [] (fun t => t) (by kernel_rfl) ?_
                    refine ends_ret ?_
                    cases H
                  · refine ite_f c67 (by kernel_rfl) ?_
                    refine ends_skip ?_
                    change EndsI _ _ _ _ _ _
                    refine seq_in ?_
                    refine seq_ops [] [] [(2, .c (.pk 2 0)), (3, .c (.pk 3 0)), (6, .c (dat 1 eI zI v13.1)), (7, cB v13.2), (10, .c (.own 1001 1 0 v61.2.length)), (13, cI v61.1), (93, cB (v64 != v61.1))] [(2, .var (eTBoard p0) false), (3, .var (eTView p1) false), (1001, .arr 1 v61.2.length (fF eI zI v61.2) false)] (fun t => t) (by kernel_rfl) ?_
                    rcases ofCond H with ⟨c69, H⟩ | ⟨c69, H⟩
                    · refine ite_t c69 (by kernel_rfl) ?_
                      refine seq_ops [] [] [(4, cB false)] [] (fun t => t) (by kernel_rfl) ?_
                      refine ends_ret ?_
                      cases H
                    · refine ite_f c69 (by kernel_rfl) ?_
                      refine ends_skip ?_
                      change EndsI _ _ _ _ _ _
                      obtain ⟨v70, h71, H⟩ := ofBind H
                      obtain ⟨v72, h73, H⟩ := ofBind H
                      obtain ⟨v74, h75, H⟩ := ofBind H
                      refine seq_draw [.res (.agg (eTBoard v70)), .res (.agg (eTView v72)), .res (.tup [(false, [dat 1 eI zI v74.1]), (false, [.bool v74.2])])] [] [(6, .c (dat 1 eI zI v13.1)), (7, cB v13.2), (10, .c (.own 1001 1 0 v61.2.length)), (13, cI v61.1), (15, .c (dat 1 eI zI v74.1)), (16, cB v74.2)] [(1001, .arr 1 v61.2.length (fF eI zI v61.2) false)] (fun t => aI ((l_toBoard_ok p0 v70 h71).up glTs) (aI (rfl : ([] : List Nat) = []) (aI (rfl : ([] : List Nat) = []) (aI ((l_toView_ok p1 v72 h73).up glTs) (aI (rfl : ([] : List Nat) = []) (aI (rfl : ([] : List Nat) = []) (aI ((i_UnseenHexes_ok v70 v72 v74 h75).up glTs) (aI (rfl : ([] : List Nat) = []) (aI (rfl : ([] : List Nat) = []) (t)))))))))) (by kernel_rfl) ?_
                      refine seq_in ?_
                      obtain ⟨v80, h81, H⟩ := ofBind H
                      rcases ofCond H with ⟨c82, H⟩ | ⟨c82, H⟩
                      · refine seq_ops [.res (cB v80), .g true, .g true, .g true, .g true] [] [(10, .c (.own 1001 1 0 v61.2.length)), (13, cI v61.1), (110, cB true)] [(1001, .arr 1 v61.2.length (fF eI zI v61.2) false)] (fun t => aI ((l_eqIntS_ok v74.1 v13.1 v80 h81).up glTs) (aI c82 (aI c82 (aI c82 (aI c82 (t)))))) (by kernel_rfl) ?_
                        refine ite_t (rfl : (true : Bool) = true) (by kernel_rfl) ?_
                        refine seq_ops [] [] [(4, cB false)] [] (fun t => t) (by kernel_rfl) ?_
                        refine ends_ret ?_
                        cases H
                      · refine seq_ops [.res (cB v80), .g false, .g false, .g false, .g false] [] [(10, .c (.own 1001 1 0 v61.2.length)), (13, cI v61.1), (110, cB (!(v74.2 == v13.2)))] [(1001, .arr 1 v61.2.length (fF eI zI v61.2) false)] (fun t => aI ((l_eqIntS_ok v74.1 v13.1 v80 h81).up glTs) (aI c82 (aI c82 (aI c82 (aI c82 (t)))))) (by kernel_rfl) ?_
                        rcases ofCond H with ⟨c83, H⟩ | ⟨c83, H⟩
                        · refine ite_t c83 (by kernel_rfl) ?_
                          refine seq_ops [] [] [(4, cB false)] [] (fun t => t) (by kernel_rfl) ?_
                          refine ends_ret ?_
                          cases H
                        · refine ite_f c83 (by kernel_rfl) ?_
                          refine ends_skip ?_
                          change EndsI _ _ _ _ _ _
                          refine seq_ops [] [] [(10, .c (.own 1001 1 0 v61.2.length)), (13, cI v61.1), (14, cI 1)] [(1001, .arr 1 v61.2.length (fF eI zI v61.2) false)] (fun t => t) (by kernel_rfl) ?_
                          obtain ⟨v84, h85, H⟩ := ofBind H
                          refine seq_ops [.res (cI v84)] [] [(13, cI v61.1), (14, cI v84)] [] (fun t => aI (Nat.le_refl v61.2.length) (aI ((l_heldIntS_ok v61.2 1 v84 h85).up glTs) (t))) (by kernel_rfl) ?_
                          refine seq_in ?_
                          refine seq_ops [] [] [(13, cI v61.1), (14, cI v84), (115, cB (decide (v84 < 0)))] [] (fun t => t) (by kernel_rfl) ?_
                          rcases ofCond H with ⟨c87, H⟩ | ⟨c87, H⟩
                          · refine ite_t c87 (by kernel_rfl) ?_
                            refine seq_ops [] [] [(4, cB false)] [] (fun t => t) (by kernel_rfl) ?_
                            refine ends_ret ?_
                            cases H
                          · refine ite_f c87 (by kernel_rfl) ?_
                            refine ends_skip ?_
                            change EndsI _ _ _ _ _ _
                            refine seq_in ?_
                            refine seq_ops [] [] [(118, cB (v84 != v61.1))] [] (fun t => t) (by kernel_rfl) ?_
                            rcases ofCond H with ⟨c88, H⟩ | ⟨c88, H⟩
                            · refine ite_t c88 (by kernel_rfl) ?_
                              refine seq_ops [] [] [(4, cB false)] [] (fun t => t) (by kernel_rfl) ?_
                              refine ends_ret ?_
                              cases H
                            · refine ite_f c88 (by kernel_rfl) ?_
                              refine ends_skip ?_
                              change EndsI _ _ _ _ _ _
                              refine seq_ops [] [] [(4, cB true)] [] (fun t => t) (by kernel_rfl) ?_
                              refine ends_ret ?_
                              exact And.intro (.inl rfl) rfl

end Go.Proofs.YtociagbpecpcnaaGreatDoor.X0
