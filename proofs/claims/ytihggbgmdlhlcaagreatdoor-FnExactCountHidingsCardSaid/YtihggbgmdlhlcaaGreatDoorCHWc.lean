/- What each Go function that FnExactCountHidings reaches computes, and that it returns so; no condition. -/
import Derived.Test.YtihggbgmdlhlcaaGreatDoorCHWb
set_option linter.unusedVariables false
set_option linter.unusedSimpArgs false
set_option maxRecDepth 100000
namespace Go.Proofs.YtihggbgmdlhlcaaGreatDoor.X0
open Go Go.RowKit Go.Proofs.YtihggbgmdlhlcaaGreatDoor.Ab Go.Proofs

def i_CountHidings_ir : S :=
 (.seq (.ops [⟨some 4, .box 12 (.t 0), none⟩, ⟨some 5, .box 6 (.t 1), none⟩, ⟨some 8, .mv (.v (.int .i64 0)), none⟩, ⟨some 9, .mv (.v (.bool false)), none⟩])
 (.seq (.seq (.ops [⟨some 15, .load 12 true (.t 4), none⟩, ⟨some 16, .load 6 true (.t 5), none⟩, ⟨some 17, .mv (.t 2), none⟩, ⟨some 18, .call 70 [.t 15, .t 16, .t 17], none⟩, ⟨some 19, .not (.t 18), none⟩, ⟨some 20, .mv (.t 19), none⟩, ⟨some 21, .mv (.t 3), some (20, false)⟩, ⟨some 22, .call 71 [.t 21, .v (.int .i64 0), .v (.int .i64 6)], some (20, false)⟩, ⟨some 23, .not (.t 22), some (20, false)⟩, ⟨some 24, .pick (.t 20) (.v (.bool true)) (.t 23), none⟩])
 (.ite (.t 24) (.seq (.ops [⟨some 8, .mv (.v (.int .i64 0)), none⟩, ⟨some 9, .mv (.v (.bool false)), none⟩])
  .ret)
 .skip))
 (.seq (.ops [⟨some 25, .mv (.t 3), none⟩, ⟨some 26, .bin .add (.t 25) (.v (.int .i64 1)), none⟩, ⟨some 27, .msl 1 8 [.int .i64 0] (.t 26), none⟩, ⟨some 10, .mv (.t 27), none⟩])
 (.seq (.ops [⟨some 28, .mv (.t 10), none⟩, ⟨some 29, .iad 1 (.t 28) (.v (.int .i64 0)), none⟩, ⟨none, .store 1 (.t 29) (.v (.int .i64 1)), none⟩])
 (.seq (.seq (.ops [⟨some 30, .load 12 true (.t 4), none⟩, ⟨some 31, .load 6 true (.t 5), none⟩, ⟨some 32, .mv (.t 2), none⟩, ⟨some 33, .call 72 [.t 30, .t 31, .t 32], none⟩, ⟨some 34, .len (.t 33), none⟩, ⟨some 35, .mv (.v (.int .i64 0)), none⟩])
 (.blk 0 (.loop (.seq (.ops [⟨some 36, .bin .lss (.t 35) (.t 34), none⟩])
   (.seq (.ite (.t 36) .skip
   (.exit 0))
   (.seq (.blk 1 (.seq (.ops [⟨some 37, .mv (.t 3), none⟩, ⟨some 38, .bin .add (.t 37) (.v (.int .i64 1)), none⟩, ⟨some 39, .msl 1 8 [.int .i64 0] (.t 38), none⟩, ⟨some 11, .mv (.t 39), none⟩])
    (.seq (.seq (.ops [⟨some 40, .mv (.t 10), none⟩, ⟨some 41, .len (.t 40), none⟩, ⟨some 42, .mv (.v (.int .i64 0)), none⟩])
    (.blk 2 (.loop (.seq (.ops [⟨some 43, .bin .lss (.t 42) (.t 41), none⟩])
      (.seq (.ite (.t 43) .skip
      (.exit 2))
      (.seq (.blk 3 (.seq (.ops [⟨some 44, .mv (.t 42), none⟩, ⟨some 45, .iad 1 (.t 40) (.t 42), none⟩, ⟨some 46, .load 1 false (.t 45), none⟩, ⟨some 12, .mv (.t 44), none⟩, ⟨some 13, .mv (.t 46), none⟩])
       (.seq (.ops [⟨some 14, .mv (.v (.int .i64 0)), none⟩])
       (.blk 4 (.loop (.seq (.seq (.ops [⟨some 47, .mv (.t 14), none⟩, ⟨some 48, .fad 0 (.t 4), none⟩, ⟨some 49, .fad 2 (.t 48), none⟩, ⟨some 50, .load 1 false (.t 49), none⟩, ⟨some 51, .bin .leq (.t 47) (.t 50), none⟩, ⟨some 52, .mv (.t 51), none⟩, ⟨some 53, .mv (.t 12), some (52, true)⟩, ⟨some 54, .mv (.t 14), some (52, true)⟩, ⟨some 55, .bin .add (.t 53) (.t 54), some (52, true)⟩, ⟨some 56, .mv (.t 3), some (52, true)⟩, ⟨some 57, .bin .leq (.t 55) (.t 56), some (52, true)⟩, ⟨some 58, .pick (.t 52) (.t 57) (.v (.bool false)), none⟩])
         (.ite (.t 58) .skip
         (.exit 4)))
         (.seq (.blk 5 (.ops [⟨some 61, .mv (.t 11), none⟩, ⟨some 62, .mv (.t 12), none⟩, ⟨some 63, .mv (.t 14), none⟩, ⟨some 64, .bin .add (.t 62) (.t 63), none⟩, ⟨some 65, .iad 1 (.t 61) (.t 64), none⟩, ⟨some 66, .load 1 false (.t 65), none⟩, ⟨some 67, .mv (.t 13), none⟩, ⟨some 68, .bin .add (.t 66) (.t 67), none⟩, ⟨some 69, .iad 1 (.t 61) (.t 64), none⟩, ⟨none, .store 1 (.t 69) (.t 68), none⟩]))
         (.ops [⟨some 59, .mv (.t 14), none⟩, ⟨some 60, .bin .add (.t 59) (.v (.int .i64 1)), none⟩, ⟨some 14, .mv (.t 60), none⟩]))))))))
      (.ops [⟨some 70, .bin .add (.t 42) (.v (.int .i64 1)), none⟩, ⟨some 42, .mv (.t 70), none⟩])))))))
    (.ops [⟨some 71, .mv (.t 11), none⟩, ⟨some 10, .mv (.t 71), none⟩]))))
   (.ops [⟨some 72, .bin .add (.t 35) (.v (.int .i64 1)), none⟩, ⟨some 35, .mv (.t 72), none⟩])))))))
 (.seq (.ops [⟨some 73, .mv (.t 10), none⟩, ⟨some 74, .mv (.t 3), none⟩, ⟨some 75, .iad 1 (.t 73) (.t 74), none⟩, ⟨some 76, .load 1 false (.t 75), none⟩, ⟨some 8, .mv (.t 76), none⟩, ⟨some 9, .mv (.v (.bool true)), none⟩])
 .ret))))))
noncomputable def X.i_CountHidings (p0 : TBoard) (p1 : TView) (p2 : Int) (p3 : Int) : Option (Int × Bool) :=
  ((X.i_isHiding p0 p1 p2).bind fun v7 => (bif (!v7) then some (0, false) else ((X.i_inRange p3 0 6).bind fun v10 => (bif (!v10) then some (0, false) else (if 0 ≤ (W (p3 + 1)) ∧ (W (p3 + 1)).toNat ≤ LIM then (if 0 ≤ (0 : Int) ∧ (0 : Int) < ((List.replicate (W (p3 + 1)).toNat zI).length : Int) then ((X.i_mayHide p0 p1 p2).bind fun v15 => ((loop (fun (x164 : (Int × (List Int))) => ((bif (decide (x164.1 < (v15.length : Int))) then (if 0 ≤ (W (p3 + 1)) ∧ (W (p3 + 1)).toNat ≤ LIM then ((loop (fun (x213 : (Int × (List Int) × (List Int))) => ((bif (decide (x213.1 < (x164.2.length : Int))) then (if 0 ≤ x213.1 ∧ x213.1 < (x213.2.2.length : Int) then ((loop (fun (x228 : (Int × (List Int) × (List Int))) => ((bif (decide (x228.1 ≤ p0.Rules.Stack)) then (bif (decide ((W (x213.1 + x228.1)) ≤ p3)) then (if 0 ≤ (W (x213.1 + x228.1)) ∧ (W (x213.1 + x228.1)) < (x228.2.1.length : Int) then some (Sum.inl ((W (x228.1 + 1)), (x228.2.1.set ((W (x213.1 + x228.1)).toNat) (W ((x228.2.1.getD ((W (x213.1 + x228.1)).toNat) zI) + (x213.2.2.getD x213.1.toNat zI)))), x228.2.2)) else none) else some (Sum.inr (x228.2.1, x228.2.2))) else some (Sum.inr (x228.2.1, x228.2.2))) : Option ((Int × (List Int) × (List Int)) ⊕ ((List Int) × (List Int))))) (0, x213.2.1, x213.2.2)).bind fun y234 => some (Sum.inl ((W (x213.1 + 1)), y234.1, y234.2))) else none) else some (Sum.inr x213.2.1)) : Option ((Int × (List Int) × (List Int)) ⊕ (List Int)))) (0, (List.replicate (W (p3 + 1)).toNat zI), x164.2)).bind fun y236 => some (Sum.inl ((W (x164.1 + 1)), y236))) else none) else some (Sum.inr x164.2)) : Option ((Int × (List Int)) ⊕ (List Int)))) (0, ((List.replicate (W (p3 + 1)).toNat zI).set ((0 : Int).toNat) 1))).bind fun y238 => (if 0 ≤ p3 ∧ p3 < (y238.length : Int) then some ((y238.getD p3.toNat zI), true) else none))) else none) else none)))))
theorem i_CountHidings_ok (p0 : TBoard) (p1 : TView) (p2 : Int) (p3 : Int) (r : (Int × Bool)) (H : X.i_CountHidings p0 p1 p2 p3 = some r) : FnOk Tryz.prog gl 20 [.agg (eTBoard p0), .agg (eTView p1), cI p2, cI p3] (.tup [(false, [.int .i64 r.1]), (false, [.bool r.2])]) := by
  unfold X.i_CountHidings at H
  refine fn_in (fn := Tryz.f20) (ir := i_CountHidings_ir) (s1 := lit [(8, cI r.1), (9, cB r.2)] []) Tryz.func20 (by kernel_rfl) (by kernel_rfl) (by kernel_rfl) (by kernel_rfl) (by kernel_rfl) ?_
  refine seq_ops [] [] [(2, cI p2), (3, cI p3), (4, .c (.pk 4 0)), (5, .c (.pk 5 0))] [(4, .var (eTBoard p0) false), (5, .var (eTView p1) false)] (fun t => t) (by kernel_rfl) ?_
  refine seq_in ?_
  obtain ⟨v7, h8, H⟩ := ofBind H
  rcases ofCond H with ⟨c9, H⟩ | ⟨c9, H⟩
  · refine seq_ops [.res (cB v7), .g true, .g true, .g true, .g true] [] [(2, cI p2), (3, cI p3), (4, .c (.pk 4 0)), (5, .c (.pk 5 0)), (24, cB true)] [(4, .var (eTBoard p0) false), (5, .var (eTView p1) false)] (fun t => aI (i_isHiding_ok p0 p1 p2 v7 h8) (aI c9 (aI c9 (aI c9 (aI c9 (t)))))) (by kernel_rfl) ?_
    refine ite_t (rfl : (true : Bool) = true) (by kernel_rfl) ?_
    refine seq_ops [] [] [(8, cI 0), (9, cB false)] [] (fun t => t) (by kernel_rfl) ?_
    refine ends_ret ?_
    obtain rfl := Option.some.inj H
    exact And.intro (.inl rfl) rfl
  · obtain ⟨v10, h11, H⟩ := ofBind H
    refine seq_ops [.res (cB v7), .g false, .g false, .res (cB v10), .g false, .g false] [] [(2, cI p2), (3, cI p3), (4, .c (.pk 4 0)), (5, .c (.pk 5 0)), (24, cB (!v10))] [(4, .var (eTBoard p0) false), (5, .var (eTView p1) false)] (fun t => aI (i_isHiding_ok p0 p1 p2 v7 h8) (aI c9 (aI c9 (aI (i_inRange_ok p3 0 6 v10 h11) (aI c9 (aI c9 (t))))))) (by kernel_rfl) ?_
    rcases ofCond H with ⟨c12, H⟩ | ⟨c12, H⟩
    · refine ite_t c12 (by kernel_rfl) ?_
      refine seq_ops [] [] [(8, cI 0), (9, cB false)] [] (fun t => t) (by kernel_rfl) ?_
      refine ends_ret ?_
      obtain rfl := Option.some.inj H
      exact And.intro (.inl rfl) rfl
    · refine ite_f c12 (by kernel_rfl) ?_
      refine ends_skip ?_
      change EndsI _ _ _ _ _ _
      obtain ⟨g13, H⟩ := ofIf H
      refine seq_ops [.fn (List.replicate (W (p3 + 1)).toNat zI).length (fF eI zI (List.replicate (W (p3 + 1)).toNat zI))] [] [(2, cI p2), (3, cI p3), (4, .c (.pk 4 0)), (5, .c (.pk 5 0)), (10, .c (.own 27 1 0 ((List.replicate (W (p3 + 1)).toNat zI).length)))] [(4, .var (eTBoard p0) false), (5, .var (eTView p1) false), (27, .arr 1 ((List.replicate (W (p3 + 1)).toNat zI).length) (fF eI zI (List.replicate (W (p3 + 1)).toNat zI)) false)] (fun t => aI (And.intro g13.1 (And.intro (List.length_replicate (n := (W (p3 + 1)).toNat) (a := zI)).symm (Nat.le_trans (Nat.le_of_eq List.length_replicate) g13.2 : (List.replicate (W (p3 + 1)).toNat zI).length ≤ LIM))) (aI (fF_rep eI zI zI (W (p3 + 1)).toNat) (t))) (by kernel_rfl) ?_
      obtain ⟨g14, H⟩ := ofIf H
      refine seq_ops [.no, .fn 0 (fF eI zI ((List.replicate (W (p3 + 1)).toNat zI).set ((0 : Int).toNat) 1))] [] [(2, cI p2), (3, cI p3), (4, .c (.pk 4 0)), (5, .c (.pk 5 0)), (10, .c (.own 27 1 0 ((List.replicate (W (p3 + 1)).toNat zI).length)))] [(4, .var (eTBoard p0) false), (5, .var (eTView p1) false), (27, .arr 1 ((List.replicate (W (p3 + 1)).toNat zI).length) (fF eI zI ((List.replicate (W (p3 + 1)).toNat zI).set ((0 : Int).toNat) 1)) false)] (fun t => aI g14 (aI (rfl : true = true) (aI (nat_lt g14) (aI (by decide : 0 + 1 ≤ 1) (aI (fF_set eI zI (List.replicate (W (p3 + 1)).toNat zI) ((0 : Int).toNat) 1 (nat_lt g14) ((List.replicate (W (p3 + 1)).toNat zI).length)) (t)))))) (by kernel_rfl) ?_
      refine seq_in ?_
      obtain ⟨v15, h16, H⟩ := ofBind H
      refine seq_ops [.res (.c (dat 1 eI zI v15))] [] [(3, cI p3), (4, .c (.pk 4 0)), (10, .c (.own 27 1 0 ((List.replicate (W (p3 + 1)).toNat zI).length))), (34, cI (v15.length : Int)), (35, cI 0)] [(4, .var (eTBoard p0) false), (27, .arr 1 ((List.replicate (W (p3 + 1)).toNat zI).length) (fF eI zI ((List.replicate (W (p3 + 1)).toNat zI).set ((0 : Int).toNat) 1)) false)] (fun t => aI (i_mayHide_ok p0 p1 p2 v15 h16) (lI v15 (t))) (by kernel_rfl) ?_
      refine ends_blk ?_
      obtain ⟨y238, h239, H⟩ := ofBind H
      refine tell [.rel 10 (((List.replicate (W (p3 + 1)).toNat zI).set ((0 : Int).toNat) 1).length), .rep 27 (((List.replicate (W (p3 + 1)).toNat zI).set ((0 : Int).toNat) 1).length) (fF eI zI ((List.replicate (W (p3 + 1)).toNat zI).set ((0 : Int).toNat) 1)), .ren 27 1001] [(3, cI p3), (4, .c (.pk 4 0)), (10, .c (.own 1001 1 0 (((List.replicate (W (p3 + 1)).toNat zI).set ((0 : Int).toNat) 1).length))), (34, cI (v15.length : Int)), (35, cI 0)] [(4, .var (eTBoard p0) false), (1001, .arr 1 (((List.replicate (W (p3 + 1)).toNat zI).set ((0 : Int).toNat) 1).length) (fF eI zI ((List.replicate (W (p3 + 1)).toNat zI).set ((0 : Int).toNat) 1)) false)] (fun t => aI (by simp : (List.replicate (W (p3 + 1)).toNat zI).length = ((List.replicate (W (p3 + 1)).toNat zI).set ((0 : Int).toNat) 1).length) (aI (Nat.le_of_eq (by simp : ((List.replicate (W (p3 + 1)).toNat zI).set ((0 : Int).toNat) 1).length = (List.replicate (W (p3 + 1)).toNat zI).length)) (aI (fun _ _ => rfl : ∀ i, i < ((List.replicate (W (p3 + 1)).toNat zI).set ((0 : Int).toNat) 1).length → (fF eI zI ((List.replicate (W (p3 + 1)).toNat zI).set ((0 : Int).toNat) 1)) i = (fF eI zI ((List.replicate (W (p3 + 1)).toNat zI).set ((0 : Int).toNat) 1)) i) (t)))) (by kernel_rfl) ?_
      refine loop_in (fun (x : (Int × (List Int))) => lit [(3, cI p3), (4, .c (.pk 4 0)), (10, .c (.own 1001 1 0 x.2.length)), (34, cI (v15.length : Int)), (35, cI x.1)] [(4, .var (eTBoard p0) false), (1001, .arr 1 x.2.length (fF eI zI x.2) false)]) (fun (z : (List Int)) => At (.exit 0) (lit [(3, cI p3), (10, .c (.own 1001 1 0 z.length))] [(1001, .arr 1 z.length (fF eI zI z) false)])) h239 ?_ ?_
      · clear H h239
        intro x164 y0 H
        refine seq_ops [] [] [(3, cI p3), (4, .c (.pk 4 0)), (10, .c (.own 1001 1 0 x164.2.length)), (34, cI (v15.length : Int)), (35, cI x164.1), (36, cB (decide (x164.1 < (v15.length : Int))))] [(4, .var (eTBoard p0) false), (1001, .arr 1 x164.2.length (fF eI zI x164.2) false)] (fun t => t) (by kernel_rfl) ?_
        refine seq_in ?_
        rcases ofCond H with ⟨c166, H⟩ | ⟨c166, H⟩
        · refine ite_t c166 (by kernel_rfl) ?_
          refine ends_skip ?_
          change EndsI _ _ _ _ _ _
          refine seq_in ?_
          refine ends_blk ?_
          obtain ⟨g167, H⟩ := ofIf H
          refine seq_ops [.fn (List.replicate (W (p3 + 1)).toNat zI).length (fF eI zI (List.replicate (W (p3 + 1)).toNat zI))] [] [(3, cI p3), (4, .c (.pk 4 0)), (10, .c (.own 1001 1 0 x164.2.length)), (11, .c (.own 39 1 0 ((List.replicate (W (p3 + 1)).toNat zI).length))), (34, cI (v15.length : Int)), (35, cI x164.1)] [(4, .var (eTBoard p0) false), (39, .arr 1 ((List.replicate (W (p3 + 1)).toNat zI).length) (fF eI zI (List.replicate (W (p3 + 1)).toNat zI)) false), (1001, .arr 1 x164.2.length (fF eI zI x164.2) false)] (fun t => aI (And.intro g167.1 (And.intro (List.length_replicate (n := (W (p3 + 1)).toNat) (a := zI)).symm (Nat.le_trans (Nat.le_of_eq List.length_replicate) g167.2 : (List.replicate (W (p3 + 1)).toNat zI).length ≤ LIM))) (aI (fF_rep eI zI zI (W (p3 + 1)).toNat) (t))) (by kernel_rfl) ?_
          refine seq_in ?_
          refine seq_ops [] [] [(3, cI p3), (4, .c (.pk 4 0)), (11, .c (.own 39 1 0 ((List.replicate (W (p3 + 1)).toNat zI).length))), (34, cI (v15.length : Int)), (35, cI x164.1), (40, .c (.own 1001 1 0 x164.2.length)), (41, cI (x164.2.length : Int)), (42, cI 0)] [(4, .var (eTBoard p0) false), (39, .arr 1 ((List.replicate (W (p3 + 1)).toNat zI).length) (fF eI zI (List.replicate (W (p3 + 1)).toNat zI)) false), (1001, .arr 1 x164.2.length (fF eI zI x164.2) false)] (fun t => lI x164.2 (t)) (by kernel_rfl) ?_
          refine ends_blk ?_
          obtain ⟨y236, h237, H⟩ := ofBind H
          refine loop_in (fun (x : (Int × (List Int) × (List Int))) => lit [(3, cI p3), (4, .c (.pk 4 0)), (11, .c (.own 39 1 0 x.2.1.length)), (34, cI (v15.length : Int)), (35, cI x164.1), (40, .c (.own 1001 1 0 x.2.2.length)), (41, cI (x164.2.length : Int)), (42, cI x.1)] [(4, .var (eTBoard p0) false), (39, .arr 1 x.2.1.length (fF eI zI x.2.1) false), (1001, .arr 1 x.2.2.length (fF eI zI x.2.2) false)]) (fun (z : (List Int)) => At (.exit 2) (lit [(3, cI p3), (4, .c (.pk 4 0)), (11, .c (.own 39 1 0 z.length)), (34, cI (v15.length : Int)), (35, cI x164.1)] [(4, .var (eTBoard p0) false), (39, .arr 1 z.length (fF eI zI z) false)])) h237 ?_ ?_
          · clear H h237
            intro x213 y0 H
            refine seq_ops [] [] [(3, cI p3), (4, .c (.pk 4 0)), (11, .c (.own 39 1 0 x213.2.1.length)), (34, cI (v15.length : Int)), (35, cI x164.1), (40, .c (.own 1001 1 0 x213.2.2.length)), (41, cI (x164.2.length : Int)), (42, cI x213.1), (43, cB (decide (x213.1 < (x164.2.length : Int))))] [(4, .var (eTBoard p0) false), (39, .arr 1 x213.2.1.length (fF eI zI x213.2.1) false), (1001, .arr 1 x213.2.2.length (fF eI zI x213.2.2) false)] (fun t => t) (by kernel_rfl) ?_
            refine seq_in ?_
            rcases ofCond H with ⟨c215, H⟩ | ⟨c215, H⟩
            · refine ite_t c215 (by kernel_rfl) ?_
              refine ends_skip ?_
              change EndsI _ _ _ _ _ _
              refine seq_in ?_
              refine ends_blk ?_
              obtain ⟨g216, H⟩ := ofIf H
              refine seq_ops [.no] [] [(3, cI p3), (4, .c (.pk 4 0)), (11, .c (.own 39 1 0 x213.2.1.length)), (12, cI x213.1), (13, cI (x213.2.2.getD x213.1.toNat zI)), (34, cI (v15.length : Int)), (35, cI x164.1), (40, .c (.own 1001 1 0 x213.2.2.length)), (41, cI (x164.2.length : Int)), (42, cI x213.1)] [(4, .var (eTBoard p0) false), (39, .arr 1 x213.2.1.length (fF eI zI x213.2.1) false), (1001, .arr 1 x213.2.2.length (fF eI zI x213.2.2) false)] (fun t => aI g216 (aI (nat_lt g216) (t))) (by kernel_rfl) ?_
              refine seq_ops [] [] [(3, cI p3), (4, .c (.pk 4 0)), (11, .c (.own 39 1 0 x213.2.1.length)), (12, cI x213.1), (13, cI (x213.2.2.getD x213.1.toNat zI)), (14, cI 0), (34, cI (v15.length : Int)), (35, cI x164.1), (40, .c (.own 1001 1 0 x213.2.2.length)), (41, cI (x164.2.length : Int)), (42, cI x213.1)] [(4, .var (eTBoard p0) false), (39, .arr 1 x213.2.1.length (fF eI zI x213.2.1) false), (1001, .arr 1 x213.2.2.length (fF eI zI x213.2.2) false)] (fun t => t) (by kernel_rfl) ?_
              refine ends_blk ?_
              obtain ⟨y234, h235, H⟩ := ofBind H
              refine loop_in (fun (x : (Int × (List Int) × (List Int))) => lit [(3, cI p3), (4, .c (.pk 4 0)), (11, .c (.own 39 1 0 x.2.1.length)), (12, cI x213.1), (13, cI (x213.2.2.getD x213.1.toNat zI)), (14, cI x.1), (34, cI (v15.length : Int)), (35, cI x164.1), (40, .c (.own 1001 1 0 x.2.2.length)), (41, cI (x164.2.length : Int)), (42, cI x213.1)] [(4, .var (eTBoard p0) false), (39, .arr 1 x.2.1.length (fF eI zI x.2.1) false), (1001, .arr 1 x.2.2.length (fF eI zI x.2.2) false)]) (fun (z : ((List Int) × (List Int))) => At (.exit 4) (lit [(3, cI p3), (4, .c (.pk 4 0)), (11, .c (.own 39 1 0 z.1.length)), (34, cI (v15.length : Int)), (35, cI x164.1), (40, .c (.own 1001 1 0 z.2.length)), (41, cI (x164.2.length : Int)), (42, cI x213.1)] [(4, .var (eTBoard p0) false), (39, .arr 1 z.1.length (fF eI zI z.1) false), (1001, .arr 1 z.2.length (fF eI zI z.2) false)])) h235 ?_ ?_
              · clear H h235
                intro x228 y0 H
                refine seq_in ?_
                rcases ofCond H with ⟨c231, H⟩ | ⟨c231, H⟩
                · refine seq_ops [.g true, .g true, .g true, .g true, .g true, .g true] [] [(3, cI p3), (4, .c (.pk 4 0)), (11, .c (.own 39 1 0 x228.2.1.length)), (12, cI x213.1), (13, cI (x213.2.2.getD x213.1.toNat zI)), (14, cI x228.1), (34, cI (v15.length : Int)), (35, cI x164.1), (40, .c (.own 1001 1 0 x228.2.2.length)), (41, cI (x164.2.length : Int)), (42, cI x213.1), (58, cB (decide ((W (x213.1 + x228.1)) ≤ p3)))] [(4, .var (eTBoard p0) false), (39, .arr 1 x228.2.1.length (fF eI zI x228.2.1) false), (1001, .arr 1 x228.2.2.length (fF eI zI x228.2.2) false)] (fun t => aI c231 (aI c231 (aI c231 (aI c231 (aI c231 (aI c231 (t))))))) (by kernel_rfl) ?_
                  rcases ofCond H with ⟨c232, H⟩ | ⟨c232, H⟩
                  · refine ite_t c232 (by kernel_rfl) ?_
                    refine ends_skip ?_
                    change EndsI _ _ _ _ _ _
                    refine seq_in ?_
                    refine ends_blk ?_
                    obtain ⟨g233, H⟩ := ofIf H
                    refine one_ops [.no, .no, .fn 0 (fF eI zI (x228.2.1.set ((W (x213.1 + x228.1)).toNat) (W ((x228.2.1.getD ((W (x213.1 + x228.1)).toNat) zI) + (x213.2.2.getD x213.1.toNat zI)))))] [] [(3, cI p3), (4, .c (.pk 4 0)), (11, .c (.own 39 1 0 x228.2.1.length)), (12, cI x213.1), (13, cI (x213.2.2.getD x213.1.toNat zI)), (14, cI x228.1), (34, cI (v15.length : Int)), (35, cI x164.1), (40, .c (.own 1001 1 0 x228.2.2.length)), (41, cI (x164.2.length : Int)), (42, cI x213.1)] [(4, .var (eTBoard p0) false), (39, .arr 1 x228.2.1.length (fF eI zI (x228.2.1.set ((W (x213.1 + x228.1)).toNat) (W ((x228.2.1.getD ((W (x213.1 + x228.1)).toNat) zI) + (x213.2.2.getD x213.1.toNat zI))))) false), (1001, .arr 1 x228.2.2.length (fF eI zI x228.2.2) false)] (fun t => aI g233 (aI (nat_lt g233) (aI g233 (aI (rfl : true = true) (aI (nat_lt g233) (aI (by decide : 0 + 1 ≤ 1) (aI (fF_set eI zI x228.2.1 ((W (x213.1 + x228.1)).toNat) (W ((x228.2.1.getD ((W (x213.1 + x228.1)).toNat) zI) + (x213.2.2.getD x213.1.toNat zI))) (nat_lt g233) x228.2.1.length) (t)))))))) (by kernel_rfl) ?_
                    change EndsI _ _ _ _ _ _
                    refine one_ops [] [.rel 11 ((x228.2.1.set ((W (x213.1 + x228.1)).toNat) (W ((x228.2.1.getD ((W (x213.1 + x228.1)).toNat) zI) + (x213.2.2.getD x213.1.toNat zI)))).length), .rep 39 ((x228.2.1.set ((W (x213.1 + x228.1)).toNat) (W ((x228.2.1.getD ((W (x213.1 + x228.1)).toNat) zI) + (x213.2.2.getD x213.1.toNat zI)))).length) (fF eI zI (x228.2.1.set ((W (x213.1 + x228.1)).toNat) (W ((x228.2.1.getD ((W (x213.1 + x228.1)).toNat) zI) + (x213.2.2.getD x213.1.toNat zI)))))] [(3, cI p3), (4, .c (.pk 4 0)), (11, .c (.own 39 1 0 ((x228.2.1.set ((W (x213.1 + x228.1)).toNat) (W ((x228.2.1.getD ((W (x213.1 + x228.1)).toNat) zI) + (x213.2.2.getD x213.1.toNat zI)))).length))), (12, cI x213.1), (13, cI (x213.2.2.getD x213.1.toNat zI)), (14, cI (W (x228.1 + 1))), (34, cI (v15.length : Int)), (35, cI x164.1), (40, .c (.own 1001 1 0 x228.2.2.length)), (41, cI (x164.2.length : Int)), (42, cI x213.1)] [(4, .var (eTBoard p0) false), (39, .arr 1 ((x228.2.1.set ((W (x213.1 + x228.1)).toNat) (W ((x228.2.1.getD ((W (x213.1 + x228.1)).toNat) zI) + (x213.2.2.getD x213.1.toNat zI)))).length) (fF eI zI (x228.2.1.set ((W (x213.1 + x228.1)).toNat) (W ((x228.2.1.getD ((W (x213.1 + x228.1)).toNat) zI) + (x213.2.2.getD x213.1.toNat zI))))) false), (1001, .arr 1 x228.2.2.length (fF eI zI x228.2.2) false)] (fun t => aI (by simp : x228.2.1.length = (x228.2.1.set ((W (x213.1 + x228.1)).toNat) (W ((x228.2.1.getD ((W (x213.1 + x228.1)).toNat) zI) + (x213.2.2.getD x213.1.toNat zI)))).length) (aI (Nat.le_of_eq (by simp : (x228.2.1.set ((W (x213.1 + x228.1)).toNat) (W ((x228.2.1.getD ((W (x213.1 + x228.1)).toNat) zI) + (x213.2.2.getD x213.1.toNat zI)))).length = x228.2.1.length)) (aI (fun _ _ => rfl : ∀ i, i < (x228.2.1.set ((W (x213.1 + x228.1)).toNat) (W ((x228.2.1.getD ((W (x213.1 + x228.1)).toNat) zI) + (x213.2.2.getD x213.1.toNat zI)))).length → (fF eI zI (x228.2.1.set ((W (x213.1 + x228.1)).toNat) (W ((x228.2.1.getD ((W (x213.1 + x228.1)).toNat) zI) + (x213.2.2.getD x213.1.toNat zI))))) i = (fF eI zI (x228.2.1.set ((W (x213.1 + x228.1)).toNat) (W ((x228.2.1.getD ((W (x213.1 + x228.1)).toNat) zI) + (x213.2.2.getD x213.1.toNat zI))))) i) (t)))) (by kernel_rfl) ?_
                    obtain rfl := Option.some.inj H
                    exact And.intro rfl rfl
                  · refine ite_f c232 (by kernel_rfl) ?_
                    refine tell [] [(3, cI p3), (4, .c (.pk 4 0)), (11, .c (.own 39 1 0 x228.2.1.length)), (34, cI (v15.length : Int)), (35, cI x164.1), (40, .c (.own 1001 1 0 x228.2.2.length)), (41, cI (x164.2.length : Int)), (42, cI x213.1)] [(4, .var (eTBoard p0) false), (39, .arr 1 x228.2.1.length (fF eI zI x228.2.1) false), (1001, .arr 1 x228.2.2.length (fF eI zI x228.2.2) false)] (fun t => t) (by kernel_rfl) ?_
                    refine ends_exit ?_
                    obtain rfl := Option.some.inj H
                    exact And.intro (by simp) (And.intro rfl rfl)
                · refine seq_ops [.g false, .g false, .g false, .g false, .g false, .g false] [] [(3, cI p3), (4, .c (.pk 4 0)), (11, .c (.own 39 1 0 x228.2.1.length)), (12, cI x213.1), (13, cI (x213.2.2.getD x213.1.toNat zI)), (14, cI x228.1), (34, cI (v15.length : Int)), (35, cI x164.1), (40, .c (.own 1001 1 0 x228.2.2.length)), (41, cI (x164.2.length : Int)), (42, cI x213.1), (58, cB false)] [(4, .var (eTBoard p0) false), (39, .arr 1 x228.2.1.length (fF eI zI x228.2.1) false), (1001, .arr 1 x228.2.2.length (fF eI zI x228.2.2) false)] (fun t => aI c231 (aI c231 (aI c231 (aI c231 (aI c231 (aI c231 (t))))))) (by kernel_rfl) ?_
                  refine ite_f (rfl : (false : Bool) = false) (by kernel_rfl) ?_
                  refine tell [] [(3, cI p3), (4, .c (.pk 4 0)), (11, .c (.own 39 1 0 x228.2.1.length)), (34, cI (v15.length : Int)), (35, cI x164.1), (40, .c (.own 1001 1 0 x228.2.2.length)), (41, cI (x164.2.length : Int)), (42, cI x213.1)] [(4, .var (eTBoard p0) false), (39, .arr 1 x228.2.1.length (fF eI zI x228.2.1) false), (1001, .arr 1 x228.2.2.length (fF eI zI x228.2.2) false)] (fun t => t) (by kernel_rfl) ?_
                  refine ends_exit ?_
                  obtain rfl := Option.some.inj H
                  exact And.intro (by simp) (And.intro rfl rfl)
              · clear h235
                intro e s q
                obtain ⟨rfl, rfl⟩ := q
                change EndsI _ _ _ _ _ _
                refine one_ops [] [] [(3, cI p3), (4, .c (.pk 4 0)), (11, .c (.own 39 1 0 y234.1.length)), (34, cI (v15.length : Int)), (35, cI x164.1), (40, .c (.own 1001 1 0 y234.2.length)), (41, cI (x164.2.length : Int)), (42, cI (W (x213.1 + 1)))] [(4, .var (eTBoard p0) false), (39, .arr 1 y234.1.length (fF eI zI y234.1) false), (1001, .arr 1 y234.2.length (fF eI zI y234.2) false)] (fun t => t) (by kernel_rfl) ?_
                obtain rfl := Option.some.inj H
                exact And.intro rfl rfl
            · refine ite_f c215 (by kernel_rfl) ?_
              refine tell [] [(3, cI p3), (4, .c (.pk 4 0)), (11, .c (.own 39 1 0 x213.2.1.length)), (34, cI (v15.length : Int)), (35, cI x164.1)] [(4, .var (eTBoard p0) false), (39, .arr 1 x213.2.1.length (fF eI zI x213.2.1) false)] (fun t => t) (by kernel_rfl) ?_
              refine ends_exit ?_
              obtain rfl := Option.some.inj H
              exact And.intro (by simp) (And.intro rfl rfl)
          · clear h237
            intro e s q
            obtain ⟨rfl, rfl⟩ := q
            change EndsI _ _ _ _ _ _
            refine one_ops [] [] [(3, cI p3), (4, .c (.pk 4 0)), (10, .c (.own 39 1 0 y236.length)), (34, cI (v15.length : Int)), (35, cI x164.1)] [(4, .var (eTBoard p0) false), (39, .arr 1 y236.length (fF eI zI y236) false)] (fun t => t) (by kernel_rfl) ?_
            change EndsI _ _ _ _ _ _
            refine one_ops [] [.ren 39 1001] [(3, cI p3), (4, .c (.pk 4 0)), (10, .c (.own 1001 1 0 y236.length)), (34, cI (v15.length : Int)), (35, cI (W (x164.1 + 1)))] [(4, .var (eTBoard p0) false), (1001, .arr 1 y236.length (fF eI zI y236) false)] (fun t => t) (by kernel_rfl) ?_
            obtain rfl := Option.some.inj H
            exact And.intro rfl rfl
        · refine ite_f c166 (by kernel_rfl) ?_
          refine tell [] [(3, cI p3), (10, .c (.own 1001 1 0 x164.2.length))] [(1001, .arr 1 x164.2.length (fF eI zI x164.2) false)] (fun t => t) (by kernel_rfl) ?_
          refine ends_exit ?_
          obtain rfl := Option.some.inj H
          exact And.intro (by simp) (And.intro rfl rfl)
      · clear h239
        intro e s q
        obtain ⟨rfl, rfl⟩ := q
        change EndsI _ _ _ _ _ _
        obtain ⟨g240, H⟩ := ofIf H
        refine seq_ops [.no] [] [(8, cI (y238.getD p3.toNat zI)), (9, cB true)] [] (fun t => aI g240 (aI (nat_lt g240) (t))) (by kernel_rfl) ?_
        refine ends_ret ?_
        obtain rfl := Option.some.inj H
        exact And.intro (.inl rfl) rfl

def l_eqIntS_ir : S :=
 (.seq (.ops [⟨some 4, .mv (.v (.bool false)), none⟩])
 (.seq (.seq (.ops [⟨some 6, .mv (.t 0), none⟩, ⟨some 7, .len (.t 6), none⟩, ⟨some 8, .mv (.t 1), none⟩, ⟨some 9, .len (.t 8), none⟩, ⟨some 10, .bin .neq (.t 7) (.t 9), none⟩])
 (.ite (.t 10) (.seq (.ops [⟨some 4, .mv (.v (.bool false)), none⟩])
  .ret)
 .skip))
 (.seq (.seq (.ops [⟨some 5, .mv (.v (.int .i64 0)), none⟩])
 (.blk 0 (.loop (.seq (.seq (.ops [⟨some 11, .mv (.t 5), none⟩, ⟨some 12, .mv (.t 0), none⟩, ⟨some 13, .len (.t 12), none⟩, ⟨some 14, .bin .lss (.t 11) (.t 13), none⟩])
   (.ite (.t 14) .skip
   (.exit 0)))
   (.seq (.blk 1 (.seq (.draw 9 [⟨some 17, .mv (.t 0), none⟩, ⟨some 18, .mv (.t 5), none⟩, ⟨some 19, .iad 1 (.t 17) (.t 18), none⟩, ⟨some 20, .load 1 false (.t 19), none⟩, ⟨some 21, .mv (.t 1), none⟩, ⟨some 22, .mv (.t 5), none⟩, ⟨some 23, .iad 1 (.t 21) (.t 22), none⟩, ⟨some 24, .load 1 false (.t 23), none⟩, ⟨some 25, .bin .neq (.t 20) (.t 24), none⟩])
    (.ite (.t 25) (.seq (.ops [⟨some 4, .mv (.v (.bool false)), none⟩])
     .ret)
    .skip)))
   (.ops [⟨some 15, .mv (.t 5), none⟩, ⟨some 16, .bin .add (.t 15) (.v (.int .i64 1)), none⟩, ⟨some 5, .mv (.t 16), none⟩]))))))
 (.seq (.ops [⟨some 4, .mv (.v (.bool true)), none⟩])
 .ret))))
noncomputable def X.l_eqIntS (p0 : (List Int)) (p1 : (List Int)) : Option Bool :=
  (bif ((p0.length : Int) != (p1.length : Int)) then some false else ((loop (fun (x18 : Int) => ((bif (decide (x18 < (p0.length : Int))) then ((at' zI p0 x18).bind fun v21 => ((at' zI p1 x18).bind fun v23 => (bif (v21 != v23) then some (Sum.inr (Sum.inr false)) else some (Sum.inl (W (x18 + 1)))))) else some (Sum.inr (Sum.inl ()))) : Option (Int ⊕ (Unit ⊕ Bool)))) 0).bind fun y26 => (Sum.elim (fun (y28 : Unit) => some true) (fun (y29 : Bool) => some y29) y26)))
theorem l_eqIntS_ok (p0 : (List Int)) (p1 : (List Int)) (r : Bool) (H : X.l_eqIntS p0 p1 = some r) : FnOk Tryz.prog gl 50 [.c (dat 1 eI zI p0), .c (dat 1 eI zI p1)] (cB r) := by
  unfold X.l_eqIntS at H
  refine fn_in (fn := Tryz.f50) (ir := l_eqIntS_ir) (s1 := lit [(4, cB r)] []) Tryz.func50 (by kernel_rfl) (by kernel_rfl) (by kernel_rfl) (by kernel_rfl) (by kernel_rfl) ?_
  refine seq_ops [] [] [(0, .c (dat 1 eI zI p0)), (1, .c (dat 1 eI zI p1))] [] (fun t => t) (by kernel_rfl) ?_
  refine seq_in ?_
  refine seq_ops [] [] [(0, .c (dat 1 eI zI p0)), (1, .c (dat 1 eI zI p1)), (10, cB ((p0.length : Int) != (p1.length : Int)))] [] (fun t => lI p0 (lI p1 (t))) (by kernel_rfl) ?_
  rcases ofCond H with ⟨c2, H⟩ | ⟨c2, H⟩
  · refine ite_t c2 (by kernel_rfl) ?_
    refine seq_ops [] [] [(4, cB false)] [] (fun t => t) (by kernel_rfl) ?_
    refine ends_ret ?_
    obtain rfl := Option.some.inj H
    exact And.intro (.inl rfl) rfl
  · refine ite_f c2 (by kernel_rfl) ?_
    refine ends_skip ?_
    change EndsI _ _ _ _ _ _
    refine seq_in ?_
    refine seq_ops [] [] [(0, .c (dat 1 eI zI p0)), (1, .c (dat 1 eI zI p1)), (5, cI 0)] [] (fun t => t) (by kernel_rfl) ?_
    refine ends_blk ?_
    obtain ⟨y26, h27, H⟩ := ofBind H
    refine loop_in (fun (x : Int) => lit [(0, .c (dat 1 eI zI p0)), (1, .c (dat 1 eI zI p1)), (5, cI x)] []) (orJ (fun (z : Unit) => At (.exit 0) (lit [] [])) (fun (z : Bool) => At .ret (lit [(4, cB z)] []))) h27 ?_ ?_
    · clear H h27
      intro x18 y0 H
      refine seq_in ?_
      refine seq_ops [] [] [(0, .c (dat 1 eI zI p0)), (1, .c (dat 1 eI zI p1)), (5, cI x18), (14, cB (decide (x18 < (p0.length : Int))))] [] (fun t => lI p0 (t)) (by kernel_rfl) ?_
      rcases ofCond H with ⟨c20, H⟩ | ⟨c20, H⟩
      · refine ite_t c20 (by kernel_rfl) ?_
        refine ends_skip ?_
        change EndsI _ _ _ _ _ _
        refine seq_in ?_
        refine ends_blk ?_
        obtain ⟨v21, h22, H⟩ := ofBind H
        obtain ⟨v23, h24, H⟩ := ofBind H
        refine seq_draw [.cs (eI v21), .cs (eI v23)] [] [(0, .c (dat 1 eI zI p0)), (1, .c (dat 1 eI zI p1)), (5, cI x18), (25, cB (v21 != v23))] [] (fun t => aI (at_lt h22) (aI (at_enc (enc := eI) h22) (aI (rfl : ([] : List Nat) = []) (aI (at_lt h24) (aI (at_enc (enc := eI) h24) (aI (rfl : ([] : List Nat) = []) (t))))))) (by kernel_rfl) ?_
        rcases ofCond H with ⟨c25, H⟩ | ⟨c25, H⟩
        · refine ite_t c25 (by kernel_rfl) ?_
          refine seq_ops [] [] [(4, cB false)] [] (fun t => t) (by kernel_rfl) ?_
          refine ends_ret ?_
          obtain rfl := Option.some.inj H
          exact And.intro (by simp) (And.intro rfl rfl)
        · refine ite_f c25 (by kernel_rfl) ?_
          refine ends_skip ?_
          change EndsI _ _ _ _ _ _
          refine one_ops [] [] [(0, .c (dat 1 eI zI p0)), (1, .c (dat 1 eI zI p1)), (5, cI (W (x18 + 1)))] [] (fun t => t) (by kernel_rfl) ?_
          obtain rfl := Option.some.inj H
          exact And.intro rfl rfl
      · refine ite_f c20 (by kernel_rfl) ?_
        refine tell [] [] [] (fun t => t) (by kernel_rfl) ?_
        refine ends_exit ?_
        obtain rfl := Option.some.inj H
        exact And.intro (by simp) (And.intro rfl rfl)
    · clear h27
      cases y26 with
      | inl y28 =>
        replace H := ofInl H
        intro e s q
        obtain ⟨rfl, rfl⟩ := q
        change EndsI _ _ _ _ _ _
        refine seq_ops [] [] [(4, cB true)] [] (fun t => t) (by kernel_rfl) ?_
        refine ends_ret ?_
        obtain rfl := Option.some.inj H
        exact And.intro (.inl rfl) rfl
      | inr y29 =>
        replace H := ofInr H
        intro e s q
        obtain ⟨rfl, rfl⟩ := q
        obtain rfl := Option.some.inj H
        exact And.intro (.inl rfl) rfl

def l_eqTerrain_ir : S :=
 (.seq (.ops [⟨some 2, .box 5 (.t 0), none⟩, ⟨some 3, .box 5 (.t 1), none⟩, ⟨some 4, .mv (.v (.bool false)), none⟩])
 (.seq (.seq (.ops [⟨some 5, .fad 0 (.t 2), none⟩, ⟨some 6, .load 1 false (.t 5), none⟩, ⟨some 7, .fad 0 (.t 3), none⟩, ⟨some 8, .load 1 false (.t 7), none⟩, ⟨some 9, .bin .neq (.t 6) (.t 8), none⟩])
 (.ite (.t 9) (.seq (.ops [⟨some 4, .mv (.v (.bool false)), none⟩])
  .ret)
 .skip))
 (.seq (.seq (.ops [⟨some 10, .fad 1 (.t 2), none⟩, ⟨some 11, .load 1 false (.t 10), none⟩, ⟨some 12, .fad 1 (.t 3), none⟩, ⟨some 13, .load 1 false (.t 12), none⟩, ⟨some 14, .call 50 [.t 11, .t 13], none⟩, ⟨some 15, .not (.t 14), none⟩])
 (.ite (.t 15) (.seq (.ops [⟨some 4, .mv (.v (.bool false)), none⟩])
  .ret)
 .skip))
 (.seq (.seq (.ops [⟨some 16, .fad 2 (.t 2), none⟩, ⟨some 17, .load 1 false (.t 16), none⟩, ⟨some 18, .fad 2 (.t 3), none⟩, ⟨some 19, .load 1 false (.t 18), none⟩, ⟨some 20, .bin .neq (.t 17) (.t 19), none⟩])
 (.ite (.t 20) (.seq (.ops [⟨some 4, .mv (.v (.bool false)), none⟩])
  .ret)
 .skip))
 (.seq (.seq (.ops [⟨some 21, .fad 3 (.t 2), none⟩, ⟨some 22, .load 1 false (.t 21), none⟩, ⟨some 23, .fad 3 (.t 3), none⟩, ⟨some 24, .load 1 false (.t 23), none⟩, ⟨some 25, .bin .neq (.t 22) (.t 24), none⟩])
 (.ite (.t 25) (.seq (.ops [⟨some 4, .mv (.v (.bool false)), none⟩])
  .ret)
 .skip))
 (.seq (.seq (.ops [⟨some 26, .fad 4 (.t 2), none⟩, ⟨some 27, .load 1 false (.t 26), none⟩, ⟨some 28, .fad 4 (.t 3), none⟩, ⟨some 29, .load 1 false (.t 28), none⟩, ⟨some 30, .bqe true (.t 27) (.t 29), none⟩])
 (.ite (.t 30) (.seq (.ops [⟨some 4, .mv (.v (.bool false)), none⟩])
  .ret)
 .skip))
 (.seq (.ops [⟨some 4, .mv (.v (.bool true)), none⟩])
 .ret)))))))
noncomputable def X.l_eqTerrain (p0 : TTerrain) (p1 : TTerrain) : Option Bool :=
  (bif (!(p0.Name == p1.Name)) then some false else ((X.l_eqIntS p0.Cost p1.Cost).bind fun v6 => (bif (!v6) then some false else (bif (p0.Shift != p1.Shift) then some false else (bif (p0.Height != p1.Height) then some false else (bif (!(p0.Blocks == p1.Blocks)) then some false else some true))))))
theorem l_eqTerrain_ok (p0 : TTerrain) (p1 : TTerrain) (r : Bool) (H : X.l_eqTerrain p0 p1 = some r) : FnOk Tryz.prog gl 204 [.agg (eTTerrain p0), .agg (eTTerrain p1)] (cB r) := by
  unfold X.l_eqTerrain at H
  refine fn_in (fn := Tryz.f204) (ir := l_eqTerrain_ir) (s1 := lit [(4, cB r)] []) Tryz.func204 (by kernel_rfl) (by kernel_rfl) (by kernel_rfl) (by kernel_rfl) (by kernel_rfl) ?_
  refine seq_ops [] [] [(2, .c (.pk 2 0)), (3, .c (.pk 3 0))] [(2, .var (eTTerrain p0) false), (3, .var (eTTerrain p1) false)] (fun t => t) (by kernel_rfl) ?_
  refine seq_in ?_
  refine seq_ops [] [] [(2, .c (.pk 2 0)), (3, .c (.pk 3 0)), (9, cB (!(p0.Name == p1.Name)))] [(2, .var (eTTerrain p0) false), (3, .var (eTTerrain p1) false)] (fun t => t) (by kernel_rfl) ?_
  rcases ofCond H with ⟨c2, H⟩ | ⟨c2, H⟩
  · refine ite_t c2 (by kernel_rfl) ?_
    refine seq_ops [] [] [(4, cB false)] [] (fun t => t) (by kernel_rfl) ?_
    refine ends_ret ?_
    obtain rfl := Option.some.inj H
    exact And.intro (.inl rfl) rfl
  · refine ite_f c2 (by kernel_rfl) ?_
    refine ends_skip ?_
    change EndsI _ _ _ _ _ _
    refine seq_in ?_
    obtain ⟨v6, h7, H⟩ := ofBind H
    refine seq_ops [.res (cB v6)] [] [(2, .c (.pk 2 0)), (3, .c (.pk 3 0)), (15, cB (!v6))] [(2, .var (eTTerrain p0) false), (3, .var (eTTerrain p1) false)] (fun t => aI (l_eqIntS_ok p0.Cost p1.Cost v6 h7) (t)) (by kernel_rfl) ?_
    rcases ofCond H with ⟨c8, H⟩ | ⟨c8, H⟩
    · refine ite_t c8 (by kernel_rfl) ?_
      refine seq_ops [] [] [(4, cB false)] [] (fun t => t) (by kernel_rfl) ?_
      refine ends_ret ?_
      obtain rfl := Option.some.inj H
      exact And.intro (.inl rfl) rfl
    · refine ite_f c8 (by kernel_rfl) ?_
      refine ends_skip ?_
      change EndsI _ _ _ _ _ _
      refine seq_in ?_
      refine seq_ops [] [] [(2, .c (.pk 2 0)), (3, .c (.pk 3 0)), (20, cB (p0.Shift != p1.Shift))] [(2, .var (eTTerrain p0) false), (3, .var (eTTerrain p1) false)] (fun t => t) (by kernel_rfl) ?_
      rcases ofCond H with ⟨c10, H⟩ | ⟨c10, H⟩
      · refine ite_t c10 (by kernel_rfl) ?_
        refine seq_ops [] [] [(4, cB false)] [] (fun t => t) (by kernel_rfl) ?_
        refine ends_ret ?_
        obtain rfl := Option.some.inj H
        exact And.intro (.inl rfl) rfl
      · refine ite_f c10 (by kernel_rfl) ?_
        refine ends_skip ?_
        change EndsI _ _ _ _ _ _
        refine seq_in ?_
        refine seq_ops [] [] [(2, .c (.pk 2 0)), (3, .c (.pk 3 0)), (25, cB (p0.Height != p1.Height))] [(2, .var (eTTerrain p0) false), (3, .var (eTTerrain p1) false)] (fun t => t) (by kernel_rfl) ?_
        rcases ofCond H with ⟨c12, H⟩ | ⟨c12, H⟩
        · refine ite_t c12 (by kernel_rfl) ?_
          refine seq_ops [] [] [(4, cB false)] [] (fun t => t) (by kernel_rfl) ?_
          refine ends_ret ?_
          obtain rfl := Option.some.inj H
          exact And.intro (.inl rfl) rfl
        · refine ite_f c12 (by kernel_rfl) ?_
          refine ends_skip ?_
          change EndsI _ _ _ _ _ _
          refine seq_in ?_
          refine seq_ops [] [] [(30, cB (!(p0.Blocks == p1.Blocks)))] [] (fun t => t) (by kernel_rfl) ?_
          rcases ofCond H with ⟨c13, H⟩ | ⟨c13, H⟩
          · refine ite_t c13 (by kernel_rfl) ?_
            refine seq_ops [] [] [(4, cB false)] [] (fun t => t) (by kernel_rfl) ?_
            refine ends_ret ?_
            obtain rfl := Option.some.inj H
            exact And.intro (.inl rfl) rfl
          · refine ite_f c13 (by kernel_rfl) ?_
            refine ends_skip ?_
            change EndsI _ _ _ _ _ _
            refine seq_ops [] [] [(4, cB true)] [] (fun t => t) (by kernel_rfl) ?_
            refine ends_ret ?_
            obtain rfl := Option.some.inj H
            exact And.intro (.inl rfl) rfl

def l_eqTerrainS_ir : S :=
 (.seq (.ops [⟨some 4, .mv (.v (.bool false)), none⟩])
 (.seq (.seq (.ops [⟨some 6, .mv (.t 0), none⟩, ⟨some 7, .len (.t 6), none⟩, ⟨some 8, .mv (.t 1), none⟩, ⟨some 9, .len (.t 8), none⟩, ⟨some 10, .bin .neq (.t 7) (.t 9), none⟩])
 (.ite (.t 10) (.seq (.ops [⟨some 4, .mv (.v (.bool false)), none⟩])
  .ret)
 .skip))
 (.seq (.seq (.ops [⟨some 5, .mv (.v (.int .i64 0)), none⟩])
 (.blk 0 (.loop (.seq (.seq (.ops [⟨some 11, .mv (.t 5), none⟩, ⟨some 12, .mv (.t 0), none⟩, ⟨some 13, .len (.t 12), none⟩, ⟨some 14, .bin .lss (.t 11) (.t 13), none⟩])
   (.ite (.t 14) .skip
   (.exit 0)))
   (.seq (.blk 1 (.seq (.draw 10 [⟨some 17, .mv (.t 0), none⟩, ⟨some 18, .mv (.t 5), none⟩, ⟨some 19, .iad 5 (.t 17) (.t 18), none⟩, ⟨some 20, .load 5 true (.t 19), none⟩, ⟨some 21, .mv (.t 1), none⟩, ⟨some 22, .mv (.t 5), none⟩, ⟨some 23, .iad 5 (.t 21) (.t 22), none⟩, ⟨some 24, .load 5 true (.t 23), none⟩, ⟨some 25, .call 204 [.t 20, .t 24], none⟩, ⟨some 26, .not (.t 25), none⟩])
    (.ite (.t 26) (.seq (.ops [⟨some 4, .mv (.v (.bool false)), none⟩])
     .ret)
    .skip)))
   (.ops [⟨some 15, .mv (.t 5), none⟩, ⟨some 16, .bin .add (.t 15) (.v (.int .i64 1)), none⟩, ⟨some 5, .mv (.t 16), none⟩]))))))
 (.seq (.ops [⟨some 4, .mv (.v (.bool true)), none⟩])
 .ret))))
noncomputable def X.l_eqTerrainS (p0 : (List TTerrain)) (p1 : (List TTerrain)) : Option Bool :=
  (bif ((p0.length : Int) != (p1.length : Int)) then some false else ((loop (fun (x22 : Int) => ((bif (decide (x22 < (p0.length : Int))) then ((at' zTTerrain p0 x22).bind fun v25 => ((at' zTTerrain p1 x22).bind fun v27 => ((X.l_eqTerrain v25 v27).bind fun v29 => (bif (!v29) then some (Sum.inr (Sum.inr false)) else some (Sum.inl (W (x22 + 1))))))) else some (Sum.inr (Sum.inl ()))) : Option (Int ⊕ (Unit ⊕ Bool)))) 0).bind fun y32 => (Sum.elim (fun (y34 : Unit) => some true) (fun (y35 : Bool) => some y35) y32)))
theorem l_eqTerrainS_ok (p0 : (List TTerrain)) (p1 : (List TTerrain)) (r : Bool) (H : X.l_eqTerrainS p0 p1 = some r) : FnOk Tryz.prog gl 144 [.c (dat 5 eTTerrain zTTerrain p0), .c (dat 5 eTTerrain zTTerrain p1)] (cB r) := by
  unfold X.l_eqTerrainS at H
  refine fn_in (fn := Tryz.f144) (ir := l_eqTerrainS_ir) (s1 := lit [(4, cB r)] []) Tryz.func144 (by kernel_rfl) (by kernel_rfl) (by kernel_rfl) (by kernel_rfl) (by kernel_rfl) ?_
  refine seq_ops [] [] [(0, .c (dat 5 eTTerrain zTTerrain p0)), (1, .c (dat 5 eTTerrain zTTerrain p1))] [] (fun t => t) (by kernel_rfl) ?_
  refine seq_in ?_
  refine seq_ops [] [] [(0, .c (dat 5 eTTerrain zTTerrain p0)), (1, .c (dat 5 eTTerrain zTTerrain p1)), (10, cB ((p0.length : Int) != (p1.length : Int)))] [] (fun t => lI p0 (lI p1 (t))) (by kernel_rfl) ?_
  rcases ofCond H with ⟨c2, H⟩ | ⟨c2, H⟩
  · refine ite_t c2 (by kernel_rfl) ?_
    refine seq_ops [] [] [(4, cB false)] [] (fun t => t) (by kernel_rfl) ?_
    refine ends_ret ?_
    obtain rfl := Option.some.inj H
    exact And.intro (.inl rfl) rfl
  · refine ite_f c2 (by kernel_rfl) ?_
    refine ends_skip ?_
    change EndsI _ _ _ _ _ _
    refine seq_in ?_
    refine seq_ops [] [] [(0, .c (dat 5 eTTerrain zTTerrain p0)), (1, .c (dat 5 eTTerrain zTTerrain p1)), (5, cI 0)] [] (fun t => t) (by kernel_rfl) ?_
    refine ends_blk ?_
    obtain ⟨y32, h33, H⟩ := ofBind H
    refine loop_in (fun (x : Int) => lit [(0, .c (dat 5 eTTerrain zTTerrain p0)), (1, .c (dat 5 eTTerrain zTTerrain p1)), (5, cI x)] []) (orJ (fun (z : Unit) => At (.exit 0) (lit [] [])) (fun (z : Bool) => At .ret (lit [(4, cB z)] []))) h33 ?_ ?_
    · clear H h33
      intro x22 y0 H
      refine seq_in ?_
      refine seq_ops [] [] [(0, .c (dat 5 eTTerrain zTTerrain p0)), (1, .c (dat 5 eTTerrain zTTerrain p1)), (5, cI x22), (14, cB (decide (x22 < (p0.length : Int))))] [] (fun t => lI p0 (t)) (by kernel_rfl) ?_
      rcases ofCond H with ⟨c24, H⟩ | ⟨c24, H⟩
      · refine ite_t c24 (by kernel_rfl) ?_
        refine ends_skip ?_
        change EndsI _ _ _ _ _ _
        refine seq_in ?_
        refine ends_blk ?_
        obtain ⟨v25, h26, H⟩ := ofBind H
        obtain ⟨v27, h28, H⟩ := ofBind H
        obtain ⟨v29, h30, H⟩ := ofBind H
        refine seq_draw [.cs (eTTerrain v25), .cs (eTTerrain v27), .res (cB v29)] [] [(0, .c (dat 5 eTTerrain zTTerrain p0)), (1, .c (dat 5 eTTerrain zTTerrain p1)), (5, cI x22), (26, cB (!v29))] [] (fun t => aI (at_lt h26) (aI (at_enc (enc := eTTerrain) h26) (aI (rfl : ([] : List Nat) = []) (aI (at_lt h28) (aI (at_enc (enc := eTTerrain) h28) (aI (rfl : ([] : List Nat) = []) (aI (l_eqTerrain_ok v25 v27 v29 h30) (aI trivial (aI (rfl : ([] : List Nat) = []) (t)))))))))) (by kernel_rfl) ?_
        rcases ofCond H with ⟨c31, H⟩ | ⟨c31, H⟩
        · refine ite_t c31 (by kernel_rfl) ?_
          refine seq_ops [] [] [(4, cB false)] [] (fun t => t) (by kernel_rfl) ?_
          refine ends_ret ?_
          obtain rfl := Option.some.inj H
          exact And.intro (by simp) (And.intro rfl rfl)
        · refine ite_f c31 (by kernel_rfl) ?_
          refine ends_skip ?_
          change EndsI _ _ _ _ _ _
          refine one_ops [] [] [(0, .c (dat 5 eTTerrain zTTerrain p0)), (1, .c (dat 5 eTTerrain zTTerrain p1)), (5, cI (W (x22 + 1)))] [] (fun t => t) (by kernel_rfl) ?_
          obtain rfl := Option.some.inj H
          exact And.intro rfl rfl
      · refine ite_f c24 (by kernel_rfl) ?_
        refine tell [] [] [] (fun t => t) (by kernel_rfl) ?_
        refine ends_exit ?_
        obtain rfl := Option.some.inj H
        exact And.intro (by simp) (And.intro rfl rfl)
    · clear h33
      cases y32 with
      | inl y34 =>
        replace H := ofInl H
        intro e s q
        obtain ⟨rfl, rfl⟩ := q
        change EndsI _ _ _ _ _ _
        refine seq_ops [] [] [(4, cB true)] [] (fun t => t) (by kernel_rfl) ?_
        refine ends_ret ?_
        obtain rfl := Option.some.inj H
        exact And.intro (.inl rfl) rfl
      | inr y35 =>
        replace H := ofInr H
        intro e s q
        obtain ⟨rfl, rfl⟩ := q
        obtain rfl := Option.some.inj H
        exact And.intro (.inl rfl) rfl

def l_eqKind_ir : S :=
 (.seq (.ops [⟨some 2, .box 6 (.t 0), none⟩, ⟨some 3, .box 6 (.t 1), none⟩, ⟨some 4, .mv (.v (.bool false)), none⟩])
 (.seq (.seq (.ops [⟨some 5, .fad 0 (.t 2), none⟩, ⟨some 6, .load 1 false (.t 5), none⟩, ⟨some 7, .fad 0 (.t 3), none⟩, ⟨some 8, .load 1 false (.t 7), none⟩, ⟨some 9, .bin .neq (.t 6) (.t 8), none⟩])
 (.ite (.t 9) (.seq (.ops [⟨some 4, .mv (.v (.bool false)), none⟩])
  .ret)
 .skip))
 (.seq (.seq (.ops [⟨some 10, .fad 1 (.t 2), none⟩, ⟨some 11, .load 1 false (.t 10), none⟩, ⟨some 12, .fad 1 (.t 3), none⟩, ⟨some 13, .load 1 false (.t 12), none⟩, ⟨some 14, .bin .neq (.t 11) (.t 13), none⟩])
 (.ite (.t 14) (.seq (.ops [⟨some 4, .mv (.v (.bool false)), none⟩])
  .ret)
 .skip))
 (.seq (.seq (.ops [⟨some 15, .fad 2 (.t 2), none⟩, ⟨some 16, .load 1 false (.t 15), none⟩, ⟨some 17, .fad 2 (.t 3), none⟩, ⟨some 18, .load 1 false (.t 17), none⟩, ⟨some 19, .bin .neq (.t 16) (.t 18), none⟩])
 (.ite (.t 19) (.seq (.ops [⟨some 4, .mv (.v (.bool false)), none⟩])
  .ret)
 .skip))
 (.seq (.seq (.ops [⟨some 20, .fad 3 (.t 2), none⟩, ⟨some 21, .load 1 false (.t 20), none⟩, ⟨some 22, .fad 3 (.t 3), none⟩, ⟨some 23, .load 1 false (.t 22), none⟩, ⟨some 24, .bin .neq (.t 21) (.t 23), none⟩])
 (.ite (.t 24) (.seq (.ops [⟨some 4, .mv (.v (.bool false)), none⟩])
  .ret)
 .skip))
 (.seq (.seq (.ops [⟨some 25, .fad 4 (.t 2), none⟩, ⟨some 26, .load 1 false (.t 25), none⟩, ⟨some 27, .fad 4 (.t 3), none⟩, ⟨some 28, .load 1 false (.t 27), none⟩, ⟨some 29, .bqe true (.t 26) (.t 28), none⟩])
 (.ite (.t 29) (.seq (.ops [⟨some 4, .mv (.v (.bool false)), none⟩])
  .ret)
 .skip))
 (.seq (.seq (.ops [⟨some 30, .fad 5 (.t 2), none⟩, ⟨some 31, .load 1 false (.t 30), none⟩, ⟨some 32, .fad 5 (.t 3), none⟩, ⟨some 33, .load 1 false (.t 32), none⟩, ⟨some 34, .bin .neq (.t 31) (.t 33), none⟩])
 (.ite (.t 34) (.seq (.ops [⟨some 4, .mv (.v (.bool false)), none⟩])
  .ret)
 .skip))
 (.seq (.ops [⟨some 4, .mv (.v (.bool true)), none⟩])
 .ret))))))))
noncomputable def X.l_eqKind (p0 : TKind) (p1 : TKind) : Option Bool :=
  (bif (!(p0.Name == p1.Name)) then some false else (bif (p0.Strength != p1.Strength) then some false else (bif (p0.Moves != p1.Moves) then some false else (bif (p0.Steps != p1.Steps) then some false else (bif (!(p0.Zone == p1.Zone)) then some false else (bif (p0.View != p1.View) then some false else some true))))))
theorem l_eqKind_ok (p0 : TKind) (p1 : TKind) (r : Bool) (H : X.l_eqKind p0 p1 = some r) : FnOk Tryz.prog gl 205 [.agg (eTKind p0), .agg (eTKind p1)] (cB r) := by
  unfold X.l_eqKind at H
  refine fn_in (fn := Tryz.f205) (ir := l_eqKind_ir) (s1 := lit [(4, cB r)] []) Tryz.func205 (by kernel_rfl) (by kernel_rfl) (by kernel_rfl) (by kernel_rfl) (by kernel_rfl) ?_
  refine seq_ops [] [] [(2, .c (.pk 2 0)), (3, .c (.pk 3 0))] [(2, .var (eTKind p0) false), (3, .var (eTKind p1) false)] (fun t => t) (by kernel_rfl) ?_
  refine seq_in ?_
  refine seq_ops [] [] [(2, .c (.pk 2 0)), (3, .c (.pk 3 0)), (9, cB (!(p0.Name == p1.Name)))] [(2, .var (eTKind p0) false), (3, .var (eTKind p1) false)] (fun t => t) (by kernel_rfl) ?_
  rcases ofCond H with ⟨c2, H⟩ | ⟨c2, H⟩
  · refine ite_t c2 (by kernel_rfl) ?_
    refine seq_ops [] [] [(4, cB false)] [] (fun t => t) (by kernel_rfl) ?_
    refine ends_ret ?_
    obtain rfl := Option.some.inj H
    exact And.intro (.inl rfl) rfl
  · refine ite_f c2 (by kernel_rfl) ?_
    refine ends_skip ?_
    change EndsI _ _ _ _ _ _
    refine seq_in ?_
    refine seq_ops [] [] [(2, .c (.pk 2 0)), (3, .c (.pk 3 0)), (14, cB (p0.Strength != p1.Strength))] [(2, .var (eTKind p0) false), (3, .var (eTKind p1) false)] (fun t => t) (by kernel_rfl) ?_
    rcases ofCond H with ⟨c4, H⟩ | ⟨c4, H⟩
    · refine ite_t c4 (by kernel_rfl) ?_
      refine seq_ops [] [] [(4, cB false)] [] (fun t => t) (by kernel_rfl) ?_
      refine ends_ret ?_
      obtain rfl := Option.some.inj H
      exact And.intro (.inl rfl) rfl
    · refine ite_f c4 (by kernel_rfl) ?_
      refine ends_skip ?_
      change EndsI _ _ _ _ _ _
      refine seq_in ?_
      refine seq_ops [] [] [(2, .c (.pk 2 0)), (3, .c (.pk 3 0)), (19, cB (p0.Moves != p1.Moves))] [(2, .var (eTKind p0) false), (3, .var (eTKind p1) false)] (fun t => t) (by kernel_rfl) ?_
      rcases ofCond H with ⟨c6, H⟩ | ⟨c6, H⟩
      · refine ite_t c6 (by kernel_rfl) ?_
        refine seq_ops [] [] [(4, cB false)] [] (fun t => t) (by kernel_rfl) ?_
        refine ends_ret ?_
        obtain rfl := Option.some.inj H
        exact And.intro (.inl rfl) rfl
      · refine ite_f c6 (by kernel_rfl) ?_
        refine ends_skip ?_
        change EndsI _ _ _ _ _ _
        refine seq_in ?_
        refine seq_ops [] [] [(2, .c (.pk 2 0)), (3, .c (.pk 3 0)), (24, cB (p0.Steps != p1.Steps))] [(2, .var (eTKind p0) false), (3, .var (eTKind p1) false)] (fun t => t) (by kernel_rfl) ?_
        rcases ofCond H with ⟨c8, H⟩ | ⟨c8, H⟩
        · refine ite_t c8 (by kernel_rfl) ?_
          refine seq_ops [] [] [(4, cB false)] [] (fun t => t) (by kernel_rfl) ?_
          refine ends_ret ?_
          obtain rfl := Option.some.inj H
          exact And.intro (.inl rfl) rfl
        · refine ite_f c8 (by kernel_rfl) ?_
          refine ends_skip ?_
          change EndsI _ _ _ _ _ _
          refine seq_in ?_
          refine seq_ops [] [] [(2, .c (.pk 2 0)), (3, .c (.pk 3 0)), (29, cB (!(p0.Zone == p1.Zone)))] [(2, .var (eTKind p0) false), (3, .var (eTKind p1) false)] (fun t => t) (by kernel_rfl) ?_
          rcases ofCond H with ⟨c10, H⟩ | ⟨c10, H⟩
          · refine ite_t c10 (by kernel_rfl) ?_
            refine seq_ops [] [] [(4, cB false)] [] (fun t => t) (by kernel_rfl) ?_
            refine ends_ret ?_
            obtain rfl := Option.some.inj H
            exact And.intro (.inl rfl) rfl
          · refine ite_f c10 (by kernel_rfl) ?_
            refine ends_skip ?_
            change EndsI _ _ _ _ _ _
            refine seq_in ?_
            refine seq_ops [] [] [(34, cB (p0.View != p1.View))] [] (fun t => t) (by kernel_rfl) ?_
            rcases ofCond H with ⟨c11, H⟩ | ⟨c11, H⟩
            · refine ite_t c11 (by kernel_rfl) ?_
              refine seq_ops [] [] [(4, cB false)] [] (fun t => t) (by kernel_rfl) ?_
              refine ends_ret ?_
              obtain rfl := Option.some.inj H
              exact And.intro (.inl rfl) rfl
            · refine ite_f c11 (by kernel_rfl) ?_
              refine ends_skip ?_
              change EndsI _ _ _ _ _ _
              refine seq_ops [] [] [(4, cB true)] [] (fun t => t) (by kernel_rfl) ?_
              refine ends_ret ?_
              obtain rfl := Option.some.inj H
              exact And.intro (.inl rfl) rfl

def l_eqKindS_ir : S :=
 (.seq (.ops [⟨some 4, .mv (.v (.bool false)), none⟩])
 (.seq (.seq (.ops [⟨some 6, .mv (.t 0), none⟩, ⟨some 7, .len (.t 6), none⟩, ⟨some 8, .mv (.t 1), none⟩, ⟨some 9, .len (.t 8), none⟩, ⟨some 10, .bin .neq (.t 7) (.t 9), none⟩])
 (.ite (.t 10) (.seq (.ops [⟨some 4, .mv (.v (.bool false)), none⟩])
  .ret)
 .skip))
 (.seq (.seq (.ops [⟨some 5, .mv (.v (.int .i64 0)), none⟩])
 (.blk 0 (.loop (.seq (.seq (.ops [⟨some 11, .mv (.t 5), none⟩, ⟨some 12, .mv (.t 0), none⟩, ⟨some 13, .len (.t 12), none⟩, ⟨some 14, .bin .lss (.t 11) (.t 13), none⟩])
   (.ite (.t 14) .skip
   (.exit 0)))
   (.seq (.blk 1 (.seq (.draw 10 [⟨some 17, .mv (.t 0), none⟩, ⟨some 18, .mv (.t 5), none⟩, ⟨some 19, .iad 6 (.t 17) (.t 18), none⟩, ⟨some 20, .load 6 true (.t 19), none⟩, ⟨some 21, .mv (.t 1), none⟩, ⟨some 22, .mv (.t 5), none⟩, ⟨some 23, .iad 6 (.t 21) (.t 22), none⟩, ⟨some 24, .load 6 true (.t 23), none⟩, ⟨some 25, .call 205 [.t 20, .t 24], none⟩, ⟨some 26, .not (.t 25), none⟩])
    (.ite (.t 26) (.seq (.ops [⟨some 4, .mv (.v (.bool false)), none⟩])
     .ret)
    .skip)))
   (.ops [⟨some 15, .mv (.t 5), none⟩, ⟨some 16, .bin .add (.t 15) (.v (.int .i64 1)), none⟩, ⟨some 5, .mv (.t 16), none⟩]))))))
 (.seq (.ops [⟨some 4, .mv (.v (.bool true)), none⟩])
 .ret))))
noncomputable def X.l_eqKindS (p0 : (List TKind)) (p1 : (List TKind)) : Option Bool :=
  (bif ((p0.length : Int) != (p1.length : Int)) then some false else ((loop (fun (x22 : Int) => ((bif (decide (x22 < (p0.length : Int))) then ((at' zTKind p0 x22).bind fun v25 => ((at' zTKind p1 x22).bind fun v27 => ((X.l_eqKind v25 v27).bind fun v29 => (bif (!v29) then some (Sum.inr (Sum.inr false)) else some (Sum.inl (W (x22 + 1))))))) else some (Sum.inr (Sum.inl ()))) : Option (Int ⊕ (Unit ⊕ Bool)))) 0).bind fun y32 => (Sum.elim (fun (y34 : Unit) => some true) (fun (y35 : Bool) => some y35) y32)))
theorem l_eqKindS_ok (p0 : (List TKind)) (p1 : (List TKind)) (r : Bool) (H : X.l_eqKindS p0 p1 = some r) : FnOk Tryz.prog gl 145 [.c (dat 6 eTKind zTKind p0), .c (dat 6 eTKind zTKind p1)] (cB r) := by
  unfold X.l_eqKindS at H
  refine fn_in (fn := Tryz.f145) (ir := l_eqKindS_ir) (s1 := lit [(4, cB r)] []) Tryz.func145 (by kernel_rfl) (by kernel_rfl) (by kernel_rfl) (by kernel_rfl) (by kernel_rfl) ?_
  refine seq_ops [] [] [(0, .c (dat 6 eTKind zTKind p0)), (1, .c (dat 6 eTKind zTKind p1))] [] (fun t => t) (by kernel_rfl) ?_
  refine seq_in ?_
  refine seq_ops [] [] [(0, .c (dat 6 eTKind zTKind p0)), (1, .c (dat 6 eTKind zTKind p1)), (10, cB ((p0.length : Int) != (p1.length : Int)))] [] (fun t => lI p0 (lI p1 (t))) (by kernel_rfl) ?_
  rcases ofCond H with ⟨c2, H⟩ | ⟨c2, H⟩
  · refine ite_t c2 (by kernel_rfl) ?_
    refine seq_ops [] [] [(4, cB false)] [] (fun t => t) (by kernel_rfl) ?_
    refine ends_ret ?_
    obtain rfl := Option.some.inj H
    exact And.intro (.inl rfl) rfl
  · refine ite_f c2 (by kernel_rfl) ?_
    refine ends_skip ?_
    change EndsI _ _ _ _ _ _
    refine seq_in ?_
    refine seq_ops [] [] [(0, .c (dat 6 eTKind zTKind p0)), (1, .c (dat 6 eTKind zTKind p1)), (5, cI 0)] [] (fun t => t) (by kernel_rfl) ?_
    refine ends_blk ?_
    obtain ⟨y32, h33, H⟩ := ofBind H
    refine loop_in (fun (x : Int) => lit [(0, .c (dat 6 eTKind zTKind p0)), (1, .c (dat 6 eTKind zTKind p1)), (5, cI x)] []) (orJ (fun (z : Unit) => At (.exit 0) (lit [] [])) (fun (z : Bool) => At .ret (lit [(4, cB z)] []))) h33 ?_ ?_
    · clear H h33
      intro x22 y0 H
      refine seq_in ?_
      refine seq_ops [] [] [(0, .c (dat 6 eTKind zTKind p0)), (1, .c (dat 6 eTKind zTKind p1)), (5, cI x22), (14, cB (decide (x22 < (p0.length : Int))))] [] (fun t => lI p0 (t)) (by kernel_rfl) ?_
      rcases ofCond H with ⟨c24, H⟩ | ⟨c24, H⟩
      · refine ite_t c24 (by kernel_rfl) ?_
        refine ends_skip ?_
        change EndsI _ _ _ _ _ _
        refine seq_in ?_
        refine ends_blk ?_
        obtain ⟨v25, h26, H⟩ := ofBind H
        obtain ⟨v27, h28, H⟩ := ofBind H
        obtain ⟨v29, h30, H⟩ := ofBind H
        refine seq_draw [.cs (eTKind v25), .cs (eTKind v27), .res (cB v29)] [] [(0, .c (dat 6 eTKind zTKind p0)), (1, .c (dat 6 eTKind zTKind p1)), (5, cI x22), (26, cB (!v29))] [] (fun t => aI (at_lt h26) (aI (at_enc (enc := eTKind) h26) (aI (rfl : ([] : List Nat) = []) (aI (at_lt h28) (aI (at_enc (enc := eTKind) h28) (aI (rfl : ([] : List Nat) = []) (aI (l_eqKind_ok v25 v27 v29 h30) (aI trivial (aI (rfl : ([] : List Nat) = []) (t)))))))))) (by kernel_rfl) ?_
        rcases ofCond H with ⟨c31, H⟩ | ⟨c31, H⟩
        · refine ite_t c31 (by kernel_rfl) ?_
          refine seq_ops [] [] [(4, cB false)] [] (fun t => t) (by kernel_rfl) ?_
          refine ends_ret ?_
          obtain rfl := Option.some.inj H
          exact And.intro (by simp) (And.intro rfl rfl)
        · refine ite_f c31 (by kernel_rfl) ?_
          refine ends_skip ?_
          change EndsI _ _ _ _ _ _
          refine one_ops [] [] [(0, .c (dat 6 eTKind zTKind p0)), (1, .c (dat 6 eTKind zTKind p1)), (5, cI (W (x22 + 1)))] [] (fun t => t) (by kernel_rfl) ?_
          obtain rfl := Option.some.inj H
          exact And.intro rfl rfl
      · refine ite_f c24 (by kernel_rfl) ?_
        refine tell [] [] [] (fun t => t) (by kernel_rfl) ?_
        refine ends_exit ?_
        obtain rfl := Option.some.inj H
        exact And.intro (by simp) (And.intro rfl rfl)
    · clear h33
      cases y32 with
      | inl y34 =>
        replace H := ofInl H
        intro e s q
        obtain ⟨rfl, rfl⟩ := q
        change EndsI _ _ _ _ _ _
        refine seq_ops [] [] [(4, cB true)] [] (fun t => t) (by kernel_rfl) ?_
        refine ends_ret ?_
        obtain rfl := Option.some.inj H
        exact And.intro (.inl rfl) rfl
      | inr y35 =>
        replace H := ofInr H
        intro e s q
        obtain ⟨rfl, rfl⟩ := q
        obtain rfl := Option.some.inj H
        exact And.intro (.inl rfl) rfl

def l_eqRules_ir : S :=
 (.seq (.ops [⟨some 2, .box 7 (.t 0), none⟩, ⟨some 3, .box 7 (.t 1), none⟩, ⟨some 4, .mv (.v (.bool false)), none⟩])
 (.seq (.seq (.ops [⟨some 5, .fad 0 (.t 2), none⟩, ⟨some 6, .load 1 false (.t 5), none⟩, ⟨some 7, .fad 0 (.t 3), none⟩, ⟨some 8, .load 1 false (.t 7), none⟩, ⟨some 9, .call 144 [.t 6, .t 8], none⟩, ⟨some 10, .not (.t 9), none⟩])
 (.ite (.t 10) (.seq (.ops [⟨some 4, .mv (.v (.bool false)), none⟩])
  .ret)
 .skip))
 (.seq (.seq (.ops [⟨some 11, .fad 1 (.t 2), none⟩, ⟨some 12, .load 1 false (.t 11), none⟩, ⟨some 13, .fad 1 (.t 3), none⟩, ⟨some 14, .load 1 false (.t 13), none⟩, ⟨some 15, .call 145 [.t 12, .t 14], none⟩, ⟨some 16, .not (.t 15), none⟩])
 (.ite (.t 16) (.seq (.ops [⟨some 4, .mv (.v (.bool false)), none⟩])
  .ret)
 .skip))
 (.seq (.seq (.ops [⟨some 17, .fad 2 (.t 2), none⟩, ⟨some 18, .load 1 false (.t 17), none⟩, ⟨some 19, .fad 2 (.t 3), none⟩, ⟨some 20, .load 1 false (.t 19), none⟩, ⟨some 21, .bin .neq (.t 18) (.t 20), none⟩])
 (.ite (.t 21) (.seq (.ops [⟨some 4, .mv (.v (.bool false)), none⟩])
  .ret)
 .skip))
 (.seq (.seq (.ops [⟨some 22, .fad 3 (.t 2), none⟩, ⟨some 23, .load 1 false (.t 22), none⟩, ⟨some 24, .fad 3 (.t 3), none⟩, ⟨some 25, .load 1 false (.t 24), none⟩, ⟨some 26, .bin .neq (.t 23) (.t 25), none⟩])
 (.ite (.t 26) (.seq (.ops [⟨some 4, .mv (.v (.bool false)), none⟩])
  .ret)
 .skip))
 (.seq (.seq (.ops [⟨some 27, .fad 4 (.t 2), none⟩, ⟨some 28, .load 1 false (.t 27), none⟩, ⟨some 29, .fad 4 (.t 3), none⟩, ⟨some 30, .load 1 false (.t 29), none⟩, ⟨some 31, .bin .neq (.t 28) (.t 30), none⟩])
 (.ite (.t 31) (.seq (.ops [⟨some 4, .mv (.v (.bool false)), none⟩])
  .ret)
 .skip))
 (.seq (.seq (.ops [⟨some 32, .fad 5 (.t 2), none⟩, ⟨some 33, .load 1 false (.t 32), none⟩, ⟨some 34, .fad 5 (.t 3), none⟩, ⟨some 35, .load 1 false (.t 34), none⟩, ⟨some 36, .bin .neq (.t 33) (.t 35), none⟩])
 (.ite (.t 36) (.seq (.ops [⟨some 4, .mv (.v (.bool false)), none⟩])
  .ret)
 .skip))
 (.seq (.seq (.ops [⟨some 37, .fad 6 (.t 2), none⟩, ⟨some 38, .load 1 false (.t 37), none⟩, ⟨some 39, .fad 6 (.t 3), none⟩, ⟨some 40, .load 1 false (.t 39), none⟩, ⟨some 41, .bin .neq (.t 38) (.t 40), none⟩])
 (.ite (.t 41) (.seq (.ops [⟨some 4, .mv (.v (.bool false)), none⟩])
  .ret)
 .skip))
 (.seq (.ops [⟨some 4, .mv (.v (.bool true)), none⟩])
 .ret)))))))))
noncomputable def X.l_eqRules (p0 : TRules) (p1 : TRules) : Option Bool :=
  ((X.l_eqTerrainS p0.Terrains p1.Terrains).bind fun v4 => (bif (!v4) then some false else ((X.l_eqKindS p0.Kinds p1.Kinds).bind fun v10 => (bif (!v10) then some false else (bif (p0.Stack != p1.Stack) then some false else (bif (p0.River != p1.River) then some false else (bif (p0.Road != p1.Road) then some false else (bif (p0.Supply != p1.Supply) then some false else (bif (p0.Turns != p1.Turns) then some false else some true)))))))))
theorem l_eqRules_ok (p0 : TRules) (p1 : TRules) (r : Bool) (H : X.l_eqRules p0 p1 = some r) : FnOk Tryz.prog gl 73 [.agg (eTRules p0), .agg (eTRules p1)] (cB r) := by
  unfold X.l_eqRules at H
  refine fn_in (fn := Tryz.f73) (ir := l_eqRules_ir) (s1 := lit [(4, cB r)] []) Tryz.func73 (by kernel_rfl) (by kernel_rfl) (by kernel_rfl) (by kernel_rfl) (by kernel_rfl) ?_
  refine seq_ops [] [] [(2, .c (.pk 2 0)), (3, .c (.pk 3 0))] [(2, .var (eTRules p0) false), (3, .var (eTRules p1) false)] (fun t => t) (by kernel_rfl) ?_
  refine seq_in ?_
  obtain ⟨v4, h5, H⟩ := ofBind H
  refine seq_ops [.res (cB v4)] [] [(2, .c (.pk 2 0)), (3, .c (.pk 3 0)), (10, cB (!v4))] [(2, .var (eTRules p0) false), (3, .var (eTRules p1) false)] (fun t => aI (l_eqTerrainS_ok p0.Terrains p1.Terrains v4 h5) (t)) (by kernel_rfl) ?_
  rcases ofCond H with ⟨c6, H⟩ | ⟨c6, H⟩
  · refine ite_t c6 (by kernel_rfl) ?_
    refine seq_ops [] [] [(4, cB false)] [] (fun t => t) (by kernel_rfl) ?_
    refine ends_ret ?_
    obtain rfl := Option.some.inj H
    exact And.intro (.inl rfl) rfl
  · refine ite_f c6 (by kernel_rfl) ?_
    refine ends_skip ?_
    change EndsI _ _ _ _ _ _
    refine seq_in ?_
    obtain ⟨v10, h11, H⟩ := ofBind H
    refine seq_ops [.res (cB v10)] [] [(2, .c (.pk 2 0)), (3, .c (.pk 3 0)), (16, cB (!v10))] [(2, .var (eTRules p0) false), (3, .var (eTRules p1) false)] (fun t => aI (l_eqKindS_ok p0.Kinds p1.Kinds v10 h11) (t)) (by kernel_rfl) ?_
    rcases ofCond H with ⟨c12, H⟩ | ⟨c12, H⟩
    · refine ite_t c12 (by kernel_rfl) ?_
      refine seq_ops [] [] [(4, cB false)] [] (fun t => t) (by kernel_rfl) ?_
      refine ends_ret ?_
      obtain rfl := Option.some.inj H
      exact And.intro (.inl rfl) rfl
    · refine ite_f c12 (by kernel_rfl) ?_
      refine ends_skip ?_
      change EndsI _ _ _ _ _ _
      refine seq_in ?_
      refine seq_ops [] [] [(2, .c (.pk 2 0)), (3, .c (.pk 3 0)), (21, cB (p0.Stack != p1.Stack))] [(2, .var (eTRules p0) false), (3, .var (eTRules p1) false)] (fun t => t) (by kernel_rfl) ?_
      rcases ofCond H with ⟨c14, H⟩ | ⟨c14, H⟩
      · refine ite_t c14 (by kernel_rfl) ?_
        refine seq_ops [] [] [(4, cB false)] [] (fun t => t) (by kernel_rfl) ?_
        refine ends_ret ?_
        obtain rfl := Option.some.inj H
        exact And.intro (.inl rfl) rfl
      · refine ite_f c14 (by kernel_rfl) ?_
        refine ends_skip ?_
        change EndsI _ _ _ _ _ _
        refine seq_in ?_
        refine seq_ops [] [] [(2, .c (.pk 2 0)), (3, .c (.pk 3 0)), (26, cB (p0.River != p1.River))] [(2, .var (eTRules p0) false), (3, .var (eTRules p1) false)] (fun t => t) (by kernel_rfl) ?_
        rcases ofCond H with ⟨c16, H⟩ | ⟨c16, H⟩
        · refine ite_t c16 (by kernel_rfl) ?_
          refine seq_ops [] [] [(4, cB false)] [] (fun t => t) (by kernel_rfl) ?_
          refine ends_ret ?_
          obtain rfl := Option.some.inj H
          exact And.intro (.inl rfl) rfl
        · refine ite_f c16 (by kernel_rfl) ?_
          refine ends_skip ?_
          change EndsI _ _ _ _ _ _
          refine seq_in ?_
          refine seq_ops [] [] [(2, .c (.pk 2 0)), (3, .c (.pk 3 0)), (31, cB (p0.Road != p1.Road))] [(2, .var (eTRules p0) false), (3, .var (eTRules p1) false)] (fun t => t) (by kernel_rfl) ?_
          rcases ofCond H with ⟨c18, H⟩ | ⟨c18, H⟩
          · refine ite_t c18 (by kernel_rfl) ?_
            refine seq_ops [] [] [(4, cB false)] [] (fun t => t) (by kernel_rfl) ?_
            refine ends_ret ?_
            obtain rfl := Option.some.inj H
            exact And.intro (.inl rfl) rfl
          · refine ite_f c18 (by kernel_rfl) ?_
            refine ends_skip ?_
            change EndsI _ _ _ _ _ _
            refine seq_in ?_
            refine seq_ops [] [] [(2, .c (.pk 2 0)), (3, .c (.pk 3 0)), (36, cB (p0.Supply != p1.Supply))] [(2, .var (eTRules p0) false), (3, .var (eTRules p1) false)] (fun t => t) (by kernel_rfl) ?_
            rcases ofCond H with ⟨c20, H⟩ | ⟨c20, H⟩
            · refine ite_t c20 (by kernel_rfl) ?_
              refine seq_ops [] [] [(4, cB false)] [] (fun t => t) (by kernel_rfl) ?_
              refine ends_ret ?_
              obtain rfl := Option.some.inj H
              exact And.intro (.inl rfl) rfl
            · refine ite_f c20 (by kernel_rfl) ?_
              refine ends_skip ?_
              change EndsI _ _ _ _ _ _
              refine seq_in ?_
              refine seq_ops [] [] [(41, cB (p0.Turns != p1.Turns))] [] (fun t => t) (by kernel_rfl) ?_
              rcases ofCond H with ⟨c21, H⟩ | ⟨c21, H⟩
              · refine ite_t c21 (by kernel_rfl) ?_
                refine seq_ops [] [] [(4, cB false)] [] (fun t => t) (by kernel_rfl) ?_
                refine ends_ret ?_
                obtain rfl := Option.some.inj H
                exact And.intro (.inl rfl) rfl
              · refine ite_f c21 (by kernel_rfl) ?_
                refine ends_skip ?_
                change EndsI _ _ _ _ _ _
                refine seq_ops [] [] [(4, cB true)] [] (fun t => t) (by kernel_rfl) ?_
                refine ends_ret ?_
                obtain rfl := Option.some.inj H
                exact And.intro (.inl rfl) rfl

def l_eqMap_ir : S :=
 (.seq (.ops [⟨some 2, .box 5 (.t 0), none⟩, ⟨some 3, .box 5 (.t 1), none⟩, ⟨some 4, .mv (.v (.bool false)), none⟩])
 (.seq (.seq (.ops [⟨some 5, .fad 0 (.t 2), none⟩, ⟨some 6, .load 1 false (.t 5), none⟩, ⟨some 7, .fad 0 (.t 3), none⟩, ⟨some 8, .load 1 false (.t 7), none⟩, ⟨some 9, .bin .neq (.t 6) (.t 8), none⟩])
 (.ite (.t 9) (.seq (.ops [⟨some 4, .mv (.v (.bool false)), none⟩])
  .ret)
 .skip))
 (.seq (.seq (.ops [⟨some 10, .fad 1 (.t 2), none⟩, ⟨some 11, .load 1 false (.t 10), none⟩, ⟨some 12, .fad 1 (.t 3), none⟩, ⟨some 13, .load 1 false (.t 12), none⟩, ⟨some 14, .bin .neq (.t 11) (.t 13), none⟩])
 (.ite (.t 14) (.seq (.ops [⟨some 4, .mv (.v (.bool false)), none⟩])
  .ret)
 .skip))
 (.seq (.seq (.ops [⟨some 15, .fad 2 (.t 2), none⟩, ⟨some 16, .load 1 false (.t 15), none⟩, ⟨some 17, .fad 2 (.t 3), none⟩, ⟨some 18, .load 1 false (.t 17), none⟩, ⟨some 19, .call 50 [.t 16, .t 18], none⟩, ⟨some 20, .not (.t 19), none⟩])
 (.ite (.t 20) (.seq (.ops [⟨some 4, .mv (.v (.bool false)), none⟩])
  .ret)
 .skip))
 (.seq (.seq (.ops [⟨some 21, .fad 3 (.t 2), none⟩, ⟨some 22, .load 1 false (.t 21), none⟩, ⟨some 23, .fad 3 (.t 3), none⟩, ⟨some 24, .load 1 false (.t 23), none⟩, ⟨some 25, .call 50 [.t 22, .t 24], none⟩, ⟨some 26, .not (.t 25), none⟩])
 (.ite (.t 26) (.seq (.ops [⟨some 4, .mv (.v (.bool false)), none⟩])
  .ret)
 .skip))
 (.seq (.seq (.ops [⟨some 27, .fad 4 (.t 2), none⟩, ⟨some 28, .load 1 false (.t 27), none⟩, ⟨some 29, .fad 4 (.t 3), none⟩, ⟨some 30, .load 1 false (.t 29), none⟩, ⟨some 31, .call 50 [.t 28, .t 30], none⟩, ⟨some 32, .not (.t 31), none⟩])
 (.ite (.t 32) (.seq (.ops [⟨some 4, .mv (.v (.bool false)), none⟩])
  .ret)
 .skip))
 (.seq (.ops [⟨some 4, .mv (.v (.bool true)), none⟩])
 .ret)))))))
noncomputable def X.l_eqMap (p0 : TMap) (p1 : TMap) : Option Bool :=
  (bif (p0.Width != p1.Width) then some false else (bif (p0.Height != p1.Height) then some false else ((X.l_eqIntS p0.Terrain p1.Terrain).bind fun v8 => (bif (!v8) then some false else ((X.l_eqIntS p0.Rivers p1.Rivers).bind fun v14 => (bif (!v14) then some false else ((X.l_eqIntS p0.Roads p1.Roads).bind fun v17 => (bif (!v17) then some false else some true))))))))
theorem l_eqMap_ok (p0 : TMap) (p1 : TMap) (r : Bool) (H : X.l_eqMap p0 p1 = some r) : FnOk Tryz.prog gl 74 [.agg (eTMap p0), .agg (eTMap p1)] (cB r) := by
  unfold X.l_eqMap at H
  refine fn_in (fn := Tryz.f74) (ir := l_eqMap_ir) (s1 := lit [(4, cB r)] []) Tryz.func74 (by kernel_rfl) (by kernel_rfl) (by kernel_rfl) (by kernel_rfl) (by kernel_rfl) ?_
  refine seq_ops [] [] [(2, .c (.pk 2 0)), (3, .c (.pk 3 0))] [(2, .var (eTMap p0) false), (3, .var (eTMap p1) false)] (fun t => t) (by kernel_rfl) ?_
  refine seq_in ?_
  refine seq_ops [] [] [(2, .c (.pk 2 0)), (3, .c (.pk 3 0)), (9, cB (p0.Width != p1.Width))] [(2, .var (eTMap p0) false), (3, .var (eTMap p1) false)] (fun t => t) (by kernel_rfl) ?_
  rcases ofCond H with ⟨c2, H⟩ | ⟨c2, H⟩
  · refine ite_t c2 (by kernel_rfl) ?_
    refine seq_ops [] [] [(4, cB false)] [] (fun t => t) (by kernel_rfl) ?_
    refine ends_ret ?_
    obtain rfl := Option.some.inj H
    exact And.intro (.inl rfl) rfl
  · refine ite_f c2 (by kernel_rfl) ?_
    refine ends_skip ?_
    change EndsI _ _ _ _ _ _
    refine seq_in ?_
    refine seq_ops [] [] [(2, .c (.pk 2 0)), (3, .c (.pk 3 0)), (14, cB (p0.Height != p1.Height))] [(2, .var (eTMap p0) false), (3, .var (eTMap p1) false)] (fun t => t) (by kernel_rfl) ?_
    rcases ofCond H with ⟨c4, H⟩ | ⟨c4, H⟩
    · refine ite_t c4 (by kernel_rfl) ?_
      refine seq_ops [] [] [(4, cB false)] [] (fun t => t) (by kernel_rfl) ?_
      refine ends_ret ?_
      obtain rfl := Option.some.inj H
      exact And.intro (.inl rfl) rfl
    · refine ite_f c4 (by kernel_rfl) ?_
      refine ends_skip ?_
      change EndsI _ _ _ _ _ _
      refine seq_in ?_
      obtain ⟨v8, h9, H⟩ := ofBind H
      refine seq_ops [.res (cB v8)] [] [(2, .c (.pk 2 0)), (3, .c (.pk 3 0)), (20, cB (!v8))] [(2, .var (eTMap p0) false), (3, .var (eTMap p1) false)] (fun t => aI (l_eqIntS_ok p0.Terrain p1.Terrain v8 h9) (t)) (by kernel_rfl) ?_
      rcases ofCond H with ⟨c10, H⟩ | ⟨c10, H⟩
      · refine ite_t c10 (by kernel_rfl) ?_
        refine seq_ops [] [] [(4, cB false)] [] (fun t => t) (by kernel_rfl) ?_
        refine ends_ret ?_
        obtain rfl := Option.some.inj H
        exact And.intro (.inl rfl) rfl
      · refine ite_f c10 (by kernel_rfl) ?_
        refine ends_skip ?_
        change EndsI _ _ _ _ _ _
        refine seq_in ?_
        obtain ⟨v14, h15, H⟩ := ofBind H
        refine seq_ops [.res (cB v14)] [] [(2, .c (.pk 2 0)), (3, .c (.pk 3 0)), (26, cB (!v14))] [(2, .var (eTMap p0) false), (3, .var (eTMap p1) false)] (fun t => aI (l_eqIntS_ok p0.Rivers p1.Rivers v14 h15) (t)) (by kernel_rfl) ?_
        rcases ofCond H with ⟨c16, H⟩ | ⟨c16, H⟩
        · refine ite_t c16 (by kernel_rfl) ?_
          refine seq_ops [] [] [(4, cB false)] [] (fun t => t) (by kernel_rfl) ?_
          refine ends_ret ?_
          obtain rfl := Option.some.inj H
          exact And.intro (.inl rfl) rfl
        · refine ite_f c16 (by kernel_rfl) ?_
          refine ends_skip ?_
          change EndsI _ _ _ _ _ _
          refine seq_in ?_
          obtain ⟨v17, h18, H⟩ := ofBind H
          refine seq_ops [.res (cB v17)] [] [(32, cB (!v17))] [] (fun t => aI (l_eqIntS_ok p0.Roads p1.Roads v17 h18) (t)) (by kernel_rfl) ?_
          rcases ofCond H with ⟨c19, H⟩ | ⟨c19, H⟩
          · refine ite_t c19 (by kernel_rfl) ?_
            refine seq_ops [] [] [(4, cB false)] [] (fun t => t) (by kernel_rfl) ?_
            refine ends_ret ?_
            obtain rfl := Option.some.inj H
            exact And.intro (.inl rfl) rfl
          · refine ite_f c19 (by kernel_rfl) ?_
            refine ends_skip ?_
            change EndsI _ _ _ _ _ _
            refine seq_ops [] [] [(4, cB true)] [] (fun t => t) (by kernel_rfl) ?_
            refine ends_ret ?_
            obtain rfl := Option.some.inj H
            exact And.intro (.inl rfl) rfl

def l_eqBoard_ir : S :=
 (.seq (.ops [⟨some 2, .box 12 (.t 0), none⟩, ⟨some 3, .box 12 (.t 1), none⟩, ⟨some 4, .mv (.v (.bool false)), none⟩])
 (.seq (.seq (.ops [⟨some 5, .fad 0 (.t 2), none⟩, ⟨some 6, .load 7 true (.t 5), none⟩, ⟨some 7, .fad 0 (.t 3), none⟩, ⟨some 8, .load 7 true (.t 7), none⟩, ⟨some 9, .call 73 [.t 6, .t 8], none⟩, ⟨some 10, .not (.t 9), none⟩])
 (.ite (.t 10) (.seq (.ops [⟨some 4, .mv (.v (.bool false)), none⟩])
  .ret)
 .skip))
 (.seq (.seq (.ops [⟨some 11, .fad 7 (.t 2), none⟩, ⟨some 12, .load 5 true (.t 11), none⟩, ⟨some 13, .fad 7 (.t 3), none⟩, ⟨some 14, .load 5 true (.t 13), none⟩, ⟨some 15, .call 74 [.t 12, .t 14], none⟩, ⟨some 16, .not (.t 15), none⟩])
 (.ite (.t 16) (.seq (.ops [⟨some 4, .mv (.v (.bool false)), none⟩])
  .ret)
 .skip))
 (.seq (.ops [⟨some 4, .mv (.v (.bool true)), none⟩])
 .ret))))
noncomputable def X.l_eqBoard (p0 : TBoard) (p1 : TBoard) : Option Bool :=
  ((X.l_eqRules p0.Rules p1.Rules).bind fun v4 => (bif (!v4) then some false else ((X.l_eqMap p0.Map p1.Map).bind fun v7 => (bif (!v7) then some false else some true))))
theorem l_eqBoard_ok (p0 : TBoard) (p1 : TBoard) (r : Bool) (H : X.l_eqBoard p0 p1 = some r) : FnOk Tryz.prog gl 21 [.agg (eTBoard p0), .agg (eTBoard p1)] (cB r) := by
  unfold X.l_eqBoard at H
  refine fn_in (fn := Tryz.f21) (ir := l_eqBoard_ir) (s1 := lit [(4, cB r)] []) Tryz.func21 (by kernel_rfl) (by kernel_rfl) (by kernel_rfl) (by kernel_rfl) (by kernel_rfl) ?_
  refine seq_ops [] [] [(2, .c (.pk 2 0)), (3, .c (.pk 3 0))] [(2, .var (eTBoard p0) false), (3, .var (eTBoard p1) false)] (fun t => t) (by kernel_rfl) ?_
  refine seq_in ?_
  obtain ⟨v4, h5, H⟩ := ofBind H
  refine seq_ops [.res (cB v4)] [] [(2, .c (.pk 2 0)), (3, .c (.pk 3 0)), (10, cB (!v4))] [(2, .var (eTBoard p0) false), (3, .var (eTBoard p1) false)] (fun t => aI (l_eqRules_ok p0.Rules p1.Rules v4 h5) (t)) (by kernel_rfl) ?_
  rcases ofCond H with ⟨c6, H⟩ | ⟨c6, H⟩
  · refine ite_t c6 (by kernel_rfl) ?_
    refine seq_ops [] [] [(4, cB false)] [] (fun t => t) (by kernel_rfl) ?_
    refine ends_ret ?_
    obtain rfl := Option.some.inj H
    exact And.intro (.inl rfl) rfl
  · refine ite_f c6 (by kernel_rfl) ?_
    refine ends_skip ?_
    change EndsI _ _ _ _ _ _
    refine seq_in ?_
    obtain ⟨v7, h8, H⟩ := ofBind H
    refine seq_ops [.res (cB v7)] [] [(16, cB (!v7))] [] (fun t => aI (l_eqMap_ok p0.Map p1.Map v7 h8) (t)) (by kernel_rfl) ?_
    rcases ofCond H with ⟨c9, H⟩ | ⟨c9, H⟩
    · refine ite_t c9 (by kernel_rfl) ?_
      refine seq_ops [] [] [(4, cB false)] [] (fun t => t) (by kernel_rfl) ?_
      refine ends_ret ?_
      obtain rfl := Option.some.inj H
      exact And.intro (.inl rfl) rfl
    · refine ite_f c9 (by kernel_rfl) ?_
      refine ends_skip ?_
      change EndsI _ _ _ _ _ _
      refine seq_ops [] [] [(4, cB true)] [] (fun t => t) (by kernel_rfl) ?_
      refine ends_ret ?_
      obtain rfl := Option.some.inj H
      exact And.intro (.inl rfl) rfl

def l_eqUnit_ir : S :=
 (.seq (.ops [⟨some 2, .box 4 (.t 0), none⟩, ⟨some 3, .box 4 (.t 1), none⟩, ⟨some 4, .mv (.v (.bool false)), none⟩])
 (.seq (.seq (.ops [⟨some 5, .fad 0 (.t 2), none⟩, ⟨some 6, .load 1 false (.t 5), none⟩, ⟨some 7, .fad 0 (.t 3), none⟩, ⟨some 8, .load 1 false (.t 7), none⟩, ⟨some 9, .bin .neq (.t 6) (.t 8), none⟩])
 (.ite (.t 9) (.seq (.ops [⟨some 4, .mv (.v (.bool false)), none⟩])
  .ret)
 .skip))
 (.seq (.seq (.ops [⟨some 10, .fad 1 (.t 2), none⟩, ⟨some 11, .load 1 false (.t 10), none⟩, ⟨some 12, .fad 1 (.t 3), none⟩, ⟨some 13, .load 1 false (.t 12), none⟩, ⟨some 14, .bin .neq (.t 11) (.t 13), none⟩])
 (.ite (.t 14) (.seq (.ops [⟨some 4, .mv (.v (.bool false)), none⟩])
  .ret)
 .skip))
 (.seq (.seq (.ops [⟨some 15, .fad 2 (.t 2), none⟩, ⟨some 16, .load 1 false (.t 15), none⟩, ⟨some 17, .fad 2 (.t 3), none⟩, ⟨some 18, .load 1 false (.t 17), none⟩, ⟨some 19, .bin .neq (.t 16) (.t 18), none⟩])
 (.ite (.t 19) (.seq (.ops [⟨some 4, .mv (.v (.bool false)), none⟩])
  .ret)
 .skip))
 (.seq (.seq (.ops [⟨some 20, .fad 3 (.t 2), none⟩, ⟨some 21, .load 1 false (.t 20), none⟩, ⟨some 22, .fad 3 (.t 3), none⟩, ⟨some 23, .load 1 false (.t 22), none⟩, ⟨some 24, .bin .neq (.t 21) (.t 23), none⟩])
 (.ite (.t 24) (.seq (.ops [⟨some 4, .mv (.v (.bool false)), none⟩])
  .ret)
 .skip))
 (.seq (.ops [⟨some 4, .mv (.v (.bool true)), none⟩])
 .ret))))))
noncomputable def X.l_eqUnit (p0 : TUnit) (p1 : TUnit) : Option Bool :=
  (bif (p0.Side != p1.Side) then some false else (bif (p0.Kind != p1.Kind) then some false else (bif (p0.At != p1.At) then some false else (bif (p0.Steps != p1.Steps) then some false else some true))))
theorem l_eqUnit_ok (p0 : TUnit) (p1 : TUnit) (r : Bool) (H : X.l_eqUnit p0 p1 = some r) : FnOk Tryz.prog gl 146 [.agg (eTUnit p0), .agg (eTUnit p1)] (cB r) := by
  unfold X.l_eqUnit at H
  refine fn_in (fn := Tryz.f146) (ir := l_eqUnit_ir) (s1 := lit [(4, cB r)] []) Tryz.func146 (by kernel_rfl) (by kernel_rfl) (by kernel_rfl) (by kernel_rfl) (by kernel_rfl) ?_
  refine seq_ops [] [] [(2, .c (.pk 2 0)), (3, .c (.pk 3 0))] [(2, .var (eTUnit p0) false), (3, .var (eTUnit p1) false)] (fun t => t) (by kernel_rfl) ?_
  refine seq_in ?_
  refine seq_ops [] [] [(2, .c (.pk 2 0)), (3, .c (.pk 3 0)), (9, cB (p0.Side != p1.Side))] [(2, .var (eTUnit p0) false), (3, .var (eTUnit p1) false)] (fun t => t) (by kernel_rfl) ?_
  rcases ofCond H with ⟨c2, H⟩ | ⟨c2, H⟩
  · refine ite_t c2 (by kernel_rfl) ?_
    refine seq_ops [] [] [(4, cB false)] [] (fun t => t) (by kernel_rfl) ?_
    refine ends_ret ?_
    obtain rfl := Option.some.inj H
    exact And.intro (.inl rfl) rfl
  · refine ite_f c2 (by kernel_rfl) ?_
    refine ends_skip ?_
    change EndsI _ _ _ _ _ _
    refine seq_in ?_
    refine seq_ops [] [] [(2, .c (.pk 2 0)), (3, .c (.pk 3 0)), (14, cB (p0.Kind != p1.Kind))] [(2, .var (eTUnit p0) false), (3, .var (eTUnit p1) false)] (fun t => t) (by kernel_rfl) ?_
    rcases ofCond H with ⟨c4, H⟩ | ⟨c4, H⟩
    · refine ite_t c4 (by kernel_rfl) ?_
      refine seq_ops [] [] [(4, cB false)] [] (fun t => t) (by kernel_rfl) ?_
      refine ends_ret ?_
      obtain rfl := Option.some.inj H
      exact And.intro (.inl rfl) rfl
    · refine ite_f c4 (by kernel_rfl) ?_
      refine ends_skip ?_
      change EndsI _ _ _ _ _ _
      refine seq_in ?_
      refine seq_ops [] [] [(2, .c (.pk 2 0)), (3, .c (.pk 3 0)), (19, cB (p0.At != p1.At))] [(2, .var (eTUnit p0) false), (3, .var (eTUnit p1) false)] (fun t => t) (by kernel_rfl) ?_
      rcases ofCond H with ⟨c6, H⟩ | ⟨c6, H⟩
      · refine ite_t c6 (by kernel_rfl) ?_
        refine seq_ops [] [] [(4, cB false)] [] (fun t => t) (by kernel_rfl) ?_
        refine ends_ret ?_
        obtain rfl := Option.some.inj H
        exact And.intro (.inl rfl) rfl
      · refine ite_f c6 (by kernel_rfl) ?_
        refine ends_skip ?_
        change EndsI _ _ _ _ _ _
        refine seq_in ?_
        refine seq_ops [] [] [(24, cB (p0.Steps != p1.Steps))] [] (fun t => t) (by kernel_rfl) ?_
        rcases ofCond H with ⟨c7, H⟩ | ⟨c7, H⟩
        · refine ite_t c7 (by kernel_rfl) ?_
          refine seq_ops [] [] [(4, cB false)] [] (fun t => t) (by kernel_rfl) ?_
          refine ends_ret ?_
          obtain rfl := Option.some.inj H
          exact And.intro (.inl rfl) rfl
        · refine ite_f c7 (by kernel_rfl) ?_
          refine ends_skip ?_
          change EndsI _ _ _ _ _ _
          refine seq_ops [] [] [(4, cB true)] [] (fun t => t) (by kernel_rfl) ?_
          refine ends_ret ?_
          obtain rfl := Option.some.inj H
          exact And.intro (.inl rfl) rfl

def l_eqUnitS_ir : S :=
 (.seq (.ops [⟨some 4, .mv (.v (.bool false)), none⟩])
 (.seq (.seq (.ops [⟨some 6, .mv (.t 0), none⟩, ⟨some 7, .len (.t 6), none⟩, ⟨some 8, .mv (.t 1), none⟩, ⟨some 9, .len (.t 8), none⟩, ⟨some 10, .bin .neq (.t 7) (.t 9), none⟩])
 (.ite (.t 10) (.seq (.ops [⟨some 4, .mv (.v (.bool false)), none⟩])
  .ret)
 .skip))
 (.seq (.seq (.ops [⟨some 5, .mv (.v (.int .i64 0)), none⟩])
 (.blk 0 (.loop (.seq (.seq (.ops [⟨some 11, .mv (.t 5), none⟩, ⟨some 12, .mv (.t 0), none⟩, ⟨some 13, .len (.t 12), none⟩, ⟨some 14, .bin .lss (.t 11) (.t 13), none⟩])
   (.ite (.t 14) .skip
   (.exit 0)))
   (.seq (.blk 1 (.seq (.draw 10 [⟨some 17, .mv (.t 0), none⟩, ⟨some 18, .mv (.t 5), none⟩, ⟨some 19, .iad 4 (.t 17) (.t 18), none⟩, ⟨some 20, .load 4 true (.t 19), none⟩, ⟨some 21, .mv (.t 1), none⟩, ⟨some 22, .mv (.t 5), none⟩, ⟨some 23, .iad 4 (.t 21) (.t 22), none⟩, ⟨some 24, .load 4 true (.t 23), none⟩, ⟨some 25, .call 146 [.t 20, .t 24], none⟩, ⟨some 26, .not (.t 25), none⟩])
    (.ite (.t 26) (.seq (.ops [⟨some 4, .mv (.v (.bool false)), none⟩])
     .ret)
    .skip)))
   (.ops [⟨some 15, .mv (.t 5), none⟩, ⟨some 16, .bin .add (.t 15) (.v (.int .i64 1)), none⟩, ⟨some 5, .mv (.t 16), none⟩]))))))
 (.seq (.ops [⟨some 4, .mv (.v (.bool true)), none⟩])
 .ret))))
noncomputable def X.l_eqUnitS (p0 : (List TUnit)) (p1 : (List TUnit)) : Option Bool :=
  (bif ((p0.length : Int) != (p1.length : Int)) then some false else ((loop (fun (x22 : Int) => ((bif (decide (x22 < (p0.length : Int))) then ((at' zTUnit p0 x22).bind fun v25 => ((at' zTUnit p1 x22).bind fun v27 => ((X.l_eqUnit v25 v27).bind fun v29 => (bif (!v29) then some (Sum.inr (Sum.inr false)) else some (Sum.inl (W (x22 + 1))))))) else some (Sum.inr (Sum.inl ()))) : Option (Int ⊕ (Unit ⊕ Bool)))) 0).bind fun y32 => (Sum.elim (fun (y34 : Unit) => some true) (fun (y35 : Bool) => some y35) y32)))
theorem l_eqUnitS_ok (p0 : (List TUnit)) (p1 : (List TUnit)) (r : Bool) (H : X.l_eqUnitS p0 p1 = some r) : FnOk Tryz.prog gl 75 [.c (dat 4 eTUnit zTUnit p0), .c (dat 4 eTUnit zTUnit p1)] (cB r) := by
  unfold X.l_eqUnitS at H
  refine fn_in (fn := Tryz.f75) (ir := l_eqUnitS_ir) (s1 := lit [(4, cB r)] []) Tryz.func75 (by kernel_rfl) (by kernel_rfl) (by kernel_rfl) (by kernel_rfl) (by kernel_rfl) ?_
  refine seq_ops [] [] [(0, .c (dat 4 eTUnit zTUnit p0)), (1, .c (dat 4 eTUnit zTUnit p1))] [] (fun t => t) (by kernel_rfl) ?_
  refine seq_in ?_
  refine seq_ops [] [] [(0, .c (dat 4 eTUnit zTUnit p0)), (1, .c (dat 4 eTUnit zTUnit p1)), (10, cB ((p0.length : Int) != (p1.length : Int)))] [] (fun t => lI p0 (lI p1 (t))) (by kernel_rfl) ?_
  rcases ofCond H with ⟨c2, H⟩ | ⟨c2, H⟩
  · refine ite_t c2 (by kernel_rfl) ?_
    refine seq_ops [] [] [(4, cB false)] [] (fun t => t) (by kernel_rfl) ?_
    refine ends_ret ?_
    obtain rfl := Option.some.inj H
    exact And.intro (.inl rfl) rfl
  · refine ite_f c2 (by kernel_rfl) ?_
    refine ends_skip ?_
    change EndsI _ _ _ _ _ _
    refine seq_in ?_
    refine seq_ops [] [] [(0, .c (dat 4 eTUnit zTUnit p0)), (1, .c (dat 4 eTUnit zTUnit p1)), (5, cI 0)] [] (fun t => t) (by kernel_rfl) ?_
    refine ends_blk ?_
    obtain ⟨y32, h33, H⟩ := ofBind H
    refine loop_in (fun (x : Int) => lit [(0, .c (dat 4 eTUnit zTUnit p0)), (1, .c (dat 4 eTUnit zTUnit p1)), (5, cI x)] []) (orJ (fun (z : Unit) => At (.exit 0) (lit [] [])) (fun (z : Bool) => At .ret (lit [(4, cB z)] []))) h33 ?_ ?_
    · clear H h33
      intro x22 y0 H
      refine seq_in ?_
      refine seq_ops [] [] [(0, .c (dat 4 eTUnit zTUnit p0)), (1, .c (dat 4 eTUnit zTUnit p1)), (5, cI x22), (14, cB (decide (x22 < (p0.length : Int))))] [] (fun t => lI p0 (t)) (by kernel_rfl) ?_
      rcases ofCond H with ⟨c24, H⟩ | ⟨c24, H⟩
      · refine ite_t c24 (by kernel_rfl) ?_
        refine ends_skip ?_
        change EndsI _ _ _ _ _ _
        refine seq_in ?_
        refine ends_blk ?_
        obtain ⟨v25, h26, H⟩ := ofBind H
        obtain ⟨v27, h28, H⟩ := ofBind H
        obtain ⟨v29, h30, H⟩ := ofBind H
        refine seq_draw [.cs (eTUnit v25), .cs (eTUnit v27), .res (cB v29)] [] [(0, .c (dat 4 eTUnit zTUnit p0)), (1, .c (dat 4 eTUnit zTUnit p1)), (5, cI x22), (26, cB (!v29))] [] (fun t => aI (at_lt h26) (aI (at_enc (enc := eTUnit) h26) (aI (rfl : ([] : List Nat) = []) (aI (at_lt h28) (aI (at_enc (enc := eTUnit) h28) (aI (rfl : ([] : List Nat) = []) (aI (l_eqUnit_ok v25 v27 v29 h30) (aI trivial (aI (rfl : ([] : List Nat) = []) (t)))))))))) (by kernel_rfl) ?_
        rcases ofCond H with ⟨c31, H⟩ | ⟨c31, H⟩
        · refine ite_t c31 (by kernel_rfl) ?_
          refine seq_ops [] [] [(4, cB false)] [] (fun t => t) (by kernel_rfl) ?_
          refine ends_ret ?_
          obtain rfl := Option.some.inj H
          exact And.intro (by simp) (And.intro rfl rfl)
        · refine ite_f c31 (by kernel_rfl) ?_
          refine ends_skip ?_
          change EndsI _ _ _ _ _ _
          refine one_ops [] [] [(0, .c (dat 4 eTUnit zTUnit p0)), (1, .c (dat 4 eTUnit zTUnit p1)), (5, cI (W (x22 + 1)))] [] (fun t => t) (by kernel_rfl) ?_
          obtain rfl := Option.some.inj H
          exact And.intro rfl rfl
      · refine ite_f c24 (by kernel_rfl) ?_
        refine tell [] [] [] (fun t => t) (by kernel_rfl) ?_
        refine ends_exit ?_
        obtain rfl := Option.some.inj H
        exact And.intro (by simp) (And.intro rfl rfl)
    · clear h33
      cases y32 with
      | inl y34 =>
        replace H := ofInl H
        intro e s q
        obtain ⟨rfl, rfl⟩ := q
        change EndsI _ _ _ _ _ _
        refine seq_ops [] [] [(4, cB true)] [] (fun t => t) (by kernel_rfl) ?_
        refine ends_ret ?_
        obtain rfl := Option.some.inj H
        exact And.intro (.inl rfl) rfl
      | inr y35 =>
        replace H := ofInr H
        intro e s q
        obtain ⟨rfl, rfl⟩ := q
        obtain rfl := Option.some.inj H
        exact And.intro (.inl rfl) rfl

def l_eqView_ir : S :=
 (.seq (.ops [⟨some 2, .box 6 (.t 0), none⟩, ⟨some 3, .box 6 (.t 1), none⟩, ⟨some 4, .mv (.v (.bool false)), none⟩])
 (.seq (.seq (.ops [⟨some 5, .fad 0 (.t 2), none⟩, ⟨some 6, .load 1 false (.t 5), none⟩, ⟨some 7, .fad 0 (.t 3), none⟩, ⟨some 8, .load 1 false (.t 7), none⟩, ⟨some 9, .bin .neq (.t 6) (.t 8), none⟩])
 (.ite (.t 9) (.seq (.ops [⟨some 4, .mv (.v (.bool false)), none⟩])
  .ret)
 .skip))
 (.seq (.seq (.ops [⟨some 10, .fad 1 (.t 2), none⟩, ⟨some 11, .load 1 false (.t 10), none⟩, ⟨some 12, .fad 1 (.t 3), none⟩, ⟨some 13, .load 1 false (.t 12), none⟩, ⟨some 14, .bin .neq (.t 11) (.t 13), none⟩])
 (.ite (.t 14) (.seq (.ops [⟨some 4, .mv (.v (.bool false)), none⟩])
  .ret)
 .skip))
 (.seq (.seq (.ops [⟨some 15, .fad 2 (.t 2), none⟩, ⟨some 16, .load 1 false (.t 15), none⟩, ⟨some 17, .fad 2 (.t 3), none⟩, ⟨some 18, .load 1 false (.t 17), none⟩, ⟨some 19, .bin .neq (.t 16) (.t 18), none⟩])
 (.ite (.t 19) (.seq (.ops [⟨some 4, .mv (.v (.bool false)), none⟩])
  .ret)
 .skip))
 (.seq (.seq (.ops [⟨some 20, .fad 3 (.t 2), none⟩, ⟨some 21, .load 1 false (.t 20), none⟩, ⟨some 22, .fad 3 (.t 3), none⟩, ⟨some 23, .load 1 false (.t 22), none⟩, ⟨some 24, .call 50 [.t 21, .t 23], none⟩, ⟨some 25, .not (.t 24), none⟩])
 (.ite (.t 25) (.seq (.ops [⟨some 4, .mv (.v (.bool false)), none⟩])
  .ret)
 .skip))
 (.seq (.seq (.ops [⟨some 26, .fad 4 (.t 2), none⟩, ⟨some 27, .load 1 false (.t 26), none⟩, ⟨some 28, .fad 4 (.t 3), none⟩, ⟨some 29, .load 1 false (.t 28), none⟩, ⟨some 30, .call 75 [.t 27, .t 29], none⟩, ⟨some 31, .not (.t 30), none⟩])
 (.ite (.t 31) (.seq (.ops [⟨some 4, .mv (.v (.bool false)), none⟩])
  .ret)
 .skip))
 (.seq (.seq (.ops [⟨some 32, .fad 5 (.t 2), none⟩, ⟨some 33, .load 1 false (.t 32), none⟩, ⟨some 34, .fad 5 (.t 3), none⟩, ⟨some 35, .load 1 false (.t 34), none⟩, ⟨some 36, .call 75 [.t 33, .t 35], none⟩, ⟨some 37, .not (.t 36), none⟩])
 (.ite (.t 37) (.seq (.ops [⟨some 4, .mv (.v (.bool false)), none⟩])
  .ret)
 .skip))
 (.seq (.ops [⟨some 4, .mv (.v (.bool true)), none⟩])
 .ret))))))))
noncomputable def X.l_eqView (p0 : TView) (p1 : TView) : Option Bool :=
  (bif (p0.Side != p1.Side) then some false else (bif (p0.Turn != p1.Turn) then some false else (bif (p0.Weather != p1.Weather) then some false else ((X.l_eqIntS p0.Seen p1.Seen).bind fun v10 => (bif (!v10) then some false else ((X.l_eqUnitS p0.Own p1.Own).bind fun v16 => (bif (!v16) then some false else ((X.l_eqUnitS p0.Enemies p1.Enemies).bind fun v19 => (bif (!v19) then some false else some true)))))))))
theorem l_eqView_ok (p0 : TView) (p1 : TView) (r : Bool) (H : X.l_eqView p0 p1 = some r) : FnOk Tryz.prog gl 22 [.agg (eTView p0), .agg (eTView p1)] (cB r) := by
  unfold X.l_eqView at H
  refine fn_in (fn := Tryz.f22) (ir := l_eqView_ir) (s1 := lit [(4, cB r)] []) Tryz.func22 (by kernel_rfl) (by kernel_rfl) (by kernel_rfl) (by kernel_rfl) (by kernel_rfl) ?_
  refine seq_ops [] [] [(2, .c (.pk 2 0)), (3, .c (.pk 3 0))] [(2, .var (eTView p0) false), (3, .var (eTView p1) false)] (fun t => t) (by kernel_rfl) ?_
  refine seq_in ?_
  refine seq_ops [] [] [(2, .c (.pk 2 0)), (3, .c (.pk 3 0)), (9, cB (p0.Side != p1.Side))] [(2, .var (eTView p0) false), (3, .var (eTView p1) false)] (fun t => t) (by kernel_rfl) ?_
  rcases ofCond H with ⟨c2, H⟩ | ⟨c2, H⟩
  · refine ite_t c2 (by kernel_rfl) ?_
    refine seq_ops [] [] [(4, cB false)] [] (fun t => t) (by kernel_rfl) ?_
    refine ends_ret ?_
    obtain rfl := Option.some.inj H
    exact And.intro (.inl rfl) rfl
  · refine ite_f c2 (by kernel_rfl) ?_
    refine ends_skip ?_
    change EndsI _ _ _ _ _ _
    refine seq_in ?_
    refine seq_ops [] [] [(2, .c (.pk 2 0)), (3, .c (.pk 3 0)), (14, cB (p0.Turn != p1.Turn))] [(2, .var (eTView p0) false), (3, .var (eTView p1) false)] (fun t => t) (by kernel_rfl) ?_
    rcases ofCond H with ⟨c4, H⟩ | ⟨c4, H⟩
    · refine ite_t c4 (by kernel_rfl) ?_
      refine seq_ops [] [] [(4, cB false)] [] (fun t => t) (by kernel_rfl) ?_
      refine ends_ret ?_
      obtain rfl := Option.some.inj H
      exact And.intro (.inl rfl) rfl
    · refine ite_f c4 (by kernel_rfl) ?_
      refine ends_skip ?_
      change EndsI _ _ _ _ _ _
      refine seq_in ?_
      refine seq_ops [] [] [(2, .c (.pk 2 0)), (3, .c (.pk 3 0)), (19, cB (p0.Weather != p1.Weather))] [(2, .var (eTView p0) false), (3, .var (eTView p1) false)] (fun t => t) (by kernel_rfl) ?_
      rcases ofCond H with ⟨c6, H⟩ | ⟨c6, H⟩
      · refine ite_t c6 (by kernel_rfl) ?_
        refine seq_ops [] [] [(4, cB false)] [] (fun t => t) (by kernel_rfl) ?_
        refine ends_ret ?_
        obtain rfl := Option.some.inj H
        exact And.intro (.inl rfl) rfl
      · refine ite_f c6 (by kernel_rfl) ?_
        refine ends_skip ?_
        change EndsI _ _ _ _ _ _
        refine seq_in ?_
        obtain ⟨v10, h11, H⟩ := ofBind H
        refine seq_ops [.res (cB v10)] [] [(2, .c (.pk 2 0)), (3, .c (.pk 3 0)), (25, cB (!v10))] [(2, .var (eTView p0) false), (3, .var (eTView p1) false)] (fun t => aI (l_eqIntS_ok p0.Seen p1.Seen v10 h11) (t)) (by kernel_rfl) ?_
        rcases ofCond H with ⟨c12, H⟩ | ⟨c12, H⟩
        · refine ite_t c12 (by kernel_rfl) ?_
          refine seq_ops [] [] [(4, cB false)] [] (fun t => t) (by kernel_rfl) ?_
          refine ends_ret ?_
          obtain rfl := Option.some.inj H
          exact And.intro (.inl rfl) rfl
        · refine ite_f c12 (by kernel_rfl) ?_
          refine ends_skip ?_
          change EndsI _ _ _ _ _ _
          refine seq_in ?_
          obtain ⟨v16, h17, H⟩ := ofBind H
          refine seq_ops [.res (cB v16)] [] [(2, .c (.pk 2 0)), (3, .c (.pk 3 0)), (31, cB (!v16))] [(2, .var (eTView p0) false), (3, .var (eTView p1) false)] (fun t => aI (l_eqUnitS_ok p0.Own p1.Own v16 h17) (t)) (by kernel_rfl) ?_
          rcases ofCond H with ⟨c18, H⟩ | ⟨c18, H⟩
          · refine ite_t c18 (by kernel_rfl) ?_
            refine seq_ops [] [] [(4, cB false)] [] (fun t => t) (by kernel_rfl) ?_
            refine ends_ret ?_
            obtain rfl := Option.some.inj H
            exact And.intro (.inl rfl) rfl
          · refine ite_f c18 (by kernel_rfl) ?_
            refine ends_skip ?_
            change EndsI _ _ _ _ _ _
            refine seq_in ?_
            obtain ⟨v19, h20, H⟩ := ofBind H
            refine seq_ops [.res (cB v19)] [] [(37, cB (!v19))] [] (fun t => aI (l_eqUnitS_ok p0.Enemies p1.Enemies v19 h20) (t)) (by kernel_rfl) ?_
            rcases ofCond H with ⟨c21, H⟩ | ⟨c21, H⟩
            · refine ite_t c21 (by kernel_rfl) ?_
              refine seq_ops [] [] [(4, cB false)] [] (fun t => t) (by kernel_rfl) ?_
              refine ends_ret ?_
              obtain rfl := Option.some.inj H
              exact And.intro (.inl rfl) rfl
            · refine ite_f c21 (by kernel_rfl) ?_
              refine ends_skip ?_
              change EndsI _ _ _ _ _ _
              refine seq_ops [] [] [(4, cB true)] [] (fun t => t) (by kernel_rfl) ?_
              refine ends_ret ?_
              obtain rfl := Option.some.inj H
              exact And.intro (.inl rfl) rfl

def l_FnExactCountHidings_ir : S :=
 (.seq (.ops [⟨some 4, .box 12 (.t 0), none⟩, ⟨some 5, .box 6 (.t 1), none⟩, ⟨some 8, .mv (.v (.bool false)), none⟩])
 (.seq (.ops [⟨some 9, .mv (.v (.int .i64 1048576)), none⟩])
 (.seq (.ops [⟨some 16, .load 12 true (.t 4), none⟩, ⟨some 17, .mv (.t 9), none⟩, ⟨some 18, .call 15 [.t 16, .t 17], none⟩, ⟨some 9, .mv (.t 18), none⟩])
 (.seq (.seq (.ops [⟨some 19, .mv (.t 9), none⟩, ⟨some 20, .bin .lss (.t 19) (.v (.int .i64 0)), none⟩])
 (.ite (.t 20) (.seq (.ops [⟨some 8, .mv (.v (.bool true)), none⟩])
  .ret)
 .skip))
 (.seq (.ops [⟨some 21, .load 6 true (.t 5), none⟩, ⟨some 22, .mv (.t 9), none⟩, ⟨some 23, .call 16 [.t 21, .t 22], none⟩, ⟨some 9, .mv (.t 23), none⟩])
 (.seq (.seq (.ops [⟨some 24, .mv (.t 9), none⟩, ⟨some 25, .bin .lss (.t 24) (.v (.int .i64 0)), none⟩])
 (.ite (.t 25) (.seq (.ops [⟨some 8, .mv (.v (.bool true)), none⟩])
  .ret)
 .skip))
 (.seq (.draw 12 [⟨some 27, .load 12 true (.t 4), none⟩, ⟨some 28, .call 18 [.t 27], none⟩, ⟨some 29, .load 6 true (.t 5), none⟩, ⟨some 30, .call 19 [.t 29], none⟩, ⟨some 31, .mv (.t 2), none⟩, ⟨some 32, .mv (.t 3), none⟩, ⟨some 33, .call 17 [.t 28, .t 30, .t 31, .t 32], none⟩, ⟨some 26, .mv (.t 33), none⟩, ⟨some 34, .ext (.t 26) 0, none⟩, ⟨some 35, .ext (.t 26) 1, none⟩, ⟨some 10, .mv (.t 34), none⟩, ⟨some 11, .mv (.t 35), none⟩])
 (.seq (.ops [⟨some 36, .load 12 true (.t 4), none⟩, ⟨some 37, .call 18 [.t 36], none⟩, ⟨some 12, .alloc [.nil, .nil, .int .i64 0, .int .i64 0, .int .i64 0, .int .i64 0, .int .i64 0, .int .i64 0, .int .i64 0, .nil, .nil, .nil], none⟩, ⟨none, .store 12 (.t 12) (.t 37), none⟩])
 (.seq (.ops [⟨some 38, .load 6 true (.t 5), none⟩, ⟨some 39, .call 19 [.t 38], none⟩, ⟨some 13, .alloc [.int .i64 0, .int .i64 0, .int .i64 0, .nil, .nil, .nil], none⟩, ⟨none, .store 6 (.t 13) (.t 39), none⟩])
 (.seq (.ops [⟨some 41, .load 12 true (.t 12), none⟩, ⟨some 42, .load 6 true (.t 13), none⟩, ⟨some 43, .mv (.t 2), none⟩, ⟨some 44, .mv (.t 3), none⟩, ⟨some 45, .call 20 [.t 41, .t 42, .t 43, .t 44], none⟩, ⟨some 40, .mv (.t 45), none⟩, ⟨some 46, .ext (.t 40) 0, none⟩, ⟨some 47, .ext (.t 40) 1, none⟩, ⟨some 14, .mv (.t 46), none⟩, ⟨some 15, .mv (.t 47), none⟩])
 (.seq (.seq (.ops [⟨some 48, .mv (.t 14), none⟩, ⟨some 49, .mv (.t 10), none⟩, ⟨some 50, .bin .neq (.t 48) (.t 49), none⟩, ⟨some 51, .mv (.t 50), none⟩, ⟨some 52, .mv (.t 15), some (51, false)⟩, ⟨some 53, .mv (.t 11), some (51, false)⟩, ⟨some 54, .bqe true (.t 52) (.t 53), some (51, false)⟩, ⟨some 55, .pick (.t 51) (.v (.bool true)) (.t 54), none⟩])
 (.ite (.t 55) (.seq (.ops [⟨some 8, .mv (.v (.bool false)), none⟩])
  .ret)
 .skip))
 (.seq (.seq (.draw 5 [⟨some 56, .load 12 true (.t 12), none⟩, ⟨some 57, .load 12 true (.t 4), none⟩, ⟨some 58, .call 18 [.t 57], none⟩, ⟨some 59, .call 21 [.t 56, .t 58], none⟩, ⟨some 60, .not (.t 59), none⟩])
 (.ite (.t 60) (.seq (.ops [⟨some 8, .mv (.v (.bool false)), none⟩])
  .ret)
 .skip))
 (.seq (.seq (.draw 5 [⟨some 61, .load 6 true (.t 13), none⟩, ⟨some 62, .load 6 true (.t 5), none⟩, ⟨some 63, .call 19 [.t 62], none⟩, ⟨some 64, .call 22 [.t 61, .t 63], none⟩, ⟨some 65, .not (.t 64), none⟩])
 (.ite (.t 65) (.seq (.ops [⟨some 8, .mv (.v (.bool false)), none⟩])
  .ret)
 .skip))
 (.seq (.ops [⟨some 8, .mv (.v (.bool true)), none⟩])
 .ret))))))))))))))
noncomputable def X.l_FnExactCountHidings (p0 : TBoard) (p1 : TView) (p2 : Int) (p3 : Int) : Option Bool :=
  ((X.l_szBoard p0 1048576).bind fun v1 => (bif (decide (v1 < 0)) then some true else ((X.l_szView p1 v1).bind fun v5 => (bif (decide (v5 < 0)) then some true else ((X.l_toBoard p0).bind fun v9 => ((X.l_toView p1).bind fun v11 => ((X.s_CountHidings v9 v11 p2 p3).bind fun v13 => ((X.l_toBoard p0).bind fun v15 => ((X.l_toView p1).bind fun v17 => ((X.i_CountHidings v15 v17 p2 p3).bind fun v19 => (bif (v19.1 != v13.1) then some false else (bif (!(v19.2 == v13.2)) then some false else ((X.l_toBoard p0).bind fun v30 => ((X.l_eqBoard v15 v30).bind fun v32 => (bif (!v32) then some false else ((X.l_toView p1).bind fun v35 => ((X.l_eqView v17 v35).bind fun v37 => (bif (!v37) then some false else some true))))))))))))))))))
theorem l_FnExactCountHidings_ok (p0 : TBoard) (p1 : TView) (p2 : Int) (p3 : Int) (r : Bool) (H : X.l_FnExactCountHidings p0 p1 p2 p3 = some r) : FnOk Tryz.prog gl 3 [.agg (eTBoard p0), .agg (eTView p1), cI p2, cI p3] (cB r) := by
  unfold X.l_FnExactCountHidings at H
  refine fn_in (fn := Tryz.f3) (ir := l_FnExactCountHidings_ir) (s1 := lit [(8, cB r)] []) Tryz.func3 (by kernel_rfl) (by kernel_rfl) (by kernel_rfl) (by kernel_rfl) (by kernel_rfl) ?_
  refine seq_ops [] [] [(2, cI p2), (3, cI p3), (4, .c (.pk 4 0)), (5, .c (.pk 5 0))] [(4, .var (eTBoard p0) false), (5, .var (eTView p1) false)] (fun t => t) (by kernel_rfl) ?_
  refine seq_ops [] [] [(2, cI p2), (3, cI p3), (4, .c (.pk 4 0)), (5, .c (.pk 5 0)), (9, cI 1048576)] [(4, .var (eTBoard p0) false), (5, .var (eTView p1) false)] (fun t => t) (by kernel_rfl) ?_
  obtain ⟨v1, h2, H⟩ := ofBind H
  refine seq_ops [.res (cI v1)] [] [(2, cI p2), (3, cI p3), (4, .c (.pk 4 0)), (5, .c (.pk 5 0)), (9, cI v1)] [(4, .var (eTBoard p0) false), (5, .var (eTView p1) false)] (fun t => aI (l_szBoard_ok p0 1048576 v1 h2) (t)) (by kernel_rfl) ?_
  refine seq_in ?_
  refine seq_ops [] [] [(2, cI p2), (3, cI p3), (4, .c (.pk 4 0)), (5, .c (.pk 5 0)), (9, cI v1), (20, cB (decide (v1 < 0)))] [(4, .var (eTBoard p0) false), (5, .var (eTView p1) false)] (fun t => t) (by kernel_rfl) ?_
  rcases ofCond H with ⟨c4, H⟩ | ⟨c4, H⟩
  · refine ite_t c4 (by kernel_rfl) ?_
    refine seq_ops [] [] [(8, cB true)] [] (fun t => t) (by kernel_rfl) ?_
    refine ends_ret ?_
    obtain rfl := Option.some.inj H
    exact And.intro (.inl rfl) rfl
  · refine ite_f c4 (by kernel_rfl) ?_
    refine ends_skip ?_
    change EndsI _ _ _ _ _ _
    obtain ⟨v5, h6, H⟩ := ofBind H
    refine seq_ops [.res (cI v5)] [] [(2, cI p2), (3, cI p3), (4, .c (.pk 4 0)), (5, .c (.pk 5 0)), (9, cI v5)] [(4, .var (eTBoard p0) false), (5, .var (eTView p1) false)] (fun t => aI (l_szView_ok p1 v1 v5 h6) (t)) (by kernel_rfl) ?_
    refine seq_in ?_
    refine seq_ops [] [] [(2, cI p2), (3, cI p3), (4, .c (.pk 4 0)), (5, .c (.pk 5 0)), (25, cB (decide (v5 < 0)))] [(4, .var (eTBoard p0) false), (5, .var (eTView p1) false)] (fun t => t) (by kernel_rfl) ?_
    rcases ofCond H with ⟨c8, H⟩ | ⟨c8, H⟩
    · refine ite_t c8 (by kernel_rfl) ?_
      refine seq_ops [] [] [(8, cB true)] [] (fun t => t) (by kernel_rfl) ?_
      refine ends_ret ?_
      obtain rfl := Option.some.inj H
      exact And.intro (.inl rfl) rfl
    · refine ite_f c8 (by kernel_rfl) ?_
      refine ends_skip ?_
      change EndsI _ _ _ _ _ _
      obtain ⟨v9, h10, H⟩ := ofBind H
      obtain ⟨v11, h12, H⟩ := ofBind H
      obtain ⟨v13, h14, H⟩ := ofBind H
      refine seq_draw [.res (.agg (eTBoard v9)), .res (.agg (eTView v11)), .res (.tup [(false, [.int .i64 v13.1]), (false, [.bool v13.2])])] [] [(2, cI p2), (3, cI p3), (4, .c (.pk 4 0)), (5, .c (.pk 5 0)), (10, cI v13.1), (11, cB v13.2)] [(4, .var (eTBoard p0) false), (5, .var (eTView p1) false)] (fun t => aI (l_toBoard_ok p0 v9 h10) (aI (rfl : ([] : List Nat) = []) (aI (rfl : ([] : List Nat) = []) (aI (l_toView_ok p1 v11 h12) (aI (rfl : ([] : List Nat) = []) (aI (rfl : ([] : List Nat) = []) (aI (s_CountHidings_ok v9 v11 p2 p3 v13 h14) (aI trivial (aI (rfl : ([] : List Nat) = []) (t)))))))))) (by kernel_rfl) ?_
      obtain ⟨v15, h16, H⟩ := ofBind H
      refine seq_ops [.res (.agg (eTBoard v15))] [] [(2, cI p2), (3, cI p3), (4, .c (.pk 4 0)), (5, .c (.pk 5 0)), (10, cI v13.1), (11, cB v13.2), (12, .c (.pk 12 0))] [(4, .var (eTBoard p0) false), (5, .var (eTView p1) false), (12, .var (eTBoard v15) false)] (fun t => aI (l_toBoard_ok p0 v15 h16) (t)) (by kernel_rfl) ?_
      obtain ⟨v17, h18, H⟩ := ofBind H
      refine seq_ops [.res (.agg (eTView v17))] [] [(2, cI p2), (3, cI p3), (4, .c (.pk 4 0)), (5, .c (.pk 5 0)), (10, cI v13.1), (11, cB v13.2), (12, .c (.pk 12 0)), (13, .c (.pk 13 0))] [(4, .var (eTBoard p0) false), (5, .var (eTView p1) false), (12, .var (eTBoard v15) false), (13, .var (eTView v17) false)] (fun t => aI (l_toView_ok p1 v17 h18) (t)) (by kernel_rfl) ?_
      obtain ⟨v19, h20, H⟩ := ofBind H
      refine seq_ops [.res (.tup [(false, [.int .i64 v19.1]), (false, [.bool v19.2])])] [] [(4, .c (.pk 4 0)), (5, .c (.pk 5 0)), (10, cI v13.1), (11, cB v13.2), (12, .c (.pk 12 0)), (13, .c (.pk 13 0)), (14, cI v19.1), (15, cB v19.2)] [(4, .var (eTBoard p0) false), (5, .var (eTView p1) false), (12, .var (eTBoard v15) false), (13, .var (eTView v17) false)] (fun t => aI (i_CountHidings_ok v15 v17 p2 p3 v19 h20) (t)) (by kernel_rfl) ?_
      refine seq_in ?_
      rcases ofCond H with ⟨c23, H⟩ | ⟨c23, H⟩
      · refine seq_ops [.g true, .g true, .g true, .g true] [] [(4, .c (.pk 4 0)), (5, .c (.pk 5 0)), (12, .c (.pk 12 0)), (13, .c (.pk 13 0)), (55, cB true)] [(4, .var (eTBoard p0) false), (5, .var (eTView p1) false), (12, .var (eTBoard v15) false), (13, .var (eTView v17) false)] (fun t => aI c23 (aI c23 (aI c23 (aI c23 (t))))) (by kernel_rfl) ?_
        refine ite_t (rfl : (true : Bool) = true) (by kernel_rfl) ?_
        refine seq_ops [] [] [(8, cB false)] [] (fun t => t) (by kernel_rfl) ?_
        refine ends_ret ?_
        obtain rfl := Option.some.inj H
        exact And.intro (.inl rfl) rfl
      · refine seq_ops [.g false, .g false, .g false, .g false] [] [(4, .c (.pk 4 0)), (5, .c (.pk 5 0)), (12, .c (.pk 12 0)), (13, .c (.pk 13 0)), (55, cB (!(v19.2 == v13.2)))] [(4, .var (eTBoard p0) false), (5, .var (eTView p1) false), (12, .var (eTBoard v15) false), (13, .var (eTView v17) false)] (fun t => aI c23 (aI c23 (aI c23 (aI c23 (t))))) (by kernel_rfl) ?_
        rcases ofCond H with ⟨c24, H⟩ | ⟨c24, H⟩
        · refine ite_t c24 (by kernel_rfl) ?_
          refine seq_ops [] [] [(8, cB false)] [] (fun t => t) (by kernel_rfl) ?_
          refine ends_ret ?_
          obtain rfl := Option.some.inj H
          exact And.intro (.inl rfl) rfl
        · refine ite_f c24 (by kernel_rfl) ?_
          refine ends_skip ?_
          change EndsI _ _ _ _ _ _
          refine seq_in ?_
          obtain ⟨v30, h31, H⟩ := ofBind H
          obtain ⟨v32, h33, H⟩ := ofBind H
          refine seq_draw [.res (.agg (eTBoard v30)), .res (cB v32)] [] [(5, .c (.pk 5 0)), (13, .c (.pk 13 0)), (60, cB (!v32))] [(5, .var (eTView p1) false), (13, .var (eTView v17) false)] (fun t => aI (l_toBoard_ok p0 v30 h31) (aI (rfl : ([] : List Nat) = []) (aI (rfl : ([] : List Nat) = []) (aI (l_eqBoard_ok v15 v30 v32 h33) (aI trivial (aI (rfl : ([] : List Nat) = []) (t))))))) (by kernel_rfl) ?_
          rcases ofCond H with ⟨c34, H⟩ | ⟨c34, H⟩
          · refine ite_t c34 (by kernel_rfl) ?_
            refine seq_ops [] [] [(8, cB false)] [] (fun t => t) (by kernel_rfl) ?_
            refine ends_ret ?_
            obtain rfl := Option.some.inj H
            exact And.intro (.inl rfl) rfl
          · refine ite_f c34 (by kernel_rfl) ?_
            refine ends_skip ?_
            change EndsI _ _ _ _ _ _
            refine seq_in ?_
            obtain ⟨v35, h36, H⟩ := ofBind H
            obtain ⟨v37, h38, H⟩ := ofBind H
            refine seq_draw [.res (.agg (eTView v35)), .res (cB v37)] [] [(65, cB (!v37))] [] (fun t => aI (l_toView_ok p1 v35 h36) (aI (rfl : ([] : List Nat) = []) (aI (rfl : ([] : List Nat) = []) (aI (l_eqView_ok v17 v35 v37 h38) (aI trivial (aI (rfl : ([] : List Nat) = []) (t))))))) (by kernel_rfl) ?_
            rcases ofCond H with ⟨c39, H⟩ | ⟨c39, H⟩
            · refine ite_t c39 (by kernel_rfl) ?_
              refine seq_ops [] [] [(8, cB false)] [] (fun t => t) (by kernel_rfl) ?_
              refine ends_ret ?_
              obtain rfl := Option.some.inj H
              exact And.intro (.inl rfl) rfl
            · refine ite_f c39 (by kernel_rfl) ?_
              refine ends_skip ?_
              change EndsI _ _ _ _ _ _
              refine seq_ops [] [] [(8, cB true)] [] (fun t => t) (by kernel_rfl) ?_
              refine ends_ret ?_
              obtain rfl := Option.some.inj H
              exact And.intro (.inl rfl) rfl

end Go.Proofs.YtihggbgmdlhlcaaGreatDoor.X0
