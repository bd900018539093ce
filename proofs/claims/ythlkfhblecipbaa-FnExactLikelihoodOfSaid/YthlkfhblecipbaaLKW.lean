/- What each Go function that FnExactLikelihoodOf reaches computes, and that it returns so; no condition. -/
import Derived.Test.YthlkfhblecipbaaProg
import Derived.Test.YthlkfhblecipbaaAbCore2
set_option linter.unusedVariables false
set_option linter.unusedSimpArgs false
set_option maxRecDepth 100000
namespace Go.Proofs.Ythlkfhblecipbaa.X0
open Go Go.RowKit Go.Proofs.Ythlkfhblecipbaa.Ab Go.Proofs
def zI : Int := 0
def zB : Bool := false
def zS : List UInt8 := []
def eI (x : Int) : List AC := [.int .i64 x]
def eU (x : Int) : List AC := [.int .u8 x]
def eB (x : Bool) : List AC := [.bool x]
def eS (x : List UInt8) : List AC := [.str x]
def zLI : List Int := []
def eLI (xs : List Int) : List AC := [dat 1 eI zI xs]
theorem nLI : LeR [.nil] (eLI zLI) := And.intro (LeC.nil 1 _) trivial
def zLLI : List (List Int) := []
def eLLI (xs : List (List Int)) : List AC := [dat 1 eLI zLI xs]
theorem nLLI : LeR [.nil] (eLLI zLLI) := And.intro (LeC.nil 1 _) trivial
structure TClimate where
  Weights : (List (List Int))

def zTClimate : TClimate := ⟨zLLI⟩
def eTClimate (x : TClimate) : List AC := [dat 1 eLI zLI x.Weights]
theorem nTClimate : LeR [.nil] (eTClimate zTClimate) := And.intro (LeC.nil 1 _) (trivial)
def gl : Nat → Option (List AC) := fun _ => none

def l_szIntS_ir : S :=
 (.seq (.ops [⟨some 4, .mv (.v (.int .i64 0)), none⟩])
 (.seq (.ops [⟨some 5, .mv (.t 1), none⟩, ⟨some 6, .mv (.t 0), none⟩, ⟨some 7, .len (.t 6), none⟩, ⟨some 8, .bin .sub (.t 5) (.t 7), none⟩, ⟨some 1, .mv (.t 8), none⟩])
 (.seq (.seq (.ops [⟨some 9, .mv (.t 1), none⟩, ⟨some 10, .bin .lss (.t 9) (.v (.int .i64 0)), none⟩])
 (.ite (.t 10) (.seq (.ops [⟨some 4, .mv (.v (.int .i64 (-1))), none⟩])
  .ret)
 .skip))
 (.seq (.ops [⟨some 11, .mv (.t 1), none⟩, ⟨some 4, .mv (.t 11), none⟩])
 .ret))))
noncomputable def X.l_szIntS (p0 : (List Int)) (p1 : Int) : Option Int :=
  (bif (decide ((W (p1 - (p0.length : Int))) < 0)) then some (-1) else some (W (p1 - (p0.length : Int))))
theorem l_szIntS_ok (p0 : (List Int)) (p1 : Int) (r : Int) (H : X.l_szIntS p0 p1 = some r) : FnOk Try.prog gl 56 [.c (dat 1 eI zI p0), .c (.int .i64 p1)] (.c (.int .i64 r)) := by
  unfold X.l_szIntS at H
  refine fn_in (fn := Try.f56) (ir := l_szIntS_ir) (s1 := lit [(4, .c (.int .i64 r))] []) Try.func56 (by kernel_rfl) (by kernel_rfl) (by kernel_rfl) (by kernel_rfl) (by kernel_rfl) ?_
  refine seq_ops [] [] [(0, .c (dat 1 eI zI p0)), (1, .c (.int .i64 p1))] [] (fun t => t) (by kernel_rfl) ?_
  refine seq_ops [] [] [(1, .c (.int .i64 (W (p1 - (p0.length : Int)))))] [] (fun t => (fun (_ : p0.length ≤ maxLen) => t)) (by kernel_rfl) ?_
  refine seq_in ?_
  refine seq_ops [] [] [(1, .c (.int .i64 (W (p1 - (p0.length : Int))))), (10, .c (.bool (decide ((W (p1 - (p0.length : Int))) < 0))))] [] (fun t => t) (by kernel_rfl) ?_
  rcases ofCond H with ⟨c1, H⟩ | ⟨c1, H⟩
  · refine ite_t c1 (by kernel_rfl) ?_
    refine seq_ops [] [] [(4, .c (.int .i64 (-1)))] [] (fun t => t) (by kernel_rfl) ?_
    refine ends_ret ?_
    obtain rfl := Option.some.inj H
    exact And.intro (.inl rfl) rfl
  · refine ite_f c1 (by kernel_rfl) ?_
    refine ends_skip ?_
    change EndsI _ _ _ _ _ _
    refine seq_ops [] [] [(4, .c (.int .i64 (W (p1 - (p0.length : Int)))))] [] (fun t => t) (by kernel_rfl) ?_
    refine ends_ret ?_
    obtain rfl := Option.some.inj H
    exact And.intro (.inl rfl) rfl

def l_szIntSS_ir : S :=
 (.seq (.ops [⟨some 4, .mv (.v (.int .i64 0)), none⟩])
 (.seq (.ops [⟨some 6, .mv (.t 1), none⟩, ⟨some 7, .mv (.t 0), none⟩, ⟨some 8, .len (.t 7), none⟩, ⟨some 9, .bin .sub (.t 6) (.t 8), none⟩, ⟨some 1, .mv (.t 9), none⟩])
 (.seq (.seq (.ops [⟨some 10, .mv (.t 1), none⟩, ⟨some 11, .bin .lss (.t 10) (.v (.int .i64 0)), none⟩])
 (.ite (.t 11) (.seq (.ops [⟨some 4, .mv (.v (.int .i64 (-1))), none⟩])
  .ret)
 .skip))
 (.seq (.seq (.ops [⟨some 5, .mv (.v (.int .i64 0)), none⟩])
 (.blk 0 (.loop (.seq (.seq (.ops [⟨some 12, .mv (.t 5), none⟩, ⟨some 13, .mv (.t 0), none⟩, ⟨some 14, .len (.t 13), none⟩, ⟨some 15, .bin .lss (.t 12) (.t 14), none⟩])
   (.ite (.t 15) .skip
   (.exit 0)))
   (.seq (.blk 1 (.seq (.ops [⟨some 18, .mv (.t 0), none⟩, ⟨some 19, .mv (.t 5), none⟩, ⟨some 20, .iad 1 (.t 18) (.t 19), none⟩, ⟨some 21, .load 1 false (.t 20), none⟩, ⟨some 22, .mv (.t 1), none⟩, ⟨some 23, .call 56 [.t 21, .t 22], none⟩, ⟨some 1, .mv (.t 23), none⟩])
    (.seq (.ops [⟨some 24, .mv (.t 1), none⟩, ⟨some 25, .bin .lss (.t 24) (.v (.int .i64 0)), none⟩])
    (.ite (.t 25) (.seq (.ops [⟨some 4, .mv (.v (.int .i64 (-1))), none⟩])
     .ret)
    .skip))))
   (.ops [⟨some 16, .mv (.t 5), none⟩, ⟨some 17, .bin .add (.t 16) (.v (.int .i64 1)), none⟩, ⟨some 5, .mv (.t 17), none⟩]))))))
 (.seq (.ops [⟨some 26, .mv (.t 1), none⟩, ⟨some 4, .mv (.t 26), none⟩])
 .ret)))))
noncomputable def X.l_szIntSS (p0 : (List (List Int))) (p1 : Int) : Option Int :=
  (bif (decide ((W (p1 - (p0.length : Int))) < 0)) then some (-1) else ((loop (fun (x18 : (Int × Int)) => ((bif (decide (x18.2 < (p0.length : Int))) then ((at' zLI p0 x18.2).bind fun v21 => ((X.l_szIntS v21 x18.1).bind fun v23 => (bif (decide (v23 < 0)) then some (Sum.inr (Sum.inr (-1))) else some (Sum.inl (v23, (W (x18.2 + 1))))))) else some (Sum.inr (Sum.inl x18.1))) : Option ((Int × Int) ⊕ (Int ⊕ Int)))) ((W (p1 - (p0.length : Int))), 0)).bind fun y26 => (Sum.elim (fun (y28 : Int) => some y28) (fun (y29 : Int) => some y29) y26)))
theorem l_szIntSS_ok (p0 : (List (List Int))) (p1 : Int) (r : Int) (H : X.l_szIntSS p0 p1 = some r) : FnOk Try.prog gl 44 [.c (dat 1 eLI zLI p0), .c (.int .i64 p1)] (.c (.int .i64 r)) := by
  unfold X.l_szIntSS at H
  refine fn_in (fn := Try.f44) (ir := l_szIntSS_ir) (s1 := lit [(4, .c (.int .i64 r))] []) Try.func44 (by kernel_rfl) (by kernel_rfl) (by kernel_rfl) (by kernel_rfl) (by kernel_rfl) ?_
  refine seq_ops [] [] [(0, .c (dat 1 eLI zLI p0)), (1, .c (.int .i64 p1))] [] (fun t => t) (by kernel_rfl) ?_
  refine seq_ops [] [] [(0, .c (dat 1 eLI zLI p0)), (1, .c (.int .i64 (W (p1 - (p0.length : Int)))))] [] (fun t => (fun (_ : p0.length ≤ maxLen) => t)) (by kernel_rfl) ?_
  refine seq_in ?_
  refine seq_ops [] [] [(0, .c (dat 1 eLI zLI p0)), (1, .c (.int .i64 (W (p1 - (p0.length : Int))))), (11, .c (.bool (decide ((W (p1 - (p0.length : Int))) < 0))))] [] (fun t => t) (by kernel_rfl) ?_
  rcases ofCond H with ⟨c2, H⟩ | ⟨c2, H⟩
  · refine ite_t c2 (by kernel_rfl) ?_
    refine seq_ops [] [] [(4, .c (.int .i64 (-1)))] [] (fun t => t) (by kernel_rfl) ?_
    refine ends_ret ?_
    obtain rfl := Option.some.inj H
    exact And.intro (.inl rfl) rfl
  · refine ite_f c2 (by kernel_rfl) ?_
    refine ends_skip ?_
    change EndsI _ _ _ _ _ _
    refine seq_in ?_
    refine seq_ops [] [] [(0, .c (dat 1 eLI zLI p0)), (1, .c (.int .i64 (W (p1 - (p0.length : Int))))), (5, .c (.int .i64 0))] [] (fun t => t) (by kernel_rfl) ?_
    refine ends_blk ?_
    obtain ⟨y26, h27, H⟩ := ofBind H
    refine loop_in (fun (x : (Int × Int)) => lit [(0, .c (dat 1 eLI zLI p0)), (1, .c (.int .i64 x.1)), (5, .c (.int .i64 x.2))] []) (orJ (fun (z : Int) => At (.exit 0) (lit [(1, .c (.int .i64 z))] [])) (fun (z : Int) => At .ret (lit [(4, .c (.int .i64 z))] []))) h27 ?_ ?_
    · clear H h27
      intro x18 y0 H
      refine seq_in ?_
      refine seq_ops [] [] [(0, .c (dat 1 eLI zLI p0)), (1, .c (.int .i64 x18.1)), (5, .c (.int .i64 x18.2)), (15, .c (.bool (decide (x18.2 < (p0.length : Int)))))] [] (fun t => (fun (_ : p0.length ≤ maxLen) => t)) (by kernel_rfl) ?_
      rcases ofCond H with ⟨c20, H⟩ | ⟨c20, H⟩
      · refine ite_t c20 (by kernel_rfl) ?_
        refine ends_skip ?_
        change EndsI _ _ _ _ _ _
        refine seq_in ?_
        refine ends_blk ?_
        obtain ⟨v21, h22, H⟩ := ofBind H
        obtain ⟨v23, h24, H⟩ := ofBind H
        refine seq_ops [.cs (eLI v21), .res (.c (.int .i64 v23))] [] [(0, .c (dat 1 eLI zLI p0)), (1, .c (.int .i64 v23)), (5, .c (.int .i64 x18.2))] [] (fun t => And.intro (at_lt h22) (And.intro (at_enc (enc := eLI) h22) (And.intro (l_szIntS_ok v21 x18.1 v23 h24) (t)))) (by kernel_rfl) ?_
        refine seq_ops [] [] [(0, .c (dat 1 eLI zLI p0)), (1, .c (.int .i64 v23)), (5, .c (.int .i64 x18.2)), (25, .c (.bool (decide (v23 < 0))))] [] (fun t => t) (by kernel_rfl) ?_
        rcases ofCond H with ⟨c25, H⟩ | ⟨c25, H⟩
        · refine ite_t c25 (by kernel_rfl) ?_
          refine seq_ops [] [] [(4, .c (.int .i64 (-1)))] [] (fun t => t) (by kernel_rfl) ?_
          refine ends_ret ?_
          obtain rfl := Option.some.inj H
          exact And.intro (by simp) (And.intro rfl rfl)
        · refine ite_f c25 (by kernel_rfl) ?_
          refine ends_skip ?_
          change EndsI _ _ _ _ _ _
          refine one_ops [] [] [(0, .c (dat 1 eLI zLI p0)), (1, .c (.int .i64 v23)), (5, .c (.int .i64 (W (x18.2 + 1))))] [] (fun t => t) (by kernel_rfl) ?_
          obtain rfl := Option.some.inj H
          exact And.intro rfl rfl
      · refine ite_f c20 (by kernel_rfl) ?_
        refine tell [] [(1, .c (.int .i64 x18.1))] [] (fun t => t) (by kernel_rfl) ?_
        refine ends_exit ?_
        obtain rfl := Option.some.inj H
        exact And.intro (by simp) (And.intro rfl rfl)
    · clear h27
      cases y26 with
      | inl y28 =>
        replace H := ofInl H
        intro e s q
        obtain ⟨rfl, rfl⟩ := q
        change EndsI _ _ _ _ _ _
        refine seq_ops [] [] [(4, .c (.int .i64 y28))] [] (fun t => t) (by kernel_rfl) ?_
        refine ends_ret ?_
        obtain rfl := Option.some.inj H
        exact And.intro (.inl rfl) rfl
      | inr y29 =>
        replace H := ofInr H
        intro e s q
        obtain ⟨rfl, rfl⟩ := q
        obtain rfl := Option.some.inj H
        exact And.intro (.inl rfl) rfl

def l_szClimate_ir : S :=
 (.seq (.ops [⟨some 2, .box 1 (.t 0), none⟩, ⟨some 4, .mv (.v (.int .i64 0)), none⟩])
 (.seq (.ops [⟨some 5, .fad 0 (.t 2), none⟩, ⟨some 6, .load 1 false (.t 5), none⟩, ⟨some 7, .mv (.t 1), none⟩, ⟨some 8, .call 44 [.t 6, .t 7], none⟩, ⟨some 1, .mv (.t 8), none⟩])
 (.seq (.seq (.ops [⟨some 9, .mv (.t 1), none⟩, ⟨some 10, .bin .lss (.t 9) (.v (.int .i64 0)), none⟩])
 (.ite (.t 10) (.seq (.ops [⟨some 4, .mv (.v (.int .i64 (-1))), none⟩])
  .ret)
 .skip))
 (.seq (.ops [⟨some 11, .mv (.t 1), none⟩, ⟨some 4, .mv (.t 11), none⟩])
 .ret))))
noncomputable def X.l_szClimate (p0 : TClimate) (p1 : Int) : Option Int :=
  ((X.l_szIntSS p0.Weights p1).bind fun v1 => (bif (decide (v1 < 0)) then some (-1) else some v1))
theorem l_szClimate_ok (p0 : TClimate) (p1 : Int) (r : Int) (H : X.l_szClimate p0 p1 = some r) : FnOk Try.prog gl 15 [.agg (eTClimate p0), .c (.int .i64 p1)] (.c (.int .i64 r)) := by
  unfold X.l_szClimate at H
  refine fn_in (fn := Try.f15) (ir := l_szClimate_ir) (s1 := lit [(4, .c (.int .i64 r))] []) Try.func15 (by kernel_rfl) (by kernel_rfl) (by kernel_rfl) (by kernel_rfl) (by kernel_rfl) ?_
  refine seq_ops [] [] [(1, .c (.int .i64 p1)), (2, .c (.pk 2 0))] [(2, .var [dat 1 eLI zLI p0.Weights] false)] (fun t => t) (by kernel_rfl) ?_
  obtain ⟨v1, h2, H⟩ := ofBind H
  refine seq_ops [.res (.c (.int .i64 v1))] [] [(1, .c (.int .i64 v1))] [] (fun t => And.intro (l_szIntSS_ok p0.Weights p1 v1 h2) (t)) (by kernel_rfl) ?_
  refine seq_in ?_
  refine seq_ops [] [] [(1, .c (.int .i64 v1)), (10, .c (.bool (decide (v1 < 0))))] [] (fun t => t) (by kernel_rfl) ?_
  rcases ofCond H with ⟨c3, H⟩ | ⟨c3, H⟩
  · refine ite_t c3 (by kernel_rfl) ?_
    refine seq_ops [] [] [(4, .c (.int .i64 (-1)))] [] (fun t => t) (by kernel_rfl) ?_
    refine ends_ret ?_
    obtain rfl := Option.some.inj H
    exact And.intro (.inl rfl) rfl
  · refine ite_f c3 (by kernel_rfl) ?_
    refine ends_skip ?_
    change EndsI _ _ _ _ _ _
    refine seq_ops [] [] [(4, .c (.int .i64 v1))] [] (fun t => t) (by kernel_rfl) ?_
    refine ends_ret ?_
    obtain rfl := Option.some.inj H
    exact And.intro (.inl rfl) rfl

def l_toIntS_ir : S :=
 (.seq (.ops [⟨some 2, .mv (.v (.nil)), none⟩])
 (.seq (.ops [⟨some 5, .mv (.t 0), none⟩, ⟨some 6, .len (.t 5), none⟩, ⟨some 7, .msl 1 8 [.int .i64 0] (.t 6), none⟩, ⟨some 3, .mv (.t 7), none⟩])
 (.seq (.seq (.ops [⟨some 4, .mv (.v (.int .i64 0)), none⟩])
 (.blk 0 (.loop (.seq (.seq (.ops [⟨some 8, .mv (.t 4), none⟩, ⟨some 9, .mv (.t 0), none⟩, ⟨some 10, .len (.t 9), none⟩, ⟨some 11, .bin .lss (.t 8) (.t 10), none⟩])
   (.ite (.t 11) .skip
   (.exit 0)))
   (.seq (.blk 1 (.ops [⟨some 14, .mv (.t 3), none⟩, ⟨some 15, .mv (.t 4), none⟩, ⟨some 16, .mv (.t 0), none⟩, ⟨some 17, .mv (.t 4), none⟩, ⟨some 18, .iad 1 (.t 16) (.t 17), none⟩, ⟨some 19, .load 1 false (.t 18), none⟩, ⟨some 20, .iad 1 (.t 14) (.t 15), none⟩, ⟨none, .store 1 (.t 20) (.t 19), none⟩]))
   (.ops [⟨some 12, .mv (.t 4), none⟩, ⟨some 13, .bin .add (.t 12) (.v (.int .i64 1)), none⟩, ⟨some 4, .mv (.t 13), none⟩]))))))
 (.seq (.ops [⟨some 21, .mv (.t 3), none⟩, ⟨some 2, .mv (.t 21), none⟩])
 .ret))))
noncomputable def X.l_toIntS (p0 : (List Int)) : Option (List Int) :=
  (if 0 ≤ (p0.length : Int) ∧ (p0.length : Int).toNat ≤ LIM then ((loop (fun (x13 : (Int × (List Int))) => ((bif (decide (x13.1 < (p0.length : Int))) then ((at' zI p0 x13.1).bind fun v16 => (if 0 ≤ x13.1 ∧ x13.1 < (x13.2.length : Int) then some (Sum.inl ((W (x13.1 + 1)), (x13.2.set x13.1.toNat v16))) else none)) else some (Sum.inr x13.2)) : Option ((Int × (List Int)) ⊕ (List Int)))) (0, (List.replicate (p0.length : Int).toNat zI))).bind fun y19 => some y19) else none)
theorem l_toIntS_ok (p0 : (List Int)) (r : (List Int)) (H : X.l_toIntS p0 = some r) : FnOk Try.prog gl 21 [.c (dat 1 eI zI p0)] (.c (dat 1 eI zI r)) := by
  unfold X.l_toIntS at H
  refine fn_in (fn := Try.f21) (ir := l_toIntS_ir) (s1 := lit [(2, .c (dat 1 eI zI r))] []) Try.func21 (by kernel_rfl) (by kernel_rfl) (by kernel_rfl) (by kernel_rfl) (by kernel_rfl) ?_
  refine seq_ops [] [] [(0, .c (dat 1 eI zI p0))] [] (fun t => t) (by kernel_rfl) ?_
  obtain ⟨g1, H⟩ := ofIf H
  refine seq_ops [.fn (List.replicate (p0.length : Int).toNat zI).length (fF eI zI (List.replicate (p0.length : Int).toNat zI))] [] [(0, .c (dat 1 eI zI p0)), (3, .c (.own 7 1 0 ((List.replicate (p0.length : Int).toNat zI).length)))] [(7, .arr 1 ((List.replicate (p0.length : Int).toNat zI).length) (fF eI zI (List.replicate (p0.length : Int).toNat zI)) false)] (fun t => (fun (_ : p0.length ≤ maxLen) => And.intro (And.intro g1.1 (And.intro (List.length_replicate (n := (p0.length : Int).toNat) (a := zI)).symm (Nat.le_trans (Nat.le_of_eq List.length_replicate) g1.2 : (List.replicate (p0.length : Int).toNat zI).length ≤ LIM))) (And.intro (fF_rep eI zI zI (p0.length : Int).toNat) (t)))) (by kernel_rfl) ?_
  refine seq_in ?_
  refine seq_ops [] [] [(0, .c (dat 1 eI zI p0)), (3, .c (.own 7 1 0 ((List.replicate (p0.length : Int).toNat zI).length))), (4, .c (.int .i64 0))] [(7, .arr 1 ((List.replicate (p0.length : Int).toNat zI).length) (fF eI zI (List.replicate (p0.length : Int).toNat zI)) false)] (fun t => t) (by kernel_rfl) ?_
  refine ends_blk ?_
  obtain ⟨y19, h20, H⟩ := ofBind H
  refine loop_in (fun (x : (Int × (List Int))) => lit [(0, .c (dat 1 eI zI p0)), (3, .c (.own 7 1 0 x.2.length)), (4, .c (.int .i64 x.1))] [(7, .arr 1 x.2.length (fF eI zI x.2) false)]) (fun (z : (List Int)) => At (.exit 0) (lit [(3, .c (.own 7 1 0 z.length))] [(7, .arr 1 z.length (fF eI zI z) false)])) h20 ?_ ?_
  · clear H h20
    intro x13 y0 H
    refine seq_in ?_
    refine seq_ops [] [] [(0, .c (dat 1 eI zI p0)), (3, .c (.own 7 1 0 x13.2.length)), (4, .c (.int .i64 x13.1)), (11, .c (.bool (decide (x13.1 < (p0.length : Int)))))] [(7, .arr 1 x13.2.length (fF eI zI x13.2) false)] (fun t => (fun (_ : p0.length ≤ maxLen) => t)) (by kernel_rfl) ?_
    rcases ofCond H with ⟨c15, H⟩ | ⟨c15, H⟩
    · refine ite_t c15 (by kernel_rfl) ?_
      refine ends_skip ?_
      change EndsI _ _ _ _ _ _
      refine seq_in ?_
      refine ends_blk ?_
      obtain ⟨v16, h17, H⟩ := ofBind H
      obtain ⟨g18, H⟩ := ofIf H
      refine one_ops [.cs (eI v16), .no, .fn 0 (fF eI zI (x13.2.set x13.1.toNat v16))] [] [(0, .c (dat 1 eI zI p0)), (3, .c (.own 7 1 0 x13.2.length)), (4, .c (.int .i64 x13.1))] [(7, .arr 1 x13.2.length (fF eI zI (x13.2.set x13.1.toNat v16)) false)] (fun t => And.intro (at_lt h17) (And.intro (at_enc (enc := eI) h17) (And.intro g18 (And.intro (rfl : true = true) (And.intro (nat_lt g18) (And.intro (by decide : 0 + 1 ≤ 1) (And.intro (fF_set eI zI x13.2 x13.1.toNat v16 (nat_lt g18) x13.2.length) (t)))))))) (by kernel_rfl) ?_
      change EndsI _ _ _ _ _ _
      refine one_ops [] [.rel 3 ((x13.2.set x13.1.toNat v16).length), .rep 7 ((x13.2.set x13.1.toNat v16).length) (fF eI zI (x13.2.set x13.1.toNat v16))] [(0, .c (dat 1 eI zI p0)), (3, .c (.own 7 1 0 ((x13.2.set x13.1.toNat v16).length))), (4, .c (.int .i64 (W (x13.1 + 1))))] [(7, .arr 1 ((x13.2.set x13.1.toNat v16).length) (fF eI zI (x13.2.set x13.1.toNat v16)) false)] (fun t => And.intro (by simp : x13.2.length = (x13.2.set x13.1.toNat v16).length) (And.intro (Nat.le_of_eq (by simp : (x13.2.set x13.1.toNat v16).length = x13.2.length)) (And.intro (fun _ _ => rfl : ∀ i, i < (x13.2.set x13.1.toNat v16).length → (fF eI zI (x13.2.set x13.1.toNat v16)) i = (fF eI zI (x13.2.set x13.1.toNat v16)) i) (t)))) (by kernel_rfl) ?_
      obtain rfl := Option.some.inj H
      exact And.intro rfl rfl
    · refine ite_f c15 (by kernel_rfl) ?_
      refine tell [] [(3, .c (.own 7 1 0 x13.2.length))] [(7, .arr 1 x13.2.length (fF eI zI x13.2) false)] (fun t => t) (by kernel_rfl) ?_
      refine ends_exit ?_
      obtain rfl := Option.some.inj H
      exact And.intro (by simp) (And.intro rfl rfl)
  · clear h20
    intro e s q
    obtain ⟨rfl, rfl⟩ := q
    change EndsI _ _ _ _ _ _
    refine seq_ops [] [] [(2, .c (.own 7 1 0 y19.length))] [(7, .arr 1 y19.length (fF eI zI y19) false)] (fun t => t) (by kernel_rfl) ?_
    refine tell [.frz 2] [(2, .c (dat 1 eI zI y19))] [] (fun t => And.intro (Nat.le_refl y19.length) (t)) (by kernel_rfl) ?_
    refine ends_ret ?_
    obtain rfl := Option.some.inj H
    exact And.intro (.inl rfl) rfl

def l_toIntSS_ir : S :=
 (.seq (.ops [⟨some 2, .mv (.v (.nil)), none⟩])
 (.seq (.ops [⟨some 5, .mv (.t 0), none⟩, ⟨some 6, .len (.t 5), none⟩, ⟨some 7, .msl 1 24 [.nil] (.t 6), none⟩, ⟨some 3, .mv (.t 7), none⟩])
 (.seq (.seq (.ops [⟨some 4, .mv (.v (.int .i64 0)), none⟩])
 (.blk 0 (.loop (.seq (.seq (.ops [⟨some 8, .mv (.t 4), none⟩, ⟨some 9, .mv (.t 0), none⟩, ⟨some 10, .len (.t 9), none⟩, ⟨some 11, .bin .lss (.t 8) (.t 10), none⟩])
   (.ite (.t 11) .skip
   (.exit 0)))
   (.seq (.blk 1 (.ops [⟨some 14, .mv (.t 3), none⟩, ⟨some 15, .mv (.t 4), none⟩, ⟨some 16, .mv (.t 0), none⟩, ⟨some 17, .mv (.t 4), none⟩, ⟨some 18, .iad 1 (.t 16) (.t 17), none⟩, ⟨some 19, .load 1 false (.t 18), none⟩, ⟨some 20, .call 21 [.t 19], none⟩, ⟨some 21, .iad 1 (.t 14) (.t 15), none⟩, ⟨none, .store 1 (.t 21) (.t 20), none⟩]))
   (.ops [⟨some 12, .mv (.t 4), none⟩, ⟨some 13, .bin .add (.t 12) (.v (.int .i64 1)), none⟩, ⟨some 4, .mv (.t 13), none⟩]))))))
 (.seq (.ops [⟨some 22, .mv (.t 3), none⟩, ⟨some 2, .mv (.t 22), none⟩])
 .ret))))
noncomputable def X.l_toIntSS (p0 : (List (List Int))) : Option (List (List Int)) :=
  (if 0 ≤ (p0.length : Int) ∧ (p0.length : Int).toNat ≤ LIM then ((loop (fun (x17 : (Int × (List (List Int)))) => ((bif (decide (x17.1 < (p0.length : Int))) then ((at' zLI p0 x17.1).bind fun v20 => ((X.l_toIntS v20).bind fun v22 => (if 0 ≤ x17.1 ∧ x17.1 < (x17.2.length : Int) then some (Sum.inl ((W (x17.1 + 1)), (x17.2.set x17.1.toNat v22))) else none))) else some (Sum.inr x17.2)) : Option ((Int × (List (List Int))) ⊕ (List (List Int))))) (0, (List.replicate (p0.length : Int).toNat zLI))).bind fun y25 => some y25) else none)
theorem l_toIntSS_ok (p0 : (List (List Int))) (r : (List (List Int))) (H : X.l_toIntSS p0 = some r) : FnOk Try.prog gl 46 [.c (dat 1 eLI zLI p0)] (.c (dat 1 eLI zLI r)) := by
  unfold X.l_toIntSS at H
  refine fn_in (fn := Try.f46) (ir := l_toIntSS_ir) (s1 := lit [(2, .c (dat 1 eLI zLI r))] []) Try.func46 (by kernel_rfl) (by kernel_rfl) (by kernel_rfl) (by kernel_rfl) (by kernel_rfl) ?_
  refine seq_ops [] [] [(0, .c (dat 1 eLI zLI p0))] [] (fun t => t) (by kernel_rfl) ?_
  obtain ⟨g1, H⟩ := ofIf H
  refine seq_ops [.fn (List.replicate (p0.length : Int).toNat zLI).length (fun _ => [.nil])] [.rpw 7 (fF eLI zLI (List.replicate (p0.length : Int).toNat zLI))] [(0, .c (dat 1 eLI zLI p0)), (3, .c (.own 7 1 0 ((List.replicate (p0.length : Int).toNat zLI).length)))] [(7, .arr 1 ((List.replicate (p0.length : Int).toNat zLI).length) (fF eLI zLI (List.replicate (p0.length : Int).toNat zLI)) false)] (fun t => (fun (_ : p0.length ≤ maxLen) => And.intro (And.intro g1.1 (And.intro (List.length_replicate (n := (p0.length : Int).toNat) (a := zLI)).symm (Nat.le_trans (Nat.le_of_eq List.length_replicate) g1.2 : (List.replicate (p0.length : Int).toNat zLI).length ≤ LIM))) (And.intro (fun _ _ => rfl : ∀ i, i < (List.replicate (p0.length : Int).toNat zLI).length → (fun (_ : Nat) => ([.nil] : List AC)) i = [.nil]) (And.intro (fun i hi => (fF_rep eLI zLI zLI (p0.length : Int).toNat i hi) ▸ nLI : ∀ i, i < (List.replicate (p0.length : Int).toNat zLI).length → LeR ((fun (_ : Nat) => ([.nil] : List AC)) i) ((fF eLI zLI (List.replicate (p0.length : Int).toNat zLI)) i)) (t))))) (by kernel_rfl) ?_
  refine seq_in ?_
  refine seq_ops [] [] [(0, .c (dat 1 eLI zLI p0)), (3, .c (.own 7 1 0 ((List.replicate (p0.length : Int).toNat zLI).length))), (4, .c (.int .i64 0))] [(7, .arr 1 ((List.replicate (p0.length : Int).toNat zLI).length) (fF eLI zLI (List.replicate (p0.length : Int).toNat zLI)) false)] (fun t => t) (by kernel_rfl) ?_
  refine ends_blk ?_
  obtain ⟨y25, h26, H⟩ := ofBind H
  refine loop_in (fun (x : (Int × (List (List Int)))) => lit [(0, .c (dat 1 eLI zLI p0)), (3, .c (.own 7 1 0 x.2.length)), (4, .c (.int .i64 x.1))] [(7, .arr 1 x.2.length (fF eLI zLI x.2) false)]) (fun (z : (List (List Int))) => At (.exit 0) (lit [(3, .c (.own 7 1 0 z.length))] [(7, .arr 1 z.length (fF eLI zLI z) false)])) h26 ?_ ?_
  · clear H h26
    intro x17 y0 H
    refine seq_in ?_
    refine seq_ops [] [] [(0, .c (dat 1 eLI zLI p0)), (3, .c (.own 7 1 0 x17.2.length)), (4, .c (.int .i64 x17.1)), (11, .c (.bool (decide (x17.1 < (p0.length : Int)))))] [(7, .arr 1 x17.2.length (fF eLI zLI x17.2) false)] (fun t => (fun (_ : p0.length ≤ maxLen) => t)) (by kernel_rfl) ?_
    rcases ofCond H with ⟨c19, H⟩ | ⟨c19, H⟩
    · refine ite_t c19 (by kernel_rfl) ?_
      refine ends_skip ?_
      change EndsI _ _ _ _ _ _
      refine seq_in ?_
      refine ends_blk ?_
      obtain ⟨v20, h21, H⟩ := ofBind H
      obtain ⟨v22, h23, H⟩ := ofBind H
      obtain ⟨g24, H⟩ := ofIf H
      refine one_ops [.cs (eLI v20), .res (.c (dat 1 eI zI v22)), .no, .fn 0 (fF eLI zLI (x17.2.set x17.1.toNat v22))] [] [(0, .c (dat 1 eLI zLI p0)), (3, .c (.own 7 1 0 x17.2.length)), (4, .c (.int .i64 x17.1))] [(7, .arr 1 x17.2.length (fF eLI zLI (x17.2.set x17.1.toNat v22)) false)] (fun t => And.intro (at_lt h21) (And.intro (at_enc (enc := eLI) h21) (And.intro (l_toIntS_ok v20 v22 h23) (And.intro g24 (And.intro (rfl : true = true) (And.intro (nat_lt g24) (And.intro (by decide : 0 + 1 ≤ 1) (And.intro (fF_set eLI zLI x17.2 x17.1.toNat v22 (nat_lt g24) x17.2.length) (t))))))))) (by kernel_rfl) ?_
      change EndsI _ _ _ _ _ _
      refine one_ops [] [.rel 3 ((x17.2.set x17.1.toNat v22).length), .rep 7 ((x17.2.set x17.1.toNat v22).length) (fF eLI zLI (x17.2.set x17.1.toNat v22))] [(0, .c (dat 1 eLI zLI p0)), (3, .c (.own 7 1 0 ((x17.2.set x17.1.toNat v22).length))), (4, .c (.int .i64 (W (x17.1 + 1))))] [(7, .arr 1 ((x17.2.set x17.1.toNat v22).length) (fF eLI zLI (x17.2.set x17.1.toNat v22)) false)] (fun t => And.intro (by simp : x17.2.length = (x17.2.set x17.1.toNat v22).length) (And.intro (Nat.le_of_eq (by simp : (x17.2.set x17.1.toNat v22).length = x17.2.length)) (And.intro (fun _ _ => rfl : ∀ i, i < (x17.2.set x17.1.toNat v22).length → (fF eLI zLI (x17.2.set x17.1.toNat v22)) i = (fF eLI zLI (x17.2.set x17.1.toNat v22)) i) (t)))) (by kernel_rfl) ?_
      obtain rfl := Option.some.inj H
      exact And.intro rfl rfl
    · refine ite_f c19 (by kernel_rfl) ?_
      refine tell [] [(3, .c (.own 7 1 0 x17.2.length))] [(7, .arr 1 x17.2.length (fF eLI zLI x17.2) false)] (fun t => t) (by kernel_rfl) ?_
      refine ends_exit ?_
      obtain rfl := Option.some.inj H
      exact And.intro (by simp) (And.intro rfl rfl)
  · clear h26
    intro e s q
    obtain ⟨rfl, rfl⟩ := q
    change EndsI _ _ _ _ _ _
    refine seq_ops [] [] [(2, .c (.own 7 1 0 y25.length))] [(7, .arr 1 y25.length (fF eLI zLI y25) false)] (fun t => t) (by kernel_rfl) ?_
    refine tell [.frz 2] [(2, .c (dat 1 eLI zLI y25))] [] (fun t => And.intro (Nat.le_refl y25.length) (t)) (by kernel_rfl) ?_
    refine ends_ret ?_
    obtain rfl := Option.some.inj H
    exact And.intro (.inl rfl) rfl

def l_toClimate_ir : S :=
 (.seq (.ops [⟨some 1, .box 1 (.t 0), none⟩, ⟨some 2, .alloc [.nil], none⟩])
 (.seq (.ops [⟨some 3, .alloc [.nil], none⟩])
 (.seq (.ops [⟨some 4, .fad 0 (.t 1), none⟩, ⟨some 5, .load 1 false (.t 4), none⟩, ⟨some 6, .call 46 [.t 5], none⟩, ⟨some 7, .fad 0 (.t 3), none⟩, ⟨none, .store 1 (.t 7) (.t 6), none⟩])
 (.seq (.ops [⟨some 8, .load 1 true (.t 3), none⟩, ⟨none, .store 1 (.t 2) (.t 8), none⟩])
 .ret))))
noncomputable def X.l_toClimate (p0 : TClimate) : Option TClimate :=
  ((X.l_toIntSS p0.Weights).bind fun v1 => some (TClimate.mk v1))
theorem l_toClimate_ok (p0 : TClimate) (r : TClimate) (H : X.l_toClimate p0 = some r) : FnOk Try.prog gl 17 [.agg (eTClimate p0)] (.agg (eTClimate r)) := by
  unfold X.l_toClimate at H
  refine fn_in (fn := Try.f17) (ir := l_toClimate_ir) (s1 := lit [(2, .c (.pk 2 0))] [(2, .var [dat 1 eLI zLI r.Weights] false)]) Try.func17 (by kernel_rfl) (by kernel_rfl) (by kernel_rfl) (by kernel_rfl) (by kernel_rfl) ?_
  refine seq_ops [] [] [(1, .c (.pk 1 0)), (2, .c (.pk 2 0))] [(1, .var [dat 1 eLI zLI p0.Weights] false), (2, .var [.nil] false)] (fun t => t) (by kernel_rfl) ?_
  refine seq_ops [] [] [(1, .c (.pk 1 0)), (2, .c (.pk 2 0)), (3, .c (.pk 3 0))] [(1, .var [dat 1 eLI zLI p0.Weights] false), (2, .var [.nil] false), (3, .var [.nil] false)] (fun t => t) (by kernel_rfl) ?_
  obtain ⟨v1, h2, H⟩ := ofBind H
  refine seq_ops [.res (.c (dat 1 eLI zLI v1))] [] [(2, .c (.pk 2 0)), (3, .c (.pk 3 0))] [(2, .var [.nil] false), (3, .var [dat 1 eLI zLI v1] false)] (fun t => And.intro (l_toIntSS_ok p0.Weights v1 h2) (t)) (by kernel_rfl) ?_
  refine seq_ops [] [] [(2, .c (.pk 2 0))] [(2, .var [dat 1 eLI zLI v1] false)] (fun t => t) (by kernel_rfl) ?_
  refine ends_ret ?_
  obtain rfl := Option.some.inj H
  exact And.intro (.inl rfl) rfl

def l_eqIntS_ir : S :=
 (.seq (.ops [⟨some 4, .mv (.v (.bool false)), none⟩])
 (.seq (.seq (.ops [⟨some 6, .mv (.t 0), none⟩, ⟨some 7, .len (.t 6), none⟩, ⟨some 8, .mv (.t 1), none⟩, ⟨some 9, .len (.t 8), none⟩, ⟨some 10, .bin .neq (.t 7) (.t 9), none⟩])
 (.ite (.t 10) (.seq (.ops [⟨some 4, .mv (.v (.bool false)), none⟩])
  .ret)
 .skip))
 (.seq (.seq (.ops [⟨some 5, .mv (.v (.int .i64 0)), none⟩])
 (.blk 0 (.loop (.seq (.seq (.ops [⟨some 11, .mv (.t 5), none⟩, ⟨some 12, .mv (.t 0), none⟩, ⟨some 13, .len (.t 12), none⟩, ⟨some 14, .bin .lss (.t 11) (.t 13), none⟩])
   (.ite (.t 14) .skip
   (.exit 0)))
   (.seq (.blk 1 (.seq (.draw 9 [⟨some 17, .mv (.t 0), none⟩, ⟨some 18, .mv (.t 5), none⟩, ⟨some 19, .iad 1 (.t 17) (.t 18), none⟩, ⟨some 20, .load 1 false (.t 19), none⟩, ⟨some 21, .mv (.t 1), none⟩, ⟨some 22, .mv (.t 5), none⟩, ⟨some 23, .iad 1 (.t 21) (.t 22), none⟩, ⟨some 24, .load 1 false (.t 23), none⟩, ⟨some 25, .bin .neq (.t 20) (.t 24), none⟩])
    (.ite (.t 25) (.seq (.ops [⟨some 4, .mv (.v (.bool false)), none⟩])
     .ret)
    .skip)))
   (.ops [⟨some 15, .mv (.t 5), none⟩, ⟨some 16, .bin .add (.t 15) (.v (.int .i64 1)), none⟩, ⟨some 5, .mv (.t 16), none⟩]))))))
 (.seq (.ops [⟨some 4, .mv (.v (.bool true)), none⟩])
 .ret))))
noncomputable def X.l_eqIntS (p0 : (List Int)) (p1 : (List Int)) : Option Bool :=
  (bif ((p0.length : Int) != (p1.length : Int)) then some false else ((loop (fun (x18 : Int) => ((bif (decide (x18 < (p0.length : Int))) then ((at' zI p0 x18).bind fun v21 => ((at' zI p1 x18).bind fun v23 => (bif (v21 != v23) then some (Sum.inr (Sum.inr false)) else some (Sum.inl (W (x18 + 1)))))) else some (Sum.inr (Sum.inl ()))) : Option (Int ⊕ (Unit ⊕ Bool)))) 0).bind fun y26 => (Sum.elim (fun (y28 : Unit) => some true) (fun (y29 : Bool) => some y29) y26)))
theorem l_eqIntS_ok (p0 : (List Int)) (p1 : (List Int)) (r : Bool) (H : X.l_eqIntS p0 p1 = some r) : FnOk Try.prog gl 23 [.c (dat 1 eI zI p0), .c (dat 1 eI zI p1)] (.c (.bool r)) := by
  unfold X.l_eqIntS at H
  refine fn_in (fn := Try.f23) (ir := l_eqIntS_ir) (s1 := lit [(4, .c (.bool r))] []) Try.func23 (by kernel_rfl) (by kernel_rfl) (by kernel_rfl) (by kernel_rfl) (by kernel_rfl) ?_
  refine seq_ops [] [] [(0, .c (dat 1 eI zI p0)), (1, .c (dat 1 eI zI p1))] [] (fun t => t) (by kernel_rfl) ?_
  refine seq_in ?_
  refine seq_ops [] [] [(0, .c (dat 1 eI zI p0)), (1, .c (dat 1 eI zI p1)), (10, .c (.bool ((p0.length : Int) != (p1.length : Int))))] [] (fun t => (fun (_ : p0.length ≤ maxLen) => (fun (_ : p1.length ≤ maxLen) => t))) (by kernel_rfl) ?_
  rcases ofCond H with ⟨c2, H⟩ | ⟨c2, H⟩
  · refine ite_t c2 (by kernel_rfl) ?_
    refine seq_ops [] [] [(4, .c (.bool false))] [] (fun t => t) (by kernel_rfl) ?_
    refine ends_ret ?_
    obtain rfl := Option.some.inj H
    exact And.intro (.inl rfl) rfl
  · refine ite_f c2 (by kernel_rfl) ?_
    refine ends_skip ?_
    change EndsI _ _ _ _ _ _
    refine seq_in ?_
    refine seq_ops [] [] [(0, .c (dat 1 eI zI p0)), (1, .c (dat 1 eI zI p1)), (5, .c (.int .i64 0))] [] (fun t => t) (by kernel_rfl) ?_
    refine ends_blk ?_
    obtain ⟨y26, h27, H⟩ := ofBind H
    refine loop_in (fun (x : Int) => lit [(0, .c (dat 1 eI zI p0)), (1, .c (dat 1 eI zI p1)), (5, .c (.int .i64 x))] []) (orJ (fun (z : Unit) => At (.exit 0) (lit [] [])) (fun (z : Bool) => At .ret (lit [(4, .c (.bool z))] []))) h27 ?_ ?_
    · clear H h27
      intro x18 y0 H
      refine seq_in ?_
      refine seq_ops [] [] [(0, .c (dat 1 eI zI p0)), (1, .c (dat 1 eI zI p1)), (5, .c (.int .i64 x18)), (14, .c (.bool (decide (x18 < (p0.length : Int)))))] [] (fun t => (fun (_ : p0.length ≤ maxLen) => t)) (by kernel_rfl) ?_
      rcases ofCond H with ⟨c20, H⟩ | ⟨c20, H⟩
      · refine ite_t c20 (by kernel_rfl) ?_
        refine ends_skip ?_
        change EndsI _ _ _ _ _ _
        refine seq_in ?_
        refine ends_blk ?_
        obtain ⟨v21, h22, H⟩ := ofBind H
        obtain ⟨v23, h24, H⟩ := ofBind H
        refine seq_draw [.cs (eI v21), .cs (eI v23)] [] [(0, .c (dat 1 eI zI p0)), (1, .c (dat 1 eI zI p1)), (5, .c (.int .i64 x18)), (25, .c (.bool (v21 != v23)))] [] (fun t => And.intro (at_lt h22) (And.intro (at_enc (enc := eI) h22) (And.intro (rfl : ([] : List Nat) = []) (And.intro (at_lt h24) (And.intro (at_enc (enc := eI) h24) (And.intro (rfl : ([] : List Nat) = []) (t))))))) (by kernel_rfl) ?_
        rcases ofCond H with ⟨c25, H⟩ | ⟨c25, H⟩
        · refine ite_t c25 (by kernel_rfl) ?_
          refine seq_ops [] [] [(4, .c (.bool false))] [] (fun t => t) (by kernel_rfl) ?_
          refine ends_ret ?_
          obtain rfl := Option.some.inj H
          exact And.intro (by simp) (And.intro rfl rfl)
        · refine ite_f c25 (by kernel_rfl) ?_
          refine ends_skip ?_
          change EndsI _ _ _ _ _ _
          refine one_ops [] [] [(0, .c (dat 1 eI zI p0)), (1, .c (dat 1 eI zI p1)), (5, .c (.int .i64 (W (x18 + 1))))] [] (fun t => t) (by kernel_rfl) ?_
          obtain rfl := Option.some.inj H
          exact And.intro rfl rfl
      · refine ite_f c20 (by kernel_rfl) ?_
        refine tell [] [] [] (fun t => t) (by kernel_rfl) ?_
        refine ends_exit ?_
        obtain rfl := Option.some.inj H
        exact And.intro (by simp) (And.intro rfl rfl)
    · clear h27
      cases y26 with
      | inl y28 =>
        replace H := ofInl H
        intro e s q
        obtain ⟨rfl, rfl⟩ := q
        change EndsI _ _ _ _ _ _
        refine seq_ops [] [] [(4, .c (.bool true))] [] (fun t => t) (by kernel_rfl) ?_
        refine ends_ret ?_
        obtain rfl := Option.some.inj H
        exact And.intro (.inl rfl) rfl
      | inr y29 =>
        replace H := ofInr H
        intro e s q
        obtain ⟨rfl, rfl⟩ := q
        obtain rfl := Option.some.inj H
        exact And.intro (.inl rfl) rfl

def l_eqIntSS_ir : S :=
 (.seq (.ops [⟨some 4, .mv (.v (.bool false)), none⟩])
 (.seq (.seq (.ops [⟨some 6, .mv (.t 0), none⟩, ⟨some 7, .len (.t 6), none⟩, ⟨some 8, .mv (.t 1), none⟩, ⟨some 9, .len (.t 8), none⟩, ⟨some 10, .bin .neq (.t 7) (.t 9), none⟩])
 (.ite (.t 10) (.seq (.ops [⟨some 4, .mv (.v (.bool false)), none⟩])
  .ret)
 .skip))
 (.seq (.seq (.ops [⟨some 5, .mv (.v (.int .i64 0)), none⟩])
 (.blk 0 (.loop (.seq (.seq (.ops [⟨some 11, .mv (.t 5), none⟩, ⟨some 12, .mv (.t 0), none⟩, ⟨some 13, .len (.t 12), none⟩, ⟨some 14, .bin .lss (.t 11) (.t 13), none⟩])
   (.ite (.t 14) .skip
   (.exit 0)))
   (.seq (.blk 1 (.seq (.draw 10 [⟨some 17, .mv (.t 0), none⟩, ⟨some 18, .mv (.t 5), none⟩, ⟨some 19, .iad 1 (.t 17) (.t 18), none⟩, ⟨some 20, .load 1 false (.t 19), none⟩, ⟨some 21, .mv (.t 1), none⟩, ⟨some 22, .mv (.t 5), none⟩, ⟨some 23, .iad 1 (.t 21) (.t 22), none⟩, ⟨some 24, .load 1 false (.t 23), none⟩, ⟨some 25, .call 23 [.t 20, .t 24], none⟩, ⟨some 26, .not (.t 25), none⟩])
    (.ite (.t 26) (.seq (.ops [⟨some 4, .mv (.v (.bool false)), none⟩])
     .ret)
    .skip)))
   (.ops [⟨some 15, .mv (.t 5), none⟩, ⟨some 16, .bin .add (.t 15) (.v (.int .i64 1)), none⟩, ⟨some 5, .mv (.t 16), none⟩]))))))
 (.seq (.ops [⟨some 4, .mv (.v (.bool true)), none⟩])
 .ret))))
noncomputable def X.l_eqIntSS (p0 : (List (List Int))) (p1 : (List (List Int))) : Option Bool :=
  (bif ((p0.length : Int) != (p1.length : Int)) then some false else ((loop (fun (x22 : Int) => ((bif (decide (x22 < (p0.length : Int))) then ((at' zLI p0 x22).bind fun v25 => ((at' zLI p1 x22).bind fun v27 => ((X.l_eqIntS v25 v27).bind fun v29 => (bif (!v29) then some (Sum.inr (Sum.inr false)) else some (Sum.inl (W (x22 + 1))))))) else some (Sum.inr (Sum.inl ()))) : Option (Int ⊕ (Unit ⊕ Bool)))) 0).bind fun y32 => (Sum.elim (fun (y34 : Unit) => some true) (fun (y35 : Bool) => some y35) y32)))
theorem l_eqIntSS_ok (p0 : (List (List Int))) (p1 : (List (List Int))) (r : Bool) (H : X.l_eqIntSS p0 p1 = some r) : FnOk Try.prog gl 49 [.c (dat 1 eLI zLI p0), .c (dat 1 eLI zLI p1)] (.c (.bool r)) := by
  unfold X.l_eqIntSS at H
  refine fn_in (fn := Try.f49) (ir := l_eqIntSS_ir) (s1 := lit [(4, .c (.bool r))] []) Try.func49 (by kernel_rfl) (by kernel_rfl) (by kernel_rfl) (by kernel_rfl) (by kernel_rfl) ?_
  refine seq_ops [] [] [(0, .c (dat 1 eLI zLI p0)), (1, .c (dat 1 eLI zLI p1))] [] (fun t => t) (by kernel_rfl) ?_
  refine seq_in ?_
  refine seq_ops [] [] [(0, .c (dat 1 eLI zLI p0)), (1, .c (dat 1 eLI zLI p1)), (10, .c (.bool ((p0.length : Int) != (p1.length : Int))))] [] (fun t => (fun (_ : p0.length ≤ maxLen) => (fun (_ : p1.length ≤ maxLen) => t))) (by kernel_rfl) ?_
  rcases ofCond H with ⟨c2, H⟩ | ⟨c2, H⟩
  · refine ite_t c2 (by kernel_rfl) ?_
    refine seq_ops [] [] [(4, .c (.bool false))] [] (fun t => t) (by kernel_rfl) ?_
    refine ends_ret ?_
    obtain rfl := Option.some.inj H
    exact And.intro (.inl rfl) rfl
  · refine ite_f c2 (by kernel_rfl) ?_
    refine ends_skip ?_
    change EndsI _ _ _ _ _ _
    refine seq_in ?_
    refine seq_ops [] [] [(0, .c (dat 1 eLI zLI p0)), (1, .c (dat 1 eLI zLI p1)), (5, .c (.int .i64 0))] [] (fun t => t) (by kernel_rfl) ?_
    refine ends_blk ?_
    obtain ⟨y32, h33, H⟩ := ofBind H
    refine loop_in (fun (x : Int) => lit [(0, .c (dat 1 eLI zLI p0)), (1, .c (dat 1 eLI zLI p1)), (5, .c (.int .i64 x))] []) (orJ (fun (z : Unit) => At (.exit 0) (lit [] [])) (fun (z : Bool) => At .ret (lit [(4, .c (.bool z))] []))) h33 ?_ ?_
    · clear H h33
      intro x22 y0 H
      refine seq_in ?_
      refine seq_ops [] [] [(0, .c (dat 1 eLI zLI p0)), (1, .c (dat 1 eLI zLI p1)), (5, .c (.int .i64 x22)), (14, .c (.bool (decide (x22 < (p0.length : Int)))))] [] (fun t => (fun (_ : p0.length ≤ maxLen) => t)) (by kernel_rfl) ?_
      rcases ofCond H with ⟨c24, H⟩ | ⟨c24, H⟩
      · refine ite_t c24 (by kernel_rfl) ?_
        refine ends_skip ?_
        change EndsI _ _ _ _ _ _
        refine seq_in ?_
        refine ends_blk ?_
        obtain ⟨v25, h26, H⟩ := ofBind H
        obtain ⟨v27, h28, H⟩ := ofBind H
        obtain ⟨v29, h30, H⟩ := ofBind H
        refine seq_draw [.cs (eLI v25), .cs (eLI v27), .res (.c (.bool v29))] [] [(0, .c (dat 1 eLI zLI p0)), (1, .c (dat 1 eLI zLI p1)), (5, .c (.int .i64 x22)), (26, .c (.bool (!v29)))] [] (fun t => And.intro (at_lt h26) (And.intro (at_enc (enc := eLI) h26) (And.intro (rfl : ([] : List Nat) = []) (And.intro (at_lt h28) (And.intro (at_enc (enc := eLI) h28) (And.intro (rfl : ([] : List Nat) = []) (And.intro (l_eqIntS_ok v25 v27 v29 h30) (And.intro trivial (And.intro (rfl : ([] : List Nat) = []) (t)))))))))) (by kernel_rfl) ?_
        rcases ofCond H with ⟨c31, H⟩ | ⟨c31, H⟩
        · refine ite_t c31 (by kernel_rfl) ?_
          refine seq_ops [] [] [(4, .c (.bool false))] [] (fun t => t) (by kernel_rfl) ?_
          refine ends_ret ?_
          obtain rfl := Option.some.inj H
          exact And.intro (by simp) (And.intro rfl rfl)
        · refine ite_f c31 (by kernel_rfl) ?_
          refine ends_skip ?_
          change EndsI _ _ _ _ _ _
          refine one_ops [] [] [(0, .c (dat 1 eLI zLI p0)), (1, .c (dat 1 eLI zLI p1)), (5, .c (.int .i64 (W (x22 + 1))))] [] (fun t => t) (by kernel_rfl) ?_
          obtain rfl := Option.some.inj H
          exact And.intro rfl rfl
      · refine ite_f c24 (by kernel_rfl) ?_
        refine tell [] [] [] (fun t => t) (by kernel_rfl) ?_
        refine ends_exit ?_
        obtain rfl := Option.some.inj H
        exact And.intro (by simp) (And.intro rfl rfl)
    · clear h33
      cases y32 with
      | inl y34 =>
        replace H := ofInl H
        intro e s q
        obtain ⟨rfl, rfl⟩ := q
        change EndsI _ _ _ _ _ _
        refine seq_ops [] [] [(4, .c (.bool true))] [] (fun t => t) (by kernel_rfl) ?_
        refine ends_ret ?_
        obtain rfl := Option.some.inj H
        exact And.intro (.inl rfl) rfl
      | inr y35 =>
        replace H := ofInr H
        intro e s q
        obtain ⟨rfl, rfl⟩ := q
        obtain rfl := Option.some.inj H
        exact And.intro (.inl rfl) rfl

def l_eqClimate_ir : S :=
 (.seq (.ops [⟨some 2, .box 1 (.t 0), none⟩, ⟨some 3, .box 1 (.t 1), none⟩, ⟨some 4, .mv (.v (.bool false)), none⟩])
 (.seq (.seq (.ops [⟨some 5, .fad 0 (.t 2), none⟩, ⟨some 6, .load 1 false (.t 5), none⟩, ⟨some 7, .fad 0 (.t 3), none⟩, ⟨some 8, .load 1 false (.t 7), none⟩, ⟨some 9, .call 49 [.t 6, .t 8], none⟩, ⟨some 10, .not (.t 9), none⟩])
 (.ite (.t 10) (.seq (.ops [⟨some 4, .mv (.v (.bool false)), none⟩])
  .ret)
 .skip))
 (.seq (.ops [⟨some 4, .mv (.v (.bool true)), none⟩])
 .ret)))
noncomputable def X.l_eqClimate (p0 : TClimate) (p1 : TClimate) : Option Bool :=
  ((X.l_eqIntSS p0.Weights p1.Weights).bind fun v1 => (bif (!v1) then some false else some true))
theorem l_eqClimate_ok (p0 : TClimate) (p1 : TClimate) (r : Bool) (H : X.l_eqClimate p0 p1 = some r) : FnOk Try.prog gl 19 [.agg (eTClimate p0), .agg (eTClimate p1)] (.c (.bool r)) := by
  unfold X.l_eqClimate at H
  refine fn_in (fn := Try.f19) (ir := l_eqClimate_ir) (s1 := lit [(4, .c (.bool r))] []) Try.func19 (by kernel_rfl) (by kernel_rfl) (by kernel_rfl) (by kernel_rfl) (by kernel_rfl) ?_
  refine seq_ops [] [] [(2, .c (.pk 2 0)), (3, .c (.pk 3 0))] [(2, .var [dat 1 eLI zLI p0.Weights] false), (3, .var [dat 1 eLI zLI p1.Weights] false)] (fun t => t) (by kernel_rfl) ?_
  refine seq_in ?_
  obtain ⟨v1, h2, H⟩ := ofBind H
  refine seq_ops [.res (.c (.bool v1))] [] [(10, .c (.bool (!v1)))] [] (fun t => And.intro (l_eqIntSS_ok p0.Weights p1.Weights v1 h2) (t)) (by kernel_rfl) ?_
  rcases ofCond H with ⟨c3, H⟩ | ⟨c3, H⟩
  · refine ite_t c3 (by kernel_rfl) ?_
    refine seq_ops [] [] [(4, .c (.bool false))] [] (fun t => t) (by kernel_rfl) ?_
    refine ends_ret ?_
    obtain rfl := Option.some.inj H
    exact And.intro (.inl rfl) rfl
  · refine ite_f c3 (by kernel_rfl) ?_
    refine ends_skip ?_
    change EndsI _ _ _ _ _ _
    refine seq_ops [] [] [(4, .c (.bool true))] [] (fun t => t) (by kernel_rfl) ?_
    refine ends_ret ?_
    obtain rfl := Option.some.inj H
    exact And.intro (.inl rfl) rfl

def s_l1In_ir : S :=
 (.seq (.ops [⟨some 6, .mv (.v (.bool false)), none⟩])
 (.seq (.ops [⟨some 7, .mv (.t 0), none⟩, ⟨some 8, .mv (.t 1), none⟩, ⟨some 9, .bin .geq (.t 7) (.t 8), none⟩, ⟨some 10, .mv (.t 9), none⟩, ⟨some 11, .mv (.t 0), some (10, true)⟩, ⟨some 12, .mv (.t 2), some (10, true)⟩, ⟨some 13, .bin .leq (.t 11) (.t 12), some (10, true)⟩, ⟨some 14, .pick (.t 10) (.t 13) (.v (.bool false)), none⟩, ⟨some 6, .mv (.t 14), none⟩])
 .ret))
noncomputable def X.s_l1In (p0 : Int) (p1 : Int) (p2 : Int) : Option Bool :=
  (bif (decide (p0 ≥ p1)) then some (decide (p0 ≤ p2)) else some false)
theorem s_l1In_ok (p0 : Int) (p1 : Int) (p2 : Int) (r : Bool) (H : X.s_l1In p0 p1 p2 = some r) : FnOk Try.prog gl 43 [.c (.int .i64 p0), .c (.int .i64 p1), .c (.int .i64 p2)] (.c (.bool r)) := by
  unfold X.s_l1In at H
  refine fn_in (fn := Try.f43) (ir := s_l1In_ir) (s1 := lit [(6, .c (.bool r))] []) Try.func43 (by kernel_rfl) (by kernel_rfl) (by kernel_rfl) (by kernel_rfl) (by kernel_rfl) ?_
  refine seq_ops [] [] [(0, .c (.int .i64 p0)), (1, .c (.int .i64 p1)), (2, .c (.int .i64 p2))] [] (fun t => t) (by kernel_rfl) ?_
  rcases ofCond H with ⟨c1, H⟩ | ⟨c1, H⟩
  · refine seq_ops [.g true, .g true, .g true, .g true] [] [(6, .c (.bool (decide (p0 ≤ p2))))] [] (fun t => And.intro c1 (And.intro c1 (And.intro c1 (And.intro c1 (t))))) (by kernel_rfl) ?_
    refine ends_ret ?_
    obtain rfl := Option.some.inj H
    exact And.intro (.inl rfl) rfl
  · refine seq_ops [.g false, .g false, .g false, .g false] [] [(6, .c (.bool false))] [] (fun t => And.intro c1 (And.intro c1 (And.intro c1 (And.intro c1 (t))))) (by kernel_rfl) ?_
    refine ends_ret ?_
    obtain rfl := Option.some.inj H
    exact And.intro (.inl rfl) rfl

def s_l1All_ir : S :=
 (.seq (.ops [⟨some 6, .mv (.v (.bool false)), none⟩])
 (.seq (.seq (.ops [⟨some 9, .mv (.t 0), none⟩, ⟨some 10, .len (.t 9), none⟩, ⟨some 11, .mv (.v (.int .i64 0)), none⟩])
 (.blk 0 (.loop (.seq (.ops [⟨some 12, .bin .lss (.t 11) (.t 10), none⟩])
   (.seq (.ite (.t 12) .skip
   (.exit 0))
   (.seq (.blk 1 (.seq (.ops [⟨some 13, .iad 1 (.t 9) (.t 11), none⟩, ⟨some 14, .load 1 false (.t 13), none⟩, ⟨some 8, .mv (.t 14), none⟩])
    (.seq (.ops [⟨some 15, .mv (.t 8), none⟩, ⟨some 16, .mv (.t 1), none⟩, ⟨some 17, .mv (.t 2), none⟩, ⟨some 18, .call 43 [.t 15, .t 16, .t 17], none⟩, ⟨some 19, .not (.t 18), none⟩])
    (.ite (.t 19) (.seq (.ops [⟨some 6, .mv (.v (.bool false)), none⟩])
     .ret)
    .skip))))
   (.ops [⟨some 20, .bin .add (.t 11) (.v (.int .i64 1)), none⟩, ⟨some 11, .mv (.t 20), none⟩])))))))
 (.seq (.ops [⟨some 6, .mv (.v (.bool true)), none⟩])
 .ret)))
noncomputable def X.s_l1All (p0 : (List Int)) (p1 : Int) (p2 : Int) : Option Bool :=
  ((loop (fun (x16 : Int) => ((bif (decide (x16 < (p0.length : Int))) then ((at' zI p0 x16).bind fun v19 => ((X.s_l1In v19 p1 p2).bind fun v21 => (bif (!v21) then some (Sum.inr (Sum.inr false)) else some (Sum.inl (W (x16 + 1)))))) else some (Sum.inr (Sum.inl ()))) : Option (Int ⊕ (Unit ⊕ Bool)))) 0).bind fun y24 => (Sum.elim (fun (y26 : Unit) => some true) (fun (y27 : Bool) => some y27) y24))
theorem s_l1All_ok (p0 : (List Int)) (p1 : Int) (p2 : Int) (r : Bool) (H : X.s_l1All p0 p1 p2 = some r) : FnOk Try.prog gl 50 [.c (dat 1 eI zI p0), .c (.int .i64 p1), .c (.int .i64 p2)] (.c (.bool r)) := by
  unfold X.s_l1All at H
  refine fn_in (fn := Try.f50) (ir := s_l1All_ir) (s1 := lit [(6, .c (.bool r))] []) Try.func50 (by kernel_rfl) (by kernel_rfl) (by kernel_rfl) (by kernel_rfl) (by kernel_rfl) ?_
  refine seq_ops [] [] [(0, .c (dat 1 eI zI p0)), (1, .c (.int .i64 p1)), (2, .c (.int .i64 p2))] [] (fun t => t) (by kernel_rfl) ?_
  refine seq_in ?_
  refine seq_ops [] [] [(1, .c (.int .i64 p1)), (2, .c (.int .i64 p2)), (9, .c (dat 1 eI zI p0)), (10, .c (.int .i64 (p0.length : Int))), (11, .c (.int .i64 0))] [] (fun t => (fun (_ : p0.length ≤ maxLen) => t)) (by kernel_rfl) ?_
  refine ends_blk ?_
  obtain ⟨y24, h25, H⟩ := ofBind H
  refine loop_in (fun (x : Int) => lit [(1, .c (.int .i64 p1)), (2, .c (.int .i64 p2)), (9, .c (dat 1 eI zI p0)), (10, .c (.int .i64 (p0.length : Int))), (11, .c (.int .i64 x))] []) (orJ (fun (z : Unit) => At (.exit 0) (lit [] [])) (fun (z : Bool) => At .ret (lit [(6, .c (.bool z))] []))) h25 ?_ ?_
  · clear H h25
    intro x16 y0 H
    refine seq_ops [] [] [(1, .c (.int .i64 p1)), (2, .c (.int .i64 p2)), (9, .c (dat 1 eI zI p0)), (10, .c (.int .i64 (p0.length : Int))), (11, .c (.int .i64 x16)), (12, .c (.bool (decide (x16 < (p0.length : Int)))))] [] (fun t => t) (by kernel_rfl) ?_
    refine seq_in ?_
    rcases ofCond H with ⟨c18, H⟩ | ⟨c18, H⟩
    · refine ite_t c18 (by kernel_rfl) ?_
      refine ends_skip ?_
      change EndsI _ _ _ _ _ _
      refine seq_in ?_
      refine ends_blk ?_
      obtain ⟨v19, h20, H⟩ := ofBind H
      refine seq_ops [.cs (eI v19)] [] [(1, .c (.int .i64 p1)), (2, .c (.int .i64 p2)), (8, .c (.int .i64 v19)), (9, .c (dat 1 eI zI p0)), (10, .c (.int .i64 (p0.length : Int))), (11, .c (.int .i64 x16))] [] (fun t => And.intro (at_lt h20) (And.intro (at_enc (enc := eI) h20) (t))) (by kernel_rfl) ?_
      obtain ⟨v21, h22, H⟩ := ofBind H
      refine seq_ops [.res (.c (.bool v21))] [] [(1, .c (.int .i64 p1)), (2, .c (.int .i64 p2)), (9, .c (dat 1 eI zI p0)), (10, .c (.int .i64 (p0.length : Int))), (11, .c (.int .i64 x16)), (19, .c (.bool (!v21)))] [] (fun t => And.intro (s_l1In_ok v19 p1 p2 v21 h22) (t)) (by kernel_rfl) ?_
      rcases ofCond H with ⟨c23, H⟩ | ⟨c23, H⟩
      · refine ite_t c23 (by kernel_rfl) ?_
        refine seq_ops [] [] [(6, .c (.bool false))] [] (fun t => t) (by kernel_rfl) ?_
        refine ends_ret ?_
        obtain rfl := Option.some.inj H
        exact And.intro (by simp) (And.intro rfl rfl)
      · refine ite_f c23 (by kernel_rfl) ?_
        refine ends_skip ?_
        change EndsI _ _ _ _ _ _
        refine one_ops [] [] [(1, .c (.int .i64 p1)), (2, .c (.int .i64 p2)), (9, .c (dat 1 eI zI p0)), (10, .c (.int .i64 (p0.length : Int))), (11, .c (.int .i64 (W (x16 + 1))))] [] (fun t => t) (by kernel_rfl) ?_
        obtain rfl := Option.some.inj H
        exact And.intro rfl rfl
    · refine ite_f c18 (by kernel_rfl) ?_
      refine tell [] [] [] (fun t => t) (by kernel_rfl) ?_
      refine ends_exit ?_
      obtain rfl := Option.some.inj H
      exact And.intro (by simp) (And.intro rfl rfl)
  · clear h25
    cases y24 with
    | inl y26 =>
      replace H := ofInl H
      intro e s q
      obtain ⟨rfl, rfl⟩ := q
      change EndsI _ _ _ _ _ _
      refine seq_ops [] [] [(6, .c (.bool true))] [] (fun t => t) (by kernel_rfl) ?_
      refine ends_ret ?_
      obtain rfl := Option.some.inj H
      exact And.intro (.inl rfl) rfl
    | inr y27 =>
      replace H := ofInr H
      intro e s q
      obtain ⟨rfl, rfl⟩ := q
      obtain rfl := Option.some.inj H
      exact And.intro (.inl rfl) rfl

def s_wGood_ir : S :=
 (.seq (.ops [⟨some 1, .box 1 (.t 0), none⟩, ⟨some 2, .mv (.v (.bool false)), none⟩])
 (.seq (.seq (.ops [⟨some 5, .fad 0 (.t 1), none⟩, ⟨some 6, .load 1 false (.t 5), none⟩, ⟨some 7, .len (.t 6), none⟩, ⟨some 8, .bin .neq (.t 7) (.v (.int .i64 3)), none⟩])
 (.ite (.t 8) (.seq (.ops [⟨some 2, .mv (.v (.bool false)), none⟩])
  .ret)
 .skip))
 (.seq (.seq (.ops [⟨some 9, .fad 0 (.t 1), none⟩, ⟨some 10, .load 1 false (.t 9), none⟩, ⟨some 11, .len (.t 10), none⟩, ⟨some 12, .mv (.v (.int .i64 0)), none⟩])
 (.blk 0 (.loop (.seq (.ops [⟨some 13, .bin .lss (.t 12) (.t 11), none⟩])
   (.seq (.ite (.t 13) .skip
   (.exit 0))
   (.seq (.blk 1 (.seq (.ops [⟨some 14, .iad 1 (.t 10) (.t 12), none⟩, ⟨some 15, .load 1 false (.t 14), none⟩, ⟨some 4, .mv (.t 15), none⟩])
    (.seq (.draw 22 [⟨some 16, .mv (.t 4), none⟩, ⟨some 17, .len (.t 16), none⟩, ⟨some 18, .bin .neq (.t 17) (.v (.int .i64 3)), none⟩, ⟨some 19, .mv (.t 18), none⟩, ⟨some 20, .mv (.t 4), some (19, false)⟩, ⟨some 21, .call 50 [.t 20, .v (.int .i64 0), .v (.int .i64 36)], some (19, false)⟩, ⟨some 22, .not (.t 21), some (19, false)⟩, ⟨some 23, .pick (.t 19) (.v (.bool true)) (.t 22), none⟩, ⟨some 24, .mv (.t 23), none⟩, ⟨some 25, .mv (.t 4), some (24, false)⟩, ⟨some 26, .iad 1 (.t 25) (.v (.int .i64 0)), some (24, false)⟩, ⟨some 27, .load 1 false (.t 26), some (24, false)⟩, ⟨some 28, .mv (.t 4), some (24, false)⟩, ⟨some 29, .iad 1 (.t 28) (.v (.int .i64 1)), some (24, false)⟩, ⟨some 30, .load 1 false (.t 29), some (24, false)⟩, ⟨some 31, .bin .add (.t 27) (.t 30), some (24, false)⟩, ⟨some 32, .mv (.t 4), some (24, false)⟩, ⟨some 33, .iad 1 (.t 32) (.v (.int .i64 2)), some (24, false)⟩, ⟨some 34, .load 1 false (.t 33), some (24, false)⟩, ⟨some 35, .bin .add (.t 31) (.t 34), some (24, false)⟩, ⟨some 36, .bin .neq (.t 35) (.v (.int .i64 36)), some (24, false)⟩, ⟨some 37, .pick (.t 24) (.v (.bool true)) (.t 36), none⟩])
    (.ite (.t 37) (.seq (.ops [⟨some 2, .mv (.v (.bool false)), none⟩])
     .ret)
    .skip))))
   (.ops [⟨some 38, .bin .add (.t 12) (.v (.int .i64 1)), none⟩, ⟨some 12, .mv (.t 38), none⟩])))))))
 (.seq (.ops [⟨some 2, .mv (.v (.bool true)), none⟩])
 .ret))))
noncomputable def X.s_wGood (p0 : TClimate) : Option Bool :=
  (bif ((p0.Weights.length : Int) != 3) then some false else ((loop (fun (x34 : Int) => ((bif (decide (x34 < (p0.Weights.length : Int))) then ((at' zLI p0.Weights x34).bind fun v37 => (bif ((v37.length : Int) != 3) then some (Sum.inr (Sum.inr false)) else ((X.s_l1All v37 0 36).bind fun v40 => (bif (!v40) then some (Sum.inr (Sum.inr false)) else ((at' zI v37 0).bind fun v43 => ((at' zI v37 1).bind fun v45 => ((at' zI v37 2).bind fun v47 => (bif ((W ((W (v43 + v45)) + v47)) != 36) then some (Sum.inr (Sum.inr false)) else some (Sum.inl (W (x34 + 1))))))))))) else some (Sum.inr (Sum.inl ()))) : Option (Int ⊕ (Unit ⊕ Bool)))) 0).bind fun y50 => (Sum.elim (fun (y52 : Unit) => some true) (fun (y53 : Bool) => some y53) y50)))
theorem s_wGood_ok (p0 : TClimate) (r : Bool) (H : X.s_wGood p0 = some r) : FnOk Try.prog gl 45 [.agg (eTClimate p0)] (.c (.bool r)) := by
  unfold X.s_wGood at H
  refine fn_in (fn := Try.f45) (ir := s_wGood_ir) (s1 := lit [(2, .c (.bool r))] []) Try.func45 (by kernel_rfl) (by kernel_rfl) (by kernel_rfl) (by kernel_rfl) (by kernel_rfl) ?_
  refine seq_ops [] [] [(1, .c (.pk 1 0))] [(1, .var [dat 1 eLI zLI p0.Weights] false)] (fun t => t) (by kernel_rfl) ?_
  refine seq_in ?_
  refine seq_ops [] [] [(1, .c (.pk 1 0)), (8, .c (.bool ((p0.Weights.length : Int) != 3)))] [(1, .var [dat 1 eLI zLI p0.Weights] false)] (fun t => (fun (_ : p0.Weights.length ≤ maxLen) => t)) (by kernel_rfl) ?_
  rcases ofCond H with ⟨c2, H⟩ | ⟨c2, H⟩
  · refine ite_t c2 (by kernel_rfl) ?_
    refine seq_ops [] [] [(2, .c (.bool false))] [] (fun t => t) (by kernel_rfl) ?_
    refine ends_ret ?_
    obtain rfl := Option.some.inj H
    exact And.intro (.inl rfl) rfl
  · refine ite_f c2 (by kernel_rfl) ?_
    refine ends_skip ?_
    change EndsI _ _ _ _ _ _
    refine seq_in ?_
    refine seq_ops [] [] [(10, .c (dat 1 eLI zLI p0.Weights)), (11, .c (.int .i64 (p0.Weights.length : Int))), (12, .c (.int .i64 0))] [] (fun t => (fun (_ : p0.Weights.length ≤ maxLen) => t)) (by kernel_rfl) ?_
    refine ends_blk ?_
    obtain ⟨y50, h51, H⟩ := ofBind H
    refine loop_in (fun (x : Int) => lit [(10, .c (dat 1 eLI zLI p0.Weights)), (11, .c (.int .i64 (p0.Weights.length : Int))), (12, .c (.int .i64 x))] []) (orJ (fun (z : Unit) => At (.exit 0) (lit [] [])) (fun (z : Bool) => At .ret (lit [(2, .c (.bool z))] []))) h51 ?_ ?_
    · clear H h51
      intro x34 y0 H
      refine seq_ops [] [] [(10, .c (dat 1 eLI zLI p0.Weights)), (11, .c (.int .i64 (p0.Weights.length : Int))), (12, .c (.int .i64 x34)), (13, .c (.bool (decide (x34 < (p0.Weights.length : Int)))))] [] (fun t => t) (by kernel_rfl) ?_
      refine seq_in ?_
      rcases ofCond H with ⟨c36, H⟩ | ⟨c36, H⟩
      · refine ite_t c36 (by kernel_rfl) ?_
        refine ends_skip ?_
        change EndsI _ _ _ _ _ _
        refine seq_in ?_
        refine ends_blk ?_
        obtain ⟨v37, h38, H⟩ := ofBind H
        refine seq_ops [.cs (eLI v37)] [] [(4, .c (dat 1 eI zI v37)), (10, .c (dat 1 eLI zLI p0.Weights)), (11, .c (.int .i64 (p0.Weights.length : Int))), (12, .c (.int .i64 x34))] [] (fun t => And.intro (at_lt h38) (And.intro (at_enc (enc := eLI) h38) (t))) (by kernel_rfl) ?_
        rcases ofCond H with ⟨c39, H⟩ | ⟨c39, H⟩
        · refine seq_draw [.g true, .g true, .g true, .g true, .g true, .g true, .g true, .g true, .g true, .g true, .g true, .g true, .g true, .g true, .g true, .g true, .g true] [] [(10, .c (dat 1 eLI zLI p0.Weights)), (11, .c (.int .i64 (p0.Weights.length : Int))), (12, .c (.int .i64 x34)), (20, .tup []), (21, .tup []), (22, .tup []), (25, .tup []), (26, .tup []), (27, .tup []), (28, .tup []), (29, .tup []), (30, .tup []), (31, .tup []), (32, .tup []), (33, .tup []), (34, .tup []), (35, .tup []), (36, .tup []), (37, .c (.bool true))] [] (fun t => And.intro c39 (And.intro c39 (And.intro c39 (And.intro c39 (And.intro (rfl : (true : Bool) = true) (And.intro (rfl : (true : Bool) = true) (And.intro (rfl : (true : Bool) = true) (And.intro (rfl : (true : Bool) = true) (And.intro (rfl : (true : Bool) = true) (And.intro (rfl : (true : Bool) = true) (And.intro (rfl : (true : Bool) = true) (And.intro (rfl : (true : Bool) = true) (And.intro (rfl : (true : Bool) = true) (And.intro (rfl : (true : Bool) = true) (And.intro (rfl : (true : Bool) = true) (And.intro (rfl : (true : Bool) = true) (And.intro (rfl : (true : Bool) = true) (t)))))))))))))))))) (by kernel_rfl) ?_
          refine ite_t (rfl : (true : Bool) = true) (by kernel_rfl) ?_
          refine seq_ops [] [] [(2, .c (.bool false))] [] (fun t => t) (by kernel_rfl) ?_
          refine ends_ret ?_
          obtain rfl := Option.some.inj H
          exact And.intro (by simp) (And.intro rfl rfl)
        · obtain ⟨v40, h41, H⟩ := ofBind H
          rcases ofCond H with ⟨c42, H⟩ | ⟨c42, H⟩
          · refine seq_draw [.g false, .g false, .res (.c (.bool v40)), .g false, .g false, .g true, .g true, .g true, .g true, .g true, .g true, .g true, .g true, .g true, .g true, .g true, .g true, .g true] [] [(10, .c (dat 1 eLI zLI p0.Weights)), (11, .c (.int .i64 (p0.Weights.length : Int))), (12, .c (.int .i64 x34)), (20, .c (dat 1 eI zI v37)), (21, .c (.bool v40)), (22, .c (.bool (!v40))), (25, .tup []), (26, .tup []), (27, .tup []), (28, .tup []), (29, .tup []), (30, .tup []), (31, .tup []), (32, .tup []), (33, .tup []), (34, .tup []), (35, .tup []), (36, .tup []), (37, .c (.bool true))] [] (fun t => And.intro c39 (And.intro c39 (And.intro (s_l1All_ok v37 0 36 v40 h41) (And.intro trivial (And.intro (rfl : ([] : List Nat) = []) (And.intro c39 (And.intro c39 (And.intro c42 (And.intro c42 (And.intro c42 (And.intro c42 (And.intro c42 (And.intro c42 (And.intro c42 (And.intro c42 (And.intro c42 (And.intro c42 (And.intro c42 (And.intro c42 (And.intro c42 (t))))))))))))))))))))) (by kernel_rfl) ?_
            refine ite_t (rfl : (true : Bool) = true) (by kernel_rfl) ?_
            refine seq_ops [] [] [(2, .c (.bool false))] [] (fun t => t) (by kernel_rfl) ?_
            refine ends_ret ?_
            obtain rfl := Option.some.inj H
            exact And.intro (by simp) (And.intro rfl rfl)
          · obtain ⟨v43, h44, H⟩ := ofBind H
            obtain ⟨v45, h46, H⟩ := ofBind H
            obtain ⟨v47, h48, H⟩ := ofBind H
            refine seq_draw [.g false, .g false, .res (.c (.bool v40)), .g false, .g false, .g false, .g false, .cs (eI v43), .g false, .g false, .g false, .cs (eI v45), .g false, .g false, .g false, .g false, .cs (eI v47), .g false, .g false, .g false, .g false] [] [(10, .c (dat 1 eLI zLI p0.Weights)), (11, .c (.int .i64 (p0.Weights.length : Int))), (12, .c (.int .i64 x34)), (20, .c (dat 1 eI zI v37)), (21, .c (.bool v40)), (22, .c (.bool (!v40))), (25, .c (dat 1 eI zI v37)), (26, .c (.pd (eI v43) 0)), (27, .c (.int .i64 v43)), (28, .c (dat 1 eI zI v37)), (29, .c (.pd (eI v45) 0)), (30, .c (.int .i64 v45)), (31, .c (.int .i64 (W (v43 + v45)))), (32, .c (dat 1 eI zI v37)), (33, .c (.pd (eI v47) 0)), (34, .c (.int .i64 v47)), (35, .c (.int .i64 (W ((W (v43 + v45)) + v47)))), (36, .c (.bool ((W ((W (v43 + v45)) + v47)) != 36))), (37, .c (.bool ((W ((W (v43 + v45)) + v47)) != 36)))] [] (fun t => And.intro c39 (And.intro c39 (And.intro (s_l1All_ok v37 0 36 v40 h41) (And.intro trivial (And.intro (rfl : ([] : List Nat) = []) (And.intro c39 (And.intro c39 (And.intro c42 (And.intro c42 (And.intro (at_lt h44) (And.intro (at_enc (enc := eI) h44) (And.intro c42 (And.intro (rfl : ([] : List Nat) = []) (And.intro c42 (And.intro c42 (And.intro (at_lt h46) (And.intro (at_enc (enc := eI) h46) (And.intro c42 (And.intro (rfl : ([] : List Nat) = []) (And.intro c42 (And.intro c42 (And.intro c42 (And.intro (at_lt h48) (And.intro (at_enc (enc := eI) h48) (And.intro c42 (And.intro (rfl : ([] : List Nat) = []) (And.intro c42 (And.intro c42 (And.intro c42 (t)))))))))))))))))))))))))))))) (by kernel_rfl) ?_
            rcases ofCond H with ⟨c49, H⟩ | ⟨c49, H⟩
            · refine ite_t c49 (by kernel_rfl) ?_
              refine seq_ops [] [] [(2, .c (.bool false))] [] (fun t => t) (by kernel_rfl) ?_
              refine ends_ret ?_
              obtain rfl := Option.some.inj H
              exact And.intro (by simp) (And.intro rfl rfl)
            · refine ite_f c49 (by kernel_rfl) ?_
              refine ends_skip ?_
              change EndsI _ _ _ _ _ _
              refine one_ops [] [] [(10, .c (dat 1 eLI zLI p0.Weights)), (11, .c (.int .i64 (p0.Weights.length : Int))), (12, .c (.int .i64 (W (x34 + 1))))] [] (fun t => t) (by kernel_rfl) ?_
              obtain rfl := Option.some.inj H
              exact And.intro rfl rfl
      · refine ite_f c36 (by kernel_rfl) ?_
        refine tell [] [] [] (fun t => t) (by kernel_rfl) ?_
        refine ends_exit ?_
        obtain rfl := Option.some.inj H
        exact And.intro (by simp) (And.intro rfl rfl)
    · clear h51
      cases y50 with
      | inl y52 =>
        replace H := ofInl H
        intro e s q
        obtain ⟨rfl, rfl⟩ := q
        change EndsI _ _ _ _ _ _
        refine seq_ops [] [] [(2, .c (.bool true))] [] (fun t => t) (by kernel_rfl) ?_
        refine ends_ret ?_
        obtain rfl := Option.some.inj H
        exact And.intro (.inl rfl) rfl
      | inr y53 =>
        replace H := ofInr H
        intro e s q
        obtain ⟨rfl, rfl⟩ := q
        obtain rfl := Option.some.inj H
        exact And.intro (.inl rfl) rfl

def s_wLikelihood_ir : S :=
 (.seq (.ops [⟨some 2, .box 1 (.t 0), none⟩, ⟨some 4, .mv (.v (.int .i64 0)), none⟩])
 (.seq (.ops [⟨some 5, .mv (.v (.int .i64 1)), none⟩])
 (.seq (.seq (.ops [⟨some 6, .mv (.v (.int .i64 1)), none⟩])
 (.blk 0 (.loop (.seq (.seq (.ops [⟨some 7, .mv (.t 6), none⟩, ⟨some 8, .mv (.t 1), none⟩, ⟨some 9, .len (.t 8), none⟩, ⟨some 10, .bin .lss (.t 7) (.t 9), none⟩])
   (.ite (.t 10) .skip
   (.exit 0)))
   (.seq (.blk 1 (.draw 18 [⟨some 13, .mv (.t 5), none⟩, ⟨some 14, .fad 0 (.t 2), none⟩, ⟨some 15, .load 1 false (.t 14), none⟩, ⟨some 16, .mv (.t 1), none⟩, ⟨some 17, .mv (.t 6), none⟩, ⟨some 18, .bin .sub (.t 17) (.v (.int .i64 1)), none⟩, ⟨some 19, .iad 1 (.t 16) (.t 18), none⟩, ⟨some 20, .load 1 false (.t 19), none⟩, ⟨some 21, .iad 1 (.t 15) (.t 20), none⟩, ⟨some 22, .load 1 false (.t 21), none⟩, ⟨some 23, .mv (.t 1), none⟩, ⟨some 24, .mv (.t 6), none⟩, ⟨some 25, .iad 1 (.t 23) (.t 24), none⟩, ⟨some 26, .load 1 false (.t 25), none⟩, ⟨some 27, .iad 1 (.t 22) (.t 26), none⟩, ⟨some 28, .load 1 false (.t 27), none⟩, ⟨some 29, .bin .mul (.t 13) (.t 28), none⟩, ⟨some 5, .mv (.t 29), none⟩]))
   (.ops [⟨some 11, .mv (.t 6), none⟩, ⟨some 12, .bin .add (.t 11) (.v (.int .i64 1)), none⟩, ⟨some 6, .mv (.t 12), none⟩]))))))
 (.seq (.ops [⟨some 30, .mv (.t 5), none⟩, ⟨some 4, .mv (.t 30), none⟩])
 .ret))))
noncomputable def X.s_wLikelihood (p0 : TClimate) (p1 : (List Int)) : Option Int :=
  ((loop (fun (x22 : (Int × Int)) => ((bif (decide (x22.2 < (p1.length : Int))) then ((at' zI p1 (W (x22.2 - 1))).bind fun v25 => ((at' zLI p0.Weights v25).bind fun v27 => ((at' zI p1 x22.2).bind fun v29 => ((at' zI v27 v29).bind fun v31 => some (Sum.inl ((W (x22.1 * v31)), (W (x22.2 + 1)))))))) else some (Sum.inr x22.1)) : Option ((Int × Int) ⊕ Int))) (1, 1)).bind fun y33 => some y33)
theorem s_wLikelihood_ok (p0 : TClimate) (p1 : (List Int)) (r : Int) (H : X.s_wLikelihood p0 p1 = some r) : FnOk Try.prog gl 51 [.agg (eTClimate p0), .c (dat 1 eI zI p1)] (.c (.int .i64 r)) := by
  unfold X.s_wLikelihood at H
  refine fn_in (fn := Try.f51) (ir := s_wLikelihood_ir) (s1 := lit [(4, .c (.int .i64 r))] []) Try.func51 (by kernel_rfl) (by kernel_rfl) (by kernel_rfl) (by kernel_rfl) (by kernel_rfl) ?_
  refine seq_ops [] [] [(1, .c (dat 1 eI zI p1)), (2, .c (.pk 2 0))] [(2, .var [dat 1 eLI zLI p0.Weights] false)] (fun t => t) (by kernel_rfl) ?_
  refine seq_ops [] [] [(1, .c (dat 1 eI zI p1)), (2, .c (.pk 2 0)), (5, .c (.int .i64 1))] [(2, .var [dat 1 eLI zLI p0.Weights] false)] (fun t => t) (by kernel_rfl) ?_
  refine seq_in ?_
  refine seq_ops [] [] [(1, .c (dat 1 eI zI p1)), (2, .c (.pk 2 0)), (5, .c (.int .i64 1)), (6, .c (.int .i64 1))] [(2, .var [dat 1 eLI zLI p0.Weights] false)] (fun t => t) (by kernel_rfl) ?_
  refine ends_blk ?_
  obtain ⟨y33, h34, H⟩ := ofBind H
  refine loop_in (fun (x : (Int × Int)) => lit [(1, .c (dat 1 eI zI p1)), (2, .c (.pk 2 0)), (5, .c (.int .i64 x.1)), (6, .c (.int .i64 x.2))] [(2, .var [dat 1 eLI zLI p0.Weights] false)]) (fun (z : Int) => At (.exit 0) (lit [(5, .c (.int .i64 z))] [])) h34 ?_ ?_
  · clear H h34
    intro x22 y0 H
    refine seq_in ?_
    refine seq_ops [] [] [(1, .c (dat 1 eI zI p1)), (2, .c (.pk 2 0)), (5, .c (.int .i64 x22.1)), (6, .c (.int .i64 x22.2)), (10, .c (.bool (decide (x22.2 < (p1.length : Int)))))] [(2, .var [dat 1 eLI zLI p0.Weights] false)] (fun t => (fun (_ : p1.length ≤ maxLen) => t)) (by kernel_rfl) ?_
    rcases ofCond H with ⟨c24, H⟩ | ⟨c24, H⟩
    · refine ite_t c24 (by kernel_rfl) ?_
      refine ends_skip ?_
      change EndsI _ _ _ _ _ _
      refine seq_in ?_
      refine ends_blk ?_
      obtain ⟨v25, h26, H⟩ := ofBind H
      obtain ⟨v27, h28, H⟩ := ofBind H
      obtain ⟨v29, h30, H⟩ := ofBind H
      obtain ⟨v31, h32, H⟩ := ofBind H
      refine one_draw [.cs (eI v25), .cs (eLI v27), .cs (eI v29), .cs (eI v31)] [] [(1, .c (dat 1 eI zI p1)), (2, .c (.pk 2 0)), (5, .c (.int .i64 (W (x22.1 * v31)))), (6, .c (.int .i64 x22.2))] [(2, .var [dat 1 eLI zLI p0.Weights] false)] (fun t => And.intro (at_lt h26) (And.intro (at_enc (enc := eI) h26) (And.intro (rfl : ([] : List Nat) = []) (And.intro (at_lt h28) (And.intro (at_enc (enc := eLI) h28) (And.intro (rfl : ([] : List Nat) = []) (And.intro (at_lt h30) (And.intro (at_enc (enc := eI) h30) (And.intro (rfl : ([] : List Nat) = []) (And.intro (at_lt h32) (And.intro (at_enc (enc := eI) h32) (And.intro (rfl : ([] : List Nat) = []) (t))))))))))))) (by kernel_rfl) ?_
      change EndsI _ _ _ _ _ _
      refine one_ops [] [] [(1, .c (dat 1 eI zI p1)), (2, .c (.pk 2 0)), (5, .c (.int .i64 (W (x22.1 * v31)))), (6, .c (.int .i64 (W (x22.2 + 1))))] [(2, .var [dat 1 eLI zLI p0.Weights] false)] (fun t => t) (by kernel_rfl) ?_
      obtain rfl := Option.some.inj H
      exact And.intro rfl rfl
    · refine ite_f c24 (by kernel_rfl) ?_
      refine tell [] [(5, .c (.int .i64 x22.1))] [] (fun t => t) (by kernel_rfl) ?_
      refine ends_exit ?_
      obtain rfl := Option.some.inj H
      exact And.intro (by simp) (And.intro rfl rfl)
  · clear h34
    intro e s q
    obtain ⟨rfl, rfl⟩ := q
    change EndsI _ _ _ _ _ _
    refine seq_ops [] [] [(4, .c (.int .i64 y33))] [] (fun t => t) (by kernel_rfl) ?_
    refine ends_ret ?_
    obtain rfl := Option.some.inj H
    exact And.intro (.inl rfl) rfl

def s_LikelihoodOf_ir : S :=
 (.seq (.ops [⟨some 2, .box 1 (.t 0), none⟩, ⟨some 4, .mv (.v (.int .i64 0)), none⟩, ⟨some 5, .mv (.v (.bool false)), none⟩])
 (.seq (.seq (.ops [⟨some 6, .load 1 true (.t 2), none⟩, ⟨some 7, .call 45 [.t 6], none⟩, ⟨some 8, .not (.t 7), none⟩, ⟨some 9, .mv (.t 8), none⟩, ⟨some 10, .mv (.t 1), some (9, false)⟩, ⟨some 11, .len (.t 10), some (9, false)⟩, ⟨some 12, .call 43 [.t 11, .v (.int .i64 1), .v (.int .i64 7)], some (9, false)⟩, ⟨some 13, .not (.t 12), some (9, false)⟩, ⟨some 14, .pick (.t 9) (.v (.bool true)) (.t 13), none⟩, ⟨some 15, .mv (.t 14), none⟩, ⟨some 16, .mv (.t 1), some (15, false)⟩, ⟨some 17, .call 50 [.t 16, .v (.int .i64 0), .v (.int .i64 2)], some (15, false)⟩, ⟨some 18, .not (.t 17), some (15, false)⟩, ⟨some 19, .pick (.t 15) (.v (.bool true)) (.t 18), none⟩])
 (.ite (.t 19) (.seq (.ops [⟨some 4, .mv (.v (.int .i64 0)), none⟩, ⟨some 5, .mv (.v (.bool false)), none⟩])
  .ret)
 .skip))
 (.seq (.ops [⟨some 20, .load 1 true (.t 2), none⟩, ⟨some 21, .mv (.t 1), none⟩, ⟨some 22, .call 51 [.t 20, .t 21], none⟩, ⟨some 4, .mv (.t 22), none⟩, ⟨some 5, .mv (.v (.bool true)), none⟩])
 .ret)))
noncomputable def X.s_LikelihoodOf (p0 : TClimate) (p1 : (List Int)) : Option (Int × Bool) :=
  ((X.s_wGood p0).bind fun v1 => (bif (!v1) then some (0, false) else ((X.s_l1In (p1.length : Int) 1 7).bind fun v4 => (bif (!v4) then some (0, false) else ((X.s_l1All p1 0 2).bind fun v7 => (bif (!v7) then some (0, false) else ((X.s_wLikelihood p0 p1).bind fun v10 => some (v10, true))))))))
theorem s_LikelihoodOf_ok (p0 : TClimate) (p1 : (List Int)) (r : (Int × Bool)) (H : X.s_LikelihoodOf p0 p1 = some r) : FnOk Try.prog gl 20 [.agg (eTClimate p0), .c (dat 1 eI zI p1)] (.tup [(false, [.int .i64 r.1]), (false, [.bool r.2])]) := by
  unfold X.s_LikelihoodOf at H
  refine fn_in (fn := Try.f20) (ir := s_LikelihoodOf_ir) (s1 := lit [(4, .c (.int .i64 r.1)), (5, .c (.bool r.2))] []) Try.func20 (by kernel_rfl) (by kernel_rfl) (by kernel_rfl) (by kernel_rfl) (by kernel_rfl) ?_
  refine seq_ops [] [] [(1, .c (dat 1 eI zI p1)), (2, .c (.pk 2 0))] [(2, .var [dat 1 eLI zLI p0.Weights] false)] (fun t => t) (by kernel_rfl) ?_
  refine seq_in ?_
  obtain ⟨v1, h2, H⟩ := ofBind H
  rcases ofCond H with ⟨c3, H⟩ | ⟨c3, H⟩
  · refine seq_ops [.res (.c (.bool v1)), .g true, .g true, .g true, .g true, .g true, .g true, .g true, .g true, .g true] [] [(1, .c (dat 1 eI zI p1)), (2, .c (.pk 2 0)), (19, .c (.bool true))] [(2, .var [dat 1 eLI zLI p0.Weights] false)] (fun t => And.intro (s_wGood_ok p0 v1 h2) (And.intro c3 (And.intro c3 (And.intro c3 (And.intro c3 (And.intro c3 (And.intro (rfl : (true : Bool) = true) (And.intro (rfl : (true : Bool) = true) (And.intro (rfl : (true : Bool) = true) (And.intro (rfl : (true : Bool) = true) (t))))))))))) (by kernel_rfl) ?_
    refine ite_t (rfl : (true : Bool) = true) (by kernel_rfl) ?_
    refine seq_ops [] [] [(4, .c (.int .i64 0)), (5, .c (.bool false))] [] (fun t => t) (by kernel_rfl) ?_
    refine ends_ret ?_
    obtain rfl := Option.some.inj H
    exact And.intro (.inl rfl) rfl
  · obtain ⟨v4, h5, H⟩ := ofBind H
    rcases ofCond H with ⟨c6, H⟩ | ⟨c6, H⟩
    · refine seq_ops [.res (.c (.bool v1)), .g false, .g false, .g false, .res (.c (.bool v4)), .g false, .g false, .g true, .g true, .g true, .g true] [] [(1, .c (dat 1 eI zI p1)), (2, .c (.pk 2 0)), (19, .c (.bool true))] [(2, .var [dat 1 eLI zLI p0.Weights] false)] (fun t => And.intro (s_wGood_ok p0 v1 h2) (And.intro c3 (And.intro c3 ((fun (_ : p1.length ≤ maxLen) => And.intro c3 (And.intro (s_l1In_ok (p1.length : Int) 1 7 v4 h5) (And.intro c3 (And.intro c3 (And.intro c6 (And.intro c6 (And.intro c6 (And.intro c6 (t))))))))))))) (by kernel_rfl) ?_
      refine ite_t (rfl : (true : Bool) = true) (by kernel_rfl) ?_
      refine seq_ops [] [] [(4, .c (.int .i64 0)), (5, .c (.bool false))] [] (fun t => t) (by kernel_rfl) ?_
      refine ends_ret ?_
      obtain rfl := Option.some.inj H
      exact And.intro (.inl rfl) rfl
    · obtain ⟨v7, h8, H⟩ := ofBind H
      refine seq_ops [.res (.c (.bool v1)), .g false, .g false, .g false, .res (.c (.bool v4)), .g false, .g false, .g false, .g false, .res (.c (.bool v7)), .g false, .g false] [] [(1, .c (dat 1 eI zI p1)), (2, .c (.pk 2 0)), (19, .c (.bool (!v7)))] [(2, .var [dat 1 eLI zLI p0.Weights] false)] (fun t => And.intro (s_wGood_ok p0 v1 h2) (And.intro c3 (And.intro c3 ((fun (_ : p1.length ≤ maxLen) => And.intro c3 (And.intro (s_l1In_ok (p1.length : Int) 1 7 v4 h5) (And.intro c3 (And.intro c3 (And.intro c6 (And.intro c6 (And.intro (s_l1All_ok p1 0 2 v7 h8) (And.intro c6 (And.intro c6 (t)))))))))))))) (by kernel_rfl) ?_
      rcases ofCond H with ⟨c9, H⟩ | ⟨c9, H⟩
      · refine ite_t c9 (by kernel_rfl) ?_
        refine seq_ops [] [] [(4, .c (.int .i64 0)), (5, .c (.bool false))] [] (fun t => t) (by kernel_rfl) ?_
        refine ends_ret ?_
        obtain rfl := Option.some.inj H
        exact And.intro (.inl rfl) rfl
      · refine ite_f c9 (by kernel_rfl) ?_
        refine ends_skip ?_
        change EndsI _ _ _ _ _ _
        obtain ⟨v10, h11, H⟩ := ofBind H
        refine seq_ops [.res (.c (.int .i64 v10))] [] [(4, .c (.int .i64 v10)), (5, .c (.bool true))] [] (fun t => And.intro (s_wLikelihood_ok p0 p1 v10 h11) (t)) (by kernel_rfl) ?_
        refine ends_ret ?_
        obtain rfl := Option.some.inj H
        exact And.intro (.inl rfl) rfl

def i_sumOf_ir : S :=
 (.seq (.ops [⟨some 2, .mv (.v (.int .i64 0)), none⟩])
 (.seq (.ops [⟨some 3, .mv (.v (.int .i64 0)), none⟩])
 (.seq (.seq (.ops [⟨some 6, .mv (.t 0), none⟩, ⟨some 7, .len (.t 6), none⟩, ⟨some 8, .mv (.v (.int .i64 0)), none⟩])
 (.blk 0 (.loop (.seq (.ops [⟨some 9, .bin .lss (.t 8) (.t 7), none⟩])
   (.seq (.ite (.t 9) .skip
   (.exit 0))
   (.seq (.blk 1 (.seq (.ops [⟨some 10, .iad 1 (.t 6) (.t 8), none⟩, ⟨some 11, .load 1 false (.t 10), none⟩, ⟨some 5, .mv (.t 11), none⟩])
    (.ops [⟨some 12, .mv (.t 3), none⟩, ⟨some 13, .mv (.t 5), none⟩, ⟨some 14, .bin .add (.t 12) (.t 13), none⟩, ⟨some 3, .mv (.t 14), none⟩])))
   (.ops [⟨some 15, .bin .add (.t 8) (.v (.int .i64 1)), none⟩, ⟨some 8, .mv (.t 15), none⟩])))))))
 (.seq (.ops [⟨some 16, .mv (.t 3), none⟩, ⟨some 2, .mv (.t 16), none⟩])
 .ret))))
noncomputable def X.i_sumOf (p0 : (List Int)) : Option Int :=
  ((loop (fun (x10 : (Int × Int)) => ((bif (decide (x10.2 < (p0.length : Int))) then ((at' zI p0 x10.2).bind fun v13 => some (Sum.inl ((W (x10.1 + v13)), (W (x10.2 + 1))))) else some (Sum.inr x10.1)) : Option ((Int × Int) ⊕ Int))) (0, 0)).bind fun y15 => some y15)
theorem i_sumOf_ok (p0 : (List Int)) (r : Int) (H : X.i_sumOf p0 = some r) : FnOk Try.prog gl 47 [.c (dat 1 eI zI p0)] (.c (.int .i64 r)) := by
  unfold X.i_sumOf at H
  refine fn_in (fn := Try.f47) (ir := i_sumOf_ir) (s1 := lit [(2, .c (.int .i64 r))] []) Try.func47 (by kernel_rfl) (by kernel_rfl) (by kernel_rfl) (by kernel_rfl) (by kernel_rfl) ?_
  refine seq_ops [] [] [(0, .c (dat 1 eI zI p0))] [] (fun t => t) (by kernel_rfl) ?_
  refine seq_ops [] [] [(0, .c (dat 1 eI zI p0)), (3, .c (.int .i64 0))] [] (fun t => t) (by kernel_rfl) ?_
  refine seq_in ?_
  refine seq_ops [] [] [(3, .c (.int .i64 0)), (6, .c (dat 1 eI zI p0)), (7, .c (.int .i64 (p0.length : Int))), (8, .c (.int .i64 0))] [] (fun t => (fun (_ : p0.length ≤ maxLen) => t)) (by kernel_rfl) ?_
  refine ends_blk ?_
  obtain ⟨y15, h16, H⟩ := ofBind H
  refine loop_in (fun (x : (Int × Int)) => lit [(3, .c (.int .i64 x.1)), (6, .c (dat 1 eI zI p0)), (7, .c (.int .i64 (p0.length : Int))), (8, .c (.int .i64 x.2))] []) (fun (z : Int) => At (.exit 0) (lit [(3, .c (.int .i64 z))] [])) h16 ?_ ?_
  · clear H h16
    intro x10 y0 H
    refine seq_ops [] [] [(3, .c (.int .i64 x10.1)), (6, .c (dat 1 eI zI p0)), (7, .c (.int .i64 (p0.length : Int))), (8, .c (.int .i64 x10.2)), (9, .c (.bool (decide (x10.2 < (p0.length : Int)))))] [] (fun t => t) (by kernel_rfl) ?_
    refine seq_in ?_
    rcases ofCond H with ⟨c12, H⟩ | ⟨c12, H⟩
    · refine ite_t c12 (by kernel_rfl) ?_
      refine ends_skip ?_
      change EndsI _ _ _ _ _ _
      refine seq_in ?_
      refine ends_blk ?_
      obtain ⟨v13, h14, H⟩ := ofBind H
      refine seq_ops [.cs (eI v13)] [] [(3, .c (.int .i64 x10.1)), (5, .c (.int .i64 v13)), (6, .c (dat 1 eI zI p0)), (7, .c (.int .i64 (p0.length : Int))), (8, .c (.int .i64 x10.2))] [] (fun t => And.intro (at_lt h14) (And.intro (at_enc (enc := eI) h14) (t))) (by kernel_rfl) ?_
      refine one_ops [] [] [(3, .c (.int .i64 (W (x10.1 + v13)))), (6, .c (dat 1 eI zI p0)), (7, .c (.int .i64 (p0.length : Int))), (8, .c (.int .i64 x10.2))] [] (fun t => t) (by kernel_rfl) ?_
      change EndsI _ _ _ _ _ _
      refine one_ops [] [] [(3, .c (.int .i64 (W (x10.1 + v13)))), (6, .c (dat 1 eI zI p0)), (7, .c (.int .i64 (p0.length : Int))), (8, .c (.int .i64 (W (x10.2 + 1))))] [] (fun t => t) (by kernel_rfl) ?_
      obtain rfl := Option.some.inj H
      exact And.intro rfl rfl
    · refine ite_f c12 (by kernel_rfl) ?_
      refine tell [] [(3, .c (.int .i64 x10.1))] [] (fun t => t) (by kernel_rfl) ?_
      refine ends_exit ?_
      obtain rfl := Option.some.inj H
      exact And.intro (by simp) (And.intro rfl rfl)
  · clear h16
    intro e s q
    obtain ⟨rfl, rfl⟩ := q
    change EndsI _ _ _ _ _ _
    refine seq_ops [] [] [(2, .c (.int .i64 y15))] [] (fun t => t) (by kernel_rfl) ?_
    refine ends_ret ?_
    obtain rfl := Option.some.inj H
    exact And.intro (.inl rfl) rfl

def i_inRange_ir : S :=
 (.seq (.ops [⟨some 6, .mv (.v (.bool false)), none⟩])
 (.seq (.ops [⟨some 7, .mv (.t 1), none⟩, ⟨some 8, .mv (.t 0), none⟩, ⟨some 9, .bin .leq (.t 7) (.t 8), none⟩, ⟨some 10, .mv (.t 9), none⟩, ⟨some 11, .mv (.t 0), some (10, true)⟩, ⟨some 12, .mv (.t 2), some (10, true)⟩, ⟨some 13, .bin .leq (.t 11) (.t 12), some (10, true)⟩, ⟨some 14, .pick (.t 10) (.t 13) (.v (.bool false)), none⟩, ⟨some 6, .mv (.t 14), none⟩])
 .ret))
noncomputable def X.i_inRange (p0 : Int) (p1 : Int) (p2 : Int) : Option Bool :=
  (bif (decide (p1 ≤ p0)) then some (decide (p0 ≤ p2)) else some false)
theorem i_inRange_ok (p0 : Int) (p1 : Int) (p2 : Int) (r : Bool) (H : X.i_inRange p0 p1 p2 = some r) : FnOk Try.prog gl 48 [.c (.int .i64 p0), .c (.int .i64 p1), .c (.int .i64 p2)] (.c (.bool r)) := by
  unfold X.i_inRange at H
  refine fn_in (fn := Try.f48) (ir := i_inRange_ir) (s1 := lit [(6, .c (.bool r))] []) Try.func48 (by kernel_rfl) (by kernel_rfl) (by kernel_rfl) (by kernel_rfl) (by kernel_rfl) ?_
  refine seq_ops [] [] [(0, .c (.int .i64 p0)), (1, .c (.int .i64 p1)), (2, .c (.int .i64 p2))] [] (fun t => t) (by kernel_rfl) ?_
  rcases ofCond H with ⟨c1, H⟩ | ⟨c1, H⟩
  · refine seq_ops [.g true, .g true, .g true, .g true] [] [(6, .c (.bool (decide (p0 ≤ p2))))] [] (fun t => And.intro c1 (And.intro c1 (And.intro c1 (And.intro c1 (t))))) (by kernel_rfl) ?_
    refine ends_ret ?_
    obtain rfl := Option.some.inj H
    exact And.intro (.inl rfl) rfl
  · refine seq_ops [.g false, .g false, .g false, .g false] [] [(6, .c (.bool false))] [] (fun t => And.intro c1 (And.intro c1 (And.intro c1 (And.intro c1 (t))))) (by kernel_rfl) ?_
    refine ends_ret ?_
    obtain rfl := Option.some.inj H
    exact And.intro (.inl rfl) rfl

def i_IsClimate_ir : S :=
 (.seq (.ops [⟨some 1, .box 1 (.t 0), none⟩, ⟨some 2, .mv (.v (.bool false)), none⟩])
 (.seq (.seq (.ops [⟨some 7, .fad 0 (.t 1), none⟩, ⟨some 8, .load 1 false (.t 7), none⟩, ⟨some 9, .len (.t 8), none⟩, ⟨some 10, .bin .neq (.t 9) (.v (.int .i64 3)), none⟩])
 (.ite (.t 10) (.seq (.ops [⟨some 2, .mv (.v (.bool false)), none⟩])
  .ret)
 .skip))
 (.seq (.seq (.ops [⟨some 11, .fad 0 (.t 1), none⟩, ⟨some 12, .load 1 false (.t 11), none⟩, ⟨some 13, .len (.t 12), none⟩, ⟨some 14, .mv (.v (.int .i64 0)), none⟩])
 (.blk 0 (.loop (.seq (.ops [⟨some 15, .bin .lss (.t 14) (.t 13), none⟩])
   (.seq (.ite (.t 15) .skip
   (.exit 0))
   (.seq (.blk 1 (.seq (.ops [⟨some 16, .iad 1 (.t 12) (.t 14), none⟩, ⟨some 17, .load 1 false (.t 16), none⟩, ⟨some 4, .mv (.t 17), none⟩])
    (.seq (.seq (.ops [⟨some 18, .mv (.t 4), none⟩, ⟨some 19, .len (.t 18), none⟩, ⟨some 20, .bin .neq (.t 19) (.v (.int .i64 3)), none⟩, ⟨some 21, .mv (.t 20), none⟩, ⟨some 22, .mv (.t 4), some (21, false)⟩, ⟨some 23, .call 47 [.t 22], some (21, false)⟩, ⟨some 24, .bin .neq (.t 23) (.v (.int .i64 36)), some (21, false)⟩, ⟨some 25, .pick (.t 21) (.v (.bool true)) (.t 24), none⟩])
    (.ite (.t 25) (.seq (.ops [⟨some 2, .mv (.v (.bool false)), none⟩])
     .ret)
    .skip))
    (.seq (.ops [⟨some 26, .mv (.t 4), none⟩, ⟨some 27, .len (.t 26), none⟩, ⟨some 28, .mv (.v (.int .i64 0)), none⟩])
    (.blk 2 (.loop (.seq (.ops [⟨some 29, .bin .lss (.t 28) (.t 27), none⟩])
      (.seq (.ite (.t 29) .skip
      (.exit 2))
      (.seq (.blk 3 (.seq (.ops [⟨some 30, .iad 1 (.t 26) (.t 28), none⟩, ⟨some 31, .load 1 false (.t 30), none⟩, ⟨some 6, .mv (.t 31), none⟩])
       (.seq (.ops [⟨some 32, .mv (.t 6), none⟩, ⟨some 33, .call 48 [.t 32, .v (.int .i64 0), .v (.int .i64 36)], none⟩, ⟨some 34, .not (.t 33), none⟩])
       (.ite (.t 34) (.seq (.ops [⟨some 2, .mv (.v (.bool false)), none⟩])
        .ret)
       .skip))))
      (.ops [⟨some 35, .bin .add (.t 28) (.v (.int .i64 1)), none⟩, ⟨some 28, .mv (.t 35), none⟩]))))))))))
   (.ops [⟨some 36, .bin .add (.t 14) (.v (.int .i64 1)), none⟩, ⟨some 14, .mv (.t 36), none⟩])))))))
 (.seq (.ops [⟨some 2, .mv (.v (.bool true)), none⟩])
 .ret))))
noncomputable def X.i_IsClimate (p0 : TClimate) : Option Bool :=
  (bif ((p0.Weights.length : Int) != 3) then some false else ((loop (fun (x82 : Int) => ((bif (decide (x82 < (p0.Weights.length : Int))) then ((at' zLI p0.Weights x82).bind fun v85 => (bif ((v85.length : Int) != 3) then some (Sum.inr (Sum.inr false)) else ((X.i_sumOf v85).bind fun v92 => (bif (v92 != 36) then some (Sum.inr (Sum.inr false)) else ((loop (fun (x110 : Int) => ((bif (decide (x110 < (v85.length : Int))) then ((at' zI v85 x110).bind fun v113 => ((X.i_inRange v113 0 36).bind fun v115 => (bif (!v115) then some (Sum.inr (Sum.inr false)) else some (Sum.inl (W (x110 + 1)))))) else some (Sum.inr (Sum.inl ()))) : Option (Int ⊕ (Unit ⊕ Bool)))) 0).bind fun y118 => (Sum.elim (fun (y120 : Unit) => some (Sum.inl (W (x82 + 1)))) (fun (y121 : Bool) => some (Sum.inr (Sum.inr y121))) y118)))))) else some (Sum.inr (Sum.inl ()))) : Option (Int ⊕ (Unit ⊕ Bool)))) 0).bind fun y122 => (Sum.elim (fun (y124 : Unit) => some true) (fun (y125 : Bool) => some y125) y122)))
theorem i_IsClimate_ok (p0 : TClimate) (r : Bool) (H : X.i_IsClimate p0 = some r) : FnOk Try.prog gl 18 [.agg (eTClimate p0)] (.c (.bool r)) := by
  unfold X.i_IsClimate at H
  refine fn_in (fn := Try.f18) (ir := i_IsClimate_ir) (s1 := lit [(2, .c (.bool r))] []) Try.func18 (by kernel_rfl) (by kernel_rfl) (by kernel_rfl) (by kernel_rfl) (by kernel_rfl) ?_
  refine seq_ops [] [] [(1, .c (.pk 1 0))] [(1, .var [dat 1 eLI zLI p0.Weights] false)] (fun t => t) (by kernel_rfl) ?_
  refine seq_in ?_
  refine seq_ops [] [] [(1, .c (.pk 1 0)), (10, .c (.bool ((p0.Weights.length : Int) != 3)))] [(1, .var [dat 1 eLI zLI p0.Weights] false)] (fun t => (fun (_ : p0.Weights.length ≤ maxLen) => t)) (by kernel_rfl) ?_
  rcases ofCond H with ⟨c2, H⟩ | ⟨c2, H⟩
  · refine ite_t c2 (by kernel_rfl) ?_
    refine seq_ops [] [] [(2, .c (.bool false))] [] (fun t => t) (by kernel_rfl) ?_
    refine ends_ret ?_
    obtain rfl := Option.some.inj H
    exact And.intro (.inl rfl) rfl
  · refine ite_f c2 (by kernel_rfl) ?_
    refine ends_skip ?_
    change EndsI _ _ _ _ _ _
    refine seq_in ?_
    refine seq_ops [] [] [(12, .c (dat 1 eLI zLI p0.Weights)), (13, .c (.int .i64 (p0.Weights.length : Int))), (14, .c (.int .i64 0))] [] (fun t => (fun (_ : p0.Weights.length ≤ maxLen) => t)) (by kernel_rfl) ?_
    refine ends_blk ?_
    obtain ⟨y122, h123, H⟩ := ofBind H
    refine loop_in (fun (x : Int) => lit [(12, .c (dat 1 eLI zLI p0.Weights)), (13, .c (.int .i64 (p0.Weights.length : Int))), (14, .c (.int .i64 x))] []) (orJ (fun (z : Unit) => At (.exit 0) (lit [] [])) (fun (z : Bool) => At .ret (lit [(2, .c (.bool z))] []))) h123 ?_ ?_
    · clear H h123
      intro x82 y0 H
      refine seq_ops [] [] [(12, .c (dat 1 eLI zLI p0.Weights)), (13, .c (.int .i64 (p0.Weights.length : Int))), (14, .c (.int .i64 x82)), (15, .c (.bool (decide (x82 < (p0.Weights.length : Int)))))] [] (fun t => t) (by kernel_rfl) ?_
      refine seq_in ?_
      rcases ofCond H with ⟨c84, H⟩ | ⟨c84, H⟩
      · refine ite_t c84 (by kernel_rfl) ?_
        refine ends_skip ?_
        change EndsI _ _ _ _ _ _
        refine seq_in ?_
        refine ends_blk ?_
        obtain ⟨v85, h86, H⟩ := ofBind H
        refine seq_ops [.cs (eLI v85)] [] [(4, .c (dat 1 eI zI v85)), (12, .c (dat 1 eLI zLI p0.Weights)), (13, .c (.int .i64 (p0.Weights.length : Int))), (14, .c (.int .i64 x82))] [] (fun t => And.intro (at_lt h86) (And.intro (at_enc (enc := eLI) h86) (t))) (by kernel_rfl) ?_
        refine seq_in ?_
        rcases ofCond H with ⟨c91, H⟩ | ⟨c91, H⟩
        · refine seq_ops [.g true, .g true, .g true, .g true] [] [(4, .c (dat 1 eI zI v85)), (12, .c (dat 1 eLI zLI p0.Weights)), (13, .c (.int .i64 (p0.Weights.length : Int))), (14, .c (.int .i64 x82)), (22, .tup []), (23, .tup []), (24, .tup []), (25, .c (.bool true))] [] (fun t => (fun (_ : v85.length ≤ maxLen) => And.intro c91 (And.intro c91 (And.intro c91 (And.intro c91 (t)))))) (by kernel_rfl) ?_
          refine ite_t (rfl : (true : Bool) = true) (by kernel_rfl) ?_
          refine seq_ops [] [] [(2, .c (.bool false))] [] (fun t => t) (by kernel_rfl) ?_
          refine ends_ret ?_
          obtain rfl := Option.some.inj H
          exact And.intro (by simp) (And.intro rfl rfl)
        · obtain ⟨v92, h93, H⟩ := ofBind H
          refine seq_ops [.g false, .g false, .res (.c (.int .i64 v92)), .g false, .g false] [] [(4, .c (dat 1 eI zI v85)), (12, .c (dat 1 eLI zLI p0.Weights)), (13, .c (.int .i64 (p0.Weights.length : Int))), (14, .c (.int .i64 x82)), (22, .c (dat 1 eI zI v85)), (23, .c (.int .i64 v92)), (24, .c (.bool (v92 != 36))), (25, .c (.bool (v92 != 36)))] [] (fun t => (fun (_ : v85.length ≤ maxLen) => And.intro c91 (And.intro c91 (And.intro (i_sumOf_ok v85 v92 h93) (And.intro c91 (And.intro c91 (t))))))) (by kernel_rfl) ?_
          rcases ofCond H with ⟨c94, H⟩ | ⟨c94, H⟩
          · refine ite_t c94 (by kernel_rfl) ?_
            refine seq_ops [] [] [(2, .c (.bool false))] [] (fun t => t) (by kernel_rfl) ?_
            refine ends_ret ?_
            obtain rfl := Option.some.inj H
            exact And.intro (by simp) (And.intro rfl rfl)
          · refine ite_f c94 (by kernel_rfl) ?_
            refine ends_skip ?_
            change EndsI _ _ _ _ _ _
            refine seq_ops [] [] [(12, .c (dat 1 eLI zLI p0.Weights)), (13, .c (.int .i64 (p0.Weights.length : Int))), (14, .c (.int .i64 x82)), (22, .c (dat 1 eI zI v85)), (23, .c (.int .i64 v92)), (24, .c (.bool (v92 != 36))), (26, .c (dat 1 eI zI v85)), (27, .c (.int .i64 (v85.length : Int))), (28, .c (.int .i64 0))] [] (fun t => (fun (_ : v85.length ≤ maxLen) => t)) (by kernel_rfl) ?_
            refine ends_blk ?_
            obtain ⟨y118, h119, H⟩ := ofBind H
            refine loop_in (fun (x : Int) => lit [(12, .c (dat 1 eLI zLI p0.Weights)), (13, .c (.int .i64 (p0.Weights.length : Int))), (14, .c (.int .i64 x82)), (22, .c (dat 1 eI zI v85)), (23, .c (.int .i64 v92)), (24, .c (.bool (v92 != 36))), (26, .c (dat 1 eI zI v85)), (27, .c (.int .i64 (v85.length : Int))), (28, .c (.int .i64 x))] []) (orJ (fun (z : Unit) => At (.exit 2) (lit [(12, .c (dat 1 eLI zLI p0.Weights)), (13, .c (.int .i64 (p0.Weights.length : Int))), (14, .c (.int .i64 x82)), (22, .c (dat 1 eI zI v85)), (23, .c (.int .i64 v92)), (24, .c (.bool (v92 != 36)))] [])) (fun (z : Bool) => At .ret (lit [(2, .c (.bool z))] []))) h119 ?_ ?_
            · clear H h119
              intro x110 y0 H
              refine seq_ops [] [] [(12, .c (dat 1 eLI zLI p0.Weights)), (13, .c (.int .i64 (p0.Weights.length : Int))), (14, .c (.int .i64 x82)), (22, .c (dat 1 eI zI v85)), (23, .c (.int .i64 v92)), (24, .c (.bool (v92 != 36))), (26, .c (dat 1 eI zI v85)), (27, .c (.int .i64 (v85.length : Int))), (28, .c (.int .i64 x110)), (29, .c (.bool (decide (x110 < (v85.length : Int)))))] [] (fun t => t) (by kernel_rfl) ?_
              refine seq_in ?_
              rcases ofCond H with ⟨c112, H⟩ | ⟨c112, H⟩
              · refine ite_t c112 (by kernel_rfl) ?_
                refine ends_skip ?_
                change EndsI _ _ _ _ _ _
                refine seq_in ?_
                refine ends_blk ?_
                obtain ⟨v113, h114, H⟩ := ofBind H
                refine seq_ops [.cs (eI v113)] [] [(6, .c (.int .i64 v113)), (12, .c (dat 1 eLI zLI p0.Weights)), (13, .c (.int .i64 (p0.Weights.length : Int))), (14, .c (.int .i64 x82)), (22, .c (dat 1 eI zI v85)), (23, .c (.int .i64 v92)), (24, .c (.bool (v92 != 36))), (26, .c (dat 1 eI zI v85)), (27, .c (.int .i64 (v85.length : Int))), (28, .c (.int .i64 x110))] [] (fun t => And.intro (at_lt h114) (And.intro (at_enc (enc := eI) h114) (t))) (by kernel_rfl) ?_
                obtain ⟨v115, h116, H⟩ := ofBind H
                refine seq_ops [.res (.c (.bool v115))] [] [(12, .c (dat 1 eLI zLI p0.Weights)), (13, .c (.int .i64 (p0.Weights.length : Int))), (14, .c (.int .i64 x82)), (22, .c (dat 1 eI zI v85)), (23, .c (.int .i64 v92)), (24, .c (.bool (v92 != 36))), (26, .c (dat 1 eI zI v85)), (27, .c (.int .i64 (v85.length : Int))), (28, .c (.int .i64 x110)), (34, .c (.bool (!v115)))] [] (fun t => And.intro (i_inRange_ok v113 0 36 v115 h116) (t)) (by kernel_rfl) ?_
                rcases ofCond H with ⟨c117, H⟩ | ⟨c117, H⟩
                · refine ite_t c117 (by kernel_rfl) ?_
                  refine seq_ops [] [] [(2, .c (.bool false))] [] (fun t => t) (by kernel_rfl) ?_
                  refine ends_ret ?_
                  obtain rfl := Option.some.inj H
                  exact And.intro (by simp) (And.intro rfl rfl)
                · refine ite_f c117 (by kernel_rfl) ?_
                  refine ends_skip ?_
                  change EndsI _ _ _ _ _ _
                  refine one_ops [] [] [(12, .c (dat 1 eLI zLI p0.Weights)), (13, .c (.int .i64 (p0.Weights.length : Int))), (14, .c (.int .i64 x82)), (22, .c (dat 1 eI zI v85)), (23, .c (.int .i64 v92)), (24, .c (.bool (v92 != 36))), (26, .c (dat 1 eI zI v85)), (27, .c (.int .i64 (v85.length : Int))), (28, .c (.int .i64 (W (x110 + 1))))] [] (fun t => t) (by kernel_rfl) ?_
                  obtain rfl := Option.some.inj H
                  exact And.intro rfl rfl
              · refine ite_f c112 (by kernel_rfl) ?_
                refine tell [] [(12, .c (dat 1 eLI zLI p0.Weights)), (13, .c (.int .i64 (p0.Weights.length : Int))), (14, .c (.int .i64 x82)), (22, .c (dat 1 eI zI v85)), (23, .c (.int .i64 v92)), (24, .c (.bool (v92 != 36)))] [] (fun t => t) (by kernel_rfl) ?_
                refine ends_exit ?_
                obtain rfl := Option.some.inj H
                exact And.intro (by simp) (And.intro rfl rfl)
            · clear h119
              cases y118 with
              | inl y120 =>
                replace H := ofInl H
                intro e s q
                obtain ⟨rfl, rfl⟩ := q
                change EndsI _ _ _ _ _ _
                refine one_ops [] [] [(12, .c (dat 1 eLI zLI p0.Weights)), (13, .c (.int .i64 (p0.Weights.length : Int))), (14, .c (.int .i64 (W (x82 + 1))))] [] (fun t => t) (by kernel_rfl) ?_
                obtain rfl := Option.some.inj H
                exact And.intro rfl rfl
              | inr y121 =>
                replace H := ofInr H
                intro e s q
                obtain ⟨rfl, rfl⟩ := q
                obtain rfl := Option.some.inj H
                exact And.intro (by simp) (And.intro rfl rfl)
      · refine ite_f c84 (by kernel_rfl) ?_
        refine tell [] [] [] (fun t => t) (by kernel_rfl) ?_
        refine ends_exit ?_
        obtain rfl := Option.some.inj H
        exact And.intro (by simp) (And.intro rfl rfl)
    · clear h123
      cases y122 with
      | inl y124 =>
        replace H := ofInl H
        intro e s q
        obtain ⟨rfl, rfl⟩ := q
        change EndsI _ _ _ _ _ _
        refine seq_ops [] [] [(2, .c (.bool true))] [] (fun t => t) (by kernel_rfl) ?_
        refine ends_ret ?_
        obtain rfl := Option.some.inj H
        exact And.intro (.inl rfl) rfl
      | inr y125 =>
        replace H := ofInr H
        intro e s q
        obtain ⟨rfl, rfl⟩ := q
        obtain rfl := Option.some.inj H
        exact And.intro (.inl rfl) rfl

def g_IndexFunc_int_ir : S :=
 (.seq (.ops [⟨some 4, .mv (.v (.int .i64 0)), none⟩])
 (.seq (.seq (.ops [⟨some 6, .mv (.t 0), none⟩, ⟨some 7, .len (.t 6), none⟩, ⟨some 8, .mv (.v (.int .i64 0)), none⟩])
 (.blk 0 (.loop (.seq (.ops [⟨some 9, .bin .lss (.t 8) (.t 7), none⟩])
   (.seq (.ite (.t 9) .skip
   (.exit 0))
   (.seq (.blk 1 (.seq (.ops [⟨some 10, .mv (.t 8), none⟩, ⟨some 5, .mv (.t 10), none⟩])
    (.seq (.ops [⟨some 11, .mv (.t 1), none⟩, ⟨some 12, .mv (.t 0), none⟩, ⟨some 13, .mv (.t 5), none⟩, ⟨some 14, .iad 1 (.t 12) (.t 13), none⟩, ⟨some 15, .load 1 false (.t 14), none⟩, ⟨some 16, .cald (.t 11) [.t 15], none⟩])
    (.ite (.t 16) (.seq (.ops [⟨some 17, .mv (.t 5), none⟩, ⟨some 4, .mv (.t 17), none⟩])
     .ret)
    .skip))))
   (.ops [⟨some 18, .bin .add (.t 8) (.v (.int .i64 1)), none⟩, ⟨some 8, .mv (.t 18), none⟩])))))))
 (.seq (.ops [⟨some 4, .mv (.v (.int .i64 (-1))), none⟩])
 .ret)))
noncomputable def X.g_IndexFunc_int (p0 : (List Int)) (f1 : Int → Option Bool) : Option Int :=
  ((loop (fun (x16 : Int) => ((bif (decide (x16 < (p0.length : Int))) then ((at' zI p0 x16).bind fun v19 => ((f1 v19).bind fun v21 => (bif v21 then some (Sum.inr (Sum.inr x16)) else some (Sum.inl (W (x16 + 1)))))) else some (Sum.inr (Sum.inl ()))) : Option (Int ⊕ (Unit ⊕ Int)))) 0).bind fun y24 => (Sum.elim (fun (y26 : Unit) => some (-1)) (fun (y27 : Int) => some y27) y24))
theorem g_IndexFunc_int_c0_ok (p0 : (List Int)) (cf1 : FuncId) (f1 : Int → Option Bool) (hf1 : ∀ q0 r, f1 q0 = some r → FnOk Try.prog gl cf1 [.c (.int .i64 q0)] (.c (.bool r))) (r : Int) (H : X.g_IndexFunc_int p0 f1 = some r) : FnOk Try.prog gl 75 [.c (dat 1 eI zI p0), .c (.clo cf1 [])] (.c (.int .i64 r)) := by
  unfold X.g_IndexFunc_int at H
  refine fn_in (fn := Try.f75) (ir := g_IndexFunc_int_ir) (s1 := lit [(4, .c (.int .i64 r))] []) Try.func75 (by kernel_rfl) (by kernel_rfl) (by kernel_rfl) (by kernel_rfl) (by kernel_rfl) ?_
  refine seq_ops [] [] [(0, .c (dat 1 eI zI p0)), (1, .c (.clo cf1 []))] [] (fun t => t) (by kernel_rfl) ?_
  refine seq_in ?_
  refine seq_ops [] [] [(0, .c (dat 1 eI zI p0)), (1, .c (.clo cf1 [])), (7, .c (.int .i64 (p0.length : Int))), (8, .c (.int .i64 0))] [] (fun t => (fun (_ : p0.length ≤ maxLen) => t)) (by kernel_rfl) ?_
  refine ends_blk ?_
  obtain ⟨y24, h25, H⟩ := ofBind H
  refine loop_in (fun (x : Int) => lit [(0, .c (dat 1 eI zI p0)), (1, .c (.clo cf1 [])), (7, .c (.int .i64 (p0.length : Int))), (8, .c (.int .i64 x))] []) (orJ (fun (z : Unit) => At (.exit 0) (lit [] [])) (fun (z : Int) => At .ret (lit [(4, .c (.int .i64 z))] []))) h25 ?_ ?_
  · clear H h25
    intro x16 y0 H
    refine seq_ops [] [] [(0, .c (dat 1 eI zI p0)), (1, .c (.clo cf1 [])), (7, .c (.int .i64 (p0.length : Int))), (8, .c (.int .i64 x16)), (9, .c (.bool (decide (x16 < (p0.length : Int)))))] [] (fun t => t) (by kernel_rfl) ?_
    refine seq_in ?_
    rcases ofCond H with ⟨c18, H⟩ | ⟨c18, H⟩
    · refine ite_t c18 (by kernel_rfl) ?_
      refine ends_skip ?_
      change EndsI _ _ _ _ _ _
      refine seq_in ?_
      refine ends_blk ?_
      refine seq_ops [] [] [(0, .c (dat 1 eI zI p0)), (1, .c (.clo cf1 [])), (5, .c (.int .i64 x16)), (7, .c (.int .i64 (p0.length : Int))), (8, .c (.int .i64 x16))] [] (fun t => t) (by kernel_rfl) ?_
      obtain ⟨v19, h20, H⟩ := ofBind H
      obtain ⟨v21, h22, H⟩ := ofBind H
      refine seq_ops [.cs (eI v19), .res (.c (.bool v21))] [] [(0, .c (dat 1 eI zI p0)), (1, .c (.clo cf1 [])), (5, .c (.int .i64 x16)), (7, .c (.int .i64 (p0.length : Int))), (8, .c (.int .i64 x16)), (16, .c (.bool v21))] [] (fun t => And.intro (at_lt h20) (And.intro (at_enc (enc := eI) h20) (And.intro (hf1 v19 v21 h22) (t)))) (by kernel_rfl) ?_
      rcases ofCond H with ⟨c23, H⟩ | ⟨c23, H⟩
      · refine ite_t c23 (by kernel_rfl) ?_
        refine seq_ops [] [] [(4, .c (.int .i64 x16))] [] (fun t => t) (by kernel_rfl) ?_
        refine ends_ret ?_
        obtain rfl := Option.some.inj H
        exact And.intro (by simp) (And.intro rfl rfl)
      · refine ite_f c23 (by kernel_rfl) ?_
        refine ends_skip ?_
        change EndsI _ _ _ _ _ _
        refine one_ops [] [] [(0, .c (dat 1 eI zI p0)), (1, .c (.clo cf1 [])), (7, .c (.int .i64 (p0.length : Int))), (8, .c (.int .i64 (W (x16 + 1))))] [] (fun t => t) (by kernel_rfl) ?_
        obtain rfl := Option.some.inj H
        exact And.intro rfl rfl
    · refine ite_f c18 (by kernel_rfl) ?_
      refine tell [] [] [] (fun t => t) (by kernel_rfl) ?_
      refine ends_exit ?_
      obtain rfl := Option.some.inj H
      exact And.intro (by simp) (And.intro rfl rfl)
  · clear h25
    cases y24 with
    | inl y26 =>
      replace H := ofInl H
      intro e s q
      obtain ⟨rfl, rfl⟩ := q
      change EndsI _ _ _ _ _ _
      refine seq_ops [] [] [(4, .c (.int .i64 (-1)))] [] (fun t => t) (by kernel_rfl) ?_
      refine ends_ret ?_
      obtain rfl := Option.some.inj H
      exact And.intro (.inl rfl) rfl
    | inr y27 =>
      replace H := ofInr H
      intro e s q
      obtain ⟨rfl, rfl⟩ := q
      obtain rfl := Option.some.inj H
      exact And.intro (.inl rfl) rfl

def g_ContainsFunc_int_ir : S :=
 (.seq (.ops [⟨some 4, .mv (.v (.bool false)), none⟩])
 (.seq (.ops [⟨some 5, .mv (.t 0), none⟩, ⟨some 6, .mv (.t 1), none⟩, ⟨some 7, .call 75 [.t 5, .t 6], none⟩, ⟨some 8, .bin .geq (.t 7) (.v (.int .i64 0)), none⟩, ⟨some 4, .mv (.t 8), none⟩])
 .ret))
noncomputable def X.g_ContainsFunc_int (p0 : (List Int)) (f1 : Int → Option Bool) : Option Bool :=
  ((X.g_IndexFunc_int p0 f1).bind fun v1 => some (decide (v1 ≥ 0)))
theorem g_ContainsFunc_int_c0_ok (p0 : (List Int)) (cf1 : FuncId) (f1 : Int → Option Bool) (hf1 : ∀ q0 r, f1 q0 = some r → FnOk Try.prog gl cf1 [.c (.int .i64 q0)] (.c (.bool r))) (r : Bool) (H : X.g_ContainsFunc_int p0 f1 = some r) : FnOk Try.prog gl 52 [.c (dat 1 eI zI p0), .c (.clo cf1 [])] (.c (.bool r)) := by
  unfold X.g_ContainsFunc_int at H
  refine fn_in (fn := Try.f52) (ir := g_ContainsFunc_int_ir) (s1 := lit [(4, .c (.bool r))] []) Try.func52 (by kernel_rfl) (by kernel_rfl) (by kernel_rfl) (by kernel_rfl) (by kernel_rfl) ?_
  refine seq_ops [] [] [(0, .c (dat 1 eI zI p0)), (1, .c (.clo cf1 []))] [] (fun t => t) (by kernel_rfl) ?_
  obtain ⟨v1, h2, H⟩ := ofBind H
  refine seq_ops [.res (.c (.int .i64 v1))] [] [(4, .c (.bool (decide (v1 ≥ 0))))] [] (fun t => And.intro (g_IndexFunc_int_c0_ok p0 (cf1) f1 hf1 v1 h2) (t)) (by kernel_rfl) ?_
  refine ends_ret ?_
  obtain rfl := Option.some.inj H
  exact And.intro (.inl rfl) rfl

def i_isWeather_ir : S :=
 (.seq (.ops [⟨some 2, .mv (.v (.bool false)), none⟩])
 (.seq (.ops [⟨some 3, .mv (.t 0), none⟩, ⟨some 4, .call 48 [.t 3, .v (.int .i64 0), .v (.int .i64 2)], none⟩, ⟨some 2, .mv (.t 4), none⟩])
 .ret))
noncomputable def X.i_isWeather (p0 : Int) : Option Bool :=
  ((X.i_inRange p0 0 2).bind fun v1 => some v1)
theorem i_isWeather_ok (p0 : Int) (r : Bool) (H : X.i_isWeather p0 = some r) : FnOk Try.prog gl 54 [.c (.int .i64 p0)] (.c (.bool r)) := by
  unfold X.i_isWeather at H
  refine fn_in (fn := Try.f54) (ir := i_isWeather_ir) (s1 := lit [(2, .c (.bool r))] []) Try.func54 (by kernel_rfl) (by kernel_rfl) (by kernel_rfl) (by kernel_rfl) (by kernel_rfl) ?_
  refine seq_ops [] [] [(0, .c (.int .i64 p0))] [] (fun t => t) (by kernel_rfl) ?_
  obtain ⟨v1, h2, H⟩ := ofBind H
  refine seq_ops [.res (.c (.bool v1))] [] [(2, .c (.bool v1))] [] (fun t => And.intro (i_inRange_ok p0 0 2 v1 h2) (t)) (by kernel_rfl) ?_
  refine ends_ret ?_
  obtain rfl := Option.some.inj H
  exact And.intro (.inl rfl) rfl

def i_LikelihoodOf_1_ir : S :=
 (.seq (.ops [⟨some 2, .mv (.v (.bool false)), none⟩])
 (.seq (.ops [⟨some 3, .mv (.t 0), none⟩, ⟨some 4, .call 54 [.t 3], none⟩, ⟨some 5, .not (.t 4), none⟩, ⟨some 2, .mv (.t 5), none⟩])
 .ret))
noncomputable def X.i_LikelihoodOf_1 (p0 : Int) : Option Bool :=
  ((X.i_isWeather p0).bind fun v1 => some (!v1))
theorem i_LikelihoodOf_1_ok (p0 : Int) (r : Bool) (H : X.i_LikelihoodOf_1 p0 = some r) : FnOk Try.prog gl 53 [.c (.int .i64 p0)] (.c (.bool r)) := by
  unfold X.i_LikelihoodOf_1 at H
  refine fn_in (fn := Try.f53) (ir := i_LikelihoodOf_1_ir) (s1 := lit [(2, .c (.bool r))] []) Try.func53 (by kernel_rfl) (by kernel_rfl) (by kernel_rfl) (by kernel_rfl) (by kernel_rfl) ?_
  refine seq_ops [] [] [(0, .c (.int .i64 p0))] [] (fun t => t) (by kernel_rfl) ?_
  obtain ⟨v1, h2, H⟩ := ofBind H
  refine seq_ops [.res (.c (.bool v1))] [] [(2, .c (.bool (!v1)))] [] (fun t => And.intro (i_isWeather_ok p0 v1 h2) (t)) (by kernel_rfl) ?_
  refine ends_ret ?_
  obtain rfl := Option.some.inj H
  exact And.intro (.inl rfl) rfl

def i_likelihood_ir : S :=
 (.seq (.ops [⟨some 2, .box 1 (.t 0), none⟩, ⟨some 4, .mv (.v (.int .i64 0)), none⟩])
 (.seq (.ops [⟨some 5, .mv (.v (.int .i64 1)), none⟩])
 (.seq (.seq (.ops [⟨some 6, .mv (.v (.int .i64 1)), none⟩])
 (.blk 0 (.loop (.seq (.seq (.ops [⟨some 7, .mv (.t 6), none⟩, ⟨some 8, .mv (.t 1), none⟩, ⟨some 9, .len (.t 8), none⟩, ⟨some 10, .bin .lss (.t 7) (.t 9), none⟩])
   (.ite (.t 10) .skip
   (.exit 0)))
   (.seq (.blk 1 (.draw 18 [⟨some 13, .mv (.t 5), none⟩, ⟨some 14, .fad 0 (.t 2), none⟩, ⟨some 15, .load 1 false (.t 14), none⟩, ⟨some 16, .mv (.t 1), none⟩, ⟨some 17, .mv (.t 6), none⟩, ⟨some 18, .bin .sub (.t 17) (.v (.int .i64 1)), none⟩, ⟨some 19, .iad 1 (.t 16) (.t 18), none⟩, ⟨some 20, .load 1 false (.t 19), none⟩, ⟨some 21, .iad 1 (.t 15) (.t 20), none⟩, ⟨some 22, .load 1 false (.t 21), none⟩, ⟨some 23, .mv (.t 1), none⟩, ⟨some 24, .mv (.t 6), none⟩, ⟨some 25, .iad 1 (.t 23) (.t 24), none⟩, ⟨some 26, .load 1 false (.t 25), none⟩, ⟨some 27, .iad 1 (.t 22) (.t 26), none⟩, ⟨some 28, .load 1 false (.t 27), none⟩, ⟨some 29, .bin .mul (.t 13) (.t 28), none⟩, ⟨some 5, .mv (.t 29), none⟩]))
   (.ops [⟨some 11, .mv (.t 6), none⟩, ⟨some 12, .bin .add (.t 11) (.v (.int .i64 1)), none⟩, ⟨some 6, .mv (.t 12), none⟩]))))))
 (.seq (.ops [⟨some 30, .mv (.t 5), none⟩, ⟨some 4, .mv (.t 30), none⟩])
 .ret))))
noncomputable def X.i_likelihood (p0 : TClimate) (p1 : (List Int)) : Option Int :=
  ((loop (fun (x22 : (Int × Int)) => ((bif (decide (x22.2 < (p1.length : Int))) then ((at' zI p1 (W (x22.2 - 1))).bind fun v25 => ((at' zLI p0.Weights v25).bind fun v27 => ((at' zI p1 x22.2).bind fun v29 => ((at' zI v27 v29).bind fun v31 => some (Sum.inl ((W (x22.1 * v31)), (W (x22.2 + 1)))))))) else some (Sum.inr x22.1)) : Option ((Int × Int) ⊕ Int))) (1, 1)).bind fun y33 => some y33)
theorem i_likelihood_ok (p0 : TClimate) (p1 : (List Int)) (r : Int) (H : X.i_likelihood p0 p1 = some r) : FnOk Try.prog gl 55 [.agg (eTClimate p0), .c (dat 1 eI zI p1)] (.c (.int .i64 r)) := by
  unfold X.i_likelihood at H
  refine fn_in (fn := Try.f55) (ir := i_likelihood_ir) (s1 := lit [(4, .c (.int .i64 r))] []) Try.func55 (by kernel_rfl) (by kernel_rfl) (by kernel_rfl) (by kernel_rfl) (by kernel_rfl) ?_
  refine seq_ops [] [] [(1, .c (dat 1 eI zI p1)), (2, .c (.pk 2 0))] [(2, .var [dat 1 eLI zLI p0.Weights] false)] (fun t => t) (by kernel_rfl) ?_
  refine seq_ops [] [] [(1, .c (dat 1 eI zI p1)), (2, .c (.pk 2 0)), (5, .c (.int .i64 1))] [(2, .var [dat 1 eLI zLI p0.Weights] false)] (fun t => t) (by kernel_rfl) ?_
  refine seq_in ?_
  refine seq_ops [] [] [(1, .c (dat 1 eI zI p1)), (2, .c (.pk 2 0)), (5, .c (.int .i64 1)), (6, .c (.int .i64 1))] [(2, .var [dat 1 eLI zLI p0.Weights] false)] (fun t => t) (by kernel_rfl) ?_
  refine ends_blk ?_
  obtain ⟨y33, h34, H⟩ := ofBind H
  refine loop_in (fun (x : (Int × Int)) => lit [(1, .c (dat 1 eI zI p1)), (2, .c (.pk 2 0)), (5, .c (.int .i64 x.1)), (6, .c (.int .i64 x.2))] [(2, .var [dat 1 eLI zLI p0.Weights] false)]) (fun (z : Int) => At (.exit 0) (lit [(5, .c (.int .i64 z))] [])) h34 ?_ ?_
  · clear H h34
    intro x22 y0 H
    refine seq_in ?_
    refine seq_ops [] [] [(1, .c (dat 1 eI zI p1)), (2, .c (.pk 2 0)), (5, .c (.int .i64 x22.1)), (6, .c (.int .i64 x22.2)), (10, .c (.bool (decide (x22.2 < (p1.length : Int)))))] [(2, .var [dat 1 eLI zLI p0.Weights] false)] (fun t => (fun (_ : p1.length ≤ maxLen) => t)) (by kernel_rfl) ?_
    rcases ofCond H with ⟨c24, H⟩ | ⟨c24, H⟩
    · refine ite_t c24 (by kernel_rfl) ?_
      refine ends_skip ?_
      change EndsI _ _ _ _ _ _
      refine seq_in ?_
      refine ends_blk ?_
      obtain ⟨v25, h26, H⟩ := ofBind H
      obtain ⟨v27, h28, H⟩ := ofBind H
      obtain ⟨v29, h30, H⟩ := ofBind H
      obtain ⟨v31, h32, H⟩ := ofBind H
      refine one_draw [.cs (eI v25), .cs (eLI v27), .cs (eI v29), .cs (eI v31)] [] [(1, .c (dat 1 eI zI p1)), (2, .c (.pk 2 0)), (5, .c (.int .i64 (W (x22.1 * v31)))), (6, .c (.int .i64 x22.2))] [(2, .var [dat 1 eLI zLI p0.Weights] false)] (fun t => And.intro (at_lt h26) (And.intro (at_enc (enc := eI) h26) (And.intro (rfl : ([] : List Nat) = []) (And.intro (at_lt h28) (And.intro (at_enc (enc := eLI) h28) (And.intro (rfl : ([] : List Nat) = []) (And.intro (at_lt h30) (And.intro (at_enc (enc := eI) h30) (And.intro (rfl : ([] : List Nat) = []) (And.intro (at_lt h32) (And.intro (at_enc (enc := eI) h32) (And.intro (rfl : ([] : List Nat) = []) (t))))))))))))) (by kernel_rfl) ?_
      change EndsI _ _ _ _ _ _
      refine one_ops [] [] [(1, .c (dat 1 eI zI p1)), (2, .c (.pk 2 0)), (5, .c (.int .i64 (W (x22.1 * v31)))), (6, .c (.int .i64 (W (x22.2 + 1))))] [(2, .var [dat 1 eLI zLI p0.Weights] false)] (fun t => t) (by kernel_rfl) ?_
      obtain rfl := Option.some.inj H
      exact And.intro rfl rfl
    · refine ite_f c24 (by kernel_rfl) ?_
      refine tell [] [(5, .c (.int .i64 x22.1))] [] (fun t => t) (by kernel_rfl) ?_
      refine ends_exit ?_
      obtain rfl := Option.some.inj H
      exact And.intro (by simp) (And.intro rfl rfl)
  · clear h34
    intro e s q
    obtain ⟨rfl, rfl⟩ := q
    change EndsI _ _ _ _ _ _
    refine seq_ops [] [] [(4, .c (.int .i64 y33))] [] (fun t => t) (by kernel_rfl) ?_
    refine ends_ret ?_
    obtain rfl := Option.some.inj H
    exact And.intro (.inl rfl) rfl

def i_LikelihoodOf_ir : S :=
 (.seq (.ops [⟨some 2, .box 1 (.t 0), none⟩, ⟨some 4, .mv (.v (.int .i64 0)), none⟩, ⟨some 5, .mv (.v (.bool false)), none⟩])
 (.seq (.seq (.ops [⟨some 6, .load 1 true (.t 2), none⟩, ⟨some 7, .call 18 [.t 6], none⟩, ⟨some 8, .not (.t 7), none⟩, ⟨some 9, .mv (.t 8), none⟩, ⟨some 10, .mv (.t 1), some (9, false)⟩, ⟨some 11, .len (.t 10), some (9, false)⟩, ⟨some 12, .call 48 [.t 11, .v (.int .i64 1), .v (.int .i64 7)], some (9, false)⟩, ⟨some 13, .not (.t 12), some (9, false)⟩, ⟨some 14, .pick (.t 9) (.v (.bool true)) (.t 13), none⟩, ⟨some 15, .mv (.t 14), none⟩, ⟨some 16, .mv (.t 1), some (15, false)⟩, ⟨some 17, .call 52 [.t 16, .f 53], some (15, false)⟩, ⟨some 18, .pick (.t 15) (.v (.bool true)) (.t 17), none⟩])
 (.ite (.t 18) (.seq (.ops [⟨some 4, .mv (.v (.int .i64 0)), none⟩, ⟨some 5, .mv (.v (.bool false)), none⟩])
  .ret)
 .skip))
 (.seq (.ops [⟨some 19, .load 1 true (.t 2), none⟩, ⟨some 20, .mv (.t 1), none⟩, ⟨some 21, .call 55 [.t 19, .t 20], none⟩, ⟨some 4, .mv (.t 21), none⟩, ⟨some 5, .mv (.v (.bool true)), none⟩])
 .ret)))
noncomputable def X.i_LikelihoodOf (p0 : TClimate) (p1 : (List Int)) : Option (Int × Bool) :=
  ((X.i_IsClimate p0).bind fun v1 => (bif (!v1) then some (0, false) else ((X.i_inRange (p1.length : Int) 1 7).bind fun v4 => (bif (!v4) then some (0, false) else ((X.g_ContainsFunc_int p1 (fun q0 => X.i_LikelihoodOf_1 q0)).bind fun v7 => (bif v7 then some (0, false) else ((X.i_likelihood p0 p1).bind fun v10 => some (v10, true))))))))
theorem i_LikelihoodOf_ok (p0 : TClimate) (p1 : (List Int)) (r : (Int × Bool)) (H : X.i_LikelihoodOf p0 p1 = some r) : FnOk Try.prog gl 22 [.agg (eTClimate p0), .c (dat 1 eI zI p1)] (.tup [(false, [.int .i64 r.1]), (false, [.bool r.2])]) := by
  unfold X.i_LikelihoodOf at H
  refine fn_in (fn := Try.f22) (ir := i_LikelihoodOf_ir) (s1 := lit [(4, .c (.int .i64 r.1)), (5, .c (.bool r.2))] []) Try.func22 (by kernel_rfl) (by kernel_rfl) (by kernel_rfl) (by kernel_rfl) (by kernel_rfl) ?_
  refine seq_ops [] [] [(1, .c (dat 1 eI zI p1)), (2, .c (.pk 2 0))] [(2, .var [dat 1 eLI zLI p0.Weights] false)] (fun t => t) (by kernel_rfl) ?_
  refine seq_in ?_
  obtain ⟨v1, h2, H⟩ := ofBind H
  rcases ofCond H with ⟨c3, H⟩ | ⟨c3, H⟩
  · refine seq_ops [.res (.c (.bool v1)), .g true, .g true, .g true, .g true, .g true, .g true, .g true, .g true] [] [(1, .c (dat 1 eI zI p1)), (2, .c (.pk 2 0)), (18, .c (.bool true))] [(2, .var [dat 1 eLI zLI p0.Weights] false)] (fun t => And.intro (i_IsClimate_ok p0 v1 h2) (And.intro c3 (And.intro c3 (And.intro c3 (And.intro c3 (And.intro c3 (And.intro (rfl : (true : Bool) = true) (And.intro (rfl : (true : Bool) = true) (And.intro (rfl : (true : Bool) = true) (t)))))))))) (by kernel_rfl) ?_
    refine ite_t (rfl : (true : Bool) = true) (by kernel_rfl) ?_
    refine seq_ops [] [] [(4, .c (.int .i64 0)), (5, .c (.bool false))] [] (fun t => t) (by kernel_rfl) ?_
    refine ends_ret ?_
    obtain rfl := Option.some.inj H
    exact And.intro (.inl rfl) rfl
  · obtain ⟨v4, h5, H⟩ := ofBind H
    rcases ofCond H with ⟨c6, H⟩ | ⟨c6, H⟩
    · refine seq_ops [.res (.c (.bool v1)), .g false, .g false, .g false, .res (.c (.bool v4)), .g false, .g false, .g true, .g true, .g true] [] [(1, .c (dat 1 eI zI p1)), (2, .c (.pk 2 0)), (18, .c (.bool true))] [(2, .var [dat 1 eLI zLI p0.Weights] false)] (fun t => And.intro (i_IsClimate_ok p0 v1 h2) (And.intro c3 (And.intro c3 ((fun (_ : p1.length ≤ maxLen) => And.intro c3 (And.intro (i_inRange_ok (p1.length : Int) 1 7 v4 h5) (And.intro c3 (And.intro c3 (And.intro c6 (And.intro c6 (And.intro c6 (t)))))))))))) (by kernel_rfl) ?_
      refine ite_t (rfl : (true : Bool) = true) (by kernel_rfl) ?_
      refine seq_ops [] [] [(4, .c (.int .i64 0)), (5, .c (.bool false))] [] (fun t => t) (by kernel_rfl) ?_
      refine ends_ret ?_
      obtain rfl := Option.some.inj H
      exact And.intro (.inl rfl) rfl
    · obtain ⟨v7, h8, H⟩ := ofBind H
      refine seq_ops [.res (.c (.bool v1)), .g false, .g false, .g false, .res (.c (.bool v4)), .g false, .g false, .g false, .g false, .res (.c (.bool v7)), .g false] [] [(1, .c (dat 1 eI zI p1)), (2, .c (.pk 2 0)), (18, .c (.bool v7))] [(2, .var [dat 1 eLI zLI p0.Weights] false)] (fun t => And.intro (i_IsClimate_ok p0 v1 h2) (And.intro c3 (And.intro c3 ((fun (_ : p1.length ≤ maxLen) => And.intro c3 (And.intro (i_inRange_ok (p1.length : Int) 1 7 v4 h5) (And.intro c3 (And.intro c3 (And.intro c6 (And.intro c6 (And.intro (g_ContainsFunc_int_c0_ok p1 (53) (fun q0 => X.i_LikelihoodOf_1 q0) (fun q0 r h => i_LikelihoodOf_1_ok q0 r h) v7 h8) (And.intro c6 (t))))))))))))) (by kernel_rfl) ?_
      rcases ofCond H with ⟨c9, H⟩ | ⟨c9, H⟩
      · refine ite_t c9 (by kernel_rfl) ?_
        refine seq_ops [] [] [(4, .c (.int .i64 0)), (5, .c (.bool false))] [] (fun t => t) (by kernel_rfl) ?_
        refine ends_ret ?_
        obtain rfl := Option.some.inj H
        exact And.intro (.inl rfl) rfl
      · refine ite_f c9 (by kernel_rfl) ?_
        refine ends_skip ?_
        change EndsI _ _ _ _ _ _
        obtain ⟨v10, h11, H⟩ := ofBind H
        refine seq_ops [.res (.c (.int .i64 v10))] [] [(4, .c (.int .i64 v10)), (5, .c (.bool true))] [] (fun t => And.intro (i_likelihood_ok p0 p1 v10 h11) (t)) (by kernel_rfl) ?_
        refine ends_ret ?_
        obtain rfl := Option.some.inj H
        exact And.intro (.inl rfl) rfl

def l_FnExactLikelihoodOf_ir : S :=
 (.seq (.ops [⟨some 2, .box 1 (.t 0), none⟩, ⟨some 4, .mv (.v (.bool false)), none⟩])
 (.seq (.seq (.ops [⟨some 12, .mv (.t 1), none⟩, ⟨some 13, .len (.t 12), none⟩, ⟨some 14, .bin .gtr (.t 13) (.v (.int .i64 1048576)), none⟩])
 (.ite (.t 14) (.seq (.ops [⟨some 4, .mv (.v (.bool true)), none⟩])
  .ret)
 .skip))
 (.seq (.ops [⟨some 5, .mv (.v (.int .i64 1048576)), none⟩])
 (.seq (.ops [⟨some 15, .load 1 true (.t 2), none⟩, ⟨some 16, .mv (.t 5), none⟩, ⟨some 17, .call 15 [.t 15, .t 16], none⟩, ⟨some 5, .mv (.t 17), none⟩])
 (.seq (.seq (.ops [⟨some 18, .mv (.t 5), none⟩, ⟨some 19, .bin .lss (.t 18) (.v (.int .i64 0)), none⟩])
 (.ite (.t 19) (.seq (.ops [⟨some 4, .mv (.v (.bool true)), none⟩])
  .ret)
 .skip))
 (.seq (.ops [⟨some 21, .load 1 true (.t 2), none⟩, ⟨some 22, .call 17 [.t 21], none⟩, ⟨some 23, .mv (.t 1), none⟩, ⟨some 24, .call 21 [.t 23], none⟩, ⟨some 25, .call 20 [.t 22, .t 24], none⟩, ⟨some 20, .mv (.t 25), none⟩, ⟨some 26, .ext (.t 20) 0, none⟩, ⟨some 27, .ext (.t 20) 1, none⟩, ⟨some 6, .mv (.t 26), none⟩, ⟨some 7, .mv (.t 27), none⟩])
 (.seq (.ops [⟨some 28, .load 1 true (.t 2), none⟩, ⟨some 29, .call 17 [.t 28], none⟩, ⟨some 8, .alloc [.nil], none⟩, ⟨none, .store 1 (.t 8) (.t 29), none⟩])
 (.seq (.ops [⟨some 30, .mv (.t 1), none⟩, ⟨some 31, .call 21 [.t 30], none⟩, ⟨some 9, .mv (.t 31), none⟩])
 (.seq (.ops [⟨some 33, .load 1 true (.t 8), none⟩, ⟨some 34, .mv (.t 9), none⟩, ⟨some 35, .call 22 [.t 33, .t 34], none⟩, ⟨some 32, .mv (.t 35), none⟩, ⟨some 36, .ext (.t 32) 0, none⟩, ⟨some 37, .ext (.t 32) 1, none⟩, ⟨some 10, .mv (.t 36), none⟩, ⟨some 11, .mv (.t 37), none⟩])
 (.seq (.seq (.ops [⟨some 38, .mv (.t 10), none⟩, ⟨some 39, .mv (.t 6), none⟩, ⟨some 40, .bin .neq (.t 38) (.t 39), none⟩, ⟨some 41, .mv (.t 40), none⟩, ⟨some 42, .mv (.t 11), some (41, false)⟩, ⟨some 43, .mv (.t 7), some (41, false)⟩, ⟨some 44, .bqe true (.t 42) (.t 43), some (41, false)⟩, ⟨some 45, .pick (.t 41) (.v (.bool true)) (.t 44), none⟩])
 (.ite (.t 45) (.seq (.ops [⟨some 4, .mv (.v (.bool false)), none⟩])
  .ret)
 .skip))
 (.seq (.seq (.draw 5 [⟨some 46, .load 1 true (.t 8), none⟩, ⟨some 47, .load 1 true (.t 2), none⟩, ⟨some 48, .call 17 [.t 47], none⟩, ⟨some 49, .call 19 [.t 46, .t 48], none⟩, ⟨some 50, .not (.t 49), none⟩])
 (.ite (.t 50) (.seq (.ops [⟨some 4, .mv (.v (.bool false)), none⟩])
  .ret)
 .skip))
 (.seq (.seq (.ops [⟨some 51, .mv (.t 9), none⟩, ⟨some 52, .mv (.t 1), none⟩, ⟨some 53, .call 21 [.t 52], none⟩, ⟨some 54, .call 23 [.t 51, .t 53], none⟩, ⟨some 55, .not (.t 54), none⟩])
 (.ite (.t 55) (.seq (.ops [⟨some 4, .mv (.v (.bool false)), none⟩])
  .ret)
 .skip))
 (.seq (.ops [⟨some 4, .mv (.v (.bool true)), none⟩])
 .ret)))))))))))))
noncomputable def X.l_FnExactLikelihoodOf (p0 : TClimate) (p1 : (List Int)) : Option Bool :=
  (bif (decide ((p1.length : Int) > 1048576)) then some true else ((X.l_szClimate p0 1048576).bind fun v3 => (bif (decide (v3 < 0)) then some true else ((X.l_toClimate p0).bind fun v7 => ((X.l_toIntS p1).bind fun v9 => ((X.s_LikelihoodOf v7 v9).bind fun v11 => ((X.l_toClimate p0).bind fun v13 => ((X.l_toIntS p1).bind fun v15 => ((X.i_LikelihoodOf v13 v15).bind fun v17 => (bif (v17.1 != v11.1) then some false else (bif (!(v17.2 == v11.2)) then some false else ((X.l_toClimate p0).bind fun v28 => ((X.l_eqClimate v13 v28).bind fun v30 => (bif (!v30) then some false else ((X.l_toIntS p1).bind fun v33 => ((X.l_eqIntS v15 v33).bind fun v35 => (bif (!v35) then some false else some true)))))))))))))))))
theorem l_FnExactLikelihoodOf_ok (p0 : TClimate) (p1 : (List Int)) (r : Bool) (H : X.l_FnExactLikelihoodOf p0 p1 = some r) : FnOk Try.prog gl 6 [.agg (eTClimate p0), .c (dat 1 eI zI p1)] (.c (.bool r)) := by
  unfold X.l_FnExactLikelihoodOf at H
  refine fn_in (fn := Try.f6) (ir := l_FnExactLikelihoodOf_ir) (s1 := lit [(4, .c (.bool r))] []) Try.func6 (by kernel_rfl) (by kernel_rfl) (by kernel_rfl) (by kernel_rfl) (by kernel_rfl) ?_
  refine seq_ops [] [] [(1, .c (dat 1 eI zI p1)), (2, .c (.pk 2 0))] [(2, .var [dat 1 eLI zLI p0.Weights] false)] (fun t => t) (by kernel_rfl) ?_
  refine seq_in ?_
  refine seq_ops [] [] [(1, .c (dat 1 eI zI p1)), (2, .c (.pk 2 0)), (14, .c (.bool (decide ((p1.length : Int) > 1048576))))] [(2, .var [dat 1 eLI zLI p0.Weights] false)] (fun t => (fun (_ : p1.length ≤ maxLen) => t)) (by kernel_rfl) ?_
  rcases ofCond H with ⟨c2, H⟩ | ⟨c2, H⟩
  · refine ite_t c2 (by kernel_rfl) ?_
    refine seq_ops [] [] [(4, .c (.bool true))] [] (fun t => t) (by kernel_rfl) ?_
    refine ends_ret ?_
    obtain rfl := Option.some.inj H
    exact And.intro (.inl rfl) rfl
  · refine ite_f c2 (by kernel_rfl) ?_
    refine ends_skip ?_
    change EndsI _ _ _ _ _ _
    refine seq_ops [] [] [(1, .c (dat 1 eI zI p1)), (2, .c (.pk 2 0)), (5, .c (.int .i64 1048576))] [(2, .var [dat 1 eLI zLI p0.Weights] false)] (fun t => t) (by kernel_rfl) ?_
    obtain ⟨v3, h4, H⟩ := ofBind H
    refine seq_ops [.res (.c (.int .i64 v3))] [] [(1, .c (dat 1 eI zI p1)), (2, .c (.pk 2 0)), (5, .c (.int .i64 v3))] [(2, .var [dat 1 eLI zLI p0.Weights] false)] (fun t => And.intro (l_szClimate_ok p0 1048576 v3 h4) (t)) (by kernel_rfl) ?_
    refine seq_in ?_
    refine seq_ops [] [] [(1, .c (dat 1 eI zI p1)), (2, .c (.pk 2 0)), (19, .c (.bool (decide (v3 < 0))))] [(2, .var [dat 1 eLI zLI p0.Weights] false)] (fun t => t) (by kernel_rfl) ?_
    rcases ofCond H with ⟨c6, H⟩ | ⟨c6, H⟩
    · refine ite_t c6 (by kernel_rfl) ?_
      refine seq_ops [] [] [(4, .c (.bool true))] [] (fun t => t) (by kernel_rfl) ?_
      refine ends_ret ?_
      obtain rfl := Option.some.inj H
      exact And.intro (.inl rfl) rfl
    · refine ite_f c6 (by kernel_rfl) ?_
      refine ends_skip ?_
      change EndsI _ _ _ _ _ _
      obtain ⟨v7, h8, H⟩ := ofBind H
      obtain ⟨v9, h10, H⟩ := ofBind H
      obtain ⟨v11, h12, H⟩ := ofBind H
      refine seq_ops [.res (.agg (eTClimate v7)), .res (.c (dat 1 eI zI v9)), .res (.tup [(false, [.int .i64 v11.1]), (false, [.bool v11.2])])] [] [(1, .c (dat 1 eI zI p1)), (2, .c (.pk 2 0)), (6, .c (.int .i64 v11.1)), (7, .c (.bool v11.2))] [(2, .var [dat 1 eLI zLI p0.Weights] false)] (fun t => And.intro (l_toClimate_ok p0 v7 h8) (And.intro (l_toIntS_ok p1 v9 h10) (And.intro (s_LikelihoodOf_ok v7 v9 v11 h12) (t)))) (by kernel_rfl) ?_
      obtain ⟨v13, h14, H⟩ := ofBind H
      refine seq_ops [.res (.agg (eTClimate v13))] [] [(1, .c (dat 1 eI zI p1)), (2, .c (.pk 2 0)), (6, .c (.int .i64 v11.1)), (7, .c (.bool v11.2)), (8, .c (.pk 8 0))] [(2, .var [dat 1 eLI zLI p0.Weights] false), (8, .var [dat 1 eLI zLI v13.Weights] false)] (fun t => And.intro (l_toClimate_ok p0 v13 h14) (t)) (by kernel_rfl) ?_
      obtain ⟨v15, h16, H⟩ := ofBind H
      refine seq_ops [.res (.c (dat 1 eI zI v15))] [] [(1, .c (dat 1 eI zI p1)), (2, .c (.pk 2 0)), (6, .c (.int .i64 v11.1)), (7, .c (.bool v11.2)), (8, .c (.pk 8 0)), (9, .c (dat 1 eI zI v15))] [(2, .var [dat 1 eLI zLI p0.Weights] false), (8, .var [dat 1 eLI zLI v13.Weights] false)] (fun t => And.intro (l_toIntS_ok p1 v15 h16) (t)) (by kernel_rfl) ?_
      obtain ⟨v17, h18, H⟩ := ofBind H
      refine seq_ops [.res (.tup [(false, [.int .i64 v17.1]), (false, [.bool v17.2])])] [] [(1, .c (dat 1 eI zI p1)), (2, .c (.pk 2 0)), (6, .c (.int .i64 v11.1)), (7, .c (.bool v11.2)), (8, .c (.pk 8 0)), (9, .c (dat 1 eI zI v15)), (10, .c (.int .i64 v17.1)), (11, .c (.bool v17.2))] [(2, .var [dat 1 eLI zLI p0.Weights] false), (8, .var [dat 1 eLI zLI v13.Weights] false)] (fun t => And.intro (i_LikelihoodOf_ok v13 v15 v17 h18) (t)) (by kernel_rfl) ?_
      refine seq_in ?_
      rcases ofCond H with ⟨c21, H⟩ | ⟨c21, H⟩
      · refine seq_ops [.g true, .g true, .g true, .g true] [] [(1, .c (dat 1 eI zI p1)), (2, .c (.pk 2 0)), (8, .c (.pk 8 0)), (9, .c (dat 1 eI zI v15)), (45, .c (.bool true))] [(2, .var [dat 1 eLI zLI p0.Weights] false), (8, .var [dat 1 eLI zLI v13.Weights] false)] (fun t => And.intro c21 (And.intro c21 (And.intro c21 (And.intro c21 (t))))) (by kernel_rfl) ?_
        refine ite_t (rfl : (true : Bool) = true) (by kernel_rfl) ?_
        refine seq_ops [] [] [(4, .c (.bool false))] [] (fun t => t) (by kernel_rfl) ?_
        refine ends_ret ?_
        obtain rfl := Option.some.inj H
        exact And.intro (.inl rfl) rfl
      · refine seq_ops [.g false, .g false, .g false, .g false] [] [(1, .c (dat 1 eI zI p1)), (2, .c (.pk 2 0)), (8, .c (.pk 8 0)), (9, .c (dat 1 eI zI v15)), (45, .c (.bool (!(v17.2 == v11.2))))] [(2, .var [dat 1 eLI zLI p0.Weights] false), (8, .var [dat 1 eLI zLI v13.Weights] false)] (fun t => And.intro c21 (And.intro c21 (And.intro c21 (And.intro c21 (t))))) (by kernel_rfl) ?_
        rcases ofCond H with ⟨c22, H⟩ | ⟨c22, H⟩
        · refine ite_t c22 (by kernel_rfl) ?_
          refine seq_ops [] [] [(4, .c (.bool false))] [] (fun t => t) (by kernel_rfl) ?_
          refine ends_ret ?_
          obtain rfl := Option.some.inj H
          exact And.intro (.inl rfl) rfl
        · refine ite_f c22 (by kernel_rfl) ?_
          refine ends_skip ?_
          change EndsI _ _ _ _ _ _
          refine seq_in ?_
          obtain ⟨v28, h29, H⟩ := ofBind H
          obtain ⟨v30, h31, H⟩ := ofBind H
          refine seq_draw [.res (.agg (eTClimate v28)), .res (.c (.bool v30))] [] [(1, .c (dat 1 eI zI p1)), (9, .c (dat 1 eI zI v15)), (50, .c (.bool (!v30)))] [] (fun t => And.intro (l_toClimate_ok p0 v28 h29) (And.intro (rfl : ([] : List Nat) = []) (And.intro (rfl : ([] : List Nat) = []) (And.intro (l_eqClimate_ok v13 v28 v30 h31) (And.intro trivial (And.intro (rfl : ([] : List Nat) = []) (t))))))) (by kernel_rfl) ?_
          rcases ofCond H with ⟨c32, H⟩ | ⟨c32, H⟩
          · refine ite_t c32 (by kernel_rfl) ?_
            refine seq_ops [] [] [(4, .c (.bool false))] [] (fun t => t) (by kernel_rfl) ?_
            refine ends_ret ?_
            obtain rfl := Option.some.inj H
            exact And.intro (.inl rfl) rfl
          · refine ite_f c32 (by kernel_rfl) ?_
            refine ends_skip ?_
            change EndsI _ _ _ _ _ _
            refine seq_in ?_
            obtain ⟨v33, h34, H⟩ := ofBind H
            obtain ⟨v35, h36, H⟩ := ofBind H
            refine seq_ops [.res (.c (dat 1 eI zI v33)), .res (.c (.bool v35))] [] [(55, .c (.bool (!v35)))] [] (fun t => And.intro (l_toIntS_ok p1 v33 h34) (And.intro (l_eqIntS_ok v15 v33 v35 h36) (t))) (by kernel_rfl) ?_
            rcases ofCond H with ⟨c37, H⟩ | ⟨c37, H⟩
            · refine ite_t c37 (by kernel_rfl) ?_
              refine seq_ops [] [] [(4, .c (.bool false))] [] (fun t => t) (by kernel_rfl) ?_
              refine ends_ret ?_
              obtain rfl := Option.some.inj H
              exact And.intro (.inl rfl) rfl
            · refine ite_f c37 (by kernel_rfl) ?_
              refine ends_skip ?_
              change EndsI _ _ _ _ _ _
              refine seq_ops [] [] [(4, .c (.bool true))] [] (fun t => t) (by kernel_rfl) ?_
              refine ends_ret ?_
              obtain rfl := Option.some.inj H
              exact And.intro (.inl rfl) rfl

end Go.Proofs.Ythlkfhblecipbaa.X0
