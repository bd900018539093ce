/- What each Go function that FnExactSameView reaches computes, and that it returns so; no condition. -/
import Derived.Test.YthlkfhblecipbaaProg
import Derived.Test.YthlkfhblecipbaaAbCore2
set_option linter.unusedVariables false
set_option linter.unusedSimpArgs false
set_option maxRecDepth 100000
namespace Go.Proofs.Ythlkfhblecipbaa.X0
open Go Go.RowKit Go.Proofs.Ythlkfhblecipbaa.Ab Go.Proofs
def zI : Int := 0
def zB : Bool := false
def zS : List UInt8 := []
def eI (x : Int) : List AC := [.int .i64 x]
def eU (x : Int) : List AC := [.int .u8 x]
def eB (x : Bool) : List AC := [.bool x]
def eS (x : List UInt8) : List AC := [.str x]
def zLI : List Int := []
def eLI (xs : List Int) : List AC := [dat 1 eI zI xs]
theorem nLI : LeR [.nil] (eLI zLI) := And.intro (LeC.nil 1 _) trivial
structure TUnit where
  Side : Int
  Kind : Int
  At : Int
  Steps : Int

def zTUnit : TUnit := ⟨zI, zI, zI, zI⟩
def eTUnit (x : TUnit) : List AC := [.int .i64 x.Side, .int .i64 x.Kind, .int .i64 x.At, .int .i64 x.Steps]
def zLTUnit : List TUnit := []
def eLTUnit (xs : List TUnit) : List AC := [dat 4 eTUnit zTUnit xs]
theorem nLTUnit : LeR [.nil] (eLTUnit zLTUnit) := And.intro (LeC.nil 4 _) trivial
structure TView where
  Side : Int
  Turn : Int
  Weather : Int
  Seen : (List Int)
  Own : (List TUnit)
  Enemies : (List TUnit)

def zTView : TView := ⟨zI, zI, zI, zLI, zLTUnit, zLTUnit⟩
def eTView (x : TView) : List AC := [.int .i64 x.Side, .int .i64 x.Turn, .int .i64 x.Weather, dat 1 eI zI x.Seen, dat 4 eTUnit zTUnit x.Own, dat 4 eTUnit zTUnit x.Enemies]
theorem nTView : LeR [.int .i64 0, .int .i64 0, .int .i64 0, .nil, .nil, .nil] (eTView zTView) := And.intro (LeC.refl _) (And.intro (LeC.refl _) (And.intro (LeC.refl _) (And.intro (LeC.nil 1 _) (And.intro (LeC.nil 4 _) (And.intro (LeC.nil 4 _) (trivial))))))
def gl : Nat → Option (List AC) := fun _ => none

def l_szIntS_ir : S :=
 (.seq (.ops [⟨some 4, .mv (.v (.int .i64 0)), none⟩])
 (.seq (.ops [⟨some 5, .mv (.t 1), none⟩, ⟨some 6, .mv (.t 0), none⟩, ⟨some 7, .len (.t 6), none⟩, ⟨some 8, .bin .sub (.t 5) (.t 7), none⟩, ⟨some 1, .mv (.t 8), none⟩])
 (.seq (.seq (.ops [⟨some 9, .mv (.t 1), none⟩, ⟨some 10, .bin .lss (.t 9) (.v (.int .i64 0)), none⟩])
 (.ite (.t 10) (.seq (.ops [⟨some 4, .mv (.v (.int .i64 (-1))), none⟩])
  .ret)
 .skip))
 (.seq (.ops [⟨some 11, .mv (.t 1), none⟩, ⟨some 4, .mv (.t 11), none⟩])
 .ret))))
noncomputable def X.l_szIntS (p0 : (List Int)) (p1 : Int) : Option Int :=
  (bif (decide ((W (p1 - (p0.length : Int))) < 0)) then some (-1) else some (W (p1 - (p0.length : Int))))
theorem l_szIntS_ok (p0 : (List Int)) (p1 : Int) (r : Int) (H : X.l_szIntS p0 p1 = some r) : FnOk Try.prog gl 56 [.c (dat 1 eI zI p0), .c (.int .i64 p1)] (.c (.int .i64 r)) := by
  unfold X.l_szIntS at H
  refine fn_in (fn := Try.f56) (ir := l_szIntS_ir) (s1 := lit [(4, .c (.int .i64 r))] []) Try.func56 (by kernel_rfl) (by kernel_rfl) (by kernel_rfl) (by kernel_rfl) (by kernel_rfl) ?_
  refine seq_ops [] [] [(0, .c (dat 1 eI zI p0)), (1, .c (.int .i64 p1))] [] (fun t => t) (by kernel_rfl) ?_
  refine seq_ops [] [] [(1, .c (.int .i64 (W (p1 - (p0.length : Int)))))] [] (fun t => (fun (_ : p0.length ≤ maxLen) => t)) (by kernel_rfl) ?_
  refine seq_in ?_
  refine seq_ops [] [] [(1, .c (.int .i64 (W (p1 - (p0.length : Int))))), (10, .c (.bool (decide ((W (p1 - (p0.length : Int))) < 0))))] [] (fun t => t) (by kernel_rfl) ?_
  rcases ofCond H with ⟨c1, H⟩ | ⟨c1, H⟩
  · refine ite_t c1 (by kernel_rfl) ?_
    refine seq_ops [] [] [(4, .c (.int .i64 (-1)))] [] (fun t => t) (by kernel_rfl) ?_
    refine ends_ret ?_
    obtain rfl := Option.some.inj H
    exact And.intro (.inl rfl) rfl
  · refine ite_f c1 (by kernel_rfl) ?_
    refine ends_skip ?_
    change EndsI _ _ _ _ _ _
    refine seq_ops [] [] [(4, .c (.int .i64 (W (p1 - (p0.length : Int)))))] [] (fun t => t) (by kernel_rfl) ?_
    refine ends_ret ?_
    obtain rfl := Option.some.inj H
    exact And.intro (.inl rfl) rfl

def l_szUnitS_ir : S :=
 (.seq (.ops [⟨some 4, .mv (.v (.int .i64 0)), none⟩])
 (.seq (.ops [⟨some 5, .mv (.t 1), none⟩, ⟨some 6, .mv (.t 0), none⟩, ⟨some 7, .len (.t 6), none⟩, ⟨some 8, .bin .sub (.t 5) (.t 7), none⟩, ⟨some 1, .mv (.t 8), none⟩])
 (.seq (.seq (.ops [⟨some 9, .mv (.t 1), none⟩, ⟨some 10, .bin .lss (.t 9) (.v (.int .i64 0)), none⟩])
 (.ite (.t 10) (.seq (.ops [⟨some 4, .mv (.v (.int .i64 (-1))), none⟩])
  .ret)
 .skip))
 (.seq (.ops [⟨some 11, .mv (.t 1), none⟩, ⟨some 4, .mv (.t 11), none⟩])
 .ret))))
noncomputable def X.l_szUnitS (p0 : (List TUnit)) (p1 : Int) : Option Int :=
  (bif (decide ((W (p1 - (p0.length : Int))) < 0)) then some (-1) else some (W (p1 - (p0.length : Int))))
theorem l_szUnitS_ok (p0 : (List TUnit)) (p1 : Int) (r : Int) (H : X.l_szUnitS p0 p1 = some r) : FnOk Try.prog gl 57 [.c (dat 4 eTUnit zTUnit p0), .c (.int .i64 p1)] (.c (.int .i64 r)) := by
  unfold X.l_szUnitS at H
  refine fn_in (fn := Try.f57) (ir := l_szUnitS_ir) (s1 := lit [(4, .c (.int .i64 r))] []) Try.func57 (by kernel_rfl) (by kernel_rfl) (by kernel_rfl) (by kernel_rfl) (by kernel_rfl) ?_
  refine seq_ops [] [] [(0, .c (dat 4 eTUnit zTUnit p0)), (1, .c (.int .i64 p1))] [] (fun t => t) (by kernel_rfl) ?_
  refine seq_ops [] [] [(1, .c (.int .i64 (W (p1 - (p0.length : Int)))))] [] (fun t => (fun (_ : p0.length ≤ maxLen) => t)) (by kernel_rfl) ?_
  refine seq_in ?_
  refine seq_ops [] [] [(1, .c (.int .i64 (W (p1 - (p0.length : Int))))), (10, .c (.bool (decide ((W (p1 - (p0.length : Int))) < 0))))] [] (fun t => t) (by kernel_rfl) ?_
  rcases ofCond H with ⟨c1, H⟩ | ⟨c1, H⟩
  · refine ite_t c1 (by kernel_rfl) ?_
    refine seq_ops [] [] [(4, .c (.int .i64 (-1)))] [] (fun t => t) (by kernel_rfl) ?_
    refine ends_ret ?_
    obtain rfl := Option.some.inj H
    exact And.intro (.inl rfl) rfl
  · refine ite_f c1 (by kernel_rfl) ?_
    refine ends_skip ?_
    change EndsI _ _ _ _ _ _
    refine seq_ops [] [] [(4, .c (.int .i64 (W (p1 - (p0.length : Int)))))] [] (fun t => t) (by kernel_rfl) ?_
    refine ends_ret ?_
    obtain rfl := Option.some.inj H
    exact And.intro (.inl rfl) rfl

def l_szView_ir : S :=
 (.seq (.ops [⟨some 2, .box 6 (.t 0), none⟩, ⟨some 4, .mv (.v (.int .i64 0)), none⟩])
 (.seq (.ops [⟨some 5, .fad 3 (.t 2), none⟩, ⟨some 6, .load 1 false (.t 5), none⟩, ⟨some 7, .mv (.t 1), none⟩, ⟨some 8, .call 56 [.t 6, .t 7], none⟩, ⟨some 1, .mv (.t 8), none⟩])
 (.seq (.seq (.ops [⟨some 9, .mv (.t 1), none⟩, ⟨some 10, .bin .lss (.t 9) (.v (.int .i64 0)), none⟩])
 (.ite (.t 10) (.seq (.ops [⟨some 4, .mv (.v (.int .i64 (-1))), none⟩])
  .ret)
 .skip))
 (.seq (.ops [⟨some 11, .fad 4 (.t 2), none⟩, ⟨some 12, .load 1 false (.t 11), none⟩, ⟨some 13, .mv (.t 1), none⟩, ⟨some 14, .call 57 [.t 12, .t 13], none⟩, ⟨some 1, .mv (.t 14), none⟩])
 (.seq (.seq (.ops [⟨some 15, .mv (.t 1), none⟩, ⟨some 16, .bin .lss (.t 15) (.v (.int .i64 0)), none⟩])
 (.ite (.t 16) (.seq (.ops [⟨some 4, .mv (.v (.int .i64 (-1))), none⟩])
  .ret)
 .skip))
 (.seq (.ops [⟨some 17, .fad 5 (.t 2), none⟩, ⟨some 18, .load 1 false (.t 17), none⟩, ⟨some 19, .mv (.t 1), none⟩, ⟨some 20, .call 57 [.t 18, .t 19], none⟩, ⟨some 1, .mv (.t 20), none⟩])
 (.seq (.seq (.ops [⟨some 21, .mv (.t 1), none⟩, ⟨some 22, .bin .lss (.t 21) (.v (.int .i64 0)), none⟩])
 (.ite (.t 22) (.seq (.ops [⟨some 4, .mv (.v (.int .i64 (-1))), none⟩])
  .ret)
 .skip))
 (.seq (.ops [⟨some 23, .mv (.t 1), none⟩, ⟨some 4, .mv (.t 23), none⟩])
 .ret))))))))
noncomputable def X.l_szView (p0 : TView) (p1 : Int) : Option Int :=
  ((X.l_szIntS p0.Seen p1).bind fun v1 => (bif (decide (v1 < 0)) then some (-1) else ((X.l_szUnitS p0.Own v1).bind fun v5 => (bif (decide (v5 < 0)) then some (-1) else ((X.l_szUnitS p0.Enemies v5).bind fun v9 => (bif (decide (v9 < 0)) then some (-1) else some v9))))))
theorem l_szView_ok (p0 : TView) (p1 : Int) (r : Int) (H : X.l_szView p0 p1 = some r) : FnOk Try.prog gl 24 [.agg (eTView p0), .c (.int .i64 p1)] (.c (.int .i64 r)) := by
  unfold X.l_szView at H
  refine fn_in (fn := Try.f24) (ir := l_szView_ir) (s1 := lit [(4, .c (.int .i64 r))] []) Try.func24 (by kernel_rfl) (by kernel_rfl) (by kernel_rfl) (by kernel_rfl) (by kernel_rfl) ?_
  refine seq_ops [] [] [(1, .c (.int .i64 p1)), (2, .c (.pk 2 0))] [(2, .var [.int .i64 p0.Side, .int .i64 p0.Turn, .int .i64 p0.Weather, dat 1 eI zI p0.Seen, dat 4 eTUnit zTUnit p0.Own, dat 4 eTUnit zTUnit p0.Enemies] false)] (fun t => t) (by kernel_rfl) ?_
  obtain ⟨v1, h2, H⟩ := ofBind H
  refine seq_ops [.res (.c (.int .i64 v1))] [] [(1, .c (.int .i64 v1)), (2, .c (.pk 2 0))] [(2, .var [.int .i64 p0.Side, .int .i64 p0.Turn, .int .i64 p0.Weather, dat 1 eI zI p0.Seen, dat 4 eTUnit zTUnit p0.Own, dat 4 eTUnit zTUnit p0.Enemies] false)] (fun t => And.intro (l_szIntS_ok p0.Seen p1 v1 h2) (t)) (by kernel_rfl) ?_
  refine seq_in ?_
  refine seq_ops [] [] [(1, .c (.int .i64 v1)), (2, .c (.pk 2 0)), (10, .c (.bool (decide (v1 < 0))))] [(2, .var [.int .i64 p0.Side, .int .i64 p0.Turn, .int .i64 p0.Weather, dat 1 eI zI p0.Seen, dat 4 eTUnit zTUnit p0.Own, dat 4 eTUnit zTUnit p0.Enemies] false)] (fun t => t) (by kernel_rfl) ?_
  rcases ofCond H with ⟨c4, H⟩ | ⟨c4, H⟩
  · refine ite_t c4 (by kernel_rfl) ?_
    refine seq_ops [] [] [(4, .c (.int .i64 (-1)))] [] (fun t => t) (by kernel_rfl) ?_
    refine ends_ret ?_
    obtain rfl := Option.some.inj H
    exact And.intro (.inl rfl) rfl
  · refine ite_f c4 (by kernel_rfl) ?_
    refine ends_skip ?_
    change EndsI _ _ _ _ _ _
    obtain ⟨v5, h6, H⟩ := ofBind H
    refine seq_ops [.res (.c (.int .i64 v5))] [] [(1, .c (.int .i64 v5)), (2, .c (.pk 2 0))] [(2, .var [.int .i64 p0.Side, .int .i64 p0.Turn, .int .i64 p0.Weather, dat 1 eI zI p0.Seen, dat 4 eTUnit zTUnit p0.Own, dat 4 eTUnit zTUnit p0.Enemies] false)] (fun t => And.intro (l_szUnitS_ok p0.Own v1 v5 h6) (t)) (by kernel_rfl) ?_
    refine seq_in ?_
    refine seq_ops [] [] [(1, .c (.int .i64 v5)), (2, .c (.pk 2 0)), (16, .c (.bool (decide (v5 < 0))))] [(2, .var [.int .i64 p0.Side, .int .i64 p0.Turn, .int .i64 p0.Weather, dat 1 eI zI p0.Seen, dat 4 eTUnit zTUnit p0.Own, dat 4 eTUnit zTUnit p0.Enemies] false)] (fun t => t) (by kernel_rfl) ?_
    rcases ofCond H with ⟨c8, H⟩ | ⟨c8, H⟩
    · refine ite_t c8 (by kernel_rfl) ?_
      refine seq_ops [] [] [(4, .c (.int .i64 (-1)))] [] (fun t => t) (by kernel_rfl) ?_
      refine ends_ret ?_
      obtain rfl := Option.some.inj H
      exact And.intro (.inl rfl) rfl
    · refine ite_f c8 (by kernel_rfl) ?_
      refine ends_skip ?_
      change EndsI _ _ _ _ _ _
      obtain ⟨v9, h10, H⟩ := ofBind H
      refine seq_ops [.res (.c (.int .i64 v9))] [] [(1, .c (.int .i64 v9))] [] (fun t => And.intro (l_szUnitS_ok p0.Enemies v5 v9 h10) (t)) (by kernel_rfl) ?_
      refine seq_in ?_
      refine seq_ops [] [] [(1, .c (.int .i64 v9)), (22, .c (.bool (decide (v9 < 0))))] [] (fun t => t) (by kernel_rfl) ?_
      rcases ofCond H with ⟨c11, H⟩ | ⟨c11, H⟩
      · refine ite_t c11 (by kernel_rfl) ?_
        refine seq_ops [] [] [(4, .c (.int .i64 (-1)))] [] (fun t => t) (by kernel_rfl) ?_
        refine ends_ret ?_
        obtain rfl := Option.some.inj H
        exact And.intro (.inl rfl) rfl
      · refine ite_f c11 (by kernel_rfl) ?_
        refine ends_skip ?_
        change EndsI _ _ _ _ _ _
        refine seq_ops [] [] [(4, .c (.int .i64 v9))] [] (fun t => t) (by kernel_rfl) ?_
        refine ends_ret ?_
        obtain rfl := Option.some.inj H
        exact And.intro (.inl rfl) rfl

def s_l1Same_ir : S :=
 (.seq (.ops [⟨some 4, .mv (.v (.bool false)), none⟩])
 (.seq (.seq (.ops [⟨some 6, .mv (.t 0), none⟩, ⟨some 7, .len (.t 6), none⟩, ⟨some 8, .mv (.t 1), none⟩, ⟨some 9, .len (.t 8), none⟩, ⟨some 10, .bin .neq (.t 7) (.t 9), none⟩])
 (.ite (.t 10) (.seq (.ops [⟨some 4, .mv (.v (.bool false)), none⟩])
  .ret)
 .skip))
 (.seq (.seq (.ops [⟨some 11, .mv (.t 0), none⟩, ⟨some 12, .len (.t 11), none⟩, ⟨some 13, .mv (.v (.int .i64 0)), none⟩])
 (.blk 0 (.loop (.seq (.ops [⟨some 14, .bin .lss (.t 13) (.t 12), none⟩])
   (.seq (.ite (.t 14) .skip
   (.exit 0))
   (.seq (.blk 1 (.seq (.ops [⟨some 15, .mv (.t 13), none⟩, ⟨some 5, .mv (.t 15), none⟩])
    (.seq (.draw 9 [⟨some 16, .mv (.t 0), none⟩, ⟨some 17, .mv (.t 5), none⟩, ⟨some 18, .iad 1 (.t 16) (.t 17), none⟩, ⟨some 19, .load 1 false (.t 18), none⟩, ⟨some 20, .mv (.t 1), none⟩, ⟨some 21, .mv (.t 5), none⟩, ⟨some 22, .iad 1 (.t 20) (.t 21), none⟩, ⟨some 23, .load 1 false (.t 22), none⟩, ⟨some 24, .bin .neq (.t 19) (.t 23), none⟩])
    (.ite (.t 24) (.seq (.ops [⟨some 4, .mv (.v (.bool false)), none⟩])
     .ret)
    .skip))))
   (.ops [⟨some 25, .bin .add (.t 13) (.v (.int .i64 1)), none⟩, ⟨some 13, .mv (.t 25), none⟩])))))))
 (.seq (.ops [⟨some 4, .mv (.v (.bool true)), none⟩])
 .ret))))
noncomputable def X.s_l1Same (p0 : (List Int)) (p1 : (List Int)) : Option Bool :=
  (bif ((p0.length : Int) != (p1.length : Int)) then some false else ((loop (fun (x18 : Int) => ((bif (decide (x18 < (p0.length : Int))) then ((at' zI p0 x18).bind fun v21 => ((at' zI p1 x18).bind fun v23 => (bif (v21 != v23) then some (Sum.inr (Sum.inr false)) else some (Sum.inl (W (x18 + 1)))))) else some (Sum.inr (Sum.inl ()))) : Option (Int ⊕ (Unit ⊕ Bool)))) 0).bind fun y26 => (Sum.elim (fun (y28 : Unit) => some true) (fun (y29 : Bool) => some y29) y26)))
theorem s_l1Same_ok (p0 : (List Int)) (p1 : (List Int)) (r : Bool) (H : X.s_l1Same p0 p1 = some r) : FnOk Try.prog gl 76 [.c (dat 1 eI zI p0), .c (dat 1 eI zI p1)] (.c (.bool r)) := by
  unfold X.s_l1Same at H
  refine fn_in (fn := Try.f76) (ir := s_l1Same_ir) (s1 := lit [(4, .c (.bool r))] []) Try.func76 (by kernel_rfl) (by kernel_rfl) (by kernel_rfl) (by kernel_rfl) (by kernel_rfl) ?_
  refine seq_ops [] [] [(0, .c (dat 1 eI zI p0)), (1, .c (dat 1 eI zI p1))] [] (fun t => t) (by kernel_rfl) ?_
  refine seq_in ?_
  refine seq_ops [] [] [(0, .c (dat 1 eI zI p0)), (1, .c (dat 1 eI zI p1)), (10, .c (.bool ((p0.length : Int) != (p1.length : Int))))] [] (fun t => (fun (_ : p0.length ≤ maxLen) => (fun (_ : p1.length ≤ maxLen) => t))) (by kernel_rfl) ?_
  rcases ofCond H with ⟨c2, H⟩ | ⟨c2, H⟩
  · refine ite_t c2 (by kernel_rfl) ?_
    refine seq_ops [] [] [(4, .c (.bool false))] [] (fun t => t) (by kernel_rfl) ?_
    refine ends_ret ?_
    obtain rfl := Option.some.inj H
    exact And.intro (.inl rfl) rfl
  · refine ite_f c2 (by kernel_rfl) ?_
    refine ends_skip ?_
    change EndsI _ _ _ _ _ _
    refine seq_in ?_
    refine seq_ops [] [] [(0, .c (dat 1 eI zI p0)), (1, .c (dat 1 eI zI p1)), (12, .c (.int .i64 (p0.length : Int))), (13, .c (.int .i64 0))] [] (fun t => (fun (_ : p0.length ≤ maxLen) => t)) (by kernel_rfl) ?_
    refine ends_blk ?_
    obtain ⟨y26, h27, H⟩ := ofBind H
    refine loop_in (fun (x : Int) => lit [(0, .c (dat 1 eI zI p0)), (1, .c (dat 1 eI zI p1)), (12, .c (.int .i64 (p0.length : Int))), (13, .c (.int .i64 x))] []) (orJ (fun (z : Unit) => At (.exit 0) (lit [] [])) (fun (z : Bool) => At .ret (lit [(4, .c (.bool z))] []))) h27 ?_ ?_
    · clear H h27
      intro x18 y0 H
      refine seq_ops [] [] [(0, .c (dat 1 eI zI p0)), (1, .c (dat 1 eI zI p1)), (12, .c (.int .i64 (p0.length : Int))), (13, .c (.int .i64 x18)), (14, .c (.bool (decide (x18 < (p0.length : Int)))))] [] (fun t => t) (by kernel_rfl) ?_
      refine seq_in ?_
      rcases ofCond H with ⟨c20, H⟩ | ⟨c20, H⟩
      · refine ite_t c20 (by kernel_rfl) ?_
        refine ends_skip ?_
        change EndsI _ _ _ _ _ _
        refine seq_in ?_
        refine ends_blk ?_
        refine seq_ops [] [] [(0, .c (dat 1 eI zI p0)), (1, .c (dat 1 eI zI p1)), (5, .c (.int .i64 x18)), (12, .c (.int .i64 (p0.length : Int))), (13, .c (.int .i64 x18))] [] (fun t => t) (by kernel_rfl) ?_
        obtain ⟨v21, h22, H⟩ := ofBind H
        obtain ⟨v23, h24, H⟩ := ofBind H
        refine seq_draw [.cs (eI v21), .cs (eI v23)] [] [(0, .c (dat 1 eI zI p0)), (1, .c (dat 1 eI zI p1)), (12, .c (.int .i64 (p0.length : Int))), (13, .c (.int .i64 x18)), (24, .c (.bool (v21 != v23)))] [] (fun t => And.intro (at_lt h22) (And.intro (at_enc (enc := eI) h22) (And.intro (rfl : ([] : List Nat) = []) (And.intro (at_lt h24) (And.intro (at_enc (enc := eI) h24) (And.intro (rfl : ([] : List Nat) = []) (t))))))) (by kernel_rfl) ?_
        rcases ofCond H with ⟨c25, H⟩ | ⟨c25, H⟩
        · refine ite_t c25 (by kernel_rfl) ?_
          refine seq_ops [] [] [(4, .c (.bool false))] [] (fun t => t) (by kernel_rfl) ?_
          refine ends_ret ?_
          obtain rfl := Option.some.inj H
          exact And.intro (by simp) (And.intro rfl rfl)
        · refine ite_f c25 (by kernel_rfl) ?_
          refine ends_skip ?_
          change EndsI _ _ _ _ _ _
          refine one_ops [] [] [(0, .c (dat 1 eI zI p0)), (1, .c (dat 1 eI zI p1)), (12, .c (.int .i64 (p0.length : Int))), (13, .c (.int .i64 (W (x18 + 1))))] [] (fun t => t) (by kernel_rfl) ?_
          obtain rfl := Option.some.inj H
          exact And.intro rfl rfl
      · refine ite_f c20 (by kernel_rfl) ?_
        refine tell [] [] [] (fun t => t) (by kernel_rfl) ?_
        refine ends_exit ?_
        obtain rfl := Option.some.inj H
        exact And.intro (by simp) (And.intro rfl rfl)
    · clear h27
      cases y26 with
      | inl y28 =>
        replace H := ofInl H
        intro e s q
        obtain ⟨rfl, rfl⟩ := q
        change EndsI _ _ _ _ _ _
        refine seq_ops [] [] [(4, .c (.bool true))] [] (fun t => t) (by kernel_rfl) ?_
        refine ends_ret ?_
        obtain rfl := Option.some.inj H
        exact And.intro (.inl rfl) rfl
      | inr y29 =>
        replace H := ofInr H
        intro e s q
        obtain ⟨rfl, rfl⟩ := q
        obtain rfl := Option.some.inj H
        exact And.intro (.inl rfl) rfl

def s_fgUnits_ir : S :=
 (.seq (.ops [⟨some 4, .mv (.v (.bool false)), none⟩])
 (.seq (.seq (.ops [⟨some 7, .mv (.t 0), none⟩, ⟨some 8, .len (.t 7), none⟩, ⟨some 9, .mv (.t 1), none⟩, ⟨some 10, .len (.t 9), none⟩, ⟨some 11, .bin .neq (.t 8) (.t 10), none⟩])
 (.ite (.t 11) (.seq (.ops [⟨some 4, .mv (.v (.bool false)), none⟩])
  .ret)
 .skip))
 (.seq (.seq (.ops [⟨some 12, .mv (.t 0), none⟩, ⟨some 13, .len (.t 12), none⟩, ⟨some 14, .mv (.v (.int .i64 0)), none⟩])
 (.blk 0 (.loop (.seq (.ops [⟨some 15, .bin .lss (.t 14) (.t 13), none⟩])
   (.seq (.ite (.t 15) .skip
   (.exit 0))
   (.seq (.blk 1 (.seq (.ops [⟨some 16, .mv (.t 14), none⟩, ⟨some 17, .iad 4 (.t 12) (.t 14), none⟩, ⟨some 18, .load 4 true (.t 17), none⟩, ⟨some 6, .alloc [.int .i64 0, .int .i64 0, .int .i64 0, .int .i64 0], none⟩, ⟨some 5, .mv (.t 16), none⟩, ⟨none, .store 4 (.t 6) (.t 18), none⟩])
    (.seq (.draw 6 [⟨some 19, .load 4 true (.t 6), none⟩, ⟨some 20, .mv (.t 1), none⟩, ⟨some 21, .mv (.t 5), none⟩, ⟨some 22, .iad 4 (.t 20) (.t 21), none⟩, ⟨some 23, .load 4 true (.t 22), none⟩, ⟨some 24, .eqa true [1, 1, 1, 1] (.t 19) (.t 23), none⟩])
    (.ite (.t 24) (.seq (.ops [⟨some 4, .mv (.v (.bool false)), none⟩])
     .ret)
    .skip))))
   (.ops [⟨some 25, .bin .add (.t 14) (.v (.int .i64 1)), none⟩, ⟨some 14, .mv (.t 25), none⟩])))))))
 (.seq (.ops [⟨some 4, .mv (.v (.bool true)), none⟩])
 .ret))))
noncomputable def X.s_fgUnits (p0 : (List TUnit)) (p1 : (List TUnit)) : Option Bool :=
  (bif ((p0.length : Int) != (p1.length : Int)) then some false else ((loop (fun (x18 : Int) => ((bif (decide (x18 < (p0.length : Int))) then ((at' zTUnit p0 x18).bind fun v21 => ((at' zTUnit p1 x18).bind fun v23 => (bif (!((v21.Side == v23.Side) && ((v21.Kind == v23.Kind) && ((v21.At == v23.At) && ((v21.Steps == v23.Steps) && true))))) then some (Sum.inr (Sum.inr false)) else some (Sum.inl (W (x18 + 1)))))) else some (Sum.inr (Sum.inl ()))) : Option (Int ⊕ (Unit ⊕ Bool)))) 0).bind fun y26 => (Sum.elim (fun (y28 : Unit) => some true) (fun (y29 : Bool) => some y29) y26)))
theorem s_fgUnits_ok (p0 : (List TUnit)) (p1 : (List TUnit)) (r : Bool) (H : X.s_fgUnits p0 p1 = some r) : FnOk Try.prog gl 77 [.c (dat 4 eTUnit zTUnit p0), .c (dat 4 eTUnit zTUnit p1)] (.c (.bool r)) := by
  unfold X.s_fgUnits at H
  refine fn_in (fn := Try.f77) (ir := s_fgUnits_ir) (s1 := lit [(4, .c (.bool r))] []) Try.func77 (by kernel_rfl) (by kernel_rfl) (by kernel_rfl) (by kernel_rfl) (by kernel_rfl) ?_
  refine seq_ops [] [] [(0, .c (dat 4 eTUnit zTUnit p0)), (1, .c (dat 4 eTUnit zTUnit p1))] [] (fun t => t) (by kernel_rfl) ?_
  refine seq_in ?_
  refine seq_ops [] [] [(0, .c (dat 4 eTUnit zTUnit p0)), (1, .c (dat 4 eTUnit zTUnit p1)), (11, .c (.bool ((p0.length : Int) != (p1.length : Int))))] [] (fun t => (fun (_ : p0.length ≤ maxLen) => (fun (_ : p1.length ≤ maxLen) => t))) (by kernel_rfl) ?_
  rcases ofCond H with ⟨c2, H⟩ | ⟨c2, H⟩
  · refine ite_t c2 (by kernel_rfl) ?_
    refine seq_ops [] [] [(4, .c (.bool false))] [] (fun t => t) (by kernel_rfl) ?_
    refine ends_ret ?_
    obtain rfl := Option.some.inj H
    exact And.intro (.inl rfl) rfl
  · refine ite_f c2 (by kernel_rfl) ?_
    refine ends_skip ?_
    change EndsI _ _ _ _ _ _
    refine seq_in ?_
    refine seq_ops [] [] [(1, .c (dat 4 eTUnit zTUnit p1)), (12, .c (dat 4 eTUnit zTUnit p0)), (13, .c (.int .i64 (p0.length : Int))), (14, .c (.int .i64 0))] [] (fun t => (fun (_ : p0.length ≤ maxLen) => t)) (by kernel_rfl) ?_
    refine ends_blk ?_
    obtain ⟨y26, h27, H⟩ := ofBind H
    refine loop_in (fun (x : Int) => lit [(1, .c (dat 4 eTUnit zTUnit p1)), (12, .c (dat 4 eTUnit zTUnit p0)), (13, .c (.int .i64 (p0.length : Int))), (14, .c (.int .i64 x))] []) (orJ (fun (z : Unit) => At (.exit 0) (lit [] [])) (fun (z : Bool) => At .ret (lit [(4, .c (.bool z))] []))) h27 ?_ ?_
    · clear H h27
      intro x18 y0 H
      refine seq_ops [] [] [(1, .c (dat 4 eTUnit zTUnit p1)), (12, .c (dat 4 eTUnit zTUnit p0)), (13, .c (.int .i64 (p0.length : Int))), (14, .c (.int .i64 x18)), (15, .c (.bool (decide (x18 < (p0.length : Int)))))] [] (fun t => t) (by kernel_rfl) ?_
      refine seq_in ?_
      rcases ofCond H with ⟨c20, H⟩ | ⟨c20, H⟩
      · refine ite_t c20 (by kernel_rfl) ?_
        refine ends_skip ?_
        change EndsI _ _ _ _ _ _
        refine seq_in ?_
        refine ends_blk ?_
        obtain ⟨v21, h22, H⟩ := ofBind H
        refine seq_ops [.cs (eTUnit v21)] [] [(1, .c (dat 4 eTUnit zTUnit p1)), (5, .c (.int .i64 x18)), (6, .c (.pk 6 0)), (12, .c (dat 4 eTUnit zTUnit p0)), (13, .c (.int .i64 (p0.length : Int))), (14, .c (.int .i64 x18))] [(6, .var [.int .i64 v21.Side, .int .i64 v21.Kind, .int .i64 v21.At, .int .i64 v21.Steps] false)] (fun t => And.intro (at_lt h22) (And.intro (at_enc (enc := eTUnit) h22) (t))) (by kernel_rfl) ?_
        obtain ⟨v23, h24, H⟩ := ofBind H
        refine seq_draw [.cs (eTUnit v23)] [] [(1, .c (dat 4 eTUnit zTUnit p1)), (12, .c (dat 4 eTUnit zTUnit p0)), (13, .c (.int .i64 (p0.length : Int))), (14, .c (.int .i64 x18)), (24, .c (.bool (!((v21.Side == v23.Side) && ((v21.Kind == v23.Kind) && ((v21.At == v23.At) && ((v21.Steps == v23.Steps) && true)))))))] [] (fun t => And.intro (at_lt h24) (And.intro (at_enc (enc := eTUnit) h24) (And.intro (rfl : ([] : List Nat) = []) (t)))) (by kernel_rfl) ?_
        rcases ofCond H with ⟨c25, H⟩ | ⟨c25, H⟩
        · refine ite_t c25 (by kernel_rfl) ?_
          refine seq_ops [] [] [(4, .c (.bool false))] [] (fun t => t) (by kernel_rfl) ?_
          refine ends_ret ?_
          obtain rfl := Option.some.inj H
          exact And.intro (by simp) (And.intro rfl rfl)
        · refine ite_f c25 (by kernel_rfl) ?_
          refine ends_skip ?_
          change EndsI _ _ _ _ _ _
          refine one_ops [] [] [(1, .c (dat 4 eTUnit zTUnit p1)), (12, .c (dat 4 eTUnit zTUnit p0)), (13, .c (.int .i64 (p0.length : Int))), (14, .c (.int .i64 (W (x18 + 1))))] [] (fun t => t) (by kernel_rfl) ?_
          obtain rfl := Option.some.inj H
          exact And.intro rfl rfl
      · refine ite_f c20 (by kernel_rfl) ?_
        refine tell [] [] [] (fun t => t) (by kernel_rfl) ?_
        refine ends_exit ?_
        obtain rfl := Option.some.inj H
        exact And.intro (by simp) (And.intro rfl rfl)
    · clear h27
      cases y26 with
      | inl y28 =>
        replace H := ofInl H
        intro e s q
        obtain ⟨rfl, rfl⟩ := q
        change EndsI _ _ _ _ _ _
        refine seq_ops [] [] [(4, .c (.bool true))] [] (fun t => t) (by kernel_rfl) ?_
        refine ends_ret ?_
        obtain rfl := Option.some.inj H
        exact And.intro (.inl rfl) rfl
      | inr y29 =>
        replace H := ofInr H
        intro e s q
        obtain ⟨rfl, rfl⟩ := q
        obtain rfl := Option.some.inj H
        exact And.intro (.inl rfl) rfl

def s_fgSame_ir : S :=
 (.seq (.ops [⟨some 2, .box 6 (.t 0), none⟩, ⟨some 3, .box 6 (.t 1), none⟩, ⟨some 4, .mv (.v (.bool false)), none⟩])
 (.seq (.ops [⟨some 5, .fad 0 (.t 2), none⟩, ⟨some 6, .load 1 false (.t 5), none⟩, ⟨some 7, .fad 0 (.t 3), none⟩, ⟨some 8, .load 1 false (.t 7), none⟩, ⟨some 9, .bin .eql (.t 6) (.t 8), none⟩, ⟨some 10, .mv (.t 9), none⟩, ⟨some 11, .fad 1 (.t 2), some (10, true)⟩, ⟨some 12, .load 1 false (.t 11), some (10, true)⟩, ⟨some 13, .fad 1 (.t 3), some (10, true)⟩, ⟨some 14, .load 1 false (.t 13), some (10, true)⟩, ⟨some 15, .bin .eql (.t 12) (.t 14), some (10, true)⟩, ⟨some 16, .pick (.t 10) (.t 15) (.v (.bool false)), none⟩, ⟨some 17, .mv (.t 16), none⟩, ⟨some 18, .fad 2 (.t 2), some (17, true)⟩, ⟨some 19, .load 1 false (.t 18), some (17, true)⟩, ⟨some 20, .fad 2 (.t 3), some (17, true)⟩, ⟨some 21, .load 1 false (.t 20), some (17, true)⟩, ⟨some 22, .bin .eql (.t 19) (.t 21), some (17, true)⟩, ⟨some 23, .pick (.t 17) (.t 22) (.v (.bool false)), none⟩, ⟨some 24, .mv (.t 23), none⟩, ⟨some 25, .fad 3 (.t 2), some (24, true)⟩, ⟨some 26, .load 1 false (.t 25), some (24, true)⟩, ⟨some 27, .fad 3 (.t 3), some (24, true)⟩, ⟨some 28, .load 1 false (.t 27), some (24, true)⟩, ⟨some 29, .call 76 [.t 26, .t 28], some (24, true)⟩, ⟨some 30, .pick (.t 24) (.t 29) (.v (.bool false)), none⟩, ⟨some 31, .mv (.t 30), none⟩, ⟨some 32, .fad 4 (.t 2), some (31, true)⟩, ⟨some 33, .load 1 false (.t 32), some (31, true)⟩, ⟨some 34, .fad 4 (.t 3), some (31, true)⟩, ⟨some 35, .load 1 false (.t 34), some (31, true)⟩, ⟨some 36, .call 77 [.t 33, .t 35], some (31, true)⟩, ⟨some 37, .pick (.t 31) (.t 36) (.v (.bool false)), none⟩, ⟨some 38, .mv (.t 37), none⟩, ⟨some 39, .fad 5 (.t 2), some (38, true)⟩, ⟨some 40, .load 1 false (.t 39), some (38, true)⟩, ⟨some 41, .fad 5 (.t 3), some (38, true)⟩, ⟨some 42, .load 1 false (.t 41), some (38, true)⟩, ⟨some 43, .call 77 [.t 40, .t 42], some (38, true)⟩, ⟨some 44, .pick (.t 38) (.t 43) (.v (.bool false)), none⟩, ⟨some 4, .mv (.t 44), none⟩])
 .ret))
noncomputable def X.s_fgSame (p0 : TView) (p1 : TView) : Option Bool :=
  (bif (p0.Side == p1.Side) then (bif (p0.Turn == p1.Turn) then (bif (p0.Weather == p1.Weather) then ((X.s_l1Same p0.Seen p1.Seen).bind fun v4 => (bif v4 then ((X.s_fgUnits p0.Own p1.Own).bind fun v7 => (bif v7 then ((X.s_fgUnits p0.Enemies p1.Enemies).bind fun v10 => some v10) else some false)) else some false)) else some false) else some false) else some false)
theorem s_fgSame_ok (p0 : TView) (p1 : TView) (r : Bool) (H : X.s_fgSame p0 p1 = some r) : FnOk Try.prog gl 58 [.agg (eTView p0), .agg (eTView p1)] (.c (.bool r)) := by
  unfold X.s_fgSame at H
  refine fn_in (fn := Try.f58) (ir := s_fgSame_ir) (s1 := lit [(4, .c (.bool r))] []) Try.func58 (by kernel_rfl) (by kernel_rfl) (by kernel_rfl) (by kernel_rfl) (by kernel_rfl) ?_
  refine seq_ops [] [] [(2, .c (.pk 2 0)), (3, .c (.pk 3 0))] [(2, .var [.int .i64 p0.Side, .int .i64 p0.Turn, .int .i64 p0.Weather, dat 1 eI zI p0.Seen, dat 4 eTUnit zTUnit p0.Own, dat 4 eTUnit zTUnit p0.Enemies] false), (3, .var [.int .i64 p1.Side, .int .i64 p1.Turn, .int .i64 p1.Weather, dat 1 eI zI p1.Seen, dat 4 eTUnit zTUnit p1.Own, dat 4 eTUnit zTUnit p1.Enemies] false)] (fun t => t) (by kernel_rfl) ?_
  rcases ofCond H with ⟨c1, H⟩ | ⟨c1, H⟩
  · rcases ofCond H with ⟨c2, H⟩ | ⟨c2, H⟩
    · rcases ofCond H with ⟨c3, H⟩ | ⟨c3, H⟩
      · obtain ⟨v4, h5, H⟩ := ofBind H
        rcases ofCond H with ⟨c6, H⟩ | ⟨c6, H⟩
        · obtain ⟨v7, h8, H⟩ := ofBind H
          rcases ofCond H with ⟨c9, H⟩ | ⟨c9, H⟩
          · obtain ⟨v10, h11, H⟩ := ofBind H
            refine seq_ops [.g true, .g true, .g true, .g true, .g true, .g true, .g true, .g true, .g true, .g true, .g true, .g true, .g true, .g true, .g true, .g true, .g true, .res (.c (.bool v4)), .g true, .g true, .g true, .g true, .g true, .g true, .res (.c (.bool v7)), .g true, .g true, .g true, .g true, .g true, .g true, .res (.c (.bool v10)), .g true] [] [(4, .c (.bool v10))] [] (fun t => And.intro c1 (And.intro c1 (And.intro c1 (And.intro c1 (And.intro c1 (And.intro c1 (And.intro c2 (And.intro c2 (And.intro c2 (And.intro c2 (And.intro c2 (And.intro c2 (And.intro c3 (And.intro c3 (And.intro c3 (And.intro c3 (And.intro c3 (And.intro (s_l1Same_ok p0.Seen p1.Seen v4 h5) (And.intro c3 (And.intro c6 (And.intro c6 (And.intro c6 (And.intro c6 (And.intro c6 (And.intro (s_fgUnits_ok p0.Own p1.Own v7 h8) (And.intro c6 (And.intro c9 (And.intro c9 (And.intro c9 (And.intro c9 (And.intro c9 (And.intro (s_fgUnits_ok p0.Enemies p1.Enemies v10 h11) (And.intro c9 (t)))))))))))))))))))))))))))))))))) (by kernel_rfl) ?_
            refine ends_ret ?_
            obtain rfl := Option.some.inj H
            exact And.intro (.inl rfl) rfl
          · refine seq_ops [.g true, .g true, .g true, .g true, .g true, .g true, .g true, .g true, .g true, .g true, .g true, .g true, .g true, .g true, .g true, .g true, .g true, .res (.c (.bool v4)), .g true, .g true, .g true, .g true, .g true, .g true, .res (.c (.bool v7)), .g true, .g false, .g false, .g false, .g false, .g false, .g false] [] [(4, .c (.bool false))] [] (fun t => And.intro c1 (And.intro c1 (And.intro c1 (And.intro c1 (And.intro c1 (And.intro c1 (And.intro c2 (And.intro c2 (And.intro c2 (And.intro c2 (And.intro c2 (And.intro c2 (And.intro c3 (And.intro c3 (And.intro c3 (And.intro c3 (And.intro c3 (And.intro (s_l1Same_ok p0.Seen p1.Seen v4 h5) (And.intro c3 (And.intro c6 (And.intro c6 (And.intro c6 (And.intro c6 (And.intro c6 (And.intro (s_fgUnits_ok p0.Own p1.Own v7 h8) (And.intro c6 (And.intro c9 (And.intro c9 (And.intro c9 (And.intro c9 (And.intro c9 (And.intro c9 (t))))))))))))))))))))))))))))))))) (by kernel_rfl) ?_
            refine ends_ret ?_
            obtain rfl := Option.some.inj H
            exact And.intro (.inl rfl) rfl
        · refine seq_ops [.g true, .g true, .g true, .g true, .g true, .g true, .g true, .g true, .g true, .g true, .g true, .g true, .g true, .g true, .g true, .g true, .g true, .res (.c (.bool v4)), .g true, .g false, .g false, .g false, .g false, .g false, .g false, .g false, .g false, .g false, .g false, .g false, .g false] [] [(4, .c (.bool false))] [] (fun t => And.intro c1 (And.intro c1 (And.intro c1 (And.intro c1 (And.intro c1 (And.intro c1 (And.intro c2 (And.intro c2 (And.intro c2 (And.intro c2 (And.intro c2 (And.intro c2 (And.intro c3 (And.intro c3 (And.intro c3 (And.intro c3 (And.intro c3 (And.intro (s_l1Same_ok p0.Seen p1.Seen v4 h5) (And.intro c3 (And.intro c6 (And.intro c6 (And.intro c6 (And.intro c6 (And.intro c6 (And.intro c6 (And.intro (rfl : (false : Bool) = false) (And.intro (rfl : (false : Bool) = false) (And.intro (rfl : (false : Bool) = false) (And.intro (rfl : (false : Bool) = false) (And.intro (rfl : (false : Bool) = false) (And.intro (rfl : (false : Bool) = false) (t)))))))))))))))))))))))))))))))) (by kernel_rfl) ?_
          refine ends_ret ?_
          obtain rfl := Option.some.inj H
          exact And.intro (.inl rfl) rfl
      · refine seq_ops [.g true, .g true, .g true, .g true, .g true, .g true, .g true, .g true, .g true, .g true, .g true, .g true, .g false, .g false, .g false, .g false, .g false, .g false, .g false, .g false, .g false, .g false, .g false, .g false, .g false, .g false, .g false, .g false, .g false, .g false] [] [(4, .c (.bool false))] [] (fun t => And.intro c1 (And.intro c1 (And.intro c1 (And.intro c1 (And.intro c1 (And.intro c1 (And.intro c2 (And.intro c2 (And.intro c2 (And.intro c2 (And.intro c2 (And.intro c2 (And.intro c3 (And.intro c3 (And.intro c3 (And.intro c3 (And.intro c3 (And.intro c3 (And.intro (rfl : (false : Bool) = false) (And.intro (rfl : (false : Bool) = false) (And.intro (rfl : (false : Bool) = false) (And.intro (rfl : (false : Bool) = false) (And.intro (rfl : (false : Bool) = false) (And.intro (rfl : (false : Bool) = false) (And.intro (rfl : (false : Bool) = false) (And.intro (rfl : (false : Bool) = false) (And.intro (rfl : (false : Bool) = false) (And.intro (rfl : (false : Bool) = false) (And.intro (rfl : (false : Bool) = false) (And.intro (rfl : (false : Bool) = false) (t))))))))))))))))))))))))))))))) (by kernel_rfl) ?_
        refine ends_ret ?_
        obtain rfl := Option.some.inj H
        exact And.intro (.inl rfl) rfl
    · refine seq_ops [.g true, .g true, .g true, .g true, .g true, .g true, .g false, .g false, .g false, .g false, .g false, .g false, .g false, .g false, .g false, .g false, .g false, .g false, .g false, .g false, .g false, .g false, .g false, .g false, .g false, .g false, .g false, .g false, .g false, .g false] [] [(4, .c (.bool false))] [] (fun t => And.intro c1 (And.intro c1 (And.intro c1 (And.intro c1 (And.intro c1 (And.intro c1 (And.intro c2 (And.intro c2 (And.intro c2 (And.intro c2 (And.intro c2 (And.intro c2 (And.intro (rfl : (false : Bool) = false) (And.intro (rfl : (false : Bool) = false) (And.intro (rfl : (false : Bool) = false) (And.intro (rfl : (false : Bool) = false) (And.intro (rfl : (false : Bool) = false) (And.intro (rfl : (false : Bool) = false) (And.intro (rfl : (false : Bool) = false) (And.intro (rfl : (false : Bool) = false) (And.intro (rfl : (false : Bool) = false) (And.intro (rfl : (false : Bool) = false) (And.intro (rfl : (false : Bool) = false) (And.intro (rfl : (false : Bool) = false) (And.intro (rfl : (false : Bool) = false) (And.intro (rfl : (false : Bool) = false) (And.intro (rfl : (false : Bool) = false) (And.intro (rfl : (false : Bool) = false) (And.intro (rfl : (false : Bool) = false) (And.intro (rfl : (false : Bool) = false) (t))))))))))))))))))))))))))))))) (by kernel_rfl) ?_
      refine ends_ret ?_
      obtain rfl := Option.some.inj H
      exact And.intro (.inl rfl) rfl
  · refine seq_ops [.g false, .g false, .g false, .g false, .g false, .g false, .g false, .g false, .g false, .g false, .g false, .g false, .g false, .g false, .g false, .g false, .g false, .g false, .g false, .g false, .g false, .g false, .g false, .g false, .g false, .g false, .g false, .g false, .g false, .g false] [] [(4, .c (.bool false))] [] (fun t => And.intro c1 (And.intro c1 (And.intro c1 (And.intro c1 (And.intro c1 (And.intro c1 (And.intro (rfl : (false : Bool) = false) (And.intro (rfl : (false : Bool) = false) (And.intro (rfl : (false : Bool) = false) (And.intro (rfl : (false : Bool) = false) (And.intro (rfl : (false : Bool) = false) (And.intro (rfl : (false : Bool) = false) (And.intro (rfl : (false : Bool) = false) (And.intro (rfl : (false : Bool) = false) (And.intro (rfl : (false : Bool) = false) (And.intro (rfl : (false : Bool) = false) (And.intro (rfl : (false : Bool) = false) (And.intro (rfl : (false : Bool) = false) (And.intro (rfl : (false : Bool) = false) (And.intro (rfl : (false : Bool) = false) (And.intro (rfl : (false : Bool) = false) (And.intro (rfl : (false : Bool) = false) (And.intro (rfl : (false : Bool) = false) (And.intro (rfl : (false : Bool) = false) (And.intro (rfl : (false : Bool) = false) (And.intro (rfl : (false : Bool) = false) (And.intro (rfl : (false : Bool) = false) (And.intro (rfl : (false : Bool) = false) (And.intro (rfl : (false : Bool) = false) (And.intro (rfl : (false : Bool) = false) (t))))))))))))))))))))))))))))))) (by kernel_rfl) ?_
    refine ends_ret ?_
    obtain rfl := Option.some.inj H
    exact And.intro (.inl rfl) rfl

def s_SameView_ir : S :=
 (.seq (.ops [⟨some 2, .box 6 (.t 0), none⟩, ⟨some 3, .box 6 (.t 1), none⟩, ⟨some 4, .mv (.v (.bool false)), none⟩])
 (.seq (.ops [⟨some 5, .load 6 true (.t 2), none⟩, ⟨some 6, .load 6 true (.t 3), none⟩, ⟨some 7, .call 58 [.t 5, .t 6], none⟩, ⟨some 4, .mv (.t 7), none⟩])
 .ret))
noncomputable def X.s_SameView (p0 : TView) (p1 : TView) : Option Bool :=
  ((X.s_fgSame p0 p1).bind fun v1 => some v1)
theorem s_SameView_ok (p0 : TView) (p1 : TView) (r : Bool) (H : X.s_SameView p0 p1 = some r) : FnOk Try.prog gl 25 [.agg (eTView p0), .agg (eTView p1)] (.c (.bool r)) := by
  unfold X.s_SameView at H
  refine fn_in (fn := Try.f25) (ir := s_SameView_ir) (s1 := lit [(4, .c (.bool r))] []) Try.func25 (by kernel_rfl) (by kernel_rfl) (by kernel_rfl) (by kernel_rfl) (by kernel_rfl) ?_
  refine seq_ops [] [] [(2, .c (.pk 2 0)), (3, .c (.pk 3 0))] [(2, .var [.int .i64 p0.Side, .int .i64 p0.Turn, .int .i64 p0.Weather, dat 1 eI zI p0.Seen, dat 4 eTUnit zTUnit p0.Own, dat 4 eTUnit zTUnit p0.Enemies] false), (3, .var [.int .i64 p1.Side, .int .i64 p1.Turn, .int .i64 p1.Weather, dat 1 eI zI p1.Seen, dat 4 eTUnit zTUnit p1.Own, dat 4 eTUnit zTUnit p1.Enemies] false)] (fun t => t) (by kernel_rfl) ?_
  obtain ⟨v1, h2, H⟩ := ofBind H
  refine seq_ops [.res (.c (.bool v1))] [] [(4, .c (.bool v1))] [] (fun t => And.intro (s_fgSame_ok p0 p1 v1 h2) (t)) (by kernel_rfl) ?_
  refine ends_ret ?_
  obtain rfl := Option.some.inj H
  exact And.intro (.inl rfl) rfl

def l_toIntS_ir : S :=
 (.seq (.ops [⟨some 2, .mv (.v (.nil)), none⟩])
 (.seq (.ops [⟨some 5, .mv (.t 0), none⟩, ⟨some 6, .len (.t 5), none⟩, ⟨some 7, .msl 1 8 [.int .i64 0] (.t 6), none⟩, ⟨some 3, .mv (.t 7), none⟩])
 (.seq (.seq (.ops [⟨some 4, .mv (.v (.int .i64 0)), none⟩])
 (.blk 0 (.loop (.seq (.seq (.ops [⟨some 8, .mv (.t 4), none⟩, ⟨some 9, .mv (.t 0), none⟩, ⟨some 10, .len (.t 9), none⟩, ⟨some 11, .bin .lss (.t 8) (.t 10), none⟩])
   (.ite (.t 11) .skip
   (.exit 0)))
   (.seq (.blk 1 (.ops [⟨some 14, .mv (.t 3), none⟩, ⟨some 15, .mv (.t 4), none⟩, ⟨some 16, .mv (.t 0), none⟩, ⟨some 17, .mv (.t 4), none⟩, ⟨some 18, .iad 1 (.t 16) (.t 17), none⟩, ⟨some 19, .load 1 false (.t 18), none⟩, ⟨some 20, .iad 1 (.t 14) (.t 15), none⟩, ⟨none, .store 1 (.t 20) (.t 19), none⟩]))
   (.ops [⟨some 12, .mv (.t 4), none⟩, ⟨some 13, .bin .add (.t 12) (.v (.int .i64 1)), none⟩, ⟨some 4, .mv (.t 13), none⟩]))))))
 (.seq (.ops [⟨some 21, .mv (.t 3), none⟩, ⟨some 2, .mv (.t 21), none⟩])
 .ret))))
noncomputable def X.l_toIntS (p0 : (List Int)) : Option (List Int) :=
  (if 0 ≤ (p0.length : Int) ∧ (p0.length : Int).toNat ≤ LIM then ((loop (fun (x13 : (Int × (List Int))) => ((bif (decide (x13.1 < (p0.length : Int))) then ((at' zI p0 x13.1).bind fun v16 => (if 0 ≤ x13.1 ∧ x13.1 < (x13.2.length : Int) then some (Sum.inl ((W (x13.1 + 1)), (x13.2.set x13.1.toNat v16))) else none)) else some (Sum.inr x13.2)) : Option ((Int × (List Int)) ⊕ (List Int)))) (0, (List.replicate (p0.length : Int).toNat zI))).bind fun y19 => some y19) else none)
theorem l_toIntS_ok (p0 : (List Int)) (r : (List Int)) (H : X.l_toIntS p0 = some r) : FnOk Try.prog gl 21 [.c (dat 1 eI zI p0)] (.c (dat 1 eI zI r)) := by
  unfold X.l_toIntS at H
  refine fn_in (fn := Try.f21) (ir := l_toIntS_ir) (s1 := lit [(2, .c (dat 1 eI zI r))] []) Try.func21 (by kernel_rfl) (by kernel_rfl) (by kernel_rfl) (by kernel_rfl) (by kernel_rfl) ?_
  refine seq_ops [] [] [(0, .c (dat 1 eI zI p0))] [] (fun t => t) (by kernel_rfl) ?_
  obtain ⟨g1, H⟩ := ofIf H
  refine seq_ops [.fn (List.replicate (p0.length : Int).toNat zI).length (fF eI zI (List.replicate (p0.length : Int).toNat zI))] [] [(0, .c (dat 1 eI zI p0)), (3, .c (.own 7 1 0 ((List.replicate (p0.length : Int).toNat zI).length)))] [(7, .arr 1 ((List.replicate (p0.length : Int).toNat zI).length) (fF eI zI (List.replicate (p0.length : Int).toNat zI)) false)] (fun t => (fun (_ : p0.length ≤ maxLen) => And.intro (And.intro g1.1 (And.intro (List.length_replicate (n := (p0.length : Int).toNat) (a := zI)).symm (Nat.le_trans (Nat.le_of_eq List.length_replicate) g1.2 : (List.replicate (p0.length : Int).toNat zI).length ≤ LIM))) (And.intro (fF_rep eI zI zI (p0.length : Int).toNat) (t)))) (by kernel_rfl) ?_
  refine seq_in ?_
  refine seq_ops [] [] [(0, .c (dat 1 eI zI p0)), (3, .c (.own 7 1 0 ((List.replicate (p0.length : Int).toNat zI).length))), (4, .c (.int .i64 0))] [(7, .arr 1 ((List.replicate (p0.length : Int).toNat zI).length) (fF eI zI (List.replicate (p0.length : Int).toNat zI)) false)] (fun t => t) (by kernel_rfl) ?_
  refine ends_blk ?_
  obtain ⟨y19, h20, H⟩ := ofBind H
  refine loop_in (fun (x : (Int × (List Int))) => lit [(0, .c (dat 1 eI zI p0)), (3, .c (.own 7 1 0 x.2.length)), (4, .c (.int .i64 x.1))] [(7, .arr 1 x.2.length (fF eI zI x.2) false)]) (fun (z : (List Int)) => At (.exit 0) (lit [(3, .c (.own 7 1 0 z.length))] [(7, .arr 1 z.length (fF eI zI z) false)])) h20 ?_ ?_
  · clear H h20
    intro x13 y0 H
    refine seq_in ?_
    refine seq_ops [] [] [(0, .c (dat 1 eI zI p0)), (3, .c (.own 7 1 0 x13.2.length)), (4, .c (.int .i64 x13.1)), (11, .c (.bool (decide (x13.1 < (p0.length : Int)))))] [(7, .arr 1 x13.2.length (fF eI zI x13.2) false)] (fun t => (fun (_ : p0.length ≤ maxLen) => t)) (by kernel_rfl) ?_
    rcases ofCond H with ⟨c15, H⟩ | ⟨c15, H⟩
    · refine ite_t c15 (by kernel_rfl) ?_
      refine ends_skip ?_
      change EndsI _ _ _ _ _ _
      refine seq_in ?_
      refine ends_blk ?_
      obtain ⟨v16, h17, H⟩ := ofBind H
      obtain ⟨g18, H⟩ := ofIf H
      refine one_ops [.cs (eI v16), .no, .fn 0 (fF eI zI (x13.2.set x13.1.toNat v16))] [] [(0, .c (dat 1 eI zI p0)), (3, .c (.own 7 1 0 x13.2.length)), (4, .c (.int .i64 x13.1))] [(7, .arr 1 x13.2.length (fF eI zI (x13.2.set x13.1.toNat v16)) false)] (fun t => And.intro (at_lt h17) (And.intro (at_enc (enc := eI) h17) (And.intro g18 (And.intro (rfl : true = true) (And.intro (nat_lt g18) (And.intro (by decide : 0 + 1 ≤ 1) (And.intro (fF_set eI zI x13.2 x13.1.toNat v16 (nat_lt g18) x13.2.length) (t)))))))) (by kernel_rfl) ?_
      change EndsI _ _ _ _ _ _
      refine one_ops [] [.rel 3 ((x13.2.set x13.1.toNat v16).length), .rep 7 ((x13.2.set x13.1.toNat v16).length) (fF eI zI (x13.2.set x13.1.toNat v16))] [(0, .c (dat 1 eI zI p0)), (3, .c (.own 7 1 0 ((x13.2.set x13.1.toNat v16).length))), (4, .c (.int .i64 (W (x13.1 + 1))))] [(7, .arr 1 ((x13.2.set x13.1.toNat v16).length) (fF eI zI (x13.2.set x13.1.toNat v16)) false)] (fun t => And.intro (by simp : x13.2.length = (x13.2.set x13.1.toNat v16).length) (And.intro (Nat.le_of_eq (by simp : (x13.2.set x13.1.toNat v16).length = x13.2.length)) (And.intro (fun _ _ => rfl : ∀ i, i < (x13.2.set x13.1.toNat v16).length → (fF eI zI (x13.2.set x13.1.toNat v16)) i = (fF eI zI (x13.2.set x13.1.toNat v16)) i) (t)))) (by kernel_rfl) ?_
      obtain rfl := Option.some.inj H
      exact And.intro rfl rfl
    · refine ite_f c15 (by kernel_rfl) ?_
      refine tell [] [(3, .c (.own 7 1 0 x13.2.length))] [(7, .arr 1 x13.2.length (fF eI zI x13.2) false)] (fun t => t) (by kernel_rfl) ?_
      refine ends_exit ?_
      obtain rfl := Option.some.inj H
      exact And.intro (by simp) (And.intro rfl rfl)
  · clear h20
    intro e s q
    obtain ⟨rfl, rfl⟩ := q
    change EndsI _ _ _ _ _ _
    refine seq_ops [] [] [(2, .c (.own 7 1 0 y19.length))] [(7, .arr 1 y19.length (fF eI zI y19) false)] (fun t => t) (by kernel_rfl) ?_
    refine tell [.frz 2] [(2, .c (dat 1 eI zI y19))] [] (fun t => And.intro (Nat.le_refl y19.length) (t)) (by kernel_rfl) ?_
    refine ends_ret ?_
    obtain rfl := Option.some.inj H
    exact And.intro (.inl rfl) rfl

def l_toUnit_ir : S :=
 (.seq (.ops [⟨some 1, .box 4 (.t 0), none⟩, ⟨some 2, .alloc [.int .i64 0, .int .i64 0, .int .i64 0, .int .i64 0], none⟩])
 (.seq (.ops [⟨some 3, .alloc [.int .i64 0, .int .i64 0, .int .i64 0, .int .i64 0], none⟩])
 (.seq (.ops [⟨some 4, .fad 0 (.t 1), none⟩, ⟨some 5, .load 1 false (.t 4), none⟩, ⟨some 6, .fad 0 (.t 3), none⟩, ⟨none, .store 1 (.t 6) (.t 5), none⟩])
 (.seq (.ops [⟨some 7, .fad 1 (.t 1), none⟩, ⟨some 8, .load 1 false (.t 7), none⟩, ⟨some 9, .fad 1 (.t 3), none⟩, ⟨none, .store 1 (.t 9) (.t 8), none⟩])
 (.seq (.ops [⟨some 10, .fad 2 (.t 1), none⟩, ⟨some 11, .load 1 false (.t 10), none⟩, ⟨some 12, .fad 2 (.t 3), none⟩, ⟨none, .store 1 (.t 12) (.t 11), none⟩])
 (.seq (.ops [⟨some 13, .fad 3 (.t 1), none⟩, ⟨some 14, .load 1 false (.t 13), none⟩, ⟨some 15, .fad 3 (.t 3), none⟩, ⟨none, .store 1 (.t 15) (.t 14), none⟩])
 (.seq (.ops [⟨some 16, .load 4 true (.t 3), none⟩, ⟨none, .store 4 (.t 2) (.t 16), none⟩])
 .ret)))))))
noncomputable def X.l_toUnit (p0 : TUnit) : Option TUnit :=
  some p0
theorem l_toUnit_ok (p0 : TUnit) (r : TUnit) (H : X.l_toUnit p0 = some r) : FnOk Try.prog gl 78 [.agg (eTUnit p0)] (.agg (eTUnit r)) := by
  unfold X.l_toUnit at H
  refine fn_in (fn := Try.f78) (ir := l_toUnit_ir) (s1 := lit [(2, .c (.pk 2 0))] [(2, .var [.int .i64 r.Side, .int .i64 r.Kind, .int .i64 r.At, .int .i64 r.Steps] false)]) Try.func78 (by kernel_rfl) (by kernel_rfl) (by kernel_rfl) (by kernel_rfl) (by kernel_rfl) ?_
  refine seq_ops [] [] [(1, .c (.pk 1 0)), (2, .c (.pk 2 0))] [(1, .var [.int .i64 p0.Side, .int .i64 p0.Kind, .int .i64 p0.At, .int .i64 p0.Steps] false), (2, .var [.int .i64 0, .int .i64 0, .int .i64 0, .int .i64 0] false)] (fun t => t) (by kernel_rfl) ?_
  refine seq_ops [] [] [(1, .c (.pk 1 0)), (2, .c (.pk 2 0)), (3, .c (.pk 3 0))] [(1, .var [.int .i64 p0.Side, .int .i64 p0.Kind, .int .i64 p0.At, .int .i64 p0.Steps] false), (2, .var [.int .i64 0, .int .i64 0, .int .i64 0, .int .i64 0] false), (3, .var [.int .i64 0, .int .i64 0, .int .i64 0, .int .i64 0] false)] (fun t => t) (by kernel_rfl) ?_
  refine seq_ops [] [] [(1, .c (.pk 1 0)), (2, .c (.pk 2 0)), (3, .c (.pk 3 0))] [(1, .var [.int .i64 p0.Side, .int .i64 p0.Kind, .int .i64 p0.At, .int .i64 p0.Steps] false), (2, .var [.int .i64 0, .int .i64 0, .int .i64 0, .int .i64 0] false), (3, .var [.int .i64 p0.Side, .int .i64 0, .int .i64 0, .int .i64 0] false)] (fun t => t) (by kernel_rfl) ?_
  refine seq_ops [] [] [(1, .c (.pk 1 0)), (2, .c (.pk 2 0)), (3, .c (.pk 3 0))] [(1, .var [.int .i64 p0.Side, .int .i64 p0.Kind, .int .i64 p0.At, .int .i64 p0.Steps] false), (2, .var [.int .i64 0, .int .i64 0, .int .i64 0, .int .i64 0] false), (3, .var [.int .i64 p0.Side, .int .i64 p0.Kind, .int .i64 0, .int .i64 0] false)] (fun t => t) (by kernel_rfl) ?_
  refine seq_ops [] [] [(1, .c (.pk 1 0)), (2, .c (.pk 2 0)), (3, .c (.pk 3 0))] [(1, .var [.int .i64 p0.Side, .int .i64 p0.Kind, .int .i64 p0.At, .int .i64 p0.Steps] false), (2, .var [.int .i64 0, .int .i64 0, .int .i64 0, .int .i64 0] false), (3, .var [.int .i64 p0.Side, .int .i64 p0.Kind, .int .i64 p0.At, .int .i64 0] false)] (fun t => t) (by kernel_rfl) ?_
  refine seq_ops [] [] [(2, .c (.pk 2 0)), (3, .c (.pk 3 0))] [(2, .var [.int .i64 0, .int .i64 0, .int .i64 0, .int .i64 0] false), (3, .var [.int .i64 p0.Side, .int .i64 p0.Kind, .int .i64 p0.At, .int .i64 p0.Steps] false)] (fun t => t) (by kernel_rfl) ?_
  refine seq_ops [] [] [(2, .c (.pk 2 0))] [(2, .var [.int .i64 p0.Side, .int .i64 p0.Kind, .int .i64 p0.At, .int .i64 p0.Steps] false)] (fun t => t) (by kernel_rfl) ?_
  refine ends_ret ?_
  obtain rfl := Option.some.inj H
  exact And.intro (.inl rfl) rfl

def l_toUnitS_ir : S :=
 (.seq (.ops [⟨some 2, .mv (.v (.nil)), none⟩])
 (.seq (.ops [⟨some 5, .mv (.t 0), none⟩, ⟨some 6, .len (.t 5), none⟩, ⟨some 7, .msl 4 32 [.int .i64 0, .int .i64 0, .int .i64 0, .int .i64 0] (.t 6), none⟩, ⟨some 3, .mv (.t 7), none⟩])
 (.seq (.seq (.ops [⟨some 4, .mv (.v (.int .i64 0)), none⟩])
 (.blk 0 (.loop (.seq (.seq (.ops [⟨some 8, .mv (.t 4), none⟩, ⟨some 9, .mv (.t 0), none⟩, ⟨some 10, .len (.t 9), none⟩, ⟨some 11, .bin .lss (.t 8) (.t 10), none⟩])
   (.ite (.t 11) .skip
   (.exit 0)))
   (.seq (.blk 1 (.ops [⟨some 14, .mv (.t 3), none⟩, ⟨some 15, .mv (.t 4), none⟩, ⟨some 16, .mv (.t 0), none⟩, ⟨some 17, .mv (.t 4), none⟩, ⟨some 18, .iad 4 (.t 16) (.t 17), none⟩, ⟨some 19, .load 4 true (.t 18), none⟩, ⟨some 20, .call 78 [.t 19], none⟩, ⟨some 21, .iad 4 (.t 14) (.t 15), none⟩, ⟨none, .store 4 (.t 21) (.t 20), none⟩]))
   (.ops [⟨some 12, .mv (.t 4), none⟩, ⟨some 13, .bin .add (.t 12) (.v (.int .i64 1)), none⟩, ⟨some 4, .mv (.t 13), none⟩]))))))
 (.seq (.ops [⟨some 22, .mv (.t 3), none⟩, ⟨some 2, .mv (.t 22), none⟩])
 .ret))))
noncomputable def X.l_toUnitS (p0 : (List TUnit)) : Option (List TUnit) :=
  (if 0 ≤ (p0.length : Int) ∧ (p0.length : Int).toNat ≤ LIM then ((loop (fun (x17 : (Int × (List TUnit))) => ((bif (decide (x17.1 < (p0.length : Int))) then ((at' zTUnit p0 x17.1).bind fun v20 => ((X.l_toUnit v20).bind fun v22 => (if 0 ≤ x17.1 ∧ x17.1 < (x17.2.length : Int) then some (Sum.inl ((W (x17.1 + 1)), (x17.2.set x17.1.toNat v22))) else none))) else some (Sum.inr x17.2)) : Option ((Int × (List TUnit)) ⊕ (List TUnit)))) (0, (List.replicate (p0.length : Int).toNat zTUnit))).bind fun y25 => some y25) else none)
theorem l_toUnitS_ok (p0 : (List TUnit)) (r : (List TUnit)) (H : X.l_toUnitS p0 = some r) : FnOk Try.prog gl 59 [.c (dat 4 eTUnit zTUnit p0)] (.c (dat 4 eTUnit zTUnit r)) := by
  unfold X.l_toUnitS at H
  refine fn_in (fn := Try.f59) (ir := l_toUnitS_ir) (s1 := lit [(2, .c (dat 4 eTUnit zTUnit r))] []) Try.func59 (by kernel_rfl) (by kernel_rfl) (by kernel_rfl) (by kernel_rfl) (by kernel_rfl) ?_
  refine seq_ops [] [] [(0, .c (dat 4 eTUnit zTUnit p0))] [] (fun t => t) (by kernel_rfl) ?_
  obtain ⟨g1, H⟩ := ofIf H
  refine seq_ops [.fn (List.replicate (p0.length : Int).toNat zTUnit).length (fF eTUnit zTUnit (List.replicate (p0.length : Int).toNat zTUnit))] [] [(0, .c (dat 4 eTUnit zTUnit p0)), (3, .c (.own 7 4 0 ((List.replicate (p0.length : Int).toNat zTUnit).length)))] [(7, .arr 4 ((List.replicate (p0.length : Int).toNat zTUnit).length) (fF eTUnit zTUnit (List.replicate (p0.length : Int).toNat zTUnit)) false)] (fun t => (fun (_ : p0.length ≤ maxLen) => And.intro (And.intro g1.1 (And.intro (List.length_replicate (n := (p0.length : Int).toNat) (a := zTUnit)).symm (Nat.le_trans (Nat.le_of_eq List.length_replicate) g1.2 : (List.replicate (p0.length : Int).toNat zTUnit).length ≤ LIM))) (And.intro (fF_rep eTUnit zTUnit zTUnit (p0.length : Int).toNat) (t)))) (by kernel_rfl) ?_
  refine seq_in ?_
  refine seq_ops [] [] [(0, .c (dat 4 eTUnit zTUnit p0)), (3, .c (.own 7 4 0 ((List.replicate (p0.length : Int).toNat zTUnit).length))), (4, .c (.int .i64 0))] [(7, .arr 4 ((List.replicate (p0.length : Int).toNat zTUnit).length) (fF eTUnit zTUnit (List.replicate (p0.length : Int).toNat zTUnit)) false)] (fun t => t) (by kernel_rfl) ?_
  refine ends_blk ?_
  obtain ⟨y25, h26, H⟩ := ofBind H
  refine loop_in (fun (x : (Int × (List TUnit))) => lit [(0, .c (dat 4 eTUnit zTUnit p0)), (3, .c (.own 7 4 0 x.2.length)), (4, .c (.int .i64 x.1))] [(7, .arr 4 x.2.length (fF eTUnit zTUnit x.2) false)]) (fun (z : (List TUnit)) => At (.exit 0) (lit [(3, .c (.own 7 4 0 z.length))] [(7, .arr 4 z.length (fF eTUnit zTUnit z) false)])) h26 ?_ ?_
  · clear H h26
    intro x17 y0 H
    refine seq_in ?_
    refine seq_ops [] [] [(0, .c (dat 4 eTUnit zTUnit p0)), (3, .c (.own 7 4 0 x17.2.length)), (4, .c (.int .i64 x17.1)), (11, .c (.bool (decide (x17.1 < (p0.length : Int)))))] [(7, .arr 4 x17.2.length (fF eTUnit zTUnit x17.2) false)] (fun t => (fun (_ : p0.length ≤ maxLen) => t)) (by kernel_rfl) ?_
    rcases ofCond H with ⟨c19, H⟩ | ⟨c19, H⟩
    · refine ite_t c19 (by kernel_rfl) ?_
      refine ends_skip ?_
      change EndsI _ _ _ _ _ _
      refine seq_in ?_
      refine ends_blk ?_
      obtain ⟨v20, h21, H⟩ := ofBind H
      obtain ⟨v22, h23, H⟩ := ofBind H
      obtain ⟨g24, H⟩ := ofIf H
      refine one_ops [.cs (eTUnit v20), .res (.agg (eTUnit v22)), .no, .fn 0 (fF eTUnit zTUnit (x17.2.set x17.1.toNat v22))] [] [(0, .c (dat 4 eTUnit zTUnit p0)), (3, .c (.own 7 4 0 x17.2.length)), (4, .c (.int .i64 x17.1))] [(7, .arr 4 x17.2.length (fF eTUnit zTUnit (x17.2.set x17.1.toNat v22)) false)] (fun t => And.intro (at_lt h21) (And.intro (at_enc (enc := eTUnit) h21) (And.intro (l_toUnit_ok v20 v22 h23) (And.intro g24 (And.intro (rfl : true = true) (And.intro (nat_lt g24) (And.intro (by decide : 0 + 4 ≤ 4) (And.intro (fF_set eTUnit zTUnit x17.2 x17.1.toNat v22 (nat_lt g24) x17.2.length) (t))))))))) (by kernel_rfl) ?_
      change EndsI _ _ _ _ _ _
      refine one_ops [] [.rel 3 ((x17.2.set x17.1.toNat v22).length), .rep 7 ((x17.2.set x17.1.toNat v22).length) (fF eTUnit zTUnit (x17.2.set x17.1.toNat v22))] [(0, .c (dat 4 eTUnit zTUnit p0)), (3, .c (.own 7 4 0 ((x17.2.set x17.1.toNat v22).length))), (4, .c (.int .i64 (W (x17.1 + 1))))] [(7, .arr 4 ((x17.2.set x17.1.toNat v22).length) (fF eTUnit zTUnit (x17.2.set x17.1.toNat v22)) false)] (fun t => And.intro (by simp : x17.2.length = (x17.2.set x17.1.toNat v22).length) (And.intro (Nat.le_of_eq (by simp : (x17.2.set x17.1.toNat v22).length = x17.2.length)) (And.intro (fun _ _ => rfl : ∀ i, i < (x17.2.set x17.1.toNat v22).length → (fF eTUnit zTUnit (x17.2.set x17.1.toNat v22)) i = (fF eTUnit zTUnit (x17.2.set x17.1.toNat v22)) i) (t)))) (by kernel_rfl) ?_
      obtain rfl := Option.some.inj H
      exact And.intro rfl rfl
    · refine ite_f c19 (by kernel_rfl) ?_
      refine tell [] [(3, .c (.own 7 4 0 x17.2.length))] [(7, .arr 4 x17.2.length (fF eTUnit zTUnit x17.2) false)] (fun t => t) (by kernel_rfl) ?_
      refine ends_exit ?_
      obtain rfl := Option.some.inj H
      exact And.intro (by simp) (And.intro rfl rfl)
  · clear h26
    intro e s q
    obtain ⟨rfl, rfl⟩ := q
    change EndsI _ _ _ _ _ _
    refine seq_ops [] [] [(2, .c (.own 7 4 0 y25.length))] [(7, .arr 4 y25.length (fF eTUnit zTUnit y25) false)] (fun t => t) (by kernel_rfl) ?_
    refine tell [.frz 2] [(2, .c (dat 4 eTUnit zTUnit y25))] [] (fun t => And.intro (Nat.le_refl y25.length) (t)) (by kernel_rfl) ?_
    refine ends_ret ?_
    obtain rfl := Option.some.inj H
    exact And.intro (.inl rfl) rfl

def l_toView_ir : S :=
 (.seq (.ops [⟨some 1, .box 6 (.t 0), none⟩, ⟨some 2, .alloc [.int .i64 0, .int .i64 0, .int .i64 0, .nil, .nil, .nil], none⟩])
 (.seq (.ops [⟨some 3, .alloc [.int .i64 0, .int .i64 0, .int .i64 0, .nil, .nil, .nil], none⟩])
 (.seq (.ops [⟨some 4, .fad 0 (.t 1), none⟩, ⟨some 5, .load 1 false (.t 4), none⟩, ⟨some 6, .fad 0 (.t 3), none⟩, ⟨none, .store 1 (.t 6) (.t 5), none⟩])
 (.seq (.ops [⟨some 7, .fad 1 (.t 1), none⟩, ⟨some 8, .load 1 false (.t 7), none⟩, ⟨some 9, .fad 1 (.t 3), none⟩, ⟨none, .store 1 (.t 9) (.t 8), none⟩])
 (.seq (.ops [⟨some 10, .fad 2 (.t 1), none⟩, ⟨some 11, .load 1 false (.t 10), none⟩, ⟨some 12, .fad 2 (.t 3), none⟩, ⟨none, .store 1 (.t 12) (.t 11), none⟩])
 (.seq (.ops [⟨some 13, .fad 3 (.t 1), none⟩, ⟨some 14, .load 1 false (.t 13), none⟩, ⟨some 15, .call 21 [.t 14], none⟩, ⟨some 16, .fad 3 (.t 3), none⟩, ⟨none, .store 1 (.t 16) (.t 15), none⟩])
 (.seq (.ops [⟨some 17, .fad 4 (.t 1), none⟩, ⟨some 18, .load 1 false (.t 17), none⟩, ⟨some 19, .call 59 [.t 18], none⟩, ⟨some 20, .fad 4 (.t 3), none⟩, ⟨none, .store 1 (.t 20) (.t 19), none⟩])
 (.seq (.ops [⟨some 21, .fad 5 (.t 1), none⟩, ⟨some 22, .load 1 false (.t 21), none⟩, ⟨some 23, .call 59 [.t 22], none⟩, ⟨some 24, .fad 5 (.t 3), none⟩, ⟨none, .store 1 (.t 24) (.t 23), none⟩])
 (.seq (.ops [⟨some 25, .load 6 true (.t 3), none⟩, ⟨none, .store 6 (.t 2) (.t 25), none⟩])
 .ret)))))))))
noncomputable def X.l_toView (p0 : TView) : Option TView :=
  ((X.l_toIntS p0.Seen).bind fun v1 => ((X.l_toUnitS p0.Own).bind fun v3 => ((X.l_toUnitS p0.Enemies).bind fun v5 => some (TView.mk p0.Side p0.Turn p0.Weather v1 v3 v5))))
theorem l_toView_ok (p0 : TView) (r : TView) (H : X.l_toView p0 = some r) : FnOk Try.prog gl 26 [.agg (eTView p0)] (.agg (eTView r)) := by
  unfold X.l_toView at H
  refine fn_in (fn := Try.f26) (ir := l_toView_ir) (s1 := lit [(2, .c (.pk 2 0))] [(2, .var [.int .i64 r.Side, .int .i64 r.Turn, .int .i64 r.Weather, dat 1 eI zI r.Seen, dat 4 eTUnit zTUnit r.Own, dat 4 eTUnit zTUnit r.Enemies] false)]) Try.func26 (by kernel_rfl) (by kernel_rfl) (by kernel_rfl) (by kernel_rfl) (by kernel_rfl) ?_
  refine seq_ops [] [] [(1, .c (.pk 1 0)), (2, .c (.pk 2 0))] [(1, .var [.int .i64 p0.Side, .int .i64 p0.Turn, .int .i64 p0.Weather, dat 1 eI zI p0.Seen, dat 4 eTUnit zTUnit p0.Own, dat 4 eTUnit zTUnit p0.Enemies] false), (2, .var [.int .i64 0, .int .i64 0, .int .i64 0, .nil, .nil, .nil] false)] (fun t => t) (by kernel_rfl) ?_
  refine seq_ops [] [] [(1, .c (.pk 1 0)), (2, .c (.pk 2 0)), (3, .c (.pk 3 0))] [(1, .var [.int .i64 p0.Side, .int .i64 p0.Turn, .int .i64 p0.Weather, dat 1 eI zI p0.Seen, dat 4 eTUnit zTUnit p0.Own, dat 4 eTUnit zTUnit p0.Enemies] false), (2, .var [.int .i64 0, .int .i64 0, .int .i64 0, .nil, .nil, .nil] false), (3, .var [.int .i64 0, .int .i64 0, .int .i64 0, .nil, .nil, .nil] false)] (fun t => t) (by kernel_rfl) ?_
  refine seq_ops [] [] [(1, .c (.pk 1 0)), (2, .c (.pk 2 0)), (3, .c (.pk 3 0))] [(1, .var [.int .i64 p0.Side, .int .i64 p0.Turn, .int .i64 p0.Weather, dat 1 eI zI p0.Seen, dat 4 eTUnit zTUnit p0.Own, dat 4 eTUnit zTUnit p0.Enemies] false), (2, .var [.int .i64 0, .int .i64 0, .int .i64 0, .nil, .nil, .nil] false), (3, .var [.int .i64 p0.Side, .int .i64 0, .int .i64 0, .nil, .nil, .nil] false)] (fun t => t) (by kernel_rfl) ?_
  refine seq_ops [] [] [(1, .c (.pk 1 0)), (2, .c (.pk 2 0)), (3, .c (.pk 3 0))] [(1, .var [.int .i64 p0.Side, .int .i64 p0.Turn, .int .i64 p0.Weather, dat 1 eI zI p0.Seen, dat 4 eTUnit zTUnit p0.Own, dat 4 eTUnit zTUnit p0.Enemies] false), (2, .var [.int .i64 0, .int .i64 0, .int .i64 0, .nil, .nil, .nil] false), (3, .var [.int .i64 p0.Side, .int .i64 p0.Turn, .int .i64 0, .nil, .nil, .nil] false)] (fun t => t) (by kernel_rfl) ?_
  refine seq_ops [] [] [(1, .c (.pk 1 0)), (2, .c (.pk 2 0)), (3, .c (.pk 3 0))] [(1, .var [.int .i64 p0.Side, .int .i64 p0.Turn, .int .i64 p0.Weather, dat 1 eI zI p0.Seen, dat 4 eTUnit zTUnit p0.Own, dat 4 eTUnit zTUnit p0.Enemies] false), (2, .var [.int .i64 0, .int .i64 0, .int .i64 0, .nil, .nil, .nil] false), (3, .var [.int .i64 p0.Side, .int .i64 p0.Turn, .int .i64 p0.Weather, .nil, .nil, .nil] false)] (fun t => t) (by kernel_rfl) ?_
  obtain ⟨v1, h2, H⟩ := ofBind H
  refine seq_ops [.res (.c (dat 1 eI zI v1))] [] [(1, .c (.pk 1 0)), (2, .c (.pk 2 0)), (3, .c (.pk 3 0))] [(1, .var [.int .i64 p0.Side, .int .i64 p0.Turn, .int .i64 p0.Weather, dat 1 eI zI p0.Seen, dat 4 eTUnit zTUnit p0.Own, dat 4 eTUnit zTUnit p0.Enemies] false), (2, .var [.int .i64 0, .int .i64 0, .int .i64 0, .nil, .nil, .nil] false), (3, .var [.int .i64 p0.Side, .int .i64 p0.Turn, .int .i64 p0.Weather, dat 1 eI zI v1, .nil, .nil] false)] (fun t => And.intro (l_toIntS_ok p0.Seen v1 h2) (t)) (by kernel_rfl) ?_
  obtain ⟨v3, h4, H⟩ := ofBind H
  refine seq_ops [.res (.c (dat 4 eTUnit zTUnit v3))] [] [(1, .c (.pk 1 0)), (2, .c (.pk 2 0)), (3, .c (.pk 3 0))] [(1, .var [.int .i64 p0.Side, .int .i64 p0.Turn, .int .i64 p0.Weather, dat 1 eI zI p0.Seen, dat 4 eTUnit zTUnit p0.Own, dat 4 eTUnit zTUnit p0.Enemies] false), (2, .var [.int .i64 0, .int .i64 0, .int .i64 0, .nil, .nil, .nil] false), (3, .var [.int .i64 p0.Side, .int .i64 p0.Turn, .int .i64 p0.Weather, dat 1 eI zI v1, dat 4 eTUnit zTUnit v3, .nil] false)] (fun t => And.intro (l_toUnitS_ok p0.Own v3 h4) (t)) (by kernel_rfl) ?_
  obtain ⟨v5, h6, H⟩ := ofBind H
  refine seq_ops [.res (.c (dat 4 eTUnit zTUnit v5))] [] [(2, .c (.pk 2 0)), (3, .c (.pk 3 0))] [(2, .var [.int .i64 0, .int .i64 0, .int .i64 0, .nil, .nil, .nil] false), (3, .var [.int .i64 p0.Side, .int .i64 p0.Turn, .int .i64 p0.Weather, dat 1 eI zI v1, dat 4 eTUnit zTUnit v3, dat 4 eTUnit zTUnit v5] false)] (fun t => And.intro (l_toUnitS_ok p0.Enemies v5 h6) (t)) (by kernel_rfl) ?_
  refine seq_ops [] [] [(2, .c (.pk 2 0))] [(2, .var [.int .i64 p0.Side, .int .i64 p0.Turn, .int .i64 p0.Weather, dat 1 eI zI v1, dat 4 eTUnit zTUnit v3, dat 4 eTUnit zTUnit v5] false)] (fun t => t) (by kernel_rfl) ?_
  refine ends_ret ?_
  obtain rfl := Option.some.inj H
  exact And.intro (.inl rfl) rfl

def g_Equal_int_ir : S :=
 (.seq (.ops [⟨some 4, .mv (.v (.bool false)), none⟩])
 (.seq (.seq (.ops [⟨some 6, .mv (.t 0), none⟩, ⟨some 7, .len (.t 6), none⟩, ⟨some 8, .mv (.t 1), none⟩, ⟨some 9, .len (.t 8), none⟩, ⟨some 10, .bin .neq (.t 7) (.t 9), none⟩])
 (.ite (.t 10) (.seq (.ops [⟨some 4, .mv (.v (.bool false)), none⟩])
  .ret)
 .skip))
 (.seq (.seq (.ops [⟨some 11, .mv (.t 0), none⟩, ⟨some 12, .len (.t 11), none⟩, ⟨some 13, .mv (.v (.int .i64 0)), none⟩])
 (.blk 0 (.loop (.seq (.ops [⟨some 14, .bin .lss (.t 13) (.t 12), none⟩])
   (.seq (.ite (.t 14) .skip
   (.exit 0))
   (.seq (.blk 1 (.seq (.ops [⟨some 15, .mv (.t 13), none⟩, ⟨some 5, .mv (.t 15), none⟩])
    (.seq (.draw 9 [⟨some 16, .mv (.t 0), none⟩, ⟨some 17, .mv (.t 5), none⟩, ⟨some 18, .iad 1 (.t 16) (.t 17), none⟩, ⟨some 19, .load 1 false (.t 18), none⟩, ⟨some 20, .mv (.t 1), none⟩, ⟨some 21, .mv (.t 5), none⟩, ⟨some 22, .iad 1 (.t 20) (.t 21), none⟩, ⟨some 23, .load 1 false (.t 22), none⟩, ⟨some 24, .bin .neq (.t 19) (.t 23), none⟩])
    (.ite (.t 24) (.seq (.ops [⟨some 4, .mv (.v (.bool false)), none⟩])
     .ret)
    .skip))))
   (.ops [⟨some 25, .bin .add (.t 13) (.v (.int .i64 1)), none⟩, ⟨some 13, .mv (.t 25), none⟩])))))))
 (.seq (.ops [⟨some 4, .mv (.v (.bool true)), none⟩])
 .ret))))
noncomputable def X.g_Equal_int (p0 : (List Int)) (p1 : (List Int)) : Option Bool :=
  (bif ((p0.length : Int) != (p1.length : Int)) then some false else ((loop (fun (x18 : Int) => ((bif (decide (x18 < (p0.length : Int))) then ((at' zI p0 x18).bind fun v21 => ((at' zI p1 x18).bind fun v23 => (bif (v21 != v23) then some (Sum.inr (Sum.inr false)) else some (Sum.inl (W (x18 + 1)))))) else some (Sum.inr (Sum.inl ()))) : Option (Int ⊕ (Unit ⊕ Bool)))) 0).bind fun y26 => (Sum.elim (fun (y28 : Unit) => some true) (fun (y29 : Bool) => some y29) y26)))
theorem g_Equal_int_ok (p0 : (List Int)) (p1 : (List Int)) (r : Bool) (H : X.g_Equal_int p0 p1 = some r) : FnOk Try.prog gl 60 [.c (dat 1 eI zI p0), .c (dat 1 eI zI p1)] (.c (.bool r)) := by
  unfold X.g_Equal_int at H
  refine fn_in (fn := Try.f60) (ir := g_Equal_int_ir) (s1 := lit [(4, .c (.bool r))] []) Try.func60 (by kernel_rfl) (by kernel_rfl) (by kernel_rfl) (by kernel_rfl) (by kernel_rfl) ?_
  refine seq_ops [] [] [(0, .c (dat 1 eI zI p0)), (1, .c (dat 1 eI zI p1))] [] (fun t => t) (by kernel_rfl) ?_
  refine seq_in ?_
  refine seq_ops [] [] [(0, .c (dat 1 eI zI p0)), (1, .c (dat 1 eI zI p1)), (10, .c (.bool ((p0.length : Int) != (p1.length : Int))))] [] (fun t => (fun (_ : p0.length ≤ maxLen) => (fun (_ : p1.length ≤ maxLen) => t))) (by kernel_rfl) ?_
  rcases ofCond H with ⟨c2, H⟩ | ⟨c2, H⟩
  · refine ite_t c2 (by kernel_rfl) ?_
    refine seq_ops [] [] [(4, .c (.bool false))] [] (fun t => t) (by kernel_rfl) ?_
    refine ends_ret ?_
    obtain rfl := Option.some.inj H
    exact And.intro (.inl rfl) rfl
  · refine ite_f c2 (by kernel_rfl) ?_
    refine ends_skip ?_
    change EndsI _ _ _ _ _ _
    refine seq_in ?_
    refine seq_ops [] [] [(0, .c (dat 1 eI zI p0)), (1, .c (dat 1 eI zI p1)), (12, .c (.int .i64 (p0.length : Int))), (13, .c (.int .i64 0))] [] (fun t => (fun (_ : p0.length ≤ maxLen) => t)) (by kernel_rfl) ?_
    refine ends_blk ?_
    obtain ⟨y26, h27, H⟩ := ofBind H
    refine loop_in (fun (x : Int) => lit [(0, .c (dat 1 eI zI p0)), (1, .c (dat 1 eI zI p1)), (12, .c (.int .i64 (p0.length : Int))), (13, .c (.int .i64 x))] []) (orJ (fun (z : Unit) => At (.exit 0) (lit [] [])) (fun (z : Bool) => At .ret (lit [(4, .c (.bool z))] []))) h27 ?_ ?_
    · clear H h27
      intro x18 y0 H
      refine seq_ops [] [] [(0, .c (dat 1 eI zI p0)), (1, .c (dat 1 eI zI p1)), (12, .c (.int .i64 (p0.length : Int))), (13, .c (.int .i64 x18)), (14, .c (.bool (decide (x18 < (p0.length : Int)))))] [] (fun t => t) (by kernel_rfl) ?_
      refine seq_in ?_
      rcases ofCond H with ⟨c20, H⟩ | ⟨c20, H⟩
      · refine ite_t c20 (by kernel_rfl) ?_
        refine ends_skip ?_
        change EndsI _ _ _ _ _ _
        refine seq_in ?_
        refine ends_blk ?_
        refine seq_ops [] [] [(0, .c (dat 1 eI zI p0)), (1, .c (dat 1 eI zI p1)), (5, .c (.int .i64 x18)), (12, .c (.int .i64 (p0.length : Int))), (13, .c (.int .i64 x18))] [] (fun t => t) (by kernel_rfl) ?_
        obtain ⟨v21, h22, H⟩ := ofBind H
        obtain ⟨v23, h24, H⟩ := ofBind H
        refine seq_draw [.cs (eI v21), .cs (eI v23)] [] [(0, .c (dat 1 eI zI p0)), (1, .c (dat 1 eI zI p1)), (12, .c (.int .i64 (p0.length : Int))), (13, .c (.int .i64 x18)), (24, .c (.bool (v21 != v23)))] [] (fun t => And.intro (at_lt h22) (And.intro (at_enc (enc := eI) h22) (And.intro (rfl : ([] : List Nat) = []) (And.intro (at_lt h24) (And.intro (at_enc (enc := eI) h24) (And.intro (rfl : ([] : List Nat) = []) (t))))))) (by kernel_rfl) ?_
        rcases ofCond H with ⟨c25, H⟩ | ⟨c25, H⟩
        · refine ite_t c25 (by kernel_rfl) ?_
          refine seq_ops [] [] [(4, .c (.bool false))] [] (fun t => t) (by kernel_rfl) ?_
          refine ends_ret ?_
          obtain rfl := Option.some.inj H
          exact And.intro (by simp) (And.intro rfl rfl)
        · refine ite_f c25 (by kernel_rfl) ?_
          refine ends_skip ?_
          change EndsI _ _ _ _ _ _
          refine one_ops [] [] [(0, .c (dat 1 eI zI p0)), (1, .c (dat 1 eI zI p1)), (12, .c (.int .i64 (p0.length : Int))), (13, .c (.int .i64 (W (x18 + 1))))] [] (fun t => t) (by kernel_rfl) ?_
          obtain rfl := Option.some.inj H
          exact And.intro rfl rfl
      · refine ite_f c20 (by kernel_rfl) ?_
        refine tell [] [] [] (fun t => t) (by kernel_rfl) ?_
        refine ends_exit ?_
        obtain rfl := Option.some.inj H
        exact And.intro (by simp) (And.intro rfl rfl)
    · clear h27
      cases y26 with
      | inl y28 =>
        replace H := ofInl H
        intro e s q
        obtain ⟨rfl, rfl⟩ := q
        change EndsI _ _ _ _ _ _
        refine seq_ops [] [] [(4, .c (.bool true))] [] (fun t => t) (by kernel_rfl) ?_
        refine ends_ret ?_
        obtain rfl := Option.some.inj H
        exact And.intro (.inl rfl) rfl
      | inr y29 =>
        replace H := ofInr H
        intro e s q
        obtain ⟨rfl, rfl⟩ := q
        obtain rfl := Option.some.inj H
        exact And.intro (.inl rfl) rfl

def g_Equal_Unit_ir : S :=
 (.seq (.ops [⟨some 4, .mv (.v (.bool false)), none⟩])
 (.seq (.seq (.ops [⟨some 6, .mv (.t 0), none⟩, ⟨some 7, .len (.t 6), none⟩, ⟨some 8, .mv (.t 1), none⟩, ⟨some 9, .len (.t 8), none⟩, ⟨some 10, .bin .neq (.t 7) (.t 9), none⟩])
 (.ite (.t 10) (.seq (.ops [⟨some 4, .mv (.v (.bool false)), none⟩])
  .ret)
 .skip))
 (.seq (.seq (.ops [⟨some 11, .mv (.t 0), none⟩, ⟨some 12, .len (.t 11), none⟩, ⟨some 13, .mv (.v (.int .i64 0)), none⟩])
 (.blk 0 (.loop (.seq (.ops [⟨some 14, .bin .lss (.t 13) (.t 12), none⟩])
   (.seq (.ite (.t 14) .skip
   (.exit 0))
   (.seq (.blk 1 (.seq (.ops [⟨some 15, .mv (.t 13), none⟩, ⟨some 5, .mv (.t 15), none⟩])
    (.seq (.draw 9 [⟨some 16, .mv (.t 0), none⟩, ⟨some 17, .mv (.t 5), none⟩, ⟨some 18, .iad 4 (.t 16) (.t 17), none⟩, ⟨some 19, .load 4 true (.t 18), none⟩, ⟨some 20, .mv (.t 1), none⟩, ⟨some 21, .mv (.t 5), none⟩, ⟨some 22, .iad 4 (.t 20) (.t 21), none⟩, ⟨some 23, .load 4 true (.t 22), none⟩, ⟨some 24, .eqa true [1, 1, 1, 1] (.t 19) (.t 23), none⟩])
    (.ite (.t 24) (.seq (.ops [⟨some 4, .mv (.v (.bool false)), none⟩])
     .ret)
    .skip))))
   (.ops [⟨some 25, .bin .add (.t 13) (.v (.int .i64 1)), none⟩, ⟨some 13, .mv (.t 25), none⟩])))))))
 (.seq (.ops [⟨some 4, .mv (.v (.bool true)), none⟩])
 .ret))))
noncomputable def X.g_Equal_Unit (p0 : (List TUnit)) (p1 : (List TUnit)) : Option Bool :=
  (bif ((p0.length : Int) != (p1.length : Int)) then some false else ((loop (fun (x18 : Int) => ((bif (decide (x18 < (p0.length : Int))) then ((at' zTUnit p0 x18).bind fun v21 => ((at' zTUnit p1 x18).bind fun v23 => (bif (!((v21.Side == v23.Side) && ((v21.Kind == v23.Kind) && ((v21.At == v23.At) && ((v21.Steps == v23.Steps) && true))))) then some (Sum.inr (Sum.inr false)) else some (Sum.inl (W (x18 + 1)))))) else some (Sum.inr (Sum.inl ()))) : Option (Int ⊕ (Unit ⊕ Bool)))) 0).bind fun y26 => (Sum.elim (fun (y28 : Unit) => some true) (fun (y29 : Bool) => some y29) y26)))
theorem g_Equal_Unit_ok (p0 : (List TUnit)) (p1 : (List TUnit)) (r : Bool) (H : X.g_Equal_Unit p0 p1 = some r) : FnOk Try.prog gl 61 [.c (dat 4 eTUnit zTUnit p0), .c (dat 4 eTUnit zTUnit p1)] (.c (.bool r)) := by
  unfold X.g_Equal_Unit at H
  refine fn_in (fn := Try.f61) (ir := g_Equal_Unit_ir) (s1 := lit [(4, .c (.bool r))] []) Try.func61 (by kernel_rfl) (by kernel_rfl) (by kernel_rfl) (by kernel_rfl) (by kernel_rfl) ?_
  refine seq_ops [] [] [(0, .c (dat 4 eTUnit zTUnit p0)), (1, .c (dat 4 eTUnit zTUnit p1))] [] (fun t => t) (by kernel_rfl) ?_
  refine seq_in ?_
  refine seq_ops [] [] [(0, .c (dat 4 eTUnit zTUnit p0)), (1, .c (dat 4 eTUnit zTUnit p1)), (10, .c (.bool ((p0.length : Int) != (p1.length : Int))))] [] (fun t => (fun (_ : p0.length ≤ maxLen) => (fun (_ : p1.length ≤ maxLen) => t))) (by kernel_rfl) ?_
  rcases ofCond H with ⟨c2, H⟩ | ⟨c2, H⟩
  · refine ite_t c2 (by kernel_rfl) ?_
    refine seq_ops [] [] [(4, .c (.bool false))] [] (fun t => t) (by kernel_rfl) ?_
    refine ends_ret ?_
    obtain rfl := Option.some.inj H
    exact And.intro (.inl rfl) rfl
  · refine ite_f c2 (by kernel_rfl) ?_
    refine ends_skip ?_
    change EndsI _ _ _ _ _ _
    refine seq_in ?_
    refine seq_ops [] [] [(0, .c (dat 4 eTUnit zTUnit p0)), (1, .c (dat 4 eTUnit zTUnit p1)), (12, .c (.int .i64 (p0.length : Int))), (13, .c (.int .i64 0))] [] (fun t => (fun (_ : p0.length ≤ maxLen) => t)) (by kernel_rfl) ?_
    refine ends_blk ?_
    obtain ⟨y26, h27, H⟩ := ofBind H
    refine loop_in (fun (x : Int) => lit [(0, .c (dat 4 eTUnit zTUnit p0)), (1, .c (dat 4 eTUnit zTUnit p1)), (12, .c (.int .i64 (p0.length : Int))), (13, .c (.int .i64 x))] []) (orJ (fun (z : Unit) => At (.exit 0) (lit [] [])) (fun (z : Bool) => At .ret (lit [(4, .c (.bool z))] []))) h27 ?_ ?_
    · clear H h27
      intro x18 y0 H
      refine seq_ops [] [] [(0, .c (dat 4 eTUnit zTUnit p0)), (1, .c (dat 4 eTUnit zTUnit p1)), (12, .c (.int .i64 (p0.length : Int))), (13, .c (.int .i64 x18)), (14, .c (.bool (decide (x18 < (p0.length : Int)))))] [] (fun t => t) (by kernel_rfl) ?_
      refine seq_in ?_
      rcases ofCond H with ⟨c20, H⟩ | ⟨c20, H⟩
      · refine ite_t c20 (by kernel_rfl) ?_
        refine ends_skip ?_
        change EndsI _ _ _ _ _ _
        refine seq_in ?_
        refine ends_blk ?_
        refine seq_ops [] [] [(0, .c (dat 4 eTUnit zTUnit p0)), (1, .c (dat 4 eTUnit zTUnit p1)), (5, .c (.int .i64 x18)), (12, .c (.int .i64 (p0.length : Int))), (13, .c (.int .i64 x18))] [] (fun t => t) (by kernel_rfl) ?_
        obtain ⟨v21, h22, H⟩ := ofBind H
        obtain ⟨v23, h24, H⟩ := ofBind H
        refine seq_draw [.cs (eTUnit v21), .cs (eTUnit v23)] [] [(0, .c (dat 4 eTUnit zTUnit p0)), (1, .c (dat 4 eTUnit zTUnit p1)), (12, .c (.int .i64 (p0.length : Int))), (13, .c (.int .i64 x18)), (24, .c (.bool (!((v21.Side == v23.Side) && ((v21.Kind == v23.Kind) && ((v21.At == v23.At) && ((v21.Steps == v23.Steps) && true)))))))] [] (fun t => And.intro (at_lt h22) (And.intro (at_enc (enc := eTUnit) h22) (And.intro (rfl : ([] : List Nat) = []) (And.intro (at_lt h24) (And.intro (at_enc (enc := eTUnit) h24) (And.intro (rfl : ([] : List Nat) = []) (t))))))) (by kernel_rfl) ?_
        rcases ofCond H with ⟨c25, H⟩ | ⟨c25, H⟩
        · refine ite_t c25 (by kernel_rfl) ?_
          refine seq_ops [] [] [(4, .c (.bool false))] [] (fun t => t) (by kernel_rfl) ?_
          refine ends_ret ?_
          obtain rfl := Option.some.inj H
          exact And.intro (by simp) (And.intro rfl rfl)
        · refine ite_f c25 (by kernel_rfl) ?_
          refine ends_skip ?_
          change EndsI _ _ _ _ _ _
          refine one_ops [] [] [(0, .c (dat 4 eTUnit zTUnit p0)), (1, .c (dat 4 eTUnit zTUnit p1)), (12, .c (.int .i64 (p0.length : Int))), (13, .c (.int .i64 (W (x18 + 1))))] [] (fun t => t) (by kernel_rfl) ?_
          obtain rfl := Option.some.inj H
          exact And.intro rfl rfl
      · refine ite_f c20 (by kernel_rfl) ?_
        refine tell [] [] [] (fun t => t) (by kernel_rfl) ?_
        refine ends_exit ?_
        obtain rfl := Option.some.inj H
        exact And.intro (by simp) (And.intro rfl rfl)
    · clear h27
      cases y26 with
      | inl y28 =>
        replace H := ofInl H
        intro e s q
        obtain ⟨rfl, rfl⟩ := q
        change EndsI _ _ _ _ _ _
        refine seq_ops [] [] [(4, .c (.bool true))] [] (fun t => t) (by kernel_rfl) ?_
        refine ends_ret ?_
        obtain rfl := Option.some.inj H
        exact And.intro (.inl rfl) rfl
      | inr y29 =>
        replace H := ofInr H
        intro e s q
        obtain ⟨rfl, rfl⟩ := q
        obtain rfl := Option.some.inj H
        exact And.intro (.inl rfl) rfl

def i_SameView_ir : S :=
 (.seq (.ops [⟨some 2, .box 6 (.t 0), none⟩, ⟨some 3, .box 6 (.t 1), none⟩, ⟨some 4, .mv (.v (.bool false)), none⟩])
 (.seq (.ops [⟨some 5, .fad 0 (.t 2), none⟩, ⟨some 6, .load 1 false (.t 5), none⟩, ⟨some 7, .fad 0 (.t 3), none⟩, ⟨some 8, .load 1 false (.t 7), none⟩, ⟨some 9, .bin .eql (.t 6) (.t 8), none⟩, ⟨some 10, .mv (.t 9), none⟩, ⟨some 11, .fad 1 (.t 2), some (10, true)⟩, ⟨some 12, .load 1 false (.t 11), some (10, true)⟩, ⟨some 13, .fad 1 (.t 3), some (10, true)⟩, ⟨some 14, .load 1 false (.t 13), some (10, true)⟩, ⟨some 15, .bin .eql (.t 12) (.t 14), some (10, true)⟩, ⟨some 16, .pick (.t 10) (.t 15) (.v (.bool false)), none⟩, ⟨some 17, .mv (.t 16), none⟩, ⟨some 18, .fad 2 (.t 2), some (17, true)⟩, ⟨some 19, .load 1 false (.t 18), some (17, true)⟩, ⟨some 20, .fad 2 (.t 3), some (17, true)⟩, ⟨some 21, .load 1 false (.t 20), some (17, true)⟩, ⟨some 22, .bin .eql (.t 19) (.t 21), some (17, true)⟩, ⟨some 23, .pick (.t 17) (.t 22) (.v (.bool false)), none⟩, ⟨some 24, .mv (.t 23), none⟩, ⟨some 25, .fad 3 (.t 2), some (24, true)⟩, ⟨some 26, .load 1 false (.t 25), some (24, true)⟩, ⟨some 27, .fad 3 (.t 3), some (24, true)⟩, ⟨some 28, .load 1 false (.t 27), some (24, true)⟩, ⟨some 29, .call 60 [.t 26, .t 28], some (24, true)⟩, ⟨some 30, .pick (.t 24) (.t 29) (.v (.bool false)), none⟩, ⟨some 31, .mv (.t 30), none⟩, ⟨some 32, .fad 4 (.t 2), some (31, true)⟩, ⟨some 33, .load 1 false (.t 32), some (31, true)⟩, ⟨some 34, .fad 4 (.t 3), some (31, true)⟩, ⟨some 35, .load 1 false (.t 34), some (31, true)⟩, ⟨some 36, .call 61 [.t 33, .t 35], some (31, true)⟩, ⟨some 37, .pick (.t 31) (.t 36) (.v (.bool false)), none⟩, ⟨some 38, .mv (.t 37), none⟩, ⟨some 39, .fad 5 (.t 2), some (38, true)⟩, ⟨some 40, .load 1 false (.t 39), some (38, true)⟩, ⟨some 41, .fad 5 (.t 3), some (38, true)⟩, ⟨some 42, .load 1 false (.t 41), some (38, true)⟩, ⟨some 43, .call 61 [.t 40, .t 42], some (38, true)⟩, ⟨some 44, .pick (.t 38) (.t 43) (.v (.bool false)), none⟩, ⟨some 4, .mv (.t 44), none⟩])
 .ret))
noncomputable def X.i_SameView (p0 : TView) (p1 : TView) : Option Bool :=
  (bif (p0.Side == p1.Side) then (bif (p0.Turn == p1.Turn) then (bif (p0.Weather == p1.Weather) then ((X.g_Equal_int p0.Seen p1.Seen).bind fun v4 => (bif v4 then ((X.g_Equal_Unit p0.Own p1.Own).bind fun v7 => (bif v7 then ((X.g_Equal_Unit p0.Enemies p1.Enemies).bind fun v10 => some v10) else some false)) else some false)) else some false) else some false) else some false)
theorem i_SameView_ok (p0 : TView) (p1 : TView) (r : Bool) (H : X.i_SameView p0 p1 = some r) : FnOk Try.prog gl 27 [.agg (eTView p0), .agg (eTView p1)] (.c (.bool r)) := by
  unfold X.i_SameView at H
  refine fn_in (fn := Try.f27) (ir := i_SameView_ir) (s1 := lit [(4, .c (.bool r))] []) Try.func27 (by kernel_rfl) (by kernel_rfl) (by kernel_rfl) (by kernel_rfl) (by kernel_rfl) ?_
  refine seq_ops [] [] [(2, .c (.pk 2 0)), (3, .c (.pk 3 0))] [(2, .var [.int .i64 p0.Side, .int .i64 p0.Turn, .int .i64 p0.Weather, dat 1 eI zI p0.Seen, dat 4 eTUnit zTUnit p0.Own, dat 4 eTUnit zTUnit p0.Enemies] false), (3, .var [.int .i64 p1.Side, .int .i64 p1.Turn, .int .i64 p1.Weather, dat 1 eI zI p1.Seen, dat 4 eTUnit zTUnit p1.Own, dat 4 eTUnit zTUnit p1.Enemies] false)] (fun t => t) (by kernel_rfl) ?_
  rcases ofCond H with ⟨c1, H⟩ | ⟨c1, H⟩
  · rcases ofCond H with ⟨c2, H⟩ | ⟨c2, H⟩
    · rcases ofCond H with ⟨c3, H⟩ | ⟨c3, H⟩
      · obtain ⟨v4, h5, H⟩ := ofBind H
        rcases ofCond H with ⟨c6, H⟩ | ⟨c6, H⟩
        · obtain ⟨v7, h8, H⟩ := ofBind H
          rcases ofCond H with ⟨c9, H⟩ | ⟨c9, H⟩
          · obtain ⟨v10, h11, H⟩ := ofBind H
            refine seq_ops [.g true, .g true, .g true, .g true, .g true, .g true, .g true, .g true, .g true, .g true, .g true, .g true, .g true, .g true, .g true, .g true, .g true, .res (.c (.bool v4)), .g true, .g true, .g true, .g true, .g true, .g true, .res (.c (.bool v7)), .g true, .g true, .g true, .g true, .g true, .g true, .res (.c (.bool v10)), .g true] [] [(4, .c (.bool v10))] [] (fun t => And.intro c1 (And.intro c1 (And.intro c1 (And.intro c1 (And.intro c1 (And.intro c1 (And.intro c2 (And.intro c2 (And.intro c2 (And.intro c2 (And.intro c2 (And.intro c2 (And.intro c3 (And.intro c3 (And.intro c3 (And.intro c3 (And.intro c3 (And.intro (g_Equal_int_ok p0.Seen p1.Seen v4 h5) (And.intro c3 (And.intro c6 (And.intro c6 (And.intro c6 (And.intro c6 (And.intro c6 (And.intro (g_Equal_Unit_ok p0.Own p1.Own v7 h8) (And.intro c6 (And.intro c9 (And.intro c9 (And.intro c9 (And.intro c9 (And.intro c9 (And.intro (g_Equal_Unit_ok p0.Enemies p1.Enemies v10 h11) (And.intro c9 (t)))))))))))))))))))))))))))))))))) (by kernel_rfl) ?_
            refine ends_ret ?_
            obtain rfl := Option.some.inj H
            exact And.intro (.inl rfl) rfl
          · refine seq_ops [.g true, .g true, .g true, .g true, .g true, .g true, .g true, .g true, .g true, .g true, .g true, .g true, .g true, .g true, .g true, .g true, .g true, .res (.c (.bool v4)), .g true, .g true, .g true, .g true, .g true, .g true, .res (.c (.bool v7)), .g true, .g false, .g false, .g false, .g false, .g false, .g false] [] [(4, .c (.bool false))] [] (fun t => And.intro c1 (And.intro c1 (And.intro c1 (And.intro c1 (And.intro c1 (And.intro c1 (And.intro c2 (And.intro c2 (And.intro c2 (And.intro c2 (And.intro c2 (And.intro c2 (And.intro c3 (And.intro c3 (And.intro c3 (And.intro c3 (And.intro c3 (And.intro (g_Equal_int_ok p0.Seen p1.Seen v4 h5) (And.intro c3 (And.intro c6 (And.intro c6 (And.intro c6 (And.intro c6 (And.intro c6 (And.intro (g_Equal_Unit_ok p0.Own p1.Own v7 h8) (And.intro c6 (And.intro c9 (And.intro c9 (And.intro c9 (And.intro c9 (And.intro c9 (And.intro c9 (t))))))))))))))))))))))))))))))))) (by kernel_rfl) ?_
            refine ends_ret ?_
            obtain rfl := Option.some.inj H
            exact And.intro (.inl rfl) rfl
        · refine seq_ops [.g true, .g true, .g true, .g true, .g true, .g true, .g true, .g true, .g true, .g true, .g true, .g true, .g true, .g true, .g true, .g true, .g true, .res (.c (.bool v4)), .g true, .g false, .g false, .g false, .g false, .g false, .g false, .g false, .g false, .g false, .g false, .g false, .g false] [] [(4, .c (.bool false))] [] (fun t => And.intro c1 (And.intro c1 (And.intro c1 (And.intro c1 (And.intro c1 (And.intro c1 (And.intro c2 (And.intro c2 (And.intro c2 (And.intro c2 (And.intro c2 (And.intro c2 (And.intro c3 (And.intro c3 (And.intro c3 (And.intro c3 (And.intro c3 (And.intro (g_Equal_int_ok p0.Seen p1.Seen v4 h5) (And.intro c3 (And.intro c6 (And.intro c6 (And.intro c6 (And.intro c6 (And.intro c6 (And.intro c6 (And.intro (rfl : (false : Bool) = false) (And.intro (rfl : (false : Bool) = false) (And.intro (rfl : (false : Bool) = false) (And.intro (rfl : (false : Bool) = false) (And.intro (rfl : (false : Bool) = false) (And.intro (rfl : (false : Bool) = false) (t)))))))))))))))))))))))))))))))) (by kernel_rfl) ?_
          refine ends_ret ?_
          obtain rfl := Option.some.inj H
          exact And.intro (.inl rfl) rfl
      · refine seq_ops [.g true, .g true, .g true, .g true, .g true, .g true, .g true, .g true, .g true, .g true, .g true, .g true, .g false, .g false, .g false, .g false, .g false, .g false, .g false, .g false, .g false, .g false, .g false, .g false, .g false, .g false, .g false, .g false, .g false, .g false] [] [(4, .c (.bool false))] [] (fun t => And.intro c1 (And.intro c1 (And.intro c1 (And.intro c1 (And.intro c1 (And.intro c1 (And.intro c2 (And.intro c2 (And.intro c2 (And.intro c2 (And.intro c2 (And.intro c2 (And.intro c3 (And.intro c3 (And.intro c3 (And.intro c3 (And.intro c3 (And.intro c3 (And.intro (rfl : (false : Bool) = false) (And.intro (rfl : (false : Bool) = false) (And.intro (rfl : (false : Bool) = false) (And.intro (rfl : (false : Bool) = false) (And.intro (rfl : (false : Bool) = false) (And.intro (rfl : (false : Bool) = false) (And.intro (rfl : (false : Bool) = false) (And.intro (rfl : (false : Bool) = false) (And.intro (rfl : (false : Bool) = false) (And.intro (rfl : (false : Bool) = false) (And.intro (rfl : (false : Bool) = false) (And.intro (rfl : (false : Bool) = false) (t))))))))))))))))))))))))))))))) (by kernel_rfl) ?_
        refine ends_ret ?_
        obtain rfl := Option.some.inj H
        exact And.intro (.inl rfl) rfl
    · refine seq_ops [.g true, .g true, .g true, .g true, .g true, .g true, .g false, .g false, .g false, .g false, .g false, .g false, .g false, .g false, .g false, .g false, .g false, .g false, .g false, .g false, .g false, .g false, .g false, .g false, .g false, .g false, .g false, .g false, .g false, .g false] [] [(4, .c (.bool false))] [] (fun t => And.intro c1 (And.intro c1 (And.intro c1 (And.intro c1 (And.intro c1 (And.intro c1 (And.intro c2 (And.intro c2 (And.intro c2 (And.intro c2 (And.intro c2 (And.intro c2 (And.intro (rfl : (false : Bool) = false) (And.intro (rfl : (false : Bool) = false) (And.intro (rfl : (false : Bool) = false) (And.intro (rfl : (false : Bool) = false) (And.intro (rfl : (false : Bool) = false) (And.intro (rfl : (false : Bool) = false) (And.intro (rfl : (false : Bool) = false) (And.intro (rfl : (false : Bool) = false) (And.intro (rfl : (false : Bool) = false) (And.intro (rfl : (false : Bool) = false) (And.intro (rfl : (false : Bool) = false) (And.intro (rfl : (false : Bool) = false) (And.intro (rfl : (false : Bool) = false) (And.intro (rfl : (false : Bool) = false) (And.intro (rfl : (false : Bool) = false) (And.intro (rfl : (false : Bool) = false) (And.intro (rfl : (false : Bool) = false) (And.intro (rfl : (false : Bool) = false) (t))))))))))))))))))))))))))))))) (by kernel_rfl) ?_
      refine ends_ret ?_
      obtain rfl := Option.some.inj H
      exact And.intro (.inl rfl) rfl
  · refine seq_ops [.g false, .g false, .g false, .g false, .g false, .g false, .g false, .g false, .g false, .g false, .g false, .g false, .g false, .g false, .g false, .g false, .g false, .g false, .g false, .g false, .g false, .g false, .g false, .g false, .g false, .g false, .g false, .g false, .g false, .g false] [] [(4, .c (.bool false))] [] (fun t => And.intro c1 (And.intro c1 (And.intro c1 (And.intro c1 (And.intro c1 (And.intro c1 (And.intro (rfl : (false : Bool) = false) (And.intro (rfl : (false : Bool) = false) (And.intro (rfl : (false : Bool) = false) (And.intro (rfl : (false : Bool) = false) (And.intro (rfl : (false : Bool) = false) (And.intro (rfl : (false : Bool) = false) (And.intro (rfl : (false : Bool) = false) (And.intro (rfl : (false : Bool) = false) (And.intro (rfl : (false : Bool) = false) (And.intro (rfl : (false : Bool) = false) (And.intro (rfl : (false : Bool) = false) (And.intro (rfl : (false : Bool) = false) (And.intro (rfl : (false : Bool) = false) (And.intro (rfl : (false : Bool) = false) (And.intro (rfl : (false : Bool) = false) (And.intro (rfl : (false : Bool) = false) (And.intro (rfl : (false : Bool) = false) (And.intro (rfl : (false : Bool) = false) (And.intro (rfl : (false : Bool) = false) (And.intro (rfl : (false : Bool) = false) (And.intro (rfl : (false : Bool) = false) (And.intro (rfl : (false : Bool) = false) (And.intro (rfl : (false : Bool) = false) (And.intro (rfl : (false : Bool) = false) (t))))))))))))))))))))))))))))))) (by kernel_rfl) ?_
    refine ends_ret ?_
    obtain rfl := Option.some.inj H
    exact And.intro (.inl rfl) rfl

def l_eqIntS_ir : S :=
 (.seq (.ops [⟨some 4, .mv (.v (.bool false)), none⟩])
 (.seq (.seq (.ops [⟨some 6, .mv (.t 0), none⟩, ⟨some 7, .len (.t 6), none⟩, ⟨some 8, .mv (.t 1), none⟩, ⟨some 9, .len (.t 8), none⟩, ⟨some 10, .bin .neq (.t 7) (.t 9), none⟩])
 (.ite (.t 10) (.seq (.ops [⟨some 4, .mv (.v (.bool false)), none⟩])
  .ret)
 .skip))
 (.seq (.seq (.ops [⟨some 5, .mv (.v (.int .i64 0)), none⟩])
 (.blk 0 (.loop (.seq (.seq (.ops [⟨some 11, .mv (.t 5), none⟩, ⟨some 12, .mv (.t 0), none⟩, ⟨some 13, .len (.t 12), none⟩, ⟨some 14, .bin .lss (.t 11) (.t 13), none⟩])
   (.ite (.t 14) .skip
   (.exit 0)))
   (.seq (.blk 1 (.seq (.draw 9 [⟨some 17, .mv (.t 0), none⟩, ⟨some 18, .mv (.t 5), none⟩, ⟨some 19, .iad 1 (.t 17) (.t 18), none⟩, ⟨some 20, .load 1 false (.t 19), none⟩, ⟨some 21, .mv (.t 1), none⟩, ⟨some 22, .mv (.t 5), none⟩, ⟨some 23, .iad 1 (.t 21) (.t 22), none⟩, ⟨some 24, .load 1 false (.t 23), none⟩, ⟨some 25, .bin .neq (.t 20) (.t 24), none⟩])
    (.ite (.t 25) (.seq (.ops [⟨some 4, .mv (.v (.bool false)), none⟩])
     .ret)
    .skip)))
   (.ops [⟨some 15, .mv (.t 5), none⟩, ⟨some 16, .bin .add (.t 15) (.v (.int .i64 1)), none⟩, ⟨some 5, .mv (.t 16), none⟩]))))))
 (.seq (.ops [⟨some 4, .mv (.v (.bool true)), none⟩])
 .ret))))
noncomputable def X.l_eqIntS (p0 : (List Int)) (p1 : (List Int)) : Option Bool :=
  (bif ((p0.length : Int) != (p1.length : Int)) then some false else ((loop (fun (x18 : Int) => ((bif (decide (x18 < (p0.length : Int))) then ((at' zI p0 x18).bind fun v21 => ((at' zI p1 x18).bind fun v23 => (bif (v21 != v23) then some (Sum.inr (Sum.inr false)) else some (Sum.inl (W (x18 + 1)))))) else some (Sum.inr (Sum.inl ()))) : Option (Int ⊕ (Unit ⊕ Bool)))) 0).bind fun y26 => (Sum.elim (fun (y28 : Unit) => some true) (fun (y29 : Bool) => some y29) y26)))
theorem l_eqIntS_ok (p0 : (List Int)) (p1 : (List Int)) (r : Bool) (H : X.l_eqIntS p0 p1 = some r) : FnOk Try.prog gl 23 [.c (dat 1 eI zI p0), .c (dat 1 eI zI p1)] (.c (.bool r)) := by
  unfold X.l_eqIntS at H
  refine fn_in (fn := Try.f23) (ir := l_eqIntS_ir) (s1 := lit [(4, .c (.bool r))] []) Try.func23 (by kernel_rfl) (by kernel_rfl) (by kernel_rfl) (by kernel_rfl) (by kernel_rfl) ?_
  refine seq_ops [] [] [(0, .c (dat 1 eI zI p0)), (1, .c (dat 1 eI zI p1))] [] (fun t => t) (by kernel_rfl) ?_
  refine seq_in ?_
  refine seq_ops [] [] [(0, .c (dat 1 eI zI p0)), (1, .c (dat 1 eI zI p1)), (10, .c (.bool ((p0.length : Int) != (p1.length : Int))))] [] (fun t => (fun (_ : p0.length ≤ maxLen) => (fun (_ : p1.length ≤ maxLen) => t))) (by kernel_rfl) ?_
  rcases ofCond H with ⟨c2, H⟩ | ⟨c2, H⟩
  · refine ite_t c2 (by kernel_rfl) ?_
    refine seq_ops [] [] [(4, .c (.bool false))] [] (fun t => t) (by kernel_rfl) ?_
    refine ends_ret ?_
    obtain rfl := Option.some.inj H
    exact And.intro (.inl rfl) rfl
  · refine ite_f c2 (by kernel_rfl) ?_
    refine ends_skip ?_
    change EndsI _ _ _ _ _ _
    refine seq_in ?_
    refine seq_ops [] [] [(0, .c (dat 1 eI zI p0)), (1, .c (dat 1 eI zI p1)), (5, .c (.int .i64 0))] [] (fun t => t) (by kernel_rfl) ?_
    refine ends_blk ?_
    obtain ⟨y26, h27, H⟩ := ofBind H
    refine loop_in (fun (x : Int) => lit [(0, .c (dat 1 eI zI p0)), (1, .c (dat 1 eI zI p1)), (5, .c (.int .i64 x))] []) (orJ (fun (z : Unit) => At (.exit 0) (lit [] [])) (fun (z : Bool) => At .ret (lit [(4, .c (.bool z))] []))) h27 ?_ ?_
    · clear H h27
      intro x18 y0 H
      refine seq_in ?_
      refine seq_ops [] [] [(0, .c (dat 1 eI zI p0)), (1, .c (dat 1 eI zI p1)), (5, .c (.int .i64 x18)), (14, .c (.bool (decide (x18 < (p0.length : Int)))))] [] (fun t => (fun (_ : p0.length ≤ maxLen) => t)) (by kernel_rfl) ?_
      rcases ofCond H with ⟨c20, H⟩ | ⟨c20, H⟩
      · refine ite_t c20 (by kernel_rfl) ?_
        refine ends_skip ?_
        change EndsI _ _ _ _ _ _
        refine seq_in ?_
        refine ends_blk ?_
        obtain ⟨v21, h22, H⟩ := ofBind H
        obtain ⟨v23, h24, H⟩ := ofBind H
        refine seq_draw [.cs (eI v21), .cs (eI v23)] [] [(0, .c (dat 1 eI zI p0)), (1, .c (dat 1 eI zI p1)), (5, .c (.int .i64 x18)), (25, .c (.bool (v21 != v23)))] [] (fun t => And.intro (at_lt h22) (And.intro (at_enc (enc := eI) h22) (And.intro (rfl : ([] : List Nat) = []) (And.intro (at_lt h24) (And.intro (at_enc (enc := eI) h24) (And.intro (rfl : ([] : List Nat) = []) (t))))))) (by kernel_rfl) ?_
        rcases ofCond H with ⟨c25, H⟩ | ⟨c25, H⟩
        · refine ite_t c25 (by kernel_rfl) ?_
          refine seq_ops [] [] [(4, .c (.bool false))] [] (fun t => t) (by kernel_rfl) ?_
          refine ends_ret ?_
          obtain rfl := Option.some.inj H
          exact And.intro (by simp) (And.intro rfl rfl)
        · refine ite_f c25 (by kernel_rfl) ?_
          refine ends_skip ?_
          change EndsI _ _ _ _ _ _
          refine one_ops [] [] [(0, .c (dat 1 eI zI p0)), (1, .c (dat 1 eI zI p1)), (5, .c (.int .i64 (W (x18 + 1))))] [] (fun t => t) (by kernel_rfl) ?_
          obtain rfl := Option.some.inj H
          exact And.intro rfl rfl
      · refine ite_f c20 (by kernel_rfl) ?_
        refine tell [] [] [] (fun t => t) (by kernel_rfl) ?_
        refine ends_exit ?_
        obtain rfl := Option.some.inj H
        exact And.intro (by simp) (And.intro rfl rfl)
    · clear h27
      cases y26 with
      | inl y28 =>
        replace H := ofInl H
        intro e s q
        obtain ⟨rfl, rfl⟩ := q
        change EndsI _ _ _ _ _ _
        refine seq_ops [] [] [(4, .c (.bool true))] [] (fun t => t) (by kernel_rfl) ?_
        refine ends_ret ?_
        obtain rfl := Option.some.inj H
        exact And.intro (.inl rfl) rfl
      | inr y29 =>
        replace H := ofInr H
        intro e s q
        obtain ⟨rfl, rfl⟩ := q
        obtain rfl := Option.some.inj H
        exact And.intro (.inl rfl) rfl

def l_eqUnit_ir : S :=
 (.seq (.ops [⟨some 2, .box 4 (.t 0), none⟩, ⟨some 3, .box 4 (.t 1), none⟩, ⟨some 4, .mv (.v (.bool false)), none⟩])
 (.seq (.seq (.ops [⟨some 5, .fad 0 (.t 2), none⟩, ⟨some 6, .load 1 false (.t 5), none⟩, ⟨some 7, .fad 0 (.t 3), none⟩, ⟨some 8, .load 1 false (.t 7), none⟩, ⟨some 9, .bin .neq (.t 6) (.t 8), none⟩])
 (.ite (.t 9) (.seq (.ops [⟨some 4, .mv (.v (.bool false)), none⟩])
  .ret)
 .skip))
 (.seq (.seq (.ops [⟨some 10, .fad 1 (.t 2), none⟩, ⟨some 11, .load 1 false (.t 10), none⟩, ⟨some 12, .fad 1 (.t 3), none⟩, ⟨some 13, .load 1 false (.t 12), none⟩, ⟨some 14, .bin .neq (.t 11) (.t 13), none⟩])
 (.ite (.t 14) (.seq (.ops [⟨some 4, .mv (.v (.bool false)), none⟩])
  .ret)
 .skip))
 (.seq (.seq (.ops [⟨some 15, .fad 2 (.t 2), none⟩, ⟨some 16, .load 1 false (.t 15), none⟩, ⟨some 17, .fad 2 (.t 3), none⟩, ⟨some 18, .load 1 false (.t 17), none⟩, ⟨some 19, .bin .neq (.t 16) (.t 18), none⟩])
 (.ite (.t 19) (.seq (.ops [⟨some 4, .mv (.v (.bool false)), none⟩])
  .ret)
 .skip))
 (.seq (.seq (.ops [⟨some 20, .fad 3 (.t 2), none⟩, ⟨some 21, .load 1 false (.t 20), none⟩, ⟨some 22, .fad 3 (.t 3), none⟩, ⟨some 23, .load 1 false (.t 22), none⟩, ⟨some 24, .bin .neq (.t 21) (.t 23), none⟩])
 (.ite (.t 24) (.seq (.ops [⟨some 4, .mv (.v (.bool false)), none⟩])
  .ret)
 .skip))
 (.seq (.ops [⟨some 4, .mv (.v (.bool true)), none⟩])
 .ret))))))
noncomputable def X.l_eqUnit (p0 : TUnit) (p1 : TUnit) : Option Bool :=
  (bif (p0.Side != p1.Side) then some false else (bif (p0.Kind != p1.Kind) then some false else (bif (p0.At != p1.At) then some false else (bif (p0.Steps != p1.Steps) then some false else some true))))
theorem l_eqUnit_ok (p0 : TUnit) (p1 : TUnit) (r : Bool) (H : X.l_eqUnit p0 p1 = some r) : FnOk Try.prog gl 79 [.agg (eTUnit p0), .agg (eTUnit p1)] (.c (.bool r)) := by
  unfold X.l_eqUnit at H
  refine fn_in (fn := Try.f79) (ir := l_eqUnit_ir) (s1 := lit [(4, .c (.bool r))] []) Try.func79 (by kernel_rfl) (by kernel_rfl) (by kernel_rfl) (by kernel_rfl) (by kernel_rfl) ?_
  refine seq_ops [] [] [(2, .c (.pk 2 0)), (3, .c (.pk 3 0))] [(2, .var [.int .i64 p0.Side, .int .i64 p0.Kind, .int .i64 p0.At, .int .i64 p0.Steps] false), (3, .var [.int .i64 p1.Side, .int .i64 p1.Kind, .int .i64 p1.At, .int .i64 p1.Steps] false)] (fun t => t) (by kernel_rfl) ?_
  refine seq_in ?_
  refine seq_ops [] [] [(2, .c (.pk 2 0)), (3, .c (.pk 3 0)), (9, .c (.bool (p0.Side != p1.Side)))] [(2, .var [.int .i64 p0.Side, .int .i64 p0.Kind, .int .i64 p0.At, .int .i64 p0.Steps] false), (3, .var [.int .i64 p1.Side, .int .i64 p1.Kind, .int .i64 p1.At, .int .i64 p1.Steps] false)] (fun t => t) (by kernel_rfl) ?_
  rcases ofCond H with ⟨c2, H⟩ | ⟨c2, H⟩
  · refine ite_t c2 (by kernel_rfl) ?_
    refine seq_ops [] [] [(4, .c (.bool false))] [] (fun t => t) (by kernel_rfl) ?_
    refine ends_ret ?_
    obtain rfl := Option.some.inj H
    exact And.intro (.inl rfl) rfl
  · refine ite_f c2 (by kernel_rfl) ?_
    refine ends_skip ?_
    change EndsI _ _ _ _ _ _
    refine seq_in ?_
    refine seq_ops [] [] [(2, .c (.pk 2 0)), (3, .c (.pk 3 0)), (14, .c (.bool (p0.Kind != p1.Kind)))] [(2, .var [.int .i64 p0.Side, .int .i64 p0.Kind, .int .i64 p0.At, .int .i64 p0.Steps] false), (3, .var [.int .i64 p1.Side, .int .i64 p1.Kind, .int .i64 p1.At, .int .i64 p1.Steps] false)] (fun t => t) (by kernel_rfl) ?_
    rcases ofCond H with ⟨c4, H⟩ | ⟨c4, H⟩
    · refine ite_t c4 (by kernel_rfl) ?_
      refine seq_ops [] [] [(4, .c (.bool false))] [] (fun t => t) (by kernel_rfl) ?_
      refine ends_ret ?_
      obtain rfl := Option.some.inj H
      exact And.intro (.inl rfl) rfl
    · refine ite_f c4 (by kernel_rfl) ?_
      refine ends_skip ?_
      change EndsI _ _ _ _ _ _
      refine seq_in ?_
      refine seq_ops [] [] [(2, .c (.pk 2 0)), (3, .c (.pk 3 0)), (19, .c (.bool (p0.At != p1.At)))] [(2, .var [.int .i64 p0.Side, .int .i64 p0.Kind, .int .i64 p0.At, .int .i64 p0.Steps] false), (3, .var [.int .i64 p1.Side, .int .i64 p1.Kind, .int .i64 p1.At, .int .i64 p1.Steps] false)] (fun t => t) (by kernel_rfl) ?_
      rcases ofCond H with ⟨c6, H⟩ | ⟨c6, H⟩
      · refine ite_t c6 (by kernel_rfl) ?_
        refine seq_ops [] [] [(4, .c (.bool false))] [] (fun t => t) (by kernel_rfl) ?_
        refine ends_ret ?_
        obtain rfl := Option.some.inj H
        exact And.intro (.inl rfl) rfl
      · refine ite_f c6 (by kernel_rfl) ?_
        refine ends_skip ?_
        change EndsI _ _ _ _ _ _
        refine seq_in ?_
        refine seq_ops [] [] [(24, .c (.bool (p0.Steps != p1.Steps)))] [] (fun t => t) (by kernel_rfl) ?_
        rcases ofCond H with ⟨c7, H⟩ | ⟨c7, H⟩
        · refine ite_t c7 (by kernel_rfl) ?_
          refine seq_ops [] [] [(4, .c (.bool false))] [] (fun t => t) (by kernel_rfl) ?_
          refine ends_ret ?_
          obtain rfl := Option.some.inj H
          exact And.intro (.inl rfl) rfl
        · refine ite_f c7 (by kernel_rfl) ?_
          refine ends_skip ?_
          change EndsI _ _ _ _ _ _
          refine seq_ops [] [] [(4, .c (.bool true))] [] (fun t => t) (by kernel_rfl) ?_
          refine ends_ret ?_
          obtain rfl := Option.some.inj H
          exact And.intro (.inl rfl) rfl

def l_eqUnitS_ir : S :=
 (.seq (.ops [⟨some 4, .mv (.v (.bool false)), none⟩])
 (.seq (.seq (.ops [⟨some 6, .mv (.t 0), none⟩, ⟨some 7, .len (.t 6), none⟩, ⟨some 8, .mv (.t 1), none⟩, ⟨some 9, .len (.t 8), none⟩, ⟨some 10, .bin .neq (.t 7) (.t 9), none⟩])
 (.ite (.t 10) (.seq (.ops [⟨some 4, .mv (.v (.bool false)), none⟩])
  .ret)
 .skip))
 (.seq (.seq (.ops [⟨some 5, .mv (.v (.int .i64 0)), none⟩])
 (.blk 0 (.loop (.seq (.seq (.ops [⟨some 11, .mv (.t 5), none⟩, ⟨some 12, .mv (.t 0), none⟩, ⟨some 13, .len (.t 12), none⟩, ⟨some 14, .bin .lss (.t 11) (.t 13), none⟩])
   (.ite (.t 14) .skip
   (.exit 0)))
   (.seq (.blk 1 (.seq (.draw 10 [⟨some 17, .mv (.t 0), none⟩, ⟨some 18, .mv (.t 5), none⟩, ⟨some 19, .iad 4 (.t 17) (.t 18), none⟩, ⟨some 20, .load 4 true (.t 19), none⟩, ⟨some 21, .mv (.t 1), none⟩, ⟨some 22, .mv (.t 5), none⟩, ⟨some 23, .iad 4 (.t 21) (.t 22), none⟩, ⟨some 24, .load 4 true (.t 23), none⟩, ⟨some 25, .call 79 [.t 20, .t 24], none⟩, ⟨some 26, .not (.t 25), none⟩])
    (.ite (.t 26) (.seq (.ops [⟨some 4, .mv (.v (.bool false)), none⟩])
     .ret)
    .skip)))
   (.ops [⟨some 15, .mv (.t 5), none⟩, ⟨some 16, .bin .add (.t 15) (.v (.int .i64 1)), none⟩, ⟨some 5, .mv (.t 16), none⟩]))))))
 (.seq (.ops [⟨some 4, .mv (.v (.bool true)), none⟩])
 .ret))))
noncomputable def X.l_eqUnitS (p0 : (List TUnit)) (p1 : (List TUnit)) : Option Bool :=
  (bif ((p0.length : Int) != (p1.length : Int)) then some false else ((loop (fun (x22 : Int) => ((bif (decide (x22 < (p0.length : Int))) then ((at' zTUnit p0 x22).bind fun v25 => ((at' zTUnit p1 x22).bind fun v27 => ((X.l_eqUnit v25 v27).bind fun v29 => (bif (!v29) then some (Sum.inr (Sum.inr false)) else some (Sum.inl (W (x22 + 1))))))) else some (Sum.inr (Sum.inl ()))) : Option (Int ⊕ (Unit ⊕ Bool)))) 0).bind fun y32 => (Sum.elim (fun (y34 : Unit) => some true) (fun (y35 : Bool) => some y35) y32)))
theorem l_eqUnitS_ok (p0 : (List TUnit)) (p1 : (List TUnit)) (r : Bool) (H : X.l_eqUnitS p0 p1 = some r) : FnOk Try.prog gl 62 [.c (dat 4 eTUnit zTUnit p0), .c (dat 4 eTUnit zTUnit p1)] (.c (.bool r)) := by
  unfold X.l_eqUnitS at H
  refine fn_in (fn := Try.f62) (ir := l_eqUnitS_ir) (s1 := lit [(4, .c (.bool r))] []) Try.func62 (by kernel_rfl) (by kernel_rfl) (by kernel_rfl) (by kernel_rfl) (by kernel_rfl) ?_
  refine seq_ops [] [] [(0, .c (dat 4 eTUnit zTUnit p0)), (1, .c (dat 4 eTUnit zTUnit p1))] [] (fun t => t) (by kernel_rfl) ?_
  refine seq_in ?_
  refine seq_ops [] [] [(0, .c (dat 4 eTUnit zTUnit p0)), (1, .c (dat 4 eTUnit zTUnit p1)), (10, .c (.bool ((p0.length : Int) != (p1.length : Int))))] [] (fun t => (fun (_ : p0.length ≤ maxLen) => (fun (_ : p1.length ≤ maxLen) => t))) (by kernel_rfl) ?_
  rcases ofCond H with ⟨c2, H⟩ | ⟨c2, H⟩
  · refine ite_t c2 (by kernel_rfl) ?_
    refine seq_ops [] [] [(4, .c (.bool false))] [] (fun t => t) (by kernel_rfl) ?_
    refine ends_ret ?_
    obtain rfl := Option.some.inj H
    exact And.intro (.inl rfl) rfl
  · refine ite_f c2 (by kernel_rfl) ?_
    refine ends_skip ?_
    change EndsI _ _ _ _ _ _
    refine seq_in ?_
    refine seq_ops [] [] [(0, .c (dat 4 eTUnit zTUnit p0)), (1, .c (dat 4 eTUnit zTUnit p1)), (5, .c (.int .i64 0))] [] (fun t => t) (by kernel_rfl) ?_
    refine ends_blk ?_
    obtain ⟨y32, h33, H⟩ := ofBind H
    refine loop_in (fun (x : Int) => lit [(0, .c (dat 4 eTUnit zTUnit p0)), (1, .c (dat 4 eTUnit zTUnit p1)), (5, .c (.int .i64 x))] []) (orJ (fun (z : Unit) => At (.exit 0) (lit [] [])) (fun (z : Bool) => At .ret (lit [(4, .c (.bool z))] []))) h33 ?_ ?_
    · clear H h33
      intro x22 y0 H
      refine seq_in ?_
      refine seq_ops [] [] [(0, .c (dat 4 eTUnit zTUnit p0)), (1, .c (dat 4 eTUnit zTUnit p1)), (5, .c (.int .i64 x22)), (14, .c (.bool (decide (x22 < (p0.length : Int)))))] [] (fun t => (fun (_ : p0.length ≤ maxLen) => t)) (by kernel_rfl) ?_
      rcases ofCond H with ⟨c24, H⟩ | ⟨c24, H⟩
      · refine ite_t c24 (by kernel_rfl) ?_
        refine ends_skip ?_
        change EndsI _ _ _ _ _ _
        refine seq_in ?_
        refine ends_blk ?_
        obtain ⟨v25, h26, H⟩ := ofBind H
        obtain ⟨v27, h28, H⟩ := ofBind H
        obtain ⟨v29, h30, H⟩ := ofBind H
        refine seq_draw [.cs (eTUnit v25), .cs (eTUnit v27), .res (.c (.bool v29))] [] [(0, .c (dat 4 eTUnit zTUnit p0)), (1, .c (dat 4 eTUnit zTUnit p1)), (5, .c (.int .i64 x22)), (26, .c (.bool (!v29)))] [] (fun t => And.intro (at_lt h26) (And.intro (at_enc (enc := eTUnit) h26) (And.intro (rfl : ([] : List Nat) = []) (And.intro (at_lt h28) (And.intro (at_enc (enc := eTUnit) h28) (And.intro (rfl : ([] : List Nat) = []) (And.intro (l_eqUnit_ok v25 v27 v29 h30) (And.intro trivial (And.intro (rfl : ([] : List Nat) = []) (t)))))))))) (by kernel_rfl) ?_
        rcases ofCond H with ⟨c31, H⟩ | ⟨c31, H⟩
        · refine ite_t c31 (by kernel_rfl) ?_
          refine seq_ops [] [] [(4, .c (.bool false))] [] (fun t => t) (by kernel_rfl) ?_
          refine ends_ret ?_
          obtain rfl := Option.some.inj H
          exact And.intro (by simp) (And.intro rfl rfl)
        · refine ite_f c31 (by kernel_rfl) ?_
          refine ends_skip ?_
          change EndsI _ _ _ _ _ _
          refine one_ops [] [] [(0, .c (dat 4 eTUnit zTUnit p0)), (1, .c (dat 4 eTUnit zTUnit p1)), (5, .c (.int .i64 (W (x22 + 1))))] [] (fun t => t) (by kernel_rfl) ?_
          obtain rfl := Option.some.inj H
          exact And.intro rfl rfl
      · refine ite_f c24 (by kernel_rfl) ?_
        refine tell [] [] [] (fun t => t) (by kernel_rfl) ?_
        refine ends_exit ?_
        obtain rfl := Option.some.inj H
        exact And.intro (by simp) (And.intro rfl rfl)
    · clear h33
      cases y32 with
      | inl y34 =>
        replace H := ofInl H
        intro e s q
        obtain ⟨rfl, rfl⟩ := q
        change EndsI _ _ _ _ _ _
        refine seq_ops [] [] [(4, .c (.bool true))] [] (fun t => t) (by kernel_rfl) ?_
        refine ends_ret ?_
        obtain rfl := Option.some.inj H
        exact And.intro (.inl rfl) rfl
      | inr y35 =>
        replace H := ofInr H
        intro e s q
        obtain ⟨rfl, rfl⟩ := q
        obtain rfl := Option.some.inj H
        exact And.intro (.inl rfl) rfl

def l_eqView_ir : S :=
 (.seq (.ops [⟨some 2, .box 6 (.t 0), none⟩, ⟨some 3, .box 6 (.t 1), none⟩, ⟨some 4, .mv (.v (.bool false)), none⟩])
 (.seq (.seq (.ops [⟨some 5, .fad 0 (.t 2), none⟩, ⟨some 6, .load 1 false (.t 5), none⟩, ⟨some 7, .fad 0 (.t 3), none⟩, ⟨some 8, .load 1 false (.t 7), none⟩, ⟨some 9, .bin .neq (.t 6) (.t 8), none⟩])
 (.ite (.t 9) (.seq (.ops [⟨some 4, .mv (.v (.bool false)), none⟩])
  .ret)
 .skip))
 (.seq (.seq (.ops [⟨some 10, .fad 1 (.t 2), none⟩, ⟨some 11, .load 1 false (.t 10), none⟩, ⟨some 12, .fad 1 (.t 3), none⟩, ⟨some 13, .load 1 false (.t 12), none⟩, ⟨some 14, .bin .neq (.t 11) (.t 13), none⟩])
 (.ite (.t 14) (.seq (.ops [⟨some 4, .mv (.v (.bool false)), none⟩])
  .ret)
 .skip))
 (.seq (.seq (.ops [⟨some 15, .fad 2 (.t 2), none⟩, ⟨some 16, .load 1 false (.t 15), none⟩, ⟨some 17, .fad 2 (.t 3), none⟩, ⟨some 18, .load 1 false (.t 17), none⟩, ⟨some 19, .bin .neq (.t 16) (.t 18), none⟩])
 (.ite (.t 19) (.seq (.ops [⟨some 4, .mv (.v (.bool false)), none⟩])
  .ret)
 .skip))
 (.seq (.seq (.ops [⟨some 20, .fad 3 (.t 2), none⟩, ⟨some 21, .load 1 false (.t 20), none⟩, ⟨some 22, .fad 3 (.t 3), none⟩, ⟨some 23, .load 1 false (.t 22), none⟩, ⟨some 24, .call 23 [.t 21, .t 23], none⟩, ⟨some 25, .not (.t 24), none⟩])
 (.ite (.t 25) (.seq (.ops [⟨some 4, .mv (.v (.bool false)), none⟩])
  .ret)
 .skip))
 (.seq (.seq (.ops [⟨some 26, .fad 4 (.t 2), none⟩, ⟨some 27, .load 1 false (.t 26), none⟩, ⟨some 28, .fad 4 (.t 3), none⟩, ⟨some 29, .load 1 false (.t 28), none⟩, ⟨some 30, .call 62 [.t 27, .t 29], none⟩, ⟨some 31, .not (.t 30), none⟩])
 (.ite (.t 31) (.seq (.ops [⟨some 4, .mv (.v (.bool false)), none⟩])
  .ret)
 .skip))
 (.seq (.seq (.ops [⟨some 32, .fad 5 (.t 2), none⟩, ⟨some 33, .load 1 false (.t 32), none⟩, ⟨some 34, .fad 5 (.t 3), none⟩, ⟨some 35, .load 1 false (.t 34), none⟩, ⟨some 36, .call 62 [.t 33, .t 35], none⟩, ⟨some 37, .not (.t 36), none⟩])
 (.ite (.t 37) (.seq (.ops [⟨some 4, .mv (.v (.bool false)), none⟩])
  .ret)
 .skip))
 (.seq (.ops [⟨some 4, .mv (.v (.bool true)), none⟩])
 .ret))))))))
noncomputable def X.l_eqView (p0 : TView) (p1 : TView) : Option Bool :=
  (bif (p0.Side != p1.Side) then some false else (bif (p0.Turn != p1.Turn) then some false else (bif (p0.Weather != p1.Weather) then some false else ((X.l_eqIntS p0.Seen p1.Seen).bind fun v10 => (bif (!v10) then some false else ((X.l_eqUnitS p0.Own p1.Own).bind fun v16 => (bif (!v16) then some false else ((X.l_eqUnitS p0.Enemies p1.Enemies).bind fun v19 => (bif (!v19) then some false else some true)))))))))
theorem l_eqView_ok (p0 : TView) (p1 : TView) (r : Bool) (H : X.l_eqView p0 p1 = some r) : FnOk Try.prog gl 28 [.agg (eTView p0), .agg (eTView p1)] (.c (.bool r)) := by
  unfold X.l_eqView at H
  refine fn_in (fn := Try.f28) (ir := l_eqView_ir) (s1 := lit [(4, .c (.bool r))] []) Try.func28 (by kernel_rfl) (by kernel_rfl) (by kernel_rfl) (by kernel_rfl) (by kernel_rfl) ?_
  refine seq_ops [] [] [(2, .c (.pk 2 0)), (3, .c (.pk 3 0))] [(2, .var [.int .i64 p0.Side, .int .i64 p0.Turn, .int .i64 p0.Weather, dat 1 eI zI p0.Seen, dat 4 eTUnit zTUnit p0.Own, dat 4 eTUnit zTUnit p0.Enemies] false), (3, .var [.int .i64 p1.Side, .int .i64 p1.Turn, .int .i64 p1.Weather, dat 1 eI zI p1.Seen, dat 4 eTUnit zTUnit p1.Own, dat 4 eTUnit zTUnit p1.Enemies] false)] (fun t => t) (by kernel_rfl) ?_
  refine seq_in ?_
  refine seq_ops [] [] [(2, .c (.pk 2 0)), (3, .c (.pk 3 0)), (9, .c (.bool (p0.Side != p1.Side)))] [(2, .var [.int .i64 p0.Side, .int .i64 p0.Turn, .int .i64 p0.Weather, dat 1 eI zI p0.Seen, dat 4 eTUnit zTUnit p0.Own, dat 4 eTUnit zTUnit p0.Enemies] false), (3, .var [.int .i64 p1.Side, .int .i64 p1.Turn, .int .i64 p1.Weather, dat 1 eI zI p1.Seen, dat 4 eTUnit zTUnit p1.Own, dat 4 eTUnit zTUnit p1.Enemies] false)] (fun t => t) (by kernel_rfl) ?_
  rcases ofCond H with ⟨c2, H⟩ | ⟨c2, H⟩
  · refine ite_t c2 (by kernel_rfl) ?_
    refine seq_ops [] [] [(4, .c (.bool false))] [] (fun t => t) (by kernel_rfl) ?_
    refine ends_ret ?_
    obtain rfl := Option.some.inj H
    exact And.intro (.inl rfl) rfl
  · refine ite_f c2 (by kernel_rfl) ?_
    refine ends_skip ?_
    change EndsI _ _ _ _ _ _
    refine seq_in ?_
    refine seq_ops [] [] [(2, .c (.pk 2 0)), (3, .c (.pk 3 0)), (14, .c (.bool (p0.Turn != p1.Turn)))] [(2, .var [.int .i64 p0.Side, .int .i64 p0.Turn, .int .i64 p0.Weather, dat 1 eI zI p0.Seen, dat 4 eTUnit zTUnit p0.Own, dat 4 eTUnit zTUnit p0.Enemies] false), (3, .var [.int .i64 p1.Side, .int .i64 p1.Turn, .int .i64 p1.Weather, dat 1 eI zI p1.Seen, dat 4 eTUnit zTUnit p1.Own, dat 4 eTUnit zTUnit p1.Enemies] false)] (fun t => t) (by kernel_rfl) ?_
    rcases ofCond H with ⟨c4, H⟩ | ⟨c4, H⟩
    · refine ite_t c4 (by kernel_rfl) ?_
      refine seq_ops [] [] [(4, .c (.bool false))] [] (fun t => t) (by kernel_rfl) ?_
      refine ends_ret ?_
      obtain rfl := Option.some.inj H
      exact And.intro (.inl rfl) rfl
    · refine ite_f c4 (by kernel_rfl) ?_
      refine ends_skip ?_
      change EndsI _ _ _ _ _ _
      refine seq_in ?_
      refine seq_ops [] [] [(2, .c (.pk 2 0)), (3, .c (.pk 3 0)), (19, .c (.bool (p0.Weather != p1.Weather)))] [(2, .var [.int .i64 p0.Side, .int .i64 p0.Turn, .int .i64 p0.Weather, dat 1 eI zI p0.Seen, dat 4 eTUnit zTUnit p0.Own, dat 4 eTUnit zTUnit p0.Enemies] false), (3, .var [.int .i64 p1.Side, .int .i64 p1.Turn, .int .i64 p1.Weather, dat 1 eI zI p1.Seen, dat 4 eTUnit zTUnit p1.Own, dat 4 eTUnit zTUnit p1.Enemies] false)] (fun t => t) (by kernel_rfl) ?_
      rcases ofCond H with ⟨c6, H⟩ | ⟨c6, H⟩
      · refine ite_t c6 (by kernel_rfl) ?_
        refine seq_ops [] [] [(4, .c (.bool false))] [] (fun t => t) (by kernel_rfl) ?_
        refine ends_ret ?_
        obtain rfl := Option.some.inj H
        exact And.intro (.inl rfl) rfl
      · refine ite_f c6 (by kernel_rfl) ?_
        refine ends_skip ?_
        change EndsI _ _ _ _ _ _
        refine seq_in ?_
        obtain ⟨v10, h11, H⟩ := ofBind H
        refine seq_ops [.res (.c (.bool v10))] [] [(2, .c (.pk 2 0)), (3, .c (.pk 3 0)), (25, .c (.bool (!v10)))] [(2, .var [.int .i64 p0.Side, .int .i64 p0.Turn, .int .i64 p0.Weather, dat 1 eI zI p0.Seen, dat 4 eTUnit zTUnit p0.Own, dat 4 eTUnit zTUnit p0.Enemies] false), (3, .var [.int .i64 p1.Side, .int .i64 p1.Turn, .int .i64 p1.Weather, dat 1 eI zI p1.Seen, dat 4 eTUnit zTUnit p1.Own, dat 4 eTUnit zTUnit p1.Enemies] false)] (fun t => And.intro (l_eqIntS_ok p0.Seen p1.Seen v10 h11) (t)) (by kernel_rfl) ?_
        rcases ofCond H with ⟨c12, H⟩ | ⟨c12, H⟩
        · refine ite_t c12 (by kernel_rfl) ?_
          refine seq_ops [] [] [(4, .c (.bool false))] [] (fun t => t) (by kernel_rfl) ?_
          refine ends_ret ?_
          obtain rfl := Option.some.inj H
          exact And.intro (.inl rfl) rfl
        · refine ite_f c12 (by kernel_rfl) ?_
          refine ends_skip ?_
          change EndsI _ _ _ _ _ _
          refine seq_in ?_
          obtain ⟨v16, h17, H⟩ := ofBind H
          refine seq_ops [.res (.c (.bool v16))] [] [(2, .c (.pk 2 0)), (3, .c (.pk 3 0)), (31, .c (.bool (!v16)))] [(2, .var [.int .i64 p0.Side, .int .i64 p0.Turn, .int .i64 p0.Weather, dat 1 eI zI p0.Seen, dat 4 eTUnit zTUnit p0.Own, dat 4 eTUnit zTUnit p0.Enemies] false), (3, .var [.int .i64 p1.Side, .int .i64 p1.Turn, .int .i64 p1.Weather, dat 1 eI zI p1.Seen, dat 4 eTUnit zTUnit p1.Own, dat 4 eTUnit zTUnit p1.Enemies] false)] (fun t => And.intro (l_eqUnitS_ok p0.Own p1.Own v16 h17) (t)) (by kernel_rfl) ?_
          rcases ofCond H with ⟨c18, H⟩ | ⟨c18, H⟩
          · refine ite_t c18 (by kernel_rfl) ?_
            refine seq_ops [] [] [(4, .c (.bool false))] [] (fun t => t) (by kernel_rfl) ?_
            refine ends_ret ?_
            obtain rfl := Option.some.inj H
            exact And.intro (.inl rfl) rfl
          · refine ite_f c18 (by kernel_rfl) ?_
            refine ends_skip ?_
            change EndsI _ _ _ _ _ _
            refine seq_in ?_
            obtain ⟨v19, h20, H⟩ := ofBind H
            refine seq_ops [.res (.c (.bool v19))] [] [(37, .c (.bool (!v19)))] [] (fun t => And.intro (l_eqUnitS_ok p0.Enemies p1.Enemies v19 h20) (t)) (by kernel_rfl) ?_
            rcases ofCond H with ⟨c21, H⟩ | ⟨c21, H⟩
            · refine ite_t c21 (by kernel_rfl) ?_
              refine seq_ops [] [] [(4, .c (.bool false))] [] (fun t => t) (by kernel_rfl) ?_
              refine ends_ret ?_
              obtain rfl := Option.some.inj H
              exact And.intro (.inl rfl) rfl
            · refine ite_f c21 (by kernel_rfl) ?_
              refine ends_skip ?_
              change EndsI _ _ _ _ _ _
              refine seq_ops [] [] [(4, .c (.bool true))] [] (fun t => t) (by kernel_rfl) ?_
              refine ends_ret ?_
              obtain rfl := Option.some.inj H
              exact And.intro (.inl rfl) rfl

def l_FnExactSameView_ir : S :=
 (.seq (.ops [⟨some 2, .box 6 (.t 0), none⟩, ⟨some 3, .box 6 (.t 1), none⟩, ⟨some 4, .mv (.v (.bool false)), none⟩])
 (.seq (.ops [⟨some 5, .mv (.v (.int .i64 1048576)), none⟩])
 (.seq (.ops [⟨some 10, .load 6 true (.t 2), none⟩, ⟨some 11, .mv (.t 5), none⟩, ⟨some 12, .call 24 [.t 10, .t 11], none⟩, ⟨some 5, .mv (.t 12), none⟩])
 (.seq (.seq (.ops [⟨some 13, .mv (.t 5), none⟩, ⟨some 14, .bin .lss (.t 13) (.v (.int .i64 0)), none⟩])
 (.ite (.t 14) (.seq (.ops [⟨some 4, .mv (.v (.bool true)), none⟩])
  .ret)
 .skip))
 (.seq (.ops [⟨some 15, .load 6 true (.t 3), none⟩, ⟨some 16, .mv (.t 5), none⟩, ⟨some 17, .call 24 [.t 15, .t 16], none⟩, ⟨some 5, .mv (.t 17), none⟩])
 (.seq (.seq (.ops [⟨some 18, .mv (.t 5), none⟩, ⟨some 19, .bin .lss (.t 18) (.v (.int .i64 0)), none⟩])
 (.ite (.t 19) (.seq (.ops [⟨some 4, .mv (.v (.bool true)), none⟩])
  .ret)
 .skip))
 (.seq (.draw 6 [⟨some 20, .load 6 true (.t 2), none⟩, ⟨some 21, .call 26 [.t 20], none⟩, ⟨some 22, .load 6 true (.t 3), none⟩, ⟨some 23, .call 26 [.t 22], none⟩, ⟨some 24, .call 25 [.t 21, .t 23], none⟩, ⟨some 6, .mv (.t 24), none⟩])
 (.seq (.ops [⟨some 25, .load 6 true (.t 2), none⟩, ⟨some 26, .call 26 [.t 25], none⟩, ⟨some 7, .alloc [.int .i64 0, .int .i64 0, .int .i64 0, .nil, .nil, .nil], none⟩, ⟨none, .store 6 (.t 7) (.t 26), none⟩])
 (.seq (.ops [⟨some 27, .load 6 true (.t 3), none⟩, ⟨some 28, .call 26 [.t 27], none⟩, ⟨some 8, .alloc [.int .i64 0, .int .i64 0, .int .i64 0, .nil, .nil, .nil], none⟩, ⟨none, .store 6 (.t 8) (.t 28), none⟩])
 (.seq (.ops [⟨some 29, .load 6 true (.t 7), none⟩, ⟨some 30, .load 6 true (.t 8), none⟩, ⟨some 31, .call 27 [.t 29, .t 30], none⟩, ⟨some 9, .mv (.t 31), none⟩])
 (.seq (.seq (.ops [⟨some 32, .mv (.t 9), none⟩, ⟨some 33, .mv (.t 6), none⟩, ⟨some 34, .bqe true (.t 32) (.t 33), none⟩])
 (.ite (.t 34) (.seq (.ops [⟨some 4, .mv (.v (.bool false)), none⟩])
  .ret)
 .skip))
 (.seq (.seq (.draw 5 [⟨some 35, .load 6 true (.t 7), none⟩, ⟨some 36, .load 6 true (.t 2), none⟩, ⟨some 37, .call 26 [.t 36], none⟩, ⟨some 38, .call 28 [.t 35, .t 37], none⟩, ⟨some 39, .not (.t 38), none⟩])
 (.ite (.t 39) (.seq (.ops [⟨some 4, .mv (.v (.bool false)), none⟩])
  .ret)
 .skip))
 (.seq (.seq (.draw 5 [⟨some 40, .load 6 true (.t 8), none⟩, ⟨some 41, .load 6 true (.t 3), none⟩, ⟨some 42, .call 26 [.t 41], none⟩, ⟨some 43, .call 28 [.t 40, .t 42], none⟩, ⟨some 44, .not (.t 43), none⟩])
 (.ite (.t 44) (.seq (.ops [⟨some 4, .mv (.v (.bool false)), none⟩])
  .ret)
 .skip))
 (.seq (.ops [⟨some 4, .mv (.v (.bool true)), none⟩])
 .ret))))))))))))))
noncomputable def X.l_FnExactSameView (p0 : TView) (p1 : TView) : Option Bool :=
  ((X.l_szView p0 1048576).bind fun v1 => (bif (decide (v1 < 0)) then some true else ((X.l_szView p1 v1).bind fun v5 => (bif (decide (v5 < 0)) then some true else ((X.l_toView p0).bind fun v9 => ((X.l_toView p1).bind fun v11 => ((X.s_SameView v9 v11).bind fun v13 => ((X.l_toView p0).bind fun v15 => ((X.l_toView p1).bind fun v17 => ((X.i_SameView v15 v17).bind fun v19 => (bif (!(v19 == v13)) then some false else ((X.l_toView p0).bind fun v28 => ((X.l_eqView v15 v28).bind fun v30 => (bif (!v30) then some false else ((X.l_toView p1).bind fun v33 => ((X.l_eqView v17 v33).bind fun v35 => (bif (!v35) then some false else some true)))))))))))))))))
theorem l_FnExactSameView_ok (p0 : TView) (p1 : TView) (r : Bool) (H : X.l_FnExactSameView p0 p1 = some r) : FnOk Try.prog gl 7 [.agg (eTView p0), .agg (eTView p1)] (.c (.bool r)) := by
  unfold X.l_FnExactSameView at H
  refine fn_in (fn := Try.f7) (ir := l_FnExactSameView_ir) (s1 := lit [(4, .c (.bool r))] []) Try.func7 (by kernel_rfl) (by kernel_rfl) (by kernel_rfl) (by kernel_rfl) (by kernel_rfl) ?_
  refine seq_ops [] [] [(2, .c (.pk 2 0)), (3, .c (.pk 3 0))] [(2, .var [.int .i64 p0.Side, .int .i64 p0.Turn, .int .i64 p0.Weather, dat 1 eI zI p0.Seen, dat 4 eTUnit zTUnit p0.Own, dat 4 eTUnit zTUnit p0.Enemies] false), (3, .var [.int .i64 p1.Side, .int .i64 p1.Turn, .int .i64 p1.Weather, dat 1 eI zI p1.Seen, dat 4 eTUnit zTUnit p1.Own, dat 4 eTUnit zTUnit p1.Enemies] false)] (fun t => t) (by kernel_rfl) ?_
  refine seq_ops [] [] [(2, .c (.pk 2 0)), (3, .c (.pk 3 0)), (5, .c (.int .i64 1048576))] [(2, .var [.int .i64 p0.Side, .int .i64 p0.Turn, .int .i64 p0.Weather, dat 1 eI zI p0.Seen, dat 4 eTUnit zTUnit p0.Own, dat 4 eTUnit zTUnit p0.Enemies] false), (3, .var [.int .i64 p1.Side, .int .i64 p1.Turn, .int .i64 p1.Weather, dat 1 eI zI p1.Seen, dat 4 eTUnit zTUnit p1.Own, dat 4 eTUnit zTUnit p1.Enemies] false)] (fun t => t) (by kernel_rfl) ?_
  obtain ⟨v1, h2, H⟩ := ofBind H
  refine seq_ops [.res (.c (.int .i64 v1))] [] [(2, .c (.pk 2 0)), (3, .c (.pk 3 0)), (5, .c (.int .i64 v1))] [(2, .var [.int .i64 p0.Side, .int .i64 p0.Turn, .int .i64 p0.Weather, dat 1 eI zI p0.Seen, dat 4 eTUnit zTUnit p0.Own, dat 4 eTUnit zTUnit p0.Enemies] false), (3, .var [.int .i64 p1.Side, .int .i64 p1.Turn, .int .i64 p1.Weather, dat 1 eI zI p1.Seen, dat 4 eTUnit zTUnit p1.Own, dat 4 eTUnit zTUnit p1.Enemies] false)] (fun t => And.intro (l_szView_ok p0 1048576 v1 h2) (t)) (by kernel_rfl) ?_
  refine seq_in ?_
  refine seq_ops [] [] [(2, .c (.pk 2 0)), (3, .c (.pk 3 0)), (5, .c (.int .i64 v1)), (14, .c (.bool (decide (v1 < 0))))] [(2, .var [.int .i64 p0.Side, .int .i64 p0.Turn, .int .i64 p0.Weather, dat 1 eI zI p0.Seen, dat 4 eTUnit zTUnit p0.Own, dat 4 eTUnit zTUnit p0.Enemies] false), (3, .var [.int .i64 p1.Side, .int .i64 p1.Turn, .int .i64 p1.Weather, dat 1 eI zI p1.Seen, dat 4 eTUnit zTUnit p1.Own, dat 4 eTUnit zTUnit p1.Enemies] false)] (fun t => t) (by kernel_rfl) ?_
  rcases ofCond H with ⟨c4, H⟩ | ⟨c4, H⟩
  · refine ite_t c4 (by kernel_rfl) ?_
    refine seq_ops [] [] [(4, .c (.bool true))] [] (fun t => t) (by kernel_rfl) ?_
    refine ends_ret ?_
    obtain rfl := Option.some.inj H
    exact And.intro (.inl rfl) rfl
  · refine ite_f c4 (by kernel_rfl) ?_
    refine ends_skip ?_
    change EndsI _ _ _ _ _ _
    obtain ⟨v5, h6, H⟩ := ofBind H
    refine seq_ops [.res (.c (.int .i64 v5))] [] [(2, .c (.pk 2 0)), (3, .c (.pk 3 0)), (5, .c (.int .i64 v5))] [(2, .var [.int .i64 p0.Side, .int .i64 p0.Turn, .int .i64 p0.Weather, dat 1 eI zI p0.Seen, dat 4 eTUnit zTUnit p0.Own, dat 4 eTUnit zTUnit p0.Enemies] false), (3, .var [.int .i64 p1.Side, .int .i64 p1.Turn, .int .i64 p1.Weather, dat 1 eI zI p1.Seen, dat 4 eTUnit zTUnit p1.Own, dat 4 eTUnit zTUnit p1.Enemies] false)] (fun t => And.intro (l_szView_ok p1 v1 v5 h6) (t)) (by kernel_rfl) ?_
    refine seq_in ?_
    refine seq_ops [] [] [(2, .c (.pk 2 0)), (3, .c (.pk 3 0)), (19, .c (.bool (decide (v5 < 0))))] [(2, .var [.int .i64 p0.Side, .int .i64 p0.Turn, .int .i64 p0.Weather, dat 1 eI zI p0.Seen, dat 4 eTUnit zTUnit p0.Own, dat 4 eTUnit zTUnit p0.Enemies] false), (3, .var [.int .i64 p1.Side, .int .i64 p1.Turn, .int .i64 p1.Weather, dat 1 eI zI p1.Seen, dat 4 eTUnit zTUnit p1.Own, dat 4 eTUnit zTUnit p1.Enemies] false)] (fun t => t) (by kernel_rfl) ?_
    rcases ofCond H with ⟨c8, H⟩ | ⟨c8, H⟩
    · refine ite_t c8 (by kernel_rfl) ?_
      refine seq_ops [] [] [(4, .c (.bool true))] [] (fun t => t) (by kernel_rfl) ?_
      refine ends_ret ?_
      obtain rfl := Option.some.inj H
      exact And.intro (.inl rfl) rfl
    · refine ite_f c8 (by kernel_rfl) ?_
      refine ends_skip ?_
      change EndsI _ _ _ _ _ _
      obtain ⟨v9, h10, H⟩ := ofBind H
      obtain ⟨v11, h12, H⟩ := ofBind H
      obtain ⟨v13, h14, H⟩ := ofBind H
      refine seq_draw [.res (.agg (eTView v9)), .res (.agg (eTView v11)), .res (.c (.bool v13))] [] [(2, .c (.pk 2 0)), (3, .c (.pk 3 0)), (6, .c (.bool v13))] [(2, .var [.int .i64 p0.Side, .int .i64 p0.Turn, .int .i64 p0.Weather, dat 1 eI zI p0.Seen, dat 4 eTUnit zTUnit p0.Own, dat 4 eTUnit zTUnit p0.Enemies] false), (3, .var [.int .i64 p1.Side, .int .i64 p1.Turn, .int .i64 p1.Weather, dat 1 eI zI p1.Seen, dat 4 eTUnit zTUnit p1.Own, dat 4 eTUnit zTUnit p1.Enemies] false)] (fun t => And.intro (l_toView_ok p0 v9 h10) (And.intro (rfl : ([] : List Nat) = []) (And.intro (rfl : ([] : List Nat) = []) (And.intro (l_toView_ok p1 v11 h12) (And.intro (rfl : ([] : List Nat) = []) (And.intro (rfl : ([] : List Nat) = []) (And.intro (s_SameView_ok v9 v11 v13 h14) (And.intro trivial (And.intro (rfl : ([] : List Nat) = []) (t)))))))))) (by kernel_rfl) ?_
      obtain ⟨v15, h16, H⟩ := ofBind H
      refine seq_ops [.res (.agg (eTView v15))] [] [(2, .c (.pk 2 0)), (3, .c (.pk 3 0)), (6, .c (.bool v13)), (7, .c (.pk 7 0))] [(2, .var [.int .i64 p0.Side, .int .i64 p0.Turn, .int .i64 p0.Weather, dat 1 eI zI p0.Seen, dat 4 eTUnit zTUnit p0.Own, dat 4 eTUnit zTUnit p0.Enemies] false), (3, .var [.int .i64 p1.Side, .int .i64 p1.Turn, .int .i64 p1.Weather, dat 1 eI zI p1.Seen, dat 4 eTUnit zTUnit p1.Own, dat 4 eTUnit zTUnit p1.Enemies] false), (7, .var [.int .i64 v15.Side, .int .i64 v15.Turn, .int .i64 v15.Weather, dat 1 eI zI v15.Seen, dat 4 eTUnit zTUnit v15.Own, dat 4 eTUnit zTUnit v15.Enemies] false)] (fun t => And.intro (l_toView_ok p0 v15 h16) (t)) (by kernel_rfl) ?_
      obtain ⟨v17, h18, H⟩ := ofBind H
      refine seq_ops [.res (.agg (eTView v17))] [] [(2, .c (.pk 2 0)), (3, .c (.pk 3 0)), (6, .c (.bool v13)), (7, .c (.pk 7 0)), (8, .c (.pk 8 0))] [(2, .var [.int .i64 p0.Side, .int .i64 p0.Turn, .int .i64 p0.Weather, dat 1 eI zI p0.Seen, dat 4 eTUnit zTUnit p0.Own, dat 4 eTUnit zTUnit p0.Enemies] false), (3, .var [.int .i64 p1.Side, .int .i64 p1.Turn, .int .i64 p1.Weather, dat 1 eI zI p1.Seen, dat 4 eTUnit zTUnit p1.Own, dat 4 eTUnit zTUnit p1.Enemies] false), (7, .var [.int .i64 v15.Side, .int .i64 v15.Turn, .int .i64 v15.Weather, dat 1 eI zI v15.Seen, dat 4 eTUnit zTUnit v15.Own, dat 4 eTUnit zTUnit v15.Enemies] false), (8, .var [.int .i64 v17.Side, .int .i64 v17.Turn, .int .i64 v17.Weather, dat 1 eI zI v17.Seen, dat 4 eTUnit zTUnit v17.Own, dat 4 eTUnit zTUnit v17.Enemies] false)] (fun t => And.intro (l_toView_ok p1 v17 h18) (t)) (by kernel_rfl) ?_
      obtain ⟨v19, h20, H⟩ := ofBind H
      refine seq_ops [.res (.c (.bool v19))] [] [(2, .c (.pk 2 0)), (3, .c (.pk 3 0)), (6, .c (.bool v13)), (7, .c (.pk 7 0)), (8, .c (.pk 8 0)), (9, .c (.bool v19))] [(2, .var [.int .i64 p0.Side, .int .i64 p0.Turn, .int .i64 p0.Weather, dat 1 eI zI p0.Seen, dat 4 eTUnit zTUnit p0.Own, dat 4 eTUnit zTUnit p0.Enemies] false), (3, .var [.int .i64 p1.Side, .int .i64 p1.Turn, .int .i64 p1.Weather, dat 1 eI zI p1.Seen, dat 4 eTUnit zTUnit p1.Own, dat 4 eTUnit zTUnit p1.Enemies] false), (7, .var [.int .i64 v15.Side, .int .i64 v15.Turn, .int .i64 v15.Weather, dat 1 eI zI v15.Seen, dat 4 eTUnit zTUnit v15.Own, dat 4 eTUnit zTUnit v15.Enemies] false), (8, .var [.int .i64 v17.Side, .int .i64 v17.Turn, .int .i64 v17.Weather, dat 1 eI zI v17.Seen, dat 4 eTUnit zTUnit v17.Own, dat 4 eTUnit zTUnit v17.Enemies] false)] (fun t => And.intro (i_SameView_ok v15 v17 v19 h20) (t)) (by kernel_rfl) ?_
      refine seq_in ?_
      refine seq_ops [] [] [(2, .c (.pk 2 0)), (3, .c (.pk 3 0)), (7, .c (.pk 7 0)), (8, .c (.pk 8 0)), (34, .c (.bool (!(v19 == v13))))] [(2, .var [.int .i64 p0.Side, .int .i64 p0.Turn, .int .i64 p0.Weather, dat 1 eI zI p0.Seen, dat 4 eTUnit zTUnit p0.Own, dat 4 eTUnit zTUnit p0.Enemies] false), (3, .var [.int .i64 p1.Side, .int .i64 p1.Turn, .int .i64 p1.Weather, dat 1 eI zI p1.Seen, dat 4 eTUnit zTUnit p1.Own, dat 4 eTUnit zTUnit p1.Enemies] false), (7, .var [.int .i64 v15.Side, .int .i64 v15.Turn, .int .i64 v15.Weather, dat 1 eI zI v15.Seen, dat 4 eTUnit zTUnit v15.Own, dat 4 eTUnit zTUnit v15.Enemies] false), (8, .var [.int .i64 v17.Side, .int .i64 v17.Turn, .int .i64 v17.Weather, dat 1 eI zI v17.Seen, dat 4 eTUnit zTUnit v17.Own, dat 4 eTUnit zTUnit v17.Enemies] false)] (fun t => t) (by kernel_rfl) ?_
      rcases ofCond H with ⟨c22, H⟩ | ⟨c22, H⟩
      · refine ite_t c22 (by kernel_rfl) ?_
        refine seq_ops [] [] [(4, .c (.bool false))] [] (fun t => t) (by kernel_rfl) ?_
        refine ends_ret ?_
        obtain rfl := Option.some.inj H
        exact And.intro (.inl rfl) rfl
      · refine ite_f c22 (by kernel_rfl) ?_
        refine ends_skip ?_
        change EndsI _ _ _ _ _ _
        refine seq_in ?_
        obtain ⟨v28, h29, H⟩ := ofBind H
        obtain ⟨v30, h31, H⟩ := ofBind H
        refine seq_draw [.res (.agg (eTView v28)), .res (.c (.bool v30))] [] [(3, .c (.pk 3 0)), (8, .c (.pk 8 0)), (39, .c (.bool (!v30)))] [(3, .var [.int .i64 p1.Side, .int .i64 p1.Turn, .int .i64 p1.Weather, dat 1 eI zI p1.Seen, dat 4 eTUnit zTUnit p1.Own, dat 4 eTUnit zTUnit p1.Enemies] false), (8, .var [.int .i64 v17.Side, .int .i64 v17.Turn, .int .i64 v17.Weather, dat 1 eI zI v17.Seen, dat 4 eTUnit zTUnit v17.Own, dat 4 eTUnit zTUnit v17.Enemies] false)] (fun t => And.intro (l_toView_ok p0 v28 h29) (And.intro (rfl : ([] : List Nat) = []) (And.intro (rfl : ([] : List Nat) = []) (And.intro (l_eqView_ok v15 v28 v30 h31) (And.intro trivial (And.intro (rfl : ([] : List Nat) = []) (t))))))) (by kernel_rfl) ?_
        rcases ofCond H with ⟨c32, H⟩ | ⟨c32, H⟩
        · refine ite_t c32 (by kernel_rfl) ?_
          refine seq_ops [] [] [(4, .c (.bool false))] [] (fun t => t) (by kernel_rfl) ?_
          refine ends_ret ?_
          obtain rfl := Option.some.inj H
          exact And.intro (.inl rfl) rfl
        · refine ite_f c32 (by kernel_rfl) ?_
          refine ends_skip ?_
          change EndsI _ _ _ _ _ _
          refine seq_in ?_
          obtain ⟨v33, h34, H⟩ := ofBind H
          obtain ⟨v35, h36, H⟩ := ofBind H
          refine seq_draw [.res (.agg (eTView v33)), .res (.c (.bool v35))] [] [(44, .c (.bool (!v35)))] [] (fun t => And.intro (l_toView_ok p1 v33 h34) (And.intro (rfl : ([] : List Nat) = []) (And.intro (rfl : ([] : List Nat) = []) (And.intro (l_eqView_ok v17 v33 v35 h36) (And.intro trivial (And.intro (rfl : ([] : List Nat) = []) (t))))))) (by kernel_rfl) ?_
          rcases ofCond H with ⟨c37, H⟩ | ⟨c37, H⟩
          · refine ite_t c37 (by kernel_rfl) ?_
            refine seq_ops [] [] [(4, .c (.bool false))] [] (fun t => t) (by kernel_rfl) ?_
            refine ends_ret ?_
            obtain rfl := Option.some.inj H
            exact And.intro (.inl rfl) rfl
          · refine ite_f c37 (by kernel_rfl) ?_
            refine ends_skip ?_
            change EndsI _ _ _ _ _ _
            refine seq_ops [] [] [(4, .c (.bool true))] [] (fun t => t) (by kernel_rfl) ?_
            refine ends_ret ?_
            obtain rfl := Option.some.inj H
            exact And.intro (.inl rfl) rfl

end Go.Proofs.Ythlkfhblecipbaa.X0
