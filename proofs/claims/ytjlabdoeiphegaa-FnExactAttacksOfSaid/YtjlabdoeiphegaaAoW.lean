/- What each function that FnExactAttacksOf reaches computes; no condition. -/
import Derived.Test.YtjlabdoeiphegaaProg
import Derived.Test.YtjlabdoeiphegaaAmCore3
import Derived.Test.YtjlabdoeiphegaaAmCore5
set_option linter.unusedVariables false
set_option linter.unusedSimpArgs false
set_option maxRecDepth 100000
namespace Go.Proofs.Ytjlabdoeiphegaa.X0
open Go Go.RowKit Go.Proofs.Ytjlabdoeiphegaa.Ab Go.Proofs
def zI : Int := 0
def zB : Bool := false
def zS : List UInt8 := []
def eI (x : Int) : List AC := [.int .i64 x]
def eU (x : Int) : List AC := [.int .u8 x]
def eB (x : Bool) : List AC := [.bool x]
def eS (x : List UInt8) : List AC := [.str x]
def zLI : List Int := []
def eLI (xs : List Int) : List AC := [dat 1 eI zI xs]
theorem nLI : LeR [.nil] (eLI zLI) := And.intro (LeC.nil 1 _) trivial
structure TOrder where
 Unit : Int
 Path : (List Int)
 Attack : Int
def zTOrder : TOrder := ⟨zI, zLI, zI⟩
def eTOrder (x : TOrder) : List AC := [.int .i64 x.Unit, dat 1 eI zI x.Path, .int .i64 x.Attack]
def rTOrder (x : TOrder) : List AC := [.int .i64 x.Unit, .fr (dat 1 eI zI x.Path), .int .i64 x.Attack]
def eTOrderF (x : TOrder) : List AC := [.int .i64 x.Unit, .fr (dat 1 eI zI x.Path), .int .i64 x.Attack]
theorem nTOrderF : LeR [.int .i64 0, .nil, .int .i64 0] (eTOrderF zTOrder) := And.intro (LeC.refl _) (And.intro (LeC.nilfr 1 _) (And.intro (LeC.refl _) (trivial)))
theorem nTOrder : LeR [.int .i64 0, .nil, .int .i64 0] (eTOrder zTOrder) := And.intro (LeC.refl _) (And.intro (LeC.nil 1 _) (And.intro (LeC.refl _) (trivial)))
def zLTOrder : List TOrder := []
def eLTOrder (xs : List TOrder) : List AC := [dat 3 eTOrder zTOrder xs]
theorem nLTOrder : LeR [.nil] (eLTOrder zLTOrder) := And.intro (LeC.nil 3 _) trivial
structure TSheet where
 Side : Int
 Orders : (List TOrder)
def zTSheet : TSheet := ⟨zI, zLTOrder⟩
def eTSheet (x : TSheet) : List AC := [.int .i64 x.Side, dat 3 eTOrder zTOrder x.Orders]
theorem nTSheet : LeR [.int .i64 0, .nil] (eTSheet zTSheet) := And.intro (LeC.refl _) (And.intro (LeC.nil 3 _) (trivial))
structure TAttack where
 Unit : Int
 At : Int
def zTAttack : TAttack := ⟨zI, zI⟩
def eTAttack (x : TAttack) : List AC := [.int .i64 x.Unit, .int .i64 x.At]
def zLTAttack : List TAttack := []
def eLTAttack (xs : List TAttack) : List AC := [dat 2 eTAttack zTAttack xs]
theorem nLTAttack : LeR [.nil] (eLTAttack zLTAttack) := And.intro (LeC.nil 2 _) trivial
def zLLTOrder : List (List TOrder) := []
def eLLTOrder (xs : List (List TOrder)) : List AC := [dat 1 eLTOrder zLTOrder xs]
theorem nLLTOrder : LeR [.nil] (eLLTOrder zLLTOrder) := And.intro (LeC.nil 1 _) trivial
theorem shI (x : Int) : Shps (eI x) := .cons (.int _ _) .nil
theorem shU (x : Int) : Shps (eU x) := .cons (.int _ _) .nil
theorem shB (x : Bool) : Shps (eB x) := .cons (.bool _) .nil
theorem shS (x : List UInt8) : Shps (eS x) := .cons (.str _) .nil
theorem shLI (x : List Int) : Shps (eLI x) := (.cons (.dat shI) .nil)
theorem shTOrder (x : TOrder) : Shps (eTOrder x) := (.cons (.int _ _) (.cons (.dat shI) (.cons (.int _ _) .nil)))
theorem shLTOrder (x : List TOrder) : Shps (eLTOrder x) := (.cons (.dat shTOrder) .nil)
theorem shTSheet (x : TSheet) : Shps (eTSheet x) := (.cons (.int _ _) (.cons (.dat shTOrder) .nil))
theorem shTAttack (x : TAttack) : Shps (eTAttack x) := (.cons (.int _ _) (.cons (.int _ _) .nil))
theorem shLTAttack (x : List TAttack) : Shps (eLTAttack x) := (.cons (.dat shTAttack) .nil)
theorem shLLTOrder (x : List (List TOrder)) : Shps (eLLTOrder x) := (.cons (.dat shLTOrder) .nil)
def gl : Nat → Option (List AC) := fun _ => none
theorem glL : gl LAW = none := rfl
theorem glTs : ∀ g cs, gl g = some cs → glT gl g = some cs := glT_sub glL
theorem glTn : glT gl LAW ≠ none := by simp [glT]
theorem glTp : ∀ g cs, glT gl g = some cs → Shps cs := glT_shp fun g cs h => by
 unfold gl at h
 cases h
abbrev FK := FnOk Try.prog gl
def l_szIntS_ir : S :=
 (sq [o 4 (.mv (iv 0))]
 (sq [om 5 1, om 6 0, o 7 (.len (.t 6)), o 8 (.bin .sub (.t 5) (.t 7)), om 1 8]
 (.seq (sq [om 9 1, o 10 (.bin .lss (.t 9) (iv 0))]
 (.ite (.t 10) (sq [o 4 (.mv (.v (.int .i64 (-1))))]
  .ret)
 .skip))
 (sq [om 11 1, om 4 11]
 .ret))))
noncomputable def X.l_szIntS (p0 : (List Int)) (p1 : Int) : Option Int :=
 (bif (decide ((W (p1 - (p0.length : Int))) < 0)) then some (-1) else some (W (p1 - (p0.length : Int))))
theorem l_szIntS_ok (p0 : (List Int)) (p1 : Int) (r : Int) (H : X.l_szIntS p0 p1 = some r) : FK 25 [.c (dat 1 eI zI p0), cI p1] (cI r) := by
 unfold X.l_szIntS at H
 refine fi Try.f25 l_szIntS_ir [(4, cI r)] [] glL Try.func25 ?_
 refine sn [] [] [] [] [] id ?_
 refine so [] [] [(1, cI (W (p1 - (p0.length : Int))))] [] (fun t => lI p0 (t)) ?_
 refine seq_in ?_
 refine sn [] [] [(10, cB (decide ((W (p1 - (p0.length : Int))) < 0)))] [] [] id ?_
 rcases oC H with ⟨c1, H⟩ | ⟨c1, H⟩
 ·refine it c1 ?_
  refine so [] [] [(4, cI (-1))] [] id ?_
  cases H
  exact er
 ·refine jf c1 ?_
  refine sk ?_
  refine so [] [] [(4, cI (W (p1 - (p0.length : Int))))] [] id ?_
  cases H
  exact er
def l_szOrder_ir : S :=
 (sq [o 2 (.box 3 (.t 0)), o 4 (.mv (iv 0))]
 (sq [oa 5 1 2, ol 6 5, om 7 1, o 8 (.call 25 [.t 6, .t 7]), om 1 8]
 (.seq (sq [om 9 1, o 10 (.bin .lss (.t 9) (iv 0))]
 (.ite (.t 10) (sq [o 4 (.mv (.v (.int .i64 (-1))))]
  .ret)
 .skip))
 (sq [om 11 1, om 4 11]
 .ret))))
noncomputable def X.l_szOrder (p0 : TOrder) (p1 : Int) : Option Int :=
 ((X.l_szIntS p0.Path p1).bind fun v1 => (bif (decide (v1 < 0)) then some (-1) else some v1))
theorem l_szOrder_ok (p0 : TOrder) (p1 : Int) (r : Int) (H : X.l_szOrder p0 p1 = some r) : FK 20 [.agg (eTOrder p0), cI p1] (cI r) := by
 unfold X.l_szOrder at H
 refine fi Try.f20 l_szOrder_ir [(4, cI r)] [] glL Try.func20 ?_
 refine sn [] [] [(2, pk 2)] [] [(2, va (eTOrder p0))] id ?_
 obtain ⟨v1, h2, H⟩ := oB H
 refine so [.res (cI v1)] [] [(1, cI v1)] [] (aI (l_szIntS_ok p0.Path p1 v1 h2)) ?_
 refine seq_in ?_
 refine sn [] [] [(10, cB (decide (v1 < 0)))] [] [] id ?_
 rcases oC H with ⟨c3, H⟩ | ⟨c3, H⟩
 ·refine it c3 ?_
  refine so [] [] [(4, cI (-1))] [] id ?_
  cases H
  exact er
 ·refine jf c3 ?_
  refine sk ?_
  refine so [] [] [(4, cI v1)] [] id ?_
  cases H
  exact er
def l_szOrderS_ir : S :=
 (sq [o 4 (.mv (iv 0))]
 (sq [om 6 1, om 7 0, o 8 (.len (.t 7)), o 9 (.bin .sub (.t 6) (.t 8)), om 1 9]
 (.seq (sq [om 10 1, o 11 (.bin .lss (.t 10) (iv 0))]
 (.ite (.t 11) (sq [o 4 (.mv (.v (.int .i64 (-1))))]
  .ret)
 .skip))
 (.seq (sq [o 5 (.mv (iv 0))]
 (.blk 0 (.loop (.seq (sq [om 12 5, om 13 0, o 14 (.len (.t 13)), o 15 (.bin .lss (.t 12) (.t 14))]
   (.ite (.t 15) .skip
   (.exit 0)))
   (.seq (.blk 1 (sq [om 18 0, om 19 5, o 20 (.iad 3 (.t 18) (.t 19)), o 21 (.load 3 true (.t 20)), om 22 1, o 23 (.call 20 [.t 21, .t 22]), om 1 23]
    (sq [om 24 1, o 25 (.bin .lss (.t 24) (iv 0))]
    (.ite (.t 25) (sq [o 4 (.mv (.v (.int .i64 (-1))))]
     .ret)
    .skip))))
   (.ops [om 16 5, o 17 (.bin .add (.t 16) (iv 1)), om 5 17]))))))
 (sq [om 26 1, om 4 26]
 .ret)))))
noncomputable def X.l_szOrderS (p0 : (List TOrder)) (p1 : Int) : Option Int :=
 (bif (decide ((W (p1 - (p0.length : Int))) < 0)) then some (-1) else ((loop (fun (x18 : (Int × Int)) => ((bif (decide (x18.2 < (p0.length : Int))) then ((at' zTOrder p0 x18.2).bind fun v21 => ((X.l_szOrder v21 x18.1).bind fun v23 => (bif (decide (v23 < 0)) then some (Sum.inr (Sum.inr (-1))) else some (Sum.inl (v23, (W (x18.2 + 1))))))) else some (Sum.inr (Sum.inl x18.1))) : Option ((Int × Int) ⊕ (Int ⊕ Int)))) ((W (p1 - (p0.length : Int))), 0)).bind fun y26 => (Sum.elim (fun (y28 : Int) => some y28) (fun (y29 : Int) => some y29) y26)))
theorem l_szOrderS_ok (p0 : (List TOrder)) (p1 : Int) (r : Int) (H : X.l_szOrderS p0 p1 = some r) : FK 13 [.c (dat 3 eTOrder zTOrder p0), cI p1] (cI r) := by
 unfold X.l_szOrderS at H
 refine fi Try.f13 l_szOrderS_ir [(4, cI r)] [] glL Try.func13 ?_
 refine sn [] [] [] [] [] id ?_
 refine so [] [] [(0, dc 3 eTOrder zTOrder p0), (1, cI (W (p1 - (p0.length : Int))))] [] (fun t => lI p0 (t)) ?_
 refine seq_in ?_
 refine sn [] [] [(11, cB (decide ((W (p1 - (p0.length : Int))) < 0)))] [] [] id ?_
 rcases oC H with ⟨c2, H⟩ | ⟨c2, H⟩
 ·refine it c2 ?_
  refine so [] [] [(4, cI (-1))] [] id ?_
  cases H
  exact er
 ·refine jf c2 ?_
  refine sk ?_
  refine seq_in ?_
  refine sn [] [] [(5, cI 0)] [] [] id ?_
  refine ends_blk ?_
  obtain ⟨y26, h27, H⟩ := oB H
  refine tl [] [(0, dc 3 eTOrder zTOrder p0), (1, cI (W (p1 - (p0.length : Int)))), (5, cI 0)] [] id ?_
  refine loop_in (fun (x : (Int × Int)) => lit [(0, dc 3 eTOrder zTOrder p0), (1, cI x.1), (5, cI x.2)] []) (orJ (fun (z : Int) => At (.exit 0) (lit [(1, cI z)] [])) (fun (z : Int) => At .ret (lit [(4, cI z)] []))) h27 ?_ ?_
  ·clear H h27
   intro x18 y0 H
   refine seq_in ?_
   refine sn [] [] [(15, cB (decide (x18.2 < (p0.length : Int))))] [] [] (fun t => lI p0 (t)) ?_
   rcases oC H with ⟨c20, H⟩ | ⟨c20, H⟩
   ·refine it c20 ?_
    refine sk ?_
    refine seq_in ?_
    refine ends_blk ?_
    obtain ⟨v21, h22, H⟩ := oB H
    obtain ⟨v23, h24, H⟩ := oB H
    refine so [.cs (eTOrder v21), .res (cI v23)] [] [(0, dc 3 eTOrder zTOrder p0), (1, cI v23), (5, cI x18.2)] [] (fun t => (a2 eTOrder h22 (aI (l_szOrder_ok v21 x18.1 v23 h24) (t)))) ?_
    refine sn [] [] [(25, cB (decide (v23 < 0)))] [] [] id ?_
    rcases oC H with ⟨c25, H⟩ | ⟨c25, H⟩
    ·refine it c25 ?_
     refine so [] [] [(4, cI (-1))] [] id ?_
     refine ends_ret ?_
     cases H
     exact rsr
    ·refine jf c25 ?_
     refine sk ?_
     refine oo [] [] [(0, dc 3 eTOrder zTOrder p0), (1, cI v23), (5, cI (W (x18.2 + 1)))] [] id ?_
     cases H
     exact rr
   ·refine jf c20 ?_
    refine tl [] [(1, cI x18.1)] [] id ?_
    refine ends_exit ?_
    cases H
    exact rse
  ·clear h27
   cases y26 with
   | inl y28 =>
    replace H := ofInl H
    rintro e s ⟨rfl, rfl⟩
    change EndsI _ _ _ _ _ _
    refine so [] [] [(4, cI y28)] [] id ?_
    cases H
    exact er
   | inr y29 =>
    replace H := ofInr H
    rintro e s ⟨rfl, rfl⟩
    cases H
    exact qr
def l_szSheet_ir : S :=
 (sq [o 2 (.box 2 (.t 0)), o 4 (.mv (iv 0))]
 (sq [oa 5 1 2, ol 6 5, om 7 1, o 8 (.call 13 [.t 6, .t 7]), om 1 8]
 (.seq (sq [om 9 1, o 10 (.bin .lss (.t 9) (iv 0))]
 (.ite (.t 10) (sq [o 4 (.mv (.v (.int .i64 (-1))))]
  .ret)
 .skip))
 (sq [om 11 1, om 4 11]
 .ret))))
noncomputable def X.l_szSheet (p0 : TSheet) (p1 : Int) : Option Int :=
 ((X.l_szOrderS p0.Orders p1).bind fun v1 => (bif (decide (v1 < 0)) then some (-1) else some v1))
theorem l_szSheet_ok (p0 : TSheet) (p1 : Int) (r : Int) (H : X.l_szSheet p0 p1 = some r) : FK 4 [.agg (eTSheet p0), cI p1] (cI r) := by
 unfold X.l_szSheet at H
 refine fi Try.f4 l_szSheet_ir [(4, cI r)] [] glL Try.func4 ?_
 refine sn [] [] [(2, pk 2)] [] [(2, va (eTSheet p0))] id ?_
 obtain ⟨v1, h2, H⟩ := oB H
 refine so [.res (cI v1)] [] [(1, cI v1)] [] (aI (l_szOrderS_ok p0.Orders p1 v1 h2)) ?_
 refine seq_in ?_
 refine sn [] [] [(10, cB (decide (v1 < 0)))] [] [] id ?_
 rcases oC H with ⟨c3, H⟩ | ⟨c3, H⟩
 ·refine it c3 ?_
  refine so [] [] [(4, cI (-1))] [] id ?_
  cases H
  exact er
 ·refine jf c3 ?_
  refine sk ?_
  refine so [] [] [(4, cI v1)] [] id ?_
  cases H
  exact er
def s_tAttacks_ir : S :=
 (sq [o 2 (.box 2 (.t 0)), o 3 (.box 2 (.t 1)), o 4 (.mv (.v (.nil)))]
 (sq [o 5 (.mv (.v (.nil)))]
 (.seq (.seq (.drw [(0, 1), (0, 2), (0, 4), (1, 4), (2, 4), (3, 4), (0, 5), (1, 5), (2, 5), (3, 5), (0, 8), (1, 8), (2, 8), (3, 8), (4, 8), (5, 8), (6, 8), (7, 8)] [o 8 (.bsl 3 []), oa 9 1 2, ol 10 9, o 11 (.app 3 40 (.t 8) (.t 10)), oa 12 1 3, ol 13 12, o 14 (.app 3 40 (.t 11) (.t 13)), o 15 (.len (.t 14)), o 16 (.mv (iv 0))])
 (.blk 0 (.loop (sq [o 17 (.bin .lss (.t 16) (.t 15))]
   (.seq (.ite (.t 17) .skip
   (.exit 0))
   (.seq (.blk 1 (sq [o 18 (.iad 3 (.t 14) (.t 16)), o 19 (.load 3 true (.t 18)), o 7 (.alloc [.int .i64 0, .nil, .int .i64 0]), os 3 7 19]
    (sq [oa 20 2 7, ol 21 20, o 22 (.bin .neq (.t 21) (.v (.int .i64 (-1))))]
    (.ite (.t 22) (.ops [om 23 5, oa 24 0 7, ol 25 24, oa 26 2 7, ol 27 26, o 28 (.build [.int .i64 0, .int .i64 0] [(0, 1, .t 25), (1, 1, .t 27)]), o 29 (.bsl 2 [.t 28]), o 30 (.app 2 16 (.t 23) (.t 29)), om 5 30])
    .skip))))
   (.ops [o 31 (.bin .add (.t 16) (iv 1)), om 16 31])))))))
 (sq [om 32 5, om 4 32]
 .ret))))
noncomputable def X.s_tAttacks (p0 : TSheet) (p1 : TSheet) : Option (List TAttack) :=
 (if (([] : List TOrder) ++ p0.Orders).length ≤ LIM then (if ((([] : List TOrder) ++ p0.Orders) ++ p1.Orders).length ≤ LIM then ((loop (fun (x14 : (Int × (List TAttack))) => ((bif (decide (x14.1 < (((([] : List TOrder) ++ p0.Orders) ++ p1.Orders).length : Int))) then (if 0 ≤ x14.1 ∧ x14.1 < (((([] : List TOrder) ++ p0.Orders) ++ p1.Orders).length : Int) then (bif ((((([] : List TOrder) ++ p0.Orders) ++ p1.Orders).getD x14.1.toNat zTOrder).Attack != (-1)) then (if (x14.2 ++ ([(TAttack.mk ((((([] : List TOrder) ++ p0.Orders) ++ p1.Orders).getD x14.1.toNat zTOrder).Unit) ((((([] : List TOrder) ++ p0.Orders) ++ p1.Orders).getD x14.1.toNat zTOrder).Attack))] : List TAttack)).length ≤ LIM then some (Sum.inl ((W (x14.1 + 1)), (x14.2 ++ ([(TAttack.mk ((((([] : List TOrder) ++ p0.Orders) ++ p1.Orders).getD x14.1.toNat zTOrder).Unit) ((((([] : List TOrder) ++ p0.Orders) ++ p1.Orders).getD x14.1.toNat zTOrder).Attack))] : List TAttack)))) else none) else some (Sum.inl ((W (x14.1 + 1)), x14.2))) else none) else some (Sum.inr x14.2)) : Option ((Int × (List TAttack)) ⊕ (List TAttack)))) (0, ([] : List TAttack))).bind fun y20 => some y20) else none) else none)
theorem s_tAttacks_ok (p0 : TSheet) (p1 : TSheet) (r : (List TAttack)) (H : X.s_tAttacks p0 p1 = some r) : FK 14 [.agg (eTSheet p0), .agg (eTSheet p1)] (.c (dat 2 eTAttack zTAttack r)) := by
 unfold X.s_tAttacks at H
 refine fi Try.f14 s_tAttacks_ir [(4, dc 2 eTAttack zTAttack r)] [] glL Try.func14 ?_
 refine so [] [] [(2, pk 2), (3, pk 3)] [(2, va (eTSheet p0)), (3, va (eTSheet p1))] id ?_
 refine sn [] [] [(5, .c (.nil))] [] [] id ?_
 refine seq_in ?_
 obtain ⟨g1, H⟩ := oI H
 obtain ⟨g2, H⟩ := oI H
 refine xn [.no, fh eTOrder zTOrder ([] : List TOrder), fh eTOrder zTOrder (([] : List TOrder) ++ p0.Orders), fh eTOrder zTOrder ((([] : List TOrder) ++ p0.Orders) ++ p1.Orders)] [] [(14, ow 14 3 ((([] : List TOrder) ++ p0.Orders) ++ p1.Orders)), (15, cL ((([] : List TOrder) ++ p0.Orders) ++ p1.Orders)), (16, cI 0)] [] [(14, ar 3 eTOrder zTOrder ((([] : List TOrder) ++ p0.Orders) ++ p1.Orders))] (fun t => aI (rfl : ([] : List TOrder).length = 0) (aI rT (aI (fF_lit eTOrder zTOrder ([] : List TOrder)) (aI (And.intro (Nat.le_refl (([] : List TOrder).length)) (And.intro (@List.length_append _ ([] : List TOrder) p0.Orders) g1)) (aI (fF_appL eTOrder zTOrder ([] : List TOrder) p0.Orders) (aI (fF_appR eTOrder zTOrder ([] : List TOrder) p0.Orders) (aI (And.intro (Nat.le_refl ((([] : List TOrder) ++ p0.Orders).length)) (And.intro (@List.length_append _ (([] : List TOrder) ++ p0.Orders) p1.Orders) g2)) (aI (fF_appL eTOrder zTOrder (([] : List TOrder) ++ p0.Orders) p1.Orders) (aI (fF_appR eTOrder zTOrder (([] : List TOrder) ++ p0.Orders) p1.Orders) (t)))))))))) ?_
 refine ends_blk ?_
 obtain ⟨y20, h21, H⟩ := oB H
 refine tl [.nlo 5 1001 2 (fF eTAttack zTAttack ([] : List TAttack))] [(5, ow 1001 2 ([] : List TAttack)), (14, ow 14 3 ((([] : List TOrder) ++ p0.Orders) ++ p1.Orders)), (15, cL ((([] : List TOrder) ++ p0.Orders) ++ p1.Orders)), (16, cI 0)] [(14, ar 3 eTOrder zTOrder ((([] : List TOrder) ++ p0.Orders) ++ p1.Orders)), (1001, ar 2 eTAttack zTAttack ([] : List TAttack))] (aI (by decide : 0 < 2)) ?_
 refine loop_in (fun (x : (Int × (List TAttack))) => lit [(5, ow 1001 2 x.2), (14, ow 14 3 ((([] : List TOrder) ++ p0.Orders) ++ p1.Orders)), (15, cL ((([] : List TOrder) ++ p0.Orders) ++ p1.Orders)), (16, cI x.1)] [(14, ar 3 eTOrder zTOrder ((([] : List TOrder) ++ p0.Orders) ++ p1.Orders)), (1001, ar 2 eTAttack zTAttack x.2)]) (fun (z : (List TAttack)) => At (.exit 0) (lit [(5, ow 1001 2 z)] [(1001, ar 2 eTAttack zTAttack z)])) h21 ?_ ?_
 ·clear H h21
  intro x14 y0 H
  refine sn [] [] [(17, cB (decide (x14.1 < (((([] : List TOrder) ++ p0.Orders) ++ p1.Orders).length : Int))))] [] [] id ?_
  refine seq_in ?_
  rcases oC H with ⟨c16, H⟩ | ⟨c16, H⟩
  ·refine it c16 ?_
   refine sk ?_
   refine seq_in ?_
   refine ends_blk ?_
   obtain ⟨g17, H⟩ := oI H
   refine sn [.no] [] [(7, pk 7)] [] [(7, .var [jI ((((([] : List TOrder) ++ p0.Orders) ++ p1.Orders).getD x14.1.toNat zTOrder).Unit), dat 1 eI zI ((((([] : List TOrder) ++ p0.Orders) ++ p1.Orders).getD x14.1.toNat zTOrder).Path), jI ((((([] : List TOrder) ++ p0.Orders) ++ p1.Orders).getD x14.1.toNat zTOrder).Attack)] false)] (fun t => aI g17 (aI (nat_lt g17) (t))) ?_
   refine sn [] [] [(22, cB ((((([] : List TOrder) ++ p0.Orders) ++ p1.Orders).getD x14.1.toNat zTOrder).Attack != (-1)))] [] [] id ?_
   rcases oC H with ⟨c18, H⟩ | ⟨c18, H⟩
   ·refine it c18 ?_
    obtain ⟨g19, H⟩ := oI H
    refine oo [fh eTAttack zTAttack ([(TAttack.mk ((((([] : List TOrder) ++ p0.Orders) ++ p1.Orders).getD x14.1.toNat zTOrder).Unit) ((((([] : List TOrder) ++ p0.Orders) ++ p1.Orders).getD x14.1.toNat zTOrder).Attack))] : List TAttack), fh eTAttack zTAttack (x14.2 ++ ([(TAttack.mk ((((([] : List TOrder) ++ p0.Orders) ++ p1.Orders).getD x14.1.toNat zTOrder).Unit) ((((([] : List TOrder) ++ p0.Orders) ++ p1.Orders).getD x14.1.toNat zTOrder).Attack))] : List TAttack))] [] [(5, ow 30 2 (x14.2 ++ ([(TAttack.mk ((((([] : List TOrder) ++ p0.Orders) ++ p1.Orders).getD x14.1.toNat zTOrder).Unit) ((((([] : List TOrder) ++ p0.Orders) ++ p1.Orders).getD x14.1.toNat zTOrder).Attack))] : List TAttack))), (14, ow 14 3 ((([] : List TOrder) ++ p0.Orders) ++ p1.Orders)), (15, cL ((([] : List TOrder) ++ p0.Orders) ++ p1.Orders)), (16, cI x14.1)] [(14, ar 3 eTOrder zTOrder ((([] : List TOrder) ++ p0.Orders) ++ p1.Orders)), (30, ar 2 eTAttack zTAttack (x14.2 ++ ([(TAttack.mk ((((([] : List TOrder) ++ p0.Orders) ++ p1.Orders).getD x14.1.toNat zTOrder).Unit) ((((([] : List TOrder) ++ p0.Orders) ++ p1.Orders).getD x14.1.toNat zTOrder).Attack))] : List TAttack)))] (fun t => aI (rfl : ([(TAttack.mk ((((([] : List TOrder) ++ p0.Orders) ++ p1.Orders).getD x14.1.toNat zTOrder).Unit) ((((([] : List TOrder) ++ p0.Orders) ++ p1.Orders).getD x14.1.toNat zTOrder).Attack))] : List TAttack).length = 1) (aI (fF_lit eTAttack zTAttack ([(TAttack.mk ((((([] : List TOrder) ++ p0.Orders) ++ p1.Orders).getD x14.1.toNat zTOrder).Unit) ((((([] : List TOrder) ++ p0.Orders) ++ p1.Orders).getD x14.1.toNat zTOrder).Attack))] : List TAttack)) (aI (Nat.le_refl (([(TAttack.mk ((((([] : List TOrder) ++ p0.Orders) ++ p1.Orders).getD x14.1.toNat zTOrder).Unit) ((((([] : List TOrder) ++ p0.Orders) ++ p1.Orders).getD x14.1.toNat zTOrder).Attack))] : List TAttack).length)) (aI (And.intro (Nat.le_refl x14.2.length) (And.intro (@List.length_append _ x14.2 ([(TAttack.mk ((((([] : List TOrder) ++ p0.Orders) ++ p1.Orders).getD x14.1.toNat zTOrder).Unit) ((((([] : List TOrder) ++ p0.Orders) ++ p1.Orders).getD x14.1.toNat zTOrder).Attack))] : List TAttack)) g19)) (aI (fF_appL eTAttack zTAttack x14.2 ([(TAttack.mk ((((([] : List TOrder) ++ p0.Orders) ++ p1.Orders).getD x14.1.toNat zTOrder).Unit) ((((([] : List TOrder) ++ p0.Orders) ++ p1.Orders).getD x14.1.toNat zTOrder).Attack))] : List TAttack)) (aI (fF_appR eTAttack zTAttack x14.2 ([(TAttack.mk ((((([] : List TOrder) ++ p0.Orders) ++ p1.Orders).getD x14.1.toNat zTOrder).Unit) ((((([] : List TOrder) ++ p0.Orders) ++ p1.Orders).getD x14.1.toNat zTOrder).Attack))] : List TAttack)) (t))))))) ?_
    change EndsI _ _ _ _ _ _
    refine oo [] [.ren 30 1001] [(5, ow 1001 2 (x14.2 ++ ([(TAttack.mk ((((([] : List TOrder) ++ p0.Orders) ++ p1.Orders).getD x14.1.toNat zTOrder).Unit) ((((([] : List TOrder) ++ p0.Orders) ++ p1.Orders).getD x14.1.toNat zTOrder).Attack))] : List TAttack))), (14, ow 14 3 ((([] : List TOrder) ++ p0.Orders) ++ p1.Orders)), (15, cL ((([] : List TOrder) ++ p0.Orders) ++ p1.Orders)), (16, cI (W (x14.1 + 1)))] [(14, ar 3 eTOrder zTOrder ((([] : List TOrder) ++ p0.Orders) ++ p1.Orders)), (1001, ar 2 eTAttack zTAttack (x14.2 ++ ([(TAttack.mk ((((([] : List TOrder) ++ p0.Orders) ++ p1.Orders).getD x14.1.toNat zTOrder).Unit) ((((([] : List TOrder) ++ p0.Orders) ++ p1.Orders).getD x14.1.toNat zTOrder).Attack))] : List TAttack)))] id ?_
    cases H
    exact rr
   ·refine jf c18 ?_
    refine sk ?_
    refine oo [] [] [(5, ow 1001 2 x14.2), (14, ow 14 3 ((([] : List TOrder) ++ p0.Orders) ++ p1.Orders)), (15, cL ((([] : List TOrder) ++ p0.Orders) ++ p1.Orders)), (16, cI (W (x14.1 + 1)))] [(14, ar 3 eTOrder zTOrder ((([] : List TOrder) ++ p0.Orders) ++ p1.Orders)), (1001, ar 2 eTAttack zTAttack x14.2)] id ?_
    cases H
    exact rr
  ·refine jf c16 ?_
   refine tl [] [(5, ow 1001 2 x14.2)] [(1001, ar 2 eTAttack zTAttack x14.2)] id ?_
   refine ends_exit ?_
   cases H
   exact rse
 ·clear h21
  rintro e s ⟨rfl, rfl⟩
  change EndsI _ _ _ _ _ _
  refine sn [] [] [(4, ow 1001 2 y20)] [] [] id ?_
  refine tl [.frz 4] [(4, dc 2 eTAttack zTAttack y20)] [] (aI (Nat.le_refl y20.length)) ?_
  cases H
  exact er
def s_AttacksOf_ir : S :=
 (sq [o 2 (.box 2 (.t 0)), o 3 (.box 2 (.t 1)), o 4 (.mv (.v (.nil)))]
 (sq [o 5 (.load 2 true (.t 2)), o 6 (.load 2 true (.t 3)), o 7 (.call 14 [.t 5, .t 6]), om 4 7]
 .ret))
noncomputable def X.s_AttacksOf (p0 : TSheet) (p1 : TSheet) : Option (List TAttack) :=
 ((X.s_tAttacks p0 p1).bind fun v1 => some v1)
theorem s_AttacksOf_ok (p0 : TSheet) (p1 : TSheet) (r : (List TAttack)) (H : X.s_AttacksOf p0 p1 = some r) : FK 5 [.agg (eTSheet p0), .agg (eTSheet p1)] (.c (dat 2 eTAttack zTAttack r)) := by
 unfold X.s_AttacksOf at H
 refine fi Try.f5 s_AttacksOf_ir [(4, dc 2 eTAttack zTAttack r)] [] glL Try.func5 ?_
 refine so [] [] [(2, pk 2), (3, pk 3)] [(2, va (eTSheet p0)), (3, va (eTSheet p1))] id ?_
 obtain ⟨v1, h2, H⟩ := oB H
 refine so [.res (dc 2 eTAttack zTAttack v1)] [] [(4, dc 2 eTAttack zTAttack v1)] [] (aI (s_tAttacks_ok p0 p1 v1 h2)) ?_
 cases H
 exact er
def l_toIntS_ir : S :=
 (sq [o 2 (.mv (.v (.nil)))]
 (sq [om 5 0, o 6 (.len (.t 5)), o 7 (.msl 1 8 [.int .i64 0] (.t 6)), om 3 7]
 (.seq (sq [o 4 (.mv (iv 0))]
 (.blk 0 (.loop (.seq (sq [om 8 4, om 9 0, o 10 (.len (.t 9)), o 11 (.bin .lss (.t 8) (.t 10))]
   (.ite (.t 11) .skip
   (.exit 0)))
   (.seq (.blk 1 (.ops [om 14 3, om 15 4, om 16 0, om 17 4, o 18 (.iad 1 (.t 16) (.t 17)), ol 19 18, o 20 (.iad 1 (.t 14) (.t 15)), os 1 20 19]))
   (.ops [om 12 4, o 13 (.bin .add (.t 12) (iv 1)), om 4 13]))))))
 (sq [om 21 3, om 2 21]
 .ret))))
noncomputable def X.l_toIntS (p0 : (List Int)) : Option (List Int) :=
 (if 0 ≤ (p0.length : Int) ∧ (p0.length : Int).toNat ≤ LIM then ((loop (fun (x13 : (Int × (List Int))) => ((bif (decide (x13.1 < (p0.length : Int))) then ((at' zI p0 x13.1).bind fun v16 => (if 0 ≤ x13.1 ∧ x13.1 < (x13.2.length : Int) then some (Sum.inl ((W (x13.1 + 1)), (x13.2.set x13.1.toNat v16))) else none)) else some (Sum.inr x13.2)) : Option ((Int × (List Int)) ⊕ (List Int)))) (0, (List.replicate (p0.length : Int).toNat zI))).bind fun y19 => some y19) else none)
theorem l_toIntS_F_ok (p0 : (List Int)) (r : (List Int)) (H : X.l_toIntS p0 = some r) : FK 26 [.c (dat 1 eI zI p0)] (.c (.fr (dat 1 eI zI r))) := by
 unfold X.l_toIntS at H
 refine fn_fr (fn := Try.f26) (ir := l_toIntS_ir) (s1 := lit [(2, ow 900000 1 r)] [(900000, ar 1 eI zI r)]) (res0 := ow 900000 1 r) glL Try.func26 (by kernel_rfl) (by kernel_rfl) (by kernel_rfl) (by kernel_rfl) (FrTo.own rfl (Nat.le_refl _) (fun i _ => ⟨rfl, rfl⟩)) ?_
 refine sn [] [] [] [] [] id ?_
 obtain ⟨g1, H⟩ := oI H
 refine sn [fh eI zI (List.replicate (p0.length : Int).toNat zI)] [] [(3, ow 7 1 (List.replicate (p0.length : Int).toNat zI))] [] [(7, ar 1 eI zI (List.replicate (p0.length : Int).toNat zI))] (fun t => lI p0 (aI (And.intro g1.1 (And.intro (List.length_replicate (n := (p0.length : Int).toNat) (a := zI)).symm (Nat.le_trans (Nat.le_of_eq List.length_replicate) g1.2 : (List.replicate (p0.length : Int).toNat zI).length ≤ LIM))) (aI (fF_rep eI zI zI (p0.length : Int).toNat) (t)))) ?_
 refine seq_in ?_
 refine sn [] [] [(4, cI 0)] [] [] id ?_
 refine ends_blk ?_
 obtain ⟨y19, h20, H⟩ := oB H
 refine tl [] [(0, dc 1 eI zI p0), (3, ow 7 1 (List.replicate (p0.length : Int).toNat zI)), (4, cI 0)] [(7, ar 1 eI zI (List.replicate (p0.length : Int).toNat zI))] id ?_
 refine loop_in (fun (x : (Int × (List Int))) => lit [(0, dc 1 eI zI p0), (3, ow 7 1 x.2), (4, cI x.1)] [(7, ar 1 eI zI x.2)]) (fun (z : (List Int)) => At (.exit 0) (lit [(3, ow 7 1 z)] [(7, ar 1 eI zI z)])) h20 ?_ ?_
 ·clear H h20
  intro x13 y0 H
  refine seq_in ?_
  refine sn [] [] [(11, cB (decide (x13.1 < (p0.length : Int))))] [] [] (fun t => lI p0 (t)) ?_
  rcases oC H with ⟨c15, H⟩ | ⟨c15, H⟩
  ·refine it c15 ?_
   refine sk ?_
   refine seq_in ?_
   refine ends_blk ?_
   obtain ⟨v16, h17, H⟩ := oB H
   obtain ⟨g18, H⟩ := oI H
   refine oo [.cs (eI v16), .no, .fn 0 (fF eI zI (x13.2.set x13.1.toNat v16))] [] [(0, dc 1 eI zI p0), (3, ow 7 1 x13.2), (4, cI x13.1)] [(7, .arr 1 x13.2.length (fF eI zI (x13.2.set x13.1.toNat v16)) false)] (fun t => (a2 eI h17 (aI g18 (aI rT (aI (nat_lt g18) (aI (by decide : 0 + 1 ≤ 1) (aI (fF_set eI zI x13.2 x13.1.toNat v16 (nat_lt g18) x13.2.length) (t)))))))) ?_
   change EndsI _ _ _ _ _ _
   refine oo [] [.rel 3 ((x13.2.set x13.1.toNat v16).length), .rep 7 ((x13.2.set x13.1.toNat v16).length) (fF eI zI (x13.2.set x13.1.toNat v16))] [(0, dc 1 eI zI p0), (3, ow 7 1 (x13.2.set x13.1.toNat v16)), (4, cI (W (x13.1 + 1)))] [(7, ar 1 eI zI (x13.2.set x13.1.toNat v16))] (fun t => aI (by simp : x13.2.length = (x13.2.set x13.1.toNat v16).length) (aI (Nat.le_of_eq (by simp : (x13.2.set x13.1.toNat v16).length = x13.2.length)) (aI (fun _ _ => rfl : ∀ i, i < (x13.2.set x13.1.toNat v16).length → (fF eI zI (x13.2.set x13.1.toNat v16)) i = (fF eI zI (x13.2.set x13.1.toNat v16)) i) (t)))) ?_
   cases H
   exact rr
  ·refine jf c15 ?_
   refine tl [] [(3, ow 7 1 x13.2)] [(7, ar 1 eI zI x13.2)] id ?_
   refine ends_exit ?_
   cases H
   exact rse
 ·clear h20
  rintro e s ⟨rfl, rfl⟩
  change EndsI _ _ _ _ _ _
  refine sn [] [] [(2, ow 7 1 y19)] [] [] id ?_
  refine tl [.ren 7 900000] [(2, ow 900000 1 y19)] [(900000, ar 1 eI zI y19)] id ?_
  cases H
  exact er
def l_toOrder_ir : S :=
 (sq [o 1 (.box 3 (.t 0)), o 2 (.alloc [.int .i64 0, .nil, .int .i64 0])]
 (sq [o 3 (.alloc [.int .i64 0, .nil, .int .i64 0])]
 (sq [oa 4 0 1, ol 5 4, oa 6 0 3, os 1 6 5]
 (sq [oa 7 1 1, ol 8 7, o 9 (.call 26 [.t 8]), oa 10 1 3, os 1 10 9]
 (sq [oa 11 2 1, ol 12 11, oa 13 2 3, os 1 13 12]
 (sq [o 14 (.load 3 true (.t 3)), os 3 2 14]
 .ret))))))
noncomputable def X.l_toOrder (p0 : TOrder) : Option TOrder :=
 ((X.l_toIntS p0.Path).bind fun v1 => some (TOrder.mk p0.Unit v1 p0.Attack))
theorem l_toOrder_F_ok (p0 : TOrder) (r : TOrder) (H : X.l_toOrder p0 = some r) : FK 21 [.agg (eTOrder p0)] (.agg (rTOrder r)) := by
 unfold X.l_toOrder at H
 refine fn_fr (fn := Try.f21) (ir := l_toOrder_ir) (s1 := lit [(2, pk 2)] [(2, va (rTOrder r))]) (res0 := .agg (rTOrder r)) glL Try.func21 (by kernel_rfl) (by kernel_rfl) (by kernel_rfl) (by kernel_rfl) ((And.intro ((.inl ⟨rfl, rfl⟩)) (And.intro ((.inl ⟨rfl, rfl⟩)) (And.intro ((.inl ⟨rfl, rfl⟩)) trivial)))) ?_
 refine so [] [] [(1, pk 1), (2, pk 2)] [(1, va (eTOrder p0)), (2, .var [jI 0, .nil, jI 0] false)] id ?_
 refine sn [] [] [(3, pk 3)] [] [(3, .var [jI 0, .nil, jI 0] false)] id ?_
 refine sn [] [] [] [3] [(3, .var [jI p0.Unit, .nil, jI 0] false)] id ?_
 obtain ⟨v1, h2, H⟩ := oB H
 refine sn [.res (.c (.fr (dat 1 eI zI v1)))] [] [] [3] [(3, .var [jI p0.Unit, .fr (dat 1 eI zI v1), jI 0] false)] (aI (l_toIntS_F_ok p0.Path v1 h2)) ?_
 refine sn [] [] [] [3] [(3, .var [jI p0.Unit, .fr (dat 1 eI zI v1), jI p0.Attack] false)] id ?_
 refine sn [] [] [] [1, 2] [(2, .var [jI p0.Unit, .fr (dat 1 eI zI v1), jI p0.Attack] false)] id ?_
 refine tl [] [(2, pk 2)] [(2, .var [jI p0.Unit, .fr (dat 1 eI zI v1), jI p0.Attack] false)] id ?_
 cases H
 exact er
def l_toOrderS_ir : S :=
 (sq [o 2 (.mv (.v (.nil)))]
 (sq [om 5 0, o 6 (.len (.t 5)), o 7 (.msl 3 40 [.int .i64 0, .nil, .int .i64 0] (.t 6)), om 3 7]
 (.seq (sq [o 4 (.mv (iv 0))]
 (.blk 0 (.loop (.seq (sq [om 8 4, om 9 0, o 10 (.len (.t 9)), o 11 (.bin .lss (.t 8) (.t 10))]
   (.ite (.t 11) .skip
   (.exit 0)))
   (.seq (.blk 1 (.ops [om 14 3, om 15 4, om 16 0, om 17 4, o 18 (.iad 3 (.t 16) (.t 17)), o 19 (.load 3 true (.t 18)), o 20 (.call 21 [.t 19]), o 21 (.iad 3 (.t 14) (.t 15)), os 3 21 20]))
   (.ops [om 12 4, o 13 (.bin .add (.t 12) (iv 1)), om 4 13]))))))
 (sq [om 22 3, om 2 22]
 .ret))))
noncomputable def X.l_toOrderS (p0 : (List TOrder)) : Option (List TOrder) :=
 (if 0 ≤ (p0.length : Int) ∧ (p0.length : Int).toNat ≤ LIM then ((loop (fun (x21 : (Int × (List TOrder))) => ((bif (decide (x21.1 < (p0.length : Int))) then ((at' zTOrder p0 x21.1).bind fun v24 => ((X.l_toOrder v24).bind fun v26 => (if 0 ≤ x21.1 ∧ x21.1 < (x21.2.length : Int) then ((some (x21.2.set x21.1.toNat v26)).bind fun l29 => some (Sum.inl ((W (x21.1 + 1)), l29))) else none))) else some (Sum.inr x21.2)) : Option ((Int × (List TOrder)) ⊕ (List TOrder)))) (0, (List.replicate (p0.length : Int).toNat zTOrder))).bind fun y31 => some y31) else none)
theorem l_toOrderS_F_ok (p0 : (List TOrder)) (r : (List TOrder)) (H : X.l_toOrderS p0 = some r) : FK 15 [.c (dat 3 eTOrder zTOrder p0)] (.c (.fr (dat 3 eTOrder zTOrder r))) := by
 unfold X.l_toOrderS at H
 refine fn_fr (fn := Try.f15) (ir := l_toOrderS_ir) (s1 := lit [(2, ow 900000 3 r)] [(900000, ar 3 eTOrderF zTOrder r)]) (res0 := ow 900000 3 r) glL Try.func15 (by kernel_rfl) (by kernel_rfl) (by kernel_rfl) (by kernel_rfl) (FrTo.own rfl (Nat.le_refl _) (fun i _ => ⟨rfl, rfl⟩)) ?_
 refine sn [] [] [] [] [] id ?_
 obtain ⟨g1, H⟩ := oI H
 refine sn [.fn (List.replicate (p0.length : Int).toNat zTOrder).length (fun _ => [jI 0, .nil, jI 0])] [.rpw 7 (fF eTOrderF zTOrder (List.replicate (p0.length : Int).toNat zTOrder))] [(3, ow 7 3 (List.replicate (p0.length : Int).toNat zTOrder))] [] [(7, ar 3 eTOrderF zTOrder (List.replicate (p0.length : Int).toNat zTOrder))] (fun t => lI p0 (aI (And.intro g1.1 (And.intro (List.length_replicate (n := (p0.length : Int).toNat) (a := zTOrder)).symm (Nat.le_trans (Nat.le_of_eq List.length_replicate) g1.2 : (List.replicate (p0.length : Int).toNat zTOrder).length ≤ LIM))) (aI (fun _ _ => rfl : ∀ i, i < (List.replicate (p0.length : Int).toNat zTOrder).length → (fun (_ : Nat) => ([jI 0, .nil, jI 0] : List AC)) i = [jI 0, .nil, jI 0]) (aI (fun i hi => (fF_rep eTOrderF zTOrder zTOrder (p0.length : Int).toNat i hi) ▸ nTOrderF : ∀ i, i < (List.replicate (p0.length : Int).toNat zTOrder).length → LeR ((fun (_ : Nat) => ([jI 0, .nil, jI 0] : List AC)) i) ((fF eTOrderF zTOrder (List.replicate (p0.length : Int).toNat zTOrder)) i)) (t))))) ?_
 refine seq_in ?_
 refine sn [] [] [(4, cI 0)] [] [] id ?_
 refine ends_blk ?_
 obtain ⟨y31, h32, H⟩ := oB H
 refine tl [] [(0, dc 3 eTOrder zTOrder p0), (3, ow 7 3 (List.replicate (p0.length : Int).toNat zTOrder)), (4, cI 0)] [(7, ar 3 eTOrderF zTOrder (List.replicate (p0.length : Int).toNat zTOrder))] id ?_
 refine loop_in (fun (x : (Int × (List TOrder))) => lit [(0, dc 3 eTOrder zTOrder p0), (3, ow 7 3 x.2), (4, cI x.1)] [(7, ar 3 eTOrderF zTOrder x.2)]) (fun (z : (List TOrder)) => At (.exit 0) (lit [(3, ow 7 3 z)] [(7, ar 3 eTOrderF zTOrder z)])) h32 ?_ ?_
 ·clear H h32
  intro x21 y0 H
  refine seq_in ?_
  refine sn [] [] [(11, cB (decide (x21.1 < (p0.length : Int))))] [] [] (fun t => lI p0 (t)) ?_
  rcases oC H with ⟨c23, H⟩ | ⟨c23, H⟩
  ·refine it c23 ?_
   refine sk ?_
   refine seq_in ?_
   refine ends_blk ?_
   obtain ⟨v24, h25, H⟩ := oB H
   obtain ⟨v26, h27, H⟩ := oB H
   obtain ⟨g28, H⟩ := oI H
   obtain ⟨l29, h30, H⟩ := oB H
   refine oo [.cs (eTOrder v24), .res (.agg (rTOrder v26)), .no, .fn 0 (fF eTOrderF zTOrder l29)] [] [(0, dc 3 eTOrder zTOrder p0), (3, ow 7 3 x21.2), (4, cI x21.1)] [(7, .arr 3 x21.2.length (fF eTOrderF zTOrder l29) false)] (fun t => (a2 eTOrder h25 (aI (l_toOrder_F_ok v24 v26 h27) (aI g28 (aI rT (aI (nat_lt g28) (aI (by decide : 0 + 3 ≤ 3) (aI (fF_setN eTOrderF zTOrder h30 (nat_lt g28) x21.2.length) (t))))))))) ?_
   change EndsI _ _ _ _ _ _
   refine oo [] [.rel 3 l29.length, .rep 7 l29.length (fF eTOrderF zTOrder l29)] [(0, dc 3 eTOrder zTOrder p0), (3, ow 7 3 l29), (4, cI (W (x21.1 + 1)))] [(7, ar 3 eTOrderF zTOrder l29)] (fun t => aI (by simp [lenN h30] : x21.2.length = l29.length) (aI (Nat.le_of_eq (by simp [lenN h30] : l29.length = x21.2.length)) (aI (fun _ _ => rfl : ∀ i, i < l29.length → (fF eTOrderF zTOrder l29) i = (fF eTOrderF zTOrder l29) i) (t)))) ?_
   cases H
   exact rr
  ·refine jf c23 ?_
   refine tl [] [(3, ow 7 3 x21.2)] [(7, ar 3 eTOrderF zTOrder x21.2)] id ?_
   refine ends_exit ?_
   cases H
   exact rse
 ·clear h32
  rintro e s ⟨rfl, rfl⟩
  change EndsI _ _ _ _ _ _
  refine sn [] [] [(2, ow 7 3 y31)] [] [] id ?_
  refine tl [.ren 7 900000] [(2, ow 900000 3 y31)] [(900000, ar 3 eTOrderF zTOrder y31)] id ?_
  cases H
  exact er
def l_toSheet_ir : S :=
 (sq [o 1 (.box 2 (.t 0)), o 2 (.alloc [.int .i64 0, .nil])]
 (sq [o 3 (.alloc [.int .i64 0, .nil])]
 (sq [oa 4 0 1, ol 5 4, oa 6 0 3, os 1 6 5]
 (sq [oa 7 1 1, ol 8 7, o 9 (.call 15 [.t 8]), oa 10 1 3, os 1 10 9]
 (sq [o 11 (.load 2 true (.t 3)), os 2 2 11]
 .ret)))))
noncomputable def X.l_toSheet (p0 : TSheet) : Option TSheet :=
 ((X.l_toOrderS p0.Orders).bind fun v1 => some (TSheet.mk p0.Side v1))
theorem l_toSheet_F_ok (p0 : TSheet) (r : TSheet) (H : X.l_toSheet p0 = some r) : FK 6 [.agg (eTSheet p0)] (.agg [.int .i64 r.Side, .fr (dat 3 eTOrder zTOrder r.Orders)]) := by
 unfold X.l_toSheet at H
 refine fn_fr (fn := Try.f6) (ir := l_toSheet_ir) (s1 := lit [(2, pk 2)] [(2, .var [jI r.Side, .fr (dat 3 eTOrder zTOrder r.Orders)] false)]) (res0 := .agg [jI r.Side, .fr (dat 3 eTOrder zTOrder r.Orders)]) glL Try.func6 (by kernel_rfl) (by kernel_rfl) (by kernel_rfl) (by kernel_rfl) ((And.intro ((.inl ⟨rfl, rfl⟩)) (And.intro ((.inl ⟨rfl, rfl⟩)) trivial))) ?_
 refine so [] [] [(1, pk 1), (2, pk 2)] [(1, va (eTSheet p0)), (2, .var [jI 0, .nil] false)] id ?_
 refine sn [] [] [(3, pk 3)] [] [(3, .var [jI 0, .nil] false)] id ?_
 refine sn [] [] [] [3] [(3, .var [jI p0.Side, .nil] false)] id ?_
 obtain ⟨v1, h2, H⟩ := oB H
 refine sn [.res (.c (.fr (dat 3 eTOrder zTOrder v1)))] [] [] [3] [(3, .var [jI p0.Side, .fr (dat 3 eTOrder zTOrder v1)] false)] (aI (l_toOrderS_F_ok p0.Orders v1 h2)) ?_
 refine sn [] [] [] [1, 2] [(2, .var [jI p0.Side, .fr (dat 3 eTOrder zTOrder v1)] false)] id ?_
 refine tl [] [(2, pk 2)] [(2, .var [jI p0.Side, .fr (dat 3 eTOrder zTOrder v1)] false)] id ?_
 cases H
 exact er
noncomputable def X.g_Grow_Order_Mnd (p1 : Int) : Option (List TOrder) :=
 (if 0 ≤ p1 ∧ p1.toNat ≤ LIM then some ([] : List TOrder) else none)
def laysG_ren : Go.Shelf.Ren := ⟨fun | 4 => 22 | n => n, fun | 22 => 28 | 25 => 42 | n => n, fun n => n⟩
theorem laysG : Go.Proofs.Lays8.n4 Try.prog laysG_ren := {
 mixed := by kernel_rfl
 f4 := ⟨ "slices.Grow[[]loop.example/g00886/impl.Order,loop.example/g00886/impl.Order]", by decide, Try.func22.trans (congrArg some (by kernel_rfl))⟩
 t0 := Try.underlying0
 t3 := Try.underlying3
 t4 := Try.underlying4
 t9 := Try.underlying9
 t20 := Try.underlying20
 t22 := Try.underlying28
 a0 := Try.isAgg0
 a3 := Try.isAgg3
 a4 := Try.isAgg4
 a9 := Try.isAgg9
 a20 := Try.isAgg20
 a22 := Try.isAgg28
 z0 := Try.sizeOf0
 z3 := Try.sizeOf3
 z4 := Try.sizeOf4
 z9 := Try.sizeOf9
 z20 := Try.sizeOf20
 z22 := Try.sizeOf28
 v0 := Try.zeroValue0
 v3 := Try.zeroValue3
 v4 := Try.zeroValue4
 v9 := Try.zeroValue9
 v20 := Try.zeroValue20
 v22 := Try.zeroValue28 }
theorem g_Grow_Order_Mnd_ok (p1 : Int) (r : List TOrder) (H : X.g_Grow_Order_Mnd p1 = some r) : FnMu Try.prog gl 22 [.c .nil, cI p1] [] (.c (.own 900000 3 0 r.length)) [(900000, .arr 3 r.length (fF eTOrder zTOrder r) false)] := by
 unfold X.g_Grow_Order_Mnd at H
 obtain ⟨g, H⟩ := oI H
 cases H
 exact grow_kit (zc := [jI 0, .nil, jI 0]) laysG rfl (by kernel_rfl) (by kernel_rfl) rfl (by decide) (of_decide_eq_true (by kernel_rfl)) (by kernel_rfl) _ g
def g_Concat_Order_ir : S :=
 (sq [o 2 (.mv (.v (.nil)))]
 (sq [o 3 (.mv (iv 0))]
 (.seq (sq [om 9 0, o 10 (.len (.t 9)), o 11 (.mv (iv 0))]
 (.blk 0 (.loop (sq [o 12 (.bin .lss (.t 11) (.t 10))]
   (.seq (.ite (.t 12) .skip
   (.exit 0))
   (.seq (.blk 1 (sq [o 13 (.iad 1 (.t 9) (.t 11)), ol 14 13, om 5 14]
    (sq [om 15 3, om 16 5, o 17 (.len (.t 16)), o 18 (.bin .add (.t 15) (.t 17)), om 3 18]
    (sq [om 19 3, o 20 (.bin .lss (.t 19) (iv 0))]
    (.ite (.t 20) .bad
    .skip)))))
   (.ops [o 22 (.bin .add (.t 11) (iv 1)), om 11 22])))))))
 (sq [om 23 3, o 24 (.call 22 [.v (.nil), .t 23]), om 6 24]
 (.seq (sq [om 25 0, o 26 (.len (.t 25)), o 27 (.mv (iv 0))]
 (.blk 2 (.loop (sq [o 28 (.bin .lss (.t 27) (.t 26))]
   (.seq (.ite (.t 28) .skip
   (.exit 2))
   (.seq (.blk 3 (sq [o 29 (.iad 1 (.t 25) (.t 27)), ol 30 29, om 8 30]
    (.ops [om 31 6, om 32 8, o 33 (.app 3 40 (.t 31) (.t 32)), om 6 33])))
   (.ops [o 34 (.bin .add (.t 27) (iv 1)), om 27 34])))))))
 (sq [om 35 6, om 2 35]
 .ret))))))
noncomputable def X.g_Concat_Order (p0 : (List (List TOrder))) : Option (List TOrder) :=
 ((loop (fun (x31 : (Int × Int)) => ((bif (decide (x31.2 < (p0.length : Int))) then ((at' zLTOrder p0 x31.2).bind fun v34 => (bif (decide ((W (x31.1 + (v34.length : Int))) < 0)) then none else some (Sum.inl ((W (x31.1 + (v34.length : Int))), (W (x31.2 + 1)))))) else some (Sum.inr x31.1)) : Option ((Int × Int) ⊕ Int))) (0, 0)).bind fun y37 => ((X.g_Grow_Order_Mnd y37).bind fun v39 => ((loop (fun (x52 : (Int × (List TOrder))) => ((bif (decide (x52.1 < (p0.length : Int))) then ((at' zLTOrder p0 x52.1).bind fun v55 => (if (x52.2 ++ v55).length ≤ LIM then some (Sum.inl ((W (x52.1 + 1)), (x52.2 ++ v55))) else none)) else some (Sum.inr x52.2)) : Option ((Int × (List TOrder)) ⊕ (List TOrder)))) (0, v39)).bind fun y58 => some y58)))
theorem g_Concat_Order_ok (p0 : (List (List TOrder))) (r : (List TOrder)) (H : X.g_Concat_Order p0 = some r) : FK 16 [.c (dat 1 eLTOrder zLTOrder p0)] (.c (dat 3 eTOrder zTOrder r)) := by
 unfold X.g_Concat_Order at H
 refine fi Try.f16 g_Concat_Order_ir [(2, dc 3 eTOrder zTOrder r)] [] glL Try.func16 ?_
 refine sn [] [] [] [] [] id ?_
 refine sn [] [] [(3, cI 0)] [] [] id ?_
 refine seq_in ?_
 refine sn [] [] [(9, dc 1 eLTOrder zLTOrder p0), (10, cL p0), (11, cI 0)] [] [] (fun t => lI p0 (t)) ?_
 refine ends_blk ?_
 obtain ⟨y37, h38, H⟩ := oB H
 refine tl [] [(0, dc 1 eLTOrder zLTOrder p0), (3, cI 0), (9, dc 1 eLTOrder zLTOrder p0), (10, cL p0), (11, cI 0)] [] id ?_
 refine loop_in (fun (x : (Int × Int)) => lit [(0, dc 1 eLTOrder zLTOrder p0), (3, cI x.1), (9, dc 1 eLTOrder zLTOrder p0), (10, cL p0), (11, cI x.2)] []) (fun (z : Int) => At (.exit 0) (lit [(0, dc 1 eLTOrder zLTOrder p0), (3, cI z)] [])) h38 ?_ ?_
 ·clear H h38
  intro x31 y0 H
  refine sn [] [] [(12, cB (decide (x31.2 < (p0.length : Int))))] [] [] id ?_
  refine seq_in ?_
  rcases oC H with ⟨c33, H⟩ | ⟨c33, H⟩
  ·refine it c33 ?_
   refine sk ?_
   refine seq_in ?_
   refine ends_blk ?_
   obtain ⟨v34, h35, H⟩ := oB H
   refine sn [.cs (eLTOrder v34)] [] [(5, dc 3 eTOrder zTOrder v34)] [] [] (a2 eLTOrder h35) ?_
   refine so [] [] [(0, dc 1 eLTOrder zLTOrder p0), (3, cI (W (x31.1 + (v34.length : Int)))), (9, dc 1 eLTOrder zLTOrder p0), (10, cL p0), (11, cI x31.2)] [] (fun t => lI v34 (t)) ?_
   refine sn [] [] [(20, cB (decide ((W (x31.1 + (v34.length : Int))) < 0)))] [] [] id ?_
   rcases oC H with ⟨c36, H⟩ | ⟨c36, H⟩
   ·refine it c36 ?_
    cases H
   ·refine jf c36 ?_
    refine sk ?_
    refine oo [] [] [(0, dc 1 eLTOrder zLTOrder p0), (3, cI (W (x31.1 + (v34.length : Int)))), (9, dc 1 eLTOrder zLTOrder p0), (10, cL p0), (11, cI (W (x31.2 + 1)))] [] id ?_
    cases H
    exact rr
  ·refine jf c33 ?_
   refine tl [] [(0, dc 1 eLTOrder zLTOrder p0), (3, cI x31.1)] [] id ?_
   refine ends_exit ?_
   cases H
   exact rse
 ·clear h38
  rintro e s ⟨rfl, rfl⟩
  change EndsI _ _ _ _ _ _
  obtain ⟨v39, h40, H⟩ := oB H
  refine sn [.mu [] [(900000, 1001)] (ow 900000 3 v39) [(900000, ar 3 eTOrder zTOrder v39)]] [] [(6, ow 1001 3 v39)] [] [(1001, ar 3 eTOrder zTOrder v39)] (aI (g_Grow_Order_Mnd_ok y37 v39 h40)) ?_
  refine seq_in ?_
  refine sn [] [] [(25, dc 1 eLTOrder zLTOrder p0), (26, cL p0), (27, cI 0)] [] [] (fun t => lI p0 (t)) ?_
  refine ends_blk ?_
  obtain ⟨y58, h59, H⟩ := oB H
  refine tl [] [(6, ow 1001 3 v39), (25, dc 1 eLTOrder zLTOrder p0), (26, cL p0), (27, cI 0)] [(1001, ar 3 eTOrder zTOrder v39)] id ?_
  refine loop_in (fun (x : (Int × (List TOrder))) => lit [(6, ow 1001 3 x.2), (25, dc 1 eLTOrder zLTOrder p0), (26, cL p0), (27, cI x.1)] [(1001, ar 3 eTOrder zTOrder x.2)]) (fun (z : (List TOrder)) => At (.exit 2) (lit [(6, ow 1001 3 z)] [(1001, ar 3 eTOrder zTOrder z)])) h59 ?_ ?_
  ·clear H h59
   intro x52 y0 H
   refine sn [] [] [(28, cB (decide (x52.1 < (p0.length : Int))))] [] [] id ?_
   refine seq_in ?_
   rcases oC H with ⟨c54, H⟩ | ⟨c54, H⟩
   ·refine it c54 ?_
    refine sk ?_
    refine seq_in ?_
    refine ends_blk ?_
    obtain ⟨v55, h56, H⟩ := oB H
    refine sn [.cs (eLTOrder v55)] [] [(8, dc 3 eTOrder zTOrder v55)] [] [] (a2 eLTOrder h56) ?_
    obtain ⟨g57, H⟩ := oI H
    refine oo [fh eTOrder zTOrder (x52.2 ++ v55)] [] [(6, ow 33 3 (x52.2 ++ v55)), (25, dc 1 eLTOrder zLTOrder p0), (26, cL p0), (27, cI x52.1)] [(33, ar 3 eTOrder zTOrder (x52.2 ++ v55))] (fun t => aI (And.intro (Nat.le_refl x52.2.length) (And.intro (@List.length_append _ x52.2 v55) g57)) (aI (fF_appL eTOrder zTOrder x52.2 v55) (aI (fF_appR eTOrder zTOrder x52.2 v55) (t)))) ?_
    change EndsI _ _ _ _ _ _
    refine oo [] [.ren 33 1001] [(6, ow 1001 3 (x52.2 ++ v55)), (25, dc 1 eLTOrder zLTOrder p0), (26, cL p0), (27, cI (W (x52.1 + 1)))] [(1001, ar 3 eTOrder zTOrder (x52.2 ++ v55))] id ?_
    cases H
    exact rr
   ·refine jf c54 ?_
    refine tl [] [(6, ow 1001 3 x52.2)] [(1001, ar 3 eTOrder zTOrder x52.2)] id ?_
    refine ends_exit ?_
    cases H
    exact rse
  ·clear h59
   rintro e s ⟨rfl, rfl⟩
   change EndsI _ _ _ _ _ _
   refine sn [] [] [(2, ow 1001 3 y58)] [] [] id ?_
   refine tl [.frz 2] [(2, dc 3 eTOrder zTOrder y58)] [] (aI (Nat.le_refl y58.length)) ?_
   cases H
   exact er
def i_AttacksOf_ir : S :=
 (sq [o 2 (.box 2 (.t 0)), o 3 (.box 2 (.t 1)), o 4 (.mv (.v (.nil)))]
 (sq [o 8 (.bsl 2 []), om 5 8]
 (.seq (sq [oa 9 1 2, ol 10 9, oa 11 1 3, ol 12 11, o 13 (.bsl 1 [.t 10, .t 12]), o 14 (.call 16 [.t 13]), o 15 (.len (.t 14)), o 16 (.mv (iv 0))]
 (.blk 0 (.loop (sq [o 17 (.bin .lss (.t 16) (.t 15))]
   (.seq (.ite (.t 17) .skip
   (.exit 0))
   (.seq (.blk 1 (sq [o 18 (.iad 3 (.t 14) (.t 16)), o 19 (.load 3 true (.t 18)), o 7 (.alloc [.int .i64 0, .nil, .int .i64 0]), os 3 7 19]
    (sq [oa 20 2 7, ol 21 20, o 22 (.bin .neq (.t 21) (.v (.int .i64 (-1))))]
    (.ite (.t 22) (.ops [om 23 5, oa 24 0 7, ol 25 24, oa 26 2 7, ol 27 26, o 28 (.build [.int .i64 0, .int .i64 0] [(0, 1, .t 25), (1, 1, .t 27)]), o 29 (.bsl 2 [.t 28]), o 30 (.app 2 16 (.t 23) (.t 29)), om 5 30])
    .skip))))
   (.ops [o 31 (.bin .add (.t 16) (iv 1)), om 16 31])))))))
 (sq [om 32 5, om 4 32]
 .ret))))
noncomputable def X.i_AttacksOf (p0 : TSheet) (p1 : TSheet) : Option (List TAttack) :=
 ((X.g_Concat_Order ([p0.Orders, p1.Orders] : List (List TOrder))).bind fun v1 => ((loop (fun (x16 : (Int × (List TAttack))) => ((bif (decide (x16.1 < (v1.length : Int))) then ((at' zTOrder v1 x16.1).bind fun v19 => (bif (v19.Attack != (-1)) then (if (x16.2 ++ ([(TAttack.mk v19.Unit v19.Attack)] : List TAttack)).length ≤ LIM then some (Sum.inl ((W (x16.1 + 1)), (x16.2 ++ ([(TAttack.mk v19.Unit v19.Attack)] : List TAttack)))) else none) else some (Sum.inl ((W (x16.1 + 1)), x16.2)))) else some (Sum.inr x16.2)) : Option ((Int × (List TAttack)) ⊕ (List TAttack)))) (0, ([] : List TAttack))).bind fun y23 => some y23))
theorem i_AttacksOf_ok (p0 : TSheet) (p1 : TSheet) (r : (List TAttack)) (H : X.i_AttacksOf p0 p1 = some r) : FK 7 [.agg (eTSheet p0), .agg (eTSheet p1)] (.c (dat 2 eTAttack zTAttack r)) := by
 unfold X.i_AttacksOf at H
 refine fi Try.f7 i_AttacksOf_ir [(4, dc 2 eTAttack zTAttack r)] [] glL Try.func7 ?_
 refine so [] [] [(2, pk 2), (3, pk 3)] [(2, va (eTSheet p0)), (3, va (eTSheet p1))] id ?_
 refine sn [fh eTAttack zTAttack ([] : List TAttack)] [] [(5, ow 8 2 ([] : List TAttack))] [] [(8, ar 2 eTAttack zTAttack ([] : List TAttack))] (fun t => aI (rfl : ([] : List TAttack).length = 0) (aI (fF_lit eTAttack zTAttack ([] : List TAttack)) (t))) ?_
 refine seq_in ?_
 obtain ⟨v1, h2, H⟩ := oB H
 refine sn [fh eLTOrder zLTOrder ([p0.Orders, p1.Orders] : List (List TOrder)), .res (dc 3 eTOrder zTOrder v1)] [] [(14, dc 3 eTOrder zTOrder v1), (15, cL v1), (16, cI 0)] [] [] (fun t => aI (rfl : ([p0.Orders, p1.Orders] : List (List TOrder)).length = 2) (aI (fF_lit eLTOrder zLTOrder ([p0.Orders, p1.Orders] : List (List TOrder))) (aI (Nat.le_refl (([p0.Orders, p1.Orders] : List (List TOrder)).length)) (aI (g_Concat_Order_ok ([p0.Orders, p1.Orders] : List (List TOrder)) v1 h2) (lI v1 (t)))))) ?_
 refine ends_blk ?_
 obtain ⟨y23, h24, H⟩ := oB H
 refine tl [.ren 8 1001] [(5, ow 1001 2 ([] : List TAttack)), (14, dc 3 eTOrder zTOrder v1), (15, cL v1), (16, cI 0)] [(1001, ar 2 eTAttack zTAttack ([] : List TAttack))] id ?_
 refine loop_in (fun (x : (Int × (List TAttack))) => lit [(5, ow 1001 2 x.2), (14, dc 3 eTOrder zTOrder v1), (15, cL v1), (16, cI x.1)] [(1001, ar 2 eTAttack zTAttack x.2)]) (fun (z : (List TAttack)) => At (.exit 0) (lit [(5, ow 1001 2 z)] [(1001, ar 2 eTAttack zTAttack z)])) h24 ?_ ?_
 ·clear H h24
  intro x16 y0 H
  refine sn [] [] [(17, cB (decide (x16.1 < (v1.length : Int))))] [] [] id ?_
  refine seq_in ?_
  rcases oC H with ⟨c18, H⟩ | ⟨c18, H⟩
  ·refine it c18 ?_
   refine sk ?_
   refine seq_in ?_
   refine ends_blk ?_
   obtain ⟨v19, h20, H⟩ := oB H
   refine sn [.cs (eTOrder v19)] [] [(7, pk 7)] [] [(7, va (eTOrder v19))] (a2 eTOrder h20) ?_
   refine sn [] [] [(22, cB (v19.Attack != (-1)))] [] [] id ?_
   rcases oC H with ⟨c21, H⟩ | ⟨c21, H⟩
   ·refine it c21 ?_
    obtain ⟨g22, H⟩ := oI H
    refine oo [fh eTAttack zTAttack ([(TAttack.mk v19.Unit v19.Attack)] : List TAttack), fh eTAttack zTAttack (x16.2 ++ ([(TAttack.mk v19.Unit v19.Attack)] : List TAttack))] [] [(5, ow 30 2 (x16.2 ++ ([(TAttack.mk v19.Unit v19.Attack)] : List TAttack))), (14, dc 3 eTOrder zTOrder v1), (15, cL v1), (16, cI x16.1)] [(30, ar 2 eTAttack zTAttack (x16.2 ++ ([(TAttack.mk v19.Unit v19.Attack)] : List TAttack)))] (fun t => aI (rfl : ([(TAttack.mk v19.Unit v19.Attack)] : List TAttack).length = 1) (aI (fF_lit eTAttack zTAttack ([(TAttack.mk v19.Unit v19.Attack)] : List TAttack)) (aI (Nat.le_refl (([(TAttack.mk v19.Unit v19.Attack)] : List TAttack).length)) (aI (And.intro (Nat.le_refl x16.2.length) (And.intro (@List.length_append _ x16.2 ([(TAttack.mk v19.Unit v19.Attack)] : List TAttack)) g22)) (aI (fF_appL eTAttack zTAttack x16.2 ([(TAttack.mk v19.Unit v19.Attack)] : List TAttack)) (aI (fF_appR eTAttack zTAttack x16.2 ([(TAttack.mk v19.Unit v19.Attack)] : List TAttack)) (t))))))) ?_
    change EndsI _ _ _ _ _ _
    refine oo [] [.ren 30 1001] [(5, ow 1001 2 (x16.2 ++ ([(TAttack.mk v19.Unit v19.Attack)] : List TAttack))), (14, dc 3 eTOrder zTOrder v1), (15, cL v1), (16, cI (W (x16.1 + 1)))] [(1001, ar 2 eTAttack zTAttack (x16.2 ++ ([(TAttack.mk v19.Unit v19.Attack)] : List TAttack)))] id ?_
    cases H
    exact rr
   ·refine jf c21 ?_
    refine sk ?_
    refine oo [] [] [(5, ow 1001 2 x16.2), (14, dc 3 eTOrder zTOrder v1), (15, cL v1), (16, cI (W (x16.1 + 1)))] [(1001, ar 2 eTAttack zTAttack x16.2)] id ?_
    cases H
    exact rr
  ·refine jf c18 ?_
   refine tl [] [(5, ow 1001 2 x16.2)] [(1001, ar 2 eTAttack zTAttack x16.2)] id ?_
   refine ends_exit ?_
   cases H
   exact rse
 ·clear h24
  rintro e s ⟨rfl, rfl⟩
  change EndsI _ _ _ _ _ _
  refine sn [] [] [(4, ow 1001 2 y23)] [] [] id ?_
  refine tl [.frz 4] [(4, dc 2 eTAttack zTAttack y23)] [] (aI (Nat.le_refl y23.length)) ?_
  cases H
  exact er
theorem i_AttacksOf_Mdd_ok (p0 : TSheet) (p1 : TSheet) (r : (List TAttack)) (H : X.i_AttacksOf p0 p1 = some r) : FnMu Try.prog gl 7 [.agg (eTSheet p0), .agg (eTSheet p1)] [] (.c (.own 900000 2 0 r.length)) [(900000, .arr 2 r.length (fF eTAttack zTAttack r) false)] := by
 unfold X.i_AttacksOf at H
 refine fn_mu (fn := Try.f7) (ir := i_AttacksOf_ir) (E' := [(4, ow 900000 2 r)]) (E1 := [(900000, ar 2 eTAttack zTAttack r)]) glL Try.func7 (by kernel_rfl) (by kernel_rfl) (by kernel_rfl) (by kernel_rfl) (by kernel_rfl) ?_
 refine so [] [] [(2, pk 2), (3, pk 3)] [(2, va (eTSheet p0)), (3, va (eTSheet p1))] id ?_
 refine sn [fh eTAttack zTAttack ([] : List TAttack)] [] [(5, ow 8 2 ([] : List TAttack))] [] [(8, ar 2 eTAttack zTAttack ([] : List TAttack))] (fun t => aI (rfl : ([] : List TAttack).length = 0) (aI (fF_lit eTAttack zTAttack ([] : List TAttack)) (t))) ?_
 refine seq_in ?_
 obtain ⟨v1, h2, H⟩ := oB H
 refine sn [fh eLTOrder zLTOrder ([p0.Orders, p1.Orders] : List (List TOrder)), .res (dc 3 eTOrder zTOrder v1)] [] [(14, dc 3 eTOrder zTOrder v1), (15, cL v1), (16, cI 0)] [] [] (fun t => aI (rfl : ([p0.Orders, p1.Orders] : List (List TOrder)).length = 2) (aI (fF_lit eLTOrder zLTOrder ([p0.Orders, p1.Orders] : List (List TOrder))) (aI (Nat.le_refl (([p0.Orders, p1.Orders] : List (List TOrder)).length)) (aI (g_Concat_Order_ok ([p0.Orders, p1.Orders] : List (List TOrder)) v1 h2) (lI v1 (t)))))) ?_
 refine ends_blk ?_
 obtain ⟨y23, h24, H⟩ := oB H
 refine tl [.ren 8 1001] [(5, ow 1001 2 ([] : List TAttack)), (14, dc 3 eTOrder zTOrder v1), (15, cL v1), (16, cI 0)] [(1001, ar 2 eTAttack zTAttack ([] : List TAttack))] id ?_
 refine loop_in (fun (x : (Int × (List TAttack))) => lit [(5, ow 1001 2 x.2), (14, dc 3 eTOrder zTOrder v1), (15, cL v1), (16, cI x.1)] [(1001, ar 2 eTAttack zTAttack x.2)]) (fun (z : (List TAttack)) => At (.exit 0) (lit [(5, ow 1001 2 z)] [(1001, ar 2 eTAttack zTAttack z)])) h24 ?_ ?_
 ·clear H h24
  intro x16 y0 H
  refine sn [] [] [(17, cB (decide (x16.1 < (v1.length : Int))))] [] [] id ?_
  refine seq_in ?_
  rcases oC H with ⟨c18, H⟩ | ⟨c18, H⟩
  ·refine it c18 ?_
   refine sk ?_
   refine seq_in ?_
   refine ends_blk ?_
   obtain ⟨v19, h20, H⟩ := oB H
   refine sn [.cs (eTOrder v19)] [] [(7, pk 7)] [] [(7, va (eTOrder v19))] (a2 eTOrder h20) ?_
   refine sn [] [] [(22, cB (v19.Attack != (-1)))] [] [] id ?_
   rcases oC H with ⟨c21, H⟩ | ⟨c21, H⟩
   ·refine it c21 ?_
    obtain ⟨g22, H⟩ := oI H
    refine oo [fh eTAttack zTAttack ([(TAttack.mk v19.Unit v19.Attack)] : List TAttack), fh eTAttack zTAttack (x16.2 ++ ([(TAttack.mk v19.Unit v19.Attack)] : List TAttack))] [] [(5, ow 30 2 (x16.2 ++ ([(TAttack.mk v19.Unit v19.Attack)] : List TAttack))), (14, dc 3 eTOrder zTOrder v1), (15, cL v1), (16, cI x16.1)] [(30, ar 2 eTAttack zTAttack (x16.2 ++ ([(TAttack.mk v19.Unit v19.Attack)] : List TAttack)))] (fun t => aI (rfl : ([(TAttack.mk v19.Unit v19.Attack)] : List TAttack).length = 1) (aI (fF_lit eTAttack zTAttack ([(TAttack.mk v19.Unit v19.Attack)] : List TAttack)) (aI (Nat.le_refl (([(TAttack.mk v19.Unit v19.Attack)] : List TAttack).length)) (aI (And.intro (Nat.le_refl x16.2.length) (And.intro (@List.length_append _ x16.2 ([(TAttack.mk v19.Unit v19.Attack)] : List TAttack)) g22)) (aI (fF_appL eTAttack zTAttack x16.2 ([(TAttack.mk v19.Unit v19.Attack)] : List TAttack)) (aI (fF_appR eTAttack zTAttack x16.2 ([(TAttack.mk v19.Unit v19.Attack)] : List TAttack)) (t))))))) ?_
    change EndsI _ _ _ _ _ _
    refine oo [] [.ren 30 1001] [(5, ow 1001 2 (x16.2 ++ ([(TAttack.mk v19.Unit v19.Attack)] : List TAttack))), (14, dc 3 eTOrder zTOrder v1), (15, cL v1), (16, cI (W (x16.1 + 1)))] [(1001, ar 2 eTAttack zTAttack (x16.2 ++ ([(TAttack.mk v19.Unit v19.Attack)] : List TAttack)))] id ?_
    cases H
    exact rr
   ·refine jf c21 ?_
    refine sk ?_
    refine oo [] [] [(5, ow 1001 2 x16.2), (14, dc 3 eTOrder zTOrder v1), (15, cL v1), (16, cI (W (x16.1 + 1)))] [(1001, ar 2 eTAttack zTAttack x16.2)] id ?_
    cases H
    exact rr
  ·refine jf c18 ?_
   refine tl [] [(5, ow 1001 2 x16.2)] [(1001, ar 2 eTAttack zTAttack x16.2)] id ?_
   refine ends_exit ?_
   cases H
   exact rse
 ·clear h24
  rintro e s ⟨rfl, rfl⟩
  change EndsI _ _ _ _ _ _
  refine sn [] [] [(4, ow 1001 2 y23)] [] [] id ?_
  refine tl [.ren 1001 900000] [(4, ow 900000 2 y23)] [(900000, ar 2 eTAttack zTAttack y23)] id ?_
  cases H
  exact er
def l_eqAttack_ir : S :=
 (sq [o 2 (.box 2 (.t 0)), o 3 (.box 2 (.t 1)), o 4 (.mv bF)]
 (.seq (sq [oa 5 0 2, ol 6 5, oa 7 0 3, ol 8 7, o 9 (.bin .neq (.t 6) (.t 8))]
 (.ite (.t 9) (sq [o 4 (.mv bF)]
  .ret)
 .skip))
 (.seq (sq [oa 10 1 2, ol 11 10, oa 12 1 3, ol 13 12, o 14 (.bin .neq (.t 11) (.t 13))]
 (.ite (.t 14) (sq [o 4 (.mv bF)]
  .ret)
 .skip))
 (sq [o 4 (.mv bT)]
 .ret))))
noncomputable def X.l_eqAttack (p0 : TAttack) (p1 : TAttack) : Option Bool :=
 (bif (p0.Unit != p1.Unit) then some false else (bif (p0.At != p1.At) then some false else some true))
theorem l_eqAttack_ok (p0 : TAttack) (p1 : TAttack) (r : Bool) (H : X.l_eqAttack p0 p1 = some r) : FK 17 [.agg (eTAttack p0), .agg (eTAttack p1)] (cB r) := by
 unfold X.l_eqAttack at H
 refine fi Try.f17 l_eqAttack_ir [(4, cB r)] [] glL Try.func17 ?_
 refine so [] [] [(2, pk 2), (3, pk 3)] [(2, va (eTAttack p0)), (3, va (eTAttack p1))] id ?_
 refine seq_in ?_
 refine sn [] [] [(9, cB (p0.Unit != p1.Unit))] [] [] id ?_
 rcases oC H with ⟨c2, H⟩ | ⟨c2, H⟩
 ·refine it c2 ?_
  refine so [] [] [(4, cB false)] [] id ?_
  cases H
  exact er
 ·refine jf c2 ?_
  refine sk ?_
  refine seq_in ?_
  refine so [] [] [(14, cB (p0.At != p1.At))] [] id ?_
  rcases oC H with ⟨c3, H⟩ | ⟨c3, H⟩
  ·refine it c3 ?_
   refine so [] [] [(4, cB false)] [] id ?_
   cases H
   exact er
  ·refine jf c3 ?_
   refine sk ?_
   refine so [] [] [(4, cB true)] [] id ?_
   cases H
   exact er
def l_eqAttackS_ir : S :=
 (sq [o 4 (.mv bF)]
 (.seq (sq [om 6 0, o 7 (.len (.t 6)), om 8 1, o 9 (.len (.t 8)), o 10 (.bin .neq (.t 7) (.t 9))]
 (.ite (.t 10) (sq [o 4 (.mv bF)]
  .ret)
 .skip))
 (.seq (sq [o 5 (.mv (iv 0))]
 (.blk 0 (.loop (.seq (sq [om 11 5, om 12 0, o 13 (.len (.t 12)), o 14 (.bin .lss (.t 11) (.t 13))]
   (.ite (.t 14) .skip
   (.exit 0)))
   (.seq (.blk 1 (.seq (.drw [(0, 1), (0, 4), (1, 4), (2, 4), (3, 4), (0, 5), (1, 5), (2, 5), (3, 5), (4, 5), (0, 6), (1, 6), (2, 6), (3, 6), (0, 7), (1, 7), (2, 7), (3, 7)] [om 17 0, om 18 5, o 19 (.iad 2 (.t 17) (.t 18)), o 20 (.load 2 true (.t 19)), om 21 1, om 22 5, o 23 (.iad 2 (.t 21) (.t 22)), o 24 (.load 2 true (.t 23)), o 25 (.call 17 [.t 20, .t 24]), o 26 (.not (.t 25))])
    (.ite (.t 26) (sq [o 4 (.mv bF)]
     .ret)
    .skip)))
   (.ops [om 15 5, o 16 (.bin .add (.t 15) (iv 1)), om 5 16]))))))
 (sq [o 4 (.mv bT)]
 .ret))))
noncomputable def X.l_eqAttackS (p0 : (List TAttack)) (p1 : (List TAttack)) : Option Bool :=
 (bif ((p0.length : Int) != (p1.length : Int)) then some false else ((loop (fun (x22 : Int) => ((bif (decide (x22 < (p0.length : Int))) then ((at' zTAttack p0 x22).bind fun v25 => ((at' zTAttack p1 x22).bind fun v27 => ((X.l_eqAttack v25 v27).bind fun v29 => (bif (!v29) then some (Sum.inr (Sum.inr false)) else some (Sum.inl (W (x22 + 1))))))) else some (Sum.inr (Sum.inl ()))) : Option (Int ⊕ (Unit ⊕ Bool)))) 0).bind fun y32 => (Sum.elim (fun (y34 : Unit) => some true) (fun (y35 : Bool) => some y35) y32)))
theorem l_eqAttackS_ok (p0 : (List TAttack)) (p1 : (List TAttack)) (r : Bool) (H : X.l_eqAttackS p0 p1 = some r) : FK 8 [.c (dat 2 eTAttack zTAttack p0), .c (dat 2 eTAttack zTAttack p1)] (cB r) := by
 unfold X.l_eqAttackS at H
 refine fi Try.f8 l_eqAttackS_ir [(4, cB r)] [] glL Try.func8 ?_
 refine sn [] [] [] [] [] id ?_
 refine seq_in ?_
 refine sn [] [] [(10, cB ((p0.length : Int) != (p1.length : Int)))] [] [] (fun t => lI p0 (lI p1 (t))) ?_
 rcases oC H with ⟨c2, H⟩ | ⟨c2, H⟩
 ·refine it c2 ?_
  refine so [] [] [(4, cB false)] [] id ?_
  cases H
  exact er
 ·refine jf c2 ?_
  refine sk ?_
  refine seq_in ?_
  refine sn [] [] [(5, cI 0)] [] [] id ?_
  refine ends_blk ?_
  obtain ⟨y32, h33, H⟩ := oB H
  refine tl [] [(0, dc 2 eTAttack zTAttack p0), (1, dc 2 eTAttack zTAttack p1), (5, cI 0)] [] id ?_
  refine loop_in (fun (x : Int) => lit [(0, dc 2 eTAttack zTAttack p0), (1, dc 2 eTAttack zTAttack p1), (5, cI x)] []) (orJ (fun (z : Unit) => At (.exit 0) (lit [] [])) (fun (z : Bool) => At .ret (lit [(4, cB z)] []))) h33 ?_ ?_
  ·clear H h33
   intro x22 y0 H
   refine seq_in ?_
   refine sn [] [] [(14, cB (decide (x22 < (p0.length : Int))))] [] [] (fun t => lI p0 (t)) ?_
   rcases oC H with ⟨c24, H⟩ | ⟨c24, H⟩
   ·refine it c24 ?_
    refine sk ?_
    refine seq_in ?_
    refine ends_blk ?_
    obtain ⟨v25, h26, H⟩ := oB H
    obtain ⟨v27, h28, H⟩ := oB H
    obtain ⟨v29, h30, H⟩ := oB H
    refine xn [.cs (eTAttack v25), .cs (eTAttack v27), .res (cB v29)] [] [(26, cB (!v29))] [] [] (fun t => (a2 eTAttack h26 (aI rN ((a2 eTAttack h28 (aI rN (aI (l_eqAttack_ok v25 v27 v29 h30) (aI trivial (aI rN (t)))))))))) ?_
    rcases oC H with ⟨c31, H⟩ | ⟨c31, H⟩
    ·refine it c31 ?_
     refine so [] [] [(4, cB false)] [] id ?_
     refine ends_ret ?_
     cases H
     exact rsr
    ·refine jf c31 ?_
     refine sk ?_
     refine oo [] [] [(0, dc 2 eTAttack zTAttack p0), (1, dc 2 eTAttack zTAttack p1), (5, cI (W (x22 + 1)))] [] id ?_
     cases H
     exact rr
   ·refine jf c24 ?_
    refine tl [] [] [] id ?_
    refine ends_exit ?_
    cases H
    exact rse
  ·clear h33
   cases y32 with
   | inl y34 =>
    replace H := ofInl H
    rintro e s ⟨rfl, rfl⟩
    change EndsI _ _ _ _ _ _
    refine so [] [] [(4, cB true)] [] id ?_
    cases H
    exact er
   | inr y35 =>
    replace H := ofInr H
    rintro e s ⟨rfl, rfl⟩
    cases H
    exact qr
def l_eqIntS_ir : S :=
 (sq [o 4 (.mv bF)]
 (.seq (sq [om 6 0, o 7 (.len (.t 6)), om 8 1, o 9 (.len (.t 8)), o 10 (.bin .neq (.t 7) (.t 9))]
 (.ite (.t 10) (sq [o 4 (.mv bF)]
  .ret)
 .skip))
 (.seq (sq [o 5 (.mv (iv 0))]
 (.blk 0 (.loop (.seq (sq [om 11 5, om 12 0, o 13 (.len (.t 12)), o 14 (.bin .lss (.t 11) (.t 13))]
   (.ite (.t 14) .skip
   (.exit 0)))
   (.seq (.blk 1 (.seq (.drw [(0, 1), (0, 4), (1, 4), (2, 4), (3, 4), (0, 5), (1, 5), (2, 5), (3, 5), (4, 5), (0, 6), (1, 6), (2, 6), (3, 6), (0, 7), (1, 7), (2, 7), (3, 7)] [om 17 0, om 18 5, o 19 (.iad 1 (.t 17) (.t 18)), ol 20 19, om 21 1, om 22 5, o 23 (.iad 1 (.t 21) (.t 22)), ol 24 23, o 25 (.bin .neq (.t 20) (.t 24))])
    (.ite (.t 25) (sq [o 4 (.mv bF)]
     .ret)
    .skip)))
   (.ops [om 15 5, o 16 (.bin .add (.t 15) (iv 1)), om 5 16]))))))
 (sq [o 4 (.mv bT)]
 .ret))))
noncomputable def X.l_eqIntS (p0 : (List Int)) (p1 : (List Int)) : Option Bool :=
 (bif ((p0.length : Int) != (p1.length : Int)) then some false else ((loop (fun (x18 : Int) => ((bif (decide (x18 < (p0.length : Int))) then ((at' zI p0 x18).bind fun v21 => ((at' zI p1 x18).bind fun v23 => (bif (v21 != v23) then some (Sum.inr (Sum.inr false)) else some (Sum.inl (W (x18 + 1)))))) else some (Sum.inr (Sum.inl ()))) : Option (Int ⊕ (Unit ⊕ Bool)))) 0).bind fun y26 => (Sum.elim (fun (y28 : Unit) => some true) (fun (y29 : Bool) => some y29) y26)))
theorem l_eqIntS_ok (p0 : (List Int)) (p1 : (List Int)) (r : Bool) (H : X.l_eqIntS p0 p1 = some r) : FK 27 [.c (dat 1 eI zI p0), .c (dat 1 eI zI p1)] (cB r) := by
 unfold X.l_eqIntS at H
 refine fi Try.f27 l_eqIntS_ir [(4, cB r)] [] glL Try.func27 ?_
 refine sn [] [] [] [] [] id ?_
 refine seq_in ?_
 refine sn [] [] [(10, cB ((p0.length : Int) != (p1.length : Int)))] [] [] (fun t => lI p0 (lI p1 (t))) ?_
 rcases oC H with ⟨c2, H⟩ | ⟨c2, H⟩
 ·refine it c2 ?_
  refine so [] [] [(4, cB false)] [] id ?_
  cases H
  exact er
 ·refine jf c2 ?_
  refine sk ?_
  refine seq_in ?_
  refine sn [] [] [(5, cI 0)] [] [] id ?_
  refine ends_blk ?_
  obtain ⟨y26, h27, H⟩ := oB H
  refine tl [] [(0, dc 1 eI zI p0), (1, dc 1 eI zI p1), (5, cI 0)] [] id ?_
  refine loop_in (fun (x : Int) => lit [(0, dc 1 eI zI p0), (1, dc 1 eI zI p1), (5, cI x)] []) (orJ (fun (z : Unit) => At (.exit 0) (lit [] [])) (fun (z : Bool) => At .ret (lit [(4, cB z)] []))) h27 ?_ ?_
  ·clear H h27
   intro x18 y0 H
   refine seq_in ?_
   refine sn [] [] [(14, cB (decide (x18 < (p0.length : Int))))] [] [] (fun t => lI p0 (t)) ?_
   rcases oC H with ⟨c20, H⟩ | ⟨c20, H⟩
   ·refine it c20 ?_
    refine sk ?_
    refine seq_in ?_
    refine ends_blk ?_
    obtain ⟨v21, h22, H⟩ := oB H
    obtain ⟨v23, h24, H⟩ := oB H
    refine xn [.cs (eI v21), .cs (eI v23)] [] [(25, cB (v21 != v23))] [] [] (fun t => (a2 eI h22 (aI rN ((a2 eI h24 (aI rN (t))))))) ?_
    rcases oC H with ⟨c25, H⟩ | ⟨c25, H⟩
    ·refine it c25 ?_
     refine so [] [] [(4, cB false)] [] id ?_
     refine ends_ret ?_
     cases H
     exact rsr
    ·refine jf c25 ?_
     refine sk ?_
     refine oo [] [] [(0, dc 1 eI zI p0), (1, dc 1 eI zI p1), (5, cI (W (x18 + 1)))] [] id ?_
     cases H
     exact rr
   ·refine jf c20 ?_
    refine tl [] [] [] id ?_
    refine ends_exit ?_
    cases H
    exact rse
  ·clear h27
   cases y26 with
   | inl y28 =>
    replace H := ofInl H
    rintro e s ⟨rfl, rfl⟩
    change EndsI _ _ _ _ _ _
    refine so [] [] [(4, cB true)] [] id ?_
    cases H
    exact er
   | inr y29 =>
    replace H := ofInr H
    rintro e s ⟨rfl, rfl⟩
    cases H
    exact qr
def l_eqOrder_ir : S :=
 (sq [o 2 (.box 3 (.t 0)), o 3 (.box 3 (.t 1)), o 4 (.mv bF)]
 (.seq (sq [oa 5 0 2, ol 6 5, oa 7 0 3, ol 8 7, o 9 (.bin .neq (.t 6) (.t 8))]
 (.ite (.t 9) (sq [o 4 (.mv bF)]
  .ret)
 .skip))
 (.seq (sq [oa 10 1 2, ol 11 10, oa 12 1 3, ol 13 12, o 14 (.call 27 [.t 11, .t 13]), o 15 (.not (.t 14))]
 (.ite (.t 15) (sq [o 4 (.mv bF)]
  .ret)
 .skip))
 (.seq (sq [oa 16 2 2, ol 17 16, oa 18 2 3, ol 19 18, o 20 (.bin .neq (.t 17) (.t 19))]
 (.ite (.t 20) (sq [o 4 (.mv bF)]
  .ret)
 .skip))
 (sq [o 4 (.mv bT)]
 .ret)))))
noncomputable def X.l_eqOrder (p0 : TOrder) (p1 : TOrder) : Option Bool :=
 (bif (p0.Unit != p1.Unit) then some false else ((X.l_eqIntS p0.Path p1.Path).bind fun v6 => (bif (!v6) then some false else (bif (p0.Attack != p1.Attack) then some false else some true))))
theorem l_eqOrder_ok (p0 : TOrder) (p1 : TOrder) (r : Bool) (H : X.l_eqOrder p0 p1 = some r) : FK 23 [.agg (eTOrder p0), .agg (eTOrder p1)] (cB r) := by
 unfold X.l_eqOrder at H
 refine fi Try.f23 l_eqOrder_ir [(4, cB r)] [] glL Try.func23 ?_
 refine so [] [] [(2, pk 2), (3, pk 3)] [(2, va (eTOrder p0)), (3, va (eTOrder p1))] id ?_
 refine seq_in ?_
 refine sn [] [] [(9, cB (p0.Unit != p1.Unit))] [] [] id ?_
 rcases oC H with ⟨c2, H⟩ | ⟨c2, H⟩
 ·refine it c2 ?_
  refine so [] [] [(4, cB false)] [] id ?_
  cases H
  exact er
 ·refine jf c2 ?_
  refine sk ?_
  refine seq_in ?_
  obtain ⟨v6, h7, H⟩ := oB H
  refine sn [.res (cB v6)] [] [(15, cB (!v6))] [] [] (aI (l_eqIntS_ok p0.Path p1.Path v6 h7)) ?_
  rcases oC H with ⟨c8, H⟩ | ⟨c8, H⟩
  ·refine it c8 ?_
   refine so [] [] [(4, cB false)] [] id ?_
   cases H
   exact er
  ·refine jf c8 ?_
   refine sk ?_
   refine seq_in ?_
   refine so [] [] [(20, cB (p0.Attack != p1.Attack))] [] id ?_
   rcases oC H with ⟨c9, H⟩ | ⟨c9, H⟩
   ·refine it c9 ?_
    refine so [] [] [(4, cB false)] [] id ?_
    cases H
    exact er
   ·refine jf c9 ?_
    refine sk ?_
    refine so [] [] [(4, cB true)] [] id ?_
    cases H
    exact er
def l_eqOrderS_ir : S :=
 (sq [o 4 (.mv bF)]
 (.seq (sq [om 6 0, o 7 (.len (.t 6)), om 8 1, o 9 (.len (.t 8)), o 10 (.bin .neq (.t 7) (.t 9))]
 (.ite (.t 10) (sq [o 4 (.mv bF)]
  .ret)
 .skip))
 (.seq (sq [o 5 (.mv (iv 0))]
 (.blk 0 (.loop (.seq (sq [om 11 5, om 12 0, o 13 (.len (.t 12)), o 14 (.bin .lss (.t 11) (.t 13))]
   (.ite (.t 14) .skip
   (.exit 0)))
   (.seq (.blk 1 (.seq (.drw [(0, 1), (0, 4), (1, 4), (2, 4), (3, 4), (0, 5), (1, 5), (2, 5), (3, 5), (4, 5), (0, 6), (1, 6), (2, 6), (3, 6), (0, 7), (1, 7), (2, 7), (3, 7)] [om 17 0, om 18 5, o 19 (.iad 3 (.t 17) (.t 18)), o 20 (.load 3 true (.t 19)), om 21 1, om 22 5, o 23 (.iad 3 (.t 21) (.t 22)), o 24 (.load 3 true (.t 23)), o 25 (.call 23 [.t 20, .t 24]), o 26 (.not (.t 25))])
    (.ite (.t 26) (sq [o 4 (.mv bF)]
     .ret)
    .skip)))
   (.ops [om 15 5, o 16 (.bin .add (.t 15) (iv 1)), om 5 16]))))))
 (sq [o 4 (.mv bT)]
 .ret))))
noncomputable def X.l_eqOrderS (p0 : (List TOrder)) (p1 : (List TOrder)) : Option Bool :=
 (bif ((p0.length : Int) != (p1.length : Int)) then some false else ((loop (fun (x22 : Int) => ((bif (decide (x22 < (p0.length : Int))) then ((at' zTOrder p0 x22).bind fun v25 => ((at' zTOrder p1 x22).bind fun v27 => ((X.l_eqOrder v25 v27).bind fun v29 => (bif (!v29) then some (Sum.inr (Sum.inr false)) else some (Sum.inl (W (x22 + 1))))))) else some (Sum.inr (Sum.inl ()))) : Option (Int ⊕ (Unit ⊕ Bool)))) 0).bind fun y32 => (Sum.elim (fun (y34 : Unit) => some true) (fun (y35 : Bool) => some y35) y32)))
theorem l_eqOrderS_ok (p0 : (List TOrder)) (p1 : (List TOrder)) (r : Bool) (H : X.l_eqOrderS p0 p1 = some r) : FK 18 [.c (dat 3 eTOrder zTOrder p0), .c (dat 3 eTOrder zTOrder p1)] (cB r) := by
 unfold X.l_eqOrderS at H
 refine fi Try.f18 l_eqOrderS_ir [(4, cB r)] [] glL Try.func18 ?_
 refine sn [] [] [] [] [] id ?_
 refine seq_in ?_
 refine sn [] [] [(10, cB ((p0.length : Int) != (p1.length : Int)))] [] [] (fun t => lI p0 (lI p1 (t))) ?_
 rcases oC H with ⟨c2, H⟩ | ⟨c2, H⟩
 ·refine it c2 ?_
  refine so [] [] [(4, cB false)] [] id ?_
  cases H
  exact er
 ·refine jf c2 ?_
  refine sk ?_
  refine seq_in ?_
  refine sn [] [] [(5, cI 0)] [] [] id ?_
  refine ends_blk ?_
  obtain ⟨y32, h33, H⟩ := oB H
  refine tl [] [(0, dc 3 eTOrder zTOrder p0), (1, dc 3 eTOrder zTOrder p1), (5, cI 0)] [] id ?_
  refine loop_in (fun (x : Int) => lit [(0, dc 3 eTOrder zTOrder p0), (1, dc 3 eTOrder zTOrder p1), (5, cI x)] []) (orJ (fun (z : Unit) => At (.exit 0) (lit [] [])) (fun (z : Bool) => At .ret (lit [(4, cB z)] []))) h33 ?_ ?_
  ·clear H h33
   intro x22 y0 H
   refine seq_in ?_
   refine sn [] [] [(14, cB (decide (x22 < (p0.length : Int))))] [] [] (fun t => lI p0 (t)) ?_
   rcases oC H with ⟨c24, H⟩ | ⟨c24, H⟩
   ·refine it c24 ?_
    refine sk ?_
    refine seq_in ?_
    refine ends_blk ?_
    obtain ⟨v25, h26, H⟩ := oB H
    obtain ⟨v27, h28, H⟩ := oB H
    obtain ⟨v29, h30, H⟩ := oB H
    refine xn [.cs (eTOrder v25), .cs (eTOrder v27), .res (cB v29)] [] [(26, cB (!v29))] [] [] (fun t => (a2 eTOrder h26 (aI rN ((a2 eTOrder h28 (aI rN (aI (l_eqOrder_ok v25 v27 v29 h30) (aI trivial (aI rN (t)))))))))) ?_
    rcases oC H with ⟨c31, H⟩ | ⟨c31, H⟩
    ·refine it c31 ?_
     refine so [] [] [(4, cB false)] [] id ?_
     refine ends_ret ?_
     cases H
     exact rsr
    ·refine jf c31 ?_
     refine sk ?_
     refine oo [] [] [(0, dc 3 eTOrder zTOrder p0), (1, dc 3 eTOrder zTOrder p1), (5, cI (W (x22 + 1)))] [] id ?_
     cases H
     exact rr
   ·refine jf c24 ?_
    refine tl [] [] [] id ?_
    refine ends_exit ?_
    cases H
    exact rse
  ·clear h33
   cases y32 with
   | inl y34 =>
    replace H := ofInl H
    rintro e s ⟨rfl, rfl⟩
    change EndsI _ _ _ _ _ _
    refine so [] [] [(4, cB true)] [] id ?_
    cases H
    exact er
   | inr y35 =>
    replace H := ofInr H
    rintro e s ⟨rfl, rfl⟩
    cases H
    exact qr
def l_eqSheet_ir : S :=
 (sq [o 2 (.box 2 (.t 0)), o 3 (.box 2 (.t 1)), o 4 (.mv bF)]
 (.seq (sq [oa 5 0 2, ol 6 5, oa 7 0 3, ol 8 7, o 9 (.bin .neq (.t 6) (.t 8))]
 (.ite (.t 9) (sq [o 4 (.mv bF)]
  .ret)
 .skip))
 (.seq (sq [oa 10 1 2, ol 11 10, oa 12 1 3, ol 13 12, o 14 (.call 18 [.t 11, .t 13]), o 15 (.not (.t 14))]
 (.ite (.t 15) (sq [o 4 (.mv bF)]
  .ret)
 .skip))
 (sq [o 4 (.mv bT)]
 .ret))))
noncomputable def X.l_eqSheet (p0 : TSheet) (p1 : TSheet) : Option Bool :=
 (bif (p0.Side != p1.Side) then some false else ((X.l_eqOrderS p0.Orders p1.Orders).bind fun v3 => (bif (!v3) then some false else some true)))
theorem l_eqSheet_ok (p0 : TSheet) (p1 : TSheet) (r : Bool) (H : X.l_eqSheet p0 p1 = some r) : FK 9 [.agg (eTSheet p0), .agg (eTSheet p1)] (cB r) := by
 unfold X.l_eqSheet at H
 refine fi Try.f9 l_eqSheet_ir [(4, cB r)] [] glL Try.func9 ?_
 refine so [] [] [(2, pk 2), (3, pk 3)] [(2, va (eTSheet p0)), (3, va (eTSheet p1))] id ?_
 refine seq_in ?_
 refine sn [] [] [(9, cB (p0.Side != p1.Side))] [] [] id ?_
 rcases oC H with ⟨c2, H⟩ | ⟨c2, H⟩
 ·refine it c2 ?_
  refine so [] [] [(4, cB false)] [] id ?_
  cases H
  exact er
 ·refine jf c2 ?_
  refine sk ?_
  refine seq_in ?_
  obtain ⟨v3, h4, H⟩ := oB H
  refine so [.res (cB v3)] [] [(15, cB (!v3))] [] (aI (l_eqOrderS_ok p0.Orders p1.Orders v3 h4)) ?_
  rcases oC H with ⟨c5, H⟩ | ⟨c5, H⟩
  ·refine it c5 ?_
   refine so [] [] [(4, cB false)] [] id ?_
   cases H
   exact er
  ·refine jf c5 ?_
   refine sk ?_
   refine so [] [] [(4, cB true)] [] id ?_
   cases H
   exact er
def l_markIntS_ir : S :=
 (sq [o 4 (.mv (iv 0))]
 (.seq (sq [o 5 (.mv (iv 0))]
 (.blk 0 (.loop (.seq (sq [om 6 5, om 7 0, o 8 (.len (.t 7)), o 9 (.bin .lss (.t 6) (.t 8))]
   (.ite (.t 9) .skip
   (.exit 0)))
   (.seq (.blk 1 (sq [om 12 0, om 13 5, om 14 1, o 15 (.iad 1 (.t 12) (.t 13)), os 1 15 14]
    (.ops [om 16 1, o 17 (.bin .add (.t 16) (iv 1)), om 1 17])))
   (.ops [om 10 5, o 11 (.bin .add (.t 10) (iv 1)), om 5 11]))))))
 (sq [om 18 1, om 4 18]
 .ret)))
noncomputable def X.l_markIntS_L (p0 : (List Int)) (p1 : Int) : Option Int :=
 ((loop (fun (x10 : (Int × Int)) => ((bif (decide (x10.2 < (p0.length : Int))) then ((at' zI p0 x10.2).bind fun v13 => some (Sum.inl ((W (x10.1 + 1)), (W (x10.2 + 1))))) else some (Sum.inr x10.1)) : Option ((Int × Int) ⊕ Int))) (p1, 0)).bind fun y15 => some y15)
theorem l_markIntS_L_ok (p0 : (List Int)) (p1 : Int) (r : Int) (H : X.l_markIntS_L p0 p1 = some r) : FK 24 [.c (.lv (dat 1 eI zI p0)), cI p1] (cI r) := by
 unfold X.l_markIntS_L at H
 refine fi Try.f24 l_markIntS_ir [(4, cI r)] [] glL Try.func24 ?_
 refine sn [] [] [] [] [] id ?_
 refine seq_in ?_
 refine sn [] [] [(5, cI 0)] [] [] id ?_
 refine ends_blk ?_
 obtain ⟨y15, h16, H⟩ := oB H
 refine tl [] [(0, .c (.lv (dat 1 eI zI p0))), (1, cI p1), (5, cI 0)] [] id ?_
 refine loop_in (fun (x : (Int × Int)) => lit [(0, .c (.lv (dat 1 eI zI p0))), (1, cI x.1), (5, cI x.2)] []) (fun (z : Int) => At (.exit 0) (lit [(1, cI z)] [])) h16 ?_ ?_
 ·clear H h16
  intro x10 y0 H
  refine seq_in ?_
  refine sn [] [] [(9, cB (decide (x10.2 < (p0.length : Int))))] [] [] (fun t => lI p0 (t)) ?_
  rcases oC H with ⟨c12, H⟩ | ⟨c12, H⟩
  ·refine it c12 ?_
   refine sk ?_
   refine seq_in ?_
   refine ends_blk ?_
   obtain ⟨v13, h14, H⟩ := oB H
   refine sn [.cs (eI v13)] [] [] [] [] (fun t => (a2 eI h14 (aI rT (t)))) ?_
   refine oo [] [] [(0, .c (.lv (dat 1 eI zI p0))), (1, cI (W (x10.1 + 1))), (5, cI x10.2)] [] id ?_
   change EndsI _ _ _ _ _ _
   refine oo [] [] [(0, .c (.lv (dat 1 eI zI p0))), (1, cI (W (x10.1 + 1))), (5, cI (W (x10.2 + 1)))] [] id ?_
   cases H
   exact rr
  ·refine jf c12 ?_
   refine tl [] [(1, cI x10.1)] [] id ?_
   refine ends_exit ?_
   cases H
   exact rse
 ·clear h16
  rintro e s ⟨rfl, rfl⟩
  change EndsI _ _ _ _ _ _
  refine so [] [] [(4, cI y15)] [] id ?_
  cases H
  exact er
def l_markOrderS_ir : S :=
 (sq [o 4 (.mv (iv 0))]
 (.seq (sq [o 5 (.mv (iv 0))]
 (.blk 0 (.loop (.seq (sq [om 6 5, om 7 0, o 8 (.len (.t 7)), o 9 (.bin .lss (.t 6) (.t 8))]
   (.ite (.t 9) .skip
   (.exit 0)))
   (.seq (.blk 1 (sq [om 12 0, om 13 5, om 14 1, o 15 (.iad 3 (.t 12) (.t 13)), oa 16 0 15, os 1 16 14]
    (sq [om 17 1, o 18 (.bin .add (.t 17) (iv 1)), om 1 18]
    (sq [om 19 0, om 20 5, o 21 (.iad 3 (.t 19) (.t 20)), oa 22 1 21, ol 23 22, om 24 1, o 25 (.call 24 [.t 23, .t 24]), om 1 25]
    (sq [om 26 0, om 27 5, om 28 1, o 29 (.iad 3 (.t 26) (.t 27)), oa 30 2 29, os 1 30 28]
    (.ops [om 31 1, o 32 (.bin .add (.t 31) (iv 1)), om 1 32]))))))
   (.ops [om 10 5, o 11 (.bin .add (.t 10) (iv 1)), om 5 11]))))))
 (sq [om 33 1, om 4 33]
 .ret)))
noncomputable def X.l_markOrderS_L (p0 : (List TOrder)) (p1 : Int) : Option Int :=
 ((loop (fun (x14 : (Int × Int)) => ((bif (decide (x14.2 < (p0.length : Int))) then ((at' zTOrder p0 x14.2).bind fun v17 => ((X.l_markIntS_L v17.Path (W (x14.1 + 1))).bind fun v19 => some (Sum.inl ((W (v19 + 1)), (W (x14.2 + 1)))))) else some (Sum.inr x14.1)) : Option ((Int × Int) ⊕ Int))) (p1, 0)).bind fun y21 => some y21)
theorem l_markOrderS_L_ok (p0 : (List TOrder)) (p1 : Int) (r : Int) (H : X.l_markOrderS_L p0 p1 = some r) : FK 19 [.c (.lv (dat 3 eTOrder zTOrder p0)), cI p1] (cI r) := by
 unfold X.l_markOrderS_L at H
 refine fi Try.f19 l_markOrderS_ir [(4, cI r)] [] glL Try.func19 ?_
 refine sn [] [] [] [] [] id ?_
 refine seq_in ?_
 refine sn [] [] [(5, cI 0)] [] [] id ?_
 refine ends_blk ?_
 obtain ⟨y21, h22, H⟩ := oB H
 refine tl [] [(0, .c (.lv (dat 3 eTOrder zTOrder p0))), (1, cI p1), (5, cI 0)] [] id ?_
 refine loop_in (fun (x : (Int × Int)) => lit [(0, .c (.lv (dat 3 eTOrder zTOrder p0))), (1, cI x.1), (5, cI x.2)] []) (fun (z : Int) => At (.exit 0) (lit [(1, cI z)] [])) h22 ?_ ?_
 ·clear H h22
  intro x14 y0 H
  refine seq_in ?_
  refine sn [] [] [(9, cB (decide (x14.2 < (p0.length : Int))))] [] [] (fun t => lI p0 (t)) ?_
  rcases oC H with ⟨c16, H⟩ | ⟨c16, H⟩
  ·refine it c16 ?_
   refine sk ?_
   refine seq_in ?_
   refine ends_blk ?_
   obtain ⟨v17, h18, H⟩ := oB H
   refine sn [.cs (eTOrder v17)] [] [] [] [] (fun t => (a2 eTOrder h18 (aI rT (t)))) ?_
   refine so [] [] [(0, .c (.lv (dat 3 eTOrder zTOrder p0))), (1, cI (W (x14.1 + 1))), (5, cI x14.2)] [] id ?_
   obtain ⟨v19, h20, H⟩ := oB H
   refine so [.cs (eTOrder v17), .res (cI v19)] [] [(0, .c (.lv (dat 3 eTOrder zTOrder p0))), (1, cI v19), (5, cI x14.2)] [] (fun t => (a2 eTOrder h18 (aI (l_markIntS_L_ok v17.Path (W (x14.1 + 1)) v19 h20) (t)))) ?_
   refine sn [.cs (eTOrder v17)] [] [] [] [] (fun t => (a2 eTOrder h18 (aI rT (t)))) ?_
   refine oo [] [] [(0, .c (.lv (dat 3 eTOrder zTOrder p0))), (1, cI (W (v19 + 1))), (5, cI x14.2)] [] id ?_
   change EndsI _ _ _ _ _ _
   refine oo [] [] [(0, .c (.lv (dat 3 eTOrder zTOrder p0))), (1, cI (W (v19 + 1))), (5, cI (W (x14.2 + 1)))] [] id ?_
   cases H
   exact rr
  ·refine jf c16 ?_
   refine tl [] [(1, cI x14.1)] [] id ?_
   refine ends_exit ?_
   cases H
   exact rse
 ·clear h22
  rintro e s ⟨rfl, rfl⟩
  change EndsI _ _ _ _ _ _
  refine so [] [] [(4, cI y21)] [] id ?_
  cases H
  exact er
def l_markSheet_ir : S :=
 (sq [o 2 (.box 2 (.t 0)), o 4 (.mv (iv 0))]
 (sq [oa 5 1 2, ol 6 5, om 7 1, o 8 (.call 19 [.t 6, .t 7]), om 1 8]
 (sq [om 9 1, om 4 9]
 .ret)))
noncomputable def X.l_markSheet_L (p0 : TSheet) (p1 : Int) : Option Int :=
 ((X.l_markOrderS_L p0.Orders p1).bind fun v1 => some v1)
theorem l_markSheet_L_ok (p0 : TSheet) (p1 : Int) (r : Int) (H : X.l_markSheet_L p0 p1 = some r) : FK 10 [.agg [.int .i64 p0.Side, .lv (dat 3 eTOrder zTOrder p0.Orders)], cI p1] (cI r) := by
 unfold X.l_markSheet_L at H
 refine fi Try.f10 l_markSheet_ir [(4, cI r)] [] glL Try.func10 ?_
 refine sn [] [] [(2, pk 2)] [] [(2, .var [jI p0.Side, .lv (dat 3 eTOrder zTOrder p0.Orders)] false)] id ?_
 obtain ⟨v1, h2, H⟩ := oB H
 refine so [.res (cI v1)] [] [(1, cI v1)] [] (aI (l_markOrderS_L_ok p0.Orders p1 v1 h2)) ?_
 refine so [] [] [(4, cI v1)] [] id ?_
 cases H
 exact er
def l_markAttackS_ir : S :=
 (sq [o 4 (.mv (iv 0))]
 (.seq (sq [o 5 (.mv (iv 0))]
 (.blk 0 (.loop (.seq (sq [om 6 5, om 7 0, o 8 (.len (.t 7)), o 9 (.bin .lss (.t 6) (.t 8))]
   (.ite (.t 9) .skip
   (.exit 0)))
   (.seq (.blk 1 (sq [om 12 0, om 13 5, om 14 1, o 15 (.iad 2 (.t 12) (.t 13)), oa 16 0 15, os 1 16 14]
    (sq [om 17 1, o 18 (.bin .add (.t 17) (iv 1)), om 1 18]
    (sq [om 19 0, om 20 5, om 21 1, o 22 (.iad 2 (.t 19) (.t 20)), oa 23 1 22, os 1 23 21]
    (.ops [om 24 1, o 25 (.bin .add (.t 24) (iv 1)), om 1 25])))))
   (.ops [om 10 5, o 11 (.bin .add (.t 10) (iv 1)), om 5 11]))))))
 (sq [om 26 1, om 4 26]
 .ret)))
noncomputable def X.l_markAttackS_Mod (p0 : (List TAttack)) (p1 : Int) : Option (Int × (List TAttack)) :=
 ((loop (fun (x16 : (Int × Int × (List TAttack))) => ((bif (decide (x16.2.1 < (x16.2.2.length : Int))) then (if 0 ≤ x16.2.1 ∧ x16.2.1 < (x16.2.2.length : Int) then ((some (x16.2.2.set x16.2.1.toNat (TAttack.mk x16.1 ((x16.2.2.getD x16.2.1.toNat zTAttack).At)))).bind fun l20 => ((some (l20.set x16.2.1.toNat (TAttack.mk ((l20.getD x16.2.1.toNat zTAttack).Unit) (W (x16.1 + 1))))).bind fun l22 => some (Sum.inl ((W ((W (x16.1 + 1)) + 1)), (W (x16.2.1 + 1)), l22)))) else none) else some (Sum.inr (x16.1, x16.2.2))) : Option ((Int × Int × (List TAttack)) ⊕ (Int × (List TAttack))))) (p1, 0, p0)).bind fun y24 => some (y24.1, y24.2))
theorem l_markAttackS_Mod_ok (p0 : (List TAttack)) (p1 : Int) (r : (Int × (List TAttack))) (H : X.l_markAttackS_Mod p0 p1 = some r) : FnMu Try.prog gl 11 [.c (.own 1000000 2 0 p0.length), cI p1] [(1000000, .arr 2 p0.length (fF eTAttack zTAttack p0) false)] (cI r.1) [(1000000, .arr 2 r.2.length (fF eTAttack zTAttack r.2) false)] := by
 unfold X.l_markAttackS_Mod at H
 refine fn_mu (fn := Try.f11) (ir := l_markAttackS_ir) (E' := [(4, cI r.1)]) (E1 := [(1000000, ar 2 eTAttack zTAttack r.2)]) glL Try.func11 (by kernel_rfl) (by kernel_rfl) (by kernel_rfl) (by kernel_rfl) (by kernel_rfl) ?_
 refine sn [] [] [] [] [] id ?_
 refine seq_in ?_
 refine sn [] [] [(5, cI 0)] [] [] id ?_
 refine ends_blk ?_
 obtain ⟨y24, h25, H⟩ := oB H
 refine tl [] [(0, ow 1000000 2 p0), (1, cI p1), (5, cI 0)] [(1000000, ar 2 eTAttack zTAttack p0)] id ?_
 refine loop_in (fun (x : (Int × Int × (List TAttack))) => lit [(0, ow 1000000 2 x.2.2), (1, cI x.1), (5, cI x.2.1)] [(1000000, ar 2 eTAttack zTAttack x.2.2)]) (fun (z : (Int × (List TAttack))) => At (.exit 0) (lit [(1, cI z.1)] [(1000000, ar 2 eTAttack zTAttack z.2)])) h25 ?_ ?_
 ·clear H h25
  intro x16 y0 H
  refine seq_in ?_
  refine sn [] [] [(9, cB (decide (x16.2.1 < (x16.2.2.length : Int))))] [] [] (fun t => lI x16.2.2 (t)) ?_
  rcases oC H with ⟨c18, H⟩ | ⟨c18, H⟩
  ·refine it c18 ?_
   refine sk ?_
   refine seq_in ?_
   refine ends_blk ?_
   obtain ⟨g19, H⟩ := oI H
   obtain ⟨l20, h21, H⟩ := oB H
   refine sn [.no, .fn 0 (fF eTAttack zTAttack l20)] [] [] [1000000] [(1000000, .arr 2 x16.2.2.length (fF eTAttack zTAttack l20) false)] (fun t => aI g19 (aI rT (aI (nat_lt g19) (aI (by decide : 0 + 1 ≤ 2) (aI (fF_setN eTAttack zTAttack h21 (nat_lt g19) x16.2.2.length) (t)))))) ?_
   refine so [] [] [(0, ow 1000000 2 x16.2.2), (1, cI (W (x16.1 + 1))), (5, cI x16.2.1)] [(1000000, .arr 2 x16.2.2.length (fF eTAttack zTAttack l20) false)] id ?_
   obtain ⟨l22, h23, H⟩ := oB H
   refine sn [.no, .fn 0 (fF eTAttack zTAttack l22)] [] [] [1000000] [(1000000, .arr 2 x16.2.2.length (fF eTAttack zTAttack l22) false)] (fun t => aI g19 (aI rT (aI (nat_lt g19) (aI (by decide : 1 + 1 ≤ 2) (aI (fF_setN eTAttack zTAttack h23 (ltN h21 (nat_lt g19)) x16.2.2.length) (t)))))) ?_
   refine oo [] [] [(0, ow 1000000 2 x16.2.2), (1, cI (W ((W (x16.1 + 1)) + 1))), (5, cI x16.2.1)] [(1000000, .arr 2 x16.2.2.length (fF eTAttack zTAttack l22) false)] id ?_
   change EndsI _ _ _ _ _ _
   refine oo [] [.rel 0 l22.length, .rep 1000000 l22.length (fF eTAttack zTAttack l22)] [(0, ow 1000000 2 l22), (1, cI (W ((W (x16.1 + 1)) + 1))), (5, cI (W (x16.2.1 + 1)))] [(1000000, ar 2 eTAttack zTAttack l22)] (fun t => aI (by simp [lenN h23, lenN h21] : x16.2.2.length = l22.length) (aI (Nat.le_of_eq (by simp [lenN h23, lenN h21] : l22.length = x16.2.2.length)) (aI (fun _ _ => rfl : ∀ i, i < l22.length → (fF eTAttack zTAttack l22) i = (fF eTAttack zTAttack l22) i) (t)))) ?_
   cases H
   exact rr
  ·refine jf c18 ?_
   refine tl [] [(1, cI x16.1)] [(1000000, ar 2 eTAttack zTAttack x16.2.2)] id ?_
   refine ends_exit ?_
   cases H
   exact rse
 ·clear h25
  rintro e s ⟨rfl, rfl⟩
  change EndsI _ _ _ _ _ _
  refine sn [] [] [(4, cI y24.1)] [] [] id ?_
  refine tl [] [(4, cI y24.1)] [(1000000, ar 2 eTAttack zTAttack y24.2)] id ?_
  cases H
  exact er
def l_heldAttackS_ir : S :=
 (sq [o 4 (.mv (iv 0))]
 (.seq (sq [o 5 (.mv (iv 0))]
 (.blk 0 (.loop (.seq (sq [om 6 5, om 7 0, o 8 (.len (.t 7)), o 9 (.bin .lss (.t 6) (.t 8))]
   (.ite (.t 9) .skip
   (.exit 0)))
   (.seq (.blk 1 (.seq (sq [om 12 0, om 13 5, o 14 (.iad 2 (.t 12) (.t 13)), oa 15 0 14, ol 16 15, om 17 1, o 18 (.bin .neq (.t 16) (.t 17))]
    (.ite (.t 18) (sq [o 4 (.mv (.v (.int .i64 (-1))))]
     .ret)
    .skip))
    (sq [om 19 1, o 20 (.bin .add (.t 19) (iv 1)), om 1 20]
    (.seq (sq [om 21 0, om 22 5, o 23 (.iad 2 (.t 21) (.t 22)), oa 24 1 23, ol 25 24, om 26 1, o 27 (.bin .neq (.t 25) (.t 26))]
    (.ite (.t 27) (sq [o 4 (.mv (.v (.int .i64 (-1))))]
     .ret)
    .skip))
    (.ops [om 28 1, o 29 (.bin .add (.t 28) (iv 1)), om 1 29])))))
   (.ops [om 10 5, o 11 (.bin .add (.t 10) (iv 1)), om 5 11]))))))
 (sq [om 30 1, om 4 30]
 .ret)))
noncomputable def X.l_heldAttackS (p0 : (List TAttack)) (p1 : Int) : Option Int :=
 ((loop (fun (x20 : (Int × Int)) => ((bif (decide (x20.2 < (p0.length : Int))) then ((at' zTAttack p0 x20.2).bind fun v26 => (bif (v26.Unit != x20.1) then some (Sum.inr (Sum.inr (-1))) else (bif (v26.At != (W (x20.1 + 1))) then some (Sum.inr (Sum.inr (-1))) else some (Sum.inl ((W ((W (x20.1 + 1)) + 1)), (W (x20.2 + 1))))))) else some (Sum.inr (Sum.inl x20.1))) : Option ((Int × Int) ⊕ (Int ⊕ Int)))) (p1, 0)).bind fun y30 => (Sum.elim (fun (y32 : Int) => some y32) (fun (y33 : Int) => some y33) y30))
theorem l_heldAttackS_ok (p0 : (List TAttack)) (p1 : Int) (r : Int) (H : X.l_heldAttackS p0 p1 = some r) : FK 12 [.c (dat 2 eTAttack zTAttack p0), cI p1] (cI r) := by
 unfold X.l_heldAttackS at H
 refine fi Try.f12 l_heldAttackS_ir [(4, cI r)] [] glL Try.func12 ?_
 refine sn [] [] [] [] [] id ?_
 refine seq_in ?_
 refine sn [] [] [(5, cI 0)] [] [] id ?_
 refine ends_blk ?_
 obtain ⟨y30, h31, H⟩ := oB H
 refine tl [] [(0, dc 2 eTAttack zTAttack p0), (1, cI p1), (5, cI 0)] [] id ?_
 refine loop_in (fun (x : (Int × Int)) => lit [(0, dc 2 eTAttack zTAttack p0), (1, cI x.1), (5, cI x.2)] []) (orJ (fun (z : Int) => At (.exit 0) (lit [(1, cI z)] [])) (fun (z : Int) => At .ret (lit [(4, cI z)] []))) h31 ?_ ?_
 ·clear H h31
  intro x20 y0 H
  refine seq_in ?_
  refine sn [] [] [(9, cB (decide (x20.2 < (p0.length : Int))))] [] [] (fun t => lI p0 (t)) ?_
  rcases oC H with ⟨c22, H⟩ | ⟨c22, H⟩
  ·refine it c22 ?_
   refine sk ?_
   refine seq_in ?_
   refine ends_blk ?_
   refine seq_in ?_
   obtain ⟨v26, h27, H⟩ := oB H
   refine sn [.cs (eTAttack v26)] [] [(18, cB (v26.Unit != x20.1))] [] [] (a2 eTAttack h27) ?_
   rcases oC H with ⟨c28, H⟩ | ⟨c28, H⟩
   ·refine it c28 ?_
    refine so [] [] [(4, cI (-1))] [] id ?_
    refine ends_ret ?_
    cases H
    exact rsr
   ·refine jf c28 ?_
    refine sk ?_
    refine so [] [] [(0, dc 2 eTAttack zTAttack p0), (1, cI (W (x20.1 + 1))), (5, cI x20.2)] [] id ?_
    refine seq_in ?_
    refine sn [.cs (eTAttack v26)] [] [(27, cB (v26.At != (W (x20.1 + 1))))] [] [] (a2 eTAttack h27) ?_
    rcases oC H with ⟨c29, H⟩ | ⟨c29, H⟩
    ·refine it c29 ?_
     refine so [] [] [(4, cI (-1))] [] id ?_
     refine ends_ret ?_
     cases H
     exact rsr
    ·refine jf c29 ?_
     refine sk ?_
     refine oo [] [] [(0, dc 2 eTAttack zTAttack p0), (1, cI (W ((W (x20.1 + 1)) + 1))), (5, cI x20.2)] [] id ?_
     change EndsI _ _ _ _ _ _
     refine oo [] [] [(0, dc 2 eTAttack zTAttack p0), (1, cI (W ((W (x20.1 + 1)) + 1))), (5, cI (W (x20.2 + 1)))] [] id ?_
     cases H
     exact rr
  ·refine jf c22 ?_
   refine tl [] [(1, cI x20.1)] [] id ?_
   refine ends_exit ?_
   cases H
   exact rse
 ·clear h31
  cases y30 with
  | inl y32 =>
   replace H := ofInl H
   rintro e s ⟨rfl, rfl⟩
   change EndsI _ _ _ _ _ _
   refine so [] [] [(4, cI y32)] [] id ?_
   cases H
   exact er
  | inr y33 =>
   replace H := ofInr H
   rintro e s ⟨rfl, rfl⟩
   cases H
   exact qr
def l_FnExactAttacksOf_ir : S :=
 (sq [o 2 (.box 2 (.t 0)), o 3 (.box 2 (.t 1)), o 4 (.mv bF)]
 (sq [o 5 (.mv (iv 1048576))]
 (sq [o 14 (.load 2 true (.t 2)), om 15 5, o 16 (.call 4 [.t 14, .t 15]), om 5 16]
 (.seq (sq [om 17 5, o 18 (.bin .lss (.t 17) (iv 0))]
 (.ite (.t 18) (sq [o 4 (.mv bT)]
  .ret)
 .skip))
 (sq [o 19 (.load 2 true (.t 3)), om 20 5, o 21 (.call 4 [.t 19, .t 20]), om 5 21]
 (.seq (sq [om 22 5, o 23 (.bin .lss (.t 22) (iv 0))]
 (.ite (.t 23) (sq [o 4 (.mv bT)]
  .ret)
 .skip))
 (.seq (.drw [(0, 2), (1, 2)] [o 24 (.load 2 true (.t 2)), o 25 (.call 6 [.t 24]), o 26 (.load 2 true (.t 3)), o 27 (.call 6 [.t 26]), o 28 (.call 5 [.t 25, .t 27]), om 6 28])
 (sq [o 29 (.load 2 true (.t 2)), o 30 (.call 6 [.t 29]), o 7 (.alloc [.int .i64 0, .nil]), os 2 7 30]
 (sq [o 31 (.load 2 true (.t 3)), o 32 (.call 6 [.t 31]), o 8 (.alloc [.int .i64 0, .nil]), os 2 8 32]
 (sq [o 33 (.load 2 true (.t 7)), o 34 (.load 2 true (.t 8)), o 35 (.call 7 [.t 33, .t 34]), om 9 35]
 (.seq (sq [om 36 9, om 37 6, o 38 (.call 8 [.t 36, .t 37]), o 39 (.not (.t 38))]
 (.ite (.t 39) (sq [o 4 (.mv bF)]
  .ret)
 .skip))
 (.seq (.seq (.drw [(0, 1), (0, 2)] [o 40 (.load 2 true (.t 7)), o 41 (.load 2 true (.t 2)), o 42 (.call 6 [.t 41]), o 43 (.call 9 [.t 40, .t 42]), o 44 (.not (.t 43))])
 (.ite (.t 44) (sq [o 4 (.mv bF)]
  .ret)
 .skip))
 (.seq (.seq (.drw [(0, 1), (0, 2)] [o 45 (.load 2 true (.t 8)), o 46 (.load 2 true (.t 3)), o 47 (.call 6 [.t 46]), o 48 (.call 9 [.t 45, .t 47]), o 49 (.not (.t 48))])
 (.ite (.t 49) (sq [o 4 (.mv bF)]
  .ret)
 .skip))
 (sq [o 10 (.mv (iv 1))]
 (sq [o 50 (.load 2 true (.t 7)), om 51 10, o 52 (.call 10 [.t 50, .t 51]), om 10 52]
 (sq [o 53 (.load 2 true (.t 8)), om 54 10, o 55 (.call 10 [.t 53, .t 54]), om 10 55]
 (.seq (sq [om 56 10, o 57 (.bin .lss (.t 56) (iv 0)), om 58 57, og 59 (.mv (.t 9)) 58, og 60 (.mv (.t 6)) 58, og 61 (.call 8 [.t 59, .t 60]) 58, og 62 (.not (.t 61)) 58, o 63 (.pick (.t 58) bT (.t 62))]
 (.ite (.t 63) (sq [o 4 (.mv bF)]
  .ret)
 .skip))
 (sq [o 11 (.mv (iv 1))]
 (sq [om 64 9, om 65 11, o 66 (.call 11 [.t 64, .t 65]), om 11 66]
 (sq [o 12 (.mv (iv 1))]
 (sq [om 67 9, om 68 12, o 69 (.call 12 [.t 67, .t 68]), om 12 69]
 (.seq (sq [om 70 12, o 71 (.bin .lss (.t 70) (iv 0))]
 (.ite (.t 71) (sq [o 4 (.mv bF)]
  .ret)
 .skip))
 (.seq (sq [om 72 12, om 73 11, o 74 (.bin .neq (.t 72) (.t 73))]
 (.ite (.t 74) (sq [o 4 (.mv bF)]
  .ret)
 .skip))
 (.seq (.drw [(0, 2), (1, 2)] [o 75 (.load 2 true (.t 2)), o 76 (.call 6 [.t 75]), o 77 (.load 2 true (.t 3)), o 78 (.call 6 [.t 77]), o 79 (.call 7 [.t 76, .t 78]), om 13 79])
 (.seq (sq [om 80 13, om 81 6, o 82 (.call 8 [.t 80, .t 81]), o 83 (.not (.t 82))]
 (.ite (.t 83) (sq [o 4 (.mv bF)]
  .ret)
 .skip))
 (sq [o 12 (.mv (iv 1))]
 (sq [om 84 9, om 85 12, o 86 (.call 12 [.t 84, .t 85]), om 12 86]
 (.seq (sq [om 87 12, o 88 (.bin .lss (.t 87) (iv 0))]
 (.ite (.t 88) (sq [o 4 (.mv bF)]
  .ret)
 .skip))
 (.seq (sq [om 89 12, om 90 11, o 91 (.bin .neq (.t 89) (.t 90))]
 (.ite (.t 91) (sq [o 4 (.mv bF)]
  .ret)
 .skip))
 (sq [o 4 (.mv bT)]
 .ret))))))))))))))))))))))))))))))
noncomputable def X.l_FnExactAttacksOf (p0 : TSheet) (p1 : TSheet) : Option Bool :=
 ((X.l_szSheet p0 1048576).bind fun v1 => (bif (decide (v1 < 0)) then some true else ((X.l_szSheet p1 v1).bind fun v5 => (bif (decide (v5 < 0)) then some true else ((X.l_toSheet p0).bind fun v9 => ((X.l_toSheet p1).bind fun v11 => ((X.s_AttacksOf v9 v11).bind fun v13 => ((X.l_toSheet p0).bind fun v15 => ((X.l_toSheet p1).bind fun v17 => ((X.i_AttacksOf v15 v17).bind fun v19 => ((X.l_eqAttackS v19 v13).bind fun v24 => (bif (!v24) then some false else ((X.l_toSheet p0).bind fun v32 => ((X.l_eqSheet v15 v32).bind fun v34 => (bif (!v34) then some false else ((X.l_toSheet p1).bind fun v42 => ((X.l_eqSheet v17 v42).bind fun v44 => (bif (!v44) then some false else ((X.l_markSheet_L v15 1).bind fun v47 => ((X.l_markSheet_L v17 v47).bind fun v49 => (bif (decide (v49 < 0)) then some false else ((X.l_eqAttackS v19 v13).bind fun v56 => (bif (!v56) then some false else ((X.l_markAttackS_Mod v19 1).bind fun v59 => (if v59.2.length = v19.length then ((X.l_heldAttackS v59.2 1).bind fun v62 => (bif (decide (v62 < 0)) then some false else (bif (v62 != v59.1) then some false else ((X.l_toSheet p0).bind fun v68 => ((X.l_toSheet p1).bind fun v70 => ((X.i_AttacksOf v68 v70).bind fun v72 => ((X.l_eqAttackS v72 v13).bind fun v77 => (bif (!v77) then some false else ((X.l_heldAttackS v59.2 1).bind fun v80 => (bif (decide (v80 < 0)) then some false else (bif (v80 != v59.1) then some false else some true))))))))))) else none)))))))))))))))))))))))))
theorem l_FnExactAttacksOf_T_ok (p0 : TSheet) (p1 : TSheet) (H : X.l_FnExactAttacksOf p0 p1 = some true) : LawOk Try.prog gl 3 [.agg (eTSheet p0), .agg (eTSheet p1)] := by
 unfold X.l_FnExactAttacksOf at H
 refine lawOk_of (fn := Try.f3) (ir := l_FnExactAttacksOf_ir) (s1 := lit [(4, cB true)] []) Try.func3 (by kernel_rfl) (by kernel_rfl) (by kernel_rfl) (by kernel_rfl) ?_
 refine tl [] [(0, .agg [jI p0.Side, .old (dat 3 eTOrder zTOrder p0.Orders)]), (1, .agg [jI p1.Side, .old (dat 3 eTOrder zTOrder p1.Orders)])] [] id ?_
 refine so [] [] [(2, pk 2), (3, pk 3)] [(2, .var [jI p0.Side, .old (dat 3 eTOrder zTOrder p0.Orders)] false), (3, .var [jI p1.Side, .old (dat 3 eTOrder zTOrder p1.Orders)] false)] id ?_
 refine sn [] [] [(5, cI 1048576)] [] [] id ?_
 obtain ⟨v1, h2, H⟩ := oB H
 refine so [.res (cI v1)] [] [(2, pk 2), (3, pk 3), (5, cI v1)] [(2, .var [jI p0.Side, .old (dat 3 eTOrder zTOrder p0.Orders)] false), (3, .var [jI p1.Side, .old (dat 3 eTOrder zTOrder p1.Orders)] false)] (aI ((FnOk.le2 (xs := [.agg [jI p0.Side, .old (dat 3 eTOrder zTOrder p0.Orders)], cI 1048576]) (l_szSheet_ok p0 1048576 v1 h2) ⟨LeD.agg (And.intro (LeC.refl _) (And.intro (LeC.old _) (trivial))), LeD.refl _, trivial⟩).up glTs)) ?_
 refine seq_in ?_
 refine sn [] [] [(18, cB (decide (v1 < 0)))] [] [] id ?_
 rcases oC H with ⟨c4, H⟩ | ⟨c4, H⟩
 ·refine it c4 ?_
  refine so [] [] [(4, cB true)] [] id ?_
  refine ends_ret ?_
  exact qr
 ·refine jf c4 ?_
  refine sk ?_
  obtain ⟨v5, h6, H⟩ := oB H
  refine so [.res (cI v5)] [] [(2, pk 2), (3, pk 3), (5, cI v5)] [(2, .var [jI p0.Side, .old (dat 3 eTOrder zTOrder p0.Orders)] false), (3, .var [jI p1.Side, .old (dat 3 eTOrder zTOrder p1.Orders)] false)] (aI ((FnOk.le2 (xs := [.agg [jI p1.Side, .old (dat 3 eTOrder zTOrder p1.Orders)], cI v1]) (l_szSheet_ok p1 v1 v5 h6) ⟨LeD.agg (And.intro (LeC.refl _) (And.intro (LeC.old _) (trivial))), LeD.refl _, trivial⟩).up glTs)) ?_
  refine seq_in ?_
  refine sn [] [] [(23, cB (decide (v5 < 0)))] [] [] id ?_
  rcases oC H with ⟨c8, H⟩ | ⟨c8, H⟩
  ·refine it c8 ?_
   refine so [] [] [(4, cB true)] [] id ?_
   refine ends_ret ?_
   exact qr
  ·refine jf c8 ?_
   refine sk ?_
   obtain ⟨v9, h10, H⟩ := oB H
   obtain ⟨v11, h12, H⟩ := oB H
   obtain ⟨v13, h14, H⟩ := oB H
   refine xn [.res (.agg [jI v9.Side, .fr (dat 3 eTOrder zTOrder v9.Orders)]), .res (.agg [jI v11.Side, .fr (dat 3 eTOrder zTOrder v11.Orders)]), .res (dc 2 eTAttack zTAttack v13)] [] [(6, dc 2 eTAttack zTAttack v13)] [] [] (fun t => aI ((FnOk.le2 (xs := [.agg [jI p0.Side, .old (dat 3 eTOrder zTOrder p0.Orders)]]) (l_toSheet_F_ok p0 v9 h10) ⟨LeD.agg (And.intro (LeC.refl _) (And.intro (LeC.old _) (trivial))), trivial⟩).up glTs) (aG 2 rN (aI ((FnOk.le2 (xs := [.agg [jI p1.Side, .old (dat 3 eTOrder zTOrder p1.Orders)]]) (l_toSheet_F_ok p1 v11 h12) ⟨LeD.agg (And.intro (LeC.refl _) (And.intro (LeC.old _) (trivial))), trivial⟩).up glTs) (aG 2 rN (aI ((FnOk.le2 (xs := [.agg [jI v9.Side, .fr (dat 3 eTOrder zTOrder v9.Orders)], .agg [jI v11.Side, .fr (dat 3 eTOrder zTOrder v11.Orders)]]) (s_AttacksOf_ok v9 v11 v13 h14) ⟨LeD.agg (And.intro (LeC.refl _) (And.intro (LeC.fr _) (trivial))), LeD.agg (And.intro (LeC.refl _) (And.intro (LeC.fr _) (trivial))), trivial⟩).up glTs) (aG 2 rN (t))))))) ?_
   refine tl [] [(2, pk 2), (3, pk 3), (6, dc 2 eTAttack zTAttack v13)] [(2, .var [jI p0.Side, .old (dat 3 eTOrder zTOrder p0.Orders)] false), (3, .var [jI p1.Side, .old (dat 3 eTOrder zTOrder p1.Orders)] false)] id ?_
   refine turn0 (E := [(2, pk 2), (3, pk 3), (6, dc 2 eTAttack zTAttack v13)]) (E' := [(2, pk 2), (3, pk 3), (6, .c (.old (dat 2 eTAttack zTAttack v13)))]) (H := [(2, .var [jI p0.Side, .old (dat 3 eTOrder zTOrder p0.Orders)] false), (3, .var [jI p1.Side, .old (dat 3 eTOrder zTOrder p1.Orders)] false)]) (H' := [(2, .var [jI p0.Side, .old (dat 3 eTOrder zTOrder p0.Orders)] false), (3, .var [jI p1.Side, .old (dat 3 eTOrder zTOrder p1.Orders)] false)]) glTn glTp (And.intro (And.intro rfl (uS (.pk 2 0) rfl)) (And.intro (And.intro rfl (uS (.pk 3 0) rfl)) (And.intro (And.intro rfl (uD (dat 2 eTAttack zTAttack v13) rfl (.dat shTAttack))) trivial))) (And.intro (And.intro rfl (And.intro (uS (jI p0.Side) rfl) (And.intro (uO (dat 3 eTOrder zTOrder p0.Orders) (.dat shTOrder)) trivial))) (And.intro (And.intro rfl (And.intro (uS (jI p1.Side) rfl) (And.intro (uO (dat 3 eTOrder zTOrder p1.Orders) (.dat shTOrder)) trivial))) trivial)) ?_
   obtain ⟨v15, h16, H⟩ := oB H
   refine sn [.res (.agg [jI v15.Side, .fr (dat 3 eTOrder zTOrder v15.Orders)])] [] [(7, pk 7)] [] [(7, .var [jI v15.Side, .fr (dat 3 eTOrder zTOrder v15.Orders)] false)] (aI ((FnOk.le2 (xs := [.agg [jI p0.Side, .old (dat 3 eTOrder zTOrder p0.Orders)]]) (l_toSheet_F_ok p0 v15 h16) ⟨LeD.agg (And.intro (LeC.refl _) (And.intro (LeC.old _) (trivial))), trivial⟩).up glTs)) ?_
   obtain ⟨v17, h18, H⟩ := oB H
   refine sn [.res (.agg [jI v17.Side, .fr (dat 3 eTOrder zTOrder v17.Orders)])] [] [(8, pk 8)] [] [(8, .var [jI v17.Side, .fr (dat 3 eTOrder zTOrder v17.Orders)] false)] (aI ((FnOk.le2 (xs := [.agg [jI p1.Side, .old (dat 3 eTOrder zTOrder p1.Orders)]]) (l_toSheet_F_ok p1 v17 h18) ⟨LeD.agg (And.intro (LeC.refl _) (And.intro (LeC.old _) (trivial))), trivial⟩).up glTs)) ?_
   obtain ⟨v19, h20, H⟩ := oB H
   refine sn [.mu [] [(900000, 1001)] (ow 900000 2 v19) [(900000, ar 2 eTAttack zTAttack v19)]] [] [(9, ow 1001 2 v19)] [] [(1001, ar 2 eTAttack zTAttack v19)] (aI ((FnMu.le2 (xs := [.agg [jI v15.Side, .fr (dat 3 eTOrder zTOrder v15.Orders)], .agg [jI v17.Side, .fr (dat 3 eTOrder zTOrder v17.Orders)]]) (i_AttacksOf_Mdd_ok v15 v17 v19 h20) ⟨LeK.of rfl (LeD.agg (And.intro (LeC.refl _) (And.intro (LeC.fr _) (trivial)))), LeK.of rfl (LeD.agg (And.intro (LeC.refl _) (And.intro (LeC.fr _) (trivial)))), trivial⟩).up glTs)) ?_
   refine seq_in ?_
   obtain ⟨v24, h25, H⟩ := oB H
   refine sn [.res (cB v24)] [] [(39, cB (!v24))] [] [] (fun t => aI (Nat.le_refl v19.length) (aI ((FnOk.le2 (xs := [dc 2 eTAttack zTAttack v19, .c (.old (dat 2 eTAttack zTAttack v13))]) (l_eqAttackS_ok v19 v13 v24 h25) ⟨LeD.refl _, LeD.old _, trivial⟩).up glTs) (t))) ?_
   rcases oC H with ⟨c26, H⟩ | ⟨c26, H⟩
   ·refine it c26 ?_
    refine so [] [] [(4, cB false)] [] id ?_
    refine ends_ret ?_
    cases H
   ·refine jf c26 ?_
    refine sk ?_
    refine seq_in ?_
    obtain ⟨v32, h33, H⟩ := oB H
    obtain ⟨v34, h35, H⟩ := oB H
    refine xn [.res (.agg [jI v32.Side, .fr (dat 3 eTOrder zTOrder v32.Orders)]), .res (cB v34)] [] [(44, cB (!v34))] [] [] (fun t => aI ((FnOk.le2 (xs := [.agg [jI p0.Side, .old (dat 3 eTOrder zTOrder p0.Orders)]]) (l_toSheet_F_ok p0 v32 h33) ⟨LeD.agg (And.intro (LeC.refl _) (And.intro (LeC.old _) (trivial))), trivial⟩).up glTs) (aG 2 rN (aI ((FnOk.le2 (xs := [.agg [jI v15.Side, .fr (dat 3 eTOrder zTOrder v15.Orders)], .agg [jI v32.Side, .fr (dat 3 eTOrder zTOrder v32.Orders)]]) (l_eqSheet_ok v15 v32 v34 h35) ⟨LeD.agg (And.intro (LeC.refl _) (And.intro (LeC.fr _) (trivial))), LeD.agg (And.intro (LeC.refl _) (And.intro (LeC.fr _) (trivial))), trivial⟩).up glTs) (aI trivial (aI rN (t)))))) ?_
    rcases oC H with ⟨c36, H⟩ | ⟨c36, H⟩
    ·refine it c36 ?_
     refine so [] [] [(4, cB false)] [] id ?_
     refine ends_ret ?_
     cases H
    ·refine jf c36 ?_
     refine sk ?_
     refine seq_in ?_
     obtain ⟨v42, h43, H⟩ := oB H
     obtain ⟨v44, h45, H⟩ := oB H
     refine xn [.res (.agg [jI v42.Side, .fr (dat 3 eTOrder zTOrder v42.Orders)]), .res (cB v44)] [] [(49, cB (!v44))] [] [] (fun t => aI ((FnOk.le2 (xs := [.agg [jI p1.Side, .old (dat 3 eTOrder zTOrder p1.Orders)]]) (l_toSheet_F_ok p1 v42 h43) ⟨LeD.agg (And.intro (LeC.refl _) (And.intro (LeC.old _) (trivial))), trivial⟩).up glTs) (aG 2 rN (aI ((FnOk.le2 (xs := [.agg [jI v17.Side, .fr (dat 3 eTOrder zTOrder v17.Orders)], .agg [jI v42.Side, .fr (dat 3 eTOrder zTOrder v42.Orders)]]) (l_eqSheet_ok v17 v42 v44 h45) ⟨LeD.agg (And.intro (LeC.refl _) (And.intro (LeC.fr _) (trivial))), LeD.agg (And.intro (LeC.refl _) (And.intro (LeC.fr _) (trivial))), trivial⟩).up glTs) (aI trivial (aI rN (t)))))) ?_
     rcases oC H with ⟨c46, H⟩ | ⟨c46, H⟩
     ·refine it c46 ?_
      refine so [] [] [(4, cB false)] [] id ?_
      refine ends_ret ?_
      cases H
     ·refine jf c46 ?_
      refine sk ?_
      refine sn [] [] [(10, cI 1)] [] [] id ?_
      refine tl [] [(2, pk 2), (3, pk 3), (6, .c (.old (dat 2 eTAttack zTAttack v13))), (7, pk 7), (8, pk 8), (9, ow 1001 2 v19), (10, cI 1)] [(2, .var [jI p0.Side, .old (dat 3 eTOrder zTOrder p0.Orders)] false), (3, .var [jI p1.Side, .old (dat 3 eTOrder zTOrder p1.Orders)] false), (7, .var [jI v15.Side, .fr (dat 3 eTOrder zTOrder v15.Orders)] false), (8, .var [jI v17.Side, .fr (dat 3 eTOrder zTOrder v17.Orders)] false), (1001, ar 2 eTAttack zTAttack v19)] id ?_
      refine turn (E := [(2, pk 2), (3, pk 3), (6, .c (.old (dat 2 eTAttack zTAttack v13))), (7, pk 7), (8, pk 8), (9, ow 1001 2 v19), (10, cI 1)]) (E' := [(2, pk 2), (3, pk 3), (6, dc 2 eTAttack zTAttack v13), (7, pk 7), (8, pk 8), (9, ow 1001 2 v19), (10, cI 1)]) (H := [(2, .var [jI p0.Side, .old (dat 3 eTOrder zTOrder p0.Orders)] false), (3, .var [jI p1.Side, .old (dat 3 eTOrder zTOrder p1.Orders)] false), (7, .var [jI v15.Side, .fr (dat 3 eTOrder zTOrder v15.Orders)] false), (8, .var [jI v17.Side, .fr (dat 3 eTOrder zTOrder v17.Orders)] false), (1001, ar 2 eTAttack zTAttack v19)]) (H' := [(2, va (eTSheet p0)), (3, va (eTSheet p1)), (7, .var [jI v15.Side, .lv (dat 3 eTOrder zTOrder v15.Orders)] false), (8, .var [jI v17.Side, .lv (dat 3 eTOrder zTOrder v17.Orders)] false), (1001, ar 2 eTAttack zTAttack v19)]) glTn (And.intro (And.intro rfl (tS (.pk 2 0) rfl)) (And.intro (And.intro rfl (tS (.pk 3 0) rfl)) (And.intro (And.intro rfl (tO (dat 2 eTAttack zTAttack v13))) (And.intro (And.intro rfl (tS (.pk 7 0) rfl)) (And.intro (And.intro rfl (tS (.pk 8 0) rfl)) (And.intro (And.intro rfl (tS (.own 1001 2 0 v19.length) rfl)) (And.intro (And.intro rfl (tS (jI 1) rfl)) trivial))))))) (And.intro (And.intro rfl (And.intro (tS (jI p0.Side) rfl) (And.intro (tO (dat 3 eTOrder zTOrder p0.Orders)) trivial))) (And.intro (And.intro rfl (And.intro (tS (jI p1.Side) rfl) (And.intro (tO (dat 3 eTOrder zTOrder p1.Orders)) trivial))) (And.intro (And.intro rfl (And.intro (tS (jI v15.Side) rfl) (And.intro (tF (dat 3 eTOrder zTOrder v15.Orders) rfl (.dat shTOrder)) trivial))) (And.intro (And.intro rfl (And.intro (tS (jI v17.Side) rfl) (And.intro (tF (dat 3 eTOrder zTOrder v17.Orders) rfl (.dat shTOrder)) trivial))) (And.intro (And.intro rfl ⟨rfl, rfl, rfl, fun i _ => rfl⟩) trivial))))) ?_
      obtain ⟨v47, h48, H⟩ := oB H
      refine so [.res (cI v47)] [] [(2, pk 2), (3, pk 3), (6, dc 2 eTAttack zTAttack v13), (8, pk 8), (9, ow 1001 2 v19), (10, cI v47)] [(2, va (eTSheet p0)), (3, va (eTSheet p1)), (8, .var [jI v17.Side, .lv (dat 3 eTOrder zTOrder v17.Orders)] false), (1001, ar 2 eTAttack zTAttack v19)] (aI ((l_markSheet_L_ok v15 1 v47 h48).up glTs)) ?_
      obtain ⟨v49, h50, H⟩ := oB H
      refine so [.res (cI v49)] [] [(2, pk 2), (3, pk 3), (6, dc 2 eTAttack zTAttack v13), (9, ow 1001 2 v19), (10, cI v49)] [(2, va (eTSheet p0)), (3, va (eTSheet p1)), (1001, ar 2 eTAttack zTAttack v19)] (aI ((l_markSheet_L_ok v17 v47 v49 h50).up glTs)) ?_
      refine seq_in ?_
      rcases oC H with ⟨c55, H⟩ | ⟨c55, H⟩
      ·refine sn (rg 5 true []) [] [(63, cB true)] [] [] (fun t => aG 5 c55 (t)) ?_
       refine it rT ?_
       refine so [] [] [(4, cB false)] [] id ?_
       refine ends_ret ?_
       cases H
      ·obtain ⟨v56, h57, H⟩ := oB H
       refine sn (rg 3 false ([.res (cB v56)] ++ rg 2 false [])) [] [(63, cB (!v56))] [] [] (fun t => aG 3 c55 (aI (Nat.le_refl v19.length) (aI ((l_eqAttackS_ok v19 v13 v56 h57).up glTs) (aG 2 c55 (t))))) ?_
       rcases oC H with ⟨c58, H⟩ | ⟨c58, H⟩
       ·refine it c58 ?_
        refine so [] [] [(4, cB false)] [] id ?_
        refine ends_ret ?_
        cases H
       ·refine jf c58 ?_
        refine sk ?_
        refine sn [] [] [(11, cI 1)] [] [] id ?_
        obtain ⟨v59, h60, H⟩ := oB H
        obtain ⟨g61, H⟩ := oI H
        refine so [.mu [(1001, 1000000)] [(1000000, 1001)] (cI v59.1) [(1000000, ar 2 eTAttack zTAttack v59.2)]] [.rel 9 v59.2.length, .rel 64 v59.2.length] [(2, pk 2), (3, pk 3), (6, dc 2 eTAttack zTAttack v13), (9, ow 1001 2 v59.2), (11, cI v59.1)] [(2, va (eTSheet p0)), (3, va (eTSheet p1)), (1001, ar 2 eTAttack zTAttack v59.2)] (fun t => aI ((l_markAttackS_Mod_ok v19 1 v59 h60).up glTs) (aG 2 (Eq.symm g61) (t))) ?_
        refine sn [] [] [(12, cI 1)] [] [] id ?_
        obtain ⟨v62, h63, H⟩ := oB H
        refine so [.res (cI v62)] [] [(2, pk 2), (3, pk 3), (6, dc 2 eTAttack zTAttack v13), (9, ow 1001 2 v59.2), (11, cI v59.1), (12, cI v62)] [(2, va (eTSheet p0)), (3, va (eTSheet p1)), (1001, ar 2 eTAttack zTAttack v59.2)] (fun t => aI (Nat.le_refl v59.2.length) (aI ((l_heldAttackS_ok v59.2 1 v62 h63).up glTs) (t))) ?_
        refine seq_in ?_
        refine sn [] [] [(71, cB (decide (v62 < 0)))] [] [] id ?_
        rcases oC H with ⟨c65, H⟩ | ⟨c65, H⟩
        ·refine it c65 ?_
         refine so [] [] [(4, cB false)] [] id ?_
         refine ends_ret ?_
         cases H
        ·refine jf c65 ?_
         refine sk ?_
         refine seq_in ?_
         refine sn [] [] [(74, cB (v62 != v59.1))] [] [] id ?_
         rcases oC H with ⟨c67, H⟩ | ⟨c67, H⟩
         ·refine it c67 ?_
          refine so [] [] [(4, cB false)] [] id ?_
          refine ends_ret ?_
          cases H
         ·refine jf c67 ?_
          refine sk ?_
          obtain ⟨v68, h69, H⟩ := oB H
          obtain ⟨v70, h71, H⟩ := oB H
          obtain ⟨v72, h73, H⟩ := oB H
          refine xn [.res (.agg [jI v68.Side, .fr (dat 3 eTOrder zTOrder v68.Orders)]), .res (.agg [jI v70.Side, .fr (dat 3 eTOrder zTOrder v70.Orders)]), .res (dc 2 eTAttack zTAttack v72)] [] [(13, dc 2 eTAttack zTAttack v72)] [] [] (fun t => aI ((l_toSheet_F_ok p0 v68 h69).up glTs) (aG 2 rN (aI ((l_toSheet_F_ok p1 v70 h71).up glTs) (aG 2 rN (aI ((FnOk.le2 (xs := [.agg [jI v68.Side, .fr (dat 3 eTOrder zTOrder v68.Orders)], .agg [jI v70.Side, .fr (dat 3 eTOrder zTOrder v70.Orders)]]) (i_AttacksOf_ok v68 v70 v72 h73) ⟨LeD.agg (And.intro (LeC.refl _) (And.intro (LeC.fr _) (trivial))), LeD.agg (And.intro (LeC.refl _) (And.intro (LeC.fr _) (trivial))), trivial⟩).up glTs) (aG 2 rN (t))))))) ?_
          refine seq_in ?_
          obtain ⟨v77, h78, H⟩ := oB H
          refine sn [.res (cB v77)] [] [(83, cB (!v77))] [2, 3] [] (aI ((l_eqAttackS_ok v72 v13 v77 h78).up glTs)) ?_
          rcases oC H with ⟨c79, H⟩ | ⟨c79, H⟩
          ·refine it c79 ?_
           refine so [] [] [(4, cB false)] [] id ?_
           refine ends_ret ?_
           cases H
          ·refine jf c79 ?_
           refine sk ?_
           refine so [] [] [(9, ow 1001 2 v59.2), (11, cI v59.1), (12, cI 1)] [(1001, ar 2 eTAttack zTAttack v59.2)] id ?_
           obtain ⟨v80, h81, H⟩ := oB H
           refine so [.res (cI v80)] [] [(11, cI v59.1), (12, cI v80)] [] (fun t => aI (Nat.le_refl v59.2.length) (aI ((l_heldAttackS_ok v59.2 1 v80 h81).up glTs) (t))) ?_
           refine seq_in ?_
           refine sn [] [] [(88, cB (decide (v80 < 0)))] [] [] id ?_
           rcases oC H with ⟨c83, H⟩ | ⟨c83, H⟩
           ·refine it c83 ?_
            refine so [] [] [(4, cB false)] [] id ?_
            refine ends_ret ?_
            cases H
           ·refine jf c83 ?_
            refine sk ?_
            refine seq_in ?_
            refine so [] [] [(91, cB (v80 != v59.1))] [] id ?_
            rcases oC H with ⟨c84, H⟩ | ⟨c84, H⟩
            ·refine it c84 ?_
             refine so [] [] [(4, cB false)] [] id ?_
             refine ends_ret ?_
             cases H
            ·refine jf c84 ?_
             refine sk ?_
             refine so [] [] [(4, cB true)] [] id ?_
             refine ends_ret ?_
             exact qr
end Go.Proofs.Ytjlabdoeiphegaa.X0
