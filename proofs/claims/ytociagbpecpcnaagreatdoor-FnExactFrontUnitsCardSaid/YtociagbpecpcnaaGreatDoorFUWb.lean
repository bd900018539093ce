/- What each Go function that FnExactFrontUnits reaches computes, and that it returns so; no condition. -/
import Derived.Test.YtociagbpecpcnaaGreatDoorFUWa
set_option linter.unusedVariables false
set_option linter.unusedSimpArgs false
set_option maxRecDepth 100000
namespace Go.Proofs.YtociagbpecpcnaaGreatDoor.X0
open Go Go.RowKit Go.Proofs.YtociagbpecpcnaaGreatDoor.Ab Go.Proofs

def i_inRange_ir : S :=
 (.seq (.ops [o 6 (.mv (.v (.bool false)))])
 (.seq (.ops [o 7 (.mv (.t 1)), o 8 (.mv (.t 0)), o 9 (.bin .leq (.t 7) (.t 8)), o 10 (.mv (.t 9)), ⟨some 11, .mv (.t 0), some (10, true)⟩, ⟨some 12, .mv (.t 2), some (10, true)⟩, ⟨some 13, .bin .leq (.t 11) (.t 12), some (10, true)⟩, o 14 (.pick (.t 10) (.t 13) (.v (.bool false))), o 6 (.mv (.t 14))])
 .ret))
noncomputable def X.i_inRange (p0 : Int) (p1 : Int) (p2 : Int) : Option Bool :=
 (bif (decide (p1 ≤ p0)) then some (decide (p0 ≤ p2)) else some false)
theorem i_inRange_ok (p0 : Int) (p1 : Int) (p2 : Int) (r : Bool) (H : X.i_inRange p0 p1 p2 = some r) : FnOk Tryz.prog gl 145 [cI p0, cI p1, cI p2] (cB r) := by
 unfold X.i_inRange at H
 refine fi Tryz.f145 i_inRange_ir [(6, cB r)] [] glL Tryz.func145 ?_
 refine so [] [] [(0, cI p0), (1, cI p1), (2, cI p2)] [] id ?_
 rcases ofCond H with ⟨c1, H⟩ | ⟨c1, H⟩
 ·refine so [.g true, .g true, .g true, .g true] [] [(6, cB (decide (p0 ≤ p2)))] [] (fun t => aI c1 (aI c1 (aI c1 (aI c1 (t))))) ?_
  refine ends_ret ?_
  cases H
  exact And.intro (.inl rfl) rfl
 ·refine so [.g false, .g false, .g false, .g false] [] [(6, cB false)] [] (fun t => aI c1 (aI c1 (aI c1 (aI c1 (t))))) ?_
  refine ends_ret ?_
  cases H
  exact And.intro (.inl rfl) rfl
theorem g_IndexFunc_int_c0_ok (p0 : (List Int)) (cf1 : FuncId) (f1 : Int → Option Bool) (hf1 : ∀ q0 r, f1 q0 = some r → FnOk Tryz.prog gl cf1 [cI q0] (cB r)) (r : Int) (H : X.g_IndexFunc_int p0 f1 = some r) : FnOk Tryz.prog gl 134 [.c (dat 1 eI zI p0), .c (.clo cf1 [])] (cI r) := by
 unfold X.g_IndexFunc_int at H
 refine fi Tryz.f134 g_IndexFunc_int_ir [(4, cI r)] [] glL Tryz.func134 ?_
 refine so [] [] [(0, dc 1 eI zI p0), (1, .c (.clo cf1 []))] [] id ?_
 refine seq_in ?_
 refine so [] [] [(0, dc 1 eI zI p0), (1, .c (.clo cf1 [])), (7, cI (p0.length : Int)), (8, cI 0)] [] (fun t => lI p0 (t)) ?_
 refine ends_blk ?_
 obtain ⟨y24, h25, H⟩ := ofBind H
 refine loop_in (fun (x : Int) => lit [(0, dc 1 eI zI p0), (1, .c (.clo cf1 [])), (7, cI (p0.length : Int)), (8, cI x)] []) (orJ (fun (z : Unit) => At (.exit 0) (lit [] [])) (fun (z : Int) => At .ret (lit [(4, cI z)] []))) h25 ?_ ?_
 ·clear H h25
  intro x16 y0 H
  refine so [] [] [(0, dc 1 eI zI p0), (1, .c (.clo cf1 [])), (7, cI (p0.length : Int)), (8, cI x16), (9, cB (decide (x16 < (p0.length : Int))))] [] id ?_
  refine seq_in ?_
  rcases ofCond H with ⟨c18, H⟩ | ⟨c18, H⟩
  ·refine it c18 ?_
   refine sk ?_
   refine seq_in ?_
   refine ends_blk ?_
   refine so [] [] [(0, dc 1 eI zI p0), (1, .c (.clo cf1 [])), (5, cI x16), (7, cI (p0.length : Int)), (8, cI x16)] [] id ?_
   obtain ⟨v19, h20, H⟩ := ofBind H
   obtain ⟨v21, h22, H⟩ := ofBind H
   refine so [.cs (eI v19), .res (cB v21)] [] [(0, dc 1 eI zI p0), (1, .c (.clo cf1 [])), (5, cI x16), (7, cI (p0.length : Int)), (8, cI x16), (16, cB v21)] [] (fun t => aI (at_lt h20) (aI (at_enc (enc := eI) h20) (aI (hf1 v19 v21 h22) (t)))) ?_
   rcases ofCond H with ⟨c23, H⟩ | ⟨c23, H⟩
   ·refine it c23 ?_
    refine so [] [] [(4, cI x16)] [] id ?_
    refine ends_ret ?_
    cases H
    exact And.intro (by simp) (And.intro rfl rfl)
   ·refine jf c23 ?_
    refine sk ?_
    refine oo [] [] [(0, dc 1 eI zI p0), (1, .c (.clo cf1 [])), (7, cI (p0.length : Int)), (8, cI (W (x16 + 1)))] [] id ?_
    cases H
    exact And.intro rfl rfl
  ·refine jf c18 ?_
   refine tl [] [] [] id ?_
   refine ends_exit ?_
   cases H
   exact And.intro (by simp) (And.intro rfl rfl)
 ·clear h25
  cases y24 with
  | inl y26 =>
   replace H := ofInl H
   intro e s q
   obtain ⟨rfl, rfl⟩ := q
   change EndsI _ _ _ _ _ _
   refine so [] [] [(4, cI (-1))] [] id ?_
   refine ends_ret ?_
   cases H
   exact And.intro (.inl rfl) rfl
  | inr y27 =>
   replace H := ofInr H
   intro e s q
   obtain ⟨rfl, rfl⟩ := q
   cases H
   exact And.intro (.inl rfl) rfl
theorem g_ContainsFunc_int_c0_ok (p0 : (List Int)) (cf1 : FuncId) (f1 : Int → Option Bool) (hf1 : ∀ q0 r, f1 q0 = some r → FnOk Tryz.prog gl cf1 [cI q0] (cB r)) (r : Bool) (H : X.g_ContainsFunc_int p0 f1 = some r) : FnOk Tryz.prog gl 70 [.c (dat 1 eI zI p0), .c (.clo cf1 [])] (cB r) := by
 unfold X.g_ContainsFunc_int at H
 refine fi Tryz.f70 g_ContainsFunc_int_ir [(4, cB r)] [] glL Tryz.func70 ?_
 refine so [] [] [(0, dc 1 eI zI p0), (1, .c (.clo cf1 []))] [] id ?_
 obtain ⟨v1, h2, H⟩ := ofBind H
 refine so [.res (cI v1)] [] [(4, cB (decide (v1 ≥ 0)))] [] (fun t => aI (g_IndexFunc_int_c0_ok p0 (cf1) f1 hf1 v1 h2) (t)) ?_
 refine ends_ret ?_
 cases H
 exact And.intro (.inl rfl) rfl
def i_isName_ir : S :=
 (.seq (.ops [o 2 (.mv (.v (.bool false)))])
 (.seq (.seq (.ops [o 3 (.mv (.v (.int .i64 0)))])
 (.blk 0 (.loop (.seq (.seq (.ops [o 4 (.mv (.t 3)), o 5 (.mv (.t 0)), o 6 (.lens (.t 5)), o 7 (.bin .lss (.t 4) (.t 6))])
   (.ite (.t 7) .skip
   (.exit 0)))
   (.seq (.blk 1 (.seq (.ops [o 10 (.mv (.t 0)), o 11 (.mv (.t 3)), o 12 (.ixs (.t 10) (.t 11)), o 13 (.bin .lss (.t 12) (.v (.int .u8 97))), o 14 (.mv (.t 13)), ⟨some 15, .mv (.t 0), some (14, false)⟩, ⟨some 16, .mv (.t 3), some (14, false)⟩, ⟨some 17, .ixs (.t 15) (.t 16), some (14, false)⟩, ⟨some 18, .bin .gtr (.t 17) (.v (.int .u8 122)), some (14, false)⟩, o 19 (.pick (.t 14) (.v (.bool true)) (.t 18))])
    (.ite (.t 19) (.seq (.ops [o 2 (.mv (.v (.bool false)))])
     .ret)
    .skip)))
   (.ops [o 8 (.mv (.t 3)), o 9 (.bin .add (.t 8) (.v (.int .i64 1))), o 3 (.mv (.t 9))]))))))
 (.seq (.ops [o 20 (.mv (.t 0)), o 21 (.lens (.t 20)), o 22 (.call 145 [.t 21, .v (.int .i64 1), .v (.int .i64 8)]), o 2 (.mv (.t 22))])
 .ret)))
noncomputable def X.i_isName (p0 : (List UInt8)) : Option Bool :=
 ((loop (fun (x14 : Int) => ((bif (decide (x14 < (p0.length : Int))) then (if 0 ≤ x14 ∧ x14 < (p0.length : Int) then (bif (decide ((((p0.getD x14.toNat 0).toNat : Nat) : Int) < 97)) then some (Sum.inr (Sum.inr false)) else (if 0 ≤ x14 ∧ x14 < (p0.length : Int) then (bif (decide ((((p0.getD x14.toNat 0).toNat : Nat) : Int) > 122)) then some (Sum.inr (Sum.inr false)) else some (Sum.inl (W (x14 + 1)))) else none)) else none) else some (Sum.inr (Sum.inl ()))) : Option (Int ⊕ (Unit ⊕ Bool)))) 0).bind fun y21 => (Sum.elim (fun (y23 : Unit) => ((X.i_inRange (p0.length : Int) 1 8).bind fun v25 => some v25)) (fun (y24 : Bool) => some y24) y21))
theorem i_isName_ok (p0 : (List UInt8)) (r : Bool) (H : X.i_isName p0 = some r) : FnOk Tryz.prog gl 223 [.c (.str p0)] (cB r) := by
 unfold X.i_isName at H
 refine fi Tryz.f223 i_isName_ir [(2, cB r)] [] glL Tryz.func223 ?_
 refine so [] [] [(0, .c (.str p0))] [] id ?_
 refine seq_in ?_
 refine so [] [] [(0, .c (.str p0)), (3, cI 0)] [] id ?_
 refine ends_blk ?_
 obtain ⟨y21, h22, H⟩ := ofBind H
 refine loop_in (fun (x : Int) => lit [(0, .c (.str p0)), (3, cI x)] []) (orJ (fun (z : Unit) => At (.exit 0) (lit [(0, .c (.str p0))] [])) (fun (z : Bool) => At .ret (lit [(2, cB z)] []))) h22 ?_ ?_
 ·clear H h22
  intro x14 y0 H
  refine seq_in ?_
  refine so [] [] [(0, .c (.str p0)), (3, cI x14), (7, cB (decide (x14 < (p0.length : Int))))] [] id ?_
  rcases ofCond H with ⟨c16, H⟩ | ⟨c16, H⟩
  ·refine it c16 ?_
   refine sk ?_
   refine seq_in ?_
   refine ends_blk ?_
   obtain ⟨g17, H⟩ := ofIf H
   rcases ofCond H with ⟨c18, H⟩ | ⟨c18, H⟩
   ·refine so [.g true, .g true, .g true, .g true, .g true] [] [(0, .c (.str p0)), (3, cI x14), (19, cB true)] [] (fun t => aI g17 (aI c18 (aI c18 (aI c18 (aI c18 (aI c18 (t))))))) ?_
    refine it (rfl : (true : Bool) = true) ?_
    refine so [] [] [(2, cB false)] [] id ?_
    refine ends_ret ?_
    cases H
    exact And.intro (by simp) (And.intro rfl rfl)
   ·obtain ⟨g19, H⟩ := ofIf H
    refine so [.g false, .g false, .g false, .g false, .g false] [] [(0, .c (.str p0)), (3, cI x14), (19, cB (decide ((((p0.getD x14.toNat 0).toNat : Nat) : Int) > 122)))] [] (fun t => aI g17 (aI c18 (aI c18 (aI c18 (aI g19 (aI c18 (aI c18 (t)))))))) ?_
    rcases ofCond H with ⟨c20, H⟩ | ⟨c20, H⟩
    ·refine it c20 ?_
     refine so [] [] [(2, cB false)] [] id ?_
     refine ends_ret ?_
     cases H
     exact And.intro (by simp) (And.intro rfl rfl)
    ·refine jf c20 ?_
     refine sk ?_
     refine oo [] [] [(0, .c (.str p0)), (3, cI (W (x14 + 1)))] [] id ?_
     cases H
     exact And.intro rfl rfl
  ·refine jf c16 ?_
   refine tl [] [(0, .c (.str p0))] [] id ?_
   refine ends_exit ?_
   cases H
   exact And.intro (by simp) (And.intro rfl rfl)
 ·clear h22
  cases y21 with
  | inl y23 =>
   replace H := ofInl H
   intro e s q
   obtain ⟨rfl, rfl⟩ := q
   change EndsI _ _ _ _ _ _
   obtain ⟨v25, h26, H⟩ := ofBind H
   refine so [.res (cB v25)] [] [(2, cB v25)] [] (fun t => aI (i_inRange_ok (p0.length : Int) 1 8 v25 h26) (t)) ?_
   refine ends_ret ?_
   cases H
   exact And.intro (.inl rfl) rfl
  | inr y24 =>
   replace H := ofInr H
   intro e s q
   obtain ⟨rfl, rfl⟩ := q
   cases H
   exact And.intro (.inl rfl) rfl
def i_goodTerrain_1_ir : S :=
 (.seq (.ops [o 2 (.mv (.v (.bool false)))])
 (.seq (.ops [o 3 (.mv (.t 0)), o 4 (.call 145 [.t 3, .v (.int .i64 0), .v (.int .i64 9)]), o 5 (.not (.t 4)), o 2 (.mv (.t 5))])
 .ret))
noncomputable def X.i_goodTerrain_1 (p0 : Int) : Option Bool :=
 ((X.i_inRange p0 0 9).bind fun v1 => some (!v1))
theorem i_goodTerrain_1_ok (p0 : Int) (r : Bool) (H : X.i_goodTerrain_1 p0 = some r) : FnOk Tryz.prog gl 224 [cI p0] (cB r) := by
 unfold X.i_goodTerrain_1 at H
 refine fi Tryz.f224 i_goodTerrain_1_ir [(2, cB r)] [] glL Tryz.func224 ?_
 refine so [] [] [(0, cI p0)] [] id ?_
 obtain ⟨v1, h2, H⟩ := ofBind H
 refine so [.res (cB v1)] [] [(2, cB (!v1))] [] (fun t => aI (i_inRange_ok p0 0 9 v1 h2) (t)) ?_
 refine ends_ret ?_
 cases H
 exact And.intro (.inl rfl) rfl
def i_goodTerrain_ir : S :=
 (.seq (.ops [o 2 (.box 5 (.t 0)), o 4 (.mv (.v (.bool false)))])
 (.seq (.seq (.ops [o 5 (.fad 0 (.t 2)), o 6 (.load 1 false (.t 5)), o 7 (.call 223 [.t 6]), o 8 (.not (.t 7)), o 9 (.mv (.t 8)), ⟨some 10, .fad 1 (.t 2), some (9, false)⟩, ⟨some 11, .load 1 false (.t 10), some (9, false)⟩, ⟨some 12, .len (.t 11), some (9, false)⟩, ⟨some 13, .mv (.t 1), some (9, false)⟩, ⟨some 14, .bin .neq (.t 12) (.t 13), some (9, false)⟩, o 15 (.pick (.t 9) (.v (.bool true)) (.t 14)), o 16 (.mv (.t 15)), ⟨some 17, .fad 2 (.t 2), some (16, false)⟩, ⟨some 18, .load 1 false (.t 17), some (16, false)⟩, ⟨some 19, .call 145 [.t 18, .v (.int .i64 (-3)), .v (.int .i64 3)], some (16, false)⟩, ⟨some 20, .not (.t 19), some (16, false)⟩, o 21 (.pick (.t 16) (.v (.bool true)) (.t 20)), o 22 (.mv (.t 21)), ⟨some 23, .fad 3 (.t 2), some (22, false)⟩, ⟨some 24, .load 1 false (.t 23), some (22, false)⟩, ⟨some 25, .call 145 [.t 24, .v (.int .i64 0), .v (.int .i64 3)], some (22, false)⟩, ⟨some 26, .not (.t 25), some (22, false)⟩, o 27 (.pick (.t 22) (.v (.bool true)) (.t 26))])
 (.ite (.t 27) (.seq (.ops [o 4 (.mv (.v (.bool false)))])
  .ret)
 .skip))
 (.seq (.ops [o 28 (.fad 1 (.t 2)), o 29 (.load 1 false (.t 28)), o 30 (.call 70 [.t 29, .f 224]), o 31 (.not (.t 30)), o 4 (.mv (.t 31))])
 .ret)))
noncomputable def X.i_goodTerrain (p0 : TTerrain) (p1 : Int) : Option Bool :=
 ((X.i_isName p0.Name).bind fun v1 => (bif (!v1) then some false else (bif ((p0.Cost.length : Int) != p1) then some false else ((X.i_inRange p0.Shift (-3) 3).bind fun v5 => (bif (!v5) then some false else ((X.i_inRange p0.Height 0 3).bind fun v8 => (bif (!v8) then some false else ((X.g_ContainsFunc_int p0.Cost (fun q0 => X.i_goodTerrain_1 q0)).bind fun v11 => some (!v11)))))))))
theorem i_goodTerrain_ok (p0 : TTerrain) (p1 : Int) (r : Bool) (H : X.i_goodTerrain p0 p1 = some r) : FnOk Tryz.prog gl 213 [.agg (eTTerrain p0), cI p1] (cB r) := by
 unfold X.i_goodTerrain at H
 refine fi Tryz.f213 i_goodTerrain_ir [(4, cB r)] [] glL Tryz.func213 ?_
 refine so [] [] [(1, cI p1), (2, pk 2)] [(2, va (eTTerrain p0))] id ?_
 refine seq_in ?_
 obtain ⟨v1, h2, H⟩ := ofBind H
 rcases ofCond H with ⟨c3, H⟩ | ⟨c3, H⟩
 ·refine so [.res (cB v1), .g true, .g true, .g true, .g true, .g true, .g true, .g true, .g true, .g true, .g true, .g true, .g true, .g true, .g true, .g true, .g true] [] [(2, pk 2), (27, cB true)] [(2, va (eTTerrain p0))] (fun t => aI (i_isName_ok p0.Name v1 h2) (aI c3 (aI c3 (aI c3 (aI c3 (aI c3 (aI c3 (aI (rfl : (true : Bool) = true) (aI (rfl : (true : Bool) = true) (aI (rfl : (true : Bool) = true) (aI (rfl : (true : Bool) = true) (aI (rfl : (true : Bool) = true) (aI (rfl : (true : Bool) = true) (aI (rfl : (true : Bool) = true) (aI (rfl : (true : Bool) = true) (aI (rfl : (true : Bool) = true) (aI (rfl : (true : Bool) = true) (t)))))))))))))))))) ?_
  refine it (rfl : (true : Bool) = true) ?_
  refine so [] [] [(4, cB false)] [] id ?_
  refine ends_ret ?_
  cases H
  exact And.intro (.inl rfl) rfl
 ·rcases ofCond H with ⟨c4, H⟩ | ⟨c4, H⟩
  ·refine so [.res (cB v1), .g false, .g false, .g false, .g false, .g false, .g false, .g true, .g true, .g true, .g true, .g true, .g true, .g true, .g true, .g true, .g true] [] [(2, pk 2), (27, cB true)] [(2, va (eTTerrain p0))] (fun t => aI (i_isName_ok p0.Name v1 h2) (aI c3 (aI c3 (aI c3 (lI p0.Cost (aI c3 (aI c3 (aI c3 (aI c4 (aI c4 (aI c4 (aI c4 (aI c4 (aI (rfl : (true : Bool) = true) (aI (rfl : (true : Bool) = true) (aI (rfl : (true : Bool) = true) (aI (rfl : (true : Bool) = true) (aI (rfl : (true : Bool) = true) (t))))))))))))))))))) ?_
   refine it (rfl : (true : Bool) = true) ?_
   refine so [] [] [(4, cB false)] [] id ?_
   refine ends_ret ?_
   cases H
   exact And.intro (.inl rfl) rfl
  ·obtain ⟨v5, h6, H⟩ := ofBind H
   rcases ofCond H with ⟨c7, H⟩ | ⟨c7, H⟩
   ·refine so [.res (cB v1), .g false, .g false, .g false, .g false, .g false, .g false, .g false, .g false, .g false, .res (cB v5), .g false, .g false, .g true, .g true, .g true, .g true, .g true] [] [(2, pk 2), (27, cB true)] [(2, va (eTTerrain p0))] (fun t => aI (i_isName_ok p0.Name v1 h2) (aI c3 (aI c3 (aI c3 (lI p0.Cost (aI c3 (aI c3 (aI c3 (aI c4 (aI c4 (aI c4 (aI (i_inRange_ok p0.Shift (-3) 3 v5 h6) (aI c4 (aI c4 (aI c7 (aI c7 (aI c7 (aI c7 (aI c7 (t)))))))))))))))))))) ?_
    refine it (rfl : (true : Bool) = true) ?_
    refine so [] [] [(4, cB false)] [] id ?_
    refine ends_ret ?_
    cases H
    exact And.intro (.inl rfl) rfl
   ·obtain ⟨v8, h9, H⟩ := ofBind H
    refine so [.res (cB v1), .g false, .g false, .g false, .g false, .g false, .g false, .g false, .g false, .g false, .res (cB v5), .g false, .g false, .g false, .g false, .g false, .res (cB v8), .g false, .g false] [] [(2, pk 2), (27, cB (!v8))] [(2, va (eTTerrain p0))] (fun t => aI (i_isName_ok p0.Name v1 h2) (aI c3 (aI c3 (aI c3 (lI p0.Cost (aI c3 (aI c3 (aI c3 (aI c4 (aI c4 (aI c4 (aI (i_inRange_ok p0.Shift (-3) 3 v5 h6) (aI c4 (aI c4 (aI c7 (aI c7 (aI c7 (aI (i_inRange_ok p0.Height 0 3 v8 h9) (aI c7 (aI c7 (t))))))))))))))))))))) ?_
    rcases ofCond H with ⟨c10, H⟩ | ⟨c10, H⟩
    ·refine it c10 ?_
     refine so [] [] [(4, cB false)] [] id ?_
     refine ends_ret ?_
     cases H
     exact And.intro (.inl rfl) rfl
    ·refine jf c10 ?_
     refine sk ?_
     obtain ⟨v11, h12, H⟩ := ofBind H
     refine so [.res (cB v11)] [] [(4, cB (!v11))] [] (fun t => aI (g_ContainsFunc_int_c0_ok p0.Cost (224) (fun q0 => X.i_goodTerrain_1 q0) (fun q0 r h => i_goodTerrain_1_ok q0 r h) v11 h12) (t)) ?_
     refine ends_ret ?_
     cases H
     exact And.intro (.inl rfl) rfl
def g_IndexFunc_Terrain_ir : S :=
 (.seq (.ops [o 4 (.mv (.v (.int .i64 0)))])
 (.seq (.seq (.ops [o 6 (.mv (.t 0)), o 7 (.len (.t 6)), o 8 (.mv (.v (.int .i64 0)))])
 (.blk 0 (.loop (.seq (.ops [o 9 (.bin .lss (.t 8) (.t 7))])
   (.seq (.ite (.t 9) .skip
   (.exit 0))
   (.seq (.blk 1 (.seq (.ops [o 10 (.mv (.t 8)), o 5 (.mv (.t 10))])
    (.seq (.ops [o 11 (.mv (.t 1)), o 12 (.mv (.t 0)), o 13 (.mv (.t 5)), o 14 (.iad 5 (.t 12) (.t 13)), o 15 (.load 5 true (.t 14)), o 16 (.cald (.t 11) [.t 15])])
    (.ite (.t 16) (.seq (.ops [o 17 (.mv (.t 5)), o 4 (.mv (.t 17))])
     .ret)
    .skip))))
   (.ops [o 18 (.bin .add (.t 8) (.v (.int .i64 1))), o 8 (.mv (.t 18))])))))))
 (.seq (.ops [o 4 (.mv (.v (.int .i64 (-1))))])
 .ret)))
noncomputable def X.g_IndexFunc_Terrain (p0 : (List TTerrain)) (f1 : TTerrain → Option Bool) : Option Int :=
 ((loop (fun (x16 : Int) => ((bif (decide (x16 < (p0.length : Int))) then ((at' zTTerrain p0 x16).bind fun v19 => ((f1 v19).bind fun v21 => (bif v21 then some (Sum.inr (Sum.inr x16)) else some (Sum.inl (W (x16 + 1)))))) else some (Sum.inr (Sum.inl ()))) : Option (Int ⊕ (Unit ⊕ Int)))) 0).bind fun y24 => (Sum.elim (fun (y26 : Unit) => some (-1)) (fun (y27 : Int) => some y27) y24))
theorem g_IndexFunc_Terrain_c1_ok (p0 : (List TTerrain)) (cf1 : FuncId) (cs1_0 : List AC) (f1 : TTerrain → Option Bool) (hf1 : ∀ q0 r, f1 q0 = some r → FnOk Tryz.prog gl cf1 [.agg (eTTerrain q0), .c (.pd cs1_0 0)] (cB r)) (r : Int) (H : X.g_IndexFunc_Terrain p0 f1 = some r) : FnOk Tryz.prog gl 225 [.c (dat 5 eTTerrain zTTerrain p0), .c (.clo cf1 [.pd cs1_0 0])] (cI r) := by
 unfold X.g_IndexFunc_Terrain at H
 refine fi Tryz.f225 g_IndexFunc_Terrain_ir [(4, cI r)] [] glL Tryz.func225 ?_
 refine so [] [] [(0, dc 5 eTTerrain zTTerrain p0), (1, .c (.clo cf1 [.pd cs1_0 0]))] [] id ?_
 refine seq_in ?_
 refine so [] [] [(0, dc 5 eTTerrain zTTerrain p0), (1, .c (.clo cf1 [.pd cs1_0 0])), (7, cI (p0.length : Int)), (8, cI 0)] [] (fun t => lI p0 (t)) ?_
 refine ends_blk ?_
 obtain ⟨y24, h25, H⟩ := ofBind H
 refine loop_in (fun (x : Int) => lit [(0, dc 5 eTTerrain zTTerrain p0), (1, .c (.clo cf1 [.pd cs1_0 0])), (7, cI (p0.length : Int)), (8, cI x)] []) (orJ (fun (z : Unit) => At (.exit 0) (lit [] [])) (fun (z : Int) => At .ret (lit [(4, cI z)] []))) h25 ?_ ?_
 ·clear H h25
  intro x16 y0 H
  refine so [] [] [(0, dc 5 eTTerrain zTTerrain p0), (1, .c (.clo cf1 [.pd cs1_0 0])), (7, cI (p0.length : Int)), (8, cI x16), (9, cB (decide (x16 < (p0.length : Int))))] [] id ?_
  refine seq_in ?_
  rcases ofCond H with ⟨c18, H⟩ | ⟨c18, H⟩
  ·refine it c18 ?_
   refine sk ?_
   refine seq_in ?_
   refine ends_blk ?_
   refine so [] [] [(0, dc 5 eTTerrain zTTerrain p0), (1, .c (.clo cf1 [.pd cs1_0 0])), (5, cI x16), (7, cI (p0.length : Int)), (8, cI x16)] [] id ?_
   obtain ⟨v19, h20, H⟩ := ofBind H
   obtain ⟨v21, h22, H⟩ := ofBind H
   refine so [.cs (eTTerrain v19), .res (cB v21)] [] [(0, dc 5 eTTerrain zTTerrain p0), (1, .c (.clo cf1 [.pd cs1_0 0])), (5, cI x16), (7, cI (p0.length : Int)), (8, cI x16), (16, cB v21)] [] (fun t => aI (at_lt h20) (aI (at_enc (enc := eTTerrain) h20) (aI (hf1 v19 v21 h22) (t)))) ?_
   rcases ofCond H with ⟨c23, H⟩ | ⟨c23, H⟩
   ·refine it c23 ?_
    refine so [] [] [(4, cI x16)] [] id ?_
    refine ends_ret ?_
    cases H
    exact And.intro (by simp) (And.intro rfl rfl)
   ·refine jf c23 ?_
    refine sk ?_
    refine oo [] [] [(0, dc 5 eTTerrain zTTerrain p0), (1, .c (.clo cf1 [.pd cs1_0 0])), (7, cI (p0.length : Int)), (8, cI (W (x16 + 1)))] [] id ?_
    cases H
    exact And.intro rfl rfl
  ·refine jf c18 ?_
   refine tl [] [] [] id ?_
   refine ends_exit ?_
   cases H
   exact And.intro (by simp) (And.intro rfl rfl)
 ·clear h25
  cases y24 with
  | inl y26 =>
   replace H := ofInl H
   intro e s q
   obtain ⟨rfl, rfl⟩ := q
   change EndsI _ _ _ _ _ _
   refine so [] [] [(4, cI (-1))] [] id ?_
   refine ends_ret ?_
   cases H
   exact And.intro (.inl rfl) rfl
  | inr y27 =>
   replace H := ofInr H
   intro e s q
   obtain ⟨rfl, rfl⟩ := q
   cases H
   exact And.intro (.inl rfl) rfl
def i_terrainIndex_1_ir : S :=
 (.seq (.ops [o 2 (.box 5 (.t 0)), o 3 (.mv (.v (.bool false)))])
 (.seq (.ops [o 4 (.fad 0 (.t 2)), o 5 (.load 1 false (.t 4)), o 6 (.load 1 false (.t 1)), o 7 (.bin .eql (.t 5) (.t 6)), o 3 (.mv (.t 7))])
 .ret))
noncomputable def X.i_terrainIndex_1 (p0 : TTerrain) (p1 : (List UInt8)) : Option Bool :=
 some (p0.Name == p1)
theorem i_terrainIndex_1_ok (p0 : TTerrain) (p1 : (List UInt8)) (r : Bool) (H : X.i_terrainIndex_1 p0 p1 = some r) : FnOk Tryz.prog gl 226 [.agg (eTTerrain p0), .c (.pd (eS p1) 0)] (cB r) := by
 unfold X.i_terrainIndex_1 at H
 refine fi Tryz.f226 i_terrainIndex_1_ir [(3, cB r)] [] glL Tryz.func226 ?_
 refine so [] [] [(1, .c (.pd (eS p1) 0)), (2, pk 2)] [(2, va (eTTerrain p0))] id ?_
 refine so [] [] [(3, cB (p0.Name == p1))] [] id ?_
 refine ends_ret ?_
 cases H
 exact And.intro (.inl rfl) rfl
def i_terrainIndex_ir : S :=
 (.seq (.ops [o 3 (.box 1 (.t 1)), o 4 (.mv (.v (.int .i64 0)))])
 (.seq (.ops [o 5 (.mv (.t 0)), o 6 (.clo 226 [.t 3]), o 7 (.call 225 [.t 5, .t 6]), o 4 (.mv (.t 7))])
 .ret))
noncomputable def X.i_terrainIndex (p0 : (List TTerrain)) (p1 : (List UInt8)) : Option Int :=
 ((X.g_IndexFunc_Terrain p0 (fun q0 => X.i_terrainIndex_1 q0 p1)).bind fun v1 => some v1)
theorem i_terrainIndex_ok (p0 : (List TTerrain)) (p1 : (List UInt8)) (r : Int) (H : X.i_terrainIndex p0 p1 = some r) : FnOk Tryz.prog gl 214 [.c (dat 5 eTTerrain zTTerrain p0), .c (.str p1)] (cI r) := by
 unfold X.i_terrainIndex at H
 refine fi Tryz.f214 i_terrainIndex_ir [(4, cI r)] [] glL Tryz.func214 ?_
 refine so [] [] [(0, dc 5 eTTerrain zTTerrain p0), (3, pk 3)] [(3, .var [.str p1] false)] id ?_
 obtain ⟨v1, h2, H⟩ := ofBind H
 refine so [.res (cI v1)] [] [(4, cI v1)] [] (fun t => aI (g_IndexFunc_Terrain_c1_ok p0 (226) (eS p1) (fun q0 => X.i_terrainIndex_1 q0 p1) (fun q0 r h => i_terrainIndex_1_ok q0 p1 r h) v1 h2) (t)) ?_
 refine ends_ret ?_
 cases H
 exact And.intro (.inl rfl) rfl
def i_goodKind_ir : S :=
 (.seq (.ops [o 1 (.box 6 (.t 0)), o 2 (.mv (.v (.bool false)))])
 (.seq (.ops [o 3 (.fad 0 (.t 1)), o 4 (.load 1 false (.t 3)), o 5 (.call 223 [.t 4]), o 6 (.mv (.t 5)), ⟨some 7, .fad 1 (.t 1), some (6, true)⟩, ⟨some 8, .load 1 false (.t 7), some (6, true)⟩, ⟨some 9, .call 145 [.t 8, .v (.int .i64 1), .v (.int .i64 9)], some (6, true)⟩, o 10 (.pick (.t 6) (.t 9) (.v (.bool false))), o 11 (.mv (.t 10)), ⟨some 12, .fad 2 (.t 1), some (11, true)⟩, ⟨some 13, .load 1 false (.t 12), some (11, true)⟩, ⟨some 14, .call 145 [.t 13, .v (.int .i64 0), .v (.int .i64 9)], some (11, true)⟩, o 15 (.pick (.t 11) (.t 14) (.v (.bool false))), o 16 (.mv (.t 15)), ⟨some 17, .fad 3 (.t 1), some (16, true)⟩, ⟨some 18, .load 1 false (.t 17), some (16, true)⟩, ⟨some 19, .call 145 [.t 18, .v (.int .i64 1), .v (.int .i64 4)], some (16, true)⟩, o 20 (.pick (.t 16) (.t 19) (.v (.bool false))), o 21 (.mv (.t 20)), ⟨some 22, .fad 5 (.t 1), some (21, true)⟩, ⟨some 23, .load 1 false (.t 22), some (21, true)⟩, ⟨some 24, .call 145 [.t 23, .v (.int .i64 0), .v (.int .i64 4)], some (21, true)⟩, o 25 (.pick (.t 21) (.t 24) (.v (.bool false))), o 2 (.mv (.t 25))])
 .ret))
noncomputable def X.i_goodKind (p0 : TKind) : Option Bool :=
 ((X.i_isName p0.Name).bind fun v1 => (bif v1 then ((X.i_inRange p0.Strength 1 9).bind fun v4 => (bif v4 then ((X.i_inRange p0.Moves 0 9).bind fun v7 => (bif v7 then ((X.i_inRange p0.Steps 1 4).bind fun v10 => (bif v10 then ((X.i_inRange p0.View 0 4).bind fun v13 => some v13) else some false)) else some false)) else some false)) else some false))
theorem i_goodKind_ok (p0 : TKind) (r : Bool) (H : X.i_goodKind p0 = some r) : FnOk Tryz.prog gl 215 [.agg (eTKind p0)] (cB r) := by
 unfold X.i_goodKind at H
 refine fi Tryz.f215 i_goodKind_ir [(2, cB r)] [] glL Tryz.func215 ?_
 refine so [] [] [(1, pk 1)] [(1, va (eTKind p0))] id ?_
 obtain ⟨v1, h2, H⟩ := ofBind H
 rcases ofCond H with ⟨c3, H⟩ | ⟨c3, H⟩
 ·obtain ⟨v4, h5, H⟩ := ofBind H
  rcases ofCond H with ⟨c6, H⟩ | ⟨c6, H⟩
  ·obtain ⟨v7, h8, H⟩ := ofBind H
   rcases ofCond H with ⟨c9, H⟩ | ⟨c9, H⟩
   ·obtain ⟨v10, h11, H⟩ := ofBind H
    rcases ofCond H with ⟨c12, H⟩ | ⟨c12, H⟩
    ·obtain ⟨v13, h14, H⟩ := ofBind H
     refine so [.res (cB v1), .g true, .g true, .g true, .res (cB v4), .g true, .g true, .g true, .g true, .res (cB v7), .g true, .g true, .g true, .g true, .res (cB v10), .g true, .g true, .g true, .g true, .res (cB v13), .g true] [] [(2, cB v13)] [] (fun t => aI (i_isName_ok p0.Name v1 h2) (aI c3 (aI c3 (aI c3 (aI (i_inRange_ok p0.Strength 1 9 v4 h5) (aI c3 (aI c6 (aI c6 (aI c6 (aI (i_inRange_ok p0.Moves 0 9 v7 h8) (aI c6 (aI c9 (aI c9 (aI c9 (aI (i_inRange_ok p0.Steps 1 4 v10 h11) (aI c9 (aI c12 (aI c12 (aI c12 (aI (i_inRange_ok p0.View 0 4 v13 h14) (aI c12 (t)))))))))))))))))))))) ?_
     refine ends_ret ?_
     cases H
     exact And.intro (.inl rfl) rfl
    ·refine so [.res (cB v1), .g true, .g true, .g true, .res (cB v4), .g true, .g true, .g true, .g true, .res (cB v7), .g true, .g true, .g true, .g true, .res (cB v10), .g true, .g false, .g false, .g false, .g false] [] [(2, cB false)] [] (fun t => aI (i_isName_ok p0.Name v1 h2) (aI c3 (aI c3 (aI c3 (aI (i_inRange_ok p0.Strength 1 9 v4 h5) (aI c3 (aI c6 (aI c6 (aI c6 (aI (i_inRange_ok p0.Moves 0 9 v7 h8) (aI c6 (aI c9 (aI c9 (aI c9 (aI (i_inRange_ok p0.Steps 1 4 v10 h11) (aI c9 (aI c12 (aI c12 (aI c12 (aI c12 (t))))))))))))))))))))) ?_
     refine ends_ret ?_
     cases H
     exact And.intro (.inl rfl) rfl
   ·refine so [.res (cB v1), .g true, .g true, .g true, .res (cB v4), .g true, .g true, .g true, .g true, .res (cB v7), .g true, .g false, .g false, .g false, .g false, .g false, .g false, .g false, .g false] [] [(2, cB false)] [] (fun t => aI (i_isName_ok p0.Name v1 h2) (aI c3 (aI c3 (aI c3 (aI (i_inRange_ok p0.Strength 1 9 v4 h5) (aI c3 (aI c6 (aI c6 (aI c6 (aI (i_inRange_ok p0.Moves 0 9 v7 h8) (aI c6 (aI c9 (aI c9 (aI c9 (aI c9 (aI (rfl : (false : Bool) = false) (aI (rfl : (false : Bool) = false) (aI (rfl : (false : Bool) = false) (aI (rfl : (false : Bool) = false) (t)))))))))))))))))))) ?_
    refine ends_ret ?_
    cases H
    exact And.intro (.inl rfl) rfl
  ·refine so [.res (cB v1), .g true, .g true, .g true, .res (cB v4), .g true, .g false, .g false, .g false, .g false, .g false, .g false, .g false, .g false, .g false, .g false, .g false, .g false] [] [(2, cB false)] [] (fun t => aI (i_isName_ok p0.Name v1 h2) (aI c3 (aI c3 (aI c3 (aI (i_inRange_ok p0.Strength 1 9 v4 h5) (aI c3 (aI c6 (aI c6 (aI c6 (aI c6 (aI (rfl : (false : Bool) = false) (aI (rfl : (false : Bool) = false) (aI (rfl : (false : Bool) = false) (aI (rfl : (false : Bool) = false) (aI (rfl : (false : Bool) = false) (aI (rfl : (false : Bool) = false) (aI (rfl : (false : Bool) = false) (aI (rfl : (false : Bool) = false) (t))))))))))))))))))) ?_
   refine ends_ret ?_
   cases H
   exact And.intro (.inl rfl) rfl
 ·refine so [.res (cB v1), .g false, .g false, .g false, .g false, .g false, .g false, .g false, .g false, .g false, .g false, .g false, .g false, .g false, .g false, .g false, .g false] [] [(2, cB false)] [] (fun t => aI (i_isName_ok p0.Name v1 h2) (aI c3 (aI c3 (aI c3 (aI c3 (aI (rfl : (false : Bool) = false) (aI (rfl : (false : Bool) = false) (aI (rfl : (false : Bool) = false) (aI (rfl : (false : Bool) = false) (aI (rfl : (false : Bool) = false) (aI (rfl : (false : Bool) = false) (aI (rfl : (false : Bool) = false) (aI (rfl : (false : Bool) = false) (aI (rfl : (false : Bool) = false) (aI (rfl : (false : Bool) = false) (aI (rfl : (false : Bool) = false) (aI (rfl : (false : Bool) = false) (t)))))))))))))))))) ?_
  refine ends_ret ?_
  cases H
  exact And.intro (.inl rfl) rfl
def g_IndexFunc_Kind_ir : S :=
 (.seq (.ops [o 4 (.mv (.v (.int .i64 0)))])
 (.seq (.seq (.ops [o 6 (.mv (.t 0)), o 7 (.len (.t 6)), o 8 (.mv (.v (.int .i64 0)))])
 (.blk 0 (.loop (.seq (.ops [o 9 (.bin .lss (.t 8) (.t 7))])
   (.seq (.ite (.t 9) .skip
   (.exit 0))
   (.seq (.blk 1 (.seq (.ops [o 10 (.mv (.t 8)), o 5 (.mv (.t 10))])
    (.seq (.ops [o 11 (.mv (.t 1)), o 12 (.mv (.t 0)), o 13 (.mv (.t 5)), o 14 (.iad 6 (.t 12) (.t 13)), o 15 (.load 6 true (.t 14)), o 16 (.cald (.t 11) [.t 15])])
    (.ite (.t 16) (.seq (.ops [o 17 (.mv (.t 5)), o 4 (.mv (.t 17))])
     .ret)
    .skip))))
   (.ops [o 18 (.bin .add (.t 8) (.v (.int .i64 1))), o 8 (.mv (.t 18))])))))))
 (.seq (.ops [o 4 (.mv (.v (.int .i64 (-1))))])
 .ret)))
noncomputable def X.g_IndexFunc_Kind (p0 : (List TKind)) (f1 : TKind → Option Bool) : Option Int :=
 ((loop (fun (x16 : Int) => ((bif (decide (x16 < (p0.length : Int))) then ((at' zTKind p0 x16).bind fun v19 => ((f1 v19).bind fun v21 => (bif v21 then some (Sum.inr (Sum.inr x16)) else some (Sum.inl (W (x16 + 1)))))) else some (Sum.inr (Sum.inl ()))) : Option (Int ⊕ (Unit ⊕ Int)))) 0).bind fun y24 => (Sum.elim (fun (y26 : Unit) => some (-1)) (fun (y27 : Int) => some y27) y24))
theorem g_IndexFunc_Kind_c1_ok (p0 : (List TKind)) (cf1 : FuncId) (cs1_0 : List AC) (f1 : TKind → Option Bool) (hf1 : ∀ q0 r, f1 q0 = some r → FnOk Tryz.prog gl cf1 [.agg (eTKind q0), .c (.pd cs1_0 0)] (cB r)) (r : Int) (H : X.g_IndexFunc_Kind p0 f1 = some r) : FnOk Tryz.prog gl 227 [.c (dat 6 eTKind zTKind p0), .c (.clo cf1 [.pd cs1_0 0])] (cI r) := by
 unfold X.g_IndexFunc_Kind at H
 refine fi Tryz.f227 g_IndexFunc_Kind_ir [(4, cI r)] [] glL Tryz.func227 ?_
 refine so [] [] [(0, dc 6 eTKind zTKind p0), (1, .c (.clo cf1 [.pd cs1_0 0]))] [] id ?_
 refine seq_in ?_
 refine so [] [] [(0, dc 6 eTKind zTKind p0), (1, .c (.clo cf1 [.pd cs1_0 0])), (7, cI (p0.length : Int)), (8, cI 0)] [] (fun t => lI p0 (t)) ?_
 refine ends_blk ?_
 obtain ⟨y24, h25, H⟩ := ofBind H
 refine loop_in (fun (x : Int) => lit [(0, dc 6 eTKind zTKind p0), (1, .c (.clo cf1 [.pd cs1_0 0])), (7, cI (p0.length : Int)), (8, cI x)] []) (orJ (fun (z : Unit) => At (.exit 0) (lit [] [])) (fun (z : Int) => At .ret (lit [(4, cI z)] []))) h25 ?_ ?_
 ·clear H h25
  intro x16 y0 H
  refine so [] [] [(0, dc 6 eTKind zTKind p0), (1, .c (.clo cf1 [.pd cs1_0 0])), (7, cI (p0.length : Int)), (8, cI x16), (9, cB (decide (x16 < (p0.length : Int))))] [] id ?_
  refine seq_in ?_
  rcases ofCond H with ⟨c18, H⟩ | ⟨c18, H⟩
  ·refine it c18 ?_
   refine sk ?_
   refine seq_in ?_
   refine ends_blk ?_
   refine so [] [] [(0, dc 6 eTKind zTKind p0), (1, .c (.clo cf1 [.pd cs1_0 0])), (5, cI x16), (7, cI (p0.length : Int)), (8, cI x16)] [] id ?_
   obtain ⟨v19, h20, H⟩ := ofBind H
   obtain ⟨v21, h22, H⟩ := ofBind H
   refine so [.cs (eTKind v19), .res (cB v21)] [] [(0, dc 6 eTKind zTKind p0), (1, .c (.clo cf1 [.pd cs1_0 0])), (5, cI x16), (7, cI (p0.length : Int)), (8, cI x16), (16, cB v21)] [] (fun t => aI (at_lt h20) (aI (at_enc (enc := eTKind) h20) (aI (hf1 v19 v21 h22) (t)))) ?_
   rcases ofCond H with ⟨c23, H⟩ | ⟨c23, H⟩
   ·refine it c23 ?_
    refine so [] [] [(4, cI x16)] [] id ?_
    refine ends_ret ?_
    cases H
    exact And.intro (by simp) (And.intro rfl rfl)
   ·refine jf c23 ?_
    refine sk ?_
    refine oo [] [] [(0, dc 6 eTKind zTKind p0), (1, .c (.clo cf1 [.pd cs1_0 0])), (7, cI (p0.length : Int)), (8, cI (W (x16 + 1)))] [] id ?_
    cases H
    exact And.intro rfl rfl
  ·refine jf c18 ?_
   refine tl [] [] [] id ?_
   refine ends_exit ?_
   cases H
   exact And.intro (by simp) (And.intro rfl rfl)
 ·clear h25
  cases y24 with
  | inl y26 =>
   replace H := ofInl H
   intro e s q
   obtain ⟨rfl, rfl⟩ := q
   change EndsI _ _ _ _ _ _
   refine so [] [] [(4, cI (-1))] [] id ?_
   refine ends_ret ?_
   cases H
   exact And.intro (.inl rfl) rfl
  | inr y27 =>
   replace H := ofInr H
   intro e s q
   obtain ⟨rfl, rfl⟩ := q
   cases H
   exact And.intro (.inl rfl) rfl
def i_kindIndex_1_ir : S :=
 (.seq (.ops [o 2 (.box 6 (.t 0)), o 3 (.mv (.v (.bool false)))])
 (.seq (.ops [o 4 (.fad 0 (.t 2)), o 5 (.load 1 false (.t 4)), o 6 (.load 1 false (.t 1)), o 7 (.bin .eql (.t 5) (.t 6)), o 3 (.mv (.t 7))])
 .ret))
noncomputable def X.i_kindIndex_1 (p0 : TKind) (p1 : (List UInt8)) : Option Bool :=
 some (p0.Name == p1)
theorem i_kindIndex_1_ok (p0 : TKind) (p1 : (List UInt8)) (r : Bool) (H : X.i_kindIndex_1 p0 p1 = some r) : FnOk Tryz.prog gl 228 [.agg (eTKind p0), .c (.pd (eS p1) 0)] (cB r) := by
 unfold X.i_kindIndex_1 at H
 refine fi Tryz.f228 i_kindIndex_1_ir [(3, cB r)] [] glL Tryz.func228 ?_
 refine so [] [] [(1, .c (.pd (eS p1) 0)), (2, pk 2)] [(2, va (eTKind p0))] id ?_
 refine so [] [] [(3, cB (p0.Name == p1))] [] id ?_
 refine ends_ret ?_
 cases H
 exact And.intro (.inl rfl) rfl
def i_kindIndex_ir : S :=
 (.seq (.ops [o 3 (.box 1 (.t 1)), o 4 (.mv (.v (.int .i64 0)))])
 (.seq (.ops [o 5 (.mv (.t 0)), o 6 (.clo 228 [.t 3]), o 7 (.call 227 [.t 5, .t 6]), o 4 (.mv (.t 7))])
 .ret))
noncomputable def X.i_kindIndex (p0 : (List TKind)) (p1 : (List UInt8)) : Option Int :=
 ((X.g_IndexFunc_Kind p0 (fun q0 => X.i_kindIndex_1 q0 p1)).bind fun v1 => some v1)
theorem i_kindIndex_ok (p0 : (List TKind)) (p1 : (List UInt8)) (r : Int) (H : X.i_kindIndex p0 p1 = some r) : FnOk Tryz.prog gl 216 [.c (dat 6 eTKind zTKind p0), .c (.str p1)] (cI r) := by
 unfold X.i_kindIndex at H
 refine fi Tryz.f216 i_kindIndex_ir [(4, cI r)] [] glL Tryz.func216 ?_
 refine so [] [] [(0, dc 6 eTKind zTKind p0), (3, pk 3)] [(3, .var [.str p1] false)] id ?_
 obtain ⟨v1, h2, H⟩ := ofBind H
 refine so [.res (cI v1)] [] [(4, cI v1)] [] (fun t => aI (g_IndexFunc_Kind_c1_ok p0 (228) (eS p1) (fun q0 => X.i_kindIndex_1 q0 p1) (fun q0 r h => i_kindIndex_1_ok q0 p1 r h) v1 h2) (t)) ?_
 refine ends_ret ?_
 cases H
 exact And.intro (.inl rfl) rfl
def i_IsRules_ir : S :=
 (.seq (.ops [o 1 (.box 7 (.t 0)), o 2 (.mv (.v (.bool false)))])
 (.seq (.seq (.ops [o 7 (.fad 0 (.t 1)), o 8 (.load 1 false (.t 7)), o 9 (.len (.t 8)), o 10 (.call 145 [.t 9, .v (.int .i64 1), .v (.int .i64 6)]), o 11 (.not (.t 10)), o 12 (.mv (.t 11)), ⟨some 13, .fad 1 (.t 1), some (12, false)⟩, ⟨some 14, .load 1 false (.t 13), some (12, false)⟩, ⟨some 15, .len (.t 14), some (12, false)⟩, ⟨some 16, .call 145 [.t 15, .v (.int .i64 1), .v (.int .i64 4)], some (12, false)⟩, ⟨some 17, .not (.t 16), some (12, false)⟩, o 18 (.pick (.t 12) (.v (.bool true)) (.t 17))])
 (.ite (.t 18) (.seq (.ops [o 2 (.mv (.v (.bool false)))])
  .ret)
 .skip))
 (.seq (.seq (.ops [o 19 (.fad 0 (.t 1)), o 20 (.load 1 false (.t 19)), o 21 (.len (.t 20)), o 22 (.mv (.v (.int .i64 0)))])
 (.blk 0 (.loop (.seq (.ops [o 23 (.bin .lss (.t 22) (.t 21))])
   (.seq (.ite (.t 23) .skip
   (.exit 0))
   (.seq (.blk 1 (.seq (.ops [o 24 (.mv (.t 22)), o 25 (.iad 5 (.t 20) (.t 22)), o 26 (.load 5 true (.t 25)), o 4 (.alloc [.str [], .nil, .int .i64 0, .int .i64 0, .bool false]), o 3 (.mv (.t 24)), ⟨none, .store 5 (.t 4) (.t 26), none⟩])
    (.seq (.ops [o 27 (.load 5 true (.t 4)), o 28 (.fad 1 (.t 1)), o 29 (.load 1 false (.t 28)), o 30 (.len (.t 29)), o 31 (.call 213 [.t 27, .t 30]), o 32 (.not (.t 31)), o 33 (.mv (.t 32)), ⟨some 34, .fad 0 (.t 1), some (33, false)⟩, ⟨some 35, .load 1 false (.t 34), some (33, false)⟩, ⟨some 36, .fad 0 (.t 4), some (33, false)⟩, ⟨some 37, .load 1 false (.t 36), some (33, false)⟩, ⟨some 38, .call 214 [.t 35, .t 37], some (33, false)⟩, ⟨some 39, .mv (.t 3), some (33, false)⟩, ⟨some 40, .bin .neq (.t 38) (.t 39), some (33, false)⟩, o 41 (.pick (.t 33) (.v (.bool true)) (.t 40))])
    (.ite (.t 41) (.seq (.ops [o 2 (.mv (.v (.bool false)))])
     .ret)
    .skip))))
   (.ops [o 42 (.bin .add (.t 22) (.v (.int .i64 1))), o 22 (.mv (.t 42))])))))))
 (.seq (.seq (.ops [o 43 (.fad 1 (.t 1)), o 44 (.load 1 false (.t 43)), o 45 (.len (.t 44)), o 46 (.mv (.v (.int .i64 0)))])
 (.blk 2 (.loop (.seq (.ops [o 47 (.bin .lss (.t 46) (.t 45))])
   (.seq (.ite (.t 47) .skip
   (.exit 2))
   (.seq (.blk 3 (.seq (.ops [o 48 (.mv (.t 46)), o 49 (.iad 6 (.t 44) (.t 46)), o 50 (.load 6 true (.t 49)), o 6 (.alloc [.str [], .int .i64 0, .int .i64 0, .int .i64 0, .bool false, .int .i64 0]), o 5 (.mv (.t 48)), ⟨none, .store 6 (.t 6) (.t 50), none⟩])
    (.seq (.ops [o 51 (.load 6 true (.t 6)), o 52 (.call 215 [.t 51]), o 53 (.not (.t 52)), o 54 (.mv (.t 53)), ⟨some 55, .fad 1 (.t 1), some (54, false)⟩, ⟨some 56, .load 1 false (.t 55), some (54, false)⟩, ⟨some 57, .fad 0 (.t 6), some (54, false)⟩, ⟨some 58, .load 1 false (.t 57), some (54, false)⟩, ⟨some 59, .call 216 [.t 56, .t 58], some (54, false)⟩, ⟨some 60, .mv (.t 5), some (54, false)⟩, ⟨some 61, .bin .neq (.t 59) (.t 60), some (54, false)⟩, o 62 (.pick (.t 54) (.v (.bool true)) (.t 61))])
    (.ite (.t 62) (.seq (.ops [o 2 (.mv (.v (.bool false)))])
     .ret)
    .skip))))
   (.ops [o 63 (.bin .add (.t 46) (.v (.int .i64 1))), o 46 (.mv (.t 63))])))))))
 (.seq (.ops [o 64 (.fad 2 (.t 1)), o 65 (.load 1 false (.t 64)), o 66 (.call 145 [.t 65, .v (.int .i64 1), .v (.int .i64 4)]), o 67 (.mv (.t 66)), ⟨some 68, .fad 3 (.t 1), some (67, true)⟩, ⟨some 69, .load 1 false (.t 68), some (67, true)⟩, ⟨some 70, .call 145 [.t 69, .v (.int .i64 0), .v (.int .i64 9)], some (67, true)⟩, o 71 (.pick (.t 67) (.t 70) (.v (.bool false))), o 72 (.mv (.t 71)), ⟨some 73, .fad 4 (.t 1), some (72, true)⟩, ⟨some 74, .load 1 false (.t 73), some (72, true)⟩, ⟨some 75, .call 145 [.t 74, .v (.int .i64 1), .v (.int .i64 9)], some (72, true)⟩, o 76 (.pick (.t 72) (.t 75) (.v (.bool false))), o 77 (.mv (.t 76)), ⟨some 78, .fad 5 (.t 1), some (77, true)⟩, ⟨some 79, .load 1 false (.t 78), some (77, true)⟩, ⟨some 80, .call 145 [.t 79, .v (.int .i64 0), .v (.int .i64 20)], some (77, true)⟩, o 81 (.pick (.t 77) (.t 80) (.v (.bool false))), o 82 (.mv (.t 81)), ⟨some 83, .fad 6 (.t 1), some (82, true)⟩, ⟨some 84, .load 1 false (.t 83), some (82, true)⟩, ⟨some 85, .call 145 [.t 84, .v (.int .i64 1), .v (.int .i64 30)], some (82, true)⟩, o 86 (.pick (.t 82) (.t 85) (.v (.bool false))), o 2 (.mv (.t 86))])
 .ret)))))
noncomputable def X.i_IsRules (p0 : TRules) : Option Bool :=
 ((X.i_inRange (p0.Terrains.length : Int) 1 6).bind fun v7 => (bif (!v7) then some false else ((X.i_inRange (p0.Kinds.length : Int) 1 4).bind fun v10 => (bif (!v10) then some false else ((loop (fun (x70 : Int) => ((bif (decide (x70 < (p0.Terrains.length : Int))) then ((at' zTTerrain p0.Terrains x70).bind fun v73 => ((X.i_goodTerrain v73 (p0.Kinds.length : Int)).bind fun v75 => (bif (!v75) then some (Sum.inr (Sum.inr false)) else ((X.i_terrainIndex p0.Terrains v73.Name).bind fun v78 => (bif (v78 != x70) then some (Sum.inr (Sum.inr false)) else some (Sum.inl (W (x70 + 1)))))))) else some (Sum.inr (Sum.inl ()))) : Option (Int ⊕ (Unit ⊕ Bool)))) 0).bind fun y81 => (Sum.elim (fun (y83 : Unit) => ((loop (fun (x142 : Int) => ((bif (decide (x142 < (p0.Kinds.length : Int))) then ((at' zTKind p0.Kinds x142).bind fun v145 => ((X.i_goodKind v145).bind fun v147 => (bif (!v147) then some (Sum.inr (Sum.inr false)) else ((X.i_kindIndex p0.Kinds v145.Name).bind fun v150 => (bif (v150 != x142) then some (Sum.inr (Sum.inr false)) else some (Sum.inl (W (x142 + 1)))))))) else some (Sum.inr (Sum.inl ()))) : Option (Int ⊕ (Unit ⊕ Bool)))) 0).bind fun y153 => (Sum.elim (fun (y155 : Unit) => ((X.i_inRange p0.Stack 1 4).bind fun v157 => (bif v157 then ((X.i_inRange p0.River 0 9).bind fun v160 => (bif v160 then ((X.i_inRange p0.Road 1 9).bind fun v163 => (bif v163 then ((X.i_inRange p0.Supply 0 20).bind fun v166 => (bif v166 then ((X.i_inRange p0.Turns 1 30).bind fun v169 => some v169) else some false)) else some false)) else some false)) else some false))) (fun (y156 : Bool) => some y156) y153))) (fun (y84 : Bool) => some y84) y81))))))
theorem i_IsRules_ok (p0 : TRules) (r : Bool) (H : X.i_IsRules p0 = some r) : FnOk Tryz.prog gl 193 [.agg (eTRules p0)] (cB r) := by
 unfold X.i_IsRules at H
 refine fi Tryz.f193 i_IsRules_ir [(2, cB r)] [] glL Tryz.func193 ?_
 refine so [] [] [(1, pk 1)] [(1, va (eTRules p0))] id ?_
 refine seq_in ?_
 obtain ⟨v7, h8, H⟩ := ofBind H
 rcases ofCond H with ⟨c9, H⟩ | ⟨c9, H⟩
 ·refine so [.res (cB v7), .g true, .g true, .g true, .g true, .g true, .g true] [] [(1, pk 1), (18, cB true)] [(1, va (eTRules p0))] (fun t => lI p0.Terrains (aI (i_inRange_ok (p0.Terrains.length : Int) 1 6 v7 h8) (aI c9 (aI c9 (aI c9 (aI c9 (aI c9 (aI c9 (t))))))))) ?_
  refine it (rfl : (true : Bool) = true) ?_
  refine so [] [] [(2, cB false)] [] id ?_
  refine ends_ret ?_
  cases H
  exact And.intro (.inl rfl) rfl
 ·obtain ⟨v10, h11, H⟩ := ofBind H
  refine so [.res (cB v7), .g false, .g false, .g false, .g false, .res (cB v10), .g false, .g false] [] [(1, pk 1), (18, cB (!v10))] [(1, va (eTRules p0))] (fun t => lI p0.Terrains (aI (i_inRange_ok (p0.Terrains.length : Int) 1 6 v7 h8) (aI c9 (aI c9 (aI c9 (lI p0.Kinds (aI c9 (aI (i_inRange_ok (p0.Kinds.length : Int) 1 4 v10 h11) (aI c9 (aI c9 (t))))))))))) ?_
  rcases ofCond H with ⟨c12, H⟩ | ⟨c12, H⟩
  ·refine it c12 ?_
   refine so [] [] [(2, cB false)] [] id ?_
   refine ends_ret ?_
   cases H
   exact And.intro (.inl rfl) rfl
  ·refine jf c12 ?_
   refine sk ?_
   refine seq_in ?_
   refine so [] [] [(1, pk 1), (20, dc 5 eTTerrain zTTerrain p0.Terrains), (21, cI (p0.Terrains.length : Int)), (22, cI 0)] [(1, va (eTRules p0))] (fun t => lI p0.Terrains (t)) ?_
   refine ends_blk ?_
   obtain ⟨y81, h82, H⟩ := ofBind H
   refine loop_in (fun (x : Int) => lit [(1, pk 1), (20, dc 5 eTTerrain zTTerrain p0.Terrains), (21, cI (p0.Terrains.length : Int)), (22, cI x)] [(1, va (eTRules p0))]) (orJ (fun (z : Unit) => At (.exit 0) (lit [(1, pk 1)] [(1, va (eTRules p0))])) (fun (z : Bool) => At .ret (lit [(2, cB z)] []))) h82 ?_ ?_
   ·clear H h82
    intro x70 y0 H
    refine so [] [] [(1, pk 1), (20, dc 5 eTTerrain zTTerrain p0.Terrains), (21, cI (p0.Terrains.length : Int)), (22, cI x70), (23, cB (decide (x70 < (p0.Terrains.length : Int))))] [(1, va (eTRules p0))] id ?_
    refine seq_in ?_
    rcases ofCond H with ⟨c72, H⟩ | ⟨c72, H⟩
    ·refine it c72 ?_
     refine sk ?_
     refine seq_in ?_
     refine ends_blk ?_
     obtain ⟨v73, h74, H⟩ := ofBind H
     refine so [.cs (eTTerrain v73)] [] [(1, pk 1), (3, cI x70), (4, pk 4), (20, dc 5 eTTerrain zTTerrain p0.Terrains), (21, cI (p0.Terrains.length : Int)), (22, cI x70)] [(1, va (eTRules p0)), (4, va (eTTerrain v73))] (fun t => aI (at_lt h74) (aI (at_enc (enc := eTTerrain) h74) (t))) ?_
     obtain ⟨v75, h76, H⟩ := ofBind H
     rcases ofCond H with ⟨c77, H⟩ | ⟨c77, H⟩
     ·refine so [.res (cB v75), .g true, .g true, .g true, .g true, .g true, .g true, .g true, .g true] [] [(1, pk 1), (20, dc 5 eTTerrain zTTerrain p0.Terrains), (21, cI (p0.Terrains.length : Int)), (22, cI x70), (41, cB true)] [(1, va (eTRules p0))] (fun t => lI p0.Kinds (aI (i_goodTerrain_ok v73 (p0.Kinds.length : Int) v75 h76) (aI c77 (aI c77 (aI c77 (aI c77 (aI c77 (aI c77 (aI c77 (aI c77 (t))))))))))) ?_
      refine it (rfl : (true : Bool) = true) ?_
      refine so [] [] [(2, cB false)] [] id ?_
      refine ends_ret ?_
      cases H
      exact And.intro (by simp) (And.intro rfl rfl)
     ·obtain ⟨v78, h79, H⟩ := ofBind H
      refine so [.res (cB v75), .g false, .g false, .g false, .g false, .g false, .res (cI v78), .g false, .g false, .g false] [] [(1, pk 1), (20, dc 5 eTTerrain zTTerrain p0.Terrains), (21, cI (p0.Terrains.length : Int)), (22, cI x70), (41, cB (v78 != x70))] [(1, va (eTRules p0))] (fun t => lI p0.Kinds (aI (i_goodTerrain_ok v73 (p0.Kinds.length : Int) v75 h76) (aI c77 (aI c77 (aI c77 (aI c77 (aI c77 (aI (i_terrainIndex_ok p0.Terrains v73.Name v78 h79) (aI c77 (aI c77 (aI c77 (t)))))))))))) ?_
      rcases ofCond H with ⟨c80, H⟩ | ⟨c80, H⟩
      ·refine it c80 ?_
       refine so [] [] [(2, cB false)] [] id ?_
       refine ends_ret ?_
       cases H
       exact And.intro (by simp) (And.intro rfl rfl)
      ·refine jf c80 ?_
       refine sk ?_
       refine oo [] [] [(1, pk 1), (20, dc 5 eTTerrain zTTerrain p0.Terrains), (21, cI (p0.Terrains.length : Int)), (22, cI (W (x70 + 1)))] [(1, va (eTRules p0))] id ?_
       cases H
       exact And.intro rfl rfl
    ·refine jf c72 ?_
     refine tl [] [(1, pk 1)] [(1, va (eTRules p0))] id ?_
     refine ends_exit ?_
     cases H
     exact And.intro (by simp) (And.intro rfl rfl)
   ·clear h82
    cases y81 with
    | inl y83 =>
     replace H := ofInl H
     intro e s q
     obtain ⟨rfl, rfl⟩ := q
     change EndsI _ _ _ _ _ _
     refine seq_in ?_
     refine so [] [] [(1, pk 1), (44, dc 6 eTKind zTKind p0.Kinds), (45, cI (p0.Kinds.length : Int)), (46, cI 0)] [(1, va (eTRules p0))] (fun t => lI p0.Kinds (t)) ?_
     refine ends_blk ?_
     obtain ⟨y153, h154, H⟩ := ofBind H
     refine loop_in (fun (x : Int) => lit [(1, pk 1), (44, dc 6 eTKind zTKind p0.Kinds), (45, cI (p0.Kinds.length : Int)), (46, cI x)] [(1, va (eTRules p0))]) (orJ (fun (z : Unit) => At (.exit 2) (lit [(1, pk 1)] [(1, va (eTRules p0))])) (fun (z : Bool) => At .ret (lit [(2, cB z)] []))) h154 ?_ ?_
     ·clear H h154
      intro x142 y0 H
      refine so [] [] [(1, pk 1), (44, dc 6 eTKind zTKind p0.Kinds), (45, cI (p0.Kinds.length : Int)), (46, cI x142), (47, cB (decide (x142 < (p0.Kinds.length : Int))))] [(1, va (eTRules p0))] id ?_
      refine seq_in ?_
      rcases ofCond H with ⟨c144, H⟩ | ⟨c144, H⟩
      ·refine it c144 ?_
       refine sk ?_
       refine seq_in ?_
       refine ends_blk ?_
       obtain ⟨v145, h146, H⟩ := ofBind H
       refine so [.cs (eTKind v145)] [] [(1, pk 1), (5, cI x142), (6, pk 6), (44, dc 6 eTKind zTKind p0.Kinds), (45, cI (p0.Kinds.length : Int)), (46, cI x142)] [(1, va (eTRules p0)), (6, va (eTKind v145))] (fun t => aI (at_lt h146) (aI (at_enc (enc := eTKind) h146) (t))) ?_
       obtain ⟨v147, h148, H⟩ := ofBind H
       rcases ofCond H with ⟨c149, H⟩ | ⟨c149, H⟩
       ·refine so [.res (cB v147), .g true, .g true, .g true, .g true, .g true, .g true, .g true, .g true] [] [(1, pk 1), (44, dc 6 eTKind zTKind p0.Kinds), (45, cI (p0.Kinds.length : Int)), (46, cI x142), (62, cB true)] [(1, va (eTRules p0))] (fun t => aI (i_goodKind_ok v145 v147 h148) (aI c149 (aI c149 (aI c149 (aI c149 (aI c149 (aI c149 (aI c149 (aI c149 (t)))))))))) ?_
        refine it (rfl : (true : Bool) = true) ?_
        refine so [] [] [(2, cB false)] [] id ?_
        refine ends_ret ?_
        cases H
        exact And.intro (by simp) (And.intro rfl rfl)
       ·obtain ⟨v150, h151, H⟩ := ofBind H
        refine so [.res (cB v147), .g false, .g false, .g false, .g false, .g false, .res (cI v150), .g false, .g false, .g false] [] [(1, pk 1), (44, dc 6 eTKind zTKind p0.Kinds), (45, cI (p0.Kinds.length : Int)), (46, cI x142), (62, cB (v150 != x142))] [(1, va (eTRules p0))] (fun t => aI (i_goodKind_ok v145 v147 h148) (aI c149 (aI c149 (aI c149 (aI c149 (aI c149 (aI (i_kindIndex_ok p0.Kinds v145.Name v150 h151) (aI c149 (aI c149 (aI c149 (t))))))))))) ?_
        rcases ofCond H with ⟨c152, H⟩ | ⟨c152, H⟩
        ·refine it c152 ?_
         refine so [] [] [(2, cB false)] [] id ?_
         refine ends_ret ?_
         cases H
         exact And.intro (by simp) (And.intro rfl rfl)
        ·refine jf c152 ?_
         refine sk ?_
         refine oo [] [] [(1, pk 1), (44, dc 6 eTKind zTKind p0.Kinds), (45, cI (p0.Kinds.length : Int)), (46, cI (W (x142 + 1)))] [(1, va (eTRules p0))] id ?_
         cases H
         exact And.intro rfl rfl
      ·refine jf c144 ?_
       refine tl [] [(1, pk 1)] [(1, va (eTRules p0))] id ?_
       refine ends_exit ?_
       cases H
       exact And.intro (by simp) (And.intro rfl rfl)
     ·clear h154
      cases y153 with
      | inl y155 =>
       replace H := ofInl H
       intro e s q
       obtain ⟨rfl, rfl⟩ := q
       change EndsI _ _ _ _ _ _
       obtain ⟨v157, h158, H⟩ := ofBind H
       rcases ofCond H with ⟨c159, H⟩ | ⟨c159, H⟩
       ·obtain ⟨v160, h161, H⟩ := ofBind H
        rcases ofCond H with ⟨c162, H⟩ | ⟨c162, H⟩
        ·obtain ⟨v163, h164, H⟩ := ofBind H
         rcases ofCond H with ⟨c165, H⟩ | ⟨c165, H⟩
         ·obtain ⟨v166, h167, H⟩ := ofBind H
          rcases ofCond H with ⟨c168, H⟩ | ⟨c168, H⟩
          ·obtain ⟨v169, h170, H⟩ := ofBind H
           refine so [.res (cB v157), .g true, .g true, .g true, .res (cB v160), .g true, .g true, .g true, .g true, .res (cB v163), .g true, .g true, .g true, .g true, .res (cB v166), .g true, .g true, .g true, .g true, .res (cB v169), .g true] [] [(2, cB v169)] [] (fun t => aI (i_inRange_ok p0.Stack 1 4 v157 h158) (aI c159 (aI c159 (aI c159 (aI (i_inRange_ok p0.River 0 9 v160 h161) (aI c159 (aI c162 (aI c162 (aI c162 (aI (i_inRange_ok p0.Road 1 9 v163 h164) (aI c162 (aI c165 (aI c165 (aI c165 (aI (i_inRange_ok p0.Supply 0 20 v166 h167) (aI c165 (aI c168 (aI c168 (aI c168 (aI (i_inRange_ok p0.Turns 1 30 v169 h170) (aI c168 (t)))))))))))))))))))))) ?_
           refine ends_ret ?_
           cases H
           exact And.intro (.inl rfl) rfl
          ·refine so [.res (cB v157), .g true, .g true, .g true, .res (cB v160), .g true, .g true, .g true, .g true, .res (cB v163), .g true, .g true, .g true, .g true, .res (cB v166), .g true, .g false, .g false, .g false, .g false] [] [(2, cB false)] [] (fun t => aI (i_inRange_ok p0.Stack 1 4 v157 h158) (aI c159 (aI c159 (aI c159 (aI (i_inRange_ok p0.River 0 9 v160 h161) (aI c159 (aI c162 (aI c162 (aI c162 (aI (i_inRange_ok p0.Road 1 9 v163 h164) (aI c162 (aI c165 (aI c165 (aI c165 (aI (i_inRange_ok p0.Supply 0 20 v166 h167) (aI c165 (aI c168 (aI c168 (aI c168 (aI c168 (t))))))))))))))))))))) ?_
           refine ends_ret ?_
           cases H
           exact And.intro (.inl rfl) rfl
         ·refine so [.res (cB v157), .g true, .g true, .g true, .res (cB v160), .g true, .g true, .g true, .g true, .res (cB v163), .g true, .g false, .g false, .g false, .g false, .g false, .g false, .g false, .g false] [] [(2, cB false)] [] (fun t => aI (i_inRange_ok p0.Stack 1 4 v157 h158) (aI c159 (aI c159 (aI c159 (aI (i_inRange_ok p0.River 0 9 v160 h161) (aI c159 (aI c162 (aI c162 (aI c162 (aI (i_inRange_ok p0.Road 1 9 v163 h164) (aI c162 (aI c165 (aI c165 (aI c165 (aI c165 (aI (rfl : (false : Bool) = false) (aI (rfl : (false : Bool) = false) (aI (rfl : (false : Bool) = false) (aI (rfl : (false : Bool) = false) (t)))))))))))))))))))) ?_
          refine ends_ret ?_
          cases H
          exact And.intro (.inl rfl) rfl
        ·refine so [.res (cB v157), .g true, .g true, .g true, .res (cB v160), .g true, .g false, .g false, .g false, .g false, .g false, .g false, .g false, .g false, .g false, .g false, .g false, .g false] [] [(2, cB false)] [] (fun t => aI (i_inRange_ok p0.Stack 1 4 v157 h158) (aI c159 (aI c159 (aI c159 (aI (i_inRange_ok p0.River 0 9 v160 h161) (aI c159 (aI c162 (aI c162 (aI c162 (aI c162 (aI (rfl : (false : Bool) = false) (aI (rfl : (false : Bool) = false) (aI (rfl : (false : Bool) = false) (aI (rfl : (false : Bool) = false) (aI (rfl : (false : Bool) = false) (aI (rfl : (false : Bool) = false) (aI (rfl : (false : Bool) = false) (aI (rfl : (false : Bool) = false) (t))))))))))))))))))) ?_
         refine ends_ret ?_
         cases H
         exact And.intro (.inl rfl) rfl
       ·refine so [.res (cB v157), .g false, .g false, .g false, .g false, .g false, .g false, .g false, .g false, .g false, .g false, .g false, .g false, .g false, .g false, .g false, .g false] [] [(2, cB false)] [] (fun t => aI (i_inRange_ok p0.Stack 1 4 v157 h158) (aI c159 (aI c159 (aI c159 (aI c159 (aI (rfl : (false : Bool) = false) (aI (rfl : (false : Bool) = false) (aI (rfl : (false : Bool) = false) (aI (rfl : (false : Bool) = false) (aI (rfl : (false : Bool) = false) (aI (rfl : (false : Bool) = false) (aI (rfl : (false : Bool) = false) (aI (rfl : (false : Bool) = false) (aI (rfl : (false : Bool) = false) (aI (rfl : (false : Bool) = false) (aI (rfl : (false : Bool) = false) (aI (rfl : (false : Bool) = false) (t)))))))))))))))))) ?_
        refine ends_ret ?_
        cases H
        exact And.intro (.inl rfl) rfl
      | inr y156 =>
       replace H := ofInr H
       intro e s q
       obtain ⟨rfl, rfl⟩ := q
       cases H
       exact And.intro (.inl rfl) rfl
    | inr y84 =>
     replace H := ofInr H
     intro e s q
     obtain ⟨rfl, rfl⟩ := q
     cases H
     exact And.intro (.inl rfl) rfl
def i_isIndex_ir : S :=
 (.seq (.ops [o 4 (.mv (.v (.bool false)))])
 (.seq (.ops [o 5 (.mv (.t 0)), o 6 (.mv (.t 1)), o 7 (.bin .sub (.t 6) (.v (.int .i64 1))), o 8 (.call 145 [.t 5, .v (.int .i64 0), .t 7]), o 4 (.mv (.t 8))])
 .ret))
noncomputable def X.i_isIndex (p0 : Int) (p1 : Int) : Option Bool :=
 ((X.i_inRange p0 0 (W (p1 - 1))).bind fun v1 => some v1)
theorem i_isIndex_ok (p0 : Int) (p1 : Int) (r : Bool) (H : X.i_isIndex p0 p1 = some r) : FnOk Tryz.prog gl 115 [cI p0, cI p1] (cB r) := by
 unfold X.i_isIndex at H
 refine fi Tryz.f115 i_isIndex_ir [(4, cB r)] [] glL Tryz.func115 ?_
 refine so [] [] [(0, cI p0), (1, cI p1)] [] id ?_
 obtain ⟨v1, h2, H⟩ := ofBind H
 refine so [.res (cB v1)] [] [(4, cB v1)] [] (fun t => aI (i_inRange_ok p0 0 (W (p1 - 1)) v1 h2) (t)) ?_
 refine ends_ret ?_
 cases H
 exact And.intro (.inl rfl) rfl
def i_increasing_ir : S :=
 (.seq (.ops [o 2 (.mv (.v (.bool false)))])
 (.seq (.seq (.ops [o 3 (.mv (.v (.int .i64 1)))])
 (.blk 0 (.loop (.seq (.seq (.ops [o 4 (.mv (.t 3)), o 5 (.mv (.t 0)), o 6 (.len (.t 5)), o 7 (.bin .lss (.t 4) (.t 6))])
   (.ite (.t 7) .skip
   (.exit 0)))
   (.seq (.blk 1 (.seq (.draw 10 [o 10 (.mv (.t 0)), o 11 (.mv (.t 3)), o 12 (.bin .sub (.t 11) (.v (.int .i64 1))), o 13 (.iad 1 (.t 10) (.t 12)), o 14 (.load 1 false (.t 13)), o 15 (.mv (.t 0)), o 16 (.mv (.t 3)), o 17 (.iad 1 (.t 15) (.t 16)), o 18 (.load 1 false (.t 17)), o 19 (.bin .geq (.t 14) (.t 18))])
    (.ite (.t 19) (.seq (.ops [o 2 (.mv (.v (.bool false)))])
     .ret)
    .skip)))
   (.ops [o 8 (.mv (.t 3)), o 9 (.bin .add (.t 8) (.v (.int .i64 1))), o 3 (.mv (.t 9))]))))))
 (.seq (.ops [o 2 (.mv (.v (.bool true)))])
 .ret)))
noncomputable def X.i_increasing (p0 : (List Int)) : Option Bool :=
 ((loop (fun (x16 : Int) => ((bif (decide (x16 < (p0.length : Int))) then ((at' zI p0 (W (x16 - 1))).bind fun v19 => ((at' zI p0 x16).bind fun v21 => (bif (decide (v19 ≥ v21)) then some (Sum.inr (Sum.inr false)) else some (Sum.inl (W (x16 + 1)))))) else some (Sum.inr (Sum.inl ()))) : Option (Int ⊕ (Unit ⊕ Bool)))) 1).bind fun y24 => (Sum.elim (fun (y26 : Unit) => some true) (fun (y27 : Bool) => some y27) y24))
theorem i_increasing_ok (p0 : (List Int)) (r : Bool) (H : X.i_increasing p0 = some r) : FnOk Tryz.prog gl 147 [.c (dat 1 eI zI p0)] (cB r) := by
 unfold X.i_increasing at H
 refine fi Tryz.f147 i_increasing_ir [(2, cB r)] [] glL Tryz.func147 ?_
 refine so [] [] [(0, dc 1 eI zI p0)] [] id ?_
 refine seq_in ?_
 refine so [] [] [(0, dc 1 eI zI p0), (3, cI 1)] [] id ?_
 refine ends_blk ?_
 obtain ⟨y24, h25, H⟩ := ofBind H
 refine loop_in (fun (x : Int) => lit [(0, dc 1 eI zI p0), (3, cI x)] []) (orJ (fun (z : Unit) => At (.exit 0) (lit [] [])) (fun (z : Bool) => At .ret (lit [(2, cB z)] []))) h25 ?_ ?_
 ·clear H h25
  intro x16 y0 H
  refine seq_in ?_
  refine so [] [] [(0, dc 1 eI zI p0), (3, cI x16), (7, cB (decide (x16 < (p0.length : Int))))] [] (fun t => lI p0 (t)) ?_
  rcases ofCond H with ⟨c18, H⟩ | ⟨c18, H⟩
  ·refine it c18 ?_
   refine sk ?_
   refine seq_in ?_
   refine ends_blk ?_
   obtain ⟨v19, h20, H⟩ := ofBind H
   obtain ⟨v21, h22, H⟩ := ofBind H
   refine sd [.cs (eI v19), .cs (eI v21)] [] [(0, dc 1 eI zI p0), (3, cI x16), (19, cB (decide (v19 ≥ v21)))] [] (fun t => aI (at_lt h20) (aI (at_enc (enc := eI) h20) (aI (rfl : ([] : List Nat) = []) (aI (at_lt h22) (aI (at_enc (enc := eI) h22) (aI (rfl : ([] : List Nat) = []) (t))))))) ?_
   rcases ofCond H with ⟨c23, H⟩ | ⟨c23, H⟩
   ·refine it c23 ?_
    refine so [] [] [(2, cB false)] [] id ?_
    refine ends_ret ?_
    cases H
    exact And.intro (by simp) (And.intro rfl rfl)
   ·refine jf c23 ?_
    refine sk ?_
    refine oo [] [] [(0, dc 1 eI zI p0), (3, cI (W (x16 + 1)))] [] id ?_
    cases H
    exact And.intro rfl rfl
  ·refine jf c18 ?_
   refine tl [] [] [] id ?_
   refine ends_exit ?_
   cases H
   exact And.intro (by simp) (And.intro rfl rfl)
 ·clear h25
  cases y24 with
  | inl y26 =>
   replace H := ofInl H
   intro e s q
   obtain ⟨rfl, rfl⟩ := q
   change EndsI _ _ _ _ _ _
   refine so [] [] [(2, cB true)] [] id ?_
   refine ends_ret ?_
   cases H
   exact And.intro (.inl rfl) rfl
  | inr y27 =>
   replace H := ofInr H
   intro e s q
   obtain ⟨rfl, rfl⟩ := q
   cases H
   exact And.intro (.inl rfl) rfl
def i_indexOf_ir : S :=
 (.seq (.ops [o 2 (.box 5 (.t 0)), o 3 (.box 2 (.t 1)), o 4 (.mv (.v (.int .i64 0)))])
 (.seq (.seq (.ops [o 5 (.fad 0 (.t 3)), o 6 (.load 1 false (.t 5)), o 7 (.fad 0 (.t 2)), o 8 (.load 1 false (.t 7)), o 9 (.call 115 [.t 6, .t 8]), o 10 (.not (.t 9)), o 11 (.mv (.t 10)), ⟨some 12, .fad 1 (.t 3), some (11, false)⟩, ⟨some 13, .load 1 false (.t 12), some (11, false)⟩, ⟨some 14, .fad 1 (.t 2), some (11, false)⟩, ⟨some 15, .load 1 false (.t 14), some (11, false)⟩, ⟨some 16, .call 115 [.t 13, .t 15], some (11, false)⟩, ⟨some 17, .not (.t 16), some (11, false)⟩, o 18 (.pick (.t 11) (.v (.bool true)) (.t 17))])
 (.ite (.t 18) (.seq (.ops [o 4 (.mv (.v (.int .i64 (-1))))])
  .ret)
 .skip))
 (.seq (.ops [o 19 (.fad 1 (.t 3)), o 20 (.load 1 false (.t 19)), o 21 (.fad 0 (.t 2)), o 22 (.load 1 false (.t 21)), o 23 (.bin .mul (.t 20) (.t 22)), o 24 (.fad 0 (.t 3)), o 25 (.load 1 false (.t 24)), o 26 (.bin .add (.t 23) (.t 25)), o 4 (.mv (.t 26))])
 .ret)))
noncomputable def X.i_indexOf (p0 : TMap) (p1 : THex) : Option Int :=
 ((X.i_isIndex p1.Q p0.Width).bind fun v7 => (bif (!v7) then some (-1) else ((X.i_isIndex p1.R p0.Height).bind fun v10 => (bif (!v10) then some (-1) else some (W ((W (p1.R * p0.Width)) + p1.Q))))))
theorem i_indexOf_ok (p0 : TMap) (p1 : THex) (r : Int) (H : X.i_indexOf p0 p1 = some r) : FnOk Tryz.prog gl 182 [.agg (eTMap p0), .agg (eTHex p1)] (cI r) := by
 unfold X.i_indexOf at H
 refine fi Tryz.f182 i_indexOf_ir [(4, cI r)] [] glL Tryz.func182 ?_
 refine so [] [] [(2, pk 2), (3, pk 3)] [(2, va (eTMap p0)), (3, va (eTHex p1))] id ?_
 refine seq_in ?_
 obtain ⟨v7, h8, H⟩ := ofBind H
 rcases ofCond H with ⟨c9, H⟩ | ⟨c9, H⟩
 ·refine so [.res (cB v7), .g true, .g true, .g true, .g true, .g true, .g true, .g true] [] [(2, pk 2), (3, pk 3), (18, cB true)] [(2, va (eTMap p0)), (3, va (eTHex p1))] (fun t => aI (i_isIndex_ok p1.Q p0.Width v7 h8) (aI c9 (aI c9 (aI c9 (aI c9 (aI c9 (aI c9 (aI c9 (t))))))))) ?_
  refine it (rfl : (true : Bool) = true) ?_
  refine so [] [] [(4, cI (-1))] [] id ?_
  refine ends_ret ?_
  cases H
  exact And.intro (.inl rfl) rfl
 ·obtain ⟨v10, h11, H⟩ := ofBind H
  refine so [.res (cB v7), .g false, .g false, .g false, .g false, .g false, .res (cB v10), .g false, .g false] [] [(2, pk 2), (3, pk 3), (18, cB (!v10))] [(2, va (eTMap p0)), (3, va (eTHex p1))] (fun t => aI (i_isIndex_ok p1.Q p0.Width v7 h8) (aI c9 (aI c9 (aI c9 (aI c9 (aI c9 (aI (i_isIndex_ok p1.R p0.Height v10 h11) (aI c9 (aI c9 (t)))))))))) ?_
  rcases ofCond H with ⟨c12, H⟩ | ⟨c12, H⟩
  ·refine it c12 ?_
   refine so [] [] [(4, cI (-1))] [] id ?_
   refine ends_ret ?_
   cases H
   exact And.intro (.inl rfl) rfl
  ·refine jf c12 ?_
   refine sk ?_
   refine so [] [] [(4, cI (W ((W (p1.R * p0.Width)) + p1.Q)))] [] id ?_
   refine ends_ret ?_
   cases H
   exact And.intro (.inl rfl) rfl
def i_stepBy_ir : S :=
 (.seq (.ops [o 3 (.box 2 (.t 0)), o 6 (.alloc [.int .i64 0, .int .i64 0])])
 (.seq (.draw 19 [o 7 (.fad 0 (.t 3)), o 8 (.load 1 false (.t 7)), o 9 (.mv (.t 2)), o 10 (.mv (.t 1)), o 11 (.iar 6 2 (.g 0) (.t 10)), o 12 (.fad 0 (.t 11)), o 13 (.load 1 false (.t 12)), o 14 (.bin .mul (.t 9) (.t 13)), o 15 (.bin .add (.t 8) (.t 14)), o 16 (.fad 1 (.t 3)), o 17 (.load 1 false (.t 16)), o 18 (.mv (.t 2)), o 19 (.mv (.t 1)), o 20 (.iar 6 2 (.g 0) (.t 19)), o 21 (.fad 1 (.t 20)), o 22 (.load 1 false (.t 21)), o 23 (.bin .mul (.t 18) (.t 22)), o 24 (.bin .add (.t 17) (.t 23)), o 25 (.build [.int .i64 0, .int .i64 0] [(0, 1, .t 15), (1, 1, .t 24)]), ⟨none, .store 2 (.t 6) (.t 25), none⟩])
 .ret))
noncomputable def X.i_stepBy (p0 : THex) (p1 : Int) (p2 : Int) : Option THex :=
 ((at' zTHex dirs p1).bind fun v1 => some (THex.mk (W (p0.Q + (W (p2 * v1.Q)))) (W (p0.R + (W (p2 * v1.R))))))
theorem i_stepBy_ok (p0 : THex) (p1 : Int) (p2 : Int) (r : THex) (H : X.i_stepBy p0 p1 p2 = some r) : FnOk Tryz.prog gl 183 [.agg (eTHex p0), cI p1, cI p2] (.agg (eTHex r)) := by
 unfold X.i_stepBy at H
 refine fi Tryz.f183 i_stepBy_ir [(6, pk 6)] [(6, va (eTHex r))] glL Tryz.func183 ?_
 refine so [] [] [(1, cI p1), (2, cI p2), (3, pk 3), (6, pk 6)] [(3, va (eTHex p0)), (6, .var [.int .i64 0, .int .i64 0] false)] id ?_
 obtain ⟨v1, h2, H⟩ := ofBind H
 refine sd [.cs (eTHex v1), .cs (eTHex v1)] [] [(6, pk 6)] [(6, .var [.int .i64 (W (p0.Q + (W (p2 * v1.Q)))), .int .i64 (W (p0.R + (W (p2 * v1.R))))] false)] (fun t => aI (at_lt h2) (aI (dirs_at h2) (aI (rfl : ([] : List Nat) = []) (aI (at_lt h2) (aI (dirs_at h2) (aI (rfl : ([] : List Nat) = []) (t))))))) ?_
 refine ends_ret ?_
 cases H
 exact And.intro (.inl rfl) rfl
def i_hexOf_ir : S :=
 (.seq (.ops [o 2 (.box 5 (.t 0)), o 4 (.alloc [.int .i64 0, .int .i64 0])])
 (.seq (.draw 9 [o 5 (.mv (.t 1)), o 6 (.fad 0 (.t 2)), o 7 (.load 1 false (.t 6)), o 8 (.bin .rem (.t 5) (.t 7)), o 9 (.mv (.t 1)), o 10 (.fad 0 (.t 2)), o 11 (.load 1 false (.t 10)), o 12 (.bin .quo (.t 9) (.t 11)), o 13 (.build [.int .i64 0, .int .i64 0] [(0, 1, .t 8), (1, 1, .t 12)]), ⟨none, .store 2 (.t 4) (.t 13), none⟩])
 .ret))
noncomputable def X.i_hexOf (p0 : TMap) (p1 : Int) : Option THex :=
 (if p0.Width ≠ 0 then (if p0.Width ≠ 0 then some (THex.mk (Int.tmod p1 p0.Width) (W (Int.tdiv p1 p0.Width))) else none) else none)
theorem i_hexOf_ok (p0 : TMap) (p1 : Int) (r : THex) (H : X.i_hexOf p0 p1 = some r) : FnOk Tryz.prog gl 184 [.agg (eTMap p0), cI p1] (.agg (eTHex r)) := by
 unfold X.i_hexOf at H
 refine fi Tryz.f184 i_hexOf_ir [(4, pk 4)] [(4, va (eTHex r))] glL Tryz.func184 ?_
 refine so [] [] [(1, cI p1), (2, pk 2), (4, pk 4)] [(2, va (eTMap p0)), (4, .var [.int .i64 0, .int .i64 0] false)] id ?_
 obtain ⟨g1, H⟩ := ofIf H
 obtain ⟨g2, H⟩ := ofIf H
 refine sd [] [] [(4, pk 4)] [(4, .var [.int .i64 (Int.tmod p1 p0.Width), .int .i64 (W (Int.tdiv p1 p0.Width))] false)] (fun t => aI g1 (aI g2 (t))) ?_
 refine ends_ret ?_
 cases H
 exact And.intro (.inl rfl) rfl
def i_nextTo_ir : S :=
 (.seq (.ops [o 3 (.box 5 (.t 0)), o 6 (.mv (.v (.int .i64 0)))])
 (.seq (.draw 8 [o 7 (.load 5 true (.t 3)), o 8 (.load 5 true (.t 3)), o 9 (.mv (.t 1)), o 10 (.call 184 [.t 8, .t 9]), o 11 (.mv (.t 2)), o 12 (.call 183 [.t 10, .t 11, .v (.int .i64 1)]), o 13 (.call 182 [.t 7, .t 12]), o 6 (.mv (.t 13))])
 .ret))
noncomputable def X.i_nextTo (p0 : TMap) (p1 : Int) (p2 : Int) : Option Int :=
 ((X.i_hexOf p0 p1).bind fun v1 => ((X.i_stepBy v1 p2 1).bind fun v3 => ((X.i_indexOf p0 v3).bind fun v5 => some v5)))
theorem i_nextTo_ok (p0 : TMap) (p1 : Int) (p2 : Int) (r : Int) (H : X.i_nextTo p0 p1 p2 = some r) : FnOk Tryz.prog gl 133 [.agg (eTMap p0), cI p1, cI p2] (cI r) := by
 unfold X.i_nextTo at H
 refine fi Tryz.f133 i_nextTo_ir [(6, cI r)] [] glL Tryz.func133 ?_
 refine so [] [] [(1, cI p1), (2, cI p2), (3, pk 3)] [(3, va (eTMap p0))] id ?_
 obtain ⟨v1, h2, H⟩ := ofBind H
 obtain ⟨v3, h4, H⟩ := ofBind H
 obtain ⟨v5, h6, H⟩ := ofBind H
 refine sd [.res (.agg (eTHex v1)), .res (.agg (eTHex v3)), .res (cI v5)] [] [(6, cI v5)] [] (fun t => aI (i_hexOf_ok p0 p1 v1 h2) (aI trivial (aI (rfl : ([] : List Nat) = []) (aI (i_stepBy_ok v1 p2 1 v3 h4) (aI trivial (aI (rfl : ([] : List Nat) = []) (aI (i_indexOf_ok p0 v3 v5 h6) (aI trivial (aI (rfl : ([] : List Nat) = []) (t)))))))))) ?_
 refine ends_ret ?_
 cases H
 exact And.intro (.inl rfl) rfl
def i_isEdge_ir : S :=
 (.seq (.ops [o 2 (.box 5 (.t 0)), o 4 (.mv (.v (.bool false)))])
 (.seq (.ops [o 5 (.mv (.t 1)), o 6 (.fad 0 (.t 2)), o 7 (.load 1 false (.t 6)), o 8 (.bin .mul (.v (.int .i64 3)) (.t 7)), o 9 (.fad 1 (.t 2)), o 10 (.load 1 false (.t 9)), o 11 (.bin .mul (.t 8) (.t 10)), o 12 (.bin .sub (.t 11) (.v (.int .i64 1))), o 13 (.call 145 [.t 5, .v (.int .i64 0), .t 12]), o 14 (.mv (.t 13)), ⟨some 15, .load 5 true (.t 2), some (14, true)⟩, ⟨some 16, .mv (.t 1), some (14, true)⟩, ⟨some 17, .bin .quo (.t 16) (.v (.int .i64 3)), some (14, true)⟩, ⟨some 18, .mv (.t 1), some (14, true)⟩, ⟨some 19, .bin .rem (.t 18) (.v (.int .i64 3)), some (14, true)⟩, ⟨some 20, .call 133 [.t 15, .t 17, .t 19], some (14, true)⟩, ⟨some 21, .bin .geq (.t 20) (.v (.int .i64 0)), some (14, true)⟩, o 22 (.pick (.t 14) (.t 21) (.v (.bool false))), o 4 (.mv (.t 22))])
 .ret))
noncomputable def X.i_isEdge (p0 : TMap) (p1 : Int) : Option Bool :=
 ((X.i_inRange p1 0 (W ((W ((W (3 * p0.Width)) * p0.Height)) - 1))).bind fun v1 => (bif v1 then ((X.i_nextTo p0 (W (Int.tdiv p1 3)) (Int.tmod p1 3)).bind fun v4 => some (decide (v4 ≥ 0))) else some false))
theorem i_isEdge_ok (p0 : TMap) (p1 : Int) (r : Bool) (H : X.i_isEdge p0 p1 = some r) : FnOk Tryz.prog gl 217 [.agg (eTMap p0), cI p1] (cB r) := by
 unfold X.i_isEdge at H
 refine fi Tryz.f217 i_isEdge_ir [(4, cB r)] [] glL Tryz.func217 ?_
 refine so [] [] [(1, cI p1), (2, pk 2)] [(2, va (eTMap p0))] id ?_
 obtain ⟨v1, h2, H⟩ := ofBind H
 rcases ofCond H with ⟨c3, H⟩ | ⟨c3, H⟩
 ·obtain ⟨v4, h5, H⟩ := ofBind H
  refine so [.res (cB v1), .g true, .g true, .g true, .g true, .g true, .g true, .res (cI v4), .g true, .g true] [] [(4, cB (decide (v4 ≥ 0)))] [] (fun t => aI (i_inRange_ok p1 0 (W ((W ((W (3 * p0.Width)) * p0.Height)) - 1)) v1 h2) (aI c3 (aI c3 (aI c3 (aI (by decide : (3 : Int) ≠ 0) (aI c3 (aI c3 (aI (by decide : (3 : Int) ≠ 0) (aI c3 (aI (i_nextTo_ok p0 (W (Int.tdiv p1 3)) (Int.tmod p1 3) v4 h5) (aI c3 (aI c3 (t))))))))))))) ?_
  refine ends_ret ?_
  cases H
  exact And.intro (.inl rfl) rfl
 ·refine so [.res (cB v1), .g false, .g false, .g false, .g false, .g false, .g false, .g false, .g false] [] [(4, cB false)] [] (fun t => aI (i_inRange_ok p1 0 (W ((W ((W (3 * p0.Width)) * p0.Height)) - 1)) v1 h2) (aI c3 (aI c3 (aI c3 (aI c3 (aI c3 (aI c3 (aI c3 (aI c3 (t)))))))))) ?_
  refine ends_ret ?_
  cases H
  exact And.intro (.inl rfl) rfl
def i_IsMap_ir : S :=
 (.seq (.ops [o 1 (.box 5 (.t 0)), o 2 (.mv (.v (.bool false)))])
 (.seq (.seq (.ops [o 9 (.fad 0 (.t 1)), o 10 (.load 1 false (.t 9)), o 11 (.call 145 [.t 10, .v (.int .i64 1), .v (.int .i64 10)]), o 12 (.not (.t 11)), o 13 (.mv (.t 12)), ⟨some 14, .fad 1 (.t 1), some (13, false)⟩, ⟨some 15, .load 1 false (.t 14), some (13, false)⟩, ⟨some 16, .call 145 [.t 15, .v (.int .i64 1), .v (.int .i64 10)], some (13, false)⟩, ⟨some 17, .not (.t 16), some (13, false)⟩, o 18 (.pick (.t 13) (.v (.bool true)) (.t 17)), o 19 (.mv (.t 18)), ⟨some 20, .fad 2 (.t 1), some (19, false)⟩, ⟨some 21, .load 1 false (.t 20), some (19, false)⟩, ⟨some 22, .len (.t 21), some (19, false)⟩, ⟨some 23, .fad 0 (.t 1), some (19, false)⟩, ⟨some 24, .load 1 false (.t 23), some (19, false)⟩, ⟨some 25, .fad 1 (.t 1), some (19, false)⟩, ⟨some 26, .load 1 false (.t 25), some (19, false)⟩, ⟨some 27, .bin .mul (.t 24) (.t 26), some (19, false)⟩, ⟨some 28, .bin .neq (.t 22) (.t 27), some (19, false)⟩, o 29 (.pick (.t 19) (.v (.bool true)) (.t 28))])
 (.ite (.t 29) (.seq (.ops [o 2 (.mv (.v (.bool false)))])
  .ret)
 .skip))
 (.seq (.seq (.ops [o 30 (.fad 2 (.t 1)), o 31 (.load 1 false (.t 30)), o 32 (.len (.t 31)), o 33 (.mv (.v (.int .i64 0)))])
 (.blk 0 (.loop (.seq (.ops [o 34 (.bin .lss (.t 33) (.t 32))])
   (.seq (.ite (.t 34) .skip
   (.exit 0))
   (.seq (.blk 1 (.seq (.ops [o 35 (.iad 1 (.t 31) (.t 33)), o 36 (.load 1 false (.t 35)), o 4 (.mv (.t 36))])
    (.seq (.ops [o 37 (.mv (.t 4)), o 38 (.call 115 [.t 37, .v (.int .i64 6)]), o 39 (.not (.t 38))])
    (.ite (.t 39) (.seq (.ops [o 2 (.mv (.v (.bool false)))])
     .ret)
    .skip))))
   (.ops [o 40 (.bin .add (.t 33) (.v (.int .i64 1))), o 33 (.mv (.t 40))])))))))
 (.seq (.seq (.ops [o 41 (.fad 3 (.t 1)), o 42 (.load 1 false (.t 41)), o 43 (.fad 4 (.t 1)), o 44 (.load 1 false (.t 43)), o 45 (.bsl 1 [.t 42, .t 44]), o 46 (.len (.t 45)), o 47 (.mv (.v (.int .i64 0)))])
 (.blk 2 (.loop (.seq (.ops [o 48 (.bin .lss (.t 47) (.t 46))])
   (.seq (.ite (.t 48) .skip
   (.exit 2))
   (.seq (.blk 3 (.seq (.ops [o 49 (.iad 1 (.t 45) (.t 47)), o 50 (.load 1 false (.t 49)), o 6 (.mv (.t 50))])
    (.seq (.seq (.ops [o 51 (.mv (.t 6)), o 52 (.call 147 [.t 51]), o 53 (.not (.t 52))])
    (.ite (.t 53) (.seq (.ops [o 2 (.mv (.v (.bool false)))])
     .ret)
    .skip))
    (.seq (.ops [o 54 (.mv (.t 6)), o 55 (.len (.t 54)), o 56 (.mv (.v (.int .i64 0)))])
    (.blk 4 (.loop (.seq (.ops [o 57 (.bin .lss (.t 56) (.t 55))])
      (.seq (.ite (.t 57) .skip
      (.exit 4))
      (.seq (.blk 5 (.seq (.ops [o 58 (.iad 1 (.t 54) (.t 56)), o 59 (.load 1 false (.t 58)), o 8 (.mv (.t 59))])
       (.seq (.ops [o 60 (.load 5 true (.t 1)), o 61 (.mv (.t 8)), o 62 (.call 217 [.t 60, .t 61]), o 63 (.not (.t 62))])
       (.ite (.t 63) (.seq (.ops [o 2 (.mv (.v (.bool false)))])
        .ret)
       .skip))))
      (.ops [o 64 (.bin .add (.t 56) (.v (.int .i64 1))), o 56 (.mv (.t 64))]))))))))))
   (.ops [o 65 (.bin .add (.t 47) (.v (.int .i64 1))), o 47 (.mv (.t 65))])))))))
 (.seq (.ops [o 2 (.mv (.v (.bool true)))])
 .ret)))))
noncomputable def X.i_IsMap (p0 : TMap) : Option Bool :=
 ((X.i_inRange p0.Width 1 10).bind fun v8 => (bif (!v8) then some false else ((X.i_inRange p0.Height 1 10).bind fun v11 => (bif (!v11) then some false else (bif ((p0.Terrain.length : Int) != (W (p0.Width * p0.Height))) then some false else ((loop (fun (x57 : Int) => ((bif (decide (x57 < (p0.Terrain.length : Int))) then ((at' zI p0.Terrain x57).bind fun v60 => ((X.i_isIndex v60 6).bind fun v62 => (bif (!v62) then some (Sum.inr (Sum.inr false)) else some (Sum.inl (W (x57 + 1)))))) else some (Sum.inr (Sum.inl ()))) : Option (Int ⊕ (Unit ⊕ Bool)))) 0).bind fun y65 => (Sum.elim (fun (y67 : Unit) => ((loop (fun (x142 : Int) => ((bif (decide (x142 < (([p0.Rivers, p0.Roads] : List (List Int)).length : Int))) then (if 0 ≤ x142 ∧ x142 < (([p0.Rivers, p0.Roads] : List (List Int)).length : Int) then ((X.i_increasing (([p0.Rivers, p0.Roads] : List (List Int)).getD x142.toNat zLI)).bind fun v149 => (bif (!v149) then some (Sum.inr (Sum.inr false)) else ((loop (fun (x167 : Int) => ((bif (decide (x167 < ((([p0.Rivers, p0.Roads] : List (List Int)).getD x142.toNat zLI).length : Int))) then ((at' zI (([p0.Rivers, p0.Roads] : List (List Int)).getD x142.toNat zLI) x167).bind fun v170 => ((X.i_isEdge p0 v170).bind fun v172 => (bif (!v172) then some (Sum.inr (Sum.inr false)) else some (Sum.inl (W (x167 + 1)))))) else some (Sum.inr (Sum.inl ()))) : Option (Int ⊕ (Unit ⊕ Bool)))) 0).bind fun y175 => (Sum.elim (fun (y177 : Unit) => some (Sum.inl (W (x142 + 1)))) (fun (y178 : Bool) => some (Sum.inr (Sum.inr y178))) y175)))) else none) else some (Sum.inr (Sum.inl ()))) : Option (Int ⊕ (Unit ⊕ Bool)))) 0).bind fun y179 => (Sum.elim (fun (y181 : Unit) => some true) (fun (y182 : Bool) => some y182) y179))) (fun (y68 : Bool) => some y68) y65)))))))
theorem i_IsMap_ok (p0 : TMap) (r : Bool) (H : X.i_IsMap p0 = some r) : FnOk Tryz.prog gl 194 [.agg (eTMap p0)] (cB r) := by
 unfold X.i_IsMap at H
 refine fi Tryz.f194 i_IsMap_ir [(2, cB r)] [] glL Tryz.func194 ?_
 refine so [] [] [(1, pk 1)] [(1, va (eTMap p0))] id ?_
 refine seq_in ?_
 obtain ⟨v8, h9, H⟩ := ofBind H
 rcases ofCond H with ⟨c10, H⟩ | ⟨c10, H⟩
 ·refine so [.res (cB v8), .g true, .g true, .g true, .g true, .g true, .g true, .g true, .g true, .g true, .g true, .g true, .g true, .g true, .g true, .g true] [] [(1, pk 1), (29, cB true)] [(1, va (eTMap p0))] (fun t => aI (i_inRange_ok p0.Width 1 10 v8 h9) (aI c10 (aI c10 (aI c10 (aI c10 (aI c10 (aI (rfl : (true : Bool) = true) (aI (rfl : (true : Bool) = true) (aI (rfl : (true : Bool) = true) (aI (rfl : (true : Bool) = true) (aI (rfl : (true : Bool) = true) (aI (rfl : (true : Bool) = true) (aI (rfl : (true : Bool) = true) (aI (rfl : (true : Bool) = true) (aI (rfl : (true : Bool) = true) (aI (rfl : (true : Bool) = true) (t))))))))))))))))) ?_
  refine it (rfl : (true : Bool) = true) ?_
  refine so [] [] [(2, cB false)] [] id ?_
  refine ends_ret ?_
  cases H
  exact And.intro (.inl rfl) rfl
 ·obtain ⟨v11, h12, H⟩ := ofBind H
  rcases ofCond H with ⟨c13, H⟩ | ⟨c13, H⟩
  ·refine so [.res (cB v8), .g false, .g false, .g false, .res (cB v11), .g false, .g false, .g true, .g true, .g true, .g true, .g true, .g true, .g true, .g true, .g true, .g true] [] [(1, pk 1), (29, cB true)] [(1, va (eTMap p0))] (fun t => aI (i_inRange_ok p0.Width 1 10 v8 h9) (aI c10 (aI c10 (aI c10 (aI (i_inRange_ok p0.Height 1 10 v11 h12) (aI c10 (aI c10 (aI c13 (aI c13 (aI c13 (aI c13 (aI c13 (aI c13 (aI c13 (aI c13 (aI c13 (aI c13 (t)))))))))))))))))) ?_
   refine it (rfl : (true : Bool) = true) ?_
   refine so [] [] [(2, cB false)] [] id ?_
   refine ends_ret ?_
   cases H
   exact And.intro (.inl rfl) rfl
  ·refine so [.res (cB v8), .g false, .g false, .g false, .res (cB v11), .g false, .g false, .g false, .g false, .g false, .g false, .g false, .g false, .g false, .g false, .g false, .g false] [] [(1, pk 1), (29, cB ((p0.Terrain.length : Int) != (W (p0.Width * p0.Height))))] [(1, va (eTMap p0))] (fun t => aI (i_inRange_ok p0.Width 1 10 v8 h9) (aI c10 (aI c10 (aI c10 (aI (i_inRange_ok p0.Height 1 10 v11 h12) (aI c10 (aI c10 (aI c13 (aI c13 (aI c13 (lI p0.Terrain (aI c13 (aI c13 (aI c13 (aI c13 (aI c13 (aI c13 (aI c13 (t))))))))))))))))))) ?_
   rcases ofCond H with ⟨c14, H⟩ | ⟨c14, H⟩
   ·refine it c14 ?_
    refine so [] [] [(2, cB false)] [] id ?_
    refine ends_ret ?_
    cases H
    exact And.intro (.inl rfl) rfl
   ·refine jf c14 ?_
    refine sk ?_
    refine seq_in ?_
    refine so [] [] [(1, pk 1), (31, dc 1 eI zI p0.Terrain), (32, cI (p0.Terrain.length : Int)), (33, cI 0)] [(1, va (eTMap p0))] (fun t => lI p0.Terrain (t)) ?_
    refine ends_blk ?_
    obtain ⟨y65, h66, H⟩ := ofBind H
    refine loop_in (fun (x : Int) => lit [(1, pk 1), (31, dc 1 eI zI p0.Terrain), (32, cI (p0.Terrain.length : Int)), (33, cI x)] [(1, va (eTMap p0))]) (orJ (fun (z : Unit) => At (.exit 0) (lit [(1, pk 1)] [(1, va (eTMap p0))])) (fun (z : Bool) => At .ret (lit [(2, cB z)] []))) h66 ?_ ?_
    ·clear H h66
     intro x57 y0 H
     refine so [] [] [(1, pk 1), (31, dc 1 eI zI p0.Terrain), (32, cI (p0.Terrain.length : Int)), (33, cI x57), (34, cB (decide (x57 < (p0.Terrain.length : Int))))] [(1, va (eTMap p0))] id ?_
     refine seq_in ?_
     rcases ofCond H with ⟨c59, H⟩ | ⟨c59, H⟩
     ·refine it c59 ?_
      refine sk ?_
      refine seq_in ?_
      refine ends_blk ?_
      obtain ⟨v60, h61, H⟩ := ofBind H
      refine so [.cs (eI v60)] [] [(1, pk 1), (4, cI v60), (31, dc 1 eI zI p0.Terrain), (32, cI (p0.Terrain.length : Int)), (33, cI x57)] [(1, va (eTMap p0))] (fun t => aI (at_lt h61) (aI (at_enc (enc := eI) h61) (t))) ?_
      obtain ⟨v62, h63, H⟩ := ofBind H
      refine so [.res (cB v62)] [] [(1, pk 1), (31, dc 1 eI zI p0.Terrain), (32, cI (p0.Terrain.length : Int)), (33, cI x57), (39, cB (!v62))] [(1, va (eTMap p0))] (fun t => aI (i_isIndex_ok v60 6 v62 h63) (t)) ?_
      rcases ofCond H with ⟨c64, H⟩ | ⟨c64, H⟩
      ·refine it c64 ?_
       refine so [] [] [(2, cB false)] [] id ?_
       refine ends_ret ?_
       cases H
       exact And.intro (by simp) (And.intro rfl rfl)
      ·refine jf c64 ?_
       refine sk ?_
       refine oo [] [] [(1, pk 1), (31, dc 1 eI zI p0.Terrain), (32, cI (p0.Terrain.length : Int)), (33, cI (W (x57 + 1)))] [(1, va (eTMap p0))] id ?_
       cases H
       exact And.intro rfl rfl
     ·refine jf c59 ?_
      refine tl [] [(1, pk 1)] [(1, va (eTMap p0))] id ?_
      refine ends_exit ?_
      cases H
      exact And.intro (by simp) (And.intro rfl rfl)
    ·clear h66
     cases y65 with
     | inl y67 =>
      replace H := ofInl H
      intro e s q
      obtain ⟨rfl, rfl⟩ := q
      change EndsI _ _ _ _ _ _
      refine seq_in ?_
      refine so [.fn ([p0.Rivers, p0.Roads] : List (List Int)).length (fF eLI zLI ([p0.Rivers, p0.Roads] : List (List Int)))] [] [(1, pk 1), (45, .c (.own 45 1 0 (([p0.Rivers, p0.Roads] : List (List Int)).length))), (46, cI (([p0.Rivers, p0.Roads] : List (List Int)).length : Int)), (47, cI 0)] [(1, va (eTMap p0)), (45, .arr 1 (([p0.Rivers, p0.Roads] : List (List Int)).length) (fF eLI zLI ([p0.Rivers, p0.Roads] : List (List Int))) false)] (fun t => aI (rfl : ([p0.Rivers, p0.Roads] : List (List Int)).length = 2) (aI (fF_lit eLI zLI ([p0.Rivers, p0.Roads] : List (List Int))) ((fun (_ : ([p0.Rivers, p0.Roads] : List (List Int)).length ≤ maxLen) => t)))) ?_
      refine ends_blk ?_
      obtain ⟨y179, h180, H⟩ := ofBind H
      refine loop_in (fun (x : Int) => lit [(1, pk 1), (45, .c (.own 45 1 0 (([p0.Rivers, p0.Roads] : List (List Int)).length))), (46, cI (([p0.Rivers, p0.Roads] : List (List Int)).length : Int)), (47, cI x)] [(1, va (eTMap p0)), (45, .arr 1 (([p0.Rivers, p0.Roads] : List (List Int)).length) (fF eLI zLI ([p0.Rivers, p0.Roads] : List (List Int))) false)]) (orJ (fun (z : Unit) => At (.exit 2) (lit [] [])) (fun (z : Bool) => At .ret (lit [(2, cB z)] []))) h180 ?_ ?_
      ·clear H h180
       intro x142 y0 H
       refine so [] [] [(1, pk 1), (45, .c (.own 45 1 0 (([p0.Rivers, p0.Roads] : List (List Int)).length))), (46, cI (([p0.Rivers, p0.Roads] : List (List Int)).length : Int)), (47, cI x142), (48, cB (decide (x142 < (([p0.Rivers, p0.Roads] : List (List Int)).length : Int))))] [(1, va (eTMap p0)), (45, .arr 1 (([p0.Rivers, p0.Roads] : List (List Int)).length) (fF eLI zLI ([p0.Rivers, p0.Roads] : List (List Int))) false)] id ?_
       refine seq_in ?_
       rcases ofCond H with ⟨c144, H⟩ | ⟨c144, H⟩
       ·refine it c144 ?_
        refine sk ?_
        refine seq_in ?_
        refine ends_blk ?_
        obtain ⟨g145, H⟩ := ofIf H
        refine so [.no] [] [(1, pk 1), (6, .c (dat 1 eI zI (([p0.Rivers, p0.Roads] : List (List Int)).getD x142.toNat zLI))), (45, .c (.own 45 1 0 (([p0.Rivers, p0.Roads] : List (List Int)).length))), (46, cI (([p0.Rivers, p0.Roads] : List (List Int)).length : Int)), (47, cI x142)] [(1, va (eTMap p0)), (45, .arr 1 (([p0.Rivers, p0.Roads] : List (List Int)).length) (fF eLI zLI ([p0.Rivers, p0.Roads] : List (List Int))) false)] (fun t => aI g145 (aI (nat_lt g145) (t))) ?_
        refine seq_in ?_
        obtain ⟨v149, h150, H⟩ := ofBind H
        refine so [.res (cB v149)] [] [(1, pk 1), (6, .c (dat 1 eI zI (([p0.Rivers, p0.Roads] : List (List Int)).getD x142.toNat zLI))), (45, .c (.own 45 1 0 (([p0.Rivers, p0.Roads] : List (List Int)).length))), (46, cI (([p0.Rivers, p0.Roads] : List (List Int)).length : Int)), (47, cI x142), (53, cB (!v149))] [(1, va (eTMap p0)), (45, .arr 1 (([p0.Rivers, p0.Roads] : List (List Int)).length) (fF eLI zLI ([p0.Rivers, p0.Roads] : List (List Int))) false)] (fun t => aI (i_increasing_ok (([p0.Rivers, p0.Roads] : List (List Int)).getD x142.toNat zLI) v149 h150) (t)) ?_
        rcases ofCond H with ⟨c151, H⟩ | ⟨c151, H⟩
        ·refine it c151 ?_
         refine so [] [] [(2, cB false)] [] id ?_
         refine ends_ret ?_
         cases H
         exact And.intro (by simp) (And.intro rfl rfl)
        ·refine jf c151 ?_
         refine sk ?_
         refine so [] [] [(1, pk 1), (45, .c (.own 45 1 0 (([p0.Rivers, p0.Roads] : List (List Int)).length))), (46, cI (([p0.Rivers, p0.Roads] : List (List Int)).length : Int)), (47, cI x142), (54, .c (dat 1 eI zI (([p0.Rivers, p0.Roads] : List (List Int)).getD x142.toNat zLI))), (55, cI ((([p0.Rivers, p0.Roads] : List (List Int)).getD x142.toNat zLI).length : Int)), (56, cI 0)] [(1, va (eTMap p0)), (45, .arr 1 (([p0.Rivers, p0.Roads] : List (List Int)).length) (fF eLI zLI ([p0.Rivers, p0.Roads] : List (List Int))) false)] (fun t => (fun (_ : (([p0.Rivers, p0.Roads] : List (List Int)).getD x142.toNat zLI).length ≤ maxLen) => t)) ?_
         refine ends_blk ?_
         obtain ⟨y175, h176, H⟩ := ofBind H
         refine loop_in (fun (x : Int) => lit [(1, pk 1), (45, .c (.own 45 1 0 (([p0.Rivers, p0.Roads] : List (List Int)).length))), (46, cI (([p0.Rivers, p0.Roads] : List (List Int)).length : Int)), (47, cI x142), (54, .c (dat 1 eI zI (([p0.Rivers, p0.Roads] : List (List Int)).getD x142.toNat zLI))), (55, cI ((([p0.Rivers, p0.Roads] : List (List Int)).getD x142.toNat zLI).length : Int)), (56, cI x)] [(1, va (eTMap p0)), (45, .arr 1 (([p0.Rivers, p0.Roads] : List (List Int)).length) (fF eLI zLI ([p0.Rivers, p0.Roads] : List (List Int))) false)]) (orJ (fun (z : Unit) => At (.exit 4) (lit [(1, pk 1), (45, .c (.own 45 1 0 (([p0.Rivers, p0.Roads] : List (List Int)).length))), (46, cI (([p0.Rivers, p0.Roads] : List (List Int)).length : Int)), (47, cI x142)] [(1, va (eTMap p0)), (45, .arr 1 (([p0.Rivers, p0.Roads] : List (List Int)).length) (fF eLI zLI ([p0.Rivers, p0.Roads] : List (List Int))) false)])) (fun (z : Bool) => At .ret (lit [(2, cB z)] []))) h176 ?_ ?_
         ·clear H h176
          intro x167 y0 H
          refine so [] [] [(1, pk 1), (45, .c (.own 45 1 0 (([p0.Rivers, p0.Roads] : List (List Int)).length))), (46, cI (([p0.Rivers, p0.Roads] : List (List Int)).length : Int)), (47, cI x142), (54, .c (dat 1 eI zI (([p0.Rivers, p0.Roads] : List (List Int)).getD x142.toNat zLI))), (55, cI ((([p0.Rivers, p0.Roads] : List (List Int)).getD x142.toNat zLI).length : Int)), (56, cI x167), (57, cB (decide (x167 < ((([p0.Rivers, p0.Roads] : List (List Int)).getD x142.toNat zLI).length : Int))))] [(1, va (eTMap p0)), (45, .arr 1 (([p0.Rivers, p0.Roads] : List (List Int)).length) (fF eLI zLI ([p0.Rivers, p0.Roads] : List (List Int))) false)] id ?_
          refine seq_in ?_
          rcases ofCond H with ⟨c169, H⟩ | ⟨c169, H⟩
          ·refine it c169 ?_
           refine sk ?_
           refine seq_in ?_
           refine ends_blk ?_
           obtain ⟨v170, h171, H⟩ := ofBind H
           refine so [.cs (eI v170)] [] [(1, pk 1), (8, cI v170), (45, .c (.own 45 1 0 (([p0.Rivers, p0.Roads] : List (List Int)).length))), (46, cI (([p0.Rivers, p0.Roads] : List (List Int)).length : Int)), (47, cI x142), (54, .c (dat 1 eI zI (([p0.Rivers, p0.Roads] : List (List Int)).getD x142.toNat zLI))), (55, cI ((([p0.Rivers, p0.Roads] : List (List Int)).getD x142.toNat zLI).length : Int)), (56, cI x167)] [(1, va (eTMap p0)), (45, .arr 1 (([p0.Rivers, p0.Roads] : List (List Int)).length) (fF eLI zLI ([p0.Rivers, p0.Roads] : List (List Int))) false)] (fun t => aI (at_lt h171) (aI (at_enc (enc := eI) h171) (t))) ?_
           obtain ⟨v172, h173, H⟩ := ofBind H
           refine so [.res (cB v172)] [] [(1, pk 1), (45, .c (.own 45 1 0 (([p0.Rivers, p0.Roads] : List (List Int)).length))), (46, cI (([p0.Rivers, p0.Roads] : List (List Int)).length : Int)), (47, cI x142), (54, .c (dat 1 eI zI (([p0.Rivers, p0.Roads] : List (List Int)).getD x142.toNat zLI))), (55, cI ((([p0.Rivers, p0.Roads] : List (List Int)).getD x142.toNat zLI).length : Int)), (56, cI x167), (63, cB (!v172))] [(1, va (eTMap p0)), (45, .arr 1 (([p0.Rivers, p0.Roads] : List (List Int)).length) (fF eLI zLI ([p0.Rivers, p0.Roads] : List (List Int))) false)] (fun t => aI (i_isEdge_ok p0 v170 v172 h173) (t)) ?_
           rcases ofCond H with ⟨c174, H⟩ | ⟨c174, H⟩
           ·refine it c174 ?_
            refine so [] [] [(2, cB false)] [] id ?_
            refine ends_ret ?_
            cases H
            exact And.intro (by simp) (And.intro rfl rfl)
           ·refine jf c174 ?_
            refine sk ?_
            refine oo [] [] [(1, pk 1), (45, .c (.own 45 1 0 (([p0.Rivers, p0.Roads] : List (List Int)).length))), (46, cI (([p0.Rivers, p0.Roads] : List (List Int)).length : Int)), (47, cI x142), (54, .c (dat 1 eI zI (([p0.Rivers, p0.Roads] : List (List Int)).getD x142.toNat zLI))), (55, cI ((([p0.Rivers, p0.Roads] : List (List Int)).getD x142.toNat zLI).length : Int)), (56, cI (W (x167 + 1)))] [(1, va (eTMap p0)), (45, .arr 1 (([p0.Rivers, p0.Roads] : List (List Int)).length) (fF eLI zLI ([p0.Rivers, p0.Roads] : List (List Int))) false)] id ?_
            cases H
            exact And.intro rfl rfl
          ·refine jf c169 ?_
           refine tl [] [(1, pk 1), (45, .c (.own 45 1 0 (([p0.Rivers, p0.Roads] : List (List Int)).length))), (46, cI (([p0.Rivers, p0.Roads] : List (List Int)).length : Int)), (47, cI x142)] [(1, va (eTMap p0)), (45, .arr 1 (([p0.Rivers, p0.Roads] : List (List Int)).length) (fF eLI zLI ([p0.Rivers, p0.Roads] : List (List Int))) false)] id ?_
           refine ends_exit ?_
           cases H
           exact And.intro (by simp) (And.intro rfl rfl)
         ·clear h176
          cases y175 with
          | inl y177 =>
           replace H := ofInl H
           intro e s q
           obtain ⟨rfl, rfl⟩ := q
           change EndsI _ _ _ _ _ _
           refine oo [] [] [(1, pk 1), (45, .c (.own 45 1 0 (([p0.Rivers, p0.Roads] : List (List Int)).length))), (46, cI (([p0.Rivers, p0.Roads] : List (List Int)).length : Int)), (47, cI (W (x142 + 1)))] [(1, va (eTMap p0)), (45, .arr 1 (([p0.Rivers, p0.Roads] : List (List Int)).length) (fF eLI zLI ([p0.Rivers, p0.Roads] : List (List Int))) false)] id ?_
           cases H
           exact And.intro rfl rfl
          | inr y178 =>
           replace H := ofInr H
           intro e s q
           obtain ⟨rfl, rfl⟩ := q
           cases H
           exact And.intro (by simp) (And.intro rfl rfl)
       ·refine jf c144 ?_
        refine tl [] [] [] id ?_
        refine ends_exit ?_
        cases H
        exact And.intro (by simp) (And.intro rfl rfl)
      ·clear h180
       cases y179 with
       | inl y181 =>
        replace H := ofInl H
        intro e s q
        obtain ⟨rfl, rfl⟩ := q
        change EndsI _ _ _ _ _ _
        refine so [] [] [(2, cB true)] [] id ?_
        refine ends_ret ?_
        cases H
        exact And.intro (.inl rfl) rfl
       | inr y182 =>
        replace H := ofInr H
        intro e s q
        obtain ⟨rfl, rfl⟩ := q
        cases H
        exact And.intro (.inl rfl) rfl
     | inr y68 =>
      replace H := ofInr H
      intro e s q
      obtain ⟨rfl, rfl⟩ := q
      cases H
      exact And.intro (.inl rfl) rfl
def i_IsBoard_1_ir : S :=
 (.seq (.ops [o 3 (.mv (.v (.bool false)))])
 (.seq (.ops [o 4 (.mv (.t 0)), o 5 (.fad 0 (.t 1)), o 6 (.fad 0 (.t 5)), o 7 (.load 1 false (.t 6)), o 8 (.len (.t 7)), o 9 (.bin .geq (.t 4) (.t 8)), o 3 (.mv (.t 9))])
 .ret))
noncomputable def X.i_IsBoard_1 (p0 : Int) (p1 : TBoard) : Option Bool :=
 some (decide (p0 ≥ (p1.Rules.Terrains.length : Int)))
theorem i_IsBoard_1_ok (p0 : Int) (p1 : TBoard) (r : Bool) (H : X.i_IsBoard_1 p0 p1 = some r) : FnOk Tryz.prog gl 195 [cI p0, .c (.pd (eTBoard p1) 0)] (cB r) := by
 unfold X.i_IsBoard_1 at H
 refine fi Tryz.f195 i_IsBoard_1_ir [(3, cB r)] [] glL Tryz.func195 ?_
 refine so [] [] [(0, cI p0), (1, .c (.pd (eTBoard p1) 0))] [] id ?_
 refine so [] [] [(3, cB (decide (p0 ≥ (p1.Rules.Terrains.length : Int))))] [] (fun t => lI p1.Rules.Terrains (t)) ?_
 refine ends_ret ?_
 cases H
 exact And.intro (.inl rfl) rfl
def i_IsBoard_ir : S :=
 (.seq (.ops [o 1 (.box 12 (.t 0)), o 2 (.mv (.v (.bool false)))])
 (.seq (.seq (.ops [o 3 (.fad 0 (.t 1)), o 4 (.load 7 true (.t 3)), o 5 (.call 193 [.t 4]), o 6 (.not (.t 5)), o 7 (.mv (.t 6)), ⟨some 8, .fad 7 (.t 1), some (7, false)⟩, ⟨some 9, .load 5 true (.t 8), some (7, false)⟩, ⟨some 10, .call 194 [.t 9], some (7, false)⟩, ⟨some 11, .not (.t 10), some (7, false)⟩, o 12 (.pick (.t 7) (.v (.bool true)) (.t 11))])
 (.ite (.t 12) (.seq (.ops [o 2 (.mv (.v (.bool false)))])
  .ret)
 .skip))
 (.seq (.ops [o 13 (.fad 7 (.t 1)), o 14 (.fad 2 (.t 13)), o 15 (.load 1 false (.t 14)), o 16 (.clo 195 [.t 1]), o 17 (.call 70 [.t 15, .t 16]), o 18 (.not (.t 17)), o 2 (.mv (.t 18))])
 .ret)))
noncomputable def X.i_IsBoard (p0 : TBoard) : Option Bool :=
 ((X.i_IsRules p0.Rules).bind fun v7 => (bif (!v7) then some false else ((X.i_IsMap p0.Map).bind fun v10 => (bif (!v10) then some false else ((X.g_ContainsFunc_int p0.Map.Terrain (fun q0 => X.i_IsBoard_1 q0 p0)).bind fun v13 => some (!v13))))))
theorem i_IsBoard_ok (p0 : TBoard) (r : Bool) (H : X.i_IsBoard p0 = some r) : FnOk Tryz.prog gl 143 [.agg (eTBoard p0)] (cB r) := by
 unfold X.i_IsBoard at H
 refine fi Tryz.f143 i_IsBoard_ir [(2, cB r)] [] glL Tryz.func143 ?_
 refine so [] [] [(1, pk 1)] [(1, va (eTBoard p0))] id ?_
 refine seq_in ?_
 obtain ⟨v7, h8, H⟩ := ofBind H
 rcases ofCond H with ⟨c9, H⟩ | ⟨c9, H⟩
 ·refine so [.res (cB v7), .g true, .g true, .g true, .g true, .g true] [] [(1, pk 1), (12, cB true)] [(1, va (eTBoard p0))] (fun t => aI (i_IsRules_ok p0.Rules v7 h8) (aI c9 (aI c9 (aI c9 (aI c9 (aI c9 (t))))))) ?_
  refine it (rfl : (true : Bool) = true) ?_
  refine so [] [] [(2, cB false)] [] id ?_
  refine ends_ret ?_
  cases H
  exact And.intro (.inl rfl) rfl
 ·obtain ⟨v10, h11, H⟩ := ofBind H
  refine so [.res (cB v7), .g false, .g false, .g false, .res (cB v10), .g false, .g false] [] [(1, pk 1), (12, cB (!v10))] [(1, va (eTBoard p0))] (fun t => aI (i_IsRules_ok p0.Rules v7 h8) (aI c9 (aI c9 (aI c9 (aI (i_IsMap_ok p0.Map v10 h11) (aI c9 (aI c9 (t)))))))) ?_
  rcases ofCond H with ⟨c12, H⟩ | ⟨c12, H⟩
  ·refine it c12 ?_
   refine so [] [] [(2, cB false)] [] id ?_
   refine ends_ret ?_
   cases H
   exact And.intro (.inl rfl) rfl
  ·refine jf c12 ?_
   refine sk ?_
   obtain ⟨v13, h14, H⟩ := ofBind H
   refine so [.res (cB v13)] [] [(2, cB (!v13))] [] (fun t => aI (g_ContainsFunc_int_c1_ok p0.Map.Terrain (195) (eTBoard p0) (fun q0 => X.i_IsBoard_1 q0 p0) (fun q0 r h => i_IsBoard_1_ok q0 p0 r h) v13 h14) (t)) ?_
   refine ends_ret ?_
   cases H
   exact And.intro (.inl rfl) rfl
def i_sizeOf_ir : S :=
 (.seq (.ops [o 1 (.box 12 (.t 0)), o 2 (.mv (.v (.int .i64 0)))])
 (.seq (.ops [o 3 (.fad 7 (.t 1)), o 4 (.fad 2 (.t 3)), o 5 (.load 1 false (.t 4)), o 6 (.len (.t 5)), o 2 (.mv (.t 6))])
 .ret))
noncomputable def X.i_sizeOf (p0 : TBoard) : Option Int :=
 some (p0.Map.Terrain.length : Int)
theorem i_sizeOf_ok (p0 : TBoard) (r : Int) (H : X.i_sizeOf p0 = some r) : FnOk Tryz.prog gl 116 [.agg (eTBoard p0)] (cI r) := by
 unfold X.i_sizeOf at H
 refine fi Tryz.f116 i_sizeOf_ir [(2, cI r)] [] glL Tryz.func116 ?_
 refine so [] [] [(1, pk 1)] [(1, va (eTBoard p0))] id ?_
 refine so [] [] [(2, cI (p0.Map.Terrain.length : Int))] [] (fun t => lI p0.Map.Terrain (t)) ?_
 refine ends_ret ?_
 cases H
 exact And.intro (.inl rfl) rfl
def i_isSide_ir : S :=
 (.seq (.ops [o 2 (.mv (.v (.bool false)))])
 (.seq (.ops [o 3 (.mv (.t 0)), o 4 (.call 145 [.t 3, .v (.int .i64 0), .v (.int .i64 1)]), o 2 (.mv (.t 4))])
 .ret))
noncomputable def X.i_isSide (p0 : Int) : Option Bool :=
 ((X.i_inRange p0 0 1).bind fun v1 => some v1)
theorem i_isSide_ok (p0 : Int) (r : Bool) (H : X.i_isSide p0 = some r) : FnOk Tryz.prog gl 132 [cI p0] (cB r) := by
 unfold X.i_isSide at H
 refine fi Tryz.f132 i_isSide_ir [(2, cB r)] [] glL Tryz.func132 ?_
 refine so [] [] [(0, cI p0)] [] id ?_
 obtain ⟨v1, h2, H⟩ := ofBind H
 refine so [.res (cB v1)] [] [(2, cB v1)] [] (fun t => aI (i_inRange_ok p0 0 1 v1 h2) (t)) ?_
 refine ends_ret ?_
 cases H
 exact And.intro (.inl rfl) rfl
def i_terrainAt_ir : S :=
 (.seq (.ops [o 2 (.box 12 (.t 0)), o 4 (.alloc [.str [], .nil, .int .i64 0, .int .i64 0, .bool false])])
 (.seq (.draw 11 [o 5 (.fad 0 (.t 2)), o 6 (.fad 0 (.t 5)), o 7 (.load 1 false (.t 6)), o 8 (.fad 7 (.t 2)), o 9 (.fad 2 (.t 8)), o 10 (.load 1 false (.t 9)), o 11 (.mv (.t 1)), o 12 (.iad 1 (.t 10) (.t 11)), o 13 (.load 1 false (.t 12)), o 14 (.iad 5 (.t 7) (.t 13)), o 15 (.load 5 true (.t 14)), ⟨none, .store 5 (.t 4) (.t 15), none⟩])
 .ret))
noncomputable def X.i_terrainAt (p0 : TBoard) (p1 : Int) : Option TTerrain :=
 ((at' zI p0.Map.Terrain p1).bind fun v1 => ((at' zTTerrain p0.Rules.Terrains v1).bind fun v3 => some v3))
theorem i_terrainAt_ok (p0 : TBoard) (p1 : Int) (r : TTerrain) (H : X.i_terrainAt p0 p1 = some r) : FnOk Tryz.prog gl 199 [.agg (eTBoard p0), cI p1] (.agg (eTTerrain r)) := by
 unfold X.i_terrainAt at H
 refine fi Tryz.f199 i_terrainAt_ir [(4, pk 4)] [(4, va (eTTerrain r))] glL Tryz.func199 ?_
 refine so [] [] [(1, cI p1), (2, pk 2), (4, pk 4)] [(2, va (eTBoard p0)), (4, .var [.str [], .nil, .int .i64 0, .int .i64 0, .bool false] false)] id ?_
 obtain ⟨v1, h2, H⟩ := ofBind H
 obtain ⟨v3, h4, H⟩ := ofBind H
 refine sd [.cs (eI v1), .cs (eTTerrain v3)] [] [(4, pk 4)] [(4, va (eTTerrain v3))] (fun t => aI (at_lt h2) (aI (at_enc (enc := eI) h2) (aI (rfl : ([] : List Nat) = []) (aI (at_lt h4) (aI (at_enc (enc := eTTerrain) h4) (aI (rfl : ([] : List Nat) = []) (t))))))) ?_
 refine ends_ret ?_
 cases H
 exact And.intro (.inl rfl) rfl
def i_enterCost_ir : S :=
 (.seq (.ops [o 3 (.box 12 (.t 0)), o 6 (.mv (.v (.int .i64 0)))])
 (.seq (.ops [o 7 (.load 12 true (.t 3)), o 8 (.mv (.t 2)), o 9 (.call 199 [.t 7, .t 8]), o 10 (.fld 1 1 false (.t 9)), o 11 (.mv (.t 1)), o 12 (.iad 1 (.t 10) (.t 11)), o 13 (.load 1 false (.t 12)), o 6 (.mv (.t 13))])
 .ret))
noncomputable def X.i_enterCost (p0 : TBoard) (p1 : Int) (p2 : Int) : Option Int :=
 ((X.i_terrainAt p0 p2).bind fun v1 => ((at' zI v1.Cost p1).bind fun v3 => some v3))
theorem i_enterCost_ok (p0 : TBoard) (p1 : Int) (p2 : Int) (r : Int) (H : X.i_enterCost p0 p1 p2 = some r) : FnOk Tryz.prog gl 157 [.agg (eTBoard p0), cI p1, cI p2] (cI r) := by
 unfold X.i_enterCost at H
 refine fi Tryz.f157 i_enterCost_ir [(6, cI r)] [] glL Tryz.func157 ?_
 refine so [] [] [(1, cI p1), (2, cI p2), (3, pk 3)] [(3, va (eTBoard p0))] id ?_
 obtain ⟨v1, h2, H⟩ := ofBind H
 obtain ⟨v3, h4, H⟩ := ofBind H
 refine so [.res (.agg (eTTerrain v1)), .cs (eI v3)] [] [(6, cI v3)] [] (fun t => aI (i_terrainAt_ok p0 p2 v1 h2) (aI (at_lt h4) (aI (at_enc (enc := eI) h4) (t)))) ?_
 refine ends_ret ?_
 cases H
 exact And.intro (.inl rfl) rfl
def i_goodUnit_ir : S :=
 (.seq (.ops [o 2 (.box 12 (.t 0)), o 3 (.box 4 (.t 1)), o 4 (.mv (.v (.bool false)))])
 (.seq (.seq (.draw 28 [o 5 (.fad 0 (.t 3)), o 6 (.load 1 false (.t 5)), o 7 (.call 132 [.t 6]), o 8 (.not (.t 7)), o 9 (.mv (.t 8)), ⟨some 10, .fad 1 (.t 3), some (9, false)⟩, ⟨some 11, .load 1 false (.t 10), some (9, false)⟩, ⟨some 12, .fad 0 (.t 2), some (9, false)⟩, ⟨some 13, .fad 1 (.t 12), some (9, false)⟩, ⟨some 14, .load 1 false (.t 13), some (9, false)⟩, ⟨some 15, .len (.t 14), some (9, false)⟩, ⟨some 16, .call 115 [.t 11, .t 15], some (9, false)⟩, ⟨some 17, .not (.t 16), some (9, false)⟩, o 18 (.pick (.t 9) (.v (.bool true)) (.t 17)), o 19 (.mv (.t 18)), ⟨some 20, .fad 3 (.t 3), some (19, false)⟩, ⟨some 21, .load 1 false (.t 20), some (19, false)⟩, ⟨some 22, .fad 0 (.t 2), some (19, false)⟩, ⟨some 23, .fad 1 (.t 22), some (19, false)⟩, ⟨some 24, .load 1 false (.t 23), some (19, false)⟩, ⟨some 25, .fad 1 (.t 3), some (19, false)⟩, ⟨some 26, .load 1 false (.t 25), some (19, false)⟩, ⟨some 27, .iad 6 (.t 24) (.t 26), some (19, false)⟩, ⟨some 28, .fad 3 (.t 27), some (19, false)⟩, ⟨some 29, .load 1 false (.t 28), some (19, false)⟩, ⟨some 30, .call 145 [.t 21, .v (.int .i64 0), .t 29], some (19, false)⟩, ⟨some 31, .not (.t 30), some (19, false)⟩, o 32 (.pick (.t 19) (.v (.bool true)) (.t 31))])
 (.ite (.t 32) (.seq (.ops [o 4 (.mv (.v (.bool false)))])
  .ret)
 .skip))
 (.seq (.seq (.ops [o 33 (.fad 2 (.t 3)), o 34 (.load 1 false (.t 33)), o 35 (.bin .eql (.t 34) (.v (.int .i64 (-1))))])
 (.ite (.t 35) (.seq (.ops [o 4 (.mv (.v (.bool true)))])
  .ret)
 .skip))
 (.seq (.draw 20 [o 36 (.fad 3 (.t 3)), o 37 (.load 1 false (.t 36)), o 38 (.bin .gtr (.t 37) (.v (.int .i64 0))), o 39 (.mv (.t 38)), ⟨some 40, .fad 2 (.t 3), some (39, true)⟩, ⟨some 41, .load 1 false (.t 40), some (39, true)⟩, ⟨some 42, .load 12 true (.t 2), some (39, true)⟩, ⟨some 43, .call 116 [.t 42], some (39, true)⟩, ⟨some 44, .call 115 [.t 41, .t 43], some (39, true)⟩, o 45 (.pick (.t 39) (.t 44) (.v (.bool false))), o 46 (.mv (.t 45)), ⟨some 47, .load 12 true (.t 2), some (46, true)⟩, ⟨some 48, .fad 1 (.t 3), some (46, true)⟩, ⟨some 49, .load 1 false (.t 48), some (46, true)⟩, ⟨some 50, .fad 2 (.t 3), some (46, true)⟩, ⟨some 51, .load 1 false (.t 50), some (46, true)⟩, ⟨some 52, .call 157 [.t 47, .t 49, .t 51], some (46, true)⟩, ⟨some 53, .bin .neq (.t 52) (.v (.int .i64 0)), some (46, true)⟩, o 54 (.pick (.t 46) (.t 53) (.v (.bool false))), o 4 (.mv (.t 54))])
 .ret))))
noncomputable def X.i_goodUnit (p0 : TBoard) (p1 : TUnit) : Option Bool :=
 ((X.i_isSide p1.Side).bind fun v12 => (bif (!v12) then some false else ((X.i_isIndex p1.Kind (p0.Rules.Kinds.length : Int)).bind fun v15 => (bif (!v15) then some false else ((at' zTKind p0.Rules.Kinds p1.Kind).bind fun v18 => ((X.i_inRange p1.Steps 0 v18.Steps).bind fun v20 => (bif (!v20) then some false else (bif (p1.At == (-1)) then some true else (bif (decide (p1.Steps > 0)) then ((X.i_sizeOf p0).bind fun v26 => ((X.i_isIndex p1.At v26).bind fun v28 => (bif v28 then ((X.i_enterCost p0 p1.Kind p1.At).bind fun v31 => some (v31 != 0)) else some false))) else some false)))))))))
theorem i_goodUnit_ok (p0 : TBoard) (p1 : TUnit) (r : Bool) (H : X.i_goodUnit p0 p1 = some r) : FnOk Tryz.prog gl 149 [.agg (eTBoard p0), .agg (eTUnit p1)] (cB r) := by
 unfold X.i_goodUnit at H
 refine fi Tryz.f149 i_goodUnit_ir [(4, cB r)] [] glL Tryz.func149 ?_
 refine so [] [] [(2, pk 2), (3, pk 3)] [(2, va (eTBoard p0)), (3, va (eTUnit p1))] id ?_
 refine seq_in ?_
 obtain ⟨v12, h13, H⟩ := ofBind H
 rcases ofCond H with ⟨c14, H⟩ | ⟨c14, H⟩
 ·refine sd [.res (cB v12), .g true, .g true, .g true, .g true, .g true, .g true, .g true, .g true, .g true, .g true, .g true, .g true, .g true, .g true, .g true, .g true, .g true, .g true, .g true, .g true, .g true, .g true] [] [(2, pk 2), (3, pk 3), (32, cB true)] [(2, va (eTBoard p0)), (3, va (eTUnit p1))] (fun t => aI (i_isSide_ok p1.Side v12 h13) (aI trivial (aI (rfl : ([] : List Nat) = []) (aI c14 (aI c14 (aI c14 (aI c14 (aI c14 (aI c14 (aI c14 (aI c14 (aI c14 (aI (rfl : (true : Bool) = true) (aI (rfl : (true : Bool) = true) (aI (rfl : (true : Bool) = true) (aI (rfl : (true : Bool) = true) (aI (rfl : (true : Bool) = true) (aI (rfl : (true : Bool) = true) (aI (rfl : (true : Bool) = true) (aI (rfl : (true : Bool) = true) (aI (rfl : (true : Bool) = true) (aI (rfl : (true : Bool) = true) (aI (rfl : (true : Bool) = true) (aI (rfl : (true : Bool) = true) (aI (rfl : (true : Bool) = true) (t)))))))))))))))))))))))))) ?_
  refine it (rfl : (true : Bool) = true) ?_
  refine so [] [] [(4, cB false)] [] id ?_
  refine ends_ret ?_
  cases H
  exact And.intro (.inl rfl) rfl
 ·obtain ⟨v15, h16, H⟩ := ofBind H
  rcases ofCond H with ⟨c17, H⟩ | ⟨c17, H⟩
  ·refine sd [.res (cB v12), .g false, .g false, .g false, .g false, .g false, .g false, .g false, .res (cB v15), .g false, .g false, .g true, .g true, .g true, .g true, .g true, .g true, .g true, .g true, .g true, .g true, .g true, .g true, .g true] [] [(2, pk 2), (3, pk 3), (32, cB true)] [(2, va (eTBoard p0)), (3, va (eTUnit p1))] (fun t => aI (i_isSide_ok p1.Side v12 h13) (aI trivial (aI (rfl : ([] : List Nat) = []) (aI c14 (aI c14 (aI c14 (aI c14 (aI c14 (aI c14 (aI c14 (aI (i_isIndex_ok p1.Kind (p0.Rules.Kinds.length : Int) v15 h16) (aI trivial (aI (rfl : ([] : List Nat) = []) (aI c14 (aI c14 (aI c17 (aI c17 (aI c17 (aI c17 (aI c17 (aI c17 (aI c17 (aI c17 (aI c17 (aI c17 (aI c17 (aI c17 (aI c17 (t))))))))))))))))))))))))))))) ?_
   refine it (rfl : (true : Bool) = true) ?_
   refine so [] [] [(4, cB false)] [] id ?_
   refine ends_ret ?_
   cases H
   exact And.intro (.inl rfl) rfl
  ·obtain ⟨v18, h19, H⟩ := ofBind H
   obtain ⟨v20, h21, H⟩ := ofBind H
   refine sd [.res (cB v12), .g false, .g false, .g false, .g false, .g false, .g false, .g false, .res (cB v15), .g false, .g false, .g false, .g false, .g false, .g false, .g false, .g false, .g false, .g false, .cs (eTKind v18), .g false, .g false, .g false, .res (cB v20), .g false, .g false] [] [(2, pk 2), (3, pk 3), (32, cB (!v20))] [(2, va (eTBoard p0)), (3, va (eTUnit p1))] (fun t => aI (i_isSide_ok p1.Side v12 h13) (aI trivial (aI (rfl : ([] : List Nat) = []) (aI c14 (aI c14 (aI c14 (aI c14 (aI c14 (aI c14 (aI c14 (aI (i_isIndex_ok p1.Kind (p0.Rules.Kinds.length : Int) v15 h16) (aI trivial (aI (rfl : ([] : List Nat) = []) (aI c14 (aI c14 (aI c17 (aI c17 (aI c17 (aI c17 (aI c17 (aI c17 (aI c17 (aI c17 (aI (at_lt h19) (aI (at_enc (enc := eTKind) h19) (aI c17 (aI c17 (aI (rfl : ([] : List Nat) = []) (aI c17 (aI (i_inRange_ok p1.Steps 0 v18.Steps v20 h21) (aI trivial (aI (rfl : ([] : List Nat) = []) (aI c17 (aI c17 (t))))))))))))))))))))))))))))))))))) ?_
   rcases ofCond H with ⟨c22, H⟩ | ⟨c22, H⟩
   ·refine it c22 ?_
    refine so [] [] [(4, cB false)] [] id ?_
    refine ends_ret ?_
    cases H
    exact And.intro (.inl rfl) rfl
   ·refine jf c22 ?_
    refine sk ?_
    refine seq_in ?_
    refine so [] [] [(2, pk 2), (3, pk 3), (35, cB (p1.At == (-1)))] [(2, va (eTBoard p0)), (3, va (eTUnit p1))] id ?_
    rcases ofCond H with ⟨c24, H⟩ | ⟨c24, H⟩
    ·refine it c24 ?_
     refine so [] [] [(4, cB true)] [] id ?_
     refine ends_ret ?_
     cases H
     exact And.intro (.inl rfl) rfl
    ·refine jf c24 ?_
     refine sk ?_
     rcases ofCond H with ⟨c25, H⟩ | ⟨c25, H⟩
     ·obtain ⟨v26, h27, H⟩ := ofBind H
      obtain ⟨v28, h29, H⟩ := ofBind H
      rcases ofCond H with ⟨c30, H⟩ | ⟨c30, H⟩
      ·obtain ⟨v31, h32, H⟩ := ofBind H
       refine sd [.g true, .g true, .g true, .g true, .res (cI v26), .g true, .res (cB v28), .g true, .g true, .g true, .g true, .g true, .g true, .g true, .res (cI v31), .g true, .g true] [] [(4, cB (v31 != 0))] [] (fun t => aI c25 (aI c25 (aI c25 (aI c25 (aI (i_sizeOf_ok p0 v26 h27) (aI trivial (aI (rfl : ([] : List Nat) = []) (aI c25 (aI (i_isIndex_ok p1.At v26 v28 h29) (aI trivial (aI (rfl : ([] : List Nat) = []) (aI c25 (aI c30 (aI c30 (aI c30 (aI c30 (aI c30 (aI c30 (aI (i_enterCost_ok p0 p1.Kind p1.At v31 h32) (aI trivial (aI (rfl : ([] : List Nat) = []) (aI c30 (aI c30 (t)))))))))))))))))))))))) ?_
       refine ends_ret ?_
       cases H
       exact And.intro (.inl rfl) rfl
      ·refine sd [.g true, .g true, .g true, .g true, .res (cI v26), .g true, .res (cB v28), .g true, .g false, .g false, .g false, .g false, .g false, .g false, .g false, .g false] [] [(4, cB false)] [] (fun t => aI c25 (aI c25 (aI c25 (aI c25 (aI (i_sizeOf_ok p0 v26 h27) (aI trivial (aI (rfl : ([] : List Nat) = []) (aI c25 (aI (i_isIndex_ok p1.At v26 v28 h29) (aI trivial (aI (rfl : ([] : List Nat) = []) (aI c25 (aI c30 (aI c30 (aI c30 (aI c30 (aI c30 (aI c30 (aI c30 (aI c30 (t))))))))))))))))))))) ?_
       refine ends_ret ?_
       cases H
       exact And.intro (.inl rfl) rfl
     ·refine sd [.g false, .g false, .g false, .g false, .g false, .g false, .g false, .g false, .g false, .g false, .g false, .g false, .g false, .g false] [] [(4, cB false)] [] (fun t => aI c25 (aI c25 (aI c25 (aI c25 (aI c25 (aI c25 (aI (rfl : (false : Bool) = false) (aI (rfl : (false : Bool) = false) (aI (rfl : (false : Bool) = false) (aI (rfl : (false : Bool) = false) (aI (rfl : (false : Bool) = false) (aI (rfl : (false : Bool) = false) (aI (rfl : (false : Bool) = false) (aI (rfl : (false : Bool) = false) (t))))))))))))))) ?_
      refine ends_ret ?_
      cases H
      exact And.intro (.inl rfl) rfl
def i_goodState_ir : S :=
 (.seq (.ops [o 2 (.box 12 (.t 0)), o 3 (.box 3 (.t 1)), o 4 (.mv (.v (.bool false)))])
 (.seq (.seq (.ops [o 8 (.fad 0 (.t 3)), o 9 (.load 1 false (.t 8)), o 10 (.fad 0 (.t 2)), o 11 (.fad 6 (.t 10)), o 12 (.load 1 false (.t 11)), o 13 (.call 145 [.t 9, .v (.int .i64 0), .t 12]), o 14 (.not (.t 13)), o 15 (.mv (.t 14)), ⟨some 16, .fad 1 (.t 3), some (15, false)⟩, ⟨some 17, .load 1 false (.t 16), some (15, false)⟩, ⟨some 18, .call 145 [.t 17, .v (.int .i64 0), .v (.int .i64 2)], some (15, false)⟩, ⟨some 19, .not (.t 18), some (15, false)⟩, o 20 (.pick (.t 15) (.v (.bool true)) (.t 19)), o 21 (.mv (.t 20)), ⟨some 22, .fad 2 (.t 3), some (21, false)⟩, ⟨some 23, .load 1 false (.t 22), some (21, false)⟩, ⟨some 24, .len (.t 23), some (21, false)⟩, ⟨some 25, .bin .gtr (.t 24) (.v (.int .i64 12)), some (21, false)⟩, o 26 (.pick (.t 21) (.v (.bool true)) (.t 25))])
 (.ite (.t 26) (.seq (.ops [o 4 (.mv (.v (.bool false)))])
  .ret)
 .skip))
 (.seq (.ops [o 27 (.load 12 true (.t 2)), o 28 (.call 116 [.t 27]), o 29 (.msl 2 16 [.int .i64 0, .int .i64 0] (.t 28)), o 5 (.mv (.t 29))])
 (.seq (.seq (.ops [o 30 (.fad 2 (.t 3)), o 31 (.load 1 false (.t 30)), o 32 (.len (.t 31)), o 33 (.mv (.v (.int .i64 0)))])
 (.blk 0 (.loop (.seq (.ops [o 34 (.bin .lss (.t 33) (.t 32))])
   (.seq (.ite (.t 34) .skip
   (.exit 0))
   (.seq (.blk 1 (.seq (.ops [o 35 (.iad 4 (.t 31) (.t 33)), o 36 (.load 4 true (.t 35)), o 7 (.alloc [.int .i64 0, .int .i64 0, .int .i64 0, .int .i64 0]), ⟨none, .store 4 (.t 7) (.t 36), none⟩])
    (.seq (.seq (.ops [o 37 (.load 12 true (.t 2)), o 38 (.load 4 true (.t 7)), o 39 (.call 149 [.t 37, .t 38]), o 40 (.not (.t 39))])
    (.ite (.t 40) (.seq (.ops [o 4 (.mv (.v (.bool false)))])
     .ret)
    .skip))
    (.seq (.seq (.ops [o 41 (.fad 2 (.t 7)), o 42 (.load 1 false (.t 41)), o 43 (.bin .lss (.t 42) (.v (.int .i64 0)))])
    (.ite (.t 43) (.exit 1)
    .skip))
    (.seq (.draw 11 [o 44 (.mv (.t 5)), o 45 (.fad 2 (.t 7)), o 46 (.load 1 false (.t 45)), o 47 (.fad 0 (.t 7)), o 48 (.load 1 false (.t 47)), o 49 (.iad 2 (.t 44) (.t 46)), o 50 (.iar 2 1 (.t 49) (.t 48)), o 51 (.load 1 false (.t 50)), o 52 (.bin .add (.t 51) (.v (.int .i64 1))), o 53 (.iad 2 (.t 44) (.t 46)), o 54 (.iar 2 1 (.t 53) (.t 48)), ⟨none, .store 1 (.t 54) (.t 52), none⟩])
    (.seq (.draw 24 [o 55 (.mv (.t 5)), o 56 (.fad 2 (.t 7)), o 57 (.load 1 false (.t 56)), o 58 (.fad 0 (.t 7)), o 59 (.load 1 false (.t 58)), o 60 (.bin .sub (.v (.int .i64 1)) (.t 59)), o 61 (.iad 2 (.t 55) (.t 57)), o 62 (.iar 2 1 (.t 61) (.t 60)), o 63 (.load 1 false (.t 62)), o 64 (.bin .gtr (.t 63) (.v (.int .i64 0))), o 65 (.mv (.t 64)), ⟨some 66, .mv (.t 5), some (65, false)⟩, ⟨some 67, .fad 2 (.t 7), some (65, false)⟩, ⟨some 68, .load 1 false (.t 67), some (65, false)⟩, ⟨some 69, .fad 0 (.t 7), some (65, false)⟩, ⟨some 70, .load 1 false (.t 69), some (65, false)⟩, ⟨some 71, .iad 2 (.t 66) (.t 68), some (65, false)⟩, ⟨some 72, .iar 2 1 (.t 71) (.t 70), some (65, false)⟩, ⟨some 73, .load 1 false (.t 72), some (65, false)⟩, ⟨some 74, .fad 0 (.t 2), some (65, false)⟩, ⟨some 75, .fad 2 (.t 74), some (65, false)⟩, ⟨some 76, .load 1 false (.t 75), some (65, false)⟩, ⟨some 77, .bin .gtr (.t 73) (.t 76), some (65, false)⟩, o 78 (.pick (.t 65) (.v (.bool true)) (.t 77))])
    (.ite (.t 78) (.seq (.ops [o 4 (.mv (.v (.bool false)))])
     .ret)
    .skip)))))))
   (.ops [o 79 (.bin .add (.t 33) (.v (.int .i64 1))), o 33 (.mv (.t 79))])))))))
 (.seq (.ops [o 4 (.mv (.v (.bool true)))])
 .ret)))))
noncomputable def X.i_goodState (p0 : TBoard) (p1 : TState) : Option Bool :=
 ((X.i_inRange p1.Turn 0 p0.Rules.Turns).bind fun v8 => (bif (!v8) then some false else ((X.i_inRange p1.Weather 0 2).bind fun v11 => (bif (!v11) then some false else (bif (decide ((p1.Units.length : Int) > 12)) then some false else ((X.i_sizeOf p0).bind fun v15 => (if 0 ≤ v15 ∧ v15.toNat ≤ LIM then ((loop (fun (x85 : (Int × (List A2_I))) => ((bif (decide (x85.1 < (p1.Units.length : Int))) then ((at' zTUnit p1.Units x85.1).bind fun v88 => ((X.i_goodUnit p0 v88).bind fun v93 => (bif (!v93) then some (Sum.inr (Sum.inr false)) else (bif (decide (v88.At < 0)) then some (Sum.inl ((W (x85.1 + 1)), x85.2)) else (if 0 ≤ v88.At ∧ v88.At < (x85.2.length : Int) then (if v88.Side = ((0 : Nat) : Int) then (if (W (1 - v88.Side)) = ((0 : Nat) : Int) then (bif (decide (((x85.2.set v88.At.toNat (A2_I.mk (W ((x85.2.getD v88.At.toNat zA2_I).a0 + 1)) ((x85.2.getD v88.At.toNat zA2_I).a1))).getD v88.At.toNat zA2_I).a0 > 0)) then some (Sum.inr (Sum.inr false)) else (bif (decide (((x85.2.set v88.At.toNat (A2_I.mk (W ((x85.2.getD v88.At.toNat zA2_I).a0 + 1)) ((x85.2.getD v88.At.toNat zA2_I).a1))).getD v88.At.toNat zA2_I).a0 > p0.Rules.Stack)) then some (Sum.inr (Sum.inr false)) else some (Sum.inl ((W (x85.1 + 1)), (x85.2.set v88.At.toNat (A2_I.mk (W ((x85.2.getD v88.At.toNat zA2_I).a0 + 1)) ((x85.2.getD v88.At.toNat zA2_I).a1))))))) else (if (W (1 - v88.Side)) = ((1 : Nat) : Int) then (bif (decide (((x85.2.set v88.At.toNat (A2_I.mk (W ((x85.2.getD v88.At.toNat zA2_I).a0 + 1)) ((x85.2.getD v88.At.toNat zA2_I).a1))).getD v88.At.toNat zA2_I).a1 > 0)) then some (Sum.inr (Sum.inr false)) else (bif (decide (((x85.2.set v88.At.toNat (A2_I.mk (W ((x85.2.getD v88.At.toNat zA2_I).a0 + 1)) ((x85.2.getD v88.At.toNat zA2_I).a1))).getD v88.At.toNat zA2_I).a0 > p0.Rules.Stack)) then some (Sum.inr (Sum.inr false)) else some (Sum.inl ((W (x85.1 + 1)), (x85.2.set v88.At.toNat (A2_I.mk (W ((x85.2.getD v88.At.toNat zA2_I).a0 + 1)) ((x85.2.getD v88.At.toNat zA2_I).a1))))))) else none)) else (if v88.Side = ((1 : Nat) : Int) then (if (W (1 - v88.Side)) = ((0 : Nat) : Int) then (bif (decide (((x85.2.set v88.At.toNat (A2_I.mk ((x85.2.getD v88.At.toNat zA2_I).a0) (W ((x85.2.getD v88.At.toNat zA2_I).a1 + 1)))).getD v88.At.toNat zA2_I).a0 > 0)) then some (Sum.inr (Sum.inr false)) else (bif (decide (((x85.2.set v88.At.toNat (A2_I.mk ((x85.2.getD v88.At.toNat zA2_I).a0) (W ((x85.2.getD v88.At.toNat zA2_I).a1 + 1)))).getD v88.At.toNat zA2_I).a1 > p0.Rules.Stack)) then some (Sum.inr (Sum.inr false)) else some (Sum.inl ((W (x85.1 + 1)), (x85.2.set v88.At.toNat (A2_I.mk ((x85.2.getD v88.At.toNat zA2_I).a0) (W ((x85.2.getD v88.At.toNat zA2_I).a1 + 1)))))))) else (if (W (1 - v88.Side)) = ((1 : Nat) : Int) then (bif (decide (((x85.2.set v88.At.toNat (A2_I.mk ((x85.2.getD v88.At.toNat zA2_I).a0) (W ((x85.2.getD v88.At.toNat zA2_I).a1 + 1)))).getD v88.At.toNat zA2_I).a1 > 0)) then some (Sum.inr (Sum.inr false)) else (bif (decide (((x85.2.set v88.At.toNat (A2_I.mk ((x85.2.getD v88.At.toNat zA2_I).a0) (W ((x85.2.getD v88.At.toNat zA2_I).a1 + 1)))).getD v88.At.toNat zA2_I).a1 > p0.Rules.Stack)) then some (Sum.inr (Sum.inr false)) else some (Sum.inl ((W (x85.1 + 1)), (x85.2.set v88.At.toNat (A2_I.mk ((x85.2.getD v88.At.toNat zA2_I).a0) (W ((x85.2.getD v88.At.toNat zA2_I).a1 + 1)))))))) else none)) else none)) else none))))) else some (Sum.inr (Sum.inl ()))) : Option ((Int × (List A2_I)) ⊕ (Unit ⊕ Bool)))) (0, (List.replicate v15.toNat zA2_I))).bind fun y119 => (Sum.elim (fun (y121 : Unit) => some true) (fun (y122 : Bool) => some y122) y119)) else none)))))))
theorem i_goodState_ok (p0 : TBoard) (p1 : TState) (r : Bool) (H : X.i_goodState p0 p1 = some r) : FnOk Tryz.prog gl 181 [.agg (eTBoard p0), .agg (eTState p1)] (cB r) := by
 unfold X.i_goodState at H
 refine fi Tryz.f181 i_goodState_ir [(4, cB r)] [] glL Tryz.func181 ?_
 refine so [] [] [(2, pk 2), (3, pk 3)] [(2, va (eTBoard p0)), (3, va (eTState p1))] id ?_
 refine seq_in ?_
 obtain ⟨v8, h9, H⟩ := ofBind H
 rcases ofCond H with ⟨c10, H⟩ | ⟨c10, H⟩
 ·refine so [.res (cB v8), .g true, .g true, .g true, .g true, .g true, .g true, .g true, .g true, .g true, .g true] [] [(2, pk 2), (3, pk 3), (26, cB true)] [(2, va (eTBoard p0)), (3, va (eTState p1))] (fun t => aI (i_inRange_ok p1.Turn 0 p0.Rules.Turns v8 h9) (aI c10 (aI c10 (aI c10 (aI c10 (aI c10 (aI (rfl : (true : Bool) = true) (aI (rfl : (true : Bool) = true) (aI (rfl : (true : Bool) = true) (aI (rfl : (true : Bool) = true) (aI (rfl : (true : Bool) = true) (t)))))))))))) ?_
  refine it (rfl : (true : Bool) = true) ?_
  refine so [] [] [(4, cB false)] [] id ?_
  refine ends_ret ?_
  cases H
  exact And.intro (.inl rfl) rfl
 ·obtain ⟨v11, h12, H⟩ := ofBind H
  rcases ofCond H with ⟨c13, H⟩ | ⟨c13, H⟩
  ·refine so [.res (cB v8), .g false, .g false, .g false, .res (cB v11), .g false, .g false, .g true, .g true, .g true, .g true, .g true] [] [(2, pk 2), (3, pk 3), (26, cB true)] [(2, va (eTBoard p0)), (3, va (eTState p1))] (fun t => aI (i_inRange_ok p1.Turn 0 p0.Rules.Turns v8 h9) (aI c10 (aI c10 (aI c10 (aI (i_inRange_ok p1.Weather 0 2 v11 h12) (aI c10 (aI c10 (aI c13 (aI c13 (aI c13 (aI c13 (aI c13 (t))))))))))))) ?_
   refine it (rfl : (true : Bool) = true) ?_
   refine so [] [] [(4, cB false)] [] id ?_
   refine ends_ret ?_
   cases H
   exact And.intro (.inl rfl) rfl
  ·refine so [.res (cB v8), .g false, .g false, .g false, .res (cB v11), .g false, .g false, .g false, .g false, .g false, .g false, .g false] [] [(2, pk 2), (3, pk 3), (26, cB (decide ((p1.Units.length : Int) > 12)))] [(2, va (eTBoard p0)), (3, va (eTState p1))] (fun t => aI (i_inRange_ok p1.Turn 0 p0.Rules.Turns v8 h9) (aI c10 (aI c10 (aI c10 (aI (i_inRange_ok p1.Weather 0 2 v11 h12) (aI c10 (aI c10 (aI c13 (aI c13 (aI c13 (lI p1.Units (aI c13 (aI c13 (t)))))))))))))) ?_
   rcases ofCond H with ⟨c14, H⟩ | ⟨c14, H⟩
   ·refine it c14 ?_
    refine so [] [] [(4, cB false)] [] id ?_
    refine ends_ret ?_
    cases H
    exact And.intro (.inl rfl) rfl
   ·refine jf c14 ?_
    refine sk ?_
    obtain ⟨v15, h16, H⟩ := ofBind H
    obtain ⟨g17, H⟩ := ofIf H
    refine so [.res (cI v15), .fn (List.replicate v15.toNat zA2_I).length (fF eA2_I zA2_I (List.replicate v15.toNat zA2_I))] [] [(2, pk 2), (3, pk 3), (5, .c (.own 29 2 0 ((List.replicate v15.toNat zA2_I).length)))] [(2, va (eTBoard p0)), (3, va (eTState p1)), (29, .arr 2 ((List.replicate v15.toNat zA2_I).length) (fF eA2_I zA2_I (List.replicate v15.toNat zA2_I)) false)] (fun t => aI (i_sizeOf_ok p0 v15 h16) (aI (And.intro g17.1 (And.intro (List.length_replicate (n := v15.toNat) (a := zA2_I)).symm (Nat.le_trans (Nat.le_of_eq List.length_replicate) g17.2 : (List.replicate v15.toNat zA2_I).length ≤ LIM))) (aI (fF_rep eA2_I zA2_I zA2_I v15.toNat) (t)))) ?_
    refine seq_in ?_
    refine so [] [] [(2, pk 2), (5, .c (.own 29 2 0 ((List.replicate v15.toNat zA2_I).length))), (31, dc 4 eTUnit zTUnit p1.Units), (32, cI (p1.Units.length : Int)), (33, cI 0)] [(2, va (eTBoard p0)), (29, .arr 2 ((List.replicate v15.toNat zA2_I).length) (fF eA2_I zA2_I (List.replicate v15.toNat zA2_I)) false)] (fun t => lI p1.Units (t)) ?_
    refine ends_blk ?_
    obtain ⟨y119, h120, H⟩ := ofBind H
    refine loop_in (fun (x : (Int × (List A2_I))) => lit [(2, pk 2), (5, .c (.own 29 2 0 x.2.length)), (31, dc 4 eTUnit zTUnit p1.Units), (32, cI (p1.Units.length : Int)), (33, cI x.1)] [(2, va (eTBoard p0)), (29, .arr 2 x.2.length (fF eA2_I zA2_I x.2) false)]) (orJ (fun (z : Unit) => At (.exit 0) (lit [] [])) (fun (z : Bool) => At .ret (lit [(4, cB z)] []))) h120 ?_ ?_
    ·clear H h120
     intro x85 y0 H
     refine so [] [] [(2, pk 2), (5, .c (.own 29 2 0 x85.2.length)), (31, dc 4 eTUnit zTUnit p1.Units), (32, cI (p1.Units.length : Int)), (33, cI x85.1), (34, cB (decide (x85.1 < (p1.Units.length : Int))))] [(2, va (eTBoard p0)), (29, .arr 2 x85.2.length (fF eA2_I zA2_I x85.2) false)] id ?_
     refine seq_in ?_
     rcases ofCond H with ⟨c87, H⟩ | ⟨c87, H⟩
     ·refine it c87 ?_
      refine sk ?_
      refine seq_in ?_
      refine ends_blk ?_
      obtain ⟨v88, h89, H⟩ := ofBind H
      refine so [.cs (eTUnit v88)] [] [(2, pk 2), (5, .c (.own 29 2 0 x85.2.length)), (7, pk 7), (31, dc 4 eTUnit zTUnit p1.Units), (32, cI (p1.Units.length : Int)), (33, cI x85.1)] [(2, va (eTBoard p0)), (7, va (eTUnit v88)), (29, .arr 2 x85.2.length (fF eA2_I zA2_I x85.2) false)] (fun t => aI (at_lt h89) (aI (at_enc (enc := eTUnit) h89) (t))) ?_
      refine seq_in ?_
      obtain ⟨v93, h94, H⟩ := ofBind H
      refine so [.res (cB v93)] [] [(2, pk 2), (5, .c (.own 29 2 0 x85.2.length)), (7, pk 7), (31, dc 4 eTUnit zTUnit p1.Units), (32, cI (p1.Units.length : Int)), (33, cI x85.1), (40, cB (!v93))] [(2, va (eTBoard p0)), (7, va (eTUnit v88)), (29, .arr 2 x85.2.length (fF eA2_I zA2_I x85.2) false)] (fun t => aI (i_goodUnit_ok p0 v88 v93 h94) (t)) ?_
      rcases ofCond H with ⟨c95, H⟩ | ⟨c95, H⟩
      ·refine it c95 ?_
       refine so [] [] [(4, cB false)] [] id ?_
       refine ends_ret ?_
       cases H
       exact And.intro (by simp) (And.intro rfl rfl)
      ·refine jf c95 ?_
       refine sk ?_
       refine seq_in ?_
       refine so [] [] [(2, pk 2), (5, .c (.own 29 2 0 x85.2.length)), (7, pk 7), (31, dc 4 eTUnit zTUnit p1.Units), (32, cI (p1.Units.length : Int)), (33, cI x85.1), (43, cB (decide (v88.At < 0)))] [(2, va (eTBoard p0)), (7, va (eTUnit v88)), (29, .arr 2 x85.2.length (fF eA2_I zA2_I x85.2) false)] id ?_
       rcases ofCond H with ⟨c97, H⟩ | ⟨c97, H⟩
       ·refine it c97 ?_
        refine ends_exit ?_
        change EndsI _ _ _ _ _ _
        refine oo [] [] [(2, pk 2), (5, .c (.own 29 2 0 x85.2.length)), (31, dc 4 eTUnit zTUnit p1.Units), (32, cI (p1.Units.length : Int)), (33, cI (W (x85.1 + 1)))] [(2, va (eTBoard p0)), (29, .arr 2 x85.2.length (fF eA2_I zA2_I x85.2) false)] id ?_
        cases H
        exact And.intro rfl rfl
       ·refine jf c97 ?_
        refine sk ?_
        obtain ⟨g98, H⟩ := ofIf H
        rcases ofIte H with ⟨c99, H⟩ | ⟨c118, H⟩
        ·refine sd [.no, .nat 0, .no, .nat 0, .fn 0 (fF eA2_I zA2_I (x85.2.set v88.At.toNat (A2_I.mk (W ((x85.2.getD v88.At.toNat zA2_I).a0 + 1)) ((x85.2.getD v88.At.toNat zA2_I).a1))))] [] [(2, pk 2), (5, .c (.own 29 2 0 x85.2.length)), (7, pk 7), (31, dc 4 eTUnit zTUnit p1.Units), (32, cI (p1.Units.length : Int)), (33, cI x85.1)] [(2, va (eTBoard p0)), (7, va (eTUnit v88)), (29, .arr 2 x85.2.length (fF eA2_I zA2_I (x85.2.set v88.At.toNat (A2_I.mk (W ((x85.2.getD v88.At.toNat zA2_I).a0 + 1)) ((x85.2.getD v88.At.toNat zA2_I).a1)))) false)] (fun t => aI g98 (aI (And.intro c99 (by decide : 0 < 2)) (aI (nat_lt g98) (aI (rfl : ([] : List Nat) = []) (aI g98 (aI (And.intro c99 (by decide : 0 < 2)) (aI (rfl : true = true) (aI (nat_lt g98) (aI (by decide : 0 + 1 ≤ 2) (aI (fF_set eA2_I zA2_I x85.2 v88.At.toNat (A2_I.mk (W ((x85.2.getD v88.At.toNat zA2_I).a0 + 1)) ((x85.2.getD v88.At.toNat zA2_I).a1)) (nat_lt g98) x85.2.length) (t))))))))))) ?_
         rcases ofIte H with ⟨c100, H⟩ | ⟨c107, H⟩
         ·rcases ofCond H with ⟨c101, H⟩ | ⟨c101, H⟩
          ·refine sd [.no, .nat 0, .g true, .g true, .g true, .g true, .g true, .g true, .g true, .g true, .g true, .g true, .g true, .g true, .g true] [] [(2, pk 2), (5, .c (.own 29 2 0 x85.2.length)), (31, dc 4 eTUnit zTUnit p1.Units), (32, cI (p1.Units.length : Int)), (33, cI x85.1), (78, cB true)] [(2, va (eTBoard p0)), (29, .arr 2 x85.2.length (fF eA2_I zA2_I (x85.2.set v88.At.toNat (A2_I.mk (W ((x85.2.getD v88.At.toNat zA2_I).a0 + 1)) ((x85.2.getD v88.At.toNat zA2_I).a1)))) false)] (fun t => aI g98 (aI (And.intro c100 (by decide : 0 < 2)) (aI (nat_lt g98) (aI (rfl : ([] : List Nat) = []) (aI c101 (aI c101 (aI c101 (aI c101 (aI c101 (aI c101 (aI c101 (aI c101 (aI c101 (aI c101 (aI c101 (aI c101 (aI c101 (t)))))))))))))))))) ?_
           refine it (rfl : (true : Bool) = true) ?_
           refine so [] [] [(4, cB false)] [] id ?_
           refine ends_ret ?_
           cases H
           exact And.intro (by simp) (And.intro rfl rfl)
          ·refine sd [.no, .nat 0, .g false, .g false, .g false, .g false, .g false, .g false, .no, .g false, .nat 0, .g false, .g false, .g false, .g false, .g false, .g false] [] [(2, pk 2), (5, .c (.own 29 2 0 x85.2.length)), (31, dc 4 eTUnit zTUnit p1.Units), (32, cI (p1.Units.length : Int)), (33, cI x85.1), (78, cB (decide (((x85.2.set v88.At.toNat (A2_I.mk (W ((x85.2.getD v88.At.toNat zA2_I).a0 + 1)) ((x85.2.getD v88.At.toNat zA2_I).a1))).getD v88.At.toNat zA2_I).a0 > p0.Rules.Stack)))] [(2, va (eTBoard p0)), (29, .arr 2 x85.2.length (fF eA2_I zA2_I (x85.2.set v88.At.toNat (A2_I.mk (W ((x85.2.getD v88.At.toNat zA2_I).a0 + 1)) ((x85.2.getD v88.At.toNat zA2_I).a1)))) false)] (fun t => aI g98 (aI (And.intro c100 (by decide : 0 < 2)) (aI (nat_lt g98) (aI (rfl : ([] : List Nat) = []) (aI c101 (aI c101 (aI c101 (aI c101 (aI c101 (aI c101 (aI g98 (aI c101 (aI (And.intro c99 (by decide : 0 < 2)) (aI c101 (aI (nat_lt g98) (aI (rfl : ([] : List Nat) = []) (aI c101 (aI c101 (aI c101 (aI c101 (aI c101 (t)))))))))))))))))))))) ?_
           rcases ofCond H with ⟨c102, H⟩ | ⟨c102, H⟩
           ·refine it c102 ?_
            refine so [] [] [(4, cB false)] [] id ?_
            refine ends_ret ?_
            cases H
            exact And.intro (by simp) (And.intro rfl rfl)
           ·refine jf c102 ?_
            refine sk ?_
            refine oo [] [.rel 5 ((x85.2.set v88.At.toNat (A2_I.mk (W ((x85.2.getD v88.At.toNat zA2_I).a0 + 1)) ((x85.2.getD v88.At.toNat zA2_I).a1))).length), .rep 29 ((x85.2.set v88.At.toNat (A2_I.mk (W ((x85.2.getD v88.At.toNat zA2_I).a0 + 1)) ((x85.2.getD v88.At.toNat zA2_I).a1))).length) (fF eA2_I zA2_I (x85.2.set v88.At.toNat (A2_I.mk (W ((x85.2.getD v88.At.toNat zA2_I).a0 + 1)) ((x85.2.getD v88.At.toNat zA2_I).a1))))] [(2, pk 2), (5, .c (.own 29 2 0 ((x85.2.set v88.At.toNat (A2_I.mk (W ((x85.2.getD v88.At.toNat zA2_I).a0 + 1)) ((x85.2.getD v88.At.toNat zA2_I).a1))).length))), (31, dc 4 eTUnit zTUnit p1.Units), (32, cI (p1.Units.length : Int)), (33, cI (W (x85.1 + 1)))] [(2, va (eTBoard p0)), (29, .arr 2 ((x85.2.set v88.At.toNat (A2_I.mk (W ((x85.2.getD v88.At.toNat zA2_I).a0 + 1)) ((x85.2.getD v88.At.toNat zA2_I).a1))).length) (fF eA2_I zA2_I (x85.2.set v88.At.toNat (A2_I.mk (W ((x85.2.getD v88.At.toNat zA2_I).a0 + 1)) ((x85.2.getD v88.At.toNat zA2_I).a1)))) false)] (fun t => aI (by simp : x85.2.length = (x85.2.set v88.At.toNat (A2_I.mk (W ((x85.2.getD v88.At.toNat zA2_I).a0 + 1)) ((x85.2.getD v88.At.toNat zA2_I).a1))).length) (aI (Nat.le_of_eq (by simp : (x85.2.set v88.At.toNat (A2_I.mk (W ((x85.2.getD v88.At.toNat zA2_I).a0 + 1)) ((x85.2.getD v88.At.toNat zA2_I).a1))).length = x85.2.length)) (aI (fun _ _ => rfl : ∀ i, i < (x85.2.set v88.At.toNat (A2_I.mk (W ((x85.2.getD v88.At.toNat zA2_I).a0 + 1)) ((x85.2.getD v88.At.toNat zA2_I).a1))).length → (fF eA2_I zA2_I (x85.2.set v88.At.toNat (A2_I.mk (W ((x85.2.getD v88.At.toNat zA2_I).a0 + 1)) ((x85.2.getD v88.At.toNat zA2_I).a1)))) i = (fF eA2_I zA2_I (x85.2.set v88.At.toNat (A2_I.mk (W ((x85.2.getD v88.At.toNat zA2_I).a0 + 1)) ((x85.2.getD v88.At.toNat zA2_I).a1)))) i) (t)))) ?_
            cases H
            exact And.intro rfl rfl
         ·rcases ofIte H with ⟨c103, H⟩ | ⟨c106, H⟩
          ·rcases ofCond H with ⟨c104, H⟩ | ⟨c104, H⟩
           ·refine sd [.no, .nat 1, .g true, .g true, .g true, .g true, .g true, .g true, .g true, .g true, .g true, .g true, .g true, .g true, .g true] [] [(2, pk 2), (5, .c (.own 29 2 0 x85.2.length)), (31, dc 4 eTUnit zTUnit p1.Units), (32, cI (p1.Units.length : Int)), (33, cI x85.1), (78, cB true)] [(2, va (eTBoard p0)), (29, .arr 2 x85.2.length (fF eA2_I zA2_I (x85.2.set v88.At.toNat (A2_I.mk (W ((x85.2.getD v88.At.toNat zA2_I).a0 + 1)) ((x85.2.getD v88.At.toNat zA2_I).a1)))) false)] (fun t => aI g98 (aI (And.intro c103 (by decide : 1 < 2)) (aI (nat_lt g98) (aI (rfl : ([] : List Nat) = []) (aI c104 (aI c104 (aI c104 (aI c104 (aI c104 (aI c104 (aI c104 (aI c104 (aI c104 (aI c104 (aI c104 (aI c104 (aI c104 (t)))))))))))))))))) ?_
            refine it (rfl : (true : Bool) = true) ?_
            refine so [] [] [(4, cB false)] [] id ?_
            refine ends_ret ?_
            cases H
            exact And.intro (by simp) (And.intro rfl rfl)
           ·refine sd [.no, .nat 1, .g false, .g false, .g false, .g false, .g false, .g false, .no, .g false, .nat 0, .g false, .g false, .g false, .g false, .g false, .g false] [] [(2, pk 2), (5, .c (.own 29 2 0 x85.2.length)), (31, dc 4 eTUnit zTUnit p1.Units), (32, cI (p1.Units.length : Int)), (33, cI x85.1), (78, cB (decide (((x85.2.set v88.At.toNat (A2_I.mk (W ((x85.2.getD v88.At.toNat zA2_I).a0 + 1)) ((x85.2.getD v88.At.toNat zA2_I).a1))).getD v88.At.toNat zA2_I).a0 > p0.Rules.Stack)))] [(2, va (eTBoard p0)), (29, .arr 2 x85.2.length (fF eA2_I zA2_I (x85.2.set v88.At.toNat (A2_I.mk (W ((x85.2.getD v88.At.toNat zA2_I).a0 + 1)) ((x85.2.getD v88.At.toNat zA2_I).a1)))) false)] (fun t => aI g98 (aI (And.intro c103 (by decide : 1 < 2)) (aI (nat_lt g98) (aI (rfl : ([] : List Nat) = []) (aI c104 (aI c104 (aI c104 (aI c104 (aI c104 (aI c104 (aI g98 (aI c104 (aI (And.intro c99 (by decide : 0 < 2)) (aI c104 (aI (nat_lt g98) (aI (rfl : ([] : List Nat) = []) (aI c104 (aI c104 (aI c104 (aI c104 (aI c104 (t)))))))))))))))))))))) ?_
            rcases ofCond H with ⟨c105, H⟩ | ⟨c105, H⟩
            ·refine it c105 ?_
             refine so [] [] [(4, cB false)] [] id ?_
             refine ends_ret ?_
             cases H
             exact And.intro (by simp) (And.intro rfl rfl)
            ·refine jf c105 ?_
             refine sk ?_
             refine oo [] [.rel 5 ((x85.2.set v88.At.toNat (A2_I.mk (W ((x85.2.getD v88.At.toNat zA2_I).a0 + 1)) ((x85.2.getD v88.At.toNat zA2_I).a1))).length), .rep 29 ((x85.2.set v88.At.toNat (A2_I.mk (W ((x85.2.getD v88.At.toNat zA2_I).a0 + 1)) ((x85.2.getD v88.At.toNat zA2_I).a1))).length) (fF eA2_I zA2_I (x85.2.set v88.At.toNat (A2_I.mk (W ((x85.2.getD v88.At.toNat zA2_I).a0 + 1)) ((x85.2.getD v88.At.toNat zA2_I).a1))))] [(2, pk 2), (5, .c (.own 29 2 0 ((x85.2.set v88.At.toNat (A2_I.mk (W ((x85.2.getD v88.At.toNat zA2_I).a0 + 1)) ((x85.2.getD v88.At.toNat zA2_I).a1))).length))), (31, dc 4 eTUnit zTUnit p1.Units), (32, cI (p1.Units.length : Int)), (33, cI (W (x85.1 + 1)))] [(2, va (eTBoard p0)), (29, .arr 2 ((x85.2.set v88.At.toNat (A2_I.mk (W ((x85.2.getD v88.At.toNat zA2_I).a0 + 1)) ((x85.2.getD v88.At.toNat zA2_I).a1))).length) (fF eA2_I zA2_I (x85.2.set v88.At.toNat (A2_I.mk (W ((x85.2.getD v88.At.toNat zA2_I).a0 + 1)) ((x85.2.getD v88.At.toNat zA2_I).a1)))) false)] (fun t => aI (by simp : x85.2.length = (x85.2.set v88.At.toNat (A2_I.mk (W ((x85.2.getD v88.At.toNat zA2_I).a0 + 1)) ((x85.2.getD v88.At.toNat zA2_I).a1))).length) (aI (Nat.le_of_eq (by simp : (x85.2.set v88.At.toNat (A2_I.mk (W ((x85.2.getD v88.At.toNat zA2_I).a0 + 1)) ((x85.2.getD v88.At.toNat zA2_I).a1))).length = x85.2.length)) (aI (fun _ _ => rfl : ∀ i, i < (x85.2.set v88.At.toNat (A2_I.mk (W ((x85.2.getD v88.At.toNat zA2_I).a0 + 1)) ((x85.2.getD v88.At.toNat zA2_I).a1))).length → (fF eA2_I zA2_I (x85.2.set v88.At.toNat (A2_I.mk (W ((x85.2.getD v88.At.toNat zA2_I).a0 + 1)) ((x85.2.getD v88.At.toNat zA2_I).a1)))) i = (fF eA2_I zA2_I (x85.2.set v88.At.toNat (A2_I.mk (W ((x85.2.getD v88.At.toNat zA2_I).a0 + 1)) ((x85.2.getD v88.At.toNat zA2_I).a1)))) i) (t)))) ?_
             cases H
             exact And.intro rfl rfl
          ·cases H
        ·rcases ofIte H with ⟨c108, H⟩ | ⟨c117, H⟩
         ·refine sd [.no, .nat 1, .no, .nat 1, .fn 0 (fF eA2_I zA2_I (x85.2.set v88.At.toNat (A2_I.mk ((x85.2.getD v88.At.toNat zA2_I).a0) (W ((x85.2.getD v88.At.toNat zA2_I).a1 + 1)))))] [] [(2, pk 2), (5, .c (.own 29 2 0 x85.2.length)), (7, pk 7), (31, dc 4 eTUnit zTUnit p1.Units), (32, cI (p1.Units.length : Int)), (33, cI x85.1)] [(2, va (eTBoard p0)), (7, va (eTUnit v88)), (29, .arr 2 x85.2.length (fF eA2_I zA2_I (x85.2.set v88.At.toNat (A2_I.mk ((x85.2.getD v88.At.toNat zA2_I).a0) (W ((x85.2.getD v88.At.toNat zA2_I).a1 + 1))))) false)] (fun t => aI g98 (aI (And.intro c108 (by decide : 1 < 2)) (aI (nat_lt g98) (aI (rfl : ([] : List Nat) = []) (aI g98 (aI (And.intro c108 (by decide : 1 < 2)) (aI (rfl : true = true) (aI (nat_lt g98) (aI (by decide : 1 + 1 ≤ 2) (aI (fF_set eA2_I zA2_I x85.2 v88.At.toNat (A2_I.mk ((x85.2.getD v88.At.toNat zA2_I).a0) (W ((x85.2.getD v88.At.toNat zA2_I).a1 + 1))) (nat_lt g98) x85.2.length) (t))))))))))) ?_
          rcases ofIte H with ⟨c109, H⟩ | ⟨c116, H⟩
          ·rcases ofCond H with ⟨c110, H⟩ | ⟨c110, H⟩
           ·refine sd [.no, .nat 0, .g true, .g true, .g true, .g true, .g true, .g true, .g true, .g true, .g true, .g true, .g true, .g true, .g true] [] [(2, pk 2), (5, .c (.own 29 2 0 x85.2.length)), (31, dc 4 eTUnit zTUnit p1.Units), (32, cI (p1.Units.length : Int)), (33, cI x85.1), (78, cB true)] [(2, va (eTBoard p0)), (29, .arr 2 x85.2.length (fF eA2_I zA2_I (x85.2.set v88.At.toNat (A2_I.mk ((x85.2.getD v88.At.toNat zA2_I).a0) (W ((x85.2.getD v88.At.toNat zA2_I).a1 + 1))))) false)] (fun t => aI g98 (aI (And.intro c109 (by decide : 0 < 2)) (aI (nat_lt g98) (aI (rfl : ([] : List Nat) = []) (aI c110 (aI c110 (aI c110 (aI c110 (aI c110 (aI c110 (aI c110 (aI c110 (aI c110 (aI c110 (aI c110 (aI c110 (aI c110 (t)))))))))))))))))) ?_
            refine it (rfl : (true : Bool) = true) ?_
            refine so [] [] [(4, cB false)] [] id ?_
            refine ends_ret ?_
            cases H
            exact And.intro (by simp) (And.intro rfl rfl)
           ·refine sd [.no, .nat 0, .g false, .g false, .g false, .g false, .g false, .g false, .no, .g false, .nat 1, .g false, .g false, .g false, .g false, .g false, .g false] [] [(2, pk 2), (5, .c (.own 29 2 0 x85.2.length)), (31, dc 4 eTUnit zTUnit p1.Units), (32, cI (p1.Units.length : Int)), (33, cI x85.1), (78, cB (decide (((x85.2.set v88.At.toNat (A2_I.mk ((x85.2.getD v88.At.toNat zA2_I).a0) (W ((x85.2.getD v88.At.toNat zA2_I).a1 + 1)))).getD v88.At.toNat zA2_I).a1 > p0.Rules.Stack)))] [(2, va (eTBoard p0)), (29, .arr 2 x85.2.length (fF eA2_I zA2_I (x85.2.set v88.At.toNat (A2_I.mk ((x85.2.getD v88.At.toNat zA2_I).a0) (W ((x85.2.getD v88.At.toNat zA2_I).a1 + 1))))) false)] (fun t => aI g98 (aI (And.intro c109 (by decide : 0 < 2)) (aI (nat_lt g98) (aI (rfl : ([] : List Nat) = []) (aI c110 (aI c110 (aI c110 (aI c110 (aI c110 (aI c110 (aI g98 (aI c110 (aI (And.intro c108 (by decide : 1 < 2)) (aI c110 (aI (nat_lt g98) (aI (rfl : ([] : List Nat) = []) (aI c110 (aI c110 (aI c110 (aI c110 (aI c110 (t)))))))))))))))))))))) ?_
            rcases ofCond H with ⟨c111, H⟩ | ⟨c111, H⟩
            ·refine it c111 ?_
             refine so [] [] [(4, cB false)] [] id ?_
             refine ends_ret ?_
             cases H
             exact And.intro (by simp) (And.intro rfl rfl)
            ·refine jf c111 ?_
             refine sk ?_
             refine oo [] [.rel 5 ((x85.2.set v88.At.toNat (A2_I.mk ((x85.2.getD v88.At.toNat zA2_I).a0) (W ((x85.2.getD v88.At.toNat zA2_I).a1 + 1)))).length), .rep 29 ((x85.2.set v88.At.toNat (A2_I.mk ((x85.2.getD v88.At.toNat zA2_I).a0) (W ((x85.2.getD v88.At.toNat zA2_I).a1 + 1)))).length) (fF eA2_I zA2_I (x85.2.set v88.At.toNat (A2_I.mk ((x85.2.getD v88.At.toNat zA2_I).a0) (W ((x85.2.getD v88.At.toNat zA2_I).a1 + 1)))))] [(2, pk 2), (5, .c (.own 29 2 0 ((x85.2.set v88.At.toNat (A2_I.mk ((x85.2.getD v88.At.toNat zA2_I).a0) (W ((x85.2.getD v88.At.toNat zA2_I).a1 + 1)))).length))), (31, dc 4 eTUnit zTUnit p1.Units), (32, cI (p1.Units.length : Int)), (33, cI (W (x85.1 + 1)))] [(2, va (eTBoard p0)), (29, .arr 2 ((x85.2.set v88.At.toNat (A2_I.mk ((x85.2.getD v88.At.toNat zA2_I).a0) (W ((x85.2.getD v88.At.toNat zA2_I).a1 + 1)))).length) (fF eA2_I zA2_I (x85.2.set v88.At.toNat (A2_I.mk ((x85.2.getD v88.At.toNat zA2_I).a0) (W ((x85.2.getD v88.At.toNat zA2_I).a1 + 1))))) false)] (fun t => aI (by simp : x85.2.length = (x85.2.set v88.At.toNat (A2_I.mk ((x85.2.getD v88.At.toNat zA2_I).a0) (W ((x85.2.getD v88.At.toNat zA2_I).a1 + 1)))).length) (aI (Nat.le_of_eq (by simp : (x85.2.set v88.At.toNat (A2_I.mk ((x85.2.getD v88.At.toNat zA2_I).a0) (W ((x85.2.getD v88.At.toNat zA2_I).a1 + 1)))).length = x85.2.length)) (aI (fun _ _ => rfl : ∀ i, i < (x85.2.set v88.At.toNat (A2_I.mk ((x85.2.getD v88.At.toNat zA2_I).a0) (W ((x85.2.getD v88.At.toNat zA2_I).a1 + 1)))).length → (fF eA2_I zA2_I (x85.2.set v88.At.toNat (A2_I.mk ((x85.2.getD v88.At.toNat zA2_I).a0) (W ((x85.2.getD v88.At.toNat zA2_I).a1 + 1))))) i = (fF eA2_I zA2_I (x85.2.set v88.At.toNat (A2_I.mk ((x85.2.getD v88.At.toNat zA2_I).a0) (W ((x85.2.getD v88.At.toNat zA2_I).a1 + 1))))) i) (t)))) ?_
             cases H
             exact And.intro rfl rfl
          ·rcases ofIte H with ⟨c112, H⟩ | ⟨c115, H⟩
           ·rcases ofCond H with ⟨c113, H⟩ | ⟨c113, H⟩
            ·refine sd [.no, .nat 1, .g true, .g true, .g true, .g true, .g true, .g true, .g true, .g true, .g true, .g true, .g true, .g true, .g true] [] [(2, pk 2), (5, .c (.own 29 2 0 x85.2.length)), (31, dc 4 eTUnit zTUnit p1.Units), (32, cI (p1.Units.length : Int)), (33, cI x85.1), (78, cB true)] [(2, va (eTBoard p0)), (29, .arr 2 x85.2.length (fF eA2_I zA2_I (x85.2.set v88.At.toNat (A2_I.mk ((x85.2.getD v88.At.toNat zA2_I).a0) (W ((x85.2.getD v88.At.toNat zA2_I).a1 + 1))))) false)] (fun t => aI g98 (aI (And.intro c112 (by decide : 1 < 2)) (aI (nat_lt g98) (aI (rfl : ([] : List Nat) = []) (aI c113 (aI c113 (aI c113 (aI c113 (aI c113 (aI c113 (aI c113 (aI c113 (aI c113 (aI c113 (aI c113 (aI c113 (aI c113 (t)))))))))))))))))) ?_
             refine it (rfl : (true : Bool) = true) ?_
             refine so [] [] [(4, cB false)] [] id ?_
             refine ends_ret ?_
             cases H
             exact And.intro (by simp) (And.intro rfl rfl)
            ·refine sd [.no, .nat 1, .g false, .g false, .g false, .g false, .g false, .g false, .no, .g false, .nat 1, .g false, .g false, .g false, .g false, .g false, .g false] [] [(2, pk 2), (5, .c (.own 29 2 0 x85.2.length)), (31, dc 4 eTUnit zTUnit p1.Units), (32, cI (p1.Units.length : Int)), (33, cI x85.1), (78, cB (decide (((x85.2.set v88.At.toNat (A2_I.mk ((x85.2.getD v88.At.toNat zA2_I).a0) (W ((x85.2.getD v88.At.toNat zA2_I).a1 + 1)))).getD v88.At.toNat zA2_I).a1 > p0.Rules.Stack)))] [(2, va (eTBoard p0)), (29, .arr 2 x85.2.length (fF eA2_I zA2_I (x85.2.set v88.At.toNat (A2_I.mk ((x85.2.getD v88.At.toNat zA2_I).a0) (W ((x85.2.getD v88.At.toNat zA2_I).a1 + 1))))) false)] (fun t => aI g98 (aI (And.intro c112 (by decide : 1 < 2)) (aI (nat_lt g98) (aI (rfl : ([] : List Nat) = []) (aI c113 (aI c113 (aI c113 (aI c113 (aI c113 (aI c113 (aI g98 (aI c113 (aI (And.intro c108 (by decide : 1 < 2)) (aI c113 (aI (nat_lt g98) (aI (rfl : ([] : List Nat) = []) (aI c113 (aI c113 (aI c113 (aI c113 (aI c113 (t)))))))))))))))))))))) ?_
             rcases ofCond H with ⟨c114, H⟩ | ⟨c114, H⟩
             ·refine it c114 ?_
              refine so [] [] [(4, cB false)] [] id ?_
              refine ends_ret ?_
              cases H
              exact And.intro (by simp) (And.intro rfl rfl)
             ·refine jf c114 ?_
              refine sk ?_
              refine oo [] [.rel 5 ((x85.2.set v88.At.toNat (A2_I.mk ((x85.2.getD v88.At.toNat zA2_I).a0) (W ((x85.2.getD v88.At.toNat zA2_I).a1 + 1)))).length), .rep 29 ((x85.2.set v88.At.toNat (A2_I.mk ((x85.2.getD v88.At.toNat zA2_I).a0) (W ((x85.2.getD v88.At.toNat zA2_I).a1 + 1)))).length) (fF eA2_I zA2_I (x85.2.set v88.At.toNat (A2_I.mk ((x85.2.getD v88.At.toNat zA2_I).a0) (W ((x85.2.getD v88.At.toNat zA2_I).a1 + 1)))))] [(2, pk 2), (5, .c (.own 29 2 0 ((x85.2.set v88.At.toNat (A2_I.mk ((x85.2.getD v88.At.toNat zA2_I).a0) (W ((x85.2.getD v88.At.toNat zA2_I).a1 + 1)))).length))), (31, dc 4 eTUnit zTUnit p1.Units), (32, cI (p1.Units.length : Int)), (33, cI (W (x85.1 + 1)))] [(2, va (eTBoard p0)), (29, .arr 2 ((x85.2.set v88.At.toNat (A2_I.mk ((x85.2.getD v88.At.toNat zA2_I).a0) (W ((x85.2.getD v88.At.toNat zA2_I).a1 + 1)))).length) (fF eA2_I zA2_I (x85.2.set v88.At.toNat (A2_I.mk ((x85.2.getD v88.At.toNat zA2_I).a0) (W ((x85.2.getD v88.At.toNat zA2_I).a1 + 1))))) false)] (fun t => aI (by simp : x85.2.length = (x85.2.set v88.At.toNat (A2_I.mk ((x85.2.getD v88.At.toNat zA2_I).a0) (W ((x85.2.getD v88.At.toNat zA2_I).a1 + 1)))).length) (aI (Nat.le_of_eq (by simp : (x85.2.set v88.At.toNat (A2_I.mk ((x85.2.getD v88.At.toNat zA2_I).a0) (W ((x85.2.getD v88.At.toNat zA2_I).a1 + 1)))).length = x85.2.length)) (aI (fun _ _ => rfl : ∀ i, i < (x85.2.set v88.At.toNat (A2_I.mk ((x85.2.getD v88.At.toNat zA2_I).a0) (W ((x85.2.getD v88.At.toNat zA2_I).a1 + 1)))).length → (fF eA2_I zA2_I (x85.2.set v88.At.toNat (A2_I.mk ((x85.2.getD v88.At.toNat zA2_I).a0) (W ((x85.2.getD v88.At.toNat zA2_I).a1 + 1))))) i = (fF eA2_I zA2_I (x85.2.set v88.At.toNat (A2_I.mk ((x85.2.getD v88.At.toNat zA2_I).a0) (W ((x85.2.getD v88.At.toNat zA2_I).a1 + 1))))) i) (t)))) ?_
              cases H
              exact And.intro rfl rfl
           ·cases H
         ·cases H
     ·refine jf c87 ?_
      refine tl [] [] [] id ?_
      refine ends_exit ?_
      cases H
      exact And.intro (by simp) (And.intro rfl rfl)
    ·clear h120
     cases y119 with
     | inl y121 =>
      replace H := ofInl H
      intro e s q
      obtain ⟨rfl, rfl⟩ := q
      change EndsI _ _ _ _ _ _
      refine so [] [] [(4, cB true)] [] id ?_
      refine ends_ret ?_
      cases H
      exact And.intro (.inl rfl) rfl
     | inr y122 =>
      replace H := ofInr H
      intro e s q
      obtain ⟨rfl, rfl⟩ := q
      cases H
      exact And.intro (.inl rfl) rfl
def i_fits_ir : S :=
 (.seq (.ops [o 2 (.box 12 (.t 0)), o 3 (.box 3 (.t 1)), o 4 (.mv (.v (.bool false)))])
 (.seq (.ops [o 5 (.load 12 true (.t 2)), o 6 (.call 143 [.t 5]), o 7 (.mv (.t 6)), ⟨some 8, .load 12 true (.t 2), some (7, true)⟩, ⟨some 9, .load 3 true (.t 3), some (7, true)⟩, ⟨some 10, .call 181 [.t 8, .t 9], some (7, true)⟩, o 11 (.pick (.t 7) (.t 10) (.v (.bool false))), o 4 (.mv (.t 11))])
 .ret))
noncomputable def X.i_fits (p0 : TBoard) (p1 : TState) : Option Bool :=
 ((X.i_IsBoard p0).bind fun v1 => (bif v1 then ((X.i_goodState p0 p1).bind fun v4 => some v4) else some false))
theorem i_fits_ok (p0 : TBoard) (p1 : TState) (r : Bool) (H : X.i_fits p0 p1 = some r) : FnOk Tryz.prog gl 131 [.agg (eTBoard p0), .agg (eTState p1)] (cB r) := by
 unfold X.i_fits at H
 refine fi Tryz.f131 i_fits_ir [(4, cB r)] [] glL Tryz.func131 ?_
 refine so [] [] [(2, pk 2), (3, pk 3)] [(2, va (eTBoard p0)), (3, va (eTState p1))] id ?_
 obtain ⟨v1, h2, H⟩ := ofBind H
 rcases ofCond H with ⟨c3, H⟩ | ⟨c3, H⟩
 ·obtain ⟨v4, h5, H⟩ := ofBind H
  refine so [.res (cB v1), .g true, .g true, .g true, .res (cB v4), .g true] [] [(4, cB v4)] [] (fun t => aI (i_IsBoard_ok p0 v1 h2) (aI c3 (aI c3 (aI c3 (aI (i_goodState_ok p0 p1 v4 h5) (aI c3 (t))))))) ?_
  refine ends_ret ?_
  cases H
  exact And.intro (.inl rfl) rfl
 ·refine so [.res (cB v1), .g false, .g false, .g false, .g false] [] [(4, cB false)] [] (fun t => aI (i_IsBoard_ok p0 v1 h2) (aI c3 (aI c3 (aI c3 (aI c3 (t)))))) ?_
  refine ends_ret ?_
  cases H
  exact And.intro (.inl rfl) rfl
def i_isLook_ir : S :=
 (.seq (.ops [o 3 (.box 12 (.t 0)), o 4 (.box 3 (.t 1)), o 6 (.mv (.v (.bool false)))])
 (.seq (.ops [o 7 (.load 12 true (.t 3)), o 8 (.load 3 true (.t 4)), o 9 (.call 131 [.t 7, .t 8]), o 10 (.mv (.t 9)), ⟨some 11, .mv (.t 2), some (10, true)⟩, ⟨some 12, .call 132 [.t 11], some (10, true)⟩, o 13 (.pick (.t 10) (.t 12) (.v (.bool false))), o 6 (.mv (.t 13))])
 .ret))
noncomputable def X.i_isLook (p0 : TBoard) (p1 : TState) (p2 : Int) : Option Bool :=
 ((X.i_fits p0 p1).bind fun v1 => (bif v1 then ((X.i_isSide p2).bind fun v4 => some v4) else some false))
theorem i_isLook_ok (p0 : TBoard) (p1 : TState) (p2 : Int) (r : Bool) (H : X.i_isLook p0 p1 p2 = some r) : FnOk Tryz.prog gl 67 [.agg (eTBoard p0), .agg (eTState p1), cI p2] (cB r) := by
 unfold X.i_isLook at H
 refine fi Tryz.f67 i_isLook_ir [(6, cB r)] [] glL Tryz.func67 ?_
 refine so [] [] [(2, cI p2), (3, pk 3), (4, pk 4)] [(3, va (eTBoard p0)), (4, va (eTState p1))] id ?_
 obtain ⟨v1, h2, H⟩ := ofBind H
 rcases ofCond H with ⟨c3, H⟩ | ⟨c3, H⟩
 ·obtain ⟨v4, h5, H⟩ := ofBind H
  refine so [.res (cB v1), .g true, .g true, .res (cB v4), .g true] [] [(6, cB v4)] [] (fun t => aI (i_fits_ok p0 p1 v1 h2) (aI c3 (aI c3 (aI (i_isSide_ok p2 v4 h5) (aI c3 (t)))))) ?_
  refine ends_ret ?_
  cases H
  exact And.intro (.inl rfl) rfl
 ·refine so [.res (cB v1), .g false, .g false, .g false] [] [(6, cB false)] [] (fun t => aI (i_fits_ok p0 p1 v1 h2) (aI c3 (aI c3 (aI c3 (t))))) ?_
  refine ends_ret ?_
  cases H
  exact And.intro (.inl rfl) rfl
def i_unitsOf_ir : S :=
 (.seq (.ops [o 2 (.box 3 (.t 0)), o 4 (.mv (.v (.nil)))])
 (.seq (.ops [o 8 (.bsl 1 []), o 5 (.mv (.t 8))])
 (.seq (.seq (.ops [o 9 (.fad 2 (.t 2)), o 10 (.load 1 false (.t 9)), o 11 (.len (.t 10)), o 12 (.mv (.v (.int .i64 0)))])
 (.blk 0 (.loop (.seq (.ops [o 13 (.bin .lss (.t 12) (.t 11))])
   (.seq (.ite (.t 13) .skip
   (.exit 0))
   (.seq (.blk 1 (.seq (.ops [o 14 (.mv (.t 12)), o 15 (.iad 4 (.t 10) (.t 12)), o 16 (.load 4 true (.t 15)), o 7 (.alloc [.int .i64 0, .int .i64 0, .int .i64 0, .int .i64 0]), o 6 (.mv (.t 14)), ⟨none, .store 4 (.t 7) (.t 16), none⟩])
    (.seq (.ops [o 17 (.fad 0 (.t 7)), o 18 (.load 1 false (.t 17)), o 19 (.mv (.t 1)), o 20 (.bin .eql (.t 18) (.t 19)), o 21 (.mv (.t 20)), ⟨some 22, .fad 2 (.t 7), some (21, true)⟩, ⟨some 23, .load 1 false (.t 22), some (21, true)⟩, ⟨some 24, .bin .geq (.t 23) (.v (.int .i64 0)), some (21, true)⟩, o 25 (.pick (.t 21) (.t 24) (.v (.bool false)))])
    (.ite (.t 25) (.ops [o 26 (.mv (.t 5)), o 27 (.mv (.t 6)), o 28 (.bsl 1 [.t 27]), o 29 (.app 1 8 (.t 26) (.t 28)), o 5 (.mv (.t 29))])
    .skip))))
   (.ops [o 30 (.bin .add (.t 12) (.v (.int .i64 1))), o 12 (.mv (.t 30))])))))))
 (.seq (.ops [o 31 (.mv (.t 5)), o 4 (.mv (.t 31))])
 .ret))))
noncomputable def X.i_unitsOf (p0 : TState) (p1 : Int) : Option (List Int) :=
 ((loop (fun (x16 : (Int × (List Int))) => ((bif (decide (x16.1 < (p0.Units.length : Int))) then ((at' zTUnit p0.Units x16.1).bind fun v19 => (bif (v19.Side == p1) then (bif (decide (v19.At ≥ 0)) then (if (x16.2 ++ ([x16.1] : List Int)).length ≤ LIM then some (Sum.inl ((W (x16.1 + 1)), (x16.2 ++ ([x16.1] : List Int)))) else none) else some (Sum.inl ((W (x16.1 + 1)), x16.2))) else some (Sum.inl ((W (x16.1 + 1)), x16.2)))) else some (Sum.inr x16.2)) : Option ((Int × (List Int)) ⊕ (List Int)))) (0, ([] : List Int))).bind fun y24 => some y24)
theorem i_unitsOf_ok (p0 : TState) (p1 : Int) (r : (List Int)) (H : X.i_unitsOf p0 p1 = some r) : FnOk Tryz.prog gl 68 [.agg (eTState p0), cI p1] (.c (dat 1 eI zI r)) := by
 unfold X.i_unitsOf at H
 refine fi Tryz.f68 i_unitsOf_ir [(4, dc 1 eI zI r)] [] glL Tryz.func68 ?_
 refine so [] [] [(1, cI p1), (2, pk 2)] [(2, va (eTState p0))] id ?_
 refine so [.fn ([] : List Int).length (fF eI zI ([] : List Int))] [] [(1, cI p1), (2, pk 2), (5, .c (.own 8 1 0 (([] : List Int).length)))] [(2, va (eTState p0)), (8, .arr 1 (([] : List Int).length) (fF eI zI ([] : List Int)) false)] (fun t => aI (rfl : ([] : List Int).length = 0) (aI (fF_lit eI zI ([] : List Int)) (t))) ?_
 refine seq_in ?_
 refine so [] [] [(1, cI p1), (5, .c (.own 8 1 0 (([] : List Int).length))), (10, dc 4 eTUnit zTUnit p0.Units), (11, cI (p0.Units.length : Int)), (12, cI 0)] [(8, .arr 1 (([] : List Int).length) (fF eI zI ([] : List Int)) false)] (fun t => lI p0.Units (t)) ?_
 refine ends_blk ?_
 obtain ⟨y24, h25, H⟩ := ofBind H
 refine tl [.ren 8 1001] [(1, cI p1), (5, .c (.own 1001 1 0 (([] : List Int).length))), (10, dc 4 eTUnit zTUnit p0.Units), (11, cI (p0.Units.length : Int)), (12, cI 0)] [(1001, .arr 1 (([] : List Int).length) (fF eI zI ([] : List Int)) false)] id ?_
 refine loop_in (fun (x : (Int × (List Int))) => lit [(1, cI p1), (5, .c (.own 1001 1 0 x.2.length)), (10, dc 4 eTUnit zTUnit p0.Units), (11, cI (p0.Units.length : Int)), (12, cI x.1)] [(1001, .arr 1 x.2.length (fF eI zI x.2) false)]) (fun (z : (List Int)) => At (.exit 0) (lit [(5, .c (.own 1001 1 0 z.length))] [(1001, .arr 1 z.length (fF eI zI z) false)])) h25 ?_ ?_
 ·clear H h25
  intro x16 y0 H
  refine so [] [] [(1, cI p1), (5, .c (.own 1001 1 0 x16.2.length)), (10, dc 4 eTUnit zTUnit p0.Units), (11, cI (p0.Units.length : Int)), (12, cI x16.1), (13, cB (decide (x16.1 < (p0.Units.length : Int))))] [(1001, .arr 1 x16.2.length (fF eI zI x16.2) false)] id ?_
  refine seq_in ?_
  rcases ofCond H with ⟨c18, H⟩ | ⟨c18, H⟩
  ·refine it c18 ?_
   refine sk ?_
   refine seq_in ?_
   refine ends_blk ?_
   obtain ⟨v19, h20, H⟩ := ofBind H
   refine so [.cs (eTUnit v19)] [] [(1, cI p1), (5, .c (.own 1001 1 0 x16.2.length)), (6, cI x16.1), (7, pk 7), (10, dc 4 eTUnit zTUnit p0.Units), (11, cI (p0.Units.length : Int)), (12, cI x16.1)] [(7, va (eTUnit v19)), (1001, .arr 1 x16.2.length (fF eI zI x16.2) false)] (fun t => aI (at_lt h20) (aI (at_enc (enc := eTUnit) h20) (t))) ?_
   rcases ofCond H with ⟨c21, H⟩ | ⟨c21, H⟩
   ·refine so [.g true, .g true, .g true, .g true] [] [(1, cI p1), (5, .c (.own 1001 1 0 x16.2.length)), (6, cI x16.1), (10, dc 4 eTUnit zTUnit p0.Units), (11, cI (p0.Units.length : Int)), (12, cI x16.1), (25, cB (decide (v19.At ≥ 0)))] [(1001, .arr 1 x16.2.length (fF eI zI x16.2) false)] (fun t => aI c21 (aI c21 (aI c21 (aI c21 (t))))) ?_
    rcases ofCond H with ⟨c22, H⟩ | ⟨c22, H⟩
    ·refine it c22 ?_
     obtain ⟨g23, H⟩ := ofIf H
     refine oo [.fn ([x16.1] : List Int).length (fF eI zI ([x16.1] : List Int)), .fn (x16.2 ++ ([x16.1] : List Int)).length (fF eI zI (x16.2 ++ ([x16.1] : List Int)))] [] [(1, cI p1), (5, .c (.own 29 1 0 ((x16.2 ++ ([x16.1] : List Int)).length))), (10, dc 4 eTUnit zTUnit p0.Units), (11, cI (p0.Units.length : Int)), (12, cI x16.1)] [(29, .arr 1 ((x16.2 ++ ([x16.1] : List Int)).length) (fF eI zI (x16.2 ++ ([x16.1] : List Int))) false)] (fun t => aI (rfl : ([x16.1] : List Int).length = 1) (aI (fF_lit eI zI ([x16.1] : List Int)) (aI (And.intro (Nat.le_refl x16.2.length) (And.intro (@List.length_append _ x16.2 ([x16.1] : List Int)) g23)) (aI (fF_appL eI zI x16.2 ([x16.1] : List Int)) (aI (fF_appR eI zI x16.2 ([x16.1] : List Int)) (t)))))) ?_
     change EndsI _ _ _ _ _ _
     refine oo [] [.ren 29 1001] [(1, cI p1), (5, .c (.own 1001 1 0 ((x16.2 ++ ([x16.1] : List Int)).length))), (10, dc 4 eTUnit zTUnit p0.Units), (11, cI (p0.Units.length : Int)), (12, cI (W (x16.1 + 1)))] [(1001, .arr 1 ((x16.2 ++ ([x16.1] : List Int)).length) (fF eI zI (x16.2 ++ ([x16.1] : List Int))) false)] id ?_
     cases H
     exact And.intro rfl rfl
    ·refine jf c22 ?_
     refine sk ?_
     refine oo [] [] [(1, cI p1), (5, .c (.own 1001 1 0 x16.2.length)), (10, dc 4 eTUnit zTUnit p0.Units), (11, cI (p0.Units.length : Int)), (12, cI (W (x16.1 + 1)))] [(1001, .arr 1 x16.2.length (fF eI zI x16.2) false)] id ?_
     cases H
     exact And.intro rfl rfl
   ·refine so [.g false, .g false, .g false, .g false] [] [(1, cI p1), (5, .c (.own 1001 1 0 x16.2.length)), (6, cI x16.1), (10, dc 4 eTUnit zTUnit p0.Units), (11, cI (p0.Units.length : Int)), (12, cI x16.1), (25, cB false)] [(1001, .arr 1 x16.2.length (fF eI zI x16.2) false)] (fun t => aI c21 (aI c21 (aI c21 (aI c21 (t))))) ?_
    refine jf (rfl : (false : Bool) = false) ?_
    refine sk ?_
    refine oo [] [] [(1, cI p1), (5, .c (.own 1001 1 0 x16.2.length)), (10, dc 4 eTUnit zTUnit p0.Units), (11, cI (p0.Units.length : Int)), (12, cI (W (x16.1 + 1)))] [(1001, .arr 1 x16.2.length (fF eI zI x16.2) false)] id ?_
    cases H
    exact And.intro rfl rfl
  ·refine jf c18 ?_
   refine tl [] [(5, .c (.own 1001 1 0 x16.2.length))] [(1001, .arr 1 x16.2.length (fF eI zI x16.2) false)] id ?_
   refine ends_exit ?_
   cases H
   exact And.intro (by simp) (And.intro rfl rfl)
 ·clear h25
  intro e s q
  obtain ⟨rfl, rfl⟩ := q
  change EndsI _ _ _ _ _ _
  refine so [] [] [(4, .c (.own 1001 1 0 y24.length))] [(1001, .arr 1 y24.length (fF eI zI y24) false)] id ?_
  refine tl [.frz 4] [(4, dc 1 eI zI y24)] [] (fun t => aI (Nat.le_refl y24.length) (t)) ?_
  refine ends_ret ?_
  cases H
  exact And.intro (.inl rfl) rfl
def i_neighboursOn_ir : S :=
 (.seq (.ops [o 2 (.box 5 (.t 0)), o 4 (.mv (.v (.nil)))])
 (.seq (.ops [o 8 (.bsl 1 []), o 5 (.mv (.t 8))])
 (.seq (.seq (.ops [o 9 (.mv (.v (.int .i64 0)))])
 (.blk 0 (.loop (.seq (.ops [o 10 (.bin .lss (.t 9) (.v (.int .i64 6)))])
   (.seq (.ite (.t 10) .skip
   (.exit 0))
   (.seq (.blk 1 (.seq (.ops [o 11 (.mv (.t 9)), o 6 (.mv (.t 11))])
    (.seq (.ops [o 12 (.load 5 true (.t 2)), o 13 (.mv (.t 1)), o 14 (.mv (.t 6)), o 15 (.call 133 [.t 12, .t 13, .t 14]), o 7 (.mv (.t 15))])
    (.seq (.ops [o 16 (.mv (.t 7)), o 17 (.bin .geq (.t 16) (.v (.int .i64 0)))])
    (.ite (.t 17) (.ops [o 18 (.mv (.t 5)), o 19 (.mv (.t 7)), o 20 (.bsl 1 [.t 19]), o 21 (.app 1 8 (.t 18) (.t 20)), o 5 (.mv (.t 21))])
    .skip)))))
   (.ops [o 22 (.bin .add (.t 9) (.v (.int .i64 1))), o 9 (.mv (.t 22))])))))))
 (.seq (.ops [o 23 (.mv (.t 5)), o 4 (.mv (.t 23))])
 .ret))))
noncomputable def X.i_neighboursOn (p0 : TMap) (p1 : Int) : Option (List Int) :=
 ((loop (fun (x14 : (Int × (List Int))) => ((bif (decide (x14.1 < 6)) then ((X.i_nextTo p0 p1 x14.1).bind fun v17 => (bif (decide (v17 ≥ 0)) then (if (x14.2 ++ ([v17] : List Int)).length ≤ LIM then some (Sum.inl ((W (x14.1 + 1)), (x14.2 ++ ([v17] : List Int)))) else none) else some (Sum.inl ((W (x14.1 + 1)), x14.2)))) else some (Sum.inr x14.2)) : Option ((Int × (List Int)) ⊕ (List Int)))) (0, ([] : List Int))).bind fun y21 => some y21)
theorem i_neighboursOn_ok (p0 : TMap) (p1 : Int) (r : (List Int)) (H : X.i_neighboursOn p0 p1 = some r) : FnOk Tryz.prog gl 69 [.agg (eTMap p0), cI p1] (.c (dat 1 eI zI r)) := by
 unfold X.i_neighboursOn at H
 refine fi Tryz.f69 i_neighboursOn_ir [(4, dc 1 eI zI r)] [] glL Tryz.func69 ?_
 refine so [] [] [(1, cI p1), (2, pk 2)] [(2, va (eTMap p0))] id ?_
 refine so [.fn ([] : List Int).length (fF eI zI ([] : List Int))] [] [(1, cI p1), (2, pk 2), (5, .c (.own 8 1 0 (([] : List Int).length)))] [(2, va (eTMap p0)), (8, .arr 1 (([] : List Int).length) (fF eI zI ([] : List Int)) false)] (fun t => aI (rfl : ([] : List Int).length = 0) (aI (fF_lit eI zI ([] : List Int)) (t))) ?_
 refine seq_in ?_
 refine so [] [] [(1, cI p1), (2, pk 2), (5, .c (.own 8 1 0 (([] : List Int).length))), (9, cI 0)] [(2, va (eTMap p0)), (8, .arr 1 (([] : List Int).length) (fF eI zI ([] : List Int)) false)] id ?_
 refine ends_blk ?_
 obtain ⟨y21, h22, H⟩ := ofBind H
 refine tl [.ren 8 1001] [(1, cI p1), (2, pk 2), (5, .c (.own 1001 1 0 (([] : List Int).length))), (9, cI 0)] [(2, va (eTMap p0)), (1001, .arr 1 (([] : List Int).length) (fF eI zI ([] : List Int)) false)] id ?_
 refine loop_in (fun (x : (Int × (List Int))) => lit [(1, cI p1), (2, pk 2), (5, .c (.own 1001 1 0 x.2.length)), (9, cI x.1)] [(2, va (eTMap p0)), (1001, .arr 1 x.2.length (fF eI zI x.2) false)]) (fun (z : (List Int)) => At (.exit 0) (lit [(5, .c (.own 1001 1 0 z.length))] [(1001, .arr 1 z.length (fF eI zI z) false)])) h22 ?_ ?_
 ·clear H h22
  intro x14 y0 H
  refine so [] [] [(1, cI p1), (2, pk 2), (5, .c (.own 1001 1 0 x14.2.length)), (9, cI x14.1), (10, cB (decide (x14.1 < 6)))] [(2, va (eTMap p0)), (1001, .arr 1 x14.2.length (fF eI zI x14.2) false)] id ?_
  refine seq_in ?_
  rcases ofCond H with ⟨c16, H⟩ | ⟨c16, H⟩
  ·refine it c16 ?_
   refine sk ?_
   refine seq_in ?_
   refine ends_blk ?_
   refine so [] [] [(1, cI p1), (2, pk 2), (5, .c (.own 1001 1 0 x14.2.length)), (6, cI x14.1), (9, cI x14.1)] [(2, va (eTMap p0)), (1001, .arr 1 x14.2.length (fF eI zI x14.2) false)] id ?_
   obtain ⟨v17, h18, H⟩ := ofBind H
   refine so [.res (cI v17)] [] [(1, cI p1), (2, pk 2), (5, .c (.own 1001 1 0 x14.2.length)), (7, cI v17), (9, cI x14.1)] [(2, va (eTMap p0)), (1001, .arr 1 x14.2.length (fF eI zI x14.2) false)] (fun t => aI (i_nextTo_ok p0 p1 x14.1 v17 h18) (t)) ?_
   refine so [] [] [(1, cI p1), (2, pk 2), (5, .c (.own 1001 1 0 x14.2.length)), (7, cI v17), (9, cI x14.1), (17, cB (decide (v17 ≥ 0)))] [(2, va (eTMap p0)), (1001, .arr 1 x14.2.length (fF eI zI x14.2) false)] id ?_
   rcases ofCond H with ⟨c19, H⟩ | ⟨c19, H⟩
   ·refine it c19 ?_
    obtain ⟨g20, H⟩ := ofIf H
    refine oo [.fn ([v17] : List Int).length (fF eI zI ([v17] : List Int)), .fn (x14.2 ++ ([v17] : List Int)).length (fF eI zI (x14.2 ++ ([v17] : List Int)))] [] [(1, cI p1), (2, pk 2), (5, .c (.own 21 1 0 ((x14.2 ++ ([v17] : List Int)).length))), (9, cI x14.1)] [(2, va (eTMap p0)), (21, .arr 1 ((x14.2 ++ ([v17] : List Int)).length) (fF eI zI (x14.2 ++ ([v17] : List Int))) false)] (fun t => aI (rfl : ([v17] : List Int).length = 1) (aI (fF_lit eI zI ([v17] : List Int)) (aI (And.intro (Nat.le_refl x14.2.length) (And.intro (@List.length_append _ x14.2 ([v17] : List Int)) g20)) (aI (fF_appL eI zI x14.2 ([v17] : List Int)) (aI (fF_appR eI zI x14.2 ([v17] : List Int)) (t)))))) ?_
    change EndsI _ _ _ _ _ _
    refine oo [] [.ren 21 1001] [(1, cI p1), (2, pk 2), (5, .c (.own 1001 1 0 ((x14.2 ++ ([v17] : List Int)).length))), (9, cI (W (x14.1 + 1)))] [(2, va (eTMap p0)), (1001, .arr 1 ((x14.2 ++ ([v17] : List Int)).length) (fF eI zI (x14.2 ++ ([v17] : List Int))) false)] id ?_
    cases H
    exact And.intro rfl rfl
   ·refine jf c19 ?_
    refine sk ?_
    refine oo [] [] [(1, cI p1), (2, pk 2), (5, .c (.own 1001 1 0 x14.2.length)), (9, cI (W (x14.1 + 1)))] [(2, va (eTMap p0)), (1001, .arr 1 x14.2.length (fF eI zI x14.2) false)] id ?_
    cases H
    exact And.intro rfl rfl
  ·refine jf c16 ?_
   refine tl [] [(5, .c (.own 1001 1 0 x14.2.length))] [(1001, .arr 1 x14.2.length (fF eI zI x14.2) false)] id ?_
   refine ends_exit ?_
   cases H
   exact And.intro (by simp) (And.intro rfl rfl)
 ·clear h22
  intro e s q
  obtain ⟨rfl, rfl⟩ := q
  change EndsI _ _ _ _ _ _
  refine so [] [] [(4, .c (.own 1001 1 0 y21.length))] [(1001, .arr 1 y21.length (fF eI zI y21) false)] id ?_
  refine tl [.frz 4] [(4, dc 1 eI zI y21)] [] (fun t => aI (Nat.le_refl y21.length) (t)) ?_
  refine ends_ret ?_
  cases H
  exact And.intro (.inl rfl) rfl
theorem g_IndexFunc_int_c2_ok (p0 : (List Int)) (cf1 : FuncId) (cs1_0 : List AC) (cs1_1 : List AC) (f1 : Int → Option Bool) (hf1 : ∀ q0 r, f1 q0 = some r → FnOk Tryz.prog gl cf1 [cI q0, .c (.pd cs1_0 0), .c (.pd cs1_1 0)] (cB r)) (r : Int) (H : X.g_IndexFunc_int p0 f1 = some r) : FnOk Tryz.prog gl 134 [.c (dat 1 eI zI p0), .c (.clo cf1 [.pd cs1_0 0, .pd cs1_1 0])] (cI r) := by
 unfold X.g_IndexFunc_int at H
 refine fi Tryz.f134 g_IndexFunc_int_ir [(4, cI r)] [] glL Tryz.func134 ?_
 refine so [] [] [(0, dc 1 eI zI p0), (1, .c (.clo cf1 [.pd cs1_0 0, .pd cs1_1 0]))] [] id ?_
 refine seq_in ?_
 refine so [] [] [(0, dc 1 eI zI p0), (1, .c (.clo cf1 [.pd cs1_0 0, .pd cs1_1 0])), (7, cI (p0.length : Int)), (8, cI 0)] [] (fun t => lI p0 (t)) ?_
 refine ends_blk ?_
 obtain ⟨y24, h25, H⟩ := ofBind H
 refine loop_in (fun (x : Int) => lit [(0, dc 1 eI zI p0), (1, .c (.clo cf1 [.pd cs1_0 0, .pd cs1_1 0])), (7, cI (p0.length : Int)), (8, cI x)] []) (orJ (fun (z : Unit) => At (.exit 0) (lit [] [])) (fun (z : Int) => At .ret (lit [(4, cI z)] []))) h25 ?_ ?_
 ·clear H h25
  intro x16 y0 H
  refine so [] [] [(0, dc 1 eI zI p0), (1, .c (.clo cf1 [.pd cs1_0 0, .pd cs1_1 0])), (7, cI (p0.length : Int)), (8, cI x16), (9, cB (decide (x16 < (p0.length : Int))))] [] id ?_
  refine seq_in ?_
  rcases ofCond H with ⟨c18, H⟩ | ⟨c18, H⟩
  ·refine it c18 ?_
   refine sk ?_
   refine seq_in ?_
   refine ends_blk ?_
   refine so [] [] [(0, dc 1 eI zI p0), (1, .c (.clo cf1 [.pd cs1_0 0, .pd cs1_1 0])), (5, cI x16), (7, cI (p0.length : Int)), (8, cI x16)] [] id ?_
   obtain ⟨v19, h20, H⟩ := ofBind H
   obtain ⟨v21, h22, H⟩ := ofBind H
   refine so [.cs (eI v19), .res (cB v21)] [] [(0, dc 1 eI zI p0), (1, .c (.clo cf1 [.pd cs1_0 0, .pd cs1_1 0])), (5, cI x16), (7, cI (p0.length : Int)), (8, cI x16), (16, cB v21)] [] (fun t => aI (at_lt h20) (aI (at_enc (enc := eI) h20) (aI (hf1 v19 v21 h22) (t)))) ?_
   rcases ofCond H with ⟨c23, H⟩ | ⟨c23, H⟩
   ·refine it c23 ?_
    refine so [] [] [(4, cI x16)] [] id ?_
    refine ends_ret ?_
    cases H
    exact And.intro (by simp) (And.intro rfl rfl)
   ·refine jf c23 ?_
    refine sk ?_
    refine oo [] [] [(0, dc 1 eI zI p0), (1, .c (.clo cf1 [.pd cs1_0 0, .pd cs1_1 0])), (7, cI (p0.length : Int)), (8, cI (W (x16 + 1)))] [] id ?_
    cases H
    exact And.intro rfl rfl
  ·refine jf c18 ?_
   refine tl [] [] [] id ?_
   refine ends_exit ?_
   cases H
   exact And.intro (by simp) (And.intro rfl rfl)
 ·clear h25
  cases y24 with
  | inl y26 =>
   replace H := ofInl H
   intro e s q
   obtain ⟨rfl, rfl⟩ := q
   change EndsI _ _ _ _ _ _
   refine so [] [] [(4, cI (-1))] [] id ?_
   refine ends_ret ?_
   cases H
   exact And.intro (.inl rfl) rfl
  | inr y27 =>
   replace H := ofInr H
   intro e s q
   obtain ⟨rfl, rfl⟩ := q
   cases H
   exact And.intro (.inl rfl) rfl
theorem g_ContainsFunc_int_c2_ok (p0 : (List Int)) (cf1 : FuncId) (cs1_0 : List AC) (cs1_1 : List AC) (f1 : Int → Option Bool) (hf1 : ∀ q0 r, f1 q0 = some r → FnOk Tryz.prog gl cf1 [cI q0, .c (.pd cs1_0 0), .c (.pd cs1_1 0)] (cB r)) (r : Bool) (H : X.g_ContainsFunc_int p0 f1 = some r) : FnOk Tryz.prog gl 70 [.c (dat 1 eI zI p0), .c (.clo cf1 [.pd cs1_0 0, .pd cs1_1 0])] (cB r) := by
 unfold X.g_ContainsFunc_int at H
 refine fi Tryz.f70 g_ContainsFunc_int_ir [(4, cB r)] [] glL Tryz.func70 ?_
 refine so [] [] [(0, dc 1 eI zI p0), (1, .c (.clo cf1 [.pd cs1_0 0, .pd cs1_1 0]))] [] id ?_
 obtain ⟨v1, h2, H⟩ := ofBind H
 refine so [.res (cI v1)] [] [(4, cB (decide (v1 ≥ 0)))] [] (fun t => aI (g_IndexFunc_int_c2_ok p0 (cf1) (cs1_0) (cs1_1) f1 hf1 v1 h2) (t)) ?_
 refine ends_ret ?_
 cases H
 exact And.intro (.inl rfl) rfl
def i_ownerOf_ir : S :=
 (.seq (.ops [o 2 (.box 3 (.t 0)), o 4 (.mv (.v (.int .i64 0)))])
 (.seq (.seq (.ops [o 7 (.fad 2 (.t 2)), o 8 (.load 1 false (.t 7)), o 9 (.len (.t 8)), o 10 (.mv (.v (.int .i64 0)))])
 (.blk 0 (.loop (.seq (.ops [o 11 (.bin .lss (.t 10) (.t 9))])
   (.seq (.ite (.t 11) .skip
   (.exit 0))
   (.seq (.blk 1 (.seq (.ops [o 12 (.iad 4 (.t 8) (.t 10)), o 13 (.load 4 true (.t 12)), o 6 (.alloc [.int .i64 0, .int .i64 0, .int .i64 0, .int .i64 0]), ⟨none, .store 4 (.t 6) (.t 13), none⟩])
    (.seq (.ops [o 14 (.fad 2 (.t 6)), o 15 (.load 1 false (.t 14)), o 16 (.mv (.t 1)), o 17 (.bin .eql (.t 15) (.t 16))])
    (.ite (.t 17) (.seq (.ops [o 18 (.fad 0 (.t 6)), o 19 (.load 1 false (.t 18)), o 4 (.mv (.t 19))])
     .ret)
    .skip))))
   (.ops [o 20 (.bin .add (.t 10) (.v (.int .i64 1))), o 10 (.mv (.t 20))])))))))
 (.seq (.ops [o 4 (.mv (.v (.int .i64 (-1))))])
 .ret)))
noncomputable def X.i_ownerOf (p0 : TState) (p1 : Int) : Option Int :=
 ((loop (fun (x12 : Int) => ((bif (decide (x12 < (p0.Units.length : Int))) then ((at' zTUnit p0.Units x12).bind fun v15 => (bif (v15.At == p1) then some (Sum.inr (Sum.inr v15.Side)) else some (Sum.inl (W (x12 + 1))))) else some (Sum.inr (Sum.inl ()))) : Option (Int ⊕ (Unit ⊕ Int)))) 0).bind fun y18 => (Sum.elim (fun (y20 : Unit) => some (-1)) (fun (y21 : Int) => some y21) y18))
theorem i_ownerOf_ok (p0 : TState) (p1 : Int) (r : Int) (H : X.i_ownerOf p0 p1 = some r) : FnOk Tryz.prog gl 72 [.agg (eTState p0), cI p1] (cI r) := by
 unfold X.i_ownerOf at H
 refine fi Tryz.f72 i_ownerOf_ir [(4, cI r)] [] glL Tryz.func72 ?_
 refine so [] [] [(1, cI p1), (2, pk 2)] [(2, va (eTState p0))] id ?_
 refine seq_in ?_
 refine so [] [] [(1, cI p1), (8, dc 4 eTUnit zTUnit p0.Units), (9, cI (p0.Units.length : Int)), (10, cI 0)] [] (fun t => lI p0.Units (t)) ?_
 refine ends_blk ?_
 obtain ⟨y18, h19, H⟩ := ofBind H
 refine loop_in (fun (x : Int) => lit [(1, cI p1), (8, dc 4 eTUnit zTUnit p0.Units), (9, cI (p0.Units.length : Int)), (10, cI x)] []) (orJ (fun (z : Unit) => At (.exit 0) (lit [] [])) (fun (z : Int) => At .ret (lit [(4, cI z)] []))) h19 ?_ ?_
 ·clear H h19
  intro x12 y0 H
  refine so [] [] [(1, cI p1), (8, dc 4 eTUnit zTUnit p0.Units), (9, cI (p0.Units.length : Int)), (10, cI x12), (11, cB (decide (x12 < (p0.Units.length : Int))))] [] id ?_
  refine seq_in ?_
  rcases ofCond H with ⟨c14, H⟩ | ⟨c14, H⟩
  ·refine it c14 ?_
   refine sk ?_
   refine seq_in ?_
   refine ends_blk ?_
   obtain ⟨v15, h16, H⟩ := ofBind H
   refine so [.cs (eTUnit v15)] [] [(1, cI p1), (6, pk 6), (8, dc 4 eTUnit zTUnit p0.Units), (9, cI (p0.Units.length : Int)), (10, cI x12)] [(6, va (eTUnit v15))] (fun t => aI (at_lt h16) (aI (at_enc (enc := eTUnit) h16) (t))) ?_
   refine so [] [] [(1, cI p1), (6, pk 6), (8, dc 4 eTUnit zTUnit p0.Units), (9, cI (p0.Units.length : Int)), (10, cI x12), (17, cB (v15.At == p1))] [(6, va (eTUnit v15))] id ?_
   rcases ofCond H with ⟨c17, H⟩ | ⟨c17, H⟩
   ·refine it c17 ?_
    refine so [] [] [(4, cI v15.Side)] [] id ?_
    refine ends_ret ?_
    cases H
    exact And.intro (by simp) (And.intro rfl rfl)
   ·refine jf c17 ?_
    refine sk ?_
    refine oo [] [] [(1, cI p1), (8, dc 4 eTUnit zTUnit p0.Units), (9, cI (p0.Units.length : Int)), (10, cI (W (x12 + 1)))] [] id ?_
    cases H
    exact And.intro rfl rfl
  ·refine jf c14 ?_
   refine tl [] [] [] id ?_
   refine ends_exit ?_
   cases H
   exact And.intro (by simp) (And.intro rfl rfl)
 ·clear h19
  cases y18 with
  | inl y20 =>
   replace H := ofInl H
   intro e s q
   obtain ⟨rfl, rfl⟩ := q
   change EndsI _ _ _ _ _ _
   refine so [] [] [(4, cI (-1))] [] id ?_
   refine ends_ret ?_
   cases H
   exact And.intro (.inl rfl) rfl
  | inr y21 =>
   replace H := ofInr H
   intro e s q
   obtain ⟨rfl, rfl⟩ := q
   cases H
   exact And.intro (.inl rfl) rfl
def i_FrontUnits_1_ir : S :=
 (.seq (.ops [o 4 (.mv (.v (.bool false)))])
 (.seq (.draw 7 [o 5 (.load 3 true (.t 1)), o 6 (.mv (.t 0)), o 7 (.call 72 [.t 5, .t 6]), o 8 (.load 1 false (.t 2)), o 9 (.bin .sub (.v (.int .i64 1)) (.t 8)), o 10 (.bin .eql (.t 7) (.t 9)), o 4 (.mv (.t 10))])
 .ret))
noncomputable def X.i_FrontUnits_1 (p0 : Int) (p1 : TState) (p2 : Int) : Option Bool :=
 ((X.i_ownerOf p1 p0).bind fun v1 => some (v1 == (W (1 - p2))))
theorem i_FrontUnits_1_ok (p0 : Int) (p1 : TState) (p2 : Int) (r : Bool) (H : X.i_FrontUnits_1 p0 p1 p2 = some r) : FnOk Tryz.prog gl 71 [cI p0, .c (.pd (eTState p1) 0), .c (.pd (eI p2) 0)] (cB r) := by
 unfold X.i_FrontUnits_1 at H
 refine fi Tryz.f71 i_FrontUnits_1_ir [(4, cB r)] [] glL Tryz.func71 ?_
 refine so [] [] [(0, cI p0), (1, .c (.pd (eTState p1) 0)), (2, .c (.pd (eI p2) 0))] [] id ?_
 obtain ⟨v1, h2, H⟩ := ofBind H
 refine sd [.res (cI v1)] [] [(4, cB (v1 == (W (1 - p2))))] [] (fun t => aI (rfl : ([] : List Nat) = []) (aI (i_ownerOf_ok p1 p0 v1 h2) (aI trivial (aI (rfl : ([] : List Nat) = []) (aI (rfl : ([] : List Nat) = []) (t)))))) ?_
 refine ends_ret ?_
 cases H
 exact And.intro (.inl rfl) rfl
def i_FrontUnits_ir : S :=
 (.seq (.ops [o 3 (.box 12 (.t 0)), o 4 (.box 3 (.t 1)), o 5 (.box 1 (.t 2)), o 6 (.mv (.v (.nil))), o 7 (.mv (.v (.bool false)))])
 (.seq (.seq (.ops [o 12 (.load 12 true (.t 3)), o 13 (.load 3 true (.t 4)), o 14 (.load 1 false (.t 5)), o 15 (.call 67 [.t 12, .t 13, .t 14]), o 16 (.not (.t 15))])
 (.ite (.t 16) (.seq (.ops [o 6 (.mv (.v (.nil))), o 7 (.mv (.v (.bool false)))])
  .ret)
 .skip))
 (.seq (.ops [o 17 (.bsl 1 []), o 8 (.mv (.t 17))])
 (.seq (.seq (.ops [o 18 (.load 3 true (.t 4)), o 19 (.load 1 false (.t 5)), o 20 (.call 68 [.t 18, .t 19]), o 21 (.len (.t 20)), o 22 (.mv (.v (.int .i64 0)))])
 (.blk 0 (.loop (.seq (.ops [o 23 (.bin .lss (.t 22) (.t 21))])
   (.seq (.ite (.t 23) .skip
   (.exit 0))
   (.seq (.blk 1 (.seq (.ops [o 24 (.iad 1 (.t 20) (.t 22)), o 25 (.load 1 false (.t 24)), o 10 (.mv (.t 25))])
    (.seq (.draw 10 [o 26 (.fad 7 (.t 3)), o 27 (.load 5 true (.t 26)), o 28 (.fad 2 (.t 4)), o 29 (.load 1 false (.t 28)), o 30 (.mv (.t 10)), o 31 (.iad 4 (.t 29) (.t 30)), o 32 (.fad 2 (.t 31)), o 33 (.load 1 false (.t 32)), o 34 (.call 69 [.t 27, .t 33]), o 11 (.mv (.t 34))])
    (.seq (.ops [o 35 (.mv (.t 11)), o 36 (.clo 71 [.t 4, .t 5]), o 37 (.call 70 [.t 35, .t 36])])
    (.ite (.t 37) (.ops [o 38 (.mv (.t 8)), o 39 (.mv (.t 10)), o 40 (.bsl 1 [.t 39]), o 41 (.app 1 8 (.t 38) (.t 40)), o 8 (.mv (.t 41))])
    .skip)))))
   (.ops [o 42 (.bin .add (.t 22) (.v (.int .i64 1))), o 22 (.mv (.t 42))])))))))
 (.seq (.ops [o 43 (.mv (.t 8)), o 6 (.mv (.t 43)), o 7 (.mv (.v (.bool true)))])
 .ret)))))
noncomputable def X.i_FrontUnits (p0 : TBoard) (p1 : TState) (p2 : Int) : Option ((List Int) × Bool) :=
 ((X.i_isLook p0 p1 p2).bind fun v4 => (bif (!v4) then some (([] : List Int), false) else ((X.i_unitsOf p1 p2).bind fun v7 => ((loop (fun (x34 : (Int × (List Int))) => ((bif (decide (x34.1 < (v7.length : Int))) then ((at' zI v7 x34.1).bind fun v37 => ((at' zTUnit p1.Units v37).bind fun v39 => ((X.i_neighboursOn p0.Map v39.At).bind fun v41 => ((X.g_ContainsFunc_int v41 (fun q0 => X.i_FrontUnits_1 q0 p1 p2)).bind fun v43 => (bif v43 then (if (x34.2 ++ ([v37] : List Int)).length ≤ LIM then some (Sum.inl ((W (x34.1 + 1)), (x34.2 ++ ([v37] : List Int)))) else none) else some (Sum.inl ((W (x34.1 + 1)), x34.2))))))) else some (Sum.inr x34.2)) : Option ((Int × (List Int)) ⊕ (List Int)))) (0, ([] : List Int))).bind fun y47 => some (y47, true)))))
theorem i_FrontUnits_ok (p0 : TBoard) (p1 : TState) (p2 : Int) (r : ((List Int) × Bool)) (H : X.i_FrontUnits p0 p1 p2 = some r) : FnOk Tryz.prog gl 17 [.agg (eTBoard p0), .agg (eTState p1), cI p2] (.tup [(false, [dat 1 eI zI r.1]), (false, [.bool r.2])]) := by
 unfold X.i_FrontUnits at H
 refine fi Tryz.f17 i_FrontUnits_ir [(6, dc 1 eI zI r.1), (7, cB r.2)] [] glL Tryz.func17 ?_
 refine so [] [] [(3, pk 3), (4, pk 4), (5, pk 5)] [(3, va (eTBoard p0)), (4, va (eTState p1)), (5, .var [.int .i64 p2] false)] id ?_
 refine seq_in ?_
 obtain ⟨v4, h5, H⟩ := ofBind H
 refine so [.res (cB v4)] [] [(3, pk 3), (4, pk 4), (5, pk 5), (16, cB (!v4))] [(3, va (eTBoard p0)), (4, va (eTState p1)), (5, .var [.int .i64 p2] false)] (fun t => aI (i_isLook_ok p0 p1 p2 v4 h5) (t)) ?_
 rcases ofCond H with ⟨c6, H⟩ | ⟨c6, H⟩
 ·refine it c6 ?_
  refine so [] [] [(6, .c (.nil)), (7, cB false)] [] id ?_
  refine tl [.nld 6 1 (fF eI zI ([] : List Int))] [(6, .c (dat 1 eI zI ([] : List Int))), (7, cB false)] [] id ?_
  refine ends_ret ?_
  cases H
  exact And.intro (.inl rfl) rfl
 ·refine jf c6 ?_
  refine sk ?_
  refine so [.fn ([] : List Int).length (fF eI zI ([] : List Int))] [] [(3, pk 3), (4, pk 4), (5, pk 5), (8, .c (.own 17 1 0 (([] : List Int).length)))] [(3, va (eTBoard p0)), (4, va (eTState p1)), (5, .var [.int .i64 p2] false), (17, .arr 1 (([] : List Int).length) (fF eI zI ([] : List Int)) false)] (fun t => aI (rfl : ([] : List Int).length = 0) (aI (fF_lit eI zI ([] : List Int)) (t))) ?_
  refine seq_in ?_
  obtain ⟨v7, h8, H⟩ := ofBind H
  refine so [.res (dc 1 eI zI v7)] [] [(3, pk 3), (4, pk 4), (5, pk 5), (8, .c (.own 17 1 0 (([] : List Int).length))), (20, dc 1 eI zI v7), (21, cI (v7.length : Int)), (22, cI 0)] [(3, va (eTBoard p0)), (4, va (eTState p1)), (5, .var [.int .i64 p2] false), (17, .arr 1 (([] : List Int).length) (fF eI zI ([] : List Int)) false)] (fun t => aI (i_unitsOf_ok p1 p2 v7 h8) (lI v7 (t))) ?_
  refine ends_blk ?_
  obtain ⟨y47, h48, H⟩ := ofBind H
  refine tl [.ren 17 1001] [(3, pk 3), (4, pk 4), (5, pk 5), (8, .c (.own 1001 1 0 (([] : List Int).length))), (20, dc 1 eI zI v7), (21, cI (v7.length : Int)), (22, cI 0)] [(3, va (eTBoard p0)), (4, va (eTState p1)), (5, .var [.int .i64 p2] false), (1001, .arr 1 (([] : List Int).length) (fF eI zI ([] : List Int)) false)] id ?_
  refine loop_in (fun (x : (Int × (List Int))) => lit [(3, pk 3), (4, pk 4), (5, pk 5), (8, .c (.own 1001 1 0 x.2.length)), (20, dc 1 eI zI v7), (21, cI (v7.length : Int)), (22, cI x.1)] [(3, va (eTBoard p0)), (4, va (eTState p1)), (5, .var [.int .i64 p2] false), (1001, .arr 1 x.2.length (fF eI zI x.2) false)]) (fun (z : (List Int)) => At (.exit 0) (lit [(8, .c (.own 1001 1 0 z.length))] [(1001, .arr 1 z.length (fF eI zI z) false)])) h48 ?_ ?_
  ·clear H h48
   intro x34 y0 H
   refine so [] [] [(3, pk 3), (4, pk 4), (5, pk 5), (8, .c (.own 1001 1 0 x34.2.length)), (20, dc 1 eI zI v7), (21, cI (v7.length : Int)), (22, cI x34.1), (23, cB (decide (x34.1 < (v7.length : Int))))] [(3, va (eTBoard p0)), (4, va (eTState p1)), (5, .var [.int .i64 p2] false), (1001, .arr 1 x34.2.length (fF eI zI x34.2) false)] id ?_
   refine seq_in ?_
   rcases ofCond H with ⟨c36, H⟩ | ⟨c36, H⟩
   ·refine it c36 ?_
    refine sk ?_
    refine seq_in ?_
    refine ends_blk ?_
    obtain ⟨v37, h38, H⟩ := ofBind H
    refine so [.cs (eI v37)] [] [(3, pk 3), (4, pk 4), (5, pk 5), (8, .c (.own 1001 1 0 x34.2.length)), (10, cI v37), (20, dc 1 eI zI v7), (21, cI (v7.length : Int)), (22, cI x34.1)] [(3, va (eTBoard p0)), (4, va (eTState p1)), (5, .var [.int .i64 p2] false), (1001, .arr 1 x34.2.length (fF eI zI x34.2) false)] (fun t => aI (at_lt h38) (aI (at_enc (enc := eI) h38) (t))) ?_
    obtain ⟨v39, h40, H⟩ := ofBind H
    obtain ⟨v41, h42, H⟩ := ofBind H
    refine sd [.cs (eTUnit v39), .res (dc 1 eI zI v41)] [] [(3, pk 3), (4, pk 4), (5, pk 5), (8, .c (.own 1001 1 0 x34.2.length)), (10, cI v37), (11, dc 1 eI zI v41), (20, dc 1 eI zI v7), (21, cI (v7.length : Int)), (22, cI x34.1)] [(3, va (eTBoard p0)), (4, va (eTState p1)), (5, .var [.int .i64 p2] false), (1001, .arr 1 x34.2.length (fF eI zI x34.2) false)] (fun t => aI (at_lt h40) (aI (at_enc (enc := eTUnit) h40) (aI (rfl : ([] : List Nat) = []) (aI (i_neighboursOn_ok p0.Map v39.At v41 h42) (aI (rfl : ([] : List Nat) = []) (aI (rfl : ([] : List Nat) = []) (t))))))) ?_
    obtain ⟨v43, h44, H⟩ := ofBind H
    refine so [.res (cB v43)] [] [(3, pk 3), (4, pk 4), (5, pk 5), (8, .c (.own 1001 1 0 x34.2.length)), (10, cI v37), (20, dc 1 eI zI v7), (21, cI (v7.length : Int)), (22, cI x34.1), (37, cB v43)] [(3, va (eTBoard p0)), (4, va (eTState p1)), (5, .var [.int .i64 p2] false), (1001, .arr 1 x34.2.length (fF eI zI x34.2) false)] (fun t => aI (g_ContainsFunc_int_c2_ok v41 (71) (eTState p1) (eI p2) (fun q0 => X.i_FrontUnits_1 q0 p1 p2) (fun q0 r h => i_FrontUnits_1_ok q0 p1 p2 r h) v43 h44) (t)) ?_
    rcases ofCond H with ⟨c45, H⟩ | ⟨c45, H⟩
    ·refine it c45 ?_
     obtain ⟨g46, H⟩ := ofIf H
     refine oo [.fn ([v37] : List Int).length (fF eI zI ([v37] : List Int)), .fn (x34.2 ++ ([v37] : List Int)).length (fF eI zI (x34.2 ++ ([v37] : List Int)))] [] [(3, pk 3), (4, pk 4), (5, pk 5), (8, .c (.own 41 1 0 ((x34.2 ++ ([v37] : List Int)).length))), (20, dc 1 eI zI v7), (21, cI (v7.length : Int)), (22, cI x34.1)] [(3, va (eTBoard p0)), (4, va (eTState p1)), (5, .var [.int .i64 p2] false), (41, .arr 1 ((x34.2 ++ ([v37] : List Int)).length) (fF eI zI (x34.2 ++ ([v37] : List Int))) false)] (fun t => aI (rfl : ([v37] : List Int).length = 1) (aI (fF_lit eI zI ([v37] : List Int)) (aI (And.intro (Nat.le_refl x34.2.length) (And.intro (@List.length_append _ x34.2 ([v37] : List Int)) g46)) (aI (fF_appL eI zI x34.2 ([v37] : List Int)) (aI (fF_appR eI zI x34.2 ([v37] : List Int)) (t)))))) ?_
     change EndsI _ _ _ _ _ _
     refine oo [] [.ren 41 1001] [(3, pk 3), (4, pk 4), (5, pk 5), (8, .c (.own 1001 1 0 ((x34.2 ++ ([v37] : List Int)).length))), (20, dc 1 eI zI v7), (21, cI (v7.length : Int)), (22, cI (W (x34.1 + 1)))] [(3, va (eTBoard p0)), (4, va (eTState p1)), (5, .var [.int .i64 p2] false), (1001, .arr 1 ((x34.2 ++ ([v37] : List Int)).length) (fF eI zI (x34.2 ++ ([v37] : List Int))) false)] id ?_
     cases H
     exact And.intro rfl rfl
    ·refine jf c45 ?_
     refine sk ?_
     refine oo [] [] [(3, pk 3), (4, pk 4), (5, pk 5), (8, .c (.own 1001 1 0 x34.2.length)), (20, dc 1 eI zI v7), (21, cI (v7.length : Int)), (22, cI (W (x34.1 + 1)))] [(3, va (eTBoard p0)), (4, va (eTState p1)), (5, .var [.int .i64 p2] false), (1001, .arr 1 x34.2.length (fF eI zI x34.2) false)] id ?_
     cases H
     exact And.intro rfl rfl
   ·refine jf c36 ?_
    refine tl [] [(8, .c (.own 1001 1 0 x34.2.length))] [(1001, .arr 1 x34.2.length (fF eI zI x34.2) false)] id ?_
    refine ends_exit ?_
    cases H
    exact And.intro (by simp) (And.intro rfl rfl)
  ·clear h48
   intro e s q
   obtain ⟨rfl, rfl⟩ := q
   change EndsI _ _ _ _ _ _
   refine so [] [] [(6, .c (.own 1001 1 0 y47.length)), (7, cB true)] [(1001, .arr 1 y47.length (fF eI zI y47) false)] id ?_
   refine tl [.frz 6] [(6, dc 1 eI zI y47), (7, cB true)] [] (fun t => aI (Nat.le_refl y47.length) (t)) ?_
   refine ends_ret ?_
   cases H
   exact And.intro (.inl rfl) rfl
theorem i_FrontUnits_Mddd_ok (p0 : TBoard) (p1 : TState) (p2 : Int) (r : ((List Int) × Bool)) (H : X.i_FrontUnits p0 p1 p2 = some r) : FnMu Tryz.prog gl 17 [.agg (eTBoard p0), .agg (eTState p1), cI p2] [] (.tup [(false, [.own 900000 1 0 r.1.length]), (false, [.bool r.2])]) [(900000, .arr 1 r.1.length (fF eI zI r.1) false)] := by
 unfold X.i_FrontUnits at H
 refine fn_mu (fn := Tryz.f17) (ir := i_FrontUnits_ir) (E' := [(6, .c (.own 900000 1 0 r.1.length)), (7, cB r.2)]) (E1 := [(900000, .arr 1 r.1.length (fF eI zI r.1) false)]) glL Tryz.func17 (by kernel_rfl) (by kernel_rfl) (by kernel_rfl) (by kernel_rfl) (by kernel_rfl) ?_
 refine so [] [] [(3, pk 3), (4, pk 4), (5, pk 5)] [(3, va (eTBoard p0)), (4, va (eTState p1)), (5, .var [.int .i64 p2] false)] id ?_
 refine seq_in ?_
 obtain ⟨v4, h5, H⟩ := ofBind H
 refine so [.res (cB v4)] [] [(3, pk 3), (4, pk 4), (5, pk 5), (16, cB (!v4))] [(3, va (eTBoard p0)), (4, va (eTState p1)), (5, .var [.int .i64 p2] false)] (fun t => aI (i_isLook_ok p0 p1 p2 v4 h5) (t)) ?_
 rcases ofCond H with ⟨c6, H⟩ | ⟨c6, H⟩
 ·refine it c6 ?_
  refine so [] [] [(6, .c (.nil)), (7, cB false)] [] id ?_
  refine tl [.nlo 6 900000 1 (fF eI zI ([] : List Int))] [(6, .c (.own 900000 1 0 (([] : List Int).length))), (7, cB false)] [(900000, .arr 1 (([] : List Int).length) (fF eI zI ([] : List Int)) false)] (fun t => aI (by decide : 0 < 1) (t)) ?_
  refine ends_ret ?_
  cases H
  exact And.intro (.inl rfl) rfl
 ·refine jf c6 ?_
  refine sk ?_
  refine so [.fn ([] : List Int).length (fF eI zI ([] : List Int))] [] [(3, pk 3), (4, pk 4), (5, pk 5), (8, .c (.own 17 1 0 (([] : List Int).length)))] [(3, va (eTBoard p0)), (4, va (eTState p1)), (5, .var [.int .i64 p2] false), (17, .arr 1 (([] : List Int).length) (fF eI zI ([] : List Int)) false)] (fun t => aI (rfl : ([] : List Int).length = 0) (aI (fF_lit eI zI ([] : List Int)) (t))) ?_
  refine seq_in ?_
  obtain ⟨v7, h8, H⟩ := ofBind H
  refine so [.res (dc 1 eI zI v7)] [] [(3, pk 3), (4, pk 4), (5, pk 5), (8, .c (.own 17 1 0 (([] : List Int).length))), (20, dc 1 eI zI v7), (21, cI (v7.length : Int)), (22, cI 0)] [(3, va (eTBoard p0)), (4, va (eTState p1)), (5, .var [.int .i64 p2] false), (17, .arr 1 (([] : List Int).length) (fF eI zI ([] : List Int)) false)] (fun t => aI (i_unitsOf_ok p1 p2 v7 h8) (lI v7 (t))) ?_
  refine ends_blk ?_
  obtain ⟨y47, h48, H⟩ := ofBind H
  refine tl [.ren 17 1001] [(3, pk 3), (4, pk 4), (5, pk 5), (8, .c (.own 1001 1 0 (([] : List Int).length))), (20, dc 1 eI zI v7), (21, cI (v7.length : Int)), (22, cI 0)] [(3, va (eTBoard p0)), (4, va (eTState p1)), (5, .var [.int .i64 p2] false), (1001, .arr 1 (([] : List Int).length) (fF eI zI ([] : List Int)) false)] id ?_
  refine loop_in (fun (x : (Int × (List Int))) => lit [(3, pk 3), (4, pk 4), (5, pk 5), (8, .c (.own 1001 1 0 x.2.length)), (20, dc 1 eI zI v7), (21, cI (v7.length : Int)), (22, cI x.1)] [(3, va (eTBoard p0)), (4, va (eTState p1)), (5, .var [.int .i64 p2] false), (1001, .arr 1 x.2.length (fF eI zI x.2) false)]) (fun (z : (List Int)) => At (.exit 0) (lit [(8, .c (.own 1001 1 0 z.length))] [(1001, .arr 1 z.length (fF eI zI z) false)])) h48 ?_ ?_
  ·clear H h48
   intro x34 y0 H
   refine so [] [] [(3, pk 3), (4, pk 4), (5, pk 5), (8, .c (.own 1001 1 0 x34.2.length)), (20, dc 1 eI zI v7), (21, cI (v7.length : Int)), (22, cI x34.1), (23, cB (decide (x34.1 < (v7.length : Int))))] [(3, va (eTBoard p0)), (4, va (eTState p1)), (5, .var [.int .i64 p2] false), (1001, .arr 1 x34.2.length (fF eI zI x34.2) false)] id ?_
   refine seq_in ?_
   rcases ofCond H with ⟨c36, H⟩ | ⟨c36, H⟩
   ·refine it c36 ?_
    refine sk ?_
    refine seq_in ?_
    refine ends_blk ?_
    obtain ⟨v37, h38, H⟩ := ofBind H
    refine so [.cs (eI v37)] [] [(3, pk 3), (4, pk 4), (5, pk 5), (8, .c (.own 1001 1 0 x34.2.length)), (10, cI v37), (20, dc 1 eI zI v7), (21, cI (v7.length : Int)), (22, cI x34.1)] [(3, va (eTBoard p0)), (4, va (eTState p1)), (5, .var [.int .i64 p2] false), (1001, .arr 1 x34.2.length (fF eI zI x34.2) false)] (fun t => aI (at_lt h38) (aI (at_enc (enc := eI) h38) (t))) ?_
    obtain ⟨v39, h40, H⟩ := ofBind H
    obtain ⟨v41, h42, H⟩ := ofBind H
    refine sd [.cs (eTUnit v39), .res (dc 1 eI zI v41)] [] [(3, pk 3), (4, pk 4), (5, pk 5), (8, .c (.own 1001 1 0 x34.2.length)), (10, cI v37), (11, dc 1 eI zI v41), (20, dc 1 eI zI v7), (21, cI (v7.length : Int)), (22, cI x34.1)] [(3, va (eTBoard p0)), (4, va (eTState p1)), (5, .var [.int .i64 p2] false), (1001, .arr 1 x34.2.length (fF eI zI x34.2) false)] (fun t => aI (at_lt h40) (aI (at_enc (enc := eTUnit) h40) (aI (rfl : ([] : List Nat) = []) (aI (i_neighboursOn_ok p0.Map v39.At v41 h42) (aI (rfl : ([] : List Nat) = []) (aI (rfl : ([] : List Nat) = []) (t))))))) ?_
    obtain ⟨v43, h44, H⟩ := ofBind H
    refine so [.res (cB v43)] [] [(3, pk 3), (4, pk 4), (5, pk 5), (8, .c (.own 1001 1 0 x34.2.length)), (10, cI v37), (20, dc 1 eI zI v7), (21, cI (v7.length : Int)), (22, cI x34.1), (37, cB v43)] [(3, va (eTBoard p0)), (4, va (eTState p1)), (5, .var [.int .i64 p2] false), (1001, .arr 1 x34.2.length (fF eI zI x34.2) false)] (fun t => aI (g_ContainsFunc_int_c2_ok v41 (71) (eTState p1) (eI p2) (fun q0 => X.i_FrontUnits_1 q0 p1 p2) (fun q0 r h => i_FrontUnits_1_ok q0 p1 p2 r h) v43 h44) (t)) ?_
    rcases ofCond H with ⟨c45, H⟩ | ⟨c45, H⟩
    ·refine it c45 ?_
     obtain ⟨g46, H⟩ := ofIf H
     refine oo [.fn ([v37] : List Int).length (fF eI zI ([v37] : List Int)), .fn (x34.2 ++ ([v37] : List Int)).length (fF eI zI (x34.2 ++ ([v37] : List Int)))] [] [(3, pk 3), (4, pk 4), (5, pk 5), (8, .c (.own 41 1 0 ((x34.2 ++ ([v37] : List Int)).length))), (20, dc 1 eI zI v7), (21, cI (v7.length : Int)), (22, cI x34.1)] [(3, va (eTBoard p0)), (4, va (eTState p1)), (5, .var [.int .i64 p2] false), (41, .arr 1 ((x34.2 ++ ([v37] : List Int)).length) (fF eI zI (x34.2 ++ ([v37] : List Int))) false)] (fun t => aI (rfl : ([v37] : List Int).length = 1) (aI (fF_lit eI zI ([v37] : List Int)) (aI (And.intro (Nat.le_refl x34.2.length) (And.intro (@List.length_append _ x34.2 ([v37] : List Int)) g46)) (aI (fF_appL eI zI x34.2 ([v37] : List Int)) (aI (fF_appR eI zI x34.2 ([v37] : List Int)) (t)))))) ?_
     change EndsI _ _ _ _ _ _
     refine oo [] [.ren 41 1001] [(3, pk 3), (4, pk 4), (5, pk 5), (8, .c (.own 1001 1 0 ((x34.2 ++ ([v37] : List Int)).length))), (20, dc 1 eI zI v7), (21, cI (v7.length : Int)), (22, cI (W (x34.1 + 1)))] [(3, va (eTBoard p0)), (4, va (eTState p1)), (5, .var [.int .i64 p2] false), (1001, .arr 1 ((x34.2 ++ ([v37] : List Int)).length) (fF eI zI (x34.2 ++ ([v37] : List Int))) false)] id ?_
     cases H
     exact And.intro rfl rfl
    ·refine jf c45 ?_
     refine sk ?_
     refine oo [] [] [(3, pk 3), (4, pk 4), (5, pk 5), (8, .c (.own 1001 1 0 x34.2.length)), (20, dc 1 eI zI v7), (21, cI (v7.length : Int)), (22, cI (W (x34.1 + 1)))] [(3, va (eTBoard p0)), (4, va (eTState p1)), (5, .var [.int .i64 p2] false), (1001, .arr 1 x34.2.length (fF eI zI x34.2) false)] id ?_
     cases H
     exact And.intro rfl rfl
   ·refine jf c36 ?_
    refine tl [] [(8, .c (.own 1001 1 0 x34.2.length))] [(1001, .arr 1 x34.2.length (fF eI zI x34.2) false)] id ?_
    refine ends_exit ?_
    cases H
    exact And.intro (by simp) (And.intro rfl rfl)
  ·clear h48
   intro e s q
   obtain ⟨rfl, rfl⟩ := q
   change EndsI _ _ _ _ _ _
   refine so [] [] [(6, .c (.own 1001 1 0 y47.length)), (7, cB true)] [(1001, .arr 1 y47.length (fF eI zI y47) false)] id ?_
   refine tl [.ren 1001 900000] [(6, .c (.own 900000 1 0 y47.length)), (7, cB true)] [(900000, .arr 1 y47.length (fF eI zI y47) false)] id ?_
   refine ends_ret ?_
   cases H
   exact And.intro (.inl rfl) rfl
def l_eqIntS_ir : S :=
 (.seq (.ops [o 4 (.mv (.v (.bool false)))])
 (.seq (.seq (.ops [o 6 (.mv (.t 0)), o 7 (.len (.t 6)), o 8 (.mv (.t 1)), o 9 (.len (.t 8)), o 10 (.bin .neq (.t 7) (.t 9))])
 (.ite (.t 10) (.seq (.ops [o 4 (.mv (.v (.bool false)))])
  .ret)
 .skip))
 (.seq (.seq (.ops [o 5 (.mv (.v (.int .i64 0)))])
 (.blk 0 (.loop (.seq (.seq (.ops [o 11 (.mv (.t 5)), o 12 (.mv (.t 0)), o 13 (.len (.t 12)), o 14 (.bin .lss (.t 11) (.t 13))])
   (.ite (.t 14) .skip
   (.exit 0)))
   (.seq (.blk 1 (.seq (.draw 9 [o 17 (.mv (.t 0)), o 18 (.mv (.t 5)), o 19 (.iad 1 (.t 17) (.t 18)), o 20 (.load 1 false (.t 19)), o 21 (.mv (.t 1)), o 22 (.mv (.t 5)), o 23 (.iad 1 (.t 21) (.t 22)), o 24 (.load 1 false (.t 23)), o 25 (.bin .neq (.t 20) (.t 24))])
    (.ite (.t 25) (.seq (.ops [o 4 (.mv (.v (.bool false)))])
     .ret)
    .skip)))
   (.ops [o 15 (.mv (.t 5)), o 16 (.bin .add (.t 15) (.v (.int .i64 1))), o 5 (.mv (.t 16))]))))))
 (.seq (.ops [o 4 (.mv (.v (.bool true)))])
 .ret))))
noncomputable def X.l_eqIntS (p0 : (List Int)) (p1 : (List Int)) : Option Bool :=
 (bif ((p0.length : Int) != (p1.length : Int)) then some false else ((loop (fun (x18 : Int) => ((bif (decide (x18 < (p0.length : Int))) then ((at' zI p0 x18).bind fun v21 => ((at' zI p1 x18).bind fun v23 => (bif (v21 != v23) then some (Sum.inr (Sum.inr false)) else some (Sum.inl (W (x18 + 1)))))) else some (Sum.inr (Sum.inl ()))) : Option (Int ⊕ (Unit ⊕ Bool)))) 0).bind fun y26 => (Sum.elim (fun (y28 : Unit) => some true) (fun (y29 : Bool) => some y29) y26)))
theorem l_eqIntS_ok (p0 : (List Int)) (p1 : (List Int)) (r : Bool) (H : X.l_eqIntS p0 p1 = some r) : FnOk Tryz.prog gl 18 [.c (dat 1 eI zI p0), .c (dat 1 eI zI p1)] (cB r) := by
 unfold X.l_eqIntS at H
 refine fi Tryz.f18 l_eqIntS_ir [(4, cB r)] [] glL Tryz.func18 ?_
 refine so [] [] [(0, dc 1 eI zI p0), (1, dc 1 eI zI p1)] [] id ?_
 refine seq_in ?_
 refine so [] [] [(0, dc 1 eI zI p0), (1, dc 1 eI zI p1), (10, cB ((p0.length : Int) != (p1.length : Int)))] [] (fun t => lI p0 (lI p1 (t))) ?_
 rcases ofCond H with ⟨c2, H⟩ | ⟨c2, H⟩
 ·refine it c2 ?_
  refine so [] [] [(4, cB false)] [] id ?_
  refine ends_ret ?_
  cases H
  exact And.intro (.inl rfl) rfl
 ·refine jf c2 ?_
  refine sk ?_
  refine seq_in ?_
  refine so [] [] [(0, dc 1 eI zI p0), (1, dc 1 eI zI p1), (5, cI 0)] [] id ?_
  refine ends_blk ?_
  obtain ⟨y26, h27, H⟩ := ofBind H
  refine loop_in (fun (x : Int) => lit [(0, dc 1 eI zI p0), (1, dc 1 eI zI p1), (5, cI x)] []) (orJ (fun (z : Unit) => At (.exit 0) (lit [] [])) (fun (z : Bool) => At .ret (lit [(4, cB z)] []))) h27 ?_ ?_
  ·clear H h27
   intro x18 y0 H
   refine seq_in ?_
   refine so [] [] [(0, dc 1 eI zI p0), (1, dc 1 eI zI p1), (5, cI x18), (14, cB (decide (x18 < (p0.length : Int))))] [] (fun t => lI p0 (t)) ?_
   rcases ofCond H with ⟨c20, H⟩ | ⟨c20, H⟩
   ·refine it c20 ?_
    refine sk ?_
    refine seq_in ?_
    refine ends_blk ?_
    obtain ⟨v21, h22, H⟩ := ofBind H
    obtain ⟨v23, h24, H⟩ := ofBind H
    refine sd [.cs (eI v21), .cs (eI v23)] [] [(0, dc 1 eI zI p0), (1, dc 1 eI zI p1), (5, cI x18), (25, cB (v21 != v23))] [] (fun t => aI (at_lt h22) (aI (at_enc (enc := eI) h22) (aI (rfl : ([] : List Nat) = []) (aI (at_lt h24) (aI (at_enc (enc := eI) h24) (aI (rfl : ([] : List Nat) = []) (t))))))) ?_
    rcases ofCond H with ⟨c25, H⟩ | ⟨c25, H⟩
    ·refine it c25 ?_
     refine so [] [] [(4, cB false)] [] id ?_
     refine ends_ret ?_
     cases H
     exact And.intro (by simp) (And.intro rfl rfl)
    ·refine jf c25 ?_
     refine sk ?_
     refine oo [] [] [(0, dc 1 eI zI p0), (1, dc 1 eI zI p1), (5, cI (W (x18 + 1)))] [] id ?_
     cases H
     exact And.intro rfl rfl
   ·refine jf c20 ?_
    refine tl [] [] [] id ?_
    refine ends_exit ?_
    cases H
    exact And.intro (by simp) (And.intro rfl rfl)
  ·clear h27
   cases y26 with
   | inl y28 =>
    replace H := ofInl H
    intro e s q
    obtain ⟨rfl, rfl⟩ := q
    change EndsI _ _ _ _ _ _
    refine so [] [] [(4, cB true)] [] id ?_
    refine ends_ret ?_
    cases H
    exact And.intro (.inl rfl) rfl
   | inr y29 =>
    replace H := ofInr H
    intro e s q
    obtain ⟨rfl, rfl⟩ := q
    cases H
    exact And.intro (.inl rfl) rfl
def l_eqTerrain_ir : S :=
 (.seq (.ops [o 2 (.box 5 (.t 0)), o 3 (.box 5 (.t 1)), o 4 (.mv (.v (.bool false)))])
 (.seq (.seq (.ops [o 5 (.fad 0 (.t 2)), o 6 (.load 1 false (.t 5)), o 7 (.fad 0 (.t 3)), o 8 (.load 1 false (.t 7)), o 9 (.bin .neq (.t 6) (.t 8))])
 (.ite (.t 9) (.seq (.ops [o 4 (.mv (.v (.bool false)))])
  .ret)
 .skip))
 (.seq (.seq (.ops [o 10 (.fad 1 (.t 2)), o 11 (.load 1 false (.t 10)), o 12 (.fad 1 (.t 3)), o 13 (.load 1 false (.t 12)), o 14 (.call 18 [.t 11, .t 13]), o 15 (.not (.t 14))])
 (.ite (.t 15) (.seq (.ops [o 4 (.mv (.v (.bool false)))])
  .ret)
 .skip))
 (.seq (.seq (.ops [o 16 (.fad 2 (.t 2)), o 17 (.load 1 false (.t 16)), o 18 (.fad 2 (.t 3)), o 19 (.load 1 false (.t 18)), o 20 (.bin .neq (.t 17) (.t 19))])
 (.ite (.t 20) (.seq (.ops [o 4 (.mv (.v (.bool false)))])
  .ret)
 .skip))
 (.seq (.seq (.ops [o 21 (.fad 3 (.t 2)), o 22 (.load 1 false (.t 21)), o 23 (.fad 3 (.t 3)), o 24 (.load 1 false (.t 23)), o 25 (.bin .neq (.t 22) (.t 24))])
 (.ite (.t 25) (.seq (.ops [o 4 (.mv (.v (.bool false)))])
  .ret)
 .skip))
 (.seq (.seq (.ops [o 26 (.fad 4 (.t 2)), o 27 (.load 1 false (.t 26)), o 28 (.fad 4 (.t 3)), o 29 (.load 1 false (.t 28)), o 30 (.bqe true (.t 27) (.t 29))])
 (.ite (.t 30) (.seq (.ops [o 4 (.mv (.v (.bool false)))])
  .ret)
 .skip))
 (.seq (.ops [o 4 (.mv (.v (.bool true)))])
 .ret)))))))
noncomputable def X.l_eqTerrain (p0 : TTerrain) (p1 : TTerrain) : Option Bool :=
 (bif (!(p0.Name == p1.Name)) then some false else ((X.l_eqIntS p0.Cost p1.Cost).bind fun v6 => (bif (!v6) then some false else (bif (p0.Shift != p1.Shift) then some false else (bif (p0.Height != p1.Height) then some false else (bif (!(p0.Blocks == p1.Blocks)) then some false else some true))))))
theorem l_eqTerrain_ok (p0 : TTerrain) (p1 : TTerrain) (r : Bool) (H : X.l_eqTerrain p0 p1 = some r) : FnOk Tryz.prog gl 185 [.agg (eTTerrain p0), .agg (eTTerrain p1)] (cB r) := by
 unfold X.l_eqTerrain at H
 refine fi Tryz.f185 l_eqTerrain_ir [(4, cB r)] [] glL Tryz.func185 ?_
 refine so [] [] [(2, pk 2), (3, pk 3)] [(2, va (eTTerrain p0)), (3, va (eTTerrain p1))] id ?_
 refine seq_in ?_
 refine so [] [] [(2, pk 2), (3, pk 3), (9, cB (!(p0.Name == p1.Name)))] [(2, va (eTTerrain p0)), (3, va (eTTerrain p1))] id ?_
 rcases ofCond H with ⟨c2, H⟩ | ⟨c2, H⟩
 ·refine it c2 ?_
  refine so [] [] [(4, cB false)] [] id ?_
  refine ends_ret ?_
  cases H
  exact And.intro (.inl rfl) rfl
 ·refine jf c2 ?_
  refine sk ?_
  refine seq_in ?_
  obtain ⟨v6, h7, H⟩ := ofBind H
  refine so [.res (cB v6)] [] [(2, pk 2), (3, pk 3), (15, cB (!v6))] [(2, va (eTTerrain p0)), (3, va (eTTerrain p1))] (fun t => aI (l_eqIntS_ok p0.Cost p1.Cost v6 h7) (t)) ?_
  rcases ofCond H with ⟨c8, H⟩ | ⟨c8, H⟩
  ·refine it c8 ?_
   refine so [] [] [(4, cB false)] [] id ?_
   refine ends_ret ?_
   cases H
   exact And.intro (.inl rfl) rfl
  ·refine jf c8 ?_
   refine sk ?_
   refine seq_in ?_
   refine so [] [] [(2, pk 2), (3, pk 3), (20, cB (p0.Shift != p1.Shift))] [(2, va (eTTerrain p0)), (3, va (eTTerrain p1))] id ?_
   rcases ofCond H with ⟨c10, H⟩ | ⟨c10, H⟩
   ·refine it c10 ?_
    refine so [] [] [(4, cB false)] [] id ?_
    refine ends_ret ?_
    cases H
    exact And.intro (.inl rfl) rfl
   ·refine jf c10 ?_
    refine sk ?_
    refine seq_in ?_
    refine so [] [] [(2, pk 2), (3, pk 3), (25, cB (p0.Height != p1.Height))] [(2, va (eTTerrain p0)), (3, va (eTTerrain p1))] id ?_
    rcases ofCond H with ⟨c12, H⟩ | ⟨c12, H⟩
    ·refine it c12 ?_
     refine so [] [] [(4, cB false)] [] id ?_
     refine ends_ret ?_
     cases H
     exact And.intro (.inl rfl) rfl
    ·refine jf c12 ?_
     refine sk ?_
     refine seq_in ?_
     refine so [] [] [(30, cB (!(p0.Blocks == p1.Blocks)))] [] id ?_
     rcases ofCond H with ⟨c13, H⟩ | ⟨c13, H⟩
     ·refine it c13 ?_
      refine so [] [] [(4, cB false)] [] id ?_
      refine ends_ret ?_
      cases H
      exact And.intro (.inl rfl) rfl
     ·refine jf c13 ?_
      refine sk ?_
      refine so [] [] [(4, cB true)] [] id ?_
      refine ends_ret ?_
      cases H
      exact And.intro (.inl rfl) rfl
def l_eqTerrainS_ir : S :=
 (.seq (.ops [o 4 (.mv (.v (.bool false)))])
 (.seq (.seq (.ops [o 6 (.mv (.t 0)), o 7 (.len (.t 6)), o 8 (.mv (.t 1)), o 9 (.len (.t 8)), o 10 (.bin .neq (.t 7) (.t 9))])
 (.ite (.t 10) (.seq (.ops [o 4 (.mv (.v (.bool false)))])
  .ret)
 .skip))
 (.seq (.seq (.ops [o 5 (.mv (.v (.int .i64 0)))])
 (.blk 0 (.loop (.seq (.seq (.ops [o 11 (.mv (.t 5)), o 12 (.mv (.t 0)), o 13 (.len (.t 12)), o 14 (.bin .lss (.t 11) (.t 13))])
   (.ite (.t 14) .skip
   (.exit 0)))
   (.seq (.blk 1 (.seq (.draw 10 [o 17 (.mv (.t 0)), o 18 (.mv (.t 5)), o 19 (.iad 5 (.t 17) (.t 18)), o 20 (.load 5 true (.t 19)), o 21 (.mv (.t 1)), o 22 (.mv (.t 5)), o 23 (.iad 5 (.t 21) (.t 22)), o 24 (.load 5 true (.t 23)), o 25 (.call 185 [.t 20, .t 24]), o 26 (.not (.t 25))])
    (.ite (.t 26) (.seq (.ops [o 4 (.mv (.v (.bool false)))])
     .ret)
    .skip)))
   (.ops [o 15 (.mv (.t 5)), o 16 (.bin .add (.t 15) (.v (.int .i64 1))), o 5 (.mv (.t 16))]))))))
 (.seq (.ops [o 4 (.mv (.v (.bool true)))])
 .ret))))
noncomputable def X.l_eqTerrainS (p0 : (List TTerrain)) (p1 : (List TTerrain)) : Option Bool :=
 (bif ((p0.length : Int) != (p1.length : Int)) then some false else ((loop (fun (x22 : Int) => ((bif (decide (x22 < (p0.length : Int))) then ((at' zTTerrain p0 x22).bind fun v25 => ((at' zTTerrain p1 x22).bind fun v27 => ((X.l_eqTerrain v25 v27).bind fun v29 => (bif (!v29) then some (Sum.inr (Sum.inr false)) else some (Sum.inl (W (x22 + 1))))))) else some (Sum.inr (Sum.inl ()))) : Option (Int ⊕ (Unit ⊕ Bool)))) 0).bind fun y32 => (Sum.elim (fun (y34 : Unit) => some true) (fun (y35 : Bool) => some y35) y32)))
theorem l_eqTerrainS_ok (p0 : (List TTerrain)) (p1 : (List TTerrain)) (r : Bool) (H : X.l_eqTerrainS p0 p1 = some r) : FnOk Tryz.prog gl 135 [.c (dat 5 eTTerrain zTTerrain p0), .c (dat 5 eTTerrain zTTerrain p1)] (cB r) := by
 unfold X.l_eqTerrainS at H
 refine fi Tryz.f135 l_eqTerrainS_ir [(4, cB r)] [] glL Tryz.func135 ?_
 refine so [] [] [(0, dc 5 eTTerrain zTTerrain p0), (1, dc 5 eTTerrain zTTerrain p1)] [] id ?_
 refine seq_in ?_
 refine so [] [] [(0, dc 5 eTTerrain zTTerrain p0), (1, dc 5 eTTerrain zTTerrain p1), (10, cB ((p0.length : Int) != (p1.length : Int)))] [] (fun t => lI p0 (lI p1 (t))) ?_
 rcases ofCond H with ⟨c2, H⟩ | ⟨c2, H⟩
 ·refine it c2 ?_
  refine so [] [] [(4, cB false)] [] id ?_
  refine ends_ret ?_
  cases H
  exact And.intro (.inl rfl) rfl
 ·refine jf c2 ?_
  refine sk ?_
  refine seq_in ?_
  refine so [] [] [(0, dc 5 eTTerrain zTTerrain p0), (1, dc 5 eTTerrain zTTerrain p1), (5, cI 0)] [] id ?_
  refine ends_blk ?_
  obtain ⟨y32, h33, H⟩ := ofBind H
  refine loop_in (fun (x : Int) => lit [(0, dc 5 eTTerrain zTTerrain p0), (1, dc 5 eTTerrain zTTerrain p1), (5, cI x)] []) (orJ (fun (z : Unit) => At (.exit 0) (lit [] [])) (fun (z : Bool) => At .ret (lit [(4, cB z)] []))) h33 ?_ ?_
  ·clear H h33
   intro x22 y0 H
   refine seq_in ?_
   refine so [] [] [(0, dc 5 eTTerrain zTTerrain p0), (1, dc 5 eTTerrain zTTerrain p1), (5, cI x22), (14, cB (decide (x22 < (p0.length : Int))))] [] (fun t => lI p0 (t)) ?_
   rcases ofCond H with ⟨c24, H⟩ | ⟨c24, H⟩
   ·refine it c24 ?_
    refine sk ?_
    refine seq_in ?_
    refine ends_blk ?_
    obtain ⟨v25, h26, H⟩ := ofBind H
    obtain ⟨v27, h28, H⟩ := ofBind H
    obtain ⟨v29, h30, H⟩ := ofBind H
    refine sd [.cs (eTTerrain v25), .cs (eTTerrain v27), .res (cB v29)] [] [(0, dc 5 eTTerrain zTTerrain p0), (1, dc 5 eTTerrain zTTerrain p1), (5, cI x22), (26, cB (!v29))] [] (fun t => aI (at_lt h26) (aI (at_enc (enc := eTTerrain) h26) (aI (rfl : ([] : List Nat) = []) (aI (at_lt h28) (aI (at_enc (enc := eTTerrain) h28) (aI (rfl : ([] : List Nat) = []) (aI (l_eqTerrain_ok v25 v27 v29 h30) (aI trivial (aI (rfl : ([] : List Nat) = []) (t)))))))))) ?_
    rcases ofCond H with ⟨c31, H⟩ | ⟨c31, H⟩
    ·refine it c31 ?_
     refine so [] [] [(4, cB false)] [] id ?_
     refine ends_ret ?_
     cases H
     exact And.intro (by simp) (And.intro rfl rfl)
    ·refine jf c31 ?_
     refine sk ?_
     refine oo [] [] [(0, dc 5 eTTerrain zTTerrain p0), (1, dc 5 eTTerrain zTTerrain p1), (5, cI (W (x22 + 1)))] [] id ?_
     cases H
     exact And.intro rfl rfl
   ·refine jf c24 ?_
    refine tl [] [] [] id ?_
    refine ends_exit ?_
    cases H
    exact And.intro (by simp) (And.intro rfl rfl)
  ·clear h33
   cases y32 with
   | inl y34 =>
    replace H := ofInl H
    intro e s q
    obtain ⟨rfl, rfl⟩ := q
    change EndsI _ _ _ _ _ _
    refine so [] [] [(4, cB true)] [] id ?_
    refine ends_ret ?_
    cases H
    exact And.intro (.inl rfl) rfl
   | inr y35 =>
    replace H := ofInr H
    intro e s q
    obtain ⟨rfl, rfl⟩ := q
    cases H
    exact And.intro (.inl rfl) rfl
def l_eqKind_ir : S :=
 (.seq (.ops [o 2 (.box 6 (.t 0)), o 3 (.box 6 (.t 1)), o 4 (.mv (.v (.bool false)))])
 (.seq (.seq (.ops [o 5 (.fad 0 (.t 2)), o 6 (.load 1 false (.t 5)), o 7 (.fad 0 (.t 3)), o 8 (.load 1 false (.t 7)), o 9 (.bin .neq (.t 6) (.t 8))])
 (.ite (.t 9) (.seq (.ops [o 4 (.mv (.v (.bool false)))])
  .ret)
 .skip))
 (.seq (.seq (.ops [o 10 (.fad 1 (.t 2)), o 11 (.load 1 false (.t 10)), o 12 (.fad 1 (.t 3)), o 13 (.load 1 false (.t 12)), o 14 (.bin .neq (.t 11) (.t 13))])
 (.ite (.t 14) (.seq (.ops [o 4 (.mv (.v (.bool false)))])
  .ret)
 .skip))
 (.seq (.seq (.ops [o 15 (.fad 2 (.t 2)), o 16 (.load 1 false (.t 15)), o 17 (.fad 2 (.t 3)), o 18 (.load 1 false (.t 17)), o 19 (.bin .neq (.t 16) (.t 18))])
 (.ite (.t 19) (.seq (.ops [o 4 (.mv (.v (.bool false)))])
  .ret)
 .skip))
 (.seq (.seq (.ops [o 20 (.fad 3 (.t 2)), o 21 (.load 1 false (.t 20)), o 22 (.fad 3 (.t 3)), o 23 (.load 1 false (.t 22)), o 24 (.bin .neq (.t 21) (.t 23))])
 (.ite (.t 24) (.seq (.ops [o 4 (.mv (.v (.bool false)))])
  .ret)
 .skip))
 (.seq (.seq (.ops [o 25 (.fad 4 (.t 2)), o 26 (.load 1 false (.t 25)), o 27 (.fad 4 (.t 3)), o 28 (.load 1 false (.t 27)), o 29 (.bqe true (.t 26) (.t 28))])
 (.ite (.t 29) (.seq (.ops [o 4 (.mv (.v (.bool false)))])
  .ret)
 .skip))
 (.seq (.seq (.ops [o 30 (.fad 5 (.t 2)), o 31 (.load 1 false (.t 30)), o 32 (.fad 5 (.t 3)), o 33 (.load 1 false (.t 32)), o 34 (.bin .neq (.t 31) (.t 33))])
 (.ite (.t 34) (.seq (.ops [o 4 (.mv (.v (.bool false)))])
  .ret)
 .skip))
 (.seq (.ops [o 4 (.mv (.v (.bool true)))])
 .ret))))))))
noncomputable def X.l_eqKind (p0 : TKind) (p1 : TKind) : Option Bool :=
 (bif (!(p0.Name == p1.Name)) then some false else (bif (p0.Strength != p1.Strength) then some false else (bif (p0.Moves != p1.Moves) then some false else (bif (p0.Steps != p1.Steps) then some false else (bif (!(p0.Zone == p1.Zone)) then some false else (bif (p0.View != p1.View) then some false else some true))))))
theorem l_eqKind_ok (p0 : TKind) (p1 : TKind) (r : Bool) (H : X.l_eqKind p0 p1 = some r) : FnOk Tryz.prog gl 186 [.agg (eTKind p0), .agg (eTKind p1)] (cB r) := by
 unfold X.l_eqKind at H
 refine fi Tryz.f186 l_eqKind_ir [(4, cB r)] [] glL Tryz.func186 ?_
 refine so [] [] [(2, pk 2), (3, pk 3)] [(2, va (eTKind p0)), (3, va (eTKind p1))] id ?_
 refine seq_in ?_
 refine so [] [] [(2, pk 2), (3, pk 3), (9, cB (!(p0.Name == p1.Name)))] [(2, va (eTKind p0)), (3, va (eTKind p1))] id ?_
 rcases ofCond H with ⟨c2, H⟩ | ⟨c2, H⟩
 ·refine it c2 ?_
  refine so [] [] [(4, cB false)] [] id ?_
  refine ends_ret ?_
  cases H
  exact And.intro (.inl rfl) rfl
 ·refine jf c2 ?_
  refine sk ?_
  refine seq_in ?_
  refine so [] [] [(2, pk 2), (3, pk 3), (14, cB (p0.Strength != p1.Strength))] [(2, va (eTKind p0)), (3, va (eTKind p1))] id ?_
  rcases ofCond H with ⟨c4, H⟩ | ⟨c4, H⟩
  ·refine it c4 ?_
   refine so [] [] [(4, cB false)] [] id ?_
   refine ends_ret ?_
   cases H
   exact And.intro (.inl rfl) rfl
  ·refine jf c4 ?_
   refine sk ?_
   refine seq_in ?_
   refine so [] [] [(2, pk 2), (3, pk 3), (19, cB (p0.Moves != p1.Moves))] [(2, va (eTKind p0)), (3, va (eTKind p1))] id ?_
   rcases ofCond H with ⟨c6, H⟩ | ⟨c6, H⟩
   ·refine it c6 ?_
    refine so [] [] [(4, cB false)] [] id ?_
    refine ends_ret ?_
    cases H
    exact And.intro (.inl rfl) rfl
   ·refine jf c6 ?_
    refine sk ?_
    refine seq_in ?_
    refine so [] [] [(2, pk 2), (3, pk 3), (24, cB (p0.Steps != p1.Steps))] [(2, va (eTKind p0)), (3, va (eTKind p1))] id ?_
    rcases ofCond H with ⟨c8, H⟩ | ⟨c8, H⟩
    ·refine it c8 ?_
     refine so [] [] [(4, cB false)] [] id ?_
     refine ends_ret ?_
     cases H
     exact And.intro (.inl rfl) rfl
    ·refine jf c8 ?_
     refine sk ?_
     refine seq_in ?_
     refine so [] [] [(2, pk 2), (3, pk 3), (29, cB (!(p0.Zone == p1.Zone)))] [(2, va (eTKind p0)), (3, va (eTKind p1))] id ?_
     rcases ofCond H with ⟨c10, H⟩ | ⟨c10, H⟩
     ·refine it c10 ?_
      refine so [] [] [(4, cB false)] [] id ?_
      refine ends_ret ?_
      cases H
      exact And.intro (.inl rfl) rfl
     ·refine jf c10 ?_
      refine sk ?_
      refine seq_in ?_
      refine so [] [] [(34, cB (p0.View != p1.View))] [] id ?_
      rcases ofCond H with ⟨c11, H⟩ | ⟨c11, H⟩
      ·refine it c11 ?_
       refine so [] [] [(4, cB false)] [] id ?_
       refine ends_ret ?_
       cases H
       exact And.intro (.inl rfl) rfl
      ·refine jf c11 ?_
       refine sk ?_
       refine so [] [] [(4, cB true)] [] id ?_
       refine ends_ret ?_
       cases H
       exact And.intro (.inl rfl) rfl
def l_eqKindS_ir : S :=
 (.seq (.ops [o 4 (.mv (.v (.bool false)))])
 (.seq (.seq (.ops [o 6 (.mv (.t 0)), o 7 (.len (.t 6)), o 8 (.mv (.t 1)), o 9 (.len (.t 8)), o 10 (.bin .neq (.t 7) (.t 9))])
 (.ite (.t 10) (.seq (.ops [o 4 (.mv (.v (.bool false)))])
  .ret)
 .skip))
 (.seq (.seq (.ops [o 5 (.mv (.v (.int .i64 0)))])
 (.blk 0 (.loop (.seq (.seq (.ops [o 11 (.mv (.t 5)), o 12 (.mv (.t 0)), o 13 (.len (.t 12)), o 14 (.bin .lss (.t 11) (.t 13))])
   (.ite (.t 14) .skip
   (.exit 0)))
   (.seq (.blk 1 (.seq (.draw 10 [o 17 (.mv (.t 0)), o 18 (.mv (.t 5)), o 19 (.iad 6 (.t 17) (.t 18)), o 20 (.load 6 true (.t 19)), o 21 (.mv (.t 1)), o 22 (.mv (.t 5)), o 23 (.iad 6 (.t 21) (.t 22)), o 24 (.load 6 true (.t 23)), o 25 (.call 186 [.t 20, .t 24]), o 26 (.not (.t 25))])
    (.ite (.t 26) (.seq (.ops [o 4 (.mv (.v (.bool false)))])
     .ret)
    .skip)))
   (.ops [o 15 (.mv (.t 5)), o 16 (.bin .add (.t 15) (.v (.int .i64 1))), o 5 (.mv (.t 16))]))))))
 (.seq (.ops [o 4 (.mv (.v (.bool true)))])
 .ret))))
noncomputable def X.l_eqKindS (p0 : (List TKind)) (p1 : (List TKind)) : Option Bool :=
 (bif ((p0.length : Int) != (p1.length : Int)) then some false else ((loop (fun (x22 : Int) => ((bif (decide (x22 < (p0.length : Int))) then ((at' zTKind p0 x22).bind fun v25 => ((at' zTKind p1 x22).bind fun v27 => ((X.l_eqKind v25 v27).bind fun v29 => (bif (!v29) then some (Sum.inr (Sum.inr false)) else some (Sum.inl (W (x22 + 1))))))) else some (Sum.inr (Sum.inl ()))) : Option (Int ⊕ (Unit ⊕ Bool)))) 0).bind fun y32 => (Sum.elim (fun (y34 : Unit) => some true) (fun (y35 : Bool) => some y35) y32)))
theorem l_eqKindS_ok (p0 : (List TKind)) (p1 : (List TKind)) (r : Bool) (H : X.l_eqKindS p0 p1 = some r) : FnOk Tryz.prog gl 136 [.c (dat 6 eTKind zTKind p0), .c (dat 6 eTKind zTKind p1)] (cB r) := by
 unfold X.l_eqKindS at H
 refine fi Tryz.f136 l_eqKindS_ir [(4, cB r)] [] glL Tryz.func136 ?_
 refine so [] [] [(0, dc 6 eTKind zTKind p0), (1, dc 6 eTKind zTKind p1)] [] id ?_
 refine seq_in ?_
 refine so [] [] [(0, dc 6 eTKind zTKind p0), (1, dc 6 eTKind zTKind p1), (10, cB ((p0.length : Int) != (p1.length : Int)))] [] (fun t => lI p0 (lI p1 (t))) ?_
 rcases ofCond H with ⟨c2, H⟩ | ⟨c2, H⟩
 ·refine it c2 ?_
  refine so [] [] [(4, cB false)] [] id ?_
  refine ends_ret ?_
  cases H
  exact And.intro (.inl rfl) rfl
 ·refine jf c2 ?_
  refine sk ?_
  refine seq_in ?_
  refine so [] [] [(0, dc 6 eTKind zTKind p0), (1, dc 6 eTKind zTKind p1), (5, cI 0)] [] id ?_
  refine ends_blk ?_
  obtain ⟨y32, h33, H⟩ := ofBind H
  refine loop_in (fun (x : Int) => lit [(0, dc 6 eTKind zTKind p0), (1, dc 6 eTKind zTKind p1), (5, cI x)] []) (orJ (fun (z : Unit) => At (.exit 0) (lit [] [])) (fun (z : Bool) => At .ret (lit [(4, cB z)] []))) h33 ?_ ?_
  ·clear H h33
   intro x22 y0 H
   refine seq_in ?_
   refine so [] [] [(0, dc 6 eTKind zTKind p0), (1, dc 6 eTKind zTKind p1), (5, cI x22), (14, cB (decide (x22 < (p0.length : Int))))] [] (fun t => lI p0 (t)) ?_
   rcases ofCond H with ⟨c24, H⟩ | ⟨c24, H⟩
   ·refine it c24 ?_
    refine sk ?_
    refine seq_in ?_
    refine ends_blk ?_
    obtain ⟨v25, h26, H⟩ := ofBind H
    obtain ⟨v27, h28, H⟩ := ofBind H
    obtain ⟨v29, h30, H⟩ := ofBind H
    refine sd [.cs (eTKind v25), .cs (eTKind v27), .res (cB v29)] [] [(0, dc 6 eTKind zTKind p0), (1, dc 6 eTKind zTKind p1), (5, cI x22), (26, cB (!v29))] [] (fun t => aI (at_lt h26) (aI (at_enc (enc := eTKind) h26) (aI (rfl : ([] : List Nat) = []) (aI (at_lt h28) (aI (at_enc (enc := eTKind) h28) (aI (rfl : ([] : List Nat) = []) (aI (l_eqKind_ok v25 v27 v29 h30) (aI trivial (aI (rfl : ([] : List Nat) = []) (t)))))))))) ?_
    rcases ofCond H with ⟨c31, H⟩ | ⟨c31, H⟩
    ·refine it c31 ?_
     refine so [] [] [(4, cB false)] [] id ?_
     refine ends_ret ?_
     cases H
     exact And.intro (by simp) (And.intro rfl rfl)
    ·refine jf c31 ?_
     refine sk ?_
     refine oo [] [] [(0, dc 6 eTKind zTKind p0), (1, dc 6 eTKind zTKind p1), (5, cI (W (x22 + 1)))] [] id ?_
     cases H
     exact And.intro rfl rfl
   ·refine jf c24 ?_
    refine tl [] [] [] id ?_
    refine ends_exit ?_
    cases H
    exact And.intro (by simp) (And.intro rfl rfl)
  ·clear h33
   cases y32 with
   | inl y34 =>
    replace H := ofInl H
    intro e s q
    obtain ⟨rfl, rfl⟩ := q
    change EndsI _ _ _ _ _ _
    refine so [] [] [(4, cB true)] [] id ?_
    refine ends_ret ?_
    cases H
    exact And.intro (.inl rfl) rfl
   | inr y35 =>
    replace H := ofInr H
    intro e s q
    obtain ⟨rfl, rfl⟩ := q
    cases H
    exact And.intro (.inl rfl) rfl
def l_eqRules_ir : S :=
 (.seq (.ops [o 2 (.box 7 (.t 0)), o 3 (.box 7 (.t 1)), o 4 (.mv (.v (.bool false)))])
 (.seq (.seq (.ops [o 5 (.fad 0 (.t 2)), o 6 (.load 1 false (.t 5)), o 7 (.fad 0 (.t 3)), o 8 (.load 1 false (.t 7)), o 9 (.call 135 [.t 6, .t 8]), o 10 (.not (.t 9))])
 (.ite (.t 10) (.seq (.ops [o 4 (.mv (.v (.bool false)))])
  .ret)
 .skip))
 (.seq (.seq (.ops [o 11 (.fad 1 (.t 2)), o 12 (.load 1 false (.t 11)), o 13 (.fad 1 (.t 3)), o 14 (.load 1 false (.t 13)), o 15 (.call 136 [.t 12, .t 14]), o 16 (.not (.t 15))])
 (.ite (.t 16) (.seq (.ops [o 4 (.mv (.v (.bool false)))])
  .ret)
 .skip))
 (.seq (.seq (.ops [o 17 (.fad 2 (.t 2)), o 18 (.load 1 false (.t 17)), o 19 (.fad 2 (.t 3)), o 20 (.load 1 false (.t 19)), o 21 (.bin .neq (.t 18) (.t 20))])
 (.ite (.t 21) (.seq (.ops [o 4 (.mv (.v (.bool false)))])
  .ret)
 .skip))
 (.seq (.seq (.ops [o 22 (.fad 3 (.t 2)), o 23 (.load 1 false (.t 22)), o 24 (.fad 3 (.t 3)), o 25 (.load 1 false (.t 24)), o 26 (.bin .neq (.t 23) (.t 25))])
 (.ite (.t 26) (.seq (.ops [o 4 (.mv (.v (.bool false)))])
  .ret)
 .skip))
 (.seq (.seq (.ops [o 27 (.fad 4 (.t 2)), o 28 (.load 1 false (.t 27)), o 29 (.fad 4 (.t 3)), o 30 (.load 1 false (.t 29)), o 31 (.bin .neq (.t 28) (.t 30))])
 (.ite (.t 31) (.seq (.ops [o 4 (.mv (.v (.bool false)))])
  .ret)
 .skip))
 (.seq (.seq (.ops [o 32 (.fad 5 (.t 2)), o 33 (.load 1 false (.t 32)), o 34 (.fad 5 (.t 3)), o 35 (.load 1 false (.t 34)), o 36 (.bin .neq (.t 33) (.t 35))])
 (.ite (.t 36) (.seq (.ops [o 4 (.mv (.v (.bool false)))])
  .ret)
 .skip))
 (.seq (.seq (.ops [o 37 (.fad 6 (.t 2)), o 38 (.load 1 false (.t 37)), o 39 (.fad 6 (.t 3)), o 40 (.load 1 false (.t 39)), o 41 (.bin .neq (.t 38) (.t 40))])
 (.ite (.t 41) (.seq (.ops [o 4 (.mv (.v (.bool false)))])
  .ret)
 .skip))
 (.seq (.ops [o 4 (.mv (.v (.bool true)))])
 .ret)))))))))
noncomputable def X.l_eqRules (p0 : TRules) (p1 : TRules) : Option Bool :=
 ((X.l_eqTerrainS p0.Terrains p1.Terrains).bind fun v4 => (bif (!v4) then some false else ((X.l_eqKindS p0.Kinds p1.Kinds).bind fun v10 => (bif (!v10) then some false else (bif (p0.Stack != p1.Stack) then some false else (bif (p0.River != p1.River) then some false else (bif (p0.Road != p1.Road) then some false else (bif (p0.Supply != p1.Supply) then some false else (bif (p0.Turns != p1.Turns) then some false else some true)))))))))
theorem l_eqRules_ok (p0 : TRules) (p1 : TRules) (r : Bool) (H : X.l_eqRules p0 p1 = some r) : FnOk Tryz.prog gl 73 [.agg (eTRules p0), .agg (eTRules p1)] (cB r) := by
 unfold X.l_eqRules at H
 refine fi Tryz.f73 l_eqRules_ir [(4, cB r)] [] glL Tryz.func73 ?_
 refine so [] [] [(2, pk 2), (3, pk 3)] [(2, va (eTRules p0)), (3, va (eTRules p1))] id ?_
 refine seq_in ?_
 obtain ⟨v4, h5, H⟩ := ofBind H
 refine so [.res (cB v4)] [] [(2, pk 2), (3, pk 3), (10, cB (!v4))] [(2, va (eTRules p0)), (3, va (eTRules p1))] (fun t => aI (l_eqTerrainS_ok p0.Terrains p1.Terrains v4 h5) (t)) ?_
 rcases ofCond H with ⟨c6, H⟩ | ⟨c6, H⟩
 ·refine it c6 ?_
  refine so [] [] [(4, cB false)] [] id ?_
  refine ends_ret ?_
  cases H
  exact And.intro (.inl rfl) rfl
 ·refine jf c6 ?_
  refine sk ?_
  refine seq_in ?_
  obtain ⟨v10, h11, H⟩ := ofBind H
  refine so [.res (cB v10)] [] [(2, pk 2), (3, pk 3), (16, cB (!v10))] [(2, va (eTRules p0)), (3, va (eTRules p1))] (fun t => aI (l_eqKindS_ok p0.Kinds p1.Kinds v10 h11) (t)) ?_
  rcases ofCond H with ⟨c12, H⟩ | ⟨c12, H⟩
  ·refine it c12 ?_
   refine so [] [] [(4, cB false)] [] id ?_
   refine ends_ret ?_
   cases H
   exact And.intro (.inl rfl) rfl
  ·refine jf c12 ?_
   refine sk ?_
   refine seq_in ?_
   refine so [] [] [(2, pk 2), (3, pk 3), (21, cB (p0.Stack != p1.Stack))] [(2, va (eTRules p0)), (3, va (eTRules p1))] id ?_
   rcases ofCond H with ⟨c14, H⟩ | ⟨c14, H⟩
   ·refine it c14 ?_
    refine so [] [] [(4, cB false)] [] id ?_
    refine ends_ret ?_
    cases H
    exact And.intro (.inl rfl) rfl
   ·refine jf c14 ?_
    refine sk ?_
    refine seq_in ?_
    refine so [] [] [(2, pk 2), (3, pk 3), (26, cB (p0.River != p1.River))] [(2, va (eTRules p0)), (3, va (eTRules p1))] id ?_
    rcases ofCond H with ⟨c16, H⟩ | ⟨c16, H⟩
    ·refine it c16 ?_
     refine so [] [] [(4, cB false)] [] id ?_
     refine ends_ret ?_
     cases H
     exact And.intro (.inl rfl) rfl
    ·refine jf c16 ?_
     refine sk ?_
     refine seq_in ?_
     refine so [] [] [(2, pk 2), (3, pk 3), (31, cB (p0.Road != p1.Road))] [(2, va (eTRules p0)), (3, va (eTRules p1))] id ?_
     rcases ofCond H with ⟨c18, H⟩ | ⟨c18, H⟩
     ·refine it c18 ?_
      refine so [] [] [(4, cB false)] [] id ?_
      refine ends_ret ?_
      cases H
      exact And.intro (.inl rfl) rfl
     ·refine jf c18 ?_
      refine sk ?_
      refine seq_in ?_
      refine so [] [] [(2, pk 2), (3, pk 3), (36, cB (p0.Supply != p1.Supply))] [(2, va (eTRules p0)), (3, va (eTRules p1))] id ?_
      rcases ofCond H with ⟨c20, H⟩ | ⟨c20, H⟩
      ·refine it c20 ?_
       refine so [] [] [(4, cB false)] [] id ?_
       refine ends_ret ?_
       cases H
       exact And.intro (.inl rfl) rfl
      ·refine jf c20 ?_
       refine sk ?_
       refine seq_in ?_
       refine so [] [] [(41, cB (p0.Turns != p1.Turns))] [] id ?_
       rcases ofCond H with ⟨c21, H⟩ | ⟨c21, H⟩
       ·refine it c21 ?_
        refine so [] [] [(4, cB false)] [] id ?_
        refine ends_ret ?_
        cases H
        exact And.intro (.inl rfl) rfl
       ·refine jf c21 ?_
        refine sk ?_
        refine so [] [] [(4, cB true)] [] id ?_
        refine ends_ret ?_
        cases H
        exact And.intro (.inl rfl) rfl
def l_eqMap_ir : S :=
 (.seq (.ops [o 2 (.box 5 (.t 0)), o 3 (.box 5 (.t 1)), o 4 (.mv (.v (.bool false)))])
 (.seq (.seq (.ops [o 5 (.fad 0 (.t 2)), o 6 (.load 1 false (.t 5)), o 7 (.fad 0 (.t 3)), o 8 (.load 1 false (.t 7)), o 9 (.bin .neq (.t 6) (.t 8))])
 (.ite (.t 9) (.seq (.ops [o 4 (.mv (.v (.bool false)))])
  .ret)
 .skip))
 (.seq (.seq (.ops [o 10 (.fad 1 (.t 2)), o 11 (.load 1 false (.t 10)), o 12 (.fad 1 (.t 3)), o 13 (.load 1 false (.t 12)), o 14 (.bin .neq (.t 11) (.t 13))])
 (.ite (.t 14) (.seq (.ops [o 4 (.mv (.v (.bool false)))])
  .ret)
 .skip))
 (.seq (.seq (.ops [o 15 (.fad 2 (.t 2)), o 16 (.load 1 false (.t 15)), o 17 (.fad 2 (.t 3)), o 18 (.load 1 false (.t 17)), o 19 (.call 18 [.t 16, .t 18]), o 20 (.not (.t 19))])
 (.ite (.t 20) (.seq (.ops [o 4 (.mv (.v (.bool false)))])
  .ret)
 .skip))
 (.seq (.seq (.ops [o 21 (.fad 3 (.t 2)), o 22 (.load 1 false (.t 21)), o 23 (.fad 3 (.t 3)), o 24 (.load 1 false (.t 23)), o 25 (.call 18 [.t 22, .t 24]), o 26 (.not (.t 25))])
 (.ite (.t 26) (.seq (.ops [o 4 (.mv (.v (.bool false)))])
  .ret)
 .skip))
 (.seq (.seq (.ops [o 27 (.fad 4 (.t 2)), o 28 (.load 1 false (.t 27)), o 29 (.fad 4 (.t 3)), o 30 (.load 1 false (.t 29)), o 31 (.call 18 [.t 28, .t 30]), o 32 (.not (.t 31))])
 (.ite (.t 32) (.seq (.ops [o 4 (.mv (.v (.bool false)))])
  .ret)
 .skip))
 (.seq (.ops [o 4 (.mv (.v (.bool true)))])
 .ret)))))))
noncomputable def X.l_eqMap (p0 : TMap) (p1 : TMap) : Option Bool :=
 (bif (p0.Width != p1.Width) then some false else (bif (p0.Height != p1.Height) then some false else ((X.l_eqIntS p0.Terrain p1.Terrain).bind fun v8 => (bif (!v8) then some false else ((X.l_eqIntS p0.Rivers p1.Rivers).bind fun v14 => (bif (!v14) then some false else ((X.l_eqIntS p0.Roads p1.Roads).bind fun v17 => (bif (!v17) then some false else some true))))))))
theorem l_eqMap_ok (p0 : TMap) (p1 : TMap) (r : Bool) (H : X.l_eqMap p0 p1 = some r) : FnOk Tryz.prog gl 74 [.agg (eTMap p0), .agg (eTMap p1)] (cB r) := by
 unfold X.l_eqMap at H
 refine fi Tryz.f74 l_eqMap_ir [(4, cB r)] [] glL Tryz.func74 ?_
 refine so [] [] [(2, pk 2), (3, pk 3)] [(2, va (eTMap p0)), (3, va (eTMap p1))] id ?_
 refine seq_in ?_
 refine so [] [] [(2, pk 2), (3, pk 3), (9, cB (p0.Width != p1.Width))] [(2, va (eTMap p0)), (3, va (eTMap p1))] id ?_
 rcases ofCond H with ⟨c2, H⟩ | ⟨c2, H⟩
 ·refine it c2 ?_
  refine so [] [] [(4, cB false)] [] id ?_
  refine ends_ret ?_
  cases H
  exact And.intro (.inl rfl) rfl
 ·refine jf c2 ?_
  refine sk ?_
  refine seq_in ?_
  refine so [] [] [(2, pk 2), (3, pk 3), (14, cB (p0.Height != p1.Height))] [(2, va (eTMap p0)), (3, va (eTMap p1))] id ?_
  rcases ofCond H with ⟨c4, H⟩ | ⟨c4, H⟩
  ·refine it c4 ?_
   refine so [] [] [(4, cB false)] [] id ?_
   refine ends_ret ?_
   cases H
   exact And.intro (.inl rfl) rfl
  ·refine jf c4 ?_
   refine sk ?_
   refine seq_in ?_
   obtain ⟨v8, h9, H⟩ := ofBind H
   refine so [.res (cB v8)] [] [(2, pk 2), (3, pk 3), (20, cB (!v8))] [(2, va (eTMap p0)), (3, va (eTMap p1))] (fun t => aI (l_eqIntS_ok p0.Terrain p1.Terrain v8 h9) (t)) ?_
   rcases ofCond H with ⟨c10, H⟩ | ⟨c10, H⟩
   ·refine it c10 ?_
    refine so [] [] [(4, cB false)] [] id ?_
    refine ends_ret ?_
    cases H
    exact And.intro (.inl rfl) rfl
   ·refine jf c10 ?_
    refine sk ?_
    refine seq_in ?_
    obtain ⟨v14, h15, H⟩ := ofBind H
    refine so [.res (cB v14)] [] [(2, pk 2), (3, pk 3), (26, cB (!v14))] [(2, va (eTMap p0)), (3, va (eTMap p1))] (fun t => aI (l_eqIntS_ok p0.Rivers p1.Rivers v14 h15) (t)) ?_
    rcases ofCond H with ⟨c16, H⟩ | ⟨c16, H⟩
    ·refine it c16 ?_
     refine so [] [] [(4, cB false)] [] id ?_
     refine ends_ret ?_
     cases H
     exact And.intro (.inl rfl) rfl
    ·refine jf c16 ?_
     refine sk ?_
     refine seq_in ?_
     obtain ⟨v17, h18, H⟩ := ofBind H
     refine so [.res (cB v17)] [] [(32, cB (!v17))] [] (fun t => aI (l_eqIntS_ok p0.Roads p1.Roads v17 h18) (t)) ?_
     rcases ofCond H with ⟨c19, H⟩ | ⟨c19, H⟩
     ·refine it c19 ?_
      refine so [] [] [(4, cB false)] [] id ?_
      refine ends_ret ?_
      cases H
      exact And.intro (.inl rfl) rfl
     ·refine jf c19 ?_
      refine sk ?_
      refine so [] [] [(4, cB true)] [] id ?_
      refine ends_ret ?_
      cases H
      exact And.intro (.inl rfl) rfl
def l_eqBoard_ir : S :=
 (.seq (.ops [o 2 (.box 12 (.t 0)), o 3 (.box 12 (.t 1)), o 4 (.mv (.v (.bool false)))])
 (.seq (.seq (.ops [o 5 (.fad 0 (.t 2)), o 6 (.load 7 true (.t 5)), o 7 (.fad 0 (.t 3)), o 8 (.load 7 true (.t 7)), o 9 (.call 73 [.t 6, .t 8]), o 10 (.not (.t 9))])
 (.ite (.t 10) (.seq (.ops [o 4 (.mv (.v (.bool false)))])
  .ret)
 .skip))
 (.seq (.seq (.ops [o 11 (.fad 7 (.t 2)), o 12 (.load 5 true (.t 11)), o 13 (.fad 7 (.t 3)), o 14 (.load 5 true (.t 13)), o 15 (.call 74 [.t 12, .t 14]), o 16 (.not (.t 15))])
 (.ite (.t 16) (.seq (.ops [o 4 (.mv (.v (.bool false)))])
  .ret)
 .skip))
 (.seq (.ops [o 4 (.mv (.v (.bool true)))])
 .ret))))
noncomputable def X.l_eqBoard (p0 : TBoard) (p1 : TBoard) : Option Bool :=
 ((X.l_eqRules p0.Rules p1.Rules).bind fun v4 => (bif (!v4) then some false else ((X.l_eqMap p0.Map p1.Map).bind fun v7 => (bif (!v7) then some false else some true))))
theorem l_eqBoard_ok (p0 : TBoard) (p1 : TBoard) (r : Bool) (H : X.l_eqBoard p0 p1 = some r) : FnOk Tryz.prog gl 19 [.agg (eTBoard p0), .agg (eTBoard p1)] (cB r) := by
 unfold X.l_eqBoard at H
 refine fi Tryz.f19 l_eqBoard_ir [(4, cB r)] [] glL Tryz.func19 ?_
 refine so [] [] [(2, pk 2), (3, pk 3)] [(2, va (eTBoard p0)), (3, va (eTBoard p1))] id ?_
 refine seq_in ?_
 obtain ⟨v4, h5, H⟩ := ofBind H
 refine so [.res (cB v4)] [] [(2, pk 2), (3, pk 3), (10, cB (!v4))] [(2, va (eTBoard p0)), (3, va (eTBoard p1))] (fun t => aI (l_eqRules_ok p0.Rules p1.Rules v4 h5) (t)) ?_
 rcases ofCond H with ⟨c6, H⟩ | ⟨c6, H⟩
 ·refine it c6 ?_
  refine so [] [] [(4, cB false)] [] id ?_
  refine ends_ret ?_
  cases H
  exact And.intro (.inl rfl) rfl
 ·refine jf c6 ?_
  refine sk ?_
  refine seq_in ?_
  obtain ⟨v7, h8, H⟩ := ofBind H
  refine so [.res (cB v7)] [] [(16, cB (!v7))] [] (fun t => aI (l_eqMap_ok p0.Map p1.Map v7 h8) (t)) ?_
  rcases ofCond H with ⟨c9, H⟩ | ⟨c9, H⟩
  ·refine it c9 ?_
   refine so [] [] [(4, cB false)] [] id ?_
   refine ends_ret ?_
   cases H
   exact And.intro (.inl rfl) rfl
  ·refine jf c9 ?_
   refine sk ?_
   refine so [] [] [(4, cB true)] [] id ?_
   refine ends_ret ?_
   cases H
   exact And.intro (.inl rfl) rfl
def l_eqUnit_ir : S :=
 (.seq (.ops [o 2 (.box 4 (.t 0)), o 3 (.box 4 (.t 1)), o 4 (.mv (.v (.bool false)))])
 (.seq (.seq (.ops [o 5 (.fad 0 (.t 2)), o 6 (.load 1 false (.t 5)), o 7 (.fad 0 (.t 3)), o 8 (.load 1 false (.t 7)), o 9 (.bin .neq (.t 6) (.t 8))])
 (.ite (.t 9) (.seq (.ops [o 4 (.mv (.v (.bool false)))])
  .ret)
 .skip))
 (.seq (.seq (.ops [o 10 (.fad 1 (.t 2)), o 11 (.load 1 false (.t 10)), o 12 (.fad 1 (.t 3)), o 13 (.load 1 false (.t 12)), o 14 (.bin .neq (.t 11) (.t 13))])
 (.ite (.t 14) (.seq (.ops [o 4 (.mv (.v (.bool false)))])
  .ret)
 .skip))
 (.seq (.seq (.ops [o 15 (.fad 2 (.t 2)), o 16 (.load 1 false (.t 15)), o 17 (.fad 2 (.t 3)), o 18 (.load 1 false (.t 17)), o 19 (.bin .neq (.t 16) (.t 18))])
 (.ite (.t 19) (.seq (.ops [o 4 (.mv (.v (.bool false)))])
  .ret)
 .skip))
 (.seq (.seq (.ops [o 20 (.fad 3 (.t 2)), o 21 (.load 1 false (.t 20)), o 22 (.fad 3 (.t 3)), o 23 (.load 1 false (.t 22)), o 24 (.bin .neq (.t 21) (.t 23))])
 (.ite (.t 24) (.seq (.ops [o 4 (.mv (.v (.bool false)))])
  .ret)
 .skip))
 (.seq (.ops [o 4 (.mv (.v (.bool true)))])
 .ret))))))
noncomputable def X.l_eqUnit (p0 : TUnit) (p1 : TUnit) : Option Bool :=
 (bif (p0.Side != p1.Side) then some false else (bif (p0.Kind != p1.Kind) then some false else (bif (p0.At != p1.At) then some false else (bif (p0.Steps != p1.Steps) then some false else some true))))
theorem l_eqUnit_ok (p0 : TUnit) (p1 : TUnit) (r : Bool) (H : X.l_eqUnit p0 p1 = some r) : FnOk Tryz.prog gl 137 [.agg (eTUnit p0), .agg (eTUnit p1)] (cB r) := by
 unfold X.l_eqUnit at H
 refine fi Tryz.f137 l_eqUnit_ir [(4, cB r)] [] glL Tryz.func137 ?_
 refine so [] [] [(2, pk 2), (3, pk 3)] [(2, va (eTUnit p0)), (3, va (eTUnit p1))] id ?_
 refine seq_in ?_
 refine so [] [] [(2, pk 2), (3, pk 3), (9, cB (p0.Side != p1.Side))] [(2, va (eTUnit p0)), (3, va (eTUnit p1))] id ?_
 rcases ofCond H with ⟨c2, H⟩ | ⟨c2, H⟩
 ·refine it c2 ?_
  refine so [] [] [(4, cB false)] [] id ?_
  refine ends_ret ?_
  cases H
  exact And.intro (.inl rfl) rfl
 ·refine jf c2 ?_
  refine sk ?_
  refine seq_in ?_
  refine so [] [] [(2, pk 2), (3, pk 3), (14, cB (p0.Kind != p1.Kind))] [(2, va (eTUnit p0)), (3, va (eTUnit p1))] id ?_
  rcases ofCond H with ⟨c4, H⟩ | ⟨c4, H⟩
  ·refine it c4 ?_
   refine so [] [] [(4, cB false)] [] id ?_
   refine ends_ret ?_
   cases H
   exact And.intro (.inl rfl) rfl
  ·refine jf c4 ?_
   refine sk ?_
   refine seq_in ?_
   refine so [] [] [(2, pk 2), (3, pk 3), (19, cB (p0.At != p1.At))] [(2, va (eTUnit p0)), (3, va (eTUnit p1))] id ?_
   rcases ofCond H with ⟨c6, H⟩ | ⟨c6, H⟩
   ·refine it c6 ?_
    refine so [] [] [(4, cB false)] [] id ?_
    refine ends_ret ?_
    cases H
    exact And.intro (.inl rfl) rfl
   ·refine jf c6 ?_
    refine sk ?_
    refine seq_in ?_
    refine so [] [] [(24, cB (p0.Steps != p1.Steps))] [] id ?_
    rcases ofCond H with ⟨c7, H⟩ | ⟨c7, H⟩
    ·refine it c7 ?_
     refine so [] [] [(4, cB false)] [] id ?_
     refine ends_ret ?_
     cases H
     exact And.intro (.inl rfl) rfl
    ·refine jf c7 ?_
     refine sk ?_
     refine so [] [] [(4, cB true)] [] id ?_
     refine ends_ret ?_
     cases H
     exact And.intro (.inl rfl) rfl
def l_eqUnitS_ir : S :=
 (.seq (.ops [o 4 (.mv (.v (.bool false)))])
 (.seq (.seq (.ops [o 6 (.mv (.t 0)), o 7 (.len (.t 6)), o 8 (.mv (.t 1)), o 9 (.len (.t 8)), o 10 (.bin .neq (.t 7) (.t 9))])
 (.ite (.t 10) (.seq (.ops [o 4 (.mv (.v (.bool false)))])
  .ret)
 .skip))
 (.seq (.seq (.ops [o 5 (.mv (.v (.int .i64 0)))])
 (.blk 0 (.loop (.seq (.seq (.ops [o 11 (.mv (.t 5)), o 12 (.mv (.t 0)), o 13 (.len (.t 12)), o 14 (.bin .lss (.t 11) (.t 13))])
   (.ite (.t 14) .skip
   (.exit 0)))
   (.seq (.blk 1 (.seq (.draw 10 [o 17 (.mv (.t 0)), o 18 (.mv (.t 5)), o 19 (.iad 4 (.t 17) (.t 18)), o 20 (.load 4 true (.t 19)), o 21 (.mv (.t 1)), o 22 (.mv (.t 5)), o 23 (.iad 4 (.t 21) (.t 22)), o 24 (.load 4 true (.t 23)), o 25 (.call 137 [.t 20, .t 24]), o 26 (.not (.t 25))])
    (.ite (.t 26) (.seq (.ops [o 4 (.mv (.v (.bool false)))])
     .ret)
    .skip)))
   (.ops [o 15 (.mv (.t 5)), o 16 (.bin .add (.t 15) (.v (.int .i64 1))), o 5 (.mv (.t 16))]))))))
 (.seq (.ops [o 4 (.mv (.v (.bool true)))])
 .ret))))
noncomputable def X.l_eqUnitS (p0 : (List TUnit)) (p1 : (List TUnit)) : Option Bool :=
 (bif ((p0.length : Int) != (p1.length : Int)) then some false else ((loop (fun (x22 : Int) => ((bif (decide (x22 < (p0.length : Int))) then ((at' zTUnit p0 x22).bind fun v25 => ((at' zTUnit p1 x22).bind fun v27 => ((X.l_eqUnit v25 v27).bind fun v29 => (bif (!v29) then some (Sum.inr (Sum.inr false)) else some (Sum.inl (W (x22 + 1))))))) else some (Sum.inr (Sum.inl ()))) : Option (Int ⊕ (Unit ⊕ Bool)))) 0).bind fun y32 => (Sum.elim (fun (y34 : Unit) => some true) (fun (y35 : Bool) => some y35) y32)))
theorem l_eqUnitS_ok (p0 : (List TUnit)) (p1 : (List TUnit)) (r : Bool) (H : X.l_eqUnitS p0 p1 = some r) : FnOk Tryz.prog gl 75 [.c (dat 4 eTUnit zTUnit p0), .c (dat 4 eTUnit zTUnit p1)] (cB r) := by
 unfold X.l_eqUnitS at H
 refine fi Tryz.f75 l_eqUnitS_ir [(4, cB r)] [] glL Tryz.func75 ?_
 refine so [] [] [(0, dc 4 eTUnit zTUnit p0), (1, dc 4 eTUnit zTUnit p1)] [] id ?_
 refine seq_in ?_
 refine so [] [] [(0, dc 4 eTUnit zTUnit p0), (1, dc 4 eTUnit zTUnit p1), (10, cB ((p0.length : Int) != (p1.length : Int)))] [] (fun t => lI p0 (lI p1 (t))) ?_
 rcases ofCond H with ⟨c2, H⟩ | ⟨c2, H⟩
 ·refine it c2 ?_
  refine so [] [] [(4, cB false)] [] id ?_
  refine ends_ret ?_
  cases H
  exact And.intro (.inl rfl) rfl
 ·refine jf c2 ?_
  refine sk ?_
  refine seq_in ?_
  refine so [] [] [(0, dc 4 eTUnit zTUnit p0), (1, dc 4 eTUnit zTUnit p1), (5, cI 0)] [] id ?_
  refine ends_blk ?_
  obtain ⟨y32, h33, H⟩ := ofBind H
  refine loop_in (fun (x : Int) => lit [(0, dc 4 eTUnit zTUnit p0), (1, dc 4 eTUnit zTUnit p1), (5, cI x)] []) (orJ (fun (z : Unit) => At (.exit 0) (lit [] [])) (fun (z : Bool) => At .ret (lit [(4, cB z)] []))) h33 ?_ ?_
  ·clear H h33
   intro x22 y0 H
   refine seq_in ?_
   refine so [] [] [(0, dc 4 eTUnit zTUnit p0), (1, dc 4 eTUnit zTUnit p1), (5, cI x22), (14, cB (decide (x22 < (p0.length : Int))))] [] (fun t => lI p0 (t)) ?_
   rcases ofCond H with ⟨c24, H⟩ | ⟨c24, H⟩
   ·refine it c24 ?_
    refine sk ?_
    refine seq_in ?_
    refine ends_blk ?_
    obtain ⟨v25, h26, H⟩ := ofBind H
    obtain ⟨v27, h28, H⟩ := ofBind H
    obtain ⟨v29, h30, H⟩ := ofBind H
    refine sd [.cs (eTUnit v25), .cs (eTUnit v27), .res (cB v29)] [] [(0, dc 4 eTUnit zTUnit p0), (1, dc 4 eTUnit zTUnit p1), (5, cI x22), (26, cB (!v29))] [] (fun t => aI (at_lt h26) (aI (at_enc (enc := eTUnit) h26) (aI (rfl : ([] : List Nat) = []) (aI (at_lt h28) (aI (at_enc (enc := eTUnit) h28) (aI (rfl : ([] : List Nat) = []) (aI (l_eqUnit_ok v25 v27 v29 h30) (aI trivial (aI (rfl : ([] : List Nat) = []) (t)))))))))) ?_
    rcases ofCond H with ⟨c31, H⟩ | ⟨c31, H⟩
    ·refine it c31 ?_
     refine so [] [] [(4, cB false)] [] id ?_
     refine ends_ret ?_
     cases H
     exact And.intro (by simp) (And.intro rfl rfl)
    ·refine jf c31 ?_
     refine sk ?_
     refine oo [] [] [(0, dc 4 eTUnit zTUnit p0), (1, dc 4 eTUnit zTUnit p1), (5, cI (W (x22 + 1)))] [] id ?_
     cases H
     exact And.intro rfl rfl
   ·refine jf c24 ?_
    refine tl [] [] [] id ?_
    refine ends_exit ?_
    cases H
    exact And.intro (by simp) (And.intro rfl rfl)
  ·clear h33
   cases y32 with
   | inl y34 =>
    replace H := ofInl H
    intro e s q
    obtain ⟨rfl, rfl⟩ := q
    change EndsI _ _ _ _ _ _
    refine so [] [] [(4, cB true)] [] id ?_
    refine ends_ret ?_
    cases H
    exact And.intro (.inl rfl) rfl
   | inr y35 =>
    replace H := ofInr H
    intro e s q
    obtain ⟨rfl, rfl⟩ := q
    cases H
    exact And.intro (.inl rfl) rfl
def l_eqState_ir : S :=
 (.seq (.ops [o 2 (.box 3 (.t 0)), o 3 (.box 3 (.t 1)), o 4 (.mv (.v (.bool false)))])
 (.seq (.seq (.ops [o 5 (.fad 0 (.t 2)), o 6 (.load 1 false (.t 5)), o 7 (.fad 0 (.t 3)), o 8 (.load 1 false (.t 7)), o 9 (.bin .neq (.t 6) (.t 8))])
 (.ite (.t 9) (.seq (.ops [o 4 (.mv (.v (.bool false)))])
  .ret)
 .skip))
 (.seq (.seq (.ops [o 10 (.fad 1 (.t 2)), o 11 (.load 1 false (.t 10)), o 12 (.fad 1 (.t 3)), o 13 (.load 1 false (.t 12)), o 14 (.bin .neq (.t 11) (.t 13))])
 (.ite (.t 14) (.seq (.ops [o 4 (.mv (.v (.bool false)))])
  .ret)
 .skip))
 (.seq (.seq (.ops [o 15 (.fad 2 (.t 2)), o 16 (.load 1 false (.t 15)), o 17 (.fad 2 (.t 3)), o 18 (.load 1 false (.t 17)), o 19 (.call 75 [.t 16, .t 18]), o 20 (.not (.t 19))])
 (.ite (.t 20) (.seq (.ops [o 4 (.mv (.v (.bool false)))])
  .ret)
 .skip))
 (.seq (.ops [o 4 (.mv (.v (.bool true)))])
 .ret)))))
noncomputable def X.l_eqState (p0 : TState) (p1 : TState) : Option Bool :=
 (bif (p0.Turn != p1.Turn) then some false else (bif (p0.Weather != p1.Weather) then some false else ((X.l_eqUnitS p0.Units p1.Units).bind fun v5 => (bif (!v5) then some false else some true))))
theorem l_eqState_ok (p0 : TState) (p1 : TState) (r : Bool) (H : X.l_eqState p0 p1 = some r) : FnOk Tryz.prog gl 20 [.agg (eTState p0), .agg (eTState p1)] (cB r) := by
 unfold X.l_eqState at H
 refine fi Tryz.f20 l_eqState_ir [(4, cB r)] [] glL Tryz.func20 ?_
 refine so [] [] [(2, pk 2), (3, pk 3)] [(2, va (eTState p0)), (3, va (eTState p1))] id ?_
 refine seq_in ?_
 refine so [] [] [(2, pk 2), (3, pk 3), (9, cB (p0.Turn != p1.Turn))] [(2, va (eTState p0)), (3, va (eTState p1))] id ?_
 rcases ofCond H with ⟨c2, H⟩ | ⟨c2, H⟩
 ·refine it c2 ?_
  refine so [] [] [(4, cB false)] [] id ?_
  refine ends_ret ?_
  cases H
  exact And.intro (.inl rfl) rfl
 ·refine jf c2 ?_
  refine sk ?_
  refine seq_in ?_
  refine so [] [] [(2, pk 2), (3, pk 3), (14, cB (p0.Weather != p1.Weather))] [(2, va (eTState p0)), (3, va (eTState p1))] id ?_
  rcases ofCond H with ⟨c4, H⟩ | ⟨c4, H⟩
  ·refine it c4 ?_
   refine so [] [] [(4, cB false)] [] id ?_
   refine ends_ret ?_
   cases H
   exact And.intro (.inl rfl) rfl
  ·refine jf c4 ?_
   refine sk ?_
   refine seq_in ?_
   obtain ⟨v5, h6, H⟩ := ofBind H
   refine so [.res (cB v5)] [] [(20, cB (!v5))] [] (fun t => aI (l_eqUnitS_ok p0.Units p1.Units v5 h6) (t)) ?_
   rcases ofCond H with ⟨c7, H⟩ | ⟨c7, H⟩
   ·refine it c7 ?_
    refine so [] [] [(4, cB false)] [] id ?_
    refine ends_ret ?_
    cases H
    exact And.intro (.inl rfl) rfl
   ·refine jf c7 ?_
    refine sk ?_
    refine so [] [] [(4, cB true)] [] id ?_
    refine ends_ret ?_
    cases H
    exact And.intro (.inl rfl) rfl
def l_markIntS_ir : S :=
 (.seq (.ops [o 4 (.mv (.v (.int .i64 0)))])
 (.seq (.seq (.ops [o 5 (.mv (.v (.int .i64 0)))])
 (.blk 0 (.loop (.seq (.seq (.ops [o 6 (.mv (.t 5)), o 7 (.mv (.t 0)), o 8 (.len (.t 7)), o 9 (.bin .lss (.t 6) (.t 8))])
   (.ite (.t 9) .skip
   (.exit 0)))
   (.seq (.blk 1 (.seq (.ops [o 12 (.mv (.t 0)), o 13 (.mv (.t 5)), o 14 (.mv (.t 1)), o 15 (.iad 1 (.t 12) (.t 13)), ⟨none, .store 1 (.t 15) (.t 14), none⟩])
    (.ops [o 16 (.mv (.t 1)), o 17 (.bin .add (.t 16) (.v (.int .i64 1))), o 1 (.mv (.t 17))])))
   (.ops [o 10 (.mv (.t 5)), o 11 (.bin .add (.t 10) (.v (.int .i64 1))), o 5 (.mv (.t 11))]))))))
 (.seq (.ops [o 18 (.mv (.t 1)), o 4 (.mv (.t 18))])
 .ret)))
noncomputable def X.l_markIntS_L (p0 : (List Int)) (p1 : Int) : Option Int :=
 ((loop (fun (x10 : (Int × Int)) => ((bif (decide (x10.2 < (p0.length : Int))) then ((at' zI p0 x10.2).bind fun v13 => some (Sum.inl ((W (x10.1 + 1)), (W (x10.2 + 1))))) else some (Sum.inr x10.1)) : Option ((Int × Int) ⊕ Int))) (p1, 0)).bind fun y15 => some y15)
theorem l_markIntS_L_ok (p0 : (List Int)) (p1 : Int) (r : Int) (H : X.l_markIntS_L p0 p1 = some r) : FnOk Tryz.prog gl 23 [.c (.lv (dat 1 eI zI p0)), cI p1] (cI r) := by
 unfold X.l_markIntS_L at H
 refine fi Tryz.f23 l_markIntS_ir [(4, cI r)] [] glL Tryz.func23 ?_
 refine so [] [] [(0, .c (.lv (dat 1 eI zI p0))), (1, cI p1)] [] id ?_
 refine seq_in ?_
 refine so [] [] [(0, .c (.lv (dat 1 eI zI p0))), (1, cI p1), (5, cI 0)] [] id ?_
 refine ends_blk ?_
 obtain ⟨y15, h16, H⟩ := ofBind H
 refine loop_in (fun (x : (Int × Int)) => lit [(0, .c (.lv (dat 1 eI zI p0))), (1, cI x.1), (5, cI x.2)] []) (fun (z : Int) => At (.exit 0) (lit [(1, cI z)] [])) h16 ?_ ?_
 ·clear H h16
  intro x10 y0 H
  refine seq_in ?_
  refine so [] [] [(0, .c (.lv (dat 1 eI zI p0))), (1, cI x10.1), (5, cI x10.2), (9, cB (decide (x10.2 < (p0.length : Int))))] [] (fun t => lI p0 (t)) ?_
  rcases ofCond H with ⟨c12, H⟩ | ⟨c12, H⟩
  ·refine it c12 ?_
   refine sk ?_
   refine seq_in ?_
   refine ends_blk ?_
   obtain ⟨v13, h14, H⟩ := ofBind H
   refine so [.cs (eI v13)] [] [(0, .c (.lv (dat 1 eI zI p0))), (1, cI x10.1), (5, cI x10.2)] [] (fun t => aI (at_lt h14) (aI (at_enc (enc := eI) h14) (aI (rfl : true = true) (t)))) ?_
   refine oo [] [] [(0, .c (.lv (dat 1 eI zI p0))), (1, cI (W (x10.1 + 1))), (5, cI x10.2)] [] id ?_
   change EndsI _ _ _ _ _ _
   refine oo [] [] [(0, .c (.lv (dat 1 eI zI p0))), (1, cI (W (x10.1 + 1))), (5, cI (W (x10.2 + 1)))] [] id ?_
   cases H
   exact And.intro rfl rfl
  ·refine jf c12 ?_
   refine tl [] [(1, cI x10.1)] [] id ?_
   refine ends_exit ?_
   cases H
   exact And.intro (by simp) (And.intro rfl rfl)
 ·clear h16
  intro e s q
  obtain ⟨rfl, rfl⟩ := q
  change EndsI _ _ _ _ _ _
  refine so [] [] [(4, cI y15)] [] id ?_
  refine ends_ret ?_
  cases H
  exact And.intro (.inl rfl) rfl
def l_markText_ir : S :=
 (.seq (.ops [o 2 (.mv (.v (.str [])))])
 (.seq (.seq (.ops [o 4 (.mv (.t 0)), o 5 (.bin .leq (.t 4) (.v (.int .i64 0)))])
 (.ite (.t 5) (.seq (.ops [o 2 (.mv (.v (.str [109, 48])))])
  .ret)
 .skip))
 (.seq (.ops [o 3 (.mv (.v (.str [])))])
 (.seq (.blk 0 (.loop (.seq (.seq (.ops [o 6 (.mv (.t 0)), o 7 (.bin .gtr (.t 6) (.v (.int .i64 0)))])
   (.ite (.t 7) .skip
   (.exit 0)))
   (.blk 1 (.seq (.ops [o 8 (.mv (.t 0)), o 9 (.bin .rem (.t 8) (.v (.int .i64 10))), o 10 (.bin .add (.v (.int .i64 48)) (.t 9)), o 11 (.conv .u8 (.t 10)), o 12 (.bsl 1 [.t 11]), o 13 (.b2s (.t 12)), o 14 (.mv (.t 3)), o 15 (.bin .add (.t 13) (.t 14)), o 3 (.mv (.t 15))])
    (.ops [o 16 (.mv (.t 0)), o 17 (.bin .quo (.t 16) (.v (.int .i64 10))), o 0 (.mv (.t 17))]))))))
 (.seq (.ops [o 18 (.mv (.t 3)), o 19 (.bin .add (.v (.str [109])) (.t 18)), o 2 (.mv (.t 19))])
 .ret)))))
noncomputable def X.l_markText (p0 : Int) : Option (List UInt8) :=
 (bif (decide (p0 ≤ 0)) then some [109, 48] else ((loop (fun (x12 : (Int × (List UInt8))) => ((bif (decide (x12.1 > 0)) then (if ([(IntKind.u8.wrap (W (48 + (Int.tmod x12.1 10))))] : List Int).all inU8 = true then (if (bytesOf ([(IntKind.u8.wrap (W (48 + (Int.tmod x12.1 10))))] : List Int)).length + x12.2.length ≤ maxLen then some (Sum.inl ((W (Int.tdiv x12.1 10)), ((bytesOf ([(IntKind.u8.wrap (W (48 + (Int.tmod x12.1 10))))] : List Int)) ++ x12.2))) else none) else none) else some (Sum.inr x12.2)) : Option ((Int × (List UInt8)) ⊕ (List UInt8)))) (p0, [])).bind fun y17 => (if ([109] : List UInt8).length + y17.length ≤ maxLen then some (([109] : List UInt8) ++ y17) else none)))
theorem l_markText_ok (p0 : Int) (r : (List UInt8)) (H : X.l_markText p0 = some r) : FnOk Tryz.prog gl 187 [cI p0] (.c (.str r)) := by
 unfold X.l_markText at H
 refine fi Tryz.f187 l_markText_ir [(2, .c (.str r))] [] glL Tryz.func187 ?_
 refine so [] [] [(0, cI p0)] [] id ?_
 refine seq_in ?_
 refine so [] [] [(0, cI p0), (5, cB (decide (p0 ≤ 0)))] [] id ?_
 rcases ofCond H with ⟨c2, H⟩ | ⟨c2, H⟩
 ·refine it c2 ?_
  refine so [] [] [(2, .c (.str [109, 48]))] [] id ?_
  refine ends_ret ?_
  cases H
  exact And.intro (.inl rfl) rfl
 ·refine jf c2 ?_
  refine sk ?_
  refine so [] [] [(0, cI p0), (3, .c (.str []))] [] id ?_
  refine seq_in ?_
  refine ends_blk ?_
  obtain ⟨y17, h18, H⟩ := ofBind H
  refine loop_in (fun (x : (Int × (List UInt8))) => lit [(0, cI x.1), (3, .c (.str x.2))] []) (fun (z : (List UInt8)) => At (.exit 0) (lit [(3, .c (.str z))] [])) h18 ?_ ?_
  ·clear H h18
   intro x12 y0 H
   refine seq_in ?_
   refine so [] [] [(0, cI x12.1), (3, .c (.str x12.2)), (7, cB (decide (x12.1 > 0)))] [] id ?_
   rcases ofCond H with ⟨c14, H⟩ | ⟨c14, H⟩
   ·refine it c14 ?_
    refine sk ?_
    refine ends_blk ?_
    obtain ⟨g15, H⟩ := ofIf H
    obtain ⟨g16, H⟩ := ofIf H
    refine so [.fn ([(IntKind.u8.wrap (W (48 + (Int.tmod x12.1 10))))] : List Int).length (fF eU zI ([(IntKind.u8.wrap (W (48 + (Int.tmod x12.1 10))))] : List Int)), .str (bytesOf ([(IntKind.u8.wrap (W (48 + (Int.tmod x12.1 10))))] : List Int))] [] [(0, cI x12.1), (3, .c (.str ((bytesOf ([(IntKind.u8.wrap (W (48 + (Int.tmod x12.1 10))))] : List Int)) ++ x12.2)))] [] (fun t => aI (by decide : (10 : Int) ≠ 0) (aI (rfl : ([(IntKind.u8.wrap (W (48 + (Int.tmod x12.1 10))))] : List Int).length = 1) (aI (fF_lit eU zI ([(IntKind.u8.wrap (W (48 + (Int.tmod x12.1 10))))] : List Int)) (aI (Nat.le_refl (([(IntKind.u8.wrap (W (48 + (Int.tmod x12.1 10))))] : List Int).length)) (aI (bytesOf_len ([(IntKind.u8.wrap (W (48 + (Int.tmod x12.1 10))))] : List Int)) (aI (bytesOf_at ([(IntKind.u8.wrap (W (48 + (Int.tmod x12.1 10))))] : List Int) g15) (aI g16 (t)))))))) ?_
    refine oo [] [] [(0, cI (W (Int.tdiv x12.1 10))), (3, .c (.str ((bytesOf ([(IntKind.u8.wrap (W (48 + (Int.tmod x12.1 10))))] : List Int)) ++ x12.2)))] [] (fun t => aI (by decide : (10 : Int) ≠ 0) (t)) ?_
    cases H
    exact And.intro rfl rfl
   ·refine jf c14 ?_
    refine tl [] [(3, .c (.str x12.2))] [] id ?_
    refine ends_exit ?_
    cases H
    exact And.intro (by simp) (And.intro rfl rfl)
  ·clear h18
   intro e s q
   obtain ⟨rfl, rfl⟩ := q
   change EndsI _ _ _ _ _ _
   obtain ⟨g19, H⟩ := ofIf H
   refine so [] [] [(2, .c (.str (([109] : List UInt8) ++ y17)))] [] (fun t => aI g19 (t)) ?_
   refine ends_ret ?_
   cases H
   exact And.intro (.inl rfl) rfl
def l_markTerrainS_ir : S :=
 (.seq (.ops [o 4 (.mv (.v (.int .i64 0)))])
 (.seq (.seq (.ops [o 5 (.mv (.v (.int .i64 0)))])
 (.blk 0 (.loop (.seq (.seq (.ops [o 6 (.mv (.t 5)), o 7 (.mv (.t 0)), o 8 (.len (.t 7)), o 9 (.bin .lss (.t 6) (.t 8))])
   (.ite (.t 9) .skip
   (.exit 0)))
   (.seq (.blk 1 (.seq (.ops [o 12 (.mv (.t 0)), o 13 (.mv (.t 5)), o 14 (.mv (.t 1)), o 15 (.call 187 [.t 14]), o 16 (.iad 5 (.t 12) (.t 13)), o 17 (.fad 0 (.t 16)), ⟨none, .store 1 (.t 17) (.t 15), none⟩])
    (.seq (.ops [o 18 (.mv (.t 1)), o 19 (.bin .add (.t 18) (.v (.int .i64 1))), o 1 (.mv (.t 19))])
    (.seq (.ops [o 20 (.mv (.t 0)), o 21 (.mv (.t 5)), o 22 (.iad 5 (.t 20) (.t 21)), o 23 (.fad 1 (.t 22)), o 24 (.load 1 false (.t 23)), o 25 (.mv (.t 1)), o 26 (.call 23 [.t 24, .t 25]), o 1 (.mv (.t 26))])
    (.seq (.ops [o 27 (.mv (.t 0)), o 28 (.mv (.t 5)), o 29 (.mv (.t 1)), o 30 (.iad 5 (.t 27) (.t 28)), o 31 (.fad 2 (.t 30)), ⟨none, .store 1 (.t 31) (.t 29), none⟩])
    (.seq (.ops [o 32 (.mv (.t 1)), o 33 (.bin .add (.t 32) (.v (.int .i64 1))), o 1 (.mv (.t 33))])
    (.seq (.ops [o 34 (.mv (.t 0)), o 35 (.mv (.t 5)), o 36 (.mv (.t 1)), o 37 (.iad 5 (.t 34) (.t 35)), o 38 (.fad 3 (.t 37)), ⟨none, .store 1 (.t 38) (.t 36), none⟩])
    (.seq (.ops [o 39 (.mv (.t 1)), o 40 (.bin .add (.t 39) (.v (.int .i64 1))), o 1 (.mv (.t 40))])
    (.seq (.ops [o 41 (.mv (.t 0)), o 42 (.mv (.t 5)), o 43 (.mv (.t 1)), o 44 (.bin .rem (.t 43) (.v (.int .i64 3))), o 45 (.bin .eql (.t 44) (.v (.int .i64 0))), o 46 (.iad 5 (.t 41) (.t 42)), o 47 (.fad 4 (.t 46)), ⟨none, .store 1 (.t 47) (.t 45), none⟩])
    (.ops [o 48 (.mv (.t 1)), o 49 (.bin .add (.t 48) (.v (.int .i64 1))), o 1 (.mv (.t 49))]))))))))))
   (.ops [o 10 (.mv (.t 5)), o 11 (.bin .add (.t 10) (.v (.int .i64 1))), o 5 (.mv (.t 11))]))))))
 (.seq (.ops [o 50 (.mv (.t 1)), o 4 (.mv (.t 50))])
 .ret)))
noncomputable def X.l_markTerrainS_L (p0 : (List TTerrain)) (p1 : Int) : Option Int :=
 ((loop (fun (x18 : (Int × Int)) => ((bif (decide (x18.2 < (p0.length : Int))) then ((X.l_markText x18.1).bind fun v21 => ((at' zTTerrain p0 x18.2).bind fun v23 => ((X.l_markIntS_L v23.Cost (W (x18.1 + 1))).bind fun v25 => some (Sum.inl ((W ((W ((W (v25 + 1)) + 1)) + 1)), (W (x18.2 + 1))))))) else some (Sum.inr x18.1)) : Option ((Int × Int) ⊕ Int))) (p1, 0)).bind fun y27 => some y27)
theorem l_markTerrainS_L_ok (p0 : (List TTerrain)) (p1 : Int) (r : Int) (H : X.l_markTerrainS_L p0 p1 = some r) : FnOk Tryz.prog gl 138 [.c (.lv (dat 5 eTTerrain zTTerrain p0)), cI p1] (cI r) := by
 unfold X.l_markTerrainS_L at H
 refine fi Tryz.f138 l_markTerrainS_ir [(4, cI r)] [] glL Tryz.func138 ?_
 refine so [] [] [(0, .c (.lv (dat 5 eTTerrain zTTerrain p0))), (1, cI p1)] [] id ?_
 refine seq_in ?_
 refine so [] [] [(0, .c (.lv (dat 5 eTTerrain zTTerrain p0))), (1, cI p1), (5, cI 0)] [] id ?_
 refine ends_blk ?_
 obtain ⟨y27, h28, H⟩ := ofBind H
 refine loop_in (fun (x : (Int × Int)) => lit [(0, .c (.lv (dat 5 eTTerrain zTTerrain p0))), (1, cI x.1), (5, cI x.2)] []) (fun (z : Int) => At (.exit 0) (lit [(1, cI z)] [])) h28 ?_ ?_
 ·clear H h28
  intro x18 y0 H
  refine seq_in ?_
  refine so [] [] [(0, .c (.lv (dat 5 eTTerrain zTTerrain p0))), (1, cI x18.1), (5, cI x18.2), (9, cB (decide (x18.2 < (p0.length : Int))))] [] (fun t => lI p0 (t)) ?_
  rcases ofCond H with ⟨c20, H⟩ | ⟨c20, H⟩
  ·refine it c20 ?_
   refine sk ?_
   refine seq_in ?_
   refine ends_blk ?_
   obtain ⟨v21, h22, H⟩ := ofBind H
   obtain ⟨v23, h24, H⟩ := ofBind H
   refine so [.res (.c (.str v21)), .cs (eTTerrain v23)] [] [(0, .c (.lv (dat 5 eTTerrain zTTerrain p0))), (1, cI x18.1), (5, cI x18.2)] [] (fun t => aI (l_markText_ok x18.1 v21 h22) (aI (at_lt h24) (aI (at_enc (enc := eTTerrain) h24) (aI (rfl : true = true) (t))))) ?_
   refine so [] [] [(0, .c (.lv (dat 5 eTTerrain zTTerrain p0))), (1, cI (W (x18.1 + 1))), (5, cI x18.2)] [] id ?_
   obtain ⟨v25, h26, H⟩ := ofBind H
   refine so [.cs (eTTerrain v23), .res (cI v25)] [] [(0, .c (.lv (dat 5 eTTerrain zTTerrain p0))), (1, cI v25), (5, cI x18.2)] [] (fun t => aI (at_lt h24) (aI (at_enc (enc := eTTerrain) h24) (aI (l_markIntS_L_ok v23.Cost (W (x18.1 + 1)) v25 h26) (t)))) ?_
   refine so [.cs (eTTerrain v23)] [] [(0, .c (.lv (dat 5 eTTerrain zTTerrain p0))), (1, cI v25), (5, cI x18.2)] [] (fun t => aI (at_lt h24) (aI (at_enc (enc := eTTerrain) h24) (aI (rfl : true = true) (t)))) ?_
   refine so [] [] [(0, .c (.lv (dat 5 eTTerrain zTTerrain p0))), (1, cI (W (v25 + 1))), (5, cI x18.2)] [] id ?_
   refine so [.cs (eTTerrain v23)] [] [(0, .c (.lv (dat 5 eTTerrain zTTerrain p0))), (1, cI (W (v25 + 1))), (5, cI x18.2)] [] (fun t => aI (at_lt h24) (aI (at_enc (enc := eTTerrain) h24) (aI (rfl : true = true) (t)))) ?_
   refine so [] [] [(0, .c (.lv (dat 5 eTTerrain zTTerrain p0))), (1, cI (W ((W (v25 + 1)) + 1))), (5, cI x18.2)] [] id ?_
   refine so [.cs (eTTerrain v23)] [] [(0, .c (.lv (dat 5 eTTerrain zTTerrain p0))), (1, cI (W ((W (v25 + 1)) + 1))), (5, cI x18.2)] [] (fun t => aI (by decide : (3 : Int) ≠ 0) (aI (at_lt h24) (aI (at_enc (enc := eTTerrain) h24) (aI (rfl : true = true) (t))))) ?_
   refine oo [] [] [(0, .c (.lv (dat 5 eTTerrain zTTerrain p0))), (1, cI (W ((W ((W (v25 + 1)) + 1)) + 1))), (5, cI x18.2)] [] id ?_
   change EndsI _ _ _ _ _ _
   refine oo [] [] [(0, .c (.lv (dat 5 eTTerrain zTTerrain p0))), (1, cI (W ((W ((W (v25 + 1)) + 1)) + 1))), (5, cI (W (x18.2 + 1)))] [] id ?_
   cases H
   exact And.intro rfl rfl
  ·refine jf c20 ?_
   refine tl [] [(1, cI x18.1)] [] id ?_
   refine ends_exit ?_
   cases H
   exact And.intro (by simp) (And.intro rfl rfl)
 ·clear h28
  intro e s q
  obtain ⟨rfl, rfl⟩ := q
  change EndsI _ _ _ _ _ _
  refine so [] [] [(4, cI y27)] [] id ?_
  refine ends_ret ?_
  cases H
  exact And.intro (.inl rfl) rfl
def l_markKindS_ir : S :=
 (.seq (.ops [o 4 (.mv (.v (.int .i64 0)))])
 (.seq (.seq (.ops [o 5 (.mv (.v (.int .i64 0)))])
 (.blk 0 (.loop (.seq (.seq (.ops [o 6 (.mv (.t 5)), o 7 (.mv (.t 0)), o 8 (.len (.t 7)), o 9 (.bin .lss (.t 6) (.t 8))])
   (.ite (.t 9) .skip
   (.exit 0)))
   (.seq (.blk 1 (.seq (.ops [o 12 (.mv (.t 0)), o 13 (.mv (.t 5)), o 14 (.mv (.t 1)), o 15 (.call 187 [.t 14]), o 16 (.iad 6 (.t 12) (.t 13)), o 17 (.fad 0 (.t 16)), ⟨none, .store 1 (.t 17) (.t 15), none⟩])
    (.seq (.ops [o 18 (.mv (.t 1)), o 19 (.bin .add (.t 18) (.v (.int .i64 1))), o 1 (.mv (.t 19))])
    (.seq (.ops [o 20 (.mv (.t 0)), o 21 (.mv (.t 5)), o 22 (.mv (.t 1)), o 23 (.iad 6 (.t 20) (.t 21)), o 24 (.fad 1 (.t 23)), ⟨none, .store 1 (.t 24) (.t 22), none⟩])
    (.seq (.ops [o 25 (.mv (.t 1)), o 26 (.bin .add (.t 25) (.v (.int .i64 1))), o 1 (.mv (.t 26))])
    (.seq (.ops [o 27 (.mv (.t 0)), o 28 (.mv (.t 5)), o 29 (.mv (.t 1)), o 30 (.iad 6 (.t 27) (.t 28)), o 31 (.fad 2 (.t 30)), ⟨none, .store 1 (.t 31) (.t 29), none⟩])
    (.seq (.ops [o 32 (.mv (.t 1)), o 33 (.bin .add (.t 32) (.v (.int .i64 1))), o 1 (.mv (.t 33))])
    (.seq (.ops [o 34 (.mv (.t 0)), o 35 (.mv (.t 5)), o 36 (.mv (.t 1)), o 37 (.iad 6 (.t 34) (.t 35)), o 38 (.fad 3 (.t 37)), ⟨none, .store 1 (.t 38) (.t 36), none⟩])
    (.seq (.ops [o 39 (.mv (.t 1)), o 40 (.bin .add (.t 39) (.v (.int .i64 1))), o 1 (.mv (.t 40))])
    (.seq (.ops [o 41 (.mv (.t 0)), o 42 (.mv (.t 5)), o 43 (.mv (.t 1)), o 44 (.bin .rem (.t 43) (.v (.int .i64 3))), o 45 (.bin .eql (.t 44) (.v (.int .i64 0))), o 46 (.iad 6 (.t 41) (.t 42)), o 47 (.fad 4 (.t 46)), ⟨none, .store 1 (.t 47) (.t 45), none⟩])
    (.seq (.ops [o 48 (.mv (.t 1)), o 49 (.bin .add (.t 48) (.v (.int .i64 1))), o 1 (.mv (.t 49))])
    (.seq (.ops [o 50 (.mv (.t 0)), o 51 (.mv (.t 5)), o 52 (.mv (.t 1)), o 53 (.iad 6 (.t 50) (.t 51)), o 54 (.fad 5 (.t 53)), ⟨none, .store 1 (.t 54) (.t 52), none⟩])
    (.ops [o 55 (.mv (.t 1)), o 56 (.bin .add (.t 55) (.v (.int .i64 1))), o 1 (.mv (.t 56))])))))))))))))
   (.ops [o 10 (.mv (.t 5)), o 11 (.bin .add (.t 10) (.v (.int .i64 1))), o 5 (.mv (.t 11))]))))))
 (.seq (.ops [o 57 (.mv (.t 1)), o 4 (.mv (.t 57))])
 .ret)))
noncomputable def X.l_markKindS_L (p0 : (List TKind)) (p1 : Int) : Option Int :=
 ((loop (fun (x14 : (Int × Int)) => ((bif (decide (x14.2 < (p0.length : Int))) then ((X.l_markText x14.1).bind fun v17 => ((at' zTKind p0 x14.2).bind fun v19 => some (Sum.inl ((W ((W ((W ((W ((W ((W (x14.1 + 1)) + 1)) + 1)) + 1)) + 1)) + 1)), (W (x14.2 + 1)))))) else some (Sum.inr x14.1)) : Option ((Int × Int) ⊕ Int))) (p1, 0)).bind fun y21 => some y21)
theorem l_markKindS_L_ok (p0 : (List TKind)) (p1 : Int) (r : Int) (H : X.l_markKindS_L p0 p1 = some r) : FnOk Tryz.prog gl 139 [.c (.lv (dat 6 eTKind zTKind p0)), cI p1] (cI r) := by
 unfold X.l_markKindS_L at H
 refine fi Tryz.f139 l_markKindS_ir [(4, cI r)] [] glL Tryz.func139 ?_
 refine so [] [] [(0, .c (.lv (dat 6 eTKind zTKind p0))), (1, cI p1)] [] id ?_
 refine seq_in ?_
 refine so [] [] [(0, .c (.lv (dat 6 eTKind zTKind p0))), (1, cI p1), (5, cI 0)] [] id ?_
 refine ends_blk ?_
 obtain ⟨y21, h22, H⟩ := ofBind H
 refine loop_in (fun (x : (Int × Int)) => lit [(0, .c (.lv (dat 6 eTKind zTKind p0))), (1, cI x.1), (5, cI x.2)] []) (fun (z : Int) => At (.exit 0) (lit [(1, cI z)] [])) h22 ?_ ?_
 ·clear H h22
  intro x14 y0 H
  refine seq_in ?_
  refine so [] [] [(0, .c (.lv (dat 6 eTKind zTKind p0))), (1, cI x14.1), (5, cI x14.2), (9, cB (decide (x14.2 < (p0.length : Int))))] [] (fun t => lI p0 (t)) ?_
  rcases ofCond H with ⟨c16, H⟩ | ⟨c16, H⟩
  ·refine it c16 ?_
   refine sk ?_
   refine seq_in ?_
   refine ends_blk ?_
   obtain ⟨v17, h18, H⟩ := ofBind H
   obtain ⟨v19, h20, H⟩ := ofBind H
   refine so [.res (.c (.str v17)), .cs (eTKind v19)] [] [(0, .c (.lv (dat 6 eTKind zTKind p0))), (1, cI x14.1), (5, cI x14.2)] [] (fun t => aI (l_markText_ok x14.1 v17 h18) (aI (at_lt h20) (aI (at_enc (enc := eTKind) h20) (aI (rfl : true = true) (t))))) ?_
   refine so [] [] [(0, .c (.lv (dat 6 eTKind zTKind p0))), (1, cI (W (x14.1 + 1))), (5, cI x14.2)] [] id ?_
   refine so [.cs (eTKind v19)] [] [(0, .c (.lv (dat 6 eTKind zTKind p0))), (1, cI (W (x14.1 + 1))), (5, cI x14.2)] [] (fun t => aI (at_lt h20) (aI (at_enc (enc := eTKind) h20) (aI (rfl : true = true) (t)))) ?_
   refine so [] [] [(0, .c (.lv (dat 6 eTKind zTKind p0))), (1, cI (W ((W (x14.1 + 1)) + 1))), (5, cI x14.2)] [] id ?_
   refine so [.cs (eTKind v19)] [] [(0, .c (.lv (dat 6 eTKind zTKind p0))), (1, cI (W ((W (x14.1 + 1)) + 1))), (5, cI x14.2)] [] (fun t => aI (at_lt h20) (aI (at_enc (enc := eTKind) h20) (aI (rfl : true = true) (t)))) ?_
   refine so [] [] [(0, .c (.lv (dat 6 eTKind zTKind p0))), (1, cI (W ((W ((W (x14.1 + 1)) + 1)) + 1))), (5, cI x14.2)] [] id ?_
   refine so [.cs (eTKind v19)] [] [(0, .c (.lv (dat 6 eTKind zTKind p0))), (1, cI (W ((W ((W (x14.1 + 1)) + 1)) + 1))), (5, cI x14.2)] [] (fun t => aI (at_lt h20) (aI (at_enc (enc := eTKind) h20) (aI (rfl : true = true) (t)))) ?_
   refine so [] [] [(0, .c (.lv (dat 6 eTKind zTKind p0))), (1, cI (W ((W ((W ((W (x14.1 + 1)) + 1)) + 1)) + 1))), (5, cI x14.2)] [] id ?_
   refine so [.cs (eTKind v19)] [] [(0, .c (.lv (dat 6 eTKind zTKind p0))), (1, cI (W ((W ((W ((W (x14.1 + 1)) + 1)) + 1)) + 1))), (5, cI x14.2)] [] (fun t => aI (by decide : (3 : Int) ≠ 0) (aI (at_lt h20) (aI (at_enc (enc := eTKind) h20) (aI (rfl : true = true) (t))))) ?_
   refine so [] [] [(0, .c (.lv (dat 6 eTKind zTKind p0))), (1, cI (W ((W ((W ((W ((W (x14.1 + 1)) + 1)) + 1)) + 1)) + 1))), (5, cI x14.2)] [] id ?_
   refine so [.cs (eTKind v19)] [] [(0, .c (.lv (dat 6 eTKind zTKind p0))), (1, cI (W ((W ((W ((W ((W (x14.1 + 1)) + 1)) + 1)) + 1)) + 1))), (5, cI x14.2)] [] (fun t => aI (at_lt h20) (aI (at_enc (enc := eTKind) h20) (aI (rfl : true = true) (t)))) ?_
   refine oo [] [] [(0, .c (.lv (dat 6 eTKind zTKind p0))), (1, cI (W ((W ((W ((W ((W ((W (x14.1 + 1)) + 1)) + 1)) + 1)) + 1)) + 1))), (5, cI x14.2)] [] id ?_
   change EndsI _ _ _ _ _ _
   refine oo [] [] [(0, .c (.lv (dat 6 eTKind zTKind p0))), (1, cI (W ((W ((W ((W ((W ((W (x14.1 + 1)) + 1)) + 1)) + 1)) + 1)) + 1))), (5, cI (W (x14.2 + 1)))] [] id ?_
   cases H
   exact And.intro rfl rfl
  ·refine jf c16 ?_
   refine tl [] [(1, cI x14.1)] [] id ?_
   refine ends_exit ?_
   cases H
   exact And.intro (by simp) (And.intro rfl rfl)
 ·clear h22
  intro e s q
  obtain ⟨rfl, rfl⟩ := q
  change EndsI _ _ _ _ _ _
  refine so [] [] [(4, cI y21)] [] id ?_
  refine ends_ret ?_
  cases H
  exact And.intro (.inl rfl) rfl
def l_markRules_ir : S :=
 (.seq (.ops [o 2 (.box 7 (.t 0)), o 4 (.mv (.v (.int .i64 0)))])
 (.seq (.ops [o 5 (.fad 0 (.t 2)), o 6 (.load 1 false (.t 5)), o 7 (.mv (.t 1)), o 8 (.call 138 [.t 6, .t 7]), o 1 (.mv (.t 8))])
 (.seq (.ops [o 9 (.fad 1 (.t 2)), o 10 (.load 1 false (.t 9)), o 11 (.mv (.t 1)), o 12 (.call 139 [.t 10, .t 11]), o 1 (.mv (.t 12))])
 (.seq (.ops [o 13 (.mv (.t 1)), o 4 (.mv (.t 13))])
 .ret))))
noncomputable def X.l_markRules_L (p0 : TRules) (p1 : Int) : Option Int :=
 ((X.l_markTerrainS_L p0.Terrains p1).bind fun v1 => ((X.l_markKindS_L p0.Kinds v1).bind fun v3 => some v3))
theorem l_markRules_L_ok (p0 : TRules) (p1 : Int) (r : Int) (H : X.l_markRules_L p0 p1 = some r) : FnOk Tryz.prog gl 76 [.agg [.lv (dat 5 eTTerrain zTTerrain p0.Terrains), .lv (dat 6 eTKind zTKind p0.Kinds), .int .i64 p0.Stack, .int .i64 p0.River, .int .i64 p0.Road, .int .i64 p0.Supply, .int .i64 p0.Turns], cI p1] (cI r) := by
 unfold X.l_markRules_L at H
 refine fi Tryz.f76 l_markRules_ir [(4, cI r)] [] glL Tryz.func76 ?_
 refine so [] [] [(1, cI p1), (2, pk 2)] [(2, .var [.lv (dat 5 eTTerrain zTTerrain p0.Terrains), .lv (dat 6 eTKind zTKind p0.Kinds), .int .i64 p0.Stack, .int .i64 p0.River, .int .i64 p0.Road, .int .i64 p0.Supply, .int .i64 p0.Turns] false)] id ?_
 obtain ⟨v1, h2, H⟩ := ofBind H
 refine so [.res (cI v1)] [] [(1, cI v1), (2, pk 2)] [(2, .var [.lv (dat 5 eTTerrain zTTerrain p0.Terrains), .lv (dat 6 eTKind zTKind p0.Kinds), .int .i64 p0.Stack, .int .i64 p0.River, .int .i64 p0.Road, .int .i64 p0.Supply, .int .i64 p0.Turns] false)] (fun t => aI (l_markTerrainS_L_ok p0.Terrains p1 v1 h2) (t)) ?_
 obtain ⟨v3, h4, H⟩ := ofBind H
 refine so [.res (cI v3)] [] [(1, cI v3)] [] (fun t => aI (l_markKindS_L_ok p0.Kinds v1 v3 h4) (t)) ?_
 refine so [] [] [(4, cI v3)] [] id ?_
 refine ends_ret ?_
 cases H
 exact And.intro (.inl rfl) rfl
def l_markMap_ir : S :=
 (.seq (.ops [o 2 (.box 5 (.t 0)), o 4 (.mv (.v (.int .i64 0)))])
 (.seq (.ops [o 5 (.fad 2 (.t 2)), o 6 (.load 1 false (.t 5)), o 7 (.mv (.t 1)), o 8 (.call 23 [.t 6, .t 7]), o 1 (.mv (.t 8))])
 (.seq (.ops [o 9 (.fad 3 (.t 2)), o 10 (.load 1 false (.t 9)), o 11 (.mv (.t 1)), o 12 (.call 23 [.t 10, .t 11]), o 1 (.mv (.t 12))])
 (.seq (.ops [o 13 (.fad 4 (.t 2)), o 14 (.load 1 false (.t 13)), o 15 (.mv (.t 1)), o 16 (.call 23 [.t 14, .t 15]), o 1 (.mv (.t 16))])
 (.seq (.ops [o 17 (.mv (.t 1)), o 4 (.mv (.t 17))])
 .ret)))))
noncomputable def X.l_markMap_L (p0 : TMap) (p1 : Int) : Option Int :=
 ((X.l_markIntS_L p0.Terrain p1).bind fun v1 => ((X.l_markIntS_L p0.Rivers v1).bind fun v3 => ((X.l_markIntS_L p0.Roads v3).bind fun v5 => some v5)))
theorem l_markMap_L_ok (p0 : TMap) (p1 : Int) (r : Int) (H : X.l_markMap_L p0 p1 = some r) : FnOk Tryz.prog gl 77 [.agg [.int .i64 p0.Width, .int .i64 p0.Height, .lv (dat 1 eI zI p0.Terrain), .lv (dat 1 eI zI p0.Rivers), .lv (dat 1 eI zI p0.Roads)], cI p1] (cI r) := by
 unfold X.l_markMap_L at H
 refine fi Tryz.f77 l_markMap_ir [(4, cI r)] [] glL Tryz.func77 ?_
 refine so [] [] [(1, cI p1), (2, pk 2)] [(2, .var [.int .i64 p0.Width, .int .i64 p0.Height, .lv (dat 1 eI zI p0.Terrain), .lv (dat 1 eI zI p0.Rivers), .lv (dat 1 eI zI p0.Roads)] false)] id ?_
 obtain ⟨v1, h2, H⟩ := ofBind H
 refine so [.res (cI v1)] [] [(1, cI v1), (2, pk 2)] [(2, .var [.int .i64 p0.Width, .int .i64 p0.Height, .lv (dat 1 eI zI p0.Terrain), .lv (dat 1 eI zI p0.Rivers), .lv (dat 1 eI zI p0.Roads)] false)] (fun t => aI (l_markIntS_L_ok p0.Terrain p1 v1 h2) (t)) ?_
 obtain ⟨v3, h4, H⟩ := ofBind H
 refine so [.res (cI v3)] [] [(1, cI v3), (2, pk 2)] [(2, .var [.int .i64 p0.Width, .int .i64 p0.Height, .lv (dat 1 eI zI p0.Terrain), .lv (dat 1 eI zI p0.Rivers), .lv (dat 1 eI zI p0.Roads)] false)] (fun t => aI (l_markIntS_L_ok p0.Rivers v1 v3 h4) (t)) ?_
 obtain ⟨v5, h6, H⟩ := ofBind H
 refine so [.res (cI v5)] [] [(1, cI v5)] [] (fun t => aI (l_markIntS_L_ok p0.Roads v3 v5 h6) (t)) ?_
 refine so [] [] [(4, cI v5)] [] id ?_
 refine ends_ret ?_
 cases H
 exact And.intro (.inl rfl) rfl
def l_markBoard_ir : S :=
 (.seq (.ops [o 2 (.box 12 (.t 0)), o 4 (.mv (.v (.int .i64 0)))])
 (.seq (.ops [o 5 (.fad 0 (.t 2)), o 6 (.load 7 true (.t 5)), o 7 (.mv (.t 1)), o 8 (.call 76 [.t 6, .t 7]), o 1 (.mv (.t 8))])
 (.seq (.ops [o 9 (.fad 7 (.t 2)), o 10 (.load 5 true (.t 9)), o 11 (.mv (.t 1)), o 12 (.call 77 [.t 10, .t 11]), o 1 (.mv (.t 12))])
 (.seq (.ops [o 13 (.mv (.t 1)), o 4 (.mv (.t 13))])
 .ret))))
noncomputable def X.l_markBoard_L (p0 : TBoard) (p1 : Int) : Option Int :=
 ((X.l_markRules_L p0.Rules p1).bind fun v1 => ((X.l_markMap_L p0.Map v1).bind fun v3 => some v3))
theorem l_markBoard_L_ok (p0 : TBoard) (p1 : Int) (r : Int) (H : X.l_markBoard_L p0 p1 = some r) : FnOk Tryz.prog gl 21 [.agg [.lv (dat 5 eTTerrain zTTerrain p0.Rules.Terrains), .lv (dat 6 eTKind zTKind p0.Rules.Kinds), .int .i64 p0.Rules.Stack, .int .i64 p0.Rules.River, .int .i64 p0.Rules.Road, .int .i64 p0.Rules.Supply, .int .i64 p0.Rules.Turns, .int .i64 p0.Map.Width, .int .i64 p0.Map.Height, .lv (dat 1 eI zI p0.Map.Terrain), .lv (dat 1 eI zI p0.Map.Rivers), .lv (dat 1 eI zI p0.Map.Roads)], cI p1] (cI r) := by
 unfold X.l_markBoard_L at H
 refine fi Tryz.f21 l_markBoard_ir [(4, cI r)] [] glL Tryz.func21 ?_
 refine so [] [] [(1, cI p1), (2, pk 2)] [(2, .var [.lv (dat 5 eTTerrain zTTerrain p0.Rules.Terrains), .lv (dat 6 eTKind zTKind p0.Rules.Kinds), .int .i64 p0.Rules.Stack, .int .i64 p0.Rules.River, .int .i64 p0.Rules.Road, .int .i64 p0.Rules.Supply, .int .i64 p0.Rules.Turns, .int .i64 p0.Map.Width, .int .i64 p0.Map.Height, .lv (dat 1 eI zI p0.Map.Terrain), .lv (dat 1 eI zI p0.Map.Rivers), .lv (dat 1 eI zI p0.Map.Roads)] false)] id ?_
 obtain ⟨v1, h2, H⟩ := ofBind H
 refine so [.res (cI v1)] [] [(1, cI v1), (2, pk 2)] [(2, .var [.lv (dat 5 eTTerrain zTTerrain p0.Rules.Terrains), .lv (dat 6 eTKind zTKind p0.Rules.Kinds), .int .i64 p0.Rules.Stack, .int .i64 p0.Rules.River, .int .i64 p0.Rules.Road, .int .i64 p0.Rules.Supply, .int .i64 p0.Rules.Turns, .int .i64 p0.Map.Width, .int .i64 p0.Map.Height, .lv (dat 1 eI zI p0.Map.Terrain), .lv (dat 1 eI zI p0.Map.Rivers), .lv (dat 1 eI zI p0.Map.Roads)] false)] (fun t => aI (l_markRules_L_ok p0.Rules p1 v1 h2) (t)) ?_
 obtain ⟨v3, h4, H⟩ := ofBind H
 refine so [.res (cI v3)] [] [(1, cI v3)] [] (fun t => aI (l_markMap_L_ok p0.Map v1 v3 h4) (t)) ?_
 refine so [] [] [(4, cI v3)] [] id ?_
 refine ends_ret ?_
 cases H
 exact And.intro (.inl rfl) rfl
def l_markUnitS_ir : S :=
 (.seq (.ops [o 4 (.mv (.v (.int .i64 0)))])
 (.seq (.seq (.ops [o 5 (.mv (.v (.int .i64 0)))])
 (.blk 0 (.loop (.seq (.seq (.ops [o 6 (.mv (.t 5)), o 7 (.mv (.t 0)), o 8 (.len (.t 7)), o 9 (.bin .lss (.t 6) (.t 8))])
   (.ite (.t 9) .skip
   (.exit 0)))
   (.seq (.blk 1 (.seq (.ops [o 12 (.mv (.t 0)), o 13 (.mv (.t 5)), o 14 (.mv (.t 1)), o 15 (.iad 4 (.t 12) (.t 13)), o 16 (.fad 0 (.t 15)), ⟨none, .store 1 (.t 16) (.t 14), none⟩])
    (.seq (.ops [o 17 (.mv (.t 1)), o 18 (.bin .add (.t 17) (.v (.int .i64 1))), o 1 (.mv (.t 18))])
    (.seq (.ops [o 19 (.mv (.t 0)), o 20 (.mv (.t 5)), o 21 (.mv (.t 1)), o 22 (.iad 4 (.t 19) (.t 20)), o 23 (.fad 1 (.t 22)), ⟨none, .store 1 (.t 23) (.t 21), none⟩])
    (.seq (.ops [o 24 (.mv (.t 1)), o 25 (.bin .add (.t 24) (.v (.int .i64 1))), o 1 (.mv (.t 25))])
    (.seq (.ops [o 26 (.mv (.t 0)), o 27 (.mv (.t 5)), o 28 (.mv (.t 1)), o 29 (.iad 4 (.t 26) (.t 27)), o 30 (.fad 2 (.t 29)), ⟨none, .store 1 (.t 30) (.t 28), none⟩])
    (.seq (.ops [o 31 (.mv (.t 1)), o 32 (.bin .add (.t 31) (.v (.int .i64 1))), o 1 (.mv (.t 32))])
    (.seq (.ops [o 33 (.mv (.t 0)), o 34 (.mv (.t 5)), o 35 (.mv (.t 1)), o 36 (.iad 4 (.t 33) (.t 34)), o 37 (.fad 3 (.t 36)), ⟨none, .store 1 (.t 37) (.t 35), none⟩])
    (.ops [o 38 (.mv (.t 1)), o 39 (.bin .add (.t 38) (.v (.int .i64 1))), o 1 (.mv (.t 39))])))))))))
   (.ops [o 10 (.mv (.t 5)), o 11 (.bin .add (.t 10) (.v (.int .i64 1))), o 5 (.mv (.t 11))]))))))
 (.seq (.ops [o 40 (.mv (.t 1)), o 4 (.mv (.t 40))])
 .ret)))
noncomputable def X.l_markUnitS_L (p0 : (List TUnit)) (p1 : Int) : Option Int :=
 ((loop (fun (x10 : (Int × Int)) => ((bif (decide (x10.2 < (p0.length : Int))) then ((at' zTUnit p0 x10.2).bind fun v13 => some (Sum.inl ((W ((W ((W ((W (x10.1 + 1)) + 1)) + 1)) + 1)), (W (x10.2 + 1))))) else some (Sum.inr x10.1)) : Option ((Int × Int) ⊕ Int))) (p1, 0)).bind fun y15 => some y15)
theorem l_markUnitS_L_ok (p0 : (List TUnit)) (p1 : Int) (r : Int) (H : X.l_markUnitS_L p0 p1 = some r) : FnOk Tryz.prog gl 78 [.c (.lv (dat 4 eTUnit zTUnit p0)), cI p1] (cI r) := by
 unfold X.l_markUnitS_L at H
 refine fi Tryz.f78 l_markUnitS_ir [(4, cI r)] [] glL Tryz.func78 ?_
 refine so [] [] [(0, .c (.lv (dat 4 eTUnit zTUnit p0))), (1, cI p1)] [] id ?_
 refine seq_in ?_
 refine so [] [] [(0, .c (.lv (dat 4 eTUnit zTUnit p0))), (1, cI p1), (5, cI 0)] [] id ?_
 refine ends_blk ?_
 obtain ⟨y15, h16, H⟩ := ofBind H
 refine loop_in (fun (x : (Int × Int)) => lit [(0, .c (.lv (dat 4 eTUnit zTUnit p0))), (1, cI x.1), (5, cI x.2)] []) (fun (z : Int) => At (.exit 0) (lit [(1, cI z)] [])) h16 ?_ ?_
 ·clear H h16
  intro x10 y0 H
  refine seq_in ?_
  refine so [] [] [(0, .c (.lv (dat 4 eTUnit zTUnit p0))), (1, cI x10.1), (5, cI x10.2), (9, cB (decide (x10.2 < (p0.length : Int))))] [] (fun t => lI p0 (t)) ?_
  rcases ofCond H with ⟨c12, H⟩ | ⟨c12, H⟩
  ·refine it c12 ?_
   refine sk ?_
   refine seq_in ?_
   refine ends_blk ?_
   obtain ⟨v13, h14, H⟩ := ofBind H
   refine so [.cs (eTUnit v13)] [] [(0, .c (.lv (dat 4 eTUnit zTUnit p0))), (1, cI x10.1), (5, cI x10.2)] [] (fun t => aI (at_lt h14) (aI (at_enc (enc := eTUnit) h14) (aI (rfl : true = true) (t)))) ?_
   refine so [] [] [(0, .c (.lv (dat 4 eTUnit zTUnit p0))), (1, cI (W (x10.1 + 1))), (5, cI x10.2)] [] id ?_
   refine so [.cs (eTUnit v13)] [] [(0, .c (.lv (dat 4 eTUnit zTUnit p0))), (1, cI (W (x10.1 + 1))), (5, cI x10.2)] [] (fun t => aI (at_lt h14) (aI (at_enc (enc := eTUnit) h14) (aI (rfl : true = true) (t)))) ?_
   refine so [] [] [(0, .c (.lv (dat 4 eTUnit zTUnit p0))), (1, cI (W ((W (x10.1 + 1)) + 1))), (5, cI x10.2)] [] id ?_
   refine so [.cs (eTUnit v13)] [] [(0, .c (.lv (dat 4 eTUnit zTUnit p0))), (1, cI (W ((W (x10.1 + 1)) + 1))), (5, cI x10.2)] [] (fun t => aI (at_lt h14) (aI (at_enc (enc := eTUnit) h14) (aI (rfl : true = true) (t)))) ?_
   refine so [] [] [(0, .c (.lv (dat 4 eTUnit zTUnit p0))), (1, cI (W ((W ((W (x10.1 + 1)) + 1)) + 1))), (5, cI x10.2)] [] id ?_
   refine so [.cs (eTUnit v13)] [] [(0, .c (.lv (dat 4 eTUnit zTUnit p0))), (1, cI (W ((W ((W (x10.1 + 1)) + 1)) + 1))), (5, cI x10.2)] [] (fun t => aI (at_lt h14) (aI (at_enc (enc := eTUnit) h14) (aI (rfl : true = true) (t)))) ?_
   refine oo [] [] [(0, .c (.lv (dat 4 eTUnit zTUnit p0))), (1, cI (W ((W ((W ((W (x10.1 + 1)) + 1)) + 1)) + 1))), (5, cI x10.2)] [] id ?_
   change EndsI _ _ _ _ _ _
   refine oo [] [] [(0, .c (.lv (dat 4 eTUnit zTUnit p0))), (1, cI (W ((W ((W ((W (x10.1 + 1)) + 1)) + 1)) + 1))), (5, cI (W (x10.2 + 1)))] [] id ?_
   cases H
   exact And.intro rfl rfl
  ·refine jf c12 ?_
   refine tl [] [(1, cI x10.1)] [] id ?_
   refine ends_exit ?_
   cases H
   exact And.intro (by simp) (And.intro rfl rfl)
 ·clear h16
  intro e s q
  obtain ⟨rfl, rfl⟩ := q
  change EndsI _ _ _ _ _ _
  refine so [] [] [(4, cI y15)] [] id ?_
  refine ends_ret ?_
  cases H
  exact And.intro (.inl rfl) rfl
def l_markState_ir : S :=
 (.seq (.ops [o 2 (.box 3 (.t 0)), o 4 (.mv (.v (.int .i64 0)))])
 (.seq (.ops [o 5 (.fad 2 (.t 2)), o 6 (.load 1 false (.t 5)), o 7 (.mv (.t 1)), o 8 (.call 78 [.t 6, .t 7]), o 1 (.mv (.t 8))])
 (.seq (.ops [o 9 (.mv (.t 1)), o 4 (.mv (.t 9))])
 .ret)))
noncomputable def X.l_markState_L (p0 : TState) (p1 : Int) : Option Int :=
 ((X.l_markUnitS_L p0.Units p1).bind fun v1 => some v1)
theorem l_markState_L_ok (p0 : TState) (p1 : Int) (r : Int) (H : X.l_markState_L p0 p1 = some r) : FnOk Tryz.prog gl 22 [.agg [.int .i64 p0.Turn, .int .i64 p0.Weather, .lv (dat 4 eTUnit zTUnit p0.Units)], cI p1] (cI r) := by
 unfold X.l_markState_L at H
 refine fi Tryz.f22 l_markState_ir [(4, cI r)] [] glL Tryz.func22 ?_
 refine so [] [] [(1, cI p1), (2, pk 2)] [(2, .var [.int .i64 p0.Turn, .int .i64 p0.Weather, .lv (dat 4 eTUnit zTUnit p0.Units)] false)] id ?_
 obtain ⟨v1, h2, H⟩ := ofBind H
 refine so [.res (cI v1)] [] [(1, cI v1)] [] (fun t => aI (l_markUnitS_L_ok p0.Units p1 v1 h2) (t)) ?_
 refine so [] [] [(4, cI v1)] [] id ?_
 refine ends_ret ?_
 cases H
 exact And.intro (.inl rfl) rfl
noncomputable def X.l_markIntS_Mod (p0 : (List Int)) (p1 : Int) : Option (Int × (List Int)) :=
 ((loop (fun (x8 : (Int × Int × (List Int))) => ((bif (decide (x8.2.1 < (x8.2.2.length : Int))) then (if 0 ≤ x8.2.1 ∧ x8.2.1 < (x8.2.2.length : Int) then some (Sum.inl ((W (x8.1 + 1)), (W (x8.2.1 + 1)), (x8.2.2.set x8.2.1.toNat x8.1))) else none) else some (Sum.inr (x8.1, x8.2.2))) : Option ((Int × Int × (List Int)) ⊕ (Int × (List Int))))) (p1, 0, p0)).bind fun y12 => some (y12.1, y12.2))
theorem l_markIntS_Mod_ok (p0 : (List Int)) (p1 : Int) (r : (Int × (List Int))) (H : X.l_markIntS_Mod p0 p1 = some r) : FnMu Tryz.prog gl 23 [.c (.own 1000000 1 0 p0.length), cI p1] [(1000000, .arr 1 p0.length (fF eI zI p0) false)] (cI r.1) [(1000000, .arr 1 r.2.length (fF eI zI r.2) false)] := by
 unfold X.l_markIntS_Mod at H
 refine fn_mu (fn := Tryz.f23) (ir := l_markIntS_ir) (E' := [(4, cI r.1)]) (E1 := [(1000000, .arr 1 r.2.length (fF eI zI r.2) false)]) glL Tryz.func23 (by kernel_rfl) (by kernel_rfl) (by kernel_rfl) (by kernel_rfl) (by kernel_rfl) ?_
 refine so [] [] [(0, .c (.own 1000000 1 0 p0.length)), (1, cI p1)] [(1000000, .arr 1 p0.length (fF eI zI p0) false)] id ?_
 refine seq_in ?_
 refine so [] [] [(0, .c (.own 1000000 1 0 p0.length)), (1, cI p1), (5, cI 0)] [(1000000, .arr 1 p0.length (fF eI zI p0) false)] id ?_
 refine ends_blk ?_
 obtain ⟨y12, h13, H⟩ := ofBind H
 refine loop_in (fun (x : (Int × Int × (List Int))) => lit [(0, .c (.own 1000000 1 0 x.2.2.length)), (1, cI x.1), (5, cI x.2.1)] [(1000000, .arr 1 x.2.2.length (fF eI zI x.2.2) false)]) (fun (z : (Int × (List Int))) => At (.exit 0) (lit [(1, cI z.1)] [(1000000, .arr 1 z.2.length (fF eI zI z.2) false)])) h13 ?_ ?_
 ·clear H h13
  intro x8 y0 H
  refine seq_in ?_
  refine so [] [] [(0, .c (.own 1000000 1 0 x8.2.2.length)), (1, cI x8.1), (5, cI x8.2.1), (9, cB (decide (x8.2.1 < (x8.2.2.length : Int))))] [(1000000, .arr 1 x8.2.2.length (fF eI zI x8.2.2) false)] (fun t => lI x8.2.2 (t)) ?_
  rcases ofCond H with ⟨c10, H⟩ | ⟨c10, H⟩
  ·refine it c10 ?_
   refine sk ?_
   refine seq_in ?_
   refine ends_blk ?_
   obtain ⟨g11, H⟩ := ofIf H
   refine so [.no, .fn 0 (fF eI zI (x8.2.2.set x8.2.1.toNat x8.1))] [] [(0, .c (.own 1000000 1 0 x8.2.2.length)), (1, cI x8.1), (5, cI x8.2.1)] [(1000000, .arr 1 x8.2.2.length (fF eI zI (x8.2.2.set x8.2.1.toNat x8.1)) false)] (fun t => aI g11 (aI (rfl : true = true) (aI (nat_lt g11) (aI (by decide : 0 + 1 ≤ 1) (aI (fF_set eI zI x8.2.2 x8.2.1.toNat x8.1 (nat_lt g11) x8.2.2.length) (t)))))) ?_
   refine oo [] [] [(0, .c (.own 1000000 1 0 x8.2.2.length)), (1, cI (W (x8.1 + 1))), (5, cI x8.2.1)] [(1000000, .arr 1 x8.2.2.length (fF eI zI (x8.2.2.set x8.2.1.toNat x8.1)) false)] id ?_
   change EndsI _ _ _ _ _ _
   refine oo [] [.rel 0 ((x8.2.2.set x8.2.1.toNat x8.1).length), .rep 1000000 ((x8.2.2.set x8.2.1.toNat x8.1).length) (fF eI zI (x8.2.2.set x8.2.1.toNat x8.1))] [(0, .c (.own 1000000 1 0 ((x8.2.2.set x8.2.1.toNat x8.1).length))), (1, cI (W (x8.1 + 1))), (5, cI (W (x8.2.1 + 1)))] [(1000000, .arr 1 ((x8.2.2.set x8.2.1.toNat x8.1).length) (fF eI zI (x8.2.2.set x8.2.1.toNat x8.1)) false)] (fun t => aI (by simp : x8.2.2.length = (x8.2.2.set x8.2.1.toNat x8.1).length) (aI (Nat.le_of_eq (by simp : (x8.2.2.set x8.2.1.toNat x8.1).length = x8.2.2.length)) (aI (fun _ _ => rfl : ∀ i, i < (x8.2.2.set x8.2.1.toNat x8.1).length → (fF eI zI (x8.2.2.set x8.2.1.toNat x8.1)) i = (fF eI zI (x8.2.2.set x8.2.1.toNat x8.1)) i) (t)))) ?_
   cases H
   exact And.intro rfl rfl
  ·refine jf c10 ?_
   refine tl [] [(1, cI x8.1)] [(1000000, .arr 1 x8.2.2.length (fF eI zI x8.2.2) false)] id ?_
   refine ends_exit ?_
   cases H
   exact And.intro (by simp) (And.intro rfl rfl)
 ·clear h13
  intro e s q
  obtain ⟨rfl, rfl⟩ := q
  change EndsI _ _ _ _ _ _
  refine so [] [] [(4, cI y12.1)] [(1000000, .arr 1 y12.2.length (fF eI zI y12.2) false)] id ?_
  refine ends_ret ?_
  cases H
  exact And.intro (.inl rfl) rfl
def l_heldIntS_ir : S :=
 (.seq (.ops [o 4 (.mv (.v (.int .i64 0)))])
 (.seq (.seq (.ops [o 5 (.mv (.v (.int .i64 0)))])
 (.blk 0 (.loop (.seq (.seq (.ops [o 6 (.mv (.t 5)), o 7 (.mv (.t 0)), o 8 (.len (.t 7)), o 9 (.bin .lss (.t 6) (.t 8))])
   (.ite (.t 9) .skip
   (.exit 0)))
   (.seq (.blk 1 (.seq (.seq (.ops [o 12 (.mv (.t 0)), o 13 (.mv (.t 5)), o 14 (.iad 1 (.t 12) (.t 13)), o 15 (.load 1 false (.t 14)), o 16 (.mv (.t 1)), o 17 (.bin .neq (.t 15) (.t 16))])
    (.ite (.t 17) (.seq (.ops [o 4 (.mv (.v (.int .i64 (-1))))])
     .ret)
    .skip))
    (.ops [o 18 (.mv (.t 1)), o 19 (.bin .add (.t 18) (.v (.int .i64 1))), o 1 (.mv (.t 19))])))
   (.ops [o 10 (.mv (.t 5)), o 11 (.bin .add (.t 10) (.v (.int .i64 1))), o 5 (.mv (.t 11))]))))))
 (.seq (.ops [o 20 (.mv (.t 1)), o 4 (.mv (.t 20))])
 .ret)))
noncomputable def X.l_heldIntS (p0 : (List Int)) (p1 : Int) : Option Int :=
 ((loop (fun (x12 : (Int × Int)) => ((bif (decide (x12.2 < (p0.length : Int))) then ((at' zI p0 x12.2).bind fun v15 => (bif (v15 != x12.1) then some (Sum.inr (Sum.inr (-1))) else some (Sum.inl ((W (x12.1 + 1)), (W (x12.2 + 1)))))) else some (Sum.inr (Sum.inl x12.1))) : Option ((Int × Int) ⊕ (Int ⊕ Int)))) (p1, 0)).bind fun y18 => (Sum.elim (fun (y20 : Int) => some y20) (fun (y21 : Int) => some y21) y18))
theorem l_heldIntS_ok (p0 : (List Int)) (p1 : Int) (r : Int) (H : X.l_heldIntS p0 p1 = some r) : FnOk Tryz.prog gl 24 [.c (dat 1 eI zI p0), cI p1] (cI r) := by
 unfold X.l_heldIntS at H
 refine fi Tryz.f24 l_heldIntS_ir [(4, cI r)] [] glL Tryz.func24 ?_
 refine so [] [] [(0, dc 1 eI zI p0), (1, cI p1)] [] id ?_
 refine seq_in ?_
 refine so [] [] [(0, dc 1 eI zI p0), (1, cI p1), (5, cI 0)] [] id ?_
 refine ends_blk ?_
 obtain ⟨y18, h19, H⟩ := ofBind H
 refine loop_in (fun (x : (Int × Int)) => lit [(0, dc 1 eI zI p0), (1, cI x.1), (5, cI x.2)] []) (orJ (fun (z : Int) => At (.exit 0) (lit [(1, cI z)] [])) (fun (z : Int) => At .ret (lit [(4, cI z)] []))) h19 ?_ ?_
 ·clear H h19
  intro x12 y0 H
  refine seq_in ?_
  refine so [] [] [(0, dc 1 eI zI p0), (1, cI x12.1), (5, cI x12.2), (9, cB (decide (x12.2 < (p0.length : Int))))] [] (fun t => lI p0 (t)) ?_
  rcases ofCond H with ⟨c14, H⟩ | ⟨c14, H⟩
  ·refine it c14 ?_
   refine sk ?_
   refine seq_in ?_
   refine ends_blk ?_
   refine seq_in ?_
   obtain ⟨v15, h16, H⟩ := ofBind H
   refine so [.cs (eI v15)] [] [(0, dc 1 eI zI p0), (1, cI x12.1), (5, cI x12.2), (17, cB (v15 != x12.1))] [] (fun t => aI (at_lt h16) (aI (at_enc (enc := eI) h16) (t))) ?_
   rcases ofCond H with ⟨c17, H⟩ | ⟨c17, H⟩
   ·refine it c17 ?_
    refine so [] [] [(4, cI (-1))] [] id ?_
    refine ends_ret ?_
    cases H
    exact And.intro (by simp) (And.intro rfl rfl)
   ·refine jf c17 ?_
    refine sk ?_
    refine oo [] [] [(0, dc 1 eI zI p0), (1, cI (W (x12.1 + 1))), (5, cI x12.2)] [] id ?_
    change EndsI _ _ _ _ _ _
    refine oo [] [] [(0, dc 1 eI zI p0), (1, cI (W (x12.1 + 1))), (5, cI (W (x12.2 + 1)))] [] id ?_
    cases H
    exact And.intro rfl rfl
  ·refine jf c14 ?_
   refine tl [] [(1, cI x12.1)] [] id ?_
   refine ends_exit ?_
   cases H
   exact And.intro (by simp) (And.intro rfl rfl)
 ·clear h19
  cases y18 with
  | inl y20 =>
   replace H := ofInl H
   intro e s q
   obtain ⟨rfl, rfl⟩ := q
   change EndsI _ _ _ _ _ _
   refine so [] [] [(4, cI y20)] [] id ?_
   refine ends_ret ?_
   cases H
   exact And.intro (.inl rfl) rfl
  | inr y21 =>
   replace H := ofInr H
   intro e s q
   obtain ⟨rfl, rfl⟩ := q
   cases H
   exact And.intro (.inl rfl) rfl
end Go.Proofs.YtociagbpecpcnaaGreatDoor.X0
