/- What each Go function that FnExactStartMachine reaches computes, and that it returns so; no condition. -/
import Derived.Test.YteenmeomlhkphaaGreatDoorSaWa
set_option linter.unusedVariables false
set_option linter.unusedSimpArgs false
set_option maxRecDepth 100000
namespace Go.Proofs.YteenmeomlhkphaaGreatDoor.X0
open Go Go.RowKit Go.Proofs.YteenmeomlhkphaaGreatDoor.Ab Go.Proofs

def g_IndexFunc_int_ir : S :=
 (sq [o 4 (.mv (iv 0))]
 (.seq (sq [om 6 0, o 7 (.len (.t 6)), o 8 (.mv (iv 0))]
 (.blk 0 (.loop (sq [o 9 (.bin .lss (.t 8) (.t 7))]
   (.seq (.ite (.t 9) .skip
   (.exit 0))
   (.seq (.blk 1 (sq [om 10 8, om 5 10]
    (sq [om 11 1, om 12 0, om 13 5, o 14 (.iad 1 (.t 12) (.t 13)), o 15 (.load 1 false (.t 14)), o 16 (.cald (.t 11) [.t 15])]
    (.ite (.t 16) (sq [om 17 5, om 4 17]
     .ret)
    .skip))))
   (.ops [o 18 (.bin .add (.t 8) (iv 1)), om 8 18])))))))
 (sq [o 4 (.mv (.v (.int .i64 (-1))))]
 .ret)))
noncomputable def X.g_IndexFunc_int (p0 : (List Int)) (f1 : Int → Option Bool) : Option Int :=
 ((loop (fun (x16 : Int) => ((bif (decide (x16 < (p0.length : Int))) then ((at' zI p0 x16).bind fun v19 => ((f1 v19).bind fun v21 => (bif v21 then some (Sum.inr (Sum.inr x16)) else some (Sum.inl (W (x16 + 1)))))) else some (Sum.inr (Sum.inl ()))) : Option (Int ⊕ (Unit ⊕ Int)))) 0).bind fun y24 => (Sum.elim (fun (y26 : Unit) => some (-1)) (fun (y27 : Int) => some y27) y24))
theorem g_IndexFunc_int_c0_ok (p0 : (List Int)) (cf1 : FuncId) (f1 : Int → Option Bool) (hf1 : ∀ q0 r, f1 q0 = some r → FnOk Tryz.prog gl cf1 [cI q0] (cB r)) (r : Int) (H : X.g_IndexFunc_int p0 f1 = some r) : FnOk Tryz.prog gl 208 [.c (dat 1 eI zI p0), .c (.clo cf1 [])] (cI r) := by
 unfold X.g_IndexFunc_int at H
 refine fi Tryz.f208 g_IndexFunc_int_ir [(4, cI r)] [] glL Tryz.func208 ?_
 refine so [] [] [(0, dc 1 eI zI p0), (1, .c (.clo cf1 []))] [] id ?_
 refine seq_in ?_
 refine so [] [] [(0, dc 1 eI zI p0), (1, .c (.clo cf1 [])), (7, cL p0), (8, cI 0)] [] (fun t => lI p0 (t)) ?_
 refine ends_blk ?_
 obtain ⟨y24, h25, H⟩ := ofBind H
 refine loop_in (fun (x : Int) => lit [(0, dc 1 eI zI p0), (1, .c (.clo cf1 [])), (7, cL p0), (8, cI x)] []) (orJ (fun (z : Unit) => At (.exit 0) (lit [] [])) (fun (z : Int) => At .ret (lit [(4, cI z)] []))) h25 ?_ ?_
 ·clear H h25
  intro x16 y0 H
  refine so [] [] [(0, dc 1 eI zI p0), (1, .c (.clo cf1 [])), (7, cL p0), (8, cI x16), (9, cB (decide (x16 < (p0.length : Int))))] [] id ?_
  refine seq_in ?_
  rcases ofCond H with ⟨c18, H⟩ | ⟨c18, H⟩
  ·refine it c18 ?_
   refine sk ?_
   refine seq_in ?_
   refine ends_blk ?_
   refine so [] [] [(0, dc 1 eI zI p0), (1, .c (.clo cf1 [])), (5, cI x16), (7, cL p0), (8, cI x16)] [] id ?_
   obtain ⟨v19, h20, H⟩ := ofBind H
   obtain ⟨v21, h22, H⟩ := ofBind H
   refine so [.cs (eI v19), .res (cB v21)] [] [(0, dc 1 eI zI p0), (1, .c (.clo cf1 [])), (5, cI x16), (7, cL p0), (8, cI x16), (16, cB v21)] [] (fun t => (a2 eI h20 (aI (hf1 v19 v21 h22) (t)))) ?_
   rcases ofCond H with ⟨c23, H⟩ | ⟨c23, H⟩
   ·refine it c23 ?_
    refine so [] [] [(4, cI x16)] [] id ?_
    refine ends_ret ?_
    cases H
    exact And.intro (by simp) (And.intro rfl rfl)
   ·refine jf c23 ?_
    refine sk ?_
    refine oo [] [] [(0, dc 1 eI zI p0), (1, .c (.clo cf1 [])), (7, cL p0), (8, cI (W (x16 + 1)))] [] id ?_
    cases H
    exact And.intro rfl rfl
  ·refine jf c18 ?_
   refine tl [] [] [] id ?_
   refine ends_exit ?_
   cases H
   exact And.intro (by simp) (And.intro rfl rfl)
 ·clear h25
  cases y24 with
  | inl y26 =>
   replace H := ofInl H
   intro e s q
   obtain ⟨rfl, rfl⟩ := q
   change EndsI _ _ _ _ _ _
   refine so [] [] [(4, cI (-1))] [] id ?_
   refine ends_ret ?_
   cases H
   exact And.intro (.inl rfl) rfl
  | inr y27 =>
   replace H := ofInr H
   intro e s q
   obtain ⟨rfl, rfl⟩ := q
   cases H
   exact And.intro (.inl rfl) rfl
def g_ContainsFunc_int_ir : S :=
 (sq [o 4 (.mv (.v (.bool false)))]
 (sq [om 5 0, om 6 1, o 7 (.call 208 [.t 5, .t 6]), o 8 (.bin .geq (.t 7) (iv 0)), om 4 8]
 .ret))
noncomputable def X.g_ContainsFunc_int (p0 : (List Int)) (f1 : Int → Option Bool) : Option Bool :=
 ((X.g_IndexFunc_int p0 f1).bind fun v1 => some (decide (v1 ≥ 0)))
theorem g_ContainsFunc_int_c0_ok (p0 : (List Int)) (cf1 : FuncId) (f1 : Int → Option Bool) (hf1 : ∀ q0 r, f1 q0 = some r → FnOk Tryz.prog gl cf1 [cI q0] (cB r)) (r : Bool) (H : X.g_ContainsFunc_int p0 f1 = some r) : FnOk Tryz.prog gl 142 [.c (dat 1 eI zI p0), .c (.clo cf1 [])] (cB r) := by
 unfold X.g_ContainsFunc_int at H
 refine fi Tryz.f142 g_ContainsFunc_int_ir [(4, cB r)] [] glL Tryz.func142 ?_
 refine so [] [] [(0, dc 1 eI zI p0), (1, .c (.clo cf1 []))] [] id ?_
 obtain ⟨v1, h2, H⟩ := ofBind H
 refine so [.res (cI v1)] [] [(4, cB (decide (v1 ≥ 0)))] [] (aI (g_IndexFunc_int_c0_ok p0 (cf1) f1 hf1 v1 h2)) ?_
 refine ends_ret ?_
 cases H
 exact And.intro (.inl rfl) rfl
def i_isName_ir : S :=
 (sq [o 2 (.mv (.v (.bool false)))]
 (.seq (sq [o 3 (.mv (iv 0))]
 (.blk 0 (.loop (.seq (sq [om 4 3, om 5 0, o 6 (.lens (.t 5)), o 7 (.bin .lss (.t 4) (.t 6))]
   (.ite (.t 7) .skip
   (.exit 0)))
   (.seq (.blk 1 (sq [om 10 0, om 11 3, o 12 (.ixs (.t 10) (.t 11)), o 13 (.bin .lss (.t 12) (.v (.int .u8 97))), om 14 13, ⟨some 15, .mv (.t 0), some (14, false)⟩, ⟨some 16, .mv (.t 3), some (14, false)⟩, ⟨some 17, .ixs (.t 15) (.t 16), some (14, false)⟩, ⟨some 18, .bin .gtr (.t 17) (.v (.int .u8 122)), some (14, false)⟩, o 19 (.pick (.t 14) (.v (.bool true)) (.t 18))]
    (.ite (.t 19) (sq [o 2 (.mv (.v (.bool false)))]
     .ret)
    .skip)))
   (.ops [om 8 3, o 9 (.bin .add (.t 8) (iv 1)), om 3 9]))))))
 (sq [om 20 0, o 21 (.lens (.t 20)), o 22 (.call 94 [.t 21, .v (.int .i64 1), .v (.int .i64 8)]), om 2 22]
 .ret)))
noncomputable def X.i_isName (p0 : (List UInt8)) : Option Bool :=
 ((loop (fun (x14 : Int) => ((bif (decide (x14 < (p0.length : Int))) then (if 0 ≤ x14 ∧ x14 < (p0.length : Int) then (bif (decide ((((p0.getD x14.toNat 0).toNat : Nat) : Int) < 97)) then some (Sum.inr (Sum.inr false)) else (if 0 ≤ x14 ∧ x14 < (p0.length : Int) then (bif (decide ((((p0.getD x14.toNat 0).toNat : Nat) : Int) > 122)) then some (Sum.inr (Sum.inr false)) else some (Sum.inl (W (x14 + 1)))) else none)) else none) else some (Sum.inr (Sum.inl ()))) : Option (Int ⊕ (Unit ⊕ Bool)))) 0).bind fun y21 => (Sum.elim (fun (y23 : Unit) => ((X.i_inRange (p0.length : Int) 1 8).bind fun v25 => some v25)) (fun (y24 : Bool) => some y24) y21))
theorem i_isName_ok (p0 : (List UInt8)) (r : Bool) (H : X.i_isName p0 = some r) : FnOk Tryz.prog gl 252 [.c (.str p0)] (cB r) := by
 unfold X.i_isName at H
 refine fi Tryz.f252 i_isName_ir [(2, cB r)] [] glL Tryz.func252 ?_
 refine so [] [] [(0, .c (.str p0))] [] id ?_
 refine seq_in ?_
 refine so [] [] [(0, .c (.str p0)), (3, cI 0)] [] id ?_
 refine ends_blk ?_
 obtain ⟨y21, h22, H⟩ := ofBind H
 refine loop_in (fun (x : Int) => lit [(0, .c (.str p0)), (3, cI x)] []) (orJ (fun (z : Unit) => At (.exit 0) (lit [(0, .c (.str p0))] [])) (fun (z : Bool) => At .ret (lit [(2, cB z)] []))) h22 ?_ ?_
 ·clear H h22
  intro x14 y0 H
  refine seq_in ?_
  refine so [] [] [(0, .c (.str p0)), (3, cI x14), (7, cB (decide (x14 < (p0.length : Int))))] [] id ?_
  rcases ofCond H with ⟨c16, H⟩ | ⟨c16, H⟩
  ·refine it c16 ?_
   refine sk ?_
   refine seq_in ?_
   refine ends_blk ?_
   obtain ⟨g17, H⟩ := ofIf H
   rcases ofCond H with ⟨c18, H⟩ | ⟨c18, H⟩
   ·refine so [.g true, .g true, .g true, .g true, .g true] [] [(0, .c (.str p0)), (3, cI x14), (19, cB true)] [] (fun t => aI g17 (aI c18 (aI c18 (aI c18 (aI c18 (aI c18 (t))))))) ?_
    refine it (rfl : (true : Bool) = true) ?_
    refine so [] [] [(2, cB false)] [] id ?_
    refine ends_ret ?_
    cases H
    exact And.intro (by simp) (And.intro rfl rfl)
   ·obtain ⟨g19, H⟩ := ofIf H
    refine so [.g false, .g false, .g false, .g false, .g false] [] [(0, .c (.str p0)), (3, cI x14), (19, cB (decide ((((p0.getD x14.toNat 0).toNat : Nat) : Int) > 122)))] [] (fun t => aI g17 (aI c18 (aI c18 (aI c18 (aI g19 (aI c18 (aI c18 (t)))))))) ?_
    rcases ofCond H with ⟨c20, H⟩ | ⟨c20, H⟩
    ·refine it c20 ?_
     refine so [] [] [(2, cB false)] [] id ?_
     refine ends_ret ?_
     cases H
     exact And.intro (by simp) (And.intro rfl rfl)
    ·refine jf c20 ?_
     refine sk ?_
     refine oo [] [] [(0, .c (.str p0)), (3, cI (W (x14 + 1)))] [] id ?_
     cases H
     exact And.intro rfl rfl
  ·refine jf c16 ?_
   refine tl [] [(0, .c (.str p0))] [] id ?_
   refine ends_exit ?_
   cases H
   exact And.intro (by simp) (And.intro rfl rfl)
 ·clear h22
  cases y21 with
  | inl y23 =>
   replace H := ofInl H
   intro e s q
   obtain ⟨rfl, rfl⟩ := q
   change EndsI _ _ _ _ _ _
   obtain ⟨v25, h26, H⟩ := ofBind H
   refine so [.res (cB v25)] [] [(2, cB v25)] [] (aI (i_inRange_ok (p0.length : Int) 1 8 v25 h26)) ?_
   refine ends_ret ?_
   cases H
   exact And.intro (.inl rfl) rfl
  | inr y24 =>
   replace H := ofInr H
   intro e s q
   obtain ⟨rfl, rfl⟩ := q
   cases H
   exact And.intro (.inl rfl) rfl
def i_goodTerrain_1_ir : S :=
 (sq [o 2 (.mv (.v (.bool false)))]
 (sq [om 3 0, o 4 (.call 94 [.t 3, .v (.int .i64 0), .v (.int .i64 9)]), o 5 (.not (.t 4)), om 2 5]
 .ret))
noncomputable def X.i_goodTerrain_1 (p0 : Int) : Option Bool :=
 ((X.i_inRange p0 0 9).bind fun v1 => some (!v1))
theorem i_goodTerrain_1_ok (p0 : Int) (r : Bool) (H : X.i_goodTerrain_1 p0 = some r) : FnOk Tryz.prog gl 253 [cI p0] (cB r) := by
 unfold X.i_goodTerrain_1 at H
 refine fi Tryz.f253 i_goodTerrain_1_ir [(2, cB r)] [] glL Tryz.func253 ?_
 refine so [] [] [(0, cI p0)] [] id ?_
 obtain ⟨v1, h2, H⟩ := ofBind H
 refine so [.res (cB v1)] [] [(2, cB (!v1))] [] (aI (i_inRange_ok p0 0 9 v1 h2)) ?_
 refine ends_ret ?_
 cases H
 exact And.intro (.inl rfl) rfl
def i_goodTerrain_ir : S :=
 (sq [o 2 (.box 5 (.t 0)), o 4 (.mv (.v (.bool false)))]
 (.seq (sq [o 5 (.fad 0 (.t 2)), o 6 (.load 1 false (.t 5)), o 7 (.call 252 [.t 6]), o 8 (.not (.t 7)), om 9 8, ⟨some 10, .fad 1 (.t 2), some (9, false)⟩, ⟨some 11, .load 1 false (.t 10), some (9, false)⟩, ⟨some 12, .len (.t 11), some (9, false)⟩, ⟨some 13, .mv (.t 1), some (9, false)⟩, ⟨some 14, .bin .neq (.t 12) (.t 13), some (9, false)⟩, o 15 (.pick (.t 9) (.v (.bool true)) (.t 14)), om 16 15, ⟨some 17, .fad 2 (.t 2), some (16, false)⟩, ⟨some 18, .load 1 false (.t 17), some (16, false)⟩, ⟨some 19, .call 94 [.t 18, .v (.int .i64 (-3)), .v (.int .i64 3)], some (16, false)⟩, ⟨some 20, .not (.t 19), some (16, false)⟩, o 21 (.pick (.t 16) (.v (.bool true)) (.t 20)), om 22 21, ⟨some 23, .fad 3 (.t 2), some (22, false)⟩, ⟨some 24, .load 1 false (.t 23), some (22, false)⟩, ⟨some 25, .call 94 [.t 24, .v (.int .i64 0), .v (.int .i64 3)], some (22, false)⟩, ⟨some 26, .not (.t 25), some (22, false)⟩, o 27 (.pick (.t 22) (.v (.bool true)) (.t 26))]
 (.ite (.t 27) (sq [o 4 (.mv (.v (.bool false)))]
  .ret)
 .skip))
 (sq [o 28 (.fad 1 (.t 2)), o 29 (.load 1 false (.t 28)), o 30 (.call 142 [.t 29, .f 253]), o 31 (.not (.t 30)), om 4 31]
 .ret)))
noncomputable def X.i_goodTerrain (p0 : TTerrain) (p1 : Int) : Option Bool :=
 ((X.i_isName p0.Name).bind fun v1 => (bif (!v1) then some false else (bif ((p0.Cost.length : Int) != p1) then some false else ((X.i_inRange p0.Shift (-3) 3).bind fun v5 => (bif (!v5) then some false else ((X.i_inRange p0.Height 0 3).bind fun v8 => (bif (!v8) then some false else ((X.g_ContainsFunc_int p0.Cost (fun q0 => X.i_goodTerrain_1 q0)).bind fun v11 => some (!v11)))))))))
theorem i_goodTerrain_ok (p0 : TTerrain) (p1 : Int) (r : Bool) (H : X.i_goodTerrain p0 p1 = some r) : FnOk Tryz.prog gl 204 [.agg (eTTerrain p0), cI p1] (cB r) := by
 unfold X.i_goodTerrain at H
 refine fi Tryz.f204 i_goodTerrain_ir [(4, cB r)] [] glL Tryz.func204 ?_
 refine so [] [] [(1, cI p1), (2, pk 2)] [(2, va (eTTerrain p0))] id ?_
 refine seq_in ?_
 obtain ⟨v1, h2, H⟩ := ofBind H
 rcases ofCond H with ⟨c3, H⟩ | ⟨c3, H⟩
 ·refine so [.res (cB v1), .g true, .g true, .g true, .g true, .g true, .g true, .g true, .g true, .g true, .g true, .g true, .g true, .g true, .g true, .g true, .g true] [] [(2, pk 2), (27, cB true)] [(2, va (eTTerrain p0))] (fun t => aI (i_isName_ok p0.Name v1 h2) (aI c3 (aI c3 (aI c3 (aI c3 (aI c3 (aI c3 (aI (rfl : (true : Bool) = true) (aI (rfl : (true : Bool) = true) (aI (rfl : (true : Bool) = true) (aI (rfl : (true : Bool) = true) (aI (rfl : (true : Bool) = true) (aI (rfl : (true : Bool) = true) (aI (rfl : (true : Bool) = true) (aI (rfl : (true : Bool) = true) (aI (rfl : (true : Bool) = true) (aI (rfl : (true : Bool) = true) (t)))))))))))))))))) ?_
  refine it (rfl : (true : Bool) = true) ?_
  refine so [] [] [(4, cB false)] [] id ?_
  refine ends_ret ?_
  cases H
  exact And.intro (.inl rfl) rfl
 ·rcases ofCond H with ⟨c4, H⟩ | ⟨c4, H⟩
  ·refine so [.res (cB v1), .g false, .g false, .g false, .g false, .g false, .g false, .g true, .g true, .g true, .g true, .g true, .g true, .g true, .g true, .g true, .g true] [] [(2, pk 2), (27, cB true)] [(2, va (eTTerrain p0))] (fun t => aI (i_isName_ok p0.Name v1 h2) (aI c3 (aI c3 (aI c3 (lI p0.Cost (aI c3 (aI c3 (aI c3 (aI c4 (aI c4 (aI c4 (aI c4 (aI c4 (aI (rfl : (true : Bool) = true) (aI (rfl : (true : Bool) = true) (aI (rfl : (true : Bool) = true) (aI (rfl : (true : Bool) = true) (aI (rfl : (true : Bool) = true) (t))))))))))))))))))) ?_
   refine it (rfl : (true : Bool) = true) ?_
   refine so [] [] [(4, cB false)] [] id ?_
   refine ends_ret ?_
   cases H
   exact And.intro (.inl rfl) rfl
  ·obtain ⟨v5, h6, H⟩ := ofBind H
   rcases ofCond H with ⟨c7, H⟩ | ⟨c7, H⟩
   ·refine so [.res (cB v1), .g false, .g false, .g false, .g false, .g false, .g false, .g false, .g false, .g false, .res (cB v5), .g false, .g false, .g true, .g true, .g true, .g true, .g true] [] [(2, pk 2), (27, cB true)] [(2, va (eTTerrain p0))] (fun t => aI (i_isName_ok p0.Name v1 h2) (aI c3 (aI c3 (aI c3 (lI p0.Cost (aI c3 (aI c3 (aI c3 (aI c4 (aI c4 (aI c4 (aI (i_inRange_ok p0.Shift (-3) 3 v5 h6) (aI c4 (aI c4 (aI c7 (aI c7 (aI c7 (aI c7 (aI c7 (t)))))))))))))))))))) ?_
    refine it (rfl : (true : Bool) = true) ?_
    refine so [] [] [(4, cB false)] [] id ?_
    refine ends_ret ?_
    cases H
    exact And.intro (.inl rfl) rfl
   ·obtain ⟨v8, h9, H⟩ := ofBind H
    refine so [.res (cB v1), .g false, .g false, .g false, .g false, .g false, .g false, .g false, .g false, .g false, .res (cB v5), .g false, .g false, .g false, .g false, .g false, .res (cB v8), .g false, .g false] [] [(2, pk 2), (27, cB (!v8))] [(2, va (eTTerrain p0))] (fun t => aI (i_isName_ok p0.Name v1 h2) (aI c3 (aI c3 (aI c3 (lI p0.Cost (aI c3 (aI c3 (aI c3 (aI c4 (aI c4 (aI c4 (aI (i_inRange_ok p0.Shift (-3) 3 v5 h6) (aI c4 (aI c4 (aI c7 (aI c7 (aI c7 (aI (i_inRange_ok p0.Height 0 3 v8 h9) (aI c7 (aI c7 (t))))))))))))))))))))) ?_
    rcases ofCond H with ⟨c10, H⟩ | ⟨c10, H⟩
    ·refine it c10 ?_
     refine so [] [] [(4, cB false)] [] id ?_
     refine ends_ret ?_
     cases H
     exact And.intro (.inl rfl) rfl
    ·refine jf c10 ?_
     refine sk ?_
     obtain ⟨v11, h12, H⟩ := ofBind H
     refine so [.res (cB v11)] [] [(4, cB (!v11))] [] (aI (g_ContainsFunc_int_c0_ok p0.Cost (253) (fun q0 => X.i_goodTerrain_1 q0) (fun q0 r h => i_goodTerrain_1_ok q0 r h) v11 h12)) ?_
     refine ends_ret ?_
     cases H
     exact And.intro (.inl rfl) rfl
def g_IndexFunc_Terrain_ir : S :=
 (sq [o 4 (.mv (iv 0))]
 (.seq (sq [om 6 0, o 7 (.len (.t 6)), o 8 (.mv (iv 0))]
 (.blk 0 (.loop (sq [o 9 (.bin .lss (.t 8) (.t 7))]
   (.seq (.ite (.t 9) .skip
   (.exit 0))
   (.seq (.blk 1 (sq [om 10 8, om 5 10]
    (sq [om 11 1, om 12 0, om 13 5, o 14 (.iad 5 (.t 12) (.t 13)), o 15 (.load 5 true (.t 14)), o 16 (.cald (.t 11) [.t 15])]
    (.ite (.t 16) (sq [om 17 5, om 4 17]
     .ret)
    .skip))))
   (.ops [o 18 (.bin .add (.t 8) (iv 1)), om 8 18])))))))
 (sq [o 4 (.mv (.v (.int .i64 (-1))))]
 .ret)))
noncomputable def X.g_IndexFunc_Terrain (p0 : (List TTerrain)) (f1 : TTerrain → Option Bool) : Option Int :=
 ((loop (fun (x16 : Int) => ((bif (decide (x16 < (p0.length : Int))) then ((at' zTTerrain p0 x16).bind fun v19 => ((f1 v19).bind fun v21 => (bif v21 then some (Sum.inr (Sum.inr x16)) else some (Sum.inl (W (x16 + 1)))))) else some (Sum.inr (Sum.inl ()))) : Option (Int ⊕ (Unit ⊕ Int)))) 0).bind fun y24 => (Sum.elim (fun (y26 : Unit) => some (-1)) (fun (y27 : Int) => some y27) y24))
theorem g_IndexFunc_Terrain_c1_ok (p0 : (List TTerrain)) (cf1 : FuncId) (cs1_0 : List AC) (f1 : TTerrain → Option Bool) (hf1 : ∀ q0 r, f1 q0 = some r → FnOk Tryz.prog gl cf1 [.agg (eTTerrain q0), .c (.pd cs1_0 0)] (cB r)) (r : Int) (H : X.g_IndexFunc_Terrain p0 f1 = some r) : FnOk Tryz.prog gl 254 [.c (dat 5 eTTerrain zTTerrain p0), .c (.clo cf1 [.pd cs1_0 0])] (cI r) := by
 unfold X.g_IndexFunc_Terrain at H
 refine fi Tryz.f254 g_IndexFunc_Terrain_ir [(4, cI r)] [] glL Tryz.func254 ?_
 refine so [] [] [(0, dc 5 eTTerrain zTTerrain p0), (1, .c (.clo cf1 [.pd cs1_0 0]))] [] id ?_
 refine seq_in ?_
 refine so [] [] [(0, dc 5 eTTerrain zTTerrain p0), (1, .c (.clo cf1 [.pd cs1_0 0])), (7, cL p0), (8, cI 0)] [] (fun t => lI p0 (t)) ?_
 refine ends_blk ?_
 obtain ⟨y24, h25, H⟩ := ofBind H
 refine loop_in (fun (x : Int) => lit [(0, dc 5 eTTerrain zTTerrain p0), (1, .c (.clo cf1 [.pd cs1_0 0])), (7, cL p0), (8, cI x)] []) (orJ (fun (z : Unit) => At (.exit 0) (lit [] [])) (fun (z : Int) => At .ret (lit [(4, cI z)] []))) h25 ?_ ?_
 ·clear H h25
  intro x16 y0 H
  refine so [] [] [(0, dc 5 eTTerrain zTTerrain p0), (1, .c (.clo cf1 [.pd cs1_0 0])), (7, cL p0), (8, cI x16), (9, cB (decide (x16 < (p0.length : Int))))] [] id ?_
  refine seq_in ?_
  rcases ofCond H with ⟨c18, H⟩ | ⟨c18, H⟩
  ·refine it c18 ?_
   refine sk ?_
   refine seq_in ?_
   refine ends_blk ?_
   refine so [] [] [(0, dc 5 eTTerrain zTTerrain p0), (1, .c (.clo cf1 [.pd cs1_0 0])), (5, cI x16), (7, cL p0), (8, cI x16)] [] id ?_
   obtain ⟨v19, h20, H⟩ := ofBind H
   obtain ⟨v21, h22, H⟩ := ofBind H
   refine so [.cs (eTTerrain v19), .res (cB v21)] [] [(0, dc 5 eTTerrain zTTerrain p0), (1, .c (.clo cf1 [.pd cs1_0 0])), (5, cI x16), (7, cL p0), (8, cI x16), (16, cB v21)] [] (fun t => (a2 eTTerrain h20 (aI (hf1 v19 v21 h22) (t)))) ?_
   rcases ofCond H with ⟨c23, H⟩ | ⟨c23, H⟩
   ·refine it c23 ?_
    refine so [] [] [(4, cI x16)] [] id ?_
    refine ends_ret ?_
    cases H
    exact And.intro (by simp) (And.intro rfl rfl)
   ·refine jf c23 ?_
    refine sk ?_
    refine oo [] [] [(0, dc 5 eTTerrain zTTerrain p0), (1, .c (.clo cf1 [.pd cs1_0 0])), (7, cL p0), (8, cI (W (x16 + 1)))] [] id ?_
    cases H
    exact And.intro rfl rfl
  ·refine jf c18 ?_
   refine tl [] [] [] id ?_
   refine ends_exit ?_
   cases H
   exact And.intro (by simp) (And.intro rfl rfl)
 ·clear h25
  cases y24 with
  | inl y26 =>
   replace H := ofInl H
   intro e s q
   obtain ⟨rfl, rfl⟩ := q
   change EndsI _ _ _ _ _ _
   refine so [] [] [(4, cI (-1))] [] id ?_
   refine ends_ret ?_
   cases H
   exact And.intro (.inl rfl) rfl
  | inr y27 =>
   replace H := ofInr H
   intro e s q
   obtain ⟨rfl, rfl⟩ := q
   cases H
   exact And.intro (.inl rfl) rfl
def i_terrainIndex_1_ir : S :=
 (sq [o 2 (.box 5 (.t 0)), o 3 (.mv (.v (.bool false)))]
 (sq [o 4 (.fad 0 (.t 2)), o 5 (.load 1 false (.t 4)), o 6 (.load 1 false (.t 1)), o 7 (.bin .eql (.t 5) (.t 6)), om 3 7]
 .ret))
noncomputable def X.i_terrainIndex_1 (p0 : TTerrain) (p1 : (List UInt8)) : Option Bool :=
 some (p0.Name == p1)
theorem i_terrainIndex_1_ok (p0 : TTerrain) (p1 : (List UInt8)) (r : Bool) (H : X.i_terrainIndex_1 p0 p1 = some r) : FnOk Tryz.prog gl 255 [.agg (eTTerrain p0), .c (.pd (eS p1) 0)] (cB r) := by
 unfold X.i_terrainIndex_1 at H
 refine fi Tryz.f255 i_terrainIndex_1_ir [(3, cB r)] [] glL Tryz.func255 ?_
 refine so [] [] [(1, .c (.pd (eS p1) 0)), (2, pk 2)] [(2, va (eTTerrain p0))] id ?_
 refine so [] [] [(3, cB (p0.Name == p1))] [] id ?_
 refine ends_ret ?_
 cases H
 exact And.intro (.inl rfl) rfl
def i_terrainIndex_ir : S :=
 (sq [o 3 (.box 1 (.t 1)), o 4 (.mv (iv 0))]
 (sq [om 5 0, o 6 (.clo 255 [.t 3]), o 7 (.call 254 [.t 5, .t 6]), om 4 7]
 .ret))
noncomputable def X.i_terrainIndex (p0 : (List TTerrain)) (p1 : (List UInt8)) : Option Int :=
 ((X.g_IndexFunc_Terrain p0 (fun q0 => X.i_terrainIndex_1 q0 p1)).bind fun v1 => some v1)
theorem i_terrainIndex_ok (p0 : (List TTerrain)) (p1 : (List UInt8)) (r : Int) (H : X.i_terrainIndex p0 p1 = some r) : FnOk Tryz.prog gl 205 [.c (dat 5 eTTerrain zTTerrain p0), .c (.str p1)] (cI r) := by
 unfold X.i_terrainIndex at H
 refine fi Tryz.f205 i_terrainIndex_ir [(4, cI r)] [] glL Tryz.func205 ?_
 refine so [] [] [(0, dc 5 eTTerrain zTTerrain p0), (3, pk 3)] [(3, .var [.str p1] false)] id ?_
 obtain ⟨v1, h2, H⟩ := ofBind H
 refine so [.res (cI v1)] [] [(4, cI v1)] [] (aI (g_IndexFunc_Terrain_c1_ok p0 (255) (eS p1) (fun q0 => X.i_terrainIndex_1 q0 p1) (fun q0 r h => i_terrainIndex_1_ok q0 p1 r h) v1 h2)) ?_
 refine ends_ret ?_
 cases H
 exact And.intro (.inl rfl) rfl
def i_goodKind_ir : S :=
 (sq [o 1 (.box 6 (.t 0)), o 2 (.mv (.v (.bool false)))]
 (sq [o 3 (.fad 0 (.t 1)), o 4 (.load 1 false (.t 3)), o 5 (.call 252 [.t 4]), om 6 5, ⟨some 7, .fad 1 (.t 1), some (6, true)⟩, ⟨some 8, .load 1 false (.t 7), some (6, true)⟩, ⟨some 9, .call 94 [.t 8, .v (.int .i64 1), .v (.int .i64 9)], some (6, true)⟩, o 10 (.pick (.t 6) (.t 9) (.v (.bool false))), om 11 10, ⟨some 12, .fad 2 (.t 1), some (11, true)⟩, ⟨some 13, .load 1 false (.t 12), some (11, true)⟩, ⟨some 14, .call 94 [.t 13, .v (.int .i64 0), .v (.int .i64 9)], some (11, true)⟩, o 15 (.pick (.t 11) (.t 14) (.v (.bool false))), om 16 15, ⟨some 17, .fad 3 (.t 1), some (16, true)⟩, ⟨some 18, .load 1 false (.t 17), some (16, true)⟩, ⟨some 19, .call 94 [.t 18, .v (.int .i64 1), .v (.int .i64 4)], some (16, true)⟩, o 20 (.pick (.t 16) (.t 19) (.v (.bool false))), om 21 20, ⟨some 22, .fad 5 (.t 1), some (21, true)⟩, ⟨some 23, .load 1 false (.t 22), some (21, true)⟩, ⟨some 24, .call 94 [.t 23, .v (.int .i64 0), .v (.int .i64 4)], some (21, true)⟩, o 25 (.pick (.t 21) (.t 24) (.v (.bool false))), om 2 25]
 .ret))
noncomputable def X.i_goodKind (p0 : TKind) : Option Bool :=
 ((X.i_isName p0.Name).bind fun v1 => (bif v1 then ((X.i_inRange p0.Strength 1 9).bind fun v4 => (bif v4 then ((X.i_inRange p0.Moves 0 9).bind fun v7 => (bif v7 then ((X.i_inRange p0.Steps 1 4).bind fun v10 => (bif v10 then ((X.i_inRange p0.View 0 4).bind fun v13 => some v13) else some false)) else some false)) else some false)) else some false))
theorem i_goodKind_ok (p0 : TKind) (r : Bool) (H : X.i_goodKind p0 = some r) : FnOk Tryz.prog gl 206 [.agg (eTKind p0)] (cB r) := by
 unfold X.i_goodKind at H
 refine fi Tryz.f206 i_goodKind_ir [(2, cB r)] [] glL Tryz.func206 ?_
 refine so [] [] [(1, pk 1)] [(1, va (eTKind p0))] id ?_
 obtain ⟨v1, h2, H⟩ := ofBind H
 rcases ofCond H with ⟨c3, H⟩ | ⟨c3, H⟩
 ·obtain ⟨v4, h5, H⟩ := ofBind H
  rcases ofCond H with ⟨c6, H⟩ | ⟨c6, H⟩
  ·obtain ⟨v7, h8, H⟩ := ofBind H
   rcases ofCond H with ⟨c9, H⟩ | ⟨c9, H⟩
   ·obtain ⟨v10, h11, H⟩ := ofBind H
    rcases ofCond H with ⟨c12, H⟩ | ⟨c12, H⟩
    ·obtain ⟨v13, h14, H⟩ := ofBind H
     refine so [.res (cB v1), .g true, .g true, .g true, .res (cB v4), .g true, .g true, .g true, .g true, .res (cB v7), .g true, .g true, .g true, .g true, .res (cB v10), .g true, .g true, .g true, .g true, .res (cB v13), .g true] [] [(2, cB v13)] [] (fun t => aI (i_isName_ok p0.Name v1 h2) (aI c3 (aI c3 (aI c3 (aI (i_inRange_ok p0.Strength 1 9 v4 h5) (aI c3 (aI c6 (aI c6 (aI c6 (aI (i_inRange_ok p0.Moves 0 9 v7 h8) (aI c6 (aI c9 (aI c9 (aI c9 (aI (i_inRange_ok p0.Steps 1 4 v10 h11) (aI c9 (aI c12 (aI c12 (aI c12 (aI (i_inRange_ok p0.View 0 4 v13 h14) (aI c12 (t)))))))))))))))))))))) ?_
     refine ends_ret ?_
     cases H
     exact And.intro (.inl rfl) rfl
    ·refine so [.res (cB v1), .g true, .g true, .g true, .res (cB v4), .g true, .g true, .g true, .g true, .res (cB v7), .g true, .g true, .g true, .g true, .res (cB v10), .g true, .g false, .g false, .g false, .g false] [] [(2, cB false)] [] (fun t => aI (i_isName_ok p0.Name v1 h2) (aI c3 (aI c3 (aI c3 (aI (i_inRange_ok p0.Strength 1 9 v4 h5) (aI c3 (aI c6 (aI c6 (aI c6 (aI (i_inRange_ok p0.Moves 0 9 v7 h8) (aI c6 (aI c9 (aI c9 (aI c9 (aI (i_inRange_ok p0.Steps 1 4 v10 h11) (aI c9 (aI c12 (aI c12 (aI c12 (aI c12 (t))))))))))))))))))))) ?_
     refine ends_ret ?_
     cases H
     exact And.intro (.inl rfl) rfl
   ·refine so [.res (cB v1), .g true, .g true, .g true, .res (cB v4), .g true, .g true, .g true, .g true, .res (cB v7), .g true, .g false, .g false, .g false, .g false, .g false, .g false, .g false, .g false] [] [(2, cB false)] [] (fun t => aI (i_isName_ok p0.Name v1 h2) (aI c3 (aI c3 (aI c3 (aI (i_inRange_ok p0.Strength 1 9 v4 h5) (aI c3 (aI c6 (aI c6 (aI c6 (aI (i_inRange_ok p0.Moves 0 9 v7 h8) (aI c6 (aI c9 (aI c9 (aI c9 (aI c9 (aI (rfl : (false : Bool) = false) (aI (rfl : (false : Bool) = false) (aI (rfl : (false : Bool) = false) (aI (rfl : (false : Bool) = false) (t)))))))))))))))))))) ?_
    refine ends_ret ?_
    cases H
    exact And.intro (.inl rfl) rfl
  ·refine so [.res (cB v1), .g true, .g true, .g true, .res (cB v4), .g true, .g false, .g false, .g false, .g false, .g false, .g false, .g false, .g false, .g false, .g false, .g false, .g false] [] [(2, cB false)] [] (fun t => aI (i_isName_ok p0.Name v1 h2) (aI c3 (aI c3 (aI c3 (aI (i_inRange_ok p0.Strength 1 9 v4 h5) (aI c3 (aI c6 (aI c6 (aI c6 (aI c6 (aI (rfl : (false : Bool) = false) (aI (rfl : (false : Bool) = false) (aI (rfl : (false : Bool) = false) (aI (rfl : (false : Bool) = false) (aI (rfl : (false : Bool) = false) (aI (rfl : (false : Bool) = false) (aI (rfl : (false : Bool) = false) (aI (rfl : (false : Bool) = false) (t))))))))))))))))))) ?_
   refine ends_ret ?_
   cases H
   exact And.intro (.inl rfl) rfl
 ·refine so [.res (cB v1), .g false, .g false, .g false, .g false, .g false, .g false, .g false, .g false, .g false, .g false, .g false, .g false, .g false, .g false, .g false, .g false] [] [(2, cB false)] [] (fun t => aI (i_isName_ok p0.Name v1 h2) (aI c3 (aI c3 (aI c3 (aI c3 (aI (rfl : (false : Bool) = false) (aI (rfl : (false : Bool) = false) (aI (rfl : (false : Bool) = false) (aI (rfl : (false : Bool) = false) (aI (rfl : (false : Bool) = false) (aI (rfl : (false : Bool) = false) (aI (rfl : (false : Bool) = false) (aI (rfl : (false : Bool) = false) (aI (rfl : (false : Bool) = false) (aI (rfl : (false : Bool) = false) (aI (rfl : (false : Bool) = false) (aI (rfl : (false : Bool) = false) (t)))))))))))))))))) ?_
  refine ends_ret ?_
  cases H
  exact And.intro (.inl rfl) rfl
def i_IsRules_ir : S :=
 (sq [o 1 (.box 7 (.t 0)), o 2 (.mv (.v (.bool false)))]
 (.seq (sq [o 7 (.fad 0 (.t 1)), o 8 (.load 1 false (.t 7)), o 9 (.len (.t 8)), o 10 (.call 94 [.t 9, .v (.int .i64 1), .v (.int .i64 6)]), o 11 (.not (.t 10)), om 12 11, ⟨some 13, .fad 1 (.t 1), some (12, false)⟩, ⟨some 14, .load 1 false (.t 13), some (12, false)⟩, ⟨some 15, .len (.t 14), some (12, false)⟩, ⟨some 16, .call 94 [.t 15, .v (.int .i64 1), .v (.int .i64 4)], some (12, false)⟩, ⟨some 17, .not (.t 16), some (12, false)⟩, o 18 (.pick (.t 12) (.v (.bool true)) (.t 17))]
 (.ite (.t 18) (sq [o 2 (.mv (.v (.bool false)))]
  .ret)
 .skip))
 (.seq (sq [o 19 (.fad 0 (.t 1)), o 20 (.load 1 false (.t 19)), o 21 (.len (.t 20)), o 22 (.mv (iv 0))]
 (.blk 0 (.loop (sq [o 23 (.bin .lss (.t 22) (.t 21))]
   (.seq (.ite (.t 23) .skip
   (.exit 0))
   (.seq (.blk 1 (sq [om 24 22, o 25 (.iad 5 (.t 20) (.t 22)), o 26 (.load 5 true (.t 25)), o 4 (.alloc [.str [], .nil, .int .i64 0, .int .i64 0, .bool false]), om 3 24, ⟨none, .store 5 (.t 4) (.t 26), none⟩]
    (sq [o 27 (.load 5 true (.t 4)), o 28 (.fad 1 (.t 1)), o 29 (.load 1 false (.t 28)), o 30 (.len (.t 29)), o 31 (.call 204 [.t 27, .t 30]), o 32 (.not (.t 31)), om 33 32, ⟨some 34, .fad 0 (.t 1), some (33, false)⟩, ⟨some 35, .load 1 false (.t 34), some (33, false)⟩, ⟨some 36, .fad 0 (.t 4), some (33, false)⟩, ⟨some 37, .load 1 false (.t 36), some (33, false)⟩, ⟨some 38, .call 205 [.t 35, .t 37], some (33, false)⟩, ⟨some 39, .mv (.t 3), some (33, false)⟩, ⟨some 40, .bin .neq (.t 38) (.t 39), some (33, false)⟩, o 41 (.pick (.t 33) (.v (.bool true)) (.t 40))]
    (.ite (.t 41) (sq [o 2 (.mv (.v (.bool false)))]
     .ret)
    .skip))))
   (.ops [o 42 (.bin .add (.t 22) (iv 1)), om 22 42])))))))
 (.seq (sq [o 43 (.fad 1 (.t 1)), o 44 (.load 1 false (.t 43)), o 45 (.len (.t 44)), o 46 (.mv (iv 0))]
 (.blk 2 (.loop (sq [o 47 (.bin .lss (.t 46) (.t 45))]
   (.seq (.ite (.t 47) .skip
   (.exit 2))
   (.seq (.blk 3 (sq [om 48 46, o 49 (.iad 6 (.t 44) (.t 46)), o 50 (.load 6 true (.t 49)), o 6 (.alloc [.str [], .int .i64 0, .int .i64 0, .int .i64 0, .bool false, .int .i64 0]), om 5 48, ⟨none, .store 6 (.t 6) (.t 50), none⟩]
    (sq [o 51 (.load 6 true (.t 6)), o 52 (.call 206 [.t 51]), o 53 (.not (.t 52)), om 54 53, ⟨some 55, .fad 1 (.t 1), some (54, false)⟩, ⟨some 56, .load 1 false (.t 55), some (54, false)⟩, ⟨some 57, .fad 0 (.t 6), some (54, false)⟩, ⟨some 58, .load 1 false (.t 57), some (54, false)⟩, ⟨some 59, .call 146 [.t 56, .t 58], some (54, false)⟩, ⟨some 60, .mv (.t 5), some (54, false)⟩, ⟨some 61, .bin .neq (.t 59) (.t 60), some (54, false)⟩, o 62 (.pick (.t 54) (.v (.bool true)) (.t 61))]
    (.ite (.t 62) (sq [o 2 (.mv (.v (.bool false)))]
     .ret)
    .skip))))
   (.ops [o 63 (.bin .add (.t 46) (iv 1)), om 46 63])))))))
 (sq [o 64 (.fad 2 (.t 1)), o 65 (.load 1 false (.t 64)), o 66 (.call 94 [.t 65, .v (.int .i64 1), .v (.int .i64 4)]), om 67 66, ⟨some 68, .fad 3 (.t 1), some (67, true)⟩, ⟨some 69, .load 1 false (.t 68), some (67, true)⟩, ⟨some 70, .call 94 [.t 69, .v (.int .i64 0), .v (.int .i64 9)], some (67, true)⟩, o 71 (.pick (.t 67) (.t 70) (.v (.bool false))), om 72 71, ⟨some 73, .fad 4 (.t 1), some (72, true)⟩, ⟨some 74, .load 1 false (.t 73), some (72, true)⟩, ⟨some 75, .call 94 [.t 74, .v (.int .i64 1), .v (.int .i64 9)], some (72, true)⟩, o 76 (.pick (.t 72) (.t 75) (.v (.bool false))), om 77 76, ⟨some 78, .fad 5 (.t 1), some (77, true)⟩, ⟨some 79, .load 1 false (.t 78), some (77, true)⟩, ⟨some 80, .call 94 [.t 79, .v (.int .i64 0), .v (.int .i64 20)], some (77, true)⟩, o 81 (.pick (.t 77) (.t 80) (.v (.bool false))), om 82 81, ⟨some 83, .fad 6 (.t 1), some (82, true)⟩, ⟨some 84, .load 1 false (.t 83), some (82, true)⟩, ⟨some 85, .call 94 [.t 84, .v (.int .i64 1), .v (.int .i64 30)], some (82, true)⟩, o 86 (.pick (.t 82) (.t 85) (.v (.bool false))), om 2 86]
 .ret)))))
noncomputable def X.i_IsRules (p0 : TRules) : Option Bool :=
 ((X.i_inRange (p0.Terrains.length : Int) 1 6).bind fun v7 => (bif (!v7) then some false else ((X.i_inRange (p0.Kinds.length : Int) 1 4).bind fun v10 => (bif (!v10) then some false else ((loop (fun (x70 : Int) => ((bif (decide (x70 < (p0.Terrains.length : Int))) then ((at' zTTerrain p0.Terrains x70).bind fun v73 => ((X.i_goodTerrain v73 (p0.Kinds.length : Int)).bind fun v75 => (bif (!v75) then some (Sum.inr (Sum.inr false)) else ((X.i_terrainIndex p0.Terrains v73.Name).bind fun v78 => (bif (v78 != x70) then some (Sum.inr (Sum.inr false)) else some (Sum.inl (W (x70 + 1)))))))) else some (Sum.inr (Sum.inl ()))) : Option (Int ⊕ (Unit ⊕ Bool)))) 0).bind fun y81 => (Sum.elim (fun (y83 : Unit) => ((loop (fun (x142 : Int) => ((bif (decide (x142 < (p0.Kinds.length : Int))) then ((at' zTKind p0.Kinds x142).bind fun v145 => ((X.i_goodKind v145).bind fun v147 => (bif (!v147) then some (Sum.inr (Sum.inr false)) else ((X.i_kindIndex p0.Kinds v145.Name).bind fun v150 => (bif (v150 != x142) then some (Sum.inr (Sum.inr false)) else some (Sum.inl (W (x142 + 1)))))))) else some (Sum.inr (Sum.inl ()))) : Option (Int ⊕ (Unit ⊕ Bool)))) 0).bind fun y153 => (Sum.elim (fun (y155 : Unit) => ((X.i_inRange p0.Stack 1 4).bind fun v157 => (bif v157 then ((X.i_inRange p0.River 0 9).bind fun v160 => (bif v160 then ((X.i_inRange p0.Road 1 9).bind fun v163 => (bif v163 then ((X.i_inRange p0.Supply 0 20).bind fun v166 => (bif v166 then ((X.i_inRange p0.Turns 1 30).bind fun v169 => some v169) else some false)) else some false)) else some false)) else some false))) (fun (y156 : Bool) => some y156) y153))) (fun (y84 : Bool) => some y84) y81))))))
theorem i_IsRules_ok (p0 : TRules) (r : Bool) (H : X.i_IsRules p0 = some r) : FnOk Tryz.prog gl 140 [.agg (eTRules p0)] (cB r) := by
 unfold X.i_IsRules at H
 refine fi Tryz.f140 i_IsRules_ir [(2, cB r)] [] glL Tryz.func140 ?_
 refine so [] [] [(1, pk 1)] [(1, va (eTRules p0))] id ?_
 refine seq_in ?_
 obtain ⟨v7, h8, H⟩ := ofBind H
 rcases ofCond H with ⟨c9, H⟩ | ⟨c9, H⟩
 ·refine so [.res (cB v7), .g true, .g true, .g true, .g true, .g true, .g true] [] [(1, pk 1), (18, cB true)] [(1, va (eTRules p0))] (fun t => lI p0.Terrains (aI (i_inRange_ok (p0.Terrains.length : Int) 1 6 v7 h8) (aI c9 (aI c9 (aI c9 (aI c9 (aI c9 (aI c9 (t))))))))) ?_
  refine it (rfl : (true : Bool) = true) ?_
  refine so [] [] [(2, cB false)] [] id ?_
  refine ends_ret ?_
  cases H
  exact And.intro (.inl rfl) rfl
 ·obtain ⟨v10, h11, H⟩ := ofBind H
  refine so [.res (cB v7), .g false, .g false, .g false, .g false, .res (cB v10), .g false, .g false] [] [(1, pk 1), (18, cB (!v10))] [(1, va (eTRules p0))] (fun t => lI p0.Terrains (aI (i_inRange_ok (p0.Terrains.length : Int) 1 6 v7 h8) (aI c9 (aI c9 (aI c9 (lI p0.Kinds (aI c9 (aI (i_inRange_ok (p0.Kinds.length : Int) 1 4 v10 h11) (aI c9 (aI c9 (t))))))))))) ?_
  rcases ofCond H with ⟨c12, H⟩ | ⟨c12, H⟩
  ·refine it c12 ?_
   refine so [] [] [(2, cB false)] [] id ?_
   refine ends_ret ?_
   cases H
   exact And.intro (.inl rfl) rfl
  ·refine jf c12 ?_
   refine sk ?_
   refine seq_in ?_
   refine so [] [] [(1, pk 1), (20, dc 5 eTTerrain zTTerrain p0.Terrains), (21, cL p0.Terrains), (22, cI 0)] [(1, va (eTRules p0))] (fun t => lI p0.Terrains (t)) ?_
   refine ends_blk ?_
   obtain ⟨y81, h82, H⟩ := ofBind H
   refine loop_in (fun (x : Int) => lit [(1, pk 1), (20, dc 5 eTTerrain zTTerrain p0.Terrains), (21, cL p0.Terrains), (22, cI x)] [(1, va (eTRules p0))]) (orJ (fun (z : Unit) => At (.exit 0) (lit [(1, pk 1)] [(1, va (eTRules p0))])) (fun (z : Bool) => At .ret (lit [(2, cB z)] []))) h82 ?_ ?_
   ·clear H h82
    intro x70 y0 H
    refine so [] [] [(1, pk 1), (20, dc 5 eTTerrain zTTerrain p0.Terrains), (21, cL p0.Terrains), (22, cI x70), (23, cB (decide (x70 < (p0.Terrains.length : Int))))] [(1, va (eTRules p0))] id ?_
    refine seq_in ?_
    rcases ofCond H with ⟨c72, H⟩ | ⟨c72, H⟩
    ·refine it c72 ?_
     refine sk ?_
     refine seq_in ?_
     refine ends_blk ?_
     obtain ⟨v73, h74, H⟩ := ofBind H
     refine so [.cs (eTTerrain v73)] [] [(1, pk 1), (3, cI x70), (4, pk 4), (20, dc 5 eTTerrain zTTerrain p0.Terrains), (21, cL p0.Terrains), (22, cI x70)] [(1, va (eTRules p0)), (4, va (eTTerrain v73))] (a2 eTTerrain h74) ?_
     obtain ⟨v75, h76, H⟩ := ofBind H
     rcases ofCond H with ⟨c77, H⟩ | ⟨c77, H⟩
     ·refine so [.res (cB v75), .g true, .g true, .g true, .g true, .g true, .g true, .g true, .g true] [] [(1, pk 1), (20, dc 5 eTTerrain zTTerrain p0.Terrains), (21, cL p0.Terrains), (22, cI x70), (41, cB true)] [(1, va (eTRules p0))] (fun t => lI p0.Kinds (aI (i_goodTerrain_ok v73 (p0.Kinds.length : Int) v75 h76) (aI c77 (aI c77 (aI c77 (aI c77 (aI c77 (aI c77 (aI c77 (aI c77 (t))))))))))) ?_
      refine it (rfl : (true : Bool) = true) ?_
      refine so [] [] [(2, cB false)] [] id ?_
      refine ends_ret ?_
      cases H
      exact And.intro (by simp) (And.intro rfl rfl)
     ·obtain ⟨v78, h79, H⟩ := ofBind H
      refine so [.res (cB v75), .g false, .g false, .g false, .g false, .g false, .res (cI v78), .g false, .g false, .g false] [] [(1, pk 1), (20, dc 5 eTTerrain zTTerrain p0.Terrains), (21, cL p0.Terrains), (22, cI x70), (41, cB (v78 != x70))] [(1, va (eTRules p0))] (fun t => lI p0.Kinds (aI (i_goodTerrain_ok v73 (p0.Kinds.length : Int) v75 h76) (aI c77 (aI c77 (aI c77 (aI c77 (aI c77 (aI (i_terrainIndex_ok p0.Terrains v73.Name v78 h79) (aI c77 (aI c77 (aI c77 (t)))))))))))) ?_
      rcases ofCond H with ⟨c80, H⟩ | ⟨c80, H⟩
      ·refine it c80 ?_
       refine so [] [] [(2, cB false)] [] id ?_
       refine ends_ret ?_
       cases H
       exact And.intro (by simp) (And.intro rfl rfl)
      ·refine jf c80 ?_
       refine sk ?_
       refine oo [] [] [(1, pk 1), (20, dc 5 eTTerrain zTTerrain p0.Terrains), (21, cL p0.Terrains), (22, cI (W (x70 + 1)))] [(1, va (eTRules p0))] id ?_
       cases H
       exact And.intro rfl rfl
    ·refine jf c72 ?_
     refine tl [] [(1, pk 1)] [(1, va (eTRules p0))] id ?_
     refine ends_exit ?_
     cases H
     exact And.intro (by simp) (And.intro rfl rfl)
   ·clear h82
    cases y81 with
    | inl y83 =>
     replace H := ofInl H
     intro e s q
     obtain ⟨rfl, rfl⟩ := q
     change EndsI _ _ _ _ _ _
     refine seq_in ?_
     refine so [] [] [(1, pk 1), (44, dc 6 eTKind zTKind p0.Kinds), (45, cL p0.Kinds), (46, cI 0)] [(1, va (eTRules p0))] (fun t => lI p0.Kinds (t)) ?_
     refine ends_blk ?_
     obtain ⟨y153, h154, H⟩ := ofBind H
     refine loop_in (fun (x : Int) => lit [(1, pk 1), (44, dc 6 eTKind zTKind p0.Kinds), (45, cL p0.Kinds), (46, cI x)] [(1, va (eTRules p0))]) (orJ (fun (z : Unit) => At (.exit 2) (lit [(1, pk 1)] [(1, va (eTRules p0))])) (fun (z : Bool) => At .ret (lit [(2, cB z)] []))) h154 ?_ ?_
     ·clear H h154
      intro x142 y0 H
      refine so [] [] [(1, pk 1), (44, dc 6 eTKind zTKind p0.Kinds), (45, cL p0.Kinds), (46, cI x142), (47, cB (decide (x142 < (p0.Kinds.length : Int))))] [(1, va (eTRules p0))] id ?_
      refine seq_in ?_
      rcases ofCond H with ⟨c144, H⟩ | ⟨c144, H⟩
      ·refine it c144 ?_
       refine sk ?_
       refine seq_in ?_
       refine ends_blk ?_
       obtain ⟨v145, h146, H⟩ := ofBind H
       refine so [.cs (eTKind v145)] [] [(1, pk 1), (5, cI x142), (6, pk 6), (44, dc 6 eTKind zTKind p0.Kinds), (45, cL p0.Kinds), (46, cI x142)] [(1, va (eTRules p0)), (6, va (eTKind v145))] (a2 eTKind h146) ?_
       obtain ⟨v147, h148, H⟩ := ofBind H
       rcases ofCond H with ⟨c149, H⟩ | ⟨c149, H⟩
       ·refine so [.res (cB v147), .g true, .g true, .g true, .g true, .g true, .g true, .g true, .g true] [] [(1, pk 1), (44, dc 6 eTKind zTKind p0.Kinds), (45, cL p0.Kinds), (46, cI x142), (62, cB true)] [(1, va (eTRules p0))] (fun t => aI (i_goodKind_ok v145 v147 h148) (aI c149 (aI c149 (aI c149 (aI c149 (aI c149 (aI c149 (aI c149 (aI c149 (t)))))))))) ?_
        refine it (rfl : (true : Bool) = true) ?_
        refine so [] [] [(2, cB false)] [] id ?_
        refine ends_ret ?_
        cases H
        exact And.intro (by simp) (And.intro rfl rfl)
       ·obtain ⟨v150, h151, H⟩ := ofBind H
        refine so [.res (cB v147), .g false, .g false, .g false, .g false, .g false, .res (cI v150), .g false, .g false, .g false] [] [(1, pk 1), (44, dc 6 eTKind zTKind p0.Kinds), (45, cL p0.Kinds), (46, cI x142), (62, cB (v150 != x142))] [(1, va (eTRules p0))] (fun t => aI (i_goodKind_ok v145 v147 h148) (aI c149 (aI c149 (aI c149 (aI c149 (aI c149 (aI (i_kindIndex_ok p0.Kinds v145.Name v150 h151) (aI c149 (aI c149 (aI c149 (t))))))))))) ?_
        rcases ofCond H with ⟨c152, H⟩ | ⟨c152, H⟩
        ·refine it c152 ?_
         refine so [] [] [(2, cB false)] [] id ?_
         refine ends_ret ?_
         cases H
         exact And.intro (by simp) (And.intro rfl rfl)
        ·refine jf c152 ?_
         refine sk ?_
         refine oo [] [] [(1, pk 1), (44, dc 6 eTKind zTKind p0.Kinds), (45, cL p0.Kinds), (46, cI (W (x142 + 1)))] [(1, va (eTRules p0))] id ?_
         cases H
         exact And.intro rfl rfl
      ·refine jf c144 ?_
       refine tl [] [(1, pk 1)] [(1, va (eTRules p0))] id ?_
       refine ends_exit ?_
       cases H
       exact And.intro (by simp) (And.intro rfl rfl)
     ·clear h154
      cases y153 with
      | inl y155 =>
       replace H := ofInl H
       intro e s q
       obtain ⟨rfl, rfl⟩ := q
       change EndsI _ _ _ _ _ _
       obtain ⟨v157, h158, H⟩ := ofBind H
       rcases ofCond H with ⟨c159, H⟩ | ⟨c159, H⟩
       ·obtain ⟨v160, h161, H⟩ := ofBind H
        rcases ofCond H with ⟨c162, H⟩ | ⟨c162, H⟩
        ·obtain ⟨v163, h164, H⟩ := ofBind H
         rcases ofCond H with ⟨c165, H⟩ | ⟨c165, H⟩
         ·obtain ⟨v166, h167, H⟩ := ofBind H
          rcases ofCond H with ⟨c168, H⟩ | ⟨c168, H⟩
          ·obtain ⟨v169, h170, H⟩ := ofBind H
           refine so [.res (cB v157), .g true, .g true, .g true, .res (cB v160), .g true, .g true, .g true, .g true, .res (cB v163), .g true, .g true, .g true, .g true, .res (cB v166), .g true, .g true, .g true, .g true, .res (cB v169), .g true] [] [(2, cB v169)] [] (fun t => aI (i_inRange_ok p0.Stack 1 4 v157 h158) (aI c159 (aI c159 (aI c159 (aI (i_inRange_ok p0.River 0 9 v160 h161) (aI c159 (aI c162 (aI c162 (aI c162 (aI (i_inRange_ok p0.Road 1 9 v163 h164) (aI c162 (aI c165 (aI c165 (aI c165 (aI (i_inRange_ok p0.Supply 0 20 v166 h167) (aI c165 (aI c168 (aI c168 (aI c168 (aI (i_inRange_ok p0.Turns 1 30 v169 h170) (aI c168 (t)))))))))))))))))))))) ?_
           refine ends_ret ?_
           cases H
           exact And.intro (.inl rfl) rfl
          ·refine so [.res (cB v157), .g true, .g true, .g true, .res (cB v160), .g true, .g true, .g true, .g true, .res (cB v163), .g true, .g true, .g true, .g true, .res (cB v166), .g true, .g false, .g false, .g false, .g false] [] [(2, cB false)] [] (fun t => aI (i_inRange_ok p0.Stack 1 4 v157 h158) (aI c159 (aI c159 (aI c159 (aI (i_inRange_ok p0.River 0 9 v160 h161) (aI c159 (aI c162 (aI c162 (aI c162 (aI (i_inRange_ok p0.Road 1 9 v163 h164) (aI c162 (aI c165 (aI c165 (aI c165 (aI (i_inRange_ok p0.Supply 0 20 v166 h167) (aI c165 (aI c168 (aI c168 (aI c168 (aI c168 (t))))))))))))))))))))) ?_
           refine ends_ret ?_
           cases H
           exact And.intro (.inl rfl) rfl
         ·refine so [.res (cB v157), .g true, .g true, .g true, .res (cB v160), .g true, .g true, .g true, .g true, .res (cB v163), .g true, .g false, .g false, .g false, .g false, .g false, .g false, .g false, .g false] [] [(2, cB false)] [] (fun t => aI (i_inRange_ok p0.Stack 1 4 v157 h158) (aI c159 (aI c159 (aI c159 (aI (i_inRange_ok p0.River 0 9 v160 h161) (aI c159 (aI c162 (aI c162 (aI c162 (aI (i_inRange_ok p0.Road 1 9 v163 h164) (aI c162 (aI c165 (aI c165 (aI c165 (aI c165 (aI (rfl : (false : Bool) = false) (aI (rfl : (false : Bool) = false) (aI (rfl : (false : Bool) = false) (aI (rfl : (false : Bool) = false) (t)))))))))))))))))))) ?_
          refine ends_ret ?_
          cases H
          exact And.intro (.inl rfl) rfl
        ·refine so [.res (cB v157), .g true, .g true, .g true, .res (cB v160), .g true, .g false, .g false, .g false, .g false, .g false, .g false, .g false, .g false, .g false, .g false, .g false, .g false] [] [(2, cB false)] [] (fun t => aI (i_inRange_ok p0.Stack 1 4 v157 h158) (aI c159 (aI c159 (aI c159 (aI (i_inRange_ok p0.River 0 9 v160 h161) (aI c159 (aI c162 (aI c162 (aI c162 (aI c162 (aI (rfl : (false : Bool) = false) (aI (rfl : (false : Bool) = false) (aI (rfl : (false : Bool) = false) (aI (rfl : (false : Bool) = false) (aI (rfl : (false : Bool) = false) (aI (rfl : (false : Bool) = false) (aI (rfl : (false : Bool) = false) (aI (rfl : (false : Bool) = false) (t))))))))))))))))))) ?_
         refine ends_ret ?_
         cases H
         exact And.intro (.inl rfl) rfl
       ·refine so [.res (cB v157), .g false, .g false, .g false, .g false, .g false, .g false, .g false, .g false, .g false, .g false, .g false, .g false, .g false, .g false, .g false, .g false] [] [(2, cB false)] [] (fun t => aI (i_inRange_ok p0.Stack 1 4 v157 h158) (aI c159 (aI c159 (aI c159 (aI c159 (aI (rfl : (false : Bool) = false) (aI (rfl : (false : Bool) = false) (aI (rfl : (false : Bool) = false) (aI (rfl : (false : Bool) = false) (aI (rfl : (false : Bool) = false) (aI (rfl : (false : Bool) = false) (aI (rfl : (false : Bool) = false) (aI (rfl : (false : Bool) = false) (aI (rfl : (false : Bool) = false) (aI (rfl : (false : Bool) = false) (aI (rfl : (false : Bool) = false) (aI (rfl : (false : Bool) = false) (t)))))))))))))))))) ?_
        refine ends_ret ?_
        cases H
        exact And.intro (.inl rfl) rfl
      | inr y156 =>
       replace H := ofInr H
       intro e s q
       obtain ⟨rfl, rfl⟩ := q
       cases H
       exact And.intro (.inl rfl) rfl
    | inr y84 =>
     replace H := ofInr H
     intro e s q
     obtain ⟨rfl, rfl⟩ := q
     cases H
     exact And.intro (.inl rfl) rfl
def i_increasing_ir : S :=
 (sq [o 2 (.mv (.v (.bool false)))]
 (.seq (sq [o 3 (.mv (iv 1))]
 (.blk 0 (.loop (.seq (sq [om 4 3, om 5 0, o 6 (.len (.t 5)), o 7 (.bin .lss (.t 4) (.t 6))]
   (.ite (.t 7) .skip
   (.exit 0)))
   (.seq (.blk 1 (.seq (.draw 10 [om 10 0, om 11 3, o 12 (.bin .sub (.t 11) (iv 1)), o 13 (.iad 1 (.t 10) (.t 12)), o 14 (.load 1 false (.t 13)), om 15 0, om 16 3, o 17 (.iad 1 (.t 15) (.t 16)), o 18 (.load 1 false (.t 17)), o 19 (.bin .geq (.t 14) (.t 18))])
    (.ite (.t 19) (sq [o 2 (.mv (.v (.bool false)))]
     .ret)
    .skip)))
   (.ops [om 8 3, o 9 (.bin .add (.t 8) (iv 1)), om 3 9]))))))
 (sq [o 2 (.mv (.v (.bool true)))]
 .ret)))
noncomputable def X.i_increasing (p0 : (List Int)) : Option Bool :=
 ((loop (fun (x16 : Int) => ((bif (decide (x16 < (p0.length : Int))) then ((at' zI p0 (W (x16 - 1))).bind fun v19 => ((at' zI p0 x16).bind fun v21 => (bif (decide (v19 ≥ v21)) then some (Sum.inr (Sum.inr false)) else some (Sum.inl (W (x16 + 1)))))) else some (Sum.inr (Sum.inl ()))) : Option (Int ⊕ (Unit ⊕ Bool)))) 1).bind fun y24 => (Sum.elim (fun (y26 : Unit) => some true) (fun (y27 : Bool) => some y27) y24))
theorem i_increasing_ok (p0 : (List Int)) (r : Bool) (H : X.i_increasing p0 = some r) : FnOk Tryz.prog gl 150 [.c (dat 1 eI zI p0)] (cB r) := by
 unfold X.i_increasing at H
 refine fi Tryz.f150 i_increasing_ir [(2, cB r)] [] glL Tryz.func150 ?_
 refine so [] [] [(0, dc 1 eI zI p0)] [] id ?_
 refine seq_in ?_
 refine so [] [] [(0, dc 1 eI zI p0), (3, cI 1)] [] id ?_
 refine ends_blk ?_
 obtain ⟨y24, h25, H⟩ := ofBind H
 refine loop_in (fun (x : Int) => lit [(0, dc 1 eI zI p0), (3, cI x)] []) (orJ (fun (z : Unit) => At (.exit 0) (lit [] [])) (fun (z : Bool) => At .ret (lit [(2, cB z)] []))) h25 ?_ ?_
 ·clear H h25
  intro x16 y0 H
  refine seq_in ?_
  refine so [] [] [(0, dc 1 eI zI p0), (3, cI x16), (7, cB (decide (x16 < (p0.length : Int))))] [] (fun t => lI p0 (t)) ?_
  rcases ofCond H with ⟨c18, H⟩ | ⟨c18, H⟩
  ·refine it c18 ?_
   refine sk ?_
   refine seq_in ?_
   refine ends_blk ?_
   obtain ⟨v19, h20, H⟩ := ofBind H
   obtain ⟨v21, h22, H⟩ := ofBind H
   refine sd [.cs (eI v19), .cs (eI v21)] [] [(0, dc 1 eI zI p0), (3, cI x16), (19, cB (decide (v19 ≥ v21)))] [] (fun t => (a2 eI h20 (aI (rfl : ([] : List Nat) = []) ((a2 eI h22 (aI (rfl : ([] : List Nat) = []) (t))))))) ?_
   rcases ofCond H with ⟨c23, H⟩ | ⟨c23, H⟩
   ·refine it c23 ?_
    refine so [] [] [(2, cB false)] [] id ?_
    refine ends_ret ?_
    cases H
    exact And.intro (by simp) (And.intro rfl rfl)
   ·refine jf c23 ?_
    refine sk ?_
    refine oo [] [] [(0, dc 1 eI zI p0), (3, cI (W (x16 + 1)))] [] id ?_
    cases H
    exact And.intro rfl rfl
  ·refine jf c18 ?_
   refine tl [] [] [] id ?_
   refine ends_exit ?_
   cases H
   exact And.intro (by simp) (And.intro rfl rfl)
 ·clear h25
  cases y24 with
  | inl y26 =>
   replace H := ofInl H
   intro e s q
   obtain ⟨rfl, rfl⟩ := q
   change EndsI _ _ _ _ _ _
   refine so [] [] [(2, cB true)] [] id ?_
   refine ends_ret ?_
   cases H
   exact And.intro (.inl rfl) rfl
  | inr y27 =>
   replace H := ofInr H
   intro e s q
   obtain ⟨rfl, rfl⟩ := q
   cases H
   exact And.intro (.inl rfl) rfl
def i_hexOf_ir : S :=
 (sq [o 2 (.box 5 (.t 0)), o 4 (.alloc [.int .i64 0, .int .i64 0])]
 (.seq (.draw 9 [om 5 1, o 6 (.fad 0 (.t 2)), o 7 (.load 1 false (.t 6)), o 8 (.bin .rem (.t 5) (.t 7)), om 9 1, o 10 (.fad 0 (.t 2)), o 11 (.load 1 false (.t 10)), o 12 (.bin .quo (.t 9) (.t 11)), o 13 (.build [.int .i64 0, .int .i64 0] [(0, 1, .t 8), (1, 1, .t 12)]), ⟨none, .store 2 (.t 4) (.t 13), none⟩])
 .ret))
noncomputable def X.i_hexOf (p0 : TMap) (p1 : Int) : Option THex :=
 (if p0.Width ≠ 0 then (if p0.Width ≠ 0 then some (THex.mk (Int.tmod p1 p0.Width) (W (Int.tdiv p1 p0.Width))) else none) else none)
theorem i_hexOf_ok (p0 : TMap) (p1 : Int) (r : THex) (H : X.i_hexOf p0 p1 = some r) : FnOk Tryz.prog gl 242 [.agg (eTMap p0), cI p1] (.agg (eTHex r)) := by
 unfold X.i_hexOf at H
 refine fi Tryz.f242 i_hexOf_ir [(4, pk 4)] [(4, va (eTHex r))] glL Tryz.func242 ?_
 refine so [] [] [(1, cI p1), (2, pk 2), (4, pk 4)] [(2, va (eTMap p0)), (4, .var [.int .i64 0, .int .i64 0] false)] id ?_
 obtain ⟨g1, H⟩ := ofIf H
 obtain ⟨g2, H⟩ := ofIf H
 refine sd [] [] [(4, pk 4)] [(4, .var [.int .i64 (Int.tmod p1 p0.Width), .int .i64 (W (Int.tdiv p1 p0.Width))] false)] (fun t => aI g1 (aI g2 (t))) ?_
 refine ends_ret ?_
 cases H
 exact And.intro (.inl rfl) rfl
def i_indexOf_ir : S :=
 (sq [o 2 (.box 5 (.t 0)), o 3 (.box 2 (.t 1)), o 4 (.mv (iv 0))]
 (.seq (sq [o 5 (.fad 0 (.t 3)), o 6 (.load 1 false (.t 5)), o 7 (.fad 0 (.t 2)), o 8 (.load 1 false (.t 7)), o 9 (.call 84 [.t 6, .t 8]), o 10 (.not (.t 9)), om 11 10, ⟨some 12, .fad 1 (.t 3), some (11, false)⟩, ⟨some 13, .load 1 false (.t 12), some (11, false)⟩, ⟨some 14, .fad 1 (.t 2), some (11, false)⟩, ⟨some 15, .load 1 false (.t 14), some (11, false)⟩, ⟨some 16, .call 84 [.t 13, .t 15], some (11, false)⟩, ⟨some 17, .not (.t 16), some (11, false)⟩, o 18 (.pick (.t 11) (.v (.bool true)) (.t 17))]
 (.ite (.t 18) (sq [o 4 (.mv (.v (.int .i64 (-1))))]
  .ret)
 .skip))
 (sq [o 19 (.fad 1 (.t 3)), o 20 (.load 1 false (.t 19)), o 21 (.fad 0 (.t 2)), o 22 (.load 1 false (.t 21)), o 23 (.bin .mul (.t 20) (.t 22)), o 24 (.fad 0 (.t 3)), o 25 (.load 1 false (.t 24)), o 26 (.bin .add (.t 23) (.t 25)), om 4 26]
 .ret)))
noncomputable def X.i_indexOf (p0 : TMap) (p1 : THex) : Option Int :=
 ((X.i_isIndex p1.Q p0.Width).bind fun v7 => (bif (!v7) then some (-1) else ((X.i_isIndex p1.R p0.Height).bind fun v10 => (bif (!v10) then some (-1) else some (W ((W (p1.R * p0.Width)) + p1.Q))))))
theorem i_indexOf_ok (p0 : TMap) (p1 : THex) (r : Int) (H : X.i_indexOf p0 p1 = some r) : FnOk Tryz.prog gl 295 [.agg (eTMap p0), .agg (eTHex p1)] (cI r) := by
 unfold X.i_indexOf at H
 refine fi Tryz.f295 i_indexOf_ir [(4, cI r)] [] glL Tryz.func295 ?_
 refine so [] [] [(2, pk 2), (3, pk 3)] [(2, va (eTMap p0)), (3, va (eTHex p1))] id ?_
 refine seq_in ?_
 obtain ⟨v7, h8, H⟩ := ofBind H
 rcases ofCond H with ⟨c9, H⟩ | ⟨c9, H⟩
 ·refine so [.res (cB v7), .g true, .g true, .g true, .g true, .g true, .g true, .g true] [] [(2, pk 2), (3, pk 3), (18, cB true)] [(2, va (eTMap p0)), (3, va (eTHex p1))] (fun t => aI (i_isIndex_ok p1.Q p0.Width v7 h8) (aI c9 (aI c9 (aI c9 (aI c9 (aI c9 (aI c9 (aI c9 (t))))))))) ?_
  refine it (rfl : (true : Bool) = true) ?_
  refine so [] [] [(4, cI (-1))] [] id ?_
  refine ends_ret ?_
  cases H
  exact And.intro (.inl rfl) rfl
 ·obtain ⟨v10, h11, H⟩ := ofBind H
  refine so [.res (cB v7), .g false, .g false, .g false, .g false, .g false, .res (cB v10), .g false, .g false] [] [(2, pk 2), (3, pk 3), (18, cB (!v10))] [(2, va (eTMap p0)), (3, va (eTHex p1))] (fun t => aI (i_isIndex_ok p1.Q p0.Width v7 h8) (aI c9 (aI c9 (aI c9 (aI c9 (aI c9 (aI (i_isIndex_ok p1.R p0.Height v10 h11) (aI c9 (aI c9 (t)))))))))) ?_
  rcases ofCond H with ⟨c12, H⟩ | ⟨c12, H⟩
  ·refine it c12 ?_
   refine so [] [] [(4, cI (-1))] [] id ?_
   refine ends_ret ?_
   cases H
   exact And.intro (.inl rfl) rfl
  ·refine jf c12 ?_
   refine sk ?_
   refine so [] [] [(4, cI (W ((W (p1.R * p0.Width)) + p1.Q)))] [] id ?_
   refine ends_ret ?_
   cases H
   exact And.intro (.inl rfl) rfl
def i_stepBy_ir : S :=
 (sq [o 3 (.box 2 (.t 0)), o 6 (.alloc [.int .i64 0, .int .i64 0])]
 (.seq (.draw 19 [o 7 (.fad 0 (.t 3)), o 8 (.load 1 false (.t 7)), om 9 2, om 10 1, o 11 (.iar 6 2 (.g 6) (.t 10)), o 12 (.fad 0 (.t 11)), o 13 (.load 1 false (.t 12)), o 14 (.bin .mul (.t 9) (.t 13)), o 15 (.bin .add (.t 8) (.t 14)), o 16 (.fad 1 (.t 3)), o 17 (.load 1 false (.t 16)), om 18 2, om 19 1, o 20 (.iar 6 2 (.g 6) (.t 19)), o 21 (.fad 1 (.t 20)), o 22 (.load 1 false (.t 21)), o 23 (.bin .mul (.t 18) (.t 22)), o 24 (.bin .add (.t 17) (.t 23)), o 25 (.build [.int .i64 0, .int .i64 0] [(0, 1, .t 15), (1, 1, .t 24)]), ⟨none, .store 2 (.t 6) (.t 25), none⟩])
 .ret))
noncomputable def X.i_stepBy (p0 : THex) (p1 : Int) (p2 : Int) : Option THex :=
 ((at' zTHex dirs p1).bind fun v1 => some (THex.mk (W (p0.Q + (W (p2 * v1.Q)))) (W (p0.R + (W (p2 * v1.R))))))
theorem i_stepBy_ok (p0 : THex) (p1 : Int) (p2 : Int) (r : THex) (H : X.i_stepBy p0 p1 p2 = some r) : FnOk Tryz.prog gl 296 [.agg (eTHex p0), cI p1, cI p2] (.agg (eTHex r)) := by
 unfold X.i_stepBy at H
 refine fi Tryz.f296 i_stepBy_ir [(6, pk 6)] [(6, va (eTHex r))] glL Tryz.func296 ?_
 refine so [] [] [(1, cI p1), (2, cI p2), (3, pk 3), (6, pk 6)] [(3, va (eTHex p0)), (6, .var [.int .i64 0, .int .i64 0] false)] id ?_
 obtain ⟨v1, h2, H⟩ := ofBind H
 refine sd [.cs (eTHex v1), .cs (eTHex v1)] [] [(6, pk 6)] [(6, .var [.int .i64 (W (p0.Q + (W (p2 * v1.Q)))), .int .i64 (W (p0.R + (W (p2 * v1.R))))] false)] (fun t => aI (at_lt h2) (aI (dirs_at h2) (aI (rfl : ([] : List Nat) = []) (aI (at_lt h2) (aI (dirs_at h2) (aI (rfl : ([] : List Nat) = []) (t))))))) ?_
 refine ends_ret ?_
 cases H
 exact And.intro (.inl rfl) rfl
def i_nextTo_ir : S :=
 (sq [o 3 (.box 5 (.t 0)), o 6 (.mv (iv 0))]
 (.seq (.draw 8 [o 7 (.load 5 true (.t 3)), o 8 (.load 5 true (.t 3)), om 9 1, o 10 (.call 242 [.t 8, .t 9]), om 11 2, o 12 (.call 296 [.t 10, .t 11, .v (.int .i64 1)]), o 13 (.call 295 [.t 7, .t 12]), om 6 13])
 .ret))
noncomputable def X.i_nextTo (p0 : TMap) (p1 : Int) (p2 : Int) : Option Int :=
 ((X.i_hexOf p0 p1).bind fun v1 => ((X.i_stepBy v1 p2 1).bind fun v3 => ((X.i_indexOf p0 v3).bind fun v5 => some v5)))
theorem i_nextTo_ok (p0 : TMap) (p1 : Int) (p2 : Int) (r : Int) (H : X.i_nextTo p0 p1 p2 = some r) : FnOk Tryz.prog gl 256 [.agg (eTMap p0), cI p1, cI p2] (cI r) := by
 unfold X.i_nextTo at H
 refine fi Tryz.f256 i_nextTo_ir [(6, cI r)] [] glL Tryz.func256 ?_
 refine so [] [] [(1, cI p1), (2, cI p2), (3, pk 3)] [(3, va (eTMap p0))] id ?_
 obtain ⟨v1, h2, H⟩ := ofBind H
 obtain ⟨v3, h4, H⟩ := ofBind H
 obtain ⟨v5, h6, H⟩ := ofBind H
 refine sd [.res (.agg (eTHex v1)), .res (.agg (eTHex v3)), .res (cI v5)] [] [(6, cI v5)] [] (fun t => aI (i_hexOf_ok p0 p1 v1 h2) (aI trivial (aI (rfl : ([] : List Nat) = []) (aI (i_stepBy_ok v1 p2 1 v3 h4) (aI trivial (aI (rfl : ([] : List Nat) = []) (aI (i_indexOf_ok p0 v3 v5 h6) (aI trivial (aI (rfl : ([] : List Nat) = []) (t)))))))))) ?_
 refine ends_ret ?_
 cases H
 exact And.intro (.inl rfl) rfl
def i_isEdge_ir : S :=
 (sq [o 2 (.box 5 (.t 0)), o 4 (.mv (.v (.bool false)))]
 (sq [om 5 1, o 6 (.fad 0 (.t 2)), o 7 (.load 1 false (.t 6)), o 8 (.bin .mul (iv 3) (.t 7)), o 9 (.fad 1 (.t 2)), o 10 (.load 1 false (.t 9)), o 11 (.bin .mul (.t 8) (.t 10)), o 12 (.bin .sub (.t 11) (iv 1)), o 13 (.call 94 [.t 5, .v (.int .i64 0), .t 12]), om 14 13, ⟨some 15, .load 5 true (.t 2), some (14, true)⟩, ⟨some 16, .mv (.t 1), some (14, true)⟩, ⟨some 17, .bin .quo (.t 16) (iv 3), some (14, true)⟩, ⟨some 18, .mv (.t 1), some (14, true)⟩, ⟨some 19, .bin .rem (.t 18) (iv 3), some (14, true)⟩, ⟨some 20, .call 256 [.t 15, .t 17, .t 19], some (14, true)⟩, ⟨some 21, .bin .geq (.t 20) (iv 0), some (14, true)⟩, o 22 (.pick (.t 14) (.t 21) (.v (.bool false))), om 4 22]
 .ret))
noncomputable def X.i_isEdge (p0 : TMap) (p1 : Int) : Option Bool :=
 ((X.i_inRange p1 0 (W ((W ((W (3 * p0.Width)) * p0.Height)) - 1))).bind fun v1 => (bif v1 then ((X.i_nextTo p0 (W (Int.tdiv p1 3)) (Int.tmod p1 3)).bind fun v4 => some (decide (v4 ≥ 0))) else some false))
theorem i_isEdge_ok (p0 : TMap) (p1 : Int) (r : Bool) (H : X.i_isEdge p0 p1 = some r) : FnOk Tryz.prog gl 207 [.agg (eTMap p0), cI p1] (cB r) := by
 unfold X.i_isEdge at H
 refine fi Tryz.f207 i_isEdge_ir [(4, cB r)] [] glL Tryz.func207 ?_
 refine so [] [] [(1, cI p1), (2, pk 2)] [(2, va (eTMap p0))] id ?_
 obtain ⟨v1, h2, H⟩ := ofBind H
 rcases ofCond H with ⟨c3, H⟩ | ⟨c3, H⟩
 ·obtain ⟨v4, h5, H⟩ := ofBind H
  refine so [.res (cB v1), .g true, .g true, .g true, .g true, .g true, .g true, .res (cI v4), .g true, .g true] [] [(4, cB (decide (v4 ≥ 0)))] [] (fun t => aI (i_inRange_ok p1 0 (W ((W ((W (3 * p0.Width)) * p0.Height)) - 1)) v1 h2) (aI c3 (aI c3 (aI c3 (aI (by decide : (3 : Int) ≠ 0) (aI c3 (aI c3 (aI (by decide : (3 : Int) ≠ 0) (aI c3 (aI (i_nextTo_ok p0 (W (Int.tdiv p1 3)) (Int.tmod p1 3) v4 h5) (aI c3 (aI c3 (t))))))))))))) ?_
  refine ends_ret ?_
  cases H
  exact And.intro (.inl rfl) rfl
 ·refine so [.res (cB v1), .g false, .g false, .g false, .g false, .g false, .g false, .g false, .g false] [] [(4, cB false)] [] (fun t => aI (i_inRange_ok p1 0 (W ((W ((W (3 * p0.Width)) * p0.Height)) - 1)) v1 h2) (aI c3 (aI c3 (aI c3 (aI c3 (aI c3 (aI c3 (aI c3 (aI c3 (t)))))))))) ?_
  refine ends_ret ?_
  cases H
  exact And.intro (.inl rfl) rfl
def i_IsMap_ir : S :=
 (sq [o 1 (.box 5 (.t 0)), o 2 (.mv (.v (.bool false)))]
 (.seq (sq [o 9 (.fad 0 (.t 1)), o 10 (.load 1 false (.t 9)), o 11 (.call 94 [.t 10, .v (.int .i64 1), .v (.int .i64 10)]), o 12 (.not (.t 11)), om 13 12, ⟨some 14, .fad 1 (.t 1), some (13, false)⟩, ⟨some 15, .load 1 false (.t 14), some (13, false)⟩, ⟨some 16, .call 94 [.t 15, .v (.int .i64 1), .v (.int .i64 10)], some (13, false)⟩, ⟨some 17, .not (.t 16), some (13, false)⟩, o 18 (.pick (.t 13) (.v (.bool true)) (.t 17)), om 19 18, ⟨some 20, .fad 2 (.t 1), some (19, false)⟩, ⟨some 21, .load 1 false (.t 20), some (19, false)⟩, ⟨some 22, .len (.t 21), some (19, false)⟩, ⟨some 23, .fad 0 (.t 1), some (19, false)⟩, ⟨some 24, .load 1 false (.t 23), some (19, false)⟩, ⟨some 25, .fad 1 (.t 1), some (19, false)⟩, ⟨some 26, .load 1 false (.t 25), some (19, false)⟩, ⟨some 27, .bin .mul (.t 24) (.t 26), some (19, false)⟩, ⟨some 28, .bin .neq (.t 22) (.t 27), some (19, false)⟩, o 29 (.pick (.t 19) (.v (.bool true)) (.t 28))]
 (.ite (.t 29) (sq [o 2 (.mv (.v (.bool false)))]
  .ret)
 .skip))
 (.seq (sq [o 30 (.fad 2 (.t 1)), o 31 (.load 1 false (.t 30)), o 32 (.len (.t 31)), o 33 (.mv (iv 0))]
 (.blk 0 (.loop (sq [o 34 (.bin .lss (.t 33) (.t 32))]
   (.seq (.ite (.t 34) .skip
   (.exit 0))
   (.seq (.blk 1 (sq [o 35 (.iad 1 (.t 31) (.t 33)), o 36 (.load 1 false (.t 35)), om 4 36]
    (sq [om 37 4, o 38 (.call 84 [.t 37, .v (.int .i64 6)]), o 39 (.not (.t 38))]
    (.ite (.t 39) (sq [o 2 (.mv (.v (.bool false)))]
     .ret)
    .skip))))
   (.ops [o 40 (.bin .add (.t 33) (iv 1)), om 33 40])))))))
 (.seq (sq [o 41 (.fad 3 (.t 1)), o 42 (.load 1 false (.t 41)), o 43 (.fad 4 (.t 1)), o 44 (.load 1 false (.t 43)), o 45 (.bsl 1 [.t 42, .t 44]), o 46 (.len (.t 45)), o 47 (.mv (iv 0))]
 (.blk 2 (.loop (sq [o 48 (.bin .lss (.t 47) (.t 46))]
   (.seq (.ite (.t 48) .skip
   (.exit 2))
   (.seq (.blk 3 (sq [o 49 (.iad 1 (.t 45) (.t 47)), o 50 (.load 1 false (.t 49)), om 6 50]
    (.seq (sq [om 51 6, o 52 (.call 150 [.t 51]), o 53 (.not (.t 52))]
    (.ite (.t 53) (sq [o 2 (.mv (.v (.bool false)))]
     .ret)
    .skip))
    (sq [om 54 6, o 55 (.len (.t 54)), o 56 (.mv (iv 0))]
    (.blk 4 (.loop (sq [o 57 (.bin .lss (.t 56) (.t 55))]
      (.seq (.ite (.t 57) .skip
      (.exit 4))
      (.seq (.blk 5 (sq [o 58 (.iad 1 (.t 54) (.t 56)), o 59 (.load 1 false (.t 58)), om 8 59]
       (sq [o 60 (.load 5 true (.t 1)), om 61 8, o 62 (.call 207 [.t 60, .t 61]), o 63 (.not (.t 62))]
       (.ite (.t 63) (sq [o 2 (.mv (.v (.bool false)))]
        .ret)
       .skip))))
      (.ops [o 64 (.bin .add (.t 56) (iv 1)), om 56 64]))))))))))
   (.ops [o 65 (.bin .add (.t 47) (iv 1)), om 47 65])))))))
 (sq [o 2 (.mv (.v (.bool true)))]
 .ret)))))
noncomputable def X.i_IsMap (p0 : TMap) : Option Bool :=
 ((X.i_inRange p0.Width 1 10).bind fun v8 => (bif (!v8) then some false else ((X.i_inRange p0.Height 1 10).bind fun v11 => (bif (!v11) then some false else (bif ((p0.Terrain.length : Int) != (W (p0.Width * p0.Height))) then some false else ((loop (fun (x57 : Int) => ((bif (decide (x57 < (p0.Terrain.length : Int))) then ((at' zI p0.Terrain x57).bind fun v60 => ((X.i_isIndex v60 6).bind fun v62 => (bif (!v62) then some (Sum.inr (Sum.inr false)) else some (Sum.inl (W (x57 + 1)))))) else some (Sum.inr (Sum.inl ()))) : Option (Int ⊕ (Unit ⊕ Bool)))) 0).bind fun y65 => (Sum.elim (fun (y67 : Unit) => ((loop (fun (x142 : Int) => ((bif (decide (x142 < (([p0.Rivers, p0.Roads] : List (List Int)).length : Int))) then (if 0 ≤ x142 ∧ x142 < (([p0.Rivers, p0.Roads] : List (List Int)).length : Int) then ((X.i_increasing (([p0.Rivers, p0.Roads] : List (List Int)).getD x142.toNat zLI)).bind fun v149 => (bif (!v149) then some (Sum.inr (Sum.inr false)) else ((loop (fun (x167 : Int) => ((bif (decide (x167 < ((([p0.Rivers, p0.Roads] : List (List Int)).getD x142.toNat zLI).length : Int))) then ((at' zI (([p0.Rivers, p0.Roads] : List (List Int)).getD x142.toNat zLI) x167).bind fun v170 => ((X.i_isEdge p0 v170).bind fun v172 => (bif (!v172) then some (Sum.inr (Sum.inr false)) else some (Sum.inl (W (x167 + 1)))))) else some (Sum.inr (Sum.inl ()))) : Option (Int ⊕ (Unit ⊕ Bool)))) 0).bind fun y175 => (Sum.elim (fun (y177 : Unit) => some (Sum.inl (W (x142 + 1)))) (fun (y178 : Bool) => some (Sum.inr (Sum.inr y178))) y175)))) else none) else some (Sum.inr (Sum.inl ()))) : Option (Int ⊕ (Unit ⊕ Bool)))) 0).bind fun y179 => (Sum.elim (fun (y181 : Unit) => some true) (fun (y182 : Bool) => some y182) y179))) (fun (y68 : Bool) => some y68) y65)))))))
theorem i_IsMap_ok (p0 : TMap) (r : Bool) (H : X.i_IsMap p0 = some r) : FnOk Tryz.prog gl 141 [.agg (eTMap p0)] (cB r) := by
 unfold X.i_IsMap at H
 refine fi Tryz.f141 i_IsMap_ir [(2, cB r)] [] glL Tryz.func141 ?_
 refine so [] [] [(1, pk 1)] [(1, va (eTMap p0))] id ?_
 refine seq_in ?_
 obtain ⟨v8, h9, H⟩ := ofBind H
 rcases ofCond H with ⟨c10, H⟩ | ⟨c10, H⟩
 ·refine so [.res (cB v8), .g true, .g true, .g true, .g true, .g true, .g true, .g true, .g true, .g true, .g true, .g true, .g true, .g true, .g true, .g true] [] [(1, pk 1), (29, cB true)] [(1, va (eTMap p0))] (fun t => aI (i_inRange_ok p0.Width 1 10 v8 h9) (aI c10 (aI c10 (aI c10 (aI c10 (aI c10 (aI (rfl : (true : Bool) = true) (aI (rfl : (true : Bool) = true) (aI (rfl : (true : Bool) = true) (aI (rfl : (true : Bool) = true) (aI (rfl : (true : Bool) = true) (aI (rfl : (true : Bool) = true) (aI (rfl : (true : Bool) = true) (aI (rfl : (true : Bool) = true) (aI (rfl : (true : Bool) = true) (aI (rfl : (true : Bool) = true) (t))))))))))))))))) ?_
  refine it (rfl : (true : Bool) = true) ?_
  refine so [] [] [(2, cB false)] [] id ?_
  refine ends_ret ?_
  cases H
  exact And.intro (.inl rfl) rfl
 ·obtain ⟨v11, h12, H⟩ := ofBind H
  rcases ofCond H with ⟨c13, H⟩ | ⟨c13, H⟩
  ·refine so [.res (cB v8), .g false, .g false, .g false, .res (cB v11), .g false, .g false, .g true, .g true, .g true, .g true, .g true, .g true, .g true, .g true, .g true, .g true] [] [(1, pk 1), (29, cB true)] [(1, va (eTMap p0))] (fun t => aI (i_inRange_ok p0.Width 1 10 v8 h9) (aI c10 (aI c10 (aI c10 (aI (i_inRange_ok p0.Height 1 10 v11 h12) (aI c10 (aI c10 (aI c13 (aI c13 (aI c13 (aI c13 (aI c13 (aI c13 (aI c13 (aI c13 (aI c13 (aI c13 (t)))))))))))))))))) ?_
   refine it (rfl : (true : Bool) = true) ?_
   refine so [] [] [(2, cB false)] [] id ?_
   refine ends_ret ?_
   cases H
   exact And.intro (.inl rfl) rfl
  ·refine so [.res (cB v8), .g false, .g false, .g false, .res (cB v11), .g false, .g false, .g false, .g false, .g false, .g false, .g false, .g false, .g false, .g false, .g false, .g false] [] [(1, pk 1), (29, cB ((p0.Terrain.length : Int) != (W (p0.Width * p0.Height))))] [(1, va (eTMap p0))] (fun t => aI (i_inRange_ok p0.Width 1 10 v8 h9) (aI c10 (aI c10 (aI c10 (aI (i_inRange_ok p0.Height 1 10 v11 h12) (aI c10 (aI c10 (aI c13 (aI c13 (aI c13 (lI p0.Terrain (aI c13 (aI c13 (aI c13 (aI c13 (aI c13 (aI c13 (aI c13 (t))))))))))))))))))) ?_
   rcases ofCond H with ⟨c14, H⟩ | ⟨c14, H⟩
   ·refine it c14 ?_
    refine so [] [] [(2, cB false)] [] id ?_
    refine ends_ret ?_
    cases H
    exact And.intro (.inl rfl) rfl
   ·refine jf c14 ?_
    refine sk ?_
    refine seq_in ?_
    refine so [] [] [(1, pk 1), (31, dc 1 eI zI p0.Terrain), (32, cL p0.Terrain), (33, cI 0)] [(1, va (eTMap p0))] (fun t => lI p0.Terrain (t)) ?_
    refine ends_blk ?_
    obtain ⟨y65, h66, H⟩ := ofBind H
    refine loop_in (fun (x : Int) => lit [(1, pk 1), (31, dc 1 eI zI p0.Terrain), (32, cL p0.Terrain), (33, cI x)] [(1, va (eTMap p0))]) (orJ (fun (z : Unit) => At (.exit 0) (lit [(1, pk 1)] [(1, va (eTMap p0))])) (fun (z : Bool) => At .ret (lit [(2, cB z)] []))) h66 ?_ ?_
    ·clear H h66
     intro x57 y0 H
     refine so [] [] [(1, pk 1), (31, dc 1 eI zI p0.Terrain), (32, cL p0.Terrain), (33, cI x57), (34, cB (decide (x57 < (p0.Terrain.length : Int))))] [(1, va (eTMap p0))] id ?_
     refine seq_in ?_
     rcases ofCond H with ⟨c59, H⟩ | ⟨c59, H⟩
     ·refine it c59 ?_
      refine sk ?_
      refine seq_in ?_
      refine ends_blk ?_
      obtain ⟨v60, h61, H⟩ := ofBind H
      refine so [.cs (eI v60)] [] [(1, pk 1), (4, cI v60), (31, dc 1 eI zI p0.Terrain), (32, cL p0.Terrain), (33, cI x57)] [(1, va (eTMap p0))] (a2 eI h61) ?_
      obtain ⟨v62, h63, H⟩ := ofBind H
      refine so [.res (cB v62)] [] [(1, pk 1), (31, dc 1 eI zI p0.Terrain), (32, cL p0.Terrain), (33, cI x57), (39, cB (!v62))] [(1, va (eTMap p0))] (aI (i_isIndex_ok v60 6 v62 h63)) ?_
      rcases ofCond H with ⟨c64, H⟩ | ⟨c64, H⟩
      ·refine it c64 ?_
       refine so [] [] [(2, cB false)] [] id ?_
       refine ends_ret ?_
       cases H
       exact And.intro (by simp) (And.intro rfl rfl)
      ·refine jf c64 ?_
       refine sk ?_
       refine oo [] [] [(1, pk 1), (31, dc 1 eI zI p0.Terrain), (32, cL p0.Terrain), (33, cI (W (x57 + 1)))] [(1, va (eTMap p0))] id ?_
       cases H
       exact And.intro rfl rfl
     ·refine jf c59 ?_
      refine tl [] [(1, pk 1)] [(1, va (eTMap p0))] id ?_
      refine ends_exit ?_
      cases H
      exact And.intro (by simp) (And.intro rfl rfl)
    ·clear h66
     cases y65 with
     | inl y67 =>
      replace H := ofInl H
      intro e s q
      obtain ⟨rfl, rfl⟩ := q
      change EndsI _ _ _ _ _ _
      refine seq_in ?_
      refine so [fh eLI zLI ([p0.Rivers, p0.Roads] : List (List Int))] [] [(1, pk 1), (45, ow 45 1 ([p0.Rivers, p0.Roads] : List (List Int))), (46, cL ([p0.Rivers, p0.Roads] : List (List Int))), (47, cI 0)] [(1, va (eTMap p0)), (45, ar 1 eLI zLI ([p0.Rivers, p0.Roads] : List (List Int)))] (fun t => aI (rfl : ([p0.Rivers, p0.Roads] : List (List Int)).length = 2) (aI (fF_lit eLI zLI ([p0.Rivers, p0.Roads] : List (List Int))) ((fun (_ : ([p0.Rivers, p0.Roads] : List (List Int)).length ≤ maxLen) => t)))) ?_
      refine ends_blk ?_
      obtain ⟨y179, h180, H⟩ := ofBind H
      refine loop_in (fun (x : Int) => lit [(1, pk 1), (45, ow 45 1 ([p0.Rivers, p0.Roads] : List (List Int))), (46, cL ([p0.Rivers, p0.Roads] : List (List Int))), (47, cI x)] [(1, va (eTMap p0)), (45, ar 1 eLI zLI ([p0.Rivers, p0.Roads] : List (List Int)))]) (orJ (fun (z : Unit) => At (.exit 2) (lit [] [])) (fun (z : Bool) => At .ret (lit [(2, cB z)] []))) h180 ?_ ?_
      ·clear H h180
       intro x142 y0 H
       refine so [] [] [(1, pk 1), (45, ow 45 1 ([p0.Rivers, p0.Roads] : List (List Int))), (46, cL ([p0.Rivers, p0.Roads] : List (List Int))), (47, cI x142), (48, cB (decide (x142 < (([p0.Rivers, p0.Roads] : List (List Int)).length : Int))))] [(1, va (eTMap p0)), (45, ar 1 eLI zLI ([p0.Rivers, p0.Roads] : List (List Int)))] id ?_
       refine seq_in ?_
       rcases ofCond H with ⟨c144, H⟩ | ⟨c144, H⟩
       ·refine it c144 ?_
        refine sk ?_
        refine seq_in ?_
        refine ends_blk ?_
        obtain ⟨g145, H⟩ := ofIf H
        refine so [.no] [] [(1, pk 1), (6, .c (dat 1 eI zI (([p0.Rivers, p0.Roads] : List (List Int)).getD x142.toNat zLI))), (45, ow 45 1 ([p0.Rivers, p0.Roads] : List (List Int))), (46, cL ([p0.Rivers, p0.Roads] : List (List Int))), (47, cI x142)] [(1, va (eTMap p0)), (45, ar 1 eLI zLI ([p0.Rivers, p0.Roads] : List (List Int)))] (fun t => aI g145 (aI (nat_lt g145) (t))) ?_
        refine seq_in ?_
        obtain ⟨v149, h150, H⟩ := ofBind H
        refine so [.res (cB v149)] [] [(1, pk 1), (6, .c (dat 1 eI zI (([p0.Rivers, p0.Roads] : List (List Int)).getD x142.toNat zLI))), (45, ow 45 1 ([p0.Rivers, p0.Roads] : List (List Int))), (46, cL ([p0.Rivers, p0.Roads] : List (List Int))), (47, cI x142), (53, cB (!v149))] [(1, va (eTMap p0)), (45, ar 1 eLI zLI ([p0.Rivers, p0.Roads] : List (List Int)))] (aI (i_increasing_ok (([p0.Rivers, p0.Roads] : List (List Int)).getD x142.toNat zLI) v149 h150)) ?_
        rcases ofCond H with ⟨c151, H⟩ | ⟨c151, H⟩
        ·refine it c151 ?_
         refine so [] [] [(2, cB false)] [] id ?_
         refine ends_ret ?_
         cases H
         exact And.intro (by simp) (And.intro rfl rfl)
        ·refine jf c151 ?_
         refine sk ?_
         refine so [] [] [(1, pk 1), (45, ow 45 1 ([p0.Rivers, p0.Roads] : List (List Int))), (46, cL ([p0.Rivers, p0.Roads] : List (List Int))), (47, cI x142), (54, .c (dat 1 eI zI (([p0.Rivers, p0.Roads] : List (List Int)).getD x142.toNat zLI))), (55, cL (([p0.Rivers, p0.Roads] : List (List Int)).getD x142.toNat zLI)), (56, cI 0)] [(1, va (eTMap p0)), (45, ar 1 eLI zLI ([p0.Rivers, p0.Roads] : List (List Int)))] (fun t => (fun (_ : (([p0.Rivers, p0.Roads] : List (List Int)).getD x142.toNat zLI).length ≤ maxLen) => t)) ?_
         refine ends_blk ?_
         obtain ⟨y175, h176, H⟩ := ofBind H
         refine loop_in (fun (x : Int) => lit [(1, pk 1), (45, ow 45 1 ([p0.Rivers, p0.Roads] : List (List Int))), (46, cL ([p0.Rivers, p0.Roads] : List (List Int))), (47, cI x142), (54, .c (dat 1 eI zI (([p0.Rivers, p0.Roads] : List (List Int)).getD x142.toNat zLI))), (55, cL (([p0.Rivers, p0.Roads] : List (List Int)).getD x142.toNat zLI)), (56, cI x)] [(1, va (eTMap p0)), (45, ar 1 eLI zLI ([p0.Rivers, p0.Roads] : List (List Int)))]) (orJ (fun (z : Unit) => At (.exit 4) (lit [(1, pk 1), (45, ow 45 1 ([p0.Rivers, p0.Roads] : List (List Int))), (46, cL ([p0.Rivers, p0.Roads] : List (List Int))), (47, cI x142)] [(1, va (eTMap p0)), (45, ar 1 eLI zLI ([p0.Rivers, p0.Roads] : List (List Int)))])) (fun (z : Bool) => At .ret (lit [(2, cB z)] []))) h176 ?_ ?_
         ·clear H h176
          intro x167 y0 H
          refine so [] [] [(1, pk 1), (45, ow 45 1 ([p0.Rivers, p0.Roads] : List (List Int))), (46, cL ([p0.Rivers, p0.Roads] : List (List Int))), (47, cI x142), (54, .c (dat 1 eI zI (([p0.Rivers, p0.Roads] : List (List Int)).getD x142.toNat zLI))), (55, cL (([p0.Rivers, p0.Roads] : List (List Int)).getD x142.toNat zLI)), (56, cI x167), (57, cB (decide (x167 < ((([p0.Rivers, p0.Roads] : List (List Int)).getD x142.toNat zLI).length : Int))))] [(1, va (eTMap p0)), (45, ar 1 eLI zLI ([p0.Rivers, p0.Roads] : List (List Int)))] id ?_
          refine seq_in ?_
          rcases ofCond H with ⟨c169, H⟩ | ⟨c169, H⟩
          ·refine it c169 ?_
           refine sk ?_
           refine seq_in ?_
           refine ends_blk ?_
           obtain ⟨v170, h171, H⟩ := ofBind H
           refine so [.cs (eI v170)] [] [(1, pk 1), (8, cI v170), (45, ow 45 1 ([p0.Rivers, p0.Roads] : List (List Int))), (46, cL ([p0.Rivers, p0.Roads] : List (List Int))), (47, cI x142), (54, .c (dat 1 eI zI (([p0.Rivers, p0.Roads] : List (List Int)).getD x142.toNat zLI))), (55, cL (([p0.Rivers, p0.Roads] : List (List Int)).getD x142.toNat zLI)), (56, cI x167)] [(1, va (eTMap p0)), (45, ar 1 eLI zLI ([p0.Rivers, p0.Roads] : List (List Int)))] (a2 eI h171) ?_
           obtain ⟨v172, h173, H⟩ := ofBind H
           refine so [.res (cB v172)] [] [(1, pk 1), (45, ow 45 1 ([p0.Rivers, p0.Roads] : List (List Int))), (46, cL ([p0.Rivers, p0.Roads] : List (List Int))), (47, cI x142), (54, .c (dat 1 eI zI (([p0.Rivers, p0.Roads] : List (List Int)).getD x142.toNat zLI))), (55, cL (([p0.Rivers, p0.Roads] : List (List Int)).getD x142.toNat zLI)), (56, cI x167), (63, cB (!v172))] [(1, va (eTMap p0)), (45, ar 1 eLI zLI ([p0.Rivers, p0.Roads] : List (List Int)))] (aI (i_isEdge_ok p0 v170 v172 h173)) ?_
           rcases ofCond H with ⟨c174, H⟩ | ⟨c174, H⟩
           ·refine it c174 ?_
            refine so [] [] [(2, cB false)] [] id ?_
            refine ends_ret ?_
            cases H
            exact And.intro (by simp) (And.intro rfl rfl)
           ·refine jf c174 ?_
            refine sk ?_
            refine oo [] [] [(1, pk 1), (45, ow 45 1 ([p0.Rivers, p0.Roads] : List (List Int))), (46, cL ([p0.Rivers, p0.Roads] : List (List Int))), (47, cI x142), (54, .c (dat 1 eI zI (([p0.Rivers, p0.Roads] : List (List Int)).getD x142.toNat zLI))), (55, cL (([p0.Rivers, p0.Roads] : List (List Int)).getD x142.toNat zLI)), (56, cI (W (x167 + 1)))] [(1, va (eTMap p0)), (45, ar 1 eLI zLI ([p0.Rivers, p0.Roads] : List (List Int)))] id ?_
            cases H
            exact And.intro rfl rfl
          ·refine jf c169 ?_
           refine tl [] [(1, pk 1), (45, ow 45 1 ([p0.Rivers, p0.Roads] : List (List Int))), (46, cL ([p0.Rivers, p0.Roads] : List (List Int))), (47, cI x142)] [(1, va (eTMap p0)), (45, ar 1 eLI zLI ([p0.Rivers, p0.Roads] : List (List Int)))] id ?_
           refine ends_exit ?_
           cases H
           exact And.intro (by simp) (And.intro rfl rfl)
         ·clear h176
          cases y175 with
          | inl y177 =>
           replace H := ofInl H
           intro e s q
           obtain ⟨rfl, rfl⟩ := q
           change EndsI _ _ _ _ _ _
           refine oo [] [] [(1, pk 1), (45, ow 45 1 ([p0.Rivers, p0.Roads] : List (List Int))), (46, cL ([p0.Rivers, p0.Roads] : List (List Int))), (47, cI (W (x142 + 1)))] [(1, va (eTMap p0)), (45, ar 1 eLI zLI ([p0.Rivers, p0.Roads] : List (List Int)))] id ?_
           cases H
           exact And.intro rfl rfl
          | inr y178 =>
           replace H := ofInr H
           intro e s q
           obtain ⟨rfl, rfl⟩ := q
           cases H
           exact And.intro (by simp) (And.intro rfl rfl)
       ·refine jf c144 ?_
        refine tl [] [] [] id ?_
        refine ends_exit ?_
        cases H
        exact And.intro (by simp) (And.intro rfl rfl)
      ·clear h180
       cases y179 with
       | inl y181 =>
        replace H := ofInl H
        intro e s q
        obtain ⟨rfl, rfl⟩ := q
        change EndsI _ _ _ _ _ _
        refine so [] [] [(2, cB true)] [] id ?_
        refine ends_ret ?_
        cases H
        exact And.intro (.inl rfl) rfl
       | inr y182 =>
        replace H := ofInr H
        intro e s q
        obtain ⟨rfl, rfl⟩ := q
        cases H
        exact And.intro (.inl rfl) rfl
     | inr y68 =>
      replace H := ofInr H
      intro e s q
      obtain ⟨rfl, rfl⟩ := q
      cases H
      exact And.intro (.inl rfl) rfl
theorem g_IndexFunc_int_c1_ok (p0 : (List Int)) (cf1 : FuncId) (cs1_0 : List AC) (f1 : Int → Option Bool) (hf1 : ∀ q0 r, f1 q0 = some r → FnOk Tryz.prog gl cf1 [cI q0, .c (.pd cs1_0 0)] (cB r)) (r : Int) (H : X.g_IndexFunc_int p0 f1 = some r) : FnOk Tryz.prog gl 208 [.c (dat 1 eI zI p0), .c (.clo cf1 [.pd cs1_0 0])] (cI r) := by
 unfold X.g_IndexFunc_int at H
 refine fi Tryz.f208 g_IndexFunc_int_ir [(4, cI r)] [] glL Tryz.func208 ?_
 refine so [] [] [(0, dc 1 eI zI p0), (1, .c (.clo cf1 [.pd cs1_0 0]))] [] id ?_
 refine seq_in ?_
 refine so [] [] [(0, dc 1 eI zI p0), (1, .c (.clo cf1 [.pd cs1_0 0])), (7, cL p0), (8, cI 0)] [] (fun t => lI p0 (t)) ?_
 refine ends_blk ?_
 obtain ⟨y24, h25, H⟩ := ofBind H
 refine loop_in (fun (x : Int) => lit [(0, dc 1 eI zI p0), (1, .c (.clo cf1 [.pd cs1_0 0])), (7, cL p0), (8, cI x)] []) (orJ (fun (z : Unit) => At (.exit 0) (lit [] [])) (fun (z : Int) => At .ret (lit [(4, cI z)] []))) h25 ?_ ?_
 ·clear H h25
  intro x16 y0 H
  refine so [] [] [(0, dc 1 eI zI p0), (1, .c (.clo cf1 [.pd cs1_0 0])), (7, cL p0), (8, cI x16), (9, cB (decide (x16 < (p0.length : Int))))] [] id ?_
  refine seq_in ?_
  rcases ofCond H with ⟨c18, H⟩ | ⟨c18, H⟩
  ·refine it c18 ?_
   refine sk ?_
   refine seq_in ?_
   refine ends_blk ?_
   refine so [] [] [(0, dc 1 eI zI p0), (1, .c (.clo cf1 [.pd cs1_0 0])), (5, cI x16), (7, cL p0), (8, cI x16)] [] id ?_
   obtain ⟨v19, h20, H⟩ := ofBind H
   obtain ⟨v21, h22, H⟩ := ofBind H
   refine so [.cs (eI v19), .res (cB v21)] [] [(0, dc 1 eI zI p0), (1, .c (.clo cf1 [.pd cs1_0 0])), (5, cI x16), (7, cL p0), (8, cI x16), (16, cB v21)] [] (fun t => (a2 eI h20 (aI (hf1 v19 v21 h22) (t)))) ?_
   rcases ofCond H with ⟨c23, H⟩ | ⟨c23, H⟩
   ·refine it c23 ?_
    refine so [] [] [(4, cI x16)] [] id ?_
    refine ends_ret ?_
    cases H
    exact And.intro (by simp) (And.intro rfl rfl)
   ·refine jf c23 ?_
    refine sk ?_
    refine oo [] [] [(0, dc 1 eI zI p0), (1, .c (.clo cf1 [.pd cs1_0 0])), (7, cL p0), (8, cI (W (x16 + 1)))] [] id ?_
    cases H
    exact And.intro rfl rfl
  ·refine jf c18 ?_
   refine tl [] [] [] id ?_
   refine ends_exit ?_
   cases H
   exact And.intro (by simp) (And.intro rfl rfl)
 ·clear h25
  cases y24 with
  | inl y26 =>
   replace H := ofInl H
   intro e s q
   obtain ⟨rfl, rfl⟩ := q
   change EndsI _ _ _ _ _ _
   refine so [] [] [(4, cI (-1))] [] id ?_
   refine ends_ret ?_
   cases H
   exact And.intro (.inl rfl) rfl
  | inr y27 =>
   replace H := ofInr H
   intro e s q
   obtain ⟨rfl, rfl⟩ := q
   cases H
   exact And.intro (.inl rfl) rfl
theorem g_ContainsFunc_int_c1_ok (p0 : (List Int)) (cf1 : FuncId) (cs1_0 : List AC) (f1 : Int → Option Bool) (hf1 : ∀ q0 r, f1 q0 = some r → FnOk Tryz.prog gl cf1 [cI q0, .c (.pd cs1_0 0)] (cB r)) (r : Bool) (H : X.g_ContainsFunc_int p0 f1 = some r) : FnOk Tryz.prog gl 142 [.c (dat 1 eI zI p0), .c (.clo cf1 [.pd cs1_0 0])] (cB r) := by
 unfold X.g_ContainsFunc_int at H
 refine fi Tryz.f142 g_ContainsFunc_int_ir [(4, cB r)] [] glL Tryz.func142 ?_
 refine so [] [] [(0, dc 1 eI zI p0), (1, .c (.clo cf1 [.pd cs1_0 0]))] [] id ?_
 obtain ⟨v1, h2, H⟩ := ofBind H
 refine so [.res (cI v1)] [] [(4, cB (decide (v1 ≥ 0)))] [] (aI (g_IndexFunc_int_c1_ok p0 (cf1) (cs1_0) f1 hf1 v1 h2)) ?_
 refine ends_ret ?_
 cases H
 exact And.intro (.inl rfl) rfl
def i_IsBoard_1_ir : S :=
 (sq [o 3 (.mv (.v (.bool false)))]
 (sq [om 4 0, o 5 (.fad 0 (.t 1)), o 6 (.fad 0 (.t 5)), o 7 (.load 1 false (.t 6)), o 8 (.len (.t 7)), o 9 (.bin .geq (.t 4) (.t 8)), om 3 9]
 .ret))
noncomputable def X.i_IsBoard_1 (p0 : Int) (p1 : TBoard) : Option Bool :=
 some (decide (p0 ≥ (p1.Rules.Terrains.length : Int)))
theorem i_IsBoard_1_ok (p0 : Int) (p1 : TBoard) (r : Bool) (H : X.i_IsBoard_1 p0 p1 = some r) : FnOk Tryz.prog gl 143 [cI p0, .c (.pd (eTBoard p1) 0)] (cB r) := by
 unfold X.i_IsBoard_1 at H
 refine fi Tryz.f143 i_IsBoard_1_ir [(3, cB r)] [] glL Tryz.func143 ?_
 refine so [] [] [(0, cI p0), (1, .c (.pd (eTBoard p1) 0))] [] id ?_
 refine so [] [] [(3, cB (decide (p0 ≥ (p1.Rules.Terrains.length : Int))))] [] (fun t => lI p1.Rules.Terrains (t)) ?_
 refine ends_ret ?_
 cases H
 exact And.intro (.inl rfl) rfl
def i_IsBoard_ir : S :=
 (sq [o 1 (.box 12 (.t 0)), o 2 (.mv (.v (.bool false)))]
 (.seq (sq [o 3 (.fad 0 (.t 1)), o 4 (.load 7 true (.t 3)), o 5 (.call 140 [.t 4]), o 6 (.not (.t 5)), om 7 6, ⟨some 8, .fad 7 (.t 1), some (7, false)⟩, ⟨some 9, .load 5 true (.t 8), some (7, false)⟩, ⟨some 10, .call 141 [.t 9], some (7, false)⟩, ⟨some 11, .not (.t 10), some (7, false)⟩, o 12 (.pick (.t 7) (.v (.bool true)) (.t 11))]
 (.ite (.t 12) (sq [o 2 (.mv (.v (.bool false)))]
  .ret)
 .skip))
 (sq [o 13 (.fad 7 (.t 1)), o 14 (.fad 2 (.t 13)), o 15 (.load 1 false (.t 14)), o 16 (.clo 143 [.t 1]), o 17 (.call 142 [.t 15, .t 16]), o 18 (.not (.t 17)), om 2 18]
 .ret)))
noncomputable def X.i_IsBoard (p0 : TBoard) : Option Bool :=
 ((X.i_IsRules p0.Rules).bind fun v7 => (bif (!v7) then some false else ((X.i_IsMap p0.Map).bind fun v10 => (bif (!v10) then some false else ((X.g_ContainsFunc_int p0.Map.Terrain (fun q0 => X.i_IsBoard_1 q0 p0)).bind fun v13 => some (!v13))))))
theorem i_IsBoard_ok (p0 : TBoard) (r : Bool) (H : X.i_IsBoard p0 = some r) : FnOk Tryz.prog gl 62 [.agg (eTBoard p0)] (cB r) := by
 unfold X.i_IsBoard at H
 refine fi Tryz.f62 i_IsBoard_ir [(2, cB r)] [] glL Tryz.func62 ?_
 refine so [] [] [(1, pk 1)] [(1, va (eTBoard p0))] id ?_
 refine seq_in ?_
 obtain ⟨v7, h8, H⟩ := ofBind H
 rcases ofCond H with ⟨c9, H⟩ | ⟨c9, H⟩
 ·refine so [.res (cB v7), .g true, .g true, .g true, .g true, .g true] [] [(1, pk 1), (12, cB true)] [(1, va (eTBoard p0))] (fun t => aI (i_IsRules_ok p0.Rules v7 h8) (aI c9 (aI c9 (aI c9 (aI c9 (aI c9 (t))))))) ?_
  refine it (rfl : (true : Bool) = true) ?_
  refine so [] [] [(2, cB false)] [] id ?_
  refine ends_ret ?_
  cases H
  exact And.intro (.inl rfl) rfl
 ·obtain ⟨v10, h11, H⟩ := ofBind H
  refine so [.res (cB v7), .g false, .g false, .g false, .res (cB v10), .g false, .g false] [] [(1, pk 1), (12, cB (!v10))] [(1, va (eTBoard p0))] (fun t => aI (i_IsRules_ok p0.Rules v7 h8) (aI c9 (aI c9 (aI c9 (aI (i_IsMap_ok p0.Map v10 h11) (aI c9 (aI c9 (t)))))))) ?_
  rcases ofCond H with ⟨c12, H⟩ | ⟨c12, H⟩
  ·refine it c12 ?_
   refine so [] [] [(2, cB false)] [] id ?_
   refine ends_ret ?_
   cases H
   exact And.intro (.inl rfl) rfl
  ·refine jf c12 ?_
   refine sk ?_
   obtain ⟨v13, h14, H⟩ := ofBind H
   refine so [.res (cB v13)] [] [(2, cB (!v13))] [] (aI (g_ContainsFunc_int_c1_ok p0.Map.Terrain (143) (eTBoard p0) (fun q0 => X.i_IsBoard_1 q0 p0) (fun q0 r h => i_IsBoard_1_ok q0 p0 r h) v13 h14)) ?_
   refine ends_ret ?_
   cases H
   exact And.intro (.inl rfl) rfl
def i_sizeOf_ir : S :=
 (sq [o 1 (.box 12 (.t 0)), o 2 (.mv (iv 0))]
 (sq [o 3 (.fad 7 (.t 1)), o 4 (.fad 2 (.t 3)), o 5 (.load 1 false (.t 4)), o 6 (.len (.t 5)), om 2 6]
 .ret))
noncomputable def X.i_sizeOf (p0 : TBoard) : Option Int :=
 some (p0.Map.Terrain.length : Int)
theorem i_sizeOf_ok (p0 : TBoard) (r : Int) (H : X.i_sizeOf p0 = some r) : FnOk Tryz.prog gl 85 [.agg (eTBoard p0)] (cI r) := by
 unfold X.i_sizeOf at H
 refine fi Tryz.f85 i_sizeOf_ir [(2, cI r)] [] glL Tryz.func85 ?_
 refine so [] [] [(1, pk 1)] [(1, va (eTBoard p0))] id ?_
 refine so [] [] [(2, cL p0.Map.Terrain)] [] (fun t => lI p0.Map.Terrain (t)) ?_
 refine ends_ret ?_
 cases H
 exact And.intro (.inl rfl) rfl
def i_isSide_ir : S :=
 (sq [o 2 (.mv (.v (.bool false)))]
 (sq [om 3 0, o 4 (.call 94 [.t 3, .v (.int .i64 0), .v (.int .i64 1)]), om 2 4]
 .ret))
noncomputable def X.i_isSide (p0 : Int) : Option Bool :=
 ((X.i_inRange p0 0 1).bind fun v1 => some v1)
theorem i_isSide_ok (p0 : Int) (r : Bool) (H : X.i_isSide p0 = some r) : FnOk Tryz.prog gl 148 [cI p0] (cB r) := by
 unfold X.i_isSide at H
 refine fi Tryz.f148 i_isSide_ir [(2, cB r)] [] glL Tryz.func148 ?_
 refine so [] [] [(0, cI p0)] [] id ?_
 obtain ⟨v1, h2, H⟩ := ofBind H
 refine so [.res (cB v1)] [] [(2, cB v1)] [] (aI (i_inRange_ok p0 0 1 v1 h2)) ?_
 refine ends_ret ?_
 cases H
 exact And.intro (.inl rfl) rfl
def i_terrainAt_ir : S :=
 (sq [o 2 (.box 12 (.t 0)), o 4 (.alloc [.str [], .nil, .int .i64 0, .int .i64 0, .bool false])]
 (.seq (.draw 11 [o 5 (.fad 0 (.t 2)), o 6 (.fad 0 (.t 5)), o 7 (.load 1 false (.t 6)), o 8 (.fad 7 (.t 2)), o 9 (.fad 2 (.t 8)), o 10 (.load 1 false (.t 9)), om 11 1, o 12 (.iad 1 (.t 10) (.t 11)), o 13 (.load 1 false (.t 12)), o 14 (.iad 5 (.t 7) (.t 13)), o 15 (.load 5 true (.t 14)), ⟨none, .store 5 (.t 4) (.t 15), none⟩])
 .ret))
noncomputable def X.i_terrainAt (p0 : TBoard) (p1 : Int) : Option TTerrain :=
 ((at' zI p0.Map.Terrain p1).bind fun v1 => ((at' zTTerrain p0.Rules.Terrains v1).bind fun v3 => some v3))
theorem i_terrainAt_ok (p0 : TBoard) (p1 : Int) (r : TTerrain) (H : X.i_terrainAt p0 p1 = some r) : FnOk Tryz.prog gl 270 [.agg (eTBoard p0), cI p1] (.agg (eTTerrain r)) := by
 unfold X.i_terrainAt at H
 refine fi Tryz.f270 i_terrainAt_ir [(4, pk 4)] [(4, va (eTTerrain r))] glL Tryz.func270 ?_
 refine so [] [] [(1, cI p1), (2, pk 2), (4, pk 4)] [(2, va (eTBoard p0)), (4, .var [.str [], .nil, .int .i64 0, .int .i64 0, .bool false] false)] id ?_
 obtain ⟨v1, h2, H⟩ := ofBind H
 obtain ⟨v3, h4, H⟩ := ofBind H
 refine sd [.cs (eI v1), .cs (eTTerrain v3)] [] [(4, pk 4)] [(4, va (eTTerrain v3))] (fun t => (a2 eI h2 (aI (rfl : ([] : List Nat) = []) ((a2 eTTerrain h4 (aI (rfl : ([] : List Nat) = []) (t))))))) ?_
 refine ends_ret ?_
 cases H
 exact And.intro (.inl rfl) rfl
def i_enterCost_ir : S :=
 (sq [o 3 (.box 12 (.t 0)), o 6 (.mv (iv 0))]
 (sq [o 7 (.load 12 true (.t 3)), om 8 2, o 9 (.call 270 [.t 7, .t 8]), o 10 (.fld 1 1 false (.t 9)), om 11 1, o 12 (.iad 1 (.t 10) (.t 11)), o 13 (.load 1 false (.t 12)), om 6 13]
 .ret))
noncomputable def X.i_enterCost (p0 : TBoard) (p1 : Int) (p2 : Int) : Option Int :=
 ((X.i_terrainAt p0 p2).bind fun v1 => ((at' zI v1.Cost p1).bind fun v3 => some v3))
theorem i_enterCost_ok (p0 : TBoard) (p1 : Int) (p2 : Int) (r : Int) (H : X.i_enterCost p0 p1 p2 = some r) : FnOk Tryz.prog gl 215 [.agg (eTBoard p0), cI p1, cI p2] (cI r) := by
 unfold X.i_enterCost at H
 refine fi Tryz.f215 i_enterCost_ir [(6, cI r)] [] glL Tryz.func215 ?_
 refine so [] [] [(1, cI p1), (2, cI p2), (3, pk 3)] [(3, va (eTBoard p0))] id ?_
 obtain ⟨v1, h2, H⟩ := ofBind H
 obtain ⟨v3, h4, H⟩ := ofBind H
 refine so [.res (.agg (eTTerrain v1)), .cs (eI v3)] [] [(6, cI v3)] [] (fun t => aI (i_terrainAt_ok p0 p2 v1 h2) ((a2 eI h4 (t)))) ?_
 refine ends_ret ?_
 cases H
 exact And.intro (.inl rfl) rfl
def i_goodUnit_ir : S :=
 (sq [o 2 (.box 12 (.t 0)), o 3 (.box 4 (.t 1)), o 4 (.mv (.v (.bool false)))]
 (.seq (.seq (.draw 28 [o 5 (.fad 0 (.t 3)), o 6 (.load 1 false (.t 5)), o 7 (.call 148 [.t 6]), o 8 (.not (.t 7)), om 9 8, ⟨some 10, .fad 1 (.t 3), some (9, false)⟩, ⟨some 11, .load 1 false (.t 10), some (9, false)⟩, ⟨some 12, .fad 0 (.t 2), some (9, false)⟩, ⟨some 13, .fad 1 (.t 12), some (9, false)⟩, ⟨some 14, .load 1 false (.t 13), some (9, false)⟩, ⟨some 15, .len (.t 14), some (9, false)⟩, ⟨some 16, .call 84 [.t 11, .t 15], some (9, false)⟩, ⟨some 17, .not (.t 16), some (9, false)⟩, o 18 (.pick (.t 9) (.v (.bool true)) (.t 17)), om 19 18, ⟨some 20, .fad 3 (.t 3), some (19, false)⟩, ⟨some 21, .load 1 false (.t 20), some (19, false)⟩, ⟨some 22, .fad 0 (.t 2), some (19, false)⟩, ⟨some 23, .fad 1 (.t 22), some (19, false)⟩, ⟨some 24, .load 1 false (.t 23), some (19, false)⟩, ⟨some 25, .fad 1 (.t 3), some (19, false)⟩, ⟨some 26, .load 1 false (.t 25), some (19, false)⟩, ⟨some 27, .iad 6 (.t 24) (.t 26), some (19, false)⟩, ⟨some 28, .fad 3 (.t 27), some (19, false)⟩, ⟨some 29, .load 1 false (.t 28), some (19, false)⟩, ⟨some 30, .call 94 [.t 21, .v (.int .i64 0), .t 29], some (19, false)⟩, ⟨some 31, .not (.t 30), some (19, false)⟩, o 32 (.pick (.t 19) (.v (.bool true)) (.t 31))])
 (.ite (.t 32) (sq [o 4 (.mv (.v (.bool false)))]
  .ret)
 .skip))
 (.seq (sq [o 33 (.fad 2 (.t 3)), o 34 (.load 1 false (.t 33)), o 35 (.bin .eql (.t 34) (.v (.int .i64 (-1))))]
 (.ite (.t 35) (sq [o 4 (.mv (.v (.bool true)))]
  .ret)
 .skip))
 (.seq (.draw 20 [o 36 (.fad 3 (.t 3)), o 37 (.load 1 false (.t 36)), o 38 (.bin .gtr (.t 37) (iv 0)), om 39 38, ⟨some 40, .fad 2 (.t 3), some (39, true)⟩, ⟨some 41, .load 1 false (.t 40), some (39, true)⟩, ⟨some 42, .load 12 true (.t 2), some (39, true)⟩, ⟨some 43, .call 85 [.t 42], some (39, true)⟩, ⟨some 44, .call 84 [.t 41, .t 43], some (39, true)⟩, o 45 (.pick (.t 39) (.t 44) (.v (.bool false))), om 46 45, ⟨some 47, .load 12 true (.t 2), some (46, true)⟩, ⟨some 48, .fad 1 (.t 3), some (46, true)⟩, ⟨some 49, .load 1 false (.t 48), some (46, true)⟩, ⟨some 50, .fad 2 (.t 3), some (46, true)⟩, ⟨some 51, .load 1 false (.t 50), some (46, true)⟩, ⟨some 52, .call 215 [.t 47, .t 49, .t 51], some (46, true)⟩, ⟨some 53, .bin .neq (.t 52) (iv 0), some (46, true)⟩, o 54 (.pick (.t 46) (.t 53) (.v (.bool false))), om 4 54])
 .ret))))
noncomputable def X.i_goodUnit (p0 : TBoard) (p1 : TUnit) : Option Bool :=
 ((X.i_isSide p1.Side).bind fun v12 => (bif (!v12) then some false else ((X.i_isIndex p1.Kind (p0.Rules.Kinds.length : Int)).bind fun v15 => (bif (!v15) then some false else ((at' zTKind p0.Rules.Kinds p1.Kind).bind fun v18 => ((X.i_inRange p1.Steps 0 v18.Steps).bind fun v20 => (bif (!v20) then some false else (bif (p1.At == (-1)) then some true else (bif (decide (p1.Steps > 0)) then ((X.i_sizeOf p0).bind fun v26 => ((X.i_isIndex p1.At v26).bind fun v28 => (bif v28 then ((X.i_enterCost p0 p1.Kind p1.At).bind fun v31 => some (v31 != 0)) else some false))) else some false)))))))))
theorem i_goodUnit_ok (p0 : TBoard) (p1 : TUnit) (r : Bool) (H : X.i_goodUnit p0 p1 = some r) : FnOk Tryz.prog gl 152 [.agg (eTBoard p0), .agg (eTUnit p1)] (cB r) := by
 unfold X.i_goodUnit at H
 refine fi Tryz.f152 i_goodUnit_ir [(4, cB r)] [] glL Tryz.func152 ?_
 refine so [] [] [(2, pk 2), (3, pk 3)] [(2, va (eTBoard p0)), (3, va (eTUnit p1))] id ?_
 refine seq_in ?_
 obtain ⟨v12, h13, H⟩ := ofBind H
 rcases ofCond H with ⟨c14, H⟩ | ⟨c14, H⟩
 ·refine sd [.res (cB v12), .g true, .g true, .g true, .g true, .g true, .g true, .g true, .g true, .g true, .g true, .g true, .g true, .g true, .g true, .g true, .g true, .g true, .g true, .g true, .g true, .g true, .g true] [] [(2, pk 2), (3, pk 3), (32, cB true)] [(2, va (eTBoard p0)), (3, va (eTUnit p1))] (fun t => aI (i_isSide_ok p1.Side v12 h13) (aI trivial (aI (rfl : ([] : List Nat) = []) (aI c14 (aI c14 (aI c14 (aI c14 (aI c14 (aI c14 (aI c14 (aI c14 (aI c14 (aI (rfl : (true : Bool) = true) (aI (rfl : (true : Bool) = true) (aI (rfl : (true : Bool) = true) (aI (rfl : (true : Bool) = true) (aI (rfl : (true : Bool) = true) (aI (rfl : (true : Bool) = true) (aI (rfl : (true : Bool) = true) (aI (rfl : (true : Bool) = true) (aI (rfl : (true : Bool) = true) (aI (rfl : (true : Bool) = true) (aI (rfl : (true : Bool) = true) (aI (rfl : (true : Bool) = true) (aI (rfl : (true : Bool) = true) (t)))))))))))))))))))))))))) ?_
  refine it (rfl : (true : Bool) = true) ?_
  refine so [] [] [(4, cB false)] [] id ?_
  refine ends_ret ?_
  cases H
  exact And.intro (.inl rfl) rfl
 ·obtain ⟨v15, h16, H⟩ := ofBind H
  rcases ofCond H with ⟨c17, H⟩ | ⟨c17, H⟩
  ·refine sd [.res (cB v12), .g false, .g false, .g false, .g false, .g false, .g false, .g false, .res (cB v15), .g false, .g false, .g true, .g true, .g true, .g true, .g true, .g true, .g true, .g true, .g true, .g true, .g true, .g true, .g true] [] [(2, pk 2), (3, pk 3), (32, cB true)] [(2, va (eTBoard p0)), (3, va (eTUnit p1))] (fun t => aI (i_isSide_ok p1.Side v12 h13) (aI trivial (aI (rfl : ([] : List Nat) = []) (aI c14 (aI c14 (aI c14 (aI c14 (aI c14 (aI c14 (aI c14 (aI (i_isIndex_ok p1.Kind (p0.Rules.Kinds.length : Int) v15 h16) (aI trivial (aI (rfl : ([] : List Nat) = []) (aI c14 (aI c14 (aI c17 (aI c17 (aI c17 (aI c17 (aI c17 (aI c17 (aI c17 (aI c17 (aI c17 (aI c17 (aI c17 (aI c17 (aI c17 (t))))))))))))))))))))))))))))) ?_
   refine it (rfl : (true : Bool) = true) ?_
   refine so [] [] [(4, cB false)] [] id ?_
   refine ends_ret ?_
   cases H
   exact And.intro (.inl rfl) rfl
  ·obtain ⟨v18, h19, H⟩ := ofBind H
   obtain ⟨v20, h21, H⟩ := ofBind H
   refine sd [.res (cB v12), .g false, .g false, .g false, .g false, .g false, .g false, .g false, .res (cB v15), .g false, .g false, .g false, .g false, .g false, .g false, .g false, .g false, .g false, .g false, .cs (eTKind v18), .g false, .g false, .g false, .res (cB v20), .g false, .g false] [] [(2, pk 2), (3, pk 3), (32, cB (!v20))] [(2, va (eTBoard p0)), (3, va (eTUnit p1))] (fun t => aI (i_isSide_ok p1.Side v12 h13) (aI trivial (aI (rfl : ([] : List Nat) = []) (aI c14 (aI c14 (aI c14 (aI c14 (aI c14 (aI c14 (aI c14 (aI (i_isIndex_ok p1.Kind (p0.Rules.Kinds.length : Int) v15 h16) (aI trivial (aI (rfl : ([] : List Nat) = []) (aI c14 (aI c14 (aI c17 (aI c17 (aI c17 (aI c17 (aI c17 (aI c17 (aI c17 (aI c17 ((a2 eTKind h19 (aI c17 (aI c17 (aI (rfl : ([] : List Nat) = []) (aI c17 (aI (i_inRange_ok p1.Steps 0 v18.Steps v20 h21) (aI trivial (aI (rfl : ([] : List Nat) = []) (aI c17 (aI c17 (t))))))))))))))))))))))))))))))))))) ?_
   rcases ofCond H with ⟨c22, H⟩ | ⟨c22, H⟩
   ·refine it c22 ?_
    refine so [] [] [(4, cB false)] [] id ?_
    refine ends_ret ?_
    cases H
    exact And.intro (.inl rfl) rfl
   ·refine jf c22 ?_
    refine sk ?_
    refine seq_in ?_
    refine so [] [] [(2, pk 2), (3, pk 3), (35, cB (p1.At == (-1)))] [(2, va (eTBoard p0)), (3, va (eTUnit p1))] id ?_
    rcases ofCond H with ⟨c24, H⟩ | ⟨c24, H⟩
    ·refine it c24 ?_
     refine so [] [] [(4, cB true)] [] id ?_
     refine ends_ret ?_
     cases H
     exact And.intro (.inl rfl) rfl
    ·refine jf c24 ?_
     refine sk ?_
     rcases ofCond H with ⟨c25, H⟩ | ⟨c25, H⟩
     ·obtain ⟨v26, h27, H⟩ := ofBind H
      obtain ⟨v28, h29, H⟩ := ofBind H
      rcases ofCond H with ⟨c30, H⟩ | ⟨c30, H⟩
      ·obtain ⟨v31, h32, H⟩ := ofBind H
       refine sd [.g true, .g true, .g true, .g true, .res (cI v26), .g true, .res (cB v28), .g true, .g true, .g true, .g true, .g true, .g true, .g true, .res (cI v31), .g true, .g true] [] [(4, cB (v31 != 0))] [] (fun t => aI c25 (aI c25 (aI c25 (aI c25 (aI (i_sizeOf_ok p0 v26 h27) (aI trivial (aI (rfl : ([] : List Nat) = []) (aI c25 (aI (i_isIndex_ok p1.At v26 v28 h29) (aI trivial (aI (rfl : ([] : List Nat) = []) (aI c25 (aI c30 (aI c30 (aI c30 (aI c30 (aI c30 (aI c30 (aI (i_enterCost_ok p0 p1.Kind p1.At v31 h32) (aI trivial (aI (rfl : ([] : List Nat) = []) (aI c30 (aI c30 (t)))))))))))))))))))))))) ?_
       refine ends_ret ?_
       cases H
       exact And.intro (.inl rfl) rfl
      ·refine sd [.g true, .g true, .g true, .g true, .res (cI v26), .g true, .res (cB v28), .g true, .g false, .g false, .g false, .g false, .g false, .g false, .g false, .g false] [] [(4, cB false)] [] (fun t => aI c25 (aI c25 (aI c25 (aI c25 (aI (i_sizeOf_ok p0 v26 h27) (aI trivial (aI (rfl : ([] : List Nat) = []) (aI c25 (aI (i_isIndex_ok p1.At v26 v28 h29) (aI trivial (aI (rfl : ([] : List Nat) = []) (aI c25 (aI c30 (aI c30 (aI c30 (aI c30 (aI c30 (aI c30 (aI c30 (aI c30 (t))))))))))))))))))))) ?_
       refine ends_ret ?_
       cases H
       exact And.intro (.inl rfl) rfl
     ·refine sd [.g false, .g false, .g false, .g false, .g false, .g false, .g false, .g false, .g false, .g false, .g false, .g false, .g false, .g false] [] [(4, cB false)] [] (fun t => aI c25 (aI c25 (aI c25 (aI c25 (aI c25 (aI c25 (aI (rfl : (false : Bool) = false) (aI (rfl : (false : Bool) = false) (aI (rfl : (false : Bool) = false) (aI (rfl : (false : Bool) = false) (aI (rfl : (false : Bool) = false) (aI (rfl : (false : Bool) = false) (aI (rfl : (false : Bool) = false) (aI (rfl : (false : Bool) = false) (t))))))))))))))) ?_
      refine ends_ret ?_
      cases H
      exact And.intro (.inl rfl) rfl
def i_goodState_ir : S :=
 (sq [o 2 (.box 12 (.t 0)), o 3 (.box 3 (.t 1)), o 4 (.mv (.v (.bool false)))]
 (.seq (sq [o 8 (.fad 0 (.t 3)), o 9 (.load 1 false (.t 8)), o 10 (.fad 0 (.t 2)), o 11 (.fad 6 (.t 10)), o 12 (.load 1 false (.t 11)), o 13 (.call 94 [.t 9, .v (.int .i64 0), .t 12]), o 14 (.not (.t 13)), om 15 14, ⟨some 16, .fad 1 (.t 3), some (15, false)⟩, ⟨some 17, .load 1 false (.t 16), some (15, false)⟩, ⟨some 18, .call 94 [.t 17, .v (.int .i64 0), .v (.int .i64 2)], some (15, false)⟩, ⟨some 19, .not (.t 18), some (15, false)⟩, o 20 (.pick (.t 15) (.v (.bool true)) (.t 19)), om 21 20, ⟨some 22, .fad 2 (.t 3), some (21, false)⟩, ⟨some 23, .load 1 false (.t 22), some (21, false)⟩, ⟨some 24, .len (.t 23), some (21, false)⟩, ⟨some 25, .bin .gtr (.t 24) (iv 12), some (21, false)⟩, o 26 (.pick (.t 21) (.v (.bool true)) (.t 25))]
 (.ite (.t 26) (sq [o 4 (.mv (.v (.bool false)))]
  .ret)
 .skip))
 (sq [o 27 (.load 12 true (.t 2)), o 28 (.call 85 [.t 27]), o 29 (.msl 2 16 [.int .i64 0, .int .i64 0] (.t 28)), om 5 29]
 (.seq (sq [o 30 (.fad 2 (.t 3)), o 31 (.load 1 false (.t 30)), o 32 (.len (.t 31)), o 33 (.mv (iv 0))]
 (.blk 0 (.loop (sq [o 34 (.bin .lss (.t 33) (.t 32))]
   (.seq (.ite (.t 34) .skip
   (.exit 0))
   (.seq (.blk 1 (sq [o 35 (.iad 4 (.t 31) (.t 33)), o 36 (.load 4 true (.t 35)), o 7 (.alloc [.int .i64 0, .int .i64 0, .int .i64 0, .int .i64 0]), ⟨none, .store 4 (.t 7) (.t 36), none⟩]
    (.seq (sq [o 37 (.load 12 true (.t 2)), o 38 (.load 4 true (.t 7)), o 39 (.call 152 [.t 37, .t 38]), o 40 (.not (.t 39))]
    (.ite (.t 40) (sq [o 4 (.mv (.v (.bool false)))]
     .ret)
    .skip))
    (.seq (sq [o 41 (.fad 2 (.t 7)), o 42 (.load 1 false (.t 41)), o 43 (.bin .lss (.t 42) (iv 0))]
    (.ite (.t 43) (.exit 1)
    .skip))
    (.seq (.draw 11 [om 44 5, o 45 (.fad 2 (.t 7)), o 46 (.load 1 false (.t 45)), o 47 (.fad 0 (.t 7)), o 48 (.load 1 false (.t 47)), o 49 (.iad 2 (.t 44) (.t 46)), o 50 (.iar 2 1 (.t 49) (.t 48)), o 51 (.load 1 false (.t 50)), o 52 (.bin .add (.t 51) (iv 1)), o 53 (.iad 2 (.t 44) (.t 46)), o 54 (.iar 2 1 (.t 53) (.t 48)), ⟨none, .store 1 (.t 54) (.t 52), none⟩])
    (.seq (.draw 24 [om 55 5, o 56 (.fad 2 (.t 7)), o 57 (.load 1 false (.t 56)), o 58 (.fad 0 (.t 7)), o 59 (.load 1 false (.t 58)), o 60 (.bin .sub (iv 1) (.t 59)), o 61 (.iad 2 (.t 55) (.t 57)), o 62 (.iar 2 1 (.t 61) (.t 60)), o 63 (.load 1 false (.t 62)), o 64 (.bin .gtr (.t 63) (iv 0)), om 65 64, ⟨some 66, .mv (.t 5), some (65, false)⟩, ⟨some 67, .fad 2 (.t 7), some (65, false)⟩, ⟨some 68, .load 1 false (.t 67), some (65, false)⟩, ⟨some 69, .fad 0 (.t 7), some (65, false)⟩, ⟨some 70, .load 1 false (.t 69), some (65, false)⟩, ⟨some 71, .iad 2 (.t 66) (.t 68), some (65, false)⟩, ⟨some 72, .iar 2 1 (.t 71) (.t 70), some (65, false)⟩, ⟨some 73, .load 1 false (.t 72), some (65, false)⟩, ⟨some 74, .fad 0 (.t 2), some (65, false)⟩, ⟨some 75, .fad 2 (.t 74), some (65, false)⟩, ⟨some 76, .load 1 false (.t 75), some (65, false)⟩, ⟨some 77, .bin .gtr (.t 73) (.t 76), some (65, false)⟩, o 78 (.pick (.t 65) (.v (.bool true)) (.t 77))])
    (.ite (.t 78) (sq [o 4 (.mv (.v (.bool false)))]
     .ret)
    .skip)))))))
   (.ops [o 79 (.bin .add (.t 33) (iv 1)), om 33 79])))))))
 (sq [o 4 (.mv (.v (.bool true)))]
 .ret)))))
noncomputable def X.i_goodState (p0 : TBoard) (p1 : TState) : Option Bool :=
 ((X.i_inRange p1.Turn 0 p0.Rules.Turns).bind fun v8 => (bif (!v8) then some false else ((X.i_inRange p1.Weather 0 2).bind fun v11 => (bif (!v11) then some false else (bif (decide ((p1.Units.length : Int) > 12)) then some false else ((X.i_sizeOf p0).bind fun v15 => (if 0 ≤ v15 ∧ v15.toNat ≤ LIM then ((loop (fun (x93 : (Int × (List A2_I))) => ((bif (decide (x93.1 < (p1.Units.length : Int))) then ((at' zTUnit p1.Units x93.1).bind fun v96 => ((X.i_goodUnit p0 v96).bind fun v101 => (bif (!v101) then some (Sum.inr (Sum.inr false)) else (bif (decide (v96.At < 0)) then some (Sum.inl ((W (x93.1 + 1)), x93.2)) else (if 0 ≤ v96.At ∧ v96.At < (x93.2.length : Int) then (if v96.Side = ((0 : Nat) : Int) then ((some (x93.2.set v96.At.toNat (A2_I.mk (W ((x93.2.getD v96.At.toNat zA2_I).a0 + 1)) ((x93.2.getD v96.At.toNat zA2_I).a1)))).bind fun l108 => (if (W (1 - v96.Side)) = ((0 : Nat) : Int) then (bif (decide ((l108.getD v96.At.toNat zA2_I).a0 > 0)) then some (Sum.inr (Sum.inr false)) else (bif (decide ((l108.getD v96.At.toNat zA2_I).a0 > p0.Rules.Stack)) then some (Sum.inr (Sum.inr false)) else some (Sum.inl ((W (x93.1 + 1)), l108)))) else (if (W (1 - v96.Side)) = ((1 : Nat) : Int) then (bif (decide ((l108.getD v96.At.toNat zA2_I).a1 > 0)) then some (Sum.inr (Sum.inr false)) else (bif (decide ((l108.getD v96.At.toNat zA2_I).a0 > p0.Rules.Stack)) then some (Sum.inr (Sum.inr false)) else some (Sum.inl ((W (x93.1 + 1)), l108)))) else none))) else (if v96.Side = ((1 : Nat) : Int) then ((some (x93.2.set v96.At.toNat (A2_I.mk ((x93.2.getD v96.At.toNat zA2_I).a0) (W ((x93.2.getD v96.At.toNat zA2_I).a1 + 1))))).bind fun l119 => (if (W (1 - v96.Side)) = ((0 : Nat) : Int) then (bif (decide ((l119.getD v96.At.toNat zA2_I).a0 > 0)) then some (Sum.inr (Sum.inr false)) else (bif (decide ((l119.getD v96.At.toNat zA2_I).a1 > p0.Rules.Stack)) then some (Sum.inr (Sum.inr false)) else some (Sum.inl ((W (x93.1 + 1)), l119)))) else (if (W (1 - v96.Side)) = ((1 : Nat) : Int) then (bif (decide ((l119.getD v96.At.toNat zA2_I).a1 > 0)) then some (Sum.inr (Sum.inr false)) else (bif (decide ((l119.getD v96.At.toNat zA2_I).a1 > p0.Rules.Stack)) then some (Sum.inr (Sum.inr false)) else some (Sum.inl ((W (x93.1 + 1)), l119)))) else none))) else none)) else none))))) else some (Sum.inr (Sum.inl ()))) : Option ((Int × (List A2_I)) ⊕ (Unit ⊕ Bool)))) (0, (List.replicate v15.toNat zA2_I))).bind fun y131 => (Sum.elim (fun (y133 : Unit) => some true) (fun (y134 : Bool) => some y134) y131)) else none)))))))
theorem i_goodState_ok (p0 : TBoard) (p1 : TState) (r : Bool) (H : X.i_goodState p0 p1 = some r) : FnOk Tryz.prog gl 221 [.agg (eTBoard p0), .agg (eTState p1)] (cB r) := by
 unfold X.i_goodState at H
 refine fi Tryz.f221 i_goodState_ir [(4, cB r)] [] glL Tryz.func221 ?_
 refine so [] [] [(2, pk 2), (3, pk 3)] [(2, va (eTBoard p0)), (3, va (eTState p1))] id ?_
 refine seq_in ?_
 obtain ⟨v8, h9, H⟩ := ofBind H
 rcases ofCond H with ⟨c10, H⟩ | ⟨c10, H⟩
 ·refine so [.res (cB v8), .g true, .g true, .g true, .g true, .g true, .g true, .g true, .g true, .g true, .g true] [] [(2, pk 2), (3, pk 3), (26, cB true)] [(2, va (eTBoard p0)), (3, va (eTState p1))] (fun t => aI (i_inRange_ok p1.Turn 0 p0.Rules.Turns v8 h9) (aI c10 (aI c10 (aI c10 (aI c10 (aI c10 (aI (rfl : (true : Bool) = true) (aI (rfl : (true : Bool) = true) (aI (rfl : (true : Bool) = true) (aI (rfl : (true : Bool) = true) (aI (rfl : (true : Bool) = true) (t)))))))))))) ?_
  refine it (rfl : (true : Bool) = true) ?_
  refine so [] [] [(4, cB false)] [] id ?_
  refine ends_ret ?_
  cases H
  exact And.intro (.inl rfl) rfl
 ·obtain ⟨v11, h12, H⟩ := ofBind H
  rcases ofCond H with ⟨c13, H⟩ | ⟨c13, H⟩
  ·refine so [.res (cB v8), .g false, .g false, .g false, .res (cB v11), .g false, .g false, .g true, .g true, .g true, .g true, .g true] [] [(2, pk 2), (3, pk 3), (26, cB true)] [(2, va (eTBoard p0)), (3, va (eTState p1))] (fun t => aI (i_inRange_ok p1.Turn 0 p0.Rules.Turns v8 h9) (aI c10 (aI c10 (aI c10 (aI (i_inRange_ok p1.Weather 0 2 v11 h12) (aI c10 (aI c10 (aI c13 (aI c13 (aI c13 (aI c13 (aI c13 (t))))))))))))) ?_
   refine it (rfl : (true : Bool) = true) ?_
   refine so [] [] [(4, cB false)] [] id ?_
   refine ends_ret ?_
   cases H
   exact And.intro (.inl rfl) rfl
  ·refine so [.res (cB v8), .g false, .g false, .g false, .res (cB v11), .g false, .g false, .g false, .g false, .g false, .g false, .g false] [] [(2, pk 2), (3, pk 3), (26, cB (decide ((p1.Units.length : Int) > 12)))] [(2, va (eTBoard p0)), (3, va (eTState p1))] (fun t => aI (i_inRange_ok p1.Turn 0 p0.Rules.Turns v8 h9) (aI c10 (aI c10 (aI c10 (aI (i_inRange_ok p1.Weather 0 2 v11 h12) (aI c10 (aI c10 (aI c13 (aI c13 (aI c13 (lI p1.Units (aI c13 (aI c13 (t)))))))))))))) ?_
   rcases ofCond H with ⟨c14, H⟩ | ⟨c14, H⟩
   ·refine it c14 ?_
    refine so [] [] [(4, cB false)] [] id ?_
    refine ends_ret ?_
    cases H
    exact And.intro (.inl rfl) rfl
   ·refine jf c14 ?_
    refine sk ?_
    obtain ⟨v15, h16, H⟩ := ofBind H
    obtain ⟨g17, H⟩ := ofIf H
    refine so [.res (cI v15), fh eA2_I zA2_I (List.replicate v15.toNat zA2_I)] [] [(2, pk 2), (3, pk 3), (5, ow 29 2 (List.replicate v15.toNat zA2_I))] [(2, va (eTBoard p0)), (3, va (eTState p1)), (29, ar 2 eA2_I zA2_I (List.replicate v15.toNat zA2_I))] (fun t => aI (i_sizeOf_ok p0 v15 h16) (aI (And.intro g17.1 (And.intro (List.length_replicate (n := v15.toNat) (a := zA2_I)).symm (Nat.le_trans (Nat.le_of_eq List.length_replicate) g17.2 : (List.replicate v15.toNat zA2_I).length ≤ LIM))) (aI (fF_rep eA2_I zA2_I zA2_I v15.toNat) (t)))) ?_
    refine seq_in ?_
    refine so [] [] [(2, pk 2), (5, ow 29 2 (List.replicate v15.toNat zA2_I)), (31, dc 4 eTUnit zTUnit p1.Units), (32, cL p1.Units), (33, cI 0)] [(2, va (eTBoard p0)), (29, ar 2 eA2_I zA2_I (List.replicate v15.toNat zA2_I))] (fun t => lI p1.Units (t)) ?_
    refine ends_blk ?_
    obtain ⟨y131, h132, H⟩ := ofBind H
    refine loop_in (fun (x : (Int × (List A2_I))) => lit [(2, pk 2), (5, ow 29 2 x.2), (31, dc 4 eTUnit zTUnit p1.Units), (32, cL p1.Units), (33, cI x.1)] [(2, va (eTBoard p0)), (29, ar 2 eA2_I zA2_I x.2)]) (orJ (fun (z : Unit) => At (.exit 0) (lit [] [])) (fun (z : Bool) => At .ret (lit [(4, cB z)] []))) h132 ?_ ?_
    ·clear H h132
     intro x93 y0 H
     refine so [] [] [(2, pk 2), (5, ow 29 2 x93.2), (31, dc 4 eTUnit zTUnit p1.Units), (32, cL p1.Units), (33, cI x93.1), (34, cB (decide (x93.1 < (p1.Units.length : Int))))] [(2, va (eTBoard p0)), (29, ar 2 eA2_I zA2_I x93.2)] id ?_
     refine seq_in ?_
     rcases ofCond H with ⟨c95, H⟩ | ⟨c95, H⟩
     ·refine it c95 ?_
      refine sk ?_
      refine seq_in ?_
      refine ends_blk ?_
      obtain ⟨v96, h97, H⟩ := ofBind H
      refine so [.cs (eTUnit v96)] [] [(2, pk 2), (5, ow 29 2 x93.2), (7, pk 7), (31, dc 4 eTUnit zTUnit p1.Units), (32, cL p1.Units), (33, cI x93.1)] [(2, va (eTBoard p0)), (7, va (eTUnit v96)), (29, ar 2 eA2_I zA2_I x93.2)] (a2 eTUnit h97) ?_
      refine seq_in ?_
      obtain ⟨v101, h102, H⟩ := ofBind H
      refine so [.res (cB v101)] [] [(2, pk 2), (5, ow 29 2 x93.2), (7, pk 7), (31, dc 4 eTUnit zTUnit p1.Units), (32, cL p1.Units), (33, cI x93.1), (40, cB (!v101))] [(2, va (eTBoard p0)), (7, va (eTUnit v96)), (29, ar 2 eA2_I zA2_I x93.2)] (aI (i_goodUnit_ok p0 v96 v101 h102)) ?_
      rcases ofCond H with ⟨c103, H⟩ | ⟨c103, H⟩
      ·refine it c103 ?_
       refine so [] [] [(4, cB false)] [] id ?_
       refine ends_ret ?_
       cases H
       exact And.intro (by simp) (And.intro rfl rfl)
      ·refine jf c103 ?_
       refine sk ?_
       refine seq_in ?_
       refine so [] [] [(2, pk 2), (5, ow 29 2 x93.2), (7, pk 7), (31, dc 4 eTUnit zTUnit p1.Units), (32, cL p1.Units), (33, cI x93.1), (43, cB (decide (v96.At < 0)))] [(2, va (eTBoard p0)), (7, va (eTUnit v96)), (29, ar 2 eA2_I zA2_I x93.2)] id ?_
       rcases ofCond H with ⟨c105, H⟩ | ⟨c105, H⟩
       ·refine it c105 ?_
        refine ends_exit ?_
        change EndsI _ _ _ _ _ _
        refine oo [] [] [(2, pk 2), (5, ow 29 2 x93.2), (31, dc 4 eTUnit zTUnit p1.Units), (32, cL p1.Units), (33, cI (W (x93.1 + 1)))] [(2, va (eTBoard p0)), (29, ar 2 eA2_I zA2_I x93.2)] id ?_
        cases H
        exact And.intro rfl rfl
       ·refine jf c105 ?_
        refine sk ?_
        obtain ⟨g106, H⟩ := ofIf H
        rcases ofIte H with ⟨c107, H⟩ | ⟨c130, H⟩
        ·obtain ⟨l108, h109, H⟩ := ofBind H
         refine sd [.no, .nat 0, .no, .nat 0, .fn 0 (fF eA2_I zA2_I l108)] [] [(2, pk 2), (5, ow 29 2 x93.2), (7, pk 7), (31, dc 4 eTUnit zTUnit p1.Units), (32, cL p1.Units), (33, cI x93.1)] [(2, va (eTBoard p0)), (7, va (eTUnit v96)), (29, .arr 2 x93.2.length (fF eA2_I zA2_I l108) false)] (fun t => aI g106 (aI (And.intro c107 (by decide : 0 < 2)) (aI (nat_lt g106) (aI (rfl : ([] : List Nat) = []) (aI g106 (aI (And.intro c107 (by decide : 0 < 2)) (aI (rfl : true = true) (aI (nat_lt g106) (aI (by decide : 0 + 1 ≤ 2) (aI (fF_setN eA2_I zA2_I h109 (nat_lt g106) x93.2.length) (t))))))))))) ?_
         rcases ofIte H with ⟨c110, H⟩ | ⟨c117, H⟩
         ·rcases ofCond H with ⟨c111, H⟩ | ⟨c111, H⟩
          ·refine sd [.no, .nat 0, .g true, .g true, .g true, .g true, .g true, .g true, .g true, .g true, .g true, .g true, .g true, .g true, .g true] [] [(2, pk 2), (5, ow 29 2 x93.2), (31, dc 4 eTUnit zTUnit p1.Units), (32, cL p1.Units), (33, cI x93.1), (78, cB true)] [(2, va (eTBoard p0)), (29, .arr 2 x93.2.length (fF eA2_I zA2_I l108) false)] (fun t => aI g106 (aI (And.intro c110 (by decide : 0 < 2)) (aI (nat_lt g106) (aI (rfl : ([] : List Nat) = []) (aI c111 (aI c111 (aI c111 (aI c111 (aI c111 (aI c111 (aI c111 (aI c111 (aI c111 (aI c111 (aI c111 (aI c111 (aI c111 (t)))))))))))))))))) ?_
           refine it (rfl : (true : Bool) = true) ?_
           refine so [] [] [(4, cB false)] [] id ?_
           refine ends_ret ?_
           cases H
           exact And.intro (by simp) (And.intro rfl rfl)
          ·refine sd [.no, .nat 0, .g false, .g false, .g false, .g false, .g false, .g false, .no, .g false, .nat 0, .g false, .g false, .g false, .g false, .g false, .g false] [] [(2, pk 2), (5, ow 29 2 x93.2), (31, dc 4 eTUnit zTUnit p1.Units), (32, cL p1.Units), (33, cI x93.1), (78, cB (decide ((l108.getD v96.At.toNat zA2_I).a0 > p0.Rules.Stack)))] [(2, va (eTBoard p0)), (29, .arr 2 x93.2.length (fF eA2_I zA2_I l108) false)] (fun t => aI g106 (aI (And.intro c110 (by decide : 0 < 2)) (aI (nat_lt g106) (aI (rfl : ([] : List Nat) = []) (aI c111 (aI c111 (aI c111 (aI c111 (aI c111 (aI c111 (aI g106 (aI c111 (aI (And.intro c107 (by decide : 0 < 2)) (aI c111 (aI (nat_lt g106) (aI (rfl : ([] : List Nat) = []) (aI c111 (aI c111 (aI c111 (aI c111 (aI c111 (t)))))))))))))))))))))) ?_
           rcases ofCond H with ⟨c112, H⟩ | ⟨c112, H⟩
           ·refine it c112 ?_
            refine so [] [] [(4, cB false)] [] id ?_
            refine ends_ret ?_
            cases H
            exact And.intro (by simp) (And.intro rfl rfl)
           ·refine jf c112 ?_
            refine sk ?_
            refine oo [] [.rel 5 l108.length, .rep 29 l108.length (fF eA2_I zA2_I l108)] [(2, pk 2), (5, ow 29 2 l108), (31, dc 4 eTUnit zTUnit p1.Units), (32, cL p1.Units), (33, cI (W (x93.1 + 1)))] [(2, va (eTBoard p0)), (29, ar 2 eA2_I zA2_I l108)] (fun t => aI (by simp [lenN h109] : x93.2.length = l108.length) (aI (Nat.le_of_eq (by simp [lenN h109] : l108.length = x93.2.length)) (aI (fun _ _ => rfl : ∀ i, i < l108.length → (fF eA2_I zA2_I l108) i = (fF eA2_I zA2_I l108) i) (t)))) ?_
            cases H
            exact And.intro rfl rfl
         ·rcases ofIte H with ⟨c113, H⟩ | ⟨c116, H⟩
          ·rcases ofCond H with ⟨c114, H⟩ | ⟨c114, H⟩
           ·refine sd [.no, .nat 1, .g true, .g true, .g true, .g true, .g true, .g true, .g true, .g true, .g true, .g true, .g true, .g true, .g true] [] [(2, pk 2), (5, ow 29 2 x93.2), (31, dc 4 eTUnit zTUnit p1.Units), (32, cL p1.Units), (33, cI x93.1), (78, cB true)] [(2, va (eTBoard p0)), (29, .arr 2 x93.2.length (fF eA2_I zA2_I l108) false)] (fun t => aI g106 (aI (And.intro c113 (by decide : 1 < 2)) (aI (nat_lt g106) (aI (rfl : ([] : List Nat) = []) (aI c114 (aI c114 (aI c114 (aI c114 (aI c114 (aI c114 (aI c114 (aI c114 (aI c114 (aI c114 (aI c114 (aI c114 (aI c114 (t)))))))))))))))))) ?_
            refine it (rfl : (true : Bool) = true) ?_
            refine so [] [] [(4, cB false)] [] id ?_
            refine ends_ret ?_
            cases H
            exact And.intro (by simp) (And.intro rfl rfl)
           ·refine sd [.no, .nat 1, .g false, .g false, .g false, .g false, .g false, .g false, .no, .g false, .nat 0, .g false, .g false, .g false, .g false, .g false, .g false] [] [(2, pk 2), (5, ow 29 2 x93.2), (31, dc 4 eTUnit zTUnit p1.Units), (32, cL p1.Units), (33, cI x93.1), (78, cB (decide ((l108.getD v96.At.toNat zA2_I).a0 > p0.Rules.Stack)))] [(2, va (eTBoard p0)), (29, .arr 2 x93.2.length (fF eA2_I zA2_I l108) false)] (fun t => aI g106 (aI (And.intro c113 (by decide : 1 < 2)) (aI (nat_lt g106) (aI (rfl : ([] : List Nat) = []) (aI c114 (aI c114 (aI c114 (aI c114 (aI c114 (aI c114 (aI g106 (aI c114 (aI (And.intro c107 (by decide : 0 < 2)) (aI c114 (aI (nat_lt g106) (aI (rfl : ([] : List Nat) = []) (aI c114 (aI c114 (aI c114 (aI c114 (aI c114 (t)))))))))))))))))))))) ?_
            rcases ofCond H with ⟨c115, H⟩ | ⟨c115, H⟩
            ·refine it c115 ?_
             refine so [] [] [(4, cB false)] [] id ?_
             refine ends_ret ?_
             cases H
             exact And.intro (by simp) (And.intro rfl rfl)
            ·refine jf c115 ?_
             refine sk ?_
             refine oo [] [.rel 5 l108.length, .rep 29 l108.length (fF eA2_I zA2_I l108)] [(2, pk 2), (5, ow 29 2 l108), (31, dc 4 eTUnit zTUnit p1.Units), (32, cL p1.Units), (33, cI (W (x93.1 + 1)))] [(2, va (eTBoard p0)), (29, ar 2 eA2_I zA2_I l108)] (fun t => aI (by simp [lenN h109] : x93.2.length = l108.length) (aI (Nat.le_of_eq (by simp [lenN h109] : l108.length = x93.2.length)) (aI (fun _ _ => rfl : ∀ i, i < l108.length → (fF eA2_I zA2_I l108) i = (fF eA2_I zA2_I l108) i) (t)))) ?_
             cases H
             exact And.intro rfl rfl
          ·cases H
        ·rcases ofIte H with ⟨c118, H⟩ | ⟨c129, H⟩
         ·obtain ⟨l119, h120, H⟩ := ofBind H
          refine sd [.no, .nat 1, .no, .nat 1, .fn 0 (fF eA2_I zA2_I l119)] [] [(2, pk 2), (5, ow 29 2 x93.2), (7, pk 7), (31, dc 4 eTUnit zTUnit p1.Units), (32, cL p1.Units), (33, cI x93.1)] [(2, va (eTBoard p0)), (7, va (eTUnit v96)), (29, .arr 2 x93.2.length (fF eA2_I zA2_I l119) false)] (fun t => aI g106 (aI (And.intro c118 (by decide : 1 < 2)) (aI (nat_lt g106) (aI (rfl : ([] : List Nat) = []) (aI g106 (aI (And.intro c118 (by decide : 1 < 2)) (aI (rfl : true = true) (aI (nat_lt g106) (aI (by decide : 1 + 1 ≤ 2) (aI (fF_setN eA2_I zA2_I h120 (nat_lt g106) x93.2.length) (t))))))))))) ?_
          rcases ofIte H with ⟨c121, H⟩ | ⟨c128, H⟩
          ·rcases ofCond H with ⟨c122, H⟩ | ⟨c122, H⟩
           ·refine sd [.no, .nat 0, .g true, .g true, .g true, .g true, .g true, .g true, .g true, .g true, .g true, .g true, .g true, .g true, .g true] [] [(2, pk 2), (5, ow 29 2 x93.2), (31, dc 4 eTUnit zTUnit p1.Units), (32, cL p1.Units), (33, cI x93.1), (78, cB true)] [(2, va (eTBoard p0)), (29, .arr 2 x93.2.length (fF eA2_I zA2_I l119) false)] (fun t => aI g106 (aI (And.intro c121 (by decide : 0 < 2)) (aI (nat_lt g106) (aI (rfl : ([] : List Nat) = []) (aI c122 (aI c122 (aI c122 (aI c122 (aI c122 (aI c122 (aI c122 (aI c122 (aI c122 (aI c122 (aI c122 (aI c122 (aI c122 (t)))))))))))))))))) ?_
            refine it (rfl : (true : Bool) = true) ?_
            refine so [] [] [(4, cB false)] [] id ?_
            refine ends_ret ?_
            cases H
            exact And.intro (by simp) (And.intro rfl rfl)
           ·refine sd [.no, .nat 0, .g false, .g false, .g false, .g false, .g false, .g false, .no, .g false, .nat 1, .g false, .g false, .g false, .g false, .g false, .g false] [] [(2, pk 2), (5, ow 29 2 x93.2), (31, dc 4 eTUnit zTUnit p1.Units), (32, cL p1.Units), (33, cI x93.1), (78, cB (decide ((l119.getD v96.At.toNat zA2_I).a1 > p0.Rules.Stack)))] [(2, va (eTBoard p0)), (29, .arr 2 x93.2.length (fF eA2_I zA2_I l119) false)] (fun t => aI g106 (aI (And.intro c121 (by decide : 0 < 2)) (aI (nat_lt g106) (aI (rfl : ([] : List Nat) = []) (aI c122 (aI c122 (aI c122 (aI c122 (aI c122 (aI c122 (aI g106 (aI c122 (aI (And.intro c118 (by decide : 1 < 2)) (aI c122 (aI (nat_lt g106) (aI (rfl : ([] : List Nat) = []) (aI c122 (aI c122 (aI c122 (aI c122 (aI c122 (t)))))))))))))))))))))) ?_
            rcases ofCond H with ⟨c123, H⟩ | ⟨c123, H⟩
            ·refine it c123 ?_
             refine so [] [] [(4, cB false)] [] id ?_
             refine ends_ret ?_
             cases H
             exact And.intro (by simp) (And.intro rfl rfl)
            ·refine jf c123 ?_
             refine sk ?_
             refine oo [] [.rel 5 l119.length, .rep 29 l119.length (fF eA2_I zA2_I l119)] [(2, pk 2), (5, ow 29 2 l119), (31, dc 4 eTUnit zTUnit p1.Units), (32, cL p1.Units), (33, cI (W (x93.1 + 1)))] [(2, va (eTBoard p0)), (29, ar 2 eA2_I zA2_I l119)] (fun t => aI (by simp [lenN h120] : x93.2.length = l119.length) (aI (Nat.le_of_eq (by simp [lenN h120] : l119.length = x93.2.length)) (aI (fun _ _ => rfl : ∀ i, i < l119.length → (fF eA2_I zA2_I l119) i = (fF eA2_I zA2_I l119) i) (t)))) ?_
             cases H
             exact And.intro rfl rfl
          ·rcases ofIte H with ⟨c124, H⟩ | ⟨c127, H⟩
           ·rcases ofCond H with ⟨c125, H⟩ | ⟨c125, H⟩
            ·refine sd [.no, .nat 1, .g true, .g true, .g true, .g true, .g true, .g true, .g true, .g true, .g true, .g true, .g true, .g true, .g true] [] [(2, pk 2), (5, ow 29 2 x93.2), (31, dc 4 eTUnit zTUnit p1.Units), (32, cL p1.Units), (33, cI x93.1), (78, cB true)] [(2, va (eTBoard p0)), (29, .arr 2 x93.2.length (fF eA2_I zA2_I l119) false)] (fun t => aI g106 (aI (And.intro c124 (by decide : 1 < 2)) (aI (nat_lt g106) (aI (rfl : ([] : List Nat) = []) (aI c125 (aI c125 (aI c125 (aI c125 (aI c125 (aI c125 (aI c125 (aI c125 (aI c125 (aI c125 (aI c125 (aI c125 (aI c125 (t)))))))))))))))))) ?_
             refine it (rfl : (true : Bool) = true) ?_
             refine so [] [] [(4, cB false)] [] id ?_
             refine ends_ret ?_
             cases H
             exact And.intro (by simp) (And.intro rfl rfl)
            ·refine sd [.no, .nat 1, .g false, .g false, .g false, .g false, .g false, .g false, .no, .g false, .nat 1, .g false, .g false, .g false, .g false, .g false, .g false] [] [(2, pk 2), (5, ow 29 2 x93.2), (31, dc 4 eTUnit zTUnit p1.Units), (32, cL p1.Units), (33, cI x93.1), (78, cB (decide ((l119.getD v96.At.toNat zA2_I).a1 > p0.Rules.Stack)))] [(2, va (eTBoard p0)), (29, .arr 2 x93.2.length (fF eA2_I zA2_I l119) false)] (fun t => aI g106 (aI (And.intro c124 (by decide : 1 < 2)) (aI (nat_lt g106) (aI (rfl : ([] : List Nat) = []) (aI c125 (aI c125 (aI c125 (aI c125 (aI c125 (aI c125 (aI g106 (aI c125 (aI (And.intro c118 (by decide : 1 < 2)) (aI c125 (aI (nat_lt g106) (aI (rfl : ([] : List Nat) = []) (aI c125 (aI c125 (aI c125 (aI c125 (aI c125 (t)))))))))))))))))))))) ?_
             rcases ofCond H with ⟨c126, H⟩ | ⟨c126, H⟩
             ·refine it c126 ?_
              refine so [] [] [(4, cB false)] [] id ?_
              refine ends_ret ?_
              cases H
              exact And.intro (by simp) (And.intro rfl rfl)
             ·refine jf c126 ?_
              refine sk ?_
              refine oo [] [.rel 5 l119.length, .rep 29 l119.length (fF eA2_I zA2_I l119)] [(2, pk 2), (5, ow 29 2 l119), (31, dc 4 eTUnit zTUnit p1.Units), (32, cL p1.Units), (33, cI (W (x93.1 + 1)))] [(2, va (eTBoard p0)), (29, ar 2 eA2_I zA2_I l119)] (fun t => aI (by simp [lenN h120] : x93.2.length = l119.length) (aI (Nat.le_of_eq (by simp [lenN h120] : l119.length = x93.2.length)) (aI (fun _ _ => rfl : ∀ i, i < l119.length → (fF eA2_I zA2_I l119) i = (fF eA2_I zA2_I l119) i) (t)))) ?_
              cases H
              exact And.intro rfl rfl
           ·cases H
         ·cases H
     ·refine jf c95 ?_
      refine tl [] [] [] id ?_
      refine ends_exit ?_
      cases H
      exact And.intro (by simp) (And.intro rfl rfl)
    ·clear h132
     cases y131 with
     | inl y133 =>
      replace H := ofInl H
      intro e s q
      obtain ⟨rfl, rfl⟩ := q
      change EndsI _ _ _ _ _ _
      refine so [] [] [(4, cB true)] [] id ?_
      refine ends_ret ?_
      cases H
      exact And.intro (.inl rfl) rfl
     | inr y134 =>
      replace H := ofInr H
      intro e s q
      obtain ⟨rfl, rfl⟩ := q
      cases H
      exact And.intro (.inl rfl) rfl
def i_fits_ir : S :=
 (sq [o 2 (.box 12 (.t 0)), o 3 (.box 3 (.t 1)), o 4 (.mv (.v (.bool false)))]
 (sq [o 5 (.load 12 true (.t 2)), o 6 (.call 62 [.t 5]), om 7 6, ⟨some 8, .load 12 true (.t 2), some (7, true)⟩, ⟨some 9, .load 3 true (.t 3), some (7, true)⟩, ⟨some 10, .call 221 [.t 8, .t 9], some (7, true)⟩, o 11 (.pick (.t 7) (.t 10) (.v (.bool false))), om 4 11]
 .ret))
noncomputable def X.i_fits (p0 : TBoard) (p1 : TState) : Option Bool :=
 ((X.i_IsBoard p0).bind fun v1 => (bif v1 then ((X.i_goodState p0 p1).bind fun v4 => some v4) else some false))
theorem i_fits_ok (p0 : TBoard) (p1 : TState) (r : Bool) (H : X.i_fits p0 p1 = some r) : FnOk Tryz.prog gl 166 [.agg (eTBoard p0), .agg (eTState p1)] (cB r) := by
 unfold X.i_fits at H
 refine fi Tryz.f166 i_fits_ir [(4, cB r)] [] glL Tryz.func166 ?_
 refine so [] [] [(2, pk 2), (3, pk 3)] [(2, va (eTBoard p0)), (3, va (eTState p1))] id ?_
 obtain ⟨v1, h2, H⟩ := ofBind H
 rcases ofCond H with ⟨c3, H⟩ | ⟨c3, H⟩
 ·obtain ⟨v4, h5, H⟩ := ofBind H
  refine so [.res (cB v1), .g true, .g true, .g true, .res (cB v4), .g true] [] [(4, cB v4)] [] (fun t => aI (i_IsBoard_ok p0 v1 h2) (aI c3 (aI c3 (aI c3 (aI (i_goodState_ok p0 p1 v4 h5) (aI c3 (t))))))) ?_
  refine ends_ret ?_
  cases H
  exact And.intro (.inl rfl) rfl
 ·refine so [.res (cB v1), .g false, .g false, .g false, .g false] [] [(4, cB false)] [] (fun t => aI (i_IsBoard_ok p0 v1 h2) (aI c3 (aI c3 (aI c3 (aI c3 (t)))))) ?_
  refine ends_ret ?_
  cases H
  exact And.intro (.inl rfl) rfl
def i_hasUnit_ir : S :=
 (sq [o 3 (.box 12 (.t 0)), o 4 (.box 3 (.t 1)), o 6 (.mv (.v (.bool false)))]
 (sq [o 7 (.load 12 true (.t 3)), o 8 (.load 3 true (.t 4)), o 9 (.call 166 [.t 7, .t 8]), om 10 9, ⟨some 11, .mv (.t 2), some (10, true)⟩, ⟨some 12, .fad 2 (.t 4), some (10, true)⟩, ⟨some 13, .load 1 false (.t 12), some (10, true)⟩, ⟨some 14, .len (.t 13), some (10, true)⟩, ⟨some 15, .call 84 [.t 11, .t 14], some (10, true)⟩, o 16 (.pick (.t 10) (.t 15) (.v (.bool false))), om 6 16]
 .ret))
noncomputable def X.i_hasUnit (p0 : TBoard) (p1 : TState) (p2 : Int) : Option Bool :=
 ((X.i_fits p0 p1).bind fun v1 => (bif v1 then ((X.i_isIndex p2 (p1.Units.length : Int)).bind fun v4 => some v4) else some false))
theorem i_hasUnit_ok (p0 : TBoard) (p1 : TState) (p2 : Int) (r : Bool) (H : X.i_hasUnit p0 p1 p2 = some r) : FnOk Tryz.prog gl 83 [.agg (eTBoard p0), .agg (eTState p1), cI p2] (cB r) := by
 unfold X.i_hasUnit at H
 refine fi Tryz.f83 i_hasUnit_ir [(6, cB r)] [] glL Tryz.func83 ?_
 refine so [] [] [(2, cI p2), (3, pk 3), (4, pk 4)] [(3, va (eTBoard p0)), (4, va (eTState p1))] id ?_
 obtain ⟨v1, h2, H⟩ := ofBind H
 rcases ofCond H with ⟨c3, H⟩ | ⟨c3, H⟩
 ·obtain ⟨v4, h5, H⟩ := ofBind H
  refine so [.res (cB v1), .g true, .g true, .g true, .g true, .g true, .res (cB v4), .g true] [] [(6, cB v4)] [] (fun t => aI (i_fits_ok p0 p1 v1 h2) (aI c3 (aI c3 (aI c3 (aI c3 (lI p1.Units (aI c3 (aI (i_isIndex_ok p2 (p1.Units.length : Int) v4 h5) (aI c3 (t)))))))))) ?_
  refine ends_ret ?_
  cases H
  exact And.intro (.inl rfl) rfl
 ·refine so [.res (cB v1), .g false, .g false, .g false, .g false, .g false, .g false] [] [(6, cB false)] [] (fun t => aI (i_fits_ok p0 p1 v1 h2) (aI c3 (aI c3 (aI c3 (aI c3 (aI c3 (aI c3 (t)))))))) ?_
  refine ends_ret ?_
  cases H
  exact And.intro (.inl rfl) rfl
def g_Clone_Unit_ir : S :=
 (sq [o 2 (.mv (.v (.nil)))]
 (.seq (sq [om 3 0, o 4 (.isn false (.t 3))]
 (.ite (.t 4) (sq [o 2 (.mv (.v (.nil)))]
  .ret)
 .skip))
 (sq [o 5 (.bsl 4 []), om 6 0, o 7 (.app 4 32 (.t 5) (.t 6)), om 2 7]
 .ret)))
noncomputable def X.g_Clone_Unit (p0 : (List TUnit)) : Option (List TUnit) :=
 (if (([] : List TUnit) ++ p0).length ≤ LIM then some (([] : List TUnit) ++ p0) else none)
theorem g_Clone_Unit_Md_ok (p0 : (List TUnit)) (r : (List TUnit)) (H : X.g_Clone_Unit p0 = some r) : FnMu Tryz.prog gl 222 [.c (dat 4 eTUnit zTUnit p0)] [] (.c (.own 900000 4 0 r.length)) [(900000, .arr 4 r.length (fF eTUnit zTUnit r) false)] := by
 unfold X.g_Clone_Unit at H
 refine fn_mu (fn := Tryz.f222) (ir := g_Clone_Unit_ir) (E' := [(2, ow 900000 4 r)]) (E1 := [(900000, ar 4 eTUnit zTUnit r)]) glL Tryz.func222 (by kernel_rfl) (by kernel_rfl) (by kernel_rfl) (by kernel_rfl) (by kernel_rfl) ?_
 refine tl [] [(0, dc 4 eTUnit zTUnit p0)] [] id ?_
 refine split_nil (fun h0 => ?_) ?_
 ·obtain rfl := List.eq_nil_of_length_eq_zero h0
  replace H : (some ([] : List TUnit) : Option (List TUnit)) = some r := by simpa [LIM] using H
  refine so [] [] [(0, .c (.nil))] [] id ?_
  refine seq_in ?_
  refine so [] [] [(0, .c (.nil)), (4, cB true)] [] id ?_
  refine it (rfl : (true : Bool) = true) ?_
  refine so [] [] [(2, .c (.nil))] [] id ?_
  refine tl [.nlo 2 900000 4 (fF eTUnit zTUnit ([] : List TUnit))] [(2, ow 900000 4 ([] : List TUnit))] [(900000, ar 4 eTUnit zTUnit ([] : List TUnit))] (aI (by decide : 0 < 4)) ?_
  refine ends_ret ?_
  cases H
  exact And.intro (.inl rfl) rfl
 ·refine so [] [] [(0, .c (.ns (dat 4 eTUnit zTUnit p0)))] [] id ?_
  refine seq_in ?_
  refine so [] [] [(0, .c (.ns (dat 4 eTUnit zTUnit p0))), (4, cB false)] [] id ?_
  refine jf (rfl : (false : Bool) = false) ?_
  refine sk ?_
  obtain ⟨g1, H⟩ := ofIf H
  refine so [fh eTUnit zTUnit ([] : List TUnit), fh eTUnit zTUnit (([] : List TUnit) ++ p0)] [] [(2, ow 7 4 (([] : List TUnit) ++ p0))] [(7, ar 4 eTUnit zTUnit (([] : List TUnit) ++ p0))] (fun t => aI (rfl : ([] : List TUnit).length = 0) (aI (fF_lit eTUnit zTUnit ([] : List TUnit)) (aI (And.intro (Nat.le_refl (([] : List TUnit).length)) (And.intro (@List.length_append _ ([] : List TUnit) p0) g1)) (aI (fF_appL eTUnit zTUnit ([] : List TUnit) p0) (aI (fF_appR eTUnit zTUnit ([] : List TUnit) p0) (t)))))) ?_
  refine tl [.ren 7 900000] [(2, ow 900000 4 (([] : List TUnit) ++ p0))] [(900000, ar 4 eTUnit zTUnit (([] : List TUnit) ++ p0))] id ?_
  refine ends_ret ?_
  cases H
  exact And.intro (.inl rfl) rfl
def i_cloneState_ir : S :=
 (sq [o 1 (.box 3 (.t 0)), o 2 (.alloc [.int .i64 0, .int .i64 0, .nil])]
 (sq [o 3 (.fad 2 (.t 1)), o 4 (.load 1 false (.t 3)), o 5 (.call 222 [.t 4]), o 6 (.fad 2 (.t 1)), ⟨none, .store 1 (.t 6) (.t 5), none⟩]
 (sq [o 7 (.load 3 true (.t 1)), ⟨none, .store 3 (.t 2) (.t 7), none⟩]
 .ret)))
noncomputable def X.i_cloneState (p0 : TState) : Option TState :=
 ((X.g_Clone_Unit p0.Units).bind fun v1 => some (TState.mk p0.Turn p0.Weather v1))
theorem i_cloneState_Md_ok (p0 : TState) (r : TState) (H : X.i_cloneState p0 = some r) : FnMu Tryz.prog gl 167 [.agg (eTState p0)] [] (.agg [.int .i64 r.Turn, .int .i64 r.Weather, .own 900000 4 0 r.Units.length]) [(2, .var [.int .i64 r.Turn, .int .i64 r.Weather, .own 900000 4 0 r.Units.length] false), (900000, .arr 4 r.Units.length (fF eTUnit zTUnit r.Units) false)] := by
 unfold X.i_cloneState at H
 refine fn_mu (fn := Tryz.f167) (ir := i_cloneState_ir) (E' := [(2, pk 2)]) (E1 := [(2, .var [.int .i64 r.Turn, .int .i64 r.Weather, .own 900000 4 0 r.Units.length] false), (900000, ar 4 eTUnit zTUnit r.Units)]) glL Tryz.func167 (by kernel_rfl) (by kernel_rfl) (by kernel_rfl) (by kernel_rfl) (by kernel_rfl) ?_
 refine so [] [] [(1, pk 1), (2, pk 2)] [(1, va (eTState p0)), (2, .var [.int .i64 0, .int .i64 0, .nil] false)] id ?_
 obtain ⟨v1, h2, H⟩ := ofBind H
 refine so [.mu [] [(900000, 1001)] (ow 900000 4 v1) [(900000, ar 4 eTUnit zTUnit v1)]] [] [(1, pk 1), (2, pk 2)] [(1, .var [.int .i64 p0.Turn, .int .i64 p0.Weather, .own 1001 4 0 v1.length] false), (2, .var [.int .i64 0, .int .i64 0, .nil] false), (1001, ar 4 eTUnit zTUnit v1)] (aI (g_Clone_Unit_Md_ok p0.Units v1 h2)) ?_
 refine so [] [] [(2, pk 2)] [(2, .var [.int .i64 p0.Turn, .int .i64 p0.Weather, .own 1001 4 0 v1.length] false), (1001, ar 4 eTUnit zTUnit v1)] id ?_
 refine tl [.ren 1001 900000] [(2, pk 2)] [(2, .var [.int .i64 p0.Turn, .int .i64 p0.Weather, .own 900000 4 0 v1.length] false), (900000, ar 4 eTUnit zTUnit v1)] id ?_
 refine ends_ret ?_
 cases H
 exact And.intro (.inl rfl) rfl
def i_startMachine_ir : S :=
 (sq [o 3 (.box 3 (.t 0)), o 6 (.alloc [.nil, .nil, .int .i64 0, .int .i64 0, .nil, .nil])]
 (sq [om 7 1, om 8 2, o 9 (.build [.int .i64 0, .int .i64 0, .int .i64 0] [(0, 1, .t 7), (1, 1, .t 8), (2, 1, .v (.int .i64 (-1)))]), o 10 (.bsl 3 [.t 9]), o 11 (.load 3 true (.t 3)), o 12 (.call 167 [.t 11]), o 13 (.build [.nil, .nil, .int .i64 0, .int .i64 0, .nil, .nil] [(0, 1, .t 10), (2, 3, .t 12)]), ⟨none, .store 6 (.t 6) (.t 13), none⟩]
 .ret))
noncomputable def X.i_startMachine (p0 : TState) (p1 : Int) (p2 : Int) : Option TMachine :=
 ((X.i_cloneState p0).bind fun v1 => some (TMachine.mk ([(TFrame.mk p1 p2 (-1))] : List TFrame) ([] : List Int) v1 ([] : List Int)))
theorem i_startMachine_Mddd_ok (p0 : TState) (p1 : Int) (p2 : Int) (r : TMachine) (H : X.i_startMachine p0 p1 p2 = some r) : FnMu Tryz.prog gl 86 [.agg (eTState p0), cI p1, cI p2] [] (.agg [.own 900000 3 0 r.Stack.length, .own 900001 1 0 r.Used.length, .int .i64 r.State.Turn, .int .i64 r.State.Weather, .own 900002 4 0 r.State.Units.length, .own 900003 1 0 r.Log.length]) [(6, .var [.own 900000 3 0 r.Stack.length, .own 900001 1 0 r.Used.length, .int .i64 r.State.Turn, .int .i64 r.State.Weather, .own 900002 4 0 r.State.Units.length, .own 900003 1 0 r.Log.length] false), (900000, .arr 3 r.Stack.length (fF eTFrame zTFrame r.Stack) false), (900001, .arr 1 r.Used.length (fF eI zI r.Used) false), (900002, .arr 4 r.State.Units.length (fF eTUnit zTUnit r.State.Units) false), (900003, .arr 1 r.Log.length (fF eI zI r.Log) false)] := by
 unfold X.i_startMachine at H
 refine fn_mu (fn := Tryz.f86) (ir := i_startMachine_ir) (E' := [(6, pk 6)]) (E1 := [(6, .var [.own 900000 3 0 r.Stack.length, .own 900001 1 0 r.Used.length, .int .i64 r.State.Turn, .int .i64 r.State.Weather, .own 900002 4 0 r.State.Units.length, .own 900003 1 0 r.Log.length] false), (900000, ar 3 eTFrame zTFrame r.Stack), (900001, ar 1 eI zI r.Used), (900002, ar 4 eTUnit zTUnit r.State.Units), (900003, ar 1 eI zI r.Log)]) glL Tryz.func86 (by kernel_rfl) (by kernel_rfl) (by kernel_rfl) (by kernel_rfl) (by kernel_rfl) ?_
 refine so [] [] [(1, cI p1), (2, cI p2), (3, pk 3), (6, pk 6)] [(3, va (eTState p0)), (6, .var [.nil, .nil, .int .i64 0, .int .i64 0, .nil, .nil] false)] id ?_
 obtain ⟨v1, h2, H⟩ := ofBind H
 refine so [fh eTFrame zTFrame ([(TFrame.mk p1 p2 (-1))] : List TFrame), .mu [] [(2, 1001), (900000, 1002)] (.agg [.int .i64 v1.Turn, .int .i64 v1.Weather, .own 900000 4 0 v1.Units.length]) [(2, .var [.int .i64 v1.Turn, .int .i64 v1.Weather, .own 900000 4 0 v1.Units.length] false), (900000, ar 4 eTUnit zTUnit v1.Units)]] [] [(6, pk 6)] [(6, .var [.own 10 3 0 (([(TFrame.mk p1 p2 (-1))] : List TFrame).length), .nil, .int .i64 v1.Turn, .int .i64 v1.Weather, .own 1002 4 0 v1.Units.length, .nil] false), (10, ar 3 eTFrame zTFrame ([(TFrame.mk p1 p2 (-1))] : List TFrame)), (1002, ar 4 eTUnit zTUnit v1.Units)] (fun t => aI (rfl : ([(TFrame.mk p1 p2 (-1))] : List TFrame).length = 1) (aI (fF_lit eTFrame zTFrame ([(TFrame.mk p1 p2 (-1))] : List TFrame)) (aI (i_cloneState_Md_ok p0 v1 h2) (t)))) ?_
 refine tl [.ren 10 900000, .nloc 6 1 900001 1 (fF eI zI ([] : List Int)), .ren 1002 900002, .nloc 6 5 900003 1 (fF eI zI ([] : List Int))] [(6, pk 6)] [(6, .var [.own 900000 3 0 (([(TFrame.mk p1 p2 (-1))] : List TFrame).length), .own 900001 1 0 (([] : List Int).length), .int .i64 v1.Turn, .int .i64 v1.Weather, .own 900002 4 0 v1.Units.length, .own 900003 1 0 (([] : List Int).length)] false), (900000, ar 3 eTFrame zTFrame ([(TFrame.mk p1 p2 (-1))] : List TFrame)), (900001, ar 1 eI zI ([] : List Int)), (900002, ar 4 eTUnit zTUnit v1.Units), (900003, ar 1 eI zI ([] : List Int))] (fun t => aI (by decide : 0 < 1) (aI (by decide : 0 < 1) (t))) ?_
 refine ends_ret ?_
 cases H
 exact And.intro (.inl rfl) rfl
def i_StartMachine_ir : S :=
 (sq [o 4 (.box 12 (.t 0)), o 5 (.box 3 (.t 1)), o 8 (.alloc [.nil, .nil, .int .i64 0, .int .i64 0, .nil, .nil]), o 9 (.mv (.v (.bool false)))]
 (.seq (sq [o 10 (.load 12 true (.t 4)), o 11 (.load 3 true (.t 5)), om 12 2, o 13 (.call 83 [.t 10, .t 11, .t 12]), o 14 (.not (.t 13)), om 15 14, ⟨some 16, .mv (.t 3), some (15, false)⟩, ⟨some 17, .load 12 true (.t 4), some (15, false)⟩, ⟨some 18, .call 85 [.t 17], some (15, false)⟩, ⟨some 19, .call 84 [.t 16, .t 18], some (15, false)⟩, ⟨some 20, .not (.t 19), some (15, false)⟩, o 21 (.pick (.t 15) (.v (.bool true)) (.t 20))]
 (.ite (.t 21) (sq [o 22 (.build [.nil, .nil, .int .i64 0, .int .i64 0, .nil, .nil] []), ⟨none, .store 6 (.t 8) (.t 22), none⟩, o 9 (.mv (.v (.bool false)))]
  .ret)
 .skip))
 (sq [o 23 (.load 3 true (.t 5)), om 24 2, om 25 3, o 26 (.call 86 [.t 23, .t 24, .t 25]), ⟨none, .store 6 (.t 8) (.t 26), none⟩, o 9 (.mv (.v (.bool true)))]
 .ret)))
noncomputable def X.i_StartMachine (p0 : TBoard) (p1 : TState) (p2 : Int) (p3 : Int) : Option (TMachine × Bool) :=
 ((X.i_hasUnit p0 p1 p2).bind fun v1 => (bif (!v1) then some ((TMachine.mk ([] : List TFrame) ([] : List Int) (TState.mk 0 0 ([] : List TUnit)) ([] : List Int)), false) else ((X.i_sizeOf p0).bind fun v4 => ((X.i_isIndex p3 v4).bind fun v6 => (bif (!v6) then some ((TMachine.mk ([] : List TFrame) ([] : List Int) (TState.mk 0 0 ([] : List TUnit)) ([] : List Int)), false) else ((X.i_startMachine p1 p2 p3).bind fun v9 => some (v9, true)))))))
theorem i_StartMachine_ok (p0 : TBoard) (p1 : TState) (p2 : Int) (p3 : Int) (r : (TMachine × Bool)) (H : X.i_StartMachine p0 p1 p2 p3 = some r) : FnOk Tryz.prog gl 22 [.agg (eTBoard p0), .agg (eTState p1), cI p2, cI p3] (.tup [(true, [dat 3 eTFrame zTFrame r.1.Stack, dat 1 eI zI r.1.Used, .int .i64 r.1.State.Turn, .int .i64 r.1.State.Weather, dat 4 eTUnit zTUnit r.1.State.Units, dat 1 eI zI r.1.Log]), (false, [.bool r.2])]) := by
 unfold X.i_StartMachine at H
 refine fi Tryz.f22 i_StartMachine_ir [(8, pk 8), (9, cB r.2)] [(8, va (eTMachine r.1))] glL Tryz.func22 ?_
 refine so [] [] [(2, cI p2), (3, cI p3), (4, pk 4), (5, pk 5), (8, pk 8)] [(4, va (eTBoard p0)), (5, va (eTState p1)), (8, .var [.nil, .nil, .int .i64 0, .int .i64 0, .nil, .nil] false)] id ?_
 refine seq_in ?_
 obtain ⟨v1, h2, H⟩ := ofBind H
 rcases ofCond H with ⟨c3, H⟩ | ⟨c3, H⟩
 ·refine so [.res (cB v1), .g true, .g true, .g true, .g true, .g true, .g true] [] [(2, cI p2), (3, cI p3), (5, pk 5), (8, pk 8), (21, cB true)] [(5, va (eTState p1)), (8, .var [.nil, .nil, .int .i64 0, .int .i64 0, .nil, .nil] false)] (fun t => aI (i_hasUnit_ok p0 p1 p2 v1 h2) (aI c3 (aI c3 (aI c3 (aI c3 (aI c3 (aI c3 (t)))))))) ?_
  refine it (rfl : (true : Bool) = true) ?_
  refine so [] [] [(8, pk 8), (9, cB false)] [(8, .var [.nil, .nil, .int .i64 0, .int .i64 0, .nil, .nil] false)] id ?_
  refine tl [.nldc 8 0 3 (fF eTFrame zTFrame ([] : List TFrame)), .nldc 8 1 1 (fF eI zI ([] : List Int)), .nldc 8 4 4 (fF eTUnit zTUnit ([] : List TUnit)), .nldc 8 5 1 (fF eI zI ([] : List Int))] [(8, pk 8), (9, cB false)] [(8, .var [dat 3 eTFrame zTFrame ([] : List TFrame), dat 1 eI zI ([] : List Int), .int .i64 0, .int .i64 0, dat 4 eTUnit zTUnit ([] : List TUnit), dat 1 eI zI ([] : List Int)] false)] id ?_
  refine ends_ret ?_
  cases H
  exact And.intro (.inl rfl) rfl
 ·obtain ⟨v4, h5, H⟩ := ofBind H
  obtain ⟨v6, h7, H⟩ := ofBind H
  refine so [.res (cB v1), .g false, .g false, .g false, .res (cI v4), .g false, .res (cB v6), .g false, .g false] [] [(2, cI p2), (3, cI p3), (5, pk 5), (8, pk 8), (21, cB (!v6))] [(5, va (eTState p1)), (8, .var [.nil, .nil, .int .i64 0, .int .i64 0, .nil, .nil] false)] (fun t => aI (i_hasUnit_ok p0 p1 p2 v1 h2) (aI c3 (aI c3 (aI c3 (aI (i_sizeOf_ok p0 v4 h5) (aI c3 (aI (i_isIndex_ok p3 v4 v6 h7) (aI c3 (aI c3 (t)))))))))) ?_
  rcases ofCond H with ⟨c8, H⟩ | ⟨c8, H⟩
  ·refine it c8 ?_
   refine so [] [] [(8, pk 8), (9, cB false)] [(8, .var [.nil, .nil, .int .i64 0, .int .i64 0, .nil, .nil] false)] id ?_
   refine tl [.nldc 8 0 3 (fF eTFrame zTFrame ([] : List TFrame)), .nldc 8 1 1 (fF eI zI ([] : List Int)), .nldc 8 4 4 (fF eTUnit zTUnit ([] : List TUnit)), .nldc 8 5 1 (fF eI zI ([] : List Int))] [(8, pk 8), (9, cB false)] [(8, .var [dat 3 eTFrame zTFrame ([] : List TFrame), dat 1 eI zI ([] : List Int), .int .i64 0, .int .i64 0, dat 4 eTUnit zTUnit ([] : List TUnit), dat 1 eI zI ([] : List Int)] false)] id ?_
   refine ends_ret ?_
   cases H
   exact And.intro (.inl rfl) rfl
  ·refine jf c8 ?_
   refine sk ?_
   obtain ⟨v9, h10, H⟩ := ofBind H
   refine so [.mu [] [(6, 1001), (900000, 1002), (900001, 1003), (900002, 1004), (900003, 1005)] (.agg [.own 900000 3 0 v9.Stack.length, .own 900001 1 0 v9.Used.length, .int .i64 v9.State.Turn, .int .i64 v9.State.Weather, .own 900002 4 0 v9.State.Units.length, .own 900003 1 0 v9.Log.length]) [(6, .var [.own 900000 3 0 v9.Stack.length, .own 900001 1 0 v9.Used.length, .int .i64 v9.State.Turn, .int .i64 v9.State.Weather, .own 900002 4 0 v9.State.Units.length, .own 900003 1 0 v9.Log.length] false), (900000, ar 3 eTFrame zTFrame v9.Stack), (900001, ar 1 eI zI v9.Used), (900002, ar 4 eTUnit zTUnit v9.State.Units), (900003, ar 1 eI zI v9.Log)]] [] [(8, pk 8), (9, cB true)] [(8, .var [.own 1002 3 0 v9.Stack.length, .own 1003 1 0 v9.Used.length, .int .i64 v9.State.Turn, .int .i64 v9.State.Weather, .own 1004 4 0 v9.State.Units.length, .own 1005 1 0 v9.Log.length] false), (1002, ar 3 eTFrame zTFrame v9.Stack), (1003, ar 1 eI zI v9.Used), (1004, ar 4 eTUnit zTUnit v9.State.Units), (1005, ar 1 eI zI v9.Log)] (aI (i_startMachine_Mddd_ok p1 p2 p3 v9 h10)) ?_
   refine tl [.frc 8 0, .frc 8 1, .frc 8 4, .frc 8 5] [(8, pk 8), (9, cB true)] [(8, va (eTMachine v9))] (fun t => aI (Nat.le_refl v9.Stack.length) (aI (Nat.le_refl v9.Used.length) (aI (Nat.le_refl v9.State.Units.length) (aI (Nat.le_refl v9.Log.length) (t))))) ?_
   refine ends_ret ?_
   cases H
   exact And.intro (.inl rfl) rfl
theorem i_StartMachine_Mdddd_ok (p0 : TBoard) (p1 : TState) (p2 : Int) (p3 : Int) (r : (TMachine × Bool)) (H : X.i_StartMachine p0 p1 p2 p3 = some r) : FnMu Tryz.prog gl 22 [.agg (eTBoard p0), .agg (eTState p1), cI p2, cI p3] [] (.tup [(true, [.own 900000 3 0 r.1.Stack.length, .own 900001 1 0 r.1.Used.length, .int .i64 r.1.State.Turn, .int .i64 r.1.State.Weather, .own 900002 4 0 r.1.State.Units.length, .own 900003 1 0 r.1.Log.length]), (false, [.bool r.2])]) [(8, .var [.own 900000 3 0 r.1.Stack.length, .own 900001 1 0 r.1.Used.length, .int .i64 r.1.State.Turn, .int .i64 r.1.State.Weather, .own 900002 4 0 r.1.State.Units.length, .own 900003 1 0 r.1.Log.length] false), (900000, .arr 3 r.1.Stack.length (fF eTFrame zTFrame r.1.Stack) false), (900001, .arr 1 r.1.Used.length (fF eI zI r.1.Used) false), (900002, .arr 4 r.1.State.Units.length (fF eTUnit zTUnit r.1.State.Units) false), (900003, .arr 1 r.1.Log.length (fF eI zI r.1.Log) false)] := by
 unfold X.i_StartMachine at H
 refine fn_mu (fn := Tryz.f22) (ir := i_StartMachine_ir) (E' := [(8, pk 8), (9, cB r.2)]) (E1 := [(8, .var [.own 900000 3 0 r.1.Stack.length, .own 900001 1 0 r.1.Used.length, .int .i64 r.1.State.Turn, .int .i64 r.1.State.Weather, .own 900002 4 0 r.1.State.Units.length, .own 900003 1 0 r.1.Log.length] false), (900000, ar 3 eTFrame zTFrame r.1.Stack), (900001, ar 1 eI zI r.1.Used), (900002, ar 4 eTUnit zTUnit r.1.State.Units), (900003, ar 1 eI zI r.1.Log)]) glL Tryz.func22 (by kernel_rfl) (by kernel_rfl) (by kernel_rfl) (by kernel_rfl) (by kernel_rfl) ?_
 refine so [] [] [(2, cI p2), (3, cI p3), (4, pk 4), (5, pk 5), (8, pk 8)] [(4, va (eTBoard p0)), (5, va (eTState p1)), (8, .var [.nil, .nil, .int .i64 0, .int .i64 0, .nil, .nil] false)] id ?_
 refine seq_in ?_
 obtain ⟨v1, h2, H⟩ := ofBind H
 rcases ofCond H with ⟨c3, H⟩ | ⟨c3, H⟩
 ·refine so [.res (cB v1), .g true, .g true, .g true, .g true, .g true, .g true] [] [(2, cI p2), (3, cI p3), (5, pk 5), (8, pk 8), (21, cB true)] [(5, va (eTState p1)), (8, .var [.nil, .nil, .int .i64 0, .int .i64 0, .nil, .nil] false)] (fun t => aI (i_hasUnit_ok p0 p1 p2 v1 h2) (aI c3 (aI c3 (aI c3 (aI c3 (aI c3 (aI c3 (t)))))))) ?_
  refine it (rfl : (true : Bool) = true) ?_
  refine so [] [] [(8, pk 8), (9, cB false)] [(8, .var [.nil, .nil, .int .i64 0, .int .i64 0, .nil, .nil] false)] id ?_
  refine tl [.nloc 8 0 900000 3 (fF eTFrame zTFrame ([] : List TFrame)), .nloc 8 1 900001 1 (fF eI zI ([] : List Int)), .nloc 8 4 900002 4 (fF eTUnit zTUnit ([] : List TUnit)), .nloc 8 5 900003 1 (fF eI zI ([] : List Int))] [(8, pk 8), (9, cB false)] [(8, .var [.own 900000 3 0 (([] : List TFrame).length), .own 900001 1 0 (([] : List Int).length), .int .i64 0, .int .i64 0, .own 900002 4 0 (([] : List TUnit).length), .own 900003 1 0 (([] : List Int).length)] false), (900000, ar 3 eTFrame zTFrame ([] : List TFrame)), (900001, ar 1 eI zI ([] : List Int)), (900002, ar 4 eTUnit zTUnit ([] : List TUnit)), (900003, ar 1 eI zI ([] : List Int))] (fun t => aI (by decide : 0 < 3) (aI (by decide : 0 < 1) (aI (by decide : 0 < 4) (aI (by decide : 0 < 1) (t))))) ?_
  refine ends_ret ?_
  cases H
  exact And.intro (.inl rfl) rfl
 ·obtain ⟨v4, h5, H⟩ := ofBind H
  obtain ⟨v6, h7, H⟩ := ofBind H
  refine so [.res (cB v1), .g false, .g false, .g false, .res (cI v4), .g false, .res (cB v6), .g false, .g false] [] [(2, cI p2), (3, cI p3), (5, pk 5), (8, pk 8), (21, cB (!v6))] [(5, va (eTState p1)), (8, .var [.nil, .nil, .int .i64 0, .int .i64 0, .nil, .nil] false)] (fun t => aI (i_hasUnit_ok p0 p1 p2 v1 h2) (aI c3 (aI c3 (aI c3 (aI (i_sizeOf_ok p0 v4 h5) (aI c3 (aI (i_isIndex_ok p3 v4 v6 h7) (aI c3 (aI c3 (t)))))))))) ?_
  rcases ofCond H with ⟨c8, H⟩ | ⟨c8, H⟩
  ·refine it c8 ?_
   refine so [] [] [(8, pk 8), (9, cB false)] [(8, .var [.nil, .nil, .int .i64 0, .int .i64 0, .nil, .nil] false)] id ?_
   refine tl [.nloc 8 0 900000 3 (fF eTFrame zTFrame ([] : List TFrame)), .nloc 8 1 900001 1 (fF eI zI ([] : List Int)), .nloc 8 4 900002 4 (fF eTUnit zTUnit ([] : List TUnit)), .nloc 8 5 900003 1 (fF eI zI ([] : List Int))] [(8, pk 8), (9, cB false)] [(8, .var [.own 900000 3 0 (([] : List TFrame).length), .own 900001 1 0 (([] : List Int).length), .int .i64 0, .int .i64 0, .own 900002 4 0 (([] : List TUnit).length), .own 900003 1 0 (([] : List Int).length)] false), (900000, ar 3 eTFrame zTFrame ([] : List TFrame)), (900001, ar 1 eI zI ([] : List Int)), (900002, ar 4 eTUnit zTUnit ([] : List TUnit)), (900003, ar 1 eI zI ([] : List Int))] (fun t => aI (by decide : 0 < 3) (aI (by decide : 0 < 1) (aI (by decide : 0 < 4) (aI (by decide : 0 < 1) (t))))) ?_
   refine ends_ret ?_
   cases H
   exact And.intro (.inl rfl) rfl
  ·refine jf c8 ?_
   refine sk ?_
   obtain ⟨v9, h10, H⟩ := ofBind H
   refine so [.mu [] [(6, 1001), (900000, 1002), (900001, 1003), (900002, 1004), (900003, 1005)] (.agg [.own 900000 3 0 v9.Stack.length, .own 900001 1 0 v9.Used.length, .int .i64 v9.State.Turn, .int .i64 v9.State.Weather, .own 900002 4 0 v9.State.Units.length, .own 900003 1 0 v9.Log.length]) [(6, .var [.own 900000 3 0 v9.Stack.length, .own 900001 1 0 v9.Used.length, .int .i64 v9.State.Turn, .int .i64 v9.State.Weather, .own 900002 4 0 v9.State.Units.length, .own 900003 1 0 v9.Log.length] false), (900000, ar 3 eTFrame zTFrame v9.Stack), (900001, ar 1 eI zI v9.Used), (900002, ar 4 eTUnit zTUnit v9.State.Units), (900003, ar 1 eI zI v9.Log)]] [] [(8, pk 8), (9, cB true)] [(8, .var [.own 1002 3 0 v9.Stack.length, .own 1003 1 0 v9.Used.length, .int .i64 v9.State.Turn, .int .i64 v9.State.Weather, .own 1004 4 0 v9.State.Units.length, .own 1005 1 0 v9.Log.length] false), (1002, ar 3 eTFrame zTFrame v9.Stack), (1003, ar 1 eI zI v9.Used), (1004, ar 4 eTUnit zTUnit v9.State.Units), (1005, ar 1 eI zI v9.Log)] (aI (i_startMachine_Mddd_ok p1 p2 p3 v9 h10)) ?_
   refine tl [.ren 1002 900000, .ren 1003 900001, .ren 1004 900002, .ren 1005 900003] [(8, pk 8), (9, cB true)] [(8, .var [.own 900000 3 0 v9.Stack.length, .own 900001 1 0 v9.Used.length, .int .i64 v9.State.Turn, .int .i64 v9.State.Weather, .own 900002 4 0 v9.State.Units.length, .own 900003 1 0 v9.Log.length] false), (900000, ar 3 eTFrame zTFrame v9.Stack), (900001, ar 1 eI zI v9.Used), (900002, ar 4 eTUnit zTUnit v9.State.Units), (900003, ar 1 eI zI v9.Log)] id ?_
   refine ends_ret ?_
   cases H
   exact And.intro (.inl rfl) rfl
def l_eqUnit_ir : S :=
 (sq [o 2 (.box 4 (.t 0)), o 3 (.box 4 (.t 1)), o 4 (.mv (.v (.bool false)))]
 (.seq (sq [o 5 (.fad 0 (.t 2)), o 6 (.load 1 false (.t 5)), o 7 (.fad 0 (.t 3)), o 8 (.load 1 false (.t 7)), o 9 (.bin .neq (.t 6) (.t 8))]
 (.ite (.t 9) (sq [o 4 (.mv (.v (.bool false)))]
  .ret)
 .skip))
 (.seq (sq [o 10 (.fad 1 (.t 2)), o 11 (.load 1 false (.t 10)), o 12 (.fad 1 (.t 3)), o 13 (.load 1 false (.t 12)), o 14 (.bin .neq (.t 11) (.t 13))]
 (.ite (.t 14) (sq [o 4 (.mv (.v (.bool false)))]
  .ret)
 .skip))
 (.seq (sq [o 15 (.fad 2 (.t 2)), o 16 (.load 1 false (.t 15)), o 17 (.fad 2 (.t 3)), o 18 (.load 1 false (.t 17)), o 19 (.bin .neq (.t 16) (.t 18))]
 (.ite (.t 19) (sq [o 4 (.mv (.v (.bool false)))]
  .ret)
 .skip))
 (.seq (sq [o 20 (.fad 3 (.t 2)), o 21 (.load 1 false (.t 20)), o 22 (.fad 3 (.t 3)), o 23 (.load 1 false (.t 22)), o 24 (.bin .neq (.t 21) (.t 23))]
 (.ite (.t 24) (sq [o 4 (.mv (.v (.bool false)))]
  .ret)
 .skip))
 (sq [o 4 (.mv (.v (.bool true)))]
 .ret))))))
noncomputable def X.l_eqUnit (p0 : TUnit) (p1 : TUnit) : Option Bool :=
 (bif (p0.Side != p1.Side) then some false else (bif (p0.Kind != p1.Kind) then some false else (bif (p0.At != p1.At) then some false else (bif (p0.Steps != p1.Steps) then some false else some true))))
theorem l_eqUnit_ok (p0 : TUnit) (p1 : TUnit) (r : Bool) (H : X.l_eqUnit p0 p1 = some r) : FnOk Tryz.prog gl 159 [.agg (eTUnit p0), .agg (eTUnit p1)] (cB r) := by
 unfold X.l_eqUnit at H
 refine fi Tryz.f159 l_eqUnit_ir [(4, cB r)] [] glL Tryz.func159 ?_
 refine so [] [] [(2, pk 2), (3, pk 3)] [(2, va (eTUnit p0)), (3, va (eTUnit p1))] id ?_
 refine seq_in ?_
 refine so [] [] [(2, pk 2), (3, pk 3), (9, cB (p0.Side != p1.Side))] [(2, va (eTUnit p0)), (3, va (eTUnit p1))] id ?_
 rcases ofCond H with ⟨c2, H⟩ | ⟨c2, H⟩
 ·refine it c2 ?_
  refine so [] [] [(4, cB false)] [] id ?_
  refine ends_ret ?_
  cases H
  exact And.intro (.inl rfl) rfl
 ·refine jf c2 ?_
  refine sk ?_
  refine seq_in ?_
  refine so [] [] [(2, pk 2), (3, pk 3), (14, cB (p0.Kind != p1.Kind))] [(2, va (eTUnit p0)), (3, va (eTUnit p1))] id ?_
  rcases ofCond H with ⟨c4, H⟩ | ⟨c4, H⟩
  ·refine it c4 ?_
   refine so [] [] [(4, cB false)] [] id ?_
   refine ends_ret ?_
   cases H
   exact And.intro (.inl rfl) rfl
  ·refine jf c4 ?_
   refine sk ?_
   refine seq_in ?_
   refine so [] [] [(2, pk 2), (3, pk 3), (19, cB (p0.At != p1.At))] [(2, va (eTUnit p0)), (3, va (eTUnit p1))] id ?_
   rcases ofCond H with ⟨c6, H⟩ | ⟨c6, H⟩
   ·refine it c6 ?_
    refine so [] [] [(4, cB false)] [] id ?_
    refine ends_ret ?_
    cases H
    exact And.intro (.inl rfl) rfl
   ·refine jf c6 ?_
    refine sk ?_
    refine seq_in ?_
    refine so [] [] [(24, cB (p0.Steps != p1.Steps))] [] id ?_
    rcases ofCond H with ⟨c7, H⟩ | ⟨c7, H⟩
    ·refine it c7 ?_
     refine so [] [] [(4, cB false)] [] id ?_
     refine ends_ret ?_
     cases H
     exact And.intro (.inl rfl) rfl
    ·refine jf c7 ?_
     refine sk ?_
     refine so [] [] [(4, cB true)] [] id ?_
     refine ends_ret ?_
     cases H
     exact And.intro (.inl rfl) rfl
def l_eqUnitS_ir : S :=
 (sq [o 4 (.mv (.v (.bool false)))]
 (.seq (sq [om 6 0, o 7 (.len (.t 6)), om 8 1, o 9 (.len (.t 8)), o 10 (.bin .neq (.t 7) (.t 9))]
 (.ite (.t 10) (sq [o 4 (.mv (.v (.bool false)))]
  .ret)
 .skip))
 (.seq (sq [o 5 (.mv (iv 0))]
 (.blk 0 (.loop (.seq (sq [om 11 5, om 12 0, o 13 (.len (.t 12)), o 14 (.bin .lss (.t 11) (.t 13))]
   (.ite (.t 14) .skip
   (.exit 0)))
   (.seq (.blk 1 (.seq (.draw 10 [om 17 0, om 18 5, o 19 (.iad 4 (.t 17) (.t 18)), o 20 (.load 4 true (.t 19)), om 21 1, om 22 5, o 23 (.iad 4 (.t 21) (.t 22)), o 24 (.load 4 true (.t 23)), o 25 (.call 159 [.t 20, .t 24]), o 26 (.not (.t 25))])
    (.ite (.t 26) (sq [o 4 (.mv (.v (.bool false)))]
     .ret)
    .skip)))
   (.ops [om 15 5, o 16 (.bin .add (.t 15) (iv 1)), om 5 16]))))))
 (sq [o 4 (.mv (.v (.bool true)))]
 .ret))))
noncomputable def X.l_eqUnitS (p0 : (List TUnit)) (p1 : (List TUnit)) : Option Bool :=
 (bif ((p0.length : Int) != (p1.length : Int)) then some false else ((loop (fun (x22 : Int) => ((bif (decide (x22 < (p0.length : Int))) then ((at' zTUnit p0 x22).bind fun v25 => ((at' zTUnit p1 x22).bind fun v27 => ((X.l_eqUnit v25 v27).bind fun v29 => (bif (!v29) then some (Sum.inr (Sum.inr false)) else some (Sum.inl (W (x22 + 1))))))) else some (Sum.inr (Sum.inl ()))) : Option (Int ⊕ (Unit ⊕ Bool)))) 0).bind fun y32 => (Sum.elim (fun (y34 : Unit) => some true) (fun (y35 : Bool) => some y35) y32)))
theorem l_eqUnitS_ok (p0 : (List TUnit)) (p1 : (List TUnit)) (r : Bool) (H : X.l_eqUnitS p0 p1 = some r) : FnOk Tryz.prog gl 70 [.c (dat 4 eTUnit zTUnit p0), .c (dat 4 eTUnit zTUnit p1)] (cB r) := by
 unfold X.l_eqUnitS at H
 refine fi Tryz.f70 l_eqUnitS_ir [(4, cB r)] [] glL Tryz.func70 ?_
 refine so [] [] [(0, dc 4 eTUnit zTUnit p0), (1, dc 4 eTUnit zTUnit p1)] [] id ?_
 refine seq_in ?_
 refine so [] [] [(0, dc 4 eTUnit zTUnit p0), (1, dc 4 eTUnit zTUnit p1), (10, cB ((p0.length : Int) != (p1.length : Int)))] [] (fun t => lI p0 (lI p1 (t))) ?_
 rcases ofCond H with ⟨c2, H⟩ | ⟨c2, H⟩
 ·refine it c2 ?_
  refine so [] [] [(4, cB false)] [] id ?_
  refine ends_ret ?_
  cases H
  exact And.intro (.inl rfl) rfl
 ·refine jf c2 ?_
  refine sk ?_
  refine seq_in ?_
  refine so [] [] [(0, dc 4 eTUnit zTUnit p0), (1, dc 4 eTUnit zTUnit p1), (5, cI 0)] [] id ?_
  refine ends_blk ?_
  obtain ⟨y32, h33, H⟩ := ofBind H
  refine loop_in (fun (x : Int) => lit [(0, dc 4 eTUnit zTUnit p0), (1, dc 4 eTUnit zTUnit p1), (5, cI x)] []) (orJ (fun (z : Unit) => At (.exit 0) (lit [] [])) (fun (z : Bool) => At .ret (lit [(4, cB z)] []))) h33 ?_ ?_
  ·clear H h33
   intro x22 y0 H
   refine seq_in ?_
   refine so [] [] [(0, dc 4 eTUnit zTUnit p0), (1, dc 4 eTUnit zTUnit p1), (5, cI x22), (14, cB (decide (x22 < (p0.length : Int))))] [] (fun t => lI p0 (t)) ?_
   rcases ofCond H with ⟨c24, H⟩ | ⟨c24, H⟩
   ·refine it c24 ?_
    refine sk ?_
    refine seq_in ?_
    refine ends_blk ?_
    obtain ⟨v25, h26, H⟩ := ofBind H
    obtain ⟨v27, h28, H⟩ := ofBind H
    obtain ⟨v29, h30, H⟩ := ofBind H
    refine sd [.cs (eTUnit v25), .cs (eTUnit v27), .res (cB v29)] [] [(0, dc 4 eTUnit zTUnit p0), (1, dc 4 eTUnit zTUnit p1), (5, cI x22), (26, cB (!v29))] [] (fun t => (a2 eTUnit h26 (aI (rfl : ([] : List Nat) = []) ((a2 eTUnit h28 (aI (rfl : ([] : List Nat) = []) (aI (l_eqUnit_ok v25 v27 v29 h30) (aI trivial (aI (rfl : ([] : List Nat) = []) (t)))))))))) ?_
    rcases ofCond H with ⟨c31, H⟩ | ⟨c31, H⟩
    ·refine it c31 ?_
     refine so [] [] [(4, cB false)] [] id ?_
     refine ends_ret ?_
     cases H
     exact And.intro (by simp) (And.intro rfl rfl)
    ·refine jf c31 ?_
     refine sk ?_
     refine oo [] [] [(0, dc 4 eTUnit zTUnit p0), (1, dc 4 eTUnit zTUnit p1), (5, cI (W (x22 + 1)))] [] id ?_
     cases H
     exact And.intro rfl rfl
   ·refine jf c24 ?_
    refine tl [] [] [] id ?_
    refine ends_exit ?_
    cases H
    exact And.intro (by simp) (And.intro rfl rfl)
  ·clear h33
   cases y32 with
   | inl y34 =>
    replace H := ofInl H
    intro e s q
    obtain ⟨rfl, rfl⟩ := q
    change EndsI _ _ _ _ _ _
    refine so [] [] [(4, cB true)] [] id ?_
    refine ends_ret ?_
    cases H
    exact And.intro (.inl rfl) rfl
   | inr y35 =>
    replace H := ofInr H
    intro e s q
    obtain ⟨rfl, rfl⟩ := q
    cases H
    exact And.intro (.inl rfl) rfl
def l_eqState_ir : S :=
 (sq [o 2 (.box 3 (.t 0)), o 3 (.box 3 (.t 1)), o 4 (.mv (.v (.bool false)))]
 (.seq (sq [o 5 (.fad 0 (.t 2)), o 6 (.load 1 false (.t 5)), o 7 (.fad 0 (.t 3)), o 8 (.load 1 false (.t 7)), o 9 (.bin .neq (.t 6) (.t 8))]
 (.ite (.t 9) (sq [o 4 (.mv (.v (.bool false)))]
  .ret)
 .skip))
 (.seq (sq [o 10 (.fad 1 (.t 2)), o 11 (.load 1 false (.t 10)), o 12 (.fad 1 (.t 3)), o 13 (.load 1 false (.t 12)), o 14 (.bin .neq (.t 11) (.t 13))]
 (.ite (.t 14) (sq [o 4 (.mv (.v (.bool false)))]
  .ret)
 .skip))
 (.seq (sq [o 15 (.fad 2 (.t 2)), o 16 (.load 1 false (.t 15)), o 17 (.fad 2 (.t 3)), o 18 (.load 1 false (.t 17)), o 19 (.call 70 [.t 16, .t 18]), o 20 (.not (.t 19))]
 (.ite (.t 20) (sq [o 4 (.mv (.v (.bool false)))]
  .ret)
 .skip))
 (sq [o 4 (.mv (.v (.bool true)))]
 .ret)))))
noncomputable def X.l_eqState (p0 : TState) (p1 : TState) : Option Bool :=
 (bif (p0.Turn != p1.Turn) then some false else (bif (p0.Weather != p1.Weather) then some false else ((X.l_eqUnitS p0.Units p1.Units).bind fun v5 => (bif (!v5) then some false else some true))))
theorem l_eqState_ok (p0 : TState) (p1 : TState) (r : Bool) (H : X.l_eqState p0 p1 = some r) : FnOk Tryz.prog gl 24 [.agg (eTState p0), .agg (eTState p1)] (cB r) := by
 unfold X.l_eqState at H
 refine fi Tryz.f24 l_eqState_ir [(4, cB r)] [] glL Tryz.func24 ?_
 refine so [] [] [(2, pk 2), (3, pk 3)] [(2, va (eTState p0)), (3, va (eTState p1))] id ?_
 refine seq_in ?_
 refine so [] [] [(2, pk 2), (3, pk 3), (9, cB (p0.Turn != p1.Turn))] [(2, va (eTState p0)), (3, va (eTState p1))] id ?_
 rcases ofCond H with ⟨c2, H⟩ | ⟨c2, H⟩
 ·refine it c2 ?_
  refine so [] [] [(4, cB false)] [] id ?_
  refine ends_ret ?_
  cases H
  exact And.intro (.inl rfl) rfl
 ·refine jf c2 ?_
  refine sk ?_
  refine seq_in ?_
  refine so [] [] [(2, pk 2), (3, pk 3), (14, cB (p0.Weather != p1.Weather))] [(2, va (eTState p0)), (3, va (eTState p1))] id ?_
  rcases ofCond H with ⟨c4, H⟩ | ⟨c4, H⟩
  ·refine it c4 ?_
   refine so [] [] [(4, cB false)] [] id ?_
   refine ends_ret ?_
   cases H
   exact And.intro (.inl rfl) rfl
  ·refine jf c4 ?_
   refine sk ?_
   refine seq_in ?_
   obtain ⟨v5, h6, H⟩ := ofBind H
   refine so [.res (cB v5)] [] [(20, cB (!v5))] [] (aI (l_eqUnitS_ok p0.Units p1.Units v5 h6)) ?_
   rcases ofCond H with ⟨c7, H⟩ | ⟨c7, H⟩
   ·refine it c7 ?_
    refine so [] [] [(4, cB false)] [] id ?_
    refine ends_ret ?_
    cases H
    exact And.intro (.inl rfl) rfl
   ·refine jf c7 ?_
    refine sk ?_
    refine so [] [] [(4, cB true)] [] id ?_
    refine ends_ret ?_
    cases H
    exact And.intro (.inl rfl) rfl
def l_eqFrame_ir : S :=
 (sq [o 2 (.box 3 (.t 0)), o 3 (.box 3 (.t 1)), o 4 (.mv (.v (.bool false)))]
 (.seq (sq [o 5 (.fad 0 (.t 2)), o 6 (.load 1 false (.t 5)), o 7 (.fad 0 (.t 3)), o 8 (.load 1 false (.t 7)), o 9 (.bin .neq (.t 6) (.t 8))]
 (.ite (.t 9) (sq [o 4 (.mv (.v (.bool false)))]
  .ret)
 .skip))
 (.seq (sq [o 10 (.fad 1 (.t 2)), o 11 (.load 1 false (.t 10)), o 12 (.fad 1 (.t 3)), o 13 (.load 1 false (.t 12)), o 14 (.bin .neq (.t 11) (.t 13))]
 (.ite (.t 14) (sq [o 4 (.mv (.v (.bool false)))]
  .ret)
 .skip))
 (.seq (sq [o 15 (.fad 2 (.t 2)), o 16 (.load 1 false (.t 15)), o 17 (.fad 2 (.t 3)), o 18 (.load 1 false (.t 17)), o 19 (.bin .neq (.t 16) (.t 18))]
 (.ite (.t 19) (sq [o 4 (.mv (.v (.bool false)))]
  .ret)
 .skip))
 (sq [o 4 (.mv (.v (.bool true)))]
 .ret)))))
noncomputable def X.l_eqFrame (p0 : TFrame) (p1 : TFrame) : Option Bool :=
 (bif (p0.Unit != p1.Unit) then some false else (bif (p0.At != p1.At) then some false else (bif (p0.By != p1.By) then some false else some true)))
theorem l_eqFrame_ok (p0 : TFrame) (p1 : TFrame) (r : Bool) (H : X.l_eqFrame p0 p1 = some r) : FnOk Tryz.prog gl 168 [.agg (eTFrame p0), .agg (eTFrame p1)] (cB r) := by
 unfold X.l_eqFrame at H
 refine fi Tryz.f168 l_eqFrame_ir [(4, cB r)] [] glL Tryz.func168 ?_
 refine so [] [] [(2, pk 2), (3, pk 3)] [(2, va (eTFrame p0)), (3, va (eTFrame p1))] id ?_
 refine seq_in ?_
 refine so [] [] [(2, pk 2), (3, pk 3), (9, cB (p0.Unit != p1.Unit))] [(2, va (eTFrame p0)), (3, va (eTFrame p1))] id ?_
 rcases ofCond H with ⟨c2, H⟩ | ⟨c2, H⟩
 ·refine it c2 ?_
  refine so [] [] [(4, cB false)] [] id ?_
  refine ends_ret ?_
  cases H
  exact And.intro (.inl rfl) rfl
 ·refine jf c2 ?_
  refine sk ?_
  refine seq_in ?_
  refine so [] [] [(2, pk 2), (3, pk 3), (14, cB (p0.At != p1.At))] [(2, va (eTFrame p0)), (3, va (eTFrame p1))] id ?_
  rcases ofCond H with ⟨c4, H⟩ | ⟨c4, H⟩
  ·refine it c4 ?_
   refine so [] [] [(4, cB false)] [] id ?_
   refine ends_ret ?_
   cases H
   exact And.intro (.inl rfl) rfl
  ·refine jf c4 ?_
   refine sk ?_
   refine seq_in ?_
   refine so [] [] [(19, cB (p0.By != p1.By))] [] id ?_
   rcases ofCond H with ⟨c5, H⟩ | ⟨c5, H⟩
   ·refine it c5 ?_
    refine so [] [] [(4, cB false)] [] id ?_
    refine ends_ret ?_
    cases H
    exact And.intro (.inl rfl) rfl
   ·refine jf c5 ?_
    refine sk ?_
    refine so [] [] [(4, cB true)] [] id ?_
    refine ends_ret ?_
    cases H
    exact And.intro (.inl rfl) rfl
def l_eqFrameS_ir : S :=
 (sq [o 4 (.mv (.v (.bool false)))]
 (.seq (sq [om 6 0, o 7 (.len (.t 6)), om 8 1, o 9 (.len (.t 8)), o 10 (.bin .neq (.t 7) (.t 9))]
 (.ite (.t 10) (sq [o 4 (.mv (.v (.bool false)))]
  .ret)
 .skip))
 (.seq (sq [o 5 (.mv (iv 0))]
 (.blk 0 (.loop (.seq (sq [om 11 5, om 12 0, o 13 (.len (.t 12)), o 14 (.bin .lss (.t 11) (.t 13))]
   (.ite (.t 14) .skip
   (.exit 0)))
   (.seq (.blk 1 (.seq (.draw 10 [om 17 0, om 18 5, o 19 (.iad 3 (.t 17) (.t 18)), o 20 (.load 3 true (.t 19)), om 21 1, om 22 5, o 23 (.iad 3 (.t 21) (.t 22)), o 24 (.load 3 true (.t 23)), o 25 (.call 168 [.t 20, .t 24]), o 26 (.not (.t 25))])
    (.ite (.t 26) (sq [o 4 (.mv (.v (.bool false)))]
     .ret)
    .skip)))
   (.ops [om 15 5, o 16 (.bin .add (.t 15) (iv 1)), om 5 16]))))))
 (sq [o 4 (.mv (.v (.bool true)))]
 .ret))))
noncomputable def X.l_eqFrameS (p0 : (List TFrame)) (p1 : (List TFrame)) : Option Bool :=
 (bif ((p0.length : Int) != (p1.length : Int)) then some false else ((loop (fun (x22 : Int) => ((bif (decide (x22 < (p0.length : Int))) then ((at' zTFrame p0 x22).bind fun v25 => ((at' zTFrame p1 x22).bind fun v27 => ((X.l_eqFrame v25 v27).bind fun v29 => (bif (!v29) then some (Sum.inr (Sum.inr false)) else some (Sum.inl (W (x22 + 1))))))) else some (Sum.inr (Sum.inl ()))) : Option (Int ⊕ (Unit ⊕ Bool)))) 0).bind fun y32 => (Sum.elim (fun (y34 : Unit) => some true) (fun (y35 : Bool) => some y35) y32)))
theorem l_eqFrameS_ok (p0 : (List TFrame)) (p1 : (List TFrame)) (r : Bool) (H : X.l_eqFrameS p0 p1 = some r) : FnOk Tryz.prog gl 87 [.c (dat 3 eTFrame zTFrame p0), .c (dat 3 eTFrame zTFrame p1)] (cB r) := by
 unfold X.l_eqFrameS at H
 refine fi Tryz.f87 l_eqFrameS_ir [(4, cB r)] [] glL Tryz.func87 ?_
 refine so [] [] [(0, dc 3 eTFrame zTFrame p0), (1, dc 3 eTFrame zTFrame p1)] [] id ?_
 refine seq_in ?_
 refine so [] [] [(0, dc 3 eTFrame zTFrame p0), (1, dc 3 eTFrame zTFrame p1), (10, cB ((p0.length : Int) != (p1.length : Int)))] [] (fun t => lI p0 (lI p1 (t))) ?_
 rcases ofCond H with ⟨c2, H⟩ | ⟨c2, H⟩
 ·refine it c2 ?_
  refine so [] [] [(4, cB false)] [] id ?_
  refine ends_ret ?_
  cases H
  exact And.intro (.inl rfl) rfl
 ·refine jf c2 ?_
  refine sk ?_
  refine seq_in ?_
  refine so [] [] [(0, dc 3 eTFrame zTFrame p0), (1, dc 3 eTFrame zTFrame p1), (5, cI 0)] [] id ?_
  refine ends_blk ?_
  obtain ⟨y32, h33, H⟩ := ofBind H
  refine loop_in (fun (x : Int) => lit [(0, dc 3 eTFrame zTFrame p0), (1, dc 3 eTFrame zTFrame p1), (5, cI x)] []) (orJ (fun (z : Unit) => At (.exit 0) (lit [] [])) (fun (z : Bool) => At .ret (lit [(4, cB z)] []))) h33 ?_ ?_
  ·clear H h33
   intro x22 y0 H
   refine seq_in ?_
   refine so [] [] [(0, dc 3 eTFrame zTFrame p0), (1, dc 3 eTFrame zTFrame p1), (5, cI x22), (14, cB (decide (x22 < (p0.length : Int))))] [] (fun t => lI p0 (t)) ?_
   rcases ofCond H with ⟨c24, H⟩ | ⟨c24, H⟩
   ·refine it c24 ?_
    refine sk ?_
    refine seq_in ?_
    refine ends_blk ?_
    obtain ⟨v25, h26, H⟩ := ofBind H
    obtain ⟨v27, h28, H⟩ := ofBind H
    obtain ⟨v29, h30, H⟩ := ofBind H
    refine sd [.cs (eTFrame v25), .cs (eTFrame v27), .res (cB v29)] [] [(0, dc 3 eTFrame zTFrame p0), (1, dc 3 eTFrame zTFrame p1), (5, cI x22), (26, cB (!v29))] [] (fun t => (a2 eTFrame h26 (aI (rfl : ([] : List Nat) = []) ((a2 eTFrame h28 (aI (rfl : ([] : List Nat) = []) (aI (l_eqFrame_ok v25 v27 v29 h30) (aI trivial (aI (rfl : ([] : List Nat) = []) (t)))))))))) ?_
    rcases ofCond H with ⟨c31, H⟩ | ⟨c31, H⟩
    ·refine it c31 ?_
     refine so [] [] [(4, cB false)] [] id ?_
     refine ends_ret ?_
     cases H
     exact And.intro (by simp) (And.intro rfl rfl)
    ·refine jf c31 ?_
     refine sk ?_
     refine oo [] [] [(0, dc 3 eTFrame zTFrame p0), (1, dc 3 eTFrame zTFrame p1), (5, cI (W (x22 + 1)))] [] id ?_
     cases H
     exact And.intro rfl rfl
   ·refine jf c24 ?_
    refine tl [] [] [] id ?_
    refine ends_exit ?_
    cases H
    exact And.intro (by simp) (And.intro rfl rfl)
  ·clear h33
   cases y32 with
   | inl y34 =>
    replace H := ofInl H
    intro e s q
    obtain ⟨rfl, rfl⟩ := q
    change EndsI _ _ _ _ _ _
    refine so [] [] [(4, cB true)] [] id ?_
    refine ends_ret ?_
    cases H
    exact And.intro (.inl rfl) rfl
   | inr y35 =>
    replace H := ofInr H
    intro e s q
    obtain ⟨rfl, rfl⟩ := q
    cases H
    exact And.intro (.inl rfl) rfl
def l_eqMachine_ir : S :=
 (sq [o 2 (.box 6 (.t 0)), o 3 (.box 6 (.t 1)), o 4 (.mv (.v (.bool false)))]
 (.seq (sq [o 5 (.fad 0 (.t 2)), o 6 (.load 1 false (.t 5)), o 7 (.fad 0 (.t 3)), o 8 (.load 1 false (.t 7)), o 9 (.call 87 [.t 6, .t 8]), o 10 (.not (.t 9))]
 (.ite (.t 10) (sq [o 4 (.mv (.v (.bool false)))]
  .ret)
 .skip))
 (.seq (sq [o 11 (.fad 1 (.t 2)), o 12 (.load 1 false (.t 11)), o 13 (.fad 1 (.t 3)), o 14 (.load 1 false (.t 13)), o 15 (.call 31 [.t 12, .t 14]), o 16 (.not (.t 15))]
 (.ite (.t 16) (sq [o 4 (.mv (.v (.bool false)))]
  .ret)
 .skip))
 (.seq (sq [o 17 (.fad 2 (.t 2)), o 18 (.load 3 true (.t 17)), o 19 (.fad 2 (.t 3)), o 20 (.load 3 true (.t 19)), o 21 (.call 24 [.t 18, .t 20]), o 22 (.not (.t 21))]
 (.ite (.t 22) (sq [o 4 (.mv (.v (.bool false)))]
  .ret)
 .skip))
 (.seq (sq [o 23 (.fad 5 (.t 2)), o 24 (.load 1 false (.t 23)), o 25 (.fad 5 (.t 3)), o 26 (.load 1 false (.t 25)), o 27 (.call 31 [.t 24, .t 26]), o 28 (.not (.t 27))]
 (.ite (.t 28) (sq [o 4 (.mv (.v (.bool false)))]
  .ret)
 .skip))
 (sq [o 4 (.mv (.v (.bool true)))]
 .ret))))))
noncomputable def X.l_eqMachine (p0 : TMachine) (p1 : TMachine) : Option Bool :=
 ((X.l_eqFrameS p0.Stack p1.Stack).bind fun v4 => (bif (!v4) then some false else ((X.l_eqIntS p0.Used p1.Used).bind fun v10 => (bif (!v10) then some false else ((X.l_eqState p0.State p1.State).bind fun v16 => (bif (!v16) then some false else ((X.l_eqIntS p0.Log p1.Log).bind fun v19 => (bif (!v19) then some false else some true))))))))
theorem l_eqMachine_ok (p0 : TMachine) (p1 : TMachine) (r : Bool) (H : X.l_eqMachine p0 p1 = some r) : FnOk Tryz.prog gl 23 [.agg (eTMachine p0), .agg (eTMachine p1)] (cB r) := by
 unfold X.l_eqMachine at H
 refine fi Tryz.f23 l_eqMachine_ir [(4, cB r)] [] glL Tryz.func23 ?_
 refine so [] [] [(2, pk 2), (3, pk 3)] [(2, va (eTMachine p0)), (3, va (eTMachine p1))] id ?_
 refine seq_in ?_
 obtain ⟨v4, h5, H⟩ := ofBind H
 refine so [.res (cB v4)] [] [(2, pk 2), (3, pk 3), (10, cB (!v4))] [(2, va (eTMachine p0)), (3, va (eTMachine p1))] (aI (l_eqFrameS_ok p0.Stack p1.Stack v4 h5)) ?_
 rcases ofCond H with ⟨c6, H⟩ | ⟨c6, H⟩
 ·refine it c6 ?_
  refine so [] [] [(4, cB false)] [] id ?_
  refine ends_ret ?_
  cases H
  exact And.intro (.inl rfl) rfl
 ·refine jf c6 ?_
  refine sk ?_
  refine seq_in ?_
  obtain ⟨v10, h11, H⟩ := ofBind H
  refine so [.res (cB v10)] [] [(2, pk 2), (3, pk 3), (16, cB (!v10))] [(2, va (eTMachine p0)), (3, va (eTMachine p1))] (aI (l_eqIntS_ok p0.Used p1.Used v10 h11)) ?_
  rcases ofCond H with ⟨c12, H⟩ | ⟨c12, H⟩
  ·refine it c12 ?_
   refine so [] [] [(4, cB false)] [] id ?_
   refine ends_ret ?_
   cases H
   exact And.intro (.inl rfl) rfl
  ·refine jf c12 ?_
   refine sk ?_
   refine seq_in ?_
   obtain ⟨v16, h17, H⟩ := ofBind H
   refine so [.res (cB v16)] [] [(2, pk 2), (3, pk 3), (22, cB (!v16))] [(2, va (eTMachine p0)), (3, va (eTMachine p1))] (aI (l_eqState_ok p0.State p1.State v16 h17)) ?_
   rcases ofCond H with ⟨c18, H⟩ | ⟨c18, H⟩
   ·refine it c18 ?_
    refine so [] [] [(4, cB false)] [] id ?_
    refine ends_ret ?_
    cases H
    exact And.intro (.inl rfl) rfl
   ·refine jf c18 ?_
    refine sk ?_
    refine seq_in ?_
    obtain ⟨v19, h20, H⟩ := ofBind H
    refine so [.res (cB v19)] [] [(28, cB (!v19))] [] (aI (l_eqIntS_ok p0.Log p1.Log v19 h20)) ?_
    rcases ofCond H with ⟨c21, H⟩ | ⟨c21, H⟩
    ·refine it c21 ?_
     refine so [] [] [(4, cB false)] [] id ?_
     refine ends_ret ?_
     cases H
     exact And.intro (.inl rfl) rfl
    ·refine jf c21 ?_
     refine sk ?_
     refine so [] [] [(4, cB true)] [] id ?_
     refine ends_ret ?_
     cases H
     exact And.intro (.inl rfl) rfl
def l_markUnitS_ir : S :=
 (sq [o 4 (.mv (iv 0))]
 (.seq (sq [o 5 (.mv (iv 0))]
 (.blk 0 (.loop (.seq (sq [om 6 5, om 7 0, o 8 (.len (.t 7)), o 9 (.bin .lss (.t 6) (.t 8))]
   (.ite (.t 9) .skip
   (.exit 0)))
   (.seq (.blk 1 (sq [om 12 0, om 13 5, om 14 1, o 15 (.iad 4 (.t 12) (.t 13)), o 16 (.fad 0 (.t 15)), ⟨none, .store 1 (.t 16) (.t 14), none⟩]
    (sq [om 17 1, o 18 (.bin .add (.t 17) (iv 1)), om 1 18]
    (sq [om 19 0, om 20 5, om 21 1, o 22 (.iad 4 (.t 19) (.t 20)), o 23 (.fad 1 (.t 22)), ⟨none, .store 1 (.t 23) (.t 21), none⟩]
    (sq [om 24 1, o 25 (.bin .add (.t 24) (iv 1)), om 1 25]
    (sq [om 26 0, om 27 5, om 28 1, o 29 (.iad 4 (.t 26) (.t 27)), o 30 (.fad 2 (.t 29)), ⟨none, .store 1 (.t 30) (.t 28), none⟩]
    (sq [om 31 1, o 32 (.bin .add (.t 31) (iv 1)), om 1 32]
    (sq [om 33 0, om 34 5, om 35 1, o 36 (.iad 4 (.t 33) (.t 34)), o 37 (.fad 3 (.t 36)), ⟨none, .store 1 (.t 37) (.t 35), none⟩]
    (.ops [om 38 1, o 39 (.bin .add (.t 38) (iv 1)), om 1 39])))))))))
   (.ops [om 10 5, o 11 (.bin .add (.t 10) (iv 1)), om 5 11]))))))
 (sq [om 40 1, om 4 40]
 .ret)))
noncomputable def X.l_markUnitS_L (p0 : (List TUnit)) (p1 : Int) : Option Int :=
 ((loop (fun (x10 : (Int × Int)) => ((bif (decide (x10.2 < (p0.length : Int))) then ((at' zTUnit p0 x10.2).bind fun v13 => some (Sum.inl ((W ((W ((W ((W (x10.1 + 1)) + 1)) + 1)) + 1)), (W (x10.2 + 1))))) else some (Sum.inr x10.1)) : Option ((Int × Int) ⊕ Int))) (p1, 0)).bind fun y15 => some y15)
theorem l_markUnitS_L_ok (p0 : (List TUnit)) (p1 : Int) (r : Int) (H : X.l_markUnitS_L p0 p1 = some r) : FnOk Tryz.prog gl 75 [.c (.lv (dat 4 eTUnit zTUnit p0)), cI p1] (cI r) := by
 unfold X.l_markUnitS_L at H
 refine fi Tryz.f75 l_markUnitS_ir [(4, cI r)] [] glL Tryz.func75 ?_
 refine so [] [] [(0, .c (.lv (dat 4 eTUnit zTUnit p0))), (1, cI p1)] [] id ?_
 refine seq_in ?_
 refine so [] [] [(0, .c (.lv (dat 4 eTUnit zTUnit p0))), (1, cI p1), (5, cI 0)] [] id ?_
 refine ends_blk ?_
 obtain ⟨y15, h16, H⟩ := ofBind H
 refine loop_in (fun (x : (Int × Int)) => lit [(0, .c (.lv (dat 4 eTUnit zTUnit p0))), (1, cI x.1), (5, cI x.2)] []) (fun (z : Int) => At (.exit 0) (lit [(1, cI z)] [])) h16 ?_ ?_
 ·clear H h16
  intro x10 y0 H
  refine seq_in ?_
  refine so [] [] [(0, .c (.lv (dat 4 eTUnit zTUnit p0))), (1, cI x10.1), (5, cI x10.2), (9, cB (decide (x10.2 < (p0.length : Int))))] [] (fun t => lI p0 (t)) ?_
  rcases ofCond H with ⟨c12, H⟩ | ⟨c12, H⟩
  ·refine it c12 ?_
   refine sk ?_
   refine seq_in ?_
   refine ends_blk ?_
   obtain ⟨v13, h14, H⟩ := ofBind H
   refine so [.cs (eTUnit v13)] [] [(0, .c (.lv (dat 4 eTUnit zTUnit p0))), (1, cI x10.1), (5, cI x10.2)] [] (fun t => (a2 eTUnit h14 (aI (rfl : true = true) (t)))) ?_
   refine so [] [] [(0, .c (.lv (dat 4 eTUnit zTUnit p0))), (1, cI (W (x10.1 + 1))), (5, cI x10.2)] [] id ?_
   refine so [.cs (eTUnit v13)] [] [(0, .c (.lv (dat 4 eTUnit zTUnit p0))), (1, cI (W (x10.1 + 1))), (5, cI x10.2)] [] (fun t => (a2 eTUnit h14 (aI (rfl : true = true) (t)))) ?_
   refine so [] [] [(0, .c (.lv (dat 4 eTUnit zTUnit p0))), (1, cI (W ((W (x10.1 + 1)) + 1))), (5, cI x10.2)] [] id ?_
   refine so [.cs (eTUnit v13)] [] [(0, .c (.lv (dat 4 eTUnit zTUnit p0))), (1, cI (W ((W (x10.1 + 1)) + 1))), (5, cI x10.2)] [] (fun t => (a2 eTUnit h14 (aI (rfl : true = true) (t)))) ?_
   refine so [] [] [(0, .c (.lv (dat 4 eTUnit zTUnit p0))), (1, cI (W ((W ((W (x10.1 + 1)) + 1)) + 1))), (5, cI x10.2)] [] id ?_
   refine so [.cs (eTUnit v13)] [] [(0, .c (.lv (dat 4 eTUnit zTUnit p0))), (1, cI (W ((W ((W (x10.1 + 1)) + 1)) + 1))), (5, cI x10.2)] [] (fun t => (a2 eTUnit h14 (aI (rfl : true = true) (t)))) ?_
   refine oo [] [] [(0, .c (.lv (dat 4 eTUnit zTUnit p0))), (1, cI (W ((W ((W ((W (x10.1 + 1)) + 1)) + 1)) + 1))), (5, cI x10.2)] [] id ?_
   change EndsI _ _ _ _ _ _
   refine oo [] [] [(0, .c (.lv (dat 4 eTUnit zTUnit p0))), (1, cI (W ((W ((W ((W (x10.1 + 1)) + 1)) + 1)) + 1))), (5, cI (W (x10.2 + 1)))] [] id ?_
   cases H
   exact And.intro rfl rfl
  ·refine jf c12 ?_
   refine tl [] [(1, cI x10.1)] [] id ?_
   refine ends_exit ?_
   cases H
   exact And.intro (by simp) (And.intro rfl rfl)
 ·clear h16
  intro e s q
  obtain ⟨rfl, rfl⟩ := q
  change EndsI _ _ _ _ _ _
  refine so [] [] [(4, cI y15)] [] id ?_
  refine ends_ret ?_
  cases H
  exact And.intro (.inl rfl) rfl
def l_markState_ir : S :=
 (sq [o 2 (.box 3 (.t 0)), o 4 (.mv (iv 0))]
 (sq [o 5 (.fad 2 (.t 2)), o 6 (.load 1 false (.t 5)), om 7 1, o 8 (.call 75 [.t 6, .t 7]), om 1 8]
 (sq [om 9 1, om 4 9]
 .ret)))
noncomputable def X.l_markState_L (p0 : TState) (p1 : Int) : Option Int :=
 ((X.l_markUnitS_L p0.Units p1).bind fun v1 => some v1)
theorem l_markState_L_ok (p0 : TState) (p1 : Int) (r : Int) (H : X.l_markState_L p0 p1 = some r) : FnOk Tryz.prog gl 25 [.agg [.int .i64 p0.Turn, .int .i64 p0.Weather, .lv (dat 4 eTUnit zTUnit p0.Units)], cI p1] (cI r) := by
 unfold X.l_markState_L at H
 refine fi Tryz.f25 l_markState_ir [(4, cI r)] [] glL Tryz.func25 ?_
 refine so [] [] [(1, cI p1), (2, pk 2)] [(2, .var [.int .i64 p0.Turn, .int .i64 p0.Weather, .lv (dat 4 eTUnit zTUnit p0.Units)] false)] id ?_
 obtain ⟨v1, h2, H⟩ := ofBind H
 refine so [.res (cI v1)] [] [(1, cI v1)] [] (aI (l_markUnitS_L_ok p0.Units p1 v1 h2)) ?_
 refine so [] [] [(4, cI v1)] [] id ?_
 refine ends_ret ?_
 cases H
 exact And.intro (.inl rfl) rfl
noncomputable def X.l_markUnitS_Mod (p0 : (List TUnit)) (p1 : Int) : Option (Int × (List TUnit)) :=
 ((loop (fun (x24 : (Int × Int × (List TUnit))) => ((bif (decide (x24.2.1 < (x24.2.2.length : Int))) then (if 0 ≤ x24.2.1 ∧ x24.2.1 < (x24.2.2.length : Int) then ((some (x24.2.2.set x24.2.1.toNat (TUnit.mk x24.1 ((x24.2.2.getD x24.2.1.toNat zTUnit).Kind) ((x24.2.2.getD x24.2.1.toNat zTUnit).At) ((x24.2.2.getD x24.2.1.toNat zTUnit).Steps)))).bind fun l28 => ((some (l28.set x24.2.1.toNat (TUnit.mk ((l28.getD x24.2.1.toNat zTUnit).Side) (W (x24.1 + 1)) ((l28.getD x24.2.1.toNat zTUnit).At) ((l28.getD x24.2.1.toNat zTUnit).Steps)))).bind fun l30 => ((some (l30.set x24.2.1.toNat (TUnit.mk ((l30.getD x24.2.1.toNat zTUnit).Side) ((l30.getD x24.2.1.toNat zTUnit).Kind) (W ((W (x24.1 + 1)) + 1)) ((l30.getD x24.2.1.toNat zTUnit).Steps)))).bind fun l32 => ((some (l32.set x24.2.1.toNat (TUnit.mk ((l32.getD x24.2.1.toNat zTUnit).Side) ((l32.getD x24.2.1.toNat zTUnit).Kind) ((l32.getD x24.2.1.toNat zTUnit).At) (W ((W ((W (x24.1 + 1)) + 1)) + 1))))).bind fun l34 => some (Sum.inl ((W ((W ((W ((W (x24.1 + 1)) + 1)) + 1)) + 1)), (W (x24.2.1 + 1)), l34)))))) else none) else some (Sum.inr (x24.1, x24.2.2))) : Option ((Int × Int × (List TUnit)) ⊕ (Int × (List TUnit))))) (p1, 0, p0)).bind fun y36 => some (y36.1, y36.2))
theorem l_markUnitS_Mod_ok (p0 : (List TUnit)) (p1 : Int) (r : (Int × (List TUnit))) (H : X.l_markUnitS_Mod p0 p1 = some r) : FnMu Tryz.prog gl 75 [.c (.own 1000000 4 0 p0.length), cI p1] [(1000000, .arr 4 p0.length (fF eTUnit zTUnit p0) false)] (cI r.1) [(1000000, .arr 4 r.2.length (fF eTUnit zTUnit r.2) false)] := by
 unfold X.l_markUnitS_Mod at H
 refine fn_mu (fn := Tryz.f75) (ir := l_markUnitS_ir) (E' := [(4, cI r.1)]) (E1 := [(1000000, ar 4 eTUnit zTUnit r.2)]) glL Tryz.func75 (by kernel_rfl) (by kernel_rfl) (by kernel_rfl) (by kernel_rfl) (by kernel_rfl) ?_
 refine so [] [] [(0, ow 1000000 4 p0), (1, cI p1)] [(1000000, ar 4 eTUnit zTUnit p0)] id ?_
 refine seq_in ?_
 refine so [] [] [(0, ow 1000000 4 p0), (1, cI p1), (5, cI 0)] [(1000000, ar 4 eTUnit zTUnit p0)] id ?_
 refine ends_blk ?_
 obtain ⟨y36, h37, H⟩ := ofBind H
 refine loop_in (fun (x : (Int × Int × (List TUnit))) => lit [(0, ow 1000000 4 x.2.2), (1, cI x.1), (5, cI x.2.1)] [(1000000, ar 4 eTUnit zTUnit x.2.2)]) (fun (z : (Int × (List TUnit))) => At (.exit 0) (lit [(1, cI z.1)] [(1000000, ar 4 eTUnit zTUnit z.2)])) h37 ?_ ?_
 ·clear H h37
  intro x24 y0 H
  refine seq_in ?_
  refine so [] [] [(0, ow 1000000 4 x24.2.2), (1, cI x24.1), (5, cI x24.2.1), (9, cB (decide (x24.2.1 < (x24.2.2.length : Int))))] [(1000000, ar 4 eTUnit zTUnit x24.2.2)] (fun t => lI x24.2.2 (t)) ?_
  rcases ofCond H with ⟨c26, H⟩ | ⟨c26, H⟩
  ·refine it c26 ?_
   refine sk ?_
   refine seq_in ?_
   refine ends_blk ?_
   obtain ⟨g27, H⟩ := ofIf H
   obtain ⟨l28, h29, H⟩ := ofBind H
   refine so [.no, .fn 0 (fF eTUnit zTUnit l28)] [] [(0, ow 1000000 4 x24.2.2), (1, cI x24.1), (5, cI x24.2.1)] [(1000000, .arr 4 x24.2.2.length (fF eTUnit zTUnit l28) false)] (fun t => aI g27 (aI (rfl : true = true) (aI (nat_lt g27) (aI (by decide : 0 + 1 ≤ 4) (aI (fF_setN eTUnit zTUnit h29 (nat_lt g27) x24.2.2.length) (t)))))) ?_
   refine so [] [] [(0, ow 1000000 4 x24.2.2), (1, cI (W (x24.1 + 1))), (5, cI x24.2.1)] [(1000000, .arr 4 x24.2.2.length (fF eTUnit zTUnit l28) false)] id ?_
   obtain ⟨l30, h31, H⟩ := ofBind H
   refine so [.no, .fn 0 (fF eTUnit zTUnit l30)] [] [(0, ow 1000000 4 x24.2.2), (1, cI (W (x24.1 + 1))), (5, cI x24.2.1)] [(1000000, .arr 4 x24.2.2.length (fF eTUnit zTUnit l30) false)] (fun t => aI g27 (aI (rfl : true = true) (aI (nat_lt g27) (aI (by decide : 1 + 1 ≤ 4) (aI (fF_setN eTUnit zTUnit h31 (ltN h29 (nat_lt g27)) x24.2.2.length) (t)))))) ?_
   refine so [] [] [(0, ow 1000000 4 x24.2.2), (1, cI (W ((W (x24.1 + 1)) + 1))), (5, cI x24.2.1)] [(1000000, .arr 4 x24.2.2.length (fF eTUnit zTUnit l30) false)] id ?_
   obtain ⟨l32, h33, H⟩ := ofBind H
   refine so [.no, .fn 0 (fF eTUnit zTUnit l32)] [] [(0, ow 1000000 4 x24.2.2), (1, cI (W ((W (x24.1 + 1)) + 1))), (5, cI x24.2.1)] [(1000000, .arr 4 x24.2.2.length (fF eTUnit zTUnit l32) false)] (fun t => aI g27 (aI (rfl : true = true) (aI (nat_lt g27) (aI (by decide : 2 + 1 ≤ 4) (aI (fF_setN eTUnit zTUnit h33 (ltN h31 (ltN h29 (nat_lt g27))) x24.2.2.length) (t)))))) ?_
   refine so [] [] [(0, ow 1000000 4 x24.2.2), (1, cI (W ((W ((W (x24.1 + 1)) + 1)) + 1))), (5, cI x24.2.1)] [(1000000, .arr 4 x24.2.2.length (fF eTUnit zTUnit l32) false)] id ?_
   obtain ⟨l34, h35, H⟩ := ofBind H
   refine so [.no, .fn 0 (fF eTUnit zTUnit l34)] [] [(0, ow 1000000 4 x24.2.2), (1, cI (W ((W ((W (x24.1 + 1)) + 1)) + 1))), (5, cI x24.2.1)] [(1000000, .arr 4 x24.2.2.length (fF eTUnit zTUnit l34) false)] (fun t => aI g27 (aI (rfl : true = true) (aI (nat_lt g27) (aI (by decide : 3 + 1 ≤ 4) (aI (fF_setN eTUnit zTUnit h35 (ltN h33 (ltN h31 (ltN h29 (nat_lt g27)))) x24.2.2.length) (t)))))) ?_
   refine oo [] [] [(0, ow 1000000 4 x24.2.2), (1, cI (W ((W ((W ((W (x24.1 + 1)) + 1)) + 1)) + 1))), (5, cI x24.2.1)] [(1000000, .arr 4 x24.2.2.length (fF eTUnit zTUnit l34) false)] id ?_
   change EndsI _ _ _ _ _ _
   refine oo [] [.rel 0 l34.length, .rep 1000000 l34.length (fF eTUnit zTUnit l34)] [(0, ow 1000000 4 l34), (1, cI (W ((W ((W ((W (x24.1 + 1)) + 1)) + 1)) + 1))), (5, cI (W (x24.2.1 + 1)))] [(1000000, ar 4 eTUnit zTUnit l34)] (fun t => aI (by simp [lenN h35, lenN h33, lenN h31, lenN h29] : x24.2.2.length = l34.length) (aI (Nat.le_of_eq (by simp [lenN h35, lenN h33, lenN h31, lenN h29] : l34.length = x24.2.2.length)) (aI (fun _ _ => rfl : ∀ i, i < l34.length → (fF eTUnit zTUnit l34) i = (fF eTUnit zTUnit l34) i) (t)))) ?_
   cases H
   exact And.intro rfl rfl
  ·refine jf c26 ?_
   refine tl [] [(1, cI x24.1)] [(1000000, ar 4 eTUnit zTUnit x24.2.2)] id ?_
   refine ends_exit ?_
   cases H
   exact And.intro (by simp) (And.intro rfl rfl)
 ·clear h37
  intro e s q
  obtain ⟨rfl, rfl⟩ := q
  change EndsI _ _ _ _ _ _
  refine so [] [] [(4, cI y36.1)] [(1000000, ar 4 eTUnit zTUnit y36.2)] id ?_
  refine ends_ret ?_
  cases H
  exact And.intro (.inl rfl) rfl
noncomputable def X.l_markState_Mod (p0 : TState) (p1 : Int) : Option (Int × TState) :=
 ((X.l_markUnitS_Mod p0.Units p1).bind fun v1 => (if v1.2.length = p0.Units.length then some (v1.1, (TState.mk p0.Turn p0.Weather v1.2)) else none))
theorem l_markState_Mod_ok (p0 : TState) (p1 : Int) (r : (Int × TState)) (H : X.l_markState_Mod p0 p1 = some r) : FnMu Tryz.prog gl 25 [.agg [.int .i64 p0.Turn, .int .i64 p0.Weather, .own 1000000 4 0 p0.Units.length], cI p1] [(1000000, .arr 4 p0.Units.length (fF eTUnit zTUnit p0.Units) false)] (cI r.1) [(1000000, .arr 4 r.2.Units.length (fF eTUnit zTUnit r.2.Units) false)] := by
 unfold X.l_markState_Mod at H
 refine fn_mu (fn := Tryz.f25) (ir := l_markState_ir) (E' := [(4, cI r.1)]) (E1 := [(1000000, ar 4 eTUnit zTUnit r.2.Units)]) glL Tryz.func25 (by kernel_rfl) (by kernel_rfl) (by kernel_rfl) (by kernel_rfl) (by kernel_rfl) ?_
 refine so [] [] [(1, cI p1), (2, pk 2)] [(2, .var [.int .i64 p0.Turn, .int .i64 p0.Weather, .own 1000000 4 0 p0.Units.length] false), (1000000, ar 4 eTUnit zTUnit p0.Units)] id ?_
 obtain ⟨v1, h2, H⟩ := ofBind H
 obtain ⟨g3, H⟩ := ofIf H
 refine so [.mu [(1000000, 1000000)] [(1000000, 1000000)] (cI v1.1) [(1000000, ar 4 eTUnit zTUnit v1.2)]] [.rel 6 v1.2.length, .relc 2 2 v1.2.length] [(1, cI v1.1)] [(1000000, ar 4 eTUnit zTUnit v1.2)] (fun t => aI (l_markUnitS_Mod_ok p0.Units p1 v1 h2) (aI (Eq.symm g3) (aI (Eq.symm g3) (t)))) ?_
 refine so [] [] [(4, cI v1.1)] [(1000000, ar 4 eTUnit zTUnit v1.2)] id ?_
 refine ends_ret ?_
 cases H
 exact And.intro (.inl rfl) rfl
noncomputable def X.l_markIntS_Mod (p0 : (List Int)) (p1 : Int) : Option (Int × (List Int)) :=
 ((loop (fun (x8 : (Int × Int × (List Int))) => ((bif (decide (x8.2.1 < (x8.2.2.length : Int))) then (if 0 ≤ x8.2.1 ∧ x8.2.1 < (x8.2.2.length : Int) then some (Sum.inl ((W (x8.1 + 1)), (W (x8.2.1 + 1)), (x8.2.2.set x8.2.1.toNat x8.1))) else none) else some (Sum.inr (x8.1, x8.2.2))) : Option ((Int × Int × (List Int)) ⊕ (Int × (List Int))))) (p1, 0, p0)).bind fun y12 => some (y12.1, y12.2))
theorem l_markIntS_Mod_ok (p0 : (List Int)) (p1 : Int) (r : (Int × (List Int))) (H : X.l_markIntS_Mod p0 p1 = some r) : FnMu Tryz.prog gl 32 [.c (.own 1000000 1 0 p0.length), cI p1] [(1000000, .arr 1 p0.length (fF eI zI p0) false)] (cI r.1) [(1000000, .arr 1 r.2.length (fF eI zI r.2) false)] := by
 unfold X.l_markIntS_Mod at H
 refine fn_mu (fn := Tryz.f32) (ir := l_markIntS_ir) (E' := [(4, cI r.1)]) (E1 := [(1000000, ar 1 eI zI r.2)]) glL Tryz.func32 (by kernel_rfl) (by kernel_rfl) (by kernel_rfl) (by kernel_rfl) (by kernel_rfl) ?_
 refine so [] [] [(0, ow 1000000 1 p0), (1, cI p1)] [(1000000, ar 1 eI zI p0)] id ?_
 refine seq_in ?_
 refine so [] [] [(0, ow 1000000 1 p0), (1, cI p1), (5, cI 0)] [(1000000, ar 1 eI zI p0)] id ?_
 refine ends_blk ?_
 obtain ⟨y12, h13, H⟩ := ofBind H
 refine loop_in (fun (x : (Int × Int × (List Int))) => lit [(0, ow 1000000 1 x.2.2), (1, cI x.1), (5, cI x.2.1)] [(1000000, ar 1 eI zI x.2.2)]) (fun (z : (Int × (List Int))) => At (.exit 0) (lit [(1, cI z.1)] [(1000000, ar 1 eI zI z.2)])) h13 ?_ ?_
 ·clear H h13
  intro x8 y0 H
  refine seq_in ?_
  refine so [] [] [(0, ow 1000000 1 x8.2.2), (1, cI x8.1), (5, cI x8.2.1), (9, cB (decide (x8.2.1 < (x8.2.2.length : Int))))] [(1000000, ar 1 eI zI x8.2.2)] (fun t => lI x8.2.2 (t)) ?_
  rcases ofCond H with ⟨c10, H⟩ | ⟨c10, H⟩
  ·refine it c10 ?_
   refine sk ?_
   refine seq_in ?_
   refine ends_blk ?_
   obtain ⟨g11, H⟩ := ofIf H
   refine so [.no, .fn 0 (fF eI zI (x8.2.2.set x8.2.1.toNat x8.1))] [] [(0, ow 1000000 1 x8.2.2), (1, cI x8.1), (5, cI x8.2.1)] [(1000000, .arr 1 x8.2.2.length (fF eI zI (x8.2.2.set x8.2.1.toNat x8.1)) false)] (fun t => aI g11 (aI (rfl : true = true) (aI (nat_lt g11) (aI (by decide : 0 + 1 ≤ 1) (aI (fF_set eI zI x8.2.2 x8.2.1.toNat x8.1 (nat_lt g11) x8.2.2.length) (t)))))) ?_
   refine oo [] [] [(0, ow 1000000 1 x8.2.2), (1, cI (W (x8.1 + 1))), (5, cI x8.2.1)] [(1000000, .arr 1 x8.2.2.length (fF eI zI (x8.2.2.set x8.2.1.toNat x8.1)) false)] id ?_
   change EndsI _ _ _ _ _ _
   refine oo [] [.rel 0 ((x8.2.2.set x8.2.1.toNat x8.1).length), .rep 1000000 ((x8.2.2.set x8.2.1.toNat x8.1).length) (fF eI zI (x8.2.2.set x8.2.1.toNat x8.1))] [(0, ow 1000000 1 (x8.2.2.set x8.2.1.toNat x8.1)), (1, cI (W (x8.1 + 1))), (5, cI (W (x8.2.1 + 1)))] [(1000000, ar 1 eI zI (x8.2.2.set x8.2.1.toNat x8.1))] (fun t => aI (by simp : x8.2.2.length = (x8.2.2.set x8.2.1.toNat x8.1).length) (aI (Nat.le_of_eq (by simp : (x8.2.2.set x8.2.1.toNat x8.1).length = x8.2.2.length)) (aI (fun _ _ => rfl : ∀ i, i < (x8.2.2.set x8.2.1.toNat x8.1).length → (fF eI zI (x8.2.2.set x8.2.1.toNat x8.1)) i = (fF eI zI (x8.2.2.set x8.2.1.toNat x8.1)) i) (t)))) ?_
   cases H
   exact And.intro rfl rfl
  ·refine jf c10 ?_
   refine tl [] [(1, cI x8.1)] [(1000000, ar 1 eI zI x8.2.2)] id ?_
   refine ends_exit ?_
   cases H
   exact And.intro (by simp) (And.intro rfl rfl)
 ·clear h13
  intro e s q
  obtain ⟨rfl, rfl⟩ := q
  change EndsI _ _ _ _ _ _
  refine so [] [] [(4, cI y12.1)] [(1000000, ar 1 eI zI y12.2)] id ?_
  refine ends_ret ?_
  cases H
  exact And.intro (.inl rfl) rfl
def l_markFrameS_ir : S :=
 (sq [o 4 (.mv (iv 0))]
 (.seq (sq [o 5 (.mv (iv 0))]
 (.blk 0 (.loop (.seq (sq [om 6 5, om 7 0, o 8 (.len (.t 7)), o 9 (.bin .lss (.t 6) (.t 8))]
   (.ite (.t 9) .skip
   (.exit 0)))
   (.seq (.blk 1 (sq [om 12 0, om 13 5, om 14 1, o 15 (.iad 3 (.t 12) (.t 13)), o 16 (.fad 0 (.t 15)), ⟨none, .store 1 (.t 16) (.t 14), none⟩]
    (sq [om 17 1, o 18 (.bin .add (.t 17) (iv 1)), om 1 18]
    (sq [om 19 0, om 20 5, om 21 1, o 22 (.iad 3 (.t 19) (.t 20)), o 23 (.fad 1 (.t 22)), ⟨none, .store 1 (.t 23) (.t 21), none⟩]
    (sq [om 24 1, o 25 (.bin .add (.t 24) (iv 1)), om 1 25]
    (sq [om 26 0, om 27 5, om 28 1, o 29 (.iad 3 (.t 26) (.t 27)), o 30 (.fad 2 (.t 29)), ⟨none, .store 1 (.t 30) (.t 28), none⟩]
    (.ops [om 31 1, o 32 (.bin .add (.t 31) (iv 1)), om 1 32])))))))
   (.ops [om 10 5, o 11 (.bin .add (.t 10) (iv 1)), om 5 11]))))))
 (sq [om 33 1, om 4 33]
 .ret)))
noncomputable def X.l_markFrameS_Mod (p0 : (List TFrame)) (p1 : Int) : Option (Int × (List TFrame)) :=
 ((loop (fun (x20 : (Int × Int × (List TFrame))) => ((bif (decide (x20.2.1 < (x20.2.2.length : Int))) then (if 0 ≤ x20.2.1 ∧ x20.2.1 < (x20.2.2.length : Int) then ((some (x20.2.2.set x20.2.1.toNat (TFrame.mk x20.1 ((x20.2.2.getD x20.2.1.toNat zTFrame).At) ((x20.2.2.getD x20.2.1.toNat zTFrame).By)))).bind fun l24 => ((some (l24.set x20.2.1.toNat (TFrame.mk ((l24.getD x20.2.1.toNat zTFrame).Unit) (W (x20.1 + 1)) ((l24.getD x20.2.1.toNat zTFrame).By)))).bind fun l26 => ((some (l26.set x20.2.1.toNat (TFrame.mk ((l26.getD x20.2.1.toNat zTFrame).Unit) ((l26.getD x20.2.1.toNat zTFrame).At) (W ((W (x20.1 + 1)) + 1))))).bind fun l28 => some (Sum.inl ((W ((W ((W (x20.1 + 1)) + 1)) + 1)), (W (x20.2.1 + 1)), l28))))) else none) else some (Sum.inr (x20.1, x20.2.2))) : Option ((Int × Int × (List TFrame)) ⊕ (Int × (List TFrame))))) (p1, 0, p0)).bind fun y30 => some (y30.1, y30.2))
theorem l_markFrameS_Mod_ok (p0 : (List TFrame)) (p1 : Int) (r : (Int × (List TFrame))) (H : X.l_markFrameS_Mod p0 p1 = some r) : FnMu Tryz.prog gl 88 [.c (.own 1000000 3 0 p0.length), cI p1] [(1000000, .arr 3 p0.length (fF eTFrame zTFrame p0) false)] (cI r.1) [(1000000, .arr 3 r.2.length (fF eTFrame zTFrame r.2) false)] := by
 unfold X.l_markFrameS_Mod at H
 refine fn_mu (fn := Tryz.f88) (ir := l_markFrameS_ir) (E' := [(4, cI r.1)]) (E1 := [(1000000, ar 3 eTFrame zTFrame r.2)]) glL Tryz.func88 (by kernel_rfl) (by kernel_rfl) (by kernel_rfl) (by kernel_rfl) (by kernel_rfl) ?_
 refine so [] [] [(0, ow 1000000 3 p0), (1, cI p1)] [(1000000, ar 3 eTFrame zTFrame p0)] id ?_
 refine seq_in ?_
 refine so [] [] [(0, ow 1000000 3 p0), (1, cI p1), (5, cI 0)] [(1000000, ar 3 eTFrame zTFrame p0)] id ?_
 refine ends_blk ?_
 obtain ⟨y30, h31, H⟩ := ofBind H
 refine loop_in (fun (x : (Int × Int × (List TFrame))) => lit [(0, ow 1000000 3 x.2.2), (1, cI x.1), (5, cI x.2.1)] [(1000000, ar 3 eTFrame zTFrame x.2.2)]) (fun (z : (Int × (List TFrame))) => At (.exit 0) (lit [(1, cI z.1)] [(1000000, ar 3 eTFrame zTFrame z.2)])) h31 ?_ ?_
 ·clear H h31
  intro x20 y0 H
  refine seq_in ?_
  refine so [] [] [(0, ow 1000000 3 x20.2.2), (1, cI x20.1), (5, cI x20.2.1), (9, cB (decide (x20.2.1 < (x20.2.2.length : Int))))] [(1000000, ar 3 eTFrame zTFrame x20.2.2)] (fun t => lI x20.2.2 (t)) ?_
  rcases ofCond H with ⟨c22, H⟩ | ⟨c22, H⟩
  ·refine it c22 ?_
   refine sk ?_
   refine seq_in ?_
   refine ends_blk ?_
   obtain ⟨g23, H⟩ := ofIf H
   obtain ⟨l24, h25, H⟩ := ofBind H
   refine so [.no, .fn 0 (fF eTFrame zTFrame l24)] [] [(0, ow 1000000 3 x20.2.2), (1, cI x20.1), (5, cI x20.2.1)] [(1000000, .arr 3 x20.2.2.length (fF eTFrame zTFrame l24) false)] (fun t => aI g23 (aI (rfl : true = true) (aI (nat_lt g23) (aI (by decide : 0 + 1 ≤ 3) (aI (fF_setN eTFrame zTFrame h25 (nat_lt g23) x20.2.2.length) (t)))))) ?_
   refine so [] [] [(0, ow 1000000 3 x20.2.2), (1, cI (W (x20.1 + 1))), (5, cI x20.2.1)] [(1000000, .arr 3 x20.2.2.length (fF eTFrame zTFrame l24) false)] id ?_
   obtain ⟨l26, h27, H⟩ := ofBind H
   refine so [.no, .fn 0 (fF eTFrame zTFrame l26)] [] [(0, ow 1000000 3 x20.2.2), (1, cI (W (x20.1 + 1))), (5, cI x20.2.1)] [(1000000, .arr 3 x20.2.2.length (fF eTFrame zTFrame l26) false)] (fun t => aI g23 (aI (rfl : true = true) (aI (nat_lt g23) (aI (by decide : 1 + 1 ≤ 3) (aI (fF_setN eTFrame zTFrame h27 (ltN h25 (nat_lt g23)) x20.2.2.length) (t)))))) ?_
   refine so [] [] [(0, ow 1000000 3 x20.2.2), (1, cI (W ((W (x20.1 + 1)) + 1))), (5, cI x20.2.1)] [(1000000, .arr 3 x20.2.2.length (fF eTFrame zTFrame l26) false)] id ?_
   obtain ⟨l28, h29, H⟩ := ofBind H
   refine so [.no, .fn 0 (fF eTFrame zTFrame l28)] [] [(0, ow 1000000 3 x20.2.2), (1, cI (W ((W (x20.1 + 1)) + 1))), (5, cI x20.2.1)] [(1000000, .arr 3 x20.2.2.length (fF eTFrame zTFrame l28) false)] (fun t => aI g23 (aI (rfl : true = true) (aI (nat_lt g23) (aI (by decide : 2 + 1 ≤ 3) (aI (fF_setN eTFrame zTFrame h29 (ltN h27 (ltN h25 (nat_lt g23))) x20.2.2.length) (t)))))) ?_
   refine oo [] [] [(0, ow 1000000 3 x20.2.2), (1, cI (W ((W ((W (x20.1 + 1)) + 1)) + 1))), (5, cI x20.2.1)] [(1000000, .arr 3 x20.2.2.length (fF eTFrame zTFrame l28) false)] id ?_
   change EndsI _ _ _ _ _ _
   refine oo [] [.rel 0 l28.length, .rep 1000000 l28.length (fF eTFrame zTFrame l28)] [(0, ow 1000000 3 l28), (1, cI (W ((W ((W (x20.1 + 1)) + 1)) + 1))), (5, cI (W (x20.2.1 + 1)))] [(1000000, ar 3 eTFrame zTFrame l28)] (fun t => aI (by simp [lenN h29, lenN h27, lenN h25] : x20.2.2.length = l28.length) (aI (Nat.le_of_eq (by simp [lenN h29, lenN h27, lenN h25] : l28.length = x20.2.2.length)) (aI (fun _ _ => rfl : ∀ i, i < l28.length → (fF eTFrame zTFrame l28) i = (fF eTFrame zTFrame l28) i) (t)))) ?_
   cases H
   exact And.intro rfl rfl
  ·refine jf c22 ?_
   refine tl [] [(1, cI x20.1)] [(1000000, ar 3 eTFrame zTFrame x20.2.2)] id ?_
   refine ends_exit ?_
   cases H
   exact And.intro (by simp) (And.intro rfl rfl)
 ·clear h31
  intro e s q
  obtain ⟨rfl, rfl⟩ := q
  change EndsI _ _ _ _ _ _
  refine so [] [] [(4, cI y30.1)] [(1000000, ar 3 eTFrame zTFrame y30.2)] id ?_
  refine ends_ret ?_
  cases H
  exact And.intro (.inl rfl) rfl
def l_markMachine_ir : S :=
 (sq [o 2 (.box 6 (.t 0)), o 4 (.mv (iv 0))]
 (sq [o 5 (.fad 0 (.t 2)), o 6 (.load 1 false (.t 5)), om 7 1, o 8 (.call 88 [.t 6, .t 7]), om 1 8]
 (sq [o 9 (.fad 1 (.t 2)), o 10 (.load 1 false (.t 9)), om 11 1, o 12 (.call 32 [.t 10, .t 11]), om 1 12]
 (sq [o 13 (.fad 2 (.t 2)), o 14 (.load 3 true (.t 13)), om 15 1, o 16 (.call 25 [.t 14, .t 15]), om 1 16]
 (sq [o 17 (.fad 5 (.t 2)), o 18 (.load 1 false (.t 17)), om 19 1, o 20 (.call 32 [.t 18, .t 19]), om 1 20]
 (sq [om 21 1, om 4 21]
 .ret))))))
noncomputable def X.l_markMachine_Mod (p0 : TMachine) (p1 : Int) : Option (Int × TMachine) :=
 ((X.l_markFrameS_Mod p0.Stack p1).bind fun v1 => (if v1.2.length = p0.Stack.length then ((X.l_markIntS_Mod p0.Used v1.1).bind fun v4 => (if v4.2.length = p0.Used.length then ((X.l_markState_Mod p0.State v4.1).bind fun v7 => (if v7.2.Units.length = p0.State.Units.length then ((X.l_markIntS_Mod p0.Log v7.1).bind fun v10 => (if v10.2.length = p0.Log.length then some (v10.1, (TMachine.mk v1.2 v4.2 (TState.mk p0.State.Turn p0.State.Weather v7.2.Units) v10.2)) else none)) else none)) else none)) else none))
theorem l_markMachine_Mod_ok (p0 : TMachine) (p1 : Int) (r : (Int × TMachine)) (H : X.l_markMachine_Mod p0 p1 = some r) : FnMu Tryz.prog gl 26 [.agg [.own 1000000 3 0 p0.Stack.length, .own 1000001 1 0 p0.Used.length, .int .i64 p0.State.Turn, .int .i64 p0.State.Weather, .own 1000002 4 0 p0.State.Units.length, .own 1000003 1 0 p0.Log.length], cI p1] [(1000000, .arr 3 p0.Stack.length (fF eTFrame zTFrame p0.Stack) false), (1000001, .arr 1 p0.Used.length (fF eI zI p0.Used) false), (1000002, .arr 4 p0.State.Units.length (fF eTUnit zTUnit p0.State.Units) false), (1000003, .arr 1 p0.Log.length (fF eI zI p0.Log) false)] (cI r.1) [(1000000, .arr 3 r.2.Stack.length (fF eTFrame zTFrame r.2.Stack) false), (1000001, .arr 1 r.2.Used.length (fF eI zI r.2.Used) false), (1000002, .arr 4 r.2.State.Units.length (fF eTUnit zTUnit r.2.State.Units) false), (1000003, .arr 1 r.2.Log.length (fF eI zI r.2.Log) false)] := by
 unfold X.l_markMachine_Mod at H
 refine fn_mu (fn := Tryz.f26) (ir := l_markMachine_ir) (E' := [(4, cI r.1)]) (E1 := [(1000000, ar 3 eTFrame zTFrame r.2.Stack), (1000001, ar 1 eI zI r.2.Used), (1000002, ar 4 eTUnit zTUnit r.2.State.Units), (1000003, ar 1 eI zI r.2.Log)]) glL Tryz.func26 (by kernel_rfl) (by kernel_rfl) (by kernel_rfl) (by kernel_rfl) (by kernel_rfl) ?_
 refine so [] [] [(1, cI p1), (2, pk 2)] [(2, .var [.own 1000000 3 0 p0.Stack.length, .own 1000001 1 0 p0.Used.length, .int .i64 p0.State.Turn, .int .i64 p0.State.Weather, .own 1000002 4 0 p0.State.Units.length, .own 1000003 1 0 p0.Log.length] false), (1000000, ar 3 eTFrame zTFrame p0.Stack), (1000001, ar 1 eI zI p0.Used), (1000002, ar 4 eTUnit zTUnit p0.State.Units), (1000003, ar 1 eI zI p0.Log)] id ?_
 obtain ⟨v1, h2, H⟩ := ofBind H
 obtain ⟨g3, H⟩ := ofIf H
 refine so [.mu [(1000000, 1000000)] [(1000000, 1000000)] (cI v1.1) [(1000000, ar 3 eTFrame zTFrame v1.2)]] [.rel 6 v1.2.length, .relc 2 0 v1.2.length] [(1, cI v1.1), (2, pk 2)] [(2, .var [.own 1000000 3 0 v1.2.length, .own 1000001 1 0 p0.Used.length, .int .i64 p0.State.Turn, .int .i64 p0.State.Weather, .own 1000002 4 0 p0.State.Units.length, .own 1000003 1 0 p0.Log.length] false), (1000000, ar 3 eTFrame zTFrame v1.2), (1000001, ar 1 eI zI p0.Used), (1000002, ar 4 eTUnit zTUnit p0.State.Units), (1000003, ar 1 eI zI p0.Log)] (fun t => aI (l_markFrameS_Mod_ok p0.Stack p1 v1 h2) (aI (Eq.symm g3) (aI (Eq.symm g3) (t)))) ?_
 obtain ⟨v4, h5, H⟩ := ofBind H
 obtain ⟨g6, H⟩ := ofIf H
 refine so [.mu [(1000001, 1000000)] [(1000000, 1000001)] (cI v4.1) [(1000000, ar 1 eI zI v4.2)]] [.rel 10 v4.2.length, .relc 2 1 v4.2.length] [(1, cI v4.1), (2, pk 2)] [(2, .var [.own 1000000 3 0 v1.2.length, .own 1000001 1 0 v4.2.length, .int .i64 p0.State.Turn, .int .i64 p0.State.Weather, .own 1000002 4 0 p0.State.Units.length, .own 1000003 1 0 p0.Log.length] false), (1000000, ar 3 eTFrame zTFrame v1.2), (1000001, ar 1 eI zI v4.2), (1000002, ar 4 eTUnit zTUnit p0.State.Units), (1000003, ar 1 eI zI p0.Log)] (fun t => aI (l_markIntS_Mod_ok p0.Used v1.1 v4 h5) (aI (Eq.symm g6) (aI (Eq.symm g6) (t)))) ?_
 obtain ⟨v7, h8, H⟩ := ofBind H
 obtain ⟨g9, H⟩ := ofIf H
 refine so [.mu [(1000002, 1000000)] [(1000000, 1000002)] (cI v7.1) [(1000000, ar 4 eTUnit zTUnit v7.2.Units)]] [.agg 14 [.int .i64 p0.State.Turn, .int .i64 p0.State.Weather, .own 1000002 4 0 v7.2.Units.length], .relc 2 4 v7.2.Units.length] [(1, cI v7.1), (2, pk 2)] [(2, .var [.own 1000000 3 0 v1.2.length, .own 1000001 1 0 v4.2.length, .int .i64 p0.State.Turn, .int .i64 p0.State.Weather, .own 1000002 4 0 v7.2.Units.length, .own 1000003 1 0 p0.Log.length] false), (1000000, ar 3 eTFrame zTFrame v1.2), (1000001, ar 1 eI zI v4.2), (1000002, ar 4 eTUnit zTUnit v7.2.Units), (1000003, ar 1 eI zI p0.Log)] (fun t => aI (l_markState_Mod_ok p0.State v4.1 v7 h8) (aI (by rw [← g9] : AV.agg [.int .i64 p0.State.Turn, .int .i64 p0.State.Weather, .own 1000002 4 0 p0.State.Units.length] = AV.agg [.int .i64 p0.State.Turn, .int .i64 p0.State.Weather, .own 1000002 4 0 v7.2.Units.length]) (aI (Eq.symm g9) (t)))) ?_
 obtain ⟨v10, h11, H⟩ := ofBind H
 obtain ⟨g12, H⟩ := ofIf H
 refine so [.mu [(1000003, 1000000)] [(1000000, 1000003)] (cI v10.1) [(1000000, ar 1 eI zI v10.2)]] [.rel 18 v10.2.length, .relc 2 5 v10.2.length] [(1, cI v10.1)] [(1000000, ar 3 eTFrame zTFrame v1.2), (1000001, ar 1 eI zI v4.2), (1000002, ar 4 eTUnit zTUnit v7.2.Units), (1000003, ar 1 eI zI v10.2)] (fun t => aI (l_markIntS_Mod_ok p0.Log v7.1 v10 h11) (aI (Eq.symm g12) (aI (Eq.symm g12) (t)))) ?_
 refine so [] [] [(4, cI v10.1)] [(1000000, ar 3 eTFrame zTFrame v1.2), (1000001, ar 1 eI zI v4.2), (1000002, ar 4 eTUnit zTUnit v7.2.Units), (1000003, ar 1 eI zI v10.2)] id ?_
 refine ends_ret ?_
 cases H
 exact And.intro (.inl rfl) rfl
def l_heldUnitS_ir : S :=
 (sq [o 4 (.mv (iv 0))]
 (.seq (sq [o 5 (.mv (iv 0))]
 (.blk 0 (.loop (.seq (sq [om 6 5, om 7 0, o 8 (.len (.t 7)), o 9 (.bin .lss (.t 6) (.t 8))]
   (.ite (.t 9) .skip
   (.exit 0)))
   (.seq (.blk 1 (.seq (sq [om 12 0, om 13 5, o 14 (.iad 4 (.t 12) (.t 13)), o 15 (.fad 0 (.t 14)), o 16 (.load 1 false (.t 15)), om 17 1, o 18 (.bin .neq (.t 16) (.t 17))]
    (.ite (.t 18) (sq [o 4 (.mv (.v (.int .i64 (-1))))]
     .ret)
    .skip))
    (sq [om 19 1, o 20 (.bin .add (.t 19) (iv 1)), om 1 20]
    (.seq (sq [om 21 0, om 22 5, o 23 (.iad 4 (.t 21) (.t 22)), o 24 (.fad 1 (.t 23)), o 25 (.load 1 false (.t 24)), om 26 1, o 27 (.bin .neq (.t 25) (.t 26))]
    (.ite (.t 27) (sq [o 4 (.mv (.v (.int .i64 (-1))))]
     .ret)
    .skip))
    (sq [om 28 1, o 29 (.bin .add (.t 28) (iv 1)), om 1 29]
    (.seq (sq [om 30 0, om 31 5, o 32 (.iad 4 (.t 30) (.t 31)), o 33 (.fad 2 (.t 32)), o 34 (.load 1 false (.t 33)), om 35 1, o 36 (.bin .neq (.t 34) (.t 35))]
    (.ite (.t 36) (sq [o 4 (.mv (.v (.int .i64 (-1))))]
     .ret)
    .skip))
    (sq [om 37 1, o 38 (.bin .add (.t 37) (iv 1)), om 1 38]
    (.seq (sq [om 39 0, om 40 5, o 41 (.iad 4 (.t 39) (.t 40)), o 42 (.fad 3 (.t 41)), o 43 (.load 1 false (.t 42)), om 44 1, o 45 (.bin .neq (.t 43) (.t 44))]
    (.ite (.t 45) (sq [o 4 (.mv (.v (.int .i64 (-1))))]
     .ret)
    .skip))
    (.ops [om 46 1, o 47 (.bin .add (.t 46) (iv 1)), om 1 47])))))))))
   (.ops [om 10 5, o 11 (.bin .add (.t 10) (iv 1)), om 5 11]))))))
 (sq [om 48 1, om 4 48]
 .ret)))
noncomputable def X.l_heldUnitS (p0 : (List TUnit)) (p1 : Int) : Option Int :=
 ((loop (fun (x28 : (Int × Int)) => ((bif (decide (x28.2 < (p0.length : Int))) then ((at' zTUnit p0 x28.2).bind fun v34 => (bif (v34.Side != x28.1) then some (Sum.inr (Sum.inr (-1))) else (bif (v34.Kind != (W (x28.1 + 1))) then some (Sum.inr (Sum.inr (-1))) else (bif (v34.At != (W ((W (x28.1 + 1)) + 1))) then some (Sum.inr (Sum.inr (-1))) else (bif (v34.Steps != (W ((W ((W (x28.1 + 1)) + 1)) + 1))) then some (Sum.inr (Sum.inr (-1))) else some (Sum.inl ((W ((W ((W ((W (x28.1 + 1)) + 1)) + 1)) + 1)), (W (x28.2 + 1))))))))) else some (Sum.inr (Sum.inl x28.1))) : Option ((Int × Int) ⊕ (Int ⊕ Int)))) (p1, 0)).bind fun y42 => (Sum.elim (fun (y44 : Int) => some y44) (fun (y45 : Int) => some y45) y42))
theorem l_heldUnitS_ok (p0 : (List TUnit)) (p1 : Int) (r : Int) (H : X.l_heldUnitS p0 p1 = some r) : FnOk Tryz.prog gl 77 [.c (dat 4 eTUnit zTUnit p0), cI p1] (cI r) := by
 unfold X.l_heldUnitS at H
 refine fi Tryz.f77 l_heldUnitS_ir [(4, cI r)] [] glL Tryz.func77 ?_
 refine so [] [] [(0, dc 4 eTUnit zTUnit p0), (1, cI p1)] [] id ?_
 refine seq_in ?_
 refine so [] [] [(0, dc 4 eTUnit zTUnit p0), (1, cI p1), (5, cI 0)] [] id ?_
 refine ends_blk ?_
 obtain ⟨y42, h43, H⟩ := ofBind H
 refine loop_in (fun (x : (Int × Int)) => lit [(0, dc 4 eTUnit zTUnit p0), (1, cI x.1), (5, cI x.2)] []) (orJ (fun (z : Int) => At (.exit 0) (lit [(1, cI z)] [])) (fun (z : Int) => At .ret (lit [(4, cI z)] []))) h43 ?_ ?_
 ·clear H h43
  intro x28 y0 H
  refine seq_in ?_
  refine so [] [] [(0, dc 4 eTUnit zTUnit p0), (1, cI x28.1), (5, cI x28.2), (9, cB (decide (x28.2 < (p0.length : Int))))] [] (fun t => lI p0 (t)) ?_
  rcases ofCond H with ⟨c30, H⟩ | ⟨c30, H⟩
  ·refine it c30 ?_
   refine sk ?_
   refine seq_in ?_
   refine ends_blk ?_
   refine seq_in ?_
   obtain ⟨v34, h35, H⟩ := ofBind H
   refine so [.cs (eTUnit v34)] [] [(0, dc 4 eTUnit zTUnit p0), (1, cI x28.1), (5, cI x28.2), (18, cB (v34.Side != x28.1))] [] (a2 eTUnit h35) ?_
   rcases ofCond H with ⟨c36, H⟩ | ⟨c36, H⟩
   ·refine it c36 ?_
    refine so [] [] [(4, cI (-1))] [] id ?_
    refine ends_ret ?_
    cases H
    exact And.intro (by simp) (And.intro rfl rfl)
   ·refine jf c36 ?_
    refine sk ?_
    refine so [] [] [(0, dc 4 eTUnit zTUnit p0), (1, cI (W (x28.1 + 1))), (5, cI x28.2)] [] id ?_
    refine seq_in ?_
    refine so [.cs (eTUnit v34)] [] [(0, dc 4 eTUnit zTUnit p0), (1, cI (W (x28.1 + 1))), (5, cI x28.2), (27, cB (v34.Kind != (W (x28.1 + 1))))] [] (a2 eTUnit h35) ?_
    rcases ofCond H with ⟨c38, H⟩ | ⟨c38, H⟩
    ·refine it c38 ?_
     refine so [] [] [(4, cI (-1))] [] id ?_
     refine ends_ret ?_
     cases H
     exact And.intro (by simp) (And.intro rfl rfl)
    ·refine jf c38 ?_
     refine sk ?_
     refine so [] [] [(0, dc 4 eTUnit zTUnit p0), (1, cI (W ((W (x28.1 + 1)) + 1))), (5, cI x28.2)] [] id ?_
     refine seq_in ?_
     refine so [.cs (eTUnit v34)] [] [(0, dc 4 eTUnit zTUnit p0), (1, cI (W ((W (x28.1 + 1)) + 1))), (5, cI x28.2), (36, cB (v34.At != (W ((W (x28.1 + 1)) + 1))))] [] (a2 eTUnit h35) ?_
     rcases ofCond H with ⟨c40, H⟩ | ⟨c40, H⟩
     ·refine it c40 ?_
      refine so [] [] [(4, cI (-1))] [] id ?_
      refine ends_ret ?_
      cases H
      exact And.intro (by simp) (And.intro rfl rfl)
     ·refine jf c40 ?_
      refine sk ?_
      refine so [] [] [(0, dc 4 eTUnit zTUnit p0), (1, cI (W ((W ((W (x28.1 + 1)) + 1)) + 1))), (5, cI x28.2)] [] id ?_
      refine seq_in ?_
      refine so [.cs (eTUnit v34)] [] [(0, dc 4 eTUnit zTUnit p0), (1, cI (W ((W ((W (x28.1 + 1)) + 1)) + 1))), (5, cI x28.2), (45, cB (v34.Steps != (W ((W ((W (x28.1 + 1)) + 1)) + 1))))] [] (a2 eTUnit h35) ?_
      rcases ofCond H with ⟨c41, H⟩ | ⟨c41, H⟩
      ·refine it c41 ?_
       refine so [] [] [(4, cI (-1))] [] id ?_
       refine ends_ret ?_
       cases H
       exact And.intro (by simp) (And.intro rfl rfl)
      ·refine jf c41 ?_
       refine sk ?_
       refine oo [] [] [(0, dc 4 eTUnit zTUnit p0), (1, cI (W ((W ((W ((W (x28.1 + 1)) + 1)) + 1)) + 1))), (5, cI x28.2)] [] id ?_
       change EndsI _ _ _ _ _ _
       refine oo [] [] [(0, dc 4 eTUnit zTUnit p0), (1, cI (W ((W ((W ((W (x28.1 + 1)) + 1)) + 1)) + 1))), (5, cI (W (x28.2 + 1)))] [] id ?_
       cases H
       exact And.intro rfl rfl
  ·refine jf c30 ?_
   refine tl [] [(1, cI x28.1)] [] id ?_
   refine ends_exit ?_
   cases H
   exact And.intro (by simp) (And.intro rfl rfl)
 ·clear h43
  cases y42 with
  | inl y44 =>
   replace H := ofInl H
   intro e s q
   obtain ⟨rfl, rfl⟩ := q
   change EndsI _ _ _ _ _ _
   refine so [] [] [(4, cI y44)] [] id ?_
   refine ends_ret ?_
   cases H
   exact And.intro (.inl rfl) rfl
  | inr y45 =>
   replace H := ofInr H
   intro e s q
   obtain ⟨rfl, rfl⟩ := q
   cases H
   exact And.intro (.inl rfl) rfl
def l_heldState_ir : S :=
 (sq [o 2 (.box 3 (.t 0)), o 4 (.mv (iv 0))]
 (sq [o 5 (.fad 2 (.t 2)), o 6 (.load 1 false (.t 5)), om 7 1, o 8 (.call 77 [.t 6, .t 7]), om 1 8]
 (.seq (sq [om 9 1, o 10 (.bin .lss (.t 9) (iv 0))]
 (.ite (.t 10) (sq [o 4 (.mv (.v (.int .i64 (-1))))]
  .ret)
 .skip))
 (sq [om 11 1, om 4 11]
 .ret))))
noncomputable def X.l_heldState (p0 : TState) (p1 : Int) : Option Int :=
 ((X.l_heldUnitS p0.Units p1).bind fun v1 => (bif (decide (v1 < 0)) then some (-1) else some v1))
theorem l_heldState_ok (p0 : TState) (p1 : Int) (r : Int) (H : X.l_heldState p0 p1 = some r) : FnOk Tryz.prog gl 33 [.agg (eTState p0), cI p1] (cI r) := by
 unfold X.l_heldState at H
 refine fi Tryz.f33 l_heldState_ir [(4, cI r)] [] glL Tryz.func33 ?_
 refine so [] [] [(1, cI p1), (2, pk 2)] [(2, va (eTState p0))] id ?_
 obtain ⟨v1, h2, H⟩ := ofBind H
 refine so [.res (cI v1)] [] [(1, cI v1)] [] (aI (l_heldUnitS_ok p0.Units p1 v1 h2)) ?_
 refine seq_in ?_
 refine so [] [] [(1, cI v1), (10, cB (decide (v1 < 0)))] [] id ?_
 rcases ofCond H with ⟨c3, H⟩ | ⟨c3, H⟩
 ·refine it c3 ?_
  refine so [] [] [(4, cI (-1))] [] id ?_
  refine ends_ret ?_
  cases H
  exact And.intro (.inl rfl) rfl
 ·refine jf c3 ?_
  refine sk ?_
  refine so [] [] [(4, cI v1)] [] id ?_
  refine ends_ret ?_
  cases H
  exact And.intro (.inl rfl) rfl
def l_heldIntS_ir : S :=
 (sq [o 4 (.mv (iv 0))]
 (.seq (sq [o 5 (.mv (iv 0))]
 (.blk 0 (.loop (.seq (sq [om 6 5, om 7 0, o 8 (.len (.t 7)), o 9 (.bin .lss (.t 6) (.t 8))]
   (.ite (.t 9) .skip
   (.exit 0)))
   (.seq (.blk 1 (.seq (sq [om 12 0, om 13 5, o 14 (.iad 1 (.t 12) (.t 13)), o 15 (.load 1 false (.t 14)), om 16 1, o 17 (.bin .neq (.t 15) (.t 16))]
    (.ite (.t 17) (sq [o 4 (.mv (.v (.int .i64 (-1))))]
     .ret)
    .skip))
    (.ops [om 18 1, o 19 (.bin .add (.t 18) (iv 1)), om 1 19])))
   (.ops [om 10 5, o 11 (.bin .add (.t 10) (iv 1)), om 5 11]))))))
 (sq [om 20 1, om 4 20]
 .ret)))
noncomputable def X.l_heldIntS (p0 : (List Int)) (p1 : Int) : Option Int :=
 ((loop (fun (x12 : (Int × Int)) => ((bif (decide (x12.2 < (p0.length : Int))) then ((at' zI p0 x12.2).bind fun v15 => (bif (v15 != x12.1) then some (Sum.inr (Sum.inr (-1))) else some (Sum.inl ((W (x12.1 + 1)), (W (x12.2 + 1)))))) else some (Sum.inr (Sum.inl x12.1))) : Option ((Int × Int) ⊕ (Int ⊕ Int)))) (p1, 0)).bind fun y18 => (Sum.elim (fun (y20 : Int) => some y20) (fun (y21 : Int) => some y21) y18))
theorem l_heldIntS_ok (p0 : (List Int)) (p1 : Int) (r : Int) (H : X.l_heldIntS p0 p1 = some r) : FnOk Tryz.prog gl 76 [.c (dat 1 eI zI p0), cI p1] (cI r) := by
 unfold X.l_heldIntS at H
 refine fi Tryz.f76 l_heldIntS_ir [(4, cI r)] [] glL Tryz.func76 ?_
 refine so [] [] [(0, dc 1 eI zI p0), (1, cI p1)] [] id ?_
 refine seq_in ?_
 refine so [] [] [(0, dc 1 eI zI p0), (1, cI p1), (5, cI 0)] [] id ?_
 refine ends_blk ?_
 obtain ⟨y18, h19, H⟩ := ofBind H
 refine loop_in (fun (x : (Int × Int)) => lit [(0, dc 1 eI zI p0), (1, cI x.1), (5, cI x.2)] []) (orJ (fun (z : Int) => At (.exit 0) (lit [(1, cI z)] [])) (fun (z : Int) => At .ret (lit [(4, cI z)] []))) h19 ?_ ?_
 ·clear H h19
  intro x12 y0 H
  refine seq_in ?_
  refine so [] [] [(0, dc 1 eI zI p0), (1, cI x12.1), (5, cI x12.2), (9, cB (decide (x12.2 < (p0.length : Int))))] [] (fun t => lI p0 (t)) ?_
  rcases ofCond H with ⟨c14, H⟩ | ⟨c14, H⟩
  ·refine it c14 ?_
   refine sk ?_
   refine seq_in ?_
   refine ends_blk ?_
   refine seq_in ?_
   obtain ⟨v15, h16, H⟩ := ofBind H
   refine so [.cs (eI v15)] [] [(0, dc 1 eI zI p0), (1, cI x12.1), (5, cI x12.2), (17, cB (v15 != x12.1))] [] (a2 eI h16) ?_
   rcases ofCond H with ⟨c17, H⟩ | ⟨c17, H⟩
   ·refine it c17 ?_
    refine so [] [] [(4, cI (-1))] [] id ?_
    refine ends_ret ?_
    cases H
    exact And.intro (by simp) (And.intro rfl rfl)
   ·refine jf c17 ?_
    refine sk ?_
    refine oo [] [] [(0, dc 1 eI zI p0), (1, cI (W (x12.1 + 1))), (5, cI x12.2)] [] id ?_
    change EndsI _ _ _ _ _ _
    refine oo [] [] [(0, dc 1 eI zI p0), (1, cI (W (x12.1 + 1))), (5, cI (W (x12.2 + 1)))] [] id ?_
    cases H
    exact And.intro rfl rfl
  ·refine jf c14 ?_
   refine tl [] [(1, cI x12.1)] [] id ?_
   refine ends_exit ?_
   cases H
   exact And.intro (by simp) (And.intro rfl rfl)
 ·clear h19
  cases y18 with
  | inl y20 =>
   replace H := ofInl H
   intro e s q
   obtain ⟨rfl, rfl⟩ := q
   change EndsI _ _ _ _ _ _
   refine so [] [] [(4, cI y20)] [] id ?_
   refine ends_ret ?_
   cases H
   exact And.intro (.inl rfl) rfl
  | inr y21 =>
   replace H := ofInr H
   intro e s q
   obtain ⟨rfl, rfl⟩ := q
   cases H
   exact And.intro (.inl rfl) rfl
def l_heldFrameS_ir : S :=
 (sq [o 4 (.mv (iv 0))]
 (.seq (sq [o 5 (.mv (iv 0))]
 (.blk 0 (.loop (.seq (sq [om 6 5, om 7 0, o 8 (.len (.t 7)), o 9 (.bin .lss (.t 6) (.t 8))]
   (.ite (.t 9) .skip
   (.exit 0)))
   (.seq (.blk 1 (.seq (sq [om 12 0, om 13 5, o 14 (.iad 3 (.t 12) (.t 13)), o 15 (.fad 0 (.t 14)), o 16 (.load 1 false (.t 15)), om 17 1, o 18 (.bin .neq (.t 16) (.t 17))]
    (.ite (.t 18) (sq [o 4 (.mv (.v (.int .i64 (-1))))]
     .ret)
    .skip))
    (sq [om 19 1, o 20 (.bin .add (.t 19) (iv 1)), om 1 20]
    (.seq (sq [om 21 0, om 22 5, o 23 (.iad 3 (.t 21) (.t 22)), o 24 (.fad 1 (.t 23)), o 25 (.load 1 false (.t 24)), om 26 1, o 27 (.bin .neq (.t 25) (.t 26))]
    (.ite (.t 27) (sq [o 4 (.mv (.v (.int .i64 (-1))))]
     .ret)
    .skip))
    (sq [om 28 1, o 29 (.bin .add (.t 28) (iv 1)), om 1 29]
    (.seq (sq [om 30 0, om 31 5, o 32 (.iad 3 (.t 30) (.t 31)), o 33 (.fad 2 (.t 32)), o 34 (.load 1 false (.t 33)), om 35 1, o 36 (.bin .neq (.t 34) (.t 35))]
    (.ite (.t 36) (sq [o 4 (.mv (.v (.int .i64 (-1))))]
     .ret)
    .skip))
    (.ops [om 37 1, o 38 (.bin .add (.t 37) (iv 1)), om 1 38])))))))
   (.ops [om 10 5, o 11 (.bin .add (.t 10) (iv 1)), om 5 11]))))))
 (sq [om 39 1, om 4 39]
 .ret)))
noncomputable def X.l_heldFrameS (p0 : (List TFrame)) (p1 : Int) : Option Int :=
 ((loop (fun (x24 : (Int × Int)) => ((bif (decide (x24.2 < (p0.length : Int))) then ((at' zTFrame p0 x24.2).bind fun v30 => (bif (v30.Unit != x24.1) then some (Sum.inr (Sum.inr (-1))) else (bif (v30.At != (W (x24.1 + 1))) then some (Sum.inr (Sum.inr (-1))) else (bif (v30.By != (W ((W (x24.1 + 1)) + 1))) then some (Sum.inr (Sum.inr (-1))) else some (Sum.inl ((W ((W ((W (x24.1 + 1)) + 1)) + 1)), (W (x24.2 + 1)))))))) else some (Sum.inr (Sum.inl x24.1))) : Option ((Int × Int) ⊕ (Int ⊕ Int)))) (p1, 0)).bind fun y36 => (Sum.elim (fun (y38 : Int) => some y38) (fun (y39 : Int) => some y39) y36))
theorem l_heldFrameS_ok (p0 : (List TFrame)) (p1 : Int) (r : Int) (H : X.l_heldFrameS p0 p1 = some r) : FnOk Tryz.prog gl 89 [.c (dat 3 eTFrame zTFrame p0), cI p1] (cI r) := by
 unfold X.l_heldFrameS at H
 refine fi Tryz.f89 l_heldFrameS_ir [(4, cI r)] [] glL Tryz.func89 ?_
 refine so [] [] [(0, dc 3 eTFrame zTFrame p0), (1, cI p1)] [] id ?_
 refine seq_in ?_
 refine so [] [] [(0, dc 3 eTFrame zTFrame p0), (1, cI p1), (5, cI 0)] [] id ?_
 refine ends_blk ?_
 obtain ⟨y36, h37, H⟩ := ofBind H
 refine loop_in (fun (x : (Int × Int)) => lit [(0, dc 3 eTFrame zTFrame p0), (1, cI x.1), (5, cI x.2)] []) (orJ (fun (z : Int) => At (.exit 0) (lit [(1, cI z)] [])) (fun (z : Int) => At .ret (lit [(4, cI z)] []))) h37 ?_ ?_
 ·clear H h37
  intro x24 y0 H
  refine seq_in ?_
  refine so [] [] [(0, dc 3 eTFrame zTFrame p0), (1, cI x24.1), (5, cI x24.2), (9, cB (decide (x24.2 < (p0.length : Int))))] [] (fun t => lI p0 (t)) ?_
  rcases ofCond H with ⟨c26, H⟩ | ⟨c26, H⟩
  ·refine it c26 ?_
   refine sk ?_
   refine seq_in ?_
   refine ends_blk ?_
   refine seq_in ?_
   obtain ⟨v30, h31, H⟩ := ofBind H
   refine so [.cs (eTFrame v30)] [] [(0, dc 3 eTFrame zTFrame p0), (1, cI x24.1), (5, cI x24.2), (18, cB (v30.Unit != x24.1))] [] (a2 eTFrame h31) ?_
   rcases ofCond H with ⟨c32, H⟩ | ⟨c32, H⟩
   ·refine it c32 ?_
    refine so [] [] [(4, cI (-1))] [] id ?_
    refine ends_ret ?_
    cases H
    exact And.intro (by simp) (And.intro rfl rfl)
   ·refine jf c32 ?_
    refine sk ?_
    refine so [] [] [(0, dc 3 eTFrame zTFrame p0), (1, cI (W (x24.1 + 1))), (5, cI x24.2)] [] id ?_
    refine seq_in ?_
    refine so [.cs (eTFrame v30)] [] [(0, dc 3 eTFrame zTFrame p0), (1, cI (W (x24.1 + 1))), (5, cI x24.2), (27, cB (v30.At != (W (x24.1 + 1))))] [] (a2 eTFrame h31) ?_
    rcases ofCond H with ⟨c34, H⟩ | ⟨c34, H⟩
    ·refine it c34 ?_
     refine so [] [] [(4, cI (-1))] [] id ?_
     refine ends_ret ?_
     cases H
     exact And.intro (by simp) (And.intro rfl rfl)
    ·refine jf c34 ?_
     refine sk ?_
     refine so [] [] [(0, dc 3 eTFrame zTFrame p0), (1, cI (W ((W (x24.1 + 1)) + 1))), (5, cI x24.2)] [] id ?_
     refine seq_in ?_
     refine so [.cs (eTFrame v30)] [] [(0, dc 3 eTFrame zTFrame p0), (1, cI (W ((W (x24.1 + 1)) + 1))), (5, cI x24.2), (36, cB (v30.By != (W ((W (x24.1 + 1)) + 1))))] [] (a2 eTFrame h31) ?_
     rcases ofCond H with ⟨c35, H⟩ | ⟨c35, H⟩
     ·refine it c35 ?_
      refine so [] [] [(4, cI (-1))] [] id ?_
      refine ends_ret ?_
      cases H
      exact And.intro (by simp) (And.intro rfl rfl)
     ·refine jf c35 ?_
      refine sk ?_
      refine oo [] [] [(0, dc 3 eTFrame zTFrame p0), (1, cI (W ((W ((W (x24.1 + 1)) + 1)) + 1))), (5, cI x24.2)] [] id ?_
      change EndsI _ _ _ _ _ _
      refine oo [] [] [(0, dc 3 eTFrame zTFrame p0), (1, cI (W ((W ((W (x24.1 + 1)) + 1)) + 1))), (5, cI (W (x24.2 + 1)))] [] id ?_
      cases H
      exact And.intro rfl rfl
  ·refine jf c26 ?_
   refine tl [] [(1, cI x24.1)] [] id ?_
   refine ends_exit ?_
   cases H
   exact And.intro (by simp) (And.intro rfl rfl)
 ·clear h37
  cases y36 with
  | inl y38 =>
   replace H := ofInl H
   intro e s q
   obtain ⟨rfl, rfl⟩ := q
   change EndsI _ _ _ _ _ _
   refine so [] [] [(4, cI y38)] [] id ?_
   refine ends_ret ?_
   cases H
   exact And.intro (.inl rfl) rfl
  | inr y39 =>
   replace H := ofInr H
   intro e s q
   obtain ⟨rfl, rfl⟩ := q
   cases H
   exact And.intro (.inl rfl) rfl
def l_heldMachine_ir : S :=
 (sq [o 2 (.box 6 (.t 0)), o 4 (.mv (iv 0))]
 (sq [o 5 (.fad 0 (.t 2)), o 6 (.load 1 false (.t 5)), om 7 1, o 8 (.call 89 [.t 6, .t 7]), om 1 8]
 (.seq (sq [om 9 1, o 10 (.bin .lss (.t 9) (iv 0))]
 (.ite (.t 10) (sq [o 4 (.mv (.v (.int .i64 (-1))))]
  .ret)
 .skip))
 (sq [o 11 (.fad 1 (.t 2)), o 12 (.load 1 false (.t 11)), om 13 1, o 14 (.call 76 [.t 12, .t 13]), om 1 14]
 (.seq (sq [om 15 1, o 16 (.bin .lss (.t 15) (iv 0))]
 (.ite (.t 16) (sq [o 4 (.mv (.v (.int .i64 (-1))))]
  .ret)
 .skip))
 (sq [o 17 (.fad 2 (.t 2)), o 18 (.load 3 true (.t 17)), om 19 1, o 20 (.call 33 [.t 18, .t 19]), om 1 20]
 (.seq (sq [om 21 1, o 22 (.bin .lss (.t 21) (iv 0))]
 (.ite (.t 22) (sq [o 4 (.mv (.v (.int .i64 (-1))))]
  .ret)
 .skip))
 (sq [o 23 (.fad 5 (.t 2)), o 24 (.load 1 false (.t 23)), om 25 1, o 26 (.call 76 [.t 24, .t 25]), om 1 26]
 (.seq (sq [om 27 1, o 28 (.bin .lss (.t 27) (iv 0))]
 (.ite (.t 28) (sq [o 4 (.mv (.v (.int .i64 (-1))))]
  .ret)
 .skip))
 (sq [om 29 1, om 4 29]
 .ret))))))))))
noncomputable def X.l_heldMachine (p0 : TMachine) (p1 : Int) : Option Int :=
 ((X.l_heldFrameS p0.Stack p1).bind fun v1 => (bif (decide (v1 < 0)) then some (-1) else ((X.l_heldIntS p0.Used v1).bind fun v5 => (bif (decide (v5 < 0)) then some (-1) else ((X.l_heldState p0.State v5).bind fun v9 => (bif (decide (v9 < 0)) then some (-1) else ((X.l_heldIntS p0.Log v9).bind fun v13 => (bif (decide (v13 < 0)) then some (-1) else some v13))))))))
theorem l_heldMachine_ok (p0 : TMachine) (p1 : Int) (r : Int) (H : X.l_heldMachine p0 p1 = some r) : FnOk Tryz.prog gl 27 [.agg (eTMachine p0), cI p1] (cI r) := by
 unfold X.l_heldMachine at H
 refine fi Tryz.f27 l_heldMachine_ir [(4, cI r)] [] glL Tryz.func27 ?_
 refine so [] [] [(1, cI p1), (2, pk 2)] [(2, va (eTMachine p0))] id ?_
 obtain ⟨v1, h2, H⟩ := ofBind H
 refine so [.res (cI v1)] [] [(1, cI v1), (2, pk 2)] [(2, va (eTMachine p0))] (aI (l_heldFrameS_ok p0.Stack p1 v1 h2)) ?_
 refine seq_in ?_
 refine so [] [] [(1, cI v1), (2, pk 2), (10, cB (decide (v1 < 0)))] [(2, va (eTMachine p0))] id ?_
 rcases ofCond H with ⟨c4, H⟩ | ⟨c4, H⟩
 ·refine it c4 ?_
  refine so [] [] [(4, cI (-1))] [] id ?_
  refine ends_ret ?_
  cases H
  exact And.intro (.inl rfl) rfl
 ·refine jf c4 ?_
  refine sk ?_
  obtain ⟨v5, h6, H⟩ := ofBind H
  refine so [.res (cI v5)] [] [(1, cI v5), (2, pk 2)] [(2, va (eTMachine p0))] (aI (l_heldIntS_ok p0.Used v1 v5 h6)) ?_
  refine seq_in ?_
  refine so [] [] [(1, cI v5), (2, pk 2), (16, cB (decide (v5 < 0)))] [(2, va (eTMachine p0))] id ?_
  rcases ofCond H with ⟨c8, H⟩ | ⟨c8, H⟩
  ·refine it c8 ?_
   refine so [] [] [(4, cI (-1))] [] id ?_
   refine ends_ret ?_
   cases H
   exact And.intro (.inl rfl) rfl
  ·refine jf c8 ?_
   refine sk ?_
   obtain ⟨v9, h10, H⟩ := ofBind H
   refine so [.res (cI v9)] [] [(1, cI v9), (2, pk 2)] [(2, va (eTMachine p0))] (aI (l_heldState_ok p0.State v5 v9 h10)) ?_
   refine seq_in ?_
   refine so [] [] [(1, cI v9), (2, pk 2), (22, cB (decide (v9 < 0)))] [(2, va (eTMachine p0))] id ?_
   rcases ofCond H with ⟨c12, H⟩ | ⟨c12, H⟩
   ·refine it c12 ?_
    refine so [] [] [(4, cI (-1))] [] id ?_
    refine ends_ret ?_
    cases H
    exact And.intro (.inl rfl) rfl
   ·refine jf c12 ?_
    refine sk ?_
    obtain ⟨v13, h14, H⟩ := ofBind H
    refine so [.res (cI v13)] [] [(1, cI v13)] [] (aI (l_heldIntS_ok p0.Log v9 v13 h14)) ?_
    refine seq_in ?_
    refine so [] [] [(1, cI v13), (28, cB (decide (v13 < 0)))] [] id ?_
    rcases ofCond H with ⟨c15, H⟩ | ⟨c15, H⟩
    ·refine it c15 ?_
     refine so [] [] [(4, cI (-1))] [] id ?_
     refine ends_ret ?_
     cases H
     exact And.intro (.inl rfl) rfl
    ·refine jf c15 ?_
     refine sk ?_
     refine so [] [] [(4, cI v13)] [] id ?_
     refine ends_ret ?_
     cases H
     exact And.intro (.inl rfl) rfl
end Go.Proofs.YteenmeomlhkphaaGreatDoor.X0
