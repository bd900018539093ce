/- What each Go function that FnExactFreeGoals reaches computes, and that it returns so; no condition. -/
import Derived.Test.YtociagbpecpcnaaGreatDoorFGWa
set_option linter.unusedVariables false
set_option linter.unusedSimpArgs false
set_option maxRecDepth 100000
namespace Go.Proofs.YtociagbpecpcnaaGreatDoor.X0
open Go Go.RowKit Go.Proofs.YtociagbpecpcnaaGreatDoor.Ab Go.Proofs

def s_mGood_ir : S :=
 (.seq (.ops [o 1 (.box 5 (.t 0)), o 2 (.mv (.v (.bool false)))])
 (.seq (.draw 34 [o 3 (.fad 0 (.t 1)), o 4 (.load 1 false (.t 3)), o 5 (.call 124 [.t 4, .v (.int .i64 1), .v (.int .i64 10)]), o 6 (.mv (.t 5)), ⟨some 7, .fad 1 (.t 1), some (6, true)⟩, ⟨some 8, .load 1 false (.t 7), some (6, true)⟩, ⟨some 9, .call 124 [.t 8, .v (.int .i64 1), .v (.int .i64 10)], some (6, true)⟩, o 10 (.pick (.t 6) (.t 9) (.v (.bool false))), o 11 (.mv (.t 10)), ⟨some 12, .fad 2 (.t 1), some (11, true)⟩, ⟨some 13, .load 1 false (.t 12), some (11, true)⟩, ⟨some 14, .len (.t 13), some (11, true)⟩, ⟨some 15, .load 5 true (.t 1), some (11, true)⟩, ⟨some 16, .call 142 [.t 15], some (11, true)⟩, ⟨some 17, .bin .eql (.t 14) (.t 16), some (11, true)⟩, o 18 (.pick (.t 11) (.t 17) (.v (.bool false))), o 19 (.mv (.t 18)), ⟨some 20, .fad 2 (.t 1), some (19, true)⟩, ⟨some 21, .load 1 false (.t 20), some (19, true)⟩, ⟨some 22, .call 166 [.t 21, .v (.int .i64 0), .v (.int .i64 5)], some (19, true)⟩, o 23 (.pick (.t 19) (.t 22) (.v (.bool false))), o 24 (.mv (.t 23)), ⟨some 25, .load 5 true (.t 1), some (24, true)⟩, ⟨some 26, .fad 3 (.t 1), some (24, true)⟩, ⟨some 27, .load 1 false (.t 26), some (24, true)⟩, ⟨some 28, .call 212 [.t 25, .t 27], some (24, true)⟩, o 29 (.pick (.t 24) (.t 28) (.v (.bool false))), o 30 (.mv (.t 29)), ⟨some 31, .load 5 true (.t 1), some (30, true)⟩, ⟨some 32, .fad 4 (.t 1), some (30, true)⟩, ⟨some 33, .load 1 false (.t 32), some (30, true)⟩, ⟨some 34, .call 212 [.t 31, .t 33], some (30, true)⟩, o 35 (.pick (.t 30) (.t 34) (.v (.bool false))), o 2 (.mv (.t 35))])
 .ret))
noncomputable def X.s_mGood (p0 : TMap) : Option Bool :=
 ((X.s_l1In p0.Width 1 10).bind fun v1 => (bif v1 then ((X.s_l1In p0.Height 1 10).bind fun v4 => (bif v4 then ((X.s_mSize p0).bind fun v7 => (bif ((p0.Terrain.length : Int) == v7) then ((X.s_l1All p0.Terrain 0 5).bind fun v10 => (bif v10 then ((X.s_mEdges p0 p0.Rivers).bind fun v13 => (bif v13 then ((X.s_mEdges p0 p0.Roads).bind fun v16 => some v16) else some false)) else some false)) else some false)) else some false)) else some false))
theorem s_mGood_ok (p0 : TMap) (r : Bool) (H : X.s_mGood p0 = some r) : FnOk Tryz.prog gl 189 [.agg (eTMap p0)] (cB r) := by
 unfold X.s_mGood at H
 refine fi Tryz.f189 s_mGood_ir [(2, cB r)] [] glL Tryz.func189 ?_
 refine so [] [] [(1, pk 1)] [(1, va (eTMap p0))] id ?_
 obtain ⟨v1, h2, H⟩ := ofBind H
 rcases ofCond H with ⟨c3, H⟩ | ⟨c3, H⟩
 ·obtain ⟨v4, h5, H⟩ := ofBind H
  rcases ofCond H with ⟨c6, H⟩ | ⟨c6, H⟩
  ·obtain ⟨v7, h8, H⟩ := ofBind H
   rcases ofCond H with ⟨c9, H⟩ | ⟨c9, H⟩
   ·obtain ⟨v10, h11, H⟩ := ofBind H
    rcases ofCond H with ⟨c12, H⟩ | ⟨c12, H⟩
    ·obtain ⟨v13, h14, H⟩ := ofBind H
     rcases ofCond H with ⟨c15, H⟩ | ⟨c15, H⟩
     ·obtain ⟨v16, h17, H⟩ := ofBind H
      refine sd [.res (cB v1), .g true, .g true, .g true, .res (cB v4), .g true, .g true, .g true, .g true, .g true, .g true, .res (cI v7), .g true, .g true, .g true, .g true, .g true, .res (cB v10), .g true, .g true, .g true, .g true, .g true, .res (cB v13), .g true, .g true, .g true, .g true, .g true, .res (cB v16), .g true] [] [(2, cB v16)] [] (fun t => aI (s_l1In_ok p0.Width 1 10 v1 h2) (aI trivial (aI (rfl : ([] : List Nat) = []) (aI c3 (aI c3 (aI c3 (aI (s_l1In_ok p0.Height 1 10 v4 h5) (aI trivial (aI (rfl : ([] : List Nat) = []) (aI c3 (aI c6 (aI c6 (aI c6 (aI c6 (aI c6 (aI (s_mSize_ok p0 v7 h8) (aI trivial (aI (rfl : ([] : List Nat) = []) (aI c6 (aI c6 (aI c9 (aI c9 (aI c9 (aI (s_l1All_ok p0.Terrain 0 5 v10 h11) (aI trivial (aI (rfl : ([] : List Nat) = []) (aI c9 (aI c12 (aI c12 (aI c12 (aI c12 (aI (s_mEdges_ok p0 p0.Rivers v13 h14) (aI trivial (aI (rfl : ([] : List Nat) = []) (aI c12 (aI c15 (aI c15 (aI c15 (aI c15 (aI (s_mEdges_ok p0 p0.Roads v16 h17) (aI trivial (aI (rfl : ([] : List Nat) = []) (aI c15 (t)))))))))))))))))))))))))))))))))))))))))))) ?_
      refine ends_ret ?_
      cases H
      exact And.intro (.inl rfl) rfl
     ·refine sd [.res (cB v1), .g true, .g true, .g true, .res (cB v4), .g true, .g true, .g true, .g true, .g true, .g true, .res (cI v7), .g true, .g true, .g true, .g true, .g true, .res (cB v10), .g true, .g true, .g true, .g true, .g true, .res (cB v13), .g true, .g false, .g false, .g false, .g false, .g false] [] [(2, cB false)] [] (fun t => aI (s_l1In_ok p0.Width 1 10 v1 h2) (aI trivial (aI (rfl : ([] : List Nat) = []) (aI c3 (aI c3 (aI c3 (aI (s_l1In_ok p0.Height 1 10 v4 h5) (aI trivial (aI (rfl : ([] : List Nat) = []) (aI c3 (aI c6 (aI c6 (aI c6 (aI c6 (aI c6 (aI (s_mSize_ok p0 v7 h8) (aI trivial (aI (rfl : ([] : List Nat) = []) (aI c6 (aI c6 (aI c9 (aI c9 (aI c9 (aI (s_l1All_ok p0.Terrain 0 5 v10 h11) (aI trivial (aI (rfl : ([] : List Nat) = []) (aI c9 (aI c12 (aI c12 (aI c12 (aI c12 (aI (s_mEdges_ok p0 p0.Rivers v13 h14) (aI trivial (aI (rfl : ([] : List Nat) = []) (aI c12 (aI c15 (aI c15 (aI c15 (aI c15 (aI c15 (t))))))))))))))))))))))))))))))))))))))))) ?_
      refine ends_ret ?_
      cases H
      exact And.intro (.inl rfl) rfl
    ·refine sd [.res (cB v1), .g true, .g true, .g true, .res (cB v4), .g true, .g true, .g true, .g true, .g true, .g true, .res (cI v7), .g true, .g true, .g true, .g true, .g true, .res (cB v10), .g true, .g false, .g false, .g false, .g false, .g false, .g false, .g false, .g false, .g false, .g false] [] [(2, cB false)] [] (fun t => aI (s_l1In_ok p0.Width 1 10 v1 h2) (aI trivial (aI (rfl : ([] : List Nat) = []) (aI c3 (aI c3 (aI c3 (aI (s_l1In_ok p0.Height 1 10 v4 h5) (aI trivial (aI (rfl : ([] : List Nat) = []) (aI c3 (aI c6 (aI c6 (aI c6 (aI c6 (aI c6 (aI (s_mSize_ok p0 v7 h8) (aI trivial (aI (rfl : ([] : List Nat) = []) (aI c6 (aI c6 (aI c9 (aI c9 (aI c9 (aI (s_l1All_ok p0.Terrain 0 5 v10 h11) (aI trivial (aI (rfl : ([] : List Nat) = []) (aI c9 (aI c12 (aI c12 (aI c12 (aI c12 (aI c12 (aI (rfl : (false : Bool) = false) (aI (rfl : (false : Bool) = false) (aI (rfl : (false : Bool) = false) (aI (rfl : (false : Bool) = false) (aI (rfl : (false : Bool) = false) (t)))))))))))))))))))))))))))))))))))))) ?_
     refine ends_ret ?_
     cases H
     exact And.intro (.inl rfl) rfl
   ·refine sd [.res (cB v1), .g true, .g true, .g true, .res (cB v4), .g true, .g true, .g true, .g true, .g true, .g true, .res (cI v7), .g true, .g true, .g false, .g false, .g false, .g false, .g false, .g false, .g false, .g false, .g false, .g false, .g false, .g false, .g false, .g false] [] [(2, cB false)] [] (fun t => aI (s_l1In_ok p0.Width 1 10 v1 h2) (aI trivial (aI (rfl : ([] : List Nat) = []) (aI c3 (aI c3 (aI c3 (aI (s_l1In_ok p0.Height 1 10 v4 h5) (aI trivial (aI (rfl : ([] : List Nat) = []) (aI c3 (aI c6 (aI c6 (aI c6 (aI c6 (aI c6 (aI (s_mSize_ok p0 v7 h8) (aI trivial (aI (rfl : ([] : List Nat) = []) (aI c6 (aI c6 (aI c9 (aI c9 (aI c9 (aI c9 (aI (rfl : (false : Bool) = false) (aI (rfl : (false : Bool) = false) (aI (rfl : (false : Bool) = false) (aI (rfl : (false : Bool) = false) (aI (rfl : (false : Bool) = false) (aI (rfl : (false : Bool) = false) (aI (rfl : (false : Bool) = false) (aI (rfl : (false : Bool) = false) (aI (rfl : (false : Bool) = false) (aI (rfl : (false : Bool) = false) (t))))))))))))))))))))))))))))))))))) ?_
    refine ends_ret ?_
    cases H
    exact And.intro (.inl rfl) rfl
  ·refine sd [.res (cB v1), .g true, .g true, .g true, .res (cB v4), .g true, .g false, .g false, .g false, .g false, .g false, .g false, .g false, .g false, .g false, .g false, .g false, .g false, .g false, .g false, .g false, .g false, .g false, .g false, .g false, .g false, .g false] [] [(2, cB false)] [] (fun t => aI (s_l1In_ok p0.Width 1 10 v1 h2) (aI trivial (aI (rfl : ([] : List Nat) = []) (aI c3 (aI c3 (aI c3 (aI (s_l1In_ok p0.Height 1 10 v4 h5) (aI trivial (aI (rfl : ([] : List Nat) = []) (aI c3 (aI c6 (aI c6 (aI c6 (aI c6 (aI c6 (aI c6 (aI c6 (aI (rfl : (false : Bool) = false) (aI (rfl : (false : Bool) = false) (aI (rfl : (false : Bool) = false) (aI (rfl : (false : Bool) = false) (aI (rfl : (false : Bool) = false) (aI (rfl : (false : Bool) = false) (aI (rfl : (false : Bool) = false) (aI (rfl : (false : Bool) = false) (aI (rfl : (false : Bool) = false) (aI (rfl : (false : Bool) = false) (aI (rfl : (false : Bool) = false) (aI (rfl : (false : Bool) = false) (aI (rfl : (false : Bool) = false) (aI (rfl : (false : Bool) = false) (t)))))))))))))))))))))))))))))))) ?_
   refine ends_ret ?_
   cases H
   exact And.intro (.inl rfl) rfl
 ·refine sd [.res (cB v1), .g false, .g false, .g false, .g false, .g false, .g false, .g false, .g false, .g false, .g false, .g false, .g false, .g false, .g false, .g false, .g false, .g false, .g false, .g false, .g false, .g false, .g false, .g false, .g false, .g false] [] [(2, cB false)] [] (fun t => aI (s_l1In_ok p0.Width 1 10 v1 h2) (aI trivial (aI (rfl : ([] : List Nat) = []) (aI c3 (aI c3 (aI c3 (aI c3 (aI (rfl : (false : Bool) = false) (aI (rfl : (false : Bool) = false) (aI (rfl : (false : Bool) = false) (aI (rfl : (false : Bool) = false) (aI (rfl : (false : Bool) = false) (aI (rfl : (false : Bool) = false) (aI (rfl : (false : Bool) = false) (aI (rfl : (false : Bool) = false) (aI (rfl : (false : Bool) = false) (aI (rfl : (false : Bool) = false) (aI (rfl : (false : Bool) = false) (aI (rfl : (false : Bool) = false) (aI (rfl : (false : Bool) = false) (aI (rfl : (false : Bool) = false) (aI (rfl : (false : Bool) = false) (aI (rfl : (false : Bool) = false) (aI (rfl : (false : Bool) = false) (aI (rfl : (false : Bool) = false) (aI (rfl : (false : Bool) = false) (aI (rfl : (false : Bool) = false) (aI (rfl : (false : Bool) = false) (t))))))))))))))))))))))))))))) ?_
  refine ends_ret ?_
  cases H
  exact And.intro (.inl rfl) rfl
def s_bGood_ir : S :=
 (.seq (.ops [o 1 (.box 12 (.t 0)), o 2 (.mv (.v (.bool false)))])
 (.seq (.ops [o 3 (.fad 0 (.t 1)), o 4 (.load 7 true (.t 3)), o 5 (.call 188 [.t 4]), o 6 (.mv (.t 5)), ⟨some 7, .fad 7 (.t 1), some (6, true)⟩, ⟨some 8, .load 5 true (.t 7), some (6, true)⟩, ⟨some 9, .call 189 [.t 8], some (6, true)⟩, o 10 (.pick (.t 6) (.t 9) (.v (.bool false))), o 11 (.mv (.t 10)), ⟨some 12, .fad 7 (.t 1), some (11, true)⟩, ⟨some 13, .fad 2 (.t 12), some (11, true)⟩, ⟨some 14, .load 1 false (.t 13), some (11, true)⟩, ⟨some 15, .fad 0 (.t 1), some (11, true)⟩, ⟨some 16, .fad 0 (.t 15), some (11, true)⟩, ⟨some 17, .load 1 false (.t 16), some (11, true)⟩, ⟨some 18, .len (.t 17), some (11, true)⟩, ⟨some 19, .bin .sub (.t 18) (.v (.int .i64 1)), some (11, true)⟩, ⟨some 20, .call 166 [.t 14, .v (.int .i64 0), .t 19], some (11, true)⟩, o 21 (.pick (.t 11) (.t 20) (.v (.bool false))), o 2 (.mv (.t 21))])
 .ret))
noncomputable def X.s_bGood (p0 : TBoard) : Option Bool :=
 ((X.s_rGood p0.Rules).bind fun v1 => (bif v1 then ((X.s_mGood p0.Map).bind fun v4 => (bif v4 then ((X.s_l1All p0.Map.Terrain 0 (W ((p0.Rules.Terrains.length : Int) - 1))).bind fun v7 => some v7) else some false)) else some false))
theorem s_bGood_ok (p0 : TBoard) (r : Bool) (H : X.s_bGood p0 = some r) : FnOk Tryz.prog gl 140 [.agg (eTBoard p0)] (cB r) := by
 unfold X.s_bGood at H
 refine fi Tryz.f140 s_bGood_ir [(2, cB r)] [] glL Tryz.func140 ?_
 refine so [] [] [(1, pk 1)] [(1, va (eTBoard p0))] id ?_
 obtain ⟨v1, h2, H⟩ := ofBind H
 rcases ofCond H with ⟨c3, H⟩ | ⟨c3, H⟩
 ·obtain ⟨v4, h5, H⟩ := ofBind H
  rcases ofCond H with ⟨c6, H⟩ | ⟨c6, H⟩
  ·obtain ⟨v7, h8, H⟩ := ofBind H
   refine so [.res (cB v1), .g true, .g true, .g true, .res (cB v4), .g true, .g true, .g true, .g true, .g true, .g true, .g true, .g true, .g true, .g true, .res (cB v7), .g true] [] [(2, cB v7)] [] (fun t => aI (s_rGood_ok p0.Rules v1 h2) (aI c3 (aI c3 (aI c3 (aI (s_mGood_ok p0.Map v4 h5) (aI c3 (aI c6 (aI c6 (aI c6 (aI c6 (aI c6 (aI c6 (aI c6 (lI p0.Rules.Terrains (aI c6 (aI c6 (aI (s_l1All_ok p0.Map.Terrain 0 (W ((p0.Rules.Terrains.length : Int) - 1)) v7 h8) (aI c6 (t))))))))))))))))))) ?_
   refine ends_ret ?_
   cases H
   exact And.intro (.inl rfl) rfl
  ·refine so [.res (cB v1), .g true, .g true, .g true, .res (cB v4), .g true, .g false, .g false, .g false, .g false, .g false, .g false, .g false, .g false, .g false, .g false] [] [(2, cB false)] [] (fun t => aI (s_rGood_ok p0.Rules v1 h2) (aI c3 (aI c3 (aI c3 (aI (s_mGood_ok p0.Map v4 h5) (aI c3 (aI c6 (aI c6 (aI c6 (aI c6 (aI c6 (aI c6 (aI c6 (aI c6 (aI c6 (aI c6 (t))))))))))))))))) ?_
   refine ends_ret ?_
   cases H
   exact And.intro (.inl rfl) rfl
 ·refine so [.res (cB v1), .g false, .g false, .g false, .g false, .g false, .g false, .g false, .g false, .g false, .g false, .g false, .g false, .g false, .g false] [] [(2, cB false)] [] (fun t => aI (s_rGood_ok p0.Rules v1 h2) (aI c3 (aI c3 (aI c3 (aI c3 (aI (rfl : (false : Bool) = false) (aI (rfl : (false : Bool) = false) (aI (rfl : (false : Bool) = false) (aI (rfl : (false : Bool) = false) (aI (rfl : (false : Bool) = false) (aI (rfl : (false : Bool) = false) (aI (rfl : (false : Bool) = false) (aI (rfl : (false : Bool) = false) (aI (rfl : (false : Bool) = false) (aI (rfl : (false : Bool) = false) (t)))))))))))))))) ?_
  refine ends_ret ?_
  cases H
  exact And.intro (.inl rfl) rfl
def s_bTerrain_ir : S :=
 (.seq (.ops [o 2 (.box 12 (.t 0)), o 4 (.alloc [.str [], .nil, .int .i64 0, .int .i64 0, .bool false])])
 (.seq (.draw 11 [o 5 (.fad 0 (.t 2)), o 6 (.fad 0 (.t 5)), o 7 (.load 1 false (.t 6)), o 8 (.fad 7 (.t 2)), o 9 (.fad 2 (.t 8)), o 10 (.load 1 false (.t 9)), o 11 (.mv (.t 1)), o 12 (.iad 1 (.t 10) (.t 11)), o 13 (.load 1 false (.t 12)), o 14 (.iad 5 (.t 7) (.t 13)), o 15 (.load 5 true (.t 14)), ⟨none, .store 5 (.t 4) (.t 15), none⟩])
 .ret))
noncomputable def X.s_bTerrain (p0 : TBoard) (p1 : Int) : Option TTerrain :=
 ((at' zI p0.Map.Terrain p1).bind fun v1 => ((at' zTTerrain p0.Rules.Terrains v1).bind fun v3 => some v3))
theorem s_bTerrain_ok (p0 : TBoard) (p1 : Int) (r : TTerrain) (H : X.s_bTerrain p0 p1 = some r) : FnOk Tryz.prog gl 197 [.agg (eTBoard p0), cI p1] (.agg (eTTerrain r)) := by
 unfold X.s_bTerrain at H
 refine fi Tryz.f197 s_bTerrain_ir [(4, pk 4)] [(4, va (eTTerrain r))] glL Tryz.func197 ?_
 refine so [] [] [(1, cI p1), (2, pk 2), (4, pk 4)] [(2, va (eTBoard p0)), (4, .var [.str [], .nil, .int .i64 0, .int .i64 0, .bool false] false)] id ?_
 obtain ⟨v1, h2, H⟩ := ofBind H
 obtain ⟨v3, h4, H⟩ := ofBind H
 refine sd [.cs (eI v1), .cs (eTTerrain v3)] [] [(4, pk 4)] [(4, va (eTTerrain v3))] (fun t => aI (at_lt h2) (aI (at_enc (enc := eI) h2) (aI (rfl : ([] : List Nat) = []) (aI (at_lt h4) (aI (at_enc (enc := eTTerrain) h4) (aI (rfl : ([] : List Nat) = []) (t))))))) ?_
 refine ends_ret ?_
 cases H
 exact And.intro (.inl rfl) rfl
def s_bCost_ir : S :=
 (.seq (.ops [o 3 (.box 12 (.t 0)), o 6 (.mv (.v (.int .i64 0)))])
 (.seq (.ops [o 7 (.load 12 true (.t 3)), o 8 (.mv (.t 2)), o 9 (.call 197 [.t 7, .t 8]), o 10 (.fld 1 1 false (.t 9)), o 11 (.mv (.t 1)), o 12 (.iad 1 (.t 10) (.t 11)), o 13 (.load 1 false (.t 12)), o 6 (.mv (.t 13))])
 .ret))
noncomputable def X.s_bCost (p0 : TBoard) (p1 : Int) (p2 : Int) : Option Int :=
 ((X.s_bTerrain p0 p2).bind fun v1 => ((at' zI v1.Cost p1).bind fun v3 => some v3))
theorem s_bCost_ok (p0 : TBoard) (p1 : Int) (p2 : Int) (r : Int) (H : X.s_bCost p0 p1 p2 = some r) : FnOk Tryz.prog gl 153 [.agg (eTBoard p0), cI p1, cI p2] (cI r) := by
 unfold X.s_bCost at H
 refine fi Tryz.f153 s_bCost_ir [(6, cI r)] [] glL Tryz.func153 ?_
 refine so [] [] [(1, cI p1), (2, cI p2), (3, pk 3)] [(3, va (eTBoard p0))] id ?_
 obtain ⟨v1, h2, H⟩ := ofBind H
 obtain ⟨v3, h4, H⟩ := ofBind H
 refine so [.res (.agg (eTTerrain v1)), .cs (eI v3)] [] [(6, cI v3)] [] (fun t => aI (s_bTerrain_ok p0 p2 v1 h2) (aI (at_lt h4) (aI (at_enc (enc := eI) h4) (t)))) ?_
 refine ends_ret ?_
 cases H
 exact And.intro (.inl rfl) rfl
def s_sUnit_ir : S :=
 (.seq (.ops [o 2 (.box 12 (.t 0)), o 3 (.box 4 (.t 1)), o 4 (.mv (.v (.bool false)))])
 (.seq (.seq (.draw 29 [o 5 (.fad 0 (.t 3)), o 6 (.load 1 false (.t 5)), o 7 (.call 124 [.t 6, .v (.int .i64 0), .v (.int .i64 1)]), o 8 (.not (.t 7)), o 9 (.mv (.t 8)), ⟨some 10, .fad 1 (.t 3), some (9, false)⟩, ⟨some 11, .load 1 false (.t 10), some (9, false)⟩, ⟨some 12, .fad 0 (.t 2), some (9, false)⟩, ⟨some 13, .fad 1 (.t 12), some (9, false)⟩, ⟨some 14, .load 1 false (.t 13), some (9, false)⟩, ⟨some 15, .len (.t 14), some (9, false)⟩, ⟨some 16, .bin .sub (.t 15) (.v (.int .i64 1)), some (9, false)⟩, ⟨some 17, .call 124 [.t 11, .v (.int .i64 0), .t 16], some (9, false)⟩, ⟨some 18, .not (.t 17), some (9, false)⟩, o 19 (.pick (.t 9) (.v (.bool true)) (.t 18)), o 20 (.mv (.t 19)), ⟨some 21, .fad 3 (.t 3), some (20, false)⟩, ⟨some 22, .load 1 false (.t 21), some (20, false)⟩, ⟨some 23, .fad 0 (.t 2), some (20, false)⟩, ⟨some 24, .fad 1 (.t 23), some (20, false)⟩, ⟨some 25, .load 1 false (.t 24), some (20, false)⟩, ⟨some 26, .fad 1 (.t 3), some (20, false)⟩, ⟨some 27, .load 1 false (.t 26), some (20, false)⟩, ⟨some 28, .iad 6 (.t 25) (.t 27), some (20, false)⟩, ⟨some 29, .fad 3 (.t 28), some (20, false)⟩, ⟨some 30, .load 1 false (.t 29), some (20, false)⟩, ⟨some 31, .call 124 [.t 22, .v (.int .i64 0), .t 30], some (20, false)⟩, ⟨some 32, .not (.t 31), some (20, false)⟩, o 33 (.pick (.t 20) (.v (.bool true)) (.t 32))])
 (.ite (.t 33) (.seq (.ops [o 4 (.mv (.v (.bool false)))])
  .ret)
 .skip))
 (.seq (.draw 27 [o 34 (.fad 2 (.t 3)), o 35 (.load 1 false (.t 34)), o 36 (.bin .eql (.t 35) (.v (.int .i64 (-1)))), o 37 (.mv (.t 36)), ⟨some 38, .fad 3 (.t 3), some (37, false)⟩, ⟨some 39, .load 1 false (.t 38), some (37, false)⟩, ⟨some 40, .bin .gtr (.t 39) (.v (.int .i64 0)), some (37, false)⟩, ⟨some 41, .mv (.t 40), some (37, false)⟩, ⟨some 42, .fad 2 (.t 3), some (41, true)⟩, ⟨some 43, .load 1 false (.t 42), some (41, true)⟩, ⟨some 44, .fad 7 (.t 2), some (41, true)⟩, ⟨some 45, .load 5 true (.t 44), some (41, true)⟩, ⟨some 46, .call 142 [.t 45], some (41, true)⟩, ⟨some 47, .bin .sub (.t 46) (.v (.int .i64 1)), some (41, true)⟩, ⟨some 48, .call 124 [.t 43, .v (.int .i64 0), .t 47], some (41, true)⟩, ⟨some 49, .pick (.t 41) (.t 48) (.v (.bool false)), some (37, false)⟩, ⟨some 50, .mv (.t 49), some (37, false)⟩, ⟨some 51, .load 12 true (.t 2), some (50, true)⟩, ⟨some 52, .fad 1 (.t 3), some (50, true)⟩, ⟨some 53, .load 1 false (.t 52), some (50, true)⟩, ⟨some 54, .fad 2 (.t 3), some (50, true)⟩, ⟨some 55, .load 1 false (.t 54), some (50, true)⟩, ⟨some 56, .call 153 [.t 51, .t 53, .t 55], some (50, true)⟩, ⟨some 57, .bin .gtr (.t 56) (.v (.int .i64 0)), some (50, true)⟩, ⟨some 58, .pick (.t 50) (.t 57) (.v (.bool false)), some (37, false)⟩, o 59 (.pick (.t 37) (.v (.bool true)) (.t 58)), o 4 (.mv (.t 59))])
 .ret)))
noncomputable def X.s_sUnit (p0 : TBoard) (p1 : TUnit) : Option Bool :=
 ((X.s_l1In p1.Side 0 1).bind fun v12 => (bif (!v12) then some false else ((X.s_l1In p1.Kind 0 (W ((p0.Rules.Kinds.length : Int) - 1))).bind fun v15 => (bif (!v15) then some false else ((at' zTKind p0.Rules.Kinds p1.Kind).bind fun v18 => ((X.s_l1In p1.Steps 0 v18.Steps).bind fun v20 => (bif (!v20) then some false else (bif (p1.At == (-1)) then some true else (bif (decide (p1.Steps > 0)) then ((X.s_mSize p0.Map).bind fun v25 => ((X.s_l1In p1.At 0 (W (v25 - 1))).bind fun v27 => (bif v27 then ((X.s_bCost p0 p1.Kind p1.At).bind fun v30 => some (decide (v30 > 0))) else some false))) else some false)))))))))
theorem s_sUnit_ok (p0 : TBoard) (p1 : TUnit) (r : Bool) (H : X.s_sUnit p0 p1 = some r) : FnOk Tryz.prog gl 177 [.agg (eTBoard p0), .agg (eTUnit p1)] (cB r) := by
 unfold X.s_sUnit at H
 refine fi Tryz.f177 s_sUnit_ir [(4, cB r)] [] glL Tryz.func177 ?_
 refine so [] [] [(2, pk 2), (3, pk 3)] [(2, va (eTBoard p0)), (3, va (eTUnit p1))] id ?_
 refine seq_in ?_
 obtain ⟨v12, h13, H⟩ := ofBind H
 rcases ofCond H with ⟨c14, H⟩ | ⟨c14, H⟩
 ·refine sd [.res (cB v12), .g true, .g true, .g true, .g true, .g true, .g true, .g true, .g true, .g true, .g true, .g true, .g true, .g true, .g true, .g true, .g true, .g true, .g true, .g true, .g true, .g true, .g true, .g true] [] [(2, pk 2), (3, pk 3), (33, cB true)] [(2, va (eTBoard p0)), (3, va (eTUnit p1))] (fun t => aI (s_l1In_ok p1.Side 0 1 v12 h13) (aI trivial (aI (rfl : ([] : List Nat) = []) (aI c14 (aI c14 (aI c14 (aI c14 (aI c14 (aI c14 (aI c14 (aI c14 (aI c14 (aI c14 (aI (rfl : (true : Bool) = true) (aI (rfl : (true : Bool) = true) (aI (rfl : (true : Bool) = true) (aI (rfl : (true : Bool) = true) (aI (rfl : (true : Bool) = true) (aI (rfl : (true : Bool) = true) (aI (rfl : (true : Bool) = true) (aI (rfl : (true : Bool) = true) (aI (rfl : (true : Bool) = true) (aI (rfl : (true : Bool) = true) (aI (rfl : (true : Bool) = true) (aI (rfl : (true : Bool) = true) (aI (rfl : (true : Bool) = true) (t))))))))))))))))))))))))))) ?_
  refine it (rfl : (true : Bool) = true) ?_
  refine so [] [] [(4, cB false)] [] id ?_
  refine ends_ret ?_
  cases H
  exact And.intro (.inl rfl) rfl
 ·obtain ⟨v15, h16, H⟩ := ofBind H
  rcases ofCond H with ⟨c17, H⟩ | ⟨c17, H⟩
  ·refine sd [.res (cB v12), .g false, .g false, .g false, .g false, .g false, .g false, .g false, .g false, .res (cB v15), .g false, .g false, .g true, .g true, .g true, .g true, .g true, .g true, .g true, .g true, .g true, .g true, .g true, .g true, .g true] [] [(2, pk 2), (3, pk 3), (33, cB true)] [(2, va (eTBoard p0)), (3, va (eTUnit p1))] (fun t => aI (s_l1In_ok p1.Side 0 1 v12 h13) (aI trivial (aI (rfl : ([] : List Nat) = []) (aI c14 (aI c14 (aI c14 (aI c14 (aI c14 (aI c14 (aI c14 (aI c14 (aI (s_l1In_ok p1.Kind 0 (W ((p0.Rules.Kinds.length : Int) - 1)) v15 h16) (aI trivial (aI (rfl : ([] : List Nat) = []) (aI c14 (aI c14 (aI c17 (aI c17 (aI c17 (aI c17 (aI c17 (aI c17 (aI c17 (aI c17 (aI c17 (aI c17 (aI c17 (aI c17 (aI c17 (t)))))))))))))))))))))))))))))) ?_
   refine it (rfl : (true : Bool) = true) ?_
   refine so [] [] [(4, cB false)] [] id ?_
   refine ends_ret ?_
   cases H
   exact And.intro (.inl rfl) rfl
  ·obtain ⟨v18, h19, H⟩ := ofBind H
   obtain ⟨v20, h21, H⟩ := ofBind H
   refine sd [.res (cB v12), .g false, .g false, .g false, .g false, .g false, .g false, .g false, .g false, .res (cB v15), .g false, .g false, .g false, .g false, .g false, .g false, .g false, .g false, .g false, .g false, .cs (eTKind v18), .g false, .g false, .g false, .res (cB v20), .g false, .g false] [] [(2, pk 2), (3, pk 3), (33, cB (!v20))] [(2, va (eTBoard p0)), (3, va (eTUnit p1))] (fun t => aI (s_l1In_ok p1.Side 0 1 v12 h13) (aI trivial (aI (rfl : ([] : List Nat) = []) (aI c14 (aI c14 (aI c14 (aI c14 (aI c14 (aI c14 (aI c14 (aI c14 (aI (s_l1In_ok p1.Kind 0 (W ((p0.Rules.Kinds.length : Int) - 1)) v15 h16) (aI trivial (aI (rfl : ([] : List Nat) = []) (aI c14 (aI c14 (aI c17 (aI c17 (aI c17 (aI c17 (aI c17 (aI c17 (aI c17 (aI c17 (aI (at_lt h19) (aI (at_enc (enc := eTKind) h19) (aI c17 (aI c17 (aI (rfl : ([] : List Nat) = []) (aI c17 (aI (s_l1In_ok p1.Steps 0 v18.Steps v20 h21) (aI trivial (aI (rfl : ([] : List Nat) = []) (aI c17 (aI c17 (t)))))))))))))))))))))))))))))))))))) ?_
   rcases ofCond H with ⟨c22, H⟩ | ⟨c22, H⟩
   ·refine it c22 ?_
    refine so [] [] [(4, cB false)] [] id ?_
    refine ends_ret ?_
    cases H
    exact And.intro (.inl rfl) rfl
   ·refine jf c22 ?_
    refine sk ?_
    rcases ofCond H with ⟨c23, H⟩ | ⟨c23, H⟩
    ·refine sd [.g true, .g true, .g true, .g true, .g true, .g true, .g true, .g true] [] [(4, cB true)] [] (fun t => aI c23 (aI c23 (aI c23 (aI c23 (aI c23 (aI c23 (aI c23 (aI c23 (t))))))))) ?_
     refine ends_ret ?_
     cases H
     exact And.intro (.inl rfl) rfl
    ·rcases ofCond H with ⟨c24, H⟩ | ⟨c24, H⟩
     ·obtain ⟨v25, h26, H⟩ := ofBind H
      obtain ⟨v27, h28, H⟩ := ofBind H
      rcases ofCond H with ⟨c29, H⟩ | ⟨c29, H⟩
      ·obtain ⟨v30, h31, H⟩ := ofBind H
       refine sd [.g false, .g false, .g false, .g false, .g true, .g true, .g true, .g true, .g true, .res (cI v25), .g true, .g true, .res (cB v27), .g false, .g true, .g false, .g true, .g true, .g true, .g true, .g true, .g true, .res (cI v30), .g true, .g false, .g true, .g false] [] [(4, cB (decide (v30 > 0)))] [] (fun t => aI c23 (aI c23 (aI c23 (aI c23 (aI c24 (aI c24 (aI c24 (aI c24 (aI c24 (aI (s_mSize_ok p0.Map v25 h26) (aI trivial (aI (rfl : ([] : List Nat) = []) (aI c24 (aI c24 (aI (s_l1In_ok p1.At 0 (W (v25 - 1)) v27 h28) (aI trivial (aI (rfl : ([] : List Nat) = []) (aI c23 (aI c24 (aI c23 (aI c29 (aI c29 (aI c29 (aI c29 (aI c29 (aI c29 (aI (s_bCost_ok p0 p1.Kind p1.At v30 h31) (aI trivial (aI (rfl : ([] : List Nat) = []) (aI c29 (aI c23 (aI c29 (aI c23 (t)))))))))))))))))))))))))))))))))) ?_
       refine ends_ret ?_
       cases H
       exact And.intro (.inl rfl) rfl
      ·refine sd [.g false, .g false, .g false, .g false, .g true, .g true, .g true, .g true, .g true, .res (cI v25), .g true, .g true, .res (cB v27), .g false, .g true, .g false, .g false, .g false, .g false, .g false, .g false, .g false, .g false, .g false, .g false, .g false] [] [(4, cB false)] [] (fun t => aI c23 (aI c23 (aI c23 (aI c23 (aI c24 (aI c24 (aI c24 (aI c24 (aI c24 (aI (s_mSize_ok p0.Map v25 h26) (aI trivial (aI (rfl : ([] : List Nat) = []) (aI c24 (aI c24 (aI (s_l1In_ok p1.At 0 (W (v25 - 1)) v27 h28) (aI trivial (aI (rfl : ([] : List Nat) = []) (aI c23 (aI c24 (aI c23 (aI c29 (aI c29 (aI c29 (aI c29 (aI c29 (aI c29 (aI c29 (aI c23 (aI c29 (aI c23 (t))))))))))))))))))))))))))))))) ?_
       refine ends_ret ?_
       cases H
       exact And.intro (.inl rfl) rfl
     ·refine sd [.g false, .g false, .g false, .g false, .g false, .g false, .g false, .g false, .g false, .g false, .g false, .g false, .g false, .g false, .g false, .g false, .g false, .g false, .g false, .g false, .g false, .g false, .g false, .g false] [] [(4, cB false)] [] (fun t => aI c23 (aI c23 (aI c23 (aI c23 (aI c24 (aI c24 (aI c24 (aI c24 (aI c24 (aI c24 (aI c24 (aI c23 (aI c24 (aI c23 (aI (rfl : (false : Bool) = false) (aI (rfl : (false : Bool) = false) (aI (rfl : (false : Bool) = false) (aI (rfl : (false : Bool) = false) (aI (rfl : (false : Bool) = false) (aI (rfl : (false : Bool) = false) (aI (rfl : (false : Bool) = false) (aI c23 (aI (rfl : (false : Bool) = false) (aI c23 (t))))))))))))))))))))))))) ?_
      refine ends_ret ?_
      cases H
      exact And.intro (.inl rfl) rfl
def s_sAt_ir : S :=
 (.seq (.ops [o 3 (.box 3 (.t 0)), o 6 (.mv (.v (.nil)))])
 (.seq (.ops [o 7 (.mv (.v (.nil)))])
 (.seq (.seq (.ops [o 10 (.fad 2 (.t 3)), o 11 (.load 1 false (.t 10)), o 12 (.len (.t 11)), o 13 (.mv (.v (.int .i64 0)))])
 (.blk 0 (.loop (.seq (.ops [o 14 (.bin .lss (.t 13) (.t 12))])
   (.seq (.ite (.t 14) .skip
   (.exit 0))
   (.seq (.blk 1 (.seq (.ops [o 15 (.mv (.t 13)), o 16 (.iad 4 (.t 11) (.t 13)), o 17 (.load 4 true (.t 16)), o 9 (.alloc [.int .i64 0, .int .i64 0, .int .i64 0, .int .i64 0]), o 8 (.mv (.t 15)), ⟨none, .store 4 (.t 9) (.t 17), none⟩])
    (.seq (.ops [o 18 (.fad 2 (.t 9)), o 19 (.load 1 false (.t 18)), o 20 (.mv (.t 1)), o 21 (.bin .eql (.t 19) (.t 20)), o 22 (.mv (.t 21)), ⟨some 23, .fad 0 (.t 9), some (22, true)⟩, ⟨some 24, .load 1 false (.t 23), some (22, true)⟩, ⟨some 25, .mv (.t 2), some (22, true)⟩, ⟨some 26, .bin .eql (.t 24) (.t 25), some (22, true)⟩, o 27 (.pick (.t 22) (.t 26) (.v (.bool false)))])
    (.ite (.t 27) (.ops [o 28 (.mv (.t 7)), o 29 (.mv (.t 8)), o 30 (.bsl 1 [.t 29]), o 31 (.app 1 8 (.t 28) (.t 30)), o 7 (.mv (.t 31))])
    .skip))))
   (.ops [o 32 (.bin .add (.t 13) (.v (.int .i64 1))), o 13 (.mv (.t 32))])))))))
 (.seq (.ops [o 33 (.mv (.t 7)), o 6 (.mv (.t 33))])
 .ret))))
noncomputable def X.s_sAt (p0 : TState) (p1 : Int) (p2 : Int) : Option (List Int) :=
 ((loop (fun (x16 : (Int × (List Int))) => ((bif (decide (x16.1 < (p0.Units.length : Int))) then ((at' zTUnit p0.Units x16.1).bind fun v19 => (bif (v19.At == p1) then (bif (v19.Side == p2) then (if (x16.2 ++ ([x16.1] : List Int)).length ≤ LIM then some (Sum.inl ((W (x16.1 + 1)), (x16.2 ++ ([x16.1] : List Int)))) else none) else some (Sum.inl ((W (x16.1 + 1)), x16.2))) else some (Sum.inl ((W (x16.1 + 1)), x16.2)))) else some (Sum.inr x16.2)) : Option ((Int × (List Int)) ⊕ (List Int)))) (0, ([] : List Int))).bind fun y24 => some y24)
theorem s_sAt_ok (p0 : TState) (p1 : Int) (p2 : Int) (r : (List Int)) (H : X.s_sAt p0 p1 p2 = some r) : FnOk Tryz.prog gl 178 [.agg (eTState p0), cI p1, cI p2] (.c (dat 1 eI zI r)) := by
 unfold X.s_sAt at H
 refine fi Tryz.f178 s_sAt_ir [(6, dc 1 eI zI r)] [] glL Tryz.func178 ?_
 refine so [] [] [(1, cI p1), (2, cI p2), (3, pk 3)] [(3, va (eTState p0))] id ?_
 refine so [] [] [(1, cI p1), (2, cI p2), (3, pk 3), (7, .c (.nil))] [(3, va (eTState p0))] id ?_
 refine seq_in ?_
 refine so [] [] [(1, cI p1), (2, cI p2), (7, .c (.nil)), (11, dc 4 eTUnit zTUnit p0.Units), (12, cI (p0.Units.length : Int)), (13, cI 0)] [] (fun t => lI p0.Units (t)) ?_
 refine ends_blk ?_
 obtain ⟨y24, h25, H⟩ := ofBind H
 refine tl [.nlo 7 1001 1 (fF eI zI ([] : List Int))] [(1, cI p1), (2, cI p2), (7, .c (.own 1001 1 0 (([] : List Int).length))), (11, dc 4 eTUnit zTUnit p0.Units), (12, cI (p0.Units.length : Int)), (13, cI 0)] [(1001, .arr 1 (([] : List Int).length) (fF eI zI ([] : List Int)) false)] (fun t => aI (by decide : 0 < 1) (t)) ?_
 refine loop_in (fun (x : (Int × (List Int))) => lit [(1, cI p1), (2, cI p2), (7, .c (.own 1001 1 0 x.2.length)), (11, dc 4 eTUnit zTUnit p0.Units), (12, cI (p0.Units.length : Int)), (13, cI x.1)] [(1001, .arr 1 x.2.length (fF eI zI x.2) false)]) (fun (z : (List Int)) => At (.exit 0) (lit [(7, .c (.own 1001 1 0 z.length))] [(1001, .arr 1 z.length (fF eI zI z) false)])) h25 ?_ ?_
 ·clear H h25
  intro x16 y0 H
  refine so [] [] [(1, cI p1), (2, cI p2), (7, .c (.own 1001 1 0 x16.2.length)), (11, dc 4 eTUnit zTUnit p0.Units), (12, cI (p0.Units.length : Int)), (13, cI x16.1), (14, cB (decide (x16.1 < (p0.Units.length : Int))))] [(1001, .arr 1 x16.2.length (fF eI zI x16.2) false)] id ?_
  refine seq_in ?_
  rcases ofCond H with ⟨c18, H⟩ | ⟨c18, H⟩
  ·refine it c18 ?_
   refine sk ?_
   refine seq_in ?_
   refine ends_blk ?_
   obtain ⟨v19, h20, H⟩ := ofBind H
   refine so [.cs (eTUnit v19)] [] [(1, cI p1), (2, cI p2), (7, .c (.own 1001 1 0 x16.2.length)), (8, cI x16.1), (9, pk 9), (11, dc 4 eTUnit zTUnit p0.Units), (12, cI (p0.Units.length : Int)), (13, cI x16.1)] [(9, va (eTUnit v19)), (1001, .arr 1 x16.2.length (fF eI zI x16.2) false)] (fun t => aI (at_lt h20) (aI (at_enc (enc := eTUnit) h20) (t))) ?_
   rcases ofCond H with ⟨c21, H⟩ | ⟨c21, H⟩
   ·refine so [.g true, .g true, .g true, .g true, .g true] [] [(1, cI p1), (2, cI p2), (7, .c (.own 1001 1 0 x16.2.length)), (8, cI x16.1), (11, dc 4 eTUnit zTUnit p0.Units), (12, cI (p0.Units.length : Int)), (13, cI x16.1), (27, cB (v19.Side == p2))] [(1001, .arr 1 x16.2.length (fF eI zI x16.2) false)] (fun t => aI c21 (aI c21 (aI c21 (aI c21 (aI c21 (t)))))) ?_
    rcases ofCond H with ⟨c22, H⟩ | ⟨c22, H⟩
    ·refine it c22 ?_
     obtain ⟨g23, H⟩ := ofIf H
     refine oo [.fn ([x16.1] : List Int).length (fF eI zI ([x16.1] : List Int)), .fn (x16.2 ++ ([x16.1] : List Int)).length (fF eI zI (x16.2 ++ ([x16.1] : List Int)))] [] [(1, cI p1), (2, cI p2), (7, .c (.own 31 1 0 ((x16.2 ++ ([x16.1] : List Int)).length))), (11, dc 4 eTUnit zTUnit p0.Units), (12, cI (p0.Units.length : Int)), (13, cI x16.1)] [(31, .arr 1 ((x16.2 ++ ([x16.1] : List Int)).length) (fF eI zI (x16.2 ++ ([x16.1] : List Int))) false)] (fun t => aI (rfl : ([x16.1] : List Int).length = 1) (aI (fF_lit eI zI ([x16.1] : List Int)) (aI (And.intro (Nat.le_refl x16.2.length) (And.intro (@List.length_append _ x16.2 ([x16.1] : List Int)) g23)) (aI (fF_appL eI zI x16.2 ([x16.1] : List Int)) (aI (fF_appR eI zI x16.2 ([x16.1] : List Int)) (t)))))) ?_
     change EndsI _ _ _ _ _ _
     refine oo [] [.ren 31 1001] [(1, cI p1), (2, cI p2), (7, .c (.own 1001 1 0 ((x16.2 ++ ([x16.1] : List Int)).length))), (11, dc 4 eTUnit zTUnit p0.Units), (12, cI (p0.Units.length : Int)), (13, cI (W (x16.1 + 1)))] [(1001, .arr 1 ((x16.2 ++ ([x16.1] : List Int)).length) (fF eI zI (x16.2 ++ ([x16.1] : List Int))) false)] id ?_
     cases H
     exact And.intro rfl rfl
    ·refine jf c22 ?_
     refine sk ?_
     refine oo [] [] [(1, cI p1), (2, cI p2), (7, .c (.own 1001 1 0 x16.2.length)), (11, dc 4 eTUnit zTUnit p0.Units), (12, cI (p0.Units.length : Int)), (13, cI (W (x16.1 + 1)))] [(1001, .arr 1 x16.2.length (fF eI zI x16.2) false)] id ?_
     cases H
     exact And.intro rfl rfl
   ·refine so [.g false, .g false, .g false, .g false, .g false] [] [(1, cI p1), (2, cI p2), (7, .c (.own 1001 1 0 x16.2.length)), (8, cI x16.1), (11, dc 4 eTUnit zTUnit p0.Units), (12, cI (p0.Units.length : Int)), (13, cI x16.1), (27, cB false)] [(1001, .arr 1 x16.2.length (fF eI zI x16.2) false)] (fun t => aI c21 (aI c21 (aI c21 (aI c21 (aI c21 (t)))))) ?_
    refine jf (rfl : (false : Bool) = false) ?_
    refine sk ?_
    refine oo [] [] [(1, cI p1), (2, cI p2), (7, .c (.own 1001 1 0 x16.2.length)), (11, dc 4 eTUnit zTUnit p0.Units), (12, cI (p0.Units.length : Int)), (13, cI (W (x16.1 + 1)))] [(1001, .arr 1 x16.2.length (fF eI zI x16.2) false)] id ?_
    cases H
    exact And.intro rfl rfl
  ·refine jf c18 ?_
   refine tl [] [(7, .c (.own 1001 1 0 x16.2.length))] [(1001, .arr 1 x16.2.length (fF eI zI x16.2) false)] id ?_
   refine ends_exit ?_
   cases H
   exact And.intro (by simp) (And.intro rfl rfl)
 ·clear h25
  intro e s q
  obtain ⟨rfl, rfl⟩ := q
  change EndsI _ _ _ _ _ _
  refine so [] [] [(6, .c (.own 1001 1 0 y24.length))] [(1001, .arr 1 y24.length (fF eI zI y24) false)] id ?_
  refine tl [.frz 6] [(6, dc 1 eI zI y24)] [] (fun t => aI (Nat.le_refl y24.length) (t)) ?_
  refine ends_ret ?_
  cases H
  exact And.intro (.inl rfl) rfl
def s_sGood_ir : S :=
 (.seq (.ops [o 2 (.box 12 (.t 0)), o 3 (.box 3 (.t 1)), o 4 (.mv (.v (.bool false)))])
 (.seq (.seq (.ops [o 9 (.load 12 true (.t 2)), o 10 (.call 140 [.t 9]), o 11 (.not (.t 10)), o 12 (.mv (.t 11)), ⟨some 13, .fad 0 (.t 3), some (12, false)⟩, ⟨some 14, .load 1 false (.t 13), some (12, false)⟩, ⟨some 15, .fad 0 (.t 2), some (12, false)⟩, ⟨some 16, .fad 6 (.t 15), some (12, false)⟩, ⟨some 17, .load 1 false (.t 16), some (12, false)⟩, ⟨some 18, .call 124 [.t 14, .v (.int .i64 0), .t 17], some (12, false)⟩, ⟨some 19, .not (.t 18), some (12, false)⟩, o 20 (.pick (.t 12) (.v (.bool true)) (.t 19)), o 21 (.mv (.t 20)), ⟨some 22, .fad 1 (.t 3), some (21, false)⟩, ⟨some 23, .load 1 false (.t 22), some (21, false)⟩, ⟨some 24, .call 124 [.t 23, .v (.int .i64 0), .v (.int .i64 2)], some (21, false)⟩, ⟨some 25, .not (.t 24), some (21, false)⟩, o 26 (.pick (.t 21) (.v (.bool true)) (.t 25)), o 27 (.mv (.t 26)), ⟨some 28, .fad 2 (.t 3), some (27, false)⟩, ⟨some 29, .load 1 false (.t 28), some (27, false)⟩, ⟨some 30, .len (.t 29), some (27, false)⟩, ⟨some 31, .bin .gtr (.t 30) (.v (.int .i64 12)), some (27, false)⟩, o 32 (.pick (.t 27) (.v (.bool true)) (.t 31))])
 (.ite (.t 32) (.seq (.ops [o 4 (.mv (.v (.bool false)))])
  .ret)
 .skip))
 (.seq (.seq (.ops [o 33 (.fad 2 (.t 3)), o 34 (.load 1 false (.t 33)), o 35 (.len (.t 34)), o 36 (.mv (.v (.int .i64 0)))])
 (.blk 0 (.loop (.seq (.ops [o 37 (.bin .lss (.t 36) (.t 35))])
   (.seq (.ite (.t 37) .skip
   (.exit 0))
   (.seq (.blk 1 (.seq (.ops [o 38 (.iad 4 (.t 34) (.t 36)), o 39 (.load 4 true (.t 38)), o 6 (.alloc [.int .i64 0, .int .i64 0, .int .i64 0, .int .i64 0]), ⟨none, .store 4 (.t 6) (.t 39), none⟩])
    (.seq (.ops [o 40 (.load 12 true (.t 2)), o 41 (.load 4 true (.t 6)), o 42 (.call 177 [.t 40, .t 41]), o 43 (.not (.t 42))])
    (.ite (.t 43) (.seq (.ops [o 4 (.mv (.v (.bool false)))])
     .ret)
    .skip))))
   (.ops [o 44 (.bin .add (.t 36) (.v (.int .i64 1))), o 36 (.mv (.t 44))])))))))
 (.seq (.seq (.ops [o 45 (.fad 2 (.t 3)), o 46 (.load 1 false (.t 45)), o 47 (.len (.t 46)), o 48 (.mv (.v (.int .i64 0)))])
 (.blk 2 (.loop (.seq (.ops [o 49 (.bin .lss (.t 48) (.t 47))])
   (.seq (.ite (.t 49) .skip
   (.exit 2))
   (.seq (.blk 3 (.seq (.ops [o 50 (.iad 4 (.t 46) (.t 48)), o 51 (.load 4 true (.t 50)), o 8 (.alloc [.int .i64 0, .int .i64 0, .int .i64 0, .int .i64 0]), ⟨none, .store 4 (.t 8) (.t 51), none⟩])
    (.seq (.draw 27 [o 52 (.fad 2 (.t 8)), o 53 (.load 1 false (.t 52)), o 54 (.bin .geq (.t 53) (.v (.int .i64 0))), o 55 (.mv (.t 54)), ⟨some 56, .load 3 true (.t 3), some (55, true)⟩, ⟨some 57, .fad 2 (.t 8), some (55, true)⟩, ⟨some 58, .load 1 false (.t 57), some (55, true)⟩, ⟨some 59, .fad 0 (.t 8), some (55, true)⟩, ⟨some 60, .load 1 false (.t 59), some (55, true)⟩, ⟨some 61, .bin .sub (.v (.int .i64 1)) (.t 60), some (55, true)⟩, ⟨some 62, .call 178 [.t 56, .t 58, .t 61], some (55, true)⟩, ⟨some 63, .len (.t 62), some (55, true)⟩, ⟨some 64, .bin .gtr (.t 63) (.v (.int .i64 0)), some (55, true)⟩, ⟨some 65, .mv (.t 64), some (55, true)⟩, ⟨some 66, .load 3 true (.t 3), some (65, false)⟩, ⟨some 67, .fad 2 (.t 8), some (65, false)⟩, ⟨some 68, .load 1 false (.t 67), some (65, false)⟩, ⟨some 69, .fad 0 (.t 8), some (65, false)⟩, ⟨some 70, .load 1 false (.t 69), some (65, false)⟩, ⟨some 71, .call 178 [.t 66, .t 68, .t 70], some (65, false)⟩, ⟨some 72, .len (.t 71), some (65, false)⟩, ⟨some 73, .fad 0 (.t 2), some (65, false)⟩, ⟨some 74, .fad 2 (.t 73), some (65, false)⟩, ⟨some 75, .load 1 false (.t 74), some (65, false)⟩, ⟨some 76, .bin .gtr (.t 72) (.t 75), some (65, false)⟩, ⟨some 77, .pick (.t 65) (.v (.bool true)) (.t 76), some (55, true)⟩, o 78 (.pick (.t 55) (.t 77) (.v (.bool false)))])
    (.ite (.t 78) (.seq (.ops [o 4 (.mv (.v (.bool false)))])
     .ret)
    .skip))))
   (.ops [o 79 (.bin .add (.t 48) (.v (.int .i64 1))), o 48 (.mv (.t 79))])))))))
 (.seq (.ops [o 4 (.mv (.v (.bool true)))])
 .ret)))))
noncomputable def X.s_sGood (p0 : TBoard) (p1 : TState) : Option Bool :=
 ((X.s_bGood p0).bind fun v11 => (bif (!v11) then some false else ((X.s_l1In p1.Turn 0 p0.Rules.Turns).bind fun v14 => (bif (!v14) then some false else ((X.s_l1In p1.Weather 0 2).bind fun v17 => (bif (!v17) then some false else (bif (decide ((p1.Units.length : Int) > 12)) then some false else ((loop (fun (x63 : Int) => ((bif (decide (x63 < (p1.Units.length : Int))) then ((at' zTUnit p1.Units x63).bind fun v66 => ((X.s_sUnit p0 v66).bind fun v68 => (bif (!v68) then some (Sum.inr (Sum.inr false)) else some (Sum.inl (W (x63 + 1)))))) else some (Sum.inr (Sum.inl ()))) : Option (Int ⊕ (Unit ⊕ Bool)))) 0).bind fun y71 => (Sum.elim (fun (y73 : Unit) => ((loop (fun (x98 : Int) => ((bif (decide (x98 < (p1.Units.length : Int))) then ((at' zTUnit p1.Units x98).bind fun v101 => (bif (decide (v101.At ≥ 0)) then ((X.s_sAt p1 v101.At (W (1 - v101.Side))).bind fun v104 => (bif (decide ((v104.length : Int) > 0)) then some (Sum.inr (Sum.inr false)) else ((X.s_sAt p1 v101.At v101.Side).bind fun v107 => (bif (decide ((v107.length : Int) > p0.Rules.Stack)) then some (Sum.inr (Sum.inr false)) else some (Sum.inl (W (x98 + 1))))))) else some (Sum.inl (W (x98 + 1))))) else some (Sum.inr (Sum.inl ()))) : Option (Int ⊕ (Unit ⊕ Bool)))) 0).bind fun y110 => (Sum.elim (fun (y112 : Unit) => some true) (fun (y113 : Bool) => some y113) y110))) (fun (y74 : Bool) => some y74) y71)))))))))
theorem s_sGood_ok (p0 : TBoard) (p1 : TState) (r : Bool) (H : X.s_sGood p0 p1 = some r) : FnOk Tryz.prog gl 123 [.agg (eTBoard p0), .agg (eTState p1)] (cB r) := by
 unfold X.s_sGood at H
 refine fi Tryz.f123 s_sGood_ir [(4, cB r)] [] glL Tryz.func123 ?_
 refine so [] [] [(2, pk 2), (3, pk 3)] [(2, va (eTBoard p0)), (3, va (eTState p1))] id ?_
 refine seq_in ?_
 obtain ⟨v11, h12, H⟩ := ofBind H
 rcases ofCond H with ⟨c13, H⟩ | ⟨c13, H⟩
 ·refine so [.res (cB v11), .g true, .g true, .g true, .g true, .g true, .g true, .g true, .g true, .g true, .g true, .g true, .g true, .g true, .g true, .g true, .g true, .g true, .g true] [] [(2, pk 2), (3, pk 3), (32, cB true)] [(2, va (eTBoard p0)), (3, va (eTState p1))] (fun t => aI (s_bGood_ok p0 v11 h12) (aI c13 (aI c13 (aI c13 (aI c13 (aI c13 (aI c13 (aI c13 (aI c13 (aI (rfl : (true : Bool) = true) (aI (rfl : (true : Bool) = true) (aI (rfl : (true : Bool) = true) (aI (rfl : (true : Bool) = true) (aI (rfl : (true : Bool) = true) (aI (rfl : (true : Bool) = true) (aI (rfl : (true : Bool) = true) (aI (rfl : (true : Bool) = true) (aI (rfl : (true : Bool) = true) (aI (rfl : (true : Bool) = true) (t)))))))))))))))))))) ?_
  refine it (rfl : (true : Bool) = true) ?_
  refine so [] [] [(4, cB false)] [] id ?_
  refine ends_ret ?_
  cases H
  exact And.intro (.inl rfl) rfl
 ·obtain ⟨v14, h15, H⟩ := ofBind H
  rcases ofCond H with ⟨c16, H⟩ | ⟨c16, H⟩
  ·refine so [.res (cB v11), .g false, .g false, .g false, .g false, .g false, .g false, .res (cB v14), .g false, .g false, .g true, .g true, .g true, .g true, .g true, .g true, .g true, .g true, .g true, .g true] [] [(2, pk 2), (3, pk 3), (32, cB true)] [(2, va (eTBoard p0)), (3, va (eTState p1))] (fun t => aI (s_bGood_ok p0 v11 h12) (aI c13 (aI c13 (aI c13 (aI c13 (aI c13 (aI c13 (aI (s_l1In_ok p1.Turn 0 p0.Rules.Turns v14 h15) (aI c13 (aI c13 (aI c16 (aI c16 (aI c16 (aI c16 (aI c16 (aI (rfl : (true : Bool) = true) (aI (rfl : (true : Bool) = true) (aI (rfl : (true : Bool) = true) (aI (rfl : (true : Bool) = true) (aI (rfl : (true : Bool) = true) (t))))))))))))))))))))) ?_
   refine it (rfl : (true : Bool) = true) ?_
   refine so [] [] [(4, cB false)] [] id ?_
   refine ends_ret ?_
   cases H
   exact And.intro (.inl rfl) rfl
  ·obtain ⟨v17, h18, H⟩ := ofBind H
   rcases ofCond H with ⟨c19, H⟩ | ⟨c19, H⟩
   ·refine so [.res (cB v11), .g false, .g false, .g false, .g false, .g false, .g false, .res (cB v14), .g false, .g false, .g false, .g false, .g false, .res (cB v17), .g false, .g false, .g true, .g true, .g true, .g true, .g true] [] [(2, pk 2), (3, pk 3), (32, cB true)] [(2, va (eTBoard p0)), (3, va (eTState p1))] (fun t => aI (s_bGood_ok p0 v11 h12) (aI c13 (aI c13 (aI c13 (aI c13 (aI c13 (aI c13 (aI (s_l1In_ok p1.Turn 0 p0.Rules.Turns v14 h15) (aI c13 (aI c13 (aI c16 (aI c16 (aI c16 (aI (s_l1In_ok p1.Weather 0 2 v17 h18) (aI c16 (aI c16 (aI c19 (aI c19 (aI c19 (aI c19 (aI c19 (t)))))))))))))))))))))) ?_
    refine it (rfl : (true : Bool) = true) ?_
    refine so [] [] [(4, cB false)] [] id ?_
    refine ends_ret ?_
    cases H
    exact And.intro (.inl rfl) rfl
   ·refine so [.res (cB v11), .g false, .g false, .g false, .g false, .g false, .g false, .res (cB v14), .g false, .g false, .g false, .g false, .g false, .res (cB v17), .g false, .g false, .g false, .g false, .g false, .g false, .g false] [] [(2, pk 2), (3, pk 3), (32, cB (decide ((p1.Units.length : Int) > 12)))] [(2, va (eTBoard p0)), (3, va (eTState p1))] (fun t => aI (s_bGood_ok p0 v11 h12) (aI c13 (aI c13 (aI c13 (aI c13 (aI c13 (aI c13 (aI (s_l1In_ok p1.Turn 0 p0.Rules.Turns v14 h15) (aI c13 (aI c13 (aI c16 (aI c16 (aI c16 (aI (s_l1In_ok p1.Weather 0 2 v17 h18) (aI c16 (aI c16 (aI c19 (aI c19 (aI c19 (lI p1.Units (aI c19 (aI c19 (t))))))))))))))))))))))) ?_
    rcases ofCond H with ⟨c20, H⟩ | ⟨c20, H⟩
    ·refine it c20 ?_
     refine so [] [] [(4, cB false)] [] id ?_
     refine ends_ret ?_
     cases H
     exact And.intro (.inl rfl) rfl
    ·refine jf c20 ?_
     refine sk ?_
     refine seq_in ?_
     refine so [] [] [(2, pk 2), (3, pk 3), (34, dc 4 eTUnit zTUnit p1.Units), (35, cI (p1.Units.length : Int)), (36, cI 0)] [(2, va (eTBoard p0)), (3, va (eTState p1))] (fun t => lI p1.Units (t)) ?_
     refine ends_blk ?_
     obtain ⟨y71, h72, H⟩ := ofBind H
     refine loop_in (fun (x : Int) => lit [(2, pk 2), (3, pk 3), (34, dc 4 eTUnit zTUnit p1.Units), (35, cI (p1.Units.length : Int)), (36, cI x)] [(2, va (eTBoard p0)), (3, va (eTState p1))]) (orJ (fun (z : Unit) => At (.exit 0) (lit [(2, pk 2), (3, pk 3)] [(2, va (eTBoard p0)), (3, va (eTState p1))])) (fun (z : Bool) => At .ret (lit [(4, cB z)] []))) h72 ?_ ?_
     ·clear H h72
      intro x63 y0 H
      refine so [] [] [(2, pk 2), (3, pk 3), (34, dc 4 eTUnit zTUnit p1.Units), (35, cI (p1.Units.length : Int)), (36, cI x63), (37, cB (decide (x63 < (p1.Units.length : Int))))] [(2, va (eTBoard p0)), (3, va (eTState p1))] id ?_
      refine seq_in ?_
      rcases ofCond H with ⟨c65, H⟩ | ⟨c65, H⟩
      ·refine it c65 ?_
       refine sk ?_
       refine seq_in ?_
       refine ends_blk ?_
       obtain ⟨v66, h67, H⟩ := ofBind H
       refine so [.cs (eTUnit v66)] [] [(2, pk 2), (3, pk 3), (6, pk 6), (34, dc 4 eTUnit zTUnit p1.Units), (35, cI (p1.Units.length : Int)), (36, cI x63)] [(2, va (eTBoard p0)), (3, va (eTState p1)), (6, va (eTUnit v66))] (fun t => aI (at_lt h67) (aI (at_enc (enc := eTUnit) h67) (t))) ?_
       obtain ⟨v68, h69, H⟩ := ofBind H
       refine so [.res (cB v68)] [] [(2, pk 2), (3, pk 3), (34, dc 4 eTUnit zTUnit p1.Units), (35, cI (p1.Units.length : Int)), (36, cI x63), (43, cB (!v68))] [(2, va (eTBoard p0)), (3, va (eTState p1))] (fun t => aI (s_sUnit_ok p0 v66 v68 h69) (t)) ?_
       rcases ofCond H with ⟨c70, H⟩ | ⟨c70, H⟩
       ·refine it c70 ?_
        refine so [] [] [(4, cB false)] [] id ?_
        refine ends_ret ?_
        cases H
        exact And.intro (by simp) (And.intro rfl rfl)
       ·refine jf c70 ?_
        refine sk ?_
        refine oo [] [] [(2, pk 2), (3, pk 3), (34, dc 4 eTUnit zTUnit p1.Units), (35, cI (p1.Units.length : Int)), (36, cI (W (x63 + 1)))] [(2, va (eTBoard p0)), (3, va (eTState p1))] id ?_
        cases H
        exact And.intro rfl rfl
      ·refine jf c65 ?_
       refine tl [] [(2, pk 2), (3, pk 3)] [(2, va (eTBoard p0)), (3, va (eTState p1))] id ?_
       refine ends_exit ?_
       cases H
       exact And.intro (by simp) (And.intro rfl rfl)
     ·clear h72
      cases y71 with
      | inl y73 =>
       replace H := ofInl H
       intro e s q
       obtain ⟨rfl, rfl⟩ := q
       change EndsI _ _ _ _ _ _
       refine seq_in ?_
       refine so [] [] [(2, pk 2), (3, pk 3), (46, dc 4 eTUnit zTUnit p1.Units), (47, cI (p1.Units.length : Int)), (48, cI 0)] [(2, va (eTBoard p0)), (3, va (eTState p1))] (fun t => lI p1.Units (t)) ?_
       refine ends_blk ?_
       obtain ⟨y110, h111, H⟩ := ofBind H
       refine loop_in (fun (x : Int) => lit [(2, pk 2), (3, pk 3), (46, dc 4 eTUnit zTUnit p1.Units), (47, cI (p1.Units.length : Int)), (48, cI x)] [(2, va (eTBoard p0)), (3, va (eTState p1))]) (orJ (fun (z : Unit) => At (.exit 2) (lit [] [])) (fun (z : Bool) => At .ret (lit [(4, cB z)] []))) h111 ?_ ?_
       ·clear H h111
        intro x98 y0 H
        refine so [] [] [(2, pk 2), (3, pk 3), (46, dc 4 eTUnit zTUnit p1.Units), (47, cI (p1.Units.length : Int)), (48, cI x98), (49, cB (decide (x98 < (p1.Units.length : Int))))] [(2, va (eTBoard p0)), (3, va (eTState p1))] id ?_
        refine seq_in ?_
        rcases ofCond H with ⟨c100, H⟩ | ⟨c100, H⟩
        ·refine it c100 ?_
         refine sk ?_
         refine seq_in ?_
         refine ends_blk ?_
         obtain ⟨v101, h102, H⟩ := ofBind H
         refine so [.cs (eTUnit v101)] [] [(2, pk 2), (3, pk 3), (8, pk 8), (46, dc 4 eTUnit zTUnit p1.Units), (47, cI (p1.Units.length : Int)), (48, cI x98)] [(2, va (eTBoard p0)), (3, va (eTState p1)), (8, va (eTUnit v101))] (fun t => aI (at_lt h102) (aI (at_enc (enc := eTUnit) h102) (t))) ?_
         rcases ofCond H with ⟨c103, H⟩ | ⟨c103, H⟩
         ·obtain ⟨v104, h105, H⟩ := ofBind H
          rcases ofCond H with ⟨c106, H⟩ | ⟨c106, H⟩
          ·refine sd [.g true, .g true, .g true, .g true, .g true, .g true, .g true, .res (dc 1 eI zI v104), .g true, .g true, .g true, .g true, .g true, .g true, .g true, .g true, .g true, .g true, .g true, .g true, .g true, .g true, .g true, .g true, .g true] [] [(2, pk 2), (3, pk 3), (46, dc 4 eTUnit zTUnit p1.Units), (47, cI (p1.Units.length : Int)), (48, cI x98), (78, cB true)] [(2, va (eTBoard p0)), (3, va (eTState p1))] (fun t => aI c103 (aI c103 (aI c103 (aI c103 (aI c103 (aI c103 (aI c103 (aI (s_sAt_ok p1 v101.At (W (1 - v101.Side)) v104 h105) (aI (rfl : ([] : List Nat) = []) (aI (rfl : ([] : List Nat) = []) (aI c103 (aI c103 (aI c103 (aI c106 (aI c106 (aI c106 (aI c106 (aI c106 (aI c106 (aI c106 (aI c106 (aI c106 (aI c106 (aI c106 (aI c103 (aI c106 (aI c103 (t)))))))))))))))))))))))))))) ?_
           refine it (rfl : (true : Bool) = true) ?_
           refine so [] [] [(4, cB false)] [] id ?_
           refine ends_ret ?_
           cases H
           exact And.intro (by simp) (And.intro rfl rfl)
          ·obtain ⟨v107, h108, H⟩ := ofBind H
           refine sd [.g true, .g true, .g true, .g true, .g true, .g true, .g true, .res (dc 1 eI zI v104), .g true, .g true, .g true, .g false, .g false, .g false, .g false, .g false, .g false, .res (dc 1 eI zI v107), .g false, .g false, .g false, .g false, .g false, .g true, .g false, .g true] [] [(2, pk 2), (3, pk 3), (46, dc 4 eTUnit zTUnit p1.Units), (47, cI (p1.Units.length : Int)), (48, cI x98), (78, cB (decide ((v107.length : Int) > p0.Rules.Stack)))] [(2, va (eTBoard p0)), (3, va (eTState p1))] (fun t => aI c103 (aI c103 (aI c103 (aI c103 (aI c103 (aI c103 (aI c103 (aI (s_sAt_ok p1 v101.At (W (1 - v101.Side)) v104 h105) (aI (rfl : ([] : List Nat) = []) (aI (rfl : ([] : List Nat) = []) (aI c103 (aI c103 (aI c103 (aI c106 (aI c106 (aI c106 (aI c106 (aI c106 (aI c106 (aI (s_sAt_ok p1 v101.At v101.Side v107 h108) (aI (rfl : ([] : List Nat) = []) (aI (rfl : ([] : List Nat) = []) (aI c106 (aI c106 (aI c106 (aI c106 (aI c106 (aI c103 (aI c106 (aI c103 (t))))))))))))))))))))))))))))))) ?_
           rcases ofCond H with ⟨c109, H⟩ | ⟨c109, H⟩
           ·refine it c109 ?_
            refine so [] [] [(4, cB false)] [] id ?_
            refine ends_ret ?_
            cases H
            exact And.intro (by simp) (And.intro rfl rfl)
           ·refine jf c109 ?_
            refine sk ?_
            refine oo [] [] [(2, pk 2), (3, pk 3), (46, dc 4 eTUnit zTUnit p1.Units), (47, cI (p1.Units.length : Int)), (48, cI (W (x98 + 1)))] [(2, va (eTBoard p0)), (3, va (eTState p1))] id ?_
            cases H
            exact And.intro rfl rfl
         ·refine sd [.g false, .g false, .g false, .g false, .g false, .g false, .g false, .g false, .g false, .g false, .g false, .g false] [] [(2, pk 2), (3, pk 3), (46, dc 4 eTUnit zTUnit p1.Units), (47, cI (p1.Units.length : Int)), (48, cI x98), (78, cB false)] [(2, va (eTBoard p0)), (3, va (eTState p1))] (fun t => aI c103 (aI c103 (aI c103 (aI c103 (aI c103 (aI c103 (aI c103 (aI c103 (aI c103 (aI c103 (aI c103 (aI c103 (t))))))))))))) ?_
          refine jf (rfl : (false : Bool) = false) ?_
          refine sk ?_
          refine oo [] [] [(2, pk 2), (3, pk 3), (46, dc 4 eTUnit zTUnit p1.Units), (47, cI (p1.Units.length : Int)), (48, cI (W (x98 + 1)))] [(2, va (eTBoard p0)), (3, va (eTState p1))] id ?_
          cases H
          exact And.intro rfl rfl
        ·refine jf c100 ?_
         refine tl [] [] [] id ?_
         refine ends_exit ?_
         cases H
         exact And.intro (by simp) (And.intro rfl rfl)
       ·clear h111
        cases y110 with
        | inl y112 =>
         replace H := ofInl H
         intro e s q
         obtain ⟨rfl, rfl⟩ := q
         change EndsI _ _ _ _ _ _
         refine so [] [] [(4, cB true)] [] id ?_
         refine ends_ret ?_
         cases H
         exact And.intro (.inl rfl) rfl
        | inr y113 =>
         replace H := ofInr H
         intro e s q
         obtain ⟨rfl, rfl⟩ := q
         cases H
         exact And.intro (.inl rfl) rfl
      | inr y74 =>
       replace H := ofInr H
       intro e s q
       obtain ⟨rfl, rfl⟩ := q
       cases H
       exact And.intro (.inl rfl) rfl
def s_vcGood_ir : S :=
 (.seq (.ops [o 2 (.box 12 (.t 0)), o 3 (.box 3 (.t 1)), o 4 (.mv (.v (.bool false)))])
 (.seq (.seq (.ops [o 7 (.load 12 true (.t 2)), o 8 (.call 140 [.t 7]), o 9 (.not (.t 8)), o 10 (.mv (.t 9)), ⟨some 11, .fad 0 (.t 3), some (10, false)⟩, ⟨some 12, .load 1 false (.t 11), some (10, false)⟩, ⟨some 13, .len (.t 12), some (10, false)⟩, ⟨some 14, .bin .gtr (.t 13) (.v (.int .i64 12)), some (10, false)⟩, o 15 (.pick (.t 10) (.v (.bool true)) (.t 14)), o 16 (.mv (.t 15)), ⟨some 17, .fad 1 (.t 3), some (16, false)⟩, ⟨some 18, .load 1 false (.t 17), some (16, false)⟩, ⟨some 19, .call 124 [.t 18, .v (.int .i64 0), .v (.int .i64 9)], some (16, false)⟩, ⟨some 20, .not (.t 19), some (16, false)⟩, o 21 (.pick (.t 16) (.v (.bool true)) (.t 20)), o 22 (.mv (.t 21)), ⟨some 23, .fad 2 (.t 3), some (22, false)⟩, ⟨some 24, .load 1 false (.t 23), some (22, false)⟩, ⟨some 25, .call 124 [.t 24, .v (.int .i64 0), .v (.int .i64 200)], some (22, false)⟩, ⟨some 26, .not (.t 25), some (22, false)⟩, o 27 (.pick (.t 22) (.v (.bool true)) (.t 26))])
 (.ite (.t 27) (.seq (.ops [o 4 (.mv (.v (.bool false)))])
  .ret)
 .skip))
 (.seq (.seq (.ops [o 28 (.fad 0 (.t 3)), o 29 (.load 1 false (.t 28)), o 30 (.len (.t 29)), o 31 (.mv (.v (.int .i64 0)))])
 (.blk 0 (.loop (.seq (.ops [o 32 (.bin .lss (.t 31) (.t 30))])
   (.seq (.ite (.t 32) .skip
   (.exit 0))
   (.seq (.blk 1 (.seq (.ops [o 33 (.mv (.t 31)), o 34 (.iad 2 (.t 29) (.t 31)), o 35 (.load 2 true (.t 34)), o 6 (.alloc [.int .i64 0, .int .i64 0]), o 5 (.mv (.t 33)), ⟨none, .store 2 (.t 6) (.t 35), none⟩])
    (.seq (.draw 30 [o 36 (.fad 0 (.t 6)), o 37 (.load 1 false (.t 36)), o 38 (.fad 7 (.t 2)), o 39 (.load 5 true (.t 38)), o 40 (.call 142 [.t 39]), o 41 (.bin .sub (.t 40) (.v (.int .i64 1))), o 42 (.call 124 [.t 37, .v (.int .i64 0), .t 41]), o 43 (.not (.t 42)), o 44 (.mv (.t 43)), ⟨some 45, .fad 1 (.t 6), some (44, false)⟩, ⟨some 46, .load 1 false (.t 45), some (44, false)⟩, ⟨some 47, .call 124 [.t 46, .v (.int .i64 1), .v (.int .i64 20)], some (44, false)⟩, ⟨some 48, .not (.t 47), some (44, false)⟩, o 49 (.pick (.t 44) (.v (.bool true)) (.t 48)), o 50 (.mv (.t 49)), ⟨some 51, .mv (.t 5), some (50, false)⟩, ⟨some 52, .bin .gtr (.t 51) (.v (.int .i64 0)), some (50, false)⟩, ⟨some 53, .mv (.t 52), some (50, false)⟩, ⟨some 54, .fad 0 (.t 3), some (53, true)⟩, ⟨some 55, .load 1 false (.t 54), some (53, true)⟩, ⟨some 56, .mv (.t 5), some (53, true)⟩, ⟨some 57, .bin .sub (.t 56) (.v (.int .i64 1)), some (53, true)⟩, ⟨some 58, .iad 2 (.t 55) (.t 57), some (53, true)⟩, ⟨some 59, .fad 0 (.t 58), some (53, true)⟩, ⟨some 60, .load 1 false (.t 59), some (53, true)⟩, ⟨some 61, .fad 0 (.t 6), some (53, true)⟩, ⟨some 62, .load 1 false (.t 61), some (53, true)⟩, ⟨some 63, .bin .geq (.t 60) (.t 62), some (53, true)⟩, ⟨some 64, .pick (.t 53) (.t 63) (.v (.bool false)), some (50, false)⟩, o 65 (.pick (.t 50) (.v (.bool true)) (.t 64))])
    (.ite (.t 65) (.seq (.ops [o 4 (.mv (.v (.bool false)))])
     .ret)
    .skip))))
   (.ops [o 66 (.bin .add (.t 31) (.v (.int .i64 1))), o 31 (.mv (.t 66))])))))))
 (.seq (.ops [o 4 (.mv (.v (.bool true)))])
 .ret))))
noncomputable def X.s_vcGood (p0 : TBoard) (p1 : TConditions) : Option Bool :=
 ((X.s_bGood p0).bind fun v11 => (bif (!v11) then some false else (bif (decide ((p1.Goals.length : Int) > 12)) then some false else ((X.s_l1In p1.Step 0 9).bind fun v15 => (bif (!v15) then some false else ((X.s_l1In p1.Margin 0 200).bind fun v18 => (bif (!v18) then some false else ((loop (fun (x54 : Int) => ((bif (decide (x54 < (p1.Goals.length : Int))) then ((at' zTGoal p1.Goals x54).bind fun v57 => ((X.s_mSize p0.Map).bind fun v59 => ((X.s_l1In v57.At 0 (W (v59 - 1))).bind fun v61 => (bif (!v61) then some (Sum.inr (Sum.inr false)) else ((X.s_l1In v57.Points 1 20).bind fun v64 => (bif (!v64) then some (Sum.inr (Sum.inr false)) else (bif (decide (x54 > 0)) then ((at' zTGoal p1.Goals (W (x54 - 1))).bind fun v68 => (bif (decide (v68.At ≥ v57.At)) then some (Sum.inr (Sum.inr false)) else some (Sum.inl (W (x54 + 1))))) else some (Sum.inl (W (x54 + 1)))))))))) else some (Sum.inr (Sum.inl ()))) : Option (Int ⊕ (Unit ⊕ Bool)))) 0).bind fun y71 => (Sum.elim (fun (y73 : Unit) => some true) (fun (y74 : Bool) => some y74) y71)))))))))
theorem s_vcGood_ok (p0 : TBoard) (p1 : TConditions) (r : Bool) (H : X.s_vcGood p0 p1 = some r) : FnOk Tryz.prog gl 158 [.agg (eTBoard p0), .agg (eTConditions p1)] (cB r) := by
 unfold X.s_vcGood at H
 refine fi Tryz.f158 s_vcGood_ir [(4, cB r)] [] glL Tryz.func158 ?_
 refine so [] [] [(2, pk 2), (3, pk 3)] [(2, va (eTBoard p0)), (3, va (eTConditions p1))] id ?_
 refine seq_in ?_
 obtain ⟨v11, h12, H⟩ := ofBind H
 rcases ofCond H with ⟨c13, H⟩ | ⟨c13, H⟩
 ·refine so [.res (cB v11), .g true, .g true, .g true, .g true, .g true, .g true, .g true, .g true, .g true, .g true, .g true, .g true, .g true, .g true, .g true] [] [(2, pk 2), (3, pk 3), (27, cB true)] [(2, va (eTBoard p0)), (3, va (eTConditions p1))] (fun t => aI (s_bGood_ok p0 v11 h12) (aI c13 (aI c13 (aI c13 (aI c13 (aI c13 (aI (rfl : (true : Bool) = true) (aI (rfl : (true : Bool) = true) (aI (rfl : (true : Bool) = true) (aI (rfl : (true : Bool) = true) (aI (rfl : (true : Bool) = true) (aI (rfl : (true : Bool) = true) (aI (rfl : (true : Bool) = true) (aI (rfl : (true : Bool) = true) (aI (rfl : (true : Bool) = true) (aI (rfl : (true : Bool) = true) (t))))))))))))))))) ?_
  refine it (rfl : (true : Bool) = true) ?_
  refine so [] [] [(4, cB false)] [] id ?_
  refine ends_ret ?_
  cases H
  exact And.intro (.inl rfl) rfl
 ·rcases ofCond H with ⟨c14, H⟩ | ⟨c14, H⟩
  ·refine so [.res (cB v11), .g false, .g false, .g false, .g false, .g false, .g true, .g true, .g true, .g true, .g true, .g true, .g true, .g true, .g true, .g true] [] [(2, pk 2), (3, pk 3), (27, cB true)] [(2, va (eTBoard p0)), (3, va (eTConditions p1))] (fun t => aI (s_bGood_ok p0 v11 h12) (aI c13 (aI c13 (aI c13 (lI p1.Goals (aI c13 (aI c13 (aI c14 (aI c14 (aI c14 (aI c14 (aI c14 (aI (rfl : (true : Bool) = true) (aI (rfl : (true : Bool) = true) (aI (rfl : (true : Bool) = true) (aI (rfl : (true : Bool) = true) (aI (rfl : (true : Bool) = true) (t)))))))))))))))))) ?_
   refine it (rfl : (true : Bool) = true) ?_
   refine so [] [] [(4, cB false)] [] id ?_
   refine ends_ret ?_
   cases H
   exact And.intro (.inl rfl) rfl
  ·obtain ⟨v15, h16, H⟩ := ofBind H
   rcases ofCond H with ⟨c17, H⟩ | ⟨c17, H⟩
   ·refine so [.res (cB v11), .g false, .g false, .g false, .g false, .g false, .g false, .g false, .g false, .res (cB v15), .g false, .g false, .g true, .g true, .g true, .g true, .g true] [] [(2, pk 2), (3, pk 3), (27, cB true)] [(2, va (eTBoard p0)), (3, va (eTConditions p1))] (fun t => aI (s_bGood_ok p0 v11 h12) (aI c13 (aI c13 (aI c13 (lI p1.Goals (aI c13 (aI c13 (aI c14 (aI c14 (aI c14 (aI (s_l1In_ok p1.Step 0 9 v15 h16) (aI c14 (aI c14 (aI c17 (aI c17 (aI c17 (aI c17 (aI c17 (t))))))))))))))))))) ?_
    refine it (rfl : (true : Bool) = true) ?_
    refine so [] [] [(4, cB false)] [] id ?_
    refine ends_ret ?_
    cases H
    exact And.intro (.inl rfl) rfl
   ·obtain ⟨v18, h19, H⟩ := ofBind H
    refine so [.res (cB v11), .g false, .g false, .g false, .g false, .g false, .g false, .g false, .g false, .res (cB v15), .g false, .g false, .g false, .g false, .g false, .res (cB v18), .g false, .g false] [] [(2, pk 2), (3, pk 3), (27, cB (!v18))] [(2, va (eTBoard p0)), (3, va (eTConditions p1))] (fun t => aI (s_bGood_ok p0 v11 h12) (aI c13 (aI c13 (aI c13 (lI p1.Goals (aI c13 (aI c13 (aI c14 (aI c14 (aI c14 (aI (s_l1In_ok p1.Step 0 9 v15 h16) (aI c14 (aI c14 (aI c17 (aI c17 (aI c17 (aI (s_l1In_ok p1.Margin 0 200 v18 h19) (aI c17 (aI c17 (t)))))))))))))))))))) ?_
    rcases ofCond H with ⟨c20, H⟩ | ⟨c20, H⟩
    ·refine it c20 ?_
     refine so [] [] [(4, cB false)] [] id ?_
     refine ends_ret ?_
     cases H
     exact And.intro (.inl rfl) rfl
    ·refine jf c20 ?_
     refine sk ?_
     refine seq_in ?_
     refine so [] [] [(2, pk 2), (3, pk 3), (29, dc 2 eTGoal zTGoal p1.Goals), (30, cI (p1.Goals.length : Int)), (31, cI 0)] [(2, va (eTBoard p0)), (3, va (eTConditions p1))] (fun t => lI p1.Goals (t)) ?_
     refine ends_blk ?_
     obtain ⟨y71, h72, H⟩ := ofBind H
     refine loop_in (fun (x : Int) => lit [(2, pk 2), (3, pk 3), (29, dc 2 eTGoal zTGoal p1.Goals), (30, cI (p1.Goals.length : Int)), (31, cI x)] [(2, va (eTBoard p0)), (3, va (eTConditions p1))]) (orJ (fun (z : Unit) => At (.exit 0) (lit [] [])) (fun (z : Bool) => At .ret (lit [(4, cB z)] []))) h72 ?_ ?_
     ·clear H h72
      intro x54 y0 H
      refine so [] [] [(2, pk 2), (3, pk 3), (29, dc 2 eTGoal zTGoal p1.Goals), (30, cI (p1.Goals.length : Int)), (31, cI x54), (32, cB (decide (x54 < (p1.Goals.length : Int))))] [(2, va (eTBoard p0)), (3, va (eTConditions p1))] id ?_
      refine seq_in ?_
      rcases ofCond H with ⟨c56, H⟩ | ⟨c56, H⟩
      ·refine it c56 ?_
       refine sk ?_
       refine seq_in ?_
       refine ends_blk ?_
       obtain ⟨v57, h58, H⟩ := ofBind H
       refine so [.cs (eTGoal v57)] [] [(2, pk 2), (3, pk 3), (5, cI x54), (6, pk 6), (29, dc 2 eTGoal zTGoal p1.Goals), (30, cI (p1.Goals.length : Int)), (31, cI x54)] [(2, va (eTBoard p0)), (3, va (eTConditions p1)), (6, va (eTGoal v57))] (fun t => aI (at_lt h58) (aI (at_enc (enc := eTGoal) h58) (t))) ?_
       obtain ⟨v59, h60, H⟩ := ofBind H
       obtain ⟨v61, h62, H⟩ := ofBind H
       rcases ofCond H with ⟨c63, H⟩ | ⟨c63, H⟩
       ·refine sd [.res (cI v59), .res (cB v61), .g true, .g true, .g true, .g true, .g true, .g true, .g true, .g true, .g true, .g true] [] [(2, pk 2), (3, pk 3), (29, dc 2 eTGoal zTGoal p1.Goals), (30, cI (p1.Goals.length : Int)), (31, cI x54), (65, cB true)] [(2, va (eTBoard p0)), (3, va (eTConditions p1))] (fun t => aI (s_mSize_ok p0.Map v59 h60) (aI trivial (aI (rfl : ([] : List Nat) = []) (aI (s_l1In_ok v57.At 0 (W (v59 - 1)) v61 h62) (aI trivial (aI (rfl : ([] : List Nat) = []) (aI c63 (aI c63 (aI c63 (aI c63 (aI c63 (aI (rfl : (true : Bool) = true) (aI (rfl : (true : Bool) = true) (aI (rfl : (true : Bool) = true) (aI (rfl : (true : Bool) = true) (aI (rfl : (true : Bool) = true) (t))))))))))))))))) ?_
        refine it (rfl : (true : Bool) = true) ?_
        refine so [] [] [(4, cB false)] [] id ?_
        refine ends_ret ?_
        cases H
        exact And.intro (by simp) (And.intro rfl rfl)
       ·obtain ⟨v64, h65, H⟩ := ofBind H
        rcases ofCond H with ⟨c66, H⟩ | ⟨c66, H⟩
        ·refine sd [.res (cI v59), .res (cB v61), .g false, .g false, .g false, .res (cB v64), .g false, .g false, .g true, .g true, .g true, .g true, .g true] [] [(2, pk 2), (3, pk 3), (29, dc 2 eTGoal zTGoal p1.Goals), (30, cI (p1.Goals.length : Int)), (31, cI x54), (65, cB true)] [(2, va (eTBoard p0)), (3, va (eTConditions p1))] (fun t => aI (s_mSize_ok p0.Map v59 h60) (aI trivial (aI (rfl : ([] : List Nat) = []) (aI (s_l1In_ok v57.At 0 (W (v59 - 1)) v61 h62) (aI trivial (aI (rfl : ([] : List Nat) = []) (aI c63 (aI c63 (aI c63 (aI (s_l1In_ok v57.Points 1 20 v64 h65) (aI trivial (aI (rfl : ([] : List Nat) = []) (aI c63 (aI c63 (aI c66 (aI c66 (aI c66 (aI c66 (aI c66 (t)))))))))))))))))))) ?_
         refine it (rfl : (true : Bool) = true) ?_
         refine so [] [] [(4, cB false)] [] id ?_
         refine ends_ret ?_
         cases H
         exact And.intro (by simp) (And.intro rfl rfl)
        ·rcases ofCond H with ⟨c67, H⟩ | ⟨c67, H⟩
         ·obtain ⟨v68, h69, H⟩ := ofBind H
          refine sd [.res (cI v59), .res (cB v61), .g false, .g false, .g false, .res (cB v64), .g false, .g false, .g false, .g false, .g false, .g true, .g true, .g true, .g true, .g true, .cs (eTGoal v68), .g true, .g true, .g true, .g true, .g true, .g false, .g true, .g false] [] [(2, pk 2), (3, pk 3), (29, dc 2 eTGoal zTGoal p1.Goals), (30, cI (p1.Goals.length : Int)), (31, cI x54), (65, cB (decide (v68.At ≥ v57.At)))] [(2, va (eTBoard p0)), (3, va (eTConditions p1))] (fun t => aI (s_mSize_ok p0.Map v59 h60) (aI trivial (aI (rfl : ([] : List Nat) = []) (aI (s_l1In_ok v57.At 0 (W (v59 - 1)) v61 h62) (aI trivial (aI (rfl : ([] : List Nat) = []) (aI c63 (aI c63 (aI c63 (aI (s_l1In_ok v57.Points 1 20 v64 h65) (aI trivial (aI (rfl : ([] : List Nat) = []) (aI c63 (aI c63 (aI c66 (aI c66 (aI c66 (aI c67 (aI c67 (aI c67 (aI c67 (aI c67 (aI (at_lt h69) (aI (at_enc (enc := eTGoal) h69) (aI c67 (aI c67 (aI (rfl : ([] : List Nat) = []) (aI c67 (aI c67 (aI c67 (aI c66 (aI c67 (aI c66 (t)))))))))))))))))))))))))))))))))) ?_
          rcases ofCond H with ⟨c70, H⟩ | ⟨c70, H⟩
          ·refine it c70 ?_
           refine so [] [] [(4, cB false)] [] id ?_
           refine ends_ret ?_
           cases H
           exact And.intro (by simp) (And.intro rfl rfl)
          ·refine jf c70 ?_
           refine sk ?_
           refine oo [] [] [(2, pk 2), (3, pk 3), (29, dc 2 eTGoal zTGoal p1.Goals), (30, cI (p1.Goals.length : Int)), (31, cI (W (x54 + 1)))] [(2, va (eTBoard p0)), (3, va (eTConditions p1))] id ?_
           cases H
           exact And.intro rfl rfl
         ·refine sd [.res (cI v59), .res (cB v61), .g false, .g false, .g false, .res (cB v64), .g false, .g false, .g false, .g false, .g false, .g false, .g false, .g false, .g false, .g false, .g false, .g false, .g false, .g false, .g false, .g false, .g false, .g false] [] [(2, pk 2), (3, pk 3), (29, dc 2 eTGoal zTGoal p1.Goals), (30, cI (p1.Goals.length : Int)), (31, cI x54), (65, cB false)] [(2, va (eTBoard p0)), (3, va (eTConditions p1))] (fun t => aI (s_mSize_ok p0.Map v59 h60) (aI trivial (aI (rfl : ([] : List Nat) = []) (aI (s_l1In_ok v57.At 0 (W (v59 - 1)) v61 h62) (aI trivial (aI (rfl : ([] : List Nat) = []) (aI c63 (aI c63 (aI c63 (aI (s_l1In_ok v57.Points 1 20 v64 h65) (aI trivial (aI (rfl : ([] : List Nat) = []) (aI c63 (aI c63 (aI c66 (aI c66 (aI c66 (aI c67 (aI c67 (aI c67 (aI c67 (aI c67 (aI c67 (aI c67 (aI c67 (aI c67 (aI c67 (aI c66 (aI c67 (aI c66 (t))))))))))))))))))))))))))))))) ?_
          refine jf (rfl : (false : Bool) = false) ?_
          refine sk ?_
          refine oo [] [] [(2, pk 2), (3, pk 3), (29, dc 2 eTGoal zTGoal p1.Goals), (30, cI (p1.Goals.length : Int)), (31, cI (W (x54 + 1)))] [(2, va (eTBoard p0)), (3, va (eTConditions p1))] id ?_
          cases H
          exact And.intro rfl rfl
      ·refine jf c56 ?_
       refine tl [] [] [] id ?_
       refine ends_exit ?_
       cases H
       exact And.intro (by simp) (And.intro rfl rfl)
     ·clear h72
      cases y71 with
      | inl y73 =>
       replace H := ofInl H
       intro e s q
       obtain ⟨rfl, rfl⟩ := q
       change EndsI _ _ _ _ _ _
       refine so [] [] [(4, cB true)] [] id ?_
       refine ends_ret ?_
       cases H
       exact And.intro (.inl rfl) rfl
      | inr y74 =>
       replace H := ofInr H
       intro e s q
       obtain ⟨rfl, rfl⟩ := q
       cases H
       exact And.intro (.inl rfl) rfl
def s_vcInput_ir : S :=
 (.seq (.ops [o 3 (.box 12 (.t 0)), o 4 (.box 3 (.t 1)), o 5 (.box 3 (.t 2)), o 6 (.mv (.v (.bool false)))])
 (.seq (.ops [o 7 (.load 12 true (.t 3)), o 8 (.load 3 true (.t 4)), o 9 (.call 123 [.t 7, .t 8]), o 10 (.mv (.t 9)), ⟨some 11, .load 12 true (.t 3), some (10, true)⟩, ⟨some 12, .load 3 true (.t 5), some (10, true)⟩, ⟨some 13, .call 158 [.t 11, .t 12], some (10, true)⟩, o 14 (.pick (.t 10) (.t 13) (.v (.bool false))), o 6 (.mv (.t 14))])
 .ret))
noncomputable def X.s_vcInput (p0 : TBoard) (p1 : TState) (p2 : TConditions) : Option Bool :=
 ((X.s_sGood p0 p1).bind fun v1 => (bif v1 then ((X.s_vcGood p0 p2).bind fun v4 => some v4) else some false))
theorem s_vcInput_ok (p0 : TBoard) (p1 : TState) (p2 : TConditions) (r : Bool) (H : X.s_vcInput p0 p1 p2 = some r) : FnOk Tryz.prog gl 97 [.agg (eTBoard p0), .agg (eTState p1), .agg (eTConditions p2)] (cB r) := by
 unfold X.s_vcInput at H
 refine fi Tryz.f97 s_vcInput_ir [(6, cB r)] [] glL Tryz.func97 ?_
 refine so [] [] [(3, pk 3), (4, pk 4), (5, pk 5)] [(3, va (eTBoard p0)), (4, va (eTState p1)), (5, va (eTConditions p2))] id ?_
 obtain ⟨v1, h2, H⟩ := ofBind H
 rcases ofCond H with ⟨c3, H⟩ | ⟨c3, H⟩
 ·obtain ⟨v4, h5, H⟩ := ofBind H
  refine so [.res (cB v1), .g true, .g true, .g true, .res (cB v4), .g true] [] [(6, cB v4)] [] (fun t => aI (s_sGood_ok p0 p1 v1 h2) (aI c3 (aI c3 (aI c3 (aI (s_vcGood_ok p0 p2 v4 h5) (aI c3 (t))))))) ?_
  refine ends_ret ?_
  cases H
  exact And.intro (.inl rfl) rfl
 ·refine so [.res (cB v1), .g false, .g false, .g false, .g false] [] [(6, cB false)] [] (fun t => aI (s_sGood_ok p0 p1 v1 h2) (aI c3 (aI c3 (aI c3 (aI c3 (t)))))) ?_
  refine ends_ret ?_
  cases H
  exact And.intro (.inl rfl) rfl
def s_sOwner_ir : S :=
 (.seq (.ops [o 2 (.box 3 (.t 0)), o 4 (.mv (.v (.int .i64 0)))])
 (.seq (.seq (.ops [o 7 (.fad 2 (.t 2)), o 8 (.load 1 false (.t 7)), o 9 (.len (.t 8)), o 10 (.mv (.v (.int .i64 0)))])
 (.blk 0 (.loop (.seq (.ops [o 11 (.bin .lss (.t 10) (.t 9))])
   (.seq (.ite (.t 11) .skip
   (.exit 0))
   (.seq (.blk 1 (.seq (.ops [o 12 (.iad 4 (.t 8) (.t 10)), o 13 (.load 4 true (.t 12)), o 6 (.alloc [.int .i64 0, .int .i64 0, .int .i64 0, .int .i64 0]), ⟨none, .store 4 (.t 6) (.t 13), none⟩])
    (.seq (.ops [o 14 (.fad 2 (.t 6)), o 15 (.load 1 false (.t 14)), o 16 (.mv (.t 1)), o 17 (.bin .eql (.t 15) (.t 16))])
    (.ite (.t 17) (.seq (.ops [o 18 (.fad 0 (.t 6)), o 19 (.load 1 false (.t 18)), o 4 (.mv (.t 19))])
     .ret)
    .skip))))
   (.ops [o 20 (.bin .add (.t 10) (.v (.int .i64 1))), o 10 (.mv (.t 20))])))))))
 (.seq (.ops [o 4 (.mv (.v (.int .i64 (-1))))])
 .ret)))
noncomputable def X.s_sOwner (p0 : TState) (p1 : Int) : Option Int :=
 ((loop (fun (x12 : Int) => ((bif (decide (x12 < (p0.Units.length : Int))) then ((at' zTUnit p0.Units x12).bind fun v15 => (bif (v15.At == p1) then some (Sum.inr (Sum.inr v15.Side)) else some (Sum.inl (W (x12 + 1))))) else some (Sum.inr (Sum.inl ()))) : Option (Int ⊕ (Unit ⊕ Int)))) 0).bind fun y18 => (Sum.elim (fun (y20 : Unit) => some (-1)) (fun (y21 : Int) => some y21) y18))
theorem s_sOwner_ok (p0 : TState) (p1 : Int) (r : Int) (H : X.s_sOwner p0 p1 = some r) : FnOk Tryz.prog gl 63 [.agg (eTState p0), cI p1] (cI r) := by
 unfold X.s_sOwner at H
 refine fi Tryz.f63 s_sOwner_ir [(4, cI r)] [] glL Tryz.func63 ?_
 refine so [] [] [(1, cI p1), (2, pk 2)] [(2, va (eTState p0))] id ?_
 refine seq_in ?_
 refine so [] [] [(1, cI p1), (8, dc 4 eTUnit zTUnit p0.Units), (9, cI (p0.Units.length : Int)), (10, cI 0)] [] (fun t => lI p0.Units (t)) ?_
 refine ends_blk ?_
 obtain ⟨y18, h19, H⟩ := ofBind H
 refine loop_in (fun (x : Int) => lit [(1, cI p1), (8, dc 4 eTUnit zTUnit p0.Units), (9, cI (p0.Units.length : Int)), (10, cI x)] []) (orJ (fun (z : Unit) => At (.exit 0) (lit [] [])) (fun (z : Int) => At .ret (lit [(4, cI z)] []))) h19 ?_ ?_
 ·clear H h19
  intro x12 y0 H
  refine so [] [] [(1, cI p1), (8, dc 4 eTUnit zTUnit p0.Units), (9, cI (p0.Units.length : Int)), (10, cI x12), (11, cB (decide (x12 < (p0.Units.length : Int))))] [] id ?_
  refine seq_in ?_
  rcases ofCond H with ⟨c14, H⟩ | ⟨c14, H⟩
  ·refine it c14 ?_
   refine sk ?_
   refine seq_in ?_
   refine ends_blk ?_
   obtain ⟨v15, h16, H⟩ := ofBind H
   refine so [.cs (eTUnit v15)] [] [(1, cI p1), (6, pk 6), (8, dc 4 eTUnit zTUnit p0.Units), (9, cI (p0.Units.length : Int)), (10, cI x12)] [(6, va (eTUnit v15))] (fun t => aI (at_lt h16) (aI (at_enc (enc := eTUnit) h16) (t))) ?_
   refine so [] [] [(1, cI p1), (6, pk 6), (8, dc 4 eTUnit zTUnit p0.Units), (9, cI (p0.Units.length : Int)), (10, cI x12), (17, cB (v15.At == p1))] [(6, va (eTUnit v15))] id ?_
   rcases ofCond H with ⟨c17, H⟩ | ⟨c17, H⟩
   ·refine it c17 ?_
    refine so [] [] [(4, cI v15.Side)] [] id ?_
    refine ends_ret ?_
    cases H
    exact And.intro (by simp) (And.intro rfl rfl)
   ·refine jf c17 ?_
    refine sk ?_
    refine oo [] [] [(1, cI p1), (8, dc 4 eTUnit zTUnit p0.Units), (9, cI (p0.Units.length : Int)), (10, cI (W (x12 + 1)))] [] id ?_
    cases H
    exact And.intro rfl rfl
  ·refine jf c14 ?_
   refine tl [] [] [] id ?_
   refine ends_exit ?_
   cases H
   exact And.intro (by simp) (And.intro rfl rfl)
 ·clear h19
  cases y18 with
  | inl y20 =>
   replace H := ofInl H
   intro e s q
   obtain ⟨rfl, rfl⟩ := q
   change EndsI _ _ _ _ _ _
   refine so [] [] [(4, cI (-1))] [] id ?_
   refine ends_ret ?_
   cases H
   exact And.intro (.inl rfl) rfl
  | inr y21 =>
   replace H := ofInr H
   intro e s q
   obtain ⟨rfl, rfl⟩ := q
   cases H
   exact And.intro (.inl rfl) rfl
def s_l1Has_ir : S :=
 (.seq (.ops [o 4 (.mv (.v (.bool false)))])
 (.seq (.seq (.ops [o 7 (.mv (.t 0)), o 8 (.len (.t 7)), o 9 (.mv (.v (.int .i64 0)))])
 (.blk 0 (.loop (.seq (.ops [o 10 (.bin .lss (.t 9) (.t 8))])
   (.seq (.ite (.t 10) .skip
   (.exit 0))
   (.seq (.blk 1 (.seq (.ops [o 11 (.iad 1 (.t 7) (.t 9)), o 12 (.load 1 false (.t 11)), o 6 (.mv (.t 12))])
    (.seq (.ops [o 13 (.mv (.t 6)), o 14 (.mv (.t 1)), o 15 (.bin .eql (.t 13) (.t 14))])
    (.ite (.t 15) (.seq (.ops [o 4 (.mv (.v (.bool true)))])
     .ret)
    .skip))))
   (.ops [o 16 (.bin .add (.t 9) (.v (.int .i64 1))), o 9 (.mv (.t 16))])))))))
 (.seq (.ops [o 4 (.mv (.v (.bool false)))])
 .ret)))
noncomputable def X.s_l1Has (p0 : (List Int)) (p1 : Int) : Option Bool :=
 ((loop (fun (x12 : Int) => ((bif (decide (x12 < (p0.length : Int))) then ((at' zI p0 x12).bind fun v15 => (bif (v15 == p1) then some (Sum.inr (Sum.inr true)) else some (Sum.inl (W (x12 + 1))))) else some (Sum.inr (Sum.inl ()))) : Option (Int ⊕ (Unit ⊕ Bool)))) 0).bind fun y18 => (Sum.elim (fun (y20 : Unit) => some false) (fun (y21 : Bool) => some y21) y18))
theorem s_l1Has_ok (p0 : (List Int)) (p1 : Int) (r : Bool) (H : X.s_l1Has p0 p1 = some r) : FnOk Tryz.prog gl 106 [.c (dat 1 eI zI p0), cI p1] (cB r) := by
 unfold X.s_l1Has at H
 refine fi Tryz.f106 s_l1Has_ir [(4, cB r)] [] glL Tryz.func106 ?_
 refine so [] [] [(0, dc 1 eI zI p0), (1, cI p1)] [] id ?_
 refine seq_in ?_
 refine so [] [] [(1, cI p1), (7, dc 1 eI zI p0), (8, cI (p0.length : Int)), (9, cI 0)] [] (fun t => lI p0 (t)) ?_
 refine ends_blk ?_
 obtain ⟨y18, h19, H⟩ := ofBind H
 refine loop_in (fun (x : Int) => lit [(1, cI p1), (7, dc 1 eI zI p0), (8, cI (p0.length : Int)), (9, cI x)] []) (orJ (fun (z : Unit) => At (.exit 0) (lit [] [])) (fun (z : Bool) => At .ret (lit [(4, cB z)] []))) h19 ?_ ?_
 ·clear H h19
  intro x12 y0 H
  refine so [] [] [(1, cI p1), (7, dc 1 eI zI p0), (8, cI (p0.length : Int)), (9, cI x12), (10, cB (decide (x12 < (p0.length : Int))))] [] id ?_
  refine seq_in ?_
  rcases ofCond H with ⟨c14, H⟩ | ⟨c14, H⟩
  ·refine it c14 ?_
   refine sk ?_
   refine seq_in ?_
   refine ends_blk ?_
   obtain ⟨v15, h16, H⟩ := ofBind H
   refine so [.cs (eI v15)] [] [(1, cI p1), (6, cI v15), (7, dc 1 eI zI p0), (8, cI (p0.length : Int)), (9, cI x12)] [] (fun t => aI (at_lt h16) (aI (at_enc (enc := eI) h16) (t))) ?_
   refine so [] [] [(1, cI p1), (7, dc 1 eI zI p0), (8, cI (p0.length : Int)), (9, cI x12), (15, cB (v15 == p1))] [] id ?_
   rcases ofCond H with ⟨c17, H⟩ | ⟨c17, H⟩
   ·refine it c17 ?_
    refine so [] [] [(4, cB true)] [] id ?_
    refine ends_ret ?_
    cases H
    exact And.intro (by simp) (And.intro rfl rfl)
   ·refine jf c17 ?_
    refine sk ?_
    refine oo [] [] [(1, cI p1), (7, dc 1 eI zI p0), (8, cI (p0.length : Int)), (9, cI (W (x12 + 1)))] [] id ?_
    cases H
    exact And.intro rfl rfl
  ·refine jf c14 ?_
   refine tl [] [] [] id ?_
   refine ends_exit ?_
   cases H
   exact And.intro (by simp) (And.intro rfl rfl)
 ·clear h19
  cases y18 with
  | inl y20 =>
   replace H := ofInl H
   intro e s q
   obtain ⟨rfl, rfl⟩ := q
   change EndsI _ _ _ _ _ _
   refine so [] [] [(4, cB false)] [] id ?_
   refine ends_ret ?_
   cases H
   exact And.intro (.inl rfl) rfl
  | inr y21 =>
   replace H := ofInr H
   intro e s q
   obtain ⟨rfl, rfl⟩ := q
   cases H
   exact And.intro (.inl rfl) rfl
def s_mEdge_ir : S :=
 (.seq (.ops [o 3 (.box 5 (.t 0)), o 6 (.mv (.v (.int .i64 0)))])
 (.seq (.seq (.ops [o 7 (.mv (.t 2)), o 8 (.bin .lss (.t 7) (.v (.int .i64 3)))])
 (.ite (.t 8) (.seq (.ops [o 9 (.mv (.t 1)), o 10 (.bin .mul (.v (.int .i64 3)) (.t 9)), o 11 (.mv (.t 2)), o 12 (.bin .add (.t 10) (.t 11)), o 6 (.mv (.t 12))])
  .ret)
 .skip))
 (.seq (.ops [o 13 (.load 5 true (.t 3)), o 14 (.mv (.t 1)), o 15 (.mv (.t 2)), o 16 (.call 62 [.t 13, .t 14, .t 15]), o 17 (.bin .mul (.v (.int .i64 3)) (.t 16)), o 18 (.mv (.t 2)), o 19 (.bin .add (.t 17) (.t 18)), o 20 (.bin .sub (.t 19) (.v (.int .i64 3))), o 6 (.mv (.t 20))])
 .ret)))
noncomputable def X.s_mEdge (p0 : TMap) (p1 : Int) (p2 : Int) : Option Int :=
 (bif (decide (p2 < 3)) then some (W ((W (3 * p1)) + p2)) else ((X.s_mNext p0 p1 p2).bind fun v3 => some (W ((W ((W (3 * v3)) + p2)) - 3))))
theorem s_mEdge_ok (p0 : TMap) (p1 : Int) (p2 : Int) (r : Int) (H : X.s_mEdge p0 p1 p2 = some r) : FnOk Tryz.prog gl 244 [.agg (eTMap p0), cI p1, cI p2] (cI r) := by
 unfold X.s_mEdge at H
 refine fi Tryz.f244 s_mEdge_ir [(6, cI r)] [] glL Tryz.func244 ?_
 refine so [] [] [(1, cI p1), (2, cI p2), (3, pk 3)] [(3, va (eTMap p0))] id ?_
 refine seq_in ?_
 refine so [] [] [(1, cI p1), (2, cI p2), (3, pk 3), (8, cB (decide (p2 < 3)))] [(3, va (eTMap p0))] id ?_
 rcases ofCond H with ⟨c2, H⟩ | ⟨c2, H⟩
 ·refine it c2 ?_
  refine so [] [] [(6, cI (W ((W (3 * p1)) + p2)))] [] id ?_
  refine ends_ret ?_
  cases H
  exact And.intro (.inl rfl) rfl
 ·refine jf c2 ?_
  refine sk ?_
  obtain ⟨v3, h4, H⟩ := ofBind H
  refine so [.res (cI v3)] [] [(6, cI (W ((W ((W (3 * v3)) + p2)) - 3)))] [] (fun t => aI (s_mNext_ok p0 p1 p2 v3 h4) (t)) ?_
  refine ends_ret ?_
  cases H
  exact And.intro (.inl rfl) rfl
def s_mRiver_ir : S :=
 (.seq (.ops [o 3 (.box 5 (.t 0)), o 6 (.mv (.v (.bool false)))])
 (.seq (.draw 8 [o 7 (.fad 3 (.t 3)), o 8 (.load 1 false (.t 7)), o 9 (.load 5 true (.t 3)), o 10 (.mv (.t 1)), o 11 (.mv (.t 2)), o 12 (.call 244 [.t 9, .t 10, .t 11]), o 13 (.call 106 [.t 8, .t 12]), o 6 (.mv (.t 13))])
 .ret))
noncomputable def X.s_mRiver (p0 : TMap) (p1 : Int) (p2 : Int) : Option Bool :=
 ((X.s_mEdge p0 p1 p2).bind fun v1 => ((X.s_l1Has p0.Rivers v1).bind fun v3 => some v3))
theorem s_mRiver_ok (p0 : TMap) (p1 : Int) (p2 : Int) (r : Bool) (H : X.s_mRiver p0 p1 p2 = some r) : FnOk Tryz.prog gl 237 [.agg (eTMap p0), cI p1, cI p2] (cB r) := by
 unfold X.s_mRiver at H
 refine fi Tryz.f237 s_mRiver_ir [(6, cB r)] [] glL Tryz.func237 ?_
 refine so [] [] [(1, cI p1), (2, cI p2), (3, pk 3)] [(3, va (eTMap p0))] id ?_
 obtain ⟨v1, h2, H⟩ := ofBind H
 obtain ⟨v3, h4, H⟩ := ofBind H
 refine sd [.res (cI v1), .res (cB v3)] [] [(6, cB v3)] [] (fun t => aI (s_mEdge_ok p0 p1 p2 v1 h2) (aI trivial (aI (rfl : ([] : List Nat) = []) (aI (s_l1Has_ok p0.Rivers v1 v3 h4) (aI trivial (aI (rfl : ([] : List Nat) = []) (t))))))) ?_
 refine ends_ret ?_
 cases H
 exact And.intro (.inl rfl) rfl
def s_mRoad_ir : S :=
 (.seq (.ops [o 3 (.box 5 (.t 0)), o 6 (.mv (.v (.bool false)))])
 (.seq (.draw 8 [o 7 (.fad 4 (.t 3)), o 8 (.load 1 false (.t 7)), o 9 (.load 5 true (.t 3)), o 10 (.mv (.t 1)), o 11 (.mv (.t 2)), o 12 (.call 244 [.t 9, .t 10, .t 11]), o 13 (.call 106 [.t 8, .t 12]), o 6 (.mv (.t 13))])
 .ret))
noncomputable def X.s_mRoad (p0 : TMap) (p1 : Int) (p2 : Int) : Option Bool :=
 ((X.s_mEdge p0 p1 p2).bind fun v1 => ((X.s_l1Has p0.Roads v1).bind fun v3 => some v3))
theorem s_mRoad_ok (p0 : TMap) (p1 : Int) (p2 : Int) (r : Bool) (H : X.s_mRoad p0 p1 p2 = some r) : FnOk Tryz.prog gl 238 [.agg (eTMap p0), cI p1, cI p2] (cB r) := by
 unfold X.s_mRoad at H
 refine fi Tryz.f238 s_mRoad_ir [(6, cB r)] [] glL Tryz.func238 ?_
 refine so [] [] [(1, cI p1), (2, cI p2), (3, pk 3)] [(3, va (eTMap p0))] id ?_
 obtain ⟨v1, h2, H⟩ := ofBind H
 obtain ⟨v3, h4, H⟩ := ofBind H
 refine sd [.res (cI v1), .res (cB v3)] [] [(6, cB v3)] [] (fun t => aI (s_mEdge_ok p0 p1 p2 v1 h2) (aI trivial (aI (rfl : ([] : List Nat) = []) (aI (s_l1Has_ok p0.Roads v1 v3 h4) (aI trivial (aI (rfl : ([] : List Nat) = []) (t))))))) ?_
 refine ends_ret ?_
 cases H
 exact And.intro (.inl rfl) rfl
def s_zExerts_ir : S :=
 (.seq (.ops [o 4 (.box 12 (.t 0)), o 5 (.box 3 (.t 1)), o 8 (.mv (.v (.bool false)))])
 (.seq (.ops [o 11 (.fad 2 (.t 5)), o 12 (.load 1 false (.t 11)), o 13 (.mv (.t 2)), o 14 (.iad 4 (.t 12) (.t 13)), o 15 (.load 4 true (.t 14)), o 9 (.alloc [.int .i64 0, .int .i64 0, .int .i64 0, .int .i64 0]), ⟨none, .store 4 (.t 9) (.t 15), none⟩])
 (.seq (.seq (.ops [o 16 (.fad 2 (.t 9)), o 17 (.load 1 false (.t 16)), o 18 (.bin .lss (.t 17) (.v (.int .i64 0))), o 19 (.mv (.t 18)), ⟨some 20, .fad 0 (.t 4), some (19, false)⟩, ⟨some 21, .fad 1 (.t 20), some (19, false)⟩, ⟨some 22, .load 1 false (.t 21), some (19, false)⟩, ⟨some 23, .fad 1 (.t 9), some (19, false)⟩, ⟨some 24, .load 1 false (.t 23), some (19, false)⟩, ⟨some 25, .iad 6 (.t 22) (.t 24), some (19, false)⟩, ⟨some 26, .fad 4 (.t 25), some (19, false)⟩, ⟨some 27, .load 1 false (.t 26), some (19, false)⟩, ⟨some 28, .not (.t 27), some (19, false)⟩, o 29 (.pick (.t 19) (.v (.bool true)) (.t 28)), o 30 (.mv (.t 29)), ⟨some 31, .load 12 true (.t 4), some (30, false)⟩, ⟨some 32, .fad 1 (.t 9), some (30, false)⟩, ⟨some 33, .load 1 false (.t 32), some (30, false)⟩, ⟨some 34, .mv (.t 3), some (30, false)⟩, ⟨some 35, .call 153 [.t 31, .t 33, .t 34], some (30, false)⟩, ⟨some 36, .bin .eql (.t 35) (.v (.int .i64 0)), some (30, false)⟩, o 37 (.pick (.t 30) (.v (.bool true)) (.t 36))])
 (.ite (.t 37) (.seq (.ops [o 8 (.mv (.v (.bool false)))])
  .ret)
 .skip))
 (.seq (.seq (.ops [o 10 (.mv (.v (.int .i64 0)))])
 (.blk 0 (.loop (.seq (.seq (.ops [o 38 (.mv (.t 10)), o 39 (.bin .lss (.t 38) (.v (.int .i64 6)))])
   (.ite (.t 39) .skip
   (.exit 0)))
   (.seq (.blk 1 (.seq (.ops [o 42 (.fad 7 (.t 4)), o 43 (.load 5 true (.t 42)), o 44 (.fad 2 (.t 9)), o 45 (.load 1 false (.t 44)), o 46 (.mv (.t 10)), o 47 (.call 62 [.t 43, .t 45, .t 46]), o 48 (.mv (.t 3)), o 49 (.bin .eql (.t 47) (.t 48))])
    (.ite (.t 49) (.seq (.ops [o 50 (.fad 7 (.t 4)), o 51 (.load 5 true (.t 50)), o 52 (.fad 2 (.t 9)), o 53 (.load 1 false (.t 52)), o 54 (.mv (.t 10)), o 55 (.call 237 [.t 51, .t 53, .t 54]), o 56 (.not (.t 55)), o 57 (.mv (.t 56)), ⟨some 58, .fad 7 (.t 4), some (57, false)⟩, ⟨some 59, .load 5 true (.t 58), some (57, false)⟩, ⟨some 60, .fad 2 (.t 9), some (57, false)⟩, ⟨some 61, .load 1 false (.t 60), some (57, false)⟩, ⟨some 62, .mv (.t 10), some (57, false)⟩, ⟨some 63, .call 238 [.t 59, .t 61, .t 62], some (57, false)⟩, o 64 (.pick (.t 57) (.v (.bool true)) (.t 63)), o 8 (.mv (.t 64))])
     .ret)
    .skip)))
   (.ops [o 40 (.mv (.t 10)), o 41 (.bin .add (.t 40) (.v (.int .i64 1))), o 10 (.mv (.t 41))]))))))
 (.seq (.ops [o 8 (.mv (.v (.bool false)))])
 .ret)))))
noncomputable def X.s_zExerts (p0 : TBoard) (p1 : TState) (p2 : Int) (p3 : Int) : Option Bool :=
 ((at' zTUnit p1.Units p2).bind fun v1 => (bif (decide (v1.At < 0)) then some false else ((at' zTKind p0.Rules.Kinds v1.Kind).bind fun v11 => (bif (!v11.Zone) then some false else ((X.s_bCost p0 v1.Kind p3).bind fun v14 => (bif (v14 == 0) then some false else ((loop (fun (x38 : Int) => ((bif (decide (x38 < 6)) then ((X.s_mNext p0.Map v1.At x38).bind fun v41 => (bif (v41 == p3) then ((X.s_mRiver p0.Map v1.At x38).bind fun v44 => (bif (!v44) then some (Sum.inr (Sum.inr true)) else ((X.s_mRoad p0.Map v1.At x38).bind fun v47 => some (Sum.inr (Sum.inr v47))))) else some (Sum.inl (W (x38 + 1))))) else some (Sum.inr (Sum.inl ()))) : Option (Int ⊕ (Unit ⊕ Bool)))) 0).bind fun y49 => (Sum.elim (fun (y51 : Unit) => some false) (fun (y52 : Bool) => some y52) y49))))))))
theorem s_zExerts_ok (p0 : TBoard) (p1 : TState) (p2 : Int) (p3 : Int) (r : Bool) (H : X.s_zExerts p0 p1 p2 p3 = some r) : FnOk Tryz.prog gl 229 [.agg (eTBoard p0), .agg (eTState p1), cI p2, cI p3] (cB r) := by
 unfold X.s_zExerts at H
 refine fi Tryz.f229 s_zExerts_ir [(8, cB r)] [] glL Tryz.func229 ?_
 refine so [] [] [(2, cI p2), (3, cI p3), (4, pk 4), (5, pk 5)] [(4, va (eTBoard p0)), (5, va (eTState p1))] id ?_
 obtain ⟨v1, h2, H⟩ := ofBind H
 refine so [.cs (eTUnit v1)] [] [(3, cI p3), (4, pk 4), (9, pk 9)] [(4, va (eTBoard p0)), (9, va (eTUnit v1))] (fun t => aI (at_lt h2) (aI (at_enc (enc := eTUnit) h2) (t))) ?_
 refine seq_in ?_
 rcases ofCond H with ⟨c10, H⟩ | ⟨c10, H⟩
 ·refine so [.g true, .g true, .g true, .g true, .g true, .g true, .g true, .g true, .g true, .g true, .g true, .g true, .g true, .g true, .g true, .g true, .g true] [] [(3, cI p3), (4, pk 4), (9, pk 9), (37, cB true)] [(4, va (eTBoard p0)), (9, va (eTUnit v1))] (fun t => aI c10 (aI c10 (aI c10 (aI c10 (aI c10 (aI c10 (aI c10 (aI c10 (aI c10 (aI c10 (aI (rfl : (true : Bool) = true) (aI (rfl : (true : Bool) = true) (aI (rfl : (true : Bool) = true) (aI (rfl : (true : Bool) = true) (aI (rfl : (true : Bool) = true) (aI (rfl : (true : Bool) = true) (aI (rfl : (true : Bool) = true) (t)))))))))))))))))) ?_
  refine it (rfl : (true : Bool) = true) ?_
  refine so [] [] [(8, cB false)] [] id ?_
  refine ends_ret ?_
  cases H
  exact And.intro (.inl rfl) rfl
 ·obtain ⟨v11, h12, H⟩ := ofBind H
  rcases ofCond H with ⟨c13, H⟩ | ⟨c13, H⟩
  ·refine so [.g false, .g false, .g false, .g false, .g false, .g false, .cs (eTKind v11), .g false, .g false, .g false, .g false, .g true, .g true, .g true, .g true, .g true, .g true, .g true] [] [(3, cI p3), (4, pk 4), (9, pk 9), (37, cB true)] [(4, va (eTBoard p0)), (9, va (eTUnit v1))] (fun t => aI c10 (aI c10 (aI c10 (aI c10 (aI c10 (aI c10 (aI (at_lt h12) (aI (at_enc (enc := eTKind) h12) (aI c10 (aI c10 (aI c10 (aI c10 (aI c13 (aI c13 (aI c13 (aI c13 (aI c13 (aI c13 (aI c13 (t)))))))))))))))))))) ?_
   refine it (rfl : (true : Bool) = true) ?_
   refine so [] [] [(8, cB false)] [] id ?_
   refine ends_ret ?_
   cases H
   exact And.intro (.inl rfl) rfl
  ·obtain ⟨v14, h15, H⟩ := ofBind H
   refine so [.g false, .g false, .g false, .g false, .g false, .g false, .cs (eTKind v11), .g false, .g false, .g false, .g false, .g false, .g false, .g false, .g false, .g false, .res (cI v14), .g false, .g false] [] [(3, cI p3), (4, pk 4), (9, pk 9), (37, cB (v14 == 0))] [(4, va (eTBoard p0)), (9, va (eTUnit v1))] (fun t => aI c10 (aI c10 (aI c10 (aI c10 (aI c10 (aI c10 (aI (at_lt h12) (aI (at_enc (enc := eTKind) h12) (aI c10 (aI c10 (aI c10 (aI c10 (aI c13 (aI c13 (aI c13 (aI c13 (aI c13 (aI (s_bCost_ok p0 v1.Kind p3 v14 h15) (aI c13 (aI c13 (t))))))))))))))))))))) ?_
   rcases ofCond H with ⟨c16, H⟩ | ⟨c16, H⟩
   ·refine it c16 ?_
    refine so [] [] [(8, cB false)] [] id ?_
    refine ends_ret ?_
    cases H
    exact And.intro (.inl rfl) rfl
   ·refine jf c16 ?_
    refine sk ?_
    refine seq_in ?_
    refine so [] [] [(3, cI p3), (4, pk 4), (9, pk 9), (10, cI 0)] [(4, va (eTBoard p0)), (9, va (eTUnit v1))] id ?_
    refine ends_blk ?_
    obtain ⟨y49, h50, H⟩ := ofBind H
    refine loop_in (fun (x : Int) => lit [(3, cI p3), (4, pk 4), (9, pk 9), (10, cI x)] [(4, va (eTBoard p0)), (9, va (eTUnit v1))]) (orJ (fun (z : Unit) => At (.exit 0) (lit [] [])) (fun (z : Bool) => At .ret (lit [(8, cB z)] []))) h50 ?_ ?_
    ·clear H h50
     intro x38 y0 H
     refine seq_in ?_
     refine so [] [] [(3, cI p3), (4, pk 4), (9, pk 9), (10, cI x38), (39, cB (decide (x38 < 6)))] [(4, va (eTBoard p0)), (9, va (eTUnit v1))] id ?_
     rcases ofCond H with ⟨c40, H⟩ | ⟨c40, H⟩
     ·refine it c40 ?_
      refine sk ?_
      refine seq_in ?_
      refine ends_blk ?_
      obtain ⟨v41, h42, H⟩ := ofBind H
      refine so [.res (cI v41)] [] [(3, cI p3), (4, pk 4), (9, pk 9), (10, cI x38), (49, cB (v41 == p3))] [(4, va (eTBoard p0)), (9, va (eTUnit v1))] (fun t => aI (s_mNext_ok p0.Map v1.At x38 v41 h42) (t)) ?_
      rcases ofCond H with ⟨c43, H⟩ | ⟨c43, H⟩
      ·refine it c43 ?_
       obtain ⟨v44, h45, H⟩ := ofBind H
       rcases ofCond H with ⟨c46, H⟩ | ⟨c46, H⟩
       ·refine so [.res (cB v44), .g true, .g true, .g true, .g true, .g true, .g true, .g true] [] [(8, cB true)] [] (fun t => aI (s_mRiver_ok p0.Map v1.At x38 v44 h45) (aI c46 (aI c46 (aI c46 (aI c46 (aI c46 (aI c46 (aI c46 (t))))))))) ?_
        refine ends_ret ?_
        cases H
        exact And.intro (by simp) (And.intro rfl rfl)
       ·obtain ⟨v47, h48, H⟩ := ofBind H
        refine so [.res (cB v44), .g false, .g false, .g false, .g false, .g false, .g false, .res (cB v47), .g false] [] [(8, cB v47)] [] (fun t => aI (s_mRiver_ok p0.Map v1.At x38 v44 h45) (aI c46 (aI c46 (aI c46 (aI c46 (aI c46 (aI c46 (aI (s_mRoad_ok p0.Map v1.At x38 v47 h48) (aI c46 (t)))))))))) ?_
        refine ends_ret ?_
        cases H
        exact And.intro (by simp) (And.intro rfl rfl)
      ·refine jf c43 ?_
       refine sk ?_
       refine oo [] [] [(3, cI p3), (4, pk 4), (9, pk 9), (10, cI (W (x38 + 1)))] [(4, va (eTBoard p0)), (9, va (eTUnit v1))] id ?_
       cases H
       exact And.intro rfl rfl
     ·refine jf c40 ?_
      refine tl [] [] [] id ?_
      refine ends_exit ?_
      cases H
      exact And.intro (by simp) (And.intro rfl rfl)
    ·clear h50
     cases y49 with
     | inl y51 =>
      replace H := ofInl H
      intro e s q
      obtain ⟨rfl, rfl⟩ := q
      change EndsI _ _ _ _ _ _
      refine so [] [] [(8, cB false)] [] id ?_
      refine ends_ret ?_
      cases H
      exact And.intro (.inl rfl) rfl
     | inr y52 =>
      replace H := ofInr H
      intro e s q
      obtain ⟨rfl, rfl⟩ := q
      cases H
      exact And.intro (.inl rfl) rfl
def s_zSources_ir : S :=
 (.seq (.ops [o 4 (.box 12 (.t 0)), o 5 (.box 3 (.t 1)), o 8 (.mv (.v (.nil)))])
 (.seq (.ops [o 9 (.mv (.v (.nil)))])
 (.seq (.seq (.ops [o 12 (.fad 2 (.t 5)), o 13 (.load 1 false (.t 12)), o 14 (.len (.t 13)), o 15 (.mv (.v (.int .i64 0)))])
 (.blk 0 (.loop (.seq (.ops [o 16 (.bin .lss (.t 15) (.t 14))])
   (.seq (.ite (.t 16) .skip
   (.exit 0))
   (.seq (.blk 1 (.seq (.ops [o 17 (.mv (.t 15)), o 18 (.iad 4 (.t 13) (.t 15)), o 19 (.load 4 true (.t 18)), o 11 (.alloc [.int .i64 0, .int .i64 0, .int .i64 0, .int .i64 0]), o 10 (.mv (.t 17)), ⟨none, .store 4 (.t 11) (.t 19), none⟩])
    (.seq (.ops [o 20 (.fad 0 (.t 11)), o 21 (.load 1 false (.t 20)), o 22 (.mv (.t 2)), o 23 (.bin .eql (.t 21) (.t 22)), o 24 (.mv (.t 23)), ⟨some 25, .load 12 true (.t 4), some (24, true)⟩, ⟨some 26, .load 3 true (.t 5), some (24, true)⟩, ⟨some 27, .mv (.t 10), some (24, true)⟩, ⟨some 28, .mv (.t 3), some (24, true)⟩, ⟨some 29, .call 229 [.t 25, .t 26, .t 27, .t 28], some (24, true)⟩, o 30 (.pick (.t 24) (.t 29) (.v (.bool false)))])
    (.ite (.t 30) (.ops [o 31 (.mv (.t 9)), o 32 (.mv (.t 10)), o 33 (.bsl 1 [.t 32]), o 34 (.app 1 8 (.t 31) (.t 33)), o 9 (.mv (.t 34))])
    .skip))))
   (.ops [o 35 (.bin .add (.t 15) (.v (.int .i64 1))), o 15 (.mv (.t 35))])))))))
 (.seq (.ops [o 36 (.mv (.t 9)), o 8 (.mv (.t 36))])
 .ret))))
noncomputable def X.s_zSources (p0 : TBoard) (p1 : TState) (p2 : Int) (p3 : Int) : Option (List Int) :=
 ((loop (fun (x20 : (Int × (List Int))) => ((bif (decide (x20.1 < (p1.Units.length : Int))) then ((at' zTUnit p1.Units x20.1).bind fun v23 => (bif (v23.Side == p2) then ((X.s_zExerts p0 p1 x20.1 p3).bind fun v26 => (bif v26 then (if (x20.2 ++ ([x20.1] : List Int)).length ≤ LIM then some (Sum.inl ((W (x20.1 + 1)), (x20.2 ++ ([x20.1] : List Int)))) else none) else some (Sum.inl ((W (x20.1 + 1)), x20.2)))) else some (Sum.inl ((W (x20.1 + 1)), x20.2)))) else some (Sum.inr x20.2)) : Option ((Int × (List Int)) ⊕ (List Int)))) (0, ([] : List Int))).bind fun y30 => some y30)
theorem s_zSources_ok (p0 : TBoard) (p1 : TState) (p2 : Int) (p3 : Int) (r : (List Int)) (H : X.s_zSources p0 p1 p2 p3 = some r) : FnOk Tryz.prog gl 218 [.agg (eTBoard p0), .agg (eTState p1), cI p2, cI p3] (.c (dat 1 eI zI r)) := by
 unfold X.s_zSources at H
 refine fi Tryz.f218 s_zSources_ir [(8, dc 1 eI zI r)] [] glL Tryz.func218 ?_
 refine so [] [] [(2, cI p2), (3, cI p3), (4, pk 4), (5, pk 5)] [(4, va (eTBoard p0)), (5, va (eTState p1))] id ?_
 refine so [] [] [(2, cI p2), (3, cI p3), (4, pk 4), (5, pk 5), (9, .c (.nil))] [(4, va (eTBoard p0)), (5, va (eTState p1))] id ?_
 refine seq_in ?_
 refine so [] [] [(2, cI p2), (3, cI p3), (4, pk 4), (5, pk 5), (9, .c (.nil)), (13, dc 4 eTUnit zTUnit p1.Units), (14, cI (p1.Units.length : Int)), (15, cI 0)] [(4, va (eTBoard p0)), (5, va (eTState p1))] (fun t => lI p1.Units (t)) ?_
 refine ends_blk ?_
 obtain ⟨y30, h31, H⟩ := ofBind H
 refine tl [.nlo 9 1001 1 (fF eI zI ([] : List Int))] [(2, cI p2), (3, cI p3), (4, pk 4), (5, pk 5), (9, .c (.own 1001 1 0 (([] : List Int).length))), (13, dc 4 eTUnit zTUnit p1.Units), (14, cI (p1.Units.length : Int)), (15, cI 0)] [(4, va (eTBoard p0)), (5, va (eTState p1)), (1001, .arr 1 (([] : List Int).length) (fF eI zI ([] : List Int)) false)] (fun t => aI (by decide : 0 < 1) (t)) ?_
 refine loop_in (fun (x : (Int × (List Int))) => lit [(2, cI p2), (3, cI p3), (4, pk 4), (5, pk 5), (9, .c (.own 1001 1 0 x.2.length)), (13, dc 4 eTUnit zTUnit p1.Units), (14, cI (p1.Units.length : Int)), (15, cI x.1)] [(4, va (eTBoard p0)), (5, va (eTState p1)), (1001, .arr 1 x.2.length (fF eI zI x.2) false)]) (fun (z : (List Int)) => At (.exit 0) (lit [(9, .c (.own 1001 1 0 z.length))] [(1001, .arr 1 z.length (fF eI zI z) false)])) h31 ?_ ?_
 ·clear H h31
  intro x20 y0 H
  refine so [] [] [(2, cI p2), (3, cI p3), (4, pk 4), (5, pk 5), (9, .c (.own 1001 1 0 x20.2.length)), (13, dc 4 eTUnit zTUnit p1.Units), (14, cI (p1.Units.length : Int)), (15, cI x20.1), (16, cB (decide (x20.1 < (p1.Units.length : Int))))] [(4, va (eTBoard p0)), (5, va (eTState p1)), (1001, .arr 1 x20.2.length (fF eI zI x20.2) false)] id ?_
  refine seq_in ?_
  rcases ofCond H with ⟨c22, H⟩ | ⟨c22, H⟩
  ·refine it c22 ?_
   refine sk ?_
   refine seq_in ?_
   refine ends_blk ?_
   obtain ⟨v23, h24, H⟩ := ofBind H
   refine so [.cs (eTUnit v23)] [] [(2, cI p2), (3, cI p3), (4, pk 4), (5, pk 5), (9, .c (.own 1001 1 0 x20.2.length)), (10, cI x20.1), (11, pk 11), (13, dc 4 eTUnit zTUnit p1.Units), (14, cI (p1.Units.length : Int)), (15, cI x20.1)] [(4, va (eTBoard p0)), (5, va (eTState p1)), (11, va (eTUnit v23)), (1001, .arr 1 x20.2.length (fF eI zI x20.2) false)] (fun t => aI (at_lt h24) (aI (at_enc (enc := eTUnit) h24) (t))) ?_
   rcases ofCond H with ⟨c25, H⟩ | ⟨c25, H⟩
   ·obtain ⟨v26, h27, H⟩ := ofBind H
    refine so [.g true, .g true, .g true, .g true, .g true, .res (cB v26), .g true] [] [(2, cI p2), (3, cI p3), (4, pk 4), (5, pk 5), (9, .c (.own 1001 1 0 x20.2.length)), (10, cI x20.1), (13, dc 4 eTUnit zTUnit p1.Units), (14, cI (p1.Units.length : Int)), (15, cI x20.1), (30, cB v26)] [(4, va (eTBoard p0)), (5, va (eTState p1)), (1001, .arr 1 x20.2.length (fF eI zI x20.2) false)] (fun t => aI c25 (aI c25 (aI c25 (aI c25 (aI c25 (aI (s_zExerts_ok p0 p1 x20.1 p3 v26 h27) (aI c25 (t)))))))) ?_
    rcases ofCond H with ⟨c28, H⟩ | ⟨c28, H⟩
    ·refine it c28 ?_
     obtain ⟨g29, H⟩ := ofIf H
     refine oo [.fn ([x20.1] : List Int).length (fF eI zI ([x20.1] : List Int)), .fn (x20.2 ++ ([x20.1] : List Int)).length (fF eI zI (x20.2 ++ ([x20.1] : List Int)))] [] [(2, cI p2), (3, cI p3), (4, pk 4), (5, pk 5), (9, .c (.own 34 1 0 ((x20.2 ++ ([x20.1] : List Int)).length))), (13, dc 4 eTUnit zTUnit p1.Units), (14, cI (p1.Units.length : Int)), (15, cI x20.1)] [(4, va (eTBoard p0)), (5, va (eTState p1)), (34, .arr 1 ((x20.2 ++ ([x20.1] : List Int)).length) (fF eI zI (x20.2 ++ ([x20.1] : List Int))) false)] (fun t => aI (rfl : ([x20.1] : List Int).length = 1) (aI (fF_lit eI zI ([x20.1] : List Int)) (aI (And.intro (Nat.le_refl x20.2.length) (And.intro (@List.length_append _ x20.2 ([x20.1] : List Int)) g29)) (aI (fF_appL eI zI x20.2 ([x20.1] : List Int)) (aI (fF_appR eI zI x20.2 ([x20.1] : List Int)) (t)))))) ?_
     change EndsI _ _ _ _ _ _
     refine oo [] [.ren 34 1001] [(2, cI p2), (3, cI p3), (4, pk 4), (5, pk 5), (9, .c (.own 1001 1 0 ((x20.2 ++ ([x20.1] : List Int)).length))), (13, dc 4 eTUnit zTUnit p1.Units), (14, cI (p1.Units.length : Int)), (15, cI (W (x20.1 + 1)))] [(4, va (eTBoard p0)), (5, va (eTState p1)), (1001, .arr 1 ((x20.2 ++ ([x20.1] : List Int)).length) (fF eI zI (x20.2 ++ ([x20.1] : List Int))) false)] id ?_
     cases H
     exact And.intro rfl rfl
    ·refine jf c28 ?_
     refine sk ?_
     refine oo [] [] [(2, cI p2), (3, cI p3), (4, pk 4), (5, pk 5), (9, .c (.own 1001 1 0 x20.2.length)), (13, dc 4 eTUnit zTUnit p1.Units), (14, cI (p1.Units.length : Int)), (15, cI (W (x20.1 + 1)))] [(4, va (eTBoard p0)), (5, va (eTState p1)), (1001, .arr 1 x20.2.length (fF eI zI x20.2) false)] id ?_
     cases H
     exact And.intro rfl rfl
   ·refine so [.g false, .g false, .g false, .g false, .g false, .g false] [] [(2, cI p2), (3, cI p3), (4, pk 4), (5, pk 5), (9, .c (.own 1001 1 0 x20.2.length)), (10, cI x20.1), (13, dc 4 eTUnit zTUnit p1.Units), (14, cI (p1.Units.length : Int)), (15, cI x20.1), (30, cB false)] [(4, va (eTBoard p0)), (5, va (eTState p1)), (1001, .arr 1 x20.2.length (fF eI zI x20.2) false)] (fun t => aI c25 (aI c25 (aI c25 (aI c25 (aI c25 (aI c25 (t))))))) ?_
    refine jf (rfl : (false : Bool) = false) ?_
    refine sk ?_
    refine oo [] [] [(2, cI p2), (3, cI p3), (4, pk 4), (5, pk 5), (9, .c (.own 1001 1 0 x20.2.length)), (13, dc 4 eTUnit zTUnit p1.Units), (14, cI (p1.Units.length : Int)), (15, cI (W (x20.1 + 1)))] [(4, va (eTBoard p0)), (5, va (eTState p1)), (1001, .arr 1 x20.2.length (fF eI zI x20.2) false)] id ?_
    cases H
    exact And.intro rfl rfl
  ·refine jf c22 ?_
   refine tl [] [(9, .c (.own 1001 1 0 x20.2.length))] [(1001, .arr 1 x20.2.length (fF eI zI x20.2) false)] id ?_
   refine ends_exit ?_
   cases H
   exact And.intro (by simp) (And.intro rfl rfl)
 ·clear h31
  intro e s q
  obtain ⟨rfl, rfl⟩ := q
  change EndsI _ _ _ _ _ _
  refine so [] [] [(8, .c (.own 1001 1 0 y30.length))] [(1001, .arr 1 y30.length (fF eI zI y30) false)] id ?_
  refine tl [.frz 8] [(8, dc 1 eI zI y30)] [] (fun t => aI (Nat.le_refl y30.length) (t)) ?_
  refine ends_ret ?_
  cases H
  exact And.intro (.inl rfl) rfl
def s_zIn_ir : S :=
 (.seq (.ops [o 4 (.box 12 (.t 0)), o 5 (.box 3 (.t 1)), o 8 (.mv (.v (.bool false)))])
 (.seq (.ops [o 9 (.load 12 true (.t 4)), o 10 (.load 3 true (.t 5)), o 11 (.mv (.t 3)), o 12 (.mv (.t 2)), o 13 (.call 218 [.t 9, .t 10, .t 11, .t 12]), o 14 (.len (.t 13)), o 15 (.bin .gtr (.t 14) (.v (.int .i64 0))), o 8 (.mv (.t 15))])
 .ret))
noncomputable def X.s_zIn (p0 : TBoard) (p1 : TState) (p2 : Int) (p3 : Int) : Option Bool :=
 ((X.s_zSources p0 p1 p3 p2).bind fun v1 => some (decide ((v1.length : Int) > 0)))
theorem s_zIn_ok (p0 : TBoard) (p1 : TState) (p2 : Int) (p3 : Int) (r : Bool) (H : X.s_zIn p0 p1 p2 p3 = some r) : FnOk Tryz.prog gl 200 [.agg (eTBoard p0), .agg (eTState p1), cI p2, cI p3] (cB r) := by
 unfold X.s_zIn at H
 refine fi Tryz.f200 s_zIn_ir [(8, cB r)] [] glL Tryz.func200 ?_
 refine so [] [] [(2, cI p2), (3, cI p3), (4, pk 4), (5, pk 5)] [(4, va (eTBoard p0)), (5, va (eTState p1))] id ?_
 obtain ⟨v1, h2, H⟩ := ofBind H
 refine so [.res (dc 1 eI zI v1)] [] [(8, cB (decide ((v1.length : Int) > 0)))] [] (fun t => aI (s_zSources_ok p0 p1 p3 p2 v1 h2) (lI v1 (t))) ?_
 refine ends_ret ?_
 cases H
 exact And.intro (.inl rfl) rfl
def s_zControl_ir : S :=
 (.seq (.ops [o 3 (.box 12 (.t 0)), o 4 (.box 3 (.t 1)), o 6 (.mv (.v (.int .i64 0)))])
 (.seq (.seq (.ops [o 10 (.load 3 true (.t 4)), o 11 (.mv (.t 2)), o 12 (.call 63 [.t 10, .t 11]), o 7 (.mv (.t 12))])
 (.seq (.ops [o 13 (.mv (.t 7)), o 14 (.bin .geq (.t 13) (.v (.int .i64 0)))])
 (.ite (.t 14) (.seq (.ops [o 15 (.mv (.t 7)), o 6 (.mv (.t 15))])
  .ret)
 .skip)))
 (.seq (.draw 10 [o 16 (.load 12 true (.t 3)), o 17 (.load 3 true (.t 4)), o 18 (.mv (.t 2)), o 19 (.call 200 [.t 16, .t 17, .t 18, .v (.int .i64 0)]), o 20 (.load 12 true (.t 3)), o 21 (.load 3 true (.t 4)), o 22 (.mv (.t 2)), o 23 (.call 200 [.t 20, .t 21, .t 22, .v (.int .i64 1)]), o 8 (.mv (.t 19)), o 9 (.mv (.t 23))])
 (.seq (.blk 0 (.seq (.ops [o 25 (.mv (.t 8)), o 26 (.mv (.t 25)), ⟨some 27, .mv (.t 9), some (26, true)⟩, o 28 (.pick (.t 26) (.t 27) (.v (.bool false))), o 24 (.mv (.t 28))])
  (.ite (.t 24) (.seq (.ops [o 6 (.mv (.v (.int .i64 2)))])
   .ret)
  (.seq (.ops [o 30 (.mv (.t 8)), o 29 (.mv (.t 30))])
   (.ite (.t 29) (.seq (.ops [o 6 (.mv (.v (.int .i64 0)))])
    .ret)
   (.seq (.ops [o 32 (.mv (.t 9)), o 31 (.mv (.t 32))])
    (.ite (.t 31) (.seq (.ops [o 6 (.mv (.v (.int .i64 1)))])
     .ret)
    .skip)))))))
 (.seq (.ops [o 6 (.mv (.v (.int .i64 (-1))))])
 .ret)))))
noncomputable def X.s_zControl (p0 : TBoard) (p1 : TState) (p2 : Int) : Option Int :=
 ((X.s_sOwner p1 p2).bind fun v4 => (bif (decide (v4 ≥ 0)) then some v4 else ((X.s_zIn p0 p1 p2 0).bind fun v7 => ((X.s_zIn p0 p1 p2 1).bind fun v9 => (bif v7 then (bif v9 then some 2 else some 0) else (bif v9 then some 1 else some (-1)))))))
theorem s_zControl_ok (p0 : TBoard) (p1 : TState) (p2 : Int) (r : Int) (H : X.s_zControl p0 p1 p2 = some r) : FnOk Tryz.prog gl 159 [.agg (eTBoard p0), .agg (eTState p1), cI p2] (cI r) := by
 unfold X.s_zControl at H
 refine fi Tryz.f159 s_zControl_ir [(6, cI r)] [] glL Tryz.func159 ?_
 refine so [] [] [(2, cI p2), (3, pk 3), (4, pk 4)] [(3, va (eTBoard p0)), (4, va (eTState p1))] id ?_
 refine seq_in ?_
 obtain ⟨v4, h5, H⟩ := ofBind H
 refine so [.res (cI v4)] [] [(2, cI p2), (3, pk 3), (4, pk 4), (7, cI v4)] [(3, va (eTBoard p0)), (4, va (eTState p1))] (fun t => aI (s_sOwner_ok p1 p2 v4 h5) (t)) ?_
 refine so [] [] [(2, cI p2), (3, pk 3), (4, pk 4), (7, cI v4), (14, cB (decide (v4 ≥ 0)))] [(3, va (eTBoard p0)), (4, va (eTState p1))] id ?_
 rcases ofCond H with ⟨c6, H⟩ | ⟨c6, H⟩
 ·refine it c6 ?_
  refine so [] [] [(6, cI v4)] [] id ?_
  refine ends_ret ?_
  cases H
  exact And.intro (.inl rfl) rfl
 ·refine jf c6 ?_
  refine sk ?_
  obtain ⟨v7, h8, H⟩ := ofBind H
  obtain ⟨v9, h10, H⟩ := ofBind H
  refine sd [.res (cB v7), .res (cB v9)] [] [(8, cB v7), (9, cB v9)] [] (fun t => aI (s_zIn_ok p0 p1 p2 0 v7 h8) (aI trivial (aI (rfl : ([] : List Nat) = []) (aI (s_zIn_ok p0 p1 p2 1 v9 h10) (aI trivial (aI (rfl : ([] : List Nat) = []) (t))))))) ?_
  refine seq_in ?_
  refine ends_blk ?_
  rcases ofCond H with ⟨c11, H⟩ | ⟨c11, H⟩
  ·refine so [.g true, .g true] [] [(8, cB v7), (9, cB v9), (24, cB v9)] [] (fun t => aI c11 (aI c11 (t))) ?_
   rcases ofCond H with ⟨c12, H⟩ | ⟨c12, H⟩
   ·refine it c12 ?_
    refine so [] [] [(6, cI 2)] [] id ?_
    refine ends_ret ?_
    cases H
    exact And.intro (.inl rfl) rfl
   ·refine jf c12 ?_
    refine so [] [] [(9, cB v9), (29, cB v7)] [] id ?_
    refine it c11 ?_
    refine so [] [] [(6, cI 0)] [] id ?_
    refine ends_ret ?_
    cases H
    exact And.intro (.inl rfl) rfl
  ·refine so [.g false, .g false] [] [(8, cB v7), (9, cB v9), (24, cB false)] [] (fun t => aI c11 (aI c11 (t))) ?_
   refine jf (rfl : (false : Bool) = false) ?_
   refine so [] [] [(9, cB v9), (29, cB v7)] [] id ?_
   refine jf c11 ?_
   refine so [] [] [(31, cB v9)] [] id ?_
   rcases ofCond H with ⟨c13, H⟩ | ⟨c13, H⟩
   ·refine it c13 ?_
    refine so [] [] [(6, cI 1)] [] id ?_
    refine ends_ret ?_
    cases H
    exact And.intro (.inl rfl) rfl
   ·refine jf c13 ?_
    refine sk ?_
    refine so [] [] [(6, cI (-1))] [] id ?_
    refine ends_ret ?_
    cases H
    exact And.intro (.inl rfl) rfl
def s_vcHolder_ir : S :=
 (.seq (.ops [o 3 (.box 12 (.t 0)), o 4 (.box 3 (.t 1)), o 6 (.mv (.v (.int .i64 0)))])
 (.seq (.seq (.ops [o 8 (.load 12 true (.t 3)), o 9 (.load 3 true (.t 4)), o 10 (.mv (.t 2)), o 11 (.call 159 [.t 8, .t 9, .t 10]), o 7 (.mv (.t 11))])
 (.seq (.ops [o 12 (.mv (.t 7)), o 13 (.bin .eql (.t 12) (.v (.int .i64 0))), o 14 (.mv (.t 13)), ⟨some 15, .mv (.t 7), some (14, false)⟩, ⟨some 16, .bin .eql (.t 15) (.v (.int .i64 1)), some (14, false)⟩, o 17 (.pick (.t 14) (.v (.bool true)) (.t 16))])
 (.ite (.t 17) (.seq (.ops [o 18 (.mv (.t 7)), o 6 (.mv (.t 18))])
  .ret)
 .skip)))
 (.seq (.ops [o 6 (.mv (.v (.int .i64 (-1))))])
 .ret)))
noncomputable def X.s_vcHolder (p0 : TBoard) (p1 : TState) (p2 : Int) : Option Int :=
 ((X.s_zControl p0 p1 p2).bind fun v1 => (bif (v1 == 0) then some v1 else (bif (v1 == 1) then some v1 else some (-1))))
theorem s_vcHolder_ok (p0 : TBoard) (p1 : TState) (p2 : Int) (r : Int) (H : X.s_vcHolder p0 p1 p2 = some r) : FnOk Tryz.prog gl 98 [.agg (eTBoard p0), .agg (eTState p1), cI p2] (cI r) := by
 unfold X.s_vcHolder at H
 refine fi Tryz.f98 s_vcHolder_ir [(6, cI r)] [] glL Tryz.func98 ?_
 refine so [] [] [(2, cI p2), (3, pk 3), (4, pk 4)] [(3, va (eTBoard p0)), (4, va (eTState p1))] id ?_
 refine seq_in ?_
 obtain ⟨v1, h2, H⟩ := ofBind H
 refine so [.res (cI v1)] [] [(7, cI v1)] [] (fun t => aI (s_zControl_ok p0 p1 p2 v1 h2) (t)) ?_
 rcases ofCond H with ⟨c3, H⟩ | ⟨c3, H⟩
 ·refine so [.g true, .g true, .g true] [] [(7, cI v1), (17, cB true)] [] (fun t => aI c3 (aI c3 (aI c3 (t)))) ?_
  refine it (rfl : (true : Bool) = true) ?_
  refine so [] [] [(6, cI v1)] [] id ?_
  refine ends_ret ?_
  cases H
  exact And.intro (.inl rfl) rfl
 ·refine so [.g false, .g false, .g false] [] [(7, cI v1), (17, cB (v1 == 1))] [] (fun t => aI c3 (aI c3 (aI c3 (t)))) ?_
  rcases ofCond H with ⟨c4, H⟩ | ⟨c4, H⟩
  ·refine it c4 ?_
   refine so [] [] [(6, cI v1)] [] id ?_
   refine ends_ret ?_
   cases H
   exact And.intro (.inl rfl) rfl
  ·refine jf c4 ?_
   refine sk ?_
   refine so [] [] [(6, cI (-1))] [] id ?_
   refine ends_ret ?_
   cases H
   exact And.intro (.inl rfl) rfl
def s_FreeGoals_ir : S :=
 (.seq (.ops [o 3 (.box 12 (.t 0)), o 4 (.box 3 (.t 1)), o 5 (.box 3 (.t 2)), o 6 (.mv (.v (.nil))), o 7 (.mv (.v (.bool false)))])
 (.seq (.seq (.ops [o 11 (.load 12 true (.t 3)), o 12 (.load 3 true (.t 4)), o 13 (.load 3 true (.t 5)), o 14 (.call 97 [.t 11, .t 12, .t 13]), o 15 (.not (.t 14))])
 (.ite (.t 15) (.seq (.ops [o 6 (.mv (.v (.nil))), o 7 (.mv (.v (.bool false)))])
  .ret)
 .skip))
 (.seq (.ops [o 8 (.mv (.v (.nil)))])
 (.seq (.seq (.ops [o 16 (.fad 0 (.t 5)), o 17 (.load 1 false (.t 16)), o 18 (.len (.t 17)), o 19 (.mv (.v (.int .i64 0)))])
 (.blk 0 (.loop (.seq (.ops [o 20 (.bin .lss (.t 19) (.t 18))])
   (.seq (.ite (.t 20) .skip
   (.exit 0))
   (.seq (.blk 1 (.seq (.ops [o 21 (.mv (.t 19)), o 22 (.iad 2 (.t 17) (.t 19)), o 23 (.load 2 true (.t 22)), o 10 (.alloc [.int .i64 0, .int .i64 0]), o 9 (.mv (.t 21)), ⟨none, .store 2 (.t 10) (.t 23), none⟩])
    (.seq (.ops [o 24 (.load 12 true (.t 3)), o 25 (.load 3 true (.t 4)), o 26 (.fad 0 (.t 10)), o 27 (.load 1 false (.t 26)), o 28 (.call 98 [.t 24, .t 25, .t 27]), o 29 (.bin .lss (.t 28) (.v (.int .i64 0)))])
    (.ite (.t 29) (.ops [o 30 (.mv (.t 8)), o 31 (.mv (.t 9)), o 32 (.bsl 1 [.t 31]), o 33 (.app 1 8 (.t 30) (.t 32)), o 8 (.mv (.t 33))])
    .skip))))
   (.ops [o 34 (.bin .add (.t 19) (.v (.int .i64 1))), o 19 (.mv (.t 34))])))))))
 (.seq (.ops [o 35 (.mv (.t 8)), o 6 (.mv (.t 35)), o 7 (.mv (.v (.bool true)))])
 .ret)))))
noncomputable def X.s_FreeGoals (p0 : TBoard) (p1 : TState) (p2 : TConditions) : Option ((List Int) × Bool) :=
 ((X.s_vcInput p0 p1 p2).bind fun v4 => (bif (!v4) then some (([] : List Int), false) else ((loop (fun (x24 : (Int × (List Int))) => ((bif (decide (x24.1 < (p2.Goals.length : Int))) then ((at' zTGoal p2.Goals x24.1).bind fun v27 => ((X.s_vcHolder p0 p1 v27.At).bind fun v29 => (bif (decide (v29 < 0)) then (if (x24.2 ++ ([x24.1] : List Int)).length ≤ LIM then some (Sum.inl ((W (x24.1 + 1)), (x24.2 ++ ([x24.1] : List Int)))) else none) else some (Sum.inl ((W (x24.1 + 1)), x24.2))))) else some (Sum.inr x24.2)) : Option ((Int × (List Int)) ⊕ (List Int)))) (0, ([] : List Int))).bind fun y33 => some (y33, true))))
theorem s_FreeGoals_ok (p0 : TBoard) (p1 : TState) (p2 : TConditions) (r : ((List Int) × Bool)) (H : X.s_FreeGoals p0 p1 p2 = some r) : FnOk Tryz.prog gl 36 [.agg (eTBoard p0), .agg (eTState p1), .agg (eTConditions p2)] (.tup [(false, [dat 1 eI zI r.1]), (false, [.bool r.2])]) := by
 unfold X.s_FreeGoals at H
 refine fi Tryz.f36 s_FreeGoals_ir [(6, dc 1 eI zI r.1), (7, cB r.2)] [] glL Tryz.func36 ?_
 refine so [] [] [(3, pk 3), (4, pk 4), (5, pk 5)] [(3, va (eTBoard p0)), (4, va (eTState p1)), (5, va (eTConditions p2))] id ?_
 refine seq_in ?_
 obtain ⟨v4, h5, H⟩ := ofBind H
 refine so [.res (cB v4)] [] [(3, pk 3), (4, pk 4), (5, pk 5), (15, cB (!v4))] [(3, va (eTBoard p0)), (4, va (eTState p1)), (5, va (eTConditions p2))] (fun t => aI (s_vcInput_ok p0 p1 p2 v4 h5) (t)) ?_
 rcases ofCond H with ⟨c6, H⟩ | ⟨c6, H⟩
 ·refine it c6 ?_
  refine so [] [] [(6, .c (.nil)), (7, cB false)] [] id ?_
  refine tl [.nld 6 1 (fF eI zI ([] : List Int))] [(6, .c (dat 1 eI zI ([] : List Int))), (7, cB false)] [] id ?_
  refine ends_ret ?_
  cases H
  exact And.intro (.inl rfl) rfl
 ·refine jf c6 ?_
  refine sk ?_
  refine so [] [] [(3, pk 3), (4, pk 4), (5, pk 5), (8, .c (.nil))] [(3, va (eTBoard p0)), (4, va (eTState p1)), (5, va (eTConditions p2))] id ?_
  refine seq_in ?_
  refine so [] [] [(3, pk 3), (4, pk 4), (8, .c (.nil)), (17, dc 2 eTGoal zTGoal p2.Goals), (18, cI (p2.Goals.length : Int)), (19, cI 0)] [(3, va (eTBoard p0)), (4, va (eTState p1))] (fun t => lI p2.Goals (t)) ?_
  refine ends_blk ?_
  obtain ⟨y33, h34, H⟩ := ofBind H
  refine tl [.nlo 8 1001 1 (fF eI zI ([] : List Int))] [(3, pk 3), (4, pk 4), (8, .c (.own 1001 1 0 (([] : List Int).length))), (17, dc 2 eTGoal zTGoal p2.Goals), (18, cI (p2.Goals.length : Int)), (19, cI 0)] [(3, va (eTBoard p0)), (4, va (eTState p1)), (1001, .arr 1 (([] : List Int).length) (fF eI zI ([] : List Int)) false)] (fun t => aI (by decide : 0 < 1) (t)) ?_
  refine loop_in (fun (x : (Int × (List Int))) => lit [(3, pk 3), (4, pk 4), (8, .c (.own 1001 1 0 x.2.length)), (17, dc 2 eTGoal zTGoal p2.Goals), (18, cI (p2.Goals.length : Int)), (19, cI x.1)] [(3, va (eTBoard p0)), (4, va (eTState p1)), (1001, .arr 1 x.2.length (fF eI zI x.2) false)]) (fun (z : (List Int)) => At (.exit 0) (lit [(8, .c (.own 1001 1 0 z.length))] [(1001, .arr 1 z.length (fF eI zI z) false)])) h34 ?_ ?_
  ·clear H h34
   intro x24 y0 H
   refine so [] [] [(3, pk 3), (4, pk 4), (8, .c (.own 1001 1 0 x24.2.length)), (17, dc 2 eTGoal zTGoal p2.Goals), (18, cI (p2.Goals.length : Int)), (19, cI x24.1), (20, cB (decide (x24.1 < (p2.Goals.length : Int))))] [(3, va (eTBoard p0)), (4, va (eTState p1)), (1001, .arr 1 x24.2.length (fF eI zI x24.2) false)] id ?_
   refine seq_in ?_
   rcases ofCond H with ⟨c26, H⟩ | ⟨c26, H⟩
   ·refine it c26 ?_
    refine sk ?_
    refine seq_in ?_
    refine ends_blk ?_
    obtain ⟨v27, h28, H⟩ := ofBind H
    refine so [.cs (eTGoal v27)] [] [(3, pk 3), (4, pk 4), (8, .c (.own 1001 1 0 x24.2.length)), (9, cI x24.1), (10, pk 10), (17, dc 2 eTGoal zTGoal p2.Goals), (18, cI (p2.Goals.length : Int)), (19, cI x24.1)] [(3, va (eTBoard p0)), (4, va (eTState p1)), (10, va (eTGoal v27)), (1001, .arr 1 x24.2.length (fF eI zI x24.2) false)] (fun t => aI (at_lt h28) (aI (at_enc (enc := eTGoal) h28) (t))) ?_
    obtain ⟨v29, h30, H⟩ := ofBind H
    refine so [.res (cI v29)] [] [(3, pk 3), (4, pk 4), (8, .c (.own 1001 1 0 x24.2.length)), (9, cI x24.1), (17, dc 2 eTGoal zTGoal p2.Goals), (18, cI (p2.Goals.length : Int)), (19, cI x24.1), (29, cB (decide (v29 < 0)))] [(3, va (eTBoard p0)), (4, va (eTState p1)), (1001, .arr 1 x24.2.length (fF eI zI x24.2) false)] (fun t => aI (s_vcHolder_ok p0 p1 v27.At v29 h30) (t)) ?_
    rcases ofCond H with ⟨c31, H⟩ | ⟨c31, H⟩
    ·refine it c31 ?_
     obtain ⟨g32, H⟩ := ofIf H
     refine oo [.fn ([x24.1] : List Int).length (fF eI zI ([x24.1] : List Int)), .fn (x24.2 ++ ([x24.1] : List Int)).length (fF eI zI (x24.2 ++ ([x24.1] : List Int)))] [] [(3, pk 3), (4, pk 4), (8, .c (.own 33 1 0 ((x24.2 ++ ([x24.1] : List Int)).length))), (17, dc 2 eTGoal zTGoal p2.Goals), (18, cI (p2.Goals.length : Int)), (19, cI x24.1)] [(3, va (eTBoard p0)), (4, va (eTState p1)), (33, .arr 1 ((x24.2 ++ ([x24.1] : List Int)).length) (fF eI zI (x24.2 ++ ([x24.1] : List Int))) false)] (fun t => aI (rfl : ([x24.1] : List Int).length = 1) (aI (fF_lit eI zI ([x24.1] : List Int)) (aI (And.intro (Nat.le_refl x24.2.length) (And.intro (@List.length_append _ x24.2 ([x24.1] : List Int)) g32)) (aI (fF_appL eI zI x24.2 ([x24.1] : List Int)) (aI (fF_appR eI zI x24.2 ([x24.1] : List Int)) (t)))))) ?_
     change EndsI _ _ _ _ _ _
     refine oo [] [.ren 33 1001] [(3, pk 3), (4, pk 4), (8, .c (.own 1001 1 0 ((x24.2 ++ ([x24.1] : List Int)).length))), (17, dc 2 eTGoal zTGoal p2.Goals), (18, cI (p2.Goals.length : Int)), (19, cI (W (x24.1 + 1)))] [(3, va (eTBoard p0)), (4, va (eTState p1)), (1001, .arr 1 ((x24.2 ++ ([x24.1] : List Int)).length) (fF eI zI (x24.2 ++ ([x24.1] : List Int))) false)] id ?_
     cases H
     exact And.intro rfl rfl
    ·refine jf c31 ?_
     refine sk ?_
     refine oo [] [] [(3, pk 3), (4, pk 4), (8, .c (.own 1001 1 0 x24.2.length)), (17, dc 2 eTGoal zTGoal p2.Goals), (18, cI (p2.Goals.length : Int)), (19, cI (W (x24.1 + 1)))] [(3, va (eTBoard p0)), (4, va (eTState p1)), (1001, .arr 1 x24.2.length (fF eI zI x24.2) false)] id ?_
     cases H
     exact And.intro rfl rfl
   ·refine jf c26 ?_
    refine tl [] [(8, .c (.own 1001 1 0 x24.2.length))] [(1001, .arr 1 x24.2.length (fF eI zI x24.2) false)] id ?_
    refine ends_exit ?_
    cases H
    exact And.intro (by simp) (And.intro rfl rfl)
  ·clear h34
   intro e s q
   obtain ⟨rfl, rfl⟩ := q
   change EndsI _ _ _ _ _ _
   refine so [] [] [(6, .c (.own 1001 1 0 y33.length)), (7, cB true)] [(1001, .arr 1 y33.length (fF eI zI y33) false)] id ?_
   refine tl [.frz 6] [(6, dc 1 eI zI y33), (7, cB true)] [] (fun t => aI (Nat.le_refl y33.length) (t)) ?_
   refine ends_ret ?_
   cases H
   exact And.intro (.inl rfl) rfl
def l_toGoal_ir : S :=
 (.seq (.ops [o 1 (.box 2 (.t 0)), o 2 (.alloc [.int .i64 0, .int .i64 0])])
 (.seq (.ops [o 3 (.alloc [.int .i64 0, .int .i64 0])])
 (.seq (.ops [o 4 (.fad 0 (.t 1)), o 5 (.load 1 false (.t 4)), o 6 (.fad 0 (.t 3)), ⟨none, .store 1 (.t 6) (.t 5), none⟩])
 (.seq (.ops [o 7 (.fad 1 (.t 1)), o 8 (.load 1 false (.t 7)), o 9 (.fad 1 (.t 3)), ⟨none, .store 1 (.t 9) (.t 8), none⟩])
 (.seq (.ops [o 10 (.load 2 true (.t 3)), ⟨none, .store 2 (.t 2) (.t 10), none⟩])
 .ret)))))
noncomputable def X.l_toGoal (p0 : TGoal) : Option TGoal :=
 some p0
theorem l_toGoal_ok (p0 : TGoal) (r : TGoal) (H : X.l_toGoal p0 = some r) : FnOk Tryz.prog gl 160 [.agg (eTGoal p0)] (.agg (eTGoal r)) := by
 unfold X.l_toGoal at H
 refine fi Tryz.f160 l_toGoal_ir [(2, pk 2)] [(2, va (eTGoal r))] glL Tryz.func160 ?_
 refine so [] [] [(1, pk 1), (2, pk 2)] [(1, va (eTGoal p0)), (2, .var [.int .i64 0, .int .i64 0] false)] id ?_
 refine so [] [] [(1, pk 1), (2, pk 2), (3, pk 3)] [(1, va (eTGoal p0)), (2, .var [.int .i64 0, .int .i64 0] false), (3, .var [.int .i64 0, .int .i64 0] false)] id ?_
 refine so [] [] [(1, pk 1), (2, pk 2), (3, pk 3)] [(1, va (eTGoal p0)), (2, .var [.int .i64 0, .int .i64 0] false), (3, .var [.int .i64 p0.At, .int .i64 0] false)] id ?_
 refine so [] [] [(2, pk 2), (3, pk 3)] [(2, .var [.int .i64 0, .int .i64 0] false), (3, va (eTGoal p0))] id ?_
 refine so [] [] [(2, pk 2)] [(2, va (eTGoal p0))] id ?_
 refine ends_ret ?_
 cases H
 exact And.intro (.inl rfl) rfl
def l_toGoalS_ir : S :=
 (.seq (.ops [o 2 (.mv (.v (.nil)))])
 (.seq (.ops [o 5 (.mv (.t 0)), o 6 (.len (.t 5)), o 7 (.msl 2 16 [.int .i64 0, .int .i64 0] (.t 6)), o 3 (.mv (.t 7))])
 (.seq (.seq (.ops [o 4 (.mv (.v (.int .i64 0)))])
 (.blk 0 (.loop (.seq (.seq (.ops [o 8 (.mv (.t 4)), o 9 (.mv (.t 0)), o 10 (.len (.t 9)), o 11 (.bin .lss (.t 8) (.t 10))])
   (.ite (.t 11) .skip
   (.exit 0)))
   (.seq (.blk 1 (.ops [o 14 (.mv (.t 3)), o 15 (.mv (.t 4)), o 16 (.mv (.t 0)), o 17 (.mv (.t 4)), o 18 (.iad 2 (.t 16) (.t 17)), o 19 (.load 2 true (.t 18)), o 20 (.call 160 [.t 19]), o 21 (.iad 2 (.t 14) (.t 15)), ⟨none, .store 2 (.t 21) (.t 20), none⟩]))
   (.ops [o 12 (.mv (.t 4)), o 13 (.bin .add (.t 12) (.v (.int .i64 1))), o 4 (.mv (.t 13))]))))))
 (.seq (.ops [o 22 (.mv (.t 3)), o 2 (.mv (.t 22))])
 .ret))))
noncomputable def X.l_toGoalS (p0 : (List TGoal)) : Option (List TGoal) :=
 (if 0 ≤ (p0.length : Int) ∧ (p0.length : Int).toNat ≤ LIM then ((loop (fun (x17 : (Int × (List TGoal))) => ((bif (decide (x17.1 < (p0.length : Int))) then ((at' zTGoal p0 x17.1).bind fun v20 => ((X.l_toGoal v20).bind fun v22 => (if 0 ≤ x17.1 ∧ x17.1 < (x17.2.length : Int) then some (Sum.inl ((W (x17.1 + 1)), (x17.2.set x17.1.toNat v22))) else none))) else some (Sum.inr x17.2)) : Option ((Int × (List TGoal)) ⊕ (List TGoal)))) (0, (List.replicate (p0.length : Int).toNat zTGoal))).bind fun y25 => some y25) else none)
theorem l_toGoalS_ok (p0 : (List TGoal)) (r : (List TGoal)) (H : X.l_toGoalS p0 = some r) : FnOk Tryz.prog gl 99 [.c (dat 2 eTGoal zTGoal p0)] (.c (dat 2 eTGoal zTGoal r)) := by
 unfold X.l_toGoalS at H
 refine fi Tryz.f99 l_toGoalS_ir [(2, dc 2 eTGoal zTGoal r)] [] glL Tryz.func99 ?_
 refine so [] [] [(0, dc 2 eTGoal zTGoal p0)] [] id ?_
 obtain ⟨g1, H⟩ := ofIf H
 refine so [.fn (List.replicate (p0.length : Int).toNat zTGoal).length (fF eTGoal zTGoal (List.replicate (p0.length : Int).toNat zTGoal))] [] [(0, dc 2 eTGoal zTGoal p0), (3, .c (.own 7 2 0 ((List.replicate (p0.length : Int).toNat zTGoal).length)))] [(7, .arr 2 ((List.replicate (p0.length : Int).toNat zTGoal).length) (fF eTGoal zTGoal (List.replicate (p0.length : Int).toNat zTGoal)) false)] (fun t => lI p0 (aI (And.intro g1.1 (And.intro (List.length_replicate (n := (p0.length : Int).toNat) (a := zTGoal)).symm (Nat.le_trans (Nat.le_of_eq List.length_replicate) g1.2 : (List.replicate (p0.length : Int).toNat zTGoal).length ≤ LIM))) (aI (fF_rep eTGoal zTGoal zTGoal (p0.length : Int).toNat) (t)))) ?_
 refine seq_in ?_
 refine so [] [] [(0, dc 2 eTGoal zTGoal p0), (3, .c (.own 7 2 0 ((List.replicate (p0.length : Int).toNat zTGoal).length))), (4, cI 0)] [(7, .arr 2 ((List.replicate (p0.length : Int).toNat zTGoal).length) (fF eTGoal zTGoal (List.replicate (p0.length : Int).toNat zTGoal)) false)] id ?_
 refine ends_blk ?_
 obtain ⟨y25, h26, H⟩ := ofBind H
 refine loop_in (fun (x : (Int × (List TGoal))) => lit [(0, dc 2 eTGoal zTGoal p0), (3, .c (.own 7 2 0 x.2.length)), (4, cI x.1)] [(7, .arr 2 x.2.length (fF eTGoal zTGoal x.2) false)]) (fun (z : (List TGoal)) => At (.exit 0) (lit [(3, .c (.own 7 2 0 z.length))] [(7, .arr 2 z.length (fF eTGoal zTGoal z) false)])) h26 ?_ ?_
 ·clear H h26
  intro x17 y0 H
  refine seq_in ?_
  refine so [] [] [(0, dc 2 eTGoal zTGoal p0), (3, .c (.own 7 2 0 x17.2.length)), (4, cI x17.1), (11, cB (decide (x17.1 < (p0.length : Int))))] [(7, .arr 2 x17.2.length (fF eTGoal zTGoal x17.2) false)] (fun t => lI p0 (t)) ?_
  rcases ofCond H with ⟨c19, H⟩ | ⟨c19, H⟩
  ·refine it c19 ?_
   refine sk ?_
   refine seq_in ?_
   refine ends_blk ?_
   obtain ⟨v20, h21, H⟩ := ofBind H
   obtain ⟨v22, h23, H⟩ := ofBind H
   obtain ⟨g24, H⟩ := ofIf H
   refine oo [.cs (eTGoal v20), .res (.agg (eTGoal v22)), .no, .fn 0 (fF eTGoal zTGoal (x17.2.set x17.1.toNat v22))] [] [(0, dc 2 eTGoal zTGoal p0), (3, .c (.own 7 2 0 x17.2.length)), (4, cI x17.1)] [(7, .arr 2 x17.2.length (fF eTGoal zTGoal (x17.2.set x17.1.toNat v22)) false)] (fun t => aI (at_lt h21) (aI (at_enc (enc := eTGoal) h21) (aI (l_toGoal_ok v20 v22 h23) (aI g24 (aI (rfl : true = true) (aI (nat_lt g24) (aI (by decide : 0 + 2 ≤ 2) (aI (fF_set eTGoal zTGoal x17.2 x17.1.toNat v22 (nat_lt g24) x17.2.length) (t))))))))) ?_
   change EndsI _ _ _ _ _ _
   refine oo [] [.rel 3 ((x17.2.set x17.1.toNat v22).length), .rep 7 ((x17.2.set x17.1.toNat v22).length) (fF eTGoal zTGoal (x17.2.set x17.1.toNat v22))] [(0, dc 2 eTGoal zTGoal p0), (3, .c (.own 7 2 0 ((x17.2.set x17.1.toNat v22).length))), (4, cI (W (x17.1 + 1)))] [(7, .arr 2 ((x17.2.set x17.1.toNat v22).length) (fF eTGoal zTGoal (x17.2.set x17.1.toNat v22)) false)] (fun t => aI (by simp : x17.2.length = (x17.2.set x17.1.toNat v22).length) (aI (Nat.le_of_eq (by simp : (x17.2.set x17.1.toNat v22).length = x17.2.length)) (aI (fun _ _ => rfl : ∀ i, i < (x17.2.set x17.1.toNat v22).length → (fF eTGoal zTGoal (x17.2.set x17.1.toNat v22)) i = (fF eTGoal zTGoal (x17.2.set x17.1.toNat v22)) i) (t)))) ?_
   cases H
   exact And.intro rfl rfl
  ·refine jf c19 ?_
   refine tl [] [(3, .c (.own 7 2 0 x17.2.length))] [(7, .arr 2 x17.2.length (fF eTGoal zTGoal x17.2) false)] id ?_
   refine ends_exit ?_
   cases H
   exact And.intro (by simp) (And.intro rfl rfl)
 ·clear h26
  intro e s q
  obtain ⟨rfl, rfl⟩ := q
  change EndsI _ _ _ _ _ _
  refine so [] [] [(2, .c (.own 7 2 0 y25.length))] [(7, .arr 2 y25.length (fF eTGoal zTGoal y25) false)] id ?_
  refine tl [.frz 2] [(2, dc 2 eTGoal zTGoal y25)] [] (fun t => aI (Nat.le_refl y25.length) (t)) ?_
  refine ends_ret ?_
  cases H
  exact And.intro (.inl rfl) rfl
def l_toConditions_ir : S :=
 (.seq (.ops [o 1 (.box 3 (.t 0)), o 2 (.alloc [.nil, .int .i64 0, .int .i64 0])])
 (.seq (.ops [o 3 (.alloc [.nil, .int .i64 0, .int .i64 0])])
 (.seq (.ops [o 4 (.fad 0 (.t 1)), o 5 (.load 1 false (.t 4)), o 6 (.call 99 [.t 5]), o 7 (.fad 0 (.t 3)), ⟨none, .store 1 (.t 7) (.t 6), none⟩])
 (.seq (.ops [o 8 (.fad 1 (.t 1)), o 9 (.load 1 false (.t 8)), o 10 (.fad 1 (.t 3)), ⟨none, .store 1 (.t 10) (.t 9), none⟩])
 (.seq (.ops [o 11 (.fad 2 (.t 1)), o 12 (.load 1 false (.t 11)), o 13 (.fad 2 (.t 3)), ⟨none, .store 1 (.t 13) (.t 12), none⟩])
 (.seq (.ops [o 14 (.load 3 true (.t 3)), ⟨none, .store 3 (.t 2) (.t 14), none⟩])
 .ret))))))
noncomputable def X.l_toConditions (p0 : TConditions) : Option TConditions :=
 ((X.l_toGoalS p0.Goals).bind fun v1 => some (TConditions.mk v1 p0.Step p0.Margin))
theorem l_toConditions_ok (p0 : TConditions) (r : TConditions) (H : X.l_toConditions p0 = some r) : FnOk Tryz.prog gl 37 [.agg (eTConditions p0)] (.agg (eTConditions r)) := by
 unfold X.l_toConditions at H
 refine fi Tryz.f37 l_toConditions_ir [(2, pk 2)] [(2, va (eTConditions r))] glL Tryz.func37 ?_
 refine so [] [] [(1, pk 1), (2, pk 2)] [(1, va (eTConditions p0)), (2, .var [.nil, .int .i64 0, .int .i64 0] false)] id ?_
 refine so [] [] [(1, pk 1), (2, pk 2), (3, pk 3)] [(1, va (eTConditions p0)), (2, .var [.nil, .int .i64 0, .int .i64 0] false), (3, .var [.nil, .int .i64 0, .int .i64 0] false)] id ?_
 obtain ⟨v1, h2, H⟩ := ofBind H
 refine so [.res (dc 2 eTGoal zTGoal v1)] [] [(1, pk 1), (2, pk 2), (3, pk 3)] [(1, va (eTConditions p0)), (2, .var [.nil, .int .i64 0, .int .i64 0] false), (3, .var [dat 2 eTGoal zTGoal v1, .int .i64 0, .int .i64 0] false)] (fun t => aI (l_toGoalS_ok p0.Goals v1 h2) (t)) ?_
 refine so [] [] [(1, pk 1), (2, pk 2), (3, pk 3)] [(1, va (eTConditions p0)), (2, .var [.nil, .int .i64 0, .int .i64 0] false), (3, .var [dat 2 eTGoal zTGoal v1, .int .i64 p0.Step, .int .i64 0] false)] id ?_
 refine so [] [] [(2, pk 2), (3, pk 3)] [(2, .var [.nil, .int .i64 0, .int .i64 0] false), (3, .var [dat 2 eTGoal zTGoal v1, .int .i64 p0.Step, .int .i64 p0.Margin] false)] id ?_
 refine so [] [] [(2, pk 2)] [(2, .var [dat 2 eTGoal zTGoal v1, .int .i64 p0.Step, .int .i64 p0.Margin] false)] id ?_
 refine ends_ret ?_
 cases H
 exact And.intro (.inl rfl) rfl
theorem l_toGoalS_F_ok (p0 : (List TGoal)) (r : (List TGoal)) (H : X.l_toGoalS p0 = some r) : FnOk Tryz.prog gl 99 [.c (dat 2 eTGoal zTGoal p0)] (.c (.fr (dat 2 eTGoal zTGoal r))) := by
 unfold X.l_toGoalS at H
 refine fn_fr (fn := Tryz.f99) (ir := l_toGoalS_ir) (s1 := lit [(2, .c (.own 900000 2 0 r.length))] [(900000, .arr 2 r.length (fF eTGoal zTGoal r) false)]) (res0 := .c (.own 900000 2 0 r.length)) glL Tryz.func99 (by kernel_rfl) (by kernel_rfl) (by kernel_rfl) (by kernel_rfl) (FrTo.own rfl (Nat.le_refl _) (fun i _ => ⟨rfl, rfl⟩)) ?_
 refine so [] [] [(0, dc 2 eTGoal zTGoal p0)] [] id ?_
 obtain ⟨g1, H⟩ := ofIf H
 refine so [.fn (List.replicate (p0.length : Int).toNat zTGoal).length (fF eTGoal zTGoal (List.replicate (p0.length : Int).toNat zTGoal))] [] [(0, dc 2 eTGoal zTGoal p0), (3, .c (.own 7 2 0 ((List.replicate (p0.length : Int).toNat zTGoal).length)))] [(7, .arr 2 ((List.replicate (p0.length : Int).toNat zTGoal).length) (fF eTGoal zTGoal (List.replicate (p0.length : Int).toNat zTGoal)) false)] (fun t => lI p0 (aI (And.intro g1.1 (And.intro (List.length_replicate (n := (p0.length : Int).toNat) (a := zTGoal)).symm (Nat.le_trans (Nat.le_of_eq List.length_replicate) g1.2 : (List.replicate (p0.length : Int).toNat zTGoal).length ≤ LIM))) (aI (fF_rep eTGoal zTGoal zTGoal (p0.length : Int).toNat) (t)))) ?_
 refine seq_in ?_
 refine so [] [] [(0, dc 2 eTGoal zTGoal p0), (3, .c (.own 7 2 0 ((List.replicate (p0.length : Int).toNat zTGoal).length))), (4, cI 0)] [(7, .arr 2 ((List.replicate (p0.length : Int).toNat zTGoal).length) (fF eTGoal zTGoal (List.replicate (p0.length : Int).toNat zTGoal)) false)] id ?_
 refine ends_blk ?_
 obtain ⟨y25, h26, H⟩ := ofBind H
 refine loop_in (fun (x : (Int × (List TGoal))) => lit [(0, dc 2 eTGoal zTGoal p0), (3, .c (.own 7 2 0 x.2.length)), (4, cI x.1)] [(7, .arr 2 x.2.length (fF eTGoal zTGoal x.2) false)]) (fun (z : (List TGoal)) => At (.exit 0) (lit [(3, .c (.own 7 2 0 z.length))] [(7, .arr 2 z.length (fF eTGoal zTGoal z) false)])) h26 ?_ ?_
 ·clear H h26
  intro x17 y0 H
  refine seq_in ?_
  refine so [] [] [(0, dc 2 eTGoal zTGoal p0), (3, .c (.own 7 2 0 x17.2.length)), (4, cI x17.1), (11, cB (decide (x17.1 < (p0.length : Int))))] [(7, .arr 2 x17.2.length (fF eTGoal zTGoal x17.2) false)] (fun t => lI p0 (t)) ?_
  rcases ofCond H with ⟨c19, H⟩ | ⟨c19, H⟩
  ·refine it c19 ?_
   refine sk ?_
   refine seq_in ?_
   refine ends_blk ?_
   obtain ⟨v20, h21, H⟩ := ofBind H
   obtain ⟨v22, h23, H⟩ := ofBind H
   obtain ⟨g24, H⟩ := ofIf H
   refine oo [.cs (eTGoal v20), .res (.agg (eTGoal v22)), .no, .fn 0 (fF eTGoal zTGoal (x17.2.set x17.1.toNat v22))] [] [(0, dc 2 eTGoal zTGoal p0), (3, .c (.own 7 2 0 x17.2.length)), (4, cI x17.1)] [(7, .arr 2 x17.2.length (fF eTGoal zTGoal (x17.2.set x17.1.toNat v22)) false)] (fun t => aI (at_lt h21) (aI (at_enc (enc := eTGoal) h21) (aI (l_toGoal_ok v20 v22 h23) (aI g24 (aI (rfl : true = true) (aI (nat_lt g24) (aI (by decide : 0 + 2 ≤ 2) (aI (fF_set eTGoal zTGoal x17.2 x17.1.toNat v22 (nat_lt g24) x17.2.length) (t))))))))) ?_
   change EndsI _ _ _ _ _ _
   refine oo [] [.rel 3 ((x17.2.set x17.1.toNat v22).length), .rep 7 ((x17.2.set x17.1.toNat v22).length) (fF eTGoal zTGoal (x17.2.set x17.1.toNat v22))] [(0, dc 2 eTGoal zTGoal p0), (3, .c (.own 7 2 0 ((x17.2.set x17.1.toNat v22).length))), (4, cI (W (x17.1 + 1)))] [(7, .arr 2 ((x17.2.set x17.1.toNat v22).length) (fF eTGoal zTGoal (x17.2.set x17.1.toNat v22)) false)] (fun t => aI (by simp : x17.2.length = (x17.2.set x17.1.toNat v22).length) (aI (Nat.le_of_eq (by simp : (x17.2.set x17.1.toNat v22).length = x17.2.length)) (aI (fun _ _ => rfl : ∀ i, i < (x17.2.set x17.1.toNat v22).length → (fF eTGoal zTGoal (x17.2.set x17.1.toNat v22)) i = (fF eTGoal zTGoal (x17.2.set x17.1.toNat v22)) i) (t)))) ?_
   cases H
   exact And.intro rfl rfl
  ·refine jf c19 ?_
   refine tl [] [(3, .c (.own 7 2 0 x17.2.length))] [(7, .arr 2 x17.2.length (fF eTGoal zTGoal x17.2) false)] id ?_
   refine ends_exit ?_
   cases H
   exact And.intro (by simp) (And.intro rfl rfl)
 ·clear h26
  intro e s q
  obtain ⟨rfl, rfl⟩ := q
  change EndsI _ _ _ _ _ _
  refine so [] [] [(2, .c (.own 7 2 0 y25.length))] [(7, .arr 2 y25.length (fF eTGoal zTGoal y25) false)] id ?_
  refine tl [.ren 7 900000] [(2, .c (.own 900000 2 0 y25.length))] [(900000, .arr 2 y25.length (fF eTGoal zTGoal y25) false)] id ?_
  refine ends_ret ?_
  cases H
  exact And.intro (.inl rfl) rfl
theorem l_toConditions_F_ok (p0 : TConditions) (r : TConditions) (H : X.l_toConditions p0 = some r) : FnOk Tryz.prog gl 37 [.agg (eTConditions p0)] (.agg [.fr (dat 2 eTGoal zTGoal r.Goals), .int .i64 r.Step, .int .i64 r.Margin]) := by
 unfold X.l_toConditions at H
 refine fn_fr (fn := Tryz.f37) (ir := l_toConditions_ir) (s1 := lit [(2, pk 2)] [(2, .var [.fr (dat 2 eTGoal zTGoal r.Goals), .int .i64 r.Step, .int .i64 r.Margin] false)]) (res0 := .agg [.fr (dat 2 eTGoal zTGoal r.Goals), .int .i64 r.Step, .int .i64 r.Margin]) glL Tryz.func37 (by kernel_rfl) (by kernel_rfl) (by kernel_rfl) (by kernel_rfl) ((And.intro ((.inl ⟨rfl, rfl⟩)) (And.intro ((.inl ⟨rfl, rfl⟩)) (And.intro ((.inl ⟨rfl, rfl⟩)) trivial)))) ?_
 refine so [] [] [(1, pk 1), (2, pk 2)] [(1, va (eTConditions p0)), (2, .var [.nil, .int .i64 0, .int .i64 0] false)] id ?_
 refine so [] [] [(1, pk 1), (2, pk 2), (3, pk 3)] [(1, va (eTConditions p0)), (2, .var [.nil, .int .i64 0, .int .i64 0] false), (3, .var [.nil, .int .i64 0, .int .i64 0] false)] id ?_
 obtain ⟨v1, h2, H⟩ := ofBind H
 refine so [.res (.c (.fr (dat 2 eTGoal zTGoal v1)))] [] [(1, pk 1), (2, pk 2), (3, pk 3)] [(1, va (eTConditions p0)), (2, .var [.nil, .int .i64 0, .int .i64 0] false), (3, .var [.fr (dat 2 eTGoal zTGoal v1), .int .i64 0, .int .i64 0] false)] (fun t => aI (l_toGoalS_F_ok p0.Goals v1 h2) (t)) ?_
 refine so [] [] [(1, pk 1), (2, pk 2), (3, pk 3)] [(1, va (eTConditions p0)), (2, .var [.nil, .int .i64 0, .int .i64 0] false), (3, .var [.fr (dat 2 eTGoal zTGoal v1), .int .i64 p0.Step, .int .i64 0] false)] id ?_
 refine so [] [] [(2, pk 2), (3, pk 3)] [(2, .var [.nil, .int .i64 0, .int .i64 0] false), (3, .var [.fr (dat 2 eTGoal zTGoal v1), .int .i64 p0.Step, .int .i64 p0.Margin] false)] id ?_
 refine so [] [] [(2, pk 2)] [(2, .var [.fr (dat 2 eTGoal zTGoal v1), .int .i64 p0.Step, .int .i64 p0.Margin] false)] id ?_
 refine ends_ret ?_
 cases H
 exact And.intro (.inl rfl) rfl
def g_IndexFunc_int_ir : S :=
 (.seq (.ops [o 4 (.mv (.v (.int .i64 0)))])
 (.seq (.seq (.ops [o 6 (.mv (.t 0)), o 7 (.len (.t 6)), o 8 (.mv (.v (.int .i64 0)))])
 (.blk 0 (.loop (.seq (.ops [o 9 (.bin .lss (.t 8) (.t 7))])
   (.seq (.ite (.t 9) .skip
   (.exit 0))
   (.seq (.blk 1 (.seq (.ops [o 10 (.mv (.t 8)), o 5 (.mv (.t 10))])
    (.seq (.ops [o 11 (.mv (.t 1)), o 12 (.mv (.t 0)), o 13 (.mv (.t 5)), o 14 (.iad 1 (.t 12) (.t 13)), o 15 (.load 1 false (.t 14)), o 16 (.cald (.t 11) [.t 15])])
    (.ite (.t 16) (.seq (.ops [o 17 (.mv (.t 5)), o 4 (.mv (.t 17))])
     .ret)
    .skip))))
   (.ops [o 18 (.bin .add (.t 8) (.v (.int .i64 1))), o 8 (.mv (.t 18))])))))))
 (.seq (.ops [o 4 (.mv (.v (.int .i64 (-1))))])
 .ret)))
noncomputable def X.g_IndexFunc_int (p0 : (List Int)) (f1 : Int → Option Bool) : Option Int :=
 ((loop (fun (x16 : Int) => ((bif (decide (x16 < (p0.length : Int))) then ((at' zI p0 x16).bind fun v19 => ((f1 v19).bind fun v21 => (bif v21 then some (Sum.inr (Sum.inr x16)) else some (Sum.inl (W (x16 + 1)))))) else some (Sum.inr (Sum.inl ()))) : Option (Int ⊕ (Unit ⊕ Int)))) 0).bind fun y24 => (Sum.elim (fun (y26 : Unit) => some (-1)) (fun (y27 : Int) => some y27) y24))
theorem g_IndexFunc_int_c1_ok (p0 : (List Int)) (cf1 : FuncId) (cs1_0 : List AC) (f1 : Int → Option Bool) (hf1 : ∀ q0 r, f1 q0 = some r → FnOk Tryz.prog gl cf1 [cI q0, .c (.pd cs1_0 0)] (cB r)) (r : Int) (H : X.g_IndexFunc_int p0 f1 = some r) : FnOk Tryz.prog gl 134 [.c (dat 1 eI zI p0), .c (.clo cf1 [.pd cs1_0 0])] (cI r) := by
 unfold X.g_IndexFunc_int at H
 refine fi Tryz.f134 g_IndexFunc_int_ir [(4, cI r)] [] glL Tryz.func134 ?_
 refine so [] [] [(0, dc 1 eI zI p0), (1, .c (.clo cf1 [.pd cs1_0 0]))] [] id ?_
 refine seq_in ?_
 refine so [] [] [(0, dc 1 eI zI p0), (1, .c (.clo cf1 [.pd cs1_0 0])), (7, cI (p0.length : Int)), (8, cI 0)] [] (fun t => lI p0 (t)) ?_
 refine ends_blk ?_
 obtain ⟨y24, h25, H⟩ := ofBind H
 refine loop_in (fun (x : Int) => lit [(0, dc 1 eI zI p0), (1, .c (.clo cf1 [.pd cs1_0 0])), (7, cI (p0.length : Int)), (8, cI x)] []) (orJ (fun (z : Unit) => At (.exit 0) (lit [] [])) (fun (z : Int) => At .ret (lit [(4, cI z)] []))) h25 ?_ ?_
 ·clear H h25
  intro x16 y0 H
  refine so [] [] [(0, dc 1 eI zI p0), (1, .c (.clo cf1 [.pd cs1_0 0])), (7, cI (p0.length : Int)), (8, cI x16), (9, cB (decide (x16 < (p0.length : Int))))] [] id ?_
  refine seq_in ?_
  rcases ofCond H with ⟨c18, H⟩ | ⟨c18, H⟩
  ·refine it c18 ?_
   refine sk ?_
   refine seq_in ?_
   refine ends_blk ?_
   refine so [] [] [(0, dc 1 eI zI p0), (1, .c (.clo cf1 [.pd cs1_0 0])), (5, cI x16), (7, cI (p0.length : Int)), (8, cI x16)] [] id ?_
   obtain ⟨v19, h20, H⟩ := ofBind H
   obtain ⟨v21, h22, H⟩ := ofBind H
   refine so [.cs (eI v19), .res (cB v21)] [] [(0, dc 1 eI zI p0), (1, .c (.clo cf1 [.pd cs1_0 0])), (5, cI x16), (7, cI (p0.length : Int)), (8, cI x16), (16, cB v21)] [] (fun t => aI (at_lt h20) (aI (at_enc (enc := eI) h20) (aI (hf1 v19 v21 h22) (t)))) ?_
   rcases ofCond H with ⟨c23, H⟩ | ⟨c23, H⟩
   ·refine it c23 ?_
    refine so [] [] [(4, cI x16)] [] id ?_
    refine ends_ret ?_
    cases H
    exact And.intro (by simp) (And.intro rfl rfl)
   ·refine jf c23 ?_
    refine sk ?_
    refine oo [] [] [(0, dc 1 eI zI p0), (1, .c (.clo cf1 [.pd cs1_0 0])), (7, cI (p0.length : Int)), (8, cI (W (x16 + 1)))] [] id ?_
    cases H
    exact And.intro rfl rfl
  ·refine jf c18 ?_
   refine tl [] [] [] id ?_
   refine ends_exit ?_
   cases H
   exact And.intro (by simp) (And.intro rfl rfl)
 ·clear h25
  cases y24 with
  | inl y26 =>
   replace H := ofInl H
   intro e s q
   obtain ⟨rfl, rfl⟩ := q
   change EndsI _ _ _ _ _ _
   refine so [] [] [(4, cI (-1))] [] id ?_
   refine ends_ret ?_
   cases H
   exact And.intro (.inl rfl) rfl
  | inr y27 =>
   replace H := ofInr H
   intro e s q
   obtain ⟨rfl, rfl⟩ := q
   cases H
   exact And.intro (.inl rfl) rfl
def g_ContainsFunc_int_ir : S :=
 (.seq (.ops [o 4 (.mv (.v (.bool false)))])
 (.seq (.ops [o 5 (.mv (.t 0)), o 6 (.mv (.t 1)), o 7 (.call 134 [.t 5, .t 6]), o 8 (.bin .geq (.t 7) (.v (.int .i64 0))), o 4 (.mv (.t 8))])
 .ret))
noncomputable def X.g_ContainsFunc_int (p0 : (List Int)) (f1 : Int → Option Bool) : Option Bool :=
 ((X.g_IndexFunc_int p0 f1).bind fun v1 => some (decide (v1 ≥ 0)))
theorem g_ContainsFunc_int_c1_ok (p0 : (List Int)) (cf1 : FuncId) (cs1_0 : List AC) (f1 : Int → Option Bool) (hf1 : ∀ q0 r, f1 q0 = some r → FnOk Tryz.prog gl cf1 [cI q0, .c (.pd cs1_0 0)] (cB r)) (r : Bool) (H : X.g_ContainsFunc_int p0 f1 = some r) : FnOk Tryz.prog gl 70 [.c (dat 1 eI zI p0), .c (.clo cf1 [.pd cs1_0 0])] (cB r) := by
 unfold X.g_ContainsFunc_int at H
 refine fi Tryz.f70 g_ContainsFunc_int_ir [(4, cB r)] [] glL Tryz.func70 ?_
 refine so [] [] [(0, dc 1 eI zI p0), (1, .c (.clo cf1 [.pd cs1_0 0]))] [] id ?_
 obtain ⟨v1, h2, H⟩ := ofBind H
 refine so [.res (cI v1)] [] [(4, cB (decide (v1 ≥ 0)))] [] (fun t => aI (g_IndexFunc_int_c1_ok p0 (cf1) (cs1_0) f1 hf1 v1 h2) (t)) ?_
 refine ends_ret ?_
 cases H
 exact And.intro (.inl rfl) rfl
def i_inRange_ir : S :=
 (.seq (.ops [o 6 (.mv (.v (.bool false)))])
 (.seq (.ops [o 7 (.mv (.t 1)), o 8 (.mv (.t 0)), o 9 (.bin .leq (.t 7) (.t 8)), o 10 (.mv (.t 9)), ⟨some 11, .mv (.t 0), some (10, true)⟩, ⟨some 12, .mv (.t 2), some (10, true)⟩, ⟨some 13, .bin .leq (.t 11) (.t 12), some (10, true)⟩, o 14 (.pick (.t 10) (.t 13) (.v (.bool false))), o 6 (.mv (.t 14))])
 .ret))
noncomputable def X.i_inRange (p0 : Int) (p1 : Int) (p2 : Int) : Option Bool :=
 (bif (decide (p1 ≤ p0)) then some (decide (p0 ≤ p2)) else some false)
theorem i_inRange_ok (p0 : Int) (p1 : Int) (p2 : Int) (r : Bool) (H : X.i_inRange p0 p1 p2 = some r) : FnOk Tryz.prog gl 145 [cI p0, cI p1, cI p2] (cB r) := by
 unfold X.i_inRange at H
 refine fi Tryz.f145 i_inRange_ir [(6, cB r)] [] glL Tryz.func145 ?_
 refine so [] [] [(0, cI p0), (1, cI p1), (2, cI p2)] [] id ?_
 rcases ofCond H with ⟨c1, H⟩ | ⟨c1, H⟩
 ·refine so [.g true, .g true, .g true, .g true] [] [(6, cB (decide (p0 ≤ p2)))] [] (fun t => aI c1 (aI c1 (aI c1 (aI c1 (t))))) ?_
  refine ends_ret ?_
  cases H
  exact And.intro (.inl rfl) rfl
 ·refine so [.g false, .g false, .g false, .g false] [] [(6, cB false)] [] (fun t => aI c1 (aI c1 (aI c1 (aI c1 (t))))) ?_
  refine ends_ret ?_
  cases H
  exact And.intro (.inl rfl) rfl
theorem g_IndexFunc_int_c0_ok (p0 : (List Int)) (cf1 : FuncId) (f1 : Int → Option Bool) (hf1 : ∀ q0 r, f1 q0 = some r → FnOk Tryz.prog gl cf1 [cI q0] (cB r)) (r : Int) (H : X.g_IndexFunc_int p0 f1 = some r) : FnOk Tryz.prog gl 134 [.c (dat 1 eI zI p0), .c (.clo cf1 [])] (cI r) := by
 unfold X.g_IndexFunc_int at H
 refine fi Tryz.f134 g_IndexFunc_int_ir [(4, cI r)] [] glL Tryz.func134 ?_
 refine so [] [] [(0, dc 1 eI zI p0), (1, .c (.clo cf1 []))] [] id ?_
 refine seq_in ?_
 refine so [] [] [(0, dc 1 eI zI p0), (1, .c (.clo cf1 [])), (7, cI (p0.length : Int)), (8, cI 0)] [] (fun t => lI p0 (t)) ?_
 refine ends_blk ?_
 obtain ⟨y24, h25, H⟩ := ofBind H
 refine loop_in (fun (x : Int) => lit [(0, dc 1 eI zI p0), (1, .c (.clo cf1 [])), (7, cI (p0.length : Int)), (8, cI x)] []) (orJ (fun (z : Unit) => At (.exit 0) (lit [] [])) (fun (z : Int) => At .ret (lit [(4, cI z)] []))) h25 ?_ ?_
 ·clear H h25
  intro x16 y0 H
  refine so [] [] [(0, dc 1 eI zI p0), (1, .c (.clo cf1 [])), (7, cI (p0.length : Int)), (8, cI x16), (9, cB (decide (x16 < (p0.length : Int))))] [] id ?_
  refine seq_in ?_
  rcases ofCond H with ⟨c18, H⟩ | ⟨c18, H⟩
  ·refine it c18 ?_
   refine sk ?_
   refine seq_in ?_
   refine ends_blk ?_
   refine so [] [] [(0, dc 1 eI zI p0), (1, .c (.clo cf1 [])), (5, cI x16), (7, cI (p0.length : Int)), (8, cI x16)] [] id ?_
   obtain ⟨v19, h20, H⟩ := ofBind H
   obtain ⟨v21, h22, H⟩ := ofBind H
   refine so [.cs (eI v19), .res (cB v21)] [] [(0, dc 1 eI zI p0), (1, .c (.clo cf1 [])), (5, cI x16), (7, cI (p0.length : Int)), (8, cI x16), (16, cB v21)] [] (fun t => aI (at_lt h20) (aI (at_enc (enc := eI) h20) (aI (hf1 v19 v21 h22) (t)))) ?_
   rcases ofCond H with ⟨c23, H⟩ | ⟨c23, H⟩
   ·refine it c23 ?_
    refine so [] [] [(4, cI x16)] [] id ?_
    refine ends_ret ?_
    cases H
    exact And.intro (by simp) (And.intro rfl rfl)
   ·refine jf c23 ?_
    refine sk ?_
    refine oo [] [] [(0, dc 1 eI zI p0), (1, .c (.clo cf1 [])), (7, cI (p0.length : Int)), (8, cI (W (x16 + 1)))] [] id ?_
    cases H
    exact And.intro rfl rfl
  ·refine jf c18 ?_
   refine tl [] [] [] id ?_
   refine ends_exit ?_
   cases H
   exact And.intro (by simp) (And.intro rfl rfl)
 ·clear h25
  cases y24 with
  | inl y26 =>
   replace H := ofInl H
   intro e s q
   obtain ⟨rfl, rfl⟩ := q
   change EndsI _ _ _ _ _ _
   refine so [] [] [(4, cI (-1))] [] id ?_
   refine ends_ret ?_
   cases H
   exact And.intro (.inl rfl) rfl
  | inr y27 =>
   replace H := ofInr H
   intro e s q
   obtain ⟨rfl, rfl⟩ := q
   cases H
   exact And.intro (.inl rfl) rfl
theorem g_ContainsFunc_int_c0_ok (p0 : (List Int)) (cf1 : FuncId) (f1 : Int → Option Bool) (hf1 : ∀ q0 r, f1 q0 = some r → FnOk Tryz.prog gl cf1 [cI q0] (cB r)) (r : Bool) (H : X.g_ContainsFunc_int p0 f1 = some r) : FnOk Tryz.prog gl 70 [.c (dat 1 eI zI p0), .c (.clo cf1 [])] (cB r) := by
 unfold X.g_ContainsFunc_int at H
 refine fi Tryz.f70 g_ContainsFunc_int_ir [(4, cB r)] [] glL Tryz.func70 ?_
 refine so [] [] [(0, dc 1 eI zI p0), (1, .c (.clo cf1 []))] [] id ?_
 obtain ⟨v1, h2, H⟩ := ofBind H
 refine so [.res (cI v1)] [] [(4, cB (decide (v1 ≥ 0)))] [] (fun t => aI (g_IndexFunc_int_c0_ok p0 (cf1) f1 hf1 v1 h2) (t)) ?_
 refine ends_ret ?_
 cases H
 exact And.intro (.inl rfl) rfl
def i_isName_ir : S :=
 (.seq (.ops [o 2 (.mv (.v (.bool false)))])
 (.seq (.seq (.ops [o 3 (.mv (.v (.int .i64 0)))])
 (.blk 0 (.loop (.seq (.seq (.ops [o 4 (.mv (.t 3)), o 5 (.mv (.t 0)), o 6 (.lens (.t 5)), o 7 (.bin .lss (.t 4) (.t 6))])
   (.ite (.t 7) .skip
   (.exit 0)))
   (.seq (.blk 1 (.seq (.ops [o 10 (.mv (.t 0)), o 11 (.mv (.t 3)), o 12 (.ixs (.t 10) (.t 11)), o 13 (.bin .lss (.t 12) (.v (.int .u8 97))), o 14 (.mv (.t 13)), ⟨some 15, .mv (.t 0), some (14, false)⟩, ⟨some 16, .mv (.t 3), some (14, false)⟩, ⟨some 17, .ixs (.t 15) (.t 16), some (14, false)⟩, ⟨some 18, .bin .gtr (.t 17) (.v (.int .u8 122)), some (14, false)⟩, o 19 (.pick (.t 14) (.v (.bool true)) (.t 18))])
    (.ite (.t 19) (.seq (.ops [o 2 (.mv (.v (.bool false)))])
     .ret)
    .skip)))
   (.ops [o 8 (.mv (.t 3)), o 9 (.bin .add (.t 8) (.v (.int .i64 1))), o 3 (.mv (.t 9))]))))))
 (.seq (.ops [o 20 (.mv (.t 0)), o 21 (.lens (.t 20)), o 22 (.call 145 [.t 21, .v (.int .i64 1), .v (.int .i64 8)]), o 2 (.mv (.t 22))])
 .ret)))
noncomputable def X.i_isName (p0 : (List UInt8)) : Option Bool :=
 ((loop (fun (x14 : Int) => ((bif (decide (x14 < (p0.length : Int))) then (if 0 ≤ x14 ∧ x14 < (p0.length : Int) then (bif (decide ((((p0.getD x14.toNat 0).toNat : Nat) : Int) < 97)) then some (Sum.inr (Sum.inr false)) else (if 0 ≤ x14 ∧ x14 < (p0.length : Int) then (bif (decide ((((p0.getD x14.toNat 0).toNat : Nat) : Int) > 122)) then some (Sum.inr (Sum.inr false)) else some (Sum.inl (W (x14 + 1)))) else none)) else none) else some (Sum.inr (Sum.inl ()))) : Option (Int ⊕ (Unit ⊕ Bool)))) 0).bind fun y21 => (Sum.elim (fun (y23 : Unit) => ((X.i_inRange (p0.length : Int) 1 8).bind fun v25 => some v25)) (fun (y24 : Bool) => some y24) y21))
theorem i_isName_ok (p0 : (List UInt8)) (r : Bool) (H : X.i_isName p0 = some r) : FnOk Tryz.prog gl 223 [.c (.str p0)] (cB r) := by
 unfold X.i_isName at H
 refine fi Tryz.f223 i_isName_ir [(2, cB r)] [] glL Tryz.func223 ?_
 refine so [] [] [(0, .c (.str p0))] [] id ?_
 refine seq_in ?_
 refine so [] [] [(0, .c (.str p0)), (3, cI 0)] [] id ?_
 refine ends_blk ?_
 obtain ⟨y21, h22, H⟩ := ofBind H
 refine loop_in (fun (x : Int) => lit [(0, .c (.str p0)), (3, cI x)] []) (orJ (fun (z : Unit) => At (.exit 0) (lit [(0, .c (.str p0))] [])) (fun (z : Bool) => At .ret (lit [(2, cB z)] []))) h22 ?_ ?_
 ·clear H h22
  intro x14 y0 H
  refine seq_in ?_
  refine so [] [] [(0, .c (.str p0)), (3, cI x14), (7, cB (decide (x14 < (p0.length : Int))))] [] id ?_
  rcases ofCond H with ⟨c16, H⟩ | ⟨c16, H⟩
  ·refine it c16 ?_
   refine sk ?_
   refine seq_in ?_
   refine ends_blk ?_
   obtain ⟨g17, H⟩ := ofIf H
   rcases ofCond H with ⟨c18, H⟩ | ⟨c18, H⟩
   ·refine so [.g true, .g true, .g true, .g true, .g true] [] [(0, .c (.str p0)), (3, cI x14), (19, cB true)] [] (fun t => aI g17 (aI c18 (aI c18 (aI c18 (aI c18 (aI c18 (t))))))) ?_
    refine it (rfl : (true : Bool) = true) ?_
    refine so [] [] [(2, cB false)] [] id ?_
    refine ends_ret ?_
    cases H
    exact And.intro (by simp) (And.intro rfl rfl)
   ·obtain ⟨g19, H⟩ := ofIf H
    refine so [.g false, .g false, .g false, .g false, .g false] [] [(0, .c (.str p0)), (3, cI x14), (19, cB (decide ((((p0.getD x14.toNat 0).toNat : Nat) : Int) > 122)))] [] (fun t => aI g17 (aI c18 (aI c18 (aI c18 (aI g19 (aI c18 (aI c18 (t)))))))) ?_
    rcases ofCond H with ⟨c20, H⟩ | ⟨c20, H⟩
    ·refine it c20 ?_
     refine so [] [] [(2, cB false)] [] id ?_
     refine ends_ret ?_
     cases H
     exact And.intro (by simp) (And.intro rfl rfl)
    ·refine jf c20 ?_
     refine sk ?_
     refine oo [] [] [(0, .c (.str p0)), (3, cI (W (x14 + 1)))] [] id ?_
     cases H
     exact And.intro rfl rfl
  ·refine jf c16 ?_
   refine tl [] [(0, .c (.str p0))] [] id ?_
   refine ends_exit ?_
   cases H
   exact And.intro (by simp) (And.intro rfl rfl)
 ·clear h22
  cases y21 with
  | inl y23 =>
   replace H := ofInl H
   intro e s q
   obtain ⟨rfl, rfl⟩ := q
   change EndsI _ _ _ _ _ _
   obtain ⟨v25, h26, H⟩ := ofBind H
   refine so [.res (cB v25)] [] [(2, cB v25)] [] (fun t => aI (i_inRange_ok (p0.length : Int) 1 8 v25 h26) (t)) ?_
   refine ends_ret ?_
   cases H
   exact And.intro (.inl rfl) rfl
  | inr y24 =>
   replace H := ofInr H
   intro e s q
   obtain ⟨rfl, rfl⟩ := q
   cases H
   exact And.intro (.inl rfl) rfl
def i_goodTerrain_1_ir : S :=
 (.seq (.ops [o 2 (.mv (.v (.bool false)))])
 (.seq (.ops [o 3 (.mv (.t 0)), o 4 (.call 145 [.t 3, .v (.int .i64 0), .v (.int .i64 9)]), o 5 (.not (.t 4)), o 2 (.mv (.t 5))])
 .ret))
noncomputable def X.i_goodTerrain_1 (p0 : Int) : Option Bool :=
 ((X.i_inRange p0 0 9).bind fun v1 => some (!v1))
theorem i_goodTerrain_1_ok (p0 : Int) (r : Bool) (H : X.i_goodTerrain_1 p0 = some r) : FnOk Tryz.prog gl 224 [cI p0] (cB r) := by
 unfold X.i_goodTerrain_1 at H
 refine fi Tryz.f224 i_goodTerrain_1_ir [(2, cB r)] [] glL Tryz.func224 ?_
 refine so [] [] [(0, cI p0)] [] id ?_
 obtain ⟨v1, h2, H⟩ := ofBind H
 refine so [.res (cB v1)] [] [(2, cB (!v1))] [] (fun t => aI (i_inRange_ok p0 0 9 v1 h2) (t)) ?_
 refine ends_ret ?_
 cases H
 exact And.intro (.inl rfl) rfl
def i_goodTerrain_ir : S :=
 (.seq (.ops [o 2 (.box 5 (.t 0)), o 4 (.mv (.v (.bool false)))])
 (.seq (.seq (.ops [o 5 (.fad 0 (.t 2)), o 6 (.load 1 false (.t 5)), o 7 (.call 223 [.t 6]), o 8 (.not (.t 7)), o 9 (.mv (.t 8)), ⟨some 10, .fad 1 (.t 2), some (9, false)⟩, ⟨some 11, .load 1 false (.t 10), some (9, false)⟩, ⟨some 12, .len (.t 11), some (9, false)⟩, ⟨some 13, .mv (.t 1), some (9, false)⟩, ⟨some 14, .bin .neq (.t 12) (.t 13), some (9, false)⟩, o 15 (.pick (.t 9) (.v (.bool true)) (.t 14)), o 16 (.mv (.t 15)), ⟨some 17, .fad 2 (.t 2), some (16, false)⟩, ⟨some 18, .load 1 false (.t 17), some (16, false)⟩, ⟨some 19, .call 145 [.t 18, .v (.int .i64 (-3)), .v (.int .i64 3)], some (16, false)⟩, ⟨some 20, .not (.t 19), some (16, false)⟩, o 21 (.pick (.t 16) (.v (.bool true)) (.t 20)), o 22 (.mv (.t 21)), ⟨some 23, .fad 3 (.t 2), some (22, false)⟩, ⟨some 24, .load 1 false (.t 23), some (22, false)⟩, ⟨some 25, .call 145 [.t 24, .v (.int .i64 0), .v (.int .i64 3)], some (22, false)⟩, ⟨some 26, .not (.t 25), some (22, false)⟩, o 27 (.pick (.t 22) (.v (.bool true)) (.t 26))])
 (.ite (.t 27) (.seq (.ops [o 4 (.mv (.v (.bool false)))])
  .ret)
 .skip))
 (.seq (.ops [o 28 (.fad 1 (.t 2)), o 29 (.load 1 false (.t 28)), o 30 (.call 70 [.t 29, .f 224]), o 31 (.not (.t 30)), o 4 (.mv (.t 31))])
 .ret)))
noncomputable def X.i_goodTerrain (p0 : TTerrain) (p1 : Int) : Option Bool :=
 ((X.i_isName p0.Name).bind fun v1 => (bif (!v1) then some false else (bif ((p0.Cost.length : Int) != p1) then some false else ((X.i_inRange p0.Shift (-3) 3).bind fun v5 => (bif (!v5) then some false else ((X.i_inRange p0.Height 0 3).bind fun v8 => (bif (!v8) then some false else ((X.g_ContainsFunc_int p0.Cost (fun q0 => X.i_goodTerrain_1 q0)).bind fun v11 => some (!v11)))))))))
theorem i_goodTerrain_ok (p0 : TTerrain) (p1 : Int) (r : Bool) (H : X.i_goodTerrain p0 p1 = some r) : FnOk Tryz.prog gl 213 [.agg (eTTerrain p0), cI p1] (cB r) := by
 unfold X.i_goodTerrain at H
 refine fi Tryz.f213 i_goodTerrain_ir [(4, cB r)] [] glL Tryz.func213 ?_
 refine so [] [] [(1, cI p1), (2, pk 2)] [(2, va (eTTerrain p0))] id ?_
 refine seq_in ?_
 obtain ⟨v1, h2, H⟩ := ofBind H
 rcases ofCond H with ⟨c3, H⟩ | ⟨c3, H⟩
 ·refine so [.res (cB v1), .g true, .g true, .g true, .g true, .g true, .g true, .g true, .g true, .g true, .g true, .g true, .g true, .g true, .g true, .g true, .g true] [] [(2, pk 2), (27, cB true)] [(2, va (eTTerrain p0))] (fun t => aI (i_isName_ok p0.Name v1 h2) (aI c3 (aI c3 (aI c3 (aI c3 (aI c3 (aI c3 (aI (rfl : (true : Bool) = true) (aI (rfl : (true : Bool) = true) (aI (rfl : (true : Bool) = true) (aI (rfl : (true : Bool) = true) (aI (rfl : (true : Bool) = true) (aI (rfl : (true : Bool) = true) (aI (rfl : (true : Bool) = true) (aI (rfl : (true : Bool) = true) (aI (rfl : (true : Bool) = true) (aI (rfl : (true : Bool) = true) (t)))))))))))))))))) ?_
  refine it (rfl : (true : Bool) = true) ?_
  refine so [] [] [(4, cB false)] [] id ?_
  refine ends_ret ?_
  cases H
  exact And.intro (.inl rfl) rfl
 ·rcases ofCond H with ⟨c4, H⟩ | ⟨c4, H⟩
  ·refine so [.res (cB v1), .g false, .g false, .g false, .g false, .g false, .g false, .g true, .g true, .g true, .g true, .g true, .g true, .g true, .g true, .g true, .g true] [] [(2, pk 2), (27, cB true)] [(2, va (eTTerrain p0))] (fun t => aI (i_isName_ok p0.Name v1 h2) (aI c3 (aI c3 (aI c3 (lI p0.Cost (aI c3 (aI c3 (aI c3 (aI c4 (aI c4 (aI c4 (aI c4 (aI c4 (aI (rfl : (true : Bool) = true) (aI (rfl : (true : Bool) = true) (aI (rfl : (true : Bool) = true) (aI (rfl : (true : Bool) = true) (aI (rfl : (true : Bool) = true) (t))))))))))))))))))) ?_
   refine it (rfl : (true : Bool) = true) ?_
   refine so [] [] [(4, cB false)] [] id ?_
   refine ends_ret ?_
   cases H
   exact And.intro (.inl rfl) rfl
  ·obtain ⟨v5, h6, H⟩ := ofBind H
   rcases ofCond H with ⟨c7, H⟩ | ⟨c7, H⟩
   ·refine so [.res (cB v1), .g false, .g false, .g false, .g false, .g false, .g false, .g false, .g false, .g false, .res (cB v5), .g false, .g false, .g true, .g true, .g true, .g true, .g true] [] [(2, pk 2), (27, cB true)] [(2, va (eTTerrain p0))] (fun t => aI (i_isName_ok p0.Name v1 h2) (aI c3 (aI c3 (aI c3 (lI p0.Cost (aI c3 (aI c3 (aI c3 (aI c4 (aI c4 (aI c4 (aI (i_inRange_ok p0.Shift (-3) 3 v5 h6) (aI c4 (aI c4 (aI c7 (aI c7 (aI c7 (aI c7 (aI c7 (t)))))))))))))))))))) ?_
    refine it (rfl : (true : Bool) = true) ?_
    refine so [] [] [(4, cB false)] [] id ?_
    refine ends_ret ?_
    cases H
    exact And.intro (.inl rfl) rfl
   ·obtain ⟨v8, h9, H⟩ := ofBind H
    refine so [.res (cB v1), .g false, .g false, .g false, .g false, .g false, .g false, .g false, .g false, .g false, .res (cB v5), .g false, .g false, .g false, .g false, .g false, .res (cB v8), .g false, .g false] [] [(2, pk 2), (27, cB (!v8))] [(2, va (eTTerrain p0))] (fun t => aI (i_isName_ok p0.Name v1 h2) (aI c3 (aI c3 (aI c3 (lI p0.Cost (aI c3 (aI c3 (aI c3 (aI c4 (aI c4 (aI c4 (aI (i_inRange_ok p0.Shift (-3) 3 v5 h6) (aI c4 (aI c4 (aI c7 (aI c7 (aI c7 (aI (i_inRange_ok p0.Height 0 3 v8 h9) (aI c7 (aI c7 (t))))))))))))))))))))) ?_
    rcases ofCond H with ⟨c10, H⟩ | ⟨c10, H⟩
    ·refine it c10 ?_
     refine so [] [] [(4, cB false)] [] id ?_
     refine ends_ret ?_
     cases H
     exact And.intro (.inl rfl) rfl
    ·refine jf c10 ?_
     refine sk ?_
     obtain ⟨v11, h12, H⟩ := ofBind H
     refine so [.res (cB v11)] [] [(4, cB (!v11))] [] (fun t => aI (g_ContainsFunc_int_c0_ok p0.Cost (224) (fun q0 => X.i_goodTerrain_1 q0) (fun q0 r h => i_goodTerrain_1_ok q0 r h) v11 h12) (t)) ?_
     refine ends_ret ?_
     cases H
     exact And.intro (.inl rfl) rfl
def g_IndexFunc_Terrain_ir : S :=
 (.seq (.ops [o 4 (.mv (.v (.int .i64 0)))])
 (.seq (.seq (.ops [o 6 (.mv (.t 0)), o 7 (.len (.t 6)), o 8 (.mv (.v (.int .i64 0)))])
 (.blk 0 (.loop (.seq (.ops [o 9 (.bin .lss (.t 8) (.t 7))])
   (.seq (.ite (.t 9) .skip
   (.exit 0))
   (.seq (.blk 1 (.seq (.ops [o 10 (.mv (.t 8)), o 5 (.mv (.t 10))])
    (.seq (.ops [o 11 (.mv (.t 1)), o 12 (.mv (.t 0)), o 13 (.mv (.t 5)), o 14 (.iad 5 (.t 12) (.t 13)), o 15 (.load 5 true (.t 14)), o 16 (.cald (.t 11) [.t 15])])
    (.ite (.t 16) (.seq (.ops [o 17 (.mv (.t 5)), o 4 (.mv (.t 17))])
     .ret)
    .skip))))
   (.ops [o 18 (.bin .add (.t 8) (.v (.int .i64 1))), o 8 (.mv (.t 18))])))))))
 (.seq (.ops [o 4 (.mv (.v (.int .i64 (-1))))])
 .ret)))
noncomputable def X.g_IndexFunc_Terrain (p0 : (List TTerrain)) (f1 : TTerrain → Option Bool) : Option Int :=
 ((loop (fun (x16 : Int) => ((bif (decide (x16 < (p0.length : Int))) then ((at' zTTerrain p0 x16).bind fun v19 => ((f1 v19).bind fun v21 => (bif v21 then some (Sum.inr (Sum.inr x16)) else some (Sum.inl (W (x16 + 1)))))) else some (Sum.inr (Sum.inl ()))) : Option (Int ⊕ (Unit ⊕ Int)))) 0).bind fun y24 => (Sum.elim (fun (y26 : Unit) => some (-1)) (fun (y27 : Int) => some y27) y24))
theorem g_IndexFunc_Terrain_c1_ok (p0 : (List TTerrain)) (cf1 : FuncId) (cs1_0 : List AC) (f1 : TTerrain → Option Bool) (hf1 : ∀ q0 r, f1 q0 = some r → FnOk Tryz.prog gl cf1 [.agg (eTTerrain q0), .c (.pd cs1_0 0)] (cB r)) (r : Int) (H : X.g_IndexFunc_Terrain p0 f1 = some r) : FnOk Tryz.prog gl 225 [.c (dat 5 eTTerrain zTTerrain p0), .c (.clo cf1 [.pd cs1_0 0])] (cI r) := by
 unfold X.g_IndexFunc_Terrain at H
 refine fi Tryz.f225 g_IndexFunc_Terrain_ir [(4, cI r)] [] glL Tryz.func225 ?_
 refine so [] [] [(0, dc 5 eTTerrain zTTerrain p0), (1, .c (.clo cf1 [.pd cs1_0 0]))] [] id ?_
 refine seq_in ?_
 refine so [] [] [(0, dc 5 eTTerrain zTTerrain p0), (1, .c (.clo cf1 [.pd cs1_0 0])), (7, cI (p0.length : Int)), (8, cI 0)] [] (fun t => lI p0 (t)) ?_
 refine ends_blk ?_
 obtain ⟨y24, h25, H⟩ := ofBind H
 refine loop_in (fun (x : Int) => lit [(0, dc 5 eTTerrain zTTerrain p0), (1, .c (.clo cf1 [.pd cs1_0 0])), (7, cI (p0.length : Int)), (8, cI x)] []) (orJ (fun (z : Unit) => At (.exit 0) (lit [] [])) (fun (z : Int) => At .ret (lit [(4, cI z)] []))) h25 ?_ ?_
 ·clear H h25
  intro x16 y0 H
  refine so [] [] [(0, dc 5 eTTerrain zTTerrain p0), (1, .c (.clo cf1 [.pd cs1_0 0])), (7, cI (p0.length : Int)), (8, cI x16), (9, cB (decide (x16 < (p0.length : Int))))] [] id ?_
  refine seq_in ?_
  rcases ofCond H with ⟨c18, H⟩ | ⟨c18, H⟩
  ·refine it c18 ?_
   refine sk ?_
   refine seq_in ?_
   refine ends_blk ?_
   refine so [] [] [(0, dc 5 eTTerrain zTTerrain p0), (1, .c (.clo cf1 [.pd cs1_0 0])), (5, cI x16), (7, cI (p0.length : Int)), (8, cI x16)] [] id ?_
   obtain ⟨v19, h20, H⟩ := ofBind H
   obtain ⟨v21, h22, H⟩ := ofBind H
   refine so [.cs (eTTerrain v19), .res (cB v21)] [] [(0, dc 5 eTTerrain zTTerrain p0), (1, .c (.clo cf1 [.pd cs1_0 0])), (5, cI x16), (7, cI (p0.length : Int)), (8, cI x16), (16, cB v21)] [] (fun t => aI (at_lt h20) (aI (at_enc (enc := eTTerrain) h20) (aI (hf1 v19 v21 h22) (t)))) ?_
   rcases ofCond H with ⟨c23, H⟩ | ⟨c23, H⟩
   ·refine it c23 ?_
    refine so [] [] [(4, cI x16)] [] id ?_
    refine ends_ret ?_
    cases H
    exact And.intro (by simp) (And.intro rfl rfl)
   ·refine jf c23 ?_
    refine sk ?_
    refine oo [] [] [(0, dc 5 eTTerrain zTTerrain p0), (1, .c (.clo cf1 [.pd cs1_0 0])), (7, cI (p0.length : Int)), (8, cI (W (x16 + 1)))] [] id ?_
    cases H
    exact And.intro rfl rfl
  ·refine jf c18 ?_
   refine tl [] [] [] id ?_
   refine ends_exit ?_
   cases H
   exact And.intro (by simp) (And.intro rfl rfl)
 ·clear h25
  cases y24 with
  | inl y26 =>
   replace H := ofInl H
   intro e s q
   obtain ⟨rfl, rfl⟩ := q
   change EndsI _ _ _ _ _ _
   refine so [] [] [(4, cI (-1))] [] id ?_
   refine ends_ret ?_
   cases H
   exact And.intro (.inl rfl) rfl
  | inr y27 =>
   replace H := ofInr H
   intro e s q
   obtain ⟨rfl, rfl⟩ := q
   cases H
   exact And.intro (.inl rfl) rfl
def i_terrainIndex_1_ir : S :=
 (.seq (.ops [o 2 (.box 5 (.t 0)), o 3 (.mv (.v (.bool false)))])
 (.seq (.ops [o 4 (.fad 0 (.t 2)), o 5 (.load 1 false (.t 4)), o 6 (.load 1 false (.t 1)), o 7 (.bin .eql (.t 5) (.t 6)), o 3 (.mv (.t 7))])
 .ret))
noncomputable def X.i_terrainIndex_1 (p0 : TTerrain) (p1 : (List UInt8)) : Option Bool :=
 some (p0.Name == p1)
theorem i_terrainIndex_1_ok (p0 : TTerrain) (p1 : (List UInt8)) (r : Bool) (H : X.i_terrainIndex_1 p0 p1 = some r) : FnOk Tryz.prog gl 226 [.agg (eTTerrain p0), .c (.pd (eS p1) 0)] (cB r) := by
 unfold X.i_terrainIndex_1 at H
 refine fi Tryz.f226 i_terrainIndex_1_ir [(3, cB r)] [] glL Tryz.func226 ?_
 refine so [] [] [(1, .c (.pd (eS p1) 0)), (2, pk 2)] [(2, va (eTTerrain p0))] id ?_
 refine so [] [] [(3, cB (p0.Name == p1))] [] id ?_
 refine ends_ret ?_
 cases H
 exact And.intro (.inl rfl) rfl
def i_terrainIndex_ir : S :=
 (.seq (.ops [o 3 (.box 1 (.t 1)), o 4 (.mv (.v (.int .i64 0)))])
 (.seq (.ops [o 5 (.mv (.t 0)), o 6 (.clo 226 [.t 3]), o 7 (.call 225 [.t 5, .t 6]), o 4 (.mv (.t 7))])
 .ret))
noncomputable def X.i_terrainIndex (p0 : (List TTerrain)) (p1 : (List UInt8)) : Option Int :=
 ((X.g_IndexFunc_Terrain p0 (fun q0 => X.i_terrainIndex_1 q0 p1)).bind fun v1 => some v1)
theorem i_terrainIndex_ok (p0 : (List TTerrain)) (p1 : (List UInt8)) (r : Int) (H : X.i_terrainIndex p0 p1 = some r) : FnOk Tryz.prog gl 214 [.c (dat 5 eTTerrain zTTerrain p0), .c (.str p1)] (cI r) := by
 unfold X.i_terrainIndex at H
 refine fi Tryz.f214 i_terrainIndex_ir [(4, cI r)] [] glL Tryz.func214 ?_
 refine so [] [] [(0, dc 5 eTTerrain zTTerrain p0), (3, pk 3)] [(3, .var [.str p1] false)] id ?_
 obtain ⟨v1, h2, H⟩ := ofBind H
 refine so [.res (cI v1)] [] [(4, cI v1)] [] (fun t => aI (g_IndexFunc_Terrain_c1_ok p0 (226) (eS p1) (fun q0 => X.i_terrainIndex_1 q0 p1) (fun q0 r h => i_terrainIndex_1_ok q0 p1 r h) v1 h2) (t)) ?_
 refine ends_ret ?_
 cases H
 exact And.intro (.inl rfl) rfl
def i_goodKind_ir : S :=
 (.seq (.ops [o 1 (.box 6 (.t 0)), o 2 (.mv (.v (.bool false)))])
 (.seq (.ops [o 3 (.fad 0 (.t 1)), o 4 (.load 1 false (.t 3)), o 5 (.call 223 [.t 4]), o 6 (.mv (.t 5)), ⟨some 7, .fad 1 (.t 1), some (6, true)⟩, ⟨some 8, .load 1 false (.t 7), some (6, true)⟩, ⟨some 9, .call 145 [.t 8, .v (.int .i64 1), .v (.int .i64 9)], some (6, true)⟩, o 10 (.pick (.t 6) (.t 9) (.v (.bool false))), o 11 (.mv (.t 10)), ⟨some 12, .fad 2 (.t 1), some (11, true)⟩, ⟨some 13, .load 1 false (.t 12), some (11, true)⟩, ⟨some 14, .call 145 [.t 13, .v (.int .i64 0), .v (.int .i64 9)], some (11, true)⟩, o 15 (.pick (.t 11) (.t 14) (.v (.bool false))), o 16 (.mv (.t 15)), ⟨some 17, .fad 3 (.t 1), some (16, true)⟩, ⟨some 18, .load 1 false (.t 17), some (16, true)⟩, ⟨some 19, .call 145 [.t 18, .v (.int .i64 1), .v (.int .i64 4)], some (16, true)⟩, o 20 (.pick (.t 16) (.t 19) (.v (.bool false))), o 21 (.mv (.t 20)), ⟨some 22, .fad 5 (.t 1), some (21, true)⟩, ⟨some 23, .load 1 false (.t 22), some (21, true)⟩, ⟨some 24, .call 145 [.t 23, .v (.int .i64 0), .v (.int .i64 4)], some (21, true)⟩, o 25 (.pick (.t 21) (.t 24) (.v (.bool false))), o 2 (.mv (.t 25))])
 .ret))
noncomputable def X.i_goodKind (p0 : TKind) : Option Bool :=
 ((X.i_isName p0.Name).bind fun v1 => (bif v1 then ((X.i_inRange p0.Strength 1 9).bind fun v4 => (bif v4 then ((X.i_inRange p0.Moves 0 9).bind fun v7 => (bif v7 then ((X.i_inRange p0.Steps 1 4).bind fun v10 => (bif v10 then ((X.i_inRange p0.View 0 4).bind fun v13 => some v13) else some false)) else some false)) else some false)) else some false))
theorem i_goodKind_ok (p0 : TKind) (r : Bool) (H : X.i_goodKind p0 = some r) : FnOk Tryz.prog gl 215 [.agg (eTKind p0)] (cB r) := by
 unfold X.i_goodKind at H
 refine fi Tryz.f215 i_goodKind_ir [(2, cB r)] [] glL Tryz.func215 ?_
 refine so [] [] [(1, pk 1)] [(1, va (eTKind p0))] id ?_
 obtain ⟨v1, h2, H⟩ := ofBind H
 rcases ofCond H with ⟨c3, H⟩ | ⟨c3, H⟩
 ·obtain ⟨v4, h5, H⟩ := ofBind H
  rcases ofCond H with ⟨c6, H⟩ | ⟨c6, H⟩
  ·obtain ⟨v7, h8, H⟩ := ofBind H
   rcases ofCond H with ⟨c9, H⟩ | ⟨c9, H⟩
   ·obtain ⟨v10, h11, H⟩ := ofBind H
    rcases ofCond H with ⟨c12, H⟩ | ⟨c12, H⟩
    ·obtain ⟨v13, h14, H⟩ := ofBind H
     refine so [.res (cB v1), .g true, .g true, .g true, .res (cB v4), .g true, .g true, .g true, .g true, .res (cB v7), .g true, .g true, .g true, .g true, .res (cB v10), .g true, .g true, .g true, .g true, .res (cB v13), .g true] [] [(2, cB v13)] [] (fun t => aI (i_isName_ok p0.Name v1 h2) (aI c3 (aI c3 (aI c3 (aI (i_inRange_ok p0.Strength 1 9 v4 h5) (aI c3 (aI c6 (aI c6 (aI c6 (aI (i_inRange_ok p0.Moves 0 9 v7 h8) (aI c6 (aI c9 (aI c9 (aI c9 (aI (i_inRange_ok p0.Steps 1 4 v10 h11) (aI c9 (aI c12 (aI c12 (aI c12 (aI (i_inRange_ok p0.View 0 4 v13 h14) (aI c12 (t)))))))))))))))))))))) ?_
     refine ends_ret ?_
     cases H
     exact And.intro (.inl rfl) rfl
    ·refine so [.res (cB v1), .g true, .g true, .g true, .res (cB v4), .g true, .g true, .g true, .g true, .res (cB v7), .g true, .g true, .g true, .g true, .res (cB v10), .g true, .g false, .g false, .g false, .g false] [] [(2, cB false)] [] (fun t => aI (i_isName_ok p0.Name v1 h2) (aI c3 (aI c3 (aI c3 (aI (i_inRange_ok p0.Strength 1 9 v4 h5) (aI c3 (aI c6 (aI c6 (aI c6 (aI (i_inRange_ok p0.Moves 0 9 v7 h8) (aI c6 (aI c9 (aI c9 (aI c9 (aI (i_inRange_ok p0.Steps 1 4 v10 h11) (aI c9 (aI c12 (aI c12 (aI c12 (aI c12 (t))))))))))))))))))))) ?_
     refine ends_ret ?_
     cases H
     exact And.intro (.inl rfl) rfl
   ·refine so [.res (cB v1), .g true, .g true, .g true, .res (cB v4), .g true, .g true, .g true, .g true, .res (cB v7), .g true, .g false, .g false, .g false, .g false, .g false, .g false, .g false, .g false] [] [(2, cB false)] [] (fun t => aI (i_isName_ok p0.Name v1 h2) (aI c3 (aI c3 (aI c3 (aI (i_inRange_ok p0.Strength 1 9 v4 h5) (aI c3 (aI c6 (aI c6 (aI c6 (aI (i_inRange_ok p0.Moves 0 9 v7 h8) (aI c6 (aI c9 (aI c9 (aI c9 (aI c9 (aI (rfl : (false : Bool) = false) (aI (rfl : (false : Bool) = false) (aI (rfl : (false : Bool) = false) (aI (rfl : (false : Bool) = false) (t)))))))))))))))))))) ?_
    refine ends_ret ?_
    cases H
    exact And.intro (.inl rfl) rfl
  ·refine so [.res (cB v1), .g true, .g true, .g true, .res (cB v4), .g true, .g false, .g false, .g false, .g false, .g false, .g false, .g false, .g false, .g false, .g false, .g false, .g false] [] [(2, cB false)] [] (fun t => aI (i_isName_ok p0.Name v1 h2) (aI c3 (aI c3 (aI c3 (aI (i_inRange_ok p0.Strength 1 9 v4 h5) (aI c3 (aI c6 (aI c6 (aI c6 (aI c6 (aI (rfl : (false : Bool) = false) (aI (rfl : (false : Bool) = false) (aI (rfl : (false : Bool) = false) (aI (rfl : (false : Bool) = false) (aI (rfl : (false : Bool) = false) (aI (rfl : (false : Bool) = false) (aI (rfl : (false : Bool) = false) (aI (rfl : (false : Bool) = false) (t))))))))))))))))))) ?_
   refine ends_ret ?_
   cases H
   exact And.intro (.inl rfl) rfl
 ·refine so [.res (cB v1), .g false, .g false, .g false, .g false, .g false, .g false, .g false, .g false, .g false, .g false, .g false, .g false, .g false, .g false, .g false, .g false] [] [(2, cB false)] [] (fun t => aI (i_isName_ok p0.Name v1 h2) (aI c3 (aI c3 (aI c3 (aI c3 (aI (rfl : (false : Bool) = false) (aI (rfl : (false : Bool) = false) (aI (rfl : (false : Bool) = false) (aI (rfl : (false : Bool) = false) (aI (rfl : (false : Bool) = false) (aI (rfl : (false : Bool) = false) (aI (rfl : (false : Bool) = false) (aI (rfl : (false : Bool) = false) (aI (rfl : (false : Bool) = false) (aI (rfl : (false : Bool) = false) (aI (rfl : (false : Bool) = false) (aI (rfl : (false : Bool) = false) (t)))))))))))))))))) ?_
  refine ends_ret ?_
  cases H
  exact And.intro (.inl rfl) rfl
def g_IndexFunc_Kind_ir : S :=
 (.seq (.ops [o 4 (.mv (.v (.int .i64 0)))])
 (.seq (.seq (.ops [o 6 (.mv (.t 0)), o 7 (.len (.t 6)), o 8 (.mv (.v (.int .i64 0)))])
 (.blk 0 (.loop (.seq (.ops [o 9 (.bin .lss (.t 8) (.t 7))])
   (.seq (.ite (.t 9) .skip
   (.exit 0))
   (.seq (.blk 1 (.seq (.ops [o 10 (.mv (.t 8)), o 5 (.mv (.t 10))])
    (.seq (.ops [o 11 (.mv (.t 1)), o 12 (.mv (.t 0)), o 13 (.mv (.t 5)), o 14 (.iad 6 (.t 12) (.t 13)), o 15 (.load 6 true (.t 14)), o 16 (.cald (.t 11) [.t 15])])
    (.ite (.t 16) (.seq (.ops [o 17 (.mv (.t 5)), o 4 (.mv (.t 17))])
     .ret)
    .skip))))
   (.ops [o 18 (.bin .add (.t 8) (.v (.int .i64 1))), o 8 (.mv (.t 18))])))))))
 (.seq (.ops [o 4 (.mv (.v (.int .i64 (-1))))])
 .ret)))
noncomputable def X.g_IndexFunc_Kind (p0 : (List TKind)) (f1 : TKind → Option Bool) : Option Int :=
 ((loop (fun (x16 : Int) => ((bif (decide (x16 < (p0.length : Int))) then ((at' zTKind p0 x16).bind fun v19 => ((f1 v19).bind fun v21 => (bif v21 then some (Sum.inr (Sum.inr x16)) else some (Sum.inl (W (x16 + 1)))))) else some (Sum.inr (Sum.inl ()))) : Option (Int ⊕ (Unit ⊕ Int)))) 0).bind fun y24 => (Sum.elim (fun (y26 : Unit) => some (-1)) (fun (y27 : Int) => some y27) y24))
theorem g_IndexFunc_Kind_c1_ok (p0 : (List TKind)) (cf1 : FuncId) (cs1_0 : List AC) (f1 : TKind → Option Bool) (hf1 : ∀ q0 r, f1 q0 = some r → FnOk Tryz.prog gl cf1 [.agg (eTKind q0), .c (.pd cs1_0 0)] (cB r)) (r : Int) (H : X.g_IndexFunc_Kind p0 f1 = some r) : FnOk Tryz.prog gl 227 [.c (dat 6 eTKind zTKind p0), .c (.clo cf1 [.pd cs1_0 0])] (cI r) := by
 unfold X.g_IndexFunc_Kind at H
 refine fi Tryz.f227 g_IndexFunc_Kind_ir [(4, cI r)] [] glL Tryz.func227 ?_
 refine so [] [] [(0, dc 6 eTKind zTKind p0), (1, .c (.clo cf1 [.pd cs1_0 0]))] [] id ?_
 refine seq_in ?_
 refine so [] [] [(0, dc 6 eTKind zTKind p0), (1, .c (.clo cf1 [.pd cs1_0 0])), (7, cI (p0.length : Int)), (8, cI 0)] [] (fun t => lI p0 (t)) ?_
 refine ends_blk ?_
 obtain ⟨y24, h25, H⟩ := ofBind H
 refine loop_in (fun (x : Int) => lit [(0, dc 6 eTKind zTKind p0), (1, .c (.clo cf1 [.pd cs1_0 0])), (7, cI (p0.length : Int)), (8, cI x)] []) (orJ (fun (z : Unit) => At (.exit 0) (lit [] [])) (fun (z : Int) => At .ret (lit [(4, cI z)] []))) h25 ?_ ?_
 ·clear H h25
  intro x16 y0 H
  refine so [] [] [(0, dc 6 eTKind zTKind p0), (1, .c (.clo cf1 [.pd cs1_0 0])), (7, cI (p0.length : Int)), (8, cI x16), (9, cB (decide (x16 < (p0.length : Int))))] [] id ?_
  refine seq_in ?_
  rcases ofCond H with ⟨c18, H⟩ | ⟨c18, H⟩
  ·refine it c18 ?_
   refine sk ?_
   refine seq_in ?_
   refine ends_blk ?_
   refine so [] [] [(0, dc 6 eTKind zTKind p0), (1, .c (.clo cf1 [.pd cs1_0 0])), (5, cI x16), (7, cI (p0.length : Int)), (8, cI x16)] [] id ?_
   obtain ⟨v19, h20, H⟩ := ofBind H
   obtain ⟨v21, h22, H⟩ := ofBind H
   refine so [.cs (eTKind v19), .res (cB v21)] [] [(0, dc 6 eTKind zTKind p0), (1, .c (.clo cf1 [.pd cs1_0 0])), (5, cI x16), (7, cI (p0.length : Int)), (8, cI x16), (16, cB v21)] [] (fun t => aI (at_lt h20) (aI (at_enc (enc := eTKind) h20) (aI (hf1 v19 v21 h22) (t)))) ?_
   rcases ofCond H with ⟨c23, H⟩ | ⟨c23, H⟩
   ·refine it c23 ?_
    refine so [] [] [(4, cI x16)] [] id ?_
    refine ends_ret ?_
    cases H
    exact And.intro (by simp) (And.intro rfl rfl)
   ·refine jf c23 ?_
    refine sk ?_
    refine oo [] [] [(0, dc 6 eTKind zTKind p0), (1, .c (.clo cf1 [.pd cs1_0 0])), (7, cI (p0.length : Int)), (8, cI (W (x16 + 1)))] [] id ?_
    cases H
    exact And.intro rfl rfl
  ·refine jf c18 ?_
   refine tl [] [] [] id ?_
   refine ends_exit ?_
   cases H
   exact And.intro (by simp) (And.intro rfl rfl)
 ·clear h25
  cases y24 with
  | inl y26 =>
   replace H := ofInl H
   intro e s q
   obtain ⟨rfl, rfl⟩ := q
   change EndsI _ _ _ _ _ _
   refine so [] [] [(4, cI (-1))] [] id ?_
   refine ends_ret ?_
   cases H
   exact And.intro (.inl rfl) rfl
  | inr y27 =>
   replace H := ofInr H
   intro e s q
   obtain ⟨rfl, rfl⟩ := q
   cases H
   exact And.intro (.inl rfl) rfl
def i_kindIndex_1_ir : S :=
 (.seq (.ops [o 2 (.box 6 (.t 0)), o 3 (.mv (.v (.bool false)))])
 (.seq (.ops [o 4 (.fad 0 (.t 2)), o 5 (.load 1 false (.t 4)), o 6 (.load 1 false (.t 1)), o 7 (.bin .eql (.t 5) (.t 6)), o 3 (.mv (.t 7))])
 .ret))
noncomputable def X.i_kindIndex_1 (p0 : TKind) (p1 : (List UInt8)) : Option Bool :=
 some (p0.Name == p1)
theorem i_kindIndex_1_ok (p0 : TKind) (p1 : (List UInt8)) (r : Bool) (H : X.i_kindIndex_1 p0 p1 = some r) : FnOk Tryz.prog gl 228 [.agg (eTKind p0), .c (.pd (eS p1) 0)] (cB r) := by
 unfold X.i_kindIndex_1 at H
 refine fi Tryz.f228 i_kindIndex_1_ir [(3, cB r)] [] glL Tryz.func228 ?_
 refine so [] [] [(1, .c (.pd (eS p1) 0)), (2, pk 2)] [(2, va (eTKind p0))] id ?_
 refine so [] [] [(3, cB (p0.Name == p1))] [] id ?_
 refine ends_ret ?_
 cases H
 exact And.intro (.inl rfl) rfl
def i_kindIndex_ir : S :=
 (.seq (.ops [o 3 (.box 1 (.t 1)), o 4 (.mv (.v (.int .i64 0)))])
 (.seq (.ops [o 5 (.mv (.t 0)), o 6 (.clo 228 [.t 3]), o 7 (.call 227 [.t 5, .t 6]), o 4 (.mv (.t 7))])
 .ret))
noncomputable def X.i_kindIndex (p0 : (List TKind)) (p1 : (List UInt8)) : Option Int :=
 ((X.g_IndexFunc_Kind p0 (fun q0 => X.i_kindIndex_1 q0 p1)).bind fun v1 => some v1)
theorem i_kindIndex_ok (p0 : (List TKind)) (p1 : (List UInt8)) (r : Int) (H : X.i_kindIndex p0 p1 = some r) : FnOk Tryz.prog gl 216 [.c (dat 6 eTKind zTKind p0), .c (.str p1)] (cI r) := by
 unfold X.i_kindIndex at H
 refine fi Tryz.f216 i_kindIndex_ir [(4, cI r)] [] glL Tryz.func216 ?_
 refine so [] [] [(0, dc 6 eTKind zTKind p0), (3, pk 3)] [(3, .var [.str p1] false)] id ?_
 obtain ⟨v1, h2, H⟩ := ofBind H
 refine so [.res (cI v1)] [] [(4, cI v1)] [] (fun t => aI (g_IndexFunc_Kind_c1_ok p0 (228) (eS p1) (fun q0 => X.i_kindIndex_1 q0 p1) (fun q0 r h => i_kindIndex_1_ok q0 p1 r h) v1 h2) (t)) ?_
 refine ends_ret ?_
 cases H
 exact And.intro (.inl rfl) rfl
def i_IsRules_ir : S :=
 (.seq (.ops [o 1 (.box 7 (.t 0)), o 2 (.mv (.v (.bool false)))])
 (.seq (.seq (.ops [o 7 (.fad 0 (.t 1)), o 8 (.load 1 false (.t 7)), o 9 (.len (.t 8)), o 10 (.call 145 [.t 9, .v (.int .i64 1), .v (.int .i64 6)]), o 11 (.not (.t 10)), o 12 (.mv (.t 11)), ⟨some 13, .fad 1 (.t 1), some (12, false)⟩, ⟨some 14, .load 1 false (.t 13), some (12, false)⟩, ⟨some 15, .len (.t 14), some (12, false)⟩, ⟨some 16, .call 145 [.t 15, .v (.int .i64 1), .v (.int .i64 4)], some (12, false)⟩, ⟨some 17, .not (.t 16), some (12, false)⟩, o 18 (.pick (.t 12) (.v (.bool true)) (.t 17))])
 (.ite (.t 18) (.seq (.ops [o 2 (.mv (.v (.bool false)))])
  .ret)
 .skip))
 (.seq (.seq (.ops [o 19 (.fad 0 (.t 1)), o 20 (.load 1 false (.t 19)), o 21 (.len (.t 20)), o 22 (.mv (.v (.int .i64 0)))])
 (.blk 0 (.loop (.seq (.ops [o 23 (.bin .lss (.t 22) (.t 21))])
   (.seq (.ite (.t 23) .skip
   (.exit 0))
   (.seq (.blk 1 (.seq (.ops [o 24 (.mv (.t 22)), o 25 (.iad 5 (.t 20) (.t 22)), o 26 (.load 5 true (.t 25)), o 4 (.alloc [.str [], .nil, .int .i64 0, .int .i64 0, .bool false]), o 3 (.mv (.t 24)), ⟨none, .store 5 (.t 4) (.t 26), none⟩])
    (.seq (.ops [o 27 (.load 5 true (.t 4)), o 28 (.fad 1 (.t 1)), o 29 (.load 1 false (.t 28)), o 30 (.len (.t 29)), o 31 (.call 213 [.t 27, .t 30]), o 32 (.not (.t 31)), o 33 (.mv (.t 32)), ⟨some 34, .fad 0 (.t 1), some (33, false)⟩, ⟨some 35, .load 1 false (.t 34), some (33, false)⟩, ⟨some 36, .fad 0 (.t 4), some (33, false)⟩, ⟨some 37, .load 1 false (.t 36), some (33, false)⟩, ⟨some 38, .call 214 [.t 35, .t 37], some (33, false)⟩, ⟨some 39, .mv (.t 3), some (33, false)⟩, ⟨some 40, .bin .neq (.t 38) (.t 39), some (33, false)⟩, o 41 (.pick (.t 33) (.v (.bool true)) (.t 40))])
    (.ite (.t 41) (.seq (.ops [o 2 (.mv (.v (.bool false)))])
     .ret)
    .skip))))
   (.ops [o 42 (.bin .add (.t 22) (.v (.int .i64 1))), o 22 (.mv (.t 42))])))))))
 (.seq (.seq (.ops [o 43 (.fad 1 (.t 1)), o 44 (.load 1 false (.t 43)), o 45 (.len (.t 44)), o 46 (.mv (.v (.int .i64 0)))])
 (.blk 2 (.loop (.seq (.ops [o 47 (.bin .lss (.t 46) (.t 45))])
   (.seq (.ite (.t 47) .skip
   (.exit 2))
   (.seq (.blk 3 (.seq (.ops [o 48 (.mv (.t 46)), o 49 (.iad 6 (.t 44) (.t 46)), o 50 (.load 6 true (.t 49)), o 6 (.alloc [.str [], .int .i64 0, .int .i64 0, .int .i64 0, .bool false, .int .i64 0]), o 5 (.mv (.t 48)), ⟨none, .store 6 (.t 6) (.t 50), none⟩])
    (.seq (.ops [o 51 (.load 6 true (.t 6)), o 52 (.call 215 [.t 51]), o 53 (.not (.t 52)), o 54 (.mv (.t 53)), ⟨some 55, .fad 1 (.t 1), some (54, false)⟩, ⟨some 56, .load 1 false (.t 55), some (54, false)⟩, ⟨some 57, .fad 0 (.t 6), some (54, false)⟩, ⟨some 58, .load 1 false (.t 57), some (54, false)⟩, ⟨some 59, .call 216 [.t 56, .t 58], some (54, false)⟩, ⟨some 60, .mv (.t 5), some (54, false)⟩, ⟨some 61, .bin .neq (.t 59) (.t 60), some (54, false)⟩, o 62 (.pick (.t 54) (.v (.bool true)) (.t 61))])
    (.ite (.t 62) (.seq (.ops [o 2 (.mv (.v (.bool false)))])
     .ret)
    .skip))))
   (.ops [o 63 (.bin .add (.t 46) (.v (.int .i64 1))), o 46 (.mv (.t 63))])))))))
 (.seq (.ops [o 64 (.fad 2 (.t 1)), o 65 (.load 1 false (.t 64)), o 66 (.call 145 [.t 65, .v (.int .i64 1), .v (.int .i64 4)]), o 67 (.mv (.t 66)), ⟨some 68, .fad 3 (.t 1), some (67, true)⟩, ⟨some 69, .load 1 false (.t 68), some (67, true)⟩, ⟨some 70, .call 145 [.t 69, .v (.int .i64 0), .v (.int .i64 9)], some (67, true)⟩, o 71 (.pick (.t 67) (.t 70) (.v (.bool false))), o 72 (.mv (.t 71)), ⟨some 73, .fad 4 (.t 1), some (72, true)⟩, ⟨some 74, .load 1 false (.t 73), some (72, true)⟩, ⟨some 75, .call 145 [.t 74, .v (.int .i64 1), .v (.int .i64 9)], some (72, true)⟩, o 76 (.pick (.t 72) (.t 75) (.v (.bool false))), o 77 (.mv (.t 76)), ⟨some 78, .fad 5 (.t 1), some (77, true)⟩, ⟨some 79, .load 1 false (.t 78), some (77, true)⟩, ⟨some 80, .call 145 [.t 79, .v (.int .i64 0), .v (.int .i64 20)], some (77, true)⟩, o 81 (.pick (.t 77) (.t 80) (.v (.bool false))), o 82 (.mv (.t 81)), ⟨some 83, .fad 6 (.t 1), some (82, true)⟩, ⟨some 84, .load 1 false (.t 83), some (82, true)⟩, ⟨some 85, .call 145 [.t 84, .v (.int .i64 1), .v (.int .i64 30)], some (82, true)⟩, o 86 (.pick (.t 82) (.t 85) (.v (.bool false))), o 2 (.mv (.t 86))])
 .ret)))))
noncomputable def X.i_IsRules (p0 : TRules) : Option Bool :=
 ((X.i_inRange (p0.Terrains.length : Int) 1 6).bind fun v7 => (bif (!v7) then some false else ((X.i_inRange (p0.Kinds.length : Int) 1 4).bind fun v10 => (bif (!v10) then some false else ((loop (fun (x70 : Int) => ((bif (decide (x70 < (p0.Terrains.length : Int))) then ((at' zTTerrain p0.Terrains x70).bind fun v73 => ((X.i_goodTerrain v73 (p0.Kinds.length : Int)).bind fun v75 => (bif (!v75) then some (Sum.inr (Sum.inr false)) else ((X.i_terrainIndex p0.Terrains v73.Name).bind fun v78 => (bif (v78 != x70) then some (Sum.inr (Sum.inr false)) else some (Sum.inl (W (x70 + 1)))))))) else some (Sum.inr (Sum.inl ()))) : Option (Int ⊕ (Unit ⊕ Bool)))) 0).bind fun y81 => (Sum.elim (fun (y83 : Unit) => ((loop (fun (x142 : Int) => ((bif (decide (x142 < (p0.Kinds.length : Int))) then ((at' zTKind p0.Kinds x142).bind fun v145 => ((X.i_goodKind v145).bind fun v147 => (bif (!v147) then some (Sum.inr (Sum.inr false)) else ((X.i_kindIndex p0.Kinds v145.Name).bind fun v150 => (bif (v150 != x142) then some (Sum.inr (Sum.inr false)) else some (Sum.inl (W (x142 + 1)))))))) else some (Sum.inr (Sum.inl ()))) : Option (Int ⊕ (Unit ⊕ Bool)))) 0).bind fun y153 => (Sum.elim (fun (y155 : Unit) => ((X.i_inRange p0.Stack 1 4).bind fun v157 => (bif v157 then ((X.i_inRange p0.River 0 9).bind fun v160 => (bif v160 then ((X.i_inRange p0.Road 1 9).bind fun v163 => (bif v163 then ((X.i_inRange p0.Supply 0 20).bind fun v166 => (bif v166 then ((X.i_inRange p0.Turns 1 30).bind fun v169 => some v169) else some false)) else some false)) else some false)) else some false))) (fun (y156 : Bool) => some y156) y153))) (fun (y84 : Bool) => some y84) y81))))))
theorem i_IsRules_ok (p0 : TRules) (r : Bool) (H : X.i_IsRules p0 = some r) : FnOk Tryz.prog gl 193 [.agg (eTRules p0)] (cB r) := by
 unfold X.i_IsRules at H
 refine fi Tryz.f193 i_IsRules_ir [(2, cB r)] [] glL Tryz.func193 ?_
 refine so [] [] [(1, pk 1)] [(1, va (eTRules p0))] id ?_
 refine seq_in ?_
 obtain ⟨v7, h8, H⟩ := ofBind H
 rcases ofCond H with ⟨c9, H⟩ | ⟨c9, H⟩
 ·refine so [.res (cB v7), .g true, .g true, .g true, .g true, .g true, .g true] [] [(1, pk 1), (18, cB true)] [(1, va (eTRules p0))] (fun t => lI p0.Terrains (aI (i_inRange_ok (p0.Terrains.length : Int) 1 6 v7 h8) (aI c9 (aI c9 (aI c9 (aI c9 (aI c9 (aI c9 (t))))))))) ?_
  refine it (rfl : (true : Bool) = true) ?_
  refine so [] [] [(2, cB false)] [] id ?_
  refine ends_ret ?_
  cases H
  exact And.intro (.inl rfl) rfl
 ·obtain ⟨v10, h11, H⟩ := ofBind H
  refine so [.res (cB v7), .g false, .g false, .g false, .g false, .res (cB v10), .g false, .g false] [] [(1, pk 1), (18, cB (!v10))] [(1, va (eTRules p0))] (fun t => lI p0.Terrains (aI (i_inRange_ok (p0.Terrains.length : Int) 1 6 v7 h8) (aI c9 (aI c9 (aI c9 (lI p0.Kinds (aI c9 (aI (i_inRange_ok (p0.Kinds.length : Int) 1 4 v10 h11) (aI c9 (aI c9 (t))))))))))) ?_
  rcases ofCond H with ⟨c12, H⟩ | ⟨c12, H⟩
  ·refine it c12 ?_
   refine so [] [] [(2, cB false)] [] id ?_
   refine ends_ret ?_
   cases H
   exact And.intro (.inl rfl) rfl
  ·refine jf c12 ?_
   refine sk ?_
   refine seq_in ?_
   refine so [] [] [(1, pk 1), (20, dc 5 eTTerrain zTTerrain p0.Terrains), (21, cI (p0.Terrains.length : Int)), (22, cI 0)] [(1, va (eTRules p0))] (fun t => lI p0.Terrains (t)) ?_
   refine ends_blk ?_
   obtain ⟨y81, h82, H⟩ := ofBind H
   refine loop_in (fun (x : Int) => lit [(1, pk 1), (20, dc 5 eTTerrain zTTerrain p0.Terrains), (21, cI (p0.Terrains.length : Int)), (22, cI x)] [(1, va (eTRules p0))]) (orJ (fun (z : Unit) => At (.exit 0) (lit [(1, pk 1)] [(1, va (eTRules p0))])) (fun (z : Bool) => At .ret (lit [(2, cB z)] []))) h82 ?_ ?_
   ·clear H h82
    intro x70 y0 H
    refine so [] [] [(1, pk 1), (20, dc 5 eTTerrain zTTerrain p0.Terrains), (21, cI (p0.Terrains.length : Int)), (22, cI x70), (23, cB (decide (x70 < (p0.Terrains.length : Int))))] [(1, va (eTRules p0))] id ?_
    refine seq_in ?_
    rcases ofCond H with ⟨c72, H⟩ | ⟨c72, H⟩
    ·refine it c72 ?_
     refine sk ?_
     refine seq_in ?_
     refine ends_blk ?_
     obtain ⟨v73, h74, H⟩ := ofBind H
     refine so [.cs (eTTerrain v73)] [] [(1, pk 1), (3, cI x70), (4, pk 4), (20, dc 5 eTTerrain zTTerrain p0.Terrains), (21, cI (p0.Terrains.length : Int)), (22, cI x70)] [(1, va (eTRules p0)), (4, va (eTTerrain v73))] (fun t => aI (at_lt h74) (aI (at_enc (enc := eTTerrain) h74) (t))) ?_
     obtain ⟨v75, h76, H⟩ := ofBind H
     rcases ofCond H with ⟨c77, H⟩ | ⟨c77, H⟩
     ·refine so [.res (cB v75), .g true, .g true, .g true, .g true, .g true, .g true, .g true, .g true] [] [(1, pk 1), (20, dc 5 eTTerrain zTTerrain p0.Terrains), (21, cI (p0.Terrains.length : Int)), (22, cI x70), (41, cB true)] [(1, va (eTRules p0))] (fun t => lI p0.Kinds (aI (i_goodTerrain_ok v73 (p0.Kinds.length : Int) v75 h76) (aI c77 (aI c77 (aI c77 (aI c77 (aI c77 (aI c77 (aI c77 (aI c77 (t))))))))))) ?_
      refine it (rfl : (true : Bool) = true) ?_
      refine so [] [] [(2, cB false)] [] id ?_
      refine ends_ret ?_
      cases H
      exact And.intro (by simp) (And.intro rfl rfl)
     ·obtain ⟨v78, h79, H⟩ := ofBind H
      refine so [.res (cB v75), .g false, .g false, .g false, .g false, .g false, .res (cI v78), .g false, .g false, .g false] [] [(1, pk 1), (20, dc 5 eTTerrain zTTerrain p0.Terrains), (21, cI (p0.Terrains.length : Int)), (22, cI x70), (41, cB (v78 != x70))] [(1, va (eTRules p0))] (fun t => lI p0.Kinds (aI (i_goodTerrain_ok v73 (p0.Kinds.length : Int) v75 h76) (aI c77 (aI c77 (aI c77 (aI c77 (aI c77 (aI (i_terrainIndex_ok p0.Terrains v73.Name v78 h79) (aI c77 (aI c77 (aI c77 (t)))))))))))) ?_
      rcases ofCond H with ⟨c80, H⟩ | ⟨c80, H⟩
      ·refine it c80 ?_
       refine so [] [] [(2, cB false)] [] id ?_
       refine ends_ret ?_
       cases H
       exact And.intro (by simp) (And.intro rfl rfl)
      ·refine jf c80 ?_
       refine sk ?_
       refine oo [] [] [(1, pk 1), (20, dc 5 eTTerrain zTTerrain p0.Terrains), (21, cI (p0.Terrains.length : Int)), (22, cI (W (x70 + 1)))] [(1, va (eTRules p0))] id ?_
       cases H
       exact And.intro rfl rfl
    ·refine jf c72 ?_
     refine tl [] [(1, pk 1)] [(1, va (eTRules p0))] id ?_
     refine ends_exit ?_
     cases H
     exact And.intro (by simp) (And.intro rfl rfl)
   ·clear h82
    cases y81 with
    | inl y83 =>
     replace H := ofInl H
     intro e s q
     obtain ⟨rfl, rfl⟩ := q
     change EndsI _ _ _ _ _ _
     refine seq_in ?_
     refine so [] [] [(1, pk 1), (44, dc 6 eTKind zTKind p0.Kinds), (45, cI (p0.Kinds.length : Int)), (46, cI 0)] [(1, va (eTRules p0))] (fun t => lI p0.Kinds (t)) ?_
     refine ends_blk ?_
     obtain ⟨y153, h154, H⟩ := ofBind H
     refine loop_in (fun (x : Int) => lit [(1, pk 1), (44, dc 6 eTKind zTKind p0.Kinds), (45, cI (p0.Kinds.length : Int)), (46, cI x)] [(1, va (eTRules p0))]) (orJ (fun (z : Unit) => At (.exit 2) (lit [(1, pk 1)] [(1, va (eTRules p0))])) (fun (z : Bool) => At .ret (lit [(2, cB z)] []))) h154 ?_ ?_
     ·clear H h154
      intro x142 y0 H
      refine so [] [] [(1, pk 1), (44, dc 6 eTKind zTKind p0.Kinds), (45, cI (p0.Kinds.length : Int)), (46, cI x142), (47, cB (decide (x142 < (p0.Kinds.length : Int))))] [(1, va (eTRules p0))] id ?_
      refine seq_in ?_
      rcases ofCond H with ⟨c144, H⟩ | ⟨c144, H⟩
      ·refine it c144 ?_
       refine sk ?_
       refine seq_in ?_
       refine ends_blk ?_
       obtain ⟨v145, h146, H⟩ := ofBind H
       refine so [.cs (eTKind v145)] [] [(1, pk 1), (5, cI x142), (6, pk 6), (44, dc 6 eTKind zTKind p0.Kinds), (45, cI (p0.Kinds.length : Int)), (46, cI x142)] [(1, va (eTRules p0)), (6, va (eTKind v145))] (fun t => aI (at_lt h146) (aI (at_enc (enc := eTKind) h146) (t))) ?_
       obtain ⟨v147, h148, H⟩ := ofBind H
       rcases ofCond H with ⟨c149, H⟩ | ⟨c149, H⟩
       ·refine so [.res (cB v147), .g true, .g true, .g true, .g true, .g true, .g true, .g true, .g true] [] [(1, pk 1), (44, dc 6 eTKind zTKind p0.Kinds), (45, cI (p0.Kinds.length : Int)), (46, cI x142), (62, cB true)] [(1, va (eTRules p0))] (fun t => aI (i_goodKind_ok v145 v147 h148) (aI c149 (aI c149 (aI c149 (aI c149 (aI c149 (aI c149 (aI c149 (aI c149 (t)))))))))) ?_
        refine it (rfl : (true : Bool) = true) ?_
        refine so [] [] [(2, cB false)] [] id ?_
        refine ends_ret ?_
        cases H
        exact And.intro (by simp) (And.intro rfl rfl)
       ·obtain ⟨v150, h151, H⟩ := ofBind H
        refine so [.res (cB v147), .g false, .g false, .g false, .g false, .g false, .res (cI v150), .g false, .g false, .g false] [] [(1, pk 1), (44, dc 6 eTKind zTKind p0.Kinds), (45, cI (p0.Kinds.length : Int)), (46, cI x142), (62, cB (v150 != x142))] [(1, va (eTRules p0))] (fun t => aI (i_goodKind_ok v145 v147 h148) (aI c149 (aI c149 (aI c149 (aI c149 (aI c149 (aI (i_kindIndex_ok p0.Kinds v145.Name v150 h151) (aI c149 (aI c149 (aI c149 (t))))))))))) ?_
        rcases ofCond H with ⟨c152, H⟩ | ⟨c152, H⟩
        ·refine it c152 ?_
         refine so [] [] [(2, cB false)] [] id ?_
         refine ends_ret ?_
         cases H
         exact And.intro (by simp) (And.intro rfl rfl)
        ·refine jf c152 ?_
         refine sk ?_
         refine oo [] [] [(1, pk 1), (44, dc 6 eTKind zTKind p0.Kinds), (45, cI (p0.Kinds.length : Int)), (46, cI (W (x142 + 1)))] [(1, va (eTRules p0))] id ?_
         cases H
         exact And.intro rfl rfl
      ·refine jf c144 ?_
       refine tl [] [(1, pk 1)] [(1, va (eTRules p0))] id ?_
       refine ends_exit ?_
       cases H
       exact And.intro (by simp) (And.intro rfl rfl)
     ·clear h154
      cases y153 with
      | inl y155 =>
       replace H := ofInl H
       intro e s q
       obtain ⟨rfl, rfl⟩ := q
       change EndsI _ _ _ _ _ _
       obtain ⟨v157, h158, H⟩ := ofBind H
       rcases ofCond H with ⟨c159, H⟩ | ⟨c159, H⟩
       ·obtain ⟨v160, h161, H⟩ := ofBind H
        rcases ofCond H with ⟨c162, H⟩ | ⟨c162, H⟩
        ·obtain ⟨v163, h164, H⟩ := ofBind H
         rcases ofCond H with ⟨c165, H⟩ | ⟨c165, H⟩
         ·obtain ⟨v166, h167, H⟩ := ofBind H
          rcases ofCond H with ⟨c168, H⟩ | ⟨c168, H⟩
          ·obtain ⟨v169, h170, H⟩ := ofBind H
           refine so [.res (cB v157), .g true, .g true, .g true, .res (cB v160), .g true, .g true, .g true, .g true, .res (cB v163), .g true, .g true, .g true, .g true, .res (cB v166), .g true, .g true, .g true, .g true, .res (cB v169), .g true] [] [(2, cB v169)] [] (fun t => aI (i_inRange_ok p0.Stack 1 4 v157 h158) (aI c159 (aI c159 (aI c159 (aI (i_inRange_ok p0.River 0 9 v160 h161) (aI c159 (aI c162 (aI c162 (aI c162 (aI (i_inRange_ok p0.Road 1 9 v163 h164) (aI c162 (aI c165 (aI c165 (aI c165 (aI (i_inRange_ok p0.Supply 0 20 v166 h167) (aI c165 (aI c168 (aI c168 (aI c168 (aI (i_inRange_ok p0.Turns 1 30 v169 h170) (aI c168 (t)))))))))))))))))))))) ?_
           refine ends_ret ?_
           cases H
           exact And.intro (.inl rfl) rfl
          ·refine so [.res (cB v157), .g true, .g true, .g true, .res (cB v160), .g true, .g true, .g true, .g true, .res (cB v163), .g true, .g true, .g true, .g true, .res (cB v166), .g true, .g false, .g false, .g false, .g false] [] [(2, cB false)] [] (fun t => aI (i_inRange_ok p0.Stack 1 4 v157 h158) (aI c159 (aI c159 (aI c159 (aI (i_inRange_ok p0.River 0 9 v160 h161) (aI c159 (aI c162 (aI c162 (aI c162 (aI (i_inRange_ok p0.Road 1 9 v163 h164) (aI c162 (aI c165 (aI c165 (aI c165 (aI (i_inRange_ok p0.Supply 0 20 v166 h167) (aI c165 (aI c168 (aI c168 (aI c168 (aI c168 (t))))))))))))))))))))) ?_
           refine ends_ret ?_
           cases H
           exact And.intro (.inl rfl) rfl
         ·refine so [.res (cB v157), .g true, .g true, .g true, .res (cB v160), .g true, .g true, .g true, .g true, .res (cB v163), .g true, .g false, .g false, .g false, .g false, .g false, .g false, .g false, .g false] [] [(2, cB false)] [] (fun t => aI (i_inRange_ok p0.Stack 1 4 v157 h158) (aI c159 (aI c159 (aI c159 (aI (i_inRange_ok p0.River 0 9 v160 h161) (aI c159 (aI c162 (aI c162 (aI c162 (aI (i_inRange_ok p0.Road 1 9 v163 h164) (aI c162 (aI c165 (aI c165 (aI c165 (aI c165 (aI (rfl : (false : Bool) = false) (aI (rfl : (false : Bool) = false) (aI (rfl : (false : Bool) = false) (aI (rfl : (false : Bool) = false) (t)))))))))))))))))))) ?_
          refine ends_ret ?_
          cases H
          exact And.intro (.inl rfl) rfl
        ·refine so [.res (cB v157), .g true, .g true, .g true, .res (cB v160), .g true, .g false, .g false, .g false, .g false, .g false, .g false, .g false, .g false, .g false, .g false, .g false, .g false] [] [(2, cB false)] [] (fun t => aI (i_inRange_ok p0.Stack 1 4 v157 h158) (aI c159 (aI c159 (aI c159 (aI (i_inRange_ok p0.River 0 9 v160 h161) (aI c159 (aI c162 (aI c162 (aI c162 (aI c162 (aI (rfl : (false : Bool) = false) (aI (rfl : (false : Bool) = false) (aI (rfl : (false : Bool) = false) (aI (rfl : (false : Bool) = false) (aI (rfl : (false : Bool) = false) (aI (rfl : (false : Bool) = false) (aI (rfl : (false : Bool) = false) (aI (rfl : (false : Bool) = false) (t))))))))))))))))))) ?_
         refine ends_ret ?_
         cases H
         exact And.intro (.inl rfl) rfl
       ·refine so [.res (cB v157), .g false, .g false, .g false, .g false, .g false, .g false, .g false, .g false, .g false, .g false, .g false, .g false, .g false, .g false, .g false, .g false] [] [(2, cB false)] [] (fun t => aI (i_inRange_ok p0.Stack 1 4 v157 h158) (aI c159 (aI c159 (aI c159 (aI c159 (aI (rfl : (false : Bool) = false) (aI (rfl : (false : Bool) = false) (aI (rfl : (false : Bool) = false) (aI (rfl : (false : Bool) = false) (aI (rfl : (false : Bool) = false) (aI (rfl : (false : Bool) = false) (aI (rfl : (false : Bool) = false) (aI (rfl : (false : Bool) = false) (aI (rfl : (false : Bool) = false) (aI (rfl : (false : Bool) = false) (aI (rfl : (false : Bool) = false) (aI (rfl : (false : Bool) = false) (t)))))))))))))))))) ?_
        refine ends_ret ?_
        cases H
        exact And.intro (.inl rfl) rfl
      | inr y156 =>
       replace H := ofInr H
       intro e s q
       obtain ⟨rfl, rfl⟩ := q
       cases H
       exact And.intro (.inl rfl) rfl
    | inr y84 =>
     replace H := ofInr H
     intro e s q
     obtain ⟨rfl, rfl⟩ := q
     cases H
     exact And.intro (.inl rfl) rfl
def i_isIndex_ir : S :=
 (.seq (.ops [o 4 (.mv (.v (.bool false)))])
 (.seq (.ops [o 5 (.mv (.t 0)), o 6 (.mv (.t 1)), o 7 (.bin .sub (.t 6) (.v (.int .i64 1))), o 8 (.call 145 [.t 5, .v (.int .i64 0), .t 7]), o 4 (.mv (.t 8))])
 .ret))
noncomputable def X.i_isIndex (p0 : Int) (p1 : Int) : Option Bool :=
 ((X.i_inRange p0 0 (W (p1 - 1))).bind fun v1 => some v1)
theorem i_isIndex_ok (p0 : Int) (p1 : Int) (r : Bool) (H : X.i_isIndex p0 p1 = some r) : FnOk Tryz.prog gl 115 [cI p0, cI p1] (cB r) := by
 unfold X.i_isIndex at H
 refine fi Tryz.f115 i_isIndex_ir [(4, cB r)] [] glL Tryz.func115 ?_
 refine so [] [] [(0, cI p0), (1, cI p1)] [] id ?_
 obtain ⟨v1, h2, H⟩ := ofBind H
 refine so [.res (cB v1)] [] [(4, cB v1)] [] (fun t => aI (i_inRange_ok p0 0 (W (p1 - 1)) v1 h2) (t)) ?_
 refine ends_ret ?_
 cases H
 exact And.intro (.inl rfl) rfl
def i_increasing_ir : S :=
 (.seq (.ops [o 2 (.mv (.v (.bool false)))])
 (.seq (.seq (.ops [o 3 (.mv (.v (.int .i64 1)))])
 (.blk 0 (.loop (.seq (.seq (.ops [o 4 (.mv (.t 3)), o 5 (.mv (.t 0)), o 6 (.len (.t 5)), o 7 (.bin .lss (.t 4) (.t 6))])
   (.ite (.t 7) .skip
   (.exit 0)))
   (.seq (.blk 1 (.seq (.draw 10 [o 10 (.mv (.t 0)), o 11 (.mv (.t 3)), o 12 (.bin .sub (.t 11) (.v (.int .i64 1))), o 13 (.iad 1 (.t 10) (.t 12)), o 14 (.load 1 false (.t 13)), o 15 (.mv (.t 0)), o 16 (.mv (.t 3)), o 17 (.iad 1 (.t 15) (.t 16)), o 18 (.load 1 false (.t 17)), o 19 (.bin .geq (.t 14) (.t 18))])
    (.ite (.t 19) (.seq (.ops [o 2 (.mv (.v (.bool false)))])
     .ret)
    .skip)))
   (.ops [o 8 (.mv (.t 3)), o 9 (.bin .add (.t 8) (.v (.int .i64 1))), o 3 (.mv (.t 9))]))))))
 (.seq (.ops [o 2 (.mv (.v (.bool true)))])
 .ret)))
noncomputable def X.i_increasing (p0 : (List Int)) : Option Bool :=
 ((loop (fun (x16 : Int) => ((bif (decide (x16 < (p0.length : Int))) then ((at' zI p0 (W (x16 - 1))).bind fun v19 => ((at' zI p0 x16).bind fun v21 => (bif (decide (v19 ≥ v21)) then some (Sum.inr (Sum.inr false)) else some (Sum.inl (W (x16 + 1)))))) else some (Sum.inr (Sum.inl ()))) : Option (Int ⊕ (Unit ⊕ Bool)))) 1).bind fun y24 => (Sum.elim (fun (y26 : Unit) => some true) (fun (y27 : Bool) => some y27) y24))
theorem i_increasing_ok (p0 : (List Int)) (r : Bool) (H : X.i_increasing p0 = some r) : FnOk Tryz.prog gl 147 [.c (dat 1 eI zI p0)] (cB r) := by
 unfold X.i_increasing at H
 refine fi Tryz.f147 i_increasing_ir [(2, cB r)] [] glL Tryz.func147 ?_
 refine so [] [] [(0, dc 1 eI zI p0)] [] id ?_
 refine seq_in ?_
 refine so [] [] [(0, dc 1 eI zI p0), (3, cI 1)] [] id ?_
 refine ends_blk ?_
 obtain ⟨y24, h25, H⟩ := ofBind H
 refine loop_in (fun (x : Int) => lit [(0, dc 1 eI zI p0), (3, cI x)] []) (orJ (fun (z : Unit) => At (.exit 0) (lit [] [])) (fun (z : Bool) => At .ret (lit [(2, cB z)] []))) h25 ?_ ?_
 ·clear H h25
  intro x16 y0 H
  refine seq_in ?_
  refine so [] [] [(0, dc 1 eI zI p0), (3, cI x16), (7, cB (decide (x16 < (p0.length : Int))))] [] (fun t => lI p0 (t)) ?_
  rcases ofCond H with ⟨c18, H⟩ | ⟨c18, H⟩
  ·refine it c18 ?_
   refine sk ?_
   refine seq_in ?_
   refine ends_blk ?_
   obtain ⟨v19, h20, H⟩ := ofBind H
   obtain ⟨v21, h22, H⟩ := ofBind H
   refine sd [.cs (eI v19), .cs (eI v21)] [] [(0, dc 1 eI zI p0), (3, cI x16), (19, cB (decide (v19 ≥ v21)))] [] (fun t => aI (at_lt h20) (aI (at_enc (enc := eI) h20) (aI (rfl : ([] : List Nat) = []) (aI (at_lt h22) (aI (at_enc (enc := eI) h22) (aI (rfl : ([] : List Nat) = []) (t))))))) ?_
   rcases ofCond H with ⟨c23, H⟩ | ⟨c23, H⟩
   ·refine it c23 ?_
    refine so [] [] [(2, cB false)] [] id ?_
    refine ends_ret ?_
    cases H
    exact And.intro (by simp) (And.intro rfl rfl)
   ·refine jf c23 ?_
    refine sk ?_
    refine oo [] [] [(0, dc 1 eI zI p0), (3, cI (W (x16 + 1)))] [] id ?_
    cases H
    exact And.intro rfl rfl
  ·refine jf c18 ?_
   refine tl [] [] [] id ?_
   refine ends_exit ?_
   cases H
   exact And.intro (by simp) (And.intro rfl rfl)
 ·clear h25
  cases y24 with
  | inl y26 =>
   replace H := ofInl H
   intro e s q
   obtain ⟨rfl, rfl⟩ := q
   change EndsI _ _ _ _ _ _
   refine so [] [] [(2, cB true)] [] id ?_
   refine ends_ret ?_
   cases H
   exact And.intro (.inl rfl) rfl
  | inr y27 =>
   replace H := ofInr H
   intro e s q
   obtain ⟨rfl, rfl⟩ := q
   cases H
   exact And.intro (.inl rfl) rfl
def i_indexOf_ir : S :=
 (.seq (.ops [o 2 (.box 5 (.t 0)), o 3 (.box 2 (.t 1)), o 4 (.mv (.v (.int .i64 0)))])
 (.seq (.seq (.ops [o 5 (.fad 0 (.t 3)), o 6 (.load 1 false (.t 5)), o 7 (.fad 0 (.t 2)), o 8 (.load 1 false (.t 7)), o 9 (.call 115 [.t 6, .t 8]), o 10 (.not (.t 9)), o 11 (.mv (.t 10)), ⟨some 12, .fad 1 (.t 3), some (11, false)⟩, ⟨some 13, .load 1 false (.t 12), some (11, false)⟩, ⟨some 14, .fad 1 (.t 2), some (11, false)⟩, ⟨some 15, .load 1 false (.t 14), some (11, false)⟩, ⟨some 16, .call 115 [.t 13, .t 15], some (11, false)⟩, ⟨some 17, .not (.t 16), some (11, false)⟩, o 18 (.pick (.t 11) (.v (.bool true)) (.t 17))])
 (.ite (.t 18) (.seq (.ops [o 4 (.mv (.v (.int .i64 (-1))))])
  .ret)
 .skip))
 (.seq (.ops [o 19 (.fad 1 (.t 3)), o 20 (.load 1 false (.t 19)), o 21 (.fad 0 (.t 2)), o 22 (.load 1 false (.t 21)), o 23 (.bin .mul (.t 20) (.t 22)), o 24 (.fad 0 (.t 3)), o 25 (.load 1 false (.t 24)), o 26 (.bin .add (.t 23) (.t 25)), o 4 (.mv (.t 26))])
 .ret)))
noncomputable def X.i_indexOf (p0 : TMap) (p1 : THex) : Option Int :=
 ((X.i_isIndex p1.Q p0.Width).bind fun v7 => (bif (!v7) then some (-1) else ((X.i_isIndex p1.R p0.Height).bind fun v10 => (bif (!v10) then some (-1) else some (W ((W (p1.R * p0.Width)) + p1.Q))))))
theorem i_indexOf_ok (p0 : TMap) (p1 : THex) (r : Int) (H : X.i_indexOf p0 p1 = some r) : FnOk Tryz.prog gl 182 [.agg (eTMap p0), .agg (eTHex p1)] (cI r) := by
 unfold X.i_indexOf at H
 refine fi Tryz.f182 i_indexOf_ir [(4, cI r)] [] glL Tryz.func182 ?_
 refine so [] [] [(2, pk 2), (3, pk 3)] [(2, va (eTMap p0)), (3, va (eTHex p1))] id ?_
 refine seq_in ?_
 obtain ⟨v7, h8, H⟩ := ofBind H
 rcases ofCond H with ⟨c9, H⟩ | ⟨c9, H⟩
 ·refine so [.res (cB v7), .g true, .g true, .g true, .g true, .g true, .g true, .g true] [] [(2, pk 2), (3, pk 3), (18, cB true)] [(2, va (eTMap p0)), (3, va (eTHex p1))] (fun t => aI (i_isIndex_ok p1.Q p0.Width v7 h8) (aI c9 (aI c9 (aI c9 (aI c9 (aI c9 (aI c9 (aI c9 (t))))))))) ?_
  refine it (rfl : (true : Bool) = true) ?_
  refine so [] [] [(4, cI (-1))] [] id ?_
  refine ends_ret ?_
  cases H
  exact And.intro (.inl rfl) rfl
 ·obtain ⟨v10, h11, H⟩ := ofBind H
  refine so [.res (cB v7), .g false, .g false, .g false, .g false, .g false, .res (cB v10), .g false, .g false] [] [(2, pk 2), (3, pk 3), (18, cB (!v10))] [(2, va (eTMap p0)), (3, va (eTHex p1))] (fun t => aI (i_isIndex_ok p1.Q p0.Width v7 h8) (aI c9 (aI c9 (aI c9 (aI c9 (aI c9 (aI (i_isIndex_ok p1.R p0.Height v10 h11) (aI c9 (aI c9 (t)))))))))) ?_
  rcases ofCond H with ⟨c12, H⟩ | ⟨c12, H⟩
  ·refine it c12 ?_
   refine so [] [] [(4, cI (-1))] [] id ?_
   refine ends_ret ?_
   cases H
   exact And.intro (.inl rfl) rfl
  ·refine jf c12 ?_
   refine sk ?_
   refine so [] [] [(4, cI (W ((W (p1.R * p0.Width)) + p1.Q)))] [] id ?_
   refine ends_ret ?_
   cases H
   exact And.intro (.inl rfl) rfl
def i_stepBy_ir : S :=
 (.seq (.ops [o 3 (.box 2 (.t 0)), o 6 (.alloc [.int .i64 0, .int .i64 0])])
 (.seq (.draw 19 [o 7 (.fad 0 (.t 3)), o 8 (.load 1 false (.t 7)), o 9 (.mv (.t 2)), o 10 (.mv (.t 1)), o 11 (.iar 6 2 (.g 0) (.t 10)), o 12 (.fad 0 (.t 11)), o 13 (.load 1 false (.t 12)), o 14 (.bin .mul (.t 9) (.t 13)), o 15 (.bin .add (.t 8) (.t 14)), o 16 (.fad 1 (.t 3)), o 17 (.load 1 false (.t 16)), o 18 (.mv (.t 2)), o 19 (.mv (.t 1)), o 20 (.iar 6 2 (.g 0) (.t 19)), o 21 (.fad 1 (.t 20)), o 22 (.load 1 false (.t 21)), o 23 (.bin .mul (.t 18) (.t 22)), o 24 (.bin .add (.t 17) (.t 23)), o 25 (.build [.int .i64 0, .int .i64 0] [(0, 1, .t 15), (1, 1, .t 24)]), ⟨none, .store 2 (.t 6) (.t 25), none⟩])
 .ret))
noncomputable def X.i_stepBy (p0 : THex) (p1 : Int) (p2 : Int) : Option THex :=
 ((at' zTHex dirs p1).bind fun v1 => some (THex.mk (W (p0.Q + (W (p2 * v1.Q)))) (W (p0.R + (W (p2 * v1.R))))))
theorem i_stepBy_ok (p0 : THex) (p1 : Int) (p2 : Int) (r : THex) (H : X.i_stepBy p0 p1 p2 = some r) : FnOk Tryz.prog gl 183 [.agg (eTHex p0), cI p1, cI p2] (.agg (eTHex r)) := by
 unfold X.i_stepBy at H
 refine fi Tryz.f183 i_stepBy_ir [(6, pk 6)] [(6, va (eTHex r))] glL Tryz.func183 ?_
 refine so [] [] [(1, cI p1), (2, cI p2), (3, pk 3), (6, pk 6)] [(3, va (eTHex p0)), (6, .var [.int .i64 0, .int .i64 0] false)] id ?_
 obtain ⟨v1, h2, H⟩ := ofBind H
 refine sd [.cs (eTHex v1), .cs (eTHex v1)] [] [(6, pk 6)] [(6, .var [.int .i64 (W (p0.Q + (W (p2 * v1.Q)))), .int .i64 (W (p0.R + (W (p2 * v1.R))))] false)] (fun t => aI (at_lt h2) (aI (dirs_at h2) (aI (rfl : ([] : List Nat) = []) (aI (at_lt h2) (aI (dirs_at h2) (aI (rfl : ([] : List Nat) = []) (t))))))) ?_
 refine ends_ret ?_
 cases H
 exact And.intro (.inl rfl) rfl
def i_hexOf_ir : S :=
 (.seq (.ops [o 2 (.box 5 (.t 0)), o 4 (.alloc [.int .i64 0, .int .i64 0])])
 (.seq (.draw 9 [o 5 (.mv (.t 1)), o 6 (.fad 0 (.t 2)), o 7 (.load 1 false (.t 6)), o 8 (.bin .rem (.t 5) (.t 7)), o 9 (.mv (.t 1)), o 10 (.fad 0 (.t 2)), o 11 (.load 1 false (.t 10)), o 12 (.bin .quo (.t 9) (.t 11)), o 13 (.build [.int .i64 0, .int .i64 0] [(0, 1, .t 8), (1, 1, .t 12)]), ⟨none, .store 2 (.t 4) (.t 13), none⟩])
 .ret))
noncomputable def X.i_hexOf (p0 : TMap) (p1 : Int) : Option THex :=
 (if p0.Width ≠ 0 then (if p0.Width ≠ 0 then some (THex.mk (Int.tmod p1 p0.Width) (W (Int.tdiv p1 p0.Width))) else none) else none)
theorem i_hexOf_ok (p0 : TMap) (p1 : Int) (r : THex) (H : X.i_hexOf p0 p1 = some r) : FnOk Tryz.prog gl 184 [.agg (eTMap p0), cI p1] (.agg (eTHex r)) := by
 unfold X.i_hexOf at H
 refine fi Tryz.f184 i_hexOf_ir [(4, pk 4)] [(4, va (eTHex r))] glL Tryz.func184 ?_
 refine so [] [] [(1, cI p1), (2, pk 2), (4, pk 4)] [(2, va (eTMap p0)), (4, .var [.int .i64 0, .int .i64 0] false)] id ?_
 obtain ⟨g1, H⟩ := ofIf H
 obtain ⟨g2, H⟩ := ofIf H
 refine sd [] [] [(4, pk 4)] [(4, .var [.int .i64 (Int.tmod p1 p0.Width), .int .i64 (W (Int.tdiv p1 p0.Width))] false)] (fun t => aI g1 (aI g2 (t))) ?_
 refine ends_ret ?_
 cases H
 exact And.intro (.inl rfl) rfl
def i_nextTo_ir : S :=
 (.seq (.ops [o 3 (.box 5 (.t 0)), o 6 (.mv (.v (.int .i64 0)))])
 (.seq (.draw 8 [o 7 (.load 5 true (.t 3)), o 8 (.load 5 true (.t 3)), o 9 (.mv (.t 1)), o 10 (.call 184 [.t 8, .t 9]), o 11 (.mv (.t 2)), o 12 (.call 183 [.t 10, .t 11, .v (.int .i64 1)]), o 13 (.call 182 [.t 7, .t 12]), o 6 (.mv (.t 13))])
 .ret))
noncomputable def X.i_nextTo (p0 : TMap) (p1 : Int) (p2 : Int) : Option Int :=
 ((X.i_hexOf p0 p1).bind fun v1 => ((X.i_stepBy v1 p2 1).bind fun v3 => ((X.i_indexOf p0 v3).bind fun v5 => some v5)))
theorem i_nextTo_ok (p0 : TMap) (p1 : Int) (p2 : Int) (r : Int) (H : X.i_nextTo p0 p1 p2 = some r) : FnOk Tryz.prog gl 133 [.agg (eTMap p0), cI p1, cI p2] (cI r) := by
 unfold X.i_nextTo at H
 refine fi Tryz.f133 i_nextTo_ir [(6, cI r)] [] glL Tryz.func133 ?_
 refine so [] [] [(1, cI p1), (2, cI p2), (3, pk 3)] [(3, va (eTMap p0))] id ?_
 obtain ⟨v1, h2, H⟩ := ofBind H
 obtain ⟨v3, h4, H⟩ := ofBind H
 obtain ⟨v5, h6, H⟩ := ofBind H
 refine sd [.res (.agg (eTHex v1)), .res (.agg (eTHex v3)), .res (cI v5)] [] [(6, cI v5)] [] (fun t => aI (i_hexOf_ok p0 p1 v1 h2) (aI trivial (aI (rfl : ([] : List Nat) = []) (aI (i_stepBy_ok v1 p2 1 v3 h4) (aI trivial (aI (rfl : ([] : List Nat) = []) (aI (i_indexOf_ok p0 v3 v5 h6) (aI trivial (aI (rfl : ([] : List Nat) = []) (t)))))))))) ?_
 refine ends_ret ?_
 cases H
 exact And.intro (.inl rfl) rfl
def i_isEdge_ir : S :=
 (.seq (.ops [o 2 (.box 5 (.t 0)), o 4 (.mv (.v (.bool false)))])
 (.seq (.ops [o 5 (.mv (.t 1)), o 6 (.fad 0 (.t 2)), o 7 (.load 1 false (.t 6)), o 8 (.bin .mul (.v (.int .i64 3)) (.t 7)), o 9 (.fad 1 (.t 2)), o 10 (.load 1 false (.t 9)), o 11 (.bin .mul (.t 8) (.t 10)), o 12 (.bin .sub (.t 11) (.v (.int .i64 1))), o 13 (.call 145 [.t 5, .v (.int .i64 0), .t 12]), o 14 (.mv (.t 13)), ⟨some 15, .load 5 true (.t 2), some (14, true)⟩, ⟨some 16, .mv (.t 1), some (14, true)⟩, ⟨some 17, .bin .quo (.t 16) (.v (.int .i64 3)), some (14, true)⟩, ⟨some 18, .mv (.t 1), some (14, true)⟩, ⟨some 19, .bin .rem (.t 18) (.v (.int .i64 3)), some (14, true)⟩, ⟨some 20, .call 133 [.t 15, .t 17, .t 19], some (14, true)⟩, ⟨some 21, .bin .geq (.t 20) (.v (.int .i64 0)), some (14, true)⟩, o 22 (.pick (.t 14) (.t 21) (.v (.bool false))), o 4 (.mv (.t 22))])
 .ret))
noncomputable def X.i_isEdge (p0 : TMap) (p1 : Int) : Option Bool :=
 ((X.i_inRange p1 0 (W ((W ((W (3 * p0.Width)) * p0.Height)) - 1))).bind fun v1 => (bif v1 then ((X.i_nextTo p0 (W (Int.tdiv p1 3)) (Int.tmod p1 3)).bind fun v4 => some (decide (v4 ≥ 0))) else some false))
theorem i_isEdge_ok (p0 : TMap) (p1 : Int) (r : Bool) (H : X.i_isEdge p0 p1 = some r) : FnOk Tryz.prog gl 217 [.agg (eTMap p0), cI p1] (cB r) := by
 unfold X.i_isEdge at H
 refine fi Tryz.f217 i_isEdge_ir [(4, cB r)] [] glL Tryz.func217 ?_
 refine so [] [] [(1, cI p1), (2, pk 2)] [(2, va (eTMap p0))] id ?_
 obtain ⟨v1, h2, H⟩ := ofBind H
 rcases ofCond H with ⟨c3, H⟩ | ⟨c3, H⟩
 ·obtain ⟨v4, h5, H⟩ := ofBind H
  refine so [.res (cB v1), .g true, .g true, .g true, .g true, .g true, .g true, .res (cI v4), .g true, .g true] [] [(4, cB (decide (v4 ≥ 0)))] [] (fun t => aI (i_inRange_ok p1 0 (W ((W ((W (3 * p0.Width)) * p0.Height)) - 1)) v1 h2) (aI c3 (aI c3 (aI c3 (aI (by decide : (3 : Int) ≠ 0) (aI c3 (aI c3 (aI (by decide : (3 : Int) ≠ 0) (aI c3 (aI (i_nextTo_ok p0 (W (Int.tdiv p1 3)) (Int.tmod p1 3) v4 h5) (aI c3 (aI c3 (t))))))))))))) ?_
  refine ends_ret ?_
  cases H
  exact And.intro (.inl rfl) rfl
 ·refine so [.res (cB v1), .g false, .g false, .g false, .g false, .g false, .g false, .g false, .g false] [] [(4, cB false)] [] (fun t => aI (i_inRange_ok p1 0 (W ((W ((W (3 * p0.Width)) * p0.Height)) - 1)) v1 h2) (aI c3 (aI c3 (aI c3 (aI c3 (aI c3 (aI c3 (aI c3 (aI c3 (t)))))))))) ?_
  refine ends_ret ?_
  cases H
  exact And.intro (.inl rfl) rfl
def i_IsMap_ir : S :=
 (.seq (.ops [o 1 (.box 5 (.t 0)), o 2 (.mv (.v (.bool false)))])
 (.seq (.seq (.ops [o 9 (.fad 0 (.t 1)), o 10 (.load 1 false (.t 9)), o 11 (.call 145 [.t 10, .v (.int .i64 1), .v (.int .i64 10)]), o 12 (.not (.t 11)), o 13 (.mv (.t 12)), ⟨some 14, .fad 1 (.t 1), some (13, false)⟩, ⟨some 15, .load 1 false (.t 14), some (13, false)⟩, ⟨some 16, .call 145 [.t 15, .v (.int .i64 1), .v (.int .i64 10)], some (13, false)⟩, ⟨some 17, .not (.t 16), some (13, false)⟩, o 18 (.pick (.t 13) (.v (.bool true)) (.t 17)), o 19 (.mv (.t 18)), ⟨some 20, .fad 2 (.t 1), some (19, false)⟩, ⟨some 21, .load 1 false (.t 20), some (19, false)⟩, ⟨some 22, .len (.t 21), some (19, false)⟩, ⟨some 23, .fad 0 (.t 1), some (19, false)⟩, ⟨some 24, .load 1 false (.t 23), some (19, false)⟩, ⟨some 25, .fad 1 (.t 1), some (19, false)⟩, ⟨some 26, .load 1 false (.t 25), some (19, false)⟩, ⟨some 27, .bin .mul (.t 24) (.t 26), some (19, false)⟩, ⟨some 28, .bin .neq (.t 22) (.t 27), some (19, false)⟩, o 29 (.pick (.t 19) (.v (.bool true)) (.t 28))])
 (.ite (.t 29) (.seq (.ops [o 2 (.mv (.v (.bool false)))])
  .ret)
 .skip))
 (.seq (.seq (.ops [o 30 (.fad 2 (.t 1)), o 31 (.load 1 false (.t 30)), o 32 (.len (.t 31)), o 33 (.mv (.v (.int .i64 0)))])
 (.blk 0 (.loop (.seq (.ops [o 34 (.bin .lss (.t 33) (.t 32))])
   (.seq (.ite (.t 34) .skip
   (.exit 0))
   (.seq (.blk 1 (.seq (.ops [o 35 (.iad 1 (.t 31) (.t 33)), o 36 (.load 1 false (.t 35)), o 4 (.mv (.t 36))])
    (.seq (.ops [o 37 (.mv (.t 4)), o 38 (.call 115 [.t 37, .v (.int .i64 6)]), o 39 (.not (.t 38))])
    (.ite (.t 39) (.seq (.ops [o 2 (.mv (.v (.bool false)))])
     .ret)
    .skip))))
   (.ops [o 40 (.bin .add (.t 33) (.v (.int .i64 1))), o 33 (.mv (.t 40))])))))))
 (.seq (.seq (.ops [o 41 (.fad 3 (.t 1)), o 42 (.load 1 false (.t 41)), o 43 (.fad 4 (.t 1)), o 44 (.load 1 false (.t 43)), o 45 (.bsl 1 [.t 42, .t 44]), o 46 (.len (.t 45)), o 47 (.mv (.v (.int .i64 0)))])
 (.blk 2 (.loop (.seq (.ops [o 48 (.bin .lss (.t 47) (.t 46))])
   (.seq (.ite (.t 48) .skip
   (.exit 2))
   (.seq (.blk 3 (.seq (.ops [o 49 (.iad 1 (.t 45) (.t 47)), o 50 (.load 1 false (.t 49)), o 6 (.mv (.t 50))])
    (.seq (.seq (.ops [o 51 (.mv (.t 6)), o 52 (.call 147 [.t 51]), o 53 (.not (.t 52))])
    (.ite (.t 53) (.seq (.ops [o 2 (.mv (.v (.bool false)))])
     .ret)
    .skip))
    (.seq (.ops [o 54 (.mv (.t 6)), o 55 (.len (.t 54)), o 56 (.mv (.v (.int .i64 0)))])
    (.blk 4 (.loop (.seq (.ops [o 57 (.bin .lss (.t 56) (.t 55))])
      (.seq (.ite (.t 57) .skip
      (.exit 4))
      (.seq (.blk 5 (.seq (.ops [o 58 (.iad 1 (.t 54) (.t 56)), o 59 (.load 1 false (.t 58)), o 8 (.mv (.t 59))])
       (.seq (.ops [o 60 (.load 5 true (.t 1)), o 61 (.mv (.t 8)), o 62 (.call 217 [.t 60, .t 61]), o 63 (.not (.t 62))])
       (.ite (.t 63) (.seq (.ops [o 2 (.mv (.v (.bool false)))])
        .ret)
       .skip))))
      (.ops [o 64 (.bin .add (.t 56) (.v (.int .i64 1))), o 56 (.mv (.t 64))]))))))))))
   (.ops [o 65 (.bin .add (.t 47) (.v (.int .i64 1))), o 47 (.mv (.t 65))])))))))
 (.seq (.ops [o 2 (.mv (.v (.bool true)))])
 .ret)))))
noncomputable def X.i_IsMap (p0 : TMap) : Option Bool :=
 ((X.i_inRange p0.Width 1 10).bind fun v8 => (bif (!v8) then some false else ((X.i_inRange p0.Height 1 10).bind fun v11 => (bif (!v11) then some false else (bif ((p0.Terrain.length : Int) != (W (p0.Width * p0.Height))) then some false else ((loop (fun (x57 : Int) => ((bif (decide (x57 < (p0.Terrain.length : Int))) then ((at' zI p0.Terrain x57).bind fun v60 => ((X.i_isIndex v60 6).bind fun v62 => (bif (!v62) then some (Sum.inr (Sum.inr false)) else some (Sum.inl (W (x57 + 1)))))) else some (Sum.inr (Sum.inl ()))) : Option (Int ⊕ (Unit ⊕ Bool)))) 0).bind fun y65 => (Sum.elim (fun (y67 : Unit) => ((loop (fun (x142 : Int) => ((bif (decide (x142 < (([p0.Rivers, p0.Roads] : List (List Int)).length : Int))) then (if 0 ≤ x142 ∧ x142 < (([p0.Rivers, p0.Roads] : List (List Int)).length : Int) then ((X.i_increasing (([p0.Rivers, p0.Roads] : List (List Int)).getD x142.toNat zLI)).bind fun v149 => (bif (!v149) then some (Sum.inr (Sum.inr false)) else ((loop (fun (x167 : Int) => ((bif (decide (x167 < ((([p0.Rivers, p0.Roads] : List (List Int)).getD x142.toNat zLI).length : Int))) then ((at' zI (([p0.Rivers, p0.Roads] : List (List Int)).getD x142.toNat zLI) x167).bind fun v170 => ((X.i_isEdge p0 v170).bind fun v172 => (bif (!v172) then some (Sum.inr (Sum.inr false)) else some (Sum.inl (W (x167 + 1)))))) else some (Sum.inr (Sum.inl ()))) : Option (Int ⊕ (Unit ⊕ Bool)))) 0).bind fun y175 => (Sum.elim (fun (y177 : Unit) => some (Sum.inl (W (x142 + 1)))) (fun (y178 : Bool) => some (Sum.inr (Sum.inr y178))) y175)))) else none) else some (Sum.inr (Sum.inl ()))) : Option (Int ⊕ (Unit ⊕ Bool)))) 0).bind fun y179 => (Sum.elim (fun (y181 : Unit) => some true) (fun (y182 : Bool) => some y182) y179))) (fun (y68 : Bool) => some y68) y65)))))))
theorem i_IsMap_ok (p0 : TMap) (r : Bool) (H : X.i_IsMap p0 = some r) : FnOk Tryz.prog gl 194 [.agg (eTMap p0)] (cB r) := by
 unfold X.i_IsMap at H
 refine fi Tryz.f194 i_IsMap_ir [(2, cB r)] [] glL Tryz.func194 ?_
 refine so [] [] [(1, pk 1)] [(1, va (eTMap p0))] id ?_
 refine seq_in ?_
 obtain ⟨v8, h9, H⟩ := ofBind H
 rcases ofCond H with ⟨c10, H⟩ | ⟨c10, H⟩
 ·refine so [.res (cB v8), .g true, .g true, .g true, .g true, .g true, .g true, .g true, .g true, .g true, .g true, .g true, .g true, .g true, .g true, .g true] [] [(1, pk 1), (29, cB true)] [(1, va (eTMap p0))] (fun t => aI (i_inRange_ok p0.Width 1 10 v8 h9) (aI c10 (aI c10 (aI c10 (aI c10 (aI c10 (aI (rfl : (true : Bool) = true) (aI (rfl : (true : Bool) = true) (aI (rfl : (true : Bool) = true) (aI (rfl : (true : Bool) = true) (aI (rfl : (true : Bool) = true) (aI (rfl : (true : Bool) = true) (aI (rfl : (true : Bool) = true) (aI (rfl : (true : Bool) = true) (aI (rfl : (true : Bool) = true) (aI (rfl : (true : Bool) = true) (t))))))))))))))))) ?_
  refine it (rfl : (true : Bool) = true) ?_
  refine so [] [] [(2, cB false)] [] id ?_
  refine ends_ret ?_
  cases H
  exact And.intro (.inl rfl) rfl
 ·obtain ⟨v11, h12, H⟩ := ofBind H
  rcases ofCond H with ⟨c13, H⟩ | ⟨c13, H⟩
  ·refine so [.res (cB v8), .g false, .g false, .g false, .res (cB v11), .g false, .g false, .g true, .g true, .g true, .g true, .g true, .g true, .g true, .g true, .g true, .g true] [] [(1, pk 1), (29, cB true)] [(1, va (eTMap p0))] (fun t => aI (i_inRange_ok p0.Width 1 10 v8 h9) (aI c10 (aI c10 (aI c10 (aI (i_inRange_ok p0.Height 1 10 v11 h12) (aI c10 (aI c10 (aI c13 (aI c13 (aI c13 (aI c13 (aI c13 (aI c13 (aI c13 (aI c13 (aI c13 (aI c13 (t)))))))))))))))))) ?_
   refine it (rfl : (true : Bool) = true) ?_
   refine so [] [] [(2, cB false)] [] id ?_
   refine ends_ret ?_
   cases H
   exact And.intro (.inl rfl) rfl
  ·refine so [.res (cB v8), .g false, .g false, .g false, .res (cB v11), .g false, .g false, .g false, .g false, .g false, .g false, .g false, .g false, .g false, .g false, .g false, .g false] [] [(1, pk 1), (29, cB ((p0.Terrain.length : Int) != (W (p0.Width * p0.Height))))] [(1, va (eTMap p0))] (fun t => aI (i_inRange_ok p0.Width 1 10 v8 h9) (aI c10 (aI c10 (aI c10 (aI (i_inRange_ok p0.Height 1 10 v11 h12) (aI c10 (aI c10 (aI c13 (aI c13 (aI c13 (lI p0.Terrain (aI c13 (aI c13 (aI c13 (aI c13 (aI c13 (aI c13 (aI c13 (t))))))))))))))))))) ?_
   rcases ofCond H with ⟨c14, H⟩ | ⟨c14, H⟩
   ·refine it c14 ?_
    refine so [] [] [(2, cB false)] [] id ?_
    refine ends_ret ?_
    cases H
    exact And.intro (.inl rfl) rfl
   ·refine jf c14 ?_
    refine sk ?_
    refine seq_in ?_
    refine so [] [] [(1, pk 1), (31, dc 1 eI zI p0.Terrain), (32, cI (p0.Terrain.length : Int)), (33, cI 0)] [(1, va (eTMap p0))] (fun t => lI p0.Terrain (t)) ?_
    refine ends_blk ?_
    obtain ⟨y65, h66, H⟩ := ofBind H
    refine loop_in (fun (x : Int) => lit [(1, pk 1), (31, dc 1 eI zI p0.Terrain), (32, cI (p0.Terrain.length : Int)), (33, cI x)] [(1, va (eTMap p0))]) (orJ (fun (z : Unit) => At (.exit 0) (lit [(1, pk 1)] [(1, va (eTMap p0))])) (fun (z : Bool) => At .ret (lit [(2, cB z)] []))) h66 ?_ ?_
    ·clear H h66
     intro x57 y0 H
     refine so [] [] [(1, pk 1), (31, dc 1 eI zI p0.Terrain), (32, cI (p0.Terrain.length : Int)), (33, cI x57), (34, cB (decide (x57 < (p0.Terrain.length : Int))))] [(1, va (eTMap p0))] id ?_
     refine seq_in ?_
     rcases ofCond H with ⟨c59, H⟩ | ⟨c59, H⟩
     ·refine it c59 ?_
      refine sk ?_
      refine seq_in ?_
      refine ends_blk ?_
      obtain ⟨v60, h61, H⟩ := ofBind H
      refine so [.cs (eI v60)] [] [(1, pk 1), (4, cI v60), (31, dc 1 eI zI p0.Terrain), (32, cI (p0.Terrain.length : Int)), (33, cI x57)] [(1, va (eTMap p0))] (fun t => aI (at_lt h61) (aI (at_enc (enc := eI) h61) (t))) ?_
      obtain ⟨v62, h63, H⟩ := ofBind H
      refine so [.res (cB v62)] [] [(1, pk 1), (31, dc 1 eI zI p0.Terrain), (32, cI (p0.Terrain.length : Int)), (33, cI x57), (39, cB (!v62))] [(1, va (eTMap p0))] (fun t => aI (i_isIndex_ok v60 6 v62 h63) (t)) ?_
      rcases ofCond H with ⟨c64, H⟩ | ⟨c64, H⟩
      ·refine it c64 ?_
       refine so [] [] [(2, cB false)] [] id ?_
       refine ends_ret ?_
       cases H
       exact And.intro (by simp) (And.intro rfl rfl)
      ·refine jf c64 ?_
       refine sk ?_
       refine oo [] [] [(1, pk 1), (31, dc 1 eI zI p0.Terrain), (32, cI (p0.Terrain.length : Int)), (33, cI (W (x57 + 1)))] [(1, va (eTMap p0))] id ?_
       cases H
       exact And.intro rfl rfl
     ·refine jf c59 ?_
      refine tl [] [(1, pk 1)] [(1, va (eTMap p0))] id ?_
      refine ends_exit ?_
      cases H
      exact And.intro (by simp) (And.intro rfl rfl)
    ·clear h66
     cases y65 with
     | inl y67 =>
      replace H := ofInl H
      intro e s q
      obtain ⟨rfl, rfl⟩ := q
      change EndsI _ _ _ _ _ _
      refine seq_in ?_
      refine so [.fn ([p0.Rivers, p0.Roads] : List (List Int)).length (fF eLI zLI ([p0.Rivers, p0.Roads] : List (List Int)))] [] [(1, pk 1), (45, .c (.own 45 1 0 (([p0.Rivers, p0.Roads] : List (List Int)).length))), (46, cI (([p0.Rivers, p0.Roads] : List (List Int)).length : Int)), (47, cI 0)] [(1, va (eTMap p0)), (45, .arr 1 (([p0.Rivers, p0.Roads] : List (List Int)).length) (fF eLI zLI ([p0.Rivers, p0.Roads] : List (List Int))) false)] (fun t => aI (rfl : ([p0.Rivers, p0.Roads] : List (List Int)).length = 2) (aI (fF_lit eLI zLI ([p0.Rivers, p0.Roads] : List (List Int))) ((fun (_ : ([p0.Rivers, p0.Roads] : List (List Int)).length ≤ maxLen) => t)))) ?_
      refine ends_blk ?_
      obtain ⟨y179, h180, H⟩ := ofBind H
      refine loop_in (fun (x : Int) => lit [(1, pk 1), (45, .c (.own 45 1 0 (([p0.Rivers, p0.Roads] : List (List Int)).length))), (46, cI (([p0.Rivers, p0.Roads] : List (List Int)).length : Int)), (47, cI x)] [(1, va (eTMap p0)), (45, .arr 1 (([p0.Rivers, p0.Roads] : List (List Int)).length) (fF eLI zLI ([p0.Rivers, p0.Roads] : List (List Int))) false)]) (orJ (fun (z : Unit) => At (.exit 2) (lit [] [])) (fun (z : Bool) => At .ret (lit [(2, cB z)] []))) h180 ?_ ?_
      ·clear H h180
       intro x142 y0 H
       refine so [] [] [(1, pk 1), (45, .c (.own 45 1 0 (([p0.Rivers, p0.Roads] : List (List Int)).length))), (46, cI (([p0.Rivers, p0.Roads] : List (List Int)).length : Int)), (47, cI x142), (48, cB (decide (x142 < (([p0.Rivers, p0.Roads] : List (List Int)).length : Int))))] [(1, va (eTMap p0)), (45, .arr 1 (([p0.Rivers, p0.Roads] : List (List Int)).length) (fF eLI zLI ([p0.Rivers, p0.Roads] : List (List Int))) false)] id ?_
       refine seq_in ?_
       rcases ofCond H with ⟨c144, H⟩ | ⟨c144, H⟩
       ·refine it c144 ?_
        refine sk ?_
        refine seq_in ?_
        refine ends_blk ?_
        obtain ⟨g145, H⟩ := ofIf H
        refine so [.no] [] [(1, pk 1), (6, .c (dat 1 eI zI (([p0.Rivers, p0.Roads] : List (List Int)).getD x142.toNat zLI))), (45, .c (.own 45 1 0 (([p0.Rivers, p0.Roads] : List (List Int)).length))), (46, cI (([p0.Rivers, p0.Roads] : List (List Int)).length : Int)), (47, cI x142)] [(1, va (eTMap p0)), (45, .arr 1 (([p0.Rivers, p0.Roads] : List (List Int)).length) (fF eLI zLI ([p0.Rivers, p0.Roads] : List (List Int))) false)] (fun t => aI g145 (aI (nat_lt g145) (t))) ?_
        refine seq_in ?_
        obtain ⟨v149, h150, H⟩ := ofBind H
        refine so [.res (cB v149)] [] [(1, pk 1), (6, .c (dat 1 eI zI (([p0.Rivers, p0.Roads] : List (List Int)).getD x142.toNat zLI))), (45, .c (.own 45 1 0 (([p0.Rivers, p0.Roads] : List (List Int)).length))), (46, cI (([p0.Rivers, p0.Roads] : List (List Int)).length : Int)), (47, cI x142), (53, cB (!v149))] [(1, va (eTMap p0)), (45, .arr 1 (([p0.Rivers, p0.Roads] : List (List Int)).length) (fF eLI zLI ([p0.Rivers, p0.Roads] : List (List Int))) false)] (fun t => aI (i_increasing_ok (([p0.Rivers, p0.Roads] : List (List Int)).getD x142.toNat zLI) v149 h150) (t)) ?_
        rcases ofCond H with ⟨c151, H⟩ | ⟨c151, H⟩
        ·refine it c151 ?_
         refine so [] [] [(2, cB false)] [] id ?_
         refine ends_ret ?_
         cases H
         exact And.intro (by simp) (And.intro rfl rfl)
        ·refine jf c151 ?_
         refine sk ?_
         refine so [] [] [(1, pk 1), (45, .c (.own 45 1 0 (([p0.Rivers, p0.Roads] : List (List Int)).length))), (46, cI (([p0.Rivers, p0.Roads] : List (List Int)).length : Int)), (47, cI x142), (54, .c (dat 1 eI zI (([p0.Rivers, p0.Roads] : List (List Int)).getD x142.toNat zLI))), (55, cI ((([p0.Rivers, p0.Roads] : List (List Int)).getD x142.toNat zLI).length : Int)), (56, cI 0)] [(1, va (eTMap p0)), (45, .arr 1 (([p0.Rivers, p0.Roads] : List (List Int)).length) (fF eLI zLI ([p0.Rivers, p0.Roads] : List (List Int))) false)] (fun t => (fun (_ : (([p0.Rivers, p0.Roads] : List (List Int)).getD x142.toNat zLI).length ≤ maxLen) => t)) ?_
         refine ends_blk ?_
         obtain ⟨y175, h176, H⟩ := ofBind H
         refine loop_in (fun (x : Int) => lit [(1, pk 1), (45, .c (.own 45 1 0 (([p0.Rivers, p0.Roads] : List (List Int)).length))), (46, cI (([p0.Rivers, p0.Roads] : List (List Int)).length : Int)), (47, cI x142), (54, .c (dat 1 eI zI (([p0.Rivers, p0.Roads] : List (List Int)).getD x142.toNat zLI))), (55, cI ((([p0.Rivers, p0.Roads] : List (List Int)).getD x142.toNat zLI).length : Int)), (56, cI x)] [(1, va (eTMap p0)), (45, .arr 1 (([p0.Rivers, p0.Roads] : List (List Int)).length) (fF eLI zLI ([p0.Rivers, p0.Roads] : List (List Int))) false)]) (orJ (fun (z : Unit) => At (.exit 4) (lit [(1, pk 1), (45, .c (.own 45 1 0 (([p0.Rivers, p0.Roads] : List (List Int)).length))), (46, cI (([p0.Rivers, p0.Roads] : List (List Int)).length : Int)), (47, cI x142)] [(1, va (eTMap p0)), (45, .arr 1 (([p0.Rivers, p0.Roads] : List (List Int)).length) (fF eLI zLI ([p0.Rivers, p0.Roads] : List (List Int))) false)])) (fun (z : Bool) => At .ret (lit [(2, cB z)] []))) h176 ?_ ?_
         ·clear H h176
          intro x167 y0 H
          refine so [] [] [(1, pk 1), (45, .c (.own 45 1 0 (([p0.Rivers, p0.Roads] : List (List Int)).length))), (46, cI (([p0.Rivers, p0.Roads] : List (List Int)).length : Int)), (47, cI x142), (54, .c (dat 1 eI zI (([p0.Rivers, p0.Roads] : List (List Int)).getD x142.toNat zLI))), (55, cI ((([p0.Rivers, p0.Roads] : List (List Int)).getD x142.toNat zLI).length : Int)), (56, cI x167), (57, cB (decide (x167 < ((([p0.Rivers, p0.Roads] : List (List Int)).getD x142.toNat zLI).length : Int))))] [(1, va (eTMap p0)), (45, .arr 1 (([p0.Rivers, p0.Roads] : List (List Int)).length) (fF eLI zLI ([p0.Rivers, p0.Roads] : List (List Int))) false)] id ?_
          refine seq_in ?_
          rcases ofCond H with ⟨c169, H⟩ | ⟨c169, H⟩
          ·refine it c169 ?_
           refine sk ?_
           refine seq_in ?_
           refine ends_blk ?_
           obtain ⟨v170, h171, H⟩ := ofBind H
           refine so [.cs (eI v170)] [] [(1, pk 1), (8, cI v170), (45, .c (.own 45 1 0 (([p0.Rivers, p0.Roads] : List (List Int)).length))), (46, cI (([p0.Rivers, p0.Roads] : List (List Int)).length : Int)), (47, cI x142), (54, .c (dat 1 eI zI (([p0.Rivers, p0.Roads] : List (List Int)).getD x142.toNat zLI))), (55, cI ((([p0.Rivers, p0.Roads] : List (List Int)).getD x142.toNat zLI).length : Int)), (56, cI x167)] [(1, va (eTMap p0)), (45, .arr 1 (([p0.Rivers, p0.Roads] : List (List Int)).length) (fF eLI zLI ([p0.Rivers, p0.Roads] : List (List Int))) false)] (fun t => aI (at_lt h171) (aI (at_enc (enc := eI) h171) (t))) ?_
           obtain ⟨v172, h173, H⟩ := ofBind H
           refine so [.res (cB v172)] [] [(1, pk 1), (45, .c (.own 45 1 0 (([p0.Rivers, p0.Roads] : List (List Int)).length))), (46, cI (([p0.Rivers, p0.Roads] : List (List Int)).length : Int)), (47, cI x142), (54, .c (dat 1 eI zI (([p0.Rivers, p0.Roads] : List (List Int)).getD x142.toNat zLI))), (55, cI ((([p0.Rivers, p0.Roads] : List (List Int)).getD x142.toNat zLI).length : Int)), (56, cI x167), (63, cB (!v172))] [(1, va (eTMap p0)), (45, .arr 1 (([p0.Rivers, p0.Roads] : List (List Int)).length) (fF eLI zLI ([p0.Rivers, p0.Roads] : List (List Int))) false)] (fun t => aI (i_isEdge_ok p0 v170 v172 h173) (t)) ?_
           rcases ofCond H with ⟨c174, H⟩ | ⟨c174, H⟩
           ·refine it c174 ?_
            refine so [] [] [(2, cB false)] [] id ?_
            refine ends_ret ?_
            cases H
            exact And.intro (by simp) (And.intro rfl rfl)
           ·refine jf c174 ?_
            refine sk ?_
            refine oo [] [] [(1, pk 1), (45, .c (.own 45 1 0 (([p0.Rivers, p0.Roads] : List (List Int)).length))), (46, cI (([p0.Rivers, p0.Roads] : List (List Int)).length : Int)), (47, cI x142), (54, .c (dat 1 eI zI (([p0.Rivers, p0.Roads] : List (List Int)).getD x142.toNat zLI))), (55, cI ((([p0.Rivers, p0.Roads] : List (List Int)).getD x142.toNat zLI).length : Int)), (56, cI (W (x167 + 1)))] [(1, va (eTMap p0)), (45, .arr 1 (([p0.Rivers, p0.Roads] : List (List Int)).length) (fF eLI zLI ([p0.Rivers, p0.Roads] : List (List Int))) false)] id ?_
            cases H
            exact And.intro rfl rfl
          ·refine jf c169 ?_
           refine tl [] [(1, pk 1), (45, .c (.own 45 1 0 (([p0.Rivers, p0.Roads] : List (List Int)).length))), (46, cI (([p0.Rivers, p0.Roads] : List (List Int)).length : Int)), (47, cI x142)] [(1, va (eTMap p0)), (45, .arr 1 (([p0.Rivers, p0.Roads] : List (List Int)).length) (fF eLI zLI ([p0.Rivers, p0.Roads] : List (List Int))) false)] id ?_
           refine ends_exit ?_
           cases H
           exact And.intro (by simp) (And.intro rfl rfl)
         ·clear h176
          cases y175 with
          | inl y177 =>
           replace H := ofInl H
           intro e s q
           obtain ⟨rfl, rfl⟩ := q
           change EndsI _ _ _ _ _ _
           refine oo [] [] [(1, pk 1), (45, .c (.own 45 1 0 (([p0.Rivers, p0.Roads] : List (List Int)).length))), (46, cI (([p0.Rivers, p0.Roads] : List (List Int)).length : Int)), (47, cI (W (x142 + 1)))] [(1, va (eTMap p0)), (45, .arr 1 (([p0.Rivers, p0.Roads] : List (List Int)).length) (fF eLI zLI ([p0.Rivers, p0.Roads] : List (List Int))) false)] id ?_
           cases H
           exact And.intro rfl rfl
          | inr y178 =>
           replace H := ofInr H
           intro e s q
           obtain ⟨rfl, rfl⟩ := q
           cases H
           exact And.intro (by simp) (And.intro rfl rfl)
       ·refine jf c144 ?_
        refine tl [] [] [] id ?_
        refine ends_exit ?_
        cases H
        exact And.intro (by simp) (And.intro rfl rfl)
      ·clear h180
       cases y179 with
       | inl y181 =>
        replace H := ofInl H
        intro e s q
        obtain ⟨rfl, rfl⟩ := q
        change EndsI _ _ _ _ _ _
        refine so [] [] [(2, cB true)] [] id ?_
        refine ends_ret ?_
        cases H
        exact And.intro (.inl rfl) rfl
       | inr y182 =>
        replace H := ofInr H
        intro e s q
        obtain ⟨rfl, rfl⟩ := q
        cases H
        exact And.intro (.inl rfl) rfl
     | inr y68 =>
      replace H := ofInr H
      intro e s q
      obtain ⟨rfl, rfl⟩ := q
      cases H
      exact And.intro (.inl rfl) rfl
def i_IsBoard_1_ir : S :=
 (.seq (.ops [o 3 (.mv (.v (.bool false)))])
 (.seq (.ops [o 4 (.mv (.t 0)), o 5 (.fad 0 (.t 1)), o 6 (.fad 0 (.t 5)), o 7 (.load 1 false (.t 6)), o 8 (.len (.t 7)), o 9 (.bin .geq (.t 4) (.t 8)), o 3 (.mv (.t 9))])
 .ret))
noncomputable def X.i_IsBoard_1 (p0 : Int) (p1 : TBoard) : Option Bool :=
 some (decide (p0 ≥ (p1.Rules.Terrains.length : Int)))
theorem i_IsBoard_1_ok (p0 : Int) (p1 : TBoard) (r : Bool) (H : X.i_IsBoard_1 p0 p1 = some r) : FnOk Tryz.prog gl 195 [cI p0, .c (.pd (eTBoard p1) 0)] (cB r) := by
 unfold X.i_IsBoard_1 at H
 refine fi Tryz.f195 i_IsBoard_1_ir [(3, cB r)] [] glL Tryz.func195 ?_
 refine so [] [] [(0, cI p0), (1, .c (.pd (eTBoard p1) 0))] [] id ?_
 refine so [] [] [(3, cB (decide (p0 ≥ (p1.Rules.Terrains.length : Int))))] [] (fun t => lI p1.Rules.Terrains (t)) ?_
 refine ends_ret ?_
 cases H
 exact And.intro (.inl rfl) rfl
def i_IsBoard_ir : S :=
 (.seq (.ops [o 1 (.box 12 (.t 0)), o 2 (.mv (.v (.bool false)))])
 (.seq (.seq (.ops [o 3 (.fad 0 (.t 1)), o 4 (.load 7 true (.t 3)), o 5 (.call 193 [.t 4]), o 6 (.not (.t 5)), o 7 (.mv (.t 6)), ⟨some 8, .fad 7 (.t 1), some (7, false)⟩, ⟨some 9, .load 5 true (.t 8), some (7, false)⟩, ⟨some 10, .call 194 [.t 9], some (7, false)⟩, ⟨some 11, .not (.t 10), some (7, false)⟩, o 12 (.pick (.t 7) (.v (.bool true)) (.t 11))])
 (.ite (.t 12) (.seq (.ops [o 2 (.mv (.v (.bool false)))])
  .ret)
 .skip))
 (.seq (.ops [o 13 (.fad 7 (.t 1)), o 14 (.fad 2 (.t 13)), o 15 (.load 1 false (.t 14)), o 16 (.clo 195 [.t 1]), o 17 (.call 70 [.t 15, .t 16]), o 18 (.not (.t 17)), o 2 (.mv (.t 18))])
 .ret)))
noncomputable def X.i_IsBoard (p0 : TBoard) : Option Bool :=
 ((X.i_IsRules p0.Rules).bind fun v7 => (bif (!v7) then some false else ((X.i_IsMap p0.Map).bind fun v10 => (bif (!v10) then some false else ((X.g_ContainsFunc_int p0.Map.Terrain (fun q0 => X.i_IsBoard_1 q0 p0)).bind fun v13 => some (!v13))))))
theorem i_IsBoard_ok (p0 : TBoard) (r : Bool) (H : X.i_IsBoard p0 = some r) : FnOk Tryz.prog gl 143 [.agg (eTBoard p0)] (cB r) := by
 unfold X.i_IsBoard at H
 refine fi Tryz.f143 i_IsBoard_ir [(2, cB r)] [] glL Tryz.func143 ?_
 refine so [] [] [(1, pk 1)] [(1, va (eTBoard p0))] id ?_
 refine seq_in ?_
 obtain ⟨v7, h8, H⟩ := ofBind H
 rcases ofCond H with ⟨c9, H⟩ | ⟨c9, H⟩
 ·refine so [.res (cB v7), .g true, .g true, .g true, .g true, .g true] [] [(1, pk 1), (12, cB true)] [(1, va (eTBoard p0))] (fun t => aI (i_IsRules_ok p0.Rules v7 h8) (aI c9 (aI c9 (aI c9 (aI c9 (aI c9 (t))))))) ?_
  refine it (rfl : (true : Bool) = true) ?_
  refine so [] [] [(2, cB false)] [] id ?_
  refine ends_ret ?_
  cases H
  exact And.intro (.inl rfl) rfl
 ·obtain ⟨v10, h11, H⟩ := ofBind H
  refine so [.res (cB v7), .g false, .g false, .g false, .res (cB v10), .g false, .g false] [] [(1, pk 1), (12, cB (!v10))] [(1, va (eTBoard p0))] (fun t => aI (i_IsRules_ok p0.Rules v7 h8) (aI c9 (aI c9 (aI c9 (aI (i_IsMap_ok p0.Map v10 h11) (aI c9 (aI c9 (t)))))))) ?_
  rcases ofCond H with ⟨c12, H⟩ | ⟨c12, H⟩
  ·refine it c12 ?_
   refine so [] [] [(2, cB false)] [] id ?_
   refine ends_ret ?_
   cases H
   exact And.intro (.inl rfl) rfl
  ·refine jf c12 ?_
   refine sk ?_
   obtain ⟨v13, h14, H⟩ := ofBind H
   refine so [.res (cB v13)] [] [(2, cB (!v13))] [] (fun t => aI (g_ContainsFunc_int_c1_ok p0.Map.Terrain (195) (eTBoard p0) (fun q0 => X.i_IsBoard_1 q0 p0) (fun q0 r h => i_IsBoard_1_ok q0 p0 r h) v13 h14) (t)) ?_
   refine ends_ret ?_
   cases H
   exact And.intro (.inl rfl) rfl
def i_sizeOf_ir : S :=
 (.seq (.ops [o 1 (.box 12 (.t 0)), o 2 (.mv (.v (.int .i64 0)))])
 (.seq (.ops [o 3 (.fad 7 (.t 1)), o 4 (.fad 2 (.t 3)), o 5 (.load 1 false (.t 4)), o 6 (.len (.t 5)), o 2 (.mv (.t 6))])
 .ret))
noncomputable def X.i_sizeOf (p0 : TBoard) : Option Int :=
 some (p0.Map.Terrain.length : Int)
theorem i_sizeOf_ok (p0 : TBoard) (r : Int) (H : X.i_sizeOf p0 = some r) : FnOk Tryz.prog gl 116 [.agg (eTBoard p0)] (cI r) := by
 unfold X.i_sizeOf at H
 refine fi Tryz.f116 i_sizeOf_ir [(2, cI r)] [] glL Tryz.func116 ?_
 refine so [] [] [(1, pk 1)] [(1, va (eTBoard p0))] id ?_
 refine so [] [] [(2, cI (p0.Map.Terrain.length : Int))] [] (fun t => lI p0.Map.Terrain (t)) ?_
 refine ends_ret ?_
 cases H
 exact And.intro (.inl rfl) rfl
def i_isSide_ir : S :=
 (.seq (.ops [o 2 (.mv (.v (.bool false)))])
 (.seq (.ops [o 3 (.mv (.t 0)), o 4 (.call 145 [.t 3, .v (.int .i64 0), .v (.int .i64 1)]), o 2 (.mv (.t 4))])
 .ret))
noncomputable def X.i_isSide (p0 : Int) : Option Bool :=
 ((X.i_inRange p0 0 1).bind fun v1 => some v1)
theorem i_isSide_ok (p0 : Int) (r : Bool) (H : X.i_isSide p0 = some r) : FnOk Tryz.prog gl 132 [cI p0] (cB r) := by
 unfold X.i_isSide at H
 refine fi Tryz.f132 i_isSide_ir [(2, cB r)] [] glL Tryz.func132 ?_
 refine so [] [] [(0, cI p0)] [] id ?_
 obtain ⟨v1, h2, H⟩ := ofBind H
 refine so [.res (cB v1)] [] [(2, cB v1)] [] (fun t => aI (i_inRange_ok p0 0 1 v1 h2) (t)) ?_
 refine ends_ret ?_
 cases H
 exact And.intro (.inl rfl) rfl
def i_terrainAt_ir : S :=
 (.seq (.ops [o 2 (.box 12 (.t 0)), o 4 (.alloc [.str [], .nil, .int .i64 0, .int .i64 0, .bool false])])
 (.seq (.draw 11 [o 5 (.fad 0 (.t 2)), o 6 (.fad 0 (.t 5)), o 7 (.load 1 false (.t 6)), o 8 (.fad 7 (.t 2)), o 9 (.fad 2 (.t 8)), o 10 (.load 1 false (.t 9)), o 11 (.mv (.t 1)), o 12 (.iad 1 (.t 10) (.t 11)), o 13 (.load 1 false (.t 12)), o 14 (.iad 5 (.t 7) (.t 13)), o 15 (.load 5 true (.t 14)), ⟨none, .store 5 (.t 4) (.t 15), none⟩])
 .ret))
noncomputable def X.i_terrainAt (p0 : TBoard) (p1 : Int) : Option TTerrain :=
 ((at' zI p0.Map.Terrain p1).bind fun v1 => ((at' zTTerrain p0.Rules.Terrains v1).bind fun v3 => some v3))
theorem i_terrainAt_ok (p0 : TBoard) (p1 : Int) (r : TTerrain) (H : X.i_terrainAt p0 p1 = some r) : FnOk Tryz.prog gl 199 [.agg (eTBoard p0), cI p1] (.agg (eTTerrain r)) := by
 unfold X.i_terrainAt at H
 refine fi Tryz.f199 i_terrainAt_ir [(4, pk 4)] [(4, va (eTTerrain r))] glL Tryz.func199 ?_
 refine so [] [] [(1, cI p1), (2, pk 2), (4, pk 4)] [(2, va (eTBoard p0)), (4, .var [.str [], .nil, .int .i64 0, .int .i64 0, .bool false] false)] id ?_
 obtain ⟨v1, h2, H⟩ := ofBind H
 obtain ⟨v3, h4, H⟩ := ofBind H
 refine sd [.cs (eI v1), .cs (eTTerrain v3)] [] [(4, pk 4)] [(4, va (eTTerrain v3))] (fun t => aI (at_lt h2) (aI (at_enc (enc := eI) h2) (aI (rfl : ([] : List Nat) = []) (aI (at_lt h4) (aI (at_enc (enc := eTTerrain) h4) (aI (rfl : ([] : List Nat) = []) (t))))))) ?_
 refine ends_ret ?_
 cases H
 exact And.intro (.inl rfl) rfl
def i_enterCost_ir : S :=
 (.seq (.ops [o 3 (.box 12 (.t 0)), o 6 (.mv (.v (.int .i64 0)))])
 (.seq (.ops [o 7 (.load 12 true (.t 3)), o 8 (.mv (.t 2)), o 9 (.call 199 [.t 7, .t 8]), o 10 (.fld 1 1 false (.t 9)), o 11 (.mv (.t 1)), o 12 (.iad 1 (.t 10) (.t 11)), o 13 (.load 1 false (.t 12)), o 6 (.mv (.t 13))])
 .ret))
noncomputable def X.i_enterCost (p0 : TBoard) (p1 : Int) (p2 : Int) : Option Int :=
 ((X.i_terrainAt p0 p2).bind fun v1 => ((at' zI v1.Cost p1).bind fun v3 => some v3))
theorem i_enterCost_ok (p0 : TBoard) (p1 : Int) (p2 : Int) (r : Int) (H : X.i_enterCost p0 p1 p2 = some r) : FnOk Tryz.prog gl 157 [.agg (eTBoard p0), cI p1, cI p2] (cI r) := by
 unfold X.i_enterCost at H
 refine fi Tryz.f157 i_enterCost_ir [(6, cI r)] [] glL Tryz.func157 ?_
 refine so [] [] [(1, cI p1), (2, cI p2), (3, pk 3)] [(3, va (eTBoard p0))] id ?_
 obtain ⟨v1, h2, H⟩ := ofBind H
 obtain ⟨v3, h4, H⟩ := ofBind H
 refine so [.res (.agg (eTTerrain v1)), .cs (eI v3)] [] [(6, cI v3)] [] (fun t => aI (i_terrainAt_ok p0 p2 v1 h2) (aI (at_lt h4) (aI (at_enc (enc := eI) h4) (t)))) ?_
 refine ends_ret ?_
 cases H
 exact And.intro (.inl rfl) rfl
def i_goodUnit_ir : S :=
 (.seq (.ops [o 2 (.box 12 (.t 0)), o 3 (.box 4 (.t 1)), o 4 (.mv (.v (.bool false)))])
 (.seq (.seq (.draw 28 [o 5 (.fad 0 (.t 3)), o 6 (.load 1 false (.t 5)), o 7 (.call 132 [.t 6]), o 8 (.not (.t 7)), o 9 (.mv (.t 8)), ⟨some 10, .fad 1 (.t 3), some (9, false)⟩, ⟨some 11, .load 1 false (.t 10), some (9, false)⟩, ⟨some 12, .fad 0 (.t 2), some (9, false)⟩, ⟨some 13, .fad 1 (.t 12), some (9, false)⟩, ⟨some 14, .load 1 false (.t 13), some (9, false)⟩, ⟨some 15, .len (.t 14), some (9, false)⟩, ⟨some 16, .call 115 [.t 11, .t 15], some (9, false)⟩, ⟨some 17, .not (.t 16), some (9, false)⟩, o 18 (.pick (.t 9) (.v (.bool true)) (.t 17)), o 19 (.mv (.t 18)), ⟨some 20, .fad 3 (.t 3), some (19, false)⟩, ⟨some 21, .load 1 false (.t 20), some (19, false)⟩, ⟨some 22, .fad 0 (.t 2), some (19, false)⟩, ⟨some 23, .fad 1 (.t 22), some (19, false)⟩, ⟨some 24, .load 1 false (.t 23), some (19, false)⟩, ⟨some 25, .fad 1 (.t 3), some (19, false)⟩, ⟨some 26, .load 1 false (.t 25), some (19, false)⟩, ⟨some 27, .iad 6 (.t 24) (.t 26), some (19, false)⟩, ⟨some 28, .fad 3 (.t 27), some (19, false)⟩, ⟨some 29, .load 1 false (.t 28), some (19, false)⟩, ⟨some 30, .call 145 [.t 21, .v (.int .i64 0), .t 29], some (19, false)⟩, ⟨some 31, .not (.t 30), some (19, false)⟩, o 32 (.pick (.t 19) (.v (.bool true)) (.t 31))])
 (.ite (.t 32) (.seq (.ops [o 4 (.mv (.v (.bool false)))])
  .ret)
 .skip))
 (.seq (.seq (.ops [o 33 (.fad 2 (.t 3)), o 34 (.load 1 false (.t 33)), o 35 (.bin .eql (.t 34) (.v (.int .i64 (-1))))])
 (.ite (.t 35) (.seq (.ops [o 4 (.mv (.v (.bool true)))])
  .ret)
 .skip))
 (.seq (.draw 20 [o 36 (.fad 3 (.t 3)), o 37 (.load 1 false (.t 36)), o 38 (.bin .gtr (.t 37) (.v (.int .i64 0))), o 39 (.mv (.t 38)), ⟨some 40, .fad 2 (.t 3), some (39, true)⟩, ⟨some 41, .load 1 false (.t 40), some (39, true)⟩, ⟨some 42, .load 12 true (.t 2), some (39, true)⟩, ⟨some 43, .call 116 [.t 42], some (39, true)⟩, ⟨some 44, .call 115 [.t 41, .t 43], some (39, true)⟩, o 45 (.pick (.t 39) (.t 44) (.v (.bool false))), o 46 (.mv (.t 45)), ⟨some 47, .load 12 true (.t 2), some (46, true)⟩, ⟨some 48, .fad 1 (.t 3), some (46, true)⟩, ⟨some 49, .load 1 false (.t 48), some (46, true)⟩, ⟨some 50, .fad 2 (.t 3), some (46, true)⟩, ⟨some 51, .load 1 false (.t 50), some (46, true)⟩, ⟨some 52, .call 157 [.t 47, .t 49, .t 51], some (46, true)⟩, ⟨some 53, .bin .neq (.t 52) (.v (.int .i64 0)), some (46, true)⟩, o 54 (.pick (.t 46) (.t 53) (.v (.bool false))), o 4 (.mv (.t 54))])
 .ret))))
noncomputable def X.i_goodUnit (p0 : TBoard) (p1 : TUnit) : Option Bool :=
 ((X.i_isSide p1.Side).bind fun v12 => (bif (!v12) then some false else ((X.i_isIndex p1.Kind (p0.Rules.Kinds.length : Int)).bind fun v15 => (bif (!v15) then some false else ((at' zTKind p0.Rules.Kinds p1.Kind).bind fun v18 => ((X.i_inRange p1.Steps 0 v18.Steps).bind fun v20 => (bif (!v20) then some false else (bif (p1.At == (-1)) then some true else (bif (decide (p1.Steps > 0)) then ((X.i_sizeOf p0).bind fun v26 => ((X.i_isIndex p1.At v26).bind fun v28 => (bif v28 then ((X.i_enterCost p0 p1.Kind p1.At).bind fun v31 => some (v31 != 0)) else some false))) else some false)))))))))
theorem i_goodUnit_ok (p0 : TBoard) (p1 : TUnit) (r : Bool) (H : X.i_goodUnit p0 p1 = some r) : FnOk Tryz.prog gl 149 [.agg (eTBoard p0), .agg (eTUnit p1)] (cB r) := by
 unfold X.i_goodUnit at H
 refine fi Tryz.f149 i_goodUnit_ir [(4, cB r)] [] glL Tryz.func149 ?_
 refine so [] [] [(2, pk 2), (3, pk 3)] [(2, va (eTBoard p0)), (3, va (eTUnit p1))] id ?_
 refine seq_in ?_
 obtain ⟨v12, h13, H⟩ := ofBind H
 rcases ofCond H with ⟨c14, H⟩ | ⟨c14, H⟩
 ·refine sd [.res (cB v12), .g true, .g true, .g true, .g true, .g true, .g true, .g true, .g true, .g true, .g true, .g true, .g true, .g true, .g true, .g true, .g true, .g true, .g true, .g true, .g true, .g true, .g true] [] [(2, pk 2), (3, pk 3), (32, cB true)] [(2, va (eTBoard p0)), (3, va (eTUnit p1))] (fun t => aI (i_isSide_ok p1.Side v12 h13) (aI trivial (aI (rfl : ([] : List Nat) = []) (aI c14 (aI c14 (aI c14 (aI c14 (aI c14 (aI c14 (aI c14 (aI c14 (aI c14 (aI (rfl : (true : Bool) = true) (aI (rfl : (true : Bool) = true) (aI (rfl : (true : Bool) = true) (aI (rfl : (true : Bool) = true) (aI (rfl : (true : Bool) = true) (aI (rfl : (true : Bool) = true) (aI (rfl : (true : Bool) = true) (aI (rfl : (true : Bool) = true) (aI (rfl : (true : Bool) = true) (aI (rfl : (true : Bool) = true) (aI (rfl : (true : Bool) = true) (aI (rfl : (true : Bool) = true) (aI (rfl : (true : Bool) = true) (t)))))))))))))))))))))))))) ?_
  refine it (rfl : (true : Bool) = true) ?_
  refine so [] [] [(4, cB false)] [] id ?_
  refine ends_ret ?_
  cases H
  exact And.intro (.inl rfl) rfl
 ·obtain ⟨v15, h16, H⟩ := ofBind H
  rcases ofCond H with ⟨c17, H⟩ | ⟨c17, H⟩
  ·refine sd [.res (cB v12), .g false, .g false, .g false, .g false, .g false, .g false, .g false, .res (cB v15), .g false, .g false, .g true, .g true, .g true, .g true, .g true, .g true, .g true, .g true, .g true, .g true, .g true, .g true, .g true] [] [(2, pk 2), (3, pk 3), (32, cB true)] [(2, va (eTBoard p0)), (3, va (eTUnit p1))] (fun t => aI (i_isSide_ok p1.Side v12 h13) (aI trivial (aI (rfl : ([] : List Nat) = []) (aI c14 (aI c14 (aI c14 (aI c14 (aI c14 (aI c14 (aI c14 (aI (i_isIndex_ok p1.Kind (p0.Rules.Kinds.length : Int) v15 h16) (aI trivial (aI (rfl : ([] : List Nat) = []) (aI c14 (aI c14 (aI c17 (aI c17 (aI c17 (aI c17 (aI c17 (aI c17 (aI c17 (aI c17 (aI c17 (aI c17 (aI c17 (aI c17 (aI c17 (t))))))))))))))))))))))))))))) ?_
   refine it (rfl : (true : Bool) = true) ?_
   refine so [] [] [(4, cB false)] [] id ?_
   refine ends_ret ?_
   cases H
   exact And.intro (.inl rfl) rfl
  ·obtain ⟨v18, h19, H⟩ := ofBind H
   obtain ⟨v20, h21, H⟩ := ofBind H
   refine sd [.res (cB v12), .g false, .g false, .g false, .g false, .g false, .g false, .g false, .res (cB v15), .g false, .g false, .g false, .g false, .g false, .g false, .g false, .g false, .g false, .g false, .cs (eTKind v18), .g false, .g false, .g false, .res (cB v20), .g false, .g false] [] [(2, pk 2), (3, pk 3), (32, cB (!v20))] [(2, va (eTBoard p0)), (3, va (eTUnit p1))] (fun t => aI (i_isSide_ok p1.Side v12 h13) (aI trivial (aI (rfl : ([] : List Nat) = []) (aI c14 (aI c14 (aI c14 (aI c14 (aI c14 (aI c14 (aI c14 (aI (i_isIndex_ok p1.Kind (p0.Rules.Kinds.length : Int) v15 h16) (aI trivial (aI (rfl : ([] : List Nat) = []) (aI c14 (aI c14 (aI c17 (aI c17 (aI c17 (aI c17 (aI c17 (aI c17 (aI c17 (aI c17 (aI (at_lt h19) (aI (at_enc (enc := eTKind) h19) (aI c17 (aI c17 (aI (rfl : ([] : List Nat) = []) (aI c17 (aI (i_inRange_ok p1.Steps 0 v18.Steps v20 h21) (aI trivial (aI (rfl : ([] : List Nat) = []) (aI c17 (aI c17 (t))))))))))))))))))))))))))))))))))) ?_
   rcases ofCond H with ⟨c22, H⟩ | ⟨c22, H⟩
   ·refine it c22 ?_
    refine so [] [] [(4, cB false)] [] id ?_
    refine ends_ret ?_
    cases H
    exact And.intro (.inl rfl) rfl
   ·refine jf c22 ?_
    refine sk ?_
    refine seq_in ?_
    refine so [] [] [(2, pk 2), (3, pk 3), (35, cB (p1.At == (-1)))] [(2, va (eTBoard p0)), (3, va (eTUnit p1))] id ?_
    rcases ofCond H with ⟨c24, H⟩ | ⟨c24, H⟩
    ·refine it c24 ?_
     refine so [] [] [(4, cB true)] [] id ?_
     refine ends_ret ?_
     cases H
     exact And.intro (.inl rfl) rfl
    ·refine jf c24 ?_
     refine sk ?_
     rcases ofCond H with ⟨c25, H⟩ | ⟨c25, H⟩
     ·obtain ⟨v26, h27, H⟩ := ofBind H
      obtain ⟨v28, h29, H⟩ := ofBind H
      rcases ofCond H with ⟨c30, H⟩ | ⟨c30, H⟩
      ·obtain ⟨v31, h32, H⟩ := ofBind H
       refine sd [.g true, .g true, .g true, .g true, .res (cI v26), .g true, .res (cB v28), .g true, .g true, .g true, .g true, .g true, .g true, .g true, .res (cI v31), .g true, .g true] [] [(4, cB (v31 != 0))] [] (fun t => aI c25 (aI c25 (aI c25 (aI c25 (aI (i_sizeOf_ok p0 v26 h27) (aI trivial (aI (rfl : ([] : List Nat) = []) (aI c25 (aI (i_isIndex_ok p1.At v26 v28 h29) (aI trivial (aI (rfl : ([] : List Nat) = []) (aI c25 (aI c30 (aI c30 (aI c30 (aI c30 (aI c30 (aI c30 (aI (i_enterCost_ok p0 p1.Kind p1.At v31 h32) (aI trivial (aI (rfl : ([] : List Nat) = []) (aI c30 (aI c30 (t)))))))))))))))))))))))) ?_
       refine ends_ret ?_
       cases H
       exact And.intro (.inl rfl) rfl
      ·refine sd [.g true, .g true, .g true, .g true, .res (cI v26), .g true, .res (cB v28), .g true, .g false, .g false, .g false, .g false, .g false, .g false, .g false, .g false] [] [(4, cB false)] [] (fun t => aI c25 (aI c25 (aI c25 (aI c25 (aI (i_sizeOf_ok p0 v26 h27) (aI trivial (aI (rfl : ([] : List Nat) = []) (aI c25 (aI (i_isIndex_ok p1.At v26 v28 h29) (aI trivial (aI (rfl : ([] : List Nat) = []) (aI c25 (aI c30 (aI c30 (aI c30 (aI c30 (aI c30 (aI c30 (aI c30 (aI c30 (t))))))))))))))))))))) ?_
       refine ends_ret ?_
       cases H
       exact And.intro (.inl rfl) rfl
     ·refine sd [.g false, .g false, .g false, .g false, .g false, .g false, .g false, .g false, .g false, .g false, .g false, .g false, .g false, .g false] [] [(4, cB false)] [] (fun t => aI c25 (aI c25 (aI c25 (aI c25 (aI c25 (aI c25 (aI (rfl : (false : Bool) = false) (aI (rfl : (false : Bool) = false) (aI (rfl : (false : Bool) = false) (aI (rfl : (false : Bool) = false) (aI (rfl : (false : Bool) = false) (aI (rfl : (false : Bool) = false) (aI (rfl : (false : Bool) = false) (aI (rfl : (false : Bool) = false) (t))))))))))))))) ?_
      refine ends_ret ?_
      cases H
      exact And.intro (.inl rfl) rfl
def i_goodState_ir : S :=
 (.seq (.ops [o 2 (.box 12 (.t 0)), o 3 (.box 3 (.t 1)), o 4 (.mv (.v (.bool false)))])
 (.seq (.seq (.ops [o 8 (.fad 0 (.t 3)), o 9 (.load 1 false (.t 8)), o 10 (.fad 0 (.t 2)), o 11 (.fad 6 (.t 10)), o 12 (.load 1 false (.t 11)), o 13 (.call 145 [.t 9, .v (.int .i64 0), .t 12]), o 14 (.not (.t 13)), o 15 (.mv (.t 14)), ⟨some 16, .fad 1 (.t 3), some (15, false)⟩, ⟨some 17, .load 1 false (.t 16), some (15, false)⟩, ⟨some 18, .call 145 [.t 17, .v (.int .i64 0), .v (.int .i64 2)], some (15, false)⟩, ⟨some 19, .not (.t 18), some (15, false)⟩, o 20 (.pick (.t 15) (.v (.bool true)) (.t 19)), o 21 (.mv (.t 20)), ⟨some 22, .fad 2 (.t 3), some (21, false)⟩, ⟨some 23, .load 1 false (.t 22), some (21, false)⟩, ⟨some 24, .len (.t 23), some (21, false)⟩, ⟨some 25, .bin .gtr (.t 24) (.v (.int .i64 12)), some (21, false)⟩, o 26 (.pick (.t 21) (.v (.bool true)) (.t 25))])
 (.ite (.t 26) (.seq (.ops [o 4 (.mv (.v (.bool false)))])
  .ret)
 .skip))
 (.seq (.ops [o 27 (.load 12 true (.t 2)), o 28 (.call 116 [.t 27]), o 29 (.msl 2 16 [.int .i64 0, .int .i64 0] (.t 28)), o 5 (.mv (.t 29))])
 (.seq (.seq (.ops [o 30 (.fad 2 (.t 3)), o 31 (.load 1 false (.t 30)), o 32 (.len (.t 31)), o 33 (.mv (.v (.int .i64 0)))])
 (.blk 0 (.loop (.seq (.ops [o 34 (.bin .lss (.t 33) (.t 32))])
   (.seq (.ite (.t 34) .skip
   (.exit 0))
   (.seq (.blk 1 (.seq (.ops [o 35 (.iad 4 (.t 31) (.t 33)), o 36 (.load 4 true (.t 35)), o 7 (.alloc [.int .i64 0, .int .i64 0, .int .i64 0, .int .i64 0]), ⟨none, .store 4 (.t 7) (.t 36), none⟩])
    (.seq (.seq (.ops [o 37 (.load 12 true (.t 2)), o 38 (.load 4 true (.t 7)), o 39 (.call 149 [.t 37, .t 38]), o 40 (.not (.t 39))])
    (.ite (.t 40) (.seq (.ops [o 4 (.mv (.v (.bool false)))])
     .ret)
    .skip))
    (.seq (.seq (.ops [o 41 (.fad 2 (.t 7)), o 42 (.load 1 false (.t 41)), o 43 (.bin .lss (.t 42) (.v (.int .i64 0)))])
    (.ite (.t 43) (.exit 1)
    .skip))
    (.seq (.draw 11 [o 44 (.mv (.t 5)), o 45 (.fad 2 (.t 7)), o 46 (.load 1 false (.t 45)), o 47 (.fad 0 (.t 7)), o 48 (.load 1 false (.t 47)), o 49 (.iad 2 (.t 44) (.t 46)), o 50 (.iar 2 1 (.t 49) (.t 48)), o 51 (.load 1 false (.t 50)), o 52 (.bin .add (.t 51) (.v (.int .i64 1))), o 53 (.iad 2 (.t 44) (.t 46)), o 54 (.iar 2 1 (.t 53) (.t 48)), ⟨none, .store 1 (.t 54) (.t 52), none⟩])
    (.seq (.draw 24 [o 55 (.mv (.t 5)), o 56 (.fad 2 (.t 7)), o 57 (.load 1 false (.t 56)), o 58 (.fad 0 (.t 7)), o 59 (.load 1 false (.t 58)), o 60 (.bin .sub (.v (.int .i64 1)) (.t 59)), o 61 (.iad 2 (.t 55) (.t 57)), o 62 (.iar 2 1 (.t 61) (.t 60)), o 63 (.load 1 false (.t 62)), o 64 (.bin .gtr (.t 63) (.v (.int .i64 0))), o 65 (.mv (.t 64)), ⟨some 66, .mv (.t 5), some (65, false)⟩, ⟨some 67, .fad 2 (.t 7), some (65, false)⟩, ⟨some 68, .load 1 false (.t 67), some (65, false)⟩, ⟨some 69, .fad 0 (.t 7), some (65, false)⟩, ⟨some 70, .load 1 false (.t 69), some (65, false)⟩, ⟨some 71, .iad 2 (.t 66) (.t 68), some (65, false)⟩, ⟨some 72, .iar 2 1 (.t 71) (.t 70), some (65, false)⟩, ⟨some 73, .load 1 false (.t 72), some (65, false)⟩, ⟨some 74, .fad 0 (.t 2), some (65, false)⟩, ⟨some 75, .fad 2 (.t 74), some (65, false)⟩, ⟨some 76, .load 1 false (.t 75), some (65, false)⟩, ⟨some 77, .bin .gtr (.t 73) (.t 76), some (65, false)⟩, o 78 (.pick (.t 65) (.v (.bool true)) (.t 77))])
    (.ite (.t 78) (.seq (.ops [o 4 (.mv (.v (.bool false)))])
     .ret)
    .skip)))))))
   (.ops [o 79 (.bin .add (.t 33) (.v (.int .i64 1))), o 33 (.mv (.t 79))])))))))
 (.seq (.ops [o 4 (.mv (.v (.bool true)))])
 .ret)))))
noncomputable def X.i_goodState (p0 : TBoard) (p1 : TState) : Option Bool :=
 ((X.i_inRange p1.Turn 0 p0.Rules.Turns).bind fun v8 => (bif (!v8) then some false else ((X.i_inRange p1.Weather 0 2).bind fun v11 => (bif (!v11) then some false else (bif (decide ((p1.Units.length : Int) > 12)) then some false else ((X.i_sizeOf p0).bind fun v15 => (if 0 ≤ v15 ∧ v15.toNat ≤ LIM then ((loop (fun (x85 : (Int × (List A2_I))) => ((bif (decide (x85.1 < (p1.Units.length : Int))) then ((at' zTUnit p1.Units x85.1).bind fun v88 => ((X.i_goodUnit p0 v88).bind fun v93 => (bif (!v93) then some (Sum.inr (Sum.inr false)) else (bif (decide (v88.At < 0)) then some (Sum.inl ((W (x85.1 + 1)), x85.2)) else (if 0 ≤ v88.At ∧ v88.At < (x85.2.length : Int) then (if v88.Side = ((0 : Nat) : Int) then (if (W (1 - v88.Side)) = ((0 : Nat) : Int) then (bif (decide (((x85.2.set v88.At.toNat (A2_I.mk (W ((x85.2.getD v88.At.toNat zA2_I).a0 + 1)) ((x85.2.getD v88.At.toNat zA2_I).a1))).getD v88.At.toNat zA2_I).a0 > 0)) then some (Sum.inr (Sum.inr false)) else (bif (decide (((x85.2.set v88.At.toNat (A2_I.mk (W ((x85.2.getD v88.At.toNat zA2_I).a0 + 1)) ((x85.2.getD v88.At.toNat zA2_I).a1))).getD v88.At.toNat zA2_I).a0 > p0.Rules.Stack)) then some (Sum.inr (Sum.inr false)) else some (Sum.inl ((W (x85.1 + 1)), (x85.2.set v88.At.toNat (A2_I.mk (W ((x85.2.getD v88.At.toNat zA2_I).a0 + 1)) ((x85.2.getD v88.At.toNat zA2_I).a1))))))) else (if (W (1 - v88.Side)) = ((1 : Nat) : Int) then (bif (decide (((x85.2.set v88.At.toNat (A2_I.mk (W ((x85.2.getD v88.At.toNat zA2_I).a0 + 1)) ((x85.2.getD v88.At.toNat zA2_I).a1))).getD v88.At.toNat zA2_I).a1 > 0)) then some (Sum.inr (Sum.inr false)) else (bif (decide (((x85.2.set v88.At.toNat (A2_I.mk (W ((x85.2.getD v88.At.toNat zA2_I).a0 + 1)) ((x85.2.getD v88.At.toNat zA2_I).a1))).getD v88.At.toNat zA2_I).a0 > p0.Rules.Stack)) then some (Sum.inr (Sum.inr false)) else some (Sum.inl ((W (x85.1 + 1)), (x85.2.set v88.At.toNat (A2_I.mk (W ((x85.2.getD v88.At.toNat zA2_I).a0 + 1)) ((x85.2.getD v88.At.toNat zA2_I).a1))))))) else none)) else (if v88.Side = ((1 : Nat) : Int) then (if (W (1 - v88.Side)) = ((0 : Nat) : Int) then (bif (decide (((x85.2.set v88.At.toNat (A2_I.mk ((x85.2.getD v88.At.toNat zA2_I).a0) (W ((x85.2.getD v88.At.toNat zA2_I).a1 + 1)))).getD v88.At.toNat zA2_I).a0 > 0)) then some (Sum.inr (Sum.inr false)) else (bif (decide (((x85.2.set v88.At.toNat (A2_I.mk ((x85.2.getD v88.At.toNat zA2_I).a0) (W ((x85.2.getD v88.At.toNat zA2_I).a1 + 1)))).getD v88.At.toNat zA2_I).a1 > p0.Rules.Stack)) then some (Sum.inr (Sum.inr false)) else some (Sum.inl ((W (x85.1 + 1)), (x85.2.set v88.At.toNat (A2_I.mk ((x85.2.getD v88.At.toNat zA2_I).a0) (W ((x85.2.getD v88.At.toNat zA2_I).a1 + 1)))))))) else (if (W (1 - v88.Side)) = ((1 : Nat) : Int) then (bif (decide (((x85.2.set v88.At.toNat (A2_I.mk ((x85.2.getD v88.At.toNat zA2_I).a0) (W ((x85.2.getD v88.At.toNat zA2_I).a1 + 1)))).getD v88.At.toNat zA2_I).a1 > 0)) then some (Sum.inr (Sum.inr false)) else (bif (decide (((x85.2.set v88.At.toNat (A2_I.mk ((x85.2.getD v88.At.toNat zA2_I).a0) (W ((x85.2.getD v88.At.toNat zA2_I).a1 + 1)))).getD v88.At.toNat zA2_I).a1 > p0.Rules.Stack)) then some (Sum.inr (Sum.inr false)) else some (Sum.inl ((W (x85.1 + 1)), (x85.2.set v88.At.toNat (A2_I.mk ((x85.2.getD v88.At.toNat zA2_I).a0) (W ((x85.2.getD v88.At.toNat zA2_I).a1 + 1)))))))) else none)) else none)) else none))))) else some (Sum.inr (Sum.inl ()))) : Option ((Int × (List A2_I)) ⊕ (Unit ⊕ Bool)))) (0, (List.replicate v15.toNat zA2_I))).bind fun y119 => (Sum.elim (fun (y121 : Unit) => some true) (fun (y122 : Bool) => some y122) y119)) else none)))))))
theorem i_goodState_ok (p0 : TBoard) (p1 : TState) (r : Bool) (H : X.i_goodState p0 p1 = some r) : FnOk Tryz.prog gl 181 [.agg (eTBoard p0), .agg (eTState p1)] (cB r) := by
 unfold X.i_goodState at H
 refine fi Tryz.f181 i_goodState_ir [(4, cB r)] [] glL Tryz.func181 ?_
 refine so [] [] [(2, pk 2), (3, pk 3)] [(2, va (eTBoard p0)), (3, va (eTState p1))] id ?_
 refine seq_in ?_
 obtain ⟨v8, h9, H⟩ := ofBind H
 rcases ofCond H with ⟨c10, H⟩ | ⟨c10, H⟩
 ·refine so [.res (cB v8), .g true, .g true, .g true, .g true, .g true, .g true, .g true, .g true, .g true, .g true] [] [(2, pk 2), (3, pk 3), (26, cB true)] [(2, va (eTBoard p0)), (3, va (eTState p1))] (fun t => aI (i_inRange_ok p1.Turn 0 p0.Rules.Turns v8 h9) (aI c10 (aI c10 (aI c10 (aI c10 (aI c10 (aI (rfl : (true : Bool) = true) (aI (rfl : (true : Bool) = true) (aI (rfl : (true : Bool) = true) (aI (rfl : (true : Bool) = true) (aI (rfl : (true : Bool) = true) (t)))))))))))) ?_
  refine it (rfl : (true : Bool) = true) ?_
  refine so [] [] [(4, cB false)] [] id ?_
  refine ends_ret ?_
  cases H
  exact And.intro (.inl rfl) rfl
 ·obtain ⟨v11, h12, H⟩ := ofBind H
  rcases ofCond H with ⟨c13, H⟩ | ⟨c13, H⟩
  ·refine so [.res (cB v8), .g false, .g false, .g false, .res (cB v11), .g false, .g false, .g true, .g true, .g true, .g true, .g true] [] [(2, pk 2), (3, pk 3), (26, cB true)] [(2, va (eTBoard p0)), (3, va (eTState p1))] (fun t => aI (i_inRange_ok p1.Turn 0 p0.Rules.Turns v8 h9) (aI c10 (aI c10 (aI c10 (aI (i_inRange_ok p1.Weather 0 2 v11 h12) (aI c10 (aI c10 (aI c13 (aI c13 (aI c13 (aI c13 (aI c13 (t))))))))))))) ?_
   refine it (rfl : (true : Bool) = true) ?_
   refine so [] [] [(4, cB false)] [] id ?_
   refine ends_ret ?_
   cases H
   exact And.intro (.inl rfl) rfl
  ·refine so [.res (cB v8), .g false, .g false, .g false, .res (cB v11), .g false, .g false, .g false, .g false, .g false, .g false, .g false] [] [(2, pk 2), (3, pk 3), (26, cB (decide ((p1.Units.length : Int) > 12)))] [(2, va (eTBoard p0)), (3, va (eTState p1))] (fun t => aI (i_inRange_ok p1.Turn 0 p0.Rules.Turns v8 h9) (aI c10 (aI c10 (aI c10 (aI (i_inRange_ok p1.Weather 0 2 v11 h12) (aI c10 (aI c10 (aI c13 (aI c13 (aI c13 (lI p1.Units (aI c13 (aI c13 (t)))))))))))))) ?_
   rcases ofCond H with ⟨c14, H⟩ | ⟨c14, H⟩
   ·refine it c14 ?_
    refine so [] [] [(4, cB false)] [] id ?_
    refine ends_ret ?_
    cases H
    exact And.intro (.inl rfl) rfl
   ·refine jf c14 ?_
    refine sk ?_
    obtain ⟨v15, h16, H⟩ := ofBind H
    obtain ⟨g17, H⟩ := ofIf H
    refine so [.res (cI v15), .fn (List.replicate v15.toNat zA2_I).length (fF eA2_I zA2_I (List.replicate v15.toNat zA2_I))] [] [(2, pk 2), (3, pk 3), (5, .c (.own 29 2 0 ((List.replicate v15.toNat zA2_I).length)))] [(2, va (eTBoard p0)), (3, va (eTState p1)), (29, .arr 2 ((List.replicate v15.toNat zA2_I).length) (fF eA2_I zA2_I (List.replicate v15.toNat zA2_I)) false)] (fun t => aI (i_sizeOf_ok p0 v15 h16) (aI (And.intro g17.1 (And.intro (List.length_replicate (n := v15.toNat) (a := zA2_I)).symm (Nat.le_trans (Nat.le_of_eq List.length_replicate) g17.2 : (List.replicate v15.toNat zA2_I).length ≤ LIM))) (aI (fF_rep eA2_I zA2_I zA2_I v15.toNat) (t)))) ?_
    refine seq_in ?_
    refine so [] [] [(2, pk 2), (5, .c (.own 29 2 0 ((List.replicate v15.toNat zA2_I).length))), (31, dc 4 eTUnit zTUnit p1.Units), (32, cI (p1.Units.length : Int)), (33, cI 0)] [(2, va (eTBoard p0)), (29, .arr 2 ((List.replicate v15.toNat zA2_I).length) (fF eA2_I zA2_I (List.replicate v15.toNat zA2_I)) false)] (fun t => lI p1.Units (t)) ?_
    refine ends_blk ?_
    obtain ⟨y119, h120, H⟩ := ofBind H
    refine loop_in (fun (x : (Int × (List A2_I))) => lit [(2, pk 2), (5, .c (.own 29 2 0 x.2.length)), (31, dc 4 eTUnit zTUnit p1.Units), (32, cI (p1.Units.length : Int)), (33, cI x.1)] [(2, va (eTBoard p0)), (29, .arr 2 x.2.length (fF eA2_I zA2_I x.2) false)]) (orJ (fun (z : Unit) => At (.exit 0) (lit [] [])) (fun (z : Bool) => At .ret (lit [(4, cB z)] []))) h120 ?_ ?_
    ·clear H h120
     intro x85 y0 H
     refine so [] [] [(2, pk 2), (5, .c (.own 29 2 0 x85.2.length)), (31, dc 4 eTUnit zTUnit p1.Units), (32, cI (p1.Units.length : Int)), (33, cI x85.1), (34, cB (decide (x85.1 < (p1.Units.length : Int))))] [(2, va (eTBoard p0)), (29, .arr 2 x85.2.length (fF eA2_I zA2_I x85.2) false)] id ?_
     refine seq_in ?_
     rcases ofCond H with ⟨c87, H⟩ | ⟨c87, H⟩
     ·refine it c87 ?_
      refine sk ?_
      refine seq_in ?_
      refine ends_blk ?_
      obtain ⟨v88, h89, H⟩ := ofBind H
      refine so [.cs (eTUnit v88)] [] [(2, pk 2), (5, .c (.own 29 2 0 x85.2.length)), (7, pk 7), (31, dc 4 eTUnit zTUnit p1.Units), (32, cI (p1.Units.length : Int)), (33, cI x85.1)] [(2, va (eTBoard p0)), (7, va (eTUnit v88)), (29, .arr 2 x85.2.length (fF eA2_I zA2_I x85.2) false)] (fun t => aI (at_lt h89) (aI (at_enc (enc := eTUnit) h89) (t))) ?_
      refine seq_in ?_
      obtain ⟨v93, h94, H⟩ := ofBind H
      refine so [.res (cB v93)] [] [(2, pk 2), (5, .c (.own 29 2 0 x85.2.length)), (7, pk 7), (31, dc 4 eTUnit zTUnit p1.Units), (32, cI (p1.Units.length : Int)), (33, cI x85.1), (40, cB (!v93))] [(2, va (eTBoard p0)), (7, va (eTUnit v88)), (29, .arr 2 x85.2.length (fF eA2_I zA2_I x85.2) false)] (fun t => aI (i_goodUnit_ok p0 v88 v93 h94) (t)) ?_
      rcases ofCond H with ⟨c95, H⟩ | ⟨c95, H⟩
      ·refine it c95 ?_
       refine so [] [] [(4, cB false)] [] id ?_
       refine ends_ret ?_
       cases H
       exact And.intro (by simp) (And.intro rfl rfl)
      ·refine jf c95 ?_
       refine sk ?_
       refine seq_in ?_
       refine so [] [] [(2, pk 2), (5, .c (.own 29 2 0 x85.2.length)), (7, pk 7), (31, dc 4 eTUnit zTUnit p1.Units), (32, cI (p1.Units.length : Int)), (33, cI x85.1), (43, cB (decide (v88.At < 0)))] [(2, va (eTBoard p0)), (7, va (eTUnit v88)), (29, .arr 2 x85.2.length (fF eA2_I zA2_I x85.2) false)] id ?_
       rcases ofCond H with ⟨c97, H⟩ | ⟨c97, H⟩
       ·refine it c97 ?_
        refine ends_exit ?_
        change EndsI _ _ _ _ _ _
        refine oo [] [] [(2, pk 2), (5, .c (.own 29 2 0 x85.2.length)), (31, dc 4 eTUnit zTUnit p1.Units), (32, cI (p1.Units.length : Int)), (33, cI (W (x85.1 + 1)))] [(2, va (eTBoard p0)), (29, .arr 2 x85.2.length (fF eA2_I zA2_I x85.2) false)] id ?_
        cases H
        exact And.intro rfl rfl
       ·refine jf c97 ?_
        refine sk ?_
        obtain ⟨g98, H⟩ := ofIf H
        rcases ofIte H with ⟨c99, H⟩ | ⟨c118, H⟩
        ·refine sd [.no, .nat 0, .no, .nat 0, .fn 0 (fF eA2_I zA2_I (x85.2.set v88.At.toNat (A2_I.mk (W ((x85.2.getD v88.At.toNat zA2_I).a0 + 1)) ((x85.2.getD v88.At.toNat zA2_I).a1))))] [] [(2, pk 2), (5, .c (.own 29 2 0 x85.2.length)), (7, pk 7), (31, dc 4 eTUnit zTUnit p1.Units), (32, cI (p1.Units.length : Int)), (33, cI x85.1)] [(2, va (eTBoard p0)), (7, va (eTUnit v88)), (29, .arr 2 x85.2.length (fF eA2_I zA2_I (x85.2.set v88.At.toNat (A2_I.mk (W ((x85.2.getD v88.At.toNat zA2_I).a0 + 1)) ((x85.2.getD v88.At.toNat zA2_I).a1)))) false)] (fun t => aI g98 (aI (And.intro c99 (by decide : 0 < 2)) (aI (nat_lt g98) (aI (rfl : ([] : List Nat) = []) (aI g98 (aI (And.intro c99 (by decide : 0 < 2)) (aI (rfl : true = true) (aI (nat_lt g98) (aI (by decide : 0 + 1 ≤ 2) (aI (fF_set eA2_I zA2_I x85.2 v88.At.toNat (A2_I.mk (W ((x85.2.getD v88.At.toNat zA2_I).a0 + 1)) ((x85.2.getD v88.At.toNat zA2_I).a1)) (nat_lt g98) x85.2.length) (t))))))))))) ?_
         rcases ofIte H with ⟨c100, H⟩ | ⟨c107, H⟩
         ·rcases ofCond H with ⟨c101, H⟩ | ⟨c101, H⟩
          ·refine sd [.no, .nat 0, .g true, .g true, .g true, .g true, .g true, .g true, .g true, .g true, .g true, .g true, .g true, .g true, .g true] [] [(2, pk 2), (5, .c (.own 29 2 0 x85.2.length)), (31, dc 4 eTUnit zTUnit p1.Units), (32, cI (p1.Units.length : Int)), (33, cI x85.1), (78, cB true)] [(2, va (eTBoard p0)), (29, .arr 2 x85.2.length (fF eA2_I zA2_I (x85.2.set v88.At.toNat (A2_I.mk (W ((x85.2.getD v88.At.toNat zA2_I).a0 + 1)) ((x85.2.getD v88.At.toNat zA2_I).a1)))) false)] (fun t => aI g98 (aI (And.intro c100 (by decide : 0 < 2)) (aI (nat_lt g98) (aI (rfl : ([] : List Nat) = []) (aI c101 (aI c101 (aI c101 (aI c101 (aI c101 (aI c101 (aI c101 (aI c101 (aI c101 (aI c101 (aI c101 (aI c101 (aI c101 (t)))))))))))))))))) ?_
           refine it (rfl : (true : Bool) = true) ?_
           refine so [] [] [(4, cB false)] [] id ?_
           refine ends_ret ?_
           cases H
           exact And.intro (by simp) (And.intro rfl rfl)
          ·refine sd [.no, .nat 0, .g false, .g false, .g false, .g false, .g false, .g false, .no, .g false, .nat 0, .g false, .g false, .g false, .g false, .g false, .g false] [] [(2, pk 2), (5, .c (.own 29 2 0 x85.2.length)), (31, dc 4 eTUnit zTUnit p1.Units), (32, cI (p1.Units.length : Int)), (33, cI x85.1), (78, cB (decide (((x85.2.set v88.At.toNat (A2_I.mk (W ((x85.2.getD v88.At.toNat zA2_I).a0 + 1)) ((x85.2.getD v88.At.toNat zA2_I).a1))).getD v88.At.toNat zA2_I).a0 > p0.Rules.Stack)))] [(2, va (eTBoard p0)), (29, .arr 2 x85.2.length (fF eA2_I zA2_I (x85.2.set v88.At.toNat (A2_I.mk (W ((x85.2.getD v88.At.toNat zA2_I).a0 + 1)) ((x85.2.getD v88.At.toNat zA2_I).a1)))) false)] (fun t => aI g98 (aI (And.intro c100 (by decide : 0 < 2)) (aI (nat_lt g98) (aI (rfl : ([] : List Nat) = []) (aI c101 (aI c101 (aI c101 (aI c101 (aI c101 (aI c101 (aI g98 (aI c101 (aI (And.intro c99 (by decide : 0 < 2)) (aI c101 (aI (nat_lt g98) (aI (rfl : ([] : List Nat) = []) (aI c101 (aI c101 (aI c101 (aI c101 (aI c101 (t)))))))))))))))))))))) ?_
           rcases ofCond H with ⟨c102, H⟩ | ⟨c102, H⟩
           ·refine it c102 ?_
            refine so [] [] [(4, cB false)] [] id ?_
            refine ends_ret ?_
            cases H
            exact And.intro (by simp) (And.intro rfl rfl)
           ·refine jf c102 ?_
            refine sk ?_
            refine oo [] [.rel 5 ((x85.2.set v88.At.toNat (A2_I.mk (W ((x85.2.getD v88.At.toNat zA2_I).a0 + 1)) ((x85.2.getD v88.At.toNat zA2_I).a1))).length), .rep 29 ((x85.2.set v88.At.toNat (A2_I.mk (W ((x85.2.getD v88.At.toNat zA2_I).a0 + 1)) ((x85.2.getD v88.At.toNat zA2_I).a1))).length) (fF eA2_I zA2_I (x85.2.set v88.At.toNat (A2_I.mk (W ((x85.2.getD v88.At.toNat zA2_I).a0 + 1)) ((x85.2.getD v88.At.toNat zA2_I).a1))))] [(2, pk 2), (5, .c (.own 29 2 0 ((x85.2.set v88.At.toNat (A2_I.mk (W ((x85.2.getD v88.At.toNat zA2_I).a0 + 1)) ((x85.2.getD v88.At.toNat zA2_I).a1))).length))), (31, dc 4 eTUnit zTUnit p1.Units), (32, cI (p1.Units.length : Int)), (33, cI (W (x85.1 + 1)))] [(2, va (eTBoard p0)), (29, .arr 2 ((x85.2.set v88.At.toNat (A2_I.mk (W ((x85.2.getD v88.At.toNat zA2_I).a0 + 1)) ((x85.2.getD v88.At.toNat zA2_I).a1))).length) (fF eA2_I zA2_I (x85.2.set v88.At.toNat (A2_I.mk (W ((x85.2.getD v88.At.toNat zA2_I).a0 + 1)) ((x85.2.getD v88.At.toNat zA2_I).a1)))) false)] (fun t => aI (by simp : x85.2.length = (x85.2.set v88.At.toNat (A2_I.mk (W ((x85.2.getD v88.At.toNat zA2_I).a0 + 1)) ((x85.2.getD v88.At.toNat zA2_I).a1))).length) (aI (Nat.le_of_eq (by simp : (x85.2.set v88.At.toNat (A2_I.mk (W ((x85.2.getD v88.At.toNat zA2_I).a0 + 1)) ((x85.2.getD v88.At.toNat zA2_I).a1))).length = x85.2.length)) (aI (fun _ _ => rfl : ∀ i, i < (x85.2.set v88.At.toNat (A2_I.mk (W ((x85.2.getD v88.At.toNat zA2_I).a0 + 1)) ((x85.2.getD v88.At.toNat zA2_I).a1))).length → (fF eA2_I zA2_I (x85.2.set v88.At.toNat (A2_I.mk (W ((x85.2.getD v88.At.toNat zA2_I).a0 + 1)) ((x85.2.getD v88.At.toNat zA2_I).a1)))) i = (fF eA2_I zA2_I (x85.2.set v88.At.toNat (A2_I.mk (W ((x85.2.getD v88.At.toNat zA2_I).a0 + 1)) ((x85.2.getD v88.At.toNat zA2_I).a1)))) i) (t)))) ?_
            cases H
            exact And.intro rfl rfl
         ·rcases ofIte H with ⟨c103, H⟩ | ⟨c106, H⟩
          ·rcases ofCond H with ⟨c104, H⟩ | ⟨c104, H⟩
           ·refine sd [.no, .nat 1, .g true, .g true, .g true, .g true, .g true, .g true, .g true, .g true, .g true, .g true, .g true, .g true, .g true] [] [(2, pk 2), (5, .c (.own 29 2 0 x85.2.length)), (31, dc 4 eTUnit zTUnit p1.Units), (32, cI (p1.Units.length : Int)), (33, cI x85.1), (78, cB true)] [(2, va (eTBoard p0)), (29, .arr 2 x85.2.length (fF eA2_I zA2_I (x85.2.set v88.At.toNat (A2_I.mk (W ((x85.2.getD v88.At.toNat zA2_I).a0 + 1)) ((x85.2.getD v88.At.toNat zA2_I).a1)))) false)] (fun t => aI g98 (aI (And.intro c103 (by decide : 1 < 2)) (aI (nat_lt g98) (aI (rfl : ([] : List Nat) = []) (aI c104 (aI c104 (aI c104 (aI c104 (aI c104 (aI c104 (aI c104 (aI c104 (aI c104 (aI c104 (aI c104 (aI c104 (aI c104 (t)))))))))))))))))) ?_
            refine it (rfl : (true : Bool) = true) ?_
            refine so [] [] [(4, cB false)] [] id ?_
            refine ends_ret ?_
            cases H
            exact And.intro (by simp) (And.intro rfl rfl)
           ·refine sd [.no, .nat 1, .g false, .g false, .g false, .g false, .g false, .g false, .no, .g false, .nat 0, .g false, .g false, .g false, .g false, .g false, .g false] [] [(2, pk 2), (5, .c (.own 29 2 0 x85.2.length)), (31, dc 4 eTUnit zTUnit p1.Units), (32, cI (p1.Units.length : Int)), (33, cI x85.1), (78, cB (decide (((x85.2.set v88.At.toNat (A2_I.mk (W ((x85.2.getD v88.At.toNat zA2_I).a0 + 1)) ((x85.2.getD v88.At.toNat zA2_I).a1))).getD v88.At.toNat zA2_I).a0 > p0.Rules.Stack)))] [(2, va (eTBoard p0)), (29, .arr 2 x85.2.length (fF eA2_I zA2_I (x85.2.set v88.At.toNat (A2_I.mk (W ((x85.2.getD v88.At.toNat zA2_I).a0 + 1)) ((x85.2.getD v88.At.toNat zA2_I).a1)))) false)] (fun t => aI g98 (aI (And.intro c103 (by decide : 1 < 2)) (aI (nat_lt g98) (aI (rfl : ([] : List Nat) = []) (aI c104 (aI c104 (aI c104 (aI c104 (aI c104 (aI c104 (aI g98 (aI c104 (aI (And.intro c99 (by decide : 0 < 2)) (aI c104 (aI (nat_lt g98) (aI (rfl : ([] : List Nat) = []) (aI c104 (aI c104 (aI c104 (aI c104 (aI c104 (t)))))))))))))))))))))) ?_
            rcases ofCond H with ⟨c105, H⟩ | ⟨c105, H⟩
            ·refine it c105 ?_
             refine so [] [] [(4, cB false)] [] id ?_
             refine ends_ret ?_
             cases H
             exact And.intro (by simp) (And.intro rfl rfl)
            ·refine jf c105 ?_
             refine sk ?_
             refine oo [] [.rel 5 ((x85.2.set v88.At.toNat (A2_I.mk (W ((x85.2.getD v88.At.toNat zA2_I).a0 + 1)) ((x85.2.getD v88.At.toNat zA2_I).a1))).length), .rep 29 ((x85.2.set v88.At.toNat (A2_I.mk (W ((x85.2.getD v88.At.toNat zA2_I).a0 + 1)) ((x85.2.getD v88.At.toNat zA2_I).a1))).length) (fF eA2_I zA2_I (x85.2.set v88.At.toNat (A2_I.mk (W ((x85.2.getD v88.At.toNat zA2_I).a0 + 1)) ((x85.2.getD v88.At.toNat zA2_I).a1))))] [(2, pk 2), (5, .c (.own 29 2 0 ((x85.2.set v88.At.toNat (A2_I.mk (W ((x85.2.getD v88.At.toNat zA2_I).a0 + 1)) ((x85.2.getD v88.At.toNat zA2_I).a1))).length))), (31, dc 4 eTUnit zTUnit p1.Units), (32, cI (p1.Units.length : Int)), (33, cI (W (x85.1 + 1)))] [(2, va (eTBoard p0)), (29, .arr 2 ((x85.2.set v88.At.toNat (A2_I.mk (W ((x85.2.getD v88.At.toNat zA2_I).a0 + 1)) ((x85.2.getD v88.At.toNat zA2_I).a1))).length) (fF eA2_I zA2_I (x85.2.set v88.At.toNat (A2_I.mk (W ((x85.2.getD v88.At.toNat zA2_I).a0 + 1)) ((x85.2.getD v88.At.toNat zA2_I).a1)))) false)] (fun t => aI (by simp : x85.2.length = (x85.2.set v88.At.toNat (A2_I.mk (W ((x85.2.getD v88.At.toNat zA2_I).a0 + 1)) ((x85.2.getD v88.At.toNat zA2_I).a1))).length) (aI (Nat.le_of_eq (by simp : (x85.2.set v88.At.toNat (A2_I.mk (W ((x85.2.getD v88.At.toNat zA2_I).a0 + 1)) ((x85.2.getD v88.At.toNat zA2_I).a1))).length = x85.2.length)) (aI (fun _ _ => rfl : ∀ i, i < (x85.2.set v88.At.toNat (A2_I.mk (W ((x85.2.getD v88.At.toNat zA2_I).a0 + 1)) ((x85.2.getD v88.At.toNat zA2_I).a1))).length → (fF eA2_I zA2_I (x85.2.set v88.At.toNat (A2_I.mk (W ((x85.2.getD v88.At.toNat zA2_I).a0 + 1)) ((x85.2.getD v88.At.toNat zA2_I).a1)))) i = (fF eA2_I zA2_I (x85.2.set v88.At.toNat (A2_I.mk (W ((x85.2.getD v88.At.toNat zA2_I).a0 + 1)) ((x85.2.getD v88.At.toNat zA2_I).a1)))) i) (t)))) ?_
             cases H
             exact And.intro rfl rfl
          ·cases H
        ·rcases ofIte H with ⟨c108, H⟩ | ⟨c117, H⟩
         ·refine sd [.no, .nat 1, .no, .nat 1, .fn 0 (fF eA2_I zA2_I (x85.2.set v88.At.toNat (A2_I.mk ((x85.2.getD v88.At.toNat zA2_I).a0) (W ((x85.2.getD v88.At.toNat zA2_I).a1 + 1)))))] [] [(2, pk 2), (5, .c (.own 29 2 0 x85.2.length)), (7, pk 7), (31, dc 4 eTUnit zTUnit p1.Units), (32, cI (p1.Units.length : Int)), (33, cI x85.1)] [(2, va (eTBoard p0)), (7, va (eTUnit v88)), (29, .arr 2 x85.2.length (fF eA2_I zA2_I (x85.2.set v88.At.toNat (A2_I.mk ((x85.2.getD v88.At.toNat zA2_I).a0) (W ((x85.2.getD v88.At.toNat zA2_I).a1 + 1))))) false)] (fun t => aI g98 (aI (And.intro c108 (by decide : 1 < 2)) (aI (nat_lt g98) (aI (rfl : ([] : List Nat) = []) (aI g98 (aI (And.intro c108 (by decide : 1 < 2)) (aI (rfl : true = true) (aI (nat_lt g98) (aI (by decide : 1 + 1 ≤ 2) (aI (fF_set eA2_I zA2_I x85.2 v88.At.toNat (A2_I.mk ((x85.2.getD v88.At.toNat zA2_I).a0) (W ((x85.2.getD v88.At.toNat zA2_I).a1 + 1))) (nat_lt g98) x85.2.length) (t))))))))))) ?_
          rcases ofIte H with ⟨c109, H⟩ | ⟨c116, H⟩
          ·rcases ofCond H with ⟨c110, H⟩ | ⟨c110, H⟩
           ·refine sd [.no, .nat 0, .g true, .g true, .g true, .g true, .g true, .g true, .g true, .g true, .g true, .g true, .g true, .g true, .g true] [] [(2, pk 2), (5, .c (.own 29 2 0 x85.2.length)), (31, dc 4 eTUnit zTUnit p1.Units), (32, cI (p1.Units.length : Int)), (33, cI x85.1), (78, cB true)] [(2, va (eTBoard p0)), (29, .arr 2 x85.2.length (fF eA2_I zA2_I (x85.2.set v88.At.toNat (A2_I.mk ((x85.2.getD v88.At.toNat zA2_I).a0) (W ((x85.2.getD v88.At.toNat zA2_I).a1 + 1))))) false)] (fun t => aI g98 (aI (And.intro c109 (by decide : 0 < 2)) (aI (nat_lt g98) (aI (rfl : ([] : List Nat) = []) (aI c110 (aI c110 (aI c110 (aI c110 (aI c110 (aI c110 (aI c110 (aI c110 (aI c110 (aI c110 (aI c110 (aI c110 (aI c110 (t)))))))))))))))))) ?_
            refine it (rfl : (true : Bool) = true) ?_
            refine so [] [] [(4, cB false)] [] id ?_
            refine ends_ret ?_
            cases H
            exact And.intro (by simp) (And.intro rfl rfl)
           ·refine sd [.no, .nat 0, .g false, .g false, .g false, .g false, .g false, .g false, .no, .g false, .nat 1, .g false, .g false, .g false, .g false, .g false, .g false] [] [(2, pk 2), (5, .c (.own 29 2 0 x85.2.length)), (31, dc 4 eTUnit zTUnit p1.Units), (32, cI (p1.Units.length : Int)), (33, cI x85.1), (78, cB (decide (((x85.2.set v88.At.toNat (A2_I.mk ((x85.2.getD v88.At.toNat zA2_I).a0) (W ((x85.2.getD v88.At.toNat zA2_I).a1 + 1)))).getD v88.At.toNat zA2_I).a1 > p0.Rules.Stack)))] [(2, va (eTBoard p0)), (29, .arr 2 x85.2.length (fF eA2_I zA2_I (x85.2.set v88.At.toNat (A2_I.mk ((x85.2.getD v88.At.toNat zA2_I).a0) (W ((x85.2.getD v88.At.toNat zA2_I).a1 + 1))))) false)] (fun t => aI g98 (aI (And.intro c109 (by decide : 0 < 2)) (aI (nat_lt g98) (aI (rfl : ([] : List Nat) = []) (aI c110 (aI c110 (aI c110 (aI c110 (aI c110 (aI c110 (aI g98 (aI c110 (aI (And.intro c108 (by decide : 1 < 2)) (aI c110 (aI (nat_lt g98) (aI (rfl : ([] : List Nat) = []) (aI c110 (aI c110 (aI c110 (aI c110 (aI c110 (t)))))))))))))))))))))) ?_
            rcases ofCond H with ⟨c111, H⟩ | ⟨c111, H⟩
            ·refine it c111 ?_
             refine so [] [] [(4, cB false)] [] id ?_
             refine ends_ret ?_
             cases H
             exact And.intro (by simp) (And.intro rfl rfl)
            ·refine jf c111 ?_
             refine sk ?_
             refine oo [] [.rel 5 ((x85.2.set v88.At.toNat (A2_I.mk ((x85.2.getD v88.At.toNat zA2_I).a0) (W ((x85.2.getD v88.At.toNat zA2_I).a1 + 1)))).length), .rep 29 ((x85.2.set v88.At.toNat (A2_I.mk ((x85.2.getD v88.At.toNat zA2_I).a0) (W ((x85.2.getD v88.At.toNat zA2_I).a1 + 1)))).length) (fF eA2_I zA2_I (x85.2.set v88.At.toNat (A2_I.mk ((x85.2.getD v88.At.toNat zA2_I).a0) (W ((x85.2.getD v88.At.toNat zA2_I).a1 + 1)))))] [(2, pk 2), (5, .c (.own 29 2 0 ((x85.2.set v88.At.toNat (A2_I.mk ((x85.2.getD v88.At.toNat zA2_I).a0) (W ((x85.2.getD v88.At.toNat zA2_I).a1 + 1)))).length))), (31, dc 4 eTUnit zTUnit p1.Units), (32, cI (p1.Units.length : Int)), (33, cI (W (x85.1 + 1)))] [(2, va (eTBoard p0)), (29, .arr 2 ((x85.2.set v88.At.toNat (A2_I.mk ((x85.2.getD v88.At.toNat zA2_I).a0) (W ((x85.2.getD v88.At.toNat zA2_I).a1 + 1)))).length) (fF eA2_I zA2_I (x85.2.set v88.At.toNat (A2_I.mk ((x85.2.getD v88.At.toNat zA2_I).a0) (W ((x85.2.getD v88.At.toNat zA2_I).a1 + 1))))) false)] (fun t => aI (by simp : x85.2.length = (x85.2.set v88.At.toNat (A2_I.mk ((x85.2.getD v88.At.toNat zA2_I).a0) (W ((x85.2.getD v88.At.toNat zA2_I).a1 + 1)))).length) (aI (Nat.le_of_eq (by simp : (x85.2.set v88.At.toNat (A2_I.mk ((x85.2.getD v88.At.toNat zA2_I).a0) (W ((x85.2.getD v88.At.toNat zA2_I).a1 + 1)))).length = x85.2.length)) (aI (fun _ _ => rfl : ∀ i, i < (x85.2.set v88.At.toNat (A2_I.mk ((x85.2.getD v88.At.toNat zA2_I).a0) (W ((x85.2.getD v88.At.toNat zA2_I).a1 + 1)))).length → (fF eA2_I zA2_I (x85.2.set v88.At.toNat (A2_I.mk ((x85.2.getD v88.At.toNat zA2_I).a0) (W ((x85.2.getD v88.At.toNat zA2_I).a1 + 1))))) i = (fF eA2_I zA2_I (x85.2.set v88.At.toNat (A2_I.mk ((x85.2.getD v88.At.toNat zA2_I).a0) (W ((x85.2.getD v88.At.toNat zA2_I).a1 + 1))))) i) (t)))) ?_
             cases H
             exact And.intro rfl rfl
          ·rcases ofIte H with ⟨c112, H⟩ | ⟨c115, H⟩
           ·rcases ofCond H with ⟨c113, H⟩ | ⟨c113, H⟩
            ·refine sd [.no, .nat 1, .g true, .g true, .g true, .g true, .g true, .g true, .g true, .g true, .g true, .g true, .g true, .g true, .g true] [] [(2, pk 2), (5, .c (.own 29 2 0 x85.2.length)), (31, dc 4 eTUnit zTUnit p1.Units), (32, cI (p1.Units.length : Int)), (33, cI x85.1), (78, cB true)] [(2, va (eTBoard p0)), (29, .arr 2 x85.2.length (fF eA2_I zA2_I (x85.2.set v88.At.toNat (A2_I.mk ((x85.2.getD v88.At.toNat zA2_I).a0) (W ((x85.2.getD v88.At.toNat zA2_I).a1 + 1))))) false)] (fun t => aI g98 (aI (And.intro c112 (by decide : 1 < 2)) (aI (nat_lt g98) (aI (rfl : ([] : List Nat) = []) (aI c113 (aI c113 (aI c113 (aI c113 (aI c113 (aI c113 (aI c113 (aI c113 (aI c113 (aI c113 (aI c113 (aI c113 (aI c113 (t)))))))))))))))))) ?_
             refine it (rfl : (true : Bool) = true) ?_
             refine so [] [] [(4, cB false)] [] id ?_
             refine ends_ret ?_
             cases H
             exact And.intro (by simp) (And.intro rfl rfl)
            ·refine sd [.no, .nat 1, .g false, .g false, .g false, .g false, .g false, .g false, .no, .g false, .nat 1, .g false, .g false, .g false, .g false, .g false, .g false] [] [(2, pk 2), (5, .c (.own 29 2 0 x85.2.length)), (31, dc 4 eTUnit zTUnit p1.Units), (32, cI (p1.Units.length : Int)), (33, cI x85.1), (78, cB (decide (((x85.2.set v88.At.toNat (A2_I.mk ((x85.2.getD v88.At.toNat zA2_I).a0) (W ((x85.2.getD v88.At.toNat zA2_I).a1 + 1)))).getD v88.At.toNat zA2_I).a1 > p0.Rules.Stack)))] [(2, va (eTBoard p0)), (29, .arr 2 x85.2.length (fF eA2_I zA2_I (x85.2.set v88.At.toNat (A2_I.mk ((x85.2.getD v88.At.toNat zA2_I).a0) (W ((x85.2.getD v88.At.toNat zA2_I).a1 + 1))))) false)] (fun t => aI g98 (aI (And.intro c112 (by decide : 1 < 2)) (aI (nat_lt g98) (aI (rfl : ([] : List Nat) = []) (aI c113 (aI c113 (aI c113 (aI c113 (aI c113 (aI c113 (aI g98 (aI c113 (aI (And.intro c108 (by decide : 1 < 2)) (aI c113 (aI (nat_lt g98) (aI (rfl : ([] : List Nat) = []) (aI c113 (aI c113 (aI c113 (aI c113 (aI c113 (t)))))))))))))))))))))) ?_
             rcases ofCond H with ⟨c114, H⟩ | ⟨c114, H⟩
             ·refine it c114 ?_
              refine so [] [] [(4, cB false)] [] id ?_
              refine ends_ret ?_
              cases H
              exact And.intro (by simp) (And.intro rfl rfl)
             ·refine jf c114 ?_
              refine sk ?_
              refine oo [] [.rel 5 ((x85.2.set v88.At.toNat (A2_I.mk ((x85.2.getD v88.At.toNat zA2_I).a0) (W ((x85.2.getD v88.At.toNat zA2_I).a1 + 1)))).length), .rep 29 ((x85.2.set v88.At.toNat (A2_I.mk ((x85.2.getD v88.At.toNat zA2_I).a0) (W ((x85.2.getD v88.At.toNat zA2_I).a1 + 1)))).length) (fF eA2_I zA2_I (x85.2.set v88.At.toNat (A2_I.mk ((x85.2.getD v88.At.toNat zA2_I).a0) (W ((x85.2.getD v88.At.toNat zA2_I).a1 + 1)))))] [(2, pk 2), (5, .c (.own 29 2 0 ((x85.2.set v88.At.toNat (A2_I.mk ((x85.2.getD v88.At.toNat zA2_I).a0) (W ((x85.2.getD v88.At.toNat zA2_I).a1 + 1)))).length))), (31, dc 4 eTUnit zTUnit p1.Units), (32, cI (p1.Units.length : Int)), (33, cI (W (x85.1 + 1)))] [(2, va (eTBoard p0)), (29, .arr 2 ((x85.2.set v88.At.toNat (A2_I.mk ((x85.2.getD v88.At.toNat zA2_I).a0) (W ((x85.2.getD v88.At.toNat zA2_I).a1 + 1)))).length) (fF eA2_I zA2_I (x85.2.set v88.At.toNat (A2_I.mk ((x85.2.getD v88.At.toNat zA2_I).a0) (W ((x85.2.getD v88.At.toNat zA2_I).a1 + 1))))) false)] (fun t => aI (by simp : x85.2.length = (x85.2.set v88.At.toNat (A2_I.mk ((x85.2.getD v88.At.toNat zA2_I).a0) (W ((x85.2.getD v88.At.toNat zA2_I).a1 + 1)))).length) (aI (Nat.le_of_eq (by simp : (x85.2.set v88.At.toNat (A2_I.mk ((x85.2.getD v88.At.toNat zA2_I).a0) (W ((x85.2.getD v88.At.toNat zA2_I).a1 + 1)))).length = x85.2.length)) (aI (fun _ _ => rfl : ∀ i, i < (x85.2.set v88.At.toNat (A2_I.mk ((x85.2.getD v88.At.toNat zA2_I).a0) (W ((x85.2.getD v88.At.toNat zA2_I).a1 + 1)))).length → (fF eA2_I zA2_I (x85.2.set v88.At.toNat (A2_I.mk ((x85.2.getD v88.At.toNat zA2_I).a0) (W ((x85.2.getD v88.At.toNat zA2_I).a1 + 1))))) i = (fF eA2_I zA2_I (x85.2.set v88.At.toNat (A2_I.mk ((x85.2.getD v88.At.toNat zA2_I).a0) (W ((x85.2.getD v88.At.toNat zA2_I).a1 + 1))))) i) (t)))) ?_
              cases H
              exact And.intro rfl rfl
           ·cases H
         ·cases H
     ·refine jf c87 ?_
      refine tl [] [] [] id ?_
      refine ends_exit ?_
      cases H
      exact And.intro (by simp) (And.intro rfl rfl)
    ·clear h120
     cases y119 with
     | inl y121 =>
      replace H := ofInl H
      intro e s q
      obtain ⟨rfl, rfl⟩ := q
      change EndsI _ _ _ _ _ _
      refine so [] [] [(4, cB true)] [] id ?_
      refine ends_ret ?_
      cases H
      exact And.intro (.inl rfl) rfl
     | inr y122 =>
      replace H := ofInr H
      intro e s q
      obtain ⟨rfl, rfl⟩ := q
      cases H
      exact And.intro (.inl rfl) rfl
def i_fits_ir : S :=
 (.seq (.ops [o 2 (.box 12 (.t 0)), o 3 (.box 3 (.t 1)), o 4 (.mv (.v (.bool false)))])
 (.seq (.ops [o 5 (.load 12 true (.t 2)), o 6 (.call 143 [.t 5]), o 7 (.mv (.t 6)), ⟨some 8, .load 12 true (.t 2), some (7, true)⟩, ⟨some 9, .load 3 true (.t 3), some (7, true)⟩, ⟨some 10, .call 181 [.t 8, .t 9], some (7, true)⟩, o 11 (.pick (.t 7) (.t 10) (.v (.bool false))), o 4 (.mv (.t 11))])
 .ret))
noncomputable def X.i_fits (p0 : TBoard) (p1 : TState) : Option Bool :=
 ((X.i_IsBoard p0).bind fun v1 => (bif v1 then ((X.i_goodState p0 p1).bind fun v4 => some v4) else some false))
theorem i_fits_ok (p0 : TBoard) (p1 : TState) (r : Bool) (H : X.i_fits p0 p1 = some r) : FnOk Tryz.prog gl 131 [.agg (eTBoard p0), .agg (eTState p1)] (cB r) := by
 unfold X.i_fits at H
 refine fi Tryz.f131 i_fits_ir [(4, cB r)] [] glL Tryz.func131 ?_
 refine so [] [] [(2, pk 2), (3, pk 3)] [(2, va (eTBoard p0)), (3, va (eTState p1))] id ?_
 obtain ⟨v1, h2, H⟩ := ofBind H
 rcases ofCond H with ⟨c3, H⟩ | ⟨c3, H⟩
 ·obtain ⟨v4, h5, H⟩ := ofBind H
  refine so [.res (cB v1), .g true, .g true, .g true, .res (cB v4), .g true] [] [(4, cB v4)] [] (fun t => aI (i_IsBoard_ok p0 v1 h2) (aI c3 (aI c3 (aI c3 (aI (i_goodState_ok p0 p1 v4 h5) (aI c3 (t))))))) ?_
  refine ends_ret ?_
  cases H
  exact And.intro (.inl rfl) rfl
 ·refine so [.res (cB v1), .g false, .g false, .g false, .g false] [] [(4, cB false)] [] (fun t => aI (i_IsBoard_ok p0 v1 h2) (aI c3 (aI c3 (aI c3 (aI c3 (t)))))) ?_
  refine ends_ret ?_
  cases H
  exact And.intro (.inl rfl) rfl
end Go.Proofs.YtociagbpecpcnaaGreatDoor.X0
