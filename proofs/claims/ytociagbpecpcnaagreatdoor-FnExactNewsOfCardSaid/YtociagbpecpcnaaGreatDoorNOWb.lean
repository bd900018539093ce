/- What each Go function that FnExactNewsOf reaches computes, and that it returns so; no condition. -/
import Derived.Test.YtociagbpecpcnaaGreatDoorNOWa
set_option linter.unusedVariables false
set_option linter.unusedSimpArgs false
set_option maxRecDepth 100000
namespace Go.Proofs.YtociagbpecpcnaaGreatDoor.X0
open Go Go.RowKit Go.Proofs.YtociagbpecpcnaaGreatDoor.Ab Go.Proofs

def s_yGood_ir : S :=
 (sq [o 2 (.box 12 (.t 0)), o 3 (.box 6 (.t 1)), o 4 (.mv (.v (.bool false)))]
 (.seq (.seq (.draw 48 [o 7 (.fad 0 (.t 3)), o 8 (.load 1 false (.t 7)), o 9 (.call 124 [.t 8, .v (.int .i64 0), .v (.int .i64 1)]), o 10 (.not (.t 9)), om 11 10, ⟨some 12, .fad 1 (.t 3), some (11, false)⟩, ⟨some 13, .load 1 false (.t 12), some (11, false)⟩, ⟨some 14, .fad 0 (.t 2), some (11, false)⟩, ⟨some 15, .fad 6 (.t 14), some (11, false)⟩, ⟨some 16, .load 1 false (.t 15), some (11, false)⟩, ⟨some 17, .call 124 [.t 13, .v (.int .i64 0), .t 16], some (11, false)⟩, ⟨some 18, .not (.t 17), some (11, false)⟩, o 19 (.pick (.t 11) (.v (.bool true)) (.t 18)), om 20 19, ⟨some 21, .fad 2 (.t 3), some (20, false)⟩, ⟨some 22, .load 1 false (.t 21), some (20, false)⟩, ⟨some 23, .call 124 [.t 22, .v (.int .i64 0), .v (.int .i64 2)], some (20, false)⟩, ⟨some 24, .not (.t 23), some (20, false)⟩, o 25 (.pick (.t 20) (.v (.bool true)) (.t 24)), om 26 25, ⟨some 27, .fad 3 (.t 3), some (26, false)⟩, ⟨some 28, .load 1 false (.t 27), some (26, false)⟩, ⟨some 29, .fad 7 (.t 2), some (26, false)⟩, ⟨some 30, .load 5 true (.t 29), some (26, false)⟩, ⟨some 31, .call 142 [.t 30], some (26, false)⟩, ⟨some 32, .bin .sub (.t 31) (iv 1), some (26, false)⟩, ⟨some 33, .call 190 [.t 28, .v (.int .i64 0), .t 32], some (26, false)⟩, ⟨some 34, .not (.t 33), some (26, false)⟩, o 35 (.pick (.t 26) (.v (.bool true)) (.t 34)), om 36 35, ⟨some 37, .load 12 true (.t 2), some (36, false)⟩, ⟨some 38, .fad 4 (.t 3), some (36, false)⟩, ⟨some 39, .load 1 false (.t 38), some (36, false)⟩, ⟨some 40, .fad 0 (.t 3), some (36, false)⟩, ⟨some 41, .load 1 false (.t 40), some (36, false)⟩, ⟨some 42, .call 191 [.t 37, .t 39, .t 41], some (36, false)⟩, ⟨some 43, .not (.t 42), some (36, false)⟩, o 44 (.pick (.t 36) (.v (.bool true)) (.t 43)), om 45 44, ⟨some 46, .load 12 true (.t 2), some (45, false)⟩, ⟨some 47, .fad 5 (.t 3), some (45, false)⟩, ⟨some 48, .load 1 false (.t 47), some (45, false)⟩, ⟨some 49, .fad 0 (.t 3), some (45, false)⟩, ⟨some 50, .load 1 false (.t 49), some (45, false)⟩, ⟨some 51, .bin .sub (iv 1) (.t 50), some (45, false)⟩, ⟨some 52, .call 191 [.t 46, .t 48, .t 51], some (45, false)⟩, ⟨some 53, .not (.t 52), some (45, false)⟩, o 54 (.pick (.t 45) (.v (.bool true)) (.t 53))])
 (.ite (.t 54) (sq [o 4 (.mv (.v (.bool false)))]
  .ret)
 .skip))
 (.seq (sq [o 55 (.fad 5 (.t 3)), o 56 (.load 1 false (.t 55)), o 57 (.len (.t 56)), o 58 (.mv (iv 0))]
 (.blk 0 (.loop (sq [o 59 (.bin .lss (.t 58) (.t 57))]
   (.seq (.ite (.t 59) .skip
   (.exit 0))
   (.seq (.blk 1 (sq [om 60 58, o 61 (.iad 4 (.t 56) (.t 58)), o 62 (.load 4 true (.t 61)), o 6 (.alloc [.int .i64 0, .int .i64 0, .int .i64 0, .int .i64 0]), om 5 60, ⟨none, .store 4 (.t 6) (.t 62), none⟩]
    (.seq (.draw 20 [o 63 (.fad 3 (.t 3)), o 64 (.load 1 false (.t 63)), o 65 (.fad 2 (.t 6)), o 66 (.load 1 false (.t 65)), o 67 (.call 106 [.t 64, .t 66]), o 68 (.not (.t 67)), om 69 68, ⟨some 70, .mv (.t 5), some (69, false)⟩, ⟨some 71, .bin .gtr (.t 70) (iv 0), some (69, false)⟩, ⟨some 72, .mv (.t 71), some (69, false)⟩, ⟨some 73, .load 4 true (.t 6), some (72, true)⟩, ⟨some 74, .fad 5 (.t 3), some (72, true)⟩, ⟨some 75, .load 1 false (.t 74), some (72, true)⟩, ⟨some 76, .mv (.t 5), some (72, true)⟩, ⟨some 77, .bin .sub (.t 76) (iv 1), some (72, true)⟩, ⟨some 78, .iad 4 (.t 75) (.t 77), some (72, true)⟩, ⟨some 79, .load 4 true (.t 78), some (72, true)⟩, ⟨some 80, .call 192 [.t 73, .t 79], some (72, true)⟩, ⟨some 81, .pick (.t 72) (.t 80) (.v (.bool false)), some (69, false)⟩, o 82 (.pick (.t 69) (.v (.bool true)) (.t 81))])
    (.ite (.t 82) (sq [o 4 (.mv (.v (.bool false)))]
     .ret)
    .skip))))
   (.ops [o 83 (.bin .add (.t 58) (iv 1)), om 58 83])))))))
 (sq [o 4 (.mv (.v (.bool true)))]
 .ret))))
noncomputable def X.s_yGood (p0 : TBoard) (p1 : TView) : Option Bool :=
 ((X.s_l1In p1.Side 0 1).bind fun v21 => (bif (!v21) then some false else ((X.s_l1In p1.Turn 0 p0.Rules.Turns).bind fun v24 => (bif (!v24) then some false else ((X.s_l1In p1.Weather 0 2).bind fun v27 => (bif (!v27) then some false else ((X.s_mSize p0.Map).bind fun v30 => ((X.s_l1Rising p1.Seen 0 (W (v30 - 1))).bind fun v32 => (bif (!v32) then some false else ((X.s_yUnits p0 p1.Own p1.Side).bind fun v35 => (bif (!v35) then some false else ((X.s_yUnits p0 p1.Enemies (W (1 - p1.Side))).bind fun v38 => (bif (!v38) then some false else ((loop (fun (x68 : Int) => ((bif (decide (x68 < (p1.Enemies.length : Int))) then ((at' zTUnit p1.Enemies x68).bind fun v71 => ((X.s_l1Has p1.Seen v71.At).bind fun v73 => (bif (!v73) then some (Sum.inr (Sum.inr false)) else (bif (decide (x68 > 0)) then ((at' zTUnit p1.Enemies (W (x68 - 1))).bind fun v77 => ((X.s_fgBefore v71 v77).bind fun v79 => (bif v79 then some (Sum.inr (Sum.inr false)) else some (Sum.inl (W (x68 + 1)))))) else some (Sum.inl (W (x68 + 1))))))) else some (Sum.inr (Sum.inl ()))) : Option (Int ⊕ (Unit ⊕ Bool)))) 0).bind fun y82 => (Sum.elim (fun (y84 : Unit) => some true) (fun (y85 : Bool) => some y85) y82)))))))))))))))
theorem s_yGood_ok (p0 : TBoard) (p1 : TView) (r : Bool) (H : X.s_yGood p0 p1 = some r) : FnOk Tryz.prog gl 141 [.agg (eTBoard p0), .agg (eTView p1)] (cB r) := by
 unfold X.s_yGood at H
 refine fi Tryz.f141 s_yGood_ir [(4, cB r)] [] glL Tryz.func141 ?_
 refine so [] [] [(2, pk 2), (3, pk 3)] [(2, va (eTBoard p0)), (3, va (eTView p1))] id ?_
 refine seq_in ?_
 obtain ⟨v21, h22, H⟩ := ofBind H
 rcases ofCond H with ⟨c23, H⟩ | ⟨c23, H⟩
 ·refine sd [.res (cB v21), .g true, .g true, .g true, .g true, .g true, .g true, .g true, .g true, .g true, .g true, .g true, .g true, .g true, .g true, .g true, .g true, .g true, .g true, .g true, .g true, .g true, .g true, .g true, .g true, .g true, .g true, .g true, .g true, .g true, .g true, .g true, .g true, .g true, .g true, .g true, .g true, .g true, .g true, .g true] [] [(3, pk 3), (54, cB true)] [(3, va (eTView p1))] (fun t => aI (s_l1In_ok p1.Side 0 1 v21 h22) (aI trivial (aI (rfl : ([] : List Nat) = []) (aI c23 (aI c23 (aI c23 (aI c23 (aI c23 (aI c23 (aI c23 (aI c23 (aI (rfl : (true : Bool) = true) (aI (rfl : (true : Bool) = true) (aI (rfl : (true : Bool) = true) (aI (rfl : (true : Bool) = true) (aI (rfl : (true : Bool) = true) (aI (rfl : (true : Bool) = true) (aI (rfl : (true : Bool) = true) (aI (rfl : (true : Bool) = true) (aI (rfl : (true : Bool) = true) (aI (rfl : (true : Bool) = true) (aI (rfl : (true : Bool) = true) (aI (rfl : (true : Bool) = true) (aI (rfl : (true : Bool) = true) (aI (rfl : (true : Bool) = true) (aI (rfl : (true : Bool) = true) (aI (rfl : (true : Bool) = true) (aI (rfl : (true : Bool) = true) (aI (rfl : (true : Bool) = true) (aI (rfl : (true : Bool) = true) (aI (rfl : (true : Bool) = true) (aI (rfl : (true : Bool) = true) (aI (rfl : (true : Bool) = true) (aI (rfl : (true : Bool) = true) (aI (rfl : (true : Bool) = true) (aI (rfl : (true : Bool) = true) (aI (rfl : (true : Bool) = true) (aI (rfl : (true : Bool) = true) (aI (rfl : (true : Bool) = true) (aI (rfl : (true : Bool) = true) (aI (rfl : (true : Bool) = true) (aI (rfl : (true : Bool) = true) (t))))))))))))))))))))))))))))))))))))))))))) ?_
  refine it (rfl : (true : Bool) = true) ?_
  refine so [] [] [(4, cB false)] [] id ?_
  refine ends_ret ?_
  cases H
  exact And.intro (.inl rfl) rfl
 ·obtain ⟨v24, h25, H⟩ := ofBind H
  rcases ofCond H with ⟨c26, H⟩ | ⟨c26, H⟩
  ·refine sd [.res (cB v21), .g false, .g false, .g false, .g false, .g false, .g false, .res (cB v24), .g false, .g false, .g true, .g true, .g true, .g true, .g true, .g true, .g true, .g true, .g true, .g true, .g true, .g true, .g true, .g true, .g true, .g true, .g true, .g true, .g true, .g true, .g true, .g true, .g true, .g true, .g true, .g true, .g true, .g true, .g true, .g true, .g true] [] [(3, pk 3), (54, cB true)] [(3, va (eTView p1))] (fun t => aI (s_l1In_ok p1.Side 0 1 v21 h22) (aI trivial (aI (rfl : ([] : List Nat) = []) (aI c23 (aI c23 (aI c23 (aI c23 (aI c23 (aI c23 (aI (s_l1In_ok p1.Turn 0 p0.Rules.Turns v24 h25) (aI trivial (aI (rfl : ([] : List Nat) = []) (aI c23 (aI c23 (aI c26 (aI c26 (aI c26 (aI c26 (aI c26 (aI (rfl : (true : Bool) = true) (aI (rfl : (true : Bool) = true) (aI (rfl : (true : Bool) = true) (aI (rfl : (true : Bool) = true) (aI (rfl : (true : Bool) = true) (aI (rfl : (true : Bool) = true) (aI (rfl : (true : Bool) = true) (aI (rfl : (true : Bool) = true) (aI (rfl : (true : Bool) = true) (aI (rfl : (true : Bool) = true) (aI (rfl : (true : Bool) = true) (aI (rfl : (true : Bool) = true) (aI (rfl : (true : Bool) = true) (aI (rfl : (true : Bool) = true) (aI (rfl : (true : Bool) = true) (aI (rfl : (true : Bool) = true) (aI (rfl : (true : Bool) = true) (aI (rfl : (true : Bool) = true) (aI (rfl : (true : Bool) = true) (aI (rfl : (true : Bool) = true) (aI (rfl : (true : Bool) = true) (aI (rfl : (true : Bool) = true) (aI (rfl : (true : Bool) = true) (aI (rfl : (true : Bool) = true) (aI (rfl : (true : Bool) = true) (aI (rfl : (true : Bool) = true) (t)))))))))))))))))))))))))))))))))))))))))))))) ?_
   refine it (rfl : (true : Bool) = true) ?_
   refine so [] [] [(4, cB false)] [] id ?_
   refine ends_ret ?_
   cases H
   exact And.intro (.inl rfl) rfl
  ·obtain ⟨v27, h28, H⟩ := ofBind H
   rcases ofCond H with ⟨c29, H⟩ | ⟨c29, H⟩
   ·refine sd [.res (cB v21), .g false, .g false, .g false, .g false, .g false, .g false, .res (cB v24), .g false, .g false, .g false, .g false, .g false, .res (cB v27), .g false, .g false, .g true, .g true, .g true, .g true, .g true, .g true, .g true, .g true, .g true, .g true, .g true, .g true, .g true, .g true, .g true, .g true, .g true, .g true, .g true, .g true, .g true, .g true, .g true, .g true, .g true, .g true] [] [(3, pk 3), (54, cB true)] [(3, va (eTView p1))] (fun t => aI (s_l1In_ok p1.Side 0 1 v21 h22) (aI trivial (aI (rfl : ([] : List Nat) = []) (aI c23 (aI c23 (aI c23 (aI c23 (aI c23 (aI c23 (aI (s_l1In_ok p1.Turn 0 p0.Rules.Turns v24 h25) (aI trivial (aI (rfl : ([] : List Nat) = []) (aI c23 (aI c23 (aI c26 (aI c26 (aI c26 (aI (s_l1In_ok p1.Weather 0 2 v27 h28) (aI trivial (aI (rfl : ([] : List Nat) = []) (aI c26 (aI c26 (aI c29 (aI c29 (aI c29 (aI c29 (aI c29 (aI c29 (aI c29 (aI c29 (aI c29 (aI (rfl : (true : Bool) = true) (aI (rfl : (true : Bool) = true) (aI (rfl : (true : Bool) = true) (aI (rfl : (true : Bool) = true) (aI (rfl : (true : Bool) = true) (aI (rfl : (true : Bool) = true) (aI (rfl : (true : Bool) = true) (aI (rfl : (true : Bool) = true) (aI (rfl : (true : Bool) = true) (aI (rfl : (true : Bool) = true) (aI (rfl : (true : Bool) = true) (aI (rfl : (true : Bool) = true) (aI (rfl : (true : Bool) = true) (aI (rfl : (true : Bool) = true) (aI (rfl : (true : Bool) = true) (aI (rfl : (true : Bool) = true) (aI (rfl : (true : Bool) = true) (t))))))))))))))))))))))))))))))))))))))))))))))))) ?_
    refine it (rfl : (true : Bool) = true) ?_
    refine so [] [] [(4, cB false)] [] id ?_
    refine ends_ret ?_
    cases H
    exact And.intro (.inl rfl) rfl
   ·obtain ⟨v30, h31, H⟩ := ofBind H
    obtain ⟨v32, h33, H⟩ := ofBind H
    rcases ofCond H with ⟨c34, H⟩ | ⟨c34, H⟩
    ·refine sd [.res (cB v21), .g false, .g false, .g false, .g false, .g false, .g false, .res (cB v24), .g false, .g false, .g false, .g false, .g false, .res (cB v27), .g false, .g false, .g false, .g false, .g false, .g false, .g false, .res (cI v30), .g false, .g false, .res (cB v32), .g false, .g false, .g true, .g true, .g true, .g true, .g true, .g true, .g true, .g true, .g true, .g true, .g true, .g true, .g true, .g true, .g true, .g true, .g true] [] [(3, pk 3), (54, cB true)] [(3, va (eTView p1))] (fun t => aI (s_l1In_ok p1.Side 0 1 v21 h22) (aI trivial (aI (rfl : ([] : List Nat) = []) (aI c23 (aI c23 (aI c23 (aI c23 (aI c23 (aI c23 (aI (s_l1In_ok p1.Turn 0 p0.Rules.Turns v24 h25) (aI trivial (aI (rfl : ([] : List Nat) = []) (aI c23 (aI c23 (aI c26 (aI c26 (aI c26 (aI (s_l1In_ok p1.Weather 0 2 v27 h28) (aI trivial (aI (rfl : ([] : List Nat) = []) (aI c26 (aI c26 (aI c29 (aI c29 (aI c29 (aI c29 (aI c29 (aI (s_mSize_ok p0.Map v30 h31) (aI trivial (aI (rfl : ([] : List Nat) = []) (aI c29 (aI c29 (aI (s_l1Rising_ok p1.Seen 0 (W (v30 - 1)) v32 h33) (aI trivial (aI (rfl : ([] : List Nat) = []) (aI c29 (aI c29 (aI c34 (aI c34 (aI c34 (aI c34 (aI c34 (aI c34 (aI c34 (aI c34 (aI (rfl : (true : Bool) = true) (aI (rfl : (true : Bool) = true) (aI (rfl : (true : Bool) = true) (aI (rfl : (true : Bool) = true) (aI (rfl : (true : Bool) = true) (aI (rfl : (true : Bool) = true) (aI (rfl : (true : Bool) = true) (aI (rfl : (true : Bool) = true) (aI (rfl : (true : Bool) = true) (t))))))))))))))))))))))))))))))))))))))))))))))))))))))) ?_
     refine it (rfl : (true : Bool) = true) ?_
     refine so [] [] [(4, cB false)] [] id ?_
     refine ends_ret ?_
     cases H
     exact And.intro (.inl rfl) rfl
    ·obtain ⟨v35, h36, H⟩ := ofBind H
     rcases ofCond H with ⟨c37, H⟩ | ⟨c37, H⟩
     ·refine sd [.res (cB v21), .g false, .g false, .g false, .g false, .g false, .g false, .res (cB v24), .g false, .g false, .g false, .g false, .g false, .res (cB v27), .g false, .g false, .g false, .g false, .g false, .g false, .g false, .res (cI v30), .g false, .g false, .res (cB v32), .g false, .g false, .g false, .g false, .g false, .g false, .g false, .g false, .res (cB v35), .g false, .g false, .g true, .g true, .g true, .g true, .g true, .g true, .g true, .g true, .g true] [] [(3, pk 3), (54, cB true)] [(3, va (eTView p1))] (fun t => aI (s_l1In_ok p1.Side 0 1 v21 h22) (aI trivial (aI (rfl : ([] : List Nat) = []) (aI c23 (aI c23 (aI c23 (aI c23 (aI c23 (aI c23 (aI (s_l1In_ok p1.Turn 0 p0.Rules.Turns v24 h25) (aI trivial (aI (rfl : ([] : List Nat) = []) (aI c23 (aI c23 (aI c26 (aI c26 (aI c26 (aI (s_l1In_ok p1.Weather 0 2 v27 h28) (aI trivial (aI (rfl : ([] : List Nat) = []) (aI c26 (aI c26 (aI c29 (aI c29 (aI c29 (aI c29 (aI c29 (aI (s_mSize_ok p0.Map v30 h31) (aI trivial (aI (rfl : ([] : List Nat) = []) (aI c29 (aI c29 (aI (s_l1Rising_ok p1.Seen 0 (W (v30 - 1)) v32 h33) (aI trivial (aI (rfl : ([] : List Nat) = []) (aI c29 (aI c29 (aI c34 (aI c34 (aI c34 (aI c34 (aI c34 (aI c34 (aI (s_yUnits_ok p0 p1.Own p1.Side v35 h36) (aI trivial (aI (rfl : ([] : List Nat) = []) (aI c34 (aI c34 (aI c37 (aI c37 (aI c37 (aI c37 (aI c37 (aI c37 (aI c37 (aI c37 (aI c37 (t)))))))))))))))))))))))))))))))))))))))))))))))))))))))))) ?_
      refine it (rfl : (true : Bool) = true) ?_
      refine so [] [] [(4, cB false)] [] id ?_
      refine ends_ret ?_
      cases H
      exact And.intro (.inl rfl) rfl
     ·obtain ⟨v38, h39, H⟩ := ofBind H
      refine sd [.res (cB v21), .g false, .g false, .g false, .g false, .g false, .g false, .res (cB v24), .g false, .g false, .g false, .g false, .g false, .res (cB v27), .g false, .g false, .g false, .g false, .g false, .g false, .g false, .res (cI v30), .g false, .g false, .res (cB v32), .g false, .g false, .g false, .g false, .g false, .g false, .g false, .g false, .res (cB v35), .g false, .g false, .g false, .g false, .g false, .g false, .g false, .g false, .g false, .res (cB v38), .g false, .g false] [] [(3, pk 3), (54, cB (!v38))] [(3, va (eTView p1))] (fun t => aI (s_l1In_ok p1.Side 0 1 v21 h22) (aI trivial (aI (rfl : ([] : List Nat) = []) (aI c23 (aI c23 (aI c23 (aI c23 (aI c23 (aI c23 (aI (s_l1In_ok p1.Turn 0 p0.Rules.Turns v24 h25) (aI trivial (aI (rfl : ([] : List Nat) = []) (aI c23 (aI c23 (aI c26 (aI c26 (aI c26 (aI (s_l1In_ok p1.Weather 0 2 v27 h28) (aI trivial (aI (rfl : ([] : List Nat) = []) (aI c26 (aI c26 (aI c29 (aI c29 (aI c29 (aI c29 (aI c29 (aI (s_mSize_ok p0.Map v30 h31) (aI trivial (aI (rfl : ([] : List Nat) = []) (aI c29 (aI c29 (aI (s_l1Rising_ok p1.Seen 0 (W (v30 - 1)) v32 h33) (aI trivial (aI (rfl : ([] : List Nat) = []) (aI c29 (aI c29 (aI c34 (aI c34 (aI c34 (aI c34 (aI c34 (aI c34 (aI (s_yUnits_ok p0 p1.Own p1.Side v35 h36) (aI trivial (aI (rfl : ([] : List Nat) = []) (aI c34 (aI c34 (aI c37 (aI c37 (aI c37 (aI c37 (aI c37 (aI c37 (aI c37 (aI (s_yUnits_ok p0 p1.Enemies (W (1 - p1.Side)) v38 h39) (aI trivial (aI (rfl : ([] : List Nat) = []) (aI c37 (aI c37 (t))))))))))))))))))))))))))))))))))))))))))))))))))))))))))))) ?_
      rcases ofCond H with ⟨c40, H⟩ | ⟨c40, H⟩
      ·refine it c40 ?_
       refine so [] [] [(4, cB false)] [] id ?_
       refine ends_ret ?_
       cases H
       exact And.intro (.inl rfl) rfl
      ·refine jf c40 ?_
       refine sk ?_
       refine seq_in ?_
       refine so [] [] [(3, pk 3), (56, dc 4 eTUnit zTUnit p1.Enemies), (57, cL p1.Enemies), (58, cI 0)] [(3, va (eTView p1))] (fun t => lI p1.Enemies (t)) ?_
       refine ends_blk ?_
       obtain ⟨y82, h83, H⟩ := ofBind H
       refine loop_in (fun (x : Int) => lit [(3, pk 3), (56, dc 4 eTUnit zTUnit p1.Enemies), (57, cL p1.Enemies), (58, cI x)] [(3, va (eTView p1))]) (orJ (fun (z : Unit) => At (.exit 0) (lit [] [])) (fun (z : Bool) => At .ret (lit [(4, cB z)] []))) h83 ?_ ?_
       ·clear H h83
        intro x68 y0 H
        refine so [] [] [(3, pk 3), (56, dc 4 eTUnit zTUnit p1.Enemies), (57, cL p1.Enemies), (58, cI x68), (59, cB (decide (x68 < (p1.Enemies.length : Int))))] [(3, va (eTView p1))] id ?_
        refine seq_in ?_
        rcases ofCond H with ⟨c70, H⟩ | ⟨c70, H⟩
        ·refine it c70 ?_
         refine sk ?_
         refine seq_in ?_
         refine ends_blk ?_
         obtain ⟨v71, h72, H⟩ := ofBind H
         refine so [.cs (eTUnit v71)] [] [(3, pk 3), (5, cI x68), (6, pk 6), (56, dc 4 eTUnit zTUnit p1.Enemies), (57, cL p1.Enemies), (58, cI x68)] [(3, va (eTView p1)), (6, va (eTUnit v71))] (a2 eTUnit h72) ?_
         obtain ⟨v73, h74, H⟩ := ofBind H
         rcases ofCond H with ⟨c75, H⟩ | ⟨c75, H⟩
         ·refine sd [.res (cB v73), .g true, .g true, .g true, .g true, .g true] [] [(3, pk 3), (56, dc 4 eTUnit zTUnit p1.Enemies), (57, cL p1.Enemies), (58, cI x68), (82, cB true)] [(3, va (eTView p1))] (fun t => aI (s_l1Has_ok p1.Seen v71.At v73 h74) (aI trivial (aI (rfl : ([] : List Nat) = []) (aI c75 (aI c75 (aI c75 (aI c75 (aI c75 (t))))))))) ?_
          refine it (rfl : (true : Bool) = true) ?_
          refine so [] [] [(4, cB false)] [] id ?_
          refine ends_ret ?_
          cases H
          exact And.intro (by simp) (And.intro rfl rfl)
         ·rcases ofCond H with ⟨c76, H⟩ | ⟨c76, H⟩
          ·obtain ⟨v77, h78, H⟩ := ofBind H
           obtain ⟨v79, h80, H⟩ := ofBind H
           refine sd [.res (cB v73), .g false, .g false, .g false, .g true, .g true, .g true, .g true, .g true, .g true, .cs (eTUnit v77), .g true, .g true, .res (cB v79), .g false, .g true, .g false] [] [(3, pk 3), (56, dc 4 eTUnit zTUnit p1.Enemies), (57, cL p1.Enemies), (58, cI x68), (82, cB v79)] [(3, va (eTView p1))] (fun t => aI (s_l1Has_ok p1.Seen v71.At v73 h74) (aI trivial (aI (rfl : ([] : List Nat) = []) (aI c75 (aI c75 (aI c75 (aI c76 (aI c76 (aI c76 (aI c76 (aI c76 (aI c76 ((a2 eTUnit h78 (aI c76 (aI (rfl : ([] : List Nat) = []) (aI c76 (aI (s_fgBefore_ok v71 v77 v79 h80) (aI trivial (aI (rfl : ([] : List Nat) = []) (aI c75 (aI c76 (aI c75 (t)))))))))))))))))))))))) ?_
           rcases ofCond H with ⟨c81, H⟩ | ⟨c81, H⟩
           ·refine it c81 ?_
            refine so [] [] [(4, cB false)] [] id ?_
            refine ends_ret ?_
            cases H
            exact And.intro (by simp) (And.intro rfl rfl)
           ·refine jf c81 ?_
            refine sk ?_
            refine oo [] [] [(3, pk 3), (56, dc 4 eTUnit zTUnit p1.Enemies), (57, cL p1.Enemies), (58, cI (W (x68 + 1)))] [(3, va (eTView p1))] id ?_
            cases H
            exact And.intro rfl rfl
          ·refine sd [.res (cB v73), .g false, .g false, .g false, .g false, .g false, .g false, .g false, .g false, .g false, .g false, .g false, .g false, .g false, .g false] [] [(3, pk 3), (56, dc 4 eTUnit zTUnit p1.Enemies), (57, cL p1.Enemies), (58, cI x68), (82, cB false)] [(3, va (eTView p1))] (fun t => aI (s_l1Has_ok p1.Seen v71.At v73 h74) (aI trivial (aI (rfl : ([] : List Nat) = []) (aI c75 (aI c75 (aI c75 (aI c76 (aI c76 (aI c76 (aI c76 (aI c76 (aI c76 (aI c76 (aI c76 (aI c75 (aI c76 (aI c75 (t)))))))))))))))))) ?_
           refine jf (rfl : (false : Bool) = false) ?_
           refine sk ?_
           refine oo [] [] [(3, pk 3), (56, dc 4 eTUnit zTUnit p1.Enemies), (57, cL p1.Enemies), (58, cI (W (x68 + 1)))] [(3, va (eTView p1))] id ?_
           cases H
           exact And.intro rfl rfl
        ·refine jf c70 ?_
         refine tl [] [] [] id ?_
         refine ends_exit ?_
         cases H
         exact And.intro (by simp) (And.intro rfl rfl)
       ·clear h83
        cases y82 with
        | inl y84 =>
         replace H := ofInl H
         intro e s q
         obtain ⟨rfl, rfl⟩ := q
         change EndsI _ _ _ _ _ _
         refine so [] [] [(4, cB true)] [] id ?_
         refine ends_ret ?_
         cases H
         exact And.intro (.inl rfl) rfl
        | inr y85 =>
         replace H := ofInr H
         intro e s q
         obtain ⟨rfl, rfl⟩ := q
         cases H
         exact And.intro (.inl rfl) rfl
def s_yAsked_ir : S :=
 (sq [o 2 (.box 12 (.t 0)), o 3 (.box 6 (.t 1)), o 4 (.mv (.v (.bool false)))]
 (sq [o 5 (.load 12 true (.t 2)), o 6 (.call 140 [.t 5]), om 7 6, ⟨some 8, .load 12 true (.t 2), some (7, true)⟩, ⟨some 9, .load 6 true (.t 3), some (7, true)⟩, ⟨some 10, .call 141 [.t 8, .t 9], some (7, true)⟩, o 11 (.pick (.t 7) (.t 10) (.v (.bool false))), om 4 11]
 .ret))
noncomputable def X.s_yAsked (p0 : TBoard) (p1 : TView) : Option Bool :=
 ((X.s_bGood p0).bind fun v1 => (bif v1 then ((X.s_yGood p0 p1).bind fun v4 => some v4) else some false))
theorem s_yAsked_ok (p0 : TBoard) (p1 : TView) (r : Bool) (H : X.s_yAsked p0 p1 = some r) : FnOk Tryz.prog gl 80 [.agg (eTBoard p0), .agg (eTView p1)] (cB r) := by
 unfold X.s_yAsked at H
 refine fi Tryz.f80 s_yAsked_ir [(4, cB r)] [] glL Tryz.func80 ?_
 refine so [] [] [(2, pk 2), (3, pk 3)] [(2, va (eTBoard p0)), (3, va (eTView p1))] id ?_
 obtain ⟨v1, h2, H⟩ := ofBind H
 rcases ofCond H with ⟨c3, H⟩ | ⟨c3, H⟩
 ·obtain ⟨v4, h5, H⟩ := ofBind H
  refine so [.res (cB v1), .g true, .g true, .g true, .res (cB v4), .g true] [] [(4, cB v4)] [] (fun t => aI (s_bGood_ok p0 v1 h2) (aI c3 (aI c3 (aI c3 (aI (s_yGood_ok p0 p1 v4 h5) (aI c3 (t))))))) ?_
  refine ends_ret ?_
  cases H
  exact And.intro (.inl rfl) rfl
 ·refine so [.res (cB v1), .g false, .g false, .g false, .g false] [] [(4, cB false)] [] (fun t => aI (s_bGood_ok p0 v1 h2) (aI c3 (aI c3 (aI c3 (aI c3 (t)))))) ?_
  refine ends_ret ?_
  cases H
  exact And.intro (.inl rfl) rfl
def s_yOnly_ir : S :=
 (sq [o 4 (.mv (.v (.nil)))]
 (sq [o 5 (.mv (.v (.nil)))]
 (.seq (sq [om 8 0, o 9 (.len (.t 8)), o 10 (.mv (iv 0))]
 (.blk 0 (.loop (sq [o 11 (.bin .lss (.t 10) (.t 9))]
   (.seq (.ite (.t 11) .skip
   (.exit 0))
   (.seq (.blk 1 (sq [o 12 (.iad 1 (.t 8) (.t 10)), o 13 (.load 1 false (.t 12)), om 7 13]
    (sq [om 14 1, om 15 7, o 16 (.call 106 [.t 14, .t 15]), o 17 (.not (.t 16))]
    (.ite (.t 17) (.ops [om 18 5, om 19 7, o 20 (.bsl 1 [.t 19]), o 21 (.app 1 8 (.t 18) (.t 20)), om 5 21])
    .skip))))
   (.ops [o 22 (.bin .add (.t 10) (iv 1)), om 10 22])))))))
 (sq [om 23 5, om 4 23]
 .ret))))
noncomputable def X.s_yOnly (p0 : (List Int)) (p1 : (List Int)) : Option (List Int) :=
 ((loop (fun (x18 : (Int × (List Int))) => ((bif (decide (x18.1 < (p0.length : Int))) then ((at' zI p0 x18.1).bind fun v21 => ((X.s_l1Has p1 v21).bind fun v23 => (bif (!v23) then (if (x18.2 ++ ([v21] : List Int)).length ≤ LIM then some (Sum.inl ((W (x18.1 + 1)), (x18.2 ++ ([v21] : List Int)))) else none) else some (Sum.inl ((W (x18.1 + 1)), x18.2))))) else some (Sum.inr x18.2)) : Option ((Int × (List Int)) ⊕ (List Int)))) (0, ([] : List Int))).bind fun y27 => some y27)
theorem s_yOnly_ok (p0 : (List Int)) (p1 : (List Int)) (r : (List Int)) (H : X.s_yOnly p0 p1 = some r) : FnOk Tryz.prog gl 87 [.c (dat 1 eI zI p0), .c (dat 1 eI zI p1)] (.c (dat 1 eI zI r)) := by
 unfold X.s_yOnly at H
 refine fi Tryz.f87 s_yOnly_ir [(4, dc 1 eI zI r)] [] glL Tryz.func87 ?_
 refine so [] [] [(0, dc 1 eI zI p0), (1, dc 1 eI zI p1)] [] id ?_
 refine so [] [] [(0, dc 1 eI zI p0), (1, dc 1 eI zI p1), (5, .c (.nil))] [] id ?_
 refine seq_in ?_
 refine so [] [] [(1, dc 1 eI zI p1), (5, .c (.nil)), (8, dc 1 eI zI p0), (9, cL p0), (10, cI 0)] [] (fun t => lI p0 (t)) ?_
 refine ends_blk ?_
 obtain ⟨y27, h28, H⟩ := ofBind H
 refine tl [.nlo 5 1001 1 (fF eI zI ([] : List Int))] [(1, dc 1 eI zI p1), (5, ow 1001 1 ([] : List Int)), (8, dc 1 eI zI p0), (9, cL p0), (10, cI 0)] [(1001, ar 1 eI zI ([] : List Int))] (aI (by decide : 0 < 1)) ?_
 refine loop_in (fun (x : (Int × (List Int))) => lit [(1, dc 1 eI zI p1), (5, ow 1001 1 x.2), (8, dc 1 eI zI p0), (9, cL p0), (10, cI x.1)] [(1001, ar 1 eI zI x.2)]) (fun (z : (List Int)) => At (.exit 0) (lit [(5, ow 1001 1 z)] [(1001, ar 1 eI zI z)])) h28 ?_ ?_
 ·clear H h28
  intro x18 y0 H
  refine so [] [] [(1, dc 1 eI zI p1), (5, ow 1001 1 x18.2), (8, dc 1 eI zI p0), (9, cL p0), (10, cI x18.1), (11, cB (decide (x18.1 < (p0.length : Int))))] [(1001, ar 1 eI zI x18.2)] id ?_
  refine seq_in ?_
  rcases ofCond H with ⟨c20, H⟩ | ⟨c20, H⟩
  ·refine it c20 ?_
   refine sk ?_
   refine seq_in ?_
   refine ends_blk ?_
   obtain ⟨v21, h22, H⟩ := ofBind H
   refine so [.cs (eI v21)] [] [(1, dc 1 eI zI p1), (5, ow 1001 1 x18.2), (7, cI v21), (8, dc 1 eI zI p0), (9, cL p0), (10, cI x18.1)] [(1001, ar 1 eI zI x18.2)] (a2 eI h22) ?_
   obtain ⟨v23, h24, H⟩ := ofBind H
   refine so [.res (cB v23)] [] [(1, dc 1 eI zI p1), (5, ow 1001 1 x18.2), (7, cI v21), (8, dc 1 eI zI p0), (9, cL p0), (10, cI x18.1), (17, cB (!v23))] [(1001, ar 1 eI zI x18.2)] (aI (s_l1Has_ok p1 v21 v23 h24)) ?_
   rcases ofCond H with ⟨c25, H⟩ | ⟨c25, H⟩
   ·refine it c25 ?_
    obtain ⟨g26, H⟩ := ofIf H
    refine oo [fh eI zI ([v21] : List Int), fh eI zI (x18.2 ++ ([v21] : List Int))] [] [(1, dc 1 eI zI p1), (5, ow 21 1 (x18.2 ++ ([v21] : List Int))), (8, dc 1 eI zI p0), (9, cL p0), (10, cI x18.1)] [(21, ar 1 eI zI (x18.2 ++ ([v21] : List Int)))] (fun t => aI (rfl : ([v21] : List Int).length = 1) (aI (fF_lit eI zI ([v21] : List Int)) (aI (And.intro (Nat.le_refl x18.2.length) (And.intro (@List.length_append _ x18.2 ([v21] : List Int)) g26)) (aI (fF_appL eI zI x18.2 ([v21] : List Int)) (aI (fF_appR eI zI x18.2 ([v21] : List Int)) (t)))))) ?_
    change EndsI _ _ _ _ _ _
    refine oo [] [.ren 21 1001] [(1, dc 1 eI zI p1), (5, ow 1001 1 (x18.2 ++ ([v21] : List Int))), (8, dc 1 eI zI p0), (9, cL p0), (10, cI (W (x18.1 + 1)))] [(1001, ar 1 eI zI (x18.2 ++ ([v21] : List Int)))] id ?_
    cases H
    exact And.intro rfl rfl
   ·refine jf c25 ?_
    refine sk ?_
    refine oo [] [] [(1, dc 1 eI zI p1), (5, ow 1001 1 x18.2), (8, dc 1 eI zI p0), (9, cL p0), (10, cI (W (x18.1 + 1)))] [(1001, ar 1 eI zI x18.2)] id ?_
    cases H
    exact And.intro rfl rfl
  ·refine jf c20 ?_
   refine tl [] [(5, ow 1001 1 x18.2)] [(1001, ar 1 eI zI x18.2)] id ?_
   refine ends_exit ?_
   cases H
   exact And.intro (by simp) (And.intro rfl rfl)
 ·clear h28
  intro e s q
  obtain ⟨rfl, rfl⟩ := q
  change EndsI _ _ _ _ _ _
  refine so [] [] [(4, ow 1001 1 y27)] [(1001, ar 1 eI zI y27)] id ?_
  refine tl [.frz 4] [(4, dc 1 eI zI y27)] [] (aI (Nat.le_refl y27.length)) ?_
  refine ends_ret ?_
  cases H
  exact And.intro (.inl rfl) rfl
def s_yNew_ir : S :=
 (sq [o 4 (.mv (.v (.nil)))]
 (sq [o 5 (.mv (.v (.nil)))]
 (.seq (sq [om 11 0, o 12 (.len (.t 11)), o 13 (.mv (iv 0))]
 (.blk 0 (.loop (sq [o 14 (.bin .lss (.t 13) (.t 12))]
   (.seq (.ite (.t 14) .skip
   (.exit 0))
   (.seq (.blk 1 (sq [om 15 13, o 16 (.iad 4 (.t 11) (.t 13)), o 17 (.load 4 true (.t 16)), o 7 (.alloc [.int .i64 0, .int .i64 0, .int .i64 0, .int .i64 0]), om 6 15, ⟨none, .store 4 (.t 7) (.t 17), none⟩]
    (sq [o 8 (.mv (.v (.bool false)))]
    (.seq (sq [om 18 1, o 19 (.len (.t 18)), o 20 (.mv (iv 0))]
    (.blk 2 (.loop (sq [o 21 (.bin .lss (.t 20) (.t 19))]
      (.seq (.ite (.t 21) .skip
      (.exit 2))
      (.seq (.blk 3 (sq [o 22 (.iad 4 (.t 18) (.t 20)), o 23 (.load 4 true (.t 22)), o 10 (.alloc [.int .i64 0, .int .i64 0, .int .i64 0, .int .i64 0]), ⟨none, .store 4 (.t 10) (.t 23), none⟩]
       (.ops [om 24 8, om 25 24, ⟨some 26, .load 4 true (.t 7), some (25, false)⟩, ⟨some 27, .load 4 true (.t 10), some (25, false)⟩, ⟨some 28, .eqa false [1, 1, 1, 1] (.t 26) (.t 27), some (25, false)⟩, o 29 (.pick (.t 25) (.v (.bool true)) (.t 28)), om 8 29])))
      (.ops [o 30 (.bin .add (.t 20) (iv 1)), om 20 30])))))))
    (sq [om 31 8, o 32 (.not (.t 31))]
    (.ite (.t 32) (.ops [om 33 5, om 34 6, o 35 (.bsl 1 [.t 34]), o 36 (.app 1 8 (.t 33) (.t 35)), om 5 36])
    .skip))))))
   (.ops [o 37 (.bin .add (.t 13) (iv 1)), om 13 37])))))))
 (sq [om 38 5, om 4 38]
 .ret))))
noncomputable def X.s_yNew (p0 : (List TUnit)) (p1 : (List TUnit)) : Option (List Int) :=
 ((loop (fun (x86 : (Int × (List Int))) => ((bif (decide (x86.1 < (p0.length : Int))) then ((at' zTUnit p0 x86.1).bind fun v89 => ((loop (fun (x119 : (Bool × Int × (List Int))) => ((bif (decide (x119.2.1 < (p1.length : Int))) then ((at' zTUnit p1 x119.2.1).bind fun v122 => (bif x119.1 then some (Sum.inl (true, (W (x119.2.1 + 1)), x119.2.2)) else some (Sum.inl (((v89.Side == v122.Side) && ((v89.Kind == v122.Kind) && ((v89.At == v122.At) && ((v89.Steps == v122.Steps) && true)))), (W (x119.2.1 + 1)), x119.2.2)))) else some (Sum.inr (x119.1, x119.2.2))) : Option ((Bool × Int × (List Int)) ⊕ (Bool × (List Int))))) (false, 0, x86.2)).bind fun y125 => (bif (!y125.1) then (if (y125.2 ++ ([x86.1] : List Int)).length ≤ LIM then some (Sum.inl ((W (x86.1 + 1)), (y125.2 ++ ([x86.1] : List Int)))) else none) else some (Sum.inl ((W (x86.1 + 1)), y125.2))))) else some (Sum.inr x86.2)) : Option ((Int × (List Int)) ⊕ (List Int)))) (0, ([] : List Int))).bind fun y129 => some y129)
theorem s_yNew_ok (p0 : (List TUnit)) (p1 : (List TUnit)) (r : (List Int)) (H : X.s_yNew p0 p1 = some r) : FnOk Tryz.prog gl 88 [.c (dat 4 eTUnit zTUnit p0), .c (dat 4 eTUnit zTUnit p1)] (.c (dat 1 eI zI r)) := by
 unfold X.s_yNew at H
 refine fi Tryz.f88 s_yNew_ir [(4, dc 1 eI zI r)] [] glL Tryz.func88 ?_
 refine so [] [] [(0, dc 4 eTUnit zTUnit p0), (1, dc 4 eTUnit zTUnit p1)] [] id ?_
 refine so [] [] [(0, dc 4 eTUnit zTUnit p0), (1, dc 4 eTUnit zTUnit p1), (5, .c (.nil))] [] id ?_
 refine seq_in ?_
 refine so [] [] [(1, dc 4 eTUnit zTUnit p1), (5, .c (.nil)), (11, dc 4 eTUnit zTUnit p0), (12, cL p0), (13, cI 0)] [] (fun t => lI p0 (t)) ?_
 refine ends_blk ?_
 obtain ⟨y129, h130, H⟩ := ofBind H
 refine tl [.nlo 5 1001 1 (fF eI zI ([] : List Int))] [(1, dc 4 eTUnit zTUnit p1), (5, ow 1001 1 ([] : List Int)), (11, dc 4 eTUnit zTUnit p0), (12, cL p0), (13, cI 0)] [(1001, ar 1 eI zI ([] : List Int))] (aI (by decide : 0 < 1)) ?_
 refine loop_in (fun (x : (Int × (List Int))) => lit [(1, dc 4 eTUnit zTUnit p1), (5, ow 1001 1 x.2), (11, dc 4 eTUnit zTUnit p0), (12, cL p0), (13, cI x.1)] [(1001, ar 1 eI zI x.2)]) (fun (z : (List Int)) => At (.exit 0) (lit [(5, ow 1001 1 z)] [(1001, ar 1 eI zI z)])) h130 ?_ ?_
 ·clear H h130
  intro x86 y0 H
  refine so [] [] [(1, dc 4 eTUnit zTUnit p1), (5, ow 1001 1 x86.2), (11, dc 4 eTUnit zTUnit p0), (12, cL p0), (13, cI x86.1), (14, cB (decide (x86.1 < (p0.length : Int))))] [(1001, ar 1 eI zI x86.2)] id ?_
  refine seq_in ?_
  rcases ofCond H with ⟨c88, H⟩ | ⟨c88, H⟩
  ·refine it c88 ?_
   refine sk ?_
   refine seq_in ?_
   refine ends_blk ?_
   obtain ⟨v89, h90, H⟩ := ofBind H
   refine so [.cs (eTUnit v89)] [] [(1, dc 4 eTUnit zTUnit p1), (5, ow 1001 1 x86.2), (6, cI x86.1), (7, pk 7), (11, dc 4 eTUnit zTUnit p0), (12, cL p0), (13, cI x86.1)] [(7, va (eTUnit v89)), (1001, ar 1 eI zI x86.2)] (a2 eTUnit h90) ?_
   refine so [] [] [(1, dc 4 eTUnit zTUnit p1), (5, ow 1001 1 x86.2), (6, cI x86.1), (7, pk 7), (8, cB false), (11, dc 4 eTUnit zTUnit p0), (12, cL p0), (13, cI x86.1)] [(7, va (eTUnit v89)), (1001, ar 1 eI zI x86.2)] id ?_
   refine seq_in ?_
   refine so [] [] [(1, dc 4 eTUnit zTUnit p1), (5, ow 1001 1 x86.2), (6, cI x86.1), (7, pk 7), (8, cB false), (11, dc 4 eTUnit zTUnit p0), (12, cL p0), (13, cI x86.1), (18, dc 4 eTUnit zTUnit p1), (19, cL p1), (20, cI 0)] [(7, va (eTUnit v89)), (1001, ar 1 eI zI x86.2)] (fun t => lI p1 (t)) ?_
   refine ends_blk ?_
   obtain ⟨y125, h126, H⟩ := ofBind H
   refine loop_in (fun (x : (Bool × Int × (List Int))) => lit [(1, dc 4 eTUnit zTUnit p1), (5, ow 1001 1 x.2.2), (6, cI x86.1), (7, pk 7), (8, cB x.1), (11, dc 4 eTUnit zTUnit p0), (12, cL p0), (13, cI x86.1), (18, dc 4 eTUnit zTUnit p1), (19, cL p1), (20, cI x.2.1)] [(7, va (eTUnit v89)), (1001, ar 1 eI zI x.2.2)]) (fun (z : (Bool × (List Int))) => At (.exit 2) (lit [(1, dc 4 eTUnit zTUnit p1), (5, ow 1001 1 z.2), (6, cI x86.1), (8, cB z.1), (11, dc 4 eTUnit zTUnit p0), (12, cL p0), (13, cI x86.1)] [(1001, ar 1 eI zI z.2)])) h126 ?_ ?_
   ·clear H h126
    intro x119 y0 H
    refine so [] [] [(1, dc 4 eTUnit zTUnit p1), (5, ow 1001 1 x119.2.2), (6, cI x86.1), (7, pk 7), (8, cB x119.1), (11, dc 4 eTUnit zTUnit p0), (12, cL p0), (13, cI x86.1), (18, dc 4 eTUnit zTUnit p1), (19, cL p1), (20, cI x119.2.1), (21, cB (decide (x119.2.1 < (p1.length : Int))))] [(7, va (eTUnit v89)), (1001, ar 1 eI zI x119.2.2)] id ?_
    refine seq_in ?_
    rcases ofCond H with ⟨c121, H⟩ | ⟨c121, H⟩
    ·refine it c121 ?_
     refine sk ?_
     refine seq_in ?_
     refine ends_blk ?_
     obtain ⟨v122, h123, H⟩ := ofBind H
     refine so [.cs (eTUnit v122)] [] [(1, dc 4 eTUnit zTUnit p1), (5, ow 1001 1 x119.2.2), (6, cI x86.1), (7, pk 7), (8, cB x119.1), (10, pk 10), (11, dc 4 eTUnit zTUnit p0), (12, cL p0), (13, cI x86.1), (18, dc 4 eTUnit zTUnit p1), (19, cL p1), (20, cI x119.2.1)] [(7, va (eTUnit v89)), (10, va (eTUnit v122)), (1001, ar 1 eI zI x119.2.2)] (a2 eTUnit h123) ?_
     rcases ofCond H with ⟨c124, H⟩ | ⟨c124, H⟩
     ·refine oo [.g true, .g true, .g true, .g true] [] [(1, dc 4 eTUnit zTUnit p1), (5, ow 1001 1 x119.2.2), (6, cI x86.1), (7, pk 7), (8, cB true), (11, dc 4 eTUnit zTUnit p0), (12, cL p0), (13, cI x86.1), (18, dc 4 eTUnit zTUnit p1), (19, cL p1), (20, cI x119.2.1)] [(7, va (eTUnit v89)), (1001, ar 1 eI zI x119.2.2)] (fun t => aI c124 (aI c124 (aI c124 (aI c124 (t))))) ?_
      change EndsI _ _ _ _ _ _
      refine oo [] [] [(1, dc 4 eTUnit zTUnit p1), (5, ow 1001 1 x119.2.2), (6, cI x86.1), (7, pk 7), (8, cB true), (11, dc 4 eTUnit zTUnit p0), (12, cL p0), (13, cI x86.1), (18, dc 4 eTUnit zTUnit p1), (19, cL p1), (20, cI (W (x119.2.1 + 1)))] [(7, va (eTUnit v89)), (1001, ar 1 eI zI x119.2.2)] id ?_
      cases H
      exact And.intro rfl rfl
     ·refine oo [.g false, .g false, .g false, .g false] [] [(1, dc 4 eTUnit zTUnit p1), (5, ow 1001 1 x119.2.2), (6, cI x86.1), (7, pk 7), (8, cB ((v89.Side == v122.Side) && ((v89.Kind == v122.Kind) && ((v89.At == v122.At) && ((v89.Steps == v122.Steps) && true))))), (11, dc 4 eTUnit zTUnit p0), (12, cL p0), (13, cI x86.1), (18, dc 4 eTUnit zTUnit p1), (19, cL p1), (20, cI x119.2.1)] [(7, va (eTUnit v89)), (1001, ar 1 eI zI x119.2.2)] (fun t => aI c124 (aI c124 (aI c124 (aI c124 (t))))) ?_
      change EndsI _ _ _ _ _ _
      refine oo [] [] [(1, dc 4 eTUnit zTUnit p1), (5, ow 1001 1 x119.2.2), (6, cI x86.1), (7, pk 7), (8, cB ((v89.Side == v122.Side) && ((v89.Kind == v122.Kind) && ((v89.At == v122.At) && ((v89.Steps == v122.Steps) && true))))), (11, dc 4 eTUnit zTUnit p0), (12, cL p0), (13, cI x86.1), (18, dc 4 eTUnit zTUnit p1), (19, cL p1), (20, cI (W (x119.2.1 + 1)))] [(7, va (eTUnit v89)), (1001, ar 1 eI zI x119.2.2)] id ?_
      cases H
      exact And.intro rfl rfl
    ·refine jf c121 ?_
     refine tl [] [(1, dc 4 eTUnit zTUnit p1), (5, ow 1001 1 x119.2.2), (6, cI x86.1), (8, cB x119.1), (11, dc 4 eTUnit zTUnit p0), (12, cL p0), (13, cI x86.1)] [(1001, ar 1 eI zI x119.2.2)] id ?_
     refine ends_exit ?_
     cases H
     exact And.intro (by simp) (And.intro rfl rfl)
   ·clear h126
    intro e s q
    obtain ⟨rfl, rfl⟩ := q
    change EndsI _ _ _ _ _ _
    refine so [] [] [(1, dc 4 eTUnit zTUnit p1), (5, ow 1001 1 y125.2), (6, cI x86.1), (11, dc 4 eTUnit zTUnit p0), (12, cL p0), (13, cI x86.1), (32, cB (!y125.1))] [(1001, ar 1 eI zI y125.2)] id ?_
    rcases ofCond H with ⟨c127, H⟩ | ⟨c127, H⟩
    ·refine it c127 ?_
     obtain ⟨g128, H⟩ := ofIf H
     refine oo [fh eI zI ([x86.1] : List Int), fh eI zI (y125.2 ++ ([x86.1] : List Int))] [] [(1, dc 4 eTUnit zTUnit p1), (5, ow 36 1 (y125.2 ++ ([x86.1] : List Int))), (11, dc 4 eTUnit zTUnit p0), (12, cL p0), (13, cI x86.1)] [(36, ar 1 eI zI (y125.2 ++ ([x86.1] : List Int)))] (fun t => aI (rfl : ([x86.1] : List Int).length = 1) (aI (fF_lit eI zI ([x86.1] : List Int)) (aI (And.intro (Nat.le_refl y125.2.length) (And.intro (@List.length_append _ y125.2 ([x86.1] : List Int)) g128)) (aI (fF_appL eI zI y125.2 ([x86.1] : List Int)) (aI (fF_appR eI zI y125.2 ([x86.1] : List Int)) (t)))))) ?_
     change EndsI _ _ _ _ _ _
     refine oo [] [.ren 36 1001] [(1, dc 4 eTUnit zTUnit p1), (5, ow 1001 1 (y125.2 ++ ([x86.1] : List Int))), (11, dc 4 eTUnit zTUnit p0), (12, cL p0), (13, cI (W (x86.1 + 1)))] [(1001, ar 1 eI zI (y125.2 ++ ([x86.1] : List Int)))] id ?_
     cases H
     exact And.intro rfl rfl
    ·refine jf c127 ?_
     refine sk ?_
     refine oo [] [] [(1, dc 4 eTUnit zTUnit p1), (5, ow 1001 1 y125.2), (11, dc 4 eTUnit zTUnit p0), (12, cL p0), (13, cI (W (x86.1 + 1)))] [(1001, ar 1 eI zI y125.2)] id ?_
     cases H
     exact And.intro rfl rfl
  ·refine jf c88 ?_
   refine tl [] [(5, ow 1001 1 x86.2)] [(1001, ar 1 eI zI x86.2)] id ?_
   refine ends_exit ?_
   cases H
   exact And.intro (by simp) (And.intro rfl rfl)
 ·clear h130
  intro e s q
  obtain ⟨rfl, rfl⟩ := q
  change EndsI _ _ _ _ _ _
  refine so [] [] [(4, ow 1001 1 y129)] [(1001, ar 1 eI zI y129)] id ?_
  refine tl [.frz 4] [(4, dc 1 eI zI y129)] [] (aI (Nat.le_refl y129.length)) ?_
  refine ends_ret ?_
  cases H
  exact And.intro (.inl rfl) rfl
def s_NewsOf_ir : S :=
 (sq [o 3 (.box 12 (.t 0)), o 4 (.box 6 (.t 1)), o 5 (.box 6 (.t 2)), o 6 (.mv (.v (.nil))), o 7 (.mv (.v (.nil))), o 8 (.mv (.v (.nil))), o 9 (.mv (.v (.nil))), o 10 (.mv (.v (.bool false)))]
 (.seq (sq [o 11 (.load 12 true (.t 3)), o 12 (.load 6 true (.t 4)), o 13 (.call 80 [.t 11, .t 12]), o 14 (.not (.t 13)), om 15 14, ⟨some 16, .load 12 true (.t 3), some (15, false)⟩, ⟨some 17, .load 6 true (.t 5), some (15, false)⟩, ⟨some 18, .call 80 [.t 16, .t 17], some (15, false)⟩, ⟨some 19, .not (.t 18), some (15, false)⟩, o 20 (.pick (.t 15) (.v (.bool true)) (.t 19)), om 21 20, ⟨some 22, .fad 0 (.t 4), some (21, false)⟩, ⟨some 23, .load 1 false (.t 22), some (21, false)⟩, ⟨some 24, .fad 0 (.t 5), some (21, false)⟩, ⟨some 25, .load 1 false (.t 24), some (21, false)⟩, ⟨some 26, .bin .neq (.t 23) (.t 25), some (21, false)⟩, o 27 (.pick (.t 21) (.v (.bool true)) (.t 26))]
 (.ite (.t 27) (sq [o 6 (.mv (.v (.nil))), o 7 (.mv (.v (.nil))), o 8 (.mv (.v (.nil))), o 9 (.mv (.v (.nil))), o 10 (.mv (.v (.bool false)))]
  .ret)
 .skip))
 (.seq (.draw 25 [o 28 (.fad 3 (.t 5)), o 29 (.load 1 false (.t 28)), o 30 (.fad 3 (.t 4)), o 31 (.load 1 false (.t 30)), o 32 (.call 87 [.t 29, .t 31]), o 33 (.fad 3 (.t 4)), o 34 (.load 1 false (.t 33)), o 35 (.fad 3 (.t 5)), o 36 (.load 1 false (.t 35)), o 37 (.call 87 [.t 34, .t 36]), o 38 (.fad 5 (.t 5)), o 39 (.load 1 false (.t 38)), o 40 (.fad 5 (.t 4)), o 41 (.load 1 false (.t 40)), o 42 (.call 88 [.t 39, .t 41]), o 43 (.fad 5 (.t 4)), o 44 (.load 1 false (.t 43)), o 45 (.fad 5 (.t 5)), o 46 (.load 1 false (.t 45)), o 47 (.call 88 [.t 44, .t 46]), om 6 32, om 7 37, om 8 42, om 9 47, o 10 (.mv (.v (.bool true)))])
 .ret)))
noncomputable def X.s_NewsOf (p0 : TBoard) (p1 : TView) (p2 : TView) : Option ((List Int) × (List Int) × (List Int) × (List Int) × Bool) :=
 ((X.s_yAsked p0 p1).bind fun v8 => (bif (!v8) then some (([] : List Int), ([] : List Int), ([] : List Int), ([] : List Int), false) else ((X.s_yAsked p0 p2).bind fun v11 => (bif (!v11) then some (([] : List Int), ([] : List Int), ([] : List Int), ([] : List Int), false) else (bif (p1.Side != p2.Side) then some (([] : List Int), ([] : List Int), ([] : List Int), ([] : List Int), false) else ((X.s_yOnly p2.Seen p1.Seen).bind fun v15 => ((X.s_yOnly p1.Seen p2.Seen).bind fun v17 => ((X.s_yNew p2.Enemies p1.Enemies).bind fun v19 => ((X.s_yNew p1.Enemies p2.Enemies).bind fun v21 => some (v15, v17, v19, v21, true))))))))))
theorem s_NewsOf_ok (p0 : TBoard) (p1 : TView) (p2 : TView) (r : ((List Int) × (List Int) × (List Int) × (List Int) × Bool)) (H : X.s_NewsOf p0 p1 p2 = some r) : FnOk Tryz.prog gl 31 [.agg (eTBoard p0), .agg (eTView p1), .agg (eTView p2)] (.tup [(false, [dat 1 eI zI r.1]), (false, [dat 1 eI zI r.2.1]), (false, [dat 1 eI zI r.2.2.1]), (false, [dat 1 eI zI r.2.2.2.1]), (false, [.bool r.2.2.2.2])]) := by
 unfold X.s_NewsOf at H
 refine fi Tryz.f31 s_NewsOf_ir [(6, dc 1 eI zI r.1), (7, dc 1 eI zI r.2.1), (8, dc 1 eI zI r.2.2.1), (9, dc 1 eI zI r.2.2.2.1), (10, cB r.2.2.2.2)] [] glL Tryz.func31 ?_
 refine so [] [] [(3, pk 3), (4, pk 4), (5, pk 5)] [(3, va (eTBoard p0)), (4, va (eTView p1)), (5, va (eTView p2))] id ?_
 refine seq_in ?_
 obtain ⟨v8, h9, H⟩ := ofBind H
 rcases ofCond H with ⟨c10, H⟩ | ⟨c10, H⟩
 ·refine so [.res (cB v8), .g true, .g true, .g true, .g true, .g true, .g true, .g true, .g true, .g true, .g true, .g true] [] [(4, pk 4), (5, pk 5), (27, cB true)] [(4, va (eTView p1)), (5, va (eTView p2))] (fun t => aI (s_yAsked_ok p0 p1 v8 h9) (aI c10 (aI c10 (aI c10 (aI c10 (aI c10 (aI (rfl : (true : Bool) = true) (aI (rfl : (true : Bool) = true) (aI (rfl : (true : Bool) = true) (aI (rfl : (true : Bool) = true) (aI (rfl : (true : Bool) = true) (aI (rfl : (true : Bool) = true) (t))))))))))))) ?_
  refine it (rfl : (true : Bool) = true) ?_
  refine so [] [] [(6, .c (.nil)), (7, .c (.nil)), (8, .c (.nil)), (9, .c (.nil)), (10, cB false)] [] id ?_
  refine tl [.nld 6 1 (fF eI zI ([] : List Int)), .nld 7 1 (fF eI zI ([] : List Int)), .nld 8 1 (fF eI zI ([] : List Int)), .nld 9 1 (fF eI zI ([] : List Int))] [(6, .c (dat 1 eI zI ([] : List Int))), (7, .c (dat 1 eI zI ([] : List Int))), (8, .c (dat 1 eI zI ([] : List Int))), (9, .c (dat 1 eI zI ([] : List Int))), (10, cB false)] [] id ?_
  refine ends_ret ?_
  cases H
  exact And.intro (.inl rfl) rfl
 ·obtain ⟨v11, h12, H⟩ := ofBind H
  rcases ofCond H with ⟨c13, H⟩ | ⟨c13, H⟩
  ·refine so [.res (cB v8), .g false, .g false, .g false, .res (cB v11), .g false, .g false, .g true, .g true, .g true, .g true, .g true, .g true] [] [(4, pk 4), (5, pk 5), (27, cB true)] [(4, va (eTView p1)), (5, va (eTView p2))] (fun t => aI (s_yAsked_ok p0 p1 v8 h9) (aI c10 (aI c10 (aI c10 (aI (s_yAsked_ok p0 p2 v11 h12) (aI c10 (aI c10 (aI c13 (aI c13 (aI c13 (aI c13 (aI c13 (aI c13 (t)))))))))))))) ?_
   refine it (rfl : (true : Bool) = true) ?_
   refine so [] [] [(6, .c (.nil)), (7, .c (.nil)), (8, .c (.nil)), (9, .c (.nil)), (10, cB false)] [] id ?_
   refine tl [.nld 6 1 (fF eI zI ([] : List Int)), .nld 7 1 (fF eI zI ([] : List Int)), .nld 8 1 (fF eI zI ([] : List Int)), .nld 9 1 (fF eI zI ([] : List Int))] [(6, .c (dat 1 eI zI ([] : List Int))), (7, .c (dat 1 eI zI ([] : List Int))), (8, .c (dat 1 eI zI ([] : List Int))), (9, .c (dat 1 eI zI ([] : List Int))), (10, cB false)] [] id ?_
   refine ends_ret ?_
   cases H
   exact And.intro (.inl rfl) rfl
  ·refine so [.res (cB v8), .g false, .g false, .g false, .res (cB v11), .g false, .g false, .g false, .g false, .g false, .g false, .g false, .g false] [] [(4, pk 4), (5, pk 5), (27, cB (p1.Side != p2.Side))] [(4, va (eTView p1)), (5, va (eTView p2))] (fun t => aI (s_yAsked_ok p0 p1 v8 h9) (aI c10 (aI c10 (aI c10 (aI (s_yAsked_ok p0 p2 v11 h12) (aI c10 (aI c10 (aI c13 (aI c13 (aI c13 (aI c13 (aI c13 (aI c13 (t)))))))))))))) ?_
   rcases ofCond H with ⟨c14, H⟩ | ⟨c14, H⟩
   ·refine it c14 ?_
    refine so [] [] [(6, .c (.nil)), (7, .c (.nil)), (8, .c (.nil)), (9, .c (.nil)), (10, cB false)] [] id ?_
    refine tl [.nld 6 1 (fF eI zI ([] : List Int)), .nld 7 1 (fF eI zI ([] : List Int)), .nld 8 1 (fF eI zI ([] : List Int)), .nld 9 1 (fF eI zI ([] : List Int))] [(6, .c (dat 1 eI zI ([] : List Int))), (7, .c (dat 1 eI zI ([] : List Int))), (8, .c (dat 1 eI zI ([] : List Int))), (9, .c (dat 1 eI zI ([] : List Int))), (10, cB false)] [] id ?_
    refine ends_ret ?_
    cases H
    exact And.intro (.inl rfl) rfl
   ·refine jf c14 ?_
    refine sk ?_
    obtain ⟨v15, h16, H⟩ := ofBind H
    obtain ⟨v17, h18, H⟩ := ofBind H
    obtain ⟨v19, h20, H⟩ := ofBind H
    obtain ⟨v21, h22, H⟩ := ofBind H
    refine sd [.res (dc 1 eI zI v15), .res (dc 1 eI zI v17), .res (dc 1 eI zI v19), .res (dc 1 eI zI v21)] [] [(6, dc 1 eI zI v15), (7, dc 1 eI zI v17), (8, dc 1 eI zI v19), (9, dc 1 eI zI v21), (10, cB true)] [] (fun t => aI (s_yOnly_ok p2.Seen p1.Seen v15 h16) (aI (rfl : ([] : List Nat) = []) (aI (rfl : ([] : List Nat) = []) (aI (s_yOnly_ok p1.Seen p2.Seen v17 h18) (aI (rfl : ([] : List Nat) = []) (aI (rfl : ([] : List Nat) = []) (aI (s_yNew_ok p2.Enemies p1.Enemies v19 h20) (aI (rfl : ([] : List Nat) = []) (aI (rfl : ([] : List Nat) = []) (aI (s_yNew_ok p1.Enemies p2.Enemies v21 h22) (aI (rfl : ([] : List Nat) = []) (aI (rfl : ([] : List Nat) = []) (t))))))))))))) ?_
    refine ends_ret ?_
    cases H
    exact And.intro (.inl rfl) rfl
def g_IndexFunc_int_ir : S :=
 (sq [o 4 (.mv (iv 0))]
 (.seq (sq [om 6 0, o 7 (.len (.t 6)), o 8 (.mv (iv 0))]
 (.blk 0 (.loop (sq [o 9 (.bin .lss (.t 8) (.t 7))]
   (.seq (.ite (.t 9) .skip
   (.exit 0))
   (.seq (.blk 1 (sq [om 10 8, om 5 10]
    (sq [om 11 1, om 12 0, om 13 5, o 14 (.iad 1 (.t 12) (.t 13)), o 15 (.load 1 false (.t 14)), o 16 (.cald (.t 11) [.t 15])]
    (.ite (.t 16) (sq [om 17 5, om 4 17]
     .ret)
    .skip))))
   (.ops [o 18 (.bin .add (.t 8) (iv 1)), om 8 18])))))))
 (sq [o 4 (.mv (.v (.int .i64 (-1))))]
 .ret)))
noncomputable def X.g_IndexFunc_int (p0 : (List Int)) (f1 : Int → Option Bool) : Option Int :=
 ((loop (fun (x16 : Int) => ((bif (decide (x16 < (p0.length : Int))) then ((at' zI p0 x16).bind fun v19 => ((f1 v19).bind fun v21 => (bif v21 then some (Sum.inr (Sum.inr x16)) else some (Sum.inl (W (x16 + 1)))))) else some (Sum.inr (Sum.inl ()))) : Option (Int ⊕ (Unit ⊕ Int)))) 0).bind fun y24 => (Sum.elim (fun (y26 : Unit) => some (-1)) (fun (y27 : Int) => some y27) y24))
theorem g_IndexFunc_int_c1_ok (p0 : (List Int)) (cf1 : FuncId) (cs1_0 : List AC) (f1 : Int → Option Bool) (hf1 : ∀ q0 r, f1 q0 = some r → FnOk Tryz.prog gl cf1 [cI q0, .c (.pd cs1_0 0)] (cB r)) (r : Int) (H : X.g_IndexFunc_int p0 f1 = some r) : FnOk Tryz.prog gl 134 [.c (dat 1 eI zI p0), .c (.clo cf1 [.pd cs1_0 0])] (cI r) := by
 unfold X.g_IndexFunc_int at H
 refine fi Tryz.f134 g_IndexFunc_int_ir [(4, cI r)] [] glL Tryz.func134 ?_
 refine so [] [] [(0, dc 1 eI zI p0), (1, .c (.clo cf1 [.pd cs1_0 0]))] [] id ?_
 refine seq_in ?_
 refine so [] [] [(0, dc 1 eI zI p0), (1, .c (.clo cf1 [.pd cs1_0 0])), (7, cL p0), (8, cI 0)] [] (fun t => lI p0 (t)) ?_
 refine ends_blk ?_
 obtain ⟨y24, h25, H⟩ := ofBind H
 refine loop_in (fun (x : Int) => lit [(0, dc 1 eI zI p0), (1, .c (.clo cf1 [.pd cs1_0 0])), (7, cL p0), (8, cI x)] []) (orJ (fun (z : Unit) => At (.exit 0) (lit [] [])) (fun (z : Int) => At .ret (lit [(4, cI z)] []))) h25 ?_ ?_
 ·clear H h25
  intro x16 y0 H
  refine so [] [] [(0, dc 1 eI zI p0), (1, .c (.clo cf1 [.pd cs1_0 0])), (7, cL p0), (8, cI x16), (9, cB (decide (x16 < (p0.length : Int))))] [] id ?_
  refine seq_in ?_
  rcases ofCond H with ⟨c18, H⟩ | ⟨c18, H⟩
  ·refine it c18 ?_
   refine sk ?_
   refine seq_in ?_
   refine ends_blk ?_
   refine so [] [] [(0, dc 1 eI zI p0), (1, .c (.clo cf1 [.pd cs1_0 0])), (5, cI x16), (7, cL p0), (8, cI x16)] [] id ?_
   obtain ⟨v19, h20, H⟩ := ofBind H
   obtain ⟨v21, h22, H⟩ := ofBind H
   refine so [.cs (eI v19), .res (cB v21)] [] [(0, dc 1 eI zI p0), (1, .c (.clo cf1 [.pd cs1_0 0])), (5, cI x16), (7, cL p0), (8, cI x16), (16, cB v21)] [] (fun t => (a2 eI h20 (aI (hf1 v19 v21 h22) (t)))) ?_
   rcases ofCond H with ⟨c23, H⟩ | ⟨c23, H⟩
   ·refine it c23 ?_
    refine so [] [] [(4, cI x16)] [] id ?_
    refine ends_ret ?_
    cases H
    exact And.intro (by simp) (And.intro rfl rfl)
   ·refine jf c23 ?_
    refine sk ?_
    refine oo [] [] [(0, dc 1 eI zI p0), (1, .c (.clo cf1 [.pd cs1_0 0])), (7, cL p0), (8, cI (W (x16 + 1)))] [] id ?_
    cases H
    exact And.intro rfl rfl
  ·refine jf c18 ?_
   refine tl [] [] [] id ?_
   refine ends_exit ?_
   cases H
   exact And.intro (by simp) (And.intro rfl rfl)
 ·clear h25
  cases y24 with
  | inl y26 =>
   replace H := ofInl H
   intro e s q
   obtain ⟨rfl, rfl⟩ := q
   change EndsI _ _ _ _ _ _
   refine so [] [] [(4, cI (-1))] [] id ?_
   refine ends_ret ?_
   cases H
   exact And.intro (.inl rfl) rfl
  | inr y27 =>
   replace H := ofInr H
   intro e s q
   obtain ⟨rfl, rfl⟩ := q
   cases H
   exact And.intro (.inl rfl) rfl
def g_ContainsFunc_int_ir : S :=
 (sq [o 4 (.mv (.v (.bool false)))]
 (sq [om 5 0, om 6 1, o 7 (.call 134 [.t 5, .t 6]), o 8 (.bin .geq (.t 7) (iv 0)), om 4 8]
 .ret))
noncomputable def X.g_ContainsFunc_int (p0 : (List Int)) (f1 : Int → Option Bool) : Option Bool :=
 ((X.g_IndexFunc_int p0 f1).bind fun v1 => some (decide (v1 ≥ 0)))
theorem g_ContainsFunc_int_c1_ok (p0 : (List Int)) (cf1 : FuncId) (cs1_0 : List AC) (f1 : Int → Option Bool) (hf1 : ∀ q0 r, f1 q0 = some r → FnOk Tryz.prog gl cf1 [cI q0, .c (.pd cs1_0 0)] (cB r)) (r : Bool) (H : X.g_ContainsFunc_int p0 f1 = some r) : FnOk Tryz.prog gl 70 [.c (dat 1 eI zI p0), .c (.clo cf1 [.pd cs1_0 0])] (cB r) := by
 unfold X.g_ContainsFunc_int at H
 refine fi Tryz.f70 g_ContainsFunc_int_ir [(4, cB r)] [] glL Tryz.func70 ?_
 refine so [] [] [(0, dc 1 eI zI p0), (1, .c (.clo cf1 [.pd cs1_0 0]))] [] id ?_
 obtain ⟨v1, h2, H⟩ := ofBind H
 refine so [.res (cI v1)] [] [(4, cB (decide (v1 ≥ 0)))] [] (aI (g_IndexFunc_int_c1_ok p0 (cf1) (cs1_0) f1 hf1 v1 h2)) ?_
 refine ends_ret ?_
 cases H
 exact And.intro (.inl rfl) rfl
def g_Index_int_ir : S :=
 (sq [o 4 (.mv (iv 0))]
 (.seq (sq [om 6 0, o 7 (.len (.t 6)), o 8 (.mv (iv 0))]
 (.blk 0 (.loop (sq [o 9 (.bin .lss (.t 8) (.t 7))]
   (.seq (.ite (.t 9) .skip
   (.exit 0))
   (.seq (.blk 1 (sq [om 10 8, om 5 10]
    (sq [om 11 1, om 12 0, om 13 5, o 14 (.iad 1 (.t 12) (.t 13)), o 15 (.load 1 false (.t 14)), o 16 (.bin .eql (.t 11) (.t 15))]
    (.ite (.t 16) (sq [om 17 5, om 4 17]
     .ret)
    .skip))))
   (.ops [o 18 (.bin .add (.t 8) (iv 1)), om 8 18])))))))
 (sq [o 4 (.mv (.v (.int .i64 (-1))))]
 .ret)))
noncomputable def X.g_Index_int (p0 : (List Int)) (p1 : Int) : Option Int :=
 ((loop (fun (x12 : Int) => ((bif (decide (x12 < (p0.length : Int))) then ((at' zI p0 x12).bind fun v15 => (bif (p1 == v15) then some (Sum.inr (Sum.inr x12)) else some (Sum.inl (W (x12 + 1))))) else some (Sum.inr (Sum.inl ()))) : Option (Int ⊕ (Unit ⊕ Int)))) 0).bind fun y18 => (Sum.elim (fun (y20 : Unit) => some (-1)) (fun (y21 : Int) => some y21) y18))
theorem g_Index_int_ok (p0 : (List Int)) (p1 : Int) (r : Int) (H : X.g_Index_int p0 p1 = some r) : FnOk Tryz.prog gl 144 [.c (dat 1 eI zI p0), cI p1] (cI r) := by
 unfold X.g_Index_int at H
 refine fi Tryz.f144 g_Index_int_ir [(4, cI r)] [] glL Tryz.func144 ?_
 refine so [] [] [(0, dc 1 eI zI p0), (1, cI p1)] [] id ?_
 refine seq_in ?_
 refine so [] [] [(0, dc 1 eI zI p0), (1, cI p1), (7, cL p0), (8, cI 0)] [] (fun t => lI p0 (t)) ?_
 refine ends_blk ?_
 obtain ⟨y18, h19, H⟩ := ofBind H
 refine loop_in (fun (x : Int) => lit [(0, dc 1 eI zI p0), (1, cI p1), (7, cL p0), (8, cI x)] []) (orJ (fun (z : Unit) => At (.exit 0) (lit [] [])) (fun (z : Int) => At .ret (lit [(4, cI z)] []))) h19 ?_ ?_
 ·clear H h19
  intro x12 y0 H
  refine so [] [] [(0, dc 1 eI zI p0), (1, cI p1), (7, cL p0), (8, cI x12), (9, cB (decide (x12 < (p0.length : Int))))] [] id ?_
  refine seq_in ?_
  rcases ofCond H with ⟨c14, H⟩ | ⟨c14, H⟩
  ·refine it c14 ?_
   refine sk ?_
   refine seq_in ?_
   refine ends_blk ?_
   refine so [] [] [(0, dc 1 eI zI p0), (1, cI p1), (5, cI x12), (7, cL p0), (8, cI x12)] [] id ?_
   obtain ⟨v15, h16, H⟩ := ofBind H
   refine so [.cs (eI v15)] [] [(0, dc 1 eI zI p0), (1, cI p1), (5, cI x12), (7, cL p0), (8, cI x12), (16, cB (p1 == v15))] [] (a2 eI h16) ?_
   rcases ofCond H with ⟨c17, H⟩ | ⟨c17, H⟩
   ·refine it c17 ?_
    refine so [] [] [(4, cI x12)] [] id ?_
    refine ends_ret ?_
    cases H
    exact And.intro (by simp) (And.intro rfl rfl)
   ·refine jf c17 ?_
    refine sk ?_
    refine oo [] [] [(0, dc 1 eI zI p0), (1, cI p1), (7, cL p0), (8, cI (W (x12 + 1)))] [] id ?_
    cases H
    exact And.intro rfl rfl
  ·refine jf c14 ?_
   refine tl [] [] [] id ?_
   refine ends_exit ?_
   cases H
   exact And.intro (by simp) (And.intro rfl rfl)
 ·clear h19
  cases y18 with
  | inl y20 =>
   replace H := ofInl H
   intro e s q
   obtain ⟨rfl, rfl⟩ := q
   change EndsI _ _ _ _ _ _
   refine so [] [] [(4, cI (-1))] [] id ?_
   refine ends_ret ?_
   cases H
   exact And.intro (.inl rfl) rfl
  | inr y21 =>
   replace H := ofInr H
   intro e s q
   obtain ⟨rfl, rfl⟩ := q
   cases H
   exact And.intro (.inl rfl) rfl
def g_Contains_int_ir : S :=
 (sq [o 4 (.mv (.v (.bool false)))]
 (sq [om 5 0, om 6 1, o 7 (.call 144 [.t 5, .t 6]), o 8 (.bin .geq (.t 7) (iv 0)), om 4 8]
 .ret))
noncomputable def X.g_Contains_int (p0 : (List Int)) (p1 : Int) : Option Bool :=
 ((X.g_Index_int p0 p1).bind fun v1 => some (decide (v1 ≥ 0)))
theorem g_Contains_int_ok (p0 : (List Int)) (p1 : Int) (r : Bool) (H : X.g_Contains_int p0 p1 = some r) : FnOk Tryz.prog gl 86 [.c (dat 1 eI zI p0), cI p1] (cB r) := by
 unfold X.g_Contains_int at H
 refine fi Tryz.f86 g_Contains_int_ir [(4, cB r)] [] glL Tryz.func86 ?_
 refine so [] [] [(0, dc 1 eI zI p0), (1, cI p1)] [] id ?_
 obtain ⟨v1, h2, H⟩ := ofBind H
 refine so [.res (cI v1)] [] [(4, cB (decide (v1 ≥ 0)))] [] (aI (g_Index_int_ok p0 p1 v1 h2)) ?_
 refine ends_ret ?_
 cases H
 exact And.intro (.inl rfl) rfl
def i_inRange_ir : S :=
 (sq [o 6 (.mv (.v (.bool false)))]
 (sq [om 7 1, om 8 0, o 9 (.bin .leq (.t 7) (.t 8)), om 10 9, ⟨some 11, .mv (.t 0), some (10, true)⟩, ⟨some 12, .mv (.t 2), some (10, true)⟩, ⟨some 13, .bin .leq (.t 11) (.t 12), some (10, true)⟩, o 14 (.pick (.t 10) (.t 13) (.v (.bool false))), om 6 14]
 .ret))
noncomputable def X.i_inRange (p0 : Int) (p1 : Int) (p2 : Int) : Option Bool :=
 (bif (decide (p1 ≤ p0)) then some (decide (p0 ≤ p2)) else some false)
theorem i_inRange_ok (p0 : Int) (p1 : Int) (p2 : Int) (r : Bool) (H : X.i_inRange p0 p1 p2 = some r) : FnOk Tryz.prog gl 145 [cI p0, cI p1, cI p2] (cB r) := by
 unfold X.i_inRange at H
 refine fi Tryz.f145 i_inRange_ir [(6, cB r)] [] glL Tryz.func145 ?_
 refine so [] [] [(0, cI p0), (1, cI p1), (2, cI p2)] [] id ?_
 rcases ofCond H with ⟨c1, H⟩ | ⟨c1, H⟩
 ·refine so [.g true, .g true, .g true, .g true] [] [(6, cB (decide (p0 ≤ p2)))] [] (fun t => aI c1 (aI c1 (aI c1 (aI c1 (t))))) ?_
  refine ends_ret ?_
  cases H
  exact And.intro (.inl rfl) rfl
 ·refine so [.g false, .g false, .g false, .g false] [] [(6, cB false)] [] (fun t => aI c1 (aI c1 (aI c1 (aI c1 (t))))) ?_
  refine ends_ret ?_
  cases H
  exact And.intro (.inl rfl) rfl
def i_isSide_ir : S :=
 (sq [o 2 (.mv (.v (.bool false)))]
 (sq [om 3 0, o 4 (.call 145 [.t 3, .v (.int .i64 0), .v (.int .i64 1)]), om 2 4]
 .ret))
noncomputable def X.i_isSide (p0 : Int) : Option Bool :=
 ((X.i_inRange p0 0 1).bind fun v1 => some v1)
theorem i_isSide_ok (p0 : Int) (r : Bool) (H : X.i_isSide p0 = some r) : FnOk Tryz.prog gl 132 [cI p0] (cB r) := by
 unfold X.i_isSide at H
 refine fi Tryz.f132 i_isSide_ir [(2, cB r)] [] glL Tryz.func132 ?_
 refine so [] [] [(0, cI p0)] [] id ?_
 obtain ⟨v1, h2, H⟩ := ofBind H
 refine so [.res (cB v1)] [] [(2, cB v1)] [] (aI (i_inRange_ok p0 0 1 v1 h2)) ?_
 refine ends_ret ?_
 cases H
 exact And.intro (.inl rfl) rfl
def i_isWeather_ir : S :=
 (sq [o 2 (.mv (.v (.bool false)))]
 (sq [om 3 0, o 4 (.call 145 [.t 3, .v (.int .i64 0), .v (.int .i64 2)]), om 2 4]
 .ret))
noncomputable def X.i_isWeather (p0 : Int) : Option Bool :=
 ((X.i_inRange p0 0 2).bind fun v1 => some v1)
theorem i_isWeather_ok (p0 : Int) (r : Bool) (H : X.i_isWeather p0 = some r) : FnOk Tryz.prog gl 146 [cI p0] (cB r) := by
 unfold X.i_isWeather at H
 refine fi Tryz.f146 i_isWeather_ir [(2, cB r)] [] glL Tryz.func146 ?_
 refine so [] [] [(0, cI p0)] [] id ?_
 obtain ⟨v1, h2, H⟩ := ofBind H
 refine so [.res (cB v1)] [] [(2, cB v1)] [] (aI (i_inRange_ok p0 0 2 v1 h2)) ?_
 refine ends_ret ?_
 cases H
 exact And.intro (.inl rfl) rfl
def i_increasing_ir : S :=
 (sq [o 2 (.mv (.v (.bool false)))]
 (.seq (sq [o 3 (.mv (iv 1))]
 (.blk 0 (.loop (.seq (sq [om 4 3, om 5 0, o 6 (.len (.t 5)), o 7 (.bin .lss (.t 4) (.t 6))]
   (.ite (.t 7) .skip
   (.exit 0)))
   (.seq (.blk 1 (.seq (.draw 10 [om 10 0, om 11 3, o 12 (.bin .sub (.t 11) (iv 1)), o 13 (.iad 1 (.t 10) (.t 12)), o 14 (.load 1 false (.t 13)), om 15 0, om 16 3, o 17 (.iad 1 (.t 15) (.t 16)), o 18 (.load 1 false (.t 17)), o 19 (.bin .geq (.t 14) (.t 18))])
    (.ite (.t 19) (sq [o 2 (.mv (.v (.bool false)))]
     .ret)
    .skip)))
   (.ops [om 8 3, o 9 (.bin .add (.t 8) (iv 1)), om 3 9]))))))
 (sq [o 2 (.mv (.v (.bool true)))]
 .ret)))
noncomputable def X.i_increasing (p0 : (List Int)) : Option Bool :=
 ((loop (fun (x16 : Int) => ((bif (decide (x16 < (p0.length : Int))) then ((at' zI p0 (W (x16 - 1))).bind fun v19 => ((at' zI p0 x16).bind fun v21 => (bif (decide (v19 ≥ v21)) then some (Sum.inr (Sum.inr false)) else some (Sum.inl (W (x16 + 1)))))) else some (Sum.inr (Sum.inl ()))) : Option (Int ⊕ (Unit ⊕ Bool)))) 1).bind fun y24 => (Sum.elim (fun (y26 : Unit) => some true) (fun (y27 : Bool) => some y27) y24))
theorem i_increasing_ok (p0 : (List Int)) (r : Bool) (H : X.i_increasing p0 = some r) : FnOk Tryz.prog gl 147 [.c (dat 1 eI zI p0)] (cB r) := by
 unfold X.i_increasing at H
 refine fi Tryz.f147 i_increasing_ir [(2, cB r)] [] glL Tryz.func147 ?_
 refine so [] [] [(0, dc 1 eI zI p0)] [] id ?_
 refine seq_in ?_
 refine so [] [] [(0, dc 1 eI zI p0), (3, cI 1)] [] id ?_
 refine ends_blk ?_
 obtain ⟨y24, h25, H⟩ := ofBind H
 refine loop_in (fun (x : Int) => lit [(0, dc 1 eI zI p0), (3, cI x)] []) (orJ (fun (z : Unit) => At (.exit 0) (lit [] [])) (fun (z : Bool) => At .ret (lit [(2, cB z)] []))) h25 ?_ ?_
 ·clear H h25
  intro x16 y0 H
  refine seq_in ?_
  refine so [] [] [(0, dc 1 eI zI p0), (3, cI x16), (7, cB (decide (x16 < (p0.length : Int))))] [] (fun t => lI p0 (t)) ?_
  rcases ofCond H with ⟨c18, H⟩ | ⟨c18, H⟩
  ·refine it c18 ?_
   refine sk ?_
   refine seq_in ?_
   refine ends_blk ?_
   obtain ⟨v19, h20, H⟩ := ofBind H
   obtain ⟨v21, h22, H⟩ := ofBind H
   refine sd [.cs (eI v19), .cs (eI v21)] [] [(0, dc 1 eI zI p0), (3, cI x16), (19, cB (decide (v19 ≥ v21)))] [] (fun t => (a2 eI h20 (aI (rfl : ([] : List Nat) = []) ((a2 eI h22 (aI (rfl : ([] : List Nat) = []) (t))))))) ?_
   rcases ofCond H with ⟨c23, H⟩ | ⟨c23, H⟩
   ·refine it c23 ?_
    refine so [] [] [(2, cB false)] [] id ?_
    refine ends_ret ?_
    cases H
    exact And.intro (by simp) (And.intro rfl rfl)
   ·refine jf c23 ?_
    refine sk ?_
    refine oo [] [] [(0, dc 1 eI zI p0), (3, cI (W (x16 + 1)))] [] id ?_
    cases H
    exact And.intro rfl rfl
  ·refine jf c18 ?_
   refine tl [] [] [] id ?_
   refine ends_exit ?_
   cases H
   exact And.intro (by simp) (And.intro rfl rfl)
 ·clear h25
  cases y24 with
  | inl y26 =>
   replace H := ofInl H
   intro e s q
   obtain ⟨rfl, rfl⟩ := q
   change EndsI _ _ _ _ _ _
   refine so [] [] [(2, cB true)] [] id ?_
   refine ends_ret ?_
   cases H
   exact And.intro (.inl rfl) rfl
  | inr y27 =>
   replace H := ofInr H
   intro e s q
   obtain ⟨rfl, rfl⟩ := q
   cases H
   exact And.intro (.inl rfl) rfl
def i_isIndex_ir : S :=
 (sq [o 4 (.mv (.v (.bool false)))]
 (sq [om 5 0, om 6 1, o 7 (.bin .sub (.t 6) (iv 1)), o 8 (.call 145 [.t 5, .v (.int .i64 0), .t 7]), om 4 8]
 .ret))
noncomputable def X.i_isIndex (p0 : Int) (p1 : Int) : Option Bool :=
 ((X.i_inRange p0 0 (W (p1 - 1))).bind fun v1 => some v1)
theorem i_isIndex_ok (p0 : Int) (p1 : Int) (r : Bool) (H : X.i_isIndex p0 p1 = some r) : FnOk Tryz.prog gl 115 [cI p0, cI p1] (cB r) := by
 unfold X.i_isIndex at H
 refine fi Tryz.f115 i_isIndex_ir [(4, cB r)] [] glL Tryz.func115 ?_
 refine so [] [] [(0, cI p0), (1, cI p1)] [] id ?_
 obtain ⟨v1, h2, H⟩ := ofBind H
 refine so [.res (cB v1)] [] [(4, cB v1)] [] (aI (i_inRange_ok p0 0 (W (p1 - 1)) v1 h2)) ?_
 refine ends_ret ?_
 cases H
 exact And.intro (.inl rfl) rfl
def i_sizeOf_ir : S :=
 (sq [o 1 (.box 12 (.t 0)), o 2 (.mv (iv 0))]
 (sq [o 3 (.fad 7 (.t 1)), o 4 (.fad 2 (.t 3)), o 5 (.load 1 false (.t 4)), o 6 (.len (.t 5)), om 2 6]
 .ret))
noncomputable def X.i_sizeOf (p0 : TBoard) : Option Int :=
 some (p0.Map.Terrain.length : Int)
theorem i_sizeOf_ok (p0 : TBoard) (r : Int) (H : X.i_sizeOf p0 = some r) : FnOk Tryz.prog gl 116 [.agg (eTBoard p0)] (cI r) := by
 unfold X.i_sizeOf at H
 refine fi Tryz.f116 i_sizeOf_ir [(2, cI r)] [] glL Tryz.func116 ?_
 refine so [] [] [(1, pk 1)] [(1, va (eTBoard p0))] id ?_
 refine so [] [] [(2, cL p0.Map.Terrain)] [] (fun t => lI p0.Map.Terrain (t)) ?_
 refine ends_ret ?_
 cases H
 exact And.intro (.inl rfl) rfl
def i_goodView_1_ir : S :=
 (sq [o 3 (.mv (.v (.bool false)))]
 (sq [om 4 0, o 5 (.load 12 true (.t 1)), o 6 (.call 116 [.t 5]), o 7 (.call 115 [.t 4, .t 6]), o 8 (.not (.t 7)), om 3 8]
 .ret))
noncomputable def X.i_goodView_1 (p0 : Int) (p1 : TBoard) : Option Bool :=
 ((X.i_sizeOf p1).bind fun v1 => ((X.i_isIndex p0 v1).bind fun v3 => some (!v3)))
theorem i_goodView_1_ok (p0 : Int) (p1 : TBoard) (r : Bool) (H : X.i_goodView_1 p0 p1 = some r) : FnOk Tryz.prog gl 148 [cI p0, .c (.pd (eTBoard p1) 0)] (cB r) := by
 unfold X.i_goodView_1 at H
 refine fi Tryz.f148 i_goodView_1_ir [(3, cB r)] [] glL Tryz.func148 ?_
 refine so [] [] [(0, cI p0), (1, .c (.pd (eTBoard p1) 0))] [] id ?_
 obtain ⟨v1, h2, H⟩ := ofBind H
 obtain ⟨v3, h4, H⟩ := ofBind H
 refine so [.res (cI v1), .res (cB v3)] [] [(3, cB (!v3))] [] (fun t => aI (i_sizeOf_ok p1 v1 h2) (aI (i_isIndex_ok p0 v1 v3 h4) (t))) ?_
 refine ends_ret ?_
 cases H
 exact And.intro (.inl rfl) rfl
def i_terrainAt_ir : S :=
 (sq [o 2 (.box 12 (.t 0)), o 4 (.alloc [.str [], .nil, .int .i64 0, .int .i64 0, .bool false])]
 (.seq (.draw 11 [o 5 (.fad 0 (.t 2)), o 6 (.fad 0 (.t 5)), o 7 (.load 1 false (.t 6)), o 8 (.fad 7 (.t 2)), o 9 (.fad 2 (.t 8)), o 10 (.load 1 false (.t 9)), om 11 1, o 12 (.iad 1 (.t 10) (.t 11)), o 13 (.load 1 false (.t 12)), o 14 (.iad 5 (.t 7) (.t 13)), o 15 (.load 5 true (.t 14)), ⟨none, .store 5 (.t 4) (.t 15), none⟩])
 .ret))
noncomputable def X.i_terrainAt (p0 : TBoard) (p1 : Int) : Option TTerrain :=
 ((at' zI p0.Map.Terrain p1).bind fun v1 => ((at' zTTerrain p0.Rules.Terrains v1).bind fun v3 => some v3))
theorem i_terrainAt_ok (p0 : TBoard) (p1 : Int) (r : TTerrain) (H : X.i_terrainAt p0 p1 = some r) : FnOk Tryz.prog gl 199 [.agg (eTBoard p0), cI p1] (.agg (eTTerrain r)) := by
 unfold X.i_terrainAt at H
 refine fi Tryz.f199 i_terrainAt_ir [(4, pk 4)] [(4, va (eTTerrain r))] glL Tryz.func199 ?_
 refine so [] [] [(1, cI p1), (2, pk 2), (4, pk 4)] [(2, va (eTBoard p0)), (4, .var [.str [], .nil, .int .i64 0, .int .i64 0, .bool false] false)] id ?_
 obtain ⟨v1, h2, H⟩ := ofBind H
 obtain ⟨v3, h4, H⟩ := ofBind H
 refine sd [.cs (eI v1), .cs (eTTerrain v3)] [] [(4, pk 4)] [(4, va (eTTerrain v3))] (fun t => (a2 eI h2 (aI (rfl : ([] : List Nat) = []) ((a2 eTTerrain h4 (aI (rfl : ([] : List Nat) = []) (t))))))) ?_
 refine ends_ret ?_
 cases H
 exact And.intro (.inl rfl) rfl
def i_enterCost_ir : S :=
 (sq [o 3 (.box 12 (.t 0)), o 6 (.mv (iv 0))]
 (sq [o 7 (.load 12 true (.t 3)), om 8 2, o 9 (.call 199 [.t 7, .t 8]), o 10 (.fld 1 1 false (.t 9)), om 11 1, o 12 (.iad 1 (.t 10) (.t 11)), o 13 (.load 1 false (.t 12)), om 6 13]
 .ret))
noncomputable def X.i_enterCost (p0 : TBoard) (p1 : Int) (p2 : Int) : Option Int :=
 ((X.i_terrainAt p0 p2).bind fun v1 => ((at' zI v1.Cost p1).bind fun v3 => some v3))
theorem i_enterCost_ok (p0 : TBoard) (p1 : Int) (p2 : Int) (r : Int) (H : X.i_enterCost p0 p1 p2 = some r) : FnOk Tryz.prog gl 157 [.agg (eTBoard p0), cI p1, cI p2] (cI r) := by
 unfold X.i_enterCost at H
 refine fi Tryz.f157 i_enterCost_ir [(6, cI r)] [] glL Tryz.func157 ?_
 refine so [] [] [(1, cI p1), (2, cI p2), (3, pk 3)] [(3, va (eTBoard p0))] id ?_
 obtain ⟨v1, h2, H⟩ := ofBind H
 obtain ⟨v3, h4, H⟩ := ofBind H
 refine so [.res (.agg (eTTerrain v1)), .cs (eI v3)] [] [(6, cI v3)] [] (fun t => aI (i_terrainAt_ok p0 p2 v1 h2) ((a2 eI h4 (t)))) ?_
 refine ends_ret ?_
 cases H
 exact And.intro (.inl rfl) rfl
def i_goodUnit_ir : S :=
 (sq [o 2 (.box 12 (.t 0)), o 3 (.box 4 (.t 1)), o 4 (.mv (.v (.bool false)))]
 (.seq (.seq (.draw 28 [o 5 (.fad 0 (.t 3)), o 6 (.load 1 false (.t 5)), o 7 (.call 132 [.t 6]), o 8 (.not (.t 7)), om 9 8, ⟨some 10, .fad 1 (.t 3), some (9, false)⟩, ⟨some 11, .load 1 false (.t 10), some (9, false)⟩, ⟨some 12, .fad 0 (.t 2), some (9, false)⟩, ⟨some 13, .fad 1 (.t 12), some (9, false)⟩, ⟨some 14, .load 1 false (.t 13), some (9, false)⟩, ⟨some 15, .len (.t 14), some (9, false)⟩, ⟨some 16, .call 115 [.t 11, .t 15], some (9, false)⟩, ⟨some 17, .not (.t 16), some (9, false)⟩, o 18 (.pick (.t 9) (.v (.bool true)) (.t 17)), om 19 18, ⟨some 20, .fad 3 (.t 3), some (19, false)⟩, ⟨some 21, .load 1 false (.t 20), some (19, false)⟩, ⟨some 22, .fad 0 (.t 2), some (19, false)⟩, ⟨some 23, .fad 1 (.t 22), some (19, false)⟩, ⟨some 24, .load 1 false (.t 23), some (19, false)⟩, ⟨some 25, .fad 1 (.t 3), some (19, false)⟩, ⟨some 26, .load 1 false (.t 25), some (19, false)⟩, ⟨some 27, .iad 6 (.t 24) (.t 26), some (19, false)⟩, ⟨some 28, .fad 3 (.t 27), some (19, false)⟩, ⟨some 29, .load 1 false (.t 28), some (19, false)⟩, ⟨some 30, .call 145 [.t 21, .v (.int .i64 0), .t 29], some (19, false)⟩, ⟨some 31, .not (.t 30), some (19, false)⟩, o 32 (.pick (.t 19) (.v (.bool true)) (.t 31))])
 (.ite (.t 32) (sq [o 4 (.mv (.v (.bool false)))]
  .ret)
 .skip))
 (.seq (sq [o 33 (.fad 2 (.t 3)), o 34 (.load 1 false (.t 33)), o 35 (.bin .eql (.t 34) (.v (.int .i64 (-1))))]
 (.ite (.t 35) (sq [o 4 (.mv (.v (.bool true)))]
  .ret)
 .skip))
 (.seq (.draw 20 [o 36 (.fad 3 (.t 3)), o 37 (.load 1 false (.t 36)), o 38 (.bin .gtr (.t 37) (iv 0)), om 39 38, ⟨some 40, .fad 2 (.t 3), some (39, true)⟩, ⟨some 41, .load 1 false (.t 40), some (39, true)⟩, ⟨some 42, .load 12 true (.t 2), some (39, true)⟩, ⟨some 43, .call 116 [.t 42], some (39, true)⟩, ⟨some 44, .call 115 [.t 41, .t 43], some (39, true)⟩, o 45 (.pick (.t 39) (.t 44) (.v (.bool false))), om 46 45, ⟨some 47, .load 12 true (.t 2), some (46, true)⟩, ⟨some 48, .fad 1 (.t 3), some (46, true)⟩, ⟨some 49, .load 1 false (.t 48), some (46, true)⟩, ⟨some 50, .fad 2 (.t 3), some (46, true)⟩, ⟨some 51, .load 1 false (.t 50), some (46, true)⟩, ⟨some 52, .call 157 [.t 47, .t 49, .t 51], some (46, true)⟩, ⟨some 53, .bin .neq (.t 52) (iv 0), some (46, true)⟩, o 54 (.pick (.t 46) (.t 53) (.v (.bool false))), om 4 54])
 .ret))))
noncomputable def X.i_goodUnit (p0 : TBoard) (p1 : TUnit) : Option Bool :=
 ((X.i_isSide p1.Side).bind fun v12 => (bif (!v12) then some false else ((X.i_isIndex p1.Kind (p0.Rules.Kinds.length : Int)).bind fun v15 => (bif (!v15) then some false else ((at' zTKind p0.Rules.Kinds p1.Kind).bind fun v18 => ((X.i_inRange p1.Steps 0 v18.Steps).bind fun v20 => (bif (!v20) then some false else (bif (p1.At == (-1)) then some true else (bif (decide (p1.Steps > 0)) then ((X.i_sizeOf p0).bind fun v26 => ((X.i_isIndex p1.At v26).bind fun v28 => (bif v28 then ((X.i_enterCost p0 p1.Kind p1.At).bind fun v31 => some (v31 != 0)) else some false))) else some false)))))))))
theorem i_goodUnit_ok (p0 : TBoard) (p1 : TUnit) (r : Bool) (H : X.i_goodUnit p0 p1 = some r) : FnOk Tryz.prog gl 149 [.agg (eTBoard p0), .agg (eTUnit p1)] (cB r) := by
 unfold X.i_goodUnit at H
 refine fi Tryz.f149 i_goodUnit_ir [(4, cB r)] [] glL Tryz.func149 ?_
 refine so [] [] [(2, pk 2), (3, pk 3)] [(2, va (eTBoard p0)), (3, va (eTUnit p1))] id ?_
 refine seq_in ?_
 obtain ⟨v12, h13, H⟩ := ofBind H
 rcases ofCond H with ⟨c14, H⟩ | ⟨c14, H⟩
 ·refine sd [.res (cB v12), .g true, .g true, .g true, .g true, .g true, .g true, .g true, .g true, .g true, .g true, .g true, .g true, .g true, .g true, .g true, .g true, .g true, .g true, .g true, .g true, .g true, .g true] [] [(2, pk 2), (3, pk 3), (32, cB true)] [(2, va (eTBoard p0)), (3, va (eTUnit p1))] (fun t => aI (i_isSide_ok p1.Side v12 h13) (aI trivial (aI (rfl : ([] : List Nat) = []) (aI c14 (aI c14 (aI c14 (aI c14 (aI c14 (aI c14 (aI c14 (aI c14 (aI c14 (aI (rfl : (true : Bool) = true) (aI (rfl : (true : Bool) = true) (aI (rfl : (true : Bool) = true) (aI (rfl : (true : Bool) = true) (aI (rfl : (true : Bool) = true) (aI (rfl : (true : Bool) = true) (aI (rfl : (true : Bool) = true) (aI (rfl : (true : Bool) = true) (aI (rfl : (true : Bool) = true) (aI (rfl : (true : Bool) = true) (aI (rfl : (true : Bool) = true) (aI (rfl : (true : Bool) = true) (aI (rfl : (true : Bool) = true) (t)))))))))))))))))))))))))) ?_
  refine it (rfl : (true : Bool) = true) ?_
  refine so [] [] [(4, cB false)] [] id ?_
  refine ends_ret ?_
  cases H
  exact And.intro (.inl rfl) rfl
 ·obtain ⟨v15, h16, H⟩ := ofBind H
  rcases ofCond H with ⟨c17, H⟩ | ⟨c17, H⟩
  ·refine sd [.res (cB v12), .g false, .g false, .g false, .g false, .g false, .g false, .g false, .res (cB v15), .g false, .g false, .g true, .g true, .g true, .g true, .g true, .g true, .g true, .g true, .g true, .g true, .g true, .g true, .g true] [] [(2, pk 2), (3, pk 3), (32, cB true)] [(2, va (eTBoard p0)), (3, va (eTUnit p1))] (fun t => aI (i_isSide_ok p1.Side v12 h13) (aI trivial (aI (rfl : ([] : List Nat) = []) (aI c14 (aI c14 (aI c14 (aI c14 (aI c14 (aI c14 (aI c14 (aI (i_isIndex_ok p1.Kind (p0.Rules.Kinds.length : Int) v15 h16) (aI trivial (aI (rfl : ([] : List Nat) = []) (aI c14 (aI c14 (aI c17 (aI c17 (aI c17 (aI c17 (aI c17 (aI c17 (aI c17 (aI c17 (aI c17 (aI c17 (aI c17 (aI c17 (aI c17 (t))))))))))))))))))))))))))))) ?_
   refine it (rfl : (true : Bool) = true) ?_
   refine so [] [] [(4, cB false)] [] id ?_
   refine ends_ret ?_
   cases H
   exact And.intro (.inl rfl) rfl
  ·obtain ⟨v18, h19, H⟩ := ofBind H
   obtain ⟨v20, h21, H⟩ := ofBind H
   refine sd [.res (cB v12), .g false, .g false, .g false, .g false, .g false, .g false, .g false, .res (cB v15), .g false, .g false, .g false, .g false, .g false, .g false, .g false, .g false, .g false, .g false, .cs (eTKind v18), .g false, .g false, .g false, .res (cB v20), .g false, .g false] [] [(2, pk 2), (3, pk 3), (32, cB (!v20))] [(2, va (eTBoard p0)), (3, va (eTUnit p1))] (fun t => aI (i_isSide_ok p1.Side v12 h13) (aI trivial (aI (rfl : ([] : List Nat) = []) (aI c14 (aI c14 (aI c14 (aI c14 (aI c14 (aI c14 (aI c14 (aI (i_isIndex_ok p1.Kind (p0.Rules.Kinds.length : Int) v15 h16) (aI trivial (aI (rfl : ([] : List Nat) = []) (aI c14 (aI c14 (aI c17 (aI c17 (aI c17 (aI c17 (aI c17 (aI c17 (aI c17 (aI c17 ((a2 eTKind h19 (aI c17 (aI c17 (aI (rfl : ([] : List Nat) = []) (aI c17 (aI (i_inRange_ok p1.Steps 0 v18.Steps v20 h21) (aI trivial (aI (rfl : ([] : List Nat) = []) (aI c17 (aI c17 (t))))))))))))))))))))))))))))))))))) ?_
   rcases ofCond H with ⟨c22, H⟩ | ⟨c22, H⟩
   ·refine it c22 ?_
    refine so [] [] [(4, cB false)] [] id ?_
    refine ends_ret ?_
    cases H
    exact And.intro (.inl rfl) rfl
   ·refine jf c22 ?_
    refine sk ?_
    refine seq_in ?_
    refine so [] [] [(2, pk 2), (3, pk 3), (35, cB (p1.At == (-1)))] [(2, va (eTBoard p0)), (3, va (eTUnit p1))] id ?_
    rcases ofCond H with ⟨c24, H⟩ | ⟨c24, H⟩
    ·refine it c24 ?_
     refine so [] [] [(4, cB true)] [] id ?_
     refine ends_ret ?_
     cases H
     exact And.intro (.inl rfl) rfl
    ·refine jf c24 ?_
     refine sk ?_
     rcases ofCond H with ⟨c25, H⟩ | ⟨c25, H⟩
     ·obtain ⟨v26, h27, H⟩ := ofBind H
      obtain ⟨v28, h29, H⟩ := ofBind H
      rcases ofCond H with ⟨c30, H⟩ | ⟨c30, H⟩
      ·obtain ⟨v31, h32, H⟩ := ofBind H
       refine sd [.g true, .g true, .g true, .g true, .res (cI v26), .g true, .res (cB v28), .g true, .g true, .g true, .g true, .g true, .g true, .g true, .res (cI v31), .g true, .g true] [] [(4, cB (v31 != 0))] [] (fun t => aI c25 (aI c25 (aI c25 (aI c25 (aI (i_sizeOf_ok p0 v26 h27) (aI trivial (aI (rfl : ([] : List Nat) = []) (aI c25 (aI (i_isIndex_ok p1.At v26 v28 h29) (aI trivial (aI (rfl : ([] : List Nat) = []) (aI c25 (aI c30 (aI c30 (aI c30 (aI c30 (aI c30 (aI c30 (aI (i_enterCost_ok p0 p1.Kind p1.At v31 h32) (aI trivial (aI (rfl : ([] : List Nat) = []) (aI c30 (aI c30 (t)))))))))))))))))))))))) ?_
       refine ends_ret ?_
       cases H
       exact And.intro (.inl rfl) rfl
      ·refine sd [.g true, .g true, .g true, .g true, .res (cI v26), .g true, .res (cB v28), .g true, .g false, .g false, .g false, .g false, .g false, .g false, .g false, .g false] [] [(4, cB false)] [] (fun t => aI c25 (aI c25 (aI c25 (aI c25 (aI (i_sizeOf_ok p0 v26 h27) (aI trivial (aI (rfl : ([] : List Nat) = []) (aI c25 (aI (i_isIndex_ok p1.At v26 v28 h29) (aI trivial (aI (rfl : ([] : List Nat) = []) (aI c25 (aI c30 (aI c30 (aI c30 (aI c30 (aI c30 (aI c30 (aI c30 (aI c30 (t))))))))))))))))))))) ?_
       refine ends_ret ?_
       cases H
       exact And.intro (.inl rfl) rfl
     ·refine sd [.g false, .g false, .g false, .g false, .g false, .g false, .g false, .g false, .g false, .g false, .g false, .g false, .g false, .g false] [] [(4, cB false)] [] (fun t => aI c25 (aI c25 (aI c25 (aI c25 (aI c25 (aI c25 (aI (rfl : (false : Bool) = false) (aI (rfl : (false : Bool) = false) (aI (rfl : (false : Bool) = false) (aI (rfl : (false : Bool) = false) (aI (rfl : (false : Bool) = false) (aI (rfl : (false : Bool) = false) (aI (rfl : (false : Bool) = false) (aI (rfl : (false : Bool) = false) (t))))))))))))))) ?_
      refine ends_ret ?_
      cases H
      exact And.intro (.inl rfl) rfl
def g_IsSortedFunc_Unit_ir : S :=
 (sq [o 4 (.mv (.v (.bool false)))]
 (.seq (sq [om 6 0, o 7 (.len (.t 6)), o 8 (.bin .sub (.t 7) (iv 1)), om 5 8]
 (.blk 0 (.loop (.seq (sq [om 9 5, o 10 (.bin .gtr (.t 9) (iv 0))]
   (.ite (.t 10) .skip
   (.exit 0)))
   (.seq (.blk 1 (.seq (.draw 12 [om 13 1, om 14 0, om 15 5, o 16 (.iad 4 (.t 14) (.t 15)), o 17 (.load 4 true (.t 16)), om 18 0, om 19 5, o 20 (.bin .sub (.t 19) (iv 1)), o 21 (.iad 4 (.t 18) (.t 20)), o 22 (.load 4 true (.t 21)), o 23 (.cald (.t 13) [.t 17, .t 22]), o 24 (.bin .lss (.t 23) (iv 0))])
    (.ite (.t 24) (sq [o 4 (.mv (.v (.bool false)))]
     .ret)
    .skip)))
   (.ops [om 11 5, o 12 (.bin .sub (.t 11) (iv 1)), om 5 12]))))))
 (sq [o 4 (.mv (.v (.bool true)))]
 .ret)))
noncomputable def X.g_IsSortedFunc_Unit (p0 : (List TUnit)) (f1 : TUnit → TUnit → Option Int) : Option Bool :=
 ((loop (fun (x20 : Int) => ((bif (decide (x20 > 0)) then ((at' zTUnit p0 x20).bind fun v23 => ((at' zTUnit p0 (W (x20 - 1))).bind fun v25 => ((f1 v23 v25).bind fun v27 => (bif (decide (v27 < 0)) then some (Sum.inr (Sum.inr false)) else some (Sum.inl (W (x20 - 1))))))) else some (Sum.inr (Sum.inl ()))) : Option (Int ⊕ (Unit ⊕ Bool)))) (W ((p0.length : Int) - 1))).bind fun y30 => (Sum.elim (fun (y32 : Unit) => some true) (fun (y33 : Bool) => some y33) y30))
theorem g_IsSortedFunc_Unit_c0_ok (p0 : (List TUnit)) (cf1 : FuncId) (f1 : TUnit → TUnit → Option Int) (hf1 : ∀ q0 q1 r, f1 q0 q1 = some r → FnOk Tryz.prog gl cf1 [.agg (eTUnit q0), .agg (eTUnit q1)] (cI r)) (r : Bool) (H : X.g_IsSortedFunc_Unit p0 f1 = some r) : FnOk Tryz.prog gl 150 [.c (dat 4 eTUnit zTUnit p0), .c (.clo cf1 [])] (cB r) := by
 unfold X.g_IsSortedFunc_Unit at H
 refine fi Tryz.f150 g_IsSortedFunc_Unit_ir [(4, cB r)] [] glL Tryz.func150 ?_
 refine so [] [] [(0, dc 4 eTUnit zTUnit p0), (1, .c (.clo cf1 []))] [] id ?_
 refine seq_in ?_
 refine so [] [] [(0, dc 4 eTUnit zTUnit p0), (1, .c (.clo cf1 [])), (5, cI (W ((p0.length : Int) - 1)))] [] (fun t => lI p0 (t)) ?_
 refine ends_blk ?_
 obtain ⟨y30, h31, H⟩ := ofBind H
 refine loop_in (fun (x : Int) => lit [(0, dc 4 eTUnit zTUnit p0), (1, .c (.clo cf1 [])), (5, cI x)] []) (orJ (fun (z : Unit) => At (.exit 0) (lit [] [])) (fun (z : Bool) => At .ret (lit [(4, cB z)] []))) h31 ?_ ?_
 ·clear H h31
  intro x20 y0 H
  refine seq_in ?_
  refine so [] [] [(0, dc 4 eTUnit zTUnit p0), (1, .c (.clo cf1 [])), (5, cI x20), (10, cB (decide (x20 > 0)))] [] id ?_
  rcases ofCond H with ⟨c22, H⟩ | ⟨c22, H⟩
  ·refine it c22 ?_
   refine sk ?_
   refine seq_in ?_
   refine ends_blk ?_
   obtain ⟨v23, h24, H⟩ := ofBind H
   obtain ⟨v25, h26, H⟩ := ofBind H
   obtain ⟨v27, h28, H⟩ := ofBind H
   refine sd [.cs (eTUnit v23), .cs (eTUnit v25), .res (cI v27)] [] [(0, dc 4 eTUnit zTUnit p0), (1, .c (.clo cf1 [])), (5, cI x20), (24, cB (decide (v27 < 0)))] [] (fun t => (a2 eTUnit h24 (aI (rfl : ([] : List Nat) = []) ((a2 eTUnit h26 (aI (rfl : ([] : List Nat) = []) (aI (hf1 v23 v25 v27 h28) (aI trivial (aI (rfl : ([] : List Nat) = []) (t)))))))))) ?_
   rcases ofCond H with ⟨c29, H⟩ | ⟨c29, H⟩
   ·refine it c29 ?_
    refine so [] [] [(4, cB false)] [] id ?_
    refine ends_ret ?_
    cases H
    exact And.intro (by simp) (And.intro rfl rfl)
   ·refine jf c29 ?_
    refine sk ?_
    refine oo [] [] [(0, dc 4 eTUnit zTUnit p0), (1, .c (.clo cf1 [])), (5, cI (W (x20 - 1)))] [] id ?_
    cases H
    exact And.intro rfl rfl
  ·refine jf c22 ?_
   refine tl [] [] [] id ?_
   refine ends_exit ?_
   cases H
   exact And.intro (by simp) (And.intro rfl rfl)
 ·clear h31
  cases y30 with
  | inl y32 =>
   replace H := ofInl H
   intro e s q
   obtain ⟨rfl, rfl⟩ := q
   change EndsI _ _ _ _ _ _
   refine so [] [] [(4, cB true)] [] id ?_
   refine ends_ret ?_
   cases H
   exact And.intro (.inl rfl) rfl
  | inr y33 =>
   replace H := ofInr H
   intro e s q
   obtain ⟨rfl, rfl⟩ := q
   cases H
   exact And.intro (.inl rfl) rfl
def i_compareUnits_ir : S :=
 (sq [o 2 (.box 4 (.t 0)), o 3 (.box 4 (.t 1)), o 4 (.mv (iv 0))]
 (.seq (sq [o 5 (.fad 2 (.t 2)), o 6 (.load 1 false (.t 5)), o 7 (.fad 2 (.t 3)), o 8 (.load 1 false (.t 7)), o 9 (.bin .neq (.t 6) (.t 8))]
 (.ite (.t 9) (sq [o 10 (.fad 2 (.t 2)), o 11 (.load 1 false (.t 10)), o 12 (.fad 2 (.t 3)), o 13 (.load 1 false (.t 12)), o 14 (.bin .sub (.t 11) (.t 13)), om 4 14]
  .ret)
 .skip))
 (.seq (sq [o 15 (.fad 1 (.t 2)), o 16 (.load 1 false (.t 15)), o 17 (.fad 1 (.t 3)), o 18 (.load 1 false (.t 17)), o 19 (.bin .neq (.t 16) (.t 18))]
 (.ite (.t 19) (sq [o 20 (.fad 1 (.t 2)), o 21 (.load 1 false (.t 20)), o 22 (.fad 1 (.t 3)), o 23 (.load 1 false (.t 22)), o 24 (.bin .sub (.t 21) (.t 23)), om 4 24]
  .ret)
 .skip))
 (sq [o 25 (.fad 3 (.t 2)), o 26 (.load 1 false (.t 25)), o 27 (.fad 3 (.t 3)), o 28 (.load 1 false (.t 27)), o 29 (.bin .sub (.t 26) (.t 28)), om 4 29]
 .ret))))
noncomputable def X.i_compareUnits (p0 : TUnit) (p1 : TUnit) : Option Int :=
 (bif (p0.At != p1.At) then some (W (p0.At - p1.At)) else (bif (p0.Kind != p1.Kind) then some (W (p0.Kind - p1.Kind)) else some (W (p0.Steps - p1.Steps))))
theorem i_compareUnits_ok (p0 : TUnit) (p1 : TUnit) (r : Int) (H : X.i_compareUnits p0 p1 = some r) : FnOk Tryz.prog gl 151 [.agg (eTUnit p0), .agg (eTUnit p1)] (cI r) := by
 unfold X.i_compareUnits at H
 refine fi Tryz.f151 i_compareUnits_ir [(4, cI r)] [] glL Tryz.func151 ?_
 refine so [] [] [(2, pk 2), (3, pk 3)] [(2, va (eTUnit p0)), (3, va (eTUnit p1))] id ?_
 refine seq_in ?_
 refine so [] [] [(2, pk 2), (3, pk 3), (9, cB (p0.At != p1.At))] [(2, va (eTUnit p0)), (3, va (eTUnit p1))] id ?_
 rcases ofCond H with ⟨c2, H⟩ | ⟨c2, H⟩
 ·refine it c2 ?_
  refine so [] [] [(4, cI (W (p0.At - p1.At)))] [] id ?_
  refine ends_ret ?_
  cases H
  exact And.intro (.inl rfl) rfl
 ·refine jf c2 ?_
  refine sk ?_
  refine seq_in ?_
  refine so [] [] [(2, pk 2), (3, pk 3), (19, cB (p0.Kind != p1.Kind))] [(2, va (eTUnit p0)), (3, va (eTUnit p1))] id ?_
  rcases ofCond H with ⟨c3, H⟩ | ⟨c3, H⟩
  ·refine it c3 ?_
   refine so [] [] [(4, cI (W (p0.Kind - p1.Kind)))] [] id ?_
   refine ends_ret ?_
   cases H
   exact And.intro (.inl rfl) rfl
  ·refine jf c3 ?_
   refine sk ?_
   refine so [] [] [(4, cI (W (p0.Steps - p1.Steps)))] [] id ?_
   refine ends_ret ?_
   cases H
   exact And.intro (.inl rfl) rfl
def i_goodView_ir : S :=
 (sq [o 2 (.box 12 (.t 0)), o 3 (.box 6 (.t 1)), o 4 (.mv (.v (.bool false)))]
 (.seq (sq [o 9 (.fad 0 (.t 3)), o 10 (.load 1 false (.t 9)), o 11 (.call 132 [.t 10]), o 12 (.not (.t 11)), om 13 12, ⟨some 14, .fad 1 (.t 3), some (13, false)⟩, ⟨some 15, .load 1 false (.t 14), some (13, false)⟩, ⟨some 16, .fad 0 (.t 2), some (13, false)⟩, ⟨some 17, .fad 6 (.t 16), some (13, false)⟩, ⟨some 18, .load 1 false (.t 17), some (13, false)⟩, ⟨some 19, .call 145 [.t 15, .v (.int .i64 0), .t 18], some (13, false)⟩, ⟨some 20, .not (.t 19), some (13, false)⟩, o 21 (.pick (.t 13) (.v (.bool true)) (.t 20)), om 22 21, ⟨some 23, .fad 2 (.t 3), some (22, false)⟩, ⟨some 24, .load 1 false (.t 23), some (22, false)⟩, ⟨some 25, .call 146 [.t 24], some (22, false)⟩, ⟨some 26, .not (.t 25), some (22, false)⟩, o 27 (.pick (.t 22) (.v (.bool true)) (.t 26)), om 28 27, ⟨some 29, .fad 3 (.t 3), some (28, false)⟩, ⟨some 30, .load 1 false (.t 29), some (28, false)⟩, ⟨some 31, .call 147 [.t 30], some (28, false)⟩, ⟨some 32, .not (.t 31), some (28, false)⟩, o 33 (.pick (.t 28) (.v (.bool true)) (.t 32)), om 34 33, ⟨some 35, .fad 4 (.t 3), some (34, false)⟩, ⟨some 36, .load 1 false (.t 35), some (34, false)⟩, ⟨some 37, .len (.t 36), some (34, false)⟩, ⟨some 38, .bin .gtr (.t 37) (iv 12), some (34, false)⟩, o 39 (.pick (.t 34) (.v (.bool true)) (.t 38)), om 40 39, ⟨some 41, .fad 5 (.t 3), some (40, false)⟩, ⟨some 42, .load 1 false (.t 41), some (40, false)⟩, ⟨some 43, .len (.t 42), some (40, false)⟩, ⟨some 44, .bin .gtr (.t 43) (iv 12), some (40, false)⟩, o 45 (.pick (.t 40) (.v (.bool true)) (.t 44))]
 (.ite (.t 45) (sq [o 4 (.mv (.v (.bool false)))]
  .ret)
 .skip))
 (.seq (sq [o 46 (.fad 3 (.t 3)), o 47 (.load 1 false (.t 46)), o 48 (.clo 148 [.t 2]), o 49 (.call 70 [.t 47, .t 48])]
 (.ite (.t 49) (sq [o 4 (.mv (.v (.bool false)))]
  .ret)
 .skip))
 (.seq (sq [o 50 (.fad 4 (.t 3)), o 51 (.load 1 false (.t 50)), o 52 (.len (.t 51)), o 53 (.mv (iv 0))]
 (.blk 0 (.loop (sq [o 54 (.bin .lss (.t 53) (.t 52))]
   (.seq (.ite (.t 54) .skip
   (.exit 0))
   (.seq (.blk 1 (sq [o 55 (.iad 4 (.t 51) (.t 53)), o 56 (.load 4 true (.t 55)), o 6 (.alloc [.int .i64 0, .int .i64 0, .int .i64 0, .int .i64 0]), ⟨none, .store 4 (.t 6) (.t 56), none⟩]
    (sq [o 57 (.load 12 true (.t 2)), o 58 (.load 4 true (.t 6)), o 59 (.call 149 [.t 57, .t 58]), o 60 (.not (.t 59)), om 61 60, ⟨some 62, .fad 0 (.t 6), some (61, false)⟩, ⟨some 63, .load 1 false (.t 62), some (61, false)⟩, ⟨some 64, .fad 0 (.t 3), some (61, false)⟩, ⟨some 65, .load 1 false (.t 64), some (61, false)⟩, ⟨some 66, .bin .neq (.t 63) (.t 65), some (61, false)⟩, o 67 (.pick (.t 61) (.v (.bool true)) (.t 66))]
    (.ite (.t 67) (sq [o 4 (.mv (.v (.bool false)))]
     .ret)
    .skip))))
   (.ops [o 68 (.bin .add (.t 53) (iv 1)), om 53 68])))))))
 (.seq (sq [o 69 (.fad 5 (.t 3)), o 70 (.load 1 false (.t 69)), o 71 (.len (.t 70)), o 72 (.mv (iv 0))]
 (.blk 2 (.loop (sq [o 73 (.bin .lss (.t 72) (.t 71))]
   (.seq (.ite (.t 73) .skip
   (.exit 2))
   (.seq (.blk 3 (sq [o 74 (.iad 4 (.t 70) (.t 72)), o 75 (.load 4 true (.t 74)), o 8 (.alloc [.int .i64 0, .int .i64 0, .int .i64 0, .int .i64 0]), ⟨none, .store 4 (.t 8) (.t 75), none⟩]
    (sq [o 76 (.load 12 true (.t 2)), o 77 (.load 4 true (.t 8)), o 78 (.call 149 [.t 76, .t 77]), o 79 (.not (.t 78)), om 80 79, ⟨some 81, .fad 0 (.t 8), some (80, false)⟩, ⟨some 82, .load 1 false (.t 81), some (80, false)⟩, ⟨some 83, .fad 0 (.t 3), some (80, false)⟩, ⟨some 84, .load 1 false (.t 83), some (80, false)⟩, ⟨some 85, .bin .eql (.t 82) (.t 84), some (80, false)⟩, o 86 (.pick (.t 80) (.v (.bool true)) (.t 85)), om 87 86, ⟨some 88, .fad 3 (.t 3), some (87, false)⟩, ⟨some 89, .load 1 false (.t 88), some (87, false)⟩, ⟨some 90, .fad 2 (.t 8), some (87, false)⟩, ⟨some 91, .load 1 false (.t 90), some (87, false)⟩, ⟨some 92, .call 86 [.t 89, .t 91], some (87, false)⟩, ⟨some 93, .not (.t 92), some (87, false)⟩, o 94 (.pick (.t 87) (.v (.bool true)) (.t 93))]
    (.ite (.t 94) (sq [o 4 (.mv (.v (.bool false)))]
     .ret)
    .skip))))
   (.ops [o 95 (.bin .add (.t 72) (iv 1)), om 72 95])))))))
 (sq [o 96 (.fad 5 (.t 3)), o 97 (.load 1 false (.t 96)), o 98 (.call 150 [.t 97, .f 151]), om 4 98]
 .ret))))))
noncomputable def X.i_goodView (p0 : TBoard) (p1 : TView) : Option Bool :=
 ((X.i_isSide p1.Side).bind fun v15 => (bif (!v15) then some false else ((X.i_inRange p1.Turn 0 p0.Rules.Turns).bind fun v18 => (bif (!v18) then some false else ((X.i_isWeather p1.Weather).bind fun v21 => (bif (!v21) then some false else ((X.i_increasing p1.Seen).bind fun v24 => (bif (!v24) then some false else (bif (decide ((p1.Own.length : Int) > 12)) then some false else (bif (decide ((p1.Enemies.length : Int) > 12)) then some false else ((X.g_ContainsFunc_int p1.Seen (fun q0 => X.i_goodView_1 q0 p0)).bind fun v32 => (bif v32 then some false else ((loop (fun (x82 : Int) => ((bif (decide (x82 < (p1.Own.length : Int))) then ((at' zTUnit p1.Own x82).bind fun v85 => ((X.i_goodUnit p0 v85).bind fun v87 => (bif (!v87) then some (Sum.inr (Sum.inr false)) else (bif (v85.Side != p1.Side) then some (Sum.inr (Sum.inr false)) else some (Sum.inl (W (x82 + 1))))))) else some (Sum.inr (Sum.inl ()))) : Option (Int ⊕ (Unit ⊕ Bool)))) 0).bind fun y91 => (Sum.elim (fun (y93 : Unit) => ((loop (fun (x118 : Int) => ((bif (decide (x118 < (p1.Enemies.length : Int))) then ((at' zTUnit p1.Enemies x118).bind fun v121 => ((X.i_goodUnit p0 v121).bind fun v123 => (bif (!v123) then some (Sum.inr (Sum.inr false)) else (bif (v121.Side == p1.Side) then some (Sum.inr (Sum.inr false)) else ((X.g_Contains_int p1.Seen v121.At).bind fun v127 => (bif (!v127) then some (Sum.inr (Sum.inr false)) else some (Sum.inl (W (x118 + 1))))))))) else some (Sum.inr (Sum.inl ()))) : Option (Int ⊕ (Unit ⊕ Bool)))) 0).bind fun y130 => (Sum.elim (fun (y132 : Unit) => ((X.g_IsSortedFunc_Unit p1.Enemies (fun q0 q1 => X.i_compareUnits q0 q1)).bind fun v134 => some v134)) (fun (y133 : Bool) => some y133) y130))) (fun (y94 : Bool) => some y94) y91))))))))))))))
theorem i_goodView_ok (p0 : TBoard) (p1 : TView) (r : Bool) (H : X.i_goodView p0 p1 = some r) : FnOk Tryz.prog gl 89 [.agg (eTBoard p0), .agg (eTView p1)] (cB r) := by
 unfold X.i_goodView at H
 refine fi Tryz.f89 i_goodView_ir [(4, cB r)] [] glL Tryz.func89 ?_
 refine so [] [] [(2, pk 2), (3, pk 3)] [(2, va (eTBoard p0)), (3, va (eTView p1))] id ?_
 refine seq_in ?_
 obtain ⟨v15, h16, H⟩ := ofBind H
 rcases ofCond H with ⟨c17, H⟩ | ⟨c17, H⟩
 ·refine so [.res (cB v15), .g true, .g true, .g true, .g true, .g true, .g true, .g true, .g true, .g true, .g true, .g true, .g true, .g true, .g true, .g true, .g true, .g true, .g true, .g true, .g true, .g true, .g true, .g true, .g true, .g true, .g true, .g true, .g true] [] [(2, pk 2), (3, pk 3), (45, cB true)] [(2, va (eTBoard p0)), (3, va (eTView p1))] (fun t => aI (i_isSide_ok p1.Side v15 h16) (aI c17 (aI c17 (aI c17 (aI c17 (aI c17 (aI c17 (aI c17 (aI c17 (aI (rfl : (true : Bool) = true) (aI (rfl : (true : Bool) = true) (aI (rfl : (true : Bool) = true) (aI (rfl : (true : Bool) = true) (aI (rfl : (true : Bool) = true) (aI (rfl : (true : Bool) = true) (aI (rfl : (true : Bool) = true) (aI (rfl : (true : Bool) = true) (aI (rfl : (true : Bool) = true) (aI (rfl : (true : Bool) = true) (aI (rfl : (true : Bool) = true) (aI (rfl : (true : Bool) = true) (aI (rfl : (true : Bool) = true) (aI (rfl : (true : Bool) = true) (aI (rfl : (true : Bool) = true) (aI (rfl : (true : Bool) = true) (aI (rfl : (true : Bool) = true) (aI (rfl : (true : Bool) = true) (aI (rfl : (true : Bool) = true) (aI (rfl : (true : Bool) = true) (t)))))))))))))))))))))))))))))) ?_
  refine it (rfl : (true : Bool) = true) ?_
  refine so [] [] [(4, cB false)] [] id ?_
  refine ends_ret ?_
  cases H
  exact And.intro (.inl rfl) rfl
 ·obtain ⟨v18, h19, H⟩ := ofBind H
  rcases ofCond H with ⟨c20, H⟩ | ⟨c20, H⟩
  ·refine so [.res (cB v15), .g false, .g false, .g false, .g false, .g false, .g false, .res (cB v18), .g false, .g false, .g true, .g true, .g true, .g true, .g true, .g true, .g true, .g true, .g true, .g true, .g true, .g true, .g true, .g true, .g true, .g true, .g true, .g true, .g true, .g true] [] [(2, pk 2), (3, pk 3), (45, cB true)] [(2, va (eTBoard p0)), (3, va (eTView p1))] (fun t => aI (i_isSide_ok p1.Side v15 h16) (aI c17 (aI c17 (aI c17 (aI c17 (aI c17 (aI c17 (aI (i_inRange_ok p1.Turn 0 p0.Rules.Turns v18 h19) (aI c17 (aI c17 (aI c20 (aI c20 (aI c20 (aI c20 (aI c20 (aI (rfl : (true : Bool) = true) (aI (rfl : (true : Bool) = true) (aI (rfl : (true : Bool) = true) (aI (rfl : (true : Bool) = true) (aI (rfl : (true : Bool) = true) (aI (rfl : (true : Bool) = true) (aI (rfl : (true : Bool) = true) (aI (rfl : (true : Bool) = true) (aI (rfl : (true : Bool) = true) (aI (rfl : (true : Bool) = true) (aI (rfl : (true : Bool) = true) (aI (rfl : (true : Bool) = true) (aI (rfl : (true : Bool) = true) (aI (rfl : (true : Bool) = true) (aI (rfl : (true : Bool) = true) (t))))))))))))))))))))))))))))))) ?_
   refine it (rfl : (true : Bool) = true) ?_
   refine so [] [] [(4, cB false)] [] id ?_
   refine ends_ret ?_
   cases H
   exact And.intro (.inl rfl) rfl
  ·obtain ⟨v21, h22, H⟩ := ofBind H
   rcases ofCond H with ⟨c23, H⟩ | ⟨c23, H⟩
   ·refine so [.res (cB v15), .g false, .g false, .g false, .g false, .g false, .g false, .res (cB v18), .g false, .g false, .g false, .g false, .g false, .res (cB v21), .g false, .g false, .g true, .g true, .g true, .g true, .g true, .g true, .g true, .g true, .g true, .g true, .g true, .g true, .g true, .g true, .g true] [] [(2, pk 2), (3, pk 3), (45, cB true)] [(2, va (eTBoard p0)), (3, va (eTView p1))] (fun t => aI (i_isSide_ok p1.Side v15 h16) (aI c17 (aI c17 (aI c17 (aI c17 (aI c17 (aI c17 (aI (i_inRange_ok p1.Turn 0 p0.Rules.Turns v18 h19) (aI c17 (aI c17 (aI c20 (aI c20 (aI c20 (aI (i_isWeather_ok p1.Weather v21 h22) (aI c20 (aI c20 (aI c23 (aI c23 (aI c23 (aI c23 (aI c23 (aI (rfl : (true : Bool) = true) (aI (rfl : (true : Bool) = true) (aI (rfl : (true : Bool) = true) (aI (rfl : (true : Bool) = true) (aI (rfl : (true : Bool) = true) (aI (rfl : (true : Bool) = true) (aI (rfl : (true : Bool) = true) (aI (rfl : (true : Bool) = true) (aI (rfl : (true : Bool) = true) (aI (rfl : (true : Bool) = true) (t)))))))))))))))))))))))))))))))) ?_
    refine it (rfl : (true : Bool) = true) ?_
    refine so [] [] [(4, cB false)] [] id ?_
    refine ends_ret ?_
    cases H
    exact And.intro (.inl rfl) rfl
   ·obtain ⟨v24, h25, H⟩ := ofBind H
    rcases ofCond H with ⟨c26, H⟩ | ⟨c26, H⟩
    ·refine so [.res (cB v15), .g false, .g false, .g false, .g false, .g false, .g false, .res (cB v18), .g false, .g false, .g false, .g false, .g false, .res (cB v21), .g false, .g false, .g false, .g false, .g false, .res (cB v24), .g false, .g false, .g true, .g true, .g true, .g true, .g true, .g true, .g true, .g true, .g true, .g true] [] [(2, pk 2), (3, pk 3), (45, cB true)] [(2, va (eTBoard p0)), (3, va (eTView p1))] (fun t => aI (i_isSide_ok p1.Side v15 h16) (aI c17 (aI c17 (aI c17 (aI c17 (aI c17 (aI c17 (aI (i_inRange_ok p1.Turn 0 p0.Rules.Turns v18 h19) (aI c17 (aI c17 (aI c20 (aI c20 (aI c20 (aI (i_isWeather_ok p1.Weather v21 h22) (aI c20 (aI c20 (aI c23 (aI c23 (aI c23 (aI (i_increasing_ok p1.Seen v24 h25) (aI c23 (aI c23 (aI c26 (aI c26 (aI c26 (aI c26 (aI c26 (aI (rfl : (true : Bool) = true) (aI (rfl : (true : Bool) = true) (aI (rfl : (true : Bool) = true) (aI (rfl : (true : Bool) = true) (aI (rfl : (true : Bool) = true) (t))))))))))))))))))))))))))))))))) ?_
     refine it (rfl : (true : Bool) = true) ?_
     refine so [] [] [(4, cB false)] [] id ?_
     refine ends_ret ?_
     cases H
     exact And.intro (.inl rfl) rfl
    ·rcases ofCond H with ⟨c27, H⟩ | ⟨c27, H⟩
     ·refine so [.res (cB v15), .g false, .g false, .g false, .g false, .g false, .g false, .res (cB v18), .g false, .g false, .g false, .g false, .g false, .res (cB v21), .g false, .g false, .g false, .g false, .g false, .res (cB v24), .g false, .g false, .g false, .g false, .g false, .g false, .g false, .g true, .g true, .g true, .g true, .g true] [] [(2, pk 2), (3, pk 3), (45, cB true)] [(2, va (eTBoard p0)), (3, va (eTView p1))] (fun t => aI (i_isSide_ok p1.Side v15 h16) (aI c17 (aI c17 (aI c17 (aI c17 (aI c17 (aI c17 (aI (i_inRange_ok p1.Turn 0 p0.Rules.Turns v18 h19) (aI c17 (aI c17 (aI c20 (aI c20 (aI c20 (aI (i_isWeather_ok p1.Weather v21 h22) (aI c20 (aI c20 (aI c23 (aI c23 (aI c23 (aI (i_increasing_ok p1.Seen v24 h25) (aI c23 (aI c23 (aI c26 (aI c26 (aI c26 (lI p1.Own (aI c26 (aI c26 (aI c27 (aI c27 (aI c27 (aI c27 (aI c27 (t)))))))))))))))))))))))))))))))))) ?_
      refine it (rfl : (true : Bool) = true) ?_
      refine so [] [] [(4, cB false)] [] id ?_
      refine ends_ret ?_
      cases H
      exact And.intro (.inl rfl) rfl
     ·refine so [.res (cB v15), .g false, .g false, .g false, .g false, .g false, .g false, .res (cB v18), .g false, .g false, .g false, .g false, .g false, .res (cB v21), .g false, .g false, .g false, .g false, .g false, .res (cB v24), .g false, .g false, .g false, .g false, .g false, .g false, .g false, .g false, .g false, .g false, .g false, .g false] [] [(2, pk 2), (3, pk 3), (45, cB (decide ((p1.Enemies.length : Int) > 12)))] [(2, va (eTBoard p0)), (3, va (eTView p1))] (fun t => aI (i_isSide_ok p1.Side v15 h16) (aI c17 (aI c17 (aI c17 (aI c17 (aI c17 (aI c17 (aI (i_inRange_ok p1.Turn 0 p0.Rules.Turns v18 h19) (aI c17 (aI c17 (aI c20 (aI c20 (aI c20 (aI (i_isWeather_ok p1.Weather v21 h22) (aI c20 (aI c20 (aI c23 (aI c23 (aI c23 (aI (i_increasing_ok p1.Seen v24 h25) (aI c23 (aI c23 (aI c26 (aI c26 (aI c26 (lI p1.Own (aI c26 (aI c26 (aI c27 (aI c27 (aI c27 (lI p1.Enemies (aI c27 (aI c27 (t))))))))))))))))))))))))))))))))))) ?_
      rcases ofCond H with ⟨c28, H⟩ | ⟨c28, H⟩
      ·refine it c28 ?_
       refine so [] [] [(4, cB false)] [] id ?_
       refine ends_ret ?_
       cases H
       exact And.intro (.inl rfl) rfl
      ·refine jf c28 ?_
       refine sk ?_
       refine seq_in ?_
       obtain ⟨v32, h33, H⟩ := ofBind H
       refine so [.res (cB v32)] [] [(2, pk 2), (3, pk 3), (49, cB v32)] [(2, va (eTBoard p0)), (3, va (eTView p1))] (aI (g_ContainsFunc_int_c1_ok p1.Seen (148) (eTBoard p0) (fun q0 => X.i_goodView_1 q0 p0) (fun q0 r h => i_goodView_1_ok q0 p0 r h) v32 h33)) ?_
       rcases ofCond H with ⟨c34, H⟩ | ⟨c34, H⟩
       ·refine it c34 ?_
        refine so [] [] [(4, cB false)] [] id ?_
        refine ends_ret ?_
        cases H
        exact And.intro (.inl rfl) rfl
       ·refine jf c34 ?_
        refine sk ?_
        refine seq_in ?_
        refine so [] [] [(2, pk 2), (3, pk 3), (51, dc 4 eTUnit zTUnit p1.Own), (52, cL p1.Own), (53, cI 0)] [(2, va (eTBoard p0)), (3, va (eTView p1))] (fun t => lI p1.Own (t)) ?_
        refine ends_blk ?_
        obtain ⟨y91, h92, H⟩ := ofBind H
        refine loop_in (fun (x : Int) => lit [(2, pk 2), (3, pk 3), (51, dc 4 eTUnit zTUnit p1.Own), (52, cL p1.Own), (53, cI x)] [(2, va (eTBoard p0)), (3, va (eTView p1))]) (orJ (fun (z : Unit) => At (.exit 0) (lit [(2, pk 2), (3, pk 3)] [(2, va (eTBoard p0)), (3, va (eTView p1))])) (fun (z : Bool) => At .ret (lit [(4, cB z)] []))) h92 ?_ ?_
        ·clear H h92
         intro x82 y0 H
         refine so [] [] [(2, pk 2), (3, pk 3), (51, dc 4 eTUnit zTUnit p1.Own), (52, cL p1.Own), (53, cI x82), (54, cB (decide (x82 < (p1.Own.length : Int))))] [(2, va (eTBoard p0)), (3, va (eTView p1))] id ?_
         refine seq_in ?_
         rcases ofCond H with ⟨c84, H⟩ | ⟨c84, H⟩
         ·refine it c84 ?_
          refine sk ?_
          refine seq_in ?_
          refine ends_blk ?_
          obtain ⟨v85, h86, H⟩ := ofBind H
          refine so [.cs (eTUnit v85)] [] [(2, pk 2), (3, pk 3), (6, pk 6), (51, dc 4 eTUnit zTUnit p1.Own), (52, cL p1.Own), (53, cI x82)] [(2, va (eTBoard p0)), (3, va (eTView p1)), (6, va (eTUnit v85))] (a2 eTUnit h86) ?_
          obtain ⟨v87, h88, H⟩ := ofBind H
          rcases ofCond H with ⟨c89, H⟩ | ⟨c89, H⟩
          ·refine so [.res (cB v87), .g true, .g true, .g true, .g true, .g true, .g true] [] [(2, pk 2), (3, pk 3), (51, dc 4 eTUnit zTUnit p1.Own), (52, cL p1.Own), (53, cI x82), (67, cB true)] [(2, va (eTBoard p0)), (3, va (eTView p1))] (fun t => aI (i_goodUnit_ok p0 v85 v87 h88) (aI c89 (aI c89 (aI c89 (aI c89 (aI c89 (aI c89 (t)))))))) ?_
           refine it (rfl : (true : Bool) = true) ?_
           refine so [] [] [(4, cB false)] [] id ?_
           refine ends_ret ?_
           cases H
           exact And.intro (by simp) (And.intro rfl rfl)
          ·refine so [.res (cB v87), .g false, .g false, .g false, .g false, .g false, .g false] [] [(2, pk 2), (3, pk 3), (51, dc 4 eTUnit zTUnit p1.Own), (52, cL p1.Own), (53, cI x82), (67, cB (v85.Side != p1.Side))] [(2, va (eTBoard p0)), (3, va (eTView p1))] (fun t => aI (i_goodUnit_ok p0 v85 v87 h88) (aI c89 (aI c89 (aI c89 (aI c89 (aI c89 (aI c89 (t)))))))) ?_
           rcases ofCond H with ⟨c90, H⟩ | ⟨c90, H⟩
           ·refine it c90 ?_
            refine so [] [] [(4, cB false)] [] id ?_
            refine ends_ret ?_
            cases H
            exact And.intro (by simp) (And.intro rfl rfl)
           ·refine jf c90 ?_
            refine sk ?_
            refine oo [] [] [(2, pk 2), (3, pk 3), (51, dc 4 eTUnit zTUnit p1.Own), (52, cL p1.Own), (53, cI (W (x82 + 1)))] [(2, va (eTBoard p0)), (3, va (eTView p1))] id ?_
            cases H
            exact And.intro rfl rfl
         ·refine jf c84 ?_
          refine tl [] [(2, pk 2), (3, pk 3)] [(2, va (eTBoard p0)), (3, va (eTView p1))] id ?_
          refine ends_exit ?_
          cases H
          exact And.intro (by simp) (And.intro rfl rfl)
        ·clear h92
         cases y91 with
         | inl y93 =>
          replace H := ofInl H
          intro e s q
          obtain ⟨rfl, rfl⟩ := q
          change EndsI _ _ _ _ _ _
          refine seq_in ?_
          refine so [] [] [(2, pk 2), (3, pk 3), (70, dc 4 eTUnit zTUnit p1.Enemies), (71, cL p1.Enemies), (72, cI 0)] [(2, va (eTBoard p0)), (3, va (eTView p1))] (fun t => lI p1.Enemies (t)) ?_
          refine ends_blk ?_
          obtain ⟨y130, h131, H⟩ := ofBind H
          refine loop_in (fun (x : Int) => lit [(2, pk 2), (3, pk 3), (70, dc 4 eTUnit zTUnit p1.Enemies), (71, cL p1.Enemies), (72, cI x)] [(2, va (eTBoard p0)), (3, va (eTView p1))]) (orJ (fun (z : Unit) => At (.exit 2) (lit [(3, pk 3)] [(3, va (eTView p1))])) (fun (z : Bool) => At .ret (lit [(4, cB z)] []))) h131 ?_ ?_
          ·clear H h131
           intro x118 y0 H
           refine so [] [] [(2, pk 2), (3, pk 3), (70, dc 4 eTUnit zTUnit p1.Enemies), (71, cL p1.Enemies), (72, cI x118), (73, cB (decide (x118 < (p1.Enemies.length : Int))))] [(2, va (eTBoard p0)), (3, va (eTView p1))] id ?_
           refine seq_in ?_
           rcases ofCond H with ⟨c120, H⟩ | ⟨c120, H⟩
           ·refine it c120 ?_
            refine sk ?_
            refine seq_in ?_
            refine ends_blk ?_
            obtain ⟨v121, h122, H⟩ := ofBind H
            refine so [.cs (eTUnit v121)] [] [(2, pk 2), (3, pk 3), (8, pk 8), (70, dc 4 eTUnit zTUnit p1.Enemies), (71, cL p1.Enemies), (72, cI x118)] [(2, va (eTBoard p0)), (3, va (eTView p1)), (8, va (eTUnit v121))] (a2 eTUnit h122) ?_
            obtain ⟨v123, h124, H⟩ := ofBind H
            rcases ofCond H with ⟨c125, H⟩ | ⟨c125, H⟩
            ·refine so [.res (cB v123), .g true, .g true, .g true, .g true, .g true, .g true, .g true, .g true, .g true, .g true, .g true, .g true, .g true] [] [(2, pk 2), (3, pk 3), (70, dc 4 eTUnit zTUnit p1.Enemies), (71, cL p1.Enemies), (72, cI x118), (94, cB true)] [(2, va (eTBoard p0)), (3, va (eTView p1))] (fun t => aI (i_goodUnit_ok p0 v121 v123 h124) (aI c125 (aI c125 (aI c125 (aI c125 (aI c125 (aI c125 (aI (rfl : (true : Bool) = true) (aI (rfl : (true : Bool) = true) (aI (rfl : (true : Bool) = true) (aI (rfl : (true : Bool) = true) (aI (rfl : (true : Bool) = true) (aI (rfl : (true : Bool) = true) (aI (rfl : (true : Bool) = true) (t))))))))))))))) ?_
             refine it (rfl : (true : Bool) = true) ?_
             refine so [] [] [(4, cB false)] [] id ?_
             refine ends_ret ?_
             cases H
             exact And.intro (by simp) (And.intro rfl rfl)
            ·rcases ofCond H with ⟨c126, H⟩ | ⟨c126, H⟩
             ·refine so [.res (cB v123), .g false, .g false, .g false, .g false, .g false, .g false, .g true, .g true, .g true, .g true, .g true, .g true, .g true] [] [(2, pk 2), (3, pk 3), (70, dc 4 eTUnit zTUnit p1.Enemies), (71, cL p1.Enemies), (72, cI x118), (94, cB true)] [(2, va (eTBoard p0)), (3, va (eTView p1))] (fun t => aI (i_goodUnit_ok p0 v121 v123 h124) (aI c125 (aI c125 (aI c125 (aI c125 (aI c125 (aI c125 (aI c126 (aI c126 (aI c126 (aI c126 (aI c126 (aI c126 (aI c126 (t))))))))))))))) ?_
              refine it (rfl : (true : Bool) = true) ?_
              refine so [] [] [(4, cB false)] [] id ?_
              refine ends_ret ?_
              cases H
              exact And.intro (by simp) (And.intro rfl rfl)
             ·obtain ⟨v127, h128, H⟩ := ofBind H
              refine so [.res (cB v123), .g false, .g false, .g false, .g false, .g false, .g false, .g false, .g false, .g false, .g false, .g false, .res (cB v127), .g false, .g false] [] [(2, pk 2), (3, pk 3), (70, dc 4 eTUnit zTUnit p1.Enemies), (71, cL p1.Enemies), (72, cI x118), (94, cB (!v127))] [(2, va (eTBoard p0)), (3, va (eTView p1))] (fun t => aI (i_goodUnit_ok p0 v121 v123 h124) (aI c125 (aI c125 (aI c125 (aI c125 (aI c125 (aI c125 (aI c126 (aI c126 (aI c126 (aI c126 (aI c126 (aI (g_Contains_int_ok p1.Seen v121.At v127 h128) (aI c126 (aI c126 (t)))))))))))))))) ?_
              rcases ofCond H with ⟨c129, H⟩ | ⟨c129, H⟩
              ·refine it c129 ?_
               refine so [] [] [(4, cB false)] [] id ?_
               refine ends_ret ?_
               cases H
               exact And.intro (by simp) (And.intro rfl rfl)
              ·refine jf c129 ?_
               refine sk ?_
               refine oo [] [] [(2, pk 2), (3, pk 3), (70, dc 4 eTUnit zTUnit p1.Enemies), (71, cL p1.Enemies), (72, cI (W (x118 + 1)))] [(2, va (eTBoard p0)), (3, va (eTView p1))] id ?_
               cases H
               exact And.intro rfl rfl
           ·refine jf c120 ?_
            refine tl [] [(3, pk 3)] [(3, va (eTView p1))] id ?_
            refine ends_exit ?_
            cases H
            exact And.intro (by simp) (And.intro rfl rfl)
          ·clear h131
           cases y130 with
           | inl y132 =>
            replace H := ofInl H
            intro e s q
            obtain ⟨rfl, rfl⟩ := q
            change EndsI _ _ _ _ _ _
            obtain ⟨v134, h135, H⟩ := ofBind H
            refine so [.res (cB v134)] [] [(4, cB v134)] [] (aI (g_IsSortedFunc_Unit_c0_ok p1.Enemies (151) (fun q0 q1 => X.i_compareUnits q0 q1) (fun q0 q1 r h => i_compareUnits_ok q0 q1 r h) v134 h135)) ?_
            refine ends_ret ?_
            cases H
            exact And.intro (.inl rfl) rfl
           | inr y133 =>
            replace H := ofInr H
            intro e s q
            obtain ⟨rfl, rfl⟩ := q
            cases H
            exact And.intro (.inl rfl) rfl
         | inr y94 =>
          replace H := ofInr H
          intro e s q
          obtain ⟨rfl, rfl⟩ := q
          cases H
          exact And.intro (.inl rfl) rfl
theorem g_IndexFunc_int_c0_ok (p0 : (List Int)) (cf1 : FuncId) (f1 : Int → Option Bool) (hf1 : ∀ q0 r, f1 q0 = some r → FnOk Tryz.prog gl cf1 [cI q0] (cB r)) (r : Int) (H : X.g_IndexFunc_int p0 f1 = some r) : FnOk Tryz.prog gl 134 [.c (dat 1 eI zI p0), .c (.clo cf1 [])] (cI r) := by
 unfold X.g_IndexFunc_int at H
 refine fi Tryz.f134 g_IndexFunc_int_ir [(4, cI r)] [] glL Tryz.func134 ?_
 refine so [] [] [(0, dc 1 eI zI p0), (1, .c (.clo cf1 []))] [] id ?_
 refine seq_in ?_
 refine so [] [] [(0, dc 1 eI zI p0), (1, .c (.clo cf1 [])), (7, cL p0), (8, cI 0)] [] (fun t => lI p0 (t)) ?_
 refine ends_blk ?_
 obtain ⟨y24, h25, H⟩ := ofBind H
 refine loop_in (fun (x : Int) => lit [(0, dc 1 eI zI p0), (1, .c (.clo cf1 [])), (7, cL p0), (8, cI x)] []) (orJ (fun (z : Unit) => At (.exit 0) (lit [] [])) (fun (z : Int) => At .ret (lit [(4, cI z)] []))) h25 ?_ ?_
 ·clear H h25
  intro x16 y0 H
  refine so [] [] [(0, dc 1 eI zI p0), (1, .c (.clo cf1 [])), (7, cL p0), (8, cI x16), (9, cB (decide (x16 < (p0.length : Int))))] [] id ?_
  refine seq_in ?_
  rcases ofCond H with ⟨c18, H⟩ | ⟨c18, H⟩
  ·refine it c18 ?_
   refine sk ?_
   refine seq_in ?_
   refine ends_blk ?_
   refine so [] [] [(0, dc 1 eI zI p0), (1, .c (.clo cf1 [])), (5, cI x16), (7, cL p0), (8, cI x16)] [] id ?_
   obtain ⟨v19, h20, H⟩ := ofBind H
   obtain ⟨v21, h22, H⟩ := ofBind H
   refine so [.cs (eI v19), .res (cB v21)] [] [(0, dc 1 eI zI p0), (1, .c (.clo cf1 [])), (5, cI x16), (7, cL p0), (8, cI x16), (16, cB v21)] [] (fun t => (a2 eI h20 (aI (hf1 v19 v21 h22) (t)))) ?_
   rcases ofCond H with ⟨c23, H⟩ | ⟨c23, H⟩
   ·refine it c23 ?_
    refine so [] [] [(4, cI x16)] [] id ?_
    refine ends_ret ?_
    cases H
    exact And.intro (by simp) (And.intro rfl rfl)
   ·refine jf c23 ?_
    refine sk ?_
    refine oo [] [] [(0, dc 1 eI zI p0), (1, .c (.clo cf1 [])), (7, cL p0), (8, cI (W (x16 + 1)))] [] id ?_
    cases H
    exact And.intro rfl rfl
  ·refine jf c18 ?_
   refine tl [] [] [] id ?_
   refine ends_exit ?_
   cases H
   exact And.intro (by simp) (And.intro rfl rfl)
 ·clear h25
  cases y24 with
  | inl y26 =>
   replace H := ofInl H
   intro e s q
   obtain ⟨rfl, rfl⟩ := q
   change EndsI _ _ _ _ _ _
   refine so [] [] [(4, cI (-1))] [] id ?_
   refine ends_ret ?_
   cases H
   exact And.intro (.inl rfl) rfl
  | inr y27 =>
   replace H := ofInr H
   intro e s q
   obtain ⟨rfl, rfl⟩ := q
   cases H
   exact And.intro (.inl rfl) rfl
theorem g_ContainsFunc_int_c0_ok (p0 : (List Int)) (cf1 : FuncId) (f1 : Int → Option Bool) (hf1 : ∀ q0 r, f1 q0 = some r → FnOk Tryz.prog gl cf1 [cI q0] (cB r)) (r : Bool) (H : X.g_ContainsFunc_int p0 f1 = some r) : FnOk Tryz.prog gl 70 [.c (dat 1 eI zI p0), .c (.clo cf1 [])] (cB r) := by
 unfold X.g_ContainsFunc_int at H
 refine fi Tryz.f70 g_ContainsFunc_int_ir [(4, cB r)] [] glL Tryz.func70 ?_
 refine so [] [] [(0, dc 1 eI zI p0), (1, .c (.clo cf1 []))] [] id ?_
 obtain ⟨v1, h2, H⟩ := ofBind H
 refine so [.res (cI v1)] [] [(4, cB (decide (v1 ≥ 0)))] [] (aI (g_IndexFunc_int_c0_ok p0 (cf1) f1 hf1 v1 h2)) ?_
 refine ends_ret ?_
 cases H
 exact And.intro (.inl rfl) rfl
def i_isName_ir : S :=
 (sq [o 2 (.mv (.v (.bool false)))]
 (.seq (sq [o 3 (.mv (iv 0))]
 (.blk 0 (.loop (.seq (sq [om 4 3, om 5 0, o 6 (.lens (.t 5)), o 7 (.bin .lss (.t 4) (.t 6))]
   (.ite (.t 7) .skip
   (.exit 0)))
   (.seq (.blk 1 (sq [om 10 0, om 11 3, o 12 (.ixs (.t 10) (.t 11)), o 13 (.bin .lss (.t 12) (.v (.int .u8 97))), om 14 13, ⟨some 15, .mv (.t 0), some (14, false)⟩, ⟨some 16, .mv (.t 3), some (14, false)⟩, ⟨some 17, .ixs (.t 15) (.t 16), some (14, false)⟩, ⟨some 18, .bin .gtr (.t 17) (.v (.int .u8 122)), some (14, false)⟩, o 19 (.pick (.t 14) (.v (.bool true)) (.t 18))]
    (.ite (.t 19) (sq [o 2 (.mv (.v (.bool false)))]
     .ret)
    .skip)))
   (.ops [om 8 3, o 9 (.bin .add (.t 8) (iv 1)), om 3 9]))))))
 (sq [om 20 0, o 21 (.lens (.t 20)), o 22 (.call 145 [.t 21, .v (.int .i64 1), .v (.int .i64 8)]), om 2 22]
 .ret)))
noncomputable def X.i_isName (p0 : (List UInt8)) : Option Bool :=
 ((loop (fun (x14 : Int) => ((bif (decide (x14 < (p0.length : Int))) then (if 0 ≤ x14 ∧ x14 < (p0.length : Int) then (bif (decide ((((p0.getD x14.toNat 0).toNat : Nat) : Int) < 97)) then some (Sum.inr (Sum.inr false)) else (if 0 ≤ x14 ∧ x14 < (p0.length : Int) then (bif (decide ((((p0.getD x14.toNat 0).toNat : Nat) : Int) > 122)) then some (Sum.inr (Sum.inr false)) else some (Sum.inl (W (x14 + 1)))) else none)) else none) else some (Sum.inr (Sum.inl ()))) : Option (Int ⊕ (Unit ⊕ Bool)))) 0).bind fun y21 => (Sum.elim (fun (y23 : Unit) => ((X.i_inRange (p0.length : Int) 1 8).bind fun v25 => some v25)) (fun (y24 : Bool) => some y24) y21))
theorem i_isName_ok (p0 : (List UInt8)) (r : Bool) (H : X.i_isName p0 = some r) : FnOk Tryz.prog gl 223 [.c (.str p0)] (cB r) := by
 unfold X.i_isName at H
 refine fi Tryz.f223 i_isName_ir [(2, cB r)] [] glL Tryz.func223 ?_
 refine so [] [] [(0, .c (.str p0))] [] id ?_
 refine seq_in ?_
 refine so [] [] [(0, .c (.str p0)), (3, cI 0)] [] id ?_
 refine ends_blk ?_
 obtain ⟨y21, h22, H⟩ := ofBind H
 refine loop_in (fun (x : Int) => lit [(0, .c (.str p0)), (3, cI x)] []) (orJ (fun (z : Unit) => At (.exit 0) (lit [(0, .c (.str p0))] [])) (fun (z : Bool) => At .ret (lit [(2, cB z)] []))) h22 ?_ ?_
 ·clear H h22
  intro x14 y0 H
  refine seq_in ?_
  refine so [] [] [(0, .c (.str p0)), (3, cI x14), (7, cB (decide (x14 < (p0.length : Int))))] [] id ?_
  rcases ofCond H with ⟨c16, H⟩ | ⟨c16, H⟩
  ·refine it c16 ?_
   refine sk ?_
   refine seq_in ?_
   refine ends_blk ?_
   obtain ⟨g17, H⟩ := ofIf H
   rcases ofCond H with ⟨c18, H⟩ | ⟨c18, H⟩
   ·refine so [.g true, .g true, .g true, .g true, .g true] [] [(0, .c (.str p0)), (3, cI x14), (19, cB true)] [] (fun t => aI g17 (aI c18 (aI c18 (aI c18 (aI c18 (aI c18 (t))))))) ?_
    refine it (rfl : (true : Bool) = true) ?_
    refine so [] [] [(2, cB false)] [] id ?_
    refine ends_ret ?_
    cases H
    exact And.intro (by simp) (And.intro rfl rfl)
   ·obtain ⟨g19, H⟩ := ofIf H
    refine so [.g false, .g false, .g false, .g false, .g false] [] [(0, .c (.str p0)), (3, cI x14), (19, cB (decide ((((p0.getD x14.toNat 0).toNat : Nat) : Int) > 122)))] [] (fun t => aI g17 (aI c18 (aI c18 (aI c18 (aI g19 (aI c18 (aI c18 (t)))))))) ?_
    rcases ofCond H with ⟨c20, H⟩ | ⟨c20, H⟩
    ·refine it c20 ?_
     refine so [] [] [(2, cB false)] [] id ?_
     refine ends_ret ?_
     cases H
     exact And.intro (by simp) (And.intro rfl rfl)
    ·refine jf c20 ?_
     refine sk ?_
     refine oo [] [] [(0, .c (.str p0)), (3, cI (W (x14 + 1)))] [] id ?_
     cases H
     exact And.intro rfl rfl
  ·refine jf c16 ?_
   refine tl [] [(0, .c (.str p0))] [] id ?_
   refine ends_exit ?_
   cases H
   exact And.intro (by simp) (And.intro rfl rfl)
 ·clear h22
  cases y21 with
  | inl y23 =>
   replace H := ofInl H
   intro e s q
   obtain ⟨rfl, rfl⟩ := q
   change EndsI _ _ _ _ _ _
   obtain ⟨v25, h26, H⟩ := ofBind H
   refine so [.res (cB v25)] [] [(2, cB v25)] [] (aI (i_inRange_ok (p0.length : Int) 1 8 v25 h26)) ?_
   refine ends_ret ?_
   cases H
   exact And.intro (.inl rfl) rfl
  | inr y24 =>
   replace H := ofInr H
   intro e s q
   obtain ⟨rfl, rfl⟩ := q
   cases H
   exact And.intro (.inl rfl) rfl
def i_goodTerrain_1_ir : S :=
 (sq [o 2 (.mv (.v (.bool false)))]
 (sq [om 3 0, o 4 (.call 145 [.t 3, .v (.int .i64 0), .v (.int .i64 9)]), o 5 (.not (.t 4)), om 2 5]
 .ret))
noncomputable def X.i_goodTerrain_1 (p0 : Int) : Option Bool :=
 ((X.i_inRange p0 0 9).bind fun v1 => some (!v1))
theorem i_goodTerrain_1_ok (p0 : Int) (r : Bool) (H : X.i_goodTerrain_1 p0 = some r) : FnOk Tryz.prog gl 224 [cI p0] (cB r) := by
 unfold X.i_goodTerrain_1 at H
 refine fi Tryz.f224 i_goodTerrain_1_ir [(2, cB r)] [] glL Tryz.func224 ?_
 refine so [] [] [(0, cI p0)] [] id ?_
 obtain ⟨v1, h2, H⟩ := ofBind H
 refine so [.res (cB v1)] [] [(2, cB (!v1))] [] (aI (i_inRange_ok p0 0 9 v1 h2)) ?_
 refine ends_ret ?_
 cases H
 exact And.intro (.inl rfl) rfl
def i_goodTerrain_ir : S :=
 (sq [o 2 (.box 5 (.t 0)), o 4 (.mv (.v (.bool false)))]
 (.seq (sq [o 5 (.fad 0 (.t 2)), o 6 (.load 1 false (.t 5)), o 7 (.call 223 [.t 6]), o 8 (.not (.t 7)), om 9 8, ⟨some 10, .fad 1 (.t 2), some (9, false)⟩, ⟨some 11, .load 1 false (.t 10), some (9, false)⟩, ⟨some 12, .len (.t 11), some (9, false)⟩, ⟨some 13, .mv (.t 1), some (9, false)⟩, ⟨some 14, .bin .neq (.t 12) (.t 13), some (9, false)⟩, o 15 (.pick (.t 9) (.v (.bool true)) (.t 14)), om 16 15, ⟨some 17, .fad 2 (.t 2), some (16, false)⟩, ⟨some 18, .load 1 false (.t 17), some (16, false)⟩, ⟨some 19, .call 145 [.t 18, .v (.int .i64 (-3)), .v (.int .i64 3)], some (16, false)⟩, ⟨some 20, .not (.t 19), some (16, false)⟩, o 21 (.pick (.t 16) (.v (.bool true)) (.t 20)), om 22 21, ⟨some 23, .fad 3 (.t 2), some (22, false)⟩, ⟨some 24, .load 1 false (.t 23), some (22, false)⟩, ⟨some 25, .call 145 [.t 24, .v (.int .i64 0), .v (.int .i64 3)], some (22, false)⟩, ⟨some 26, .not (.t 25), some (22, false)⟩, o 27 (.pick (.t 22) (.v (.bool true)) (.t 26))]
 (.ite (.t 27) (sq [o 4 (.mv (.v (.bool false)))]
  .ret)
 .skip))
 (sq [o 28 (.fad 1 (.t 2)), o 29 (.load 1 false (.t 28)), o 30 (.call 70 [.t 29, .f 224]), o 31 (.not (.t 30)), om 4 31]
 .ret)))
noncomputable def X.i_goodTerrain (p0 : TTerrain) (p1 : Int) : Option Bool :=
 ((X.i_isName p0.Name).bind fun v1 => (bif (!v1) then some false else (bif ((p0.Cost.length : Int) != p1) then some false else ((X.i_inRange p0.Shift (-3) 3).bind fun v5 => (bif (!v5) then some false else ((X.i_inRange p0.Height 0 3).bind fun v8 => (bif (!v8) then some false else ((X.g_ContainsFunc_int p0.Cost (fun q0 => X.i_goodTerrain_1 q0)).bind fun v11 => some (!v11)))))))))
theorem i_goodTerrain_ok (p0 : TTerrain) (p1 : Int) (r : Bool) (H : X.i_goodTerrain p0 p1 = some r) : FnOk Tryz.prog gl 213 [.agg (eTTerrain p0), cI p1] (cB r) := by
 unfold X.i_goodTerrain at H
 refine fi Tryz.f213 i_goodTerrain_ir [(4, cB r)] [] glL Tryz.func213 ?_
 refine so [] [] [(1, cI p1), (2, pk 2)] [(2, va (eTTerrain p0))] id ?_
 refine seq_in ?_
 obtain ⟨v1, h2, H⟩ := ofBind H
 rcases ofCond H with ⟨c3, H⟩ | ⟨c3, H⟩
 ·refine so [.res (cB v1), .g true, .g true, .g true, .g true, .g true, .g true, .g true, .g true, .g true, .g true, .g true, .g true, .g true, .g true, .g true, .g true] [] [(2, pk 2), (27, cB true)] [(2, va (eTTerrain p0))] (fun t => aI (i_isName_ok p0.Name v1 h2) (aI c3 (aI c3 (aI c3 (aI c3 (aI c3 (aI c3 (aI (rfl : (true : Bool) = true) (aI (rfl : (true : Bool) = true) (aI (rfl : (true : Bool) = true) (aI (rfl : (true : Bool) = true) (aI (rfl : (true : Bool) = true) (aI (rfl : (true : Bool) = true) (aI (rfl : (true : Bool) = true) (aI (rfl : (true : Bool) = true) (aI (rfl : (true : Bool) = true) (aI (rfl : (true : Bool) = true) (t)))))))))))))))))) ?_
  refine it (rfl : (true : Bool) = true) ?_
  refine so [] [] [(4, cB false)] [] id ?_
  refine ends_ret ?_
  cases H
  exact And.intro (.inl rfl) rfl
 ·rcases ofCond H with ⟨c4, H⟩ | ⟨c4, H⟩
  ·refine so [.res (cB v1), .g false, .g false, .g false, .g false, .g false, .g false, .g true, .g true, .g true, .g true, .g true, .g true, .g true, .g true, .g true, .g true] [] [(2, pk 2), (27, cB true)] [(2, va (eTTerrain p0))] (fun t => aI (i_isName_ok p0.Name v1 h2) (aI c3 (aI c3 (aI c3 (lI p0.Cost (aI c3 (aI c3 (aI c3 (aI c4 (aI c4 (aI c4 (aI c4 (aI c4 (aI (rfl : (true : Bool) = true) (aI (rfl : (true : Bool) = true) (aI (rfl : (true : Bool) = true) (aI (rfl : (true : Bool) = true) (aI (rfl : (true : Bool) = true) (t))))))))))))))))))) ?_
   refine it (rfl : (true : Bool) = true) ?_
   refine so [] [] [(4, cB false)] [] id ?_
   refine ends_ret ?_
   cases H
   exact And.intro (.inl rfl) rfl
  ·obtain ⟨v5, h6, H⟩ := ofBind H
   rcases ofCond H with ⟨c7, H⟩ | ⟨c7, H⟩
   ·refine so [.res (cB v1), .g false, .g false, .g false, .g false, .g false, .g false, .g false, .g false, .g false, .res (cB v5), .g false, .g false, .g true, .g true, .g true, .g true, .g true] [] [(2, pk 2), (27, cB true)] [(2, va (eTTerrain p0))] (fun t => aI (i_isName_ok p0.Name v1 h2) (aI c3 (aI c3 (aI c3 (lI p0.Cost (aI c3 (aI c3 (aI c3 (aI c4 (aI c4 (aI c4 (aI (i_inRange_ok p0.Shift (-3) 3 v5 h6) (aI c4 (aI c4 (aI c7 (aI c7 (aI c7 (aI c7 (aI c7 (t)))))))))))))))))))) ?_
    refine it (rfl : (true : Bool) = true) ?_
    refine so [] [] [(4, cB false)] [] id ?_
    refine ends_ret ?_
    cases H
    exact And.intro (.inl rfl) rfl
   ·obtain ⟨v8, h9, H⟩ := ofBind H
    refine so [.res (cB v1), .g false, .g false, .g false, .g false, .g false, .g false, .g false, .g false, .g false, .res (cB v5), .g false, .g false, .g false, .g false, .g false, .res (cB v8), .g false, .g false] [] [(2, pk 2), (27, cB (!v8))] [(2, va (eTTerrain p0))] (fun t => aI (i_isName_ok p0.Name v1 h2) (aI c3 (aI c3 (aI c3 (lI p0.Cost (aI c3 (aI c3 (aI c3 (aI c4 (aI c4 (aI c4 (aI (i_inRange_ok p0.Shift (-3) 3 v5 h6) (aI c4 (aI c4 (aI c7 (aI c7 (aI c7 (aI (i_inRange_ok p0.Height 0 3 v8 h9) (aI c7 (aI c7 (t))))))))))))))))))))) ?_
    rcases ofCond H with ⟨c10, H⟩ | ⟨c10, H⟩
    ·refine it c10 ?_
     refine so [] [] [(4, cB false)] [] id ?_
     refine ends_ret ?_
     cases H
     exact And.intro (.inl rfl) rfl
    ·refine jf c10 ?_
     refine sk ?_
     obtain ⟨v11, h12, H⟩ := ofBind H
     refine so [.res (cB v11)] [] [(4, cB (!v11))] [] (aI (g_ContainsFunc_int_c0_ok p0.Cost (224) (fun q0 => X.i_goodTerrain_1 q0) (fun q0 r h => i_goodTerrain_1_ok q0 r h) v11 h12)) ?_
     refine ends_ret ?_
     cases H
     exact And.intro (.inl rfl) rfl
def g_IndexFunc_Terrain_ir : S :=
 (sq [o 4 (.mv (iv 0))]
 (.seq (sq [om 6 0, o 7 (.len (.t 6)), o 8 (.mv (iv 0))]
 (.blk 0 (.loop (sq [o 9 (.bin .lss (.t 8) (.t 7))]
   (.seq (.ite (.t 9) .skip
   (.exit 0))
   (.seq (.blk 1 (sq [om 10 8, om 5 10]
    (sq [om 11 1, om 12 0, om 13 5, o 14 (.iad 5 (.t 12) (.t 13)), o 15 (.load 5 true (.t 14)), o 16 (.cald (.t 11) [.t 15])]
    (.ite (.t 16) (sq [om 17 5, om 4 17]
     .ret)
    .skip))))
   (.ops [o 18 (.bin .add (.t 8) (iv 1)), om 8 18])))))))
 (sq [o 4 (.mv (.v (.int .i64 (-1))))]
 .ret)))
noncomputable def X.g_IndexFunc_Terrain (p0 : (List TTerrain)) (f1 : TTerrain → Option Bool) : Option Int :=
 ((loop (fun (x16 : Int) => ((bif (decide (x16 < (p0.length : Int))) then ((at' zTTerrain p0 x16).bind fun v19 => ((f1 v19).bind fun v21 => (bif v21 then some (Sum.inr (Sum.inr x16)) else some (Sum.inl (W (x16 + 1)))))) else some (Sum.inr (Sum.inl ()))) : Option (Int ⊕ (Unit ⊕ Int)))) 0).bind fun y24 => (Sum.elim (fun (y26 : Unit) => some (-1)) (fun (y27 : Int) => some y27) y24))
theorem g_IndexFunc_Terrain_c1_ok (p0 : (List TTerrain)) (cf1 : FuncId) (cs1_0 : List AC) (f1 : TTerrain → Option Bool) (hf1 : ∀ q0 r, f1 q0 = some r → FnOk Tryz.prog gl cf1 [.agg (eTTerrain q0), .c (.pd cs1_0 0)] (cB r)) (r : Int) (H : X.g_IndexFunc_Terrain p0 f1 = some r) : FnOk Tryz.prog gl 225 [.c (dat 5 eTTerrain zTTerrain p0), .c (.clo cf1 [.pd cs1_0 0])] (cI r) := by
 unfold X.g_IndexFunc_Terrain at H
 refine fi Tryz.f225 g_IndexFunc_Terrain_ir [(4, cI r)] [] glL Tryz.func225 ?_
 refine so [] [] [(0, dc 5 eTTerrain zTTerrain p0), (1, .c (.clo cf1 [.pd cs1_0 0]))] [] id ?_
 refine seq_in ?_
 refine so [] [] [(0, dc 5 eTTerrain zTTerrain p0), (1, .c (.clo cf1 [.pd cs1_0 0])), (7, cL p0), (8, cI 0)] [] (fun t => lI p0 (t)) ?_
 refine ends_blk ?_
 obtain ⟨y24, h25, H⟩ := ofBind H
 refine loop_in (fun (x : Int) => lit [(0, dc 5 eTTerrain zTTerrain p0), (1, .c (.clo cf1 [.pd cs1_0 0])), (7, cL p0), (8, cI x)] []) (orJ (fun (z : Unit) => At (.exit 0) (lit [] [])) (fun (z : Int) => At .ret (lit [(4, cI z)] []))) h25 ?_ ?_
 ·clear H h25
  intro x16 y0 H
  refine so [] [] [(0, dc 5 eTTerrain zTTerrain p0), (1, .c (.clo cf1 [.pd cs1_0 0])), (7, cL p0), (8, cI x16), (9, cB (decide (x16 < (p0.length : Int))))] [] id ?_
  refine seq_in ?_
  rcases ofCond H with ⟨c18, H⟩ | ⟨c18, H⟩
  ·refine it c18 ?_
   refine sk ?_
   refine seq_in ?_
   refine ends_blk ?_
   refine so [] [] [(0, dc 5 eTTerrain zTTerrain p0), (1, .c (.clo cf1 [.pd cs1_0 0])), (5, cI x16), (7, cL p0), (8, cI x16)] [] id ?_
   obtain ⟨v19, h20, H⟩ := ofBind H
   obtain ⟨v21, h22, H⟩ := ofBind H
   refine so [.cs (eTTerrain v19), .res (cB v21)] [] [(0, dc 5 eTTerrain zTTerrain p0), (1, .c (.clo cf1 [.pd cs1_0 0])), (5, cI x16), (7, cL p0), (8, cI x16), (16, cB v21)] [] (fun t => (a2 eTTerrain h20 (aI (hf1 v19 v21 h22) (t)))) ?_
   rcases ofCond H with ⟨c23, H⟩ | ⟨c23, H⟩
   ·refine it c23 ?_
    refine so [] [] [(4, cI x16)] [] id ?_
    refine ends_ret ?_
    cases H
    exact And.intro (by simp) (And.intro rfl rfl)
   ·refine jf c23 ?_
    refine sk ?_
    refine oo [] [] [(0, dc 5 eTTerrain zTTerrain p0), (1, .c (.clo cf1 [.pd cs1_0 0])), (7, cL p0), (8, cI (W (x16 + 1)))] [] id ?_
    cases H
    exact And.intro rfl rfl
  ·refine jf c18 ?_
   refine tl [] [] [] id ?_
   refine ends_exit ?_
   cases H
   exact And.intro (by simp) (And.intro rfl rfl)
 ·clear h25
  cases y24 with
  | inl y26 =>
   replace H := ofInl H
   intro e s q
   obtain ⟨rfl, rfl⟩ := q
   change EndsI _ _ _ _ _ _
   refine so [] [] [(4, cI (-1))] [] id ?_
   refine ends_ret ?_
   cases H
   exact And.intro (.inl rfl) rfl
  | inr y27 =>
   replace H := ofInr H
   intro e s q
   obtain ⟨rfl, rfl⟩ := q
   cases H
   exact And.intro (.inl rfl) rfl
def i_terrainIndex_1_ir : S :=
 (sq [o 2 (.box 5 (.t 0)), o 3 (.mv (.v (.bool false)))]
 (sq [o 4 (.fad 0 (.t 2)), o 5 (.load 1 false (.t 4)), o 6 (.load 1 false (.t 1)), o 7 (.bin .eql (.t 5) (.t 6)), om 3 7]
 .ret))
noncomputable def X.i_terrainIndex_1 (p0 : TTerrain) (p1 : (List UInt8)) : Option Bool :=
 some (p0.Name == p1)
theorem i_terrainIndex_1_ok (p0 : TTerrain) (p1 : (List UInt8)) (r : Bool) (H : X.i_terrainIndex_1 p0 p1 = some r) : FnOk Tryz.prog gl 226 [.agg (eTTerrain p0), .c (.pd (eS p1) 0)] (cB r) := by
 unfold X.i_terrainIndex_1 at H
 refine fi Tryz.f226 i_terrainIndex_1_ir [(3, cB r)] [] glL Tryz.func226 ?_
 refine so [] [] [(1, .c (.pd (eS p1) 0)), (2, pk 2)] [(2, va (eTTerrain p0))] id ?_
 refine so [] [] [(3, cB (p0.Name == p1))] [] id ?_
 refine ends_ret ?_
 cases H
 exact And.intro (.inl rfl) rfl
def i_terrainIndex_ir : S :=
 (sq [o 3 (.box 1 (.t 1)), o 4 (.mv (iv 0))]
 (sq [om 5 0, o 6 (.clo 226 [.t 3]), o 7 (.call 225 [.t 5, .t 6]), om 4 7]
 .ret))
noncomputable def X.i_terrainIndex (p0 : (List TTerrain)) (p1 : (List UInt8)) : Option Int :=
 ((X.g_IndexFunc_Terrain p0 (fun q0 => X.i_terrainIndex_1 q0 p1)).bind fun v1 => some v1)
theorem i_terrainIndex_ok (p0 : (List TTerrain)) (p1 : (List UInt8)) (r : Int) (H : X.i_terrainIndex p0 p1 = some r) : FnOk Tryz.prog gl 214 [.c (dat 5 eTTerrain zTTerrain p0), .c (.str p1)] (cI r) := by
 unfold X.i_terrainIndex at H
 refine fi Tryz.f214 i_terrainIndex_ir [(4, cI r)] [] glL Tryz.func214 ?_
 refine so [] [] [(0, dc 5 eTTerrain zTTerrain p0), (3, pk 3)] [(3, .var [.str p1] false)] id ?_
 obtain ⟨v1, h2, H⟩ := ofBind H
 refine so [.res (cI v1)] [] [(4, cI v1)] [] (aI (g_IndexFunc_Terrain_c1_ok p0 (226) (eS p1) (fun q0 => X.i_terrainIndex_1 q0 p1) (fun q0 r h => i_terrainIndex_1_ok q0 p1 r h) v1 h2)) ?_
 refine ends_ret ?_
 cases H
 exact And.intro (.inl rfl) rfl
def i_goodKind_ir : S :=
 (sq [o 1 (.box 6 (.t 0)), o 2 (.mv (.v (.bool false)))]
 (sq [o 3 (.fad 0 (.t 1)), o 4 (.load 1 false (.t 3)), o 5 (.call 223 [.t 4]), om 6 5, ⟨some 7, .fad 1 (.t 1), some (6, true)⟩, ⟨some 8, .load 1 false (.t 7), some (6, true)⟩, ⟨some 9, .call 145 [.t 8, .v (.int .i64 1), .v (.int .i64 9)], some (6, true)⟩, o 10 (.pick (.t 6) (.t 9) (.v (.bool false))), om 11 10, ⟨some 12, .fad 2 (.t 1), some (11, true)⟩, ⟨some 13, .load 1 false (.t 12), some (11, true)⟩, ⟨some 14, .call 145 [.t 13, .v (.int .i64 0), .v (.int .i64 9)], some (11, true)⟩, o 15 (.pick (.t 11) (.t 14) (.v (.bool false))), om 16 15, ⟨some 17, .fad 3 (.t 1), some (16, true)⟩, ⟨some 18, .load 1 false (.t 17), some (16, true)⟩, ⟨some 19, .call 145 [.t 18, .v (.int .i64 1), .v (.int .i64 4)], some (16, true)⟩, o 20 (.pick (.t 16) (.t 19) (.v (.bool false))), om 21 20, ⟨some 22, .fad 5 (.t 1), some (21, true)⟩, ⟨some 23, .load 1 false (.t 22), some (21, true)⟩, ⟨some 24, .call 145 [.t 23, .v (.int .i64 0), .v (.int .i64 4)], some (21, true)⟩, o 25 (.pick (.t 21) (.t 24) (.v (.bool false))), om 2 25]
 .ret))
noncomputable def X.i_goodKind (p0 : TKind) : Option Bool :=
 ((X.i_isName p0.Name).bind fun v1 => (bif v1 then ((X.i_inRange p0.Strength 1 9).bind fun v4 => (bif v4 then ((X.i_inRange p0.Moves 0 9).bind fun v7 => (bif v7 then ((X.i_inRange p0.Steps 1 4).bind fun v10 => (bif v10 then ((X.i_inRange p0.View 0 4).bind fun v13 => some v13) else some false)) else some false)) else some false)) else some false))
theorem i_goodKind_ok (p0 : TKind) (r : Bool) (H : X.i_goodKind p0 = some r) : FnOk Tryz.prog gl 215 [.agg (eTKind p0)] (cB r) := by
 unfold X.i_goodKind at H
 refine fi Tryz.f215 i_goodKind_ir [(2, cB r)] [] glL Tryz.func215 ?_
 refine so [] [] [(1, pk 1)] [(1, va (eTKind p0))] id ?_
 obtain ⟨v1, h2, H⟩ := ofBind H
 rcases ofCond H with ⟨c3, H⟩ | ⟨c3, H⟩
 ·obtain ⟨v4, h5, H⟩ := ofBind H
  rcases ofCond H with ⟨c6, H⟩ | ⟨c6, H⟩
  ·obtain ⟨v7, h8, H⟩ := ofBind H
   rcases ofCond H with ⟨c9, H⟩ | ⟨c9, H⟩
   ·obtain ⟨v10, h11, H⟩ := ofBind H
    rcases ofCond H with ⟨c12, H⟩ | ⟨c12, H⟩
    ·obtain ⟨v13, h14, H⟩ := ofBind H
     refine so [.res (cB v1), .g true, .g true, .g true, .res (cB v4), .g true, .g true, .g true, .g true, .res (cB v7), .g true, .g true, .g true, .g true, .res (cB v10), .g true, .g true, .g true, .g true, .res (cB v13), .g true] [] [(2, cB v13)] [] (fun t => aI (i_isName_ok p0.Name v1 h2) (aI c3 (aI c3 (aI c3 (aI (i_inRange_ok p0.Strength 1 9 v4 h5) (aI c3 (aI c6 (aI c6 (aI c6 (aI (i_inRange_ok p0.Moves 0 9 v7 h8) (aI c6 (aI c9 (aI c9 (aI c9 (aI (i_inRange_ok p0.Steps 1 4 v10 h11) (aI c9 (aI c12 (aI c12 (aI c12 (aI (i_inRange_ok p0.View 0 4 v13 h14) (aI c12 (t)))))))))))))))))))))) ?_
     refine ends_ret ?_
     cases H
     exact And.intro (.inl rfl) rfl
    ·refine so [.res (cB v1), .g true, .g true, .g true, .res (cB v4), .g true, .g true, .g true, .g true, .res (cB v7), .g true, .g true, .g true, .g true, .res (cB v10), .g true, .g false, .g false, .g false, .g false] [] [(2, cB false)] [] (fun t => aI (i_isName_ok p0.Name v1 h2) (aI c3 (aI c3 (aI c3 (aI (i_inRange_ok p0.Strength 1 9 v4 h5) (aI c3 (aI c6 (aI c6 (aI c6 (aI (i_inRange_ok p0.Moves 0 9 v7 h8) (aI c6 (aI c9 (aI c9 (aI c9 (aI (i_inRange_ok p0.Steps 1 4 v10 h11) (aI c9 (aI c12 (aI c12 (aI c12 (aI c12 (t))))))))))))))))))))) ?_
     refine ends_ret ?_
     cases H
     exact And.intro (.inl rfl) rfl
   ·refine so [.res (cB v1), .g true, .g true, .g true, .res (cB v4), .g true, .g true, .g true, .g true, .res (cB v7), .g true, .g false, .g false, .g false, .g false, .g false, .g false, .g false, .g false] [] [(2, cB false)] [] (fun t => aI (i_isName_ok p0.Name v1 h2) (aI c3 (aI c3 (aI c3 (aI (i_inRange_ok p0.Strength 1 9 v4 h5) (aI c3 (aI c6 (aI c6 (aI c6 (aI (i_inRange_ok p0.Moves 0 9 v7 h8) (aI c6 (aI c9 (aI c9 (aI c9 (aI c9 (aI (rfl : (false : Bool) = false) (aI (rfl : (false : Bool) = false) (aI (rfl : (false : Bool) = false) (aI (rfl : (false : Bool) = false) (t)))))))))))))))))))) ?_
    refine ends_ret ?_
    cases H
    exact And.intro (.inl rfl) rfl
  ·refine so [.res (cB v1), .g true, .g true, .g true, .res (cB v4), .g true, .g false, .g false, .g false, .g false, .g false, .g false, .g false, .g false, .g false, .g false, .g false, .g false] [] [(2, cB false)] [] (fun t => aI (i_isName_ok p0.Name v1 h2) (aI c3 (aI c3 (aI c3 (aI (i_inRange_ok p0.Strength 1 9 v4 h5) (aI c3 (aI c6 (aI c6 (aI c6 (aI c6 (aI (rfl : (false : Bool) = false) (aI (rfl : (false : Bool) = false) (aI (rfl : (false : Bool) = false) (aI (rfl : (false : Bool) = false) (aI (rfl : (false : Bool) = false) (aI (rfl : (false : Bool) = false) (aI (rfl : (false : Bool) = false) (aI (rfl : (false : Bool) = false) (t))))))))))))))))))) ?_
   refine ends_ret ?_
   cases H
   exact And.intro (.inl rfl) rfl
 ·refine so [.res (cB v1), .g false, .g false, .g false, .g false, .g false, .g false, .g false, .g false, .g false, .g false, .g false, .g false, .g false, .g false, .g false, .g false] [] [(2, cB false)] [] (fun t => aI (i_isName_ok p0.Name v1 h2) (aI c3 (aI c3 (aI c3 (aI c3 (aI (rfl : (false : Bool) = false) (aI (rfl : (false : Bool) = false) (aI (rfl : (false : Bool) = false) (aI (rfl : (false : Bool) = false) (aI (rfl : (false : Bool) = false) (aI (rfl : (false : Bool) = false) (aI (rfl : (false : Bool) = false) (aI (rfl : (false : Bool) = false) (aI (rfl : (false : Bool) = false) (aI (rfl : (false : Bool) = false) (aI (rfl : (false : Bool) = false) (aI (rfl : (false : Bool) = false) (t)))))))))))))))))) ?_
  refine ends_ret ?_
  cases H
  exact And.intro (.inl rfl) rfl
def g_IndexFunc_Kind_ir : S :=
 (sq [o 4 (.mv (iv 0))]
 (.seq (sq [om 6 0, o 7 (.len (.t 6)), o 8 (.mv (iv 0))]
 (.blk 0 (.loop (sq [o 9 (.bin .lss (.t 8) (.t 7))]
   (.seq (.ite (.t 9) .skip
   (.exit 0))
   (.seq (.blk 1 (sq [om 10 8, om 5 10]
    (sq [om 11 1, om 12 0, om 13 5, o 14 (.iad 6 (.t 12) (.t 13)), o 15 (.load 6 true (.t 14)), o 16 (.cald (.t 11) [.t 15])]
    (.ite (.t 16) (sq [om 17 5, om 4 17]
     .ret)
    .skip))))
   (.ops [o 18 (.bin .add (.t 8) (iv 1)), om 8 18])))))))
 (sq [o 4 (.mv (.v (.int .i64 (-1))))]
 .ret)))
noncomputable def X.g_IndexFunc_Kind (p0 : (List TKind)) (f1 : TKind → Option Bool) : Option Int :=
 ((loop (fun (x16 : Int) => ((bif (decide (x16 < (p0.length : Int))) then ((at' zTKind p0 x16).bind fun v19 => ((f1 v19).bind fun v21 => (bif v21 then some (Sum.inr (Sum.inr x16)) else some (Sum.inl (W (x16 + 1)))))) else some (Sum.inr (Sum.inl ()))) : Option (Int ⊕ (Unit ⊕ Int)))) 0).bind fun y24 => (Sum.elim (fun (y26 : Unit) => some (-1)) (fun (y27 : Int) => some y27) y24))
theorem g_IndexFunc_Kind_c1_ok (p0 : (List TKind)) (cf1 : FuncId) (cs1_0 : List AC) (f1 : TKind → Option Bool) (hf1 : ∀ q0 r, f1 q0 = some r → FnOk Tryz.prog gl cf1 [.agg (eTKind q0), .c (.pd cs1_0 0)] (cB r)) (r : Int) (H : X.g_IndexFunc_Kind p0 f1 = some r) : FnOk Tryz.prog gl 227 [.c (dat 6 eTKind zTKind p0), .c (.clo cf1 [.pd cs1_0 0])] (cI r) := by
 unfold X.g_IndexFunc_Kind at H
 refine fi Tryz.f227 g_IndexFunc_Kind_ir [(4, cI r)] [] glL Tryz.func227 ?_
 refine so [] [] [(0, dc 6 eTKind zTKind p0), (1, .c (.clo cf1 [.pd cs1_0 0]))] [] id ?_
 refine seq_in ?_
 refine so [] [] [(0, dc 6 eTKind zTKind p0), (1, .c (.clo cf1 [.pd cs1_0 0])), (7, cL p0), (8, cI 0)] [] (fun t => lI p0 (t)) ?_
 refine ends_blk ?_
 obtain ⟨y24, h25, H⟩ := ofBind H
 refine loop_in (fun (x : Int) => lit [(0, dc 6 eTKind zTKind p0), (1, .c (.clo cf1 [.pd cs1_0 0])), (7, cL p0), (8, cI x)] []) (orJ (fun (z : Unit) => At (.exit 0) (lit [] [])) (fun (z : Int) => At .ret (lit [(4, cI z)] []))) h25 ?_ ?_
 ·clear H h25
  intro x16 y0 H
  refine so [] [] [(0, dc 6 eTKind zTKind p0), (1, .c (.clo cf1 [.pd cs1_0 0])), (7, cL p0), (8, cI x16), (9, cB (decide (x16 < (p0.length : Int))))] [] id ?_
  refine seq_in ?_
  rcases ofCond H with ⟨c18, H⟩ | ⟨c18, H⟩
  ·refine it c18 ?_
   refine sk ?_
   refine seq_in ?_
   refine ends_blk ?_
   refine so [] [] [(0, dc 6 eTKind zTKind p0), (1, .c (.clo cf1 [.pd cs1_0 0])), (5, cI x16), (7, cL p0), (8, cI x16)] [] id ?_
   obtain ⟨v19, h20, H⟩ := ofBind H
   obtain ⟨v21, h22, H⟩ := ofBind H
   refine so [.cs (eTKind v19), .res (cB v21)] [] [(0, dc 6 eTKind zTKind p0), (1, .c (.clo cf1 [.pd cs1_0 0])), (5, cI x16), (7, cL p0), (8, cI x16), (16, cB v21)] [] (fun t => (a2 eTKind h20 (aI (hf1 v19 v21 h22) (t)))) ?_
   rcases ofCond H with ⟨c23, H⟩ | ⟨c23, H⟩
   ·refine it c23 ?_
    refine so [] [] [(4, cI x16)] [] id ?_
    refine ends_ret ?_
    cases H
    exact And.intro (by simp) (And.intro rfl rfl)
   ·refine jf c23 ?_
    refine sk ?_
    refine oo [] [] [(0, dc 6 eTKind zTKind p0), (1, .c (.clo cf1 [.pd cs1_0 0])), (7, cL p0), (8, cI (W (x16 + 1)))] [] id ?_
    cases H
    exact And.intro rfl rfl
  ·refine jf c18 ?_
   refine tl [] [] [] id ?_
   refine ends_exit ?_
   cases H
   exact And.intro (by simp) (And.intro rfl rfl)
 ·clear h25
  cases y24 with
  | inl y26 =>
   replace H := ofInl H
   intro e s q
   obtain ⟨rfl, rfl⟩ := q
   change EndsI _ _ _ _ _ _
   refine so [] [] [(4, cI (-1))] [] id ?_
   refine ends_ret ?_
   cases H
   exact And.intro (.inl rfl) rfl
  | inr y27 =>
   replace H := ofInr H
   intro e s q
   obtain ⟨rfl, rfl⟩ := q
   cases H
   exact And.intro (.inl rfl) rfl
def i_kindIndex_1_ir : S :=
 (sq [o 2 (.box 6 (.t 0)), o 3 (.mv (.v (.bool false)))]
 (sq [o 4 (.fad 0 (.t 2)), o 5 (.load 1 false (.t 4)), o 6 (.load 1 false (.t 1)), o 7 (.bin .eql (.t 5) (.t 6)), om 3 7]
 .ret))
noncomputable def X.i_kindIndex_1 (p0 : TKind) (p1 : (List UInt8)) : Option Bool :=
 some (p0.Name == p1)
theorem i_kindIndex_1_ok (p0 : TKind) (p1 : (List UInt8)) (r : Bool) (H : X.i_kindIndex_1 p0 p1 = some r) : FnOk Tryz.prog gl 228 [.agg (eTKind p0), .c (.pd (eS p1) 0)] (cB r) := by
 unfold X.i_kindIndex_1 at H
 refine fi Tryz.f228 i_kindIndex_1_ir [(3, cB r)] [] glL Tryz.func228 ?_
 refine so [] [] [(1, .c (.pd (eS p1) 0)), (2, pk 2)] [(2, va (eTKind p0))] id ?_
 refine so [] [] [(3, cB (p0.Name == p1))] [] id ?_
 refine ends_ret ?_
 cases H
 exact And.intro (.inl rfl) rfl
def i_kindIndex_ir : S :=
 (sq [o 3 (.box 1 (.t 1)), o 4 (.mv (iv 0))]
 (sq [om 5 0, o 6 (.clo 228 [.t 3]), o 7 (.call 227 [.t 5, .t 6]), om 4 7]
 .ret))
noncomputable def X.i_kindIndex (p0 : (List TKind)) (p1 : (List UInt8)) : Option Int :=
 ((X.g_IndexFunc_Kind p0 (fun q0 => X.i_kindIndex_1 q0 p1)).bind fun v1 => some v1)
theorem i_kindIndex_ok (p0 : (List TKind)) (p1 : (List UInt8)) (r : Int) (H : X.i_kindIndex p0 p1 = some r) : FnOk Tryz.prog gl 216 [.c (dat 6 eTKind zTKind p0), .c (.str p1)] (cI r) := by
 unfold X.i_kindIndex at H
 refine fi Tryz.f216 i_kindIndex_ir [(4, cI r)] [] glL Tryz.func216 ?_
 refine so [] [] [(0, dc 6 eTKind zTKind p0), (3, pk 3)] [(3, .var [.str p1] false)] id ?_
 obtain ⟨v1, h2, H⟩ := ofBind H
 refine so [.res (cI v1)] [] [(4, cI v1)] [] (aI (g_IndexFunc_Kind_c1_ok p0 (228) (eS p1) (fun q0 => X.i_kindIndex_1 q0 p1) (fun q0 r h => i_kindIndex_1_ok q0 p1 r h) v1 h2)) ?_
 refine ends_ret ?_
 cases H
 exact And.intro (.inl rfl) rfl
def i_IsRules_ir : S :=
 (sq [o 1 (.box 7 (.t 0)), o 2 (.mv (.v (.bool false)))]
 (.seq (sq [o 7 (.fad 0 (.t 1)), o 8 (.load 1 false (.t 7)), o 9 (.len (.t 8)), o 10 (.call 145 [.t 9, .v (.int .i64 1), .v (.int .i64 6)]), o 11 (.not (.t 10)), om 12 11, ⟨some 13, .fad 1 (.t 1), some (12, false)⟩, ⟨some 14, .load 1 false (.t 13), some (12, false)⟩, ⟨some 15, .len (.t 14), some (12, false)⟩, ⟨some 16, .call 145 [.t 15, .v (.int .i64 1), .v (.int .i64 4)], some (12, false)⟩, ⟨some 17, .not (.t 16), some (12, false)⟩, o 18 (.pick (.t 12) (.v (.bool true)) (.t 17))]
 (.ite (.t 18) (sq [o 2 (.mv (.v (.bool false)))]
  .ret)
 .skip))
 (.seq (sq [o 19 (.fad 0 (.t 1)), o 20 (.load 1 false (.t 19)), o 21 (.len (.t 20)), o 22 (.mv (iv 0))]
 (.blk 0 (.loop (sq [o 23 (.bin .lss (.t 22) (.t 21))]
   (.seq (.ite (.t 23) .skip
   (.exit 0))
   (.seq (.blk 1 (sq [om 24 22, o 25 (.iad 5 (.t 20) (.t 22)), o 26 (.load 5 true (.t 25)), o 4 (.alloc [.str [], .nil, .int .i64 0, .int .i64 0, .bool false]), om 3 24, ⟨none, .store 5 (.t 4) (.t 26), none⟩]
    (sq [o 27 (.load 5 true (.t 4)), o 28 (.fad 1 (.t 1)), o 29 (.load 1 false (.t 28)), o 30 (.len (.t 29)), o 31 (.call 213 [.t 27, .t 30]), o 32 (.not (.t 31)), om 33 32, ⟨some 34, .fad 0 (.t 1), some (33, false)⟩, ⟨some 35, .load 1 false (.t 34), some (33, false)⟩, ⟨some 36, .fad 0 (.t 4), some (33, false)⟩, ⟨some 37, .load 1 false (.t 36), some (33, false)⟩, ⟨some 38, .call 214 [.t 35, .t 37], some (33, false)⟩, ⟨some 39, .mv (.t 3), some (33, false)⟩, ⟨some 40, .bin .neq (.t 38) (.t 39), some (33, false)⟩, o 41 (.pick (.t 33) (.v (.bool true)) (.t 40))]
    (.ite (.t 41) (sq [o 2 (.mv (.v (.bool false)))]
     .ret)
    .skip))))
   (.ops [o 42 (.bin .add (.t 22) (iv 1)), om 22 42])))))))
 (.seq (sq [o 43 (.fad 1 (.t 1)), o 44 (.load 1 false (.t 43)), o 45 (.len (.t 44)), o 46 (.mv (iv 0))]
 (.blk 2 (.loop (sq [o 47 (.bin .lss (.t 46) (.t 45))]
   (.seq (.ite (.t 47) .skip
   (.exit 2))
   (.seq (.blk 3 (sq [om 48 46, o 49 (.iad 6 (.t 44) (.t 46)), o 50 (.load 6 true (.t 49)), o 6 (.alloc [.str [], .int .i64 0, .int .i64 0, .int .i64 0, .bool false, .int .i64 0]), om 5 48, ⟨none, .store 6 (.t 6) (.t 50), none⟩]
    (sq [o 51 (.load 6 true (.t 6)), o 52 (.call 215 [.t 51]), o 53 (.not (.t 52)), om 54 53, ⟨some 55, .fad 1 (.t 1), some (54, false)⟩, ⟨some 56, .load 1 false (.t 55), some (54, false)⟩, ⟨some 57, .fad 0 (.t 6), some (54, false)⟩, ⟨some 58, .load 1 false (.t 57), some (54, false)⟩, ⟨some 59, .call 216 [.t 56, .t 58], some (54, false)⟩, ⟨some 60, .mv (.t 5), some (54, false)⟩, ⟨some 61, .bin .neq (.t 59) (.t 60), some (54, false)⟩, o 62 (.pick (.t 54) (.v (.bool true)) (.t 61))]
    (.ite (.t 62) (sq [o 2 (.mv (.v (.bool false)))]
     .ret)
    .skip))))
   (.ops [o 63 (.bin .add (.t 46) (iv 1)), om 46 63])))))))
 (sq [o 64 (.fad 2 (.t 1)), o 65 (.load 1 false (.t 64)), o 66 (.call 145 [.t 65, .v (.int .i64 1), .v (.int .i64 4)]), om 67 66, ⟨some 68, .fad 3 (.t 1), some (67, true)⟩, ⟨some 69, .load 1 false (.t 68), some (67, true)⟩, ⟨some 70, .call 145 [.t 69, .v (.int .i64 0), .v (.int .i64 9)], some (67, true)⟩, o 71 (.pick (.t 67) (.t 70) (.v (.bool false))), om 72 71, ⟨some 73, .fad 4 (.t 1), some (72, true)⟩, ⟨some 74, .load 1 false (.t 73), some (72, true)⟩, ⟨some 75, .call 145 [.t 74, .v (.int .i64 1), .v (.int .i64 9)], some (72, true)⟩, o 76 (.pick (.t 72) (.t 75) (.v (.bool false))), om 77 76, ⟨some 78, .fad 5 (.t 1), some (77, true)⟩, ⟨some 79, .load 1 false (.t 78), some (77, true)⟩, ⟨some 80, .call 145 [.t 79, .v (.int .i64 0), .v (.int .i64 20)], some (77, true)⟩, o 81 (.pick (.t 77) (.t 80) (.v (.bool false))), om 82 81, ⟨some 83, .fad 6 (.t 1), some (82, true)⟩, ⟨some 84, .load 1 false (.t 83), some (82, true)⟩, ⟨some 85, .call 145 [.t 84, .v (.int .i64 1), .v (.int .i64 30)], some (82, true)⟩, o 86 (.pick (.t 82) (.t 85) (.v (.bool false))), om 2 86]
 .ret)))))
noncomputable def X.i_IsRules (p0 : TRules) : Option Bool :=
 ((X.i_inRange (p0.Terrains.length : Int) 1 6).bind fun v7 => (bif (!v7) then some false else ((X.i_inRange (p0.Kinds.length : Int) 1 4).bind fun v10 => (bif (!v10) then some false else ((loop (fun (x70 : Int) => ((bif (decide (x70 < (p0.Terrains.length : Int))) then ((at' zTTerrain p0.Terrains x70).bind fun v73 => ((X.i_goodTerrain v73 (p0.Kinds.length : Int)).bind fun v75 => (bif (!v75) then some (Sum.inr (Sum.inr false)) else ((X.i_terrainIndex p0.Terrains v73.Name).bind fun v78 => (bif (v78 != x70) then some (Sum.inr (Sum.inr false)) else some (Sum.inl (W (x70 + 1)))))))) else some (Sum.inr (Sum.inl ()))) : Option (Int ⊕ (Unit ⊕ Bool)))) 0).bind fun y81 => (Sum.elim (fun (y83 : Unit) => ((loop (fun (x142 : Int) => ((bif (decide (x142 < (p0.Kinds.length : Int))) then ((at' zTKind p0.Kinds x142).bind fun v145 => ((X.i_goodKind v145).bind fun v147 => (bif (!v147) then some (Sum.inr (Sum.inr false)) else ((X.i_kindIndex p0.Kinds v145.Name).bind fun v150 => (bif (v150 != x142) then some (Sum.inr (Sum.inr false)) else some (Sum.inl (W (x142 + 1)))))))) else some (Sum.inr (Sum.inl ()))) : Option (Int ⊕ (Unit ⊕ Bool)))) 0).bind fun y153 => (Sum.elim (fun (y155 : Unit) => ((X.i_inRange p0.Stack 1 4).bind fun v157 => (bif v157 then ((X.i_inRange p0.River 0 9).bind fun v160 => (bif v160 then ((X.i_inRange p0.Road 1 9).bind fun v163 => (bif v163 then ((X.i_inRange p0.Supply 0 20).bind fun v166 => (bif v166 then ((X.i_inRange p0.Turns 1 30).bind fun v169 => some v169) else some false)) else some false)) else some false)) else some false))) (fun (y156 : Bool) => some y156) y153))) (fun (y84 : Bool) => some y84) y81))))))
theorem i_IsRules_ok (p0 : TRules) (r : Bool) (H : X.i_IsRules p0 = some r) : FnOk Tryz.prog gl 193 [.agg (eTRules p0)] (cB r) := by
 unfold X.i_IsRules at H
 refine fi Tryz.f193 i_IsRules_ir [(2, cB r)] [] glL Tryz.func193 ?_
 refine so [] [] [(1, pk 1)] [(1, va (eTRules p0))] id ?_
 refine seq_in ?_
 obtain ⟨v7, h8, H⟩ := ofBind H
 rcases ofCond H with ⟨c9, H⟩ | ⟨c9, H⟩
 ·refine so [.res (cB v7), .g true, .g true, .g true, .g true, .g true, .g true] [] [(1, pk 1), (18, cB true)] [(1, va (eTRules p0))] (fun t => lI p0.Terrains (aI (i_inRange_ok (p0.Terrains.length : Int) 1 6 v7 h8) (aI c9 (aI c9 (aI c9 (aI c9 (aI c9 (aI c9 (t))))))))) ?_
  refine it (rfl : (true : Bool) = true) ?_
  refine so [] [] [(2, cB false)] [] id ?_
  refine ends_ret ?_
  cases H
  exact And.intro (.inl rfl) rfl
 ·obtain ⟨v10, h11, H⟩ := ofBind H
  refine so [.res (cB v7), .g false, .g false, .g false, .g false, .res (cB v10), .g false, .g false] [] [(1, pk 1), (18, cB (!v10))] [(1, va (eTRules p0))] (fun t => lI p0.Terrains (aI (i_inRange_ok (p0.Terrains.length : Int) 1 6 v7 h8) (aI c9 (aI c9 (aI c9 (lI p0.Kinds (aI c9 (aI (i_inRange_ok (p0.Kinds.length : Int) 1 4 v10 h11) (aI c9 (aI c9 (t))))))))))) ?_
  rcases ofCond H with ⟨c12, H⟩ | ⟨c12, H⟩
  ·refine it c12 ?_
   refine so [] [] [(2, cB false)] [] id ?_
   refine ends_ret ?_
   cases H
   exact And.intro (.inl rfl) rfl
  ·refine jf c12 ?_
   refine sk ?_
   refine seq_in ?_
   refine so [] [] [(1, pk 1), (20, dc 5 eTTerrain zTTerrain p0.Terrains), (21, cL p0.Terrains), (22, cI 0)] [(1, va (eTRules p0))] (fun t => lI p0.Terrains (t)) ?_
   refine ends_blk ?_
   obtain ⟨y81, h82, H⟩ := ofBind H
   refine loop_in (fun (x : Int) => lit [(1, pk 1), (20, dc 5 eTTerrain zTTerrain p0.Terrains), (21, cL p0.Terrains), (22, cI x)] [(1, va (eTRules p0))]) (orJ (fun (z : Unit) => At (.exit 0) (lit [(1, pk 1)] [(1, va (eTRules p0))])) (fun (z : Bool) => At .ret (lit [(2, cB z)] []))) h82 ?_ ?_
   ·clear H h82
    intro x70 y0 H
    refine so [] [] [(1, pk 1), (20, dc 5 eTTerrain zTTerrain p0.Terrains), (21, cL p0.Terrains), (22, cI x70), (23, cB (decide (x70 < (p0.Terrains.length : Int))))] [(1, va (eTRules p0))] id ?_
    refine seq_in ?_
    rcases ofCond H with ⟨c72, H⟩ | ⟨c72, H⟩
    ·refine it c72 ?_
     refine sk ?_
     refine seq_in ?_
     refine ends_blk ?_
     obtain ⟨v73, h74, H⟩ := ofBind H
     refine so [.cs (eTTerrain v73)] [] [(1, pk 1), (3, cI x70), (4, pk 4), (20, dc 5 eTTerrain zTTerrain p0.Terrains), (21, cL p0.Terrains), (22, cI x70)] [(1, va (eTRules p0)), (4, va (eTTerrain v73))] (a2 eTTerrain h74) ?_
     obtain ⟨v75, h76, H⟩ := ofBind H
     rcases ofCond H with ⟨c77, H⟩ | ⟨c77, H⟩
     ·refine so [.res (cB v75), .g true, .g true, .g true, .g true, .g true, .g true, .g true, .g true] [] [(1, pk 1), (20, dc 5 eTTerrain zTTerrain p0.Terrains), (21, cL p0.Terrains), (22, cI x70), (41, cB true)] [(1, va (eTRules p0))] (fun t => lI p0.Kinds (aI (i_goodTerrain_ok v73 (p0.Kinds.length : Int) v75 h76) (aI c77 (aI c77 (aI c77 (aI c77 (aI c77 (aI c77 (aI c77 (aI c77 (t))))))))))) ?_
      refine it (rfl : (true : Bool) = true) ?_
      refine so [] [] [(2, cB false)] [] id ?_
      refine ends_ret ?_
      cases H
      exact And.intro (by simp) (And.intro rfl rfl)
     ·obtain ⟨v78, h79, H⟩ := ofBind H
      refine so [.res (cB v75), .g false, .g false, .g false, .g false, .g false, .res (cI v78), .g false, .g false, .g false] [] [(1, pk 1), (20, dc 5 eTTerrain zTTerrain p0.Terrains), (21, cL p0.Terrains), (22, cI x70), (41, cB (v78 != x70))] [(1, va (eTRules p0))] (fun t => lI p0.Kinds (aI (i_goodTerrain_ok v73 (p0.Kinds.length : Int) v75 h76) (aI c77 (aI c77 (aI c77 (aI c77 (aI c77 (aI (i_terrainIndex_ok p0.Terrains v73.Name v78 h79) (aI c77 (aI c77 (aI c77 (t)))))))))))) ?_
      rcases ofCond H with ⟨c80, H⟩ | ⟨c80, H⟩
      ·refine it c80 ?_
       refine so [] [] [(2, cB false)] [] id ?_
       refine ends_ret ?_
       cases H
       exact And.intro (by simp) (And.intro rfl rfl)
      ·refine jf c80 ?_
       refine sk ?_
       refine oo [] [] [(1, pk 1), (20, dc 5 eTTerrain zTTerrain p0.Terrains), (21, cL p0.Terrains), (22, cI (W (x70 + 1)))] [(1, va (eTRules p0))] id ?_
       cases H
       exact And.intro rfl rfl
    ·refine jf c72 ?_
     refine tl [] [(1, pk 1)] [(1, va (eTRules p0))] id ?_
     refine ends_exit ?_
     cases H
     exact And.intro (by simp) (And.intro rfl rfl)
   ·clear h82
    cases y81 with
    | inl y83 =>
     replace H := ofInl H
     intro e s q
     obtain ⟨rfl, rfl⟩ := q
     change EndsI _ _ _ _ _ _
     refine seq_in ?_
     refine so [] [] [(1, pk 1), (44, dc 6 eTKind zTKind p0.Kinds), (45, cL p0.Kinds), (46, cI 0)] [(1, va (eTRules p0))] (fun t => lI p0.Kinds (t)) ?_
     refine ends_blk ?_
     obtain ⟨y153, h154, H⟩ := ofBind H
     refine loop_in (fun (x : Int) => lit [(1, pk 1), (44, dc 6 eTKind zTKind p0.Kinds), (45, cL p0.Kinds), (46, cI x)] [(1, va (eTRules p0))]) (orJ (fun (z : Unit) => At (.exit 2) (lit [(1, pk 1)] [(1, va (eTRules p0))])) (fun (z : Bool) => At .ret (lit [(2, cB z)] []))) h154 ?_ ?_
     ·clear H h154
      intro x142 y0 H
      refine so [] [] [(1, pk 1), (44, dc 6 eTKind zTKind p0.Kinds), (45, cL p0.Kinds), (46, cI x142), (47, cB (decide (x142 < (p0.Kinds.length : Int))))] [(1, va (eTRules p0))] id ?_
      refine seq_in ?_
      rcases ofCond H with ⟨c144, H⟩ | ⟨c144, H⟩
      ·refine it c144 ?_
       refine sk ?_
       refine seq_in ?_
       refine ends_blk ?_
       obtain ⟨v145, h146, H⟩ := ofBind H
       refine so [.cs (eTKind v145)] [] [(1, pk 1), (5, cI x142), (6, pk 6), (44, dc 6 eTKind zTKind p0.Kinds), (45, cL p0.Kinds), (46, cI x142)] [(1, va (eTRules p0)), (6, va (eTKind v145))] (a2 eTKind h146) ?_
       obtain ⟨v147, h148, H⟩ := ofBind H
       rcases ofCond H with ⟨c149, H⟩ | ⟨c149, H⟩
       ·refine so [.res (cB v147), .g true, .g true, .g true, .g true, .g true, .g true, .g true, .g true] [] [(1, pk 1), (44, dc 6 eTKind zTKind p0.Kinds), (45, cL p0.Kinds), (46, cI x142), (62, cB true)] [(1, va (eTRules p0))] (fun t => aI (i_goodKind_ok v145 v147 h148) (aI c149 (aI c149 (aI c149 (aI c149 (aI c149 (aI c149 (aI c149 (aI c149 (t)))))))))) ?_
        refine it (rfl : (true : Bool) = true) ?_
        refine so [] [] [(2, cB false)] [] id ?_
        refine ends_ret ?_
        cases H
        exact And.intro (by simp) (And.intro rfl rfl)
       ·obtain ⟨v150, h151, H⟩ := ofBind H
        refine so [.res (cB v147), .g false, .g false, .g false, .g false, .g false, .res (cI v150), .g false, .g false, .g false] [] [(1, pk 1), (44, dc 6 eTKind zTKind p0.Kinds), (45, cL p0.Kinds), (46, cI x142), (62, cB (v150 != x142))] [(1, va (eTRules p0))] (fun t => aI (i_goodKind_ok v145 v147 h148) (aI c149 (aI c149 (aI c149 (aI c149 (aI c149 (aI (i_kindIndex_ok p0.Kinds v145.Name v150 h151) (aI c149 (aI c149 (aI c149 (t))))))))))) ?_
        rcases ofCond H with ⟨c152, H⟩ | ⟨c152, H⟩
        ·refine it c152 ?_
         refine so [] [] [(2, cB false)] [] id ?_
         refine ends_ret ?_
         cases H
         exact And.intro (by simp) (And.intro rfl rfl)
        ·refine jf c152 ?_
         refine sk ?_
         refine oo [] [] [(1, pk 1), (44, dc 6 eTKind zTKind p0.Kinds), (45, cL p0.Kinds), (46, cI (W (x142 + 1)))] [(1, va (eTRules p0))] id ?_
         cases H
         exact And.intro rfl rfl
      ·refine jf c144 ?_
       refine tl [] [(1, pk 1)] [(1, va (eTRules p0))] id ?_
       refine ends_exit ?_
       cases H
       exact And.intro (by simp) (And.intro rfl rfl)
     ·clear h154
      cases y153 with
      | inl y155 =>
       replace H := ofInl H
       intro e s q
       obtain ⟨rfl, rfl⟩ := q
       change EndsI _ _ _ _ _ _
       obtain ⟨v157, h158, H⟩ := ofBind H
       rcases ofCond H with ⟨c159, H⟩ | ⟨c159, H⟩
       ·obtain ⟨v160, h161, H⟩ := ofBind H
        rcases ofCond H with ⟨c162, H⟩ | ⟨c162, H⟩
        ·obtain ⟨v163, h164, H⟩ := ofBind H
         rcases ofCond H with ⟨c165, H⟩ | ⟨c165, H⟩
         ·obtain ⟨v166, h167, H⟩ := ofBind H
          rcases ofCond H with ⟨c168, H⟩ | ⟨c168, H⟩
          ·obtain ⟨v169, h170, H⟩ := ofBind H
           refine so [.res (cB v157), .g true, .g true, .g true, .res (cB v160), .g true, .g true, .g true, .g true, .res (cB v163), .g true, .g true, .g true, .g true, .res (cB v166), .g true, .g true, .g true, .g true, .res (cB v169), .g true] [] [(2, cB v169)] [] (fun t => aI (i_inRange_ok p0.Stack 1 4 v157 h158) (aI c159 (aI c159 (aI c159 (aI (i_inRange_ok p0.River 0 9 v160 h161) (aI c159 (aI c162 (aI c162 (aI c162 (aI (i_inRange_ok p0.Road 1 9 v163 h164) (aI c162 (aI c165 (aI c165 (aI c165 (aI (i_inRange_ok p0.Supply 0 20 v166 h167) (aI c165 (aI c168 (aI c168 (aI c168 (aI (i_inRange_ok p0.Turns 1 30 v169 h170) (aI c168 (t)))))))))))))))))))))) ?_
           refine ends_ret ?_
           cases H
           exact And.intro (.inl rfl) rfl
          ·refine so [.res (cB v157), .g true, .g true, .g true, .res (cB v160), .g true, .g true, .g true, .g true, .res (cB v163), .g true, .g true, .g true, .g true, .res (cB v166), .g true, .g false, .g false, .g false, .g false] [] [(2, cB false)] [] (fun t => aI (i_inRange_ok p0.Stack 1 4 v157 h158) (aI c159 (aI c159 (aI c159 (aI (i_inRange_ok p0.River 0 9 v160 h161) (aI c159 (aI c162 (aI c162 (aI c162 (aI (i_inRange_ok p0.Road 1 9 v163 h164) (aI c162 (aI c165 (aI c165 (aI c165 (aI (i_inRange_ok p0.Supply 0 20 v166 h167) (aI c165 (aI c168 (aI c168 (aI c168 (aI c168 (t))))))))))))))))))))) ?_
           refine ends_ret ?_
           cases H
           exact And.intro (.inl rfl) rfl
         ·refine so [.res (cB v157), .g true, .g true, .g true, .res (cB v160), .g true, .g true, .g true, .g true, .res (cB v163), .g true, .g false, .g false, .g false, .g false, .g false, .g false, .g false, .g false] [] [(2, cB false)] [] (fun t => aI (i_inRange_ok p0.Stack 1 4 v157 h158) (aI c159 (aI c159 (aI c159 (aI (i_inRange_ok p0.River 0 9 v160 h161) (aI c159 (aI c162 (aI c162 (aI c162 (aI (i_inRange_ok p0.Road 1 9 v163 h164) (aI c162 (aI c165 (aI c165 (aI c165 (aI c165 (aI (rfl : (false : Bool) = false) (aI (rfl : (false : Bool) = false) (aI (rfl : (false : Bool) = false) (aI (rfl : (false : Bool) = false) (t)))))))))))))))))))) ?_
          refine ends_ret ?_
          cases H
          exact And.intro (.inl rfl) rfl
        ·refine so [.res (cB v157), .g true, .g true, .g true, .res (cB v160), .g true, .g false, .g false, .g false, .g false, .g false, .g false, .g false, .g false, .g false, .g false, .g false, .g false] [] [(2, cB false)] [] (fun t => aI (i_inRange_ok p0.Stack 1 4 v157 h158) (aI c159 (aI c159 (aI c159 (aI (i_inRange_ok p0.River 0 9 v160 h161) (aI c159 (aI c162 (aI c162 (aI c162 (aI c162 (aI (rfl : (false : Bool) = false) (aI (rfl : (false : Bool) = false) (aI (rfl : (false : Bool) = false) (aI (rfl : (false : Bool) = false) (aI (rfl : (false : Bool) = false) (aI (rfl : (false : Bool) = false) (aI (rfl : (false : Bool) = false) (aI (rfl : (false : Bool) = false) (t))))))))))))))))))) ?_
         refine ends_ret ?_
         cases H
         exact And.intro (.inl rfl) rfl
       ·refine so [.res (cB v157), .g false, .g false, .g false, .g false, .g false, .g false, .g false, .g false, .g false, .g false, .g false, .g false, .g false, .g false, .g false, .g false] [] [(2, cB false)] [] (fun t => aI (i_inRange_ok p0.Stack 1 4 v157 h158) (aI c159 (aI c159 (aI c159 (aI c159 (aI (rfl : (false : Bool) = false) (aI (rfl : (false : Bool) = false) (aI (rfl : (false : Bool) = false) (aI (rfl : (false : Bool) = false) (aI (rfl : (false : Bool) = false) (aI (rfl : (false : Bool) = false) (aI (rfl : (false : Bool) = false) (aI (rfl : (false : Bool) = false) (aI (rfl : (false : Bool) = false) (aI (rfl : (false : Bool) = false) (aI (rfl : (false : Bool) = false) (aI (rfl : (false : Bool) = false) (t)))))))))))))))))) ?_
        refine ends_ret ?_
        cases H
        exact And.intro (.inl rfl) rfl
      | inr y156 =>
       replace H := ofInr H
       intro e s q
       obtain ⟨rfl, rfl⟩ := q
       cases H
       exact And.intro (.inl rfl) rfl
    | inr y84 =>
     replace H := ofInr H
     intro e s q
     obtain ⟨rfl, rfl⟩ := q
     cases H
     exact And.intro (.inl rfl) rfl
def i_indexOf_ir : S :=
 (sq [o 2 (.box 5 (.t 0)), o 3 (.box 2 (.t 1)), o 4 (.mv (iv 0))]
 (.seq (sq [o 5 (.fad 0 (.t 3)), o 6 (.load 1 false (.t 5)), o 7 (.fad 0 (.t 2)), o 8 (.load 1 false (.t 7)), o 9 (.call 115 [.t 6, .t 8]), o 10 (.not (.t 9)), om 11 10, ⟨some 12, .fad 1 (.t 3), some (11, false)⟩, ⟨some 13, .load 1 false (.t 12), some (11, false)⟩, ⟨some 14, .fad 1 (.t 2), some (11, false)⟩, ⟨some 15, .load 1 false (.t 14), some (11, false)⟩, ⟨some 16, .call 115 [.t 13, .t 15], some (11, false)⟩, ⟨some 17, .not (.t 16), some (11, false)⟩, o 18 (.pick (.t 11) (.v (.bool true)) (.t 17))]
 (.ite (.t 18) (sq [o 4 (.mv (.v (.int .i64 (-1))))]
  .ret)
 .skip))
 (sq [o 19 (.fad 1 (.t 3)), o 20 (.load 1 false (.t 19)), o 21 (.fad 0 (.t 2)), o 22 (.load 1 false (.t 21)), o 23 (.bin .mul (.t 20) (.t 22)), o 24 (.fad 0 (.t 3)), o 25 (.load 1 false (.t 24)), o 26 (.bin .add (.t 23) (.t 25)), om 4 26]
 .ret)))
noncomputable def X.i_indexOf (p0 : TMap) (p1 : THex) : Option Int :=
 ((X.i_isIndex p1.Q p0.Width).bind fun v7 => (bif (!v7) then some (-1) else ((X.i_isIndex p1.R p0.Height).bind fun v10 => (bif (!v10) then some (-1) else some (W ((W (p1.R * p0.Width)) + p1.Q))))))
theorem i_indexOf_ok (p0 : TMap) (p1 : THex) (r : Int) (H : X.i_indexOf p0 p1 = some r) : FnOk Tryz.prog gl 182 [.agg (eTMap p0), .agg (eTHex p1)] (cI r) := by
 unfold X.i_indexOf at H
 refine fi Tryz.f182 i_indexOf_ir [(4, cI r)] [] glL Tryz.func182 ?_
 refine so [] [] [(2, pk 2), (3, pk 3)] [(2, va (eTMap p0)), (3, va (eTHex p1))] id ?_
 refine seq_in ?_
 obtain ⟨v7, h8, H⟩ := ofBind H
 rcases ofCond H with ⟨c9, H⟩ | ⟨c9, H⟩
 ·refine so [.res (cB v7), .g true, .g true, .g true, .g true, .g true, .g true, .g true] [] [(2, pk 2), (3, pk 3), (18, cB true)] [(2, va (eTMap p0)), (3, va (eTHex p1))] (fun t => aI (i_isIndex_ok p1.Q p0.Width v7 h8) (aI c9 (aI c9 (aI c9 (aI c9 (aI c9 (aI c9 (aI c9 (t))))))))) ?_
  refine it (rfl : (true : Bool) = true) ?_
  refine so [] [] [(4, cI (-1))] [] id ?_
  refine ends_ret ?_
  cases H
  exact And.intro (.inl rfl) rfl
 ·obtain ⟨v10, h11, H⟩ := ofBind H
  refine so [.res (cB v7), .g false, .g false, .g false, .g false, .g false, .res (cB v10), .g false, .g false] [] [(2, pk 2), (3, pk 3), (18, cB (!v10))] [(2, va (eTMap p0)), (3, va (eTHex p1))] (fun t => aI (i_isIndex_ok p1.Q p0.Width v7 h8) (aI c9 (aI c9 (aI c9 (aI c9 (aI c9 (aI (i_isIndex_ok p1.R p0.Height v10 h11) (aI c9 (aI c9 (t)))))))))) ?_
  rcases ofCond H with ⟨c12, H⟩ | ⟨c12, H⟩
  ·refine it c12 ?_
   refine so [] [] [(4, cI (-1))] [] id ?_
   refine ends_ret ?_
   cases H
   exact And.intro (.inl rfl) rfl
  ·refine jf c12 ?_
   refine sk ?_
   refine so [] [] [(4, cI (W ((W (p1.R * p0.Width)) + p1.Q)))] [] id ?_
   refine ends_ret ?_
   cases H
   exact And.intro (.inl rfl) rfl
def i_stepBy_ir : S :=
 (sq [o 3 (.box 2 (.t 0)), o 6 (.alloc [.int .i64 0, .int .i64 0])]
 (.seq (.draw 19 [o 7 (.fad 0 (.t 3)), o 8 (.load 1 false (.t 7)), om 9 2, om 10 1, o 11 (.iar 6 2 (.g 0) (.t 10)), o 12 (.fad 0 (.t 11)), o 13 (.load 1 false (.t 12)), o 14 (.bin .mul (.t 9) (.t 13)), o 15 (.bin .add (.t 8) (.t 14)), o 16 (.fad 1 (.t 3)), o 17 (.load 1 false (.t 16)), om 18 2, om 19 1, o 20 (.iar 6 2 (.g 0) (.t 19)), o 21 (.fad 1 (.t 20)), o 22 (.load 1 false (.t 21)), o 23 (.bin .mul (.t 18) (.t 22)), o 24 (.bin .add (.t 17) (.t 23)), o 25 (.build [.int .i64 0, .int .i64 0] [(0, 1, .t 15), (1, 1, .t 24)]), ⟨none, .store 2 (.t 6) (.t 25), none⟩])
 .ret))
noncomputable def X.i_stepBy (p0 : THex) (p1 : Int) (p2 : Int) : Option THex :=
 ((at' zTHex dirs p1).bind fun v1 => some (THex.mk (W (p0.Q + (W (p2 * v1.Q)))) (W (p0.R + (W (p2 * v1.R))))))
theorem i_stepBy_ok (p0 : THex) (p1 : Int) (p2 : Int) (r : THex) (H : X.i_stepBy p0 p1 p2 = some r) : FnOk Tryz.prog gl 183 [.agg (eTHex p0), cI p1, cI p2] (.agg (eTHex r)) := by
 unfold X.i_stepBy at H
 refine fi Tryz.f183 i_stepBy_ir [(6, pk 6)] [(6, va (eTHex r))] glL Tryz.func183 ?_
 refine so [] [] [(1, cI p1), (2, cI p2), (3, pk 3), (6, pk 6)] [(3, va (eTHex p0)), (6, .var [.int .i64 0, .int .i64 0] false)] id ?_
 obtain ⟨v1, h2, H⟩ := ofBind H
 refine sd [.cs (eTHex v1), .cs (eTHex v1)] [] [(6, pk 6)] [(6, .var [.int .i64 (W (p0.Q + (W (p2 * v1.Q)))), .int .i64 (W (p0.R + (W (p2 * v1.R))))] false)] (fun t => aI (at_lt h2) (aI (dirs_at h2) (aI (rfl : ([] : List Nat) = []) (aI (at_lt h2) (aI (dirs_at h2) (aI (rfl : ([] : List Nat) = []) (t))))))) ?_
 refine ends_ret ?_
 cases H
 exact And.intro (.inl rfl) rfl
def i_hexOf_ir : S :=
 (sq [o 2 (.box 5 (.t 0)), o 4 (.alloc [.int .i64 0, .int .i64 0])]
 (.seq (.draw 9 [om 5 1, o 6 (.fad 0 (.t 2)), o 7 (.load 1 false (.t 6)), o 8 (.bin .rem (.t 5) (.t 7)), om 9 1, o 10 (.fad 0 (.t 2)), o 11 (.load 1 false (.t 10)), o 12 (.bin .quo (.t 9) (.t 11)), o 13 (.build [.int .i64 0, .int .i64 0] [(0, 1, .t 8), (1, 1, .t 12)]), ⟨none, .store 2 (.t 4) (.t 13), none⟩])
 .ret))
noncomputable def X.i_hexOf (p0 : TMap) (p1 : Int) : Option THex :=
 (if p0.Width ≠ 0 then (if p0.Width ≠ 0 then some (THex.mk (Int.tmod p1 p0.Width) (W (Int.tdiv p1 p0.Width))) else none) else none)
theorem i_hexOf_ok (p0 : TMap) (p1 : Int) (r : THex) (H : X.i_hexOf p0 p1 = some r) : FnOk Tryz.prog gl 184 [.agg (eTMap p0), cI p1] (.agg (eTHex r)) := by
 unfold X.i_hexOf at H
 refine fi Tryz.f184 i_hexOf_ir [(4, pk 4)] [(4, va (eTHex r))] glL Tryz.func184 ?_
 refine so [] [] [(1, cI p1), (2, pk 2), (4, pk 4)] [(2, va (eTMap p0)), (4, .var [.int .i64 0, .int .i64 0] false)] id ?_
 obtain ⟨g1, H⟩ := ofIf H
 obtain ⟨g2, H⟩ := ofIf H
 refine sd [] [] [(4, pk 4)] [(4, .var [.int .i64 (Int.tmod p1 p0.Width), .int .i64 (W (Int.tdiv p1 p0.Width))] false)] (fun t => aI g1 (aI g2 (t))) ?_
 refine ends_ret ?_
 cases H
 exact And.intro (.inl rfl) rfl
def i_nextTo_ir : S :=
 (sq [o 3 (.box 5 (.t 0)), o 6 (.mv (iv 0))]
 (.seq (.draw 8 [o 7 (.load 5 true (.t 3)), o 8 (.load 5 true (.t 3)), om 9 1, o 10 (.call 184 [.t 8, .t 9]), om 11 2, o 12 (.call 183 [.t 10, .t 11, .v (.int .i64 1)]), o 13 (.call 182 [.t 7, .t 12]), om 6 13])
 .ret))
noncomputable def X.i_nextTo (p0 : TMap) (p1 : Int) (p2 : Int) : Option Int :=
 ((X.i_hexOf p0 p1).bind fun v1 => ((X.i_stepBy v1 p2 1).bind fun v3 => ((X.i_indexOf p0 v3).bind fun v5 => some v5)))
theorem i_nextTo_ok (p0 : TMap) (p1 : Int) (p2 : Int) (r : Int) (H : X.i_nextTo p0 p1 p2 = some r) : FnOk Tryz.prog gl 133 [.agg (eTMap p0), cI p1, cI p2] (cI r) := by
 unfold X.i_nextTo at H
 refine fi Tryz.f133 i_nextTo_ir [(6, cI r)] [] glL Tryz.func133 ?_
 refine so [] [] [(1, cI p1), (2, cI p2), (3, pk 3)] [(3, va (eTMap p0))] id ?_
 obtain ⟨v1, h2, H⟩ := ofBind H
 obtain ⟨v3, h4, H⟩ := ofBind H
 obtain ⟨v5, h6, H⟩ := ofBind H
 refine sd [.res (.agg (eTHex v1)), .res (.agg (eTHex v3)), .res (cI v5)] [] [(6, cI v5)] [] (fun t => aI (i_hexOf_ok p0 p1 v1 h2) (aI trivial (aI (rfl : ([] : List Nat) = []) (aI (i_stepBy_ok v1 p2 1 v3 h4) (aI trivial (aI (rfl : ([] : List Nat) = []) (aI (i_indexOf_ok p0 v3 v5 h6) (aI trivial (aI (rfl : ([] : List Nat) = []) (t)))))))))) ?_
 refine ends_ret ?_
 cases H
 exact And.intro (.inl rfl) rfl
def i_isEdge_ir : S :=
 (sq [o 2 (.box 5 (.t 0)), o 4 (.mv (.v (.bool false)))]
 (sq [om 5 1, o 6 (.fad 0 (.t 2)), o 7 (.load 1 false (.t 6)), o 8 (.bin .mul (iv 3) (.t 7)), o 9 (.fad 1 (.t 2)), o 10 (.load 1 false (.t 9)), o 11 (.bin .mul (.t 8) (.t 10)), o 12 (.bin .sub (.t 11) (iv 1)), o 13 (.call 145 [.t 5, .v (.int .i64 0), .t 12]), om 14 13, ⟨some 15, .load 5 true (.t 2), some (14, true)⟩, ⟨some 16, .mv (.t 1), some (14, true)⟩, ⟨some 17, .bin .quo (.t 16) (iv 3), some (14, true)⟩, ⟨some 18, .mv (.t 1), some (14, true)⟩, ⟨some 19, .bin .rem (.t 18) (iv 3), some (14, true)⟩, ⟨some 20, .call 133 [.t 15, .t 17, .t 19], some (14, true)⟩, ⟨some 21, .bin .geq (.t 20) (iv 0), some (14, true)⟩, o 22 (.pick (.t 14) (.t 21) (.v (.bool false))), om 4 22]
 .ret))
noncomputable def X.i_isEdge (p0 : TMap) (p1 : Int) : Option Bool :=
 ((X.i_inRange p1 0 (W ((W ((W (3 * p0.Width)) * p0.Height)) - 1))).bind fun v1 => (bif v1 then ((X.i_nextTo p0 (W (Int.tdiv p1 3)) (Int.tmod p1 3)).bind fun v4 => some (decide (v4 ≥ 0))) else some false))
theorem i_isEdge_ok (p0 : TMap) (p1 : Int) (r : Bool) (H : X.i_isEdge p0 p1 = some r) : FnOk Tryz.prog gl 217 [.agg (eTMap p0), cI p1] (cB r) := by
 unfold X.i_isEdge at H
 refine fi Tryz.f217 i_isEdge_ir [(4, cB r)] [] glL Tryz.func217 ?_
 refine so [] [] [(1, cI p1), (2, pk 2)] [(2, va (eTMap p0))] id ?_
 obtain ⟨v1, h2, H⟩ := ofBind H
 rcases ofCond H with ⟨c3, H⟩ | ⟨c3, H⟩
 ·obtain ⟨v4, h5, H⟩ := ofBind H
  refine so [.res (cB v1), .g true, .g true, .g true, .g true, .g true, .g true, .res (cI v4), .g true, .g true] [] [(4, cB (decide (v4 ≥ 0)))] [] (fun t => aI (i_inRange_ok p1 0 (W ((W ((W (3 * p0.Width)) * p0.Height)) - 1)) v1 h2) (aI c3 (aI c3 (aI c3 (aI (by decide : (3 : Int) ≠ 0) (aI c3 (aI c3 (aI (by decide : (3 : Int) ≠ 0) (aI c3 (aI (i_nextTo_ok p0 (W (Int.tdiv p1 3)) (Int.tmod p1 3) v4 h5) (aI c3 (aI c3 (t))))))))))))) ?_
  refine ends_ret ?_
  cases H
  exact And.intro (.inl rfl) rfl
 ·refine so [.res (cB v1), .g false, .g false, .g false, .g false, .g false, .g false, .g false, .g false] [] [(4, cB false)] [] (fun t => aI (i_inRange_ok p1 0 (W ((W ((W (3 * p0.Width)) * p0.Height)) - 1)) v1 h2) (aI c3 (aI c3 (aI c3 (aI c3 (aI c3 (aI c3 (aI c3 (aI c3 (t)))))))))) ?_
  refine ends_ret ?_
  cases H
  exact And.intro (.inl rfl) rfl
def i_IsMap_ir : S :=
 (sq [o 1 (.box 5 (.t 0)), o 2 (.mv (.v (.bool false)))]
 (.seq (sq [o 9 (.fad 0 (.t 1)), o 10 (.load 1 false (.t 9)), o 11 (.call 145 [.t 10, .v (.int .i64 1), .v (.int .i64 10)]), o 12 (.not (.t 11)), om 13 12, ⟨some 14, .fad 1 (.t 1), some (13, false)⟩, ⟨some 15, .load 1 false (.t 14), some (13, false)⟩, ⟨some 16, .call 145 [.t 15, .v (.int .i64 1), .v (.int .i64 10)], some (13, false)⟩, ⟨some 17, .not (.t 16), some (13, false)⟩, o 18 (.pick (.t 13) (.v (.bool true)) (.t 17)), om 19 18, ⟨some 20, .fad 2 (.t 1), some (19, false)⟩, ⟨some 21, .load 1 false (.t 20), some (19, false)⟩, ⟨some 22, .len (.t 21), some (19, false)⟩, ⟨some 23, .fad 0 (.t 1), some (19, false)⟩, ⟨some 24, .load 1 false (.t 23), some (19, false)⟩, ⟨some 25, .fad 1 (.t 1), some (19, false)⟩, ⟨some 26, .load 1 false (.t 25), some (19, false)⟩, ⟨some 27, .bin .mul (.t 24) (.t 26), some (19, false)⟩, ⟨some 28, .bin .neq (.t 22) (.t 27), some (19, false)⟩, o 29 (.pick (.t 19) (.v (.bool true)) (.t 28))]
 (.ite (.t 29) (sq [o 2 (.mv (.v (.bool false)))]
  .ret)
 .skip))
 (.seq (sq [o 30 (.fad 2 (.t 1)), o 31 (.load 1 false (.t 30)), o 32 (.len (.t 31)), o 33 (.mv (iv 0))]
 (.blk 0 (.loop (sq [o 34 (.bin .lss (.t 33) (.t 32))]
   (.seq (.ite (.t 34) .skip
   (.exit 0))
   (.seq (.blk 1 (sq [o 35 (.iad 1 (.t 31) (.t 33)), o 36 (.load 1 false (.t 35)), om 4 36]
    (sq [om 37 4, o 38 (.call 115 [.t 37, .v (.int .i64 6)]), o 39 (.not (.t 38))]
    (.ite (.t 39) (sq [o 2 (.mv (.v (.bool false)))]
     .ret)
    .skip))))
   (.ops [o 40 (.bin .add (.t 33) (iv 1)), om 33 40])))))))
 (.seq (sq [o 41 (.fad 3 (.t 1)), o 42 (.load 1 false (.t 41)), o 43 (.fad 4 (.t 1)), o 44 (.load 1 false (.t 43)), o 45 (.bsl 1 [.t 42, .t 44]), o 46 (.len (.t 45)), o 47 (.mv (iv 0))]
 (.blk 2 (.loop (sq [o 48 (.bin .lss (.t 47) (.t 46))]
   (.seq (.ite (.t 48) .skip
   (.exit 2))
   (.seq (.blk 3 (sq [o 49 (.iad 1 (.t 45) (.t 47)), o 50 (.load 1 false (.t 49)), om 6 50]
    (.seq (sq [om 51 6, o 52 (.call 147 [.t 51]), o 53 (.not (.t 52))]
    (.ite (.t 53) (sq [o 2 (.mv (.v (.bool false)))]
     .ret)
    .skip))
    (sq [om 54 6, o 55 (.len (.t 54)), o 56 (.mv (iv 0))]
    (.blk 4 (.loop (sq [o 57 (.bin .lss (.t 56) (.t 55))]
      (.seq (.ite (.t 57) .skip
      (.exit 4))
      (.seq (.blk 5 (sq [o 58 (.iad 1 (.t 54) (.t 56)), o 59 (.load 1 false (.t 58)), om 8 59]
       (sq [o 60 (.load 5 true (.t 1)), om 61 8, o 62 (.call 217 [.t 60, .t 61]), o 63 (.not (.t 62))]
       (.ite (.t 63) (sq [o 2 (.mv (.v (.bool false)))]
        .ret)
       .skip))))
      (.ops [o 64 (.bin .add (.t 56) (iv 1)), om 56 64]))))))))))
   (.ops [o 65 (.bin .add (.t 47) (iv 1)), om 47 65])))))))
 (sq [o 2 (.mv (.v (.bool true)))]
 .ret)))))
noncomputable def X.i_IsMap (p0 : TMap) : Option Bool :=
 ((X.i_inRange p0.Width 1 10).bind fun v8 => (bif (!v8) then some false else ((X.i_inRange p0.Height 1 10).bind fun v11 => (bif (!v11) then some false else (bif ((p0.Terrain.length : Int) != (W (p0.Width * p0.Height))) then some false else ((loop (fun (x57 : Int) => ((bif (decide (x57 < (p0.Terrain.length : Int))) then ((at' zI p0.Terrain x57).bind fun v60 => ((X.i_isIndex v60 6).bind fun v62 => (bif (!v62) then some (Sum.inr (Sum.inr false)) else some (Sum.inl (W (x57 + 1)))))) else some (Sum.inr (Sum.inl ()))) : Option (Int ⊕ (Unit ⊕ Bool)))) 0).bind fun y65 => (Sum.elim (fun (y67 : Unit) => ((loop (fun (x142 : Int) => ((bif (decide (x142 < (([p0.Rivers, p0.Roads] : List (List Int)).length : Int))) then (if 0 ≤ x142 ∧ x142 < (([p0.Rivers, p0.Roads] : List (List Int)).length : Int) then ((X.i_increasing (([p0.Rivers, p0.Roads] : List (List Int)).getD x142.toNat zLI)).bind fun v149 => (bif (!v149) then some (Sum.inr (Sum.inr false)) else ((loop (fun (x167 : Int) => ((bif (decide (x167 < ((([p0.Rivers, p0.Roads] : List (List Int)).getD x142.toNat zLI).length : Int))) then ((at' zI (([p0.Rivers, p0.Roads] : List (List Int)).getD x142.toNat zLI) x167).bind fun v170 => ((X.i_isEdge p0 v170).bind fun v172 => (bif (!v172) then some (Sum.inr (Sum.inr false)) else some (Sum.inl (W (x167 + 1)))))) else some (Sum.inr (Sum.inl ()))) : Option (Int ⊕ (Unit ⊕ Bool)))) 0).bind fun y175 => (Sum.elim (fun (y177 : Unit) => some (Sum.inl (W (x142 + 1)))) (fun (y178 : Bool) => some (Sum.inr (Sum.inr y178))) y175)))) else none) else some (Sum.inr (Sum.inl ()))) : Option (Int ⊕ (Unit ⊕ Bool)))) 0).bind fun y179 => (Sum.elim (fun (y181 : Unit) => some true) (fun (y182 : Bool) => some y182) y179))) (fun (y68 : Bool) => some y68) y65)))))))
theorem i_IsMap_ok (p0 : TMap) (r : Bool) (H : X.i_IsMap p0 = some r) : FnOk Tryz.prog gl 194 [.agg (eTMap p0)] (cB r) := by
 unfold X.i_IsMap at H
 refine fi Tryz.f194 i_IsMap_ir [(2, cB r)] [] glL Tryz.func194 ?_
 refine so [] [] [(1, pk 1)] [(1, va (eTMap p0))] id ?_
 refine seq_in ?_
 obtain ⟨v8, h9, H⟩ := ofBind H
 rcases ofCond H with ⟨c10, H⟩ | ⟨c10, H⟩
 ·refine so [.res (cB v8), .g true, .g true, .g true, .g true, .g true, .g true, .g true, .g true, .g true, .g true, .g true, .g true, .g true, .g true, .g true] [] [(1, pk 1), (29, cB true)] [(1, va (eTMap p0))] (fun t => aI (i_inRange_ok p0.Width 1 10 v8 h9) (aI c10 (aI c10 (aI c10 (aI c10 (aI c10 (aI (rfl : (true : Bool) = true) (aI (rfl : (true : Bool) = true) (aI (rfl : (true : Bool) = true) (aI (rfl : (true : Bool) = true) (aI (rfl : (true : Bool) = true) (aI (rfl : (true : Bool) = true) (aI (rfl : (true : Bool) = true) (aI (rfl : (true : Bool) = true) (aI (rfl : (true : Bool) = true) (aI (rfl : (true : Bool) = true) (t))))))))))))))))) ?_
  refine it (rfl : (true : Bool) = true) ?_
  refine so [] [] [(2, cB false)] [] id ?_
  refine ends_ret ?_
  cases H
  exact And.intro (.inl rfl) rfl
 ·obtain ⟨v11, h12, H⟩ := ofBind H
  rcases ofCond H with ⟨c13, H⟩ | ⟨c13, H⟩
  ·refine so [.res (cB v8), .g false, .g false, .g false, .res (cB v11), .g false, .g false, .g true, .g true, .g true, .g true, .g true, .g true, .g true, .g true, .g true, .g true] [] [(1, pk 1), (29, cB true)] [(1, va (eTMap p0))] (fun t => aI (i_inRange_ok p0.Width 1 10 v8 h9) (aI c10 (aI c10 (aI c10 (aI (i_inRange_ok p0.Height 1 10 v11 h12) (aI c10 (aI c10 (aI c13 (aI c13 (aI c13 (aI c13 (aI c13 (aI c13 (aI c13 (aI c13 (aI c13 (aI c13 (t)))))))))))))))))) ?_
   refine it (rfl : (true : Bool) = true) ?_
   refine so [] [] [(2, cB false)] [] id ?_
   refine ends_ret ?_
   cases H
   exact And.intro (.inl rfl) rfl
  ·refine so [.res (cB v8), .g false, .g false, .g false, .res (cB v11), .g false, .g false, .g false, .g false, .g false, .g false, .g false, .g false, .g false, .g false, .g false, .g false] [] [(1, pk 1), (29, cB ((p0.Terrain.length : Int) != (W (p0.Width * p0.Height))))] [(1, va (eTMap p0))] (fun t => aI (i_inRange_ok p0.Width 1 10 v8 h9) (aI c10 (aI c10 (aI c10 (aI (i_inRange_ok p0.Height 1 10 v11 h12) (aI c10 (aI c10 (aI c13 (aI c13 (aI c13 (lI p0.Terrain (aI c13 (aI c13 (aI c13 (aI c13 (aI c13 (aI c13 (aI c13 (t))))))))))))))))))) ?_
   rcases ofCond H with ⟨c14, H⟩ | ⟨c14, H⟩
   ·refine it c14 ?_
    refine so [] [] [(2, cB false)] [] id ?_
    refine ends_ret ?_
    cases H
    exact And.intro (.inl rfl) rfl
   ·refine jf c14 ?_
    refine sk ?_
    refine seq_in ?_
    refine so [] [] [(1, pk 1), (31, dc 1 eI zI p0.Terrain), (32, cL p0.Terrain), (33, cI 0)] [(1, va (eTMap p0))] (fun t => lI p0.Terrain (t)) ?_
    refine ends_blk ?_
    obtain ⟨y65, h66, H⟩ := ofBind H
    refine loop_in (fun (x : Int) => lit [(1, pk 1), (31, dc 1 eI zI p0.Terrain), (32, cL p0.Terrain), (33, cI x)] [(1, va (eTMap p0))]) (orJ (fun (z : Unit) => At (.exit 0) (lit [(1, pk 1)] [(1, va (eTMap p0))])) (fun (z : Bool) => At .ret (lit [(2, cB z)] []))) h66 ?_ ?_
    ·clear H h66
     intro x57 y0 H
     refine so [] [] [(1, pk 1), (31, dc 1 eI zI p0.Terrain), (32, cL p0.Terrain), (33, cI x57), (34, cB (decide (x57 < (p0.Terrain.length : Int))))] [(1, va (eTMap p0))] id ?_
     refine seq_in ?_
     rcases ofCond H with ⟨c59, H⟩ | ⟨c59, H⟩
     ·refine it c59 ?_
      refine sk ?_
      refine seq_in ?_
      refine ends_blk ?_
      obtain ⟨v60, h61, H⟩ := ofBind H
      refine so [.cs (eI v60)] [] [(1, pk 1), (4, cI v60), (31, dc 1 eI zI p0.Terrain), (32, cL p0.Terrain), (33, cI x57)] [(1, va (eTMap p0))] (a2 eI h61) ?_
      obtain ⟨v62, h63, H⟩ := ofBind H
      refine so [.res (cB v62)] [] [(1, pk 1), (31, dc 1 eI zI p0.Terrain), (32, cL p0.Terrain), (33, cI x57), (39, cB (!v62))] [(1, va (eTMap p0))] (aI (i_isIndex_ok v60 6 v62 h63)) ?_
      rcases ofCond H with ⟨c64, H⟩ | ⟨c64, H⟩
      ·refine it c64 ?_
       refine so [] [] [(2, cB false)] [] id ?_
       refine ends_ret ?_
       cases H
       exact And.intro (by simp) (And.intro rfl rfl)
      ·refine jf c64 ?_
       refine sk ?_
       refine oo [] [] [(1, pk 1), (31, dc 1 eI zI p0.Terrain), (32, cL p0.Terrain), (33, cI (W (x57 + 1)))] [(1, va (eTMap p0))] id ?_
       cases H
       exact And.intro rfl rfl
     ·refine jf c59 ?_
      refine tl [] [(1, pk 1)] [(1, va (eTMap p0))] id ?_
      refine ends_exit ?_
      cases H
      exact And.intro (by simp) (And.intro rfl rfl)
    ·clear h66
     cases y65 with
     | inl y67 =>
      replace H := ofInl H
      intro e s q
      obtain ⟨rfl, rfl⟩ := q
      change EndsI _ _ _ _ _ _
      refine seq_in ?_
      refine so [fh eLI zLI ([p0.Rivers, p0.Roads] : List (List Int))] [] [(1, pk 1), (45, ow 45 1 ([p0.Rivers, p0.Roads] : List (List Int))), (46, cL ([p0.Rivers, p0.Roads] : List (List Int))), (47, cI 0)] [(1, va (eTMap p0)), (45, ar 1 eLI zLI ([p0.Rivers, p0.Roads] : List (List Int)))] (fun t => aI (rfl : ([p0.Rivers, p0.Roads] : List (List Int)).length = 2) (aI (fF_lit eLI zLI ([p0.Rivers, p0.Roads] : List (List Int))) ((fun (_ : ([p0.Rivers, p0.Roads] : List (List Int)).length ≤ maxLen) => t)))) ?_
      refine ends_blk ?_
      obtain ⟨y179, h180, H⟩ := ofBind H
      refine loop_in (fun (x : Int) => lit [(1, pk 1), (45, ow 45 1 ([p0.Rivers, p0.Roads] : List (List Int))), (46, cL ([p0.Rivers, p0.Roads] : List (List Int))), (47, cI x)] [(1, va (eTMap p0)), (45, ar 1 eLI zLI ([p0.Rivers, p0.Roads] : List (List Int)))]) (orJ (fun (z : Unit) => At (.exit 2) (lit [] [])) (fun (z : Bool) => At .ret (lit [(2, cB z)] []))) h180 ?_ ?_
      ·clear H h180
       intro x142 y0 H
       refine so [] [] [(1, pk 1), (45, ow 45 1 ([p0.Rivers, p0.Roads] : List (List Int))), (46, cL ([p0.Rivers, p0.Roads] : List (List Int))), (47, cI x142), (48, cB (decide (x142 < (([p0.Rivers, p0.Roads] : List (List Int)).length : Int))))] [(1, va (eTMap p0)), (45, ar 1 eLI zLI ([p0.Rivers, p0.Roads] : List (List Int)))] id ?_
       refine seq_in ?_
       rcases ofCond H with ⟨c144, H⟩ | ⟨c144, H⟩
       ·refine it c144 ?_
        refine sk ?_
        refine seq_in ?_
        refine ends_blk ?_
        obtain ⟨g145, H⟩ := ofIf H
        refine so [.no] [] [(1, pk 1), (6, .c (dat 1 eI zI (([p0.Rivers, p0.Roads] : List (List Int)).getD x142.toNat zLI))), (45, ow 45 1 ([p0.Rivers, p0.Roads] : List (List Int))), (46, cL ([p0.Rivers, p0.Roads] : List (List Int))), (47, cI x142)] [(1, va (eTMap p0)), (45, ar 1 eLI zLI ([p0.Rivers, p0.Roads] : List (List Int)))] (fun t => aI g145 (aI (nat_lt g145) (t))) ?_
        refine seq_in ?_
        obtain ⟨v149, h150, H⟩ := ofBind H
        refine so [.res (cB v149)] [] [(1, pk 1), (6, .c (dat 1 eI zI (([p0.Rivers, p0.Roads] : List (List Int)).getD x142.toNat zLI))), (45, ow 45 1 ([p0.Rivers, p0.Roads] : List (List Int))), (46, cL ([p0.Rivers, p0.Roads] : List (List Int))), (47, cI x142), (53, cB (!v149))] [(1, va (eTMap p0)), (45, ar 1 eLI zLI ([p0.Rivers, p0.Roads] : List (List Int)))] (aI (i_increasing_ok (([p0.Rivers, p0.Roads] : List (List Int)).getD x142.toNat zLI) v149 h150)) ?_
        rcases ofCond H with ⟨c151, H⟩ | ⟨c151, H⟩
        ·refine it c151 ?_
         refine so [] [] [(2, cB false)] [] id ?_
         refine ends_ret ?_
         cases H
         exact And.intro (by simp) (And.intro rfl rfl)
        ·refine jf c151 ?_
         refine sk ?_
         refine so [] [] [(1, pk 1), (45, ow 45 1 ([p0.Rivers, p0.Roads] : List (List Int))), (46, cL ([p0.Rivers, p0.Roads] : List (List Int))), (47, cI x142), (54, .c (dat 1 eI zI (([p0.Rivers, p0.Roads] : List (List Int)).getD x142.toNat zLI))), (55, cL (([p0.Rivers, p0.Roads] : List (List Int)).getD x142.toNat zLI)), (56, cI 0)] [(1, va (eTMap p0)), (45, ar 1 eLI zLI ([p0.Rivers, p0.Roads] : List (List Int)))] (fun t => (fun (_ : (([p0.Rivers, p0.Roads] : List (List Int)).getD x142.toNat zLI).length ≤ maxLen) => t)) ?_
         refine ends_blk ?_
         obtain ⟨y175, h176, H⟩ := ofBind H
         refine loop_in (fun (x : Int) => lit [(1, pk 1), (45, ow 45 1 ([p0.Rivers, p0.Roads] : List (List Int))), (46, cL ([p0.Rivers, p0.Roads] : List (List Int))), (47, cI x142), (54, .c (dat 1 eI zI (([p0.Rivers, p0.Roads] : List (List Int)).getD x142.toNat zLI))), (55, cL (([p0.Rivers, p0.Roads] : List (List Int)).getD x142.toNat zLI)), (56, cI x)] [(1, va (eTMap p0)), (45, ar 1 eLI zLI ([p0.Rivers, p0.Roads] : List (List Int)))]) (orJ (fun (z : Unit) => At (.exit 4) (lit [(1, pk 1), (45, ow 45 1 ([p0.Rivers, p0.Roads] : List (List Int))), (46, cL ([p0.Rivers, p0.Roads] : List (List Int))), (47, cI x142)] [(1, va (eTMap p0)), (45, ar 1 eLI zLI ([p0.Rivers, p0.Roads] : List (List Int)))])) (fun (z : Bool) => At .ret (lit [(2, cB z)] []))) h176 ?_ ?_
         ·clear H h176
          intro x167 y0 H
          refine so [] [] [(1, pk 1), (45, ow 45 1 ([p0.Rivers, p0.Roads] : List (List Int))), (46, cL ([p0.Rivers, p0.Roads] : List (List Int))), (47, cI x142), (54, .c (dat 1 eI zI (([p0.Rivers, p0.Roads] : List (List Int)).getD x142.toNat zLI))), (55, cL (([p0.Rivers, p0.Roads] : List (List Int)).getD x142.toNat zLI)), (56, cI x167), (57, cB (decide (x167 < ((([p0.Rivers, p0.Roads] : List (List Int)).getD x142.toNat zLI).length : Int))))] [(1, va (eTMap p0)), (45, ar 1 eLI zLI ([p0.Rivers, p0.Roads] : List (List Int)))] id ?_
          refine seq_in ?_
          rcases ofCond H with ⟨c169, H⟩ | ⟨c169, H⟩
          ·refine it c169 ?_
           refine sk ?_
           refine seq_in ?_
           refine ends_blk ?_
           obtain ⟨v170, h171, H⟩ := ofBind H
           refine so [.cs (eI v170)] [] [(1, pk 1), (8, cI v170), (45, ow 45 1 ([p0.Rivers, p0.Roads] : List (List Int))), (46, cL ([p0.Rivers, p0.Roads] : List (List Int))), (47, cI x142), (54, .c (dat 1 eI zI (([p0.Rivers, p0.Roads] : List (List Int)).getD x142.toNat zLI))), (55, cL (([p0.Rivers, p0.Roads] : List (List Int)).getD x142.toNat zLI)), (56, cI x167)] [(1, va (eTMap p0)), (45, ar 1 eLI zLI ([p0.Rivers, p0.Roads] : List (List Int)))] (a2 eI h171) ?_
           obtain ⟨v172, h173, H⟩ := ofBind H
           refine so [.res (cB v172)] [] [(1, pk 1), (45, ow 45 1 ([p0.Rivers, p0.Roads] : List (List Int))), (46, cL ([p0.Rivers, p0.Roads] : List (List Int))), (47, cI x142), (54, .c (dat 1 eI zI (([p0.Rivers, p0.Roads] : List (List Int)).getD x142.toNat zLI))), (55, cL (([p0.Rivers, p0.Roads] : List (List Int)).getD x142.toNat zLI)), (56, cI x167), (63, cB (!v172))] [(1, va (eTMap p0)), (45, ar 1 eLI zLI ([p0.Rivers, p0.Roads] : List (List Int)))] (aI (i_isEdge_ok p0 v170 v172 h173)) ?_
           rcases ofCond H with ⟨c174, H⟩ | ⟨c174, H⟩
           ·refine it c174 ?_
            refine so [] [] [(2, cB false)] [] id ?_
            refine ends_ret ?_
            cases H
            exact And.intro (by simp) (And.intro rfl rfl)
           ·refine jf c174 ?_
            refine sk ?_
            refine oo [] [] [(1, pk 1), (45, ow 45 1 ([p0.Rivers, p0.Roads] : List (List Int))), (46, cL ([p0.Rivers, p0.Roads] : List (List Int))), (47, cI x142), (54, .c (dat 1 eI zI (([p0.Rivers, p0.Roads] : List (List Int)).getD x142.toNat zLI))), (55, cL (([p0.Rivers, p0.Roads] : List (List Int)).getD x142.toNat zLI)), (56, cI (W (x167 + 1)))] [(1, va (eTMap p0)), (45, ar 1 eLI zLI ([p0.Rivers, p0.Roads] : List (List Int)))] id ?_
            cases H
            exact And.intro rfl rfl
          ·refine jf c169 ?_
           refine tl [] [(1, pk 1), (45, ow 45 1 ([p0.Rivers, p0.Roads] : List (List Int))), (46, cL ([p0.Rivers, p0.Roads] : List (List Int))), (47, cI x142)] [(1, va (eTMap p0)), (45, ar 1 eLI zLI ([p0.Rivers, p0.Roads] : List (List Int)))] id ?_
           refine ends_exit ?_
           cases H
           exact And.intro (by simp) (And.intro rfl rfl)
         ·clear h176
          cases y175 with
          | inl y177 =>
           replace H := ofInl H
           intro e s q
           obtain ⟨rfl, rfl⟩ := q
           change EndsI _ _ _ _ _ _
           refine oo [] [] [(1, pk 1), (45, ow 45 1 ([p0.Rivers, p0.Roads] : List (List Int))), (46, cL ([p0.Rivers, p0.Roads] : List (List Int))), (47, cI (W (x142 + 1)))] [(1, va (eTMap p0)), (45, ar 1 eLI zLI ([p0.Rivers, p0.Roads] : List (List Int)))] id ?_
           cases H
           exact And.intro rfl rfl
          | inr y178 =>
           replace H := ofInr H
           intro e s q
           obtain ⟨rfl, rfl⟩ := q
           cases H
           exact And.intro (by simp) (And.intro rfl rfl)
       ·refine jf c144 ?_
        refine tl [] [] [] id ?_
        refine ends_exit ?_
        cases H
        exact And.intro (by simp) (And.intro rfl rfl)
      ·clear h180
       cases y179 with
       | inl y181 =>
        replace H := ofInl H
        intro e s q
        obtain ⟨rfl, rfl⟩ := q
        change EndsI _ _ _ _ _ _
        refine so [] [] [(2, cB true)] [] id ?_
        refine ends_ret ?_
        cases H
        exact And.intro (.inl rfl) rfl
       | inr y182 =>
        replace H := ofInr H
        intro e s q
        obtain ⟨rfl, rfl⟩ := q
        cases H
        exact And.intro (.inl rfl) rfl
     | inr y68 =>
      replace H := ofInr H
      intro e s q
      obtain ⟨rfl, rfl⟩ := q
      cases H
      exact And.intro (.inl rfl) rfl
def i_IsBoard_1_ir : S :=
 (sq [o 3 (.mv (.v (.bool false)))]
 (sq [om 4 0, o 5 (.fad 0 (.t 1)), o 6 (.fad 0 (.t 5)), o 7 (.load 1 false (.t 6)), o 8 (.len (.t 7)), o 9 (.bin .geq (.t 4) (.t 8)), om 3 9]
 .ret))
noncomputable def X.i_IsBoard_1 (p0 : Int) (p1 : TBoard) : Option Bool :=
 some (decide (p0 ≥ (p1.Rules.Terrains.length : Int)))
theorem i_IsBoard_1_ok (p0 : Int) (p1 : TBoard) (r : Bool) (H : X.i_IsBoard_1 p0 p1 = some r) : FnOk Tryz.prog gl 195 [cI p0, .c (.pd (eTBoard p1) 0)] (cB r) := by
 unfold X.i_IsBoard_1 at H
 refine fi Tryz.f195 i_IsBoard_1_ir [(3, cB r)] [] glL Tryz.func195 ?_
 refine so [] [] [(0, cI p0), (1, .c (.pd (eTBoard p1) 0))] [] id ?_
 refine so [] [] [(3, cB (decide (p0 ≥ (p1.Rules.Terrains.length : Int))))] [] (fun t => lI p1.Rules.Terrains (t)) ?_
 refine ends_ret ?_
 cases H
 exact And.intro (.inl rfl) rfl
def i_IsBoard_ir : S :=
 (sq [o 1 (.box 12 (.t 0)), o 2 (.mv (.v (.bool false)))]
 (.seq (sq [o 3 (.fad 0 (.t 1)), o 4 (.load 7 true (.t 3)), o 5 (.call 193 [.t 4]), o 6 (.not (.t 5)), om 7 6, ⟨some 8, .fad 7 (.t 1), some (7, false)⟩, ⟨some 9, .load 5 true (.t 8), some (7, false)⟩, ⟨some 10, .call 194 [.t 9], some (7, false)⟩, ⟨some 11, .not (.t 10), some (7, false)⟩, o 12 (.pick (.t 7) (.v (.bool true)) (.t 11))]
 (.ite (.t 12) (sq [o 2 (.mv (.v (.bool false)))]
  .ret)
 .skip))
 (sq [o 13 (.fad 7 (.t 1)), o 14 (.fad 2 (.t 13)), o 15 (.load 1 false (.t 14)), o 16 (.clo 195 [.t 1]), o 17 (.call 70 [.t 15, .t 16]), o 18 (.not (.t 17)), om 2 18]
 .ret)))
noncomputable def X.i_IsBoard (p0 : TBoard) : Option Bool :=
 ((X.i_IsRules p0.Rules).bind fun v7 => (bif (!v7) then some false else ((X.i_IsMap p0.Map).bind fun v10 => (bif (!v10) then some false else ((X.g_ContainsFunc_int p0.Map.Terrain (fun q0 => X.i_IsBoard_1 q0 p0)).bind fun v13 => some (!v13))))))
theorem i_IsBoard_ok (p0 : TBoard) (r : Bool) (H : X.i_IsBoard p0 = some r) : FnOk Tryz.prog gl 143 [.agg (eTBoard p0)] (cB r) := by
 unfold X.i_IsBoard at H
 refine fi Tryz.f143 i_IsBoard_ir [(2, cB r)] [] glL Tryz.func143 ?_
 refine so [] [] [(1, pk 1)] [(1, va (eTBoard p0))] id ?_
 refine seq_in ?_
 obtain ⟨v7, h8, H⟩ := ofBind H
 rcases ofCond H with ⟨c9, H⟩ | ⟨c9, H⟩
 ·refine so [.res (cB v7), .g true, .g true, .g true, .g true, .g true] [] [(1, pk 1), (12, cB true)] [(1, va (eTBoard p0))] (fun t => aI (i_IsRules_ok p0.Rules v7 h8) (aI c9 (aI c9 (aI c9 (aI c9 (aI c9 (t))))))) ?_
  refine it (rfl : (true : Bool) = true) ?_
  refine so [] [] [(2, cB false)] [] id ?_
  refine ends_ret ?_
  cases H
  exact And.intro (.inl rfl) rfl
 ·obtain ⟨v10, h11, H⟩ := ofBind H
  refine so [.res (cB v7), .g false, .g false, .g false, .res (cB v10), .g false, .g false] [] [(1, pk 1), (12, cB (!v10))] [(1, va (eTBoard p0))] (fun t => aI (i_IsRules_ok p0.Rules v7 h8) (aI c9 (aI c9 (aI c9 (aI (i_IsMap_ok p0.Map v10 h11) (aI c9 (aI c9 (t)))))))) ?_
  rcases ofCond H with ⟨c12, H⟩ | ⟨c12, H⟩
  ·refine it c12 ?_
   refine so [] [] [(2, cB false)] [] id ?_
   refine ends_ret ?_
   cases H
   exact And.intro (.inl rfl) rfl
  ·refine jf c12 ?_
   refine sk ?_
   obtain ⟨v13, h14, H⟩ := ofBind H
   refine so [.res (cB v13)] [] [(2, cB (!v13))] [] (aI (g_ContainsFunc_int_c1_ok p0.Map.Terrain (195) (eTBoard p0) (fun q0 => X.i_IsBoard_1 q0 p0) (fun q0 r h => i_IsBoard_1_ok q0 p0 r h) v13 h14)) ?_
   refine ends_ret ?_
   cases H
   exact And.intro (.inl rfl) rfl
def i_hasView_ir : S :=
 (sq [o 2 (.box 12 (.t 0)), o 3 (.box 6 (.t 1)), o 4 (.mv (.v (.bool false)))]
 (sq [o 5 (.load 12 true (.t 2)), o 6 (.call 143 [.t 5]), om 7 6, ⟨some 8, .load 12 true (.t 2), some (7, true)⟩, ⟨some 9, .load 6 true (.t 3), some (7, true)⟩, ⟨some 10, .call 89 [.t 8, .t 9], some (7, true)⟩, o 11 (.pick (.t 7) (.t 10) (.v (.bool false))), om 4 11]
 .ret))
noncomputable def X.i_hasView (p0 : TBoard) (p1 : TView) : Option Bool :=
 ((X.i_IsBoard p0).bind fun v1 => (bif v1 then ((X.i_goodView p0 p1).bind fun v4 => some v4) else some false))
theorem i_hasView_ok (p0 : TBoard) (p1 : TView) (r : Bool) (H : X.i_hasView p0 p1 = some r) : FnOk Tryz.prog gl 83 [.agg (eTBoard p0), .agg (eTView p1)] (cB r) := by
 unfold X.i_hasView at H
 refine fi Tryz.f83 i_hasView_ir [(4, cB r)] [] glL Tryz.func83 ?_
 refine so [] [] [(2, pk 2), (3, pk 3)] [(2, va (eTBoard p0)), (3, va (eTView p1))] id ?_
 obtain ⟨v1, h2, H⟩ := ofBind H
 rcases ofCond H with ⟨c3, H⟩ | ⟨c3, H⟩
 ·obtain ⟨v4, h5, H⟩ := ofBind H
  refine so [.res (cB v1), .g true, .g true, .g true, .res (cB v4), .g true] [] [(4, cB v4)] [] (fun t => aI (i_IsBoard_ok p0 v1 h2) (aI c3 (aI c3 (aI c3 (aI (i_goodView_ok p0 p1 v4 h5) (aI c3 (t))))))) ?_
  refine ends_ret ?_
  cases H
  exact And.intro (.inl rfl) rfl
 ·refine so [.res (cB v1), .g false, .g false, .g false, .g false] [] [(4, cB false)] [] (fun t => aI (i_IsBoard_ok p0 v1 h2) (aI c3 (aI c3 (aI c3 (aI c3 (t)))))) ?_
  refine ends_ret ?_
  cases H
  exact And.intro (.inl rfl) rfl
def i_without_ir : S :=
 (sq [o 4 (.mv (.v (.nil)))]
 (sq [o 8 (.bsl 1 []), om 5 8]
 (.seq (sq [om 9 0, o 10 (.len (.t 9)), o 11 (.mv (iv 0))]
 (.blk 0 (.loop (sq [o 12 (.bin .lss (.t 11) (.t 10))]
   (.seq (.ite (.t 12) .skip
   (.exit 0))
   (.seq (.blk 1 (sq [o 13 (.iad 1 (.t 9) (.t 11)), o 14 (.load 1 false (.t 13)), om 7 14]
    (sq [om 15 1, om 16 7, o 17 (.call 86 [.t 15, .t 16]), o 18 (.not (.t 17))]
    (.ite (.t 18) (.ops [om 19 5, om 20 7, o 21 (.bsl 1 [.t 20]), o 22 (.app 1 8 (.t 19) (.t 21)), om 5 22])
    .skip))))
   (.ops [o 23 (.bin .add (.t 11) (iv 1)), om 11 23])))))))
 (sq [om 24 5, om 4 24]
 .ret))))
noncomputable def X.i_without (p0 : (List Int)) (p1 : (List Int)) : Option (List Int) :=
 ((loop (fun (x18 : (Int × (List Int))) => ((bif (decide (x18.1 < (p0.length : Int))) then ((at' zI p0 x18.1).bind fun v21 => ((X.g_Contains_int p1 v21).bind fun v23 => (bif (!v23) then (if (x18.2 ++ ([v21] : List Int)).length ≤ LIM then some (Sum.inl ((W (x18.1 + 1)), (x18.2 ++ ([v21] : List Int)))) else none) else some (Sum.inl ((W (x18.1 + 1)), x18.2))))) else some (Sum.inr x18.2)) : Option ((Int × (List Int)) ⊕ (List Int)))) (0, ([] : List Int))).bind fun y27 => some y27)
theorem i_without_ok (p0 : (List Int)) (p1 : (List Int)) (r : (List Int)) (H : X.i_without p0 p1 = some r) : FnOk Tryz.prog gl 90 [.c (dat 1 eI zI p0), .c (dat 1 eI zI p1)] (.c (dat 1 eI zI r)) := by
 unfold X.i_without at H
 refine fi Tryz.f90 i_without_ir [(4, dc 1 eI zI r)] [] glL Tryz.func90 ?_
 refine so [] [] [(0, dc 1 eI zI p0), (1, dc 1 eI zI p1)] [] id ?_
 refine so [fh eI zI ([] : List Int)] [] [(0, dc 1 eI zI p0), (1, dc 1 eI zI p1), (5, ow 8 1 ([] : List Int))] [(8, ar 1 eI zI ([] : List Int))] (fun t => aI (rfl : ([] : List Int).length = 0) (aI (fF_lit eI zI ([] : List Int)) (t))) ?_
 refine seq_in ?_
 refine so [] [] [(1, dc 1 eI zI p1), (5, ow 8 1 ([] : List Int)), (9, dc 1 eI zI p0), (10, cL p0), (11, cI 0)] [(8, ar 1 eI zI ([] : List Int))] (fun t => lI p0 (t)) ?_
 refine ends_blk ?_
 obtain ⟨y27, h28, H⟩ := ofBind H
 refine tl [.ren 8 1001] [(1, dc 1 eI zI p1), (5, ow 1001 1 ([] : List Int)), (9, dc 1 eI zI p0), (10, cL p0), (11, cI 0)] [(1001, ar 1 eI zI ([] : List Int))] id ?_
 refine loop_in (fun (x : (Int × (List Int))) => lit [(1, dc 1 eI zI p1), (5, ow 1001 1 x.2), (9, dc 1 eI zI p0), (10, cL p0), (11, cI x.1)] [(1001, ar 1 eI zI x.2)]) (fun (z : (List Int)) => At (.exit 0) (lit [(5, ow 1001 1 z)] [(1001, ar 1 eI zI z)])) h28 ?_ ?_
 ·clear H h28
  intro x18 y0 H
  refine so [] [] [(1, dc 1 eI zI p1), (5, ow 1001 1 x18.2), (9, dc 1 eI zI p0), (10, cL p0), (11, cI x18.1), (12, cB (decide (x18.1 < (p0.length : Int))))] [(1001, ar 1 eI zI x18.2)] id ?_
  refine seq_in ?_
  rcases ofCond H with ⟨c20, H⟩ | ⟨c20, H⟩
  ·refine it c20 ?_
   refine sk ?_
   refine seq_in ?_
   refine ends_blk ?_
   obtain ⟨v21, h22, H⟩ := ofBind H
   refine so [.cs (eI v21)] [] [(1, dc 1 eI zI p1), (5, ow 1001 1 x18.2), (7, cI v21), (9, dc 1 eI zI p0), (10, cL p0), (11, cI x18.1)] [(1001, ar 1 eI zI x18.2)] (a2 eI h22) ?_
   obtain ⟨v23, h24, H⟩ := ofBind H
   refine so [.res (cB v23)] [] [(1, dc 1 eI zI p1), (5, ow 1001 1 x18.2), (7, cI v21), (9, dc 1 eI zI p0), (10, cL p0), (11, cI x18.1), (18, cB (!v23))] [(1001, ar 1 eI zI x18.2)] (aI (g_Contains_int_ok p1 v21 v23 h24)) ?_
   rcases ofCond H with ⟨c25, H⟩ | ⟨c25, H⟩
   ·refine it c25 ?_
    obtain ⟨g26, H⟩ := ofIf H
    refine oo [fh eI zI ([v21] : List Int), fh eI zI (x18.2 ++ ([v21] : List Int))] [] [(1, dc 1 eI zI p1), (5, ow 22 1 (x18.2 ++ ([v21] : List Int))), (9, dc 1 eI zI p0), (10, cL p0), (11, cI x18.1)] [(22, ar 1 eI zI (x18.2 ++ ([v21] : List Int)))] (fun t => aI (rfl : ([v21] : List Int).length = 1) (aI (fF_lit eI zI ([v21] : List Int)) (aI (And.intro (Nat.le_refl x18.2.length) (And.intro (@List.length_append _ x18.2 ([v21] : List Int)) g26)) (aI (fF_appL eI zI x18.2 ([v21] : List Int)) (aI (fF_appR eI zI x18.2 ([v21] : List Int)) (t)))))) ?_
    change EndsI _ _ _ _ _ _
    refine oo [] [.ren 22 1001] [(1, dc 1 eI zI p1), (5, ow 1001 1 (x18.2 ++ ([v21] : List Int))), (9, dc 1 eI zI p0), (10, cL p0), (11, cI (W (x18.1 + 1)))] [(1001, ar 1 eI zI (x18.2 ++ ([v21] : List Int)))] id ?_
    cases H
    exact And.intro rfl rfl
   ·refine jf c25 ?_
    refine sk ?_
    refine oo [] [] [(1, dc 1 eI zI p1), (5, ow 1001 1 x18.2), (9, dc 1 eI zI p0), (10, cL p0), (11, cI (W (x18.1 + 1)))] [(1001, ar 1 eI zI x18.2)] id ?_
    cases H
    exact And.intro rfl rfl
  ·refine jf c20 ?_
   refine tl [] [(5, ow 1001 1 x18.2)] [(1001, ar 1 eI zI x18.2)] id ?_
   refine ends_exit ?_
   cases H
   exact And.intro (by simp) (And.intro rfl rfl)
 ·clear h28
  intro e s q
  obtain ⟨rfl, rfl⟩ := q
  change EndsI _ _ _ _ _ _
  refine so [] [] [(4, ow 1001 1 y27)] [(1001, ar 1 eI zI y27)] id ?_
  refine tl [.frz 4] [(4, dc 1 eI zI y27)] [] (aI (Nat.le_refl y27.length)) ?_
  refine ends_ret ?_
  cases H
  exact And.intro (.inl rfl) rfl
def g_Index_Unit_ir : S :=
 (sq [o 3 (.box 4 (.t 1)), o 4 (.mv (iv 0))]
 (.seq (sq [om 6 0, o 7 (.len (.t 6)), o 8 (.mv (iv 0))]
 (.blk 0 (.loop (sq [o 9 (.bin .lss (.t 8) (.t 7))]
   (.seq (.ite (.t 9) .skip
   (.exit 0))
   (.seq (.blk 1 (sq [om 10 8, om 5 10]
    (.seq (.draw 6 [o 11 (.load 4 true (.t 3)), om 12 0, om 13 5, o 14 (.iad 4 (.t 12) (.t 13)), o 15 (.load 4 true (.t 14)), o 16 (.eqa false [1, 1, 1, 1] (.t 11) (.t 15))])
    (.ite (.t 16) (sq [om 17 5, om 4 17]
     .ret)
    .skip))))
   (.ops [o 18 (.bin .add (.t 8) (iv 1)), om 8 18])))))))
 (sq [o 4 (.mv (.v (.int .i64 (-1))))]
 .ret)))
noncomputable def X.g_Index_Unit (p0 : (List TUnit)) (p1 : TUnit) : Option Int :=
 ((loop (fun (x12 : Int) => ((bif (decide (x12 < (p0.length : Int))) then ((at' zTUnit p0 x12).bind fun v15 => (bif ((p1.Side == v15.Side) && ((p1.Kind == v15.Kind) && ((p1.At == v15.At) && ((p1.Steps == v15.Steps) && true)))) then some (Sum.inr (Sum.inr x12)) else some (Sum.inl (W (x12 + 1))))) else some (Sum.inr (Sum.inl ()))) : Option (Int ⊕ (Unit ⊕ Int)))) 0).bind fun y18 => (Sum.elim (fun (y20 : Unit) => some (-1)) (fun (y21 : Int) => some y21) y18))
theorem g_Index_Unit_ok (p0 : (List TUnit)) (p1 : TUnit) (r : Int) (H : X.g_Index_Unit p0 p1 = some r) : FnOk Tryz.prog gl 196 [.c (dat 4 eTUnit zTUnit p0), .agg (eTUnit p1)] (cI r) := by
 unfold X.g_Index_Unit at H
 refine fi Tryz.f196 g_Index_Unit_ir [(4, cI r)] [] glL Tryz.func196 ?_
 refine so [] [] [(0, dc 4 eTUnit zTUnit p0), (3, pk 3)] [(3, va (eTUnit p1))] id ?_
 refine seq_in ?_
 refine so [] [] [(0, dc 4 eTUnit zTUnit p0), (3, pk 3), (7, cL p0), (8, cI 0)] [(3, va (eTUnit p1))] (fun t => lI p0 (t)) ?_
 refine ends_blk ?_
 obtain ⟨y18, h19, H⟩ := ofBind H
 refine loop_in (fun (x : Int) => lit [(0, dc 4 eTUnit zTUnit p0), (3, pk 3), (7, cL p0), (8, cI x)] [(3, va (eTUnit p1))]) (orJ (fun (z : Unit) => At (.exit 0) (lit [] [])) (fun (z : Int) => At .ret (lit [(4, cI z)] []))) h19 ?_ ?_
 ·clear H h19
  intro x12 y0 H
  refine so [] [] [(0, dc 4 eTUnit zTUnit p0), (3, pk 3), (7, cL p0), (8, cI x12), (9, cB (decide (x12 < (p0.length : Int))))] [(3, va (eTUnit p1))] id ?_
  refine seq_in ?_
  rcases ofCond H with ⟨c14, H⟩ | ⟨c14, H⟩
  ·refine it c14 ?_
   refine sk ?_
   refine seq_in ?_
   refine ends_blk ?_
   refine so [] [] [(0, dc 4 eTUnit zTUnit p0), (3, pk 3), (5, cI x12), (7, cL p0), (8, cI x12)] [(3, va (eTUnit p1))] id ?_
   obtain ⟨v15, h16, H⟩ := ofBind H
   refine sd [.cs (eTUnit v15)] [] [(0, dc 4 eTUnit zTUnit p0), (3, pk 3), (5, cI x12), (7, cL p0), (8, cI x12), (16, cB ((p1.Side == v15.Side) && ((p1.Kind == v15.Kind) && ((p1.At == v15.At) && ((p1.Steps == v15.Steps) && true)))))] [(3, va (eTUnit p1))] (fun t => (a2 eTUnit h16 (aI (rfl : ([] : List Nat) = []) (t)))) ?_
   rcases ofCond H with ⟨c17, H⟩ | ⟨c17, H⟩
   ·refine it c17 ?_
    refine so [] [] [(4, cI x12)] [] id ?_
    refine ends_ret ?_
    cases H
    exact And.intro (by simp) (And.intro rfl rfl)
   ·refine jf c17 ?_
    refine sk ?_
    refine oo [] [] [(0, dc 4 eTUnit zTUnit p0), (3, pk 3), (7, cL p0), (8, cI (W (x12 + 1)))] [(3, va (eTUnit p1))] id ?_
    cases H
    exact And.intro rfl rfl
  ·refine jf c14 ?_
   refine tl [] [] [] id ?_
   refine ends_exit ?_
   cases H
   exact And.intro (by simp) (And.intro rfl rfl)
 ·clear h19
  cases y18 with
  | inl y20 =>
   replace H := ofInl H
   intro e s q
   obtain ⟨rfl, rfl⟩ := q
   change EndsI _ _ _ _ _ _
   refine so [] [] [(4, cI (-1))] [] id ?_
   refine ends_ret ?_
   cases H
   exact And.intro (.inl rfl) rfl
  | inr y21 =>
   replace H := ofInr H
   intro e s q
   obtain ⟨rfl, rfl⟩ := q
   cases H
   exact And.intro (.inl rfl) rfl
def g_Contains_Unit_ir : S :=
 (sq [o 3 (.box 4 (.t 1)), o 4 (.mv (.v (.bool false)))]
 (sq [om 5 0, o 6 (.load 4 true (.t 3)), o 7 (.call 196 [.t 5, .t 6]), o 8 (.bin .geq (.t 7) (iv 0)), om 4 8]
 .ret))
noncomputable def X.g_Contains_Unit (p0 : (List TUnit)) (p1 : TUnit) : Option Bool :=
 ((X.g_Index_Unit p0 p1).bind fun v1 => some (decide (v1 ≥ 0)))
theorem g_Contains_Unit_ok (p0 : (List TUnit)) (p1 : TUnit) (r : Bool) (H : X.g_Contains_Unit p0 p1 = some r) : FnOk Tryz.prog gl 152 [.c (dat 4 eTUnit zTUnit p0), .agg (eTUnit p1)] (cB r) := by
 unfold X.g_Contains_Unit at H
 refine fi Tryz.f152 g_Contains_Unit_ir [(4, cB r)] [] glL Tryz.func152 ?_
 refine so [] [] [(0, dc 4 eTUnit zTUnit p0), (3, pk 3)] [(3, va (eTUnit p1))] id ?_
 obtain ⟨v1, h2, H⟩ := ofBind H
 refine so [.res (cI v1)] [] [(4, cB (decide (v1 ≥ 0)))] [] (aI (g_Index_Unit_ok p0 p1 v1 h2)) ?_
 refine ends_ret ?_
 cases H
 exact And.intro (.inl rfl) rfl
def i_newUnits_ir : S :=
 (sq [o 4 (.mv (.v (.nil)))]
 (sq [o 8 (.bsl 1 []), om 5 8]
 (.seq (sq [om 9 0, o 10 (.len (.t 9)), o 11 (.mv (iv 0))]
 (.blk 0 (.loop (sq [o 12 (.bin .lss (.t 11) (.t 10))]
   (.seq (.ite (.t 12) .skip
   (.exit 0))
   (.seq (.blk 1 (sq [om 13 11, o 14 (.iad 4 (.t 9) (.t 11)), o 15 (.load 4 true (.t 14)), o 7 (.alloc [.int .i64 0, .int .i64 0, .int .i64 0, .int .i64 0]), om 6 13, ⟨none, .store 4 (.t 7) (.t 15), none⟩]
    (sq [om 16 1, o 17 (.load 4 true (.t 7)), o 18 (.call 152 [.t 16, .t 17]), o 19 (.not (.t 18))]
    (.ite (.t 19) (.ops [om 20 5, om 21 6, o 22 (.bsl 1 [.t 21]), o 23 (.app 1 8 (.t 20) (.t 22)), om 5 23])
    .skip))))
   (.ops [o 24 (.bin .add (.t 11) (iv 1)), om 11 24])))))))
 (sq [om 25 5, om 4 25]
 .ret))))
noncomputable def X.i_newUnits (p0 : (List TUnit)) (p1 : (List TUnit)) : Option (List Int) :=
 ((loop (fun (x18 : (Int × (List Int))) => ((bif (decide (x18.1 < (p0.length : Int))) then ((at' zTUnit p0 x18.1).bind fun v21 => ((X.g_Contains_Unit p1 v21).bind fun v23 => (bif (!v23) then (if (x18.2 ++ ([x18.1] : List Int)).length ≤ LIM then some (Sum.inl ((W (x18.1 + 1)), (x18.2 ++ ([x18.1] : List Int)))) else none) else some (Sum.inl ((W (x18.1 + 1)), x18.2))))) else some (Sum.inr x18.2)) : Option ((Int × (List Int)) ⊕ (List Int)))) (0, ([] : List Int))).bind fun y27 => some y27)
theorem i_newUnits_ok (p0 : (List TUnit)) (p1 : (List TUnit)) (r : (List Int)) (H : X.i_newUnits p0 p1 = some r) : FnOk Tryz.prog gl 91 [.c (dat 4 eTUnit zTUnit p0), .c (dat 4 eTUnit zTUnit p1)] (.c (dat 1 eI zI r)) := by
 unfold X.i_newUnits at H
 refine fi Tryz.f91 i_newUnits_ir [(4, dc 1 eI zI r)] [] glL Tryz.func91 ?_
 refine so [] [] [(0, dc 4 eTUnit zTUnit p0), (1, dc 4 eTUnit zTUnit p1)] [] id ?_
 refine so [fh eI zI ([] : List Int)] [] [(0, dc 4 eTUnit zTUnit p0), (1, dc 4 eTUnit zTUnit p1), (5, ow 8 1 ([] : List Int))] [(8, ar 1 eI zI ([] : List Int))] (fun t => aI (rfl : ([] : List Int).length = 0) (aI (fF_lit eI zI ([] : List Int)) (t))) ?_
 refine seq_in ?_
 refine so [] [] [(1, dc 4 eTUnit zTUnit p1), (5, ow 8 1 ([] : List Int)), (9, dc 4 eTUnit zTUnit p0), (10, cL p0), (11, cI 0)] [(8, ar 1 eI zI ([] : List Int))] (fun t => lI p0 (t)) ?_
 refine ends_blk ?_
 obtain ⟨y27, h28, H⟩ := ofBind H
 refine tl [.ren 8 1001] [(1, dc 4 eTUnit zTUnit p1), (5, ow 1001 1 ([] : List Int)), (9, dc 4 eTUnit zTUnit p0), (10, cL p0), (11, cI 0)] [(1001, ar 1 eI zI ([] : List Int))] id ?_
 refine loop_in (fun (x : (Int × (List Int))) => lit [(1, dc 4 eTUnit zTUnit p1), (5, ow 1001 1 x.2), (9, dc 4 eTUnit zTUnit p0), (10, cL p0), (11, cI x.1)] [(1001, ar 1 eI zI x.2)]) (fun (z : (List Int)) => At (.exit 0) (lit [(5, ow 1001 1 z)] [(1001, ar 1 eI zI z)])) h28 ?_ ?_
 ·clear H h28
  intro x18 y0 H
  refine so [] [] [(1, dc 4 eTUnit zTUnit p1), (5, ow 1001 1 x18.2), (9, dc 4 eTUnit zTUnit p0), (10, cL p0), (11, cI x18.1), (12, cB (decide (x18.1 < (p0.length : Int))))] [(1001, ar 1 eI zI x18.2)] id ?_
  refine seq_in ?_
  rcases ofCond H with ⟨c20, H⟩ | ⟨c20, H⟩
  ·refine it c20 ?_
   refine sk ?_
   refine seq_in ?_
   refine ends_blk ?_
   obtain ⟨v21, h22, H⟩ := ofBind H
   refine so [.cs (eTUnit v21)] [] [(1, dc 4 eTUnit zTUnit p1), (5, ow 1001 1 x18.2), (6, cI x18.1), (7, pk 7), (9, dc 4 eTUnit zTUnit p0), (10, cL p0), (11, cI x18.1)] [(7, va (eTUnit v21)), (1001, ar 1 eI zI x18.2)] (a2 eTUnit h22) ?_
   obtain ⟨v23, h24, H⟩ := ofBind H
   refine so [.res (cB v23)] [] [(1, dc 4 eTUnit zTUnit p1), (5, ow 1001 1 x18.2), (6, cI x18.1), (9, dc 4 eTUnit zTUnit p0), (10, cL p0), (11, cI x18.1), (19, cB (!v23))] [(1001, ar 1 eI zI x18.2)] (aI (g_Contains_Unit_ok p1 v21 v23 h24)) ?_
   rcases ofCond H with ⟨c25, H⟩ | ⟨c25, H⟩
   ·refine it c25 ?_
    obtain ⟨g26, H⟩ := ofIf H
    refine oo [fh eI zI ([x18.1] : List Int), fh eI zI (x18.2 ++ ([x18.1] : List Int))] [] [(1, dc 4 eTUnit zTUnit p1), (5, ow 23 1 (x18.2 ++ ([x18.1] : List Int))), (9, dc 4 eTUnit zTUnit p0), (10, cL p0), (11, cI x18.1)] [(23, ar 1 eI zI (x18.2 ++ ([x18.1] : List Int)))] (fun t => aI (rfl : ([x18.1] : List Int).length = 1) (aI (fF_lit eI zI ([x18.1] : List Int)) (aI (And.intro (Nat.le_refl x18.2.length) (And.intro (@List.length_append _ x18.2 ([x18.1] : List Int)) g26)) (aI (fF_appL eI zI x18.2 ([x18.1] : List Int)) (aI (fF_appR eI zI x18.2 ([x18.1] : List Int)) (t)))))) ?_
    change EndsI _ _ _ _ _ _
    refine oo [] [.ren 23 1001] [(1, dc 4 eTUnit zTUnit p1), (5, ow 1001 1 (x18.2 ++ ([x18.1] : List Int))), (9, dc 4 eTUnit zTUnit p0), (10, cL p0), (11, cI (W (x18.1 + 1)))] [(1001, ar 1 eI zI (x18.2 ++ ([x18.1] : List Int)))] id ?_
    cases H
    exact And.intro rfl rfl
   ·refine jf c25 ?_
    refine sk ?_
    refine oo [] [] [(1, dc 4 eTUnit zTUnit p1), (5, ow 1001 1 x18.2), (9, dc 4 eTUnit zTUnit p0), (10, cL p0), (11, cI (W (x18.1 + 1)))] [(1001, ar 1 eI zI x18.2)] id ?_
    cases H
    exact And.intro rfl rfl
  ·refine jf c20 ?_
   refine tl [] [(5, ow 1001 1 x18.2)] [(1001, ar 1 eI zI x18.2)] id ?_
   refine ends_exit ?_
   cases H
   exact And.intro (by simp) (And.intro rfl rfl)
 ·clear h28
  intro e s q
  obtain ⟨rfl, rfl⟩ := q
  change EndsI _ _ _ _ _ _
  refine so [] [] [(4, ow 1001 1 y27)] [(1001, ar 1 eI zI y27)] id ?_
  refine tl [.frz 4] [(4, dc 1 eI zI y27)] [] (aI (Nat.le_refl y27.length)) ?_
  refine ends_ret ?_
  cases H
  exact And.intro (.inl rfl) rfl
def i_NewsOf_ir : S :=
 (sq [o 3 (.box 12 (.t 0)), o 4 (.box 6 (.t 1)), o 5 (.box 6 (.t 2)), o 6 (.mv (.v (.nil))), o 7 (.mv (.v (.nil))), o 8 (.mv (.v (.nil))), o 9 (.mv (.v (.nil))), o 10 (.mv (.v (.bool false)))]
 (.seq (sq [o 11 (.load 12 true (.t 3)), o 12 (.load 6 true (.t 4)), o 13 (.call 83 [.t 11, .t 12]), o 14 (.not (.t 13)), om 15 14, ⟨some 16, .load 12 true (.t 3), some (15, false)⟩, ⟨some 17, .load 6 true (.t 5), some (15, false)⟩, ⟨some 18, .call 89 [.t 16, .t 17], some (15, false)⟩, ⟨some 19, .not (.t 18), some (15, false)⟩, o 20 (.pick (.t 15) (.v (.bool true)) (.t 19)), om 21 20, ⟨some 22, .fad 0 (.t 4), some (21, false)⟩, ⟨some 23, .load 1 false (.t 22), some (21, false)⟩, ⟨some 24, .fad 0 (.t 5), some (21, false)⟩, ⟨some 25, .load 1 false (.t 24), some (21, false)⟩, ⟨some 26, .bin .neq (.t 23) (.t 25), some (21, false)⟩, o 27 (.pick (.t 21) (.v (.bool true)) (.t 26))]
 (.ite (.t 27) (sq [o 6 (.mv (.v (.nil))), o 7 (.mv (.v (.nil))), o 8 (.mv (.v (.nil))), o 9 (.mv (.v (.nil))), o 10 (.mv (.v (.bool false)))]
  .ret)
 .skip))
 (.seq (.draw 25 [o 28 (.fad 3 (.t 5)), o 29 (.load 1 false (.t 28)), o 30 (.fad 3 (.t 4)), o 31 (.load 1 false (.t 30)), o 32 (.call 90 [.t 29, .t 31]), o 33 (.fad 3 (.t 4)), o 34 (.load 1 false (.t 33)), o 35 (.fad 3 (.t 5)), o 36 (.load 1 false (.t 35)), o 37 (.call 90 [.t 34, .t 36]), o 38 (.fad 5 (.t 5)), o 39 (.load 1 false (.t 38)), o 40 (.fad 5 (.t 4)), o 41 (.load 1 false (.t 40)), o 42 (.call 91 [.t 39, .t 41]), o 43 (.fad 5 (.t 4)), o 44 (.load 1 false (.t 43)), o 45 (.fad 5 (.t 5)), o 46 (.load 1 false (.t 45)), o 47 (.call 91 [.t 44, .t 46]), om 6 32, om 7 37, om 8 42, om 9 47, o 10 (.mv (.v (.bool true)))])
 .ret)))
noncomputable def X.i_NewsOf (p0 : TBoard) (p1 : TView) (p2 : TView) : Option ((List Int) × (List Int) × (List Int) × (List Int) × Bool) :=
 ((X.i_hasView p0 p1).bind fun v8 => (bif (!v8) then some (([] : List Int), ([] : List Int), ([] : List Int), ([] : List Int), false) else ((X.i_goodView p0 p2).bind fun v11 => (bif (!v11) then some (([] : List Int), ([] : List Int), ([] : List Int), ([] : List Int), false) else (bif (p1.Side != p2.Side) then some (([] : List Int), ([] : List Int), ([] : List Int), ([] : List Int), false) else ((X.i_without p2.Seen p1.Seen).bind fun v15 => ((X.i_without p1.Seen p2.Seen).bind fun v17 => ((X.i_newUnits p2.Enemies p1.Enemies).bind fun v19 => ((X.i_newUnits p1.Enemies p2.Enemies).bind fun v21 => some (v15, v17, v19, v21, true))))))))))
theorem i_NewsOf_ok (p0 : TBoard) (p1 : TView) (p2 : TView) (r : ((List Int) × (List Int) × (List Int) × (List Int) × Bool)) (H : X.i_NewsOf p0 p1 p2 = some r) : FnOk Tryz.prog gl 32 [.agg (eTBoard p0), .agg (eTView p1), .agg (eTView p2)] (.tup [(false, [dat 1 eI zI r.1]), (false, [dat 1 eI zI r.2.1]), (false, [dat 1 eI zI r.2.2.1]), (false, [dat 1 eI zI r.2.2.2.1]), (false, [.bool r.2.2.2.2])]) := by
 unfold X.i_NewsOf at H
 refine fi Tryz.f32 i_NewsOf_ir [(6, dc 1 eI zI r.1), (7, dc 1 eI zI r.2.1), (8, dc 1 eI zI r.2.2.1), (9, dc 1 eI zI r.2.2.2.1), (10, cB r.2.2.2.2)] [] glL Tryz.func32 ?_
 refine so [] [] [(3, pk 3), (4, pk 4), (5, pk 5)] [(3, va (eTBoard p0)), (4, va (eTView p1)), (5, va (eTView p2))] id ?_
 refine seq_in ?_
 obtain ⟨v8, h9, H⟩ := ofBind H
 rcases ofCond H with ⟨c10, H⟩ | ⟨c10, H⟩
 ·refine so [.res (cB v8), .g true, .g true, .g true, .g true, .g true, .g true, .g true, .g true, .g true, .g true, .g true] [] [(4, pk 4), (5, pk 5), (27, cB true)] [(4, va (eTView p1)), (5, va (eTView p2))] (fun t => aI (i_hasView_ok p0 p1 v8 h9) (aI c10 (aI c10 (aI c10 (aI c10 (aI c10 (aI (rfl : (true : Bool) = true) (aI (rfl : (true : Bool) = true) (aI (rfl : (true : Bool) = true) (aI (rfl : (true : Bool) = true) (aI (rfl : (true : Bool) = true) (aI (rfl : (true : Bool) = true) (t))))))))))))) ?_
  refine it (rfl : (true : Bool) = true) ?_
  refine so [] [] [(6, .c (.nil)), (7, .c (.nil)), (8, .c (.nil)), (9, .c (.nil)), (10, cB false)] [] id ?_
  refine tl [.nld 6 1 (fF eI zI ([] : List Int)), .nld 7 1 (fF eI zI ([] : List Int)), .nld 8 1 (fF eI zI ([] : List Int)), .nld 9 1 (fF eI zI ([] : List Int))] [(6, .c (dat 1 eI zI ([] : List Int))), (7, .c (dat 1 eI zI ([] : List Int))), (8, .c (dat 1 eI zI ([] : List Int))), (9, .c (dat 1 eI zI ([] : List Int))), (10, cB false)] [] id ?_
  refine ends_ret ?_
  cases H
  exact And.intro (.inl rfl) rfl
 ·obtain ⟨v11, h12, H⟩ := ofBind H
  rcases ofCond H with ⟨c13, H⟩ | ⟨c13, H⟩
  ·refine so [.res (cB v8), .g false, .g false, .g false, .res (cB v11), .g false, .g false, .g true, .g true, .g true, .g true, .g true, .g true] [] [(4, pk 4), (5, pk 5), (27, cB true)] [(4, va (eTView p1)), (5, va (eTView p2))] (fun t => aI (i_hasView_ok p0 p1 v8 h9) (aI c10 (aI c10 (aI c10 (aI (i_goodView_ok p0 p2 v11 h12) (aI c10 (aI c10 (aI c13 (aI c13 (aI c13 (aI c13 (aI c13 (aI c13 (t)))))))))))))) ?_
   refine it (rfl : (true : Bool) = true) ?_
   refine so [] [] [(6, .c (.nil)), (7, .c (.nil)), (8, .c (.nil)), (9, .c (.nil)), (10, cB false)] [] id ?_
   refine tl [.nld 6 1 (fF eI zI ([] : List Int)), .nld 7 1 (fF eI zI ([] : List Int)), .nld 8 1 (fF eI zI ([] : List Int)), .nld 9 1 (fF eI zI ([] : List Int))] [(6, .c (dat 1 eI zI ([] : List Int))), (7, .c (dat 1 eI zI ([] : List Int))), (8, .c (dat 1 eI zI ([] : List Int))), (9, .c (dat 1 eI zI ([] : List Int))), (10, cB false)] [] id ?_
   refine ends_ret ?_
   cases H
   exact And.intro (.inl rfl) rfl
  ·refine so [.res (cB v8), .g false, .g false, .g false, .res (cB v11), .g false, .g false, .g false, .g false, .g false, .g false, .g false, .g false] [] [(4, pk 4), (5, pk 5), (27, cB (p1.Side != p2.Side))] [(4, va (eTView p1)), (5, va (eTView p2))] (fun t => aI (i_hasView_ok p0 p1 v8 h9) (aI c10 (aI c10 (aI c10 (aI (i_goodView_ok p0 p2 v11 h12) (aI c10 (aI c10 (aI c13 (aI c13 (aI c13 (aI c13 (aI c13 (aI c13 (t)))))))))))))) ?_
   rcases ofCond H with ⟨c14, H⟩ | ⟨c14, H⟩
   ·refine it c14 ?_
    refine so [] [] [(6, .c (.nil)), (7, .c (.nil)), (8, .c (.nil)), (9, .c (.nil)), (10, cB false)] [] id ?_
    refine tl [.nld 6 1 (fF eI zI ([] : List Int)), .nld 7 1 (fF eI zI ([] : List Int)), .nld 8 1 (fF eI zI ([] : List Int)), .nld 9 1 (fF eI zI ([] : List Int))] [(6, .c (dat 1 eI zI ([] : List Int))), (7, .c (dat 1 eI zI ([] : List Int))), (8, .c (dat 1 eI zI ([] : List Int))), (9, .c (dat 1 eI zI ([] : List Int))), (10, cB false)] [] id ?_
    refine ends_ret ?_
    cases H
    exact And.intro (.inl rfl) rfl
   ·refine jf c14 ?_
    refine sk ?_
    obtain ⟨v15, h16, H⟩ := ofBind H
    obtain ⟨v17, h18, H⟩ := ofBind H
    obtain ⟨v19, h20, H⟩ := ofBind H
    obtain ⟨v21, h22, H⟩ := ofBind H
    refine sd [.res (dc 1 eI zI v15), .res (dc 1 eI zI v17), .res (dc 1 eI zI v19), .res (dc 1 eI zI v21)] [] [(6, dc 1 eI zI v15), (7, dc 1 eI zI v17), (8, dc 1 eI zI v19), (9, dc 1 eI zI v21), (10, cB true)] [] (fun t => aI (i_without_ok p2.Seen p1.Seen v15 h16) (aI (rfl : ([] : List Nat) = []) (aI (rfl : ([] : List Nat) = []) (aI (i_without_ok p1.Seen p2.Seen v17 h18) (aI (rfl : ([] : List Nat) = []) (aI (rfl : ([] : List Nat) = []) (aI (i_newUnits_ok p2.Enemies p1.Enemies v19 h20) (aI (rfl : ([] : List Nat) = []) (aI (rfl : ([] : List Nat) = []) (aI (i_newUnits_ok p1.Enemies p2.Enemies v21 h22) (aI (rfl : ([] : List Nat) = []) (aI (rfl : ([] : List Nat) = []) (t))))))))))))) ?_
    refine ends_ret ?_
    cases H
    exact And.intro (.inl rfl) rfl
theorem i_without_Mdd_ok (p0 : (List Int)) (p1 : (List Int)) (r : (List Int)) (H : X.i_without p0 p1 = some r) : FnMu Tryz.prog gl 90 [.c (dat 1 eI zI p0), .c (dat 1 eI zI p1)] [] (.c (.own 900000 1 0 r.length)) [(900000, .arr 1 r.length (fF eI zI r) false)] := by
 unfold X.i_without at H
 refine fn_mu (fn := Tryz.f90) (ir := i_without_ir) (E' := [(4, ow 900000 1 r)]) (E1 := [(900000, ar 1 eI zI r)]) glL Tryz.func90 (by kernel_rfl) (by kernel_rfl) (by kernel_rfl) (by kernel_rfl) (by kernel_rfl) ?_
 refine so [] [] [(0, dc 1 eI zI p0), (1, dc 1 eI zI p1)] [] id ?_
 refine so [fh eI zI ([] : List Int)] [] [(0, dc 1 eI zI p0), (1, dc 1 eI zI p1), (5, ow 8 1 ([] : List Int))] [(8, ar 1 eI zI ([] : List Int))] (fun t => aI (rfl : ([] : List Int).length = 0) (aI (fF_lit eI zI ([] : List Int)) (t))) ?_
 refine seq_in ?_
 refine so [] [] [(1, dc 1 eI zI p1), (5, ow 8 1 ([] : List Int)), (9, dc 1 eI zI p0), (10, cL p0), (11, cI 0)] [(8, ar 1 eI zI ([] : List Int))] (fun t => lI p0 (t)) ?_
 refine ends_blk ?_
 obtain ⟨y27, h28, H⟩ := ofBind H
 refine tl [.ren 8 1001] [(1, dc 1 eI zI p1), (5, ow 1001 1 ([] : List Int)), (9, dc 1 eI zI p0), (10, cL p0), (11, cI 0)] [(1001, ar 1 eI zI ([] : List Int))] id ?_
 refine loop_in (fun (x : (Int × (List Int))) => lit [(1, dc 1 eI zI p1), (5, ow 1001 1 x.2), (9, dc 1 eI zI p0), (10, cL p0), (11, cI x.1)] [(1001, ar 1 eI zI x.2)]) (fun (z : (List Int)) => At (.exit 0) (lit [(5, ow 1001 1 z)] [(1001, ar 1 eI zI z)])) h28 ?_ ?_
 ·clear H h28
  intro x18 y0 H
  refine so [] [] [(1, dc 1 eI zI p1), (5, ow 1001 1 x18.2), (9, dc 1 eI zI p0), (10, cL p0), (11, cI x18.1), (12, cB (decide (x18.1 < (p0.length : Int))))] [(1001, ar 1 eI zI x18.2)] id ?_
  refine seq_in ?_
  rcases ofCond H with ⟨c20, H⟩ | ⟨c20, H⟩
  ·refine it c20 ?_
   refine sk ?_
   refine seq_in ?_
   refine ends_blk ?_
   obtain ⟨v21, h22, H⟩ := ofBind H
   refine so [.cs (eI v21)] [] [(1, dc 1 eI zI p1), (5, ow 1001 1 x18.2), (7, cI v21), (9, dc 1 eI zI p0), (10, cL p0), (11, cI x18.1)] [(1001, ar 1 eI zI x18.2)] (a2 eI h22) ?_
   obtain ⟨v23, h24, H⟩ := ofBind H
   refine so [.res (cB v23)] [] [(1, dc 1 eI zI p1), (5, ow 1001 1 x18.2), (7, cI v21), (9, dc 1 eI zI p0), (10, cL p0), (11, cI x18.1), (18, cB (!v23))] [(1001, ar 1 eI zI x18.2)] (aI (g_Contains_int_ok p1 v21 v23 h24)) ?_
   rcases ofCond H with ⟨c25, H⟩ | ⟨c25, H⟩
   ·refine it c25 ?_
    obtain ⟨g26, H⟩ := ofIf H
    refine oo [fh eI zI ([v21] : List Int), fh eI zI (x18.2 ++ ([v21] : List Int))] [] [(1, dc 1 eI zI p1), (5, ow 22 1 (x18.2 ++ ([v21] : List Int))), (9, dc 1 eI zI p0), (10, cL p0), (11, cI x18.1)] [(22, ar 1 eI zI (x18.2 ++ ([v21] : List Int)))] (fun t => aI (rfl : ([v21] : List Int).length = 1) (aI (fF_lit eI zI ([v21] : List Int)) (aI (And.intro (Nat.le_refl x18.2.length) (And.intro (@List.length_append _ x18.2 ([v21] : List Int)) g26)) (aI (fF_appL eI zI x18.2 ([v21] : List Int)) (aI (fF_appR eI zI x18.2 ([v21] : List Int)) (t)))))) ?_
    change EndsI _ _ _ _ _ _
    refine oo [] [.ren 22 1001] [(1, dc 1 eI zI p1), (5, ow 1001 1 (x18.2 ++ ([v21] : List Int))), (9, dc 1 eI zI p0), (10, cL p0), (11, cI (W (x18.1 + 1)))] [(1001, ar 1 eI zI (x18.2 ++ ([v21] : List Int)))] id ?_
    cases H
    exact And.intro rfl rfl
   ·refine jf c25 ?_
    refine sk ?_
    refine oo [] [] [(1, dc 1 eI zI p1), (5, ow 1001 1 x18.2), (9, dc 1 eI zI p0), (10, cL p0), (11, cI (W (x18.1 + 1)))] [(1001, ar 1 eI zI x18.2)] id ?_
    cases H
    exact And.intro rfl rfl
  ·refine jf c20 ?_
   refine tl [] [(5, ow 1001 1 x18.2)] [(1001, ar 1 eI zI x18.2)] id ?_
   refine ends_exit ?_
   cases H
   exact And.intro (by simp) (And.intro rfl rfl)
 ·clear h28
  intro e s q
  obtain ⟨rfl, rfl⟩ := q
  change EndsI _ _ _ _ _ _
  refine so [] [] [(4, ow 1001 1 y27)] [(1001, ar 1 eI zI y27)] id ?_
  refine tl [.ren 1001 900000] [(4, ow 900000 1 y27)] [(900000, ar 1 eI zI y27)] id ?_
  refine ends_ret ?_
  cases H
  exact And.intro (.inl rfl) rfl
theorem i_newUnits_Mdd_ok (p0 : (List TUnit)) (p1 : (List TUnit)) (r : (List Int)) (H : X.i_newUnits p0 p1 = some r) : FnMu Tryz.prog gl 91 [.c (dat 4 eTUnit zTUnit p0), .c (dat 4 eTUnit zTUnit p1)] [] (.c (.own 900000 1 0 r.length)) [(900000, .arr 1 r.length (fF eI zI r) false)] := by
 unfold X.i_newUnits at H
 refine fn_mu (fn := Tryz.f91) (ir := i_newUnits_ir) (E' := [(4, ow 900000 1 r)]) (E1 := [(900000, ar 1 eI zI r)]) glL Tryz.func91 (by kernel_rfl) (by kernel_rfl) (by kernel_rfl) (by kernel_rfl) (by kernel_rfl) ?_
 refine so [] [] [(0, dc 4 eTUnit zTUnit p0), (1, dc 4 eTUnit zTUnit p1)] [] id ?_
 refine so [fh eI zI ([] : List Int)] [] [(0, dc 4 eTUnit zTUnit p0), (1, dc 4 eTUnit zTUnit p1), (5, ow 8 1 ([] : List Int))] [(8, ar 1 eI zI ([] : List Int))] (fun t => aI (rfl : ([] : List Int).length = 0) (aI (fF_lit eI zI ([] : List Int)) (t))) ?_
 refine seq_in ?_
 refine so [] [] [(1, dc 4 eTUnit zTUnit p1), (5, ow 8 1 ([] : List Int)), (9, dc 4 eTUnit zTUnit p0), (10, cL p0), (11, cI 0)] [(8, ar 1 eI zI ([] : List Int))] (fun t => lI p0 (t)) ?_
 refine ends_blk ?_
 obtain ⟨y27, h28, H⟩ := ofBind H
 refine tl [.ren 8 1001] [(1, dc 4 eTUnit zTUnit p1), (5, ow 1001 1 ([] : List Int)), (9, dc 4 eTUnit zTUnit p0), (10, cL p0), (11, cI 0)] [(1001, ar 1 eI zI ([] : List Int))] id ?_
 refine loop_in (fun (x : (Int × (List Int))) => lit [(1, dc 4 eTUnit zTUnit p1), (5, ow 1001 1 x.2), (9, dc 4 eTUnit zTUnit p0), (10, cL p0), (11, cI x.1)] [(1001, ar 1 eI zI x.2)]) (fun (z : (List Int)) => At (.exit 0) (lit [(5, ow 1001 1 z)] [(1001, ar 1 eI zI z)])) h28 ?_ ?_
 ·clear H h28
  intro x18 y0 H
  refine so [] [] [(1, dc 4 eTUnit zTUnit p1), (5, ow 1001 1 x18.2), (9, dc 4 eTUnit zTUnit p0), (10, cL p0), (11, cI x18.1), (12, cB (decide (x18.1 < (p0.length : Int))))] [(1001, ar 1 eI zI x18.2)] id ?_
  refine seq_in ?_
  rcases ofCond H with ⟨c20, H⟩ | ⟨c20, H⟩
  ·refine it c20 ?_
   refine sk ?_
   refine seq_in ?_
   refine ends_blk ?_
   obtain ⟨v21, h22, H⟩ := ofBind H
   refine so [.cs (eTUnit v21)] [] [(1, dc 4 eTUnit zTUnit p1), (5, ow 1001 1 x18.2), (6, cI x18.1), (7, pk 7), (9, dc 4 eTUnit zTUnit p0), (10, cL p0), (11, cI x18.1)] [(7, va (eTUnit v21)), (1001, ar 1 eI zI x18.2)] (a2 eTUnit h22) ?_
   obtain ⟨v23, h24, H⟩ := ofBind H
   refine so [.res (cB v23)] [] [(1, dc 4 eTUnit zTUnit p1), (5, ow 1001 1 x18.2), (6, cI x18.1), (9, dc 4 eTUnit zTUnit p0), (10, cL p0), (11, cI x18.1), (19, cB (!v23))] [(1001, ar 1 eI zI x18.2)] (aI (g_Contains_Unit_ok p1 v21 v23 h24)) ?_
   rcases ofCond H with ⟨c25, H⟩ | ⟨c25, H⟩
   ·refine it c25 ?_
    obtain ⟨g26, H⟩ := ofIf H
    refine oo [fh eI zI ([x18.1] : List Int), fh eI zI (x18.2 ++ ([x18.1] : List Int))] [] [(1, dc 4 eTUnit zTUnit p1), (5, ow 23 1 (x18.2 ++ ([x18.1] : List Int))), (9, dc 4 eTUnit zTUnit p0), (10, cL p0), (11, cI x18.1)] [(23, ar 1 eI zI (x18.2 ++ ([x18.1] : List Int)))] (fun t => aI (rfl : ([x18.1] : List Int).length = 1) (aI (fF_lit eI zI ([x18.1] : List Int)) (aI (And.intro (Nat.le_refl x18.2.length) (And.intro (@List.length_append _ x18.2 ([x18.1] : List Int)) g26)) (aI (fF_appL eI zI x18.2 ([x18.1] : List Int)) (aI (fF_appR eI zI x18.2 ([x18.1] : List Int)) (t)))))) ?_
    change EndsI _ _ _ _ _ _
    refine oo [] [.ren 23 1001] [(1, dc 4 eTUnit zTUnit p1), (5, ow 1001 1 (x18.2 ++ ([x18.1] : List Int))), (9, dc 4 eTUnit zTUnit p0), (10, cL p0), (11, cI (W (x18.1 + 1)))] [(1001, ar 1 eI zI (x18.2 ++ ([x18.1] : List Int)))] id ?_
    cases H
    exact And.intro rfl rfl
   ·refine jf c25 ?_
    refine sk ?_
    refine oo [] [] [(1, dc 4 eTUnit zTUnit p1), (5, ow 1001 1 x18.2), (9, dc 4 eTUnit zTUnit p0), (10, cL p0), (11, cI (W (x18.1 + 1)))] [(1001, ar 1 eI zI x18.2)] id ?_
    cases H
    exact And.intro rfl rfl
  ·refine jf c20 ?_
   refine tl [] [(5, ow 1001 1 x18.2)] [(1001, ar 1 eI zI x18.2)] id ?_
   refine ends_exit ?_
   cases H
   exact And.intro (by simp) (And.intro rfl rfl)
 ·clear h28
  intro e s q
  obtain ⟨rfl, rfl⟩ := q
  change EndsI _ _ _ _ _ _
  refine so [] [] [(4, ow 1001 1 y27)] [(1001, ar 1 eI zI y27)] id ?_
  refine tl [.ren 1001 900000] [(4, ow 900000 1 y27)] [(900000, ar 1 eI zI y27)] id ?_
  refine ends_ret ?_
  cases H
  exact And.intro (.inl rfl) rfl
theorem i_NewsOf_Mddd_ok (p0 : TBoard) (p1 : TView) (p2 : TView) (r : ((List Int) × (List Int) × (List Int) × (List Int) × Bool)) (H : X.i_NewsOf p0 p1 p2 = some r) : FnMu Tryz.prog gl 32 [.agg (eTBoard p0), .agg (eTView p1), .agg (eTView p2)] [] (.tup [(false, [.own 900000 1 0 r.1.length]), (false, [.own 900001 1 0 r.2.1.length]), (false, [.own 900002 1 0 r.2.2.1.length]), (false, [.own 900003 1 0 r.2.2.2.1.length]), (false, [.bool r.2.2.2.2])]) [(900000, .arr 1 r.1.length (fF eI zI r.1) false), (900001, .arr 1 r.2.1.length (fF eI zI r.2.1) false), (900002, .arr 1 r.2.2.1.length (fF eI zI r.2.2.1) false), (900003, .arr 1 r.2.2.2.1.length (fF eI zI r.2.2.2.1) false)] := by
 unfold X.i_NewsOf at H
 refine fn_mu (fn := Tryz.f32) (ir := i_NewsOf_ir) (E' := [(6, ow 900000 1 r.1), (7, ow 900001 1 r.2.1), (8, ow 900002 1 r.2.2.1), (9, ow 900003 1 r.2.2.2.1), (10, cB r.2.2.2.2)]) (E1 := [(900000, ar 1 eI zI r.1), (900001, ar 1 eI zI r.2.1), (900002, ar 1 eI zI r.2.2.1), (900003, ar 1 eI zI r.2.2.2.1)]) glL Tryz.func32 (by kernel_rfl) (by kernel_rfl) (by kernel_rfl) (by kernel_rfl) (by kernel_rfl) ?_
 refine so [] [] [(3, pk 3), (4, pk 4), (5, pk 5)] [(3, va (eTBoard p0)), (4, va (eTView p1)), (5, va (eTView p2))] id ?_
 refine seq_in ?_
 obtain ⟨v8, h9, H⟩ := ofBind H
 rcases ofCond H with ⟨c10, H⟩ | ⟨c10, H⟩
 ·refine so [.res (cB v8), .g true, .g true, .g true, .g true, .g true, .g true, .g true, .g true, .g true, .g true, .g true] [] [(4, pk 4), (5, pk 5), (27, cB true)] [(4, va (eTView p1)), (5, va (eTView p2))] (fun t => aI (i_hasView_ok p0 p1 v8 h9) (aI c10 (aI c10 (aI c10 (aI c10 (aI c10 (aI (rfl : (true : Bool) = true) (aI (rfl : (true : Bool) = true) (aI (rfl : (true : Bool) = true) (aI (rfl : (true : Bool) = true) (aI (rfl : (true : Bool) = true) (aI (rfl : (true : Bool) = true) (t))))))))))))) ?_
  refine it (rfl : (true : Bool) = true) ?_
  refine so [] [] [(6, .c (.nil)), (7, .c (.nil)), (8, .c (.nil)), (9, .c (.nil)), (10, cB false)] [] id ?_
  refine tl [.nlo 6 900000 1 (fF eI zI ([] : List Int)), .nlo 7 900001 1 (fF eI zI ([] : List Int)), .nlo 8 900002 1 (fF eI zI ([] : List Int)), .nlo 9 900003 1 (fF eI zI ([] : List Int))] [(6, ow 900000 1 ([] : List Int)), (7, ow 900001 1 ([] : List Int)), (8, ow 900002 1 ([] : List Int)), (9, ow 900003 1 ([] : List Int)), (10, cB false)] [(900000, ar 1 eI zI ([] : List Int)), (900001, ar 1 eI zI ([] : List Int)), (900002, ar 1 eI zI ([] : List Int)), (900003, ar 1 eI zI ([] : List Int))] (fun t => aI (by decide : 0 < 1) (aI (by decide : 0 < 1) (aI (by decide : 0 < 1) (aI (by decide : 0 < 1) (t))))) ?_
  refine ends_ret ?_
  cases H
  exact And.intro (.inl rfl) rfl
 ·obtain ⟨v11, h12, H⟩ := ofBind H
  rcases ofCond H with ⟨c13, H⟩ | ⟨c13, H⟩
  ·refine so [.res (cB v8), .g false, .g false, .g false, .res (cB v11), .g false, .g false, .g true, .g true, .g true, .g true, .g true, .g true] [] [(4, pk 4), (5, pk 5), (27, cB true)] [(4, va (eTView p1)), (5, va (eTView p2))] (fun t => aI (i_hasView_ok p0 p1 v8 h9) (aI c10 (aI c10 (aI c10 (aI (i_goodView_ok p0 p2 v11 h12) (aI c10 (aI c10 (aI c13 (aI c13 (aI c13 (aI c13 (aI c13 (aI c13 (t)))))))))))))) ?_
   refine it (rfl : (true : Bool) = true) ?_
   refine so [] [] [(6, .c (.nil)), (7, .c (.nil)), (8, .c (.nil)), (9, .c (.nil)), (10, cB false)] [] id ?_
   refine tl [.nlo 6 900000 1 (fF eI zI ([] : List Int)), .nlo 7 900001 1 (fF eI zI ([] : List Int)), .nlo 8 900002 1 (fF eI zI ([] : List Int)), .nlo 9 900003 1 (fF eI zI ([] : List Int))] [(6, ow 900000 1 ([] : List Int)), (7, ow 900001 1 ([] : List Int)), (8, ow 900002 1 ([] : List Int)), (9, ow 900003 1 ([] : List Int)), (10, cB false)] [(900000, ar 1 eI zI ([] : List Int)), (900001, ar 1 eI zI ([] : List Int)), (900002, ar 1 eI zI ([] : List Int)), (900003, ar 1 eI zI ([] : List Int))] (fun t => aI (by decide : 0 < 1) (aI (by decide : 0 < 1) (aI (by decide : 0 < 1) (aI (by decide : 0 < 1) (t))))) ?_
   refine ends_ret ?_
   cases H
   exact And.intro (.inl rfl) rfl
  ·refine so [.res (cB v8), .g false, .g false, .g false, .res (cB v11), .g false, .g false, .g false, .g false, .g false, .g false, .g false, .g false] [] [(4, pk 4), (5, pk 5), (27, cB (p1.Side != p2.Side))] [(4, va (eTView p1)), (5, va (eTView p2))] (fun t => aI (i_hasView_ok p0 p1 v8 h9) (aI c10 (aI c10 (aI c10 (aI (i_goodView_ok p0 p2 v11 h12) (aI c10 (aI c10 (aI c13 (aI c13 (aI c13 (aI c13 (aI c13 (aI c13 (t)))))))))))))) ?_
   rcases ofCond H with ⟨c14, H⟩ | ⟨c14, H⟩
   ·refine it c14 ?_
    refine so [] [] [(6, .c (.nil)), (7, .c (.nil)), (8, .c (.nil)), (9, .c (.nil)), (10, cB false)] [] id ?_
    refine tl [.nlo 6 900000 1 (fF eI zI ([] : List Int)), .nlo 7 900001 1 (fF eI zI ([] : List Int)), .nlo 8 900002 1 (fF eI zI ([] : List Int)), .nlo 9 900003 1 (fF eI zI ([] : List Int))] [(6, ow 900000 1 ([] : List Int)), (7, ow 900001 1 ([] : List Int)), (8, ow 900002 1 ([] : List Int)), (9, ow 900003 1 ([] : List Int)), (10, cB false)] [(900000, ar 1 eI zI ([] : List Int)), (900001, ar 1 eI zI ([] : List Int)), (900002, ar 1 eI zI ([] : List Int)), (900003, ar 1 eI zI ([] : List Int))] (fun t => aI (by decide : 0 < 1) (aI (by decide : 0 < 1) (aI (by decide : 0 < 1) (aI (by decide : 0 < 1) (t))))) ?_
    refine ends_ret ?_
    cases H
    exact And.intro (.inl rfl) rfl
   ·refine jf c14 ?_
    refine sk ?_
    obtain ⟨v15, h16, H⟩ := ofBind H
    obtain ⟨v17, h18, H⟩ := ofBind H
    obtain ⟨v19, h20, H⟩ := ofBind H
    obtain ⟨v21, h22, H⟩ := ofBind H
    refine sd [.mu [] [(900000, 32)] (ow 900000 1 v15) [(900000, ar 1 eI zI v15)], .mu [] [(900000, 37)] (ow 900000 1 v17) [(900000, ar 1 eI zI v17)], .mu [] [(900000, 42)] (ow 900000 1 v19) [(900000, ar 1 eI zI v19)], .mu [] [(900000, 47)] (ow 900000 1 v21) [(900000, ar 1 eI zI v21)]] [] [(6, ow 32 1 v15), (7, ow 37 1 v17), (8, ow 42 1 v19), (9, ow 47 1 v21), (10, cB true)] [(32, ar 1 eI zI v15), (37, ar 1 eI zI v17), (42, ar 1 eI zI v19), (47, ar 1 eI zI v21)] (fun t => aI (Eq.refl (Mu.mk [] [(900000, 32)] (ow 900000 1 v15) [(900000, ar 1 eI zI v15)])) (aI (rfl : true = true) (aI (i_without_Mdd_ok p2.Seen p1.Seen v15 h16) (aI (Eq.refl (Mu.mk [] [(900000, 37)] (ow 900000 1 v17) [(900000, ar 1 eI zI v17)])) (aI (rfl : true = true) (aI (i_without_Mdd_ok p1.Seen p2.Seen v17 h18) (aI (Eq.refl (Mu.mk [] [(900000, 42)] (ow 900000 1 v19) [(900000, ar 1 eI zI v19)])) (aI (rfl : true = true) (aI (i_newUnits_Mdd_ok p2.Enemies p1.Enemies v19 h20) (aI (Eq.refl (Mu.mk [] [(900000, 47)] (ow 900000 1 v21) [(900000, ar 1 eI zI v21)])) (aI (rfl : true = true) (aI (i_newUnits_Mdd_ok p1.Enemies p2.Enemies v21 h22) (t))))))))))))) ?_
    refine tl [.ren 32 900000, .ren 37 900001, .ren 42 900002, .ren 47 900003] [(6, ow 900000 1 v15), (7, ow 900001 1 v17), (8, ow 900002 1 v19), (9, ow 900003 1 v21), (10, cB true)] [(900000, ar 1 eI zI v15), (900001, ar 1 eI zI v17), (900002, ar 1 eI zI v19), (900003, ar 1 eI zI v21)] id ?_
    refine ends_ret ?_
    cases H
    exact And.intro (.inl rfl) rfl
end Go.Proofs.YtociagbpecpcnaaGreatDoor.X0
