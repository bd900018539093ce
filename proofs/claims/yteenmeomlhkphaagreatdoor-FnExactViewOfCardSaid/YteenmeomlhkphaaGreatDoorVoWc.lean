/- What each function that FnExactViewOf reaches computes; no condition. -/
import Derived.Test.YteenmeomlhkphaaGreatDoorVoWb
set_option linter.unusedVariables false
set_option linter.unusedSimpArgs false
set_option maxRecDepth 100000
namespace Go.Proofs.YteenmeomlhkphaaGreatDoor.X0
open Go Go.RowKit Go.Proofs.YteenmeomlhkphaaGreatDoor.Ab Go.Proofs

def g_insertionSortCmpFunc_Unit_ir : S :=
 (sq [om 10 1, o 11 (.bin .add (.t 10) (iv 1)), om 8 11]
 (.blk 0 (.loop (.seq (sq [om 12 8, om 13 2, o 14 (.bin .lss (.t 12) (.t 13))]
   (.ite (.t 14) .skip
   (.exit 0)))
   (.seq (.blk 1 (sq [om 17 8, om 9 17]
    (.blk 2 (.loop (.seq (.seq (.drw [(0, 1), (4, 5), (4, 6), (5, 6), (4, 7), (4, 8), (4, 9), (5, 9), (6, 9), (7, 9), (8, 9), (4, 10), (5, 10), (6, 10), (7, 10), (8, 10), (9, 10), (4, 11), (5, 11), (6, 11), (7, 11), (8, 11), (9, 11), (4, 12), (5, 12), (6, 12), (7, 12), (8, 12), (4, 13), (5, 13), (6, 13), (7, 13), (8, 13)] [om 18 9, om 19 1, o 20 (.bin .gtr (.t 18) (.t 19)), om 21 20, oh 22 (.mv (.t 3)) 21, oh 23 (.mv (.t 0)) 21, oh 24 (.mv (.t 9)) 21, oh 25 (.iad 4 (.t 23) (.t 24)) 21, oh 26 (.load 4 true (.t 25)) 21, oh 27 (.mv (.t 0)) 21, oh 28 (.mv (.t 9)) 21, oh 29 (.bin .sub (.t 28) (iv 1)) 21, oh 30 (.iad 4 (.t 27) (.t 29)) 21, oh 31 (.load 4 true (.t 30)) 21, oh 32 (.cald (.t 22) [.t 26, .t 31]) 21, oh 33 (.bin .lss (.t 32) (iv 0)) 21, o 34 (.pick (.t 21) (.t 33) bF)])
      (.ite (.t 34) .skip
      (.exit 2)))
      (.seq (.blk 3 (.drw [(0, 1), (0, 2), (1, 2), (0, 3), (1, 3), (2, 3), (0, 4), (1, 4), (2, 4), (0, 5), (1, 5), (2, 5), (3, 5), (4, 5), (0, 6), (1, 6), (2, 6), (3, 6), (4, 6), (5, 6), (0, 7), (1, 7), (2, 7), (3, 7), (4, 7), (5, 7), (0, 8), (1, 8), (2, 8), (3, 8), (4, 8), (0, 9), (1, 9), (2, 9), (3, 9), (4, 9), (0, 10), (1, 10), (2, 10), (3, 10), (4, 10), (5, 10), (6, 10), (7, 10), (8, 10), (9, 10), (0, 11), (1, 11), (2, 11), (3, 11), (4, 11), (5, 11), (6, 11), (7, 11), (8, 11), (9, 11), (10, 11), (0, 12), (1, 12), (2, 12), (3, 12), (4, 12), (5, 12), (6, 12), (7, 12), (8, 12), (9, 12), (0, 13), (1, 13), (2, 13), (3, 13), (4, 13), (5, 13), (6, 13), (7, 13), (8, 13), (9, 13), (2, 14), (3, 14), (4, 14), (2, 15), (3, 15), (4, 15)] [om 37 0, om 38 9, om 39 0, om 40 9, o 41 (.bin .sub (.t 40) (iv 1)), om 42 0, om 43 9, o 44 (.bin .sub (.t 43) (iv 1)), o 45 (.iad 4 (.t 42) (.t 44)), o 46 (.load 4 true (.t 45)), om 47 0, om 48 9, o 49 (.iad 4 (.t 47) (.t 48)), o 50 (.load 4 true (.t 49)), o 51 (.iad 4 (.t 37) (.t 38)), os 4 51 46, o 52 (.iad 4 (.t 39) (.t 41)), os 4 52 50]))
      (.ops [om 35 9, o 36 (.bin .sub (.t 35) (iv 1)), om 9 36])))))))
   (.ops [om 15 8, o 16 (.bin .add (.t 15) (iv 1)), om 8 16]))))))
noncomputable def X.g_insertionSortCmpFunc_Unit_Moddf (p0 : (List TUnit)) (p1 : Int) (p2 : Int) (f3 : TUnit → TUnit → Option Int) : Option (List TUnit) :=
 ((loop (fun (x110 : (Int × (List TUnit))) => ((bif (decide (x110.1 < p2)) then ((loop (fun (x146 : (Int × (List TUnit))) => ((bif (decide (x146.1 > p1)) then (if 0 ≤ x146.1 ∧ x146.1 < (x146.2.length : Int) then (if 0 ≤ (W (x146.1 - 1)) ∧ (W (x146.1 - 1)) < (x146.2.length : Int) then ((f3 (x146.2.getD x146.1.toNat zTUnit) (x146.2.getD ((W (x146.1 - 1)).toNat) zTUnit)).bind fun v156 => (bif (decide (v156 < 0)) then ((some (x146.2.set x146.1.toNat (x146.2.getD ((W (x146.1 - 1)).toNat) zTUnit))).bind fun l159 => ((some (l159.set ((W (x146.1 - 1)).toNat) (x146.2.getD x146.1.toNat zTUnit))).bind fun l161 => some (Sum.inl ((W (x146.1 - 1)), l161)))) else some (Sum.inr x146.2))) else none) else none) else some (Sum.inr x146.2)) : Option ((Int × (List TUnit)) ⊕ (List TUnit)))) (x110.1, x110.2)).bind fun y163 => some (Sum.inl ((W (x110.1 + 1)), y163))) else some (Sum.inr x110.2)) : Option ((Int × (List TUnit)) ⊕ (List TUnit)))) ((W (p1 + 1)), p0)).bind fun y165 => some y165)
theorem g_insertionSortCmpFunc_Unit_Moddf_c0_ok (p0 : (List TUnit)) (p1 : Int) (p2 : Int) (cf3 : FuncId) (f3 : TUnit → TUnit → Option Int) (hf3 : ∀ q0 q1 r, f3 q0 q1 = some r → FK cf3 [.agg (eTUnit q0), .agg (eTUnit q1)] (cI r)) (r : (List TUnit)) (H : X.g_insertionSortCmpFunc_Unit_Moddf p0 p1 p2 f3 = some r) : FnMu Tryz.prog gl 283 [.c (.own 1000000 4 0 p0.length), cI p1, cI p2, .c (.clo cf3 [])] [(1000000, .arr 4 p0.length (fF eTUnit zTUnit p0) false)] (.tup []) [(1000000, .arr 4 r.length (fF eTUnit zTUnit r) false)] := by
 unfold X.g_insertionSortCmpFunc_Unit_Moddf at H
 refine fn_mu (fn := Tryz.f283) (ir := g_insertionSortCmpFunc_Unit_ir) (E' := []) (E1 := [(1000000, ar 4 eTUnit zTUnit r)]) glL Tryz.func283 (by kernel_rfl) (by kernel_rfl) (by kernel_rfl) (by kernel_rfl) (by kernel_rfl) ?_
 refine sn [] [] [(8, cI (W (p1 + 1)))] [] [] id ?_
 refine ends_blk ?_
 obtain ⟨y165, h166, H⟩ := oB H
 refine tl [] [(0, ow 1000000 4 p0), (1, cI p1), (2, cI p2), (3, .c (.clo cf3 [])), (8, cI (W (p1 + 1)))] [(1000000, ar 4 eTUnit zTUnit p0)] id ?_
 refine loop_in (fun (x : (Int × (List TUnit))) => lit [(0, ow 1000000 4 x.2), (1, cI p1), (2, cI p2), (3, .c (.clo cf3 [])), (8, cI x.1)] [(1000000, ar 4 eTUnit zTUnit x.2)]) (fun (z : (List TUnit)) => At (.exit 0) (lit [] [(1000000, ar 4 eTUnit zTUnit z)])) h166 ?_ ?_
 ·clear H h166
  intro x110 y0 H
  refine seq_in ?_
  refine sn [] [] [(14, cB (decide (x110.1 < p2)))] [] [] id ?_
  rcases oC H with ⟨c112, H⟩ | ⟨c112, H⟩
  ·refine it c112 ?_
   refine sk ?_
   refine seq_in ?_
   refine ends_blk ?_
   refine sn [] [] [(9, cI x110.1)] [] [] id ?_
   refine ends_blk ?_
   obtain ⟨y163, h164, H⟩ := oB H
   refine tl [] [(0, ow 1000000 4 x110.2), (1, cI p1), (2, cI p2), (3, .c (.clo cf3 [])), (8, cI x110.1), (9, cI x110.1)] [(1000000, ar 4 eTUnit zTUnit x110.2)] id ?_
   refine loop_in (fun (x : (Int × (List TUnit))) => lit [(0, ow 1000000 4 x.2), (1, cI p1), (2, cI p2), (3, .c (.clo cf3 [])), (8, cI x110.1), (9, cI x.1)] [(1000000, ar 4 eTUnit zTUnit x.2)]) (fun (z : (List TUnit)) => At (.exit 2) (lit [(0, ow 1000000 4 z), (1, cI p1), (2, cI p2), (3, .c (.clo cf3 [])), (8, cI x110.1)] [(1000000, ar 4 eTUnit zTUnit z)])) h164 ?_ ?_
   ·clear H h164
    intro x146 y0 H
    refine seq_in ?_
    rcases oC H with ⟨c153, H⟩ | ⟨c153, H⟩
    ·obtain ⟨g154, H⟩ := oI H
     obtain ⟨g155, H⟩ := oI H
     obtain ⟨v156, h157, H⟩ := oB H
     refine xn (rg 4 true ([.no] ++ rg 5 true ([.no] ++ rg 2 true ([.res (cI v156)] ++ rg 2 true [])))) [] [(34, cB (decide (v156 < 0)))] [] [] (fun t => aG 4 c153 (aI g154 (aI c153 (aI (nat_lt g154) (aI rN (aG 4 c153 (aI g155 (aI c153 (aI (nat_lt g155) (aI rN (aI c153 (aI (hf3 (x146.2.getD x146.1.toNat zTUnit) (x146.2.getD ((W (x146.1 - 1)).toNat) zTUnit) v156 h157) (aI trivial (aI rN (aG 2 c153 (t)))))))))))))))) ?_
     rcases oC H with ⟨c158, H⟩ | ⟨c158, H⟩
     ·refine it c158 ?_
      refine sk ?_
      refine seq_in ?_
      refine ends_blk ?_
      obtain ⟨l159, h160, H⟩ := oB H
      obtain ⟨l161, h162, H⟩ := oB H
      refine ox [.no, .no, .no, .fn 0 (fF eTUnit zTUnit l159), .no, .fn 0 (fF eTUnit zTUnit l161)] [] [(0, ow 1000000 4 x146.2), (1, cI p1), (2, cI p2), (3, .c (.clo cf3 [])), (8, cI x110.1), (9, cI x146.1)] [(1000000, .arr 4 x146.2.length (fF eTUnit zTUnit l161) false)] (fun t => aI g155 (aI (nat_lt g155) (aI rN (aI g154 (aI (nat_lt g154) (aI rN (aI g154 (aI rT (aI (nat_lt g154) (aI (by decide : 0 + 4 ≤ 4) (aI (fF_setN eTUnit zTUnit h160 (nat_lt g154) x146.2.length) (aI g155 (aI rT (aI (nat_lt g155) (aI (by decide : 0 + 4 ≤ 4) (aI (fF_setN eTUnit zTUnit h162 (ltN h160 (nat_lt g155)) x146.2.length) (t))))))))))))))))) ?_
      change EndsI _ _ _ _ _ _
      refine oo [] [.rel 0 l161.length, .rep 1000000 l161.length (fF eTUnit zTUnit l161)] [(0, ow 1000000 4 l161), (1, cI p1), (2, cI p2), (3, .c (.clo cf3 [])), (8, cI x110.1), (9, cI (W (x146.1 - 1)))] [(1000000, ar 4 eTUnit zTUnit l161)] (fun t => aI (by simp [lenN h162, lenN h160] : x146.2.length = l161.length) (aI (Nat.le_of_eq (by simp [lenN h162, lenN h160] : l161.length = x146.2.length)) (aI (fun _ _ => rfl : ∀ i, i < l161.length → (fF eTUnit zTUnit l161) i = (fF eTUnit zTUnit l161) i) (t)))) ?_
      cases H
      exact rr
     ·refine jf c158 ?_
      refine tl [] [(0, ow 1000000 4 x146.2), (1, cI p1), (2, cI p2), (3, .c (.clo cf3 [])), (8, cI x110.1)] [(1000000, ar 4 eTUnit zTUnit x146.2)] id ?_
      refine ends_exit ?_
      cases H
      exact rse
    ·refine xn (rg 13 false []) [] [(34, cB false)] [] [] (fun t => aG 13 c153 (t)) ?_
     refine jf rF ?_
     refine tl [] [(0, ow 1000000 4 x146.2), (1, cI p1), (2, cI p2), (3, .c (.clo cf3 [])), (8, cI x110.1)] [(1000000, ar 4 eTUnit zTUnit x146.2)] id ?_
     refine ends_exit ?_
     cases H
     exact rse
   ·clear h164
    rintro e s ⟨rfl, rfl⟩
    change EndsI _ _ _ _ _ _
    refine oo [] [] [(0, ow 1000000 4 y163), (1, cI p1), (2, cI p2), (3, .c (.clo cf3 [])), (8, cI (W (x110.1 + 1)))] [(1000000, ar 4 eTUnit zTUnit y163)] id ?_
    cases H
    exact rr
  ·refine jf c112 ?_
   refine tl [] [] [(1000000, ar 4 eTUnit zTUnit x110.2)] id ?_
   refine ends_exit ?_
   cases H
   exact rse
 ·clear h166
  rintro e s ⟨rfl, rfl⟩
  cases H
  exact qn
def g_pdqsortCmpFunc_Unit_ir : S :=
 (sq [o 10 (.mv bT)]
 (sq [o 11 (.mv bT)]
 (.blk 0 (.loop (.blk 1 (sq [om 21 2, om 22 1, o 23 (.bin .sub (.t 21) (.t 22)), om 12 23]
    (.seq (sq [om 24 12, o 25 (.bin .leq (.t 24) (iv 12))]
    (.ite (.t 25) (sq [om 26 0, om 27 1, om 28 2, om 29 4, o 30 (.call 283 [.t 26, .t 27, .t 28, .t 29])]
     .ret)
    .skip))
    (.seq (sq [om 31 3, o 32 (.bin .eql (.t 31) (iv 0))]
    (.ite (.t 32) (sq [om 33 0, om 34 1, om 35 2, om 36 4, o 37 (.call 284 [.t 33, .t 34, .t 35, .t 36])]
     .ret)
    .skip))
    (.seq (sq [om 38 10, o 39 (.not (.t 38))]
    (.ite (.t 39) (sq [om 40 0, om 41 1, om 42 2, om 43 4, o 44 (.call 285 [.t 40, .t 41, .t 42, .t 43])]
     (.ops [om 45 3, o 46 (.bin .sub (.t 45) (iv 1)), om 3 46]))
    .skip))
    (sq [om 48 0, om 49 1, om 50 2, om 51 4, o 52 (.call 286 [.t 48, .t 49, .t 50, .t 51]), om 47 52, o 53 (.ext (.t 47) 0), o 54 (.ext (.t 47) 1), om 13 53, om 14 54]
    (.seq (sq [om 55 14, o 56 (.bin .eql (.t 55) (iv 2))]
    (.ite (.t 56) (sq [om 57 0, om 58 1, om 59 2, om 60 4, o 61 (.call 287 [.t 57, .t 58, .t 59, .t 60])]
     (sq [om 62 2, o 63 (.bin .sub (.t 62) (iv 1)), om 64 13, om 65 1, o 66 (.bin .sub (.t 64) (.t 65)), o 67 (.bin .sub (.t 63) (.t 66)), om 13 67]
     (.ops [o 14 (.mv (iv 1))])))
    .skip))
    (.seq (sq [om 68 10, om 69 68, oh 70 (.mv (.t 11)) 69, o 71 (.pick (.t 69) (.t 70) bF), om 72 71, oh 73 (.mv (.t 14)) 72, oh 74 (.bin .eql (.t 73) (iv 1)) 72, o 75 (.pick (.t 72) (.t 74) bF)]
    (.ite (.t 75) (sq [om 76 0, om 77 1, om 78 2, om 79 4, o 80 (.call 288 [.t 76, .t 77, .t 78, .t 79])]
     (.ite (.t 80) .ret
     .skip))
    .skip))
    (.seq (.seq (.drw [(3, 4), (3, 5), (4, 5), (3, 6), (4, 6), (3, 7), (3, 8), (3, 9), (4, 9), (5, 9), (6, 9), (7, 9), (8, 9), (3, 10), (4, 10), (5, 10), (6, 10), (7, 10), (8, 10), (9, 10), (3, 11), (4, 11), (5, 11), (6, 11), (7, 11), (8, 11), (3, 12), (4, 12), (5, 12), (6, 12), (7, 12), (8, 12)] [om 81 1, o 82 (.bin .gtr (.t 81) (iv 0)), om 83 82, oh 84 (.mv (.t 4)) 83, oh 85 (.mv (.t 0)) 83, oh 86 (.mv (.t 1)) 83, oh 87 (.bin .sub (.t 86) (iv 1)) 83, oh 88 (.iad 4 (.t 85) (.t 87)) 83, oh 89 (.load 4 true (.t 88)) 83, oh 90 (.mv (.t 0)) 83, oh 91 (.mv (.t 13)) 83, oh 92 (.iad 4 (.t 90) (.t 91)) 83, oh 93 (.load 4 true (.t 92)) 83, oh 94 (.cald (.t 84) [.t 89, .t 93]) 83, oh 95 (.bin .lss (.t 94) (iv 0)) 83, oh 96 (.not (.t 95)) 83, o 97 (.pick (.t 83) (.t 96) bF)])
    (.ite (.t 97) (sq [om 98 0, om 99 1, om 100 2, om 101 13, om 102 4, o 103 (.call 289 [.t 98, .t 99, .t 100, .t 101, .t 102]), om 15 103]
     (sq [om 104 15, om 1 104]
     (.exit 1)))
    .skip))
    (sq [om 106 0, om 107 1, om 108 2, om 109 13, om 110 4, o 111 (.call 290 [.t 106, .t 107, .t 108, .t 109, .t 110]), om 105 111, o 112 (.ext (.t 105) 0), o 113 (.ext (.t 105) 1), om 16 112, om 17 113]
    (sq [om 114 17, om 11 114]
    (sq [om 115 16, om 116 1, o 117 (.bin .sub (.t 115) (.t 116)), om 118 2, om 119 16, o 120 (.bin .sub (.t 118) (.t 119)), om 18 117, om 19 120]
    (sq [om 121 12, o 122 (.bin .quo (.t 121) (iv 8)), om 20 122]
    (sq [om 123 18, om 124 19, o 125 (.bin .lss (.t 123) (.t 124))]
    (.ite (.t 125) (sq [om 126 18, om 127 20, o 128 (.bin .geq (.t 126) (.t 127)), om 10 128]
     (sq [om 129 0, om 130 1, om 131 16, om 132 3, om 133 4, o 134 (.call 246 [.t 129, .t 130, .t 131, .t 132, .t 133])]
     (.ops [om 135 16, o 136 (.bin .add (.t 135) (iv 1)), om 1 136])))
    (sq [om 137 19, om 138 20, o 139 (.bin .geq (.t 137) (.t 138)), om 10 139]
     (sq [om 140 0, om 141 16, o 142 (.bin .add (.t 141) (iv 1)), om 143 2, om 144 3, om 145 4, o 146 (.call 246 [.t 140, .t 142, .t 143, .t 144, .t 145])]
     (.ops [om 147 16, om 2 147]))))))))))))))))))))))
noncomputable def X.g_pdqsortCmpFunc_Unit_Modddf (p0 : (List TUnit)) (p1 : Int) (p2 : Int) (p3 : Int) (f4 : TUnit → TUnit → Option Int) : Option (List TUnit) :=
 ((loop (fun (x12 : Unit) => ((bif (decide ((W (p2 - p1)) ≤ 12)) then ((X.g_insertionSortCmpFunc_Unit_Moddf p0 p1 p2 f4).bind fun v18 => (if v18.length = p0.length then some (Sum.inr v18) else none)) else (bif (p3 == 0) then none else none)) : Option (Unit ⊕ (List TUnit)))) ()).bind fun y23 => some y23)
theorem g_pdqsortCmpFunc_Unit_Modddf_c0_ok (p0 : (List TUnit)) (p1 : Int) (p2 : Int) (p3 : Int) (cf4 : FuncId) (f4 : TUnit → TUnit → Option Int) (hf4 : ∀ q0 q1 r, f4 q0 q1 = some r → FK cf4 [.agg (eTUnit q0), .agg (eTUnit q1)] (cI r)) (r : (List TUnit)) (H : X.g_pdqsortCmpFunc_Unit_Modddf p0 p1 p2 p3 f4 = some r) : FnMu Tryz.prog gl 246 [.c (.own 1000000 4 0 p0.length), cI p1, cI p2, cI p3, .c (.clo cf4 [])] [(1000000, .arr 4 p0.length (fF eTUnit zTUnit p0) false)] (.tup []) [(1000000, .arr 4 r.length (fF eTUnit zTUnit r) false)] := by
 unfold X.g_pdqsortCmpFunc_Unit_Modddf at H
 refine fn_mu (fn := Tryz.f246) (ir := g_pdqsortCmpFunc_Unit_ir) (E' := []) (E1 := [(1000000, ar 4 eTUnit zTUnit r)]) glL Tryz.func246 (by kernel_rfl) (by kernel_rfl) (by kernel_rfl) (by kernel_rfl) (by kernel_rfl) ?_
 refine sn [] [] [(10, cB true)] [] [] id ?_
 refine sn [] [] [(11, cB true)] [] [] id ?_
 refine ends_blk ?_
 obtain ⟨y23, h24, H⟩ := oB H
 refine tl [] [(0, ow 1000000 4 p0), (1, cI p1), (2, cI p2), (3, cI p3), (4, .c (.clo cf4 [])), (10, cB true), (11, cB true)] [(1000000, ar 4 eTUnit zTUnit p0)] id ?_
 refine loop_in (fun (x : Unit) => lit [(0, ow 1000000 4 p0), (1, cI p1), (2, cI p2), (3, cI p3), (4, .c (.clo cf4 [])), (10, cB true), (11, cB true)] [(1000000, ar 4 eTUnit zTUnit p0)]) (fun (z : (List TUnit)) => At .ret (lit [] [(1000000, ar 4 eTUnit zTUnit z)])) h24 ?_ ?_
 ·clear H h24
  intro x12 y0 H
  refine ends_blk ?_
  refine sn [] [] [(12, cI (W (p2 - p1)))] [] [] id ?_
  refine seq_in ?_
  refine sn [] [] [(25, cB (decide ((W (p2 - p1)) ≤ 12)))] [] [] id ?_
  rcases oC H with ⟨c17, H⟩ | ⟨c17, H⟩
  ·refine it c17 ?_
   obtain ⟨v18, h19, H⟩ := oB H
   obtain ⟨g20, H⟩ := oI H
   refine so [.mu [(1000000, 1000000)] [(1000000, 1000000)] (.tup []) [(1000000, ar 4 eTUnit zTUnit v18)]] [.rel 0 v18.length, .rel 26 v18.length] [] [(1000000, ar 4 eTUnit zTUnit v18)] (fun t => aI (g_insertionSortCmpFunc_Unit_Moddf_c0_ok p0 p1 p2 (cf4) f4 hf4 v18 h19) (aG 2 (Eq.symm g20) (t))) ?_
   refine ends_ret ?_
   cases H
   exact rsr
  ·refine jf c17 ?_
   refine sk ?_
   refine seq_in ?_
   refine sn [] [] [(32, cB (p3 == 0))] [] [] id ?_
   rcases oC H with ⟨c22, H⟩ | ⟨c22, H⟩
   ·refine it c22 ?_
    cases H
   ·refine jf c22 ?_
    refine sk ?_
    refine seq_in ?_
    refine sn [] [] [(39, cB false)] [] [] id ?_
    refine jf rF ?_
    refine sk ?_
    cases H
 ·clear h24
  rintro e s ⟨rfl, rfl⟩
  cases H
  exact qr
def x_math_bits_Len64_ir : S :=
 (sq [o 2 (.mv (iv 0))]
 (.seq (sq [om 3 0, o 4 (.bin .geq (.t 3) (.v (.int .u64 4294967296)))]
 (.ite (.t 4) (sq [om 5 0, o 6 (.bin .shr (.t 5) (.v (.int .u64 32))), om 0 6]
  (.ops [o 2 (.mv (iv 32))]))
 .skip))
 (.seq (sq [om 7 0, o 8 (.bin .geq (.t 7) (.v (.int .u64 65536)))]
 (.ite (.t 8) (sq [om 9 0, o 10 (.bin .shr (.t 9) (.v (.int .u64 16))), om 0 10]
  (.ops [om 11 2, o 12 (.bin .add (.t 11) (iv 16)), om 2 12]))
 .skip))
 (.seq (sq [om 13 0, o 14 (.bin .geq (.t 13) (.v (.int .u64 256)))]
 (.ite (.t 14) (sq [om 15 0, o 16 (.bin .shr (.t 15) (.v (.int .u64 8))), om 0 16]
  (.ops [om 17 2, o 18 (.bin .add (.t 17) (iv 8)), om 2 18]))
 .skip))
 (sq [om 19 2, om 20 0, o 21 (.conv .u8 (.t 20)), o 22 (.ixs (.v (.str [0, 1, 2, 2, 3, 3, 3, 3, 4, 4, 4, 4, 4, 4, 4, 4, 5, 5, 5, 5, 5, 5, 5, 5, 5, 5, 5, 5, 5, 5, 5, 5, 6, 6, 6, 6, 6, 6, 6, 6, 6, 6, 6, 6, 6, 6, 6, 6, 6, 6, 6, 6, 6, 6, 6, 6, 6, 6, 6, 6, 6, 6, 6, 6, 7, 7, 7, 7, 7, 7, 7, 7, 7, 7, 7, 7, 7, 7, 7, 7, 7, 7, 7, 7, 7, 7, 7, 7, 7, 7, 7, 7, 7, 7, 7, 7, 7, 7, 7, 7, 7, 7, 7, 7, 7, 7, 7, 7, 7, 7, 7, 7, 7, 7, 7, 7, 7, 7, 7, 7, 7, 7, 7, 7, 7, 7, 7, 7, 8, 8, 8, 8, 8, 8, 8, 8, 8, 8, 8, 8, 8, 8, 8, 8, 8, 8, 8, 8, 8, 8, 8, 8, 8, 8, 8, 8, 8, 8, 8, 8, 8, 8, 8, 8, 8, 8, 8, 8, 8, 8, 8, 8, 8, 8, 8, 8, 8, 8, 8, 8, 8, 8, 8, 8, 8, 8, 8, 8, 8, 8, 8, 8, 8, 8, 8, 8, 8, 8, 8, 8, 8, 8, 8, 8, 8, 8, 8, 8, 8, 8, 8, 8, 8, 8, 8, 8, 8, 8, 8, 8, 8, 8, 8, 8, 8, 8, 8, 8, 8, 8, 8, 8, 8, 8, 8, 8, 8, 8, 8, 8, 8, 8, 8, 8, 8, 8, 8, 8, 8, 8, 8, 8, 8, 8, 8, 8])) (.t 21)), o 23 (.conv .i64 (.t 22)), o 24 (.bin .add (.t 19) (.t 23)), om 2 24]
 .ret)))))
noncomputable def X.x_math_bits_Len64 (p0 : Int) : Option Int :=
 (bif (decide (p0 ≥ 4294967296)) then none else (bif (decide (p0 ≥ 65536)) then none else (bif (decide (p0 ≥ 256)) then none else (if 0 ≤ (IntKind.u8.wrap p0) ∧ (IntKind.u8.wrap p0) < (([0, 1, 2, 2, 3, 3, 3, 3, 4, 4, 4, 4, 4, 4, 4, 4, 5, 5, 5, 5, 5, 5, 5, 5, 5, 5, 5, 5, 5, 5, 5, 5, 6, 6, 6, 6, 6, 6, 6, 6, 6, 6, 6, 6, 6, 6, 6, 6, 6, 6, 6, 6, 6, 6, 6, 6, 6, 6, 6, 6, 6, 6, 6, 6, 7, 7, 7, 7, 7, 7, 7, 7, 7, 7, 7, 7, 7, 7, 7, 7, 7, 7, 7, 7, 7, 7, 7, 7, 7, 7, 7, 7, 7, 7, 7, 7, 7, 7, 7, 7, 7, 7, 7, 7, 7, 7, 7, 7, 7, 7, 7, 7, 7, 7, 7, 7, 7, 7, 7, 7, 7, 7, 7, 7, 7, 7, 7, 7, 8, 8, 8, 8, 8, 8, 8, 8, 8, 8, 8, 8, 8, 8, 8, 8, 8, 8, 8, 8, 8, 8, 8, 8, 8, 8, 8, 8, 8, 8, 8, 8, 8, 8, 8, 8, 8, 8, 8, 8, 8, 8, 8, 8, 8, 8, 8, 8, 8, 8, 8, 8, 8, 8, 8, 8, 8, 8, 8, 8, 8, 8, 8, 8, 8, 8, 8, 8, 8, 8, 8, 8, 8, 8, 8, 8, 8, 8, 8, 8, 8, 8, 8, 8, 8, 8, 8, 8, 8, 8, 8, 8, 8, 8, 8, 8, 8, 8, 8, 8, 8, 8, 8, 8, 8, 8, 8, 8, 8, 8, 8, 8, 8, 8, 8, 8, 8, 8, 8, 8, 8, 8, 8, 8, 8, 8, 8, 8] : List UInt8).length : Int) then some (W (0 + (W (((([0, 1, 2, 2, 3, 3, 3, 3, 4, 4, 4, 4, 4, 4, 4, 4, 5, 5, 5, 5, 5, 5, 5, 5, 5, 5, 5, 5, 5, 5, 5, 5, 6, 6, 6, 6, 6, 6, 6, 6, 6, 6, 6, 6, 6, 6, 6, 6, 6, 6, 6, 6, 6, 6, 6, 6, 6, 6, 6, 6, 6, 6, 6, 6, 7, 7, 7, 7, 7, 7, 7, 7, 7, 7, 7, 7, 7, 7, 7, 7, 7, 7, 7, 7, 7, 7, 7, 7, 7, 7, 7, 7, 7, 7, 7, 7, 7, 7, 7, 7, 7, 7, 7, 7, 7, 7, 7, 7, 7, 7, 7, 7, 7, 7, 7, 7, 7, 7, 7, 7, 7, 7, 7, 7, 7, 7, 7, 7, 8, 8, 8, 8, 8, 8, 8, 8, 8, 8, 8, 8, 8, 8, 8, 8, 8, 8, 8, 8, 8, 8, 8, 8, 8, 8, 8, 8, 8, 8, 8, 8, 8, 8, 8, 8, 8, 8, 8, 8, 8, 8, 8, 8, 8, 8, 8, 8, 8, 8, 8, 8, 8, 8, 8, 8, 8, 8, 8, 8, 8, 8, 8, 8, 8, 8, 8, 8, 8, 8, 8, 8, 8, 8, 8, 8, 8, 8, 8, 8, 8, 8, 8, 8, 8, 8, 8, 8, 8, 8, 8, 8, 8, 8, 8, 8, 8, 8, 8, 8, 8, 8, 8, 8, 8, 8, 8, 8, 8, 8, 8, 8, 8, 8, 8, 8, 8, 8, 8, 8, 8, 8, 8, 8, 8, 8, 8, 8] : List UInt8).getD (IntKind.u8.wrap p0).toNat 0).toNat : Nat) : Int)))) else none))))
theorem x_math_bits_Len64_ok (p0 : Int) (r : Int) (H : X.x_math_bits_Len64 p0 = some r) : FK 292 [.c (.int .u64 p0)] (cI r) := by
 unfold X.x_math_bits_Len64 at H
 refine fi Tryz.f292 x_math_bits_Len64_ir [(2, cI r)] [] glL Tryz.func292 ?_
 refine sn [] [] [(2, cI 0)] [] [] id ?_
 refine seq_in ?_
 refine sn [] [] [(4, cB (decide (p0 ≥ 4294967296)))] [] [] id ?_
 rcases oC H with ⟨c2, H⟩ | ⟨c2, H⟩
 ·refine it c2 ?_
  cases H
 ·refine jf c2 ?_
  refine sk ?_
  refine seq_in ?_
  refine sn [] [] [(8, cB (decide (p0 ≥ 65536)))] [] [] id ?_
  rcases oC H with ⟨c4, H⟩ | ⟨c4, H⟩
  ·refine it c4 ?_
   cases H
  ·refine jf c4 ?_
   refine sk ?_
   refine seq_in ?_
   refine sn [] [] [(14, cB (decide (p0 ≥ 256)))] [] [] id ?_
   rcases oC H with ⟨c6, H⟩ | ⟨c6, H⟩
   ·refine it c6 ?_
    cases H
   ·refine jf c6 ?_
    refine sk ?_
    obtain ⟨g7, H⟩ := oI H
    refine so [] [] [(2, cI (W (0 + (W (((([0, 1, 2, 2, 3, 3, 3, 3, 4, 4, 4, 4, 4, 4, 4, 4, 5, 5, 5, 5, 5, 5, 5, 5, 5, 5, 5, 5, 5, 5, 5, 5, 6, 6, 6, 6, 6, 6, 6, 6, 6, 6, 6, 6, 6, 6, 6, 6, 6, 6, 6, 6, 6, 6, 6, 6, 6, 6, 6, 6, 6, 6, 6, 6, 7, 7, 7, 7, 7, 7, 7, 7, 7, 7, 7, 7, 7, 7, 7, 7, 7, 7, 7, 7, 7, 7, 7, 7, 7, 7, 7, 7, 7, 7, 7, 7, 7, 7, 7, 7, 7, 7, 7, 7, 7, 7, 7, 7, 7, 7, 7, 7, 7, 7, 7, 7, 7, 7, 7, 7, 7, 7, 7, 7, 7, 7, 7, 7, 8, 8, 8, 8, 8, 8, 8, 8, 8, 8, 8, 8, 8, 8, 8, 8, 8, 8, 8, 8, 8, 8, 8, 8, 8, 8, 8, 8, 8, 8, 8, 8, 8, 8, 8, 8, 8, 8, 8, 8, 8, 8, 8, 8, 8, 8, 8, 8, 8, 8, 8, 8, 8, 8, 8, 8, 8, 8, 8, 8, 8, 8, 8, 8, 8, 8, 8, 8, 8, 8, 8, 8, 8, 8, 8, 8, 8, 8, 8, 8, 8, 8, 8, 8, 8, 8, 8, 8, 8, 8, 8, 8, 8, 8, 8, 8, 8, 8, 8, 8, 8, 8, 8, 8, 8, 8, 8, 8, 8, 8, 8, 8, 8, 8, 8, 8, 8, 8, 8, 8, 8, 8, 8, 8, 8, 8, 8, 8] : List UInt8).getD (IntKind.u8.wrap p0).toNat 0).toNat : Nat) : Int)))))] [] (fun t => aI g7 (t)) ?_
    cases H
    exact er
def x_math_bits_Len_ir : S :=
 (sq [o 2 (.mv (iv 0))]
 (.seq (.ite bF (sq [om 3 0, o 4 (.conv .u32 (.t 3)), o 5 (.call 291 [.t 4]), om 2 5]
  .ret)
 .skip)
 (sq [om 6 0, o 7 (.call 292 [.t 6]), om 2 7]
 .ret)))
noncomputable def X.x_math_bits_Len (p0 : Int) : Option Int :=
 ((X.x_math_bits_Len64 p0).bind fun v1 => some v1)
theorem x_math_bits_Len_ok (p0 : Int) (r : Int) (H : X.x_math_bits_Len p0 = some r) : FK 247 [.c (.int .u64 p0)] (cI r) := by
 unfold X.x_math_bits_Len at H
 refine fi Tryz.f247 x_math_bits_Len_ir [(2, cI r)] [] glL Tryz.func247 ?_
 refine sn [] [] [] [] [] id ?_
 refine seq_in ?_
 refine jf rF ?_
 refine sk ?_
 obtain ⟨v1, h2, H⟩ := oB H
 refine so [.res (cI v1)] [] [(2, cI v1)] [] (aI (x_math_bits_Len64_ok p0 v1 h2)) ?_
 cases H
 exact er
def g_SortFunc_Unit_ir : S :=
 (sq [om 5 0, o 6 (.len (.t 5)), om 4 6]
 (.ops [om 7 0, om 8 4, om 9 4, o 10 (.conv .u64 (.t 9)), o 11 (.call 247 [.t 10]), om 12 1, o 13 (.call 246 [.t 7, .v (.int .i64 0), .t 8, .t 11, .t 12])]))
noncomputable def X.g_SortFunc_Unit_Mof (p0 : (List TUnit)) (f1 : TUnit → TUnit → Option Int) : Option (List TUnit) :=
 ((X.x_math_bits_Len (IntKind.u64.wrap (p0.length : Int))).bind fun v1 => ((X.g_pdqsortCmpFunc_Unit_Modddf p0 0 (p0.length : Int) v1 f1).bind fun v3 => (if v3.length = p0.length then some v3 else none)))
theorem g_SortFunc_Unit_Mof_c0_ok (p0 : (List TUnit)) (cf1 : FuncId) (f1 : TUnit → TUnit → Option Int) (hf1 : ∀ q0 q1 r, f1 q0 q1 = some r → FK cf1 [.agg (eTUnit q0), .agg (eTUnit q1)] (cI r)) (r : (List TUnit)) (H : X.g_SortFunc_Unit_Mof p0 f1 = some r) : FnMu Tryz.prog gl 192 [.c (.own 1000000 4 0 p0.length), .c (.clo cf1 [])] [(1000000, .arr 4 p0.length (fF eTUnit zTUnit p0) false)] (.tup []) [(1000000, .arr 4 r.length (fF eTUnit zTUnit r) false)] := by
 unfold X.g_SortFunc_Unit_Mof at H
 refine fn_mu (fn := Tryz.f192) (ir := g_SortFunc_Unit_ir) (E' := []) (E1 := [(1000000, ar 4 eTUnit zTUnit r)]) glL Tryz.func192 (by kernel_rfl) (by kernel_rfl) (by kernel_rfl) (by kernel_rfl) (by kernel_rfl) ?_
 refine sn [] [] [(4, cL p0)] [] [] (fun t => lI p0 (t)) ?_
 obtain ⟨v1, h2, H⟩ := oB H
 obtain ⟨v3, h4, H⟩ := oB H
 obtain ⟨g5, H⟩ := oI H
 refine oo [.res (cI v1), .mu [(1000000, 1000000)] [(1000000, 1000000)] (.tup []) [(1000000, ar 4 eTUnit zTUnit v3)]] [.rel 0 v3.length, .rel 7 v3.length] [] [(1000000, ar 4 eTUnit zTUnit v3)] (fun t => aI (x_math_bits_Len_ok (IntKind.u64.wrap (p0.length : Int)) v1 h2) (aI (g_pdqsortCmpFunc_Unit_Modddf_c0_ok p0 0 (p0.length : Int) v1 (cf1) f1 hf1 v3 h4) (aG 2 (Eq.symm g5) (t)))) ?_
 cases H
 exact qn
def i_viewOf_ir : S :=
 (sq [o 3 (.box 12 (.t 0)), o 4 (.box 3 (.t 1)), o 6 (.alloc [.int .i64 0, .int .i64 0, .int .i64 0, .nil, .nil, .nil])]
 (.seq (.drw [(0, 1), (0, 2), (0, 3), (1, 3), (2, 3), (0, 4), (1, 4), (2, 4), (0, 5), (1, 5), (2, 5), (3, 5), (4, 5), (0, 6), (1, 6), (2, 6), (3, 6), (4, 6), (5, 6), (0, 7), (1, 7), (2, 7), (3, 7), (4, 7), (5, 7), (6, 7), (0, 8), (1, 8), (2, 8), (3, 8), (4, 8), (0, 10), (1, 10), (2, 10), (3, 10), (4, 10), (5, 10), (6, 10), (7, 10), (8, 10), (9, 10)] [om 10 2, oa 11 0 4, ol 12 11, oa 13 1 4, ol 14 13, o 15 (.load 12 true (.t 3)), o 16 (.load 3 true (.t 4)), om 17 2, o 18 (.call 191 [.t 15, .t 16, .t 17]), o 19 (.build [.int .i64 0, .int .i64 0, .int .i64 0, .nil, .nil, .nil] [(0, 1, .t 10), (1, 1, .t 12), (2, 1, .t 14), (3, 1, .t 18)]), o 7 (.alloc [.int .i64 0, .int .i64 0, .int .i64 0, .nil, .nil, .nil]), os 6 7 19])
 (.seq (sq [oa 20 2 4, ol 21 20, o 22 (.len (.t 21)), o 23 (.mv (iv 0))]
 (.blk 0 (.loop (sq [o 24 (.bin .lss (.t 23) (.t 22))]
   (.seq (.ite (.t 24) .skip
   (.exit 0))
   (.seq (.blk 1 (sq [o 25 (.iad 4 (.t 21) (.t 23)), o 26 (.load 4 true (.t 25)), o 9 (.alloc [.int .i64 0, .int .i64 0, .int .i64 0, .int .i64 0]), os 4 9 26]
    (sq [oa 27 0 9, ol 28 27, om 29 2, o 30 (.bin .eql (.t 28) (.t 29))]
    (.ite (.t 30) (.ops [oa 31 4 7, ol 32 31, o 33 (.load 4 true (.t 9)), o 34 (.bsl 4 [.t 33]), o 35 (.app 4 32 (.t 32) (.t 34)), oa 36 4 7, os 1 36 35])
    (sq [oa 37 2 9, ol 38 37, o 39 (.bin .geq (.t 38) (iv 0)), om 40 39, oh 41 (.fad 3 (.t 7)) 40, oh 42 (.load 1 false (.t 41)) 40, oh 43 (.fad 2 (.t 9)) 40, oh 44 (.load 1 false (.t 43)) 40, oh 45 (.call 153 [.t 42, .t 44]) 40, o 46 (.pick (.t 40) (.t 45) bF)]
     (.ite (.t 46) (.ops [oa 47 5 7, ol 48 47, o 49 (.load 4 true (.t 9)), o 50 (.bsl 4 [.t 49]), o 51 (.app 4 32 (.t 48) (.t 50)), oa 52 5 7, os 1 52 51])
     .skip))))))
   (.ops [o 53 (.bin .add (.t 23) (iv 1)), om 23 53])))))))
 (sq [oa 54 5 7, ol 55 54, o 56 (.call 192 [.t 55, .f 155])]
 (sq [o 57 (.load 6 true (.t 7)), os 6 6 57]
 .ret)))))
noncomputable def X.i_viewOf (p0 : TBoard) (p1 : TState) (p2 : Int) : Option TView :=
 ((X.i_seenHexes p0 p1 p2).bind fun v1 => ((loop (fun (x26 : (Int × (List Int) × (List TUnit) × (List TUnit))) => ((bif (decide (x26.1 < (p1.Units.length : Int))) then ((at' zTUnit p1.Units x26.1).bind fun v29 => (bif (v29.Side == p2) then (if (x26.2.2.1 ++ ([v29] : List TUnit)).length ≤ LIM then some (Sum.inl ((W (x26.1 + 1)), x26.2.1, (x26.2.2.1 ++ ([v29] : List TUnit)), x26.2.2.2)) else none) else (bif (decide (v29.At ≥ 0)) then ((X.g_Contains_int x26.2.1 v29.At).bind fun v34 => (bif v34 then (if (x26.2.2.2 ++ ([v29] : List TUnit)).length ≤ LIM then some (Sum.inl ((W (x26.1 + 1)), x26.2.1, x26.2.2.1, (x26.2.2.2 ++ ([v29] : List TUnit)))) else none) else some (Sum.inl ((W (x26.1 + 1)), x26.2.1, x26.2.2.1, x26.2.2.2)))) else some (Sum.inl ((W (x26.1 + 1)), x26.2.1, x26.2.2.1, x26.2.2.2))))) else some (Sum.inr (x26.2.1, x26.2.2.1, x26.2.2.2))) : Option ((Int × (List Int) × (List TUnit) × (List TUnit)) ⊕ ((List Int) × (List TUnit) × (List TUnit))))) (0, v1, ([] : List TUnit), ([] : List TUnit))).bind fun y38 => ((X.g_SortFunc_Unit_Mof y38.2.2 (fun q0 q1 => X.i_compareUnits q0 q1)).bind fun v40 => (if v40.length = y38.2.2.length then some (TView.mk p2 p1.Turn p1.Weather y38.1 y38.2.1 v40) else none))))
theorem i_viewOf_Mddd_ok (p0 : TBoard) (p1 : TState) (p2 : Int) (r : TView) (H : X.i_viewOf p0 p1 p2 = some r) : FnMu Tryz.prog gl 119 [.agg (eTBoard p0), .agg (eTState p1), cI p2] [] (.agg [.int .i64 r.Side, .int .i64 r.Turn, .int .i64 r.Weather, .own 900000 1 0 r.Seen.length, .own 900001 4 0 r.Own.length, .own 900002 4 0 r.Enemies.length]) [(6, .var [.int .i64 r.Side, .int .i64 r.Turn, .int .i64 r.Weather, .own 900000 1 0 r.Seen.length, .own 900001 4 0 r.Own.length, .own 900002 4 0 r.Enemies.length] false), (900000, .arr 1 r.Seen.length (fF eI zI r.Seen) false), (900001, .arr 4 r.Own.length (fF eTUnit zTUnit r.Own) false), (900002, .arr 4 r.Enemies.length (fF eTUnit zTUnit r.Enemies) false)] := by
 unfold X.i_viewOf at H
 refine fn_mu (fn := Tryz.f119) (ir := i_viewOf_ir) (E' := [(6, pk 6)]) (E1 := [(6, .var [jI r.Side, jI r.Turn, jI r.Weather, .own 900000 1 0 r.Seen.length, .own 900001 4 0 r.Own.length, .own 900002 4 0 r.Enemies.length] false), (900000, ar 1 eI zI r.Seen), (900001, ar 4 eTUnit zTUnit r.Own), (900002, ar 4 eTUnit zTUnit r.Enemies)]) glL Tryz.func119 (by kernel_rfl) (by kernel_rfl) (by kernel_rfl) (by kernel_rfl) (by kernel_rfl) ?_
 refine sn [] [] [(3, pk 3), (4, pk 4), (6, pk 6)] [] [(3, va (eTBoard p0)), (4, va (eTState p1)), (6, .var [jI 0, jI 0, jI 0, .nil, .nil, .nil] false)] id ?_
 obtain ⟨v1, h2, H⟩ := oB H
 refine xn [.mu [] [(900000, 1001)] (ow 900000 1 v1) [(900000, ar 1 eI zI v1)]] [] [(7, pk 7)] [] [(7, .var [jI p2, jI p1.Turn, jI p1.Weather, .own 1001 1 0 v1.length, .nil, .nil] false), (1001, ar 1 eI zI v1)] (aI (i_seenHexes_Mddd_ok p0 p1 p2 v1 h2)) ?_
 refine seq_in ?_
 refine sn [] [] [(21, dc 4 eTUnit zTUnit p1.Units), (22, cL p1.Units), (23, cI 0)] [3] [] (fun t => lI p1.Units (t)) ?_
 refine ends_blk ?_
 obtain ⟨y38, h39, H⟩ := oB H
 refine tl [.nloc 7 4 1002 4 (fF eTUnit zTUnit ([] : List TUnit)), .nloc 7 5 1003 4 (fF eTUnit zTUnit ([] : List TUnit))] [(2, cI p2), (6, pk 6), (7, pk 7), (21, dc 4 eTUnit zTUnit p1.Units), (22, cL p1.Units), (23, cI 0)] [(6, .var [jI 0, jI 0, jI 0, .nil, .nil, .nil] false), (7, .var [jI p2, jI p1.Turn, jI p1.Weather, .own 1001 1 0 v1.length, .own 1002 4 0 (([] : List TUnit).length), .own 1003 4 0 (([] : List TUnit).length)] false), (1001, ar 1 eI zI v1), (1002, ar 4 eTUnit zTUnit ([] : List TUnit)), (1003, ar 4 eTUnit zTUnit ([] : List TUnit))] (fun t => aG 2 (by decide : 0 < 4) (t)) ?_
 refine loop_in (fun (x : (Int × (List Int) × (List TUnit) × (List TUnit))) => lit [(2, cI p2), (6, pk 6), (7, pk 7), (21, dc 4 eTUnit zTUnit p1.Units), (22, cL p1.Units), (23, cI x.1)] [(6, .var [jI 0, jI 0, jI 0, .nil, .nil, .nil] false), (7, .var [jI p2, jI p1.Turn, jI p1.Weather, .own 1001 1 0 x.2.1.length, .own 1002 4 0 x.2.2.1.length, .own 1003 4 0 x.2.2.2.length] false), (1001, ar 1 eI zI x.2.1), (1002, ar 4 eTUnit zTUnit x.2.2.1), (1003, ar 4 eTUnit zTUnit x.2.2.2)]) (fun (z : ((List Int) × (List TUnit) × (List TUnit))) => At (.exit 0) (lit [(6, pk 6), (7, pk 7)] [(6, .var [jI 0, jI 0, jI 0, .nil, .nil, .nil] false), (7, .var [jI p2, jI p1.Turn, jI p1.Weather, .own 1001 1 0 z.1.length, .own 1002 4 0 z.2.1.length, .own 1003 4 0 z.2.2.length] false), (1001, ar 1 eI zI z.1), (1002, ar 4 eTUnit zTUnit z.2.1), (1003, ar 4 eTUnit zTUnit z.2.2)])) h39 ?_ ?_
 ·clear H h39
  intro x26 y0 H
  refine sn [] [] [(24, cB (decide (x26.1 < (p1.Units.length : Int))))] [] [] id ?_
  refine seq_in ?_
  rcases oC H with ⟨c28, H⟩ | ⟨c28, H⟩
  ·refine it c28 ?_
   refine sk ?_
   refine seq_in ?_
   refine ends_blk ?_
   obtain ⟨v29, h30, H⟩ := oB H
   refine sn [.cs (eTUnit v29)] [] [(9, pk 9)] [] [(9, va (eTUnit v29))] (a2 eTUnit h30) ?_
   refine sn [] [] [(30, cB (v29.Side == p2))] [] [] id ?_
   rcases oC H with ⟨c31, H⟩ | ⟨c31, H⟩
   ·refine it c31 ?_
    obtain ⟨g32, H⟩ := oI H
    refine oo [fh eTUnit zTUnit ([v29] : List TUnit), fh eTUnit zTUnit (x26.2.2.1 ++ ([v29] : List TUnit))] [] [(2, cI p2), (6, pk 6), (7, pk 7), (21, dc 4 eTUnit zTUnit p1.Units), (22, cL p1.Units), (23, cI x26.1)] [(6, .var [jI 0, jI 0, jI 0, .nil, .nil, .nil] false), (7, .var [jI p2, jI p1.Turn, jI p1.Weather, .own 1001 1 0 x26.2.1.length, .own 35 4 0 ((x26.2.2.1 ++ ([v29] : List TUnit)).length), .own 1003 4 0 x26.2.2.2.length] false), (35, ar 4 eTUnit zTUnit (x26.2.2.1 ++ ([v29] : List TUnit))), (1001, ar 1 eI zI x26.2.1), (1003, ar 4 eTUnit zTUnit x26.2.2.2)] (fun t => aI (rfl : ([v29] : List TUnit).length = 1) (aI (fF_lit eTUnit zTUnit ([v29] : List TUnit)) (aI (And.intro (Nat.le_refl x26.2.2.1.length) (And.intro (@List.length_append _ x26.2.2.1 ([v29] : List TUnit)) g32)) (aI (fF_appL eTUnit zTUnit x26.2.2.1 ([v29] : List TUnit)) (aI (fF_appR eTUnit zTUnit x26.2.2.1 ([v29] : List TUnit)) (t)))))) ?_
    change EndsI _ _ _ _ _ _
    refine oo [] [.ren 35 1002] [(2, cI p2), (6, pk 6), (7, pk 7), (21, dc 4 eTUnit zTUnit p1.Units), (22, cL p1.Units), (23, cI (W (x26.1 + 1)))] [(6, .var [jI 0, jI 0, jI 0, .nil, .nil, .nil] false), (7, .var [jI p2, jI p1.Turn, jI p1.Weather, .own 1001 1 0 x26.2.1.length, .own 1002 4 0 ((x26.2.2.1 ++ ([v29] : List TUnit)).length), .own 1003 4 0 x26.2.2.2.length] false), (1001, ar 1 eI zI x26.2.1), (1002, ar 4 eTUnit zTUnit (x26.2.2.1 ++ ([v29] : List TUnit))), (1003, ar 4 eTUnit zTUnit x26.2.2.2)] id ?_
    cases H
    exact rr
   ·refine jf c31 ?_
    rcases oC H with ⟨c33, H⟩ | ⟨c33, H⟩
    ·obtain ⟨v34, h35, H⟩ := oB H
     refine sn (rg 5 true [.res (cB v34), .g true]) [] [(46, cB v34)] [] [] (fun t => aG 5 c33 (aI (Nat.le_refl x26.2.1.length) (aI (g_Contains_int_ok x26.2.1 v29.At v34 h35) (aI c33 (t))))) ?_
     rcases oC H with ⟨c36, H⟩ | ⟨c36, H⟩
     ·refine it c36 ?_
      obtain ⟨g37, H⟩ := oI H
      refine oo [fh eTUnit zTUnit ([v29] : List TUnit), fh eTUnit zTUnit (x26.2.2.2 ++ ([v29] : List TUnit))] [] [(2, cI p2), (6, pk 6), (7, pk 7), (21, dc 4 eTUnit zTUnit p1.Units), (22, cL p1.Units), (23, cI x26.1)] [(6, .var [jI 0, jI 0, jI 0, .nil, .nil, .nil] false), (7, .var [jI p2, jI p1.Turn, jI p1.Weather, .own 1001 1 0 x26.2.1.length, .own 1002 4 0 x26.2.2.1.length, .own 51 4 0 ((x26.2.2.2 ++ ([v29] : List TUnit)).length)] false), (51, ar 4 eTUnit zTUnit (x26.2.2.2 ++ ([v29] : List TUnit))), (1001, ar 1 eI zI x26.2.1), (1002, ar 4 eTUnit zTUnit x26.2.2.1)] (fun t => aI (rfl : ([v29] : List TUnit).length = 1) (aI (fF_lit eTUnit zTUnit ([v29] : List TUnit)) (aI (And.intro (Nat.le_refl x26.2.2.2.length) (And.intro (@List.length_append _ x26.2.2.2 ([v29] : List TUnit)) g37)) (aI (fF_appL eTUnit zTUnit x26.2.2.2 ([v29] : List TUnit)) (aI (fF_appR eTUnit zTUnit x26.2.2.2 ([v29] : List TUnit)) (t)))))) ?_
      change EndsI _ _ _ _ _ _
      refine oo [] [.ren 51 1003] [(2, cI p2), (6, pk 6), (7, pk 7), (21, dc 4 eTUnit zTUnit p1.Units), (22, cL p1.Units), (23, cI (W (x26.1 + 1)))] [(6, .var [jI 0, jI 0, jI 0, .nil, .nil, .nil] false), (7, .var [jI p2, jI p1.Turn, jI p1.Weather, .own 1001 1 0 x26.2.1.length, .own 1002 4 0 x26.2.2.1.length, .own 1003 4 0 ((x26.2.2.2 ++ ([v29] : List TUnit)).length)] false), (1001, ar 1 eI zI x26.2.1), (1002, ar 4 eTUnit zTUnit x26.2.2.1), (1003, ar 4 eTUnit zTUnit (x26.2.2.2 ++ ([v29] : List TUnit)))] id ?_
      cases H
      exact rr
     ·refine jf c36 ?_
      refine sk ?_
      refine oo [] [] [(2, cI p2), (6, pk 6), (7, pk 7), (21, dc 4 eTUnit zTUnit p1.Units), (22, cL p1.Units), (23, cI (W (x26.1 + 1)))] [(6, .var [jI 0, jI 0, jI 0, .nil, .nil, .nil] false), (7, .var [jI p2, jI p1.Turn, jI p1.Weather, .own 1001 1 0 x26.2.1.length, .own 1002 4 0 x26.2.2.1.length, .own 1003 4 0 x26.2.2.2.length] false), (1001, ar 1 eI zI x26.2.1), (1002, ar 4 eTUnit zTUnit x26.2.2.1), (1003, ar 4 eTUnit zTUnit x26.2.2.2)] id ?_
      cases H
      exact rr
    ·refine sn (rg 6 false []) [] [(46, cB false)] [] [] (fun t => aG 6 c33 (t)) ?_
     refine jf rF ?_
     refine sk ?_
     refine oo [] [] [(2, cI p2), (6, pk 6), (7, pk 7), (21, dc 4 eTUnit zTUnit p1.Units), (22, cL p1.Units), (23, cI (W (x26.1 + 1)))] [(6, .var [jI 0, jI 0, jI 0, .nil, .nil, .nil] false), (7, .var [jI p2, jI p1.Turn, jI p1.Weather, .own 1001 1 0 x26.2.1.length, .own 1002 4 0 x26.2.2.1.length, .own 1003 4 0 x26.2.2.2.length] false), (1001, ar 1 eI zI x26.2.1), (1002, ar 4 eTUnit zTUnit x26.2.2.1), (1003, ar 4 eTUnit zTUnit x26.2.2.2)] id ?_
     cases H
     exact rr
  ·refine jf c28 ?_
   refine tl [] [(6, pk 6), (7, pk 7)] [(6, .var [jI 0, jI 0, jI 0, .nil, .nil, .nil] false), (7, .var [jI p2, jI p1.Turn, jI p1.Weather, .own 1001 1 0 x26.2.1.length, .own 1002 4 0 x26.2.2.1.length, .own 1003 4 0 x26.2.2.2.length] false), (1001, ar 1 eI zI x26.2.1), (1002, ar 4 eTUnit zTUnit x26.2.2.1), (1003, ar 4 eTUnit zTUnit x26.2.2.2)] id ?_
   refine ends_exit ?_
   cases H
   exact rse
 ·clear h39
  rintro e s ⟨rfl, rfl⟩
  change EndsI _ _ _ _ _ _
  obtain ⟨v40, h41, H⟩ := oB H
  obtain ⟨g42, H⟩ := oI H
  refine sn [.mu [(1003, 1000000)] [(1000000, 1003)] (.tup []) [(1000000, ar 4 eTUnit zTUnit v40)]] [.rel 55 v40.length, .relc 7 5 v40.length] [] [1003, 7] [(7, .var [jI p2, jI p1.Turn, jI p1.Weather, .own 1001 1 0 y38.1.length, .own 1002 4 0 y38.2.1.length, .own 1003 4 0 v40.length] false), (1003, ar 4 eTUnit zTUnit v40)] (fun t => aI (g_SortFunc_Unit_Mof_c0_ok y38.2.2 (155) (fun q0 q1 => X.i_compareUnits q0 q1) (fun q0 q1 r h => i_compareUnits_ok q0 q1 r h) v40 h41) (aG 2 (Eq.symm g42) (t))) ?_
  refine sn [] [] [] [6] [(6, .var [jI p2, jI p1.Turn, jI p1.Weather, .own 1001 1 0 y38.1.length, .own 1002 4 0 y38.2.1.length, .own 1003 4 0 v40.length] false)] id ?_
  refine tl [.ren 1001 900000, .ren 1002 900001, .ren 1003 900002] [(6, pk 6)] [(6, .var [jI p2, jI p1.Turn, jI p1.Weather, .own 900000 1 0 y38.1.length, .own 900001 4 0 y38.2.1.length, .own 900002 4 0 v40.length] false), (900000, ar 1 eI zI y38.1), (900001, ar 4 eTUnit zTUnit y38.2.1), (900002, ar 4 eTUnit zTUnit v40)] id ?_
  cases H
  exact er
def i_ViewOf_ir : S :=
 (sq [o 3 (.box 12 (.t 0)), o 4 (.box 3 (.t 1)), o 6 (.alloc [.int .i64 0, .int .i64 0, .int .i64 0, .nil, .nil, .nil]), o 7 (.mv bF)]
 (.seq (sq [o 8 (.load 12 true (.t 3)), o 9 (.load 3 true (.t 4)), om 10 2, o 11 (.call 100 [.t 8, .t 9, .t 10]), o 12 (.not (.t 11))]
 (.ite (.t 12) (sq [o 13 (.build [.int .i64 0, .int .i64 0, .int .i64 0, .nil, .nil, .nil] []), os 6 6 13, o 7 (.mv bF)]
  .ret)
 .skip))
 (sq [o 14 (.load 12 true (.t 3)), o 15 (.load 3 true (.t 4)), om 16 2, o 17 (.call 119 [.t 14, .t 15, .t 16]), os 6 6 17, o 7 (.mv bT)]
 .ret)))
noncomputable def X.i_ViewOf (p0 : TBoard) (p1 : TState) (p2 : Int) : Option (TView × Bool) :=
 ((X.i_isLook p0 p1 p2).bind fun v1 => (bif (!v1) then some ((TView.mk 0 0 0 ([] : List Int) ([] : List TUnit) ([] : List TUnit)), false) else ((X.i_viewOf p0 p1 p2).bind fun v4 => some (v4, true))))
theorem i_ViewOf_ok (p0 : TBoard) (p1 : TState) (p2 : Int) (r : (TView × Bool)) (H : X.i_ViewOf p0 p1 p2 = some r) : FK 52 [.agg (eTBoard p0), .agg (eTState p1), cI p2] (.tup [(true, [.int .i64 r.1.Side, .int .i64 r.1.Turn, .int .i64 r.1.Weather, dat 1 eI zI r.1.Seen, dat 4 eTUnit zTUnit r.1.Own, dat 4 eTUnit zTUnit r.1.Enemies]), (false, [.bool r.2])]) := by
 unfold X.i_ViewOf at H
 refine fi Tryz.f52 i_ViewOf_ir [(6, pk 6), (7, cB r.2)] [(6, va (eTView r.1))] glL Tryz.func52 ?_
 refine sn [] [] [(3, pk 3), (4, pk 4), (6, pk 6)] [] [(3, va (eTBoard p0)), (4, va (eTState p1)), (6, .var [jI 0, jI 0, jI 0, .nil, .nil, .nil] false)] id ?_
 refine seq_in ?_
 obtain ⟨v1, h2, H⟩ := oB H
 refine sn [.res (cB v1)] [] [(12, cB (!v1))] [] [] (aI (i_isLook_ok p0 p1 p2 v1 h2)) ?_
 rcases oC H with ⟨c3, H⟩ | ⟨c3, H⟩
 ·refine it c3 ?_
  refine sn [] [] [(7, cB false)] [] [] id ?_
  refine tl [.nldc 6 3 1 (fF eI zI ([] : List Int)), .nldc 6 4 4 (fF eTUnit zTUnit ([] : List TUnit)), .nldc 6 5 4 (fF eTUnit zTUnit ([] : List TUnit))] [(6, pk 6), (7, cB false)] [(6, .var [jI 0, jI 0, jI 0, dat 1 eI zI ([] : List Int), dat 4 eTUnit zTUnit ([] : List TUnit), dat 4 eTUnit zTUnit ([] : List TUnit)] false)] id ?_
  cases H
  exact er
 ·refine jf c3 ?_
  refine sk ?_
  obtain ⟨v4, h5, H⟩ := oB H
  refine sn [.mu [] [(6, 1001), (900000, 1002), (900001, 1003), (900002, 1004)] (.agg [jI v4.Side, jI v4.Turn, jI v4.Weather, .own 900000 1 0 v4.Seen.length, .own 900001 4 0 v4.Own.length, .own 900002 4 0 v4.Enemies.length]) [(6, .var [jI v4.Side, jI v4.Turn, jI v4.Weather, .own 900000 1 0 v4.Seen.length, .own 900001 4 0 v4.Own.length, .own 900002 4 0 v4.Enemies.length] false), (900000, ar 1 eI zI v4.Seen), (900001, ar 4 eTUnit zTUnit v4.Own), (900002, ar 4 eTUnit zTUnit v4.Enemies)]] [] [(7, cB true)] [6] [(6, .var [jI v4.Side, jI v4.Turn, jI v4.Weather, .own 1002 1 0 v4.Seen.length, .own 1003 4 0 v4.Own.length, .own 1004 4 0 v4.Enemies.length] false), (1002, ar 1 eI zI v4.Seen), (1003, ar 4 eTUnit zTUnit v4.Own), (1004, ar 4 eTUnit zTUnit v4.Enemies)] (aI (i_viewOf_Mddd_ok p0 p1 p2 v4 h5)) ?_
  refine tl [.frc 6 3, .frc 6 4, .frc 6 5] [(6, pk 6), (7, cB true)] [(6, va (eTView v4))] (fun t => aI (Nat.le_refl v4.Seen.length) (aI (Nat.le_refl v4.Own.length) (aI (Nat.le_refl v4.Enemies.length) (t)))) ?_
  cases H
  exact er
theorem i_ViewOf_Mddd_ok (p0 : TBoard) (p1 : TState) (p2 : Int) (r : (TView × Bool)) (H : X.i_ViewOf p0 p1 p2 = some r) : FnMu Tryz.prog gl 52 [.agg (eTBoard p0), .agg (eTState p1), cI p2] [] (.tup [(true, [.int .i64 r.1.Side, .int .i64 r.1.Turn, .int .i64 r.1.Weather, .own 900000 1 0 r.1.Seen.length, .own 900001 4 0 r.1.Own.length, .own 900002 4 0 r.1.Enemies.length]), (false, [.bool r.2])]) [(6, .var [.int .i64 r.1.Side, .int .i64 r.1.Turn, .int .i64 r.1.Weather, .own 900000 1 0 r.1.Seen.length, .own 900001 4 0 r.1.Own.length, .own 900002 4 0 r.1.Enemies.length] false), (900000, .arr 1 r.1.Seen.length (fF eI zI r.1.Seen) false), (900001, .arr 4 r.1.Own.length (fF eTUnit zTUnit r.1.Own) false), (900002, .arr 4 r.1.Enemies.length (fF eTUnit zTUnit r.1.Enemies) false)] := by
 unfold X.i_ViewOf at H
 refine fn_mu (fn := Tryz.f52) (ir := i_ViewOf_ir) (E' := [(6, pk 6), (7, cB r.2)]) (E1 := [(6, .var [jI r.1.Side, jI r.1.Turn, jI r.1.Weather, .own 900000 1 0 r.1.Seen.length, .own 900001 4 0 r.1.Own.length, .own 900002 4 0 r.1.Enemies.length] false), (900000, ar 1 eI zI r.1.Seen), (900001, ar 4 eTUnit zTUnit r.1.Own), (900002, ar 4 eTUnit zTUnit r.1.Enemies)]) glL Tryz.func52 (by kernel_rfl) (by kernel_rfl) (by kernel_rfl) (by kernel_rfl) (by kernel_rfl) ?_
 refine sn [] [] [(3, pk 3), (4, pk 4), (6, pk 6)] [] [(3, va (eTBoard p0)), (4, va (eTState p1)), (6, .var [jI 0, jI 0, jI 0, .nil, .nil, .nil] false)] id ?_
 refine seq_in ?_
 obtain ⟨v1, h2, H⟩ := oB H
 refine sn [.res (cB v1)] [] [(12, cB (!v1))] [] [] (aI (i_isLook_ok p0 p1 p2 v1 h2)) ?_
 rcases oC H with ⟨c3, H⟩ | ⟨c3, H⟩
 ·refine it c3 ?_
  refine sn [] [] [(7, cB false)] [] [] id ?_
  refine tl [.nloc 6 3 900000 1 (fF eI zI ([] : List Int)), .nloc 6 4 900001 4 (fF eTUnit zTUnit ([] : List TUnit)), .nloc 6 5 900002 4 (fF eTUnit zTUnit ([] : List TUnit))] [(6, pk 6), (7, cB false)] [(6, .var [jI 0, jI 0, jI 0, .own 900000 1 0 (([] : List Int).length), .own 900001 4 0 (([] : List TUnit).length), .own 900002 4 0 (([] : List TUnit).length)] false), (900000, ar 1 eI zI ([] : List Int)), (900001, ar 4 eTUnit zTUnit ([] : List TUnit)), (900002, ar 4 eTUnit zTUnit ([] : List TUnit))] (fun t => aI (by decide : 0 < 1) (aG 2 (by decide : 0 < 4) (t))) ?_
  cases H
  exact er
 ·refine jf c3 ?_
  refine sk ?_
  obtain ⟨v4, h5, H⟩ := oB H
  refine sn [.mu [] [(6, 1001), (900000, 1002), (900001, 1003), (900002, 1004)] (.agg [jI v4.Side, jI v4.Turn, jI v4.Weather, .own 900000 1 0 v4.Seen.length, .own 900001 4 0 v4.Own.length, .own 900002 4 0 v4.Enemies.length]) [(6, .var [jI v4.Side, jI v4.Turn, jI v4.Weather, .own 900000 1 0 v4.Seen.length, .own 900001 4 0 v4.Own.length, .own 900002 4 0 v4.Enemies.length] false), (900000, ar 1 eI zI v4.Seen), (900001, ar 4 eTUnit zTUnit v4.Own), (900002, ar 4 eTUnit zTUnit v4.Enemies)]] [] [(7, cB true)] [6] [(6, .var [jI v4.Side, jI v4.Turn, jI v4.Weather, .own 1002 1 0 v4.Seen.length, .own 1003 4 0 v4.Own.length, .own 1004 4 0 v4.Enemies.length] false), (1002, ar 1 eI zI v4.Seen), (1003, ar 4 eTUnit zTUnit v4.Own), (1004, ar 4 eTUnit zTUnit v4.Enemies)] (aI (i_viewOf_Mddd_ok p0 p1 p2 v4 h5)) ?_
  refine tl [.ren 1002 900000, .ren 1003 900001, .ren 1004 900002] [(6, pk 6), (7, cB true)] [(6, .var [jI v4.Side, jI v4.Turn, jI v4.Weather, .own 900000 1 0 v4.Seen.length, .own 900001 4 0 v4.Own.length, .own 900002 4 0 v4.Enemies.length] false), (900000, ar 1 eI zI v4.Seen), (900001, ar 4 eTUnit zTUnit v4.Own), (900002, ar 4 eTUnit zTUnit v4.Enemies)] id ?_
  cases H
  exact er
def l_FnExactViewOf_ir : S :=
 (sq [o 3 (.box 12 (.t 0)), o 4 (.box 3 (.t 1)), o 6 (.mv bF)]
 (sq [o 7 (.mv (iv 1048576))]
 (sq [o 19 (.load 12 true (.t 3)), om 20 7, o 21 (.call 10 [.t 19, .t 20]), om 7 21]
 (.seq (sq [om 22 7, o 23 (.bin .lss (.t 22) (iv 0))]
 (.ite (.t 23) (sq [o 6 (.mv bT)]
  .ret)
 .skip))
 (sq [o 24 (.load 3 true (.t 4)), om 25 7, o 26 (.call 19 [.t 24, .t 25]), om 7 26]
 (.seq (sq [om 27 7, o 28 (.bin .lss (.t 27) (iv 0))]
 (.ite (.t 28) (sq [o 6 (.mv bT)]
  .ret)
 .skip))
 (.seq (.drw [(0, 2), (1, 2), (0, 4), (1, 4), (2, 4), (3, 4), (7, 8), (0, 9), (1, 9), (2, 9), (3, 9), (4, 9), (5, 9), (6, 9), (7, 9), (8, 9), (8, 10)] [o 30 (.load 12 true (.t 3)), o 31 (.call 12 [.t 30]), o 32 (.load 3 true (.t 4)), o 33 (.call 21 [.t 32]), om 34 2, o 35 (.call 51 [.t 31, .t 33, .t 34]), om 29 35, o 36 (.ext (.t 29) 0), o 37 (.ext (.t 29) 1), o 8 (.alloc [.int .i64 0, .int .i64 0, .int .i64 0, .nil, .nil, .nil]), os 6 8 36, om 9 37])
 (sq [o 38 (.load 12 true (.t 3)), o 39 (.call 12 [.t 38]), o 10 (.alloc [.nil, .nil, .int .i64 0, .int .i64 0, .int .i64 0, .int .i64 0, .int .i64 0, .int .i64 0, .int .i64 0, .nil, .nil, .nil]), os 12 10 39]
 (sq [o 40 (.load 3 true (.t 4)), o 41 (.call 21 [.t 40]), o 11 (.alloc [.int .i64 0, .int .i64 0, .nil]), os 3 11 41]
 (sq [o 43 (.load 12 true (.t 10)), o 44 (.load 3 true (.t 11)), om 45 2, o 46 (.call 52 [.t 43, .t 44, .t 45]), om 42 46, o 47 (.ext (.t 42) 0), o 48 (.ext (.t 42) 1), o 12 (.alloc [.int .i64 0, .int .i64 0, .int .i64 0, .nil, .nil, .nil]), os 6 12 47, om 13 48]
 (.seq (sq [o 49 (.load 6 true (.t 12)), o 50 (.load 6 true (.t 8)), o 51 (.call 14 [.t 49, .t 50]), o 52 (.not (.t 51)), om 53 52, og 54 (.mv (.t 13)) 53, og 55 (.mv (.t 9)) 53, og 56 (.bqe true (.t 54) (.t 55)) 53, o 57 (.pick (.t 53) bT (.t 56))]
 (.ite (.t 57) (sq [o 6 (.mv bF)]
  .ret)
 .skip))
 (.seq (.seq (.drw [(0, 1), (0, 2)] [o 58 (.load 12 true (.t 10)), o 59 (.load 12 true (.t 3)), o 60 (.call 12 [.t 59]), o 61 (.call 15 [.t 58, .t 60]), o 62 (.not (.t 61))])
 (.ite (.t 62) (sq [o 6 (.mv bF)]
  .ret)
 .skip))
 (.seq (.seq (.drw [(0, 1), (0, 2)] [o 63 (.load 3 true (.t 11)), o 64 (.load 3 true (.t 4)), o 65 (.call 21 [.t 64]), o 66 (.call 24 [.t 63, .t 65]), o 67 (.not (.t 66))])
 (.ite (.t 67) (sq [o 6 (.mv bF)]
  .ret)
 .skip))
 (sq [o 14 (.mv (iv 1))]
 (sq [o 68 (.load 12 true (.t 10)), om 69 14, o 70 (.call 16 [.t 68, .t 69]), om 14 70]
 (sq [o 71 (.load 3 true (.t 11)), om 72 14, o 73 (.call 25 [.t 71, .t 72]), om 14 73]
 (.seq (sq [om 74 14, o 75 (.bin .lss (.t 74) (iv 0)), om 76 75, og 77 (.load 6 true (.t 12)) 76, og 78 (.load 6 true (.t 8)) 76, og 79 (.call 14 [.t 77, .t 78]) 76, og 80 (.not (.t 79)) 76, o 81 (.pick (.t 76) bT (.t 80)), om 82 81, og 83 (.mv (.t 13)) 82, og 84 (.mv (.t 9)) 82, og 85 (.bqe true (.t 83) (.t 84)) 82, o 86 (.pick (.t 82) bT (.t 85))]
 (.ite (.t 86) (sq [o 6 (.mv bF)]
  .ret)
 .skip))
 (sq [o 15 (.mv (iv 1))]
 (sq [o 87 (.load 6 true (.t 12)), om 88 15, o 89 (.call 17 [.t 87, .t 88]), om 15 89]
 (sq [o 16 (.mv (iv 1))]
 (sq [o 90 (.load 6 true (.t 12)), om 91 16, o 92 (.call 18 [.t 90, .t 91]), om 16 92]
 (.seq (sq [om 93 16, o 94 (.bin .lss (.t 93) (iv 0))]
 (.ite (.t 94) (sq [o 6 (.mv bF)]
  .ret)
 .skip))
 (.seq (sq [om 95 16, om 96 15, o 97 (.bin .neq (.t 95) (.t 96))]
 (.ite (.t 97) (sq [o 6 (.mv bF)]
  .ret)
 .skip))
 (.seq (.drw [(0, 2), (1, 2), (0, 4), (1, 4), (2, 4), (3, 4), (7, 8), (0, 9), (1, 9), (2, 9), (3, 9), (4, 9), (5, 9), (6, 9), (7, 9), (8, 9), (8, 10)] [o 99 (.load 12 true (.t 3)), o 100 (.call 12 [.t 99]), o 101 (.load 3 true (.t 4)), o 102 (.call 21 [.t 101]), om 103 2, o 104 (.call 52 [.t 100, .t 102, .t 103]), om 98 104, o 105 (.ext (.t 98) 0), o 106 (.ext (.t 98) 1), o 17 (.alloc [.int .i64 0, .int .i64 0, .int .i64 0, .nil, .nil, .nil]), os 6 17 105, om 18 106])
 (.seq (sq [o 107 (.load 6 true (.t 17)), o 108 (.load 6 true (.t 8)), o 109 (.call 14 [.t 107, .t 108]), o 110 (.not (.t 109)), om 111 110, og 112 (.mv (.t 18)) 111, og 113 (.mv (.t 9)) 111, og 114 (.bqe true (.t 112) (.t 113)) 111, o 115 (.pick (.t 111) bT (.t 114))]
 (.ite (.t 115) (sq [o 6 (.mv bF)]
  .ret)
 .skip))
 (sq [o 16 (.mv (iv 1))]
 (sq [o 116 (.load 6 true (.t 12)), om 117 16, o 118 (.call 18 [.t 116, .t 117]), om 16 118]
 (.seq (sq [om 119 16, o 120 (.bin .lss (.t 119) (iv 0))]
 (.ite (.t 120) (sq [o 6 (.mv bF)]
  .ret)
 .skip))
 (.seq (sq [om 121 16, om 122 15, o 123 (.bin .neq (.t 121) (.t 122))]
 (.ite (.t 123) (sq [o 6 (.mv bF)]
  .ret)
 .skip))
 (sq [o 6 (.mv bT)]
 .ret))))))))))))))))))))))))))))))
noncomputable def X.l_FnExactViewOf (p0 : TBoard) (p1 : TState) (p2 : Int) : Option Bool :=
 ((X.l_szBoard p0 1048576).bind fun v1 => (bif (decide (v1 < 0)) then some true else ((X.l_szState p1 v1).bind fun v5 => (bif (decide (v5 < 0)) then some true else ((X.l_toBoard p0).bind fun v9 => ((X.l_toState p1).bind fun v11 => ((X.s_ViewOf v9 v11 p2).bind fun v13 => ((X.l_toBoard p0).bind fun v15 => ((X.l_toState p1).bind fun v17 => ((X.i_ViewOf v15 v17 p2).bind fun v19 => ((X.l_eqView v19.1 v13.1).bind fun v25 => (bif (!v25) then some false else (bif (!(v19.2 == v13.2)) then some false else ((X.l_toBoard p0).bind fun v34 => ((X.l_eqBoard v15 v34).bind fun v36 => (bif (!v36) then some false else ((X.l_toState p1).bind fun v44 => ((X.l_eqState v17 v44).bind fun v46 => (bif (!v46) then some false else ((X.l_markBoard_L v15 1).bind fun v49 => ((X.l_markState_L v17 v49).bind fun v51 => (bif (decide (v51 < 0)) then some false else ((X.l_eqView v19.1 v13.1).bind fun v58 => (bif (!v58) then some false else ((X.l_markView_Mod v19.1 1).bind fun v61 => (if v61.2.Seen.length = v19.1.Seen.length then (if v61.2.Own.length = v19.1.Own.length then (if v61.2.Enemies.length = v19.1.Enemies.length then ((X.l_heldView (TView.mk v19.1.Side v19.1.Turn v19.1.Weather v61.2.Seen v61.2.Own v61.2.Enemies) 1).bind fun v66 => (bif (decide (v66 < 0)) then some false else (bif (v66 != v61.1) then some false else ((X.l_toBoard p0).bind fun v72 => ((X.l_toState p1).bind fun v74 => ((X.i_ViewOf v72 v74 p2).bind fun v76 => ((X.l_eqView v76.1 v13.1).bind fun v82 => (bif (!v82) then some false else (bif (!(v76.2 == v13.2)) then some false else ((X.l_heldView (TView.mk v19.1.Side v19.1.Turn v19.1.Weather v61.2.Seen v61.2.Own v61.2.Enemies) 1).bind fun v86 => (bif (decide (v86 < 0)) then some false else (bif (v86 != v61.1) then some false else some true)))))))))))) else none) else none) else none))))))))))))))))))))))))))
theorem l_FnExactViewOf_T_ok (p0 : TBoard) (p1 : TState) (p2 : Int) (H : X.l_FnExactViewOf p0 p1 p2 = some true) : LawOk Tryz.prog gl 9 [.agg (eTBoard p0), .agg (eTState p1), cI p2] := by
 unfold X.l_FnExactViewOf at H
 refine lawOk_of (fn := Tryz.f9) (ir := l_FnExactViewOf_ir) (s1 := lit [(6, cB true)] []) Tryz.func9 (by kernel_rfl) (by kernel_rfl) (by kernel_rfl) (by kernel_rfl) ?_
 refine tl [] [(0, .agg (oTBoard p0)), (1, .agg (oTState p1)), (2, cI p2)] [] id ?_
 refine sn [] [] [(3, pk 3), (4, pk 4)] [] [(3, va (oTBoard p0)), (4, va (oTState p1))] id ?_
 refine sn [] [] [(7, cI 1048576)] [] [] id ?_
 obtain ⟨v1, h2, H⟩ := oB H
 refine so [.res (cI v1)] [] [(2, cI p2), (3, pk 3), (4, pk 4), (7, cI v1)] [(3, va (oTBoard p0)), (4, va (oTState p1))] (aI ((FnOk.le2 (xs := [.agg (oTBoard p0), cI 1048576]) (l_szBoard_ok p0 1048576 v1 h2) ⟨LeD.agg (And.intro (LeC.old _) (And.intro (LeC.old _) (And.intro (LeC.refl _) (And.intro (LeC.refl _) (And.intro (LeC.refl _) (And.intro (LeC.refl _) (And.intro (LeC.refl _) (And.intro (LeC.refl _) (And.intro (LeC.refl _) (And.intro (LeC.old _) (And.intro (LeC.old _) (And.intro (LeC.old _) (trivial))))))))))))), LeD.refl _, trivial⟩).up glTs)) ?_
 refine seq_in ?_
 refine sn [] [] [(23, cB (decide (v1 < 0)))] [] [] id ?_
 rcases oC H with ⟨c4, H⟩ | ⟨c4, H⟩
 ·refine it c4 ?_
  refine so [] [] [(6, cB true)] [] id ?_
  refine ends_ret ?_
  exact qr
 ·refine jf c4 ?_
  refine sk ?_
  obtain ⟨v5, h6, H⟩ := oB H
  refine so [.res (cI v5)] [] [(2, cI p2), (3, pk 3), (4, pk 4), (7, cI v5)] [(3, va (oTBoard p0)), (4, va (oTState p1))] (aI ((FnOk.le2 (xs := [.agg (oTState p1), cI v1]) (l_szState_ok p1 v1 v5 h6) ⟨LeD.agg (And.intro (LeC.refl _) (And.intro (LeC.refl _) (And.intro (LeC.old _) (trivial)))), LeD.refl _, trivial⟩).up glTs)) ?_
  refine seq_in ?_
  refine sn [] [] [(28, cB (decide (v5 < 0)))] [] [] id ?_
  rcases oC H with ⟨c8, H⟩ | ⟨c8, H⟩
  ·refine it c8 ?_
   refine so [] [] [(6, cB true)] [] id ?_
   refine ends_ret ?_
   exact qr
  ·refine jf c8 ?_
   refine sk ?_
   obtain ⟨v9, h10, H⟩ := oB H
   obtain ⟨v11, h12, H⟩ := oB H
   obtain ⟨v13, h14, H⟩ := oB H
   refine xn [.res (.agg (rTBoard v9)), .res (.agg (rTState v11)), .res (.tup [(true, [jI v13.1.Side, jI v13.1.Turn, jI v13.1.Weather, dat 1 eI zI v13.1.Seen, dat 4 eTUnit zTUnit v13.1.Own, dat 4 eTUnit zTUnit v13.1.Enemies]), (false, [.bool v13.2])])] [] [(8, pk 8), (9, cB v13.2)] [] [(8, va (eTView v13.1))] (fun t => aI ((FnOk.le2 (xs := [.agg (oTBoard p0)]) (l_toBoard_F_ok p0 v9 h10) ⟨LeD.agg (And.intro (LeC.old _) (And.intro (LeC.old _) (And.intro (LeC.refl _) (And.intro (LeC.refl _) (And.intro (LeC.refl _) (And.intro (LeC.refl _) (And.intro (LeC.refl _) (And.intro (LeC.refl _) (And.intro (LeC.refl _) (And.intro (LeC.old _) (And.intro (LeC.old _) (And.intro (LeC.old _) (trivial))))))))))))), trivial⟩).up glTs) (aG 2 rN (aI ((FnOk.le2 (xs := [.agg (oTState p1)]) (l_toState_F_ok p1 v11 h12) ⟨LeD.agg (And.intro (LeC.refl _) (And.intro (LeC.refl _) (And.intro (LeC.old _) (trivial)))), trivial⟩).up glTs) (aG 2 rN (aI ((FnOk.le2 (xs := [.agg (rTBoard v9), .agg (rTState v11), cI p2]) (s_ViewOf_ok v9 v11 p2 v13 h14) ⟨LeD.agg (And.intro (LeC.fr _) (And.intro (LeC.fr _) (And.intro (LeC.refl _) (And.intro (LeC.refl _) (And.intro (LeC.refl _) (And.intro (LeC.refl _) (And.intro (LeC.refl _) (And.intro (LeC.refl _) (And.intro (LeC.refl _) (And.intro (LeC.fr _) (And.intro (LeC.fr _) (And.intro (LeC.fr _) (trivial))))))))))))), LeD.agg (And.intro (LeC.refl _) (And.intro (LeC.refl _) (And.intro (LeC.fr _) (trivial)))), LeD.refl _, trivial⟩).up glTs) (aG 2 rN (t))))))) ?_
   refine tl [] [(2, cI p2), (3, pk 3), (4, pk 4), (8, pk 8), (9, cB v13.2)] [(3, va (oTBoard p0)), (4, va (oTState p1)), (8, va (eTView v13.1))] id ?_
   refine turn0 (E := [(2, cI p2), (3, pk 3), (4, pk 4), (8, pk 8), (9, cB v13.2)]) (E' := [(2, cI p2), (3, pk 3), (4, pk 4), (8, pk 8), (9, cB v13.2)]) (H := [(3, va (oTBoard p0)), (4, va (oTState p1)), (8, va (eTView v13.1))]) (H' := [(3, va (oTBoard p0)), (4, va (oTState p1)), (8, va (oTView v13.1))]) glTn glTp (And.intro (And.intro rfl (uS (jI p2) rfl)) (And.intro (And.intro rfl (uS (.pk 3 0) rfl)) (And.intro (And.intro rfl (uS (.pk 4 0) rfl)) (And.intro (And.intro rfl (uS (.pk 8 0) rfl)) (And.intro (And.intro rfl (uS (.bool v13.2) rfl)) trivial))))) (And.intro (And.intro rfl (And.intro (uO (dat 5 eTTerrain zTTerrain p0.Rules.Terrains) (.dat shTTerrain)) (And.intro (uO (dat 6 eTKind zTKind p0.Rules.Kinds) (.dat shTKind)) (And.intro (uS (jI p0.Rules.Stack) rfl) (And.intro (uS (jI p0.Rules.River) rfl) (And.intro (uS (jI p0.Rules.Road) rfl) (And.intro (uS (jI p0.Rules.Supply) rfl) (And.intro (uS (jI p0.Rules.Turns) rfl) (And.intro (uS (jI p0.Map.Width) rfl) (And.intro (uS (jI p0.Map.Height) rfl) (And.intro (uO (dat 1 eI zI p0.Map.Terrain) (.dat shI)) (And.intro (uO (dat 1 eI zI p0.Map.Rivers) (.dat shI)) (And.intro (uO (dat 1 eI zI p0.Map.Roads) (.dat shI)) trivial))))))))))))) (And.intro (And.intro rfl (And.intro (uS (jI p1.Turn) rfl) (And.intro (uS (jI p1.Weather) rfl) (And.intro (uO (dat 4 eTUnit zTUnit p1.Units) (.dat shTUnit)) trivial)))) (And.intro (And.intro rfl (And.intro (uS (jI v13.1.Side) rfl) (And.intro (uS (jI v13.1.Turn) rfl) (And.intro (uS (jI v13.1.Weather) rfl) (And.intro (uD (dat 1 eI zI v13.1.Seen) rfl (.dat shI)) (And.intro (uD (dat 4 eTUnit zTUnit v13.1.Own) rfl (.dat shTUnit)) (And.intro (uD (dat 4 eTUnit zTUnit v13.1.Enemies) rfl (.dat shTUnit)) trivial))))))) trivial))) ?_
   obtain ⟨v15, h16, H⟩ := oB H
   refine sn [.res (.agg (rTBoard v15))] [] [(10, pk 10)] [] [(10, va (rTBoard v15))] (aI ((FnOk.le2 (xs := [.agg (oTBoard p0)]) (l_toBoard_F_ok p0 v15 h16) ⟨LeD.agg (And.intro (LeC.old _) (And.intro (LeC.old _) (And.intro (LeC.refl _) (And.intro (LeC.refl _) (And.intro (LeC.refl _) (And.intro (LeC.refl _) (And.intro (LeC.refl _) (And.intro (LeC.refl _) (And.intro (LeC.refl _) (And.intro (LeC.old _) (And.intro (LeC.old _) (And.intro (LeC.old _) (trivial))))))))))))), trivial⟩).up glTs)) ?_
   obtain ⟨v17, h18, H⟩ := oB H
   refine sn [.res (.agg (rTState v17))] [] [(11, pk 11)] [] [(11, va (rTState v17))] (aI ((FnOk.le2 (xs := [.agg (oTState p1)]) (l_toState_F_ok p1 v17 h18) ⟨LeD.agg (And.intro (LeC.refl _) (And.intro (LeC.refl _) (And.intro (LeC.old _) (trivial)))), trivial⟩).up glTs)) ?_
   obtain ⟨v19, h20, H⟩ := oB H
   refine sn [.mu [] [(6, 1001), (900000, 1002), (900001, 1003), (900002, 1004)] (.tup [(true, [jI v19.1.Side, jI v19.1.Turn, jI v19.1.Weather, .own 900000 1 0 v19.1.Seen.length, .own 900001 4 0 v19.1.Own.length, .own 900002 4 0 v19.1.Enemies.length]), (false, [.bool v19.2])]) [(6, .var [jI v19.1.Side, jI v19.1.Turn, jI v19.1.Weather, .own 900000 1 0 v19.1.Seen.length, .own 900001 4 0 v19.1.Own.length, .own 900002 4 0 v19.1.Enemies.length] false), (900000, ar 1 eI zI v19.1.Seen), (900001, ar 4 eTUnit zTUnit v19.1.Own), (900002, ar 4 eTUnit zTUnit v19.1.Enemies)]] [] [(12, pk 12), (13, cB v19.2)] [] [(12, .var [jI v19.1.Side, jI v19.1.Turn, jI v19.1.Weather, .own 1002 1 0 v19.1.Seen.length, .own 1003 4 0 v19.1.Own.length, .own 1004 4 0 v19.1.Enemies.length] false), (1002, ar 1 eI zI v19.1.Seen), (1003, ar 4 eTUnit zTUnit v19.1.Own), (1004, ar 4 eTUnit zTUnit v19.1.Enemies)] (aI ((FnMu.le2 (xs := [.agg (rTBoard v15), .agg (rTState v17), cI p2]) (i_ViewOf_Mddd_ok v15 v17 p2 v19 h20) ⟨LeK.of rfl (LeD.agg (And.intro (LeC.fr _) (And.intro (LeC.fr _) (And.intro (LeC.refl _) (And.intro (LeC.refl _) (And.intro (LeC.refl _) (And.intro (LeC.refl _) (And.intro (LeC.refl _) (And.intro (LeC.refl _) (And.intro (LeC.refl _) (And.intro (LeC.fr _) (And.intro (LeC.fr _) (And.intro (LeC.fr _) (trivial)))))))))))))), LeK.of rfl (LeD.agg (And.intro (LeC.refl _) (And.intro (LeC.refl _) (And.intro (LeC.fr _) (trivial))))), LeK.refl _, trivial⟩).up glTs)) ?_
   refine seq_in ?_
   obtain ⟨v25, h26, H⟩ := oB H
   rcases oC H with ⟨c27, H⟩ | ⟨c27, H⟩
   ·refine sn ([.res (cB v25)] ++ rg 4 true []) [] [(57, cB true)] [] [] (fun t => aI (Nat.le_refl v19.1.Seen.length) (aI (Nat.le_refl v19.1.Own.length) (aI (Nat.le_refl v19.1.Enemies.length) (aI ((FnOk.le2 (xs := [.agg (eTView v19.1), .agg (oTView v13.1)]) (l_eqView_ok v19.1 v13.1 v25 h26) ⟨LeD.refl _, LeD.agg (And.intro (LeC.refl _) (And.intro (LeC.refl _) (And.intro (LeC.refl _) (And.intro (LeC.old _) (And.intro (LeC.old _) (And.intro (LeC.old _) (trivial))))))), trivial⟩).up glTs) (aG 4 c27 (t)))))) ?_
    refine it rT ?_
    refine so [] [] [(6, cB false)] [] id ?_
    refine ends_ret ?_
    cases H
   ·refine sn ([.res (cB v25)] ++ rg 4 false []) [] [(57, cB (!(v19.2 == v13.2)))] [] [] (fun t => aI (Nat.le_refl v19.1.Seen.length) (aI (Nat.le_refl v19.1.Own.length) (aI (Nat.le_refl v19.1.Enemies.length) (aI ((FnOk.le2 (xs := [.agg (eTView v19.1), .agg (oTView v13.1)]) (l_eqView_ok v19.1 v13.1 v25 h26) ⟨LeD.refl _, LeD.agg (And.intro (LeC.refl _) (And.intro (LeC.refl _) (And.intro (LeC.refl _) (And.intro (LeC.old _) (And.intro (LeC.old _) (And.intro (LeC.old _) (trivial))))))), trivial⟩).up glTs) (aG 4 c27 (t)))))) ?_
    rcases oC H with ⟨c28, H⟩ | ⟨c28, H⟩
    ·refine it c28 ?_
     refine so [] [] [(6, cB false)] [] id ?_
     refine ends_ret ?_
     cases H
    ·refine jf c28 ?_
     refine sk ?_
     refine seq_in ?_
     obtain ⟨v34, h35, H⟩ := oB H
     obtain ⟨v36, h37, H⟩ := oB H
     refine xn [.res (.agg (rTBoard v34)), .res (cB v36)] [] [(62, cB (!v36))] [] [] (fun t => aI ((FnOk.le2 (xs := [.agg (oTBoard p0)]) (l_toBoard_F_ok p0 v34 h35) ⟨LeD.agg (And.intro (LeC.old _) (And.intro (LeC.old _) (And.intro (LeC.refl _) (And.intro (LeC.refl _) (And.intro (LeC.refl _) (And.intro (LeC.refl _) (And.intro (LeC.refl _) (And.intro (LeC.refl _) (And.intro (LeC.refl _) (And.intro (LeC.old _) (And.intro (LeC.old _) (And.intro (LeC.old _) (trivial))))))))))))), trivial⟩).up glTs) (aG 2 rN (aI ((FnOk.le2 (xs := [.agg (rTBoard v15), .agg (rTBoard v34)]) (l_eqBoard_ok v15 v34 v36 h37) ⟨LeD.agg (And.intro (LeC.fr _) (And.intro (LeC.fr _) (And.intro (LeC.refl _) (And.intro (LeC.refl _) (And.intro (LeC.refl _) (And.intro (LeC.refl _) (And.intro (LeC.refl _) (And.intro (LeC.refl _) (And.intro (LeC.refl _) (And.intro (LeC.fr _) (And.intro (LeC.fr _) (And.intro (LeC.fr _) (trivial))))))))))))), LeD.agg (And.intro (LeC.fr _) (And.intro (LeC.fr _) (And.intro (LeC.refl _) (And.intro (LeC.refl _) (And.intro (LeC.refl _) (And.intro (LeC.refl _) (And.intro (LeC.refl _) (And.intro (LeC.refl _) (And.intro (LeC.refl _) (And.intro (LeC.fr _) (And.intro (LeC.fr _) (And.intro (LeC.fr _) (trivial))))))))))))), trivial⟩).up glTs) (aI trivial (aI rN (t)))))) ?_
     rcases oC H with ⟨c38, H⟩ | ⟨c38, H⟩
     ·refine it c38 ?_
      refine so [] [] [(6, cB false)] [] id ?_
      refine ends_ret ?_
      cases H
     ·refine jf c38 ?_
      refine sk ?_
      refine seq_in ?_
      obtain ⟨v44, h45, H⟩ := oB H
      obtain ⟨v46, h47, H⟩ := oB H
      refine xn [.res (.agg (rTState v44)), .res (cB v46)] [] [(67, cB (!v46))] [] [] (fun t => aI ((FnOk.le2 (xs := [.agg (oTState p1)]) (l_toState_F_ok p1 v44 h45) ⟨LeD.agg (And.intro (LeC.refl _) (And.intro (LeC.refl _) (And.intro (LeC.old _) (trivial)))), trivial⟩).up glTs) (aG 2 rN (aI ((FnOk.le2 (xs := [.agg (rTState v17), .agg (rTState v44)]) (l_eqState_ok v17 v44 v46 h47) ⟨LeD.agg (And.intro (LeC.refl _) (And.intro (LeC.refl _) (And.intro (LeC.fr _) (trivial)))), LeD.agg (And.intro (LeC.refl _) (And.intro (LeC.refl _) (And.intro (LeC.fr _) (trivial)))), trivial⟩).up glTs) (aI trivial (aI rN (t)))))) ?_
      rcases oC H with ⟨c48, H⟩ | ⟨c48, H⟩
      ·refine it c48 ?_
       refine so [] [] [(6, cB false)] [] id ?_
       refine ends_ret ?_
       cases H
      ·refine jf c48 ?_
       refine sk ?_
       refine sn [] [] [(14, cI 1)] [] [] id ?_
       refine tl [] [(2, cI p2), (3, pk 3), (4, pk 4), (8, pk 8), (9, cB v13.2), (10, pk 10), (11, pk 11), (12, pk 12), (13, cB v19.2), (14, cI 1)] [(3, va (oTBoard p0)), (4, va (oTState p1)), (8, va (oTView v13.1)), (10, va (rTBoard v15)), (11, va (rTState v17)), (12, .var [jI v19.1.Side, jI v19.1.Turn, jI v19.1.Weather, .own 1002 1 0 v19.1.Seen.length, .own 1003 4 0 v19.1.Own.length, .own 1004 4 0 v19.1.Enemies.length] false), (1002, ar 1 eI zI v19.1.Seen), (1003, ar 4 eTUnit zTUnit v19.1.Own), (1004, ar 4 eTUnit zTUnit v19.1.Enemies)] id ?_
       refine turn (E := [(2, cI p2), (3, pk 3), (4, pk 4), (8, pk 8), (9, cB v13.2), (10, pk 10), (11, pk 11), (12, pk 12), (13, cB v19.2), (14, cI 1)]) (E' := [(2, cI p2), (3, pk 3), (4, pk 4), (8, pk 8), (9, cB v13.2), (10, pk 10), (11, pk 11), (12, pk 12), (13, cB v19.2), (14, cI 1)]) (H := [(3, va (oTBoard p0)), (4, va (oTState p1)), (8, va (oTView v13.1)), (10, va (rTBoard v15)), (11, va (rTState v17)), (12, .var [jI v19.1.Side, jI v19.1.Turn, jI v19.1.Weather, .own 1002 1 0 v19.1.Seen.length, .own 1003 4 0 v19.1.Own.length, .own 1004 4 0 v19.1.Enemies.length] false), (1002, ar 1 eI zI v19.1.Seen), (1003, ar 4 eTUnit zTUnit v19.1.Own), (1004, ar 4 eTUnit zTUnit v19.1.Enemies)]) (H' := [(3, va (eTBoard p0)), (4, va (eTState p1)), (8, va (eTView v13.1)), (10, va (lTBoard v15)), (11, va (lTState v17)), (12, .var [jI v19.1.Side, jI v19.1.Turn, jI v19.1.Weather, .own 1002 1 0 v19.1.Seen.length, .own 1003 4 0 v19.1.Own.length, .own 1004 4 0 v19.1.Enemies.length] false), (1002, ar 1 eI zI v19.1.Seen), (1003, ar 4 eTUnit zTUnit v19.1.Own), (1004, ar 4 eTUnit zTUnit v19.1.Enemies)]) glTn (And.intro (And.intro rfl (tS (jI p2) rfl)) (And.intro (And.intro rfl (tS (.pk 3 0) rfl)) (And.intro (And.intro rfl (tS (.pk 4 0) rfl)) (And.intro (And.intro rfl (tS (.pk 8 0) rfl)) (And.intro (And.intro rfl (tS (.bool v13.2) rfl)) (And.intro (And.intro rfl (tS (.pk 10 0) rfl)) (And.intro (And.intro rfl (tS (.pk 11 0) rfl)) (And.intro (And.intro rfl (tS (.pk 12 0) rfl)) (And.intro (And.intro rfl (tS (.bool v19.2) rfl)) (And.intro (And.intro rfl (tS (jI 1) rfl)) trivial)))))))))) (And.intro (And.intro rfl (And.intro (tO (dat 5 eTTerrain zTTerrain p0.Rules.Terrains)) (And.intro (tO (dat 6 eTKind zTKind p0.Rules.Kinds)) (And.intro (tS (jI p0.Rules.Stack) rfl) (And.intro (tS (jI p0.Rules.River) rfl) (And.intro (tS (jI p0.Rules.Road) rfl) (And.intro (tS (jI p0.Rules.Supply) rfl) (And.intro (tS (jI p0.Rules.Turns) rfl) (And.intro (tS (jI p0.Map.Width) rfl) (And.intro (tS (jI p0.Map.Height) rfl) (And.intro (tO (dat 1 eI zI p0.Map.Terrain)) (And.intro (tO (dat 1 eI zI p0.Map.Rivers)) (And.intro (tO (dat 1 eI zI p0.Map.Roads)) trivial))))))))))))) (And.intro (And.intro rfl (And.intro (tS (jI p1.Turn) rfl) (And.intro (tS (jI p1.Weather) rfl) (And.intro (tO (dat 4 eTUnit zTUnit p1.Units)) trivial)))) (And.intro (And.intro rfl (And.intro (tS (jI v13.1.Side) rfl) (And.intro (tS (jI v13.1.Turn) rfl) (And.intro (tS (jI v13.1.Weather) rfl) (And.intro (tO (dat 1 eI zI v13.1.Seen)) (And.intro (tO (dat 4 eTUnit zTUnit v13.1.Own)) (And.intro (tO (dat 4 eTUnit zTUnit v13.1.Enemies)) trivial))))))) (And.intro (And.intro rfl (And.intro (tF (dat 5 eTTerrain zTTerrain v15.Rules.Terrains) rfl (.dat shTTerrain)) (And.intro (tF (dat 6 eTKind zTKind v15.Rules.Kinds) rfl (.dat shTKind)) (And.intro (tS (jI v15.Rules.Stack) rfl) (And.intro (tS (jI v15.Rules.River) rfl) (And.intro (tS (jI v15.Rules.Road) rfl) (And.intro (tS (jI v15.Rules.Supply) rfl) (And.intro (tS (jI v15.Rules.Turns) rfl) (And.intro (tS (jI v15.Map.Width) rfl) (And.intro (tS (jI v15.Map.Height) rfl) (And.intro (tF (dat 1 eI zI v15.Map.Terrain) rfl (.dat shI)) (And.intro (tF (dat 1 eI zI v15.Map.Rivers) rfl (.dat shI)) (And.intro (tF (dat 1 eI zI v15.Map.Roads) rfl (.dat shI)) trivial))))))))))))) (And.intro (And.intro rfl (And.intro (tS (jI v17.Turn) rfl) (And.intro (tS (jI v17.Weather) rfl) (And.intro (tF (dat 4 eTUnit zTUnit v17.Units) rfl (.dat shTUnit)) trivial)))) (And.intro (And.intro rfl (And.intro (tS (jI v19.1.Side) rfl) (And.intro (tS (jI v19.1.Turn) rfl) (And.intro (tS (jI v19.1.Weather) rfl) (And.intro (tS (.own 1002 1 0 v19.1.Seen.length) rfl) (And.intro (tS (.own 1003 4 0 v19.1.Own.length) rfl) (And.intro (tS (.own 1004 4 0 v19.1.Enemies.length) rfl) trivial))))))) (And.intro (And.intro rfl ⟨rfl, rfl, rfl, fun i _ => rfl⟩) (And.intro (And.intro rfl ⟨rfl, rfl, rfl, fun i _ => rfl⟩) (And.intro (And.intro rfl ⟨rfl, rfl, rfl, fun i _ => rfl⟩) trivial))))))))) ?_
       obtain ⟨v49, h50, H⟩ := oB H
       refine so [.res (cI v49)] [] [(2, cI p2), (3, pk 3), (4, pk 4), (8, pk 8), (9, cB v13.2), (11, pk 11), (12, pk 12), (13, cB v19.2), (14, cI v49)] [(3, va (eTBoard p0)), (4, va (eTState p1)), (8, va (eTView v13.1)), (11, va (lTState v17)), (12, .var [jI v19.1.Side, jI v19.1.Turn, jI v19.1.Weather, .own 1002 1 0 v19.1.Seen.length, .own 1003 4 0 v19.1.Own.length, .own 1004 4 0 v19.1.Enemies.length] false), (1002, ar 1 eI zI v19.1.Seen), (1003, ar 4 eTUnit zTUnit v19.1.Own), (1004, ar 4 eTUnit zTUnit v19.1.Enemies)] (aI ((l_markBoard_L_ok v15 1 v49 h50).up glTs)) ?_
       obtain ⟨v51, h52, H⟩ := oB H
       refine so [.res (cI v51)] [] [(2, cI p2), (3, pk 3), (4, pk 4), (8, pk 8), (9, cB v13.2), (12, pk 12), (13, cB v19.2), (14, cI v51)] [(3, va (eTBoard p0)), (4, va (eTState p1)), (8, va (eTView v13.1)), (12, .var [jI v19.1.Side, jI v19.1.Turn, jI v19.1.Weather, .own 1002 1 0 v19.1.Seen.length, .own 1003 4 0 v19.1.Own.length, .own 1004 4 0 v19.1.Enemies.length] false), (1002, ar 1 eI zI v19.1.Seen), (1003, ar 4 eTUnit zTUnit v19.1.Own), (1004, ar 4 eTUnit zTUnit v19.1.Enemies)] (aI ((l_markState_L_ok v17 v49 v51 h52).up glTs)) ?_
       refine seq_in ?_
       rcases oC H with ⟨c57, H⟩ | ⟨c57, H⟩
       ·refine sn (rg 9 true []) [] [(86, cB true)] [] [] (fun t => aG 5 c57 (aG 4 rT (t))) ?_
        refine it rT ?_
        refine so [] [] [(6, cB false)] [] id ?_
        refine ends_ret ?_
        cases H
       ·obtain ⟨v58, h59, H⟩ := oB H
        rcases oC H with ⟨c60, H⟩ | ⟨c60, H⟩
        ·refine sn (rg 3 false ([.res (cB v58)] ++ rg 2 false (rg 4 true []))) [] [(86, cB true)] [] [] (fun t => aG 3 c57 (aI (Nat.le_refl v19.1.Seen.length) (aI (Nat.le_refl v19.1.Own.length) (aI (Nat.le_refl v19.1.Enemies.length) (aI ((l_eqView_ok v19.1 v13.1 v58 h59).up glTs) (aG 2 c57 (aG 4 c60 (t)))))))) ?_
         refine it rT ?_
         refine so [] [] [(6, cB false)] [] id ?_
         refine ends_ret ?_
         cases H
        ·refine sn (rg 3 false ([.res (cB v58)] ++ rg 6 false [])) [] [(86, cB (!(v19.2 == v13.2)))] [] [] (fun t => aG 3 c57 (aI (Nat.le_refl v19.1.Seen.length) (aI (Nat.le_refl v19.1.Own.length) (aI (Nat.le_refl v19.1.Enemies.length) (aI ((l_eqView_ok v19.1 v13.1 v58 h59).up glTs) (aG 2 c57 (aG 4 c60 (t)))))))) ?_
         refine jf c28 ?_
         refine sk ?_
         refine sn [] [] [(15, cI 1)] [] [] id ?_
         obtain ⟨v61, h62, H⟩ := oB H
         obtain ⟨g63, H⟩ := oI H
         obtain ⟨g64, H⟩ := oI H
         obtain ⟨g65, H⟩ := oI H
         refine so [.mu [(1002, 1000000), (1003, 1000001), (1004, 1000002)] [(1000000, 1002), (1000001, 1003), (1000002, 1004)] (cI v61.1) [(1000000, ar 1 eI zI v61.2.Seen), (1000001, ar 4 eTUnit zTUnit v61.2.Own), (1000002, ar 4 eTUnit zTUnit v61.2.Enemies)]] [.agg 87 [jI v19.1.Side, jI v19.1.Turn, jI v19.1.Weather, .own 1002 1 0 v61.2.Seen.length, .own 1003 4 0 v61.2.Own.length, .own 1004 4 0 v61.2.Enemies.length], .relc 12 3 v61.2.Seen.length, .relc 12 4 v61.2.Own.length, .relc 12 5 v61.2.Enemies.length] [(2, cI p2), (3, pk 3), (4, pk 4), (8, pk 8), (9, cB v13.2), (12, pk 12), (15, cI v61.1)] [(3, va (eTBoard p0)), (4, va (eTState p1)), (8, va (eTView v13.1)), (12, .var [jI v19.1.Side, jI v19.1.Turn, jI v19.1.Weather, .own 1002 1 0 v61.2.Seen.length, .own 1003 4 0 v61.2.Own.length, .own 1004 4 0 v61.2.Enemies.length] false), (1002, ar 1 eI zI v61.2.Seen), (1003, ar 4 eTUnit zTUnit v61.2.Own), (1004, ar 4 eTUnit zTUnit v61.2.Enemies)] (fun t => aI ((l_markView_Mod_ok v19.1 1 v61 h62).up glTs) (aI (by rw [← g63, ← g64, ← g65] : AV.agg [jI v19.1.Side, jI v19.1.Turn, jI v19.1.Weather, .own 1002 1 0 v19.1.Seen.length, .own 1003 4 0 v19.1.Own.length, .own 1004 4 0 v19.1.Enemies.length] = AV.agg [jI v19.1.Side, jI v19.1.Turn, jI v19.1.Weather, .own 1002 1 0 v61.2.Seen.length, .own 1003 4 0 v61.2.Own.length, .own 1004 4 0 v61.2.Enemies.length]) (aI (Eq.symm g63) (aI (Eq.symm g64) (aI (Eq.symm g65) (t)))))) ?_
         refine sn [] [] [(16, cI 1)] [] [] id ?_
         obtain ⟨v66, h67, H⟩ := oB H
         refine so [.res (cI v66)] [] [(2, cI p2), (3, pk 3), (4, pk 4), (8, pk 8), (9, cB v13.2), (12, pk 12), (15, cI v61.1), (16, cI v66)] [(3, va (eTBoard p0)), (4, va (eTState p1)), (8, va (eTView v13.1)), (12, .var [jI v19.1.Side, jI v19.1.Turn, jI v19.1.Weather, .own 1002 1 0 v61.2.Seen.length, .own 1003 4 0 v61.2.Own.length, .own 1004 4 0 v61.2.Enemies.length] false), (1002, ar 1 eI zI v61.2.Seen), (1003, ar 4 eTUnit zTUnit v61.2.Own), (1004, ar 4 eTUnit zTUnit v61.2.Enemies)] (fun t => aI (Nat.le_refl v61.2.Seen.length) (aI (Nat.le_refl v61.2.Own.length) (aI (Nat.le_refl v61.2.Enemies.length) (aI ((l_heldView_ok (TView.mk v19.1.Side v19.1.Turn v19.1.Weather v61.2.Seen v61.2.Own v61.2.Enemies) 1 v66 h67).up glTs) (t))))) ?_
         refine seq_in ?_
         refine sn [] [] [(94, cB (decide (v66 < 0)))] [] [] id ?_
         rcases oC H with ⟨c69, H⟩ | ⟨c69, H⟩
         ·refine it c69 ?_
          refine so [] [] [(6, cB false)] [] id ?_
          refine ends_ret ?_
          cases H
         ·refine jf c69 ?_
          refine sk ?_
          refine seq_in ?_
          refine sn [] [] [(97, cB (v66 != v61.1))] [] [] id ?_
          rcases oC H with ⟨c71, H⟩ | ⟨c71, H⟩
          ·refine it c71 ?_
           refine so [] [] [(6, cB false)] [] id ?_
           refine ends_ret ?_
           cases H
          ·refine jf c71 ?_
           refine sk ?_
           obtain ⟨v72, h73, H⟩ := oB H
           obtain ⟨v74, h75, H⟩ := oB H
           obtain ⟨v76, h77, H⟩ := oB H
           refine xn [.res (.agg (rTBoard v72)), .res (.agg (rTState v74)), .res (.tup [(true, [jI v76.1.Side, jI v76.1.Turn, jI v76.1.Weather, dat 1 eI zI v76.1.Seen, dat 4 eTUnit zTUnit v76.1.Own, dat 4 eTUnit zTUnit v76.1.Enemies]), (false, [.bool v76.2])])] [] [(17, pk 17), (18, cB v76.2)] [] [(17, va (eTView v76.1))] (fun t => aI ((l_toBoard_F_ok p0 v72 h73).up glTs) (aG 2 rN (aI ((l_toState_F_ok p1 v74 h75).up glTs) (aG 2 rN (aI ((FnOk.le2 (xs := [.agg (rTBoard v72), .agg (rTState v74), cI p2]) (i_ViewOf_ok v72 v74 p2 v76 h77) ⟨LeD.agg (And.intro (LeC.fr _) (And.intro (LeC.fr _) (And.intro (LeC.refl _) (And.intro (LeC.refl _) (And.intro (LeC.refl _) (And.intro (LeC.refl _) (And.intro (LeC.refl _) (And.intro (LeC.refl _) (And.intro (LeC.refl _) (And.intro (LeC.fr _) (And.intro (LeC.fr _) (And.intro (LeC.fr _) (trivial))))))))))))), LeD.agg (And.intro (LeC.refl _) (And.intro (LeC.refl _) (And.intro (LeC.fr _) (trivial)))), LeD.refl _, trivial⟩).up glTs) (aG 2 rN (t))))))) ?_
           refine seq_in ?_
           obtain ⟨v82, h83, H⟩ := oB H
           rcases oC H with ⟨c84, H⟩ | ⟨c84, H⟩
           ·refine sn ([.res (cB v82)] ++ rg 4 true []) [] [(115, cB true)] [3, 4] [] (fun t => aI ((l_eqView_ok v76.1 v13.1 v82 h83).up glTs) (aG 4 c84 (t))) ?_
            refine it rT ?_
            refine so [] [] [(6, cB false)] [] id ?_
            refine ends_ret ?_
            cases H
           ·refine sn ([.res (cB v82)] ++ rg 4 false []) [] [(115, cB (!(v76.2 == v13.2)))] [3, 4] [] (fun t => aI ((l_eqView_ok v76.1 v13.1 v82 h83).up glTs) (aG 4 c84 (t))) ?_
            rcases oC H with ⟨c85, H⟩ | ⟨c85, H⟩
            ·refine it c85 ?_
             refine so [] [] [(6, cB false)] [] id ?_
             refine ends_ret ?_
             cases H
            ·refine jf c85 ?_
             refine sk ?_
             refine so [] [] [(12, pk 12), (15, cI v61.1), (16, cI 1)] [(12, .var [jI v19.1.Side, jI v19.1.Turn, jI v19.1.Weather, .own 1002 1 0 v61.2.Seen.length, .own 1003 4 0 v61.2.Own.length, .own 1004 4 0 v61.2.Enemies.length] false), (1002, ar 1 eI zI v61.2.Seen), (1003, ar 4 eTUnit zTUnit v61.2.Own), (1004, ar 4 eTUnit zTUnit v61.2.Enemies)] id ?_
             obtain ⟨v86, h87, H⟩ := oB H
             refine so [.res (cI v86)] [] [(15, cI v61.1), (16, cI v86)] [] (fun t => aI (Nat.le_refl v61.2.Seen.length) (aI (Nat.le_refl v61.2.Own.length) (aI (Nat.le_refl v61.2.Enemies.length) (aI ((l_heldView_ok (TView.mk v19.1.Side v19.1.Turn v19.1.Weather v61.2.Seen v61.2.Own v61.2.Enemies) 1 v86 h87).up glTs) (t))))) ?_
             refine seq_in ?_
             refine sn [] [] [(120, cB (decide (v86 < 0)))] [] [] id ?_
             rcases oC H with ⟨c89, H⟩ | ⟨c89, H⟩
             ·refine it c89 ?_
              refine so [] [] [(6, cB false)] [] id ?_
              refine ends_ret ?_
              cases H
             ·refine jf c89 ?_
              refine sk ?_
              refine seq_in ?_
              refine so [] [] [(123, cB (v86 != v61.1))] [] id ?_
              rcases oC H with ⟨c90, H⟩ | ⟨c90, H⟩
              ·refine it c90 ?_
               refine so [] [] [(6, cB false)] [] id ?_
               refine ends_ret ?_
               cases H
              ·refine jf c90 ?_
               refine sk ?_
               refine so [] [] [(6, cB true)] [] id ?_
               refine ends_ret ?_
               exact qr
end Go.Proofs.YteenmeomlhkphaaGreatDoor.X0
