/- What each function that FnExactSameReport reaches computes; no condition. -/
import Derived.Test.YtockjpnbfllmaaaGreatDoorSrWb
set_option linter.unusedVariables false
set_option linter.unusedSimpArgs false
set_option maxRecDepth 100000
namespace Go.Proofs.YtockjpnbfllmaaaGreatDoor.X0
open Go Go.RowKit Go.Proofs.YtockjpnbfllmaaaGreatDoor.Ab Go.Proofs

def g_pdqsortCmpFunc_Unit_ir : S :=
 (sq [o 10 (.mv bT)]
 (sq [o 11 (.mv bT)]
 (.blk 0 (.loop (.blk 1 (sq [om 21 2, om 22 1, o 23 (.bin .sub (.t 21) (.t 22)), om 12 23]
    (.seq (sq [om 24 12, o 25 (.bin .leq (.t 24) (iv 12))]
    (.ite (.t 25) (sq [om 26 0, om 27 1, om 28 2, om 29 4, o 30 (.call 128 [.t 26, .t 27, .t 28, .t 29])]
     .ret)
    .skip))
    (.seq (sq [om 31 3, o 32 (.bin .eql (.t 31) (iv 0))]
    (.ite (.t 32) (sq [om 33 0, om 34 1, om 35 2, om 36 4, o 37 (.call 129 [.t 33, .t 34, .t 35, .t 36])]
     .ret)
    .skip))
    (.seq (sq [om 38 10, o 39 (.not (.t 38))]
    (.ite (.t 39) (sq [om 40 0, om 41 1, om 42 2, om 43 4, o 44 (.call 130 [.t 40, .t 41, .t 42, .t 43])]
     (.ops [om 45 3, o 46 (.bin .sub (.t 45) (iv 1)), om 3 46]))
    .skip))
    (sq [om 48 0, om 49 1, om 50 2, om 51 4, o 52 (.call 131 [.t 48, .t 49, .t 50, .t 51]), om 47 52, o 53 (.ext (.t 47) 0), o 54 (.ext (.t 47) 1), om 13 53, om 14 54]
    (.seq (sq [om 55 14, o 56 (.bin .eql (.t 55) (iv 2))]
    (.ite (.t 56) (sq [om 57 0, om 58 1, om 59 2, om 60 4, o 61 (.call 132 [.t 57, .t 58, .t 59, .t 60])]
     (sq [om 62 2, o 63 (.bin .sub (.t 62) (iv 1)), om 64 13, om 65 1, o 66 (.bin .sub (.t 64) (.t 65)), o 67 (.bin .sub (.t 63) (.t 66)), om 13 67]
     (.ops [o 14 (.mv (iv 1))])))
    .skip))
    (.seq (sq [om 68 10, om 69 68, oh 70 (.mv (.t 11)) 69, o 71 (.pick (.t 69) (.t 70) bF), om 72 71, oh 73 (.mv (.t 14)) 72, oh 74 (.bin .eql (.t 73) (iv 1)) 72, o 75 (.pick (.t 72) (.t 74) bF)]
    (.ite (.t 75) (sq [om 76 0, om 77 1, om 78 2, om 79 4, o 80 (.call 133 [.t 76, .t 77, .t 78, .t 79])]
     (.ite (.t 80) .ret
     .skip))
    .skip))
    (.seq (.seq (.drw [(3, 4), (3, 5), (4, 5), (3, 6), (4, 6), (3, 7), (3, 8), (3, 9), (4, 9), (5, 9), (6, 9), (7, 9), (8, 9), (3, 10), (4, 10), (5, 10), (6, 10), (7, 10), (8, 10), (9, 10), (3, 11), (4, 11), (5, 11), (6, 11), (7, 11), (8, 11), (3, 12), (4, 12), (5, 12), (6, 12), (7, 12), (8, 12)] [om 81 1, o 82 (.bin .gtr (.t 81) (iv 0)), om 83 82, oh 84 (.mv (.t 4)) 83, oh 85 (.mv (.t 0)) 83, oh 86 (.mv (.t 1)) 83, oh 87 (.bin .sub (.t 86) (iv 1)) 83, oh 88 (.iad 4 (.t 85) (.t 87)) 83, oh 89 (.load 4 true (.t 88)) 83, oh 90 (.mv (.t 0)) 83, oh 91 (.mv (.t 13)) 83, oh 92 (.iad 4 (.t 90) (.t 91)) 83, oh 93 (.load 4 true (.t 92)) 83, oh 94 (.cald (.t 84) [.t 89, .t 93]) 83, oh 95 (.bin .lss (.t 94) (iv 0)) 83, oh 96 (.not (.t 95)) 83, o 97 (.pick (.t 83) (.t 96) bF)])
    (.ite (.t 97) (sq [om 98 0, om 99 1, om 100 2, om 101 13, om 102 4, o 103 (.call 134 [.t 98, .t 99, .t 100, .t 101, .t 102]), om 15 103]
     (sq [om 104 15, om 1 104]
     (.exit 1)))
    .skip))
    (sq [om 106 0, om 107 1, om 108 2, om 109 13, om 110 4, o 111 (.call 135 [.t 106, .t 107, .t 108, .t 109, .t 110]), om 105 111, o 112 (.ext (.t 105) 0), o 113 (.ext (.t 105) 1), om 16 112, om 17 113]
    (sq [om 114 17, om 11 114]
    (sq [om 115 16, om 116 1, o 117 (.bin .sub (.t 115) (.t 116)), om 118 2, om 119 16, o 120 (.bin .sub (.t 118) (.t 119)), om 18 117, om 19 120]
    (sq [om 121 12, o 122 (.bin .quo (.t 121) (iv 8)), om 20 122]
    (sq [om 123 18, om 124 19, o 125 (.bin .lss (.t 123) (.t 124))]
    (.ite (.t 125) (sq [om 126 18, om 127 20, o 128 (.bin .geq (.t 126) (.t 127)), om 10 128]
     (sq [om 129 0, om 130 1, om 131 16, om 132 3, om 133 4, o 134 (.call 107 [.t 129, .t 130, .t 131, .t 132, .t 133])]
     (.ops [om 135 16, o 136 (.bin .add (.t 135) (iv 1)), om 1 136])))
    (sq [om 137 19, om 138 20, o 139 (.bin .geq (.t 137) (.t 138)), om 10 139]
     (sq [om 140 0, om 141 16, o 142 (.bin .add (.t 141) (iv 1)), om 143 2, om 144 3, om 145 4, o 146 (.call 107 [.t 140, .t 142, .t 143, .t 144, .t 145])]
     (.ops [om 147 16, om 2 147]))))))))))))))))))))))
noncomputable def X.g_pdqsortCmpFunc_Unit_Modddf (p0 : (List TUnit)) (p1 : Int) (p2 : Int) (p3 : Int) (f4 : TUnit → TUnit → Option Int) : Option (List TUnit) :=
 ((loop (fun (x12 : Unit) => ((bif (decide ((W (p2 - p1)) ≤ 12)) then ((X.g_insertionSortCmpFunc_Unit_Moddf p0 p1 p2 f4).bind fun v18 => (if v18.length = p0.length then some (Sum.inr v18) else none)) else (bif (p3 == 0) then none else none)) : Option (Unit ⊕ (List TUnit)))) ()).bind fun y23 => some y23)
theorem g_pdqsortCmpFunc_Unit_Modddf_c0_ok (p0 : (List TUnit)) (p1 : Int) (p2 : Int) (p3 : Int) (cf4 : FuncId) (f4 : TUnit → TUnit → Option Int) (hf4 : ∀ q0 q1 r, f4 q0 q1 = some r → FK cf4 [.agg (eTUnit q0), .agg (eTUnit q1)] (cI r)) (r : (List TUnit)) (H : X.g_pdqsortCmpFunc_Unit_Modddf p0 p1 p2 p3 f4 = some r) : FnMu Tryz.prog gl 107 [.c (.own 1000000 4 0 p0.length), cI p1, cI p2, cI p3, .c (.clo cf4 [])] [(1000000, .arr 4 p0.length (fF eTUnit zTUnit p0) false)] (.tup []) [(1000000, .arr 4 r.length (fF eTUnit zTUnit r) false)] := by
 unfold X.g_pdqsortCmpFunc_Unit_Modddf at H
 refine fn_mu (fn := Tryz.f107) (ir := g_pdqsortCmpFunc_Unit_ir) (E' := []) (E1 := [(1000000, ar 4 eTUnit zTUnit r)]) glL Tryz.func107 (by kernel_rfl) (by kernel_rfl) (by kernel_rfl) (by kernel_rfl) (by kernel_rfl) ?_
 refine sn [] [] [(10, cB true)] [] [] id ?_
 refine sn [] [] [(11, cB true)] [] [] id ?_
 refine ends_blk ?_
 obtain ⟨y23, h24, H⟩ := oB H
 refine tl [] [(0, ow 1000000 4 p0), (1, cI p1), (2, cI p2), (3, cI p3), (4, .c (.clo cf4 [])), (10, cB true), (11, cB true)] [(1000000, ar 4 eTUnit zTUnit p0)] id ?_
 refine loop_in (fun (x : Unit) => lit [(0, ow 1000000 4 p0), (1, cI p1), (2, cI p2), (3, cI p3), (4, .c (.clo cf4 [])), (10, cB true), (11, cB true)] [(1000000, ar 4 eTUnit zTUnit p0)]) (fun (z : (List TUnit)) => At .ret (lit [] [(1000000, ar 4 eTUnit zTUnit z)])) h24 ?_ ?_
 ·clear H h24
  intro x12 y0 H
  refine ends_blk ?_
  refine sn [] [] [(12, cI (W (p2 - p1)))] [] [] id ?_
  refine seq_in ?_
  refine sn [] [] [(25, cB (decide ((W (p2 - p1)) ≤ 12)))] [] [] id ?_
  rcases oC H with ⟨c17, H⟩ | ⟨c17, H⟩
  ·refine it c17 ?_
   obtain ⟨v18, h19, H⟩ := oB H
   obtain ⟨g20, H⟩ := oI H
   refine so [.mu [(1000000, 1000000)] [(1000000, 1000000)] (.tup []) [(1000000, ar 4 eTUnit zTUnit v18)]] [.rel 0 v18.length, .rel 26 v18.length] [] [(1000000, ar 4 eTUnit zTUnit v18)] (fun t => aI (g_insertionSortCmpFunc_Unit_Moddf_c0_ok p0 p1 p2 (cf4) f4 hf4 v18 h19) (aG 2 (Eq.symm g20) (t))) ?_
   refine ends_ret ?_
   cases H
   exact rsr
  ·refine jf c17 ?_
   refine sk ?_
   refine seq_in ?_
   refine sn [] [] [(32, cB (p3 == 0))] [] [] id ?_
   rcases oC H with ⟨c22, H⟩ | ⟨c22, H⟩
   ·refine it c22 ?_
    cases H
   ·refine jf c22 ?_
    refine sk ?_
    refine seq_in ?_
    refine sn [] [] [(39, cB false)] [] [] id ?_
    refine jf rF ?_
    refine sk ?_
    cases H
 ·clear h24
  rintro e s ⟨rfl, rfl⟩
  cases H
  exact qr
def x_math_bits_Len64_ir : S :=
 (sq [o 2 (.mv (iv 0))]
 (.seq (sq [om 3 0, o 4 (.bin .geq (.t 3) (.v (.int .u64 4294967296)))]
 (.ite (.t 4) (sq [om 5 0, o 6 (.bin .shr (.t 5) (.v (.int .u64 32))), om 0 6]
  (.ops [o 2 (.mv (iv 32))]))
 .skip))
 (.seq (sq [om 7 0, o 8 (.bin .geq (.t 7) (.v (.int .u64 65536)))]
 (.ite (.t 8) (sq [om 9 0, o 10 (.bin .shr (.t 9) (.v (.int .u64 16))), om 0 10]
  (.ops [om 11 2, o 12 (.bin .add (.t 11) (iv 16)), om 2 12]))
 .skip))
 (.seq (sq [om 13 0, o 14 (.bin .geq (.t 13) (.v (.int .u64 256)))]
 (.ite (.t 14) (sq [om 15 0, o 16 (.bin .shr (.t 15) (.v (.int .u64 8))), om 0 16]
  (.ops [om 17 2, o 18 (.bin .add (.t 17) (iv 8)), om 2 18]))
 .skip))
 (sq [om 19 2, om 20 0, o 21 (.conv .u8 (.t 20)), o 22 (.ixs (.v (.str [0, 1, 2, 2, 3, 3, 3, 3, 4, 4, 4, 4, 4, 4, 4, 4, 5, 5, 5, 5, 5, 5, 5, 5, 5, 5, 5, 5, 5, 5, 5, 5, 6, 6, 6, 6, 6, 6, 6, 6, 6, 6, 6, 6, 6, 6, 6, 6, 6, 6, 6, 6, 6, 6, 6, 6, 6, 6, 6, 6, 6, 6, 6, 6, 7, 7, 7, 7, 7, 7, 7, 7, 7, 7, 7, 7, 7, 7, 7, 7, 7, 7, 7, 7, 7, 7, 7, 7, 7, 7, 7, 7, 7, 7, 7, 7, 7, 7, 7, 7, 7, 7, 7, 7, 7, 7, 7, 7, 7, 7, 7, 7, 7, 7, 7, 7, 7, 7, 7, 7, 7, 7, 7, 7, 7, 7, 7, 7, 8, 8, 8, 8, 8, 8, 8, 8, 8, 8, 8, 8, 8, 8, 8, 8, 8, 8, 8, 8, 8, 8, 8, 8, 8, 8, 8, 8, 8, 8, 8, 8, 8, 8, 8, 8, 8, 8, 8, 8, 8, 8, 8, 8, 8, 8, 8, 8, 8, 8, 8, 8, 8, 8, 8, 8, 8, 8, 8, 8, 8, 8, 8, 8, 8, 8, 8, 8, 8, 8, 8, 8, 8, 8, 8, 8, 8, 8, 8, 8, 8, 8, 8, 8, 8, 8, 8, 8, 8, 8, 8, 8, 8, 8, 8, 8, 8, 8, 8, 8, 8, 8, 8, 8, 8, 8, 8, 8, 8, 8, 8, 8, 8, 8, 8, 8, 8, 8, 8, 8, 8, 8, 8, 8, 8, 8, 8, 8])) (.t 21)), o 23 (.conv .i64 (.t 22)), o 24 (.bin .add (.t 19) (.t 23)), om 2 24]
 .ret)))))
noncomputable def X.x_math_bits_Len64 (p0 : Int) : Option Int :=
 (bif (decide (p0 ≥ 4294967296)) then none else (bif (decide (p0 ≥ 65536)) then none else (bif (decide (p0 ≥ 256)) then none else (if 0 ≤ (IntKind.u8.wrap p0) ∧ (IntKind.u8.wrap p0) < (([0, 1, 2, 2, 3, 3, 3, 3, 4, 4, 4, 4, 4, 4, 4, 4, 5, 5, 5, 5, 5, 5, 5, 5, 5, 5, 5, 5, 5, 5, 5, 5, 6, 6, 6, 6, 6, 6, 6, 6, 6, 6, 6, 6, 6, 6, 6, 6, 6, 6, 6, 6, 6, 6, 6, 6, 6, 6, 6, 6, 6, 6, 6, 6, 7, 7, 7, 7, 7, 7, 7, 7, 7, 7, 7, 7, 7, 7, 7, 7, 7, 7, 7, 7, 7, 7, 7, 7, 7, 7, 7, 7, 7, 7, 7, 7, 7, 7, 7, 7, 7, 7, 7, 7, 7, 7, 7, 7, 7, 7, 7, 7, 7, 7, 7, 7, 7, 7, 7, 7, 7, 7, 7, 7, 7, 7, 7, 7, 8, 8, 8, 8, 8, 8, 8, 8, 8, 8, 8, 8, 8, 8, 8, 8, 8, 8, 8, 8, 8, 8, 8, 8, 8, 8, 8, 8, 8, 8, 8, 8, 8, 8, 8, 8, 8, 8, 8, 8, 8, 8, 8, 8, 8, 8, 8, 8, 8, 8, 8, 8, 8, 8, 8, 8, 8, 8, 8, 8, 8, 8, 8, 8, 8, 8, 8, 8, 8, 8, 8, 8, 8, 8, 8, 8, 8, 8, 8, 8, 8, 8, 8, 8, 8, 8, 8, 8, 8, 8, 8, 8, 8, 8, 8, 8, 8, 8, 8, 8, 8, 8, 8, 8, 8, 8, 8, 8, 8, 8, 8, 8, 8, 8, 8, 8, 8, 8, 8, 8, 8, 8, 8, 8, 8, 8, 8, 8] : List UInt8).length : Int) then some (W (0 + (W (((([0, 1, 2, 2, 3, 3, 3, 3, 4, 4, 4, 4, 4, 4, 4, 4, 5, 5, 5, 5, 5, 5, 5, 5, 5, 5, 5, 5, 5, 5, 5, 5, 6, 6, 6, 6, 6, 6, 6, 6, 6, 6, 6, 6, 6, 6, 6, 6, 6, 6, 6, 6, 6, 6, 6, 6, 6, 6, 6, 6, 6, 6, 6, 6, 7, 7, 7, 7, 7, 7, 7, 7, 7, 7, 7, 7, 7, 7, 7, 7, 7, 7, 7, 7, 7, 7, 7, 7, 7, 7, 7, 7, 7, 7, 7, 7, 7, 7, 7, 7, 7, 7, 7, 7, 7, 7, 7, 7, 7, 7, 7, 7, 7, 7, 7, 7, 7, 7, 7, 7, 7, 7, 7, 7, 7, 7, 7, 7, 8, 8, 8, 8, 8, 8, 8, 8, 8, 8, 8, 8, 8, 8, 8, 8, 8, 8, 8, 8, 8, 8, 8, 8, 8, 8, 8, 8, 8, 8, 8, 8, 8, 8, 8, 8, 8, 8, 8, 8, 8, 8, 8, 8, 8, 8, 8, 8, 8, 8, 8, 8, 8, 8, 8, 8, 8, 8, 8, 8, 8, 8, 8, 8, 8, 8, 8, 8, 8, 8, 8, 8, 8, 8, 8, 8, 8, 8, 8, 8, 8, 8, 8, 8, 8, 8, 8, 8, 8, 8, 8, 8, 8, 8, 8, 8, 8, 8, 8, 8, 8, 8, 8, 8, 8, 8, 8, 8, 8, 8, 8, 8, 8, 8, 8, 8, 8, 8, 8, 8, 8, 8, 8, 8, 8, 8, 8, 8] : List UInt8).getD (IntKind.u8.wrap p0).toNat 0).toNat : Nat) : Int)))) else none))))
theorem x_math_bits_Len64_ok (p0 : Int) (r : Int) (H : X.x_math_bits_Len64 p0 = some r) : FK 137 [.c (.int .u64 p0)] (cI r) := by
 unfold X.x_math_bits_Len64 at H
 refine fi Tryz.f137 x_math_bits_Len64_ir [(2, cI r)] [] glL Tryz.func137 ?_
 refine sn [] [] [(2, cI 0)] [] [] id ?_
 refine seq_in ?_
 refine sn [] [] [(4, cB (decide (p0 ≥ 4294967296)))] [] [] id ?_
 rcases oC H with ⟨c2, H⟩ | ⟨c2, H⟩
 ·refine it c2 ?_
  cases H
 ·refine jf c2 ?_
  refine sk ?_
  refine seq_in ?_
  refine sn [] [] [(8, cB (decide (p0 ≥ 65536)))] [] [] id ?_
  rcases oC H with ⟨c4, H⟩ | ⟨c4, H⟩
  ·refine it c4 ?_
   cases H
  ·refine jf c4 ?_
   refine sk ?_
   refine seq_in ?_
   refine sn [] [] [(14, cB (decide (p0 ≥ 256)))] [] [] id ?_
   rcases oC H with ⟨c6, H⟩ | ⟨c6, H⟩
   ·refine it c6 ?_
    cases H
   ·refine jf c6 ?_
    refine sk ?_
    obtain ⟨g7, H⟩ := oI H
    refine so [] [] [(2, cI (W (0 + (W (((([0, 1, 2, 2, 3, 3, 3, 3, 4, 4, 4, 4, 4, 4, 4, 4, 5, 5, 5, 5, 5, 5, 5, 5, 5, 5, 5, 5, 5, 5, 5, 5, 6, 6, 6, 6, 6, 6, 6, 6, 6, 6, 6, 6, 6, 6, 6, 6, 6, 6, 6, 6, 6, 6, 6, 6, 6, 6, 6, 6, 6, 6, 6, 6, 7, 7, 7, 7, 7, 7, 7, 7, 7, 7, 7, 7, 7, 7, 7, 7, 7, 7, 7, 7, 7, 7, 7, 7, 7, 7, 7, 7, 7, 7, 7, 7, 7, 7, 7, 7, 7, 7, 7, 7, 7, 7, 7, 7, 7, 7, 7, 7, 7, 7, 7, 7, 7, 7, 7, 7, 7, 7, 7, 7, 7, 7, 7, 7, 8, 8, 8, 8, 8, 8, 8, 8, 8, 8, 8, 8, 8, 8, 8, 8, 8, 8, 8, 8, 8, 8, 8, 8, 8, 8, 8, 8, 8, 8, 8, 8, 8, 8, 8, 8, 8, 8, 8, 8, 8, 8, 8, 8, 8, 8, 8, 8, 8, 8, 8, 8, 8, 8, 8, 8, 8, 8, 8, 8, 8, 8, 8, 8, 8, 8, 8, 8, 8, 8, 8, 8, 8, 8, 8, 8, 8, 8, 8, 8, 8, 8, 8, 8, 8, 8, 8, 8, 8, 8, 8, 8, 8, 8, 8, 8, 8, 8, 8, 8, 8, 8, 8, 8, 8, 8, 8, 8, 8, 8, 8, 8, 8, 8, 8, 8, 8, 8, 8, 8, 8, 8, 8, 8, 8, 8, 8, 8] : List UInt8).getD (IntKind.u8.wrap p0).toNat 0).toNat : Nat) : Int)))))] [] (fun t => aI g7 (t)) ?_
    cases H
    exact er
def x_math_bits_Len_ir : S :=
 (sq [o 2 (.mv (iv 0))]
 (.seq (.ite bF (sq [om 3 0, o 4 (.conv .u32 (.t 3)), o 5 (.call 136 [.t 4]), om 2 5]
  .ret)
 .skip)
 (sq [om 6 0, o 7 (.call 137 [.t 6]), om 2 7]
 .ret)))
noncomputable def X.x_math_bits_Len (p0 : Int) : Option Int :=
 ((X.x_math_bits_Len64 p0).bind fun v1 => some v1)
theorem x_math_bits_Len_ok (p0 : Int) (r : Int) (H : X.x_math_bits_Len p0 = some r) : FK 108 [.c (.int .u64 p0)] (cI r) := by
 unfold X.x_math_bits_Len at H
 refine fi Tryz.f108 x_math_bits_Len_ir [(2, cI r)] [] glL Tryz.func108 ?_
 refine sn [] [] [] [] [] id ?_
 refine seq_in ?_
 refine jf rF ?_
 refine sk ?_
 obtain ⟨v1, h2, H⟩ := oB H
 refine so [.res (cI v1)] [] [(2, cI v1)] [] (aI (x_math_bits_Len64_ok p0 v1 h2)) ?_
 cases H
 exact er
def g_SortFunc_Unit_ir : S :=
 (sq [om 5 0, o 6 (.len (.t 5)), om 4 6]
 (.ops [om 7 0, om 8 4, om 9 4, o 10 (.conv .u64 (.t 9)), o 11 (.call 108 [.t 10]), om 12 1, o 13 (.call 107 [.t 7, .v (.int .i64 0), .t 8, .t 11, .t 12])]))
noncomputable def X.g_SortFunc_Unit_Mof (p0 : (List TUnit)) (f1 : TUnit → TUnit → Option Int) : Option (List TUnit) :=
 ((X.x_math_bits_Len (IntKind.u64.wrap (p0.length : Int))).bind fun v1 => ((X.g_pdqsortCmpFunc_Unit_Modddf p0 0 (p0.length : Int) v1 f1).bind fun v3 => (if v3.length = p0.length then some v3 else none)))
theorem g_SortFunc_Unit_Mof_c0_ok (p0 : (List TUnit)) (cf1 : FuncId) (f1 : TUnit → TUnit → Option Int) (hf1 : ∀ q0 q1 r, f1 q0 q1 = some r → FK cf1 [.agg (eTUnit q0), .agg (eTUnit q1)] (cI r)) (r : (List TUnit)) (H : X.g_SortFunc_Unit_Mof p0 f1 = some r) : FnMu Tryz.prog gl 69 [.c (.own 1000000 4 0 p0.length), .c (.clo cf1 [])] [(1000000, .arr 4 p0.length (fF eTUnit zTUnit p0) false)] (.tup []) [(1000000, .arr 4 r.length (fF eTUnit zTUnit r) false)] := by
 unfold X.g_SortFunc_Unit_Mof at H
 refine fn_mu (fn := Tryz.f69) (ir := g_SortFunc_Unit_ir) (E' := []) (E1 := [(1000000, ar 4 eTUnit zTUnit r)]) glL Tryz.func69 (by kernel_rfl) (by kernel_rfl) (by kernel_rfl) (by kernel_rfl) (by kernel_rfl) ?_
 refine sn [] [] [(4, cL p0)] [] [] (fun t => lI p0 (t)) ?_
 obtain ⟨v1, h2, H⟩ := oB H
 obtain ⟨v3, h4, H⟩ := oB H
 obtain ⟨g5, H⟩ := oI H
 refine oo [.res (cI v1), .mu [(1000000, 1000000)] [(1000000, 1000000)] (.tup []) [(1000000, ar 4 eTUnit zTUnit v3)]] [.rel 0 v3.length, .rel 7 v3.length] [] [(1000000, ar 4 eTUnit zTUnit v3)] (fun t => aI (x_math_bits_Len_ok (IntKind.u64.wrap (p0.length : Int)) v1 h2) (aI (g_pdqsortCmpFunc_Unit_Modddf_c0_ok p0 0 (p0.length : Int) v1 (cf1) f1 hf1 v3 h4) (aG 2 (Eq.symm g5) (t)))) ?_
 cases H
 exact qn
def i_compareUnits_ir : S :=
 (sq [o 2 (.box 4 (.t 0)), o 3 (.box 4 (.t 1)), o 4 (.mv (iv 0))]
 (.seq (sq [oa 5 2 2, ol 6 5, oa 7 2 3, ol 8 7, o 9 (.bin .neq (.t 6) (.t 8))]
 (.ite (.t 9) (sq [oa 10 2 2, ol 11 10, oa 12 2 3, ol 13 12, o 14 (.bin .sub (.t 11) (.t 13)), om 4 14]
  .ret)
 .skip))
 (.seq (sq [oa 15 1 2, ol 16 15, oa 17 1 3, ol 18 17, o 19 (.bin .neq (.t 16) (.t 18))]
 (.ite (.t 19) (sq [oa 20 1 2, ol 21 20, oa 22 1 3, ol 23 22, o 24 (.bin .sub (.t 21) (.t 23)), om 4 24]
  .ret)
 .skip))
 (sq [oa 25 3 2, ol 26 25, oa 27 3 3, ol 28 27, o 29 (.bin .sub (.t 26) (.t 28)), om 4 29]
 .ret))))
noncomputable def X.i_compareUnits (p0 : TUnit) (p1 : TUnit) : Option Int :=
 (bif (p0.At != p1.At) then some (W (p0.At - p1.At)) else (bif (p0.Kind != p1.Kind) then some (W (p0.Kind - p1.Kind)) else some (W (p0.Steps - p1.Steps))))
theorem i_compareUnits_ok (p0 : TUnit) (p1 : TUnit) (r : Int) (H : X.i_compareUnits p0 p1 = some r) : FK 70 [.agg (eTUnit p0), .agg (eTUnit p1)] (cI r) := by
 unfold X.i_compareUnits at H
 refine fi Tryz.f70 i_compareUnits_ir [(4, cI r)] [] glL Tryz.func70 ?_
 refine so [] [] [(2, pk 2), (3, pk 3)] [(2, va (eTUnit p0)), (3, va (eTUnit p1))] id ?_
 refine seq_in ?_
 refine sn [] [] [(9, cB (p0.At != p1.At))] [] [] id ?_
 rcases oC H with ⟨c2, H⟩ | ⟨c2, H⟩
 ·refine it c2 ?_
  refine so [] [] [(4, cI (W (p0.At - p1.At)))] [] id ?_
  cases H
  exact er
 ·refine jf c2 ?_
  refine sk ?_
  refine seq_in ?_
  refine sn [] [] [(19, cB (p0.Kind != p1.Kind))] [] [] id ?_
  rcases oC H with ⟨c3, H⟩ | ⟨c3, H⟩
  ·refine it c3 ?_
   refine so [] [] [(4, cI (W (p0.Kind - p1.Kind)))] [] id ?_
   cases H
   exact er
  ·refine jf c3 ?_
   refine sk ?_
   refine so [] [] [(4, cI (W (p0.Steps - p1.Steps)))] [] id ?_
   cases H
   exact er
def i_viewOf_ir : S :=
 (sq [o 3 (.box 12 (.t 0)), o 4 (.box 3 (.t 1)), o 6 (.alloc [.int .i64 0, .int .i64 0, .int .i64 0, .nil, .nil, .nil])]
 (.seq (.drw [(0, 1), (0, 2), (0, 3), (1, 3), (2, 3), (0, 4), (1, 4), (2, 4), (0, 5), (1, 5), (2, 5), (3, 5), (4, 5), (0, 6), (1, 6), (2, 6), (3, 6), (4, 6), (5, 6), (0, 7), (1, 7), (2, 7), (3, 7), (4, 7), (5, 7), (6, 7), (0, 8), (1, 8), (2, 8), (3, 8), (4, 8), (0, 10), (1, 10), (2, 10), (3, 10), (4, 10), (5, 10), (6, 10), (7, 10), (8, 10), (9, 10)] [om 10 2, oa 11 0 4, ol 12 11, oa 13 1 4, ol 14 13, o 15 (.load 12 true (.t 3)), o 16 (.load 3 true (.t 4)), om 17 2, o 18 (.call 67 [.t 15, .t 16, .t 17]), o 19 (.build [.int .i64 0, .int .i64 0, .int .i64 0, .nil, .nil, .nil] [(0, 1, .t 10), (1, 1, .t 12), (2, 1, .t 14), (3, 1, .t 18)]), o 7 (.alloc [.int .i64 0, .int .i64 0, .int .i64 0, .nil, .nil, .nil]), os 6 7 19])
 (.seq (sq [oa 20 2 4, ol 21 20, o 22 (.len (.t 21)), o 23 (.mv (iv 0))]
 (.blk 0 (.loop (sq [o 24 (.bin .lss (.t 23) (.t 22))]
   (.seq (.ite (.t 24) .skip
   (.exit 0))
   (.seq (.blk 1 (sq [o 25 (.iad 4 (.t 21) (.t 23)), o 26 (.load 4 true (.t 25)), o 9 (.alloc [.int .i64 0, .int .i64 0, .int .i64 0, .int .i64 0]), os 4 9 26]
    (sq [oa 27 0 9, ol 28 27, om 29 2, o 30 (.bin .eql (.t 28) (.t 29))]
    (.ite (.t 30) (.ops [oa 31 4 7, ol 32 31, o 33 (.load 4 true (.t 9)), o 34 (.bsl 4 [.t 33]), o 35 (.app 4 32 (.t 32) (.t 34)), oa 36 4 7, os 1 36 35])
    (sq [oa 37 2 9, ol 38 37, o 39 (.bin .geq (.t 38) (iv 0)), om 40 39, oh 41 (.fad 3 (.t 7)) 40, oh 42 (.load 1 false (.t 41)) 40, oh 43 (.fad 2 (.t 9)) 40, oh 44 (.load 1 false (.t 43)) 40, oh 45 (.call 68 [.t 42, .t 44]) 40, o 46 (.pick (.t 40) (.t 45) bF)]
     (.ite (.t 46) (.ops [oa 47 5 7, ol 48 47, o 49 (.load 4 true (.t 9)), o 50 (.bsl 4 [.t 49]), o 51 (.app 4 32 (.t 48) (.t 50)), oa 52 5 7, os 1 52 51])
     .skip))))))
   (.ops [o 53 (.bin .add (.t 23) (iv 1)), om 23 53])))))))
 (sq [oa 54 5 7, ol 55 54, o 56 (.call 69 [.t 55, .f 70])]
 (sq [o 57 (.load 6 true (.t 7)), os 6 6 57]
 .ret)))))
noncomputable def X.i_viewOf (p0 : TBoard) (p1 : TState) (p2 : Int) : Option TView :=
 ((X.i_seenHexes p0 p1 p2).bind fun v1 => ((loop (fun (x26 : (Int × (List TUnit) × (List TUnit))) => ((bif (decide (x26.1 < (p1.Units.length : Int))) then ((at' zTUnit p1.Units x26.1).bind fun v29 => (bif (v29.Side == p2) then (if (x26.2.1 ++ ([v29] : List TUnit)).length ≤ LIM then some (Sum.inl ((W (x26.1 + 1)), (x26.2.1 ++ ([v29] : List TUnit)), x26.2.2)) else none) else (bif (decide (v29.At ≥ 0)) then ((X.g_Contains_int v1 v29.At).bind fun v34 => (bif v34 then (if (x26.2.2 ++ ([v29] : List TUnit)).length ≤ LIM then some (Sum.inl ((W (x26.1 + 1)), x26.2.1, (x26.2.2 ++ ([v29] : List TUnit)))) else none) else some (Sum.inl ((W (x26.1 + 1)), x26.2.1, x26.2.2)))) else some (Sum.inl ((W (x26.1 + 1)), x26.2.1, x26.2.2))))) else some (Sum.inr (x26.2.1, x26.2.2))) : Option ((Int × (List TUnit) × (List TUnit)) ⊕ ((List TUnit) × (List TUnit))))) (0, ([] : List TUnit), ([] : List TUnit))).bind fun y38 => ((X.g_SortFunc_Unit_Mof y38.2 (fun q0 q1 => X.i_compareUnits q0 q1)).bind fun v40 => (if v40.length = y38.2.length then some (TView.mk p2 p1.Turn p1.Weather v1 y38.1 v40) else none))))
theorem i_viewOf_ok (p0 : TBoard) (p1 : TState) (p2 : Int) (r : TView) (H : X.i_viewOf p0 p1 p2 = some r) : FK 40 [.agg (eTBoard p0), .agg (eTState p1), cI p2] (.agg (eTView r)) := by
 unfold X.i_viewOf at H
 refine fi Tryz.f40 i_viewOf_ir [(6, pk 6)] [(6, va (eTView r))] glL Tryz.func40 ?_
 refine sn [] [] [(3, pk 3), (4, pk 4), (6, pk 6)] [] [(3, va (eTBoard p0)), (4, va (eTState p1)), (6, .var [jI 0, jI 0, jI 0, .nil, .nil, .nil] false)] id ?_
 obtain ⟨v1, h2, H⟩ := oB H
 refine xn [.res (dc 1 eI zI v1)] [] [(7, pk 7)] [] [(7, .var [jI p2, jI p1.Turn, jI p1.Weather, dat 1 eI zI v1, .nil, .nil] false)] (fun t => aI (i_seenHexes_ok p0 p1 p2 v1 h2) (aG 2 rN (t))) ?_
 refine seq_in ?_
 refine sn [] [] [(21, dc 4 eTUnit zTUnit p1.Units), (22, cL p1.Units), (23, cI 0)] [3] [] (fun t => lI p1.Units (t)) ?_
 refine ends_blk ?_
 obtain ⟨y38, h39, H⟩ := oB H
 refine tl [.nloc 7 4 1001 4 (fF eTUnit zTUnit ([] : List TUnit)), .nloc 7 5 1002 4 (fF eTUnit zTUnit ([] : List TUnit))] [(2, cI p2), (6, pk 6), (7, pk 7), (21, dc 4 eTUnit zTUnit p1.Units), (22, cL p1.Units), (23, cI 0)] [(6, .var [jI 0, jI 0, jI 0, .nil, .nil, .nil] false), (7, .var [jI p2, jI p1.Turn, jI p1.Weather, dat 1 eI zI v1, .own 1001 4 0 (([] : List TUnit).length), .own 1002 4 0 (([] : List TUnit).length)] false), (1001, ar 4 eTUnit zTUnit ([] : List TUnit)), (1002, ar 4 eTUnit zTUnit ([] : List TUnit))] (fun t => aG 2 (by decide : 0 < 4) (t)) ?_
 refine loop_in (fun (x : (Int × (List TUnit) × (List TUnit))) => lit [(2, cI p2), (6, pk 6), (7, pk 7), (21, dc 4 eTUnit zTUnit p1.Units), (22, cL p1.Units), (23, cI x.1)] [(6, .var [jI 0, jI 0, jI 0, .nil, .nil, .nil] false), (7, .var [jI p2, jI p1.Turn, jI p1.Weather, dat 1 eI zI v1, .own 1001 4 0 x.2.1.length, .own 1002 4 0 x.2.2.length] false), (1001, ar 4 eTUnit zTUnit x.2.1), (1002, ar 4 eTUnit zTUnit x.2.2)]) (fun (z : ((List TUnit) × (List TUnit))) => At (.exit 0) (lit [(6, pk 6), (7, pk 7)] [(6, .var [jI 0, jI 0, jI 0, .nil, .nil, .nil] false), (7, .var [jI p2, jI p1.Turn, jI p1.Weather, dat 1 eI zI v1, .own 1001 4 0 z.1.length, .own 1002 4 0 z.2.length] false), (1001, ar 4 eTUnit zTUnit z.1), (1002, ar 4 eTUnit zTUnit z.2)])) h39 ?_ ?_
 ·clear H h39
  intro x26 y0 H
  refine sn [] [] [(24, cB (decide (x26.1 < (p1.Units.length : Int))))] [] [] id ?_
  refine seq_in ?_
  rcases oC H with ⟨c28, H⟩ | ⟨c28, H⟩
  ·refine it c28 ?_
   refine sk ?_
   refine seq_in ?_
   refine ends_blk ?_
   obtain ⟨v29, h30, H⟩ := oB H
   refine sn [.cs (eTUnit v29)] [] [(9, pk 9)] [] [(9, va (eTUnit v29))] (a2 eTUnit h30) ?_
   refine sn [] [] [(30, cB (v29.Side == p2))] [] [] id ?_
   rcases oC H with ⟨c31, H⟩ | ⟨c31, H⟩
   ·refine it c31 ?_
    obtain ⟨g32, H⟩ := oI H
    refine oo [fh eTUnit zTUnit ([v29] : List TUnit), fh eTUnit zTUnit (x26.2.1 ++ ([v29] : List TUnit))] [] [(2, cI p2), (6, pk 6), (7, pk 7), (21, dc 4 eTUnit zTUnit p1.Units), (22, cL p1.Units), (23, cI x26.1)] [(6, .var [jI 0, jI 0, jI 0, .nil, .nil, .nil] false), (7, .var [jI p2, jI p1.Turn, jI p1.Weather, dat 1 eI zI v1, .own 35 4 0 ((x26.2.1 ++ ([v29] : List TUnit)).length), .own 1002 4 0 x26.2.2.length] false), (35, ar 4 eTUnit zTUnit (x26.2.1 ++ ([v29] : List TUnit))), (1002, ar 4 eTUnit zTUnit x26.2.2)] (fun t => aI (rfl : ([v29] : List TUnit).length = 1) (aI (fF_lit eTUnit zTUnit ([v29] : List TUnit)) (aI (And.intro (Nat.le_refl x26.2.1.length) (And.intro (@List.length_append _ x26.2.1 ([v29] : List TUnit)) g32)) (aI (fF_appL eTUnit zTUnit x26.2.1 ([v29] : List TUnit)) (aI (fF_appR eTUnit zTUnit x26.2.1 ([v29] : List TUnit)) (t)))))) ?_
    change EndsI _ _ _ _ _ _
    refine oo [] [.ren 35 1001] [(2, cI p2), (6, pk 6), (7, pk 7), (21, dc 4 eTUnit zTUnit p1.Units), (22, cL p1.Units), (23, cI (W (x26.1 + 1)))] [(6, .var [jI 0, jI 0, jI 0, .nil, .nil, .nil] false), (7, .var [jI p2, jI p1.Turn, jI p1.Weather, dat 1 eI zI v1, .own 1001 4 0 ((x26.2.1 ++ ([v29] : List TUnit)).length), .own 1002 4 0 x26.2.2.length] false), (1001, ar 4 eTUnit zTUnit (x26.2.1 ++ ([v29] : List TUnit))), (1002, ar 4 eTUnit zTUnit x26.2.2)] id ?_
    cases H
    exact rr
   ·refine jf c31 ?_
    rcases oC H with ⟨c33, H⟩ | ⟨c33, H⟩
    ·obtain ⟨v34, h35, H⟩ := oB H
     refine sn (rg 5 true [.res (cB v34), .g true]) [] [(46, cB v34)] [] [] (fun t => aG 5 c33 (aI (g_Contains_int_ok v1 v29.At v34 h35) (aI c33 (t)))) ?_
     rcases oC H with ⟨c36, H⟩ | ⟨c36, H⟩
     ·refine it c36 ?_
      obtain ⟨g37, H⟩ := oI H
      refine oo [fh eTUnit zTUnit ([v29] : List TUnit), fh eTUnit zTUnit (x26.2.2 ++ ([v29] : List TUnit))] [] [(2, cI p2), (6, pk 6), (7, pk 7), (21, dc 4 eTUnit zTUnit p1.Units), (22, cL p1.Units), (23, cI x26.1)] [(6, .var [jI 0, jI 0, jI 0, .nil, .nil, .nil] false), (7, .var [jI p2, jI p1.Turn, jI p1.Weather, dat 1 eI zI v1, .own 1001 4 0 x26.2.1.length, .own 51 4 0 ((x26.2.2 ++ ([v29] : List TUnit)).length)] false), (51, ar 4 eTUnit zTUnit (x26.2.2 ++ ([v29] : List TUnit))), (1001, ar 4 eTUnit zTUnit x26.2.1)] (fun t => aI (rfl : ([v29] : List TUnit).length = 1) (aI (fF_lit eTUnit zTUnit ([v29] : List TUnit)) (aI (And.intro (Nat.le_refl x26.2.2.length) (And.intro (@List.length_append _ x26.2.2 ([v29] : List TUnit)) g37)) (aI (fF_appL eTUnit zTUnit x26.2.2 ([v29] : List TUnit)) (aI (fF_appR eTUnit zTUnit x26.2.2 ([v29] : List TUnit)) (t)))))) ?_
      change EndsI _ _ _ _ _ _
      refine oo [] [.ren 51 1002] [(2, cI p2), (6, pk 6), (7, pk 7), (21, dc 4 eTUnit zTUnit p1.Units), (22, cL p1.Units), (23, cI (W (x26.1 + 1)))] [(6, .var [jI 0, jI 0, jI 0, .nil, .nil, .nil] false), (7, .var [jI p2, jI p1.Turn, jI p1.Weather, dat 1 eI zI v1, .own 1001 4 0 x26.2.1.length, .own 1002 4 0 ((x26.2.2 ++ ([v29] : List TUnit)).length)] false), (1001, ar 4 eTUnit zTUnit x26.2.1), (1002, ar 4 eTUnit zTUnit (x26.2.2 ++ ([v29] : List TUnit)))] id ?_
      cases H
      exact rr
     ·refine jf c36 ?_
      refine sk ?_
      refine oo [] [] [(2, cI p2), (6, pk 6), (7, pk 7), (21, dc 4 eTUnit zTUnit p1.Units), (22, cL p1.Units), (23, cI (W (x26.1 + 1)))] [(6, .var [jI 0, jI 0, jI 0, .nil, .nil, .nil] false), (7, .var [jI p2, jI p1.Turn, jI p1.Weather, dat 1 eI zI v1, .own 1001 4 0 x26.2.1.length, .own 1002 4 0 x26.2.2.length] false), (1001, ar 4 eTUnit zTUnit x26.2.1), (1002, ar 4 eTUnit zTUnit x26.2.2)] id ?_
      cases H
      exact rr
    ·refine sn (rg 6 false []) [] [(46, cB false)] [] [] (fun t => aG 6 c33 (t)) ?_
     refine jf rF ?_
     refine sk ?_
     refine oo [] [] [(2, cI p2), (6, pk 6), (7, pk 7), (21, dc 4 eTUnit zTUnit p1.Units), (22, cL p1.Units), (23, cI (W (x26.1 + 1)))] [(6, .var [jI 0, jI 0, jI 0, .nil, .nil, .nil] false), (7, .var [jI p2, jI p1.Turn, jI p1.Weather, dat 1 eI zI v1, .own 1001 4 0 x26.2.1.length, .own 1002 4 0 x26.2.2.length] false), (1001, ar 4 eTUnit zTUnit x26.2.1), (1002, ar 4 eTUnit zTUnit x26.2.2)] id ?_
     cases H
     exact rr
  ·refine jf c28 ?_
   refine tl [] [(6, pk 6), (7, pk 7)] [(6, .var [jI 0, jI 0, jI 0, .nil, .nil, .nil] false), (7, .var [jI p2, jI p1.Turn, jI p1.Weather, dat 1 eI zI v1, .own 1001 4 0 x26.2.1.length, .own 1002 4 0 x26.2.2.length] false), (1001, ar 4 eTUnit zTUnit x26.2.1), (1002, ar 4 eTUnit zTUnit x26.2.2)] id ?_
   refine ends_exit ?_
   cases H
   exact rse
 ·clear h39
  rintro e s ⟨rfl, rfl⟩
  change EndsI _ _ _ _ _ _
  obtain ⟨v40, h41, H⟩ := oB H
  obtain ⟨g42, H⟩ := oI H
  refine sn [.mu [(1002, 1000000)] [(1000000, 1002)] (.tup []) [(1000000, ar 4 eTUnit zTUnit v40)]] [.rel 55 v40.length, .relc 7 5 v40.length] [] [1002, 7] [(7, .var [jI p2, jI p1.Turn, jI p1.Weather, dat 1 eI zI v1, .own 1001 4 0 y38.1.length, .own 1002 4 0 v40.length] false), (1002, ar 4 eTUnit zTUnit v40)] (fun t => aI (g_SortFunc_Unit_Mof_c0_ok y38.2 (70) (fun q0 q1 => X.i_compareUnits q0 q1) (fun q0 q1 r h => i_compareUnits_ok q0 q1 r h) v40 h41) (aG 2 (Eq.symm g42) (t))) ?_
  refine sn [] [] [] [6] [(6, .var [jI p2, jI p1.Turn, jI p1.Weather, dat 1 eI zI v1, .own 1001 4 0 y38.1.length, .own 1002 4 0 v40.length] false)] id ?_
  refine tl [.frc 6 4, .frc 6 5] [(6, pk 6)] [(6, .var [jI p2, jI p1.Turn, jI p1.Weather, dat 1 eI zI v1, dat 4 eTUnit zTUnit y38.1, dat 4 eTUnit zTUnit v40] false)] (fun t => aI (Nat.le_refl y38.1.length) (aI (Nat.le_refl v40.length) (t))) ?_
  cases H
  exact er
def i_ReportOf_ir : S :=
 (sq [o 3 (.box 12 (.t 0)), o 4 (.box 3 (.t 1)), o 6 (.mv (.v (.str []))), o 7 (.mv bF)]
 (.seq (sq [o 8 (.load 12 true (.t 3)), o 9 (.load 3 true (.t 4)), om 10 2, o 11 (.call 39 [.t 8, .t 9, .t 10]), o 12 (.not (.t 11))]
 (.ite (.t 12) (sq [o 6 (.mv (.v (.str []))), o 7 (.mv bF)]
  .ret)
 .skip))
 (.seq (.drw [(0, 1), (0, 2), (1, 2), (0, 3), (1, 3), (2, 3), (0, 4)] [o 13 (.load 12 true (.t 3)), o 14 (.load 12 true (.t 3)), o 15 (.load 3 true (.t 4)), om 16 2, o 17 (.call 40 [.t 14, .t 15, .t 16]), o 18 (.call 32 [.t 13, .t 17]), om 6 18, o 7 (.mv bT)])
 .ret)))
noncomputable def X.i_ReportOf (p0 : TBoard) (p1 : TState) (p2 : Int) : Option ((List UInt8) × Bool) :=
 ((X.i_isLook p0 p1 p2).bind fun v4 => (bif (!v4) then some ([], false) else ((X.i_viewOf p0 p1 p2).bind fun v7 => ((X.i_reportText p0 v7).bind fun v9 => some (v9, true)))))
theorem i_ReportOf_ok (p0 : TBoard) (p1 : TState) (p2 : Int) (r : ((List UInt8) × Bool)) (H : X.i_ReportOf p0 p1 p2 = some r) : FK 17 [.agg (eTBoard p0), .agg (eTState p1), cI p2] (.tup [(false, [.str r.1]), (false, [.bool r.2])]) := by
 unfold X.i_ReportOf at H
 refine fi Tryz.f17 i_ReportOf_ir [(6, .c (.str r.1)), (7, cB r.2)] [] glL Tryz.func17 ?_
 refine sn [] [] [(3, pk 3), (4, pk 4)] [] [(3, va (eTBoard p0)), (4, va (eTState p1))] id ?_
 refine seq_in ?_
 obtain ⟨v4, h5, H⟩ := oB H
 refine sn [.res (cB v4)] [] [(12, cB (!v4))] [] [] (aI (i_isLook_ok p0 p1 p2 v4 h5)) ?_
 rcases oC H with ⟨c6, H⟩ | ⟨c6, H⟩
 ·refine it c6 ?_
  refine so [] [] [(6, .c (.str [])), (7, cB false)] [] id ?_
  cases H
  exact er
 ·refine jf c6 ?_
  refine sk ?_
  obtain ⟨v7, h8, H⟩ := oB H
  obtain ⟨v9, h10, H⟩ := oB H
  refine sx [.res (.agg (eTView v7)), .res (.c (.str v9))] [] [(6, .c (.str v9)), (7, cB true)] [] (fun t => aI (i_viewOf_ok p0 p1 p2 v7 h8) (aG 2 rN (aI (i_reportText_ok p0 v7 v9 h10) (aI trivial (aI rN (t)))))) ?_
  cases H
  exact er
def i_SameReport_ir : S :=
 (sq [o 4 (.box 12 (.t 0)), o 5 (.box 3 (.t 1)), o 6 (.box 3 (.t 2)), o 8 (.mv bF), o 9 (.mv bF)]
 (sq [o 15 (.load 12 true (.t 4)), o 16 (.load 3 true (.t 5)), om 17 3, o 18 (.call 17 [.t 15, .t 16, .t 17]), om 14 18, o 19 (.ext (.t 14) 0), o 20 (.ext (.t 14) 1), om 10 19, om 11 20]
 (sq [o 22 (.load 12 true (.t 4)), o 23 (.load 3 true (.t 6)), om 24 3, o 25 (.call 17 [.t 22, .t 23, .t 24]), om 21 25, o 26 (.ext (.t 21) 0), o 27 (.ext (.t 21) 1), om 12 26, om 13 27]
 (.seq (sq [om 28 11, o 29 (.not (.t 28)), om 30 29, og 31 (.mv (.t 13)) 30, og 32 (.not (.t 31)) 30, o 33 (.pick (.t 30) bT (.t 32))]
 (.ite (.t 33) (sq [o 8 (.mv bF), o 9 (.mv bF)]
  .ret)
 .skip))
 (sq [om 34 10, om 35 12, o 36 (.bin .eql (.t 34) (.t 35)), om 8 36, o 9 (.mv bT)]
 .ret)))))
noncomputable def X.i_SameReport (p0 : TBoard) (p1 : TState) (p2 : TState) (p3 : Int) : Option (Bool × Bool) :=
 ((X.i_ReportOf p0 p1 p3).bind fun v1 => ((X.i_ReportOf p0 p2 p3).bind fun v3 => (bif (!v1.2) then some (false, false) else (bif (!v3.2) then some (false, false) else some ((v1.1 == v3.1), true)))))
theorem i_SameReport_ok (p0 : TBoard) (p1 : TState) (p2 : TState) (p3 : Int) (r : (Bool × Bool)) (H : X.i_SameReport p0 p1 p2 p3 = some r) : FK 20 [.agg (eTBoard p0), .agg (eTState p1), .agg (eTState p2), cI p3] (.tup [(false, [.bool r.1]), (false, [.bool r.2])]) := by
 unfold X.i_SameReport at H
 refine fi Tryz.f20 i_SameReport_ir [(8, cB r.1), (9, cB r.2)] [] glL Tryz.func20 ?_
 refine sn [] [] [(4, pk 4), (5, pk 5), (6, pk 6)] [] [(4, va (eTBoard p0)), (5, va (eTState p1)), (6, va (eTState p2))] id ?_
 obtain ⟨v1, h2, H⟩ := oB H
 refine sn [.res (.tup [(false, [.str v1.1]), (false, [.bool v1.2])])] [] [(10, .c (.str v1.1)), (11, cB v1.2)] [] [] (aI (i_ReportOf_ok p0 p1 p3 v1 h2)) ?_
 obtain ⟨v3, h4, H⟩ := oB H
 refine sn [.res (.tup [(false, [.str v3.1]), (false, [.bool v3.2])])] [] [(12, .c (.str v3.1)), (13, cB v3.2)] [5] [] (aI (i_ReportOf_ok p0 p2 p3 v3 h4)) ?_
 refine seq_in ?_
 rcases oC H with ⟨c5, H⟩ | ⟨c5, H⟩
 ·refine sn (rg 3 true []) [] [(33, cB true)] [4, 6] [] (fun t => aG 3 c5 (t)) ?_
  refine it rT ?_
  refine so [] [] [(8, cB false), (9, cB false)] [] id ?_
  cases H
  exact er
 ·refine sn (rg 3 false []) [] [(33, cB (!v3.2))] [4, 6] [] (fun t => aG 3 c5 (t)) ?_
  rcases oC H with ⟨c6, H⟩ | ⟨c6, H⟩
  ·refine it c6 ?_
   refine so [] [] [(8, cB false), (9, cB false)] [] id ?_
   cases H
   exact er
  ·refine jf c6 ?_
   refine sk ?_
   refine so [] [] [(8, cB (v1.1 == v3.1)), (9, cB true)] [] id ?_
   cases H
   exact er
def l_FnExactSameReport_ir : S :=
 (sq [o 4 (.box 12 (.t 0)), o 5 (.box 3 (.t 1)), o 6 (.box 3 (.t 2)), o 8 (.mv bF)]
 (sq [o 9 (.mv (iv 1048576))]
 (sq [o 17 (.load 12 true (.t 4)), om 18 9, o 19 (.call 6 [.t 17, .t 18]), om 9 19]
 (.seq (sq [om 20 9, o 21 (.bin .lss (.t 20) (iv 0))]
 (.ite (.t 21) (sq [o 8 (.mv bT)]
  .ret)
 .skip))
 (sq [o 22 (.load 3 true (.t 5)), om 23 9, o 24 (.call 14 [.t 22, .t 23]), om 9 24]
 (.seq (sq [om 25 9, o 26 (.bin .lss (.t 25) (iv 0))]
 (.ite (.t 26) (sq [o 8 (.mv bT)]
  .ret)
 .skip))
 (sq [o 27 (.load 3 true (.t 6)), om 28 9, o 29 (.call 14 [.t 27, .t 28]), om 9 29]
 (.seq (sq [om 30 9, o 31 (.bin .lss (.t 30) (iv 0))]
 (.ite (.t 31) (sq [o 8 (.mv bT)]
  .ret)
 .skip))
 (.seq (.drw [(0, 2), (1, 2), (0, 4), (1, 4), (2, 4), (3, 4), (0, 6), (1, 6), (2, 6), (3, 6), (4, 6), (5, 6), (9, 10), (10, 11)] [o 33 (.load 12 true (.t 4)), o 34 (.call 9 [.t 33]), o 35 (.load 3 true (.t 5)), o 36 (.call 16 [.t 35]), o 37 (.load 3 true (.t 6)), o 38 (.call 16 [.t 37]), om 39 3, o 40 (.call 19 [.t 34, .t 36, .t 38, .t 39]), om 32 40, o 41 (.ext (.t 32) 0), o 42 (.ext (.t 32) 1), om 10 41, om 11 42])
 (sq [o 43 (.load 12 true (.t 4)), o 44 (.call 9 [.t 43]), o 12 (.alloc [.nil, .nil, .int .i64 0, .int .i64 0, .int .i64 0, .int .i64 0, .int .i64 0, .int .i64 0, .int .i64 0, .nil, .nil, .nil]), os 12 12 44]
 (sq [o 45 (.load 3 true (.t 5)), o 46 (.call 16 [.t 45]), o 13 (.alloc [.int .i64 0, .int .i64 0, .nil]), os 3 13 46]
 (sq [o 47 (.load 3 true (.t 6)), o 48 (.call 16 [.t 47]), o 14 (.alloc [.int .i64 0, .int .i64 0, .nil]), os 3 14 48]
 (sq [o 50 (.load 12 true (.t 12)), o 51 (.load 3 true (.t 13)), o 52 (.load 3 true (.t 14)), om 53 3, o 54 (.call 20 [.t 50, .t 51, .t 52, .t 53]), om 49 54, o 55 (.ext (.t 49) 0), o 56 (.ext (.t 49) 1), om 15 55, om 16 56]
 (.seq (sq [om 57 15, om 58 10, o 59 (.bqe true (.t 57) (.t 58)), om 60 59, og 61 (.mv (.t 16)) 60, og 62 (.mv (.t 11)) 60, og 63 (.bqe true (.t 61) (.t 62)) 60, o 64 (.pick (.t 60) bT (.t 63))]
 (.ite (.t 64) (sq [o 8 (.mv bF)]
  .ret)
 .skip))
 (.seq (.seq (.drw [(0, 1), (0, 2)] [o 65 (.load 12 true (.t 12)), o 66 (.load 12 true (.t 4)), o 67 (.call 9 [.t 66]), o 68 (.call 12 [.t 65, .t 67]), o 69 (.not (.t 68))])
 (.ite (.t 69) (sq [o 8 (.mv bF)]
  .ret)
 .skip))
 (.seq (.seq (.drw [(0, 1), (0, 2)] [o 70 (.load 3 true (.t 13)), o 71 (.load 3 true (.t 5)), o 72 (.call 16 [.t 71]), o 73 (.call 18 [.t 70, .t 72]), o 74 (.not (.t 73))])
 (.ite (.t 74) (sq [o 8 (.mv bF)]
  .ret)
 .skip))
 (.seq (.seq (.drw [(0, 1), (0, 2)] [o 75 (.load 3 true (.t 14)), o 76 (.load 3 true (.t 6)), o 77 (.call 16 [.t 76]), o 78 (.call 18 [.t 75, .t 77]), o 79 (.not (.t 78))])
 (.ite (.t 79) (sq [o 8 (.mv bF)]
  .ret)
 .skip))
 (sq [o 8 (.mv bT)]
 .ret))))))))))))))))))
noncomputable def X.l_FnExactSameReport (p0 : TBoard) (p1 : TState) (p2 : TState) (p3 : Int) : Option Bool :=
 ((X.l_szBoard p0 1048576).bind fun v1 => (bif (decide (v1 < 0)) then some true else ((X.l_szState p1 v1).bind fun v5 => (bif (decide (v5 < 0)) then some true else ((X.l_szState p2 v5).bind fun v9 => (bif (decide (v9 < 0)) then some true else ((X.l_toBoard p0).bind fun v13 => ((X.l_toState p1).bind fun v15 => ((X.l_toState p2).bind fun v17 => ((X.s_SameReport v13 v15 v17 p3).bind fun v19 => ((X.l_toBoard p0).bind fun v21 => ((X.l_toState p1).bind fun v23 => ((X.l_toState p2).bind fun v25 => ((X.i_SameReport v21 v23 v25 p3).bind fun v27 => (bif (!(v27.1 == v19.1)) then some false else (bif (!(v27.2 == v19.2)) then some false else ((X.l_toBoard p0).bind fun v38 => ((X.l_eqBoard v21 v38).bind fun v40 => (bif (!v40) then some false else ((X.l_toState p1).bind fun v48 => ((X.l_eqState v23 v48).bind fun v50 => (bif (!v50) then some false else ((X.l_toState p2).bind fun v53 => ((X.l_eqState v25 v53).bind fun v55 => (bif (!v55) then some false else some true)))))))))))))))))))))))))
theorem l_FnExactSameReport_ok (p0 : TBoard) (p1 : TState) (p2 : TState) (p3 : Int) (r : Bool) (H : X.l_FnExactSameReport p0 p1 p2 p3 = some r) : FK 5 [.agg (eTBoard p0), .agg (eTState p1), .agg (eTState p2), cI p3] (cB r) := by
 unfold X.l_FnExactSameReport at H
 refine fi Tryz.f5 l_FnExactSameReport_ir [(8, cB r)] [] glL Tryz.func5 ?_
 refine sn [] [] [(4, pk 4), (5, pk 5), (6, pk 6)] [] [(4, va (eTBoard p0)), (5, va (eTState p1)), (6, va (eTState p2))] id ?_
 refine sn [] [] [(9, cI 1048576)] [] [] id ?_
 obtain ⟨v1, h2, H⟩ := oB H
 refine so [.res (cI v1)] [] [(3, cI p3), (4, pk 4), (5, pk 5), (6, pk 6), (9, cI v1)] [(4, va (eTBoard p0)), (5, va (eTState p1)), (6, va (eTState p2))] (aI (l_szBoard_ok p0 1048576 v1 h2)) ?_
 refine seq_in ?_
 refine sn [] [] [(21, cB (decide (v1 < 0)))] [] [] id ?_
 rcases oC H with ⟨c4, H⟩ | ⟨c4, H⟩
 ·refine it c4 ?_
  refine so [] [] [(8, cB true)] [] id ?_
  cases H
  exact er
 ·refine jf c4 ?_
  refine sk ?_
  obtain ⟨v5, h6, H⟩ := oB H
  refine so [.res (cI v5)] [] [(3, cI p3), (4, pk 4), (5, pk 5), (6, pk 6), (9, cI v5)] [(4, va (eTBoard p0)), (5, va (eTState p1)), (6, va (eTState p2))] (aI (l_szState_ok p1 v1 v5 h6)) ?_
  refine seq_in ?_
  refine sn [] [] [(26, cB (decide (v5 < 0)))] [] [] id ?_
  rcases oC H with ⟨c8, H⟩ | ⟨c8, H⟩
  ·refine it c8 ?_
   refine so [] [] [(8, cB true)] [] id ?_
   cases H
   exact er
  ·refine jf c8 ?_
   refine sk ?_
   obtain ⟨v9, h10, H⟩ := oB H
   refine so [.res (cI v9)] [] [(3, cI p3), (4, pk 4), (5, pk 5), (6, pk 6), (9, cI v9)] [(4, va (eTBoard p0)), (5, va (eTState p1)), (6, va (eTState p2))] (aI (l_szState_ok p2 v5 v9 h10)) ?_
   refine seq_in ?_
   refine sn [] [] [(31, cB (decide (v9 < 0)))] [] [] id ?_
   rcases oC H with ⟨c12, H⟩ | ⟨c12, H⟩
   ·refine it c12 ?_
    refine so [] [] [(8, cB true)] [] id ?_
    cases H
    exact er
   ·refine jf c12 ?_
    refine sk ?_
    obtain ⟨v13, h14, H⟩ := oB H
    obtain ⟨v15, h16, H⟩ := oB H
    obtain ⟨v17, h18, H⟩ := oB H
    obtain ⟨v19, h20, H⟩ := oB H
    refine xn [.res (.agg (eTBoard v13)), .res (.agg (eTState v15)), .res (.agg (eTState v17)), .res (.tup [(false, [.bool v19.1]), (false, [.bool v19.2])])] [] [(10, cB v19.1), (11, cB v19.2)] [] [] (fun t => aI (l_toBoard_ok p0 v13 h14) (aG 2 rN (aI (l_toState_ok p1 v15 h16) (aG 2 rN (aI (l_toState_ok p2 v17 h18) (aG 2 rN (aI (s_SameReport_ok v13 v15 v17 p3 v19 h20) (aI trivial (aI rN (t)))))))))) ?_
    obtain ⟨v21, h22, H⟩ := oB H
    refine sn [.res (.agg (eTBoard v21))] [] [(12, pk 12)] [] [(12, va (eTBoard v21))] (aI (l_toBoard_ok p0 v21 h22)) ?_
    obtain ⟨v23, h24, H⟩ := oB H
    refine sn [.res (.agg (eTState v23))] [] [(13, pk 13)] [] [(13, va (eTState v23))] (aI (l_toState_ok p1 v23 h24)) ?_
    obtain ⟨v25, h26, H⟩ := oB H
    refine sn [.res (.agg (eTState v25))] [] [(14, pk 14)] [] [(14, va (eTState v25))] (aI (l_toState_ok p2 v25 h26)) ?_
    obtain ⟨v27, h28, H⟩ := oB H
    refine sn [.res (.tup [(false, [.bool v27.1]), (false, [.bool v27.2])])] [] [(15, cB v27.1), (16, cB v27.2)] [] [] (aI (i_SameReport_ok v21 v23 v25 p3 v27 h28)) ?_
    refine seq_in ?_
    rcases oC H with ⟨c31, H⟩ | ⟨c31, H⟩
    ·refine sn (rg 4 true []) [] [(64, cB true)] [] [] (fun t => aG 4 c31 (t)) ?_
     refine it rT ?_
     refine so [] [] [(8, cB false)] [] id ?_
     cases H
     exact er
    ·refine sn (rg 4 false []) [] [(64, cB (!(v27.2 == v19.2)))] [] [] (fun t => aG 4 c31 (t)) ?_
     rcases oC H with ⟨c32, H⟩ | ⟨c32, H⟩
     ·refine it c32 ?_
      refine so [] [] [(8, cB false)] [] id ?_
      cases H
      exact er
     ·refine jf c32 ?_
      refine sk ?_
      refine seq_in ?_
      obtain ⟨v38, h39, H⟩ := oB H
      obtain ⟨v40, h41, H⟩ := oB H
      refine xn [.res (.agg (eTBoard v38)), .res (cB v40)] [] [(69, cB (!v40))] [] [] (fun t => aI (l_toBoard_ok p0 v38 h39) (aG 2 rN (aI (l_eqBoard_ok v21 v38 v40 h41) (aI trivial (aI rN (t)))))) ?_
      rcases oC H with ⟨c42, H⟩ | ⟨c42, H⟩
      ·refine it c42 ?_
       refine so [] [] [(8, cB false)] [] id ?_
       cases H
       exact er
      ·refine jf c42 ?_
       refine sk ?_
       refine seq_in ?_
       obtain ⟨v48, h49, H⟩ := oB H
       obtain ⟨v50, h51, H⟩ := oB H
       refine sx [.res (.agg (eTState v48)), .res (cB v50)] [] [(6, pk 6), (14, pk 14), (74, cB (!v50))] [(6, va (eTState p2)), (14, va (eTState v25))] (fun t => aI (l_toState_ok p1 v48 h49) (aG 2 rN (aI (l_eqState_ok v23 v48 v50 h51) (aI trivial (aI rN (t)))))) ?_
       rcases oC H with ⟨c52, H⟩ | ⟨c52, H⟩
       ·refine it c52 ?_
        refine so [] [] [(8, cB false)] [] id ?_
        cases H
        exact er
       ·refine jf c52 ?_
        refine sk ?_
        refine seq_in ?_
        obtain ⟨v53, h54, H⟩ := oB H
        obtain ⟨v55, h56, H⟩ := oB H
        refine sx [.res (.agg (eTState v53)), .res (cB v55)] [] [(79, cB (!v55))] [] (fun t => aI (l_toState_ok p2 v53 h54) (aG 2 rN (aI (l_eqState_ok v25 v53 v55 h56) (aI trivial (aI rN (t)))))) ?_
        rcases oC H with ⟨c57, H⟩ | ⟨c57, H⟩
        ·refine it c57 ?_
         refine so [] [] [(8, cB false)] [] id ?_
         cases H
         exact er
        ·refine jf c57 ?_
         refine sk ?_
         refine so [] [] [(8, cB true)] [] id ?_
         cases H
         exact er
end Go.Proofs.YtockjpnbfllmaaaGreatDoor.X0
