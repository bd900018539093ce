/- What each Go function that FnExactSpottersOf reaches computes, and that it returns so; no condition. -/
import Derived.Test.YtociagbpecpcnaaGreatDoorSpOWb
set_option linter.unusedVariables false
set_option linter.unusedSimpArgs false
set_option maxRecDepth 100000
namespace Go.Proofs.YtociagbpecpcnaaGreatDoor.X0
open Go Go.RowKit Go.Proofs.YtociagbpecpcnaaGreatDoor.Ab Go.Proofs

def i_nearestTo_ir : S :=
 (sq [o 6 (.mv (.v (.nil)))]
 (sq [o 14 (.bsl 2 []), om 7 14, o 8 (.mv (.v (.int .i64 (-1))))]
 (.seq (sq [om 15 0, om 16 2, o 17 (.call 252 [.t 15, .t 16]), o 18 (.bin .sub (.t 17) (iv 1)), om 9 18]
 (.blk 0 (.loop (.seq (sq [om 19 9, om 20 0, om 21 2, o 22 (.call 252 [.t 20, .t 21]), o 23 (.bin .add (.t 22) (iv 2)), o 24 (.bin .leq (.t 19) (.t 23))]
   (.ite (.t 24) .skip
   (.exit 0)))
   (.seq (.blk 1 (sq [om 27 1, om 28 2, o 29 (.call 252 [.t 27, .t 28]), o 30 (.bin .sub (.t 29) (iv 1)), om 10 30]
    (.blk 2 (.loop (.seq (sq [om 31 10, om 32 1, om 33 2, o 34 (.call 252 [.t 32, .t 33]), o 35 (.bin .add (.t 34) (iv 2)), o 36 (.bin .leq (.t 31) (.t 35))]
      (.ite (.t 36) .skip
      (.exit 2)))
      (.seq (.blk 3 (sq [om 39 2, om 40 9, o 41 (.bin .mul (.t 39) (.t 40)), om 42 0, o 43 (.bin .sub (.t 41) (.t 42)), om 44 2, om 45 10, o 46 (.bin .mul (.t 44) (.t 45)), om 47 1, o 48 (.bin .sub (.t 46) (.t 47)), om 11 43, om 12 48]
       (sq [om 49 11, om 50 11, o 51 (.bin .mul (.t 49) (.t 50)), om 52 11, om 53 12, o 54 (.bin .mul (.t 52) (.t 53)), o 55 (.bin .add (.t 51) (.t 54)), om 56 12, om 57 12, o 58 (.bin .mul (.t 56) (.t 57)), o 59 (.bin .add (.t 55) (.t 58)), om 13 59]
       (.seq (sq [om 60 8, o 61 (.bin .lss (.t 60) (iv 0)), om 62 61, ⟨some 63, .mv (.t 13), some (62, false)⟩, ⟨some 64, .mv (.t 8), some (62, false)⟩, ⟨some 65, .bin .lss (.t 63) (.t 64), some (62, false)⟩, o 66 (.pick (.t 62) (.v (.bool true)) (.t 65))]
       (.ite (.t 66) (.ops [om 67 7, o 68 (.slc 2 (.t 67) none (some (iv 0))), om 69 13, om 7 68, om 8 69])
       .skip))
       (sq [om 70 13, om 71 8, o 72 (.bin .eql (.t 70) (.t 71))]
       (.ite (.t 72) (.ops [om 73 7, om 74 9, om 75 10, o 76 (.build [.int .i64 0, .int .i64 0] [(0, 1, .t 74), (1, 1, .t 75)]), o 77 (.bsl 2 [.t 76]), o 78 (.app 2 16 (.t 73) (.t 77)), om 7 78])
       .skip))))))
      (.ops [om 37 10, o 38 (.bin .add (.t 37) (iv 1)), om 10 38])))))))
   (.ops [om 25 9, o 26 (.bin .add (.t 25) (iv 1)), om 9 26]))))))
 (sq [om 79 7, om 6 79]
 .ret))))
noncomputable def X.i_nearestTo (p0 : Int) (p1 : Int) (p2 : Int) : Option (List THex) :=
 ((X.i_floorDiv p0 p2).bind fun v1 => ((loop (fun (x136 : (Int × Int × (List THex))) => (((X.i_floorDiv p0 p2).bind fun v140 => (bif (decide (x136.2.1 ≤ (W (v140 + 2)))) then ((X.i_floorDiv p1 p2).bind fun v143 => ((loop (fun (x182 : (Int × Int × (List THex))) => (((X.i_floorDiv p1 p2).bind fun v186 => (bif (decide (x182.2.1 ≤ (W (v186 + 2)))) then (((bif (decide (x182.1 < 0)) then (if 0 ≤ (0 : Int) ∧ (0 : Int) ≤ (0 : Int) ∧ (0 : Int) ≤ (x182.2.2.length : Int) then some ((W ((W ((W ((W ((W (p2 * x136.2.1)) - p0)) * (W ((W (p2 * x136.2.1)) - p0)))) + (W ((W ((W (p2 * x136.2.1)) - p0)) * (W ((W (p2 * x182.2.1)) - p1)))))) + (W ((W ((W (p2 * x182.2.1)) - p1)) * (W ((W (p2 * x182.2.1)) - p1)))))), (x182.2.2.take (0 : Int).toNat)) else none) else (bif (decide ((W ((W ((W ((W ((W (p2 * x136.2.1)) - p0)) * (W ((W (p2 * x136.2.1)) - p0)))) + (W ((W ((W (p2 * x136.2.1)) - p0)) * (W ((W (p2 * x182.2.1)) - p1)))))) + (W ((W ((W (p2 * x182.2.1)) - p1)) * (W ((W (p2 * x182.2.1)) - p1)))))) < x182.1)) then (if 0 ≤ (0 : Int) ∧ (0 : Int) ≤ (0 : Int) ∧ (0 : Int) ≤ (x182.2.2.length : Int) then some ((W ((W ((W ((W ((W (p2 * x136.2.1)) - p0)) * (W ((W (p2 * x136.2.1)) - p0)))) + (W ((W ((W (p2 * x136.2.1)) - p0)) * (W ((W (p2 * x182.2.1)) - p1)))))) + (W ((W ((W (p2 * x182.2.1)) - p1)) * (W ((W (p2 * x182.2.1)) - p1)))))), (x182.2.2.take (0 : Int).toNat)) else none) else some (x182.1, x182.2.2))) : Option (Int × (List THex))).bind fun y197 => (bif ((W ((W ((W ((W ((W (p2 * x136.2.1)) - p0)) * (W ((W (p2 * x136.2.1)) - p0)))) + (W ((W ((W (p2 * x136.2.1)) - p0)) * (W ((W (p2 * x182.2.1)) - p1)))))) + (W ((W ((W (p2 * x182.2.1)) - p1)) * (W ((W (p2 * x182.2.1)) - p1)))))) == y197.1) then (if (y197.2 ++ ([(THex.mk x136.2.1 x182.2.1)] : List THex)).length ≤ LIM then some (Sum.inl (y197.1, (W (x182.2.1 + 1)), (y197.2 ++ ([(THex.mk x136.2.1 x182.2.1)] : List THex)))) else none) else some (Sum.inl (y197.1, (W (x182.2.1 + 1)), y197.2)))) else some (Sum.inr (x182.1, x182.2.2)))) : Option ((Int × Int × (List THex)) ⊕ (Int × (List THex))))) (x136.1, (W (v143 - 1)), x136.2.2)).bind fun y201 => some (Sum.inl (y201.1, (W (x136.2.1 + 1)), y201.2)))) else some (Sum.inr x136.2.2))) : Option ((Int × Int × (List THex)) ⊕ (List THex)))) (-1, (W (v1 - 1)), ([] : List THex))).bind fun y203 => some y203))
theorem i_nearestTo_ok (p0 : Int) (p1 : Int) (p2 : Int) (r : (List THex)) (H : X.i_nearestTo p0 p1 p2 = some r) : FnOk Tryz.prog gl 248 [cI p0, cI p1, cI p2] (.c (dat 2 eTHex zTHex r)) := by
 unfold X.i_nearestTo at H
 refine fi Tryz.f248 i_nearestTo_ir [(6, dc 2 eTHex zTHex r)] [] glL Tryz.func248 ?_
 refine so [] [] [(0, cI p0), (1, cI p1), (2, cI p2)] [] id ?_
 refine so [fh eTHex zTHex ([] : List THex)] [] [(0, cI p0), (1, cI p1), (2, cI p2), (7, ow 14 2 ([] : List THex)), (8, cI (-1))] [(14, ar 2 eTHex zTHex ([] : List THex))] (fun t => aI (rfl : ([] : List THex).length = 0) (aI (fF_lit eTHex zTHex ([] : List THex)) (t))) ?_
 refine seq_in ?_
 obtain ⟨v1, h2, H⟩ := ofBind H
 refine so [.res (cI v1)] [] [(0, cI p0), (1, cI p1), (2, cI p2), (7, ow 14 2 ([] : List THex)), (8, cI (-1)), (9, cI (W (v1 - 1)))] [(14, ar 2 eTHex zTHex ([] : List THex))] (aI (i_floorDiv_ok p0 p2 v1 h2)) ?_
 refine ends_blk ?_
 obtain ⟨y203, h204, H⟩ := ofBind H
 refine tl [.ren 14 1002] [(0, cI p0), (1, cI p1), (2, cI p2), (7, ow 1002 2 ([] : List THex)), (8, cI (-1)), (9, cI (W (v1 - 1)))] [(1002, ar 2 eTHex zTHex ([] : List THex))] id ?_
 refine loop_in (fun (x : (Int × Int × (List THex))) => lit [(0, cI p0), (1, cI p1), (2, cI p2), (7, ow 1002 2 x.2.2), (8, cI x.1), (9, cI x.2.1)] [(1002, ar 2 eTHex zTHex x.2.2)]) (fun (z : (List THex)) => At (.exit 0) (lit [(7, ow 1002 2 z)] [(1002, ar 2 eTHex zTHex z)])) h204 ?_ ?_
 ·clear H h204
  intro x136 y0 H
  refine seq_in ?_
  obtain ⟨v140, h141, H⟩ := ofBind H
  refine so [.res (cI v140)] [] [(0, cI p0), (1, cI p1), (2, cI p2), (7, ow 1002 2 x136.2.2), (8, cI x136.1), (9, cI x136.2.1), (24, cB (decide (x136.2.1 ≤ (W (v140 + 2)))))] [(1002, ar 2 eTHex zTHex x136.2.2)] (aI (i_floorDiv_ok p0 p2 v140 h141)) ?_
  rcases ofCond H with ⟨c142, H⟩ | ⟨c142, H⟩
  ·refine it c142 ?_
   refine sk ?_
   refine seq_in ?_
   refine ends_blk ?_
   obtain ⟨v143, h144, H⟩ := ofBind H
   refine so [.res (cI v143)] [] [(0, cI p0), (1, cI p1), (2, cI p2), (7, ow 1002 2 x136.2.2), (8, cI x136.1), (9, cI x136.2.1), (10, cI (W (v143 - 1)))] [(1002, ar 2 eTHex zTHex x136.2.2)] (aI (i_floorDiv_ok p1 p2 v143 h144)) ?_
   refine ends_blk ?_
   obtain ⟨y201, h202, H⟩ := ofBind H
   refine loop_in (fun (x : (Int × Int × (List THex))) => lit [(0, cI p0), (1, cI p1), (2, cI p2), (7, ow 1002 2 x.2.2), (8, cI x.1), (9, cI x136.2.1), (10, cI x.2.1)] [(1002, ar 2 eTHex zTHex x.2.2)]) (fun (z : (Int × (List THex))) => At (.exit 2) (lit [(0, cI p0), (1, cI p1), (2, cI p2), (7, ow 1002 2 z.2), (8, cI z.1), (9, cI x136.2.1)] [(1002, ar 2 eTHex zTHex z.2)])) h202 ?_ ?_
   ·clear H h202
    intro x182 y0 H
    refine seq_in ?_
    obtain ⟨v186, h187, H⟩ := ofBind H
    refine so [.res (cI v186)] [] [(0, cI p0), (1, cI p1), (2, cI p2), (7, ow 1002 2 x182.2.2), (8, cI x182.1), (9, cI x136.2.1), (10, cI x182.2.1), (36, cB (decide (x182.2.1 ≤ (W (v186 + 2)))))] [(1002, ar 2 eTHex zTHex x182.2.2)] (aI (i_floorDiv_ok p1 p2 v186 h187)) ?_
    rcases ofCond H with ⟨c188, H⟩ | ⟨c188, H⟩
    ·refine it c188 ?_
     refine sk ?_
     refine seq_in ?_
     refine ends_blk ?_
     refine so [] [] [(0, cI p0), (1, cI p1), (2, cI p2), (7, ow 1002 2 x182.2.2), (8, cI x182.1), (9, cI x136.2.1), (10, cI x182.2.1), (11, cI (W ((W (p2 * x136.2.1)) - p0))), (12, cI (W ((W (p2 * x182.2.1)) - p1)))] [(1002, ar 2 eTHex zTHex x182.2.2)] id ?_
     refine so [] [] [(0, cI p0), (1, cI p1), (2, cI p2), (7, ow 1002 2 x182.2.2), (8, cI x182.1), (9, cI x136.2.1), (10, cI x182.2.1), (13, cI (W ((W ((W ((W ((W (p2 * x136.2.1)) - p0)) * (W ((W (p2 * x136.2.1)) - p0)))) + (W ((W ((W (p2 * x136.2.1)) - p0)) * (W ((W (p2 * x182.2.1)) - p1)))))) + (W ((W ((W (p2 * x182.2.1)) - p1)) * (W ((W (p2 * x182.2.1)) - p1)))))))] [(1002, ar 2 eTHex zTHex x182.2.2)] id ?_
     obtain ⟨y197, h198, H⟩ := ofBind H
     refine seq_in (cut_in (fun (z : (Int × (List THex))) => At .normal (lit [(0, cI p0), (1, cI p1), (2, cI p2), (7, ow 1002 2 z.2), (8, cI z.1), (9, cI x136.2.1), (10, cI x182.2.1), (13, cI (W ((W ((W ((W ((W (p2 * x136.2.1)) - p0)) * (W ((W (p2 * x136.2.1)) - p0)))) + (W ((W ((W (p2 * x136.2.1)) - p0)) * (W ((W (p2 * x182.2.1)) - p1)))))) + (W ((W ((W (p2 * x182.2.1)) - p1)) * (W ((W (p2 * x182.2.1)) - p1)))))))] [(1002, ar 2 eTHex zTHex z.2)])) y197 ?_ ?_)
     ·clear H
      revert h198
      generalize y197 = y0
      intro H
      rcases ofCond H with ⟨c193, H⟩ | ⟨c193, H⟩
      ·refine so [.g true, .g true, .g true, .g true] [] [(0, cI p0), (1, cI p1), (2, cI p2), (7, ow 1002 2 x182.2.2), (8, cI x182.1), (9, cI x136.2.1), (10, cI x182.2.1), (13, cI (W ((W ((W ((W ((W (p2 * x136.2.1)) - p0)) * (W ((W (p2 * x136.2.1)) - p0)))) + (W ((W ((W (p2 * x136.2.1)) - p0)) * (W ((W (p2 * x182.2.1)) - p1)))))) + (W ((W ((W (p2 * x182.2.1)) - p1)) * (W ((W (p2 * x182.2.1)) - p1))))))), (66, cB true)] [(1002, ar 2 eTHex zTHex x182.2.2)] (fun t => aI c193 (aI c193 (aI c193 (aI c193 (t))))) ?_
       refine it (rfl : (true : Bool) = true) ?_
       obtain ⟨g194, H⟩ := ofIf H
       refine oo [.nat (x182.2.2.take (0 : Int).toNat).length] [.rep 1002 (x182.2.2.take (0 : Int).toNat).length (fF eTHex zTHex (x182.2.2.take (0 : Int).toNat))] [(0, cI p0), (1, cI p1), (2, cI p2), (7, ow 1002 2 (x182.2.2.take (0 : Int).toNat)), (8, cI (W ((W ((W ((W ((W (p2 * x136.2.1)) - p0)) * (W ((W (p2 * x136.2.1)) - p0)))) + (W ((W ((W (p2 * x136.2.1)) - p0)) * (W ((W (p2 * x182.2.1)) - p1)))))) + (W ((W ((W (p2 * x182.2.1)) - p1)) * (W ((W (p2 * x182.2.1)) - p1))))))), (9, cI x136.2.1), (10, cI x182.2.1), (13, cI (W ((W ((W ((W ((W (p2 * x136.2.1)) - p0)) * (W ((W (p2 * x136.2.1)) - p0)))) + (W ((W ((W (p2 * x136.2.1)) - p0)) * (W ((W (p2 * x182.2.1)) - p1)))))) + (W ((W ((W (p2 * x182.2.1)) - p1)) * (W ((W (p2 * x182.2.1)) - p1)))))))] [(1002, ar 2 eTHex zTHex (x182.2.2.take (0 : Int).toNat))] (fun t => aI (take_nat x182.2.2 (0 : Int) g194) (aI (take_len x182.2.2 (0 : Int)) (aI (fF_take eTHex zTHex x182.2.2 (0 : Int)) (t)))) ?_
       cases H
       exact And.intro rfl rfl
      ·refine so [.g false, .g false, .g false, .g false] [] [(0, cI p0), (1, cI p1), (2, cI p2), (7, ow 1002 2 x182.2.2), (8, cI x182.1), (9, cI x136.2.1), (10, cI x182.2.1), (13, cI (W ((W ((W ((W ((W (p2 * x136.2.1)) - p0)) * (W ((W (p2 * x136.2.1)) - p0)))) + (W ((W ((W (p2 * x136.2.1)) - p0)) * (W ((W (p2 * x182.2.1)) - p1)))))) + (W ((W ((W (p2 * x182.2.1)) - p1)) * (W ((W (p2 * x182.2.1)) - p1))))))), (66, cB (decide ((W ((W ((W ((W ((W (p2 * x136.2.1)) - p0)) * (W ((W (p2 * x136.2.1)) - p0)))) + (W ((W ((W (p2 * x136.2.1)) - p0)) * (W ((W (p2 * x182.2.1)) - p1)))))) + (W ((W ((W (p2 * x182.2.1)) - p1)) * (W ((W (p2 * x182.2.1)) - p1)))))) < x182.1)))] [(1002, ar 2 eTHex zTHex x182.2.2)] (fun t => aI c193 (aI c193 (aI c193 (aI c193 (t))))) ?_
       rcases ofCond H with ⟨c195, H⟩ | ⟨c195, H⟩
       ·refine it c195 ?_
        obtain ⟨g196, H⟩ := ofIf H
        refine oo [.nat (x182.2.2.take (0 : Int).toNat).length] [.rep 1002 (x182.2.2.take (0 : Int).toNat).length (fF eTHex zTHex (x182.2.2.take (0 : Int).toNat))] [(0, cI p0), (1, cI p1), (2, cI p2), (7, ow 1002 2 (x182.2.2.take (0 : Int).toNat)), (8, cI (W ((W ((W ((W ((W (p2 * x136.2.1)) - p0)) * (W ((W (p2 * x136.2.1)) - p0)))) + (W ((W ((W (p2 * x136.2.1)) - p0)) * (W ((W (p2 * x182.2.1)) - p1)))))) + (W ((W ((W (p2 * x182.2.1)) - p1)) * (W ((W (p2 * x182.2.1)) - p1))))))), (9, cI x136.2.1), (10, cI x182.2.1), (13, cI (W ((W ((W ((W ((W (p2 * x136.2.1)) - p0)) * (W ((W (p2 * x136.2.1)) - p0)))) + (W ((W ((W (p2 * x136.2.1)) - p0)) * (W ((W (p2 * x182.2.1)) - p1)))))) + (W ((W ((W (p2 * x182.2.1)) - p1)) * (W ((W (p2 * x182.2.1)) - p1)))))))] [(1002, ar 2 eTHex zTHex (x182.2.2.take (0 : Int).toNat))] (fun t => aI (take_nat x182.2.2 (0 : Int) g196) (aI (take_len x182.2.2 (0 : Int)) (aI (fF_take eTHex zTHex x182.2.2 (0 : Int)) (t)))) ?_
        cases H
        exact And.intro rfl rfl
       ·refine jf c195 ?_
        refine tl [] [(0, cI p0), (1, cI p1), (2, cI p2), (7, ow 1002 2 x182.2.2), (8, cI x182.1), (9, cI x136.2.1), (10, cI x182.2.1), (13, cI (W ((W ((W ((W ((W (p2 * x136.2.1)) - p0)) * (W ((W (p2 * x136.2.1)) - p0)))) + (W ((W ((W (p2 * x136.2.1)) - p0)) * (W ((W (p2 * x182.2.1)) - p1)))))) + (W ((W ((W (p2 * x182.2.1)) - p1)) * (W ((W (p2 * x182.2.1)) - p1)))))))] [(1002, ar 2 eTHex zTHex x182.2.2)] id ?_
        refine ends_skip ?_
        cases H
        exact And.intro rfl rfl
     ·clear h198
      intro e s q
      obtain ⟨rfl, rfl⟩ := q
      change EndsI _ _ _ _ _ _
      refine so [] [] [(0, cI p0), (1, cI p1), (2, cI p2), (7, ow 1002 2 y197.2), (8, cI y197.1), (9, cI x136.2.1), (10, cI x182.2.1), (72, cB ((W ((W ((W ((W ((W (p2 * x136.2.1)) - p0)) * (W ((W (p2 * x136.2.1)) - p0)))) + (W ((W ((W (p2 * x136.2.1)) - p0)) * (W ((W (p2 * x182.2.1)) - p1)))))) + (W ((W ((W (p2 * x182.2.1)) - p1)) * (W ((W (p2 * x182.2.1)) - p1)))))) == y197.1))] [(1002, ar 2 eTHex zTHex y197.2)] id ?_
      rcases ofCond H with ⟨c199, H⟩ | ⟨c199, H⟩
      ·refine it c199 ?_
       obtain ⟨g200, H⟩ := ofIf H
       refine oo [fh eTHex zTHex ([(THex.mk x136.2.1 x182.2.1)] : List THex), fh eTHex zTHex (y197.2 ++ ([(THex.mk x136.2.1 x182.2.1)] : List THex))] [] [(0, cI p0), (1, cI p1), (2, cI p2), (7, ow 78 2 (y197.2 ++ ([(THex.mk x136.2.1 x182.2.1)] : List THex))), (8, cI y197.1), (9, cI x136.2.1), (10, cI x182.2.1)] [(78, ar 2 eTHex zTHex (y197.2 ++ ([(THex.mk x136.2.1 x182.2.1)] : List THex)))] (fun t => aI (rfl : ([(THex.mk x136.2.1 x182.2.1)] : List THex).length = 1) (aI (fF_lit eTHex zTHex ([(THex.mk x136.2.1 x182.2.1)] : List THex)) (aI (And.intro (Nat.le_refl y197.2.length) (And.intro (@List.length_append _ y197.2 ([(THex.mk x136.2.1 x182.2.1)] : List THex)) g200)) (aI (fF_appL eTHex zTHex y197.2 ([(THex.mk x136.2.1 x182.2.1)] : List THex)) (aI (fF_appR eTHex zTHex y197.2 ([(THex.mk x136.2.1 x182.2.1)] : List THex)) (t)))))) ?_
       change EndsI _ _ _ _ _ _
       refine oo [] [.ren 78 1002] [(0, cI p0), (1, cI p1), (2, cI p2), (7, ow 1002 2 (y197.2 ++ ([(THex.mk x136.2.1 x182.2.1)] : List THex))), (8, cI y197.1), (9, cI x136.2.1), (10, cI (W (x182.2.1 + 1)))] [(1002, ar 2 eTHex zTHex (y197.2 ++ ([(THex.mk x136.2.1 x182.2.1)] : List THex)))] id ?_
       cases H
       exact And.intro rfl rfl
      ·refine jf c199 ?_
       refine sk ?_
       refine oo [] [] [(0, cI p0), (1, cI p1), (2, cI p2), (7, ow 1002 2 y197.2), (8, cI y197.1), (9, cI x136.2.1), (10, cI (W (x182.2.1 + 1)))] [(1002, ar 2 eTHex zTHex y197.2)] id ?_
       cases H
       exact And.intro rfl rfl
    ·refine jf c188 ?_
     refine tl [] [(0, cI p0), (1, cI p1), (2, cI p2), (7, ow 1002 2 x182.2.2), (8, cI x182.1), (9, cI x136.2.1)] [(1002, ar 2 eTHex zTHex x182.2.2)] id ?_
     refine ends_exit ?_
     cases H
     exact And.intro (by simp) (And.intro rfl rfl)
   ·clear h202
    intro e s q
    obtain ⟨rfl, rfl⟩ := q
    change EndsI _ _ _ _ _ _
    refine oo [] [] [(0, cI p0), (1, cI p1), (2, cI p2), (7, ow 1002 2 y201.2), (8, cI y201.1), (9, cI (W (x136.2.1 + 1)))] [(1002, ar 2 eTHex zTHex y201.2)] id ?_
    cases H
    exact And.intro rfl rfl
  ·refine jf c142 ?_
   refine tl [] [(7, ow 1002 2 x136.2.2)] [(1002, ar 2 eTHex zTHex x136.2.2)] id ?_
   refine ends_exit ?_
   cases H
   exact And.intro (by simp) (And.intro rfl rfl)
 ·clear h204
  intro e s q
  obtain ⟨rfl, rfl⟩ := q
  change EndsI _ _ _ _ _ _
  refine so [] [] [(6, ow 1002 2 y203)] [(1002, ar 2 eTHex zTHex y203)] id ?_
  refine tl [.frz 6] [(6, dc 2 eTHex zTHex y203)] [] (aI (Nat.le_refl y203.length)) ?_
  refine ends_ret ?_
  cases H
  exact And.intro (.inl rfl) rfl
def i_lineOf_ir : S :=
 (sq [o 2 (.box 2 (.t 0)), o 3 (.box 2 (.t 1)), o 4 (.mv (.v (.nil)))]
 (sq [o 8 (.load 2 true (.t 2)), o 9 (.load 2 true (.t 3)), o 10 (.call 221 [.t 8, .t 9]), om 5 10]
 (.seq (sq [om 11 5, o 12 (.bin .eql (.t 11) (iv 0))]
 (.ite (.t 12) (sq [o 13 (.load 2 true (.t 2)), o 14 (.bsl 2 [.t 13]), o 15 (.bsl 1 [.t 14]), om 4 15]
  .ret)
 .skip))
 (sq [o 16 (.bsl 1 []), om 6 16]
 (.seq (sq [o 7 (.mv (iv 0))]
 (.blk 0 (.loop (.seq (sq [om 17 7, om 18 5, o 19 (.bin .leq (.t 17) (.t 18))]
   (.ite (.t 19) .skip
   (.exit 0)))
   (.seq (.blk 1 (.ops [om 22 6, o 23 (.fad 0 (.t 2)), o 24 (.load 1 false (.t 23)), om 25 5, o 26 (.bin .mul (.t 24) (.t 25)), om 27 7, o 28 (.fad 0 (.t 3)), o 29 (.load 1 false (.t 28)), o 30 (.fad 0 (.t 2)), o 31 (.load 1 false (.t 30)), o 32 (.bin .sub (.t 29) (.t 31)), o 33 (.bin .mul (.t 27) (.t 32)), o 34 (.bin .add (.t 26) (.t 33)), o 35 (.fad 1 (.t 2)), o 36 (.load 1 false (.t 35)), om 37 5, o 38 (.bin .mul (.t 36) (.t 37)), om 39 7, o 40 (.fad 1 (.t 3)), o 41 (.load 1 false (.t 40)), o 42 (.fad 1 (.t 2)), o 43 (.load 1 false (.t 42)), o 44 (.bin .sub (.t 41) (.t 43)), o 45 (.bin .mul (.t 39) (.t 44)), o 46 (.bin .add (.t 38) (.t 45)), om 47 5, o 48 (.call 248 [.t 34, .t 46, .t 47]), o 49 (.bsl 1 [.t 48]), o 50 (.app 1 24 (.t 22) (.t 49)), om 6 50]))
   (.ops [om 20 7, o 21 (.bin .add (.t 20) (iv 1)), om 7 21]))))))
 (sq [om 51 6, om 4 51]
 .ret))))))
noncomputable def X.i_lineOf (p0 : THex) (p1 : THex) : Option (List (List THex)) :=
 ((X.i_distance p0 p1).bind fun v1 => (bif (v1 == 0) then some ([([p0] : List THex)] : List (List THex)) else ((loop (fun (x16 : (Int × (List (List THex)))) => ((bif (decide (x16.1 ≤ v1)) then ((X.i_nearestTo (W ((W (p0.Q * v1)) + (W (x16.1 * (W (p1.Q - p0.Q)))))) (W ((W (p0.R * v1)) + (W (x16.1 * (W (p1.R - p0.R)))))) v1).bind fun v19 => (if (x16.2 ++ ([v19] : List (List THex))).length ≤ LIM then some (Sum.inl ((W (x16.1 + 1)), (x16.2 ++ ([v19] : List (List THex))))) else none)) else some (Sum.inr x16.2)) : Option ((Int × (List (List THex))) ⊕ (List (List THex))))) (0, ([] : List (List THex)))).bind fun y22 => some y22)))
theorem i_lineOf_ok (p0 : THex) (p1 : THex) (r : (List (List THex))) (H : X.i_lineOf p0 p1 = some r) : FnOk Tryz.prog gl 243 [.agg (eTHex p0), .agg (eTHex p1)] (.c (dat 1 eLTHex zLTHex r)) := by
 unfold X.i_lineOf at H
 refine fi Tryz.f243 i_lineOf_ir [(4, dc 1 eLTHex zLTHex r)] [] glL Tryz.func243 ?_
 refine so [] [] [(2, pk 2), (3, pk 3)] [(2, va (eTHex p0)), (3, va (eTHex p1))] id ?_
 obtain ⟨v1, h2, H⟩ := ofBind H
 refine so [.res (cI v1)] [] [(2, pk 2), (3, pk 3), (5, cI v1)] [(2, va (eTHex p0)), (3, va (eTHex p1))] (aI (i_distance_ok p0 p1 v1 h2)) ?_
 refine seq_in ?_
 refine so [] [] [(2, pk 2), (3, pk 3), (5, cI v1), (12, cB (v1 == 0))] [(2, va (eTHex p0)), (3, va (eTHex p1))] id ?_
 rcases ofCond H with ⟨c4, H⟩ | ⟨c4, H⟩
 ·refine it c4 ?_
  refine so [fh eTHex zTHex ([p0] : List THex), fh eLTHex zLTHex ([([p0] : List THex)] : List (List THex))] [] [(4, ow 15 1 ([([p0] : List THex)] : List (List THex)))] [(15, ar 1 eLTHex zLTHex ([([p0] : List THex)] : List (List THex)))] (fun t => aI (rfl : ([p0] : List THex).length = 1) (aI (fF_lit eTHex zTHex ([p0] : List THex)) (aI (Nat.le_refl (([p0] : List THex).length)) (aI (rfl : ([([p0] : List THex)] : List (List THex)).length = 1) (aI (fF_lit eLTHex zLTHex ([([p0] : List THex)] : List (List THex))) (t)))))) ?_
  refine tl [.frz 4] [(4, .c (dat 1 eLTHex zLTHex ([([p0] : List THex)] : List (List THex))))] [] (aI (Nat.le_refl (([([p0] : List THex)] : List (List THex)).length))) ?_
  refine ends_ret ?_
  cases H
  exact And.intro (.inl rfl) rfl
 ·refine jf c4 ?_
  refine sk ?_
  refine so [fh eLTHex zLTHex ([] : List (List THex))] [] [(2, pk 2), (3, pk 3), (5, cI v1), (6, ow 16 1 ([] : List (List THex)))] [(2, va (eTHex p0)), (3, va (eTHex p1)), (16, ar 1 eLTHex zLTHex ([] : List (List THex)))] (fun t => aI (rfl : ([] : List (List THex)).length = 0) (aI (fF_lit eLTHex zLTHex ([] : List (List THex))) (t))) ?_
  refine seq_in ?_
  refine so [] [] [(2, pk 2), (3, pk 3), (5, cI v1), (6, ow 16 1 ([] : List (List THex))), (7, cI 0)] [(2, va (eTHex p0)), (3, va (eTHex p1)), (16, ar 1 eLTHex zLTHex ([] : List (List THex)))] id ?_
  refine ends_blk ?_
  obtain ⟨y22, h23, H⟩ := ofBind H
  refine tl [.ren 16 1001] [(2, pk 2), (3, pk 3), (5, cI v1), (6, ow 1001 1 ([] : List (List THex))), (7, cI 0)] [(2, va (eTHex p0)), (3, va (eTHex p1)), (1001, ar 1 eLTHex zLTHex ([] : List (List THex)))] id ?_
  refine loop_in (fun (x : (Int × (List (List THex)))) => lit [(2, pk 2), (3, pk 3), (5, cI v1), (6, ow 1001 1 x.2), (7, cI x.1)] [(2, va (eTHex p0)), (3, va (eTHex p1)), (1001, ar 1 eLTHex zLTHex x.2)]) (fun (z : (List (List THex))) => At (.exit 0) (lit [(6, ow 1001 1 z)] [(1001, ar 1 eLTHex zLTHex z)])) h23 ?_ ?_
  ·clear H h23
   intro x16 y0 H
   refine seq_in ?_
   refine so [] [] [(2, pk 2), (3, pk 3), (5, cI v1), (6, ow 1001 1 x16.2), (7, cI x16.1), (19, cB (decide (x16.1 ≤ v1)))] [(2, va (eTHex p0)), (3, va (eTHex p1)), (1001, ar 1 eLTHex zLTHex x16.2)] id ?_
   rcases ofCond H with ⟨c18, H⟩ | ⟨c18, H⟩
   ·refine it c18 ?_
    refine sk ?_
    refine seq_in ?_
    refine ends_blk ?_
    obtain ⟨v19, h20, H⟩ := ofBind H
    obtain ⟨g21, H⟩ := ofIf H
    refine oo [.res (dc 2 eTHex zTHex v19), fh eLTHex zLTHex ([v19] : List (List THex)), fh eLTHex zLTHex (x16.2 ++ ([v19] : List (List THex)))] [] [(2, pk 2), (3, pk 3), (5, cI v1), (6, ow 50 1 (x16.2 ++ ([v19] : List (List THex)))), (7, cI x16.1)] [(2, va (eTHex p0)), (3, va (eTHex p1)), (50, ar 1 eLTHex zLTHex (x16.2 ++ ([v19] : List (List THex))))] (fun t => aI (i_nearestTo_ok (W ((W (p0.Q * v1)) + (W (x16.1 * (W (p1.Q - p0.Q)))))) (W ((W (p0.R * v1)) + (W (x16.1 * (W (p1.R - p0.R)))))) v1 v19 h20) (aI (rfl : ([v19] : List (List THex)).length = 1) (aI (fF_lit eLTHex zLTHex ([v19] : List (List THex))) (aI (And.intro (Nat.le_refl x16.2.length) (And.intro (@List.length_append _ x16.2 ([v19] : List (List THex))) g21)) (aI (fF_appL eLTHex zLTHex x16.2 ([v19] : List (List THex))) (aI (fF_appR eLTHex zLTHex x16.2 ([v19] : List (List THex))) (t))))))) ?_
    change EndsI _ _ _ _ _ _
    refine oo [] [.ren 50 1001] [(2, pk 2), (3, pk 3), (5, cI v1), (6, ow 1001 1 (x16.2 ++ ([v19] : List (List THex)))), (7, cI (W (x16.1 + 1)))] [(2, va (eTHex p0)), (3, va (eTHex p1)), (1001, ar 1 eLTHex zLTHex (x16.2 ++ ([v19] : List (List THex))))] id ?_
    cases H
    exact And.intro rfl rfl
   ·refine jf c18 ?_
    refine tl [] [(6, ow 1001 1 x16.2)] [(1001, ar 1 eLTHex zLTHex x16.2)] id ?_
    refine ends_exit ?_
    cases H
    exact And.intro (by simp) (And.intro rfl rfl)
  ·clear h23
   intro e s q
   obtain ⟨rfl, rfl⟩ := q
   change EndsI _ _ _ _ _ _
   refine so [] [] [(4, ow 1001 1 y22)] [(1001, ar 1 eLTHex zLTHex y22)] id ?_
   refine tl [.frz 4] [(4, dc 1 eLTHex zLTHex y22)] [] (aI (Nat.le_refl y22.length)) ?_
   refine ends_ret ?_
   cases H
   exact And.intro (.inl rfl) rfl
def i_sightCells_ir : S :=
 (sq [o 3 (.box 12 (.t 0)), o 6 (.mv (.v (.nil)))]
 (sq [o 13 (.bsl 1 []), om 7 13]
 (.seq (.draw 10 [o 14 (.fad 7 (.t 3)), o 15 (.load 5 true (.t 14)), om 16 1, o 17 (.call 184 [.t 15, .t 16]), o 18 (.fad 7 (.t 3)), o 19 (.load 5 true (.t 18)), om 20 2, o 21 (.call 184 [.t 19, .t 20]), o 22 (.call 243 [.t 17, .t 21]), om 8 22])
 (.seq (sq [o 9 (.mv (iv 1))]
 (.blk 0 (.loop (.seq (sq [om 23 9, o 24 (.bin .add (.t 23) (iv 1)), om 25 8, o 26 (.len (.t 25)), o 27 (.bin .lss (.t 24) (.t 26))]
   (.ite (.t 27) .skip
   (.exit 0)))
   (.seq (.blk 1 (sq [o 30 (.bsl 1 []), om 10 30]
    (.seq (sq [om 31 8, om 32 9, o 33 (.iad 1 (.t 31) (.t 32)), o 34 (.load 1 false (.t 33)), o 35 (.len (.t 34)), o 36 (.mv (iv 0))]
    (.blk 2 (.loop (sq [o 37 (.bin .lss (.t 36) (.t 35))]
      (.seq (.ite (.t 37) .skip
      (.exit 2))
      (.seq (.blk 3 (sq [o 38 (.iad 2 (.t 34) (.t 36)), o 39 (.load 2 true (.t 38)), o 12 (.alloc [.int .i64 0, .int .i64 0]), ⟨none, .store 2 (.t 12) (.t 39), none⟩]
       (.ops [om 40 10, o 41 (.fad 7 (.t 3)), o 42 (.load 5 true (.t 41)), o 43 (.load 2 true (.t 12)), o 44 (.call 182 [.t 42, .t 43]), o 45 (.bsl 1 [.t 44]), o 46 (.app 1 8 (.t 40) (.t 45)), om 10 46])))
      (.ops [o 47 (.bin .add (.t 36) (iv 1)), om 36 47])))))))
    (.ops [om 48 7, om 49 10, o 50 (.bsl 1 [.t 49]), o 51 (.app 1 24 (.t 48) (.t 50)), om 7 51]))))
   (.ops [om 28 9, o 29 (.bin .add (.t 28) (iv 1)), om 9 29]))))))
 (sq [om 52 7, om 6 52]
 .ret)))))
noncomputable def X.i_sightCells (p0 : TBoard) (p1 : Int) (p2 : Int) : Option (List (List Int)) :=
 ((X.i_hexOf p0.Map p1).bind fun v1 => ((X.i_hexOf p0.Map p2).bind fun v3 => ((X.i_lineOf v1 v3).bind fun v5 => ((loop (fun (x68 : (Int × (List (List Int)))) => ((bif (decide ((W (x68.1 + 1)) < (v5.length : Int))) then ((at' zLTHex v5 x68.1).bind fun v71 => ((loop (fun (x88 : (Int × (List (List Int)) × (List Int))) => ((bif (decide (x88.1 < (v71.length : Int))) then ((at' zTHex v71 x88.1).bind fun v91 => ((X.i_indexOf p0.Map v91).bind fun v93 => (if (x88.2.2 ++ ([v93] : List Int)).length ≤ LIM then some (Sum.inl ((W (x88.1 + 1)), x88.2.1, (x88.2.2 ++ ([v93] : List Int)))) else none))) else some (Sum.inr (x88.2.1, x88.2.2))) : Option ((Int × (List (List Int)) × (List Int)) ⊕ ((List (List Int)) × (List Int))))) (0, x68.2, ([] : List Int))).bind fun y96 => (if (y96.1 ++ ([y96.2] : List (List Int))).length ≤ LIM then some (Sum.inl ((W (x68.1 + 1)), (y96.1 ++ ([y96.2] : List (List Int))))) else none))) else some (Sum.inr x68.2)) : Option ((Int × (List (List Int))) ⊕ (List (List Int))))) (1, ([] : List (List Int)))).bind fun y99 => some y99))))
theorem i_sightCells_ok (p0 : TBoard) (p1 : Int) (p2 : Int) (r : (List (List Int))) (H : X.i_sightCells p0 p1 p2 = some r) : FnOk Tryz.prog gl 235 [.agg (eTBoard p0), cI p1, cI p2] (.c (dat 1 eLI zLI r)) := by
 unfold X.i_sightCells at H
 refine fi Tryz.f235 i_sightCells_ir [(6, dc 1 eLI zLI r)] [] glL Tryz.func235 ?_
 refine so [] [] [(1, cI p1), (2, cI p2), (3, pk 3)] [(3, va (eTBoard p0))] id ?_
 refine so [fh eLI zLI ([] : List (List Int))] [] [(1, cI p1), (2, cI p2), (3, pk 3), (7, ow 13 1 ([] : List (List Int)))] [(3, va (eTBoard p0)), (13, ar 1 eLI zLI ([] : List (List Int)))] (fun t => aI (rfl : ([] : List (List Int)).length = 0) (aI (fF_lit eLI zLI ([] : List (List Int))) (t))) ?_
 obtain ⟨v1, h2, H⟩ := ofBind H
 obtain ⟨v3, h4, H⟩ := ofBind H
 obtain ⟨v5, h6, H⟩ := ofBind H
 refine sd [.res (.agg (eTHex v1)), .res (.agg (eTHex v3)), .res (dc 1 eLTHex zLTHex v5)] [] [(3, pk 3), (7, ow 13 1 ([] : List (List Int))), (8, dc 1 eLTHex zLTHex v5)] [(3, va (eTBoard p0)), (13, ar 1 eLI zLI ([] : List (List Int)))] (fun t => aI (i_hexOf_ok p0.Map p1 v1 h2) (aI trivial (aI (rfl : ([] : List Nat) = []) (aI (i_hexOf_ok p0.Map p2 v3 h4) (aI trivial (aI (rfl : ([] : List Nat) = []) (aI (i_lineOf_ok v1 v3 v5 h6) (aI (rfl : ([] : List Nat) = []) (aI (rfl : ([] : List Nat) = []) (t)))))))))) ?_
 refine seq_in ?_
 refine so [] [] [(3, pk 3), (7, ow 13 1 ([] : List (List Int))), (8, dc 1 eLTHex zLTHex v5), (9, cI 1)] [(3, va (eTBoard p0)), (13, ar 1 eLI zLI ([] : List (List Int)))] id ?_
 refine ends_blk ?_
 obtain ⟨y99, h100, H⟩ := ofBind H
 refine tl [.ren 13 1002] [(3, pk 3), (7, ow 1002 1 ([] : List (List Int))), (8, dc 1 eLTHex zLTHex v5), (9, cI 1)] [(3, va (eTBoard p0)), (1002, ar 1 eLI zLI ([] : List (List Int)))] id ?_
 refine loop_in (fun (x : (Int × (List (List Int)))) => lit [(3, pk 3), (7, ow 1002 1 x.2), (8, dc 1 eLTHex zLTHex v5), (9, cI x.1)] [(3, va (eTBoard p0)), (1002, ar 1 eLI zLI x.2)]) (fun (z : (List (List Int))) => At (.exit 0) (lit [(7, ow 1002 1 z)] [(1002, ar 1 eLI zLI z)])) h100 ?_ ?_
 ·clear H h100
  intro x68 y0 H
  refine seq_in ?_
  refine so [] [] [(3, pk 3), (7, ow 1002 1 x68.2), (8, dc 1 eLTHex zLTHex v5), (9, cI x68.1), (27, cB (decide ((W (x68.1 + 1)) < (v5.length : Int))))] [(3, va (eTBoard p0)), (1002, ar 1 eLI zLI x68.2)] (fun t => lI v5 (t)) ?_
  rcases ofCond H with ⟨c70, H⟩ | ⟨c70, H⟩
  ·refine it c70 ?_
   refine sk ?_
   refine seq_in ?_
   refine ends_blk ?_
   refine so [fh eI zI ([] : List Int)] [] [(3, pk 3), (7, ow 1002 1 x68.2), (8, dc 1 eLTHex zLTHex v5), (9, cI x68.1), (10, ow 30 1 ([] : List Int))] [(3, va (eTBoard p0)), (30, ar 1 eI zI ([] : List Int)), (1002, ar 1 eLI zLI x68.2)] (fun t => aI (rfl : ([] : List Int).length = 0) (aI (fF_lit eI zI ([] : List Int)) (t))) ?_
   refine seq_in ?_
   obtain ⟨v71, h72, H⟩ := ofBind H
   refine so [.cs (eLTHex v71)] [] [(3, pk 3), (7, ow 1002 1 x68.2), (8, dc 1 eLTHex zLTHex v5), (9, cI x68.1), (10, ow 30 1 ([] : List Int)), (34, dc 2 eTHex zTHex v71), (35, cL v71), (36, cI 0)] [(3, va (eTBoard p0)), (30, ar 1 eI zI ([] : List Int)), (1002, ar 1 eLI zLI x68.2)] (fun t => (a2 eLTHex h72 (lI v71 (t)))) ?_
   refine ends_blk ?_
   obtain ⟨y96, h97, H⟩ := ofBind H
   refine tl [.ren 30 1004] [(3, pk 3), (7, ow 1002 1 x68.2), (8, dc 1 eLTHex zLTHex v5), (9, cI x68.1), (10, ow 1004 1 ([] : List Int)), (34, dc 2 eTHex zTHex v71), (35, cL v71), (36, cI 0)] [(3, va (eTBoard p0)), (1002, ar 1 eLI zLI x68.2), (1004, ar 1 eI zI ([] : List Int))] id ?_
   refine loop_in (fun (x : (Int × (List (List Int)) × (List Int))) => lit [(3, pk 3), (7, ow 1002 1 x.2.1), (8, dc 1 eLTHex zLTHex v5), (9, cI x68.1), (10, ow 1004 1 x.2.2), (34, dc 2 eTHex zTHex v71), (35, cL v71), (36, cI x.1)] [(3, va (eTBoard p0)), (1002, ar 1 eLI zLI x.2.1), (1004, ar 1 eI zI x.2.2)]) (fun (z : ((List (List Int)) × (List Int))) => At (.exit 2) (lit [(3, pk 3), (7, ow 1002 1 z.1), (8, dc 1 eLTHex zLTHex v5), (9, cI x68.1), (10, ow 1004 1 z.2)] [(3, va (eTBoard p0)), (1002, ar 1 eLI zLI z.1), (1004, ar 1 eI zI z.2)])) h97 ?_ ?_
   ·clear H h97
    intro x88 y0 H
    refine so [] [] [(3, pk 3), (7, ow 1002 1 x88.2.1), (8, dc 1 eLTHex zLTHex v5), (9, cI x68.1), (10, ow 1004 1 x88.2.2), (34, dc 2 eTHex zTHex v71), (35, cL v71), (36, cI x88.1), (37, cB (decide (x88.1 < (v71.length : Int))))] [(3, va (eTBoard p0)), (1002, ar 1 eLI zLI x88.2.1), (1004, ar 1 eI zI x88.2.2)] id ?_
    refine seq_in ?_
    rcases ofCond H with ⟨c90, H⟩ | ⟨c90, H⟩
    ·refine it c90 ?_
     refine sk ?_
     refine seq_in ?_
     refine ends_blk ?_
     obtain ⟨v91, h92, H⟩ := ofBind H
     refine so [.cs (eTHex v91)] [] [(3, pk 3), (7, ow 1002 1 x88.2.1), (8, dc 1 eLTHex zLTHex v5), (9, cI x68.1), (10, ow 1004 1 x88.2.2), (12, pk 12), (34, dc 2 eTHex zTHex v71), (35, cL v71), (36, cI x88.1)] [(3, va (eTBoard p0)), (12, va (eTHex v91)), (1002, ar 1 eLI zLI x88.2.1), (1004, ar 1 eI zI x88.2.2)] (a2 eTHex h92) ?_
     obtain ⟨v93, h94, H⟩ := ofBind H
     obtain ⟨g95, H⟩ := ofIf H
     refine oo [.res (cI v93), fh eI zI ([v93] : List Int), fh eI zI (x88.2.2 ++ ([v93] : List Int))] [] [(3, pk 3), (7, ow 1002 1 x88.2.1), (8, dc 1 eLTHex zLTHex v5), (9, cI x68.1), (10, ow 46 1 (x88.2.2 ++ ([v93] : List Int))), (34, dc 2 eTHex zTHex v71), (35, cL v71), (36, cI x88.1)] [(3, va (eTBoard p0)), (46, ar 1 eI zI (x88.2.2 ++ ([v93] : List Int))), (1002, ar 1 eLI zLI x88.2.1)] (fun t => aI (i_indexOf_ok p0.Map v91 v93 h94) (aI (rfl : ([v93] : List Int).length = 1) (aI (fF_lit eI zI ([v93] : List Int)) (aI (And.intro (Nat.le_refl x88.2.2.length) (And.intro (@List.length_append _ x88.2.2 ([v93] : List Int)) g95)) (aI (fF_appL eI zI x88.2.2 ([v93] : List Int)) (aI (fF_appR eI zI x88.2.2 ([v93] : List Int)) (t))))))) ?_
     change EndsI _ _ _ _ _ _
     refine oo [] [.ren 46 1004] [(3, pk 3), (7, ow 1002 1 x88.2.1), (8, dc 1 eLTHex zLTHex v5), (9, cI x68.1), (10, ow 1004 1 (x88.2.2 ++ ([v93] : List Int))), (34, dc 2 eTHex zTHex v71), (35, cL v71), (36, cI (W (x88.1 + 1)))] [(3, va (eTBoard p0)), (1002, ar 1 eLI zLI x88.2.1), (1004, ar 1 eI zI (x88.2.2 ++ ([v93] : List Int)))] id ?_
     cases H
     exact And.intro rfl rfl
    ·refine jf c90 ?_
     refine tl [] [(3, pk 3), (7, ow 1002 1 x88.2.1), (8, dc 1 eLTHex zLTHex v5), (9, cI x68.1), (10, ow 1004 1 x88.2.2)] [(3, va (eTBoard p0)), (1002, ar 1 eLI zLI x88.2.1), (1004, ar 1 eI zI x88.2.2)] id ?_
     refine ends_exit ?_
     cases H
     exact And.intro (by simp) (And.intro rfl rfl)
   ·clear h97
    intro e s q
    obtain ⟨rfl, rfl⟩ := q
    change EndsI _ _ _ _ _ _
    obtain ⟨g98, H⟩ := ofIf H
    refine oo [fh eLI zLI ([y96.2] : List (List Int)), fh eLI zLI (y96.1 ++ ([y96.2] : List (List Int)))] [] [(3, pk 3), (7, ow 51 1 (y96.1 ++ ([y96.2] : List (List Int)))), (8, dc 1 eLTHex zLTHex v5), (9, cI x68.1)] [(3, va (eTBoard p0)), (51, ar 1 eLI zLI (y96.1 ++ ([y96.2] : List (List Int))))] (fun t => aI (Nat.le_refl y96.2.length) (aI (rfl : ([y96.2] : List (List Int)).length = 1) (aI (fF_lit eLI zLI ([y96.2] : List (List Int))) (aI (And.intro (Nat.le_refl y96.1.length) (And.intro (@List.length_append _ y96.1 ([y96.2] : List (List Int))) g98)) (aI (fF_appL eLI zLI y96.1 ([y96.2] : List (List Int))) (aI (fF_appR eLI zLI y96.1 ([y96.2] : List (List Int))) (t))))))) ?_
    change EndsI _ _ _ _ _ _
    refine oo [] [.ren 51 1002] [(3, pk 3), (7, ow 1002 1 (y96.1 ++ ([y96.2] : List (List Int)))), (8, dc 1 eLTHex zLTHex v5), (9, cI (W (x68.1 + 1)))] [(3, va (eTBoard p0)), (1002, ar 1 eLI zLI (y96.1 ++ ([y96.2] : List (List Int))))] id ?_
    cases H
    exact And.intro rfl rfl
  ·refine jf c70 ?_
   refine tl [] [(7, ow 1002 1 x68.2)] [(1002, ar 1 eLI zLI x68.2)] id ?_
   refine ends_exit ?_
   cases H
   exact And.intro (by simp) (And.intro rfl rfl)
 ·clear h100
  intro e s q
  obtain ⟨rfl, rfl⟩ := q
  change EndsI _ _ _ _ _ _
  refine so [] [] [(6, ow 1002 1 y99)] [(1002, ar 1 eLI zLI y99)] id ?_
  refine tl [.frz 6] [(6, dc 1 eLI zLI y99)] [] (aI (Nat.le_refl y99.length)) ?_
  refine ends_ret ?_
  cases H
  exact And.intro (.inl rfl) rfl
def i_blocksBetween_ir : S :=
 (sq [o 4 (.box 12 (.t 0)), o 8 (.mv (.v (.bool false)))]
 (sq [o 11 (.load 12 true (.t 4)), om 12 3, o 13 (.call 199 [.t 11, .t 12]), o 9 (.alloc [.str [], .nil, .int .i64 0, .int .i64 0, .bool false]), ⟨none, .store 5 (.t 9) (.t 13), none⟩]
 (sq [o 14 (.fad 3 (.t 9)), o 15 (.load 1 false (.t 14)), om 10 15]
 (.seq (sq [o 16 (.fad 4 (.t 9)), o 17 (.load 1 false (.t 16))]
 (.ite (.t 17) (.ops [om 18 10, o 19 (.bin .add (.t 18) (iv 1)), om 10 19])
 .skip))
 (.seq (.draw 12 [om 20 10, o 21 (.load 12 true (.t 4)), om 22 1, o 23 (.call 199 [.t 21, .t 22]), o 24 (.fld 3 1 false (.t 23)), o 25 (.load 12 true (.t 4)), om 26 2, o 27 (.call 199 [.t 25, .t 26]), o 28 (.fld 3 1 false (.t 27)), o 29 (.mx true (.t 24) (.t 28)), o 30 (.bin .gtr (.t 20) (.t 29)), om 8 30])
 .ret)))))
noncomputable def X.i_blocksBetween (p0 : TBoard) (p1 : Int) (p2 : Int) (p3 : Int) : Option Bool :=
 ((X.i_terrainAt p0 p3).bind fun v1 => (((bif v1.Blocks then some (W (v1.Height + 1)) else some v1.Height) : Option Int).bind fun y5 => ((X.i_terrainAt p0 p1).bind fun v7 => ((X.i_terrainAt p0 p2).bind fun v9 => some (decide (y5 > (if v9.Height > v7.Height then v9.Height else v7.Height)))))))
theorem i_blocksBetween_ok (p0 : TBoard) (p1 : Int) (p2 : Int) (p3 : Int) (r : Bool) (H : X.i_blocksBetween p0 p1 p2 p3 = some r) : FnOk Tryz.prog gl 236 [.agg (eTBoard p0), cI p1, cI p2, cI p3] (cB r) := by
 unfold X.i_blocksBetween at H
 refine fi Tryz.f236 i_blocksBetween_ir [(8, cB r)] [] glL Tryz.func236 ?_
 refine so [] [] [(1, cI p1), (2, cI p2), (3, cI p3), (4, pk 4)] [(4, va (eTBoard p0))] id ?_
 obtain ⟨v1, h2, H⟩ := ofBind H
 refine so [.res (.agg (eTTerrain v1))] [] [(1, cI p1), (2, cI p2), (4, pk 4), (9, pk 9)] [(4, va (eTBoard p0)), (9, va (eTTerrain v1))] (aI (i_terrainAt_ok p0 p3 v1 h2)) ?_
 refine so [] [] [(1, cI p1), (2, cI p2), (4, pk 4), (9, pk 9), (10, cI v1.Height)] [(4, va (eTBoard p0)), (9, va (eTTerrain v1))] id ?_
 obtain ⟨y5, h6, H⟩ := ofBind H
 refine seq_in (cut_in (fun (z : Int) => At .normal (lit [(1, cI p1), (2, cI p2), (4, pk 4), (10, cI z)] [(4, va (eTBoard p0))])) y5 ?_ ?_)
 ·clear H
  revert h6
  generalize y5 = y0
  intro H
  refine so [] [] [(1, cI p1), (2, cI p2), (4, pk 4), (10, cI v1.Height), (17, cB v1.Blocks)] [(4, va (eTBoard p0))] id ?_
  rcases ofCond H with ⟨c4, H⟩ | ⟨c4, H⟩
  ·refine it c4 ?_
   refine oo [] [] [(1, cI p1), (2, cI p2), (4, pk 4), (10, cI (W (v1.Height + 1)))] [(4, va (eTBoard p0))] id ?_
   cases H
   exact And.intro rfl rfl
  ·refine jf c4 ?_
   refine tl [] [(1, cI p1), (2, cI p2), (4, pk 4), (10, cI v1.Height)] [(4, va (eTBoard p0))] id ?_
   refine ends_skip ?_
   cases H
   exact And.intro rfl rfl
 ·clear h6
  intro e s q
  obtain ⟨rfl, rfl⟩ := q
  change EndsI _ _ _ _ _ _
  obtain ⟨v7, h8, H⟩ := ofBind H
  obtain ⟨v9, h10, H⟩ := ofBind H
  refine sd [.res (.agg (eTTerrain v7)), .res (.agg (eTTerrain v9))] [] [(8, cB (decide (y5 > (if v9.Height > v7.Height then v9.Height else v7.Height))))] [] (fun t => aI (i_terrainAt_ok p0 p1 v7 h8) (aI (rfl : ([] : List Nat) = []) (aI (rfl : ([] : List Nat) = []) (aI (i_terrainAt_ok p0 p2 v9 h10) (aI (rfl : ([] : List Nat) = []) (aI (rfl : ([] : List Nat) = []) (t))))))) ?_
  refine ends_ret ?_
  cases H
  exact And.intro (.inl rfl) rfl
def i_sightOf_ir : S :=
 (sq [o 3 (.box 12 (.t 0)), o 6 (.mv (iv 0)), o 7 (.mv (iv 0))]
 (sq [o 8 (.mv (iv 0))]
 (.seq (sq [o 14 (.load 12 true (.t 3)), om 15 1, om 16 2, o 17 (.call 235 [.t 14, .t 15, .t 16]), o 18 (.len (.t 17)), o 19 (.mv (iv 0))]
 (.blk 0 (.loop (sq [o 20 (.bin .lss (.t 19) (.t 18))]
   (.seq (.ite (.t 20) .skip
   (.exit 0))
   (.seq (.blk 1 (sq [om 21 19, o 22 (.iad 1 (.t 17) (.t 19)), o 23 (.load 1 false (.t 22)), om 9 21, om 10 23]
    (sq [o 11 (.mv (iv 0))]
    (.seq (sq [om 24 10, o 25 (.len (.t 24)), o 26 (.mv (iv 0))]
    (.blk 2 (.loop (sq [o 27 (.bin .lss (.t 26) (.t 25))]
      (.seq (.ite (.t 27) .skip
      (.exit 2))
      (.seq (.blk 3 (sq [o 28 (.iad 1 (.t 24) (.t 26)), o 29 (.load 1 false (.t 28)), om 13 29]
       (sq [o 30 (.load 12 true (.t 3)), om 31 1, om 32 2, om 33 13, o 34 (.call 236 [.t 30, .t 31, .t 32, .t 33])]
       (.ite (.t 34) (.ops [om 35 11, o 36 (.bin .add (.t 35) (iv 1)), om 11 36])
       .skip))))
      (.ops [o 37 (.bin .add (.t 26) (iv 1)), om 26 37])))))))
    (.seq (sq [om 38 11, om 39 10, o 40 (.len (.t 39)), o 41 (.bin .eql (.t 38) (.t 40))]
    (.ite (.t 41) (sq [om 42 9, o 6 (.mv (iv 2)), om 7 42]
     .ret)
    .skip))
    (sq [om 43 11, o 44 (.bin .gtr (.t 43) (iv 0))]
    (.ite (.t 44) (.ops [o 8 (.mv (iv 1))])
    .skip)))))))
   (.ops [o 45 (.bin .add (.t 19) (iv 1)), om 19 45])))))))
 (sq [om 46 8, om 6 46, o 7 (.mv (.v (.int .i64 (-1))))]
 .ret))))
noncomputable def X.i_sightOf (p0 : TBoard) (p1 : Int) (p2 : Int) : Option (Int × Int) :=
 ((X.i_sightCells p0 p1 p2).bind fun v1 => ((loop (fun (x116 : (Int × Int)) => ((bif (decide (x116.2 < (v1.length : Int))) then ((at' zLI v1 x116.2).bind fun v119 => ((loop (fun (x161 : (Int × Int)) => ((bif (decide (x161.2 < (v119.length : Int))) then ((at' zI v119 x161.2).bind fun v164 => ((X.i_blocksBetween p0 p1 p2 v164).bind fun v166 => (bif v166 then some (Sum.inl ((W (x161.1 + 1)), (W (x161.2 + 1)))) else some (Sum.inl (x161.1, (W (x161.2 + 1))))))) else some (Sum.inr x161.1)) : Option ((Int × Int) ⊕ Int))) (0, 0)).bind fun y169 => (bif (y169 == (v119.length : Int)) then some (Sum.inr (Sum.inr (2, x116.2))) else (bif (decide (y169 > 0)) then some (Sum.inl (1, (W (x116.2 + 1)))) else some (Sum.inl (x116.1, (W (x116.2 + 1)))))))) else some (Sum.inr (Sum.inl x116.1))) : Option ((Int × Int) ⊕ (Int ⊕ (Int × Int))))) (0, 0)).bind fun y173 => (Sum.elim (fun (y175 : Int) => some (y175, -1)) (fun (y176 : (Int × Int)) => some (y176.1, y176.2)) y173)))
theorem i_sightOf_ok (p0 : TBoard) (p1 : Int) (p2 : Int) (r : (Int × Int)) (H : X.i_sightOf p0 p1 p2 = some r) : FnOk Tryz.prog gl 222 [.agg (eTBoard p0), cI p1, cI p2] (.tup [(false, [.int .i64 r.1]), (false, [.int .i64 r.2])]) := by
 unfold X.i_sightOf at H
 refine fi Tryz.f222 i_sightOf_ir [(6, cI r.1), (7, cI r.2)] [] glL Tryz.func222 ?_
 refine so [] [] [(1, cI p1), (2, cI p2), (3, pk 3)] [(3, va (eTBoard p0))] id ?_
 refine so [] [] [(1, cI p1), (2, cI p2), (3, pk 3), (8, cI 0)] [(3, va (eTBoard p0))] id ?_
 refine seq_in ?_
 obtain ⟨v1, h2, H⟩ := ofBind H
 refine so [.res (dc 1 eLI zLI v1)] [] [(1, cI p1), (2, cI p2), (3, pk 3), (8, cI 0), (17, dc 1 eLI zLI v1), (18, cL v1), (19, cI 0)] [(3, va (eTBoard p0))] (fun t => aI (i_sightCells_ok p0 p1 p2 v1 h2) (lI v1 (t))) ?_
 refine ends_blk ?_
 obtain ⟨y173, h174, H⟩ := ofBind H
 refine loop_in (fun (x : (Int × Int)) => lit [(1, cI p1), (2, cI p2), (3, pk 3), (8, cI x.1), (17, dc 1 eLI zLI v1), (18, cL v1), (19, cI x.2)] [(3, va (eTBoard p0))]) (orJ (fun (z : Int) => At (.exit 0) (lit [(8, cI z)] [])) (fun (z : (Int × Int)) => At .ret (lit [(6, cI z.1), (7, cI z.2)] []))) h174 ?_ ?_
 ·clear H h174
  intro x116 y0 H
  refine so [] [] [(1, cI p1), (2, cI p2), (3, pk 3), (8, cI x116.1), (17, dc 1 eLI zLI v1), (18, cL v1), (19, cI x116.2), (20, cB (decide (x116.2 < (v1.length : Int))))] [(3, va (eTBoard p0))] id ?_
  refine seq_in ?_
  rcases ofCond H with ⟨c118, H⟩ | ⟨c118, H⟩
  ·refine it c118 ?_
   refine sk ?_
   refine seq_in ?_
   refine ends_blk ?_
   obtain ⟨v119, h120, H⟩ := ofBind H
   refine so [.cs (eLI v119)] [] [(1, cI p1), (2, cI p2), (3, pk 3), (8, cI x116.1), (9, cI x116.2), (10, dc 1 eI zI v119), (17, dc 1 eLI zLI v1), (18, cL v1), (19, cI x116.2)] [(3, va (eTBoard p0))] (a2 eLI h120) ?_
   refine so [] [] [(1, cI p1), (2, cI p2), (3, pk 3), (8, cI x116.1), (9, cI x116.2), (10, dc 1 eI zI v119), (11, cI 0), (17, dc 1 eLI zLI v1), (18, cL v1), (19, cI x116.2)] [(3, va (eTBoard p0))] id ?_
   refine seq_in ?_
   refine so [] [] [(1, cI p1), (2, cI p2), (3, pk 3), (8, cI x116.1), (9, cI x116.2), (10, dc 1 eI zI v119), (11, cI 0), (17, dc 1 eLI zLI v1), (18, cL v1), (19, cI x116.2), (24, dc 1 eI zI v119), (25, cL v119), (26, cI 0)] [(3, va (eTBoard p0))] (fun t => lI v119 (t)) ?_
   refine ends_blk ?_
   obtain ⟨y169, h170, H⟩ := ofBind H
   refine loop_in (fun (x : (Int × Int)) => lit [(1, cI p1), (2, cI p2), (3, pk 3), (8, cI x116.1), (9, cI x116.2), (10, dc 1 eI zI v119), (11, cI x.1), (17, dc 1 eLI zLI v1), (18, cL v1), (19, cI x116.2), (24, dc 1 eI zI v119), (25, cL v119), (26, cI x.2)] [(3, va (eTBoard p0))]) (fun (z : Int) => At (.exit 2) (lit [(1, cI p1), (2, cI p2), (3, pk 3), (8, cI x116.1), (9, cI x116.2), (10, dc 1 eI zI v119), (11, cI z), (17, dc 1 eLI zLI v1), (18, cL v1), (19, cI x116.2)] [(3, va (eTBoard p0))])) h170 ?_ ?_
   ·clear H h170
    intro x161 y0 H
    refine so [] [] [(1, cI p1), (2, cI p2), (3, pk 3), (8, cI x116.1), (9, cI x116.2), (10, dc 1 eI zI v119), (11, cI x161.1), (17, dc 1 eLI zLI v1), (18, cL v1), (19, cI x116.2), (24, dc 1 eI zI v119), (25, cL v119), (26, cI x161.2), (27, cB (decide (x161.2 < (v119.length : Int))))] [(3, va (eTBoard p0))] id ?_
    refine seq_in ?_
    rcases ofCond H with ⟨c163, H⟩ | ⟨c163, H⟩
    ·refine it c163 ?_
     refine sk ?_
     refine seq_in ?_
     refine ends_blk ?_
     obtain ⟨v164, h165, H⟩ := ofBind H
     refine so [.cs (eI v164)] [] [(1, cI p1), (2, cI p2), (3, pk 3), (8, cI x116.1), (9, cI x116.2), (10, dc 1 eI zI v119), (11, cI x161.1), (13, cI v164), (17, dc 1 eLI zLI v1), (18, cL v1), (19, cI x116.2), (24, dc 1 eI zI v119), (25, cL v119), (26, cI x161.2)] [(3, va (eTBoard p0))] (a2 eI h165) ?_
     obtain ⟨v166, h167, H⟩ := ofBind H
     refine so [.res (cB v166)] [] [(1, cI p1), (2, cI p2), (3, pk 3), (8, cI x116.1), (9, cI x116.2), (10, dc 1 eI zI v119), (11, cI x161.1), (17, dc 1 eLI zLI v1), (18, cL v1), (19, cI x116.2), (24, dc 1 eI zI v119), (25, cL v119), (26, cI x161.2), (34, cB v166)] [(3, va (eTBoard p0))] (aI (i_blocksBetween_ok p0 p1 p2 v164 v166 h167)) ?_
     rcases ofCond H with ⟨c168, H⟩ | ⟨c168, H⟩
     ·refine it c168 ?_
      refine oo [] [] [(1, cI p1), (2, cI p2), (3, pk 3), (8, cI x116.1), (9, cI x116.2), (10, dc 1 eI zI v119), (11, cI (W (x161.1 + 1))), (17, dc 1 eLI zLI v1), (18, cL v1), (19, cI x116.2), (24, dc 1 eI zI v119), (25, cL v119), (26, cI x161.2)] [(3, va (eTBoard p0))] id ?_
      change EndsI _ _ _ _ _ _
      refine oo [] [] [(1, cI p1), (2, cI p2), (3, pk 3), (8, cI x116.1), (9, cI x116.2), (10, dc 1 eI zI v119), (11, cI (W (x161.1 + 1))), (17, dc 1 eLI zLI v1), (18, cL v1), (19, cI x116.2), (24, dc 1 eI zI v119), (25, cL v119), (26, cI (W (x161.2 + 1)))] [(3, va (eTBoard p0))] id ?_
      cases H
      exact And.intro rfl rfl
     ·refine jf c168 ?_
      refine sk ?_
      refine oo [] [] [(1, cI p1), (2, cI p2), (3, pk 3), (8, cI x116.1), (9, cI x116.2), (10, dc 1 eI zI v119), (11, cI x161.1), (17, dc 1 eLI zLI v1), (18, cL v1), (19, cI x116.2), (24, dc 1 eI zI v119), (25, cL v119), (26, cI (W (x161.2 + 1)))] [(3, va (eTBoard p0))] id ?_
      cases H
      exact And.intro rfl rfl
    ·refine jf c163 ?_
     refine tl [] [(1, cI p1), (2, cI p2), (3, pk 3), (8, cI x116.1), (9, cI x116.2), (10, dc 1 eI zI v119), (11, cI x161.1), (17, dc 1 eLI zLI v1), (18, cL v1), (19, cI x116.2)] [(3, va (eTBoard p0))] id ?_
     refine ends_exit ?_
     cases H
     exact And.intro (by simp) (And.intro rfl rfl)
   ·clear h170
    intro e s q
    obtain ⟨rfl, rfl⟩ := q
    change EndsI _ _ _ _ _ _
    refine seq_in ?_
    refine so [] [] [(1, cI p1), (2, cI p2), (3, pk 3), (8, cI x116.1), (9, cI x116.2), (11, cI y169), (17, dc 1 eLI zLI v1), (18, cL v1), (19, cI x116.2), (41, cB (y169 == (v119.length : Int)))] [(3, va (eTBoard p0))] (fun t => lI v119 (t)) ?_
    rcases ofCond H with ⟨c171, H⟩ | ⟨c171, H⟩
    ·refine it c171 ?_
     refine so [] [] [(6, cI 2), (7, cI x116.2)] [] id ?_
     refine ends_ret ?_
     cases H
     exact And.intro (by simp) (And.intro rfl rfl)
    ·refine jf c171 ?_
     refine sk ?_
     refine so [] [] [(1, cI p1), (2, cI p2), (3, pk 3), (8, cI x116.1), (17, dc 1 eLI zLI v1), (18, cL v1), (19, cI x116.2), (44, cB (decide (y169 > 0)))] [(3, va (eTBoard p0))] id ?_
     rcases ofCond H with ⟨c172, H⟩ | ⟨c172, H⟩
     ·refine it c172 ?_
      refine oo [] [] [(1, cI p1), (2, cI p2), (3, pk 3), (8, cI 1), (17, dc 1 eLI zLI v1), (18, cL v1), (19, cI x116.2)] [(3, va (eTBoard p0))] id ?_
      change EndsI _ _ _ _ _ _
      refine oo [] [] [(1, cI p1), (2, cI p2), (3, pk 3), (8, cI 1), (17, dc 1 eLI zLI v1), (18, cL v1), (19, cI (W (x116.2 + 1)))] [(3, va (eTBoard p0))] id ?_
      cases H
      exact And.intro rfl rfl
     ·refine jf c172 ?_
      refine sk ?_
      refine oo [] [] [(1, cI p1), (2, cI p2), (3, pk 3), (8, cI x116.1), (17, dc 1 eLI zLI v1), (18, cL v1), (19, cI (W (x116.2 + 1)))] [(3, va (eTBoard p0))] id ?_
      cases H
      exact And.intro rfl rfl
  ·refine jf c118 ?_
   refine tl [] [(8, cI x116.1)] [] id ?_
   refine ends_exit ?_
   cases H
   exact And.intro (by simp) (And.intro rfl rfl)
 ·clear h174
  cases y173 with
  | inl y175 =>
   replace H := ofInl H
   intro e s q
   obtain ⟨rfl, rfl⟩ := q
   change EndsI _ _ _ _ _ _
   refine so [] [] [(6, cI y175), (7, cI (-1))] [] id ?_
   refine ends_ret ?_
   cases H
   exact And.intro (.inl rfl) rfl
  | inr y176 =>
   replace H := ofInr H
   intro e s q
   obtain ⟨rfl, rfl⟩ := q
   cases H
   exact And.intro (.inl rfl) rfl
def i_inSight_ir : S :=
 (sq [o 4 (.box 12 (.t 0)), o 8 (.mv (.v (.nil)))]
 (sq [o 13 (.bsl 1 []), om 9 13]
 (.seq (sq [o 14 (.fad 7 (.t 4)), o 15 (.fad 2 (.t 14)), o 16 (.load 1 false (.t 15)), o 17 (.len (.t 16)), o 18 (.mv (iv 0))]
 (.blk 0 (.loop (sq [o 19 (.bin .lss (.t 18) (.t 17))]
   (.seq (.ite (.t 19) .skip
   (.exit 0))
   (.seq (.blk 1 (sq [om 20 18, om 10 20]
    (.seq (.seq (.draw 11 [o 21 (.fad 7 (.t 4)), o 22 (.load 5 true (.t 21)), om 23 1, o 24 (.call 184 [.t 22, .t 23]), o 25 (.fad 7 (.t 4)), o 26 (.load 5 true (.t 25)), om 27 10, o 28 (.call 184 [.t 26, .t 27]), o 29 (.call 221 [.t 24, .t 28]), om 30 2, o 31 (.bin .gtr (.t 29) (.t 30))])
    (.ite (.t 31) (.exit 1)
    .skip))
    (sq [o 33 (.load 12 true (.t 4)), om 34 1, om 35 10, o 36 (.call 222 [.t 33, .t 34, .t 35]), om 32 36, o 37 (.ext (.t 32) 0), o 38 (.ext (.t 32) 1), om 11 37, om 12 38]
    (sq [om 39 11, om 40 3, o 41 (.bin .leq (.t 39) (.t 40))]
    (.ite (.t 41) (.ops [om 42 9, om 43 10, o 44 (.bsl 1 [.t 43]), o 45 (.app 1 8 (.t 42) (.t 44)), om 9 45])
    .skip))))))
   (.ops [o 46 (.bin .add (.t 18) (iv 1)), om 18 46])))))))
 (sq [om 47 9, om 8 47]
 .ret))))
noncomputable def X.i_inSight (p0 : TBoard) (p1 : Int) (p2 : Int) (p3 : Int) : Option (List Int) :=
 ((loop (fun (x42 : (Int × (List Int))) => ((bif (decide (x42.1 < (p0.Map.Terrain.length : Int))) then ((X.i_hexOf p0.Map p1).bind fun v52 => ((X.i_hexOf p0.Map x42.1).bind fun v54 => ((X.i_distance v52 v54).bind fun v56 => (bif (decide (v56 > p2)) then some (Sum.inl ((W (x42.1 + 1)), x42.2)) else ((X.i_sightOf p0 p1 x42.1).bind fun v59 => (bif (decide (v59.1 ≤ p3)) then (if (x42.2 ++ ([x42.1] : List Int)).length ≤ LIM then some (Sum.inl ((W (x42.1 + 1)), (x42.2 ++ ([x42.1] : List Int)))) else none) else some (Sum.inl ((W (x42.1 + 1)), x42.2)))))))) else some (Sum.inr x42.2)) : Option ((Int × (List Int)) ⊕ (List Int)))) (0, ([] : List Int))).bind fun y63 => some y63)
theorem i_inSight_ok (p0 : TBoard) (p1 : Int) (p2 : Int) (p3 : Int) (r : (List Int)) (H : X.i_inSight p0 p1 p2 p3 = some r) : FnOk Tryz.prog gl 208 [.agg (eTBoard p0), cI p1, cI p2, cI p3] (.c (dat 1 eI zI r)) := by
 unfold X.i_inSight at H
 refine fi Tryz.f208 i_inSight_ir [(8, dc 1 eI zI r)] [] glL Tryz.func208 ?_
 refine so [] [] [(1, cI p1), (2, cI p2), (3, cI p3), (4, pk 4)] [(4, va (eTBoard p0))] id ?_
 refine so [fh eI zI ([] : List Int)] [] [(1, cI p1), (2, cI p2), (3, cI p3), (4, pk 4), (9, ow 13 1 ([] : List Int))] [(4, va (eTBoard p0)), (13, ar 1 eI zI ([] : List Int))] (fun t => aI (rfl : ([] : List Int).length = 0) (aI (fF_lit eI zI ([] : List Int)) (t))) ?_
 refine seq_in ?_
 refine so [] [] [(1, cI p1), (2, cI p2), (3, cI p3), (4, pk 4), (9, ow 13 1 ([] : List Int)), (17, cL p0.Map.Terrain), (18, cI 0)] [(4, va (eTBoard p0)), (13, ar 1 eI zI ([] : List Int))] (fun t => lI p0.Map.Terrain (t)) ?_
 refine ends_blk ?_
 obtain ⟨y63, h64, H⟩ := ofBind H
 refine tl [.ren 13 1001] [(1, cI p1), (2, cI p2), (3, cI p3), (4, pk 4), (9, ow 1001 1 ([] : List Int)), (17, cL p0.Map.Terrain), (18, cI 0)] [(4, va (eTBoard p0)), (1001, ar 1 eI zI ([] : List Int))] id ?_
 refine loop_in (fun (x : (Int × (List Int))) => lit [(1, cI p1), (2, cI p2), (3, cI p3), (4, pk 4), (9, ow 1001 1 x.2), (17, cL p0.Map.Terrain), (18, cI x.1)] [(4, va (eTBoard p0)), (1001, ar 1 eI zI x.2)]) (fun (z : (List Int)) => At (.exit 0) (lit [(9, ow 1001 1 z)] [(1001, ar 1 eI zI z)])) h64 ?_ ?_
 ·clear H h64
  intro x42 y0 H
  refine so [] [] [(1, cI p1), (2, cI p2), (3, cI p3), (4, pk 4), (9, ow 1001 1 x42.2), (17, cL p0.Map.Terrain), (18, cI x42.1), (19, cB (decide (x42.1 < (p0.Map.Terrain.length : Int))))] [(4, va (eTBoard p0)), (1001, ar 1 eI zI x42.2)] id ?_
  refine seq_in ?_
  rcases ofCond H with ⟨c44, H⟩ | ⟨c44, H⟩
  ·refine it c44 ?_
   refine sk ?_
   refine seq_in ?_
   refine ends_blk ?_
   refine so [] [] [(1, cI p1), (2, cI p2), (3, cI p3), (4, pk 4), (9, ow 1001 1 x42.2), (10, cI x42.1), (17, cL p0.Map.Terrain), (18, cI x42.1)] [(4, va (eTBoard p0)), (1001, ar 1 eI zI x42.2)] id ?_
   refine seq_in ?_
   obtain ⟨v52, h53, H⟩ := ofBind H
   obtain ⟨v54, h55, H⟩ := ofBind H
   obtain ⟨v56, h57, H⟩ := ofBind H
   refine sd [.res (.agg (eTHex v52)), .res (.agg (eTHex v54)), .res (cI v56)] [] [(1, cI p1), (2, cI p2), (3, cI p3), (4, pk 4), (9, ow 1001 1 x42.2), (10, cI x42.1), (17, cL p0.Map.Terrain), (18, cI x42.1), (31, cB (decide (v56 > p2)))] [(4, va (eTBoard p0)), (1001, ar 1 eI zI x42.2)] (fun t => aI (i_hexOf_ok p0.Map p1 v52 h53) (aI trivial (aI (rfl : ([] : List Nat) = []) (aI (i_hexOf_ok p0.Map x42.1 v54 h55) (aI trivial (aI (rfl : ([] : List Nat) = []) (aI (i_distance_ok v52 v54 v56 h57) (aI trivial (aI (rfl : ([] : List Nat) = []) (t)))))))))) ?_
   rcases ofCond H with ⟨c58, H⟩ | ⟨c58, H⟩
   ·refine it c58 ?_
    refine ends_exit ?_
    change EndsI _ _ _ _ _ _
    refine oo [] [] [(1, cI p1), (2, cI p2), (3, cI p3), (4, pk 4), (9, ow 1001 1 x42.2), (17, cL p0.Map.Terrain), (18, cI (W (x42.1 + 1)))] [(4, va (eTBoard p0)), (1001, ar 1 eI zI x42.2)] id ?_
    cases H
    exact And.intro rfl rfl
   ·refine jf c58 ?_
    refine sk ?_
    obtain ⟨v59, h60, H⟩ := ofBind H
    refine so [.res (.tup [(false, [.int .i64 v59.1]), (false, [.int .i64 v59.2])])] [] [(1, cI p1), (2, cI p2), (3, cI p3), (4, pk 4), (9, ow 1001 1 x42.2), (10, cI x42.1), (11, cI v59.1), (17, cL p0.Map.Terrain), (18, cI x42.1)] [(4, va (eTBoard p0)), (1001, ar 1 eI zI x42.2)] (aI (i_sightOf_ok p0 p1 x42.1 v59 h60)) ?_
    refine so [] [] [(1, cI p1), (2, cI p2), (3, cI p3), (4, pk 4), (9, ow 1001 1 x42.2), (10, cI x42.1), (17, cL p0.Map.Terrain), (18, cI x42.1), (41, cB (decide (v59.1 ≤ p3)))] [(4, va (eTBoard p0)), (1001, ar 1 eI zI x42.2)] id ?_
    rcases ofCond H with ⟨c61, H⟩ | ⟨c61, H⟩
    ·refine it c61 ?_
     obtain ⟨g62, H⟩ := ofIf H
     refine oo [fh eI zI ([x42.1] : List Int), fh eI zI (x42.2 ++ ([x42.1] : List Int))] [] [(1, cI p1), (2, cI p2), (3, cI p3), (4, pk 4), (9, ow 45 1 (x42.2 ++ ([x42.1] : List Int))), (17, cL p0.Map.Terrain), (18, cI x42.1)] [(4, va (eTBoard p0)), (45, ar 1 eI zI (x42.2 ++ ([x42.1] : List Int)))] (fun t => aI (rfl : ([x42.1] : List Int).length = 1) (aI (fF_lit eI zI ([x42.1] : List Int)) (aI (And.intro (Nat.le_refl x42.2.length) (And.intro (@List.length_append _ x42.2 ([x42.1] : List Int)) g62)) (aI (fF_appL eI zI x42.2 ([x42.1] : List Int)) (aI (fF_appR eI zI x42.2 ([x42.1] : List Int)) (t)))))) ?_
     change EndsI _ _ _ _ _ _
     refine oo [] [.ren 45 1001] [(1, cI p1), (2, cI p2), (3, cI p3), (4, pk 4), (9, ow 1001 1 (x42.2 ++ ([x42.1] : List Int))), (17, cL p0.Map.Terrain), (18, cI (W (x42.1 + 1)))] [(4, va (eTBoard p0)), (1001, ar 1 eI zI (x42.2 ++ ([x42.1] : List Int)))] id ?_
     cases H
     exact And.intro rfl rfl
    ·refine jf c61 ?_
     refine sk ?_
     refine oo [] [] [(1, cI p1), (2, cI p2), (3, cI p3), (4, pk 4), (9, ow 1001 1 x42.2), (17, cL p0.Map.Terrain), (18, cI (W (x42.1 + 1)))] [(4, va (eTBoard p0)), (1001, ar 1 eI zI x42.2)] id ?_
     cases H
     exact And.intro rfl rfl
  ·refine jf c44 ?_
   refine tl [] [(9, ow 1001 1 x42.2)] [(1001, ar 1 eI zI x42.2)] id ?_
   refine ends_exit ?_
   cases H
   exact And.intro (by simp) (And.intro rfl rfl)
 ·clear h64
  intro e s q
  obtain ⟨rfl, rfl⟩ := q
  change EndsI _ _ _ _ _ _
  refine so [] [] [(8, ow 1001 1 y63)] [(1001, ar 1 eI zI y63)] id ?_
  refine tl [.frz 8] [(8, dc 1 eI zI y63)] [] (aI (Nat.le_refl y63.length)) ?_
  refine ends_ret ?_
  cases H
  exact And.intro (.inl rfl) rfl
def i_seenBy_ir : S :=
 (sq [o 3 (.box 12 (.t 0)), o 6 (.mv (.v (.nil)))]
 (.seq (.draw 11 [o 7 (.load 12 true (.t 3)), om 8 2, o 9 (.fad 0 (.t 3)), o 10 (.fad 1 (.t 9)), o 11 (.load 1 false (.t 10)), om 12 1, o 13 (.iad 6 (.t 11) (.t 12)), o 14 (.fad 5 (.t 13)), o 15 (.load 1 false (.t 14)), o 16 (.call 208 [.t 7, .t 8, .t 15, .v (.int .i64 1)]), om 6 16])
 .ret))
noncomputable def X.i_seenBy (p0 : TBoard) (p1 : Int) (p2 : Int) : Option (List Int) :=
 ((at' zTKind p0.Rules.Kinds p1).bind fun v1 => ((X.i_inSight p0 p2 v1.View 1).bind fun v3 => some v3))
theorem i_seenBy_ok (p0 : TBoard) (p1 : Int) (p2 : Int) (r : (List Int)) (H : X.i_seenBy p0 p1 p2 = some r) : FnOk Tryz.prog gl 172 [.agg (eTBoard p0), cI p1, cI p2] (.c (dat 1 eI zI r)) := by
 unfold X.i_seenBy at H
 refine fi Tryz.f172 i_seenBy_ir [(6, dc 1 eI zI r)] [] glL Tryz.func172 ?_
 refine so [] [] [(1, cI p1), (2, cI p2), (3, pk 3)] [(3, va (eTBoard p0))] id ?_
 obtain ⟨v1, h2, H⟩ := ofBind H
 obtain ⟨v3, h4, H⟩ := ofBind H
 refine sd [.cs (eTKind v1), .res (dc 1 eI zI v3)] [] [(6, dc 1 eI zI v3)] [] (fun t => (a2 eTKind h2 (aI (rfl : ([] : List Nat) = []) (aI (i_inSight_ok p0 p2 v1.View 1 v3 h4) (aI (rfl : ([] : List Nat) = []) (aI (rfl : ([] : List Nat) = []) (t))))))) ?_
 refine ends_ret ?_
 cases H
 exact And.intro (.inl rfl) rfl
def i_spots_ir : S :=
 (sq [o 2 (.box 12 (.t 0)), o 3 (.box 4 (.t 1)), o 4 (.mv (.v (.nil)))]
 (sq [o 8 (.load 12 true (.t 2)), o 9 (.call 116 [.t 8]), o 10 (.msl 1 1 [.bool false] (.t 9)), om 5 10]
 (.seq (sq [o 11 (.fad 2 (.t 3)), o 12 (.load 1 false (.t 11)), o 13 (.bin .geq (.t 12) (iv 0))]
 (.ite (.t 13) (sq [o 14 (.load 12 true (.t 2)), o 15 (.fad 1 (.t 3)), o 16 (.load 1 false (.t 15)), o 17 (.fad 2 (.t 3)), o 18 (.load 1 false (.t 17)), o 19 (.call 172 [.t 14, .t 16, .t 18]), o 20 (.len (.t 19)), o 21 (.mv (iv 0))]
  (.blk 0 (.loop (sq [o 22 (.bin .lss (.t 21) (.t 20))]
    (.seq (.ite (.t 22) .skip
    (.exit 0))
    (.seq (.blk 1 (sq [o 23 (.iad 1 (.t 19) (.t 21)), o 24 (.load 1 false (.t 23)), om 7 24]
     (.ops [om 25 5, om 26 7, o 27 (.iad 1 (.t 25) (.t 26)), ⟨none, .store 1 (.t 27) (.v (.bool true)), none⟩])))
    (.ops [o 28 (.bin .add (.t 21) (iv 1)), om 21 28])))))))
 .skip))
 (sq [om 29 5, om 4 29]
 .ret))))
noncomputable def X.i_spots (p0 : TBoard) (p1 : TUnit) : Option (List Bool) :=
 ((X.i_sizeOf p0).bind fun v1 => (if 0 ≤ v1 ∧ v1.toNat ≤ LIM then (bif (decide (p1.At ≥ 0)) then ((X.i_seenBy p0 p1.Kind p1.At).bind fun v5 => ((loop (fun (x18 : (Int × (List Bool))) => ((bif (decide (x18.1 < (v5.length : Int))) then ((at' zI v5 x18.1).bind fun v21 => (if 0 ≤ v21 ∧ v21 < (x18.2.length : Int) then some (Sum.inl ((W (x18.1 + 1)), (x18.2.set v21.toNat true))) else none)) else some (Sum.inr x18.2)) : Option ((Int × (List Bool)) ⊕ (List Bool)))) (0, (List.replicate v1.toNat zB))).bind fun y24 => some y24)) else some (List.replicate v1.toNat zB)) else none))
theorem i_spots_ok (p0 : TBoard) (p1 : TUnit) (r : (List Bool)) (H : X.i_spots p0 p1 = some r) : FnOk Tryz.prog gl 117 [.agg (eTBoard p0), .agg (eTUnit p1)] (.c (dat 1 eB zB r)) := by
 unfold X.i_spots at H
 refine fi Tryz.f117 i_spots_ir [(4, dc 1 eB zB r)] [] glL Tryz.func117 ?_
 refine so [] [] [(2, pk 2), (3, pk 3)] [(2, va (eTBoard p0)), (3, va (eTUnit p1))] id ?_
 obtain ⟨v1, h2, H⟩ := ofBind H
 obtain ⟨g3, H⟩ := ofIf H
 refine so [.res (cI v1), fh eB zB (List.replicate v1.toNat zB)] [] [(2, pk 2), (3, pk 3), (5, ow 10 1 (List.replicate v1.toNat zB))] [(2, va (eTBoard p0)), (3, va (eTUnit p1)), (10, ar 1 eB zB (List.replicate v1.toNat zB))] (fun t => aI (i_sizeOf_ok p0 v1 h2) (aI (And.intro g3.1 (And.intro (List.length_replicate (n := v1.toNat) (a := zB)).symm (Nat.le_trans (Nat.le_of_eq List.length_replicate) g3.2 : (List.replicate v1.toNat zB).length ≤ LIM))) (aI (fF_rep eB zB zB v1.toNat) (t)))) ?_
 refine seq_in ?_
 refine so [] [] [(2, pk 2), (3, pk 3), (5, ow 10 1 (List.replicate v1.toNat zB)), (13, cB (decide (p1.At ≥ 0)))] [(2, va (eTBoard p0)), (3, va (eTUnit p1)), (10, ar 1 eB zB (List.replicate v1.toNat zB))] id ?_
 rcases ofCond H with ⟨c4, H⟩ | ⟨c4, H⟩
 ·refine it c4 ?_
  obtain ⟨v5, h6, H⟩ := ofBind H
  refine so [.res (dc 1 eI zI v5)] [] [(5, ow 10 1 (List.replicate v1.toNat zB)), (19, dc 1 eI zI v5), (20, cL v5), (21, cI 0)] [(10, ar 1 eB zB (List.replicate v1.toNat zB))] (fun t => aI (i_seenBy_ok p0 p1.Kind p1.At v5 h6) (lI v5 (t))) ?_
  refine ends_blk ?_
  obtain ⟨y24, h25, H⟩ := ofBind H
  refine loop_in (fun (x : (Int × (List Bool))) => lit [(5, ow 10 1 x.2), (19, dc 1 eI zI v5), (20, cL v5), (21, cI x.1)] [(10, ar 1 eB zB x.2)]) (fun (z : (List Bool)) => At (.exit 0) (lit [(5, ow 10 1 z)] [(10, ar 1 eB zB z)])) h25 ?_ ?_
  ·clear H h25
   intro x18 y0 H
   refine so [] [] [(5, ow 10 1 x18.2), (19, dc 1 eI zI v5), (20, cL v5), (21, cI x18.1), (22, cB (decide (x18.1 < (v5.length : Int))))] [(10, ar 1 eB zB x18.2)] id ?_
   refine seq_in ?_
   rcases ofCond H with ⟨c20, H⟩ | ⟨c20, H⟩
   ·refine it c20 ?_
    refine sk ?_
    refine seq_in ?_
    refine ends_blk ?_
    obtain ⟨v21, h22, H⟩ := ofBind H
    refine so [.cs (eI v21)] [] [(5, ow 10 1 x18.2), (7, cI v21), (19, dc 1 eI zI v5), (20, cL v5), (21, cI x18.1)] [(10, ar 1 eB zB x18.2)] (a2 eI h22) ?_
    obtain ⟨g23, H⟩ := ofIf H
    refine oo [.no, .fn 0 (fF eB zB (x18.2.set v21.toNat true))] [] [(5, ow 10 1 x18.2), (19, dc 1 eI zI v5), (20, cL v5), (21, cI x18.1)] [(10, .arr 1 x18.2.length (fF eB zB (x18.2.set v21.toNat true)) false)] (fun t => aI g23 (aI (rfl : true = true) (aI (nat_lt g23) (aI (by decide : 0 + 1 ≤ 1) (aI (fF_set eB zB x18.2 v21.toNat true (nat_lt g23) x18.2.length) (t)))))) ?_
    change EndsI _ _ _ _ _ _
    refine oo [] [.rel 5 ((x18.2.set v21.toNat true).length), .rep 10 ((x18.2.set v21.toNat true).length) (fF eB zB (x18.2.set v21.toNat true))] [(5, ow 10 1 (x18.2.set v21.toNat true)), (19, dc 1 eI zI v5), (20, cL v5), (21, cI (W (x18.1 + 1)))] [(10, ar 1 eB zB (x18.2.set v21.toNat true))] (fun t => aI (by simp : x18.2.length = (x18.2.set v21.toNat true).length) (aI (Nat.le_of_eq (by simp : (x18.2.set v21.toNat true).length = x18.2.length)) (aI (fun _ _ => rfl : ∀ i, i < (x18.2.set v21.toNat true).length → (fF eB zB (x18.2.set v21.toNat true)) i = (fF eB zB (x18.2.set v21.toNat true)) i) (t)))) ?_
    cases H
    exact And.intro rfl rfl
   ·refine jf c20 ?_
    refine tl [] [(5, ow 10 1 x18.2)] [(10, ar 1 eB zB x18.2)] id ?_
    refine ends_exit ?_
    cases H
    exact And.intro (by simp) (And.intro rfl rfl)
  ·clear h25
   intro e s q
   obtain ⟨rfl, rfl⟩ := q
   change EndsI _ _ _ _ _ _
   refine so [] [] [(4, ow 10 1 y24)] [(10, ar 1 eB zB y24)] id ?_
   refine tl [.frz 4] [(4, dc 1 eB zB y24)] [] (aI (Nat.le_refl y24.length)) ?_
   refine ends_ret ?_
   cases H
   exact And.intro (.inl rfl) rfl
 ·refine jf c4 ?_
  refine sk ?_
  refine so [] [] [(4, ow 10 1 (List.replicate v1.toNat zB))] [(10, ar 1 eB zB (List.replicate v1.toNat zB))] id ?_
  refine tl [.frz 4] [(4, .c (dat 1 eB zB (List.replicate v1.toNat zB)))] [] (aI (Nat.le_refl ((List.replicate v1.toNat zB).length))) ?_
  refine ends_ret ?_
  cases H
  exact And.intro (.inl rfl) rfl
def i_SpottersOf_ir : S :=
 (sq [o 4 (.box 12 (.t 0)), o 5 (.box 3 (.t 1)), o 8 (.mv (.v (.nil))), o 9 (.mv (.v (.bool false)))]
 (.seq (sq [o 13 (.load 12 true (.t 4)), o 14 (.load 3 true (.t 5)), om 15 2, o 16 (.call 67 [.t 13, .t 14, .t 15]), o 17 (.not (.t 16)), om 18 17, ⟨some 19, .mv (.t 3), some (18, false)⟩, ⟨some 20, .load 12 true (.t 4), some (18, false)⟩, ⟨some 21, .call 116 [.t 20], some (18, false)⟩, ⟨some 22, .call 115 [.t 19, .t 21], some (18, false)⟩, ⟨some 23, .not (.t 22), some (18, false)⟩, o 24 (.pick (.t 18) (.v (.bool true)) (.t 23))]
 (.ite (.t 24) (sq [o 8 (.mv (.v (.nil))), o 9 (.mv (.v (.bool false)))]
  .ret)
 .skip))
 (sq [o 25 (.bsl 1 []), om 10 25]
 (.seq (sq [o 26 (.load 3 true (.t 5)), om 27 2, o 28 (.call 68 [.t 26, .t 27]), o 29 (.len (.t 28)), o 30 (.mv (iv 0))]
 (.blk 0 (.loop (sq [o 31 (.bin .lss (.t 30) (.t 29))]
   (.seq (.ite (.t 31) .skip
   (.exit 0))
   (.seq (.blk 1 (sq [o 32 (.iad 1 (.t 28) (.t 30)), o 33 (.load 1 false (.t 32)), om 12 33]
    (.seq (.draw 10 [o 34 (.load 12 true (.t 4)), o 35 (.fad 2 (.t 5)), o 36 (.load 1 false (.t 35)), om 37 12, o 38 (.iad 4 (.t 36) (.t 37)), o 39 (.load 4 true (.t 38)), o 40 (.call 117 [.t 34, .t 39]), om 41 3, o 42 (.iad 1 (.t 40) (.t 41)), o 43 (.load 1 false (.t 42))])
    (.ite (.t 43) (.ops [om 44 10, om 45 12, o 46 (.bsl 1 [.t 45]), o 47 (.app 1 8 (.t 44) (.t 46)), om 10 47])
    .skip))))
   (.ops [o 48 (.bin .add (.t 30) (iv 1)), om 30 48])))))))
 (sq [om 49 10, om 8 49, o 9 (.mv (.v (.bool true)))]
 .ret)))))
noncomputable def X.i_SpottersOf (p0 : TBoard) (p1 : TState) (p2 : Int) (p3 : Int) : Option ((List Int) × Bool) :=
 ((X.i_isLook p0 p1 p2).bind fun v9 => (bif (!v9) then some (([] : List Int), false) else ((X.i_sizeOf p0).bind fun v12 => ((X.i_isIndex p3 v12).bind fun v14 => (bif (!v14) then some (([] : List Int), false) else ((X.i_unitsOf p1 p2).bind fun v17 => ((loop (fun (x44 : (Int × (List Int))) => ((bif (decide (x44.1 < (v17.length : Int))) then ((at' zI v17 x44.1).bind fun v47 => ((at' zTUnit p1.Units v47).bind fun v49 => ((X.i_spots p0 v49).bind fun v51 => ((at' zB v51 p3).bind fun v53 => (bif v53 then (if (x44.2 ++ ([v47] : List Int)).length ≤ LIM then some (Sum.inl ((W (x44.1 + 1)), (x44.2 ++ ([v47] : List Int)))) else none) else some (Sum.inl ((W (x44.1 + 1)), x44.2))))))) else some (Sum.inr x44.2)) : Option ((Int × (List Int)) ⊕ (List Int)))) (0, ([] : List Int))).bind fun y57 => some (y57, true))))))))
theorem i_SpottersOf_ok (p0 : TBoard) (p1 : TState) (p2 : Int) (p3 : Int) (r : ((List Int) × Bool)) (H : X.i_SpottersOf p0 p1 p2 p3 = some r) : FnOk Tryz.prog gl 52 [.agg (eTBoard p0), .agg (eTState p1), cI p2, cI p3] (.tup [(false, [dat 1 eI zI r.1]), (false, [.bool r.2])]) := by
 unfold X.i_SpottersOf at H
 refine fi Tryz.f52 i_SpottersOf_ir [(8, dc 1 eI zI r.1), (9, cB r.2)] [] glL Tryz.func52 ?_
 refine so [] [] [(2, cI p2), (3, cI p3), (4, pk 4), (5, pk 5)] [(4, va (eTBoard p0)), (5, va (eTState p1))] id ?_
 refine seq_in ?_
 obtain ⟨v9, h10, H⟩ := ofBind H
 rcases ofCond H with ⟨c11, H⟩ | ⟨c11, H⟩
 ·refine so [.res (cB v9), .g true, .g true, .g true, .g true, .g true, .g true] [] [(2, cI p2), (3, cI p3), (4, pk 4), (5, pk 5), (24, cB true)] [(4, va (eTBoard p0)), (5, va (eTState p1))] (fun t => aI (i_isLook_ok p0 p1 p2 v9 h10) (aI c11 (aI c11 (aI c11 (aI c11 (aI c11 (aI c11 (t)))))))) ?_
  refine it (rfl : (true : Bool) = true) ?_
  refine so [] [] [(8, .c (.nil)), (9, cB false)] [] id ?_
  refine tl [.nld 8 1 (fF eI zI ([] : List Int))] [(8, .c (dat 1 eI zI ([] : List Int))), (9, cB false)] [] id ?_
  refine ends_ret ?_
  cases H
  exact And.intro (.inl rfl) rfl
 ·obtain ⟨v12, h13, H⟩ := ofBind H
  obtain ⟨v14, h15, H⟩ := ofBind H
  refine so [.res (cB v9), .g false, .g false, .g false, .res (cI v12), .g false, .res (cB v14), .g false, .g false] [] [(2, cI p2), (3, cI p3), (4, pk 4), (5, pk 5), (24, cB (!v14))] [(4, va (eTBoard p0)), (5, va (eTState p1))] (fun t => aI (i_isLook_ok p0 p1 p2 v9 h10) (aI c11 (aI c11 (aI c11 (aI (i_sizeOf_ok p0 v12 h13) (aI c11 (aI (i_isIndex_ok p3 v12 v14 h15) (aI c11 (aI c11 (t)))))))))) ?_
  rcases ofCond H with ⟨c16, H⟩ | ⟨c16, H⟩
  ·refine it c16 ?_
   refine so [] [] [(8, .c (.nil)), (9, cB false)] [] id ?_
   refine tl [.nld 8 1 (fF eI zI ([] : List Int))] [(8, .c (dat 1 eI zI ([] : List Int))), (9, cB false)] [] id ?_
   refine ends_ret ?_
   cases H
   exact And.intro (.inl rfl) rfl
  ·refine jf c16 ?_
   refine sk ?_
   refine so [fh eI zI ([] : List Int)] [] [(2, cI p2), (3, cI p3), (4, pk 4), (5, pk 5), (10, ow 25 1 ([] : List Int))] [(4, va (eTBoard p0)), (5, va (eTState p1)), (25, ar 1 eI zI ([] : List Int))] (fun t => aI (rfl : ([] : List Int).length = 0) (aI (fF_lit eI zI ([] : List Int)) (t))) ?_
   refine seq_in ?_
   obtain ⟨v17, h18, H⟩ := ofBind H
   refine so [.res (dc 1 eI zI v17)] [] [(3, cI p3), (4, pk 4), (5, pk 5), (10, ow 25 1 ([] : List Int)), (28, dc 1 eI zI v17), (29, cL v17), (30, cI 0)] [(4, va (eTBoard p0)), (5, va (eTState p1)), (25, ar 1 eI zI ([] : List Int))] (fun t => aI (i_unitsOf_ok p1 p2 v17 h18) (lI v17 (t))) ?_
   refine ends_blk ?_
   obtain ⟨y57, h58, H⟩ := ofBind H
   refine tl [.ren 25 1001] [(3, cI p3), (4, pk 4), (5, pk 5), (10, ow 1001 1 ([] : List Int)), (28, dc 1 eI zI v17), (29, cL v17), (30, cI 0)] [(4, va (eTBoard p0)), (5, va (eTState p1)), (1001, ar 1 eI zI ([] : List Int))] id ?_
   refine loop_in (fun (x : (Int × (List Int))) => lit [(3, cI p3), (4, pk 4), (5, pk 5), (10, ow 1001 1 x.2), (28, dc 1 eI zI v17), (29, cL v17), (30, cI x.1)] [(4, va (eTBoard p0)), (5, va (eTState p1)), (1001, ar 1 eI zI x.2)]) (fun (z : (List Int)) => At (.exit 0) (lit [(10, ow 1001 1 z)] [(1001, ar 1 eI zI z)])) h58 ?_ ?_
   ·clear H h58
    intro x44 y0 H
    refine so [] [] [(3, cI p3), (4, pk 4), (5, pk 5), (10, ow 1001 1 x44.2), (28, dc 1 eI zI v17), (29, cL v17), (30, cI x44.1), (31, cB (decide (x44.1 < (v17.length : Int))))] [(4, va (eTBoard p0)), (5, va (eTState p1)), (1001, ar 1 eI zI x44.2)] id ?_
    refine seq_in ?_
    rcases ofCond H with ⟨c46, H⟩ | ⟨c46, H⟩
    ·refine it c46 ?_
     refine sk ?_
     refine seq_in ?_
     refine ends_blk ?_
     obtain ⟨v47, h48, H⟩ := ofBind H
     refine so [.cs (eI v47)] [] [(3, cI p3), (4, pk 4), (5, pk 5), (10, ow 1001 1 x44.2), (12, cI v47), (28, dc 1 eI zI v17), (29, cL v17), (30, cI x44.1)] [(4, va (eTBoard p0)), (5, va (eTState p1)), (1001, ar 1 eI zI x44.2)] (a2 eI h48) ?_
     obtain ⟨v49, h50, H⟩ := ofBind H
     obtain ⟨v51, h52, H⟩ := ofBind H
     obtain ⟨v53, h54, H⟩ := ofBind H
     refine sd [.cs (eTUnit v49), .res (dc 1 eB zB v51), .cs (eB v53)] [] [(3, cI p3), (4, pk 4), (5, pk 5), (10, ow 1001 1 x44.2), (12, cI v47), (28, dc 1 eI zI v17), (29, cL v17), (30, cI x44.1), (43, cB v53)] [(4, va (eTBoard p0)), (5, va (eTState p1)), (1001, ar 1 eI zI x44.2)] (fun t => (a2 eTUnit h50 (aI (rfl : ([] : List Nat) = []) (aI (i_spots_ok p0 v49 v51 h52) (aI (rfl : ([] : List Nat) = []) (aI (rfl : ([] : List Nat) = []) ((a2 eB h54 (aI (rfl : ([] : List Nat) = []) (t)))))))))) ?_
     rcases ofCond H with ⟨c55, H⟩ | ⟨c55, H⟩
     ·refine it c55 ?_
      obtain ⟨g56, H⟩ := ofIf H
      refine oo [fh eI zI ([v47] : List Int), fh eI zI (x44.2 ++ ([v47] : List Int))] [] [(3, cI p3), (4, pk 4), (5, pk 5), (10, ow 47 1 (x44.2 ++ ([v47] : List Int))), (28, dc 1 eI zI v17), (29, cL v17), (30, cI x44.1)] [(4, va (eTBoard p0)), (5, va (eTState p1)), (47, ar 1 eI zI (x44.2 ++ ([v47] : List Int)))] (fun t => aI (rfl : ([v47] : List Int).length = 1) (aI (fF_lit eI zI ([v47] : List Int)) (aI (And.intro (Nat.le_refl x44.2.length) (And.intro (@List.length_append _ x44.2 ([v47] : List Int)) g56)) (aI (fF_appL eI zI x44.2 ([v47] : List Int)) (aI (fF_appR eI zI x44.2 ([v47] : List Int)) (t)))))) ?_
      change EndsI _ _ _ _ _ _
      refine oo [] [.ren 47 1001] [(3, cI p3), (4, pk 4), (5, pk 5), (10, ow 1001 1 (x44.2 ++ ([v47] : List Int))), (28, dc 1 eI zI v17), (29, cL v17), (30, cI (W (x44.1 + 1)))] [(4, va (eTBoard p0)), (5, va (eTState p1)), (1001, ar 1 eI zI (x44.2 ++ ([v47] : List Int)))] id ?_
      cases H
      exact And.intro rfl rfl
     ·refine jf c55 ?_
      refine sk ?_
      refine oo [] [] [(3, cI p3), (4, pk 4), (5, pk 5), (10, ow 1001 1 x44.2), (28, dc 1 eI zI v17), (29, cL v17), (30, cI (W (x44.1 + 1)))] [(4, va (eTBoard p0)), (5, va (eTState p1)), (1001, ar 1 eI zI x44.2)] id ?_
      cases H
      exact And.intro rfl rfl
    ·refine jf c46 ?_
     refine tl [] [(10, ow 1001 1 x44.2)] [(1001, ar 1 eI zI x44.2)] id ?_
     refine ends_exit ?_
     cases H
     exact And.intro (by simp) (And.intro rfl rfl)
   ·clear h58
    intro e s q
    obtain ⟨rfl, rfl⟩ := q
    change EndsI _ _ _ _ _ _
    refine so [] [] [(8, ow 1001 1 y57), (9, cB true)] [(1001, ar 1 eI zI y57)] id ?_
    refine tl [.frz 8] [(8, dc 1 eI zI y57), (9, cB true)] [] (aI (Nat.le_refl y57.length)) ?_
    refine ends_ret ?_
    cases H
    exact And.intro (.inl rfl) rfl
theorem i_SpottersOf_Mdddd_ok (p0 : TBoard) (p1 : TState) (p2 : Int) (p3 : Int) (r : ((List Int) × Bool)) (H : X.i_SpottersOf p0 p1 p2 p3 = some r) : FnMu Tryz.prog gl 52 [.agg (eTBoard p0), .agg (eTState p1), cI p2, cI p3] [] (.tup [(false, [.own 900000 1 0 r.1.length]), (false, [.bool r.2])]) [(900000, .arr 1 r.1.length (fF eI zI r.1) false)] := by
 unfold X.i_SpottersOf at H
 refine fn_mu (fn := Tryz.f52) (ir := i_SpottersOf_ir) (E' := [(8, ow 900000 1 r.1), (9, cB r.2)]) (E1 := [(900000, ar 1 eI zI r.1)]) glL Tryz.func52 (by kernel_rfl) (by kernel_rfl) (by kernel_rfl) (by kernel_rfl) (by kernel_rfl) ?_
 refine so [] [] [(2, cI p2), (3, cI p3), (4, pk 4), (5, pk 5)] [(4, va (eTBoard p0)), (5, va (eTState p1))] id ?_
 refine seq_in ?_
 obtain ⟨v9, h10, H⟩ := ofBind H
 rcases ofCond H with ⟨c11, H⟩ | ⟨c11, H⟩
 ·refine so [.res (cB v9), .g true, .g true, .g true, .g true, .g true, .g true] [] [(2, cI p2), (3, cI p3), (4, pk 4), (5, pk 5), (24, cB true)] [(4, va (eTBoard p0)), (5, va (eTState p1))] (fun t => aI (i_isLook_ok p0 p1 p2 v9 h10) (aI c11 (aI c11 (aI c11 (aI c11 (aI c11 (aI c11 (t)))))))) ?_
  refine it (rfl : (true : Bool) = true) ?_
  refine so [] [] [(8, .c (.nil)), (9, cB false)] [] id ?_
  refine tl [.nlo 8 900000 1 (fF eI zI ([] : List Int))] [(8, ow 900000 1 ([] : List Int)), (9, cB false)] [(900000, ar 1 eI zI ([] : List Int))] (aI (by decide : 0 < 1)) ?_
  refine ends_ret ?_
  cases H
  exact And.intro (.inl rfl) rfl
 ·obtain ⟨v12, h13, H⟩ := ofBind H
  obtain ⟨v14, h15, H⟩ := ofBind H
  refine so [.res (cB v9), .g false, .g false, .g false, .res (cI v12), .g false, .res (cB v14), .g false, .g false] [] [(2, cI p2), (3, cI p3), (4, pk 4), (5, pk 5), (24, cB (!v14))] [(4, va (eTBoard p0)), (5, va (eTState p1))] (fun t => aI (i_isLook_ok p0 p1 p2 v9 h10) (aI c11 (aI c11 (aI c11 (aI (i_sizeOf_ok p0 v12 h13) (aI c11 (aI (i_isIndex_ok p3 v12 v14 h15) (aI c11 (aI c11 (t)))))))))) ?_
  rcases ofCond H with ⟨c16, H⟩ | ⟨c16, H⟩
  ·refine it c16 ?_
   refine so [] [] [(8, .c (.nil)), (9, cB false)] [] id ?_
   refine tl [.nlo 8 900000 1 (fF eI zI ([] : List Int))] [(8, ow 900000 1 ([] : List Int)), (9, cB false)] [(900000, ar 1 eI zI ([] : List Int))] (aI (by decide : 0 < 1)) ?_
   refine ends_ret ?_
   cases H
   exact And.intro (.inl rfl) rfl
  ·refine jf c16 ?_
   refine sk ?_
   refine so [fh eI zI ([] : List Int)] [] [(2, cI p2), (3, cI p3), (4, pk 4), (5, pk 5), (10, ow 25 1 ([] : List Int))] [(4, va (eTBoard p0)), (5, va (eTState p1)), (25, ar 1 eI zI ([] : List Int))] (fun t => aI (rfl : ([] : List Int).length = 0) (aI (fF_lit eI zI ([] : List Int)) (t))) ?_
   refine seq_in ?_
   obtain ⟨v17, h18, H⟩ := ofBind H
   refine so [.res (dc 1 eI zI v17)] [] [(3, cI p3), (4, pk 4), (5, pk 5), (10, ow 25 1 ([] : List Int)), (28, dc 1 eI zI v17), (29, cL v17), (30, cI 0)] [(4, va (eTBoard p0)), (5, va (eTState p1)), (25, ar 1 eI zI ([] : List Int))] (fun t => aI (i_unitsOf_ok p1 p2 v17 h18) (lI v17 (t))) ?_
   refine ends_blk ?_
   obtain ⟨y57, h58, H⟩ := ofBind H
   refine tl [.ren 25 1001] [(3, cI p3), (4, pk 4), (5, pk 5), (10, ow 1001 1 ([] : List Int)), (28, dc 1 eI zI v17), (29, cL v17), (30, cI 0)] [(4, va (eTBoard p0)), (5, va (eTState p1)), (1001, ar 1 eI zI ([] : List Int))] id ?_
   refine loop_in (fun (x : (Int × (List Int))) => lit [(3, cI p3), (4, pk 4), (5, pk 5), (10, ow 1001 1 x.2), (28, dc 1 eI zI v17), (29, cL v17), (30, cI x.1)] [(4, va (eTBoard p0)), (5, va (eTState p1)), (1001, ar 1 eI zI x.2)]) (fun (z : (List Int)) => At (.exit 0) (lit [(10, ow 1001 1 z)] [(1001, ar 1 eI zI z)])) h58 ?_ ?_
   ·clear H h58
    intro x44 y0 H
    refine so [] [] [(3, cI p3), (4, pk 4), (5, pk 5), (10, ow 1001 1 x44.2), (28, dc 1 eI zI v17), (29, cL v17), (30, cI x44.1), (31, cB (decide (x44.1 < (v17.length : Int))))] [(4, va (eTBoard p0)), (5, va (eTState p1)), (1001, ar 1 eI zI x44.2)] id ?_
    refine seq_in ?_
    rcases ofCond H with ⟨c46, H⟩ | ⟨c46, H⟩
    ·refine it c46 ?_
     refine sk ?_
     refine seq_in ?_
     refine ends_blk ?_
     obtain ⟨v47, h48, H⟩ := ofBind H
     refine so [.cs (eI v47)] [] [(3, cI p3), (4, pk 4), (5, pk 5), (10, ow 1001 1 x44.2), (12, cI v47), (28, dc 1 eI zI v17), (29, cL v17), (30, cI x44.1)] [(4, va (eTBoard p0)), (5, va (eTState p1)), (1001, ar 1 eI zI x44.2)] (a2 eI h48) ?_
     obtain ⟨v49, h50, H⟩ := ofBind H
     obtain ⟨v51, h52, H⟩ := ofBind H
     obtain ⟨v53, h54, H⟩ := ofBind H
     refine sd [.cs (eTUnit v49), .res (dc 1 eB zB v51), .cs (eB v53)] [] [(3, cI p3), (4, pk 4), (5, pk 5), (10, ow 1001 1 x44.2), (12, cI v47), (28, dc 1 eI zI v17), (29, cL v17), (30, cI x44.1), (43, cB v53)] [(4, va (eTBoard p0)), (5, va (eTState p1)), (1001, ar 1 eI zI x44.2)] (fun t => (a2 eTUnit h50 (aI (rfl : ([] : List Nat) = []) (aI (i_spots_ok p0 v49 v51 h52) (aI (rfl : ([] : List Nat) = []) (aI (rfl : ([] : List Nat) = []) ((a2 eB h54 (aI (rfl : ([] : List Nat) = []) (t)))))))))) ?_
     rcases ofCond H with ⟨c55, H⟩ | ⟨c55, H⟩
     ·refine it c55 ?_
      obtain ⟨g56, H⟩ := ofIf H
      refine oo [fh eI zI ([v47] : List Int), fh eI zI (x44.2 ++ ([v47] : List Int))] [] [(3, cI p3), (4, pk 4), (5, pk 5), (10, ow 47 1 (x44.2 ++ ([v47] : List Int))), (28, dc 1 eI zI v17), (29, cL v17), (30, cI x44.1)] [(4, va (eTBoard p0)), (5, va (eTState p1)), (47, ar 1 eI zI (x44.2 ++ ([v47] : List Int)))] (fun t => aI (rfl : ([v47] : List Int).length = 1) (aI (fF_lit eI zI ([v47] : List Int)) (aI (And.intro (Nat.le_refl x44.2.length) (And.intro (@List.length_append _ x44.2 ([v47] : List Int)) g56)) (aI (fF_appL eI zI x44.2 ([v47] : List Int)) (aI (fF_appR eI zI x44.2 ([v47] : List Int)) (t)))))) ?_
      change EndsI _ _ _ _ _ _
      refine oo [] [.ren 47 1001] [(3, cI p3), (4, pk 4), (5, pk 5), (10, ow 1001 1 (x44.2 ++ ([v47] : List Int))), (28, dc 1 eI zI v17), (29, cL v17), (30, cI (W (x44.1 + 1)))] [(4, va (eTBoard p0)), (5, va (eTState p1)), (1001, ar 1 eI zI (x44.2 ++ ([v47] : List Int)))] id ?_
      cases H
      exact And.intro rfl rfl
     ·refine jf c55 ?_
      refine sk ?_
      refine oo [] [] [(3, cI p3), (4, pk 4), (5, pk 5), (10, ow 1001 1 x44.2), (28, dc 1 eI zI v17), (29, cL v17), (30, cI (W (x44.1 + 1)))] [(4, va (eTBoard p0)), (5, va (eTState p1)), (1001, ar 1 eI zI x44.2)] id ?_
      cases H
      exact And.intro rfl rfl
    ·refine jf c46 ?_
     refine tl [] [(10, ow 1001 1 x44.2)] [(1001, ar 1 eI zI x44.2)] id ?_
     refine ends_exit ?_
     cases H
     exact And.intro (by simp) (And.intro rfl rfl)
   ·clear h58
    intro e s q
    obtain ⟨rfl, rfl⟩ := q
    change EndsI _ _ _ _ _ _
    refine so [] [] [(8, ow 1001 1 y57), (9, cB true)] [(1001, ar 1 eI zI y57)] id ?_
    refine tl [.ren 1001 900000] [(8, ow 900000 1 y57), (9, cB true)] [(900000, ar 1 eI zI y57)] id ?_
    refine ends_ret ?_
    cases H
    exact And.intro (.inl rfl) rfl
def l_FnExactSpottersOf_ir : S :=
 (sq [o 4 (.box 12 (.t 0)), o 5 (.box 3 (.t 1)), o 8 (.mv (.v (.bool false)))]
 (sq [o 9 (.mv (iv 1048576))]
 (sq [o 21 (.load 12 true (.t 4)), om 22 9, o 23 (.call 12 [.t 21, .t 22]), om 9 23]
 (.seq (sq [om 24 9, o 25 (.bin .lss (.t 24) (iv 0))]
 (.ite (.t 25) (sq [o 8 (.mv (.v (.bool true)))]
  .ret)
 .skip))
 (sq [o 26 (.load 3 true (.t 5)), om 27 9, o 28 (.call 13 [.t 26, .t 27]), om 9 28]
 (.seq (sq [om 29 9, o 30 (.bin .lss (.t 29) (iv 0))]
 (.ite (.t 30) (sq [o 8 (.mv (.v (.bool true)))]
  .ret)
 .skip))
 (.seq (.draw 12 [o 32 (.load 12 true (.t 4)), o 33 (.call 15 [.t 32]), o 34 (.load 3 true (.t 5)), o 35 (.call 16 [.t 34]), om 36 2, om 37 3, o 38 (.call 51 [.t 33, .t 35, .t 36, .t 37]), om 31 38, o 39 (.ext (.t 31) 0), o 40 (.ext (.t 31) 1), om 10 39, om 11 40])
 (sq [o 41 (.load 12 true (.t 4)), o 42 (.call 15 [.t 41]), o 12 (.alloc [.nil, .nil, .int .i64 0, .int .i64 0, .int .i64 0, .int .i64 0, .int .i64 0, .int .i64 0, .int .i64 0, .nil, .nil, .nil]), ⟨none, .store 12 (.t 12) (.t 42), none⟩]
 (sq [o 43 (.load 3 true (.t 5)), o 44 (.call 16 [.t 43]), o 13 (.alloc [.int .i64 0, .int .i64 0, .nil]), ⟨none, .store 3 (.t 13) (.t 44), none⟩]
 (sq [o 46 (.load 12 true (.t 12)), o 47 (.load 3 true (.t 13)), om 48 2, om 49 3, o 50 (.call 52 [.t 46, .t 47, .t 48, .t 49]), om 45 50, o 51 (.ext (.t 45) 0), o 52 (.ext (.t 45) 1), om 14 51, om 15 52]
 (.seq (sq [om 53 14, om 54 10, o 55 (.call 18 [.t 53, .t 54]), o 56 (.not (.t 55)), om 57 56, ⟨some 58, .mv (.t 15), some (57, false)⟩, ⟨some 59, .mv (.t 11), some (57, false)⟩, ⟨some 60, .bqe true (.t 58) (.t 59), some (57, false)⟩, o 61 (.pick (.t 57) (.v (.bool true)) (.t 60))]
 (.ite (.t 61) (sq [o 8 (.mv (.v (.bool false)))]
  .ret)
 .skip))
 (.seq (.seq (.draw 5 [o 62 (.load 12 true (.t 12)), o 63 (.load 12 true (.t 4)), o 64 (.call 15 [.t 63]), o 65 (.call 19 [.t 62, .t 64]), o 66 (.not (.t 65))])
 (.ite (.t 66) (sq [o 8 (.mv (.v (.bool false)))]
  .ret)
 .skip))
 (.seq (.seq (.draw 5 [o 67 (.load 3 true (.t 13)), o 68 (.load 3 true (.t 5)), o 69 (.call 16 [.t 68]), o 70 (.call 20 [.t 67, .t 69]), o 71 (.not (.t 70))])
 (.ite (.t 71) (sq [o 8 (.mv (.v (.bool false)))]
  .ret)
 .skip))
 (sq [o 16 (.mv (iv 1))]
 (sq [o 72 (.load 12 true (.t 12)), om 73 16, o 74 (.call 21 [.t 72, .t 73]), om 16 74]
 (sq [o 75 (.load 3 true (.t 13)), om 76 16, o 77 (.call 22 [.t 75, .t 76]), om 16 77]
 (.seq (sq [om 78 16, o 79 (.bin .lss (.t 78) (iv 0)), om 80 79, ⟨some 81, .mv (.t 14), some (80, false)⟩, ⟨some 82, .mv (.t 10), some (80, false)⟩, ⟨some 83, .call 18 [.t 81, .t 82], some (80, false)⟩, ⟨some 84, .not (.t 83), some (80, false)⟩, o 85 (.pick (.t 80) (.v (.bool true)) (.t 84)), om 86 85, ⟨some 87, .mv (.t 15), some (86, false)⟩, ⟨some 88, .mv (.t 11), some (86, false)⟩, ⟨some 89, .bqe true (.t 87) (.t 88), some (86, false)⟩, o 90 (.pick (.t 86) (.v (.bool true)) (.t 89))]
 (.ite (.t 90) (sq [o 8 (.mv (.v (.bool false)))]
  .ret)
 .skip))
 (sq [o 17 (.mv (iv 1))]
 (sq [om 91 14, om 92 17, o 93 (.call 23 [.t 91, .t 92]), om 17 93]
 (sq [o 18 (.mv (iv 1))]
 (sq [om 94 14, om 95 18, o 96 (.call 24 [.t 94, .t 95]), om 18 96]
 (.seq (sq [om 97 18, o 98 (.bin .lss (.t 97) (iv 0))]
 (.ite (.t 98) (sq [o 8 (.mv (.v (.bool false)))]
  .ret)
 .skip))
 (.seq (sq [om 99 18, om 100 17, o 101 (.bin .neq (.t 99) (.t 100))]
 (.ite (.t 101) (sq [o 8 (.mv (.v (.bool false)))]
  .ret)
 .skip))
 (.seq (.draw 12 [o 103 (.load 12 true (.t 4)), o 104 (.call 15 [.t 103]), o 105 (.load 3 true (.t 5)), o 106 (.call 16 [.t 105]), om 107 2, om 108 3, o 109 (.call 52 [.t 104, .t 106, .t 107, .t 108]), om 102 109, o 110 (.ext (.t 102) 0), o 111 (.ext (.t 102) 1), om 19 110, om 20 111])
 (.seq (sq [om 112 19, om 113 10, o 114 (.call 18 [.t 112, .t 113]), o 115 (.not (.t 114)), om 116 115, ⟨some 117, .mv (.t 20), some (116, false)⟩, ⟨some 118, .mv (.t 11), some (116, false)⟩, ⟨some 119, .bqe true (.t 117) (.t 118), some (116, false)⟩, o 120 (.pick (.t 116) (.v (.bool true)) (.t 119))]
 (.ite (.t 120) (sq [o 8 (.mv (.v (.bool false)))]
  .ret)
 .skip))
 (sq [o 18 (.mv (iv 1))]
 (sq [om 121 14, om 122 18, o 123 (.call 24 [.t 121, .t 122]), om 18 123]
 (.seq (sq [om 124 18, o 125 (.bin .lss (.t 124) (iv 0))]
 (.ite (.t 125) (sq [o 8 (.mv (.v (.bool false)))]
  .ret)
 .skip))
 (.seq (sq [om 126 18, om 127 17, o 128 (.bin .neq (.t 126) (.t 127))]
 (.ite (.t 128) (sq [o 8 (.mv (.v (.bool false)))]
  .ret)
 .skip))
 (sq [o 8 (.mv (.v (.bool true)))]
 .ret))))))))))))))))))))))))))))))
noncomputable def X.l_FnExactSpottersOf (p0 : TBoard) (p1 : TState) (p2 : Int) (p3 : Int) : Option Bool :=
 ((X.l_szBoard p0 1048576).bind fun v1 => (bif (decide (v1 < 0)) then some true else ((X.l_szState p1 v1).bind fun v5 => (bif (decide (v5 < 0)) then some true else ((X.l_toBoard p0).bind fun v9 => ((X.l_toState p1).bind fun v11 => ((X.s_SpottersOf v9 v11 p2 p3).bind fun v13 => ((X.l_toBoard p0).bind fun v15 => ((X.l_toState p1).bind fun v17 => ((X.i_SpottersOf v15 v17 p2 p3).bind fun v19 => ((X.l_eqIntS v19.1 v13.1).bind fun v25 => (bif (!v25) then some false else (bif (!(v19.2 == v13.2)) then some false else ((X.l_toBoard p0).bind fun v34 => ((X.l_eqBoard v15 v34).bind fun v36 => (bif (!v36) then some false else ((X.l_toState p1).bind fun v44 => ((X.l_eqState v17 v44).bind fun v46 => (bif (!v46) then some false else ((X.l_markBoard_L v15 1).bind fun v49 => ((X.l_markState_L v17 v49).bind fun v51 => (bif (decide (v51 < 0)) then some false else ((X.l_eqIntS v19.1 v13.1).bind fun v58 => (bif (!v58) then some false else ((X.l_markIntS_Mod v19.1 1).bind fun v61 => (if v61.2.length = v19.1.length then ((X.l_heldIntS v61.2 1).bind fun v64 => (bif (decide (v64 < 0)) then some false else (bif (v64 != v61.1) then some false else ((X.l_toBoard p0).bind fun v70 => ((X.l_toState p1).bind fun v72 => ((X.i_SpottersOf v70 v72 p2 p3).bind fun v74 => ((X.l_eqIntS v74.1 v13.1).bind fun v80 => (bif (!v80) then some false else (bif (!(v74.2 == v13.2)) then some false else ((X.l_heldIntS v61.2 1).bind fun v84 => (bif (decide (v84 < 0)) then some false else (bif (v84 != v61.1) then some false else some true)))))))))))) else none))))))))))))))))))))))))))
theorem l_FnExactSpottersOf_T_ok (p0 : TBoard) (p1 : TState) (p2 : Int) (p3 : Int) (H : X.l_FnExactSpottersOf p0 p1 p2 p3 = some true) : LawOk Tryz.prog gl 9 [.agg (eTBoard p0), .agg (eTState p1), cI p2, cI p3] := by
 unfold X.l_FnExactSpottersOf at H
 refine lawOk_of (fn := Tryz.f9) (ir := l_FnExactSpottersOf_ir) (s1 := lit [(8, cB true)] []) Tryz.func9 (by kernel_rfl) (by kernel_rfl) (by kernel_rfl) (by kernel_rfl) ?_
 refine tl [] [(0, .agg [.old (dat 5 eTTerrain zTTerrain p0.Rules.Terrains), .old (dat 6 eTKind zTKind p0.Rules.Kinds), .int .i64 p0.Rules.Stack, .int .i64 p0.Rules.River, .int .i64 p0.Rules.Road, .int .i64 p0.Rules.Supply, .int .i64 p0.Rules.Turns, .int .i64 p0.Map.Width, .int .i64 p0.Map.Height, .old (dat 1 eI zI p0.Map.Terrain), .old (dat 1 eI zI p0.Map.Rivers), .old (dat 1 eI zI p0.Map.Roads)]), (1, .agg [.int .i64 p1.Turn, .int .i64 p1.Weather, .old (dat 4 eTUnit zTUnit p1.Units)]), (2, cI p2), (3, cI p3)] [] id ?_
 refine so [] [] [(2, cI p2), (3, cI p3), (4, pk 4), (5, pk 5)] [(4, .var [.old (dat 5 eTTerrain zTTerrain p0.Rules.Terrains), .old (dat 6 eTKind zTKind p0.Rules.Kinds), .int .i64 p0.Rules.Stack, .int .i64 p0.Rules.River, .int .i64 p0.Rules.Road, .int .i64 p0.Rules.Supply, .int .i64 p0.Rules.Turns, .int .i64 p0.Map.Width, .int .i64 p0.Map.Height, .old (dat 1 eI zI p0.Map.Terrain), .old (dat 1 eI zI p0.Map.Rivers), .old (dat 1 eI zI p0.Map.Roads)] false), (5, .var [.int .i64 p1.Turn, .int .i64 p1.Weather, .old (dat 4 eTUnit zTUnit p1.Units)] false)] id ?_
 refine so [] [] [(2, cI p2), (3, cI p3), (4, pk 4), (5, pk 5), (9, cI 1048576)] [(4, .var [.old (dat 5 eTTerrain zTTerrain p0.Rules.Terrains), .old (dat 6 eTKind zTKind p0.Rules.Kinds), .int .i64 p0.Rules.Stack, .int .i64 p0.Rules.River, .int .i64 p0.Rules.Road, .int .i64 p0.Rules.Supply, .int .i64 p0.Rules.Turns, .int .i64 p0.Map.Width, .int .i64 p0.Map.Height, .old (dat 1 eI zI p0.Map.Terrain), .old (dat 1 eI zI p0.Map.Rivers), .old (dat 1 eI zI p0.Map.Roads)] false), (5, .var [.int .i64 p1.Turn, .int .i64 p1.Weather, .old (dat 4 eTUnit zTUnit p1.Units)] false)] id ?_
 obtain ⟨v1, h2, H⟩ := ofBind H
 refine so [.res (cI v1)] [] [(2, cI p2), (3, cI p3), (4, pk 4), (5, pk 5), (9, cI v1)] [(4, .var [.old (dat 5 eTTerrain zTTerrain p0.Rules.Terrains), .old (dat 6 eTKind zTKind p0.Rules.Kinds), .int .i64 p0.Rules.Stack, .int .i64 p0.Rules.River, .int .i64 p0.Rules.Road, .int .i64 p0.Rules.Supply, .int .i64 p0.Rules.Turns, .int .i64 p0.Map.Width, .int .i64 p0.Map.Height, .old (dat 1 eI zI p0.Map.Terrain), .old (dat 1 eI zI p0.Map.Rivers), .old (dat 1 eI zI p0.Map.Roads)] false), (5, .var [.int .i64 p1.Turn, .int .i64 p1.Weather, .old (dat 4 eTUnit zTUnit p1.Units)] false)] (aI ((FnOk.le2 (xs := [.agg [.old (dat 5 eTTerrain zTTerrain p0.Rules.Terrains), .old (dat 6 eTKind zTKind p0.Rules.Kinds), .int .i64 p0.Rules.Stack, .int .i64 p0.Rules.River, .int .i64 p0.Rules.Road, .int .i64 p0.Rules.Supply, .int .i64 p0.Rules.Turns, .int .i64 p0.Map.Width, .int .i64 p0.Map.Height, .old (dat 1 eI zI p0.Map.Terrain), .old (dat 1 eI zI p0.Map.Rivers), .old (dat 1 eI zI p0.Map.Roads)], cI 1048576]) (l_szBoard_ok p0 1048576 v1 h2) ⟨LeD.agg (And.intro (LeC.old _) (And.intro (LeC.old _) (And.intro (LeC.refl _) (And.intro (LeC.refl _) (And.intro (LeC.refl _) (And.intro (LeC.refl _) (And.intro (LeC.refl _) (And.intro (LeC.refl _) (And.intro (LeC.refl _) (And.intro (LeC.old _) (And.intro (LeC.old _) (And.intro (LeC.old _) (trivial))))))))))))), LeD.refl _, trivial⟩).up glTs)) ?_
 refine seq_in ?_
 refine so [] [] [(2, cI p2), (3, cI p3), (4, pk 4), (5, pk 5), (9, cI v1), (25, cB (decide (v1 < 0)))] [(4, .var [.old (dat 5 eTTerrain zTTerrain p0.Rules.Terrains), .old (dat 6 eTKind zTKind p0.Rules.Kinds), .int .i64 p0.Rules.Stack, .int .i64 p0.Rules.River, .int .i64 p0.Rules.Road, .int .i64 p0.Rules.Supply, .int .i64 p0.Rules.Turns, .int .i64 p0.Map.Width, .int .i64 p0.Map.Height, .old (dat 1 eI zI p0.Map.Terrain), .old (dat 1 eI zI p0.Map.Rivers), .old (dat 1 eI zI p0.Map.Roads)] false), (5, .var [.int .i64 p1.Turn, .int .i64 p1.Weather, .old (dat 4 eTUnit zTUnit p1.Units)] false)] id ?_
 rcases ofCond H with ⟨c4, H⟩ | ⟨c4, H⟩
 ·refine it c4 ?_
  refine so [] [] [(8, cB true)] [] id ?_
  refine ends_ret ?_
  exact And.intro (.inl rfl) rfl
 ·refine jf c4 ?_
  refine sk ?_
  obtain ⟨v5, h6, H⟩ := ofBind H
  refine so [.res (cI v5)] [] [(2, cI p2), (3, cI p3), (4, pk 4), (5, pk 5), (9, cI v5)] [(4, .var [.old (dat 5 eTTerrain zTTerrain p0.Rules.Terrains), .old (dat 6 eTKind zTKind p0.Rules.Kinds), .int .i64 p0.Rules.Stack, .int .i64 p0.Rules.River, .int .i64 p0.Rules.Road, .int .i64 p0.Rules.Supply, .int .i64 p0.Rules.Turns, .int .i64 p0.Map.Width, .int .i64 p0.Map.Height, .old (dat 1 eI zI p0.Map.Terrain), .old (dat 1 eI zI p0.Map.Rivers), .old (dat 1 eI zI p0.Map.Roads)] false), (5, .var [.int .i64 p1.Turn, .int .i64 p1.Weather, .old (dat 4 eTUnit zTUnit p1.Units)] false)] (aI ((FnOk.le2 (xs := [.agg [.int .i64 p1.Turn, .int .i64 p1.Weather, .old (dat 4 eTUnit zTUnit p1.Units)], cI v1]) (l_szState_ok p1 v1 v5 h6) ⟨LeD.agg (And.intro (LeC.refl _) (And.intro (LeC.refl _) (And.intro (LeC.old _) (trivial)))), LeD.refl _, trivial⟩).up glTs)) ?_
  refine seq_in ?_
  refine so [] [] [(2, cI p2), (3, cI p3), (4, pk 4), (5, pk 5), (30, cB (decide (v5 < 0)))] [(4, .var [.old (dat 5 eTTerrain zTTerrain p0.Rules.Terrains), .old (dat 6 eTKind zTKind p0.Rules.Kinds), .int .i64 p0.Rules.Stack, .int .i64 p0.Rules.River, .int .i64 p0.Rules.Road, .int .i64 p0.Rules.Supply, .int .i64 p0.Rules.Turns, .int .i64 p0.Map.Width, .int .i64 p0.Map.Height, .old (dat 1 eI zI p0.Map.Terrain), .old (dat 1 eI zI p0.Map.Rivers), .old (dat 1 eI zI p0.Map.Roads)] false), (5, .var [.int .i64 p1.Turn, .int .i64 p1.Weather, .old (dat 4 eTUnit zTUnit p1.Units)] false)] id ?_
  rcases ofCond H with ⟨c8, H⟩ | ⟨c8, H⟩
  ·refine it c8 ?_
   refine so [] [] [(8, cB true)] [] id ?_
   refine ends_ret ?_
   exact And.intro (.inl rfl) rfl
  ·refine jf c8 ?_
   refine sk ?_
   obtain ⟨v9, h10, H⟩ := ofBind H
   obtain ⟨v11, h12, H⟩ := ofBind H
   obtain ⟨v13, h14, H⟩ := ofBind H
   refine sd [.res (.agg [.fr (dat 5 eTTerrain zTTerrain v9.Rules.Terrains), .fr (dat 6 eTKind zTKind v9.Rules.Kinds), .int .i64 v9.Rules.Stack, .int .i64 v9.Rules.River, .int .i64 v9.Rules.Road, .int .i64 v9.Rules.Supply, .int .i64 v9.Rules.Turns, .int .i64 v9.Map.Width, .int .i64 v9.Map.Height, .fr (dat 1 eI zI v9.Map.Terrain), .fr (dat 1 eI zI v9.Map.Rivers), .fr (dat 1 eI zI v9.Map.Roads)]), .res (.agg [.int .i64 v11.Turn, .int .i64 v11.Weather, .fr (dat 4 eTUnit zTUnit v11.Units)]), .res (.tup [(false, [dat 1 eI zI v13.1]), (false, [.bool v13.2])])] [] [(2, cI p2), (3, cI p3), (4, pk 4), (5, pk 5), (10, dc 1 eI zI v13.1), (11, cB v13.2)] [(4, .var [.old (dat 5 eTTerrain zTTerrain p0.Rules.Terrains), .old (dat 6 eTKind zTKind p0.Rules.Kinds), .int .i64 p0.Rules.Stack, .int .i64 p0.Rules.River, .int .i64 p0.Rules.Road, .int .i64 p0.Rules.Supply, .int .i64 p0.Rules.Turns, .int .i64 p0.Map.Width, .int .i64 p0.Map.Height, .old (dat 1 eI zI p0.Map.Terrain), .old (dat 1 eI zI p0.Map.Rivers), .old (dat 1 eI zI p0.Map.Roads)] false), (5, .var [.int .i64 p1.Turn, .int .i64 p1.Weather, .old (dat 4 eTUnit zTUnit p1.Units)] false)] (fun t => aI ((FnOk.le2 (xs := [.agg [.old (dat 5 eTTerrain zTTerrain p0.Rules.Terrains), .old (dat 6 eTKind zTKind p0.Rules.Kinds), .int .i64 p0.Rules.Stack, .int .i64 p0.Rules.River, .int .i64 p0.Rules.Road, .int .i64 p0.Rules.Supply, .int .i64 p0.Rules.Turns, .int .i64 p0.Map.Width, .int .i64 p0.Map.Height, .old (dat 1 eI zI p0.Map.Terrain), .old (dat 1 eI zI p0.Map.Rivers), .old (dat 1 eI zI p0.Map.Roads)]]) (l_toBoard_F_ok p0 v9 h10) ⟨LeD.agg (And.intro (LeC.old _) (And.intro (LeC.old _) (And.intro (LeC.refl _) (And.intro (LeC.refl _) (And.intro (LeC.refl _) (And.intro (LeC.refl _) (And.intro (LeC.refl _) (And.intro (LeC.refl _) (And.intro (LeC.refl _) (And.intro (LeC.old _) (And.intro (LeC.old _) (And.intro (LeC.old _) (trivial))))))))))))), trivial⟩).up glTs) (aI (rfl : ([] : List Nat) = []) (aI (rfl : ([] : List Nat) = []) (aI ((FnOk.le2 (xs := [.agg [.int .i64 p1.Turn, .int .i64 p1.Weather, .old (dat 4 eTUnit zTUnit p1.Units)]]) (l_toState_F_ok p1 v11 h12) ⟨LeD.agg (And.intro (LeC.refl _) (And.intro (LeC.refl _) (And.intro (LeC.old _) (trivial)))), trivial⟩).up glTs) (aI (rfl : ([] : List Nat) = []) (aI (rfl : ([] : List Nat) = []) (aI ((FnOk.le2 (xs := [.agg [.fr (dat 5 eTTerrain zTTerrain v9.Rules.Terrains), .fr (dat 6 eTKind zTKind v9.Rules.Kinds), .int .i64 v9.Rules.Stack, .int .i64 v9.Rules.River, .int .i64 v9.Rules.Road, .int .i64 v9.Rules.Supply, .int .i64 v9.Rules.Turns, .int .i64 v9.Map.Width, .int .i64 v9.Map.Height, .fr (dat 1 eI zI v9.Map.Terrain), .fr (dat 1 eI zI v9.Map.Rivers), .fr (dat 1 eI zI v9.Map.Roads)], .agg [.int .i64 v11.Turn, .int .i64 v11.Weather, .fr (dat 4 eTUnit zTUnit v11.Units)], cI p2, cI p3]) (s_SpottersOf_ok v9 v11 p2 p3 v13 h14) ⟨LeD.agg (And.intro (LeC.fr _) (And.intro (LeC.fr _) (And.intro (LeC.refl _) (And.intro (LeC.refl _) (And.intro (LeC.refl _) (And.intro (LeC.refl _) (And.intro (LeC.refl _) (And.intro (LeC.refl _) (And.intro (LeC.refl _) (And.intro (LeC.fr _) (And.intro (LeC.fr _) (And.intro (LeC.fr _) (trivial))))))))))))), LeD.agg (And.intro (LeC.refl _) (And.intro (LeC.refl _) (And.intro (LeC.fr _) (trivial)))), LeD.refl _, LeD.refl _, trivial⟩).up glTs) (aI (rfl : ([] : List Nat) = []) (aI (rfl : ([] : List Nat) = []) (t)))))))))) ?_
   refine tl [] [(2, cI p2), (3, cI p3), (4, pk 4), (5, pk 5), (10, dc 1 eI zI v13.1), (11, cB v13.2)] [(4, .var [.old (dat 5 eTTerrain zTTerrain p0.Rules.Terrains), .old (dat 6 eTKind zTKind p0.Rules.Kinds), .int .i64 p0.Rules.Stack, .int .i64 p0.Rules.River, .int .i64 p0.Rules.Road, .int .i64 p0.Rules.Supply, .int .i64 p0.Rules.Turns, .int .i64 p0.Map.Width, .int .i64 p0.Map.Height, .old (dat 1 eI zI p0.Map.Terrain), .old (dat 1 eI zI p0.Map.Rivers), .old (dat 1 eI zI p0.Map.Roads)] false), (5, .var [.int .i64 p1.Turn, .int .i64 p1.Weather, .old (dat 4 eTUnit zTUnit p1.Units)] false)] id ?_
   refine turn0 (E := [(2, cI p2), (3, cI p3), (4, pk 4), (5, pk 5), (10, dc 1 eI zI v13.1), (11, cB v13.2)]) (E' := [(2, cI p2), (3, cI p3), (4, pk 4), (5, pk 5), (10, .c (.old (dat 1 eI zI v13.1))), (11, cB v13.2)]) (H := [(4, .var [.old (dat 5 eTTerrain zTTerrain p0.Rules.Terrains), .old (dat 6 eTKind zTKind p0.Rules.Kinds), .int .i64 p0.Rules.Stack, .int .i64 p0.Rules.River, .int .i64 p0.Rules.Road, .int .i64 p0.Rules.Supply, .int .i64 p0.Rules.Turns, .int .i64 p0.Map.Width, .int .i64 p0.Map.Height, .old (dat 1 eI zI p0.Map.Terrain), .old (dat 1 eI zI p0.Map.Rivers), .old (dat 1 eI zI p0.Map.Roads)] false), (5, .var [.int .i64 p1.Turn, .int .i64 p1.Weather, .old (dat 4 eTUnit zTUnit p1.Units)] false)]) (H' := [(4, .var [.old (dat 5 eTTerrain zTTerrain p0.Rules.Terrains), .old (dat 6 eTKind zTKind p0.Rules.Kinds), .int .i64 p0.Rules.Stack, .int .i64 p0.Rules.River, .int .i64 p0.Rules.Road, .int .i64 p0.Rules.Supply, .int .i64 p0.Rules.Turns, .int .i64 p0.Map.Width, .int .i64 p0.Map.Height, .old (dat 1 eI zI p0.Map.Terrain), .old (dat 1 eI zI p0.Map.Rivers), .old (dat 1 eI zI p0.Map.Roads)] false), (5, .var [.int .i64 p1.Turn, .int .i64 p1.Weather, .old (dat 4 eTUnit zTUnit p1.Units)] false)]) glTn glTp (And.intro (And.intro rfl (uS (.int .i64 p2) rfl)) (And.intro (And.intro rfl (uS (.int .i64 p3) rfl)) (And.intro (And.intro rfl (uS (.pk 4 0) rfl)) (And.intro (And.intro rfl (uS (.pk 5 0) rfl)) (And.intro (And.intro rfl (uD (dat 1 eI zI v13.1) rfl (.dat shI))) (And.intro (And.intro rfl (uS (.bool v13.2) rfl)) trivial)))))) (And.intro (And.intro rfl (And.intro (uO (dat 5 eTTerrain zTTerrain p0.Rules.Terrains) (.dat shTTerrain)) (And.intro (uO (dat 6 eTKind zTKind p0.Rules.Kinds) (.dat shTKind)) (And.intro (uS (.int .i64 p0.Rules.Stack) rfl) (And.intro (uS (.int .i64 p0.Rules.River) rfl) (And.intro (uS (.int .i64 p0.Rules.Road) rfl) (And.intro (uS (.int .i64 p0.Rules.Supply) rfl) (And.intro (uS (.int .i64 p0.Rules.Turns) rfl) (And.intro (uS (.int .i64 p0.Map.Width) rfl) (And.intro (uS (.int .i64 p0.Map.Height) rfl) (And.intro (uO (dat 1 eI zI p0.Map.Terrain) (.dat shI)) (And.intro (uO (dat 1 eI zI p0.Map.Rivers) (.dat shI)) (And.intro (uO (dat 1 eI zI p0.Map.Roads) (.dat shI)) trivial))))))))))))) (And.intro (And.intro rfl (And.intro (uS (.int .i64 p1.Turn) rfl) (And.intro (uS (.int .i64 p1.Weather) rfl) (And.intro (uO (dat 4 eTUnit zTUnit p1.Units) (.dat shTUnit)) trivial)))) trivial)) ?_
   obtain ⟨v15, h16, H⟩ := ofBind H
   refine so [.res (.agg [.fr (dat 5 eTTerrain zTTerrain v15.Rules.Terrains), .fr (dat 6 eTKind zTKind v15.Rules.Kinds), .int .i64 v15.Rules.Stack, .int .i64 v15.Rules.River, .int .i64 v15.Rules.Road, .int .i64 v15.Rules.Supply, .int .i64 v15.Rules.Turns, .int .i64 v15.Map.Width, .int .i64 v15.Map.Height, .fr (dat 1 eI zI v15.Map.Terrain), .fr (dat 1 eI zI v15.Map.Rivers), .fr (dat 1 eI zI v15.Map.Roads)])] [] [(2, cI p2), (3, cI p3), (4, pk 4), (5, pk 5), (10, .c (.old (dat 1 eI zI v13.1))), (11, cB v13.2), (12, pk 12)] [(4, .var [.old (dat 5 eTTerrain zTTerrain p0.Rules.Terrains), .old (dat 6 eTKind zTKind p0.Rules.Kinds), .int .i64 p0.Rules.Stack, .int .i64 p0.Rules.River, .int .i64 p0.Rules.Road, .int .i64 p0.Rules.Supply, .int .i64 p0.Rules.Turns, .int .i64 p0.Map.Width, .int .i64 p0.Map.Height, .old (dat 1 eI zI p0.Map.Terrain), .old (dat 1 eI zI p0.Map.Rivers), .old (dat 1 eI zI p0.Map.Roads)] false), (5, .var [.int .i64 p1.Turn, .int .i64 p1.Weather, .old (dat 4 eTUnit zTUnit p1.Units)] false), (12, .var [.fr (dat 5 eTTerrain zTTerrain v15.Rules.Terrains), .fr (dat 6 eTKind zTKind v15.Rules.Kinds), .int .i64 v15.Rules.Stack, .int .i64 v15.Rules.River, .int .i64 v15.Rules.Road, .int .i64 v15.Rules.Supply, .int .i64 v15.Rules.Turns, .int .i64 v15.Map.Width, .int .i64 v15.Map.Height, .fr (dat 1 eI zI v15.Map.Terrain), .fr (dat 1 eI zI v15.Map.Rivers), .fr (dat 1 eI zI v15.Map.Roads)] false)] (aI ((FnOk.le2 (xs := [.agg [.old (dat 5 eTTerrain zTTerrain p0.Rules.Terrains), .old (dat 6 eTKind zTKind p0.Rules.Kinds), .int .i64 p0.Rules.Stack, .int .i64 p0.Rules.River, .int .i64 p0.Rules.Road, .int .i64 p0.Rules.Supply, .int .i64 p0.Rules.Turns, .int .i64 p0.Map.Width, .int .i64 p0.Map.Height, .old (dat 1 eI zI p0.Map.Terrain), .old (dat 1 eI zI p0.Map.Rivers), .old (dat 1 eI zI p0.Map.Roads)]]) (l_toBoard_F_ok p0 v15 h16) ⟨LeD.agg (And.intro (LeC.old _) (And.intro (LeC.old _) (And.intro (LeC.refl _) (And.intro (LeC.refl _) (And.intro (LeC.refl _) (And.intro (LeC.refl _) (And.intro (LeC.refl _) (And.intro (LeC.refl _) (And.intro (LeC.refl _) (And.intro (LeC.old _) (And.intro (LeC.old _) (And.intro (LeC.old _) (trivial))))))))))))), trivial⟩).up glTs)) ?_
   obtain ⟨v17, h18, H⟩ := ofBind H
   refine so [.res (.agg [.int .i64 v17.Turn, .int .i64 v17.Weather, .fr (dat 4 eTUnit zTUnit v17.Units)])] [] [(2, cI p2), (3, cI p3), (4, pk 4), (5, pk 5), (10, .c (.old (dat 1 eI zI v13.1))), (11, cB v13.2), (12, pk 12), (13, pk 13)] [(4, .var [.old (dat 5 eTTerrain zTTerrain p0.Rules.Terrains), .old (dat 6 eTKind zTKind p0.Rules.Kinds), .int .i64 p0.Rules.Stack, .int .i64 p0.Rules.River, .int .i64 p0.Rules.Road, .int .i64 p0.Rules.Supply, .int .i64 p0.Rules.Turns, .int .i64 p0.Map.Width, .int .i64 p0.Map.Height, .old (dat 1 eI zI p0.Map.Terrain), .old (dat 1 eI zI p0.Map.Rivers), .old (dat 1 eI zI p0.Map.Roads)] false), (5, .var [.int .i64 p1.Turn, .int .i64 p1.Weather, .old (dat 4 eTUnit zTUnit p1.Units)] false), (12, .var [.fr (dat 5 eTTerrain zTTerrain v15.Rules.Terrains), .fr (dat 6 eTKind zTKind v15.Rules.Kinds), .int .i64 v15.Rules.Stack, .int .i64 v15.Rules.River, .int .i64 v15.Rules.Road, .int .i64 v15.Rules.Supply, .int .i64 v15.Rules.Turns, .int .i64 v15.Map.Width, .int .i64 v15.Map.Height, .fr (dat 1 eI zI v15.Map.Terrain), .fr (dat 1 eI zI v15.Map.Rivers), .fr (dat 1 eI zI v15.Map.Roads)] false), (13, .var [.int .i64 v17.Turn, .int .i64 v17.Weather, .fr (dat 4 eTUnit zTUnit v17.Units)] false)] (aI ((FnOk.le2 (xs := [.agg [.int .i64 p1.Turn, .int .i64 p1.Weather, .old (dat 4 eTUnit zTUnit p1.Units)]]) (l_toState_F_ok p1 v17 h18) ⟨LeD.agg (And.intro (LeC.refl _) (And.intro (LeC.refl _) (And.intro (LeC.old _) (trivial)))), trivial⟩).up glTs)) ?_
   obtain ⟨v19, h20, H⟩ := ofBind H
   refine so [.mu [] [(900000, 1001)] (.tup [(false, [.own 900000 1 0 v19.1.length]), (false, [.bool v19.2])]) [(900000, ar 1 eI zI v19.1)]] [] [(2, cI p2), (3, cI p3), (4, pk 4), (5, pk 5), (10, .c (.old (dat 1 eI zI v13.1))), (11, cB v13.2), (12, pk 12), (13, pk 13), (14, ow 1001 1 v19.1), (15, cB v19.2)] [(4, .var [.old (dat 5 eTTerrain zTTerrain p0.Rules.Terrains), .old (dat 6 eTKind zTKind p0.Rules.Kinds), .int .i64 p0.Rules.Stack, .int .i64 p0.Rules.River, .int .i64 p0.Rules.Road, .int .i64 p0.Rules.Supply, .int .i64 p0.Rules.Turns, .int .i64 p0.Map.Width, .int .i64 p0.Map.Height, .old (dat 1 eI zI p0.Map.Terrain), .old (dat 1 eI zI p0.Map.Rivers), .old (dat 1 eI zI p0.Map.Roads)] false), (5, .var [.int .i64 p1.Turn, .int .i64 p1.Weather, .old (dat 4 eTUnit zTUnit p1.Units)] false), (12, .var [.fr (dat 5 eTTerrain zTTerrain v15.Rules.Terrains), .fr (dat 6 eTKind zTKind v15.Rules.Kinds), .int .i64 v15.Rules.Stack, .int .i64 v15.Rules.River, .int .i64 v15.Rules.Road, .int .i64 v15.Rules.Supply, .int .i64 v15.Rules.Turns, .int .i64 v15.Map.Width, .int .i64 v15.Map.Height, .fr (dat 1 eI zI v15.Map.Terrain), .fr (dat 1 eI zI v15.Map.Rivers), .fr (dat 1 eI zI v15.Map.Roads)] false), (13, .var [.int .i64 v17.Turn, .int .i64 v17.Weather, .fr (dat 4 eTUnit zTUnit v17.Units)] false), (1001, ar 1 eI zI v19.1)] (aI ((FnMu.le2 (xs := [.agg [.fr (dat 5 eTTerrain zTTerrain v15.Rules.Terrains), .fr (dat 6 eTKind zTKind v15.Rules.Kinds), .int .i64 v15.Rules.Stack, .int .i64 v15.Rules.River, .int .i64 v15.Rules.Road, .int .i64 v15.Rules.Supply, .int .i64 v15.Rules.Turns, .int .i64 v15.Map.Width, .int .i64 v15.Map.Height, .fr (dat 1 eI zI v15.Map.Terrain), .fr (dat 1 eI zI v15.Map.Rivers), .fr (dat 1 eI zI v15.Map.Roads)], .agg [.int .i64 v17.Turn, .int .i64 v17.Weather, .fr (dat 4 eTUnit zTUnit v17.Units)], cI p2, cI p3]) (i_SpottersOf_Mdddd_ok v15 v17 p2 p3 v19 h20) ⟨LeK.of rfl (LeD.agg (And.intro (LeC.fr _) (And.intro (LeC.fr _) (And.intro (LeC.refl _) (And.intro (LeC.refl _) (And.intro (LeC.refl _) (And.intro (LeC.refl _) (And.intro (LeC.refl _) (And.intro (LeC.refl _) (And.intro (LeC.refl _) (And.intro (LeC.fr _) (And.intro (LeC.fr _) (And.intro (LeC.fr _) (trivial)))))))))))))), LeK.of rfl (LeD.agg (And.intro (LeC.refl _) (And.intro (LeC.refl _) (And.intro (LeC.fr _) (trivial))))), LeK.refl _, LeK.refl _, trivial⟩).up glTs)) ?_
   refine seq_in ?_
   obtain ⟨v25, h26, H⟩ := ofBind H
   rcases ofCond H with ⟨c27, H⟩ | ⟨c27, H⟩
   ·refine so [.res (cB v25), .g true, .g true, .g true, .g true] [] [(2, cI p2), (3, cI p3), (4, pk 4), (5, pk 5), (10, .c (.old (dat 1 eI zI v13.1))), (11, cB v13.2), (12, pk 12), (13, pk 13), (14, ow 1001 1 v19.1), (15, cB v19.2), (61, cB true)] [(4, .var [.old (dat 5 eTTerrain zTTerrain p0.Rules.Terrains), .old (dat 6 eTKind zTKind p0.Rules.Kinds), .int .i64 p0.Rules.Stack, .int .i64 p0.Rules.River, .int .i64 p0.Rules.Road, .int .i64 p0.Rules.Supply, .int .i64 p0.Rules.Turns, .int .i64 p0.Map.Width, .int .i64 p0.Map.Height, .old (dat 1 eI zI p0.Map.Terrain), .old (dat 1 eI zI p0.Map.Rivers), .old (dat 1 eI zI p0.Map.Roads)] false), (5, .var [.int .i64 p1.Turn, .int .i64 p1.Weather, .old (dat 4 eTUnit zTUnit p1.Units)] false), (12, .var [.fr (dat 5 eTTerrain zTTerrain v15.Rules.Terrains), .fr (dat 6 eTKind zTKind v15.Rules.Kinds), .int .i64 v15.Rules.Stack, .int .i64 v15.Rules.River, .int .i64 v15.Rules.Road, .int .i64 v15.Rules.Supply, .int .i64 v15.Rules.Turns, .int .i64 v15.Map.Width, .int .i64 v15.Map.Height, .fr (dat 1 eI zI v15.Map.Terrain), .fr (dat 1 eI zI v15.Map.Rivers), .fr (dat 1 eI zI v15.Map.Roads)] false), (13, .var [.int .i64 v17.Turn, .int .i64 v17.Weather, .fr (dat 4 eTUnit zTUnit v17.Units)] false), (1001, ar 1 eI zI v19.1)] (fun t => aI (Nat.le_refl v19.1.length) (aI ((FnOk.le2 (xs := [dc 1 eI zI v19.1, .c (.old (dat 1 eI zI v13.1))]) (l_eqIntS_ok v19.1 v13.1 v25 h26) ⟨LeD.refl _, LeD.old _, trivial⟩).up glTs) (aI c27 (aI c27 (aI c27 (aI c27 (t))))))) ?_
    refine it (rfl : (true : Bool) = true) ?_
    refine so [] [] [(8, cB false)] [] id ?_
    refine ends_ret ?_
    cases H
   ·refine so [.res (cB v25), .g false, .g false, .g false, .g false] [] [(2, cI p2), (3, cI p3), (4, pk 4), (5, pk 5), (10, .c (.old (dat 1 eI zI v13.1))), (11, cB v13.2), (12, pk 12), (13, pk 13), (14, ow 1001 1 v19.1), (15, cB v19.2), (61, cB (!(v19.2 == v13.2)))] [(4, .var [.old (dat 5 eTTerrain zTTerrain p0.Rules.Terrains), .old (dat 6 eTKind zTKind p0.Rules.Kinds), .int .i64 p0.Rules.Stack, .int .i64 p0.Rules.River, .int .i64 p0.Rules.Road, .int .i64 p0.Rules.Supply, .int .i64 p0.Rules.Turns, .int .i64 p0.Map.Width, .int .i64 p0.Map.Height, .old (dat 1 eI zI p0.Map.Terrain), .old (dat 1 eI zI p0.Map.Rivers), .old (dat 1 eI zI p0.Map.Roads)] false), (5, .var [.int .i64 p1.Turn, .int .i64 p1.Weather, .old (dat 4 eTUnit zTUnit p1.Units)] false), (12, .var [.fr (dat 5 eTTerrain zTTerrain v15.Rules.Terrains), .fr (dat 6 eTKind zTKind v15.Rules.Kinds), .int .i64 v15.Rules.Stack, .int .i64 v15.Rules.River, .int .i64 v15.Rules.Road, .int .i64 v15.Rules.Supply, .int .i64 v15.Rules.Turns, .int .i64 v15.Map.Width, .int .i64 v15.Map.Height, .fr (dat 1 eI zI v15.Map.Terrain), .fr (dat 1 eI zI v15.Map.Rivers), .fr (dat 1 eI zI v15.Map.Roads)] false), (13, .var [.int .i64 v17.Turn, .int .i64 v17.Weather, .fr (dat 4 eTUnit zTUnit v17.Units)] false), (1001, ar 1 eI zI v19.1)] (fun t => aI (Nat.le_refl v19.1.length) (aI ((FnOk.le2 (xs := [dc 1 eI zI v19.1, .c (.old (dat 1 eI zI v13.1))]) (l_eqIntS_ok v19.1 v13.1 v25 h26) ⟨LeD.refl _, LeD.old _, trivial⟩).up glTs) (aI c27 (aI c27 (aI c27 (aI c27 (t))))))) ?_
    rcases ofCond H with ⟨c28, H⟩ | ⟨c28, H⟩
    ·refine it c28 ?_
     refine so [] [] [(8, cB false)] [] id ?_
     refine ends_ret ?_
     cases H
    ·refine jf c28 ?_
     refine sk ?_
     refine seq_in ?_
     obtain ⟨v34, h35, H⟩ := ofBind H
     obtain ⟨v36, h37, H⟩ := ofBind H
     refine sd [.res (.agg [.fr (dat 5 eTTerrain zTTerrain v34.Rules.Terrains), .fr (dat 6 eTKind zTKind v34.Rules.Kinds), .int .i64 v34.Rules.Stack, .int .i64 v34.Rules.River, .int .i64 v34.Rules.Road, .int .i64 v34.Rules.Supply, .int .i64 v34.Rules.Turns, .int .i64 v34.Map.Width, .int .i64 v34.Map.Height, .fr (dat 1 eI zI v34.Map.Terrain), .fr (dat 1 eI zI v34.Map.Rivers), .fr (dat 1 eI zI v34.Map.Roads)]), .res (cB v36)] [] [(2, cI p2), (3, cI p3), (4, pk 4), (5, pk 5), (10, .c (.old (dat 1 eI zI v13.1))), (11, cB v13.2), (12, pk 12), (13, pk 13), (14, ow 1001 1 v19.1), (15, cB v19.2), (66, cB (!v36))] [(4, .var [.old (dat 5 eTTerrain zTTerrain p0.Rules.Terrains), .old (dat 6 eTKind zTKind p0.Rules.Kinds), .int .i64 p0.Rules.Stack, .int .i64 p0.Rules.River, .int .i64 p0.Rules.Road, .int .i64 p0.Rules.Supply, .int .i64 p0.Rules.Turns, .int .i64 p0.Map.Width, .int .i64 p0.Map.Height, .old (dat 1 eI zI p0.Map.Terrain), .old (dat 1 eI zI p0.Map.Rivers), .old (dat 1 eI zI p0.Map.Roads)] false), (5, .var [.int .i64 p1.Turn, .int .i64 p1.Weather, .old (dat 4 eTUnit zTUnit p1.Units)] false), (12, .var [.fr (dat 5 eTTerrain zTTerrain v15.Rules.Terrains), .fr (dat 6 eTKind zTKind v15.Rules.Kinds), .int .i64 v15.Rules.Stack, .int .i64 v15.Rules.River, .int .i64 v15.Rules.Road, .int .i64 v15.Rules.Supply, .int .i64 v15.Rules.Turns, .int .i64 v15.Map.Width, .int .i64 v15.Map.Height, .fr (dat 1 eI zI v15.Map.Terrain), .fr (dat 1 eI zI v15.Map.Rivers), .fr (dat 1 eI zI v15.Map.Roads)] false), (13, .var [.int .i64 v17.Turn, .int .i64 v17.Weather, .fr (dat 4 eTUnit zTUnit v17.Units)] false), (1001, ar 1 eI zI v19.1)] (fun t => aI ((FnOk.le2 (xs := [.agg [.old (dat 5 eTTerrain zTTerrain p0.Rules.Terrains), .old (dat 6 eTKind zTKind p0.Rules.Kinds), .int .i64 p0.Rules.Stack, .int .i64 p0.Rules.River, .int .i64 p0.Rules.Road, .int .i64 p0.Rules.Supply, .int .i64 p0.Rules.Turns, .int .i64 p0.Map.Width, .int .i64 p0.Map.Height, .old (dat 1 eI zI p0.Map.Terrain), .old (dat 1 eI zI p0.Map.Rivers), .old (dat 1 eI zI p0.Map.Roads)]]) (l_toBoard_F_ok p0 v34 h35) ⟨LeD.agg (And.intro (LeC.old _) (And.intro (LeC.old _) (And.intro (LeC.refl _) (And.intro (LeC.refl _) (And.intro (LeC.refl _) (And.intro (LeC.refl _) (And.intro (LeC.refl _) (And.intro (LeC.refl _) (And.intro (LeC.refl _) (And.intro (LeC.old _) (And.intro (LeC.old _) (And.intro (LeC.old _) (trivial))))))))))))), trivial⟩).up glTs) (aI (rfl : ([] : List Nat) = []) (aI (rfl : ([] : List Nat) = []) (aI ((FnOk.le2 (xs := [.agg [.fr (dat 5 eTTerrain zTTerrain v15.Rules.Terrains), .fr (dat 6 eTKind zTKind v15.Rules.Kinds), .int .i64 v15.Rules.Stack, .int .i64 v15.Rules.River, .int .i64 v15.Rules.Road, .int .i64 v15.Rules.Supply, .int .i64 v15.Rules.Turns, .int .i64 v15.Map.Width, .int .i64 v15.Map.Height, .fr (dat 1 eI zI v15.Map.Terrain), .fr (dat 1 eI zI v15.Map.Rivers), .fr (dat 1 eI zI v15.Map.Roads)], .agg [.fr (dat 5 eTTerrain zTTerrain v34.Rules.Terrains), .fr (dat 6 eTKind zTKind v34.Rules.Kinds), .int .i64 v34.Rules.Stack, .int .i64 v34.Rules.River, .int .i64 v34.Rules.Road, .int .i64 v34.Rules.Supply, .int .i64 v34.Rules.Turns, .int .i64 v34.Map.Width, .int .i64 v34.Map.Height, .fr (dat 1 eI zI v34.Map.Terrain), .fr (dat 1 eI zI v34.Map.Rivers), .fr (dat 1 eI zI v34.Map.Roads)]]) (l_eqBoard_ok v15 v34 v36 h37) ⟨LeD.agg (And.intro (LeC.fr _) (And.intro (LeC.fr _) (And.intro (LeC.refl _) (And.intro (LeC.refl _) (And.intro (LeC.refl _) (And.intro (LeC.refl _) (And.intro (LeC.refl _) (And.intro (LeC.refl _) (And.intro (LeC.refl _) (And.intro (LeC.fr _) (And.intro (LeC.fr _) (And.intro (LeC.fr _) (trivial))))))))))))), LeD.agg (And.intro (LeC.fr _) (And.intro (LeC.fr _) (And.intro (LeC.refl _) (And.intro (LeC.refl _) (And.intro (LeC.refl _) (And.intro (LeC.refl _) (And.intro (LeC.refl _) (And.intro (LeC.refl _) (And.intro (LeC.refl _) (And.intro (LeC.fr _) (And.intro (LeC.fr _) (And.intro (LeC.fr _) (trivial))))))))))))), trivial⟩).up glTs) (aI trivial (aI (rfl : ([] : List Nat) = []) (t))))))) ?_
     rcases ofCond H with ⟨c38, H⟩ | ⟨c38, H⟩
     ·refine it c38 ?_
      refine so [] [] [(8, cB false)] [] id ?_
      refine ends_ret ?_
      cases H
     ·refine jf c38 ?_
      refine sk ?_
      refine seq_in ?_
      obtain ⟨v44, h45, H⟩ := ofBind H
      obtain ⟨v46, h47, H⟩ := ofBind H
      refine sd [.res (.agg [.int .i64 v44.Turn, .int .i64 v44.Weather, .fr (dat 4 eTUnit zTUnit v44.Units)]), .res (cB v46)] [] [(2, cI p2), (3, cI p3), (4, pk 4), (5, pk 5), (10, .c (.old (dat 1 eI zI v13.1))), (11, cB v13.2), (12, pk 12), (13, pk 13), (14, ow 1001 1 v19.1), (15, cB v19.2), (71, cB (!v46))] [(4, .var [.old (dat 5 eTTerrain zTTerrain p0.Rules.Terrains), .old (dat 6 eTKind zTKind p0.Rules.Kinds), .int .i64 p0.Rules.Stack, .int .i64 p0.Rules.River, .int .i64 p0.Rules.Road, .int .i64 p0.Rules.Supply, .int .i64 p0.Rules.Turns, .int .i64 p0.Map.Width, .int .i64 p0.Map.Height, .old (dat 1 eI zI p0.Map.Terrain), .old (dat 1 eI zI p0.Map.Rivers), .old (dat 1 eI zI p0.Map.Roads)] false), (5, .var [.int .i64 p1.Turn, .int .i64 p1.Weather, .old (dat 4 eTUnit zTUnit p1.Units)] false), (12, .var [.fr (dat 5 eTTerrain zTTerrain v15.Rules.Terrains), .fr (dat 6 eTKind zTKind v15.Rules.Kinds), .int .i64 v15.Rules.Stack, .int .i64 v15.Rules.River, .int .i64 v15.Rules.Road, .int .i64 v15.Rules.Supply, .int .i64 v15.Rules.Turns, .int .i64 v15.Map.Width, .int .i64 v15.Map.Height, .fr (dat 1 eI zI v15.Map.Terrain), .fr (dat 1 eI zI v15.Map.Rivers), .fr (dat 1 eI zI v15.Map.Roads)] false), (13, .var [.int .i64 v17.Turn, .int .i64 v17.Weather, .fr (dat 4 eTUnit zTUnit v17.Units)] false), (1001, ar 1 eI zI v19.1)] (fun t => aI ((FnOk.le2 (xs := [.agg [.int .i64 p1.Turn, .int .i64 p1.Weather, .old (dat 4 eTUnit zTUnit p1.Units)]]) (l_toState_F_ok p1 v44 h45) ⟨LeD.agg (And.intro (LeC.refl _) (And.intro (LeC.refl _) (And.intro (LeC.old _) (trivial)))), trivial⟩).up glTs) (aI (rfl : ([] : List Nat) = []) (aI (rfl : ([] : List Nat) = []) (aI ((FnOk.le2 (xs := [.agg [.int .i64 v17.Turn, .int .i64 v17.Weather, .fr (dat 4 eTUnit zTUnit v17.Units)], .agg [.int .i64 v44.Turn, .int .i64 v44.Weather, .fr (dat 4 eTUnit zTUnit v44.Units)]]) (l_eqState_ok v17 v44 v46 h47) ⟨LeD.agg (And.intro (LeC.refl _) (And.intro (LeC.refl _) (And.intro (LeC.fr _) (trivial)))), LeD.agg (And.intro (LeC.refl _) (And.intro (LeC.refl _) (And.intro (LeC.fr _) (trivial)))), trivial⟩).up glTs) (aI trivial (aI (rfl : ([] : List Nat) = []) (t))))))) ?_
      rcases ofCond H with ⟨c48, H⟩ | ⟨c48, H⟩
      ·refine it c48 ?_
       refine so [] [] [(8, cB false)] [] id ?_
       refine ends_ret ?_
       cases H
      ·refine jf c48 ?_
       refine sk ?_
       refine so [] [] [(2, cI p2), (3, cI p3), (4, pk 4), (5, pk 5), (10, .c (.old (dat 1 eI zI v13.1))), (11, cB v13.2), (12, pk 12), (13, pk 13), (14, ow 1001 1 v19.1), (15, cB v19.2), (16, cI 1)] [(4, .var [.old (dat 5 eTTerrain zTTerrain p0.Rules.Terrains), .old (dat 6 eTKind zTKind p0.Rules.Kinds), .int .i64 p0.Rules.Stack, .int .i64 p0.Rules.River, .int .i64 p0.Rules.Road, .int .i64 p0.Rules.Supply, .int .i64 p0.Rules.Turns, .int .i64 p0.Map.Width, .int .i64 p0.Map.Height, .old (dat 1 eI zI p0.Map.Terrain), .old (dat 1 eI zI p0.Map.Rivers), .old (dat 1 eI zI p0.Map.Roads)] false), (5, .var [.int .i64 p1.Turn, .int .i64 p1.Weather, .old (dat 4 eTUnit zTUnit p1.Units)] false), (12, .var [.fr (dat 5 eTTerrain zTTerrain v15.Rules.Terrains), .fr (dat 6 eTKind zTKind v15.Rules.Kinds), .int .i64 v15.Rules.Stack, .int .i64 v15.Rules.River, .int .i64 v15.Rules.Road, .int .i64 v15.Rules.Supply, .int .i64 v15.Rules.Turns, .int .i64 v15.Map.Width, .int .i64 v15.Map.Height, .fr (dat 1 eI zI v15.Map.Terrain), .fr (dat 1 eI zI v15.Map.Rivers), .fr (dat 1 eI zI v15.Map.Roads)] false), (13, .var [.int .i64 v17.Turn, .int .i64 v17.Weather, .fr (dat 4 eTUnit zTUnit v17.Units)] false), (1001, ar 1 eI zI v19.1)] id ?_
       refine tl [] [(2, cI p2), (3, cI p3), (4, pk 4), (5, pk 5), (10, .c (.old (dat 1 eI zI v13.1))), (11, cB v13.2), (12, pk 12), (13, pk 13), (14, ow 1001 1 v19.1), (15, cB v19.2), (16, cI 1)] [(4, .var [.old (dat 5 eTTerrain zTTerrain p0.Rules.Terrains), .old (dat 6 eTKind zTKind p0.Rules.Kinds), .int .i64 p0.Rules.Stack, .int .i64 p0.Rules.River, .int .i64 p0.Rules.Road, .int .i64 p0.Rules.Supply, .int .i64 p0.Rules.Turns, .int .i64 p0.Map.Width, .int .i64 p0.Map.Height, .old (dat 1 eI zI p0.Map.Terrain), .old (dat 1 eI zI p0.Map.Rivers), .old (dat 1 eI zI p0.Map.Roads)] false), (5, .var [.int .i64 p1.Turn, .int .i64 p1.Weather, .old (dat 4 eTUnit zTUnit p1.Units)] false), (12, .var [.fr (dat 5 eTTerrain zTTerrain v15.Rules.Terrains), .fr (dat 6 eTKind zTKind v15.Rules.Kinds), .int .i64 v15.Rules.Stack, .int .i64 v15.Rules.River, .int .i64 v15.Rules.Road, .int .i64 v15.Rules.Supply, .int .i64 v15.Rules.Turns, .int .i64 v15.Map.Width, .int .i64 v15.Map.Height, .fr (dat 1 eI zI v15.Map.Terrain), .fr (dat 1 eI zI v15.Map.Rivers), .fr (dat 1 eI zI v15.Map.Roads)] false), (13, .var [.int .i64 v17.Turn, .int .i64 v17.Weather, .fr (dat 4 eTUnit zTUnit v17.Units)] false), (1001, ar 1 eI zI v19.1)] id ?_
       refine turn (E := [(2, cI p2), (3, cI p3), (4, pk 4), (5, pk 5), (10, .c (.old (dat 1 eI zI v13.1))), (11, cB v13.2), (12, pk 12), (13, pk 13), (14, ow 1001 1 v19.1), (15, cB v19.2), (16, cI 1)]) (E' := [(2, cI p2), (3, cI p3), (4, pk 4), (5, pk 5), (10, dc 1 eI zI v13.1), (11, cB v13.2), (12, pk 12), (13, pk 13), (14, ow 1001 1 v19.1), (15, cB v19.2), (16, cI 1)]) (H := [(4, .var [.old (dat 5 eTTerrain zTTerrain p0.Rules.Terrains), .old (dat 6 eTKind zTKind p0.Rules.Kinds), .int .i64 p0.Rules.Stack, .int .i64 p0.Rules.River, .int .i64 p0.Rules.Road, .int .i64 p0.Rules.Supply, .int .i64 p0.Rules.Turns, .int .i64 p0.Map.Width, .int .i64 p0.Map.Height, .old (dat 1 eI zI p0.Map.Terrain), .old (dat 1 eI zI p0.Map.Rivers), .old (dat 1 eI zI p0.Map.Roads)] false), (5, .var [.int .i64 p1.Turn, .int .i64 p1.Weather, .old (dat 4 eTUnit zTUnit p1.Units)] false), (12, .var [.fr (dat 5 eTTerrain zTTerrain v15.Rules.Terrains), .fr (dat 6 eTKind zTKind v15.Rules.Kinds), .int .i64 v15.Rules.Stack, .int .i64 v15.Rules.River, .int .i64 v15.Rules.Road, .int .i64 v15.Rules.Supply, .int .i64 v15.Rules.Turns, .int .i64 v15.Map.Width, .int .i64 v15.Map.Height, .fr (dat 1 eI zI v15.Map.Terrain), .fr (dat 1 eI zI v15.Map.Rivers), .fr (dat 1 eI zI v15.Map.Roads)] false), (13, .var [.int .i64 v17.Turn, .int .i64 v17.Weather, .fr (dat 4 eTUnit zTUnit v17.Units)] false), (1001, ar 1 eI zI v19.1)]) (H' := [(4, va (eTBoard p0)), (5, va (eTState p1)), (12, .var [.lv (dat 5 eTTerrain zTTerrain v15.Rules.Terrains), .lv (dat 6 eTKind zTKind v15.Rules.Kinds), .int .i64 v15.Rules.Stack, .int .i64 v15.Rules.River, .int .i64 v15.Rules.Road, .int .i64 v15.Rules.Supply, .int .i64 v15.Rules.Turns, .int .i64 v15.Map.Width, .int .i64 v15.Map.Height, .lv (dat 1 eI zI v15.Map.Terrain), .lv (dat 1 eI zI v15.Map.Rivers), .lv (dat 1 eI zI v15.Map.Roads)] false), (13, .var [.int .i64 v17.Turn, .int .i64 v17.Weather, .lv (dat 4 eTUnit zTUnit v17.Units)] false), (1001, ar 1 eI zI v19.1)]) glTn (And.intro (And.intro rfl (tS (.int .i64 p2) rfl)) (And.intro (And.intro rfl (tS (.int .i64 p3) rfl)) (And.intro (And.intro rfl (tS (.pk 4 0) rfl)) (And.intro (And.intro rfl (tS (.pk 5 0) rfl)) (And.intro (And.intro rfl (tO (dat 1 eI zI v13.1))) (And.intro (And.intro rfl (tS (.bool v13.2) rfl)) (And.intro (And.intro rfl (tS (.pk 12 0) rfl)) (And.intro (And.intro rfl (tS (.pk 13 0) rfl)) (And.intro (And.intro rfl (tS (.own 1001 1 0 v19.1.length) rfl)) (And.intro (And.intro rfl (tS (.bool v19.2) rfl)) (And.intro (And.intro rfl (tS (.int .i64 1) rfl)) trivial))))))))))) (And.intro (And.intro rfl (And.intro (tO (dat 5 eTTerrain zTTerrain p0.Rules.Terrains)) (And.intro (tO (dat 6 eTKind zTKind p0.Rules.Kinds)) (And.intro (tS (.int .i64 p0.Rules.Stack) rfl) (And.intro (tS (.int .i64 p0.Rules.River) rfl) (And.intro (tS (.int .i64 p0.Rules.Road) rfl) (And.intro (tS (.int .i64 p0.Rules.Supply) rfl) (And.intro (tS (.int .i64 p0.Rules.Turns) rfl) (And.intro (tS (.int .i64 p0.Map.Width) rfl) (And.intro (tS (.int .i64 p0.Map.Height) rfl) (And.intro (tO (dat 1 eI zI p0.Map.Terrain)) (And.intro (tO (dat 1 eI zI p0.Map.Rivers)) (And.intro (tO (dat 1 eI zI p0.Map.Roads)) trivial))))))))))))) (And.intro (And.intro rfl (And.intro (tS (.int .i64 p1.Turn) rfl) (And.intro (tS (.int .i64 p1.Weather) rfl) (And.intro (tO (dat 4 eTUnit zTUnit p1.Units)) trivial)))) (And.intro (And.intro rfl (And.intro (tF (dat 5 eTTerrain zTTerrain v15.Rules.Terrains) rfl (.dat shTTerrain)) (And.intro (tF (dat 6 eTKind zTKind v15.Rules.Kinds) rfl (.dat shTKind)) (And.intro (tS (.int .i64 v15.Rules.Stack) rfl) (And.intro (tS (.int .i64 v15.Rules.River) rfl) (And.intro (tS (.int .i64 v15.Rules.Road) rfl) (And.intro (tS (.int .i64 v15.Rules.Supply) rfl) (And.intro (tS (.int .i64 v15.Rules.Turns) rfl) (And.intro (tS (.int .i64 v15.Map.Width) rfl) (And.intro (tS (.int .i64 v15.Map.Height) rfl) (And.intro (tF (dat 1 eI zI v15.Map.Terrain) rfl (.dat shI)) (And.intro (tF (dat 1 eI zI v15.Map.Rivers) rfl (.dat shI)) (And.intro (tF (dat 1 eI zI v15.Map.Roads) rfl (.dat shI)) trivial))))))))))))) (And.intro (And.intro rfl (And.intro (tS (.int .i64 v17.Turn) rfl) (And.intro (tS (.int .i64 v17.Weather) rfl) (And.intro (tF (dat 4 eTUnit zTUnit v17.Units) rfl (.dat shTUnit)) trivial)))) (And.intro (And.intro rfl ⟨rfl, rfl, rfl, fun i _ => rfl⟩) trivial))))) ?_
       obtain ⟨v49, h50, H⟩ := ofBind H
       refine so [.res (cI v49)] [] [(2, cI p2), (3, cI p3), (4, pk 4), (5, pk 5), (10, dc 1 eI zI v13.1), (11, cB v13.2), (13, pk 13), (14, ow 1001 1 v19.1), (15, cB v19.2), (16, cI v49)] [(4, va (eTBoard p0)), (5, va (eTState p1)), (13, .var [.int .i64 v17.Turn, .int .i64 v17.Weather, .lv (dat 4 eTUnit zTUnit v17.Units)] false), (1001, ar 1 eI zI v19.1)] (aI ((l_markBoard_L_ok v15 1 v49 h50).up glTs)) ?_
       obtain ⟨v51, h52, H⟩ := ofBind H
       refine so [.res (cI v51)] [] [(2, cI p2), (3, cI p3), (4, pk 4), (5, pk 5), (10, dc 1 eI zI v13.1), (11, cB v13.2), (14, ow 1001 1 v19.1), (15, cB v19.2), (16, cI v51)] [(4, va (eTBoard p0)), (5, va (eTState p1)), (1001, ar 1 eI zI v19.1)] (aI ((l_markState_L_ok v17 v49 v51 h52).up glTs)) ?_
       refine seq_in ?_
       rcases ofCond H with ⟨c57, H⟩ | ⟨c57, H⟩
       ·refine so [.g true, .g true, .g true, .g true, .g true, .g true, .g true, .g true, .g true] [] [(2, cI p2), (3, cI p3), (4, pk 4), (5, pk 5), (10, dc 1 eI zI v13.1), (11, cB v13.2), (14, ow 1001 1 v19.1), (90, cB true)] [(4, va (eTBoard p0)), (5, va (eTState p1)), (1001, ar 1 eI zI v19.1)] (fun t => aI c57 (aI c57 (aI c57 (aI c57 (aI c57 (aI (rfl : (true : Bool) = true) (aI (rfl : (true : Bool) = true) (aI (rfl : (true : Bool) = true) (aI (rfl : (true : Bool) = true) (t)))))))))) ?_
        refine it (rfl : (true : Bool) = true) ?_
        refine so [] [] [(8, cB false)] [] id ?_
        refine ends_ret ?_
        cases H
       ·obtain ⟨v58, h59, H⟩ := ofBind H
        rcases ofCond H with ⟨c60, H⟩ | ⟨c60, H⟩
        ·refine so [.g false, .g false, .g false, .res (cB v58), .g false, .g false, .g true, .g true, .g true, .g true] [] [(2, cI p2), (3, cI p3), (4, pk 4), (5, pk 5), (10, dc 1 eI zI v13.1), (11, cB v13.2), (14, ow 1001 1 v19.1), (90, cB true)] [(4, va (eTBoard p0)), (5, va (eTState p1)), (1001, ar 1 eI zI v19.1)] (fun t => aI c57 (aI c57 (aI c57 (aI (Nat.le_refl v19.1.length) (aI ((l_eqIntS_ok v19.1 v13.1 v58 h59).up glTs) (aI c57 (aI c57 (aI c60 (aI c60 (aI c60 (aI c60 (t)))))))))))) ?_
         refine it (rfl : (true : Bool) = true) ?_
         refine so [] [] [(8, cB false)] [] id ?_
         refine ends_ret ?_
         cases H
        ·refine so [.g false, .g false, .g false, .res (cB v58), .g false, .g false, .g false, .g false, .g false, .g false] [] [(2, cI p2), (3, cI p3), (4, pk 4), (5, pk 5), (10, dc 1 eI zI v13.1), (11, cB v13.2), (14, ow 1001 1 v19.1), (90, cB (!(v19.2 == v13.2)))] [(4, va (eTBoard p0)), (5, va (eTState p1)), (1001, ar 1 eI zI v19.1)] (fun t => aI c57 (aI c57 (aI c57 (aI (Nat.le_refl v19.1.length) (aI ((l_eqIntS_ok v19.1 v13.1 v58 h59).up glTs) (aI c57 (aI c57 (aI c60 (aI c60 (aI c60 (aI c60 (t)))))))))))) ?_
         refine jf c28 ?_
         refine sk ?_
         refine so [] [] [(2, cI p2), (3, cI p3), (4, pk 4), (5, pk 5), (10, dc 1 eI zI v13.1), (11, cB v13.2), (14, ow 1001 1 v19.1), (17, cI 1)] [(4, va (eTBoard p0)), (5, va (eTState p1)), (1001, ar 1 eI zI v19.1)] id ?_
         obtain ⟨v61, h62, H⟩ := ofBind H
         obtain ⟨g63, H⟩ := ofIf H
         refine so [.mu [(1001, 1000000)] [(1000000, 1001)] (cI v61.1) [(1000000, ar 1 eI zI v61.2)]] [.rel 14 v61.2.length, .rel 91 v61.2.length] [(2, cI p2), (3, cI p3), (4, pk 4), (5, pk 5), (10, dc 1 eI zI v13.1), (11, cB v13.2), (14, ow 1001 1 v61.2), (17, cI v61.1)] [(4, va (eTBoard p0)), (5, va (eTState p1)), (1001, ar 1 eI zI v61.2)] (fun t => aI ((l_markIntS_Mod_ok v19.1 1 v61 h62).up glTs) (aI (Eq.symm g63) (aI (Eq.symm g63) (t)))) ?_
         refine so [] [] [(2, cI p2), (3, cI p3), (4, pk 4), (5, pk 5), (10, dc 1 eI zI v13.1), (11, cB v13.2), (14, ow 1001 1 v61.2), (17, cI v61.1), (18, cI 1)] [(4, va (eTBoard p0)), (5, va (eTState p1)), (1001, ar 1 eI zI v61.2)] id ?_
         obtain ⟨v64, h65, H⟩ := ofBind H
         refine so [.res (cI v64)] [] [(2, cI p2), (3, cI p3), (4, pk 4), (5, pk 5), (10, dc 1 eI zI v13.1), (11, cB v13.2), (14, ow 1001 1 v61.2), (17, cI v61.1), (18, cI v64)] [(4, va (eTBoard p0)), (5, va (eTState p1)), (1001, ar 1 eI zI v61.2)] (fun t => aI (Nat.le_refl v61.2.length) (aI ((l_heldIntS_ok v61.2 1 v64 h65).up glTs) (t))) ?_
         refine seq_in ?_
         refine so [] [] [(2, cI p2), (3, cI p3), (4, pk 4), (5, pk 5), (10, dc 1 eI zI v13.1), (11, cB v13.2), (14, ow 1001 1 v61.2), (17, cI v61.1), (18, cI v64), (98, cB (decide (v64 < 0)))] [(4, va (eTBoard p0)), (5, va (eTState p1)), (1001, ar 1 eI zI v61.2)] id ?_
         rcases ofCond H with ⟨c67, H⟩ | ⟨c67, H⟩
         ·refine it c67 ?_
          refine so [] [] [(8, cB false)] [] id ?_
          refine ends_ret ?_
          cases H
         ·refine jf c67 ?_
          refine sk ?_
          refine seq_in ?_
          refine so [] [] [(2, cI p2), (3, cI p3), (4, pk 4), (5, pk 5), (10, dc 1 eI zI v13.1), (11, cB v13.2), (14, ow 1001 1 v61.2), (17, cI v61.1), (101, cB (v64 != v61.1))] [(4, va (eTBoard p0)), (5, va (eTState p1)), (1001, ar 1 eI zI v61.2)] id ?_
          rcases ofCond H with ⟨c69, H⟩ | ⟨c69, H⟩
          ·refine it c69 ?_
           refine so [] [] [(8, cB false)] [] id ?_
           refine ends_ret ?_
           cases H
          ·refine jf c69 ?_
           refine sk ?_
           obtain ⟨v70, h71, H⟩ := ofBind H
           obtain ⟨v72, h73, H⟩ := ofBind H
           obtain ⟨v74, h75, H⟩ := ofBind H
           refine sd [.res (.agg [.fr (dat 5 eTTerrain zTTerrain v70.Rules.Terrains), .fr (dat 6 eTKind zTKind v70.Rules.Kinds), .int .i64 v70.Rules.Stack, .int .i64 v70.Rules.River, .int .i64 v70.Rules.Road, .int .i64 v70.Rules.Supply, .int .i64 v70.Rules.Turns, .int .i64 v70.Map.Width, .int .i64 v70.Map.Height, .fr (dat 1 eI zI v70.Map.Terrain), .fr (dat 1 eI zI v70.Map.Rivers), .fr (dat 1 eI zI v70.Map.Roads)]), .res (.agg [.int .i64 v72.Turn, .int .i64 v72.Weather, .fr (dat 4 eTUnit zTUnit v72.Units)]), .res (.tup [(false, [dat 1 eI zI v74.1]), (false, [.bool v74.2])])] [] [(10, dc 1 eI zI v13.1), (11, cB v13.2), (14, ow 1001 1 v61.2), (17, cI v61.1), (19, dc 1 eI zI v74.1), (20, cB v74.2)] [(1001, ar 1 eI zI v61.2)] (fun t => aI ((l_toBoard_F_ok p0 v70 h71).up glTs) (aI (rfl : ([] : List Nat) = []) (aI (rfl : ([] : List Nat) = []) (aI ((l_toState_F_ok p1 v72 h73).up glTs) (aI (rfl : ([] : List Nat) = []) (aI (rfl : ([] : List Nat) = []) (aI ((FnOk.le2 (xs := [.agg [.fr (dat 5 eTTerrain zTTerrain v70.Rules.Terrains), .fr (dat 6 eTKind zTKind v70.Rules.Kinds), .int .i64 v70.Rules.Stack, .int .i64 v70.Rules.River, .int .i64 v70.Rules.Road, .int .i64 v70.Rules.Supply, .int .i64 v70.Rules.Turns, .int .i64 v70.Map.Width, .int .i64 v70.Map.Height, .fr (dat 1 eI zI v70.Map.Terrain), .fr (dat 1 eI zI v70.Map.Rivers), .fr (dat 1 eI zI v70.Map.Roads)], .agg [.int .i64 v72.Turn, .int .i64 v72.Weather, .fr (dat 4 eTUnit zTUnit v72.Units)], cI p2, cI p3]) (i_SpottersOf_ok v70 v72 p2 p3 v74 h75) ⟨LeD.agg (And.intro (LeC.fr _) (And.intro (LeC.fr _) (And.intro (LeC.refl _) (And.intro (LeC.refl _) (And.intro (LeC.refl _) (And.intro (LeC.refl _) (And.intro (LeC.refl _) (And.intro (LeC.refl _) (And.intro (LeC.refl _) (And.intro (LeC.fr _) (And.intro (LeC.fr _) (And.intro (LeC.fr _) (trivial))))))))))))), LeD.agg (And.intro (LeC.refl _) (And.intro (LeC.refl _) (And.intro (LeC.fr _) (trivial)))), LeD.refl _, LeD.refl _, trivial⟩).up glTs) (aI (rfl : ([] : List Nat) = []) (aI (rfl : ([] : List Nat) = []) (t)))))))))) ?_
           refine seq_in ?_
           obtain ⟨v80, h81, H⟩ := ofBind H
           rcases ofCond H with ⟨c82, H⟩ | ⟨c82, H⟩
           ·refine so [.res (cB v80), .g true, .g true, .g true, .g true] [] [(14, ow 1001 1 v61.2), (17, cI v61.1), (120, cB true)] [(1001, ar 1 eI zI v61.2)] (fun t => aI ((l_eqIntS_ok v74.1 v13.1 v80 h81).up glTs) (aI c82 (aI c82 (aI c82 (aI c82 (t)))))) ?_
            refine it (rfl : (true : Bool) = true) ?_
            refine so [] [] [(8, cB false)] [] id ?_
            refine ends_ret ?_
            cases H
           ·refine so [.res (cB v80), .g false, .g false, .g false, .g false] [] [(14, ow 1001 1 v61.2), (17, cI v61.1), (120, cB (!(v74.2 == v13.2)))] [(1001, ar 1 eI zI v61.2)] (fun t => aI ((l_eqIntS_ok v74.1 v13.1 v80 h81).up glTs) (aI c82 (aI c82 (aI c82 (aI c82 (t)))))) ?_
            rcases ofCond H with ⟨c83, H⟩ | ⟨c83, H⟩
            ·refine it c83 ?_
             refine so [] [] [(8, cB false)] [] id ?_
             refine ends_ret ?_
             cases H
            ·refine jf c83 ?_
             refine sk ?_
             refine so [] [] [(14, ow 1001 1 v61.2), (17, cI v61.1), (18, cI 1)] [(1001, ar 1 eI zI v61.2)] id ?_
             obtain ⟨v84, h85, H⟩ := ofBind H
             refine so [.res (cI v84)] [] [(17, cI v61.1), (18, cI v84)] [] (fun t => aI (Nat.le_refl v61.2.length) (aI ((l_heldIntS_ok v61.2 1 v84 h85).up glTs) (t))) ?_
             refine seq_in ?_
             refine so [] [] [(17, cI v61.1), (18, cI v84), (125, cB (decide (v84 < 0)))] [] id ?_
             rcases ofCond H with ⟨c87, H⟩ | ⟨c87, H⟩
             ·refine it c87 ?_
              refine so [] [] [(8, cB false)] [] id ?_
              refine ends_ret ?_
              cases H
             ·refine jf c87 ?_
              refine sk ?_
              refine seq_in ?_
              refine so [] [] [(128, cB (v84 != v61.1))] [] id ?_
              rcases ofCond H with ⟨c88, H⟩ | ⟨c88, H⟩
              ·refine it c88 ?_
               refine so [] [] [(8, cB false)] [] id ?_
               refine ends_ret ?_
               cases H
              ·refine jf c88 ?_
               refine sk ?_
               refine so [] [] [(8, cB true)] [] id ?_
               refine ends_ret ?_
               exact And.intro (.inl rfl) rfl
end Go.Proofs.YtociagbpecpcnaaGreatDoor.X0
