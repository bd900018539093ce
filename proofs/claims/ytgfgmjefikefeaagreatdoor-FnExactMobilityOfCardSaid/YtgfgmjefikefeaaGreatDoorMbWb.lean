/- What each function that FnExactMobilityOf reaches computes; no condition. -/
import Derived.Test.YtgfgmjefikefeaaGreatDoorMbWa
set_option linter.unusedVariables false
set_option linter.unusedSimpArgs false
set_option maxRecDepth 100000
namespace Go.Proofs.YtgfgmjefikefeaaGreatDoor.X0
open Go Go.RowKit Go.Proofs.YtgfgmjefikefeaaGreatDoor.Ab Go.Proofs

def i_IsMap_ir : S :=
 (sq [o 1 (.box 5 (.t 0)), o 2 (.mv bF)]
 (.seq (sq [oa 9 0 1, ol 10 9, o 11 (.call 69 [.t 10, .v (.int .i64 1), .v (.int .i64 10)]), o 12 (.not (.t 11)), om 13 12, og 14 (.fad 1 (.t 1)) 13, og 15 (.load 1 false (.t 14)) 13, og 16 (.call 69 [.t 15, .v (.int .i64 1), .v (.int .i64 10)]) 13, og 17 (.not (.t 16)) 13, o 18 (.pick (.t 13) bT (.t 17)), om 19 18, og 20 (.fad 2 (.t 1)) 19, og 21 (.load 1 false (.t 20)) 19, og 22 (.len (.t 21)) 19, og 23 (.fad 0 (.t 1)) 19, og 24 (.load 1 false (.t 23)) 19, og 25 (.fad 1 (.t 1)) 19, og 26 (.load 1 false (.t 25)) 19, og 27 (.bin .mul (.t 24) (.t 26)) 19, og 28 (.bin .neq (.t 22) (.t 27)) 19, o 29 (.pick (.t 19) bT (.t 28))]
 (.ite (.t 29) (sq [o 2 (.mv bF)]
  .ret)
 .skip))
 (.seq (sq [oa 30 2 1, ol 31 30, o 32 (.len (.t 31)), o 33 (.mv (iv 0))]
 (.blk 0 (.loop (sq [o 34 (.bin .lss (.t 33) (.t 32))]
   (.seq (.ite (.t 34) .skip
   (.exit 0))
   (.seq (.blk 1 (sq [o 35 (.iad 1 (.t 31) (.t 33)), ol 36 35, om 4 36]
    (sq [om 37 4, o 38 (.call 40 [.t 37, .v (.int .i64 6)]), o 39 (.not (.t 38))]
    (.ite (.t 39) (sq [o 2 (.mv bF)]
     .ret)
    .skip))))
   (.ops [o 40 (.bin .add (.t 33) (iv 1)), om 33 40])))))))
 (.seq (sq [oa 41 3 1, ol 42 41, oa 43 4 1, ol 44 43, o 45 (.bsl 1 [.t 42, .t 44]), o 46 (.len (.t 45)), o 47 (.mv (iv 0))]
 (.blk 2 (.loop (sq [o 48 (.bin .lss (.t 47) (.t 46))]
   (.seq (.ite (.t 48) .skip
   (.exit 2))
   (.seq (.blk 3 (sq [o 49 (.iad 1 (.t 45) (.t 47)), ol 50 49, om 6 50]
    (.seq (sq [om 51 6, o 52 (.call 171 [.t 51]), o 53 (.not (.t 52))]
    (.ite (.t 53) (sq [o 2 (.mv bF)]
     .ret)
    .skip))
    (sq [om 54 6, o 55 (.len (.t 54)), o 56 (.mv (iv 0))]
    (.blk 4 (.loop (sq [o 57 (.bin .lss (.t 56) (.t 55))]
      (.seq (.ite (.t 57) .skip
      (.exit 4))
      (.seq (.blk 5 (sq [o 58 (.iad 1 (.t 54) (.t 56)), ol 59 58, om 8 59]
       (sq [o 60 (.load 5 true (.t 1)), om 61 8, o 62 (.call 172 [.t 60, .t 61]), o 63 (.not (.t 62))]
       (.ite (.t 63) (sq [o 2 (.mv bF)]
        .ret)
       .skip))))
      (.ops [o 64 (.bin .add (.t 56) (iv 1)), om 56 64]))))))))))
   (.ops [o 65 (.bin .add (.t 47) (iv 1)), om 47 65])))))))
 (sq [o 2 (.mv bT)]
 .ret)))))
noncomputable def X.i_IsMap (p0 : TMap) : Option Bool :=
 ((X.i_inRange p0.Width 1 10).bind fun v8 => (bif (!v8) then some false else ((X.i_inRange p0.Height 1 10).bind fun v11 => (bif (!v11) then some false else (bif ((p0.Terrain.length : Int) != (W (p0.Width * p0.Height))) then some false else ((loop (fun (x57 : Int) => ((bif (decide (x57 < (p0.Terrain.length : Int))) then ((at' zI p0.Terrain x57).bind fun v60 => ((X.i_isIndex v60 6).bind fun v62 => (bif (!v62) then some (Sum.inr (Sum.inr false)) else some (Sum.inl (W (x57 + 1)))))) else some (Sum.inr (Sum.inl ()))) : Option (Int ⊕ (Unit ⊕ Bool)))) 0).bind fun y65 => (Sum.elim (fun (y67 : Unit) => ((loop (fun (x142 : Int) => ((bif (decide (x142 < (([p0.Rivers, p0.Roads] : List (List Int)).length : Int))) then (if 0 ≤ x142 ∧ x142 < (([p0.Rivers, p0.Roads] : List (List Int)).length : Int) then ((X.i_increasing (([p0.Rivers, p0.Roads] : List (List Int)).getD x142.toNat zLI)).bind fun v149 => (bif (!v149) then some (Sum.inr (Sum.inr false)) else ((loop (fun (x167 : Int) => ((bif (decide (x167 < ((([p0.Rivers, p0.Roads] : List (List Int)).getD x142.toNat zLI).length : Int))) then ((at' zI (([p0.Rivers, p0.Roads] : List (List Int)).getD x142.toNat zLI) x167).bind fun v170 => ((X.i_isEdge p0 v170).bind fun v172 => (bif (!v172) then some (Sum.inr (Sum.inr false)) else some (Sum.inl (W (x167 + 1)))))) else some (Sum.inr (Sum.inl ()))) : Option (Int ⊕ (Unit ⊕ Bool)))) 0).bind fun y175 => (Sum.elim (fun (y177 : Unit) => some (Sum.inl (W (x142 + 1)))) (fun (y178 : Bool) => some (Sum.inr (Sum.inr y178))) y175)))) else none) else some (Sum.inr (Sum.inl ()))) : Option (Int ⊕ (Unit ⊕ Bool)))) 0).bind fun y179 => (Sum.elim (fun (y181 : Unit) => some true) (fun (y182 : Bool) => some y182) y179))) (fun (y68 : Bool) => some y68) y65)))))))
theorem i_IsMap_ok (p0 : TMap) (r : Bool) (H : X.i_IsMap p0 = some r) : FK 135 [.agg (eTMap p0)] (cB r) := by
 unfold X.i_IsMap at H
 refine fi Tryz.f135 i_IsMap_ir [(2, cB r)] [] glL Tryz.func135 ?_
 refine so [] [] [(1, pk 1)] [(1, va (eTMap p0))] id ?_
 refine seq_in ?_
 obtain ⟨v8, h9, H⟩ := oB H
 rcases oC H with ⟨c10, H⟩ | ⟨c10, H⟩
 ·refine sn ([.res (cB v8)] ++ rg 15 true []) [] [(29, cB true)] [] [] (fun t => aI (i_inRange_ok p0.Width 1 10 v8 h9) (aG 5 c10 (aG 10 rT (t)))) ?_
  refine it rT ?_
  refine so [] [] [(2, cB false)] [] id ?_
  cases H
  exact er
 ·obtain ⟨v11, h12, H⟩ := oB H
  rcases oC H with ⟨c13, H⟩ | ⟨c13, H⟩
  ·refine sn ([.res (cB v8)] ++ rg 3 false ([.res (cB v11)] ++ rg 2 false (rg 10 true []))) [] [(29, cB true)] [] [] (fun t => aI (i_inRange_ok p0.Width 1 10 v8 h9) (aG 3 c10 (aI (i_inRange_ok p0.Height 1 10 v11 h12) (aG 2 c10 (aG 10 c13 (t)))))) ?_
   refine it rT ?_
   refine so [] [] [(2, cB false)] [] id ?_
   cases H
   exact er
  ·refine sn ([.res (cB v8)] ++ rg 3 false ([.res (cB v11)] ++ rg 12 false [])) [] [(29, cB ((p0.Terrain.length : Int) != (W (p0.Width * p0.Height))))] [] [] (fun t => aI (i_inRange_ok p0.Width 1 10 v8 h9) (aG 3 c10 (aI (i_inRange_ok p0.Height 1 10 v11 h12) (aG 2 c10 (aG 3 c13 (lI p0.Terrain (aG 7 c13 (t)))))))) ?_
   rcases oC H with ⟨c14, H⟩ | ⟨c14, H⟩
   ·refine it c14 ?_
    refine so [] [] [(2, cB false)] [] id ?_
    cases H
    exact er
   ·refine jf c14 ?_
    refine sk ?_
    refine seq_in ?_
    refine sn [] [] [(31, dc 1 eI zI p0.Terrain), (32, cL p0.Terrain), (33, cI 0)] [] [] (fun t => lI p0.Terrain (t)) ?_
    refine ends_blk ?_
    obtain ⟨y65, h66, H⟩ := oB H
    refine tl [] [(1, pk 1), (31, dc 1 eI zI p0.Terrain), (32, cL p0.Terrain), (33, cI 0)] [(1, va (eTMap p0))] id ?_
    refine loop_in (fun (x : Int) => lit [(1, pk 1), (31, dc 1 eI zI p0.Terrain), (32, cL p0.Terrain), (33, cI x)] [(1, va (eTMap p0))]) (orJ (fun (z : Unit) => At (.exit 0) (lit [(1, pk 1)] [(1, va (eTMap p0))])) (fun (z : Bool) => At .ret (lit [(2, cB z)] []))) h66 ?_ ?_
    ·clear H h66
     intro x57 y0 H
     refine sn [] [] [(34, cB (decide (x57 < (p0.Terrain.length : Int))))] [] [] id ?_
     refine seq_in ?_
     rcases oC H with ⟨c59, H⟩ | ⟨c59, H⟩
     ·refine it c59 ?_
      refine sk ?_
      refine seq_in ?_
      refine ends_blk ?_
      obtain ⟨v60, h61, H⟩ := oB H
      refine sn [.cs (eI v60)] [] [(4, cI v60)] [] [] (a2 eI h61) ?_
      obtain ⟨v62, h63, H⟩ := oB H
      refine sn [.res (cB v62)] [] [(39, cB (!v62))] [] [] (aI (i_isIndex_ok v60 6 v62 h63)) ?_
      rcases oC H with ⟨c64, H⟩ | ⟨c64, H⟩
      ·refine it c64 ?_
       refine so [] [] [(2, cB false)] [] id ?_
       refine ends_ret ?_
       cases H
       exact rsr
      ·refine jf c64 ?_
       refine sk ?_
       refine oo [] [] [(1, pk 1), (31, dc 1 eI zI p0.Terrain), (32, cL p0.Terrain), (33, cI (W (x57 + 1)))] [(1, va (eTMap p0))] id ?_
       cases H
       exact rr
     ·refine jf c59 ?_
      refine tl [] [(1, pk 1)] [(1, va (eTMap p0))] id ?_
      refine ends_exit ?_
      cases H
      exact rse
    ·clear h66
     cases y65 with
     | inl y67 =>
      replace H := ofInl H
      rintro e s ⟨rfl, rfl⟩
      change EndsI _ _ _ _ _ _
      refine seq_in ?_
      refine sn [fh eLI zLI ([p0.Rivers, p0.Roads] : List (List Int))] [] [(45, ow 45 1 ([p0.Rivers, p0.Roads] : List (List Int))), (46, cL ([p0.Rivers, p0.Roads] : List (List Int))), (47, cI 0)] [] [(45, ar 1 eLI zLI ([p0.Rivers, p0.Roads] : List (List Int)))] (fun t => aI (rfl : ([p0.Rivers, p0.Roads] : List (List Int)).length = 2) (aI (fF_lit eLI zLI ([p0.Rivers, p0.Roads] : List (List Int))) ((fun (_ : ([p0.Rivers, p0.Roads] : List (List Int)).length ≤ maxLen) => t)))) ?_
      refine ends_blk ?_
      obtain ⟨y179, h180, H⟩ := oB H
      refine tl [] [(1, pk 1), (45, ow 45 1 ([p0.Rivers, p0.Roads] : List (List Int))), (46, cL ([p0.Rivers, p0.Roads] : List (List Int))), (47, cI 0)] [(1, va (eTMap p0)), (45, ar 1 eLI zLI ([p0.Rivers, p0.Roads] : List (List Int)))] id ?_
      refine loop_in (fun (x : Int) => lit [(1, pk 1), (45, ow 45 1 ([p0.Rivers, p0.Roads] : List (List Int))), (46, cL ([p0.Rivers, p0.Roads] : List (List Int))), (47, cI x)] [(1, va (eTMap p0)), (45, ar 1 eLI zLI ([p0.Rivers, p0.Roads] : List (List Int)))]) (orJ (fun (z : Unit) => At (.exit 2) (lit [] [])) (fun (z : Bool) => At .ret (lit [(2, cB z)] []))) h180 ?_ ?_
      ·clear H h180
       intro x142 y0 H
       refine sn [] [] [(48, cB (decide (x142 < (([p0.Rivers, p0.Roads] : List (List Int)).length : Int))))] [] [] id ?_
       refine seq_in ?_
       rcases oC H with ⟨c144, H⟩ | ⟨c144, H⟩
       ·refine it c144 ?_
        refine sk ?_
        refine seq_in ?_
        refine ends_blk ?_
        obtain ⟨g145, H⟩ := oI H
        refine sn [.no] [] [(6, .c (dat 1 eI zI (([p0.Rivers, p0.Roads] : List (List Int)).getD x142.toNat zLI)))] [] [] (fun t => aI g145 (aI (nat_lt g145) (t))) ?_
        refine seq_in ?_
        obtain ⟨v149, h150, H⟩ := oB H
        refine sn [.res (cB v149)] [] [(53, cB (!v149))] [] [] (aI (i_increasing_ok (([p0.Rivers, p0.Roads] : List (List Int)).getD x142.toNat zLI) v149 h150)) ?_
        rcases oC H with ⟨c151, H⟩ | ⟨c151, H⟩
        ·refine it c151 ?_
         refine so [] [] [(2, cB false)] [] id ?_
         refine ends_ret ?_
         cases H
         exact rsr
        ·refine jf c151 ?_
         refine sk ?_
         refine sn [] [] [(54, .c (dat 1 eI zI (([p0.Rivers, p0.Roads] : List (List Int)).getD x142.toNat zLI))), (55, cL (([p0.Rivers, p0.Roads] : List (List Int)).getD x142.toNat zLI)), (56, cI 0)] [] [] (fun t => (fun (_ : (([p0.Rivers, p0.Roads] : List (List Int)).getD x142.toNat zLI).length ≤ maxLen) => t)) ?_
         refine ends_blk ?_
         obtain ⟨y175, h176, H⟩ := oB H
         refine tl [] [(1, pk 1), (45, ow 45 1 ([p0.Rivers, p0.Roads] : List (List Int))), (46, cL ([p0.Rivers, p0.Roads] : List (List Int))), (47, cI x142), (54, .c (dat 1 eI zI (([p0.Rivers, p0.Roads] : List (List Int)).getD x142.toNat zLI))), (55, cL (([p0.Rivers, p0.Roads] : List (List Int)).getD x142.toNat zLI)), (56, cI 0)] [(1, va (eTMap p0)), (45, ar 1 eLI zLI ([p0.Rivers, p0.Roads] : List (List Int)))] id ?_
         refine loop_in (fun (x : Int) => lit [(1, pk 1), (45, ow 45 1 ([p0.Rivers, p0.Roads] : List (List Int))), (46, cL ([p0.Rivers, p0.Roads] : List (List Int))), (47, cI x142), (54, .c (dat 1 eI zI (([p0.Rivers, p0.Roads] : List (List Int)).getD x142.toNat zLI))), (55, cL (([p0.Rivers, p0.Roads] : List (List Int)).getD x142.toNat zLI)), (56, cI x)] [(1, va (eTMap p0)), (45, ar 1 eLI zLI ([p0.Rivers, p0.Roads] : List (List Int)))]) (orJ (fun (z : Unit) => At (.exit 4) (lit [(1, pk 1), (45, ow 45 1 ([p0.Rivers, p0.Roads] : List (List Int))), (46, cL ([p0.Rivers, p0.Roads] : List (List Int))), (47, cI x142)] [(1, va (eTMap p0)), (45, ar 1 eLI zLI ([p0.Rivers, p0.Roads] : List (List Int)))])) (fun (z : Bool) => At .ret (lit [(2, cB z)] []))) h176 ?_ ?_
         ·clear H h176
          intro x167 y0 H
          refine sn [] [] [(57, cB (decide (x167 < ((([p0.Rivers, p0.Roads] : List (List Int)).getD x142.toNat zLI).length : Int))))] [] [] id ?_
          refine seq_in ?_
          rcases oC H with ⟨c169, H⟩ | ⟨c169, H⟩
          ·refine it c169 ?_
           refine sk ?_
           refine seq_in ?_
           refine ends_blk ?_
           obtain ⟨v170, h171, H⟩ := oB H
           refine sn [.cs (eI v170)] [] [(8, cI v170)] [] [] (a2 eI h171) ?_
           obtain ⟨v172, h173, H⟩ := oB H
           refine sn [.res (cB v172)] [] [(63, cB (!v172))] [] [] (aI (i_isEdge_ok p0 v170 v172 h173)) ?_
           rcases oC H with ⟨c174, H⟩ | ⟨c174, H⟩
           ·refine it c174 ?_
            refine so [] [] [(2, cB false)] [] id ?_
            refine ends_ret ?_
            cases H
            exact rsr
           ·refine jf c174 ?_
            refine sk ?_
            refine oo [] [] [(1, pk 1), (45, ow 45 1 ([p0.Rivers, p0.Roads] : List (List Int))), (46, cL ([p0.Rivers, p0.Roads] : List (List Int))), (47, cI x142), (54, .c (dat 1 eI zI (([p0.Rivers, p0.Roads] : List (List Int)).getD x142.toNat zLI))), (55, cL (([p0.Rivers, p0.Roads] : List (List Int)).getD x142.toNat zLI)), (56, cI (W (x167 + 1)))] [(1, va (eTMap p0)), (45, ar 1 eLI zLI ([p0.Rivers, p0.Roads] : List (List Int)))] id ?_
            cases H
            exact rr
          ·refine jf c169 ?_
           refine tl [] [(1, pk 1), (45, ow 45 1 ([p0.Rivers, p0.Roads] : List (List Int))), (46, cL ([p0.Rivers, p0.Roads] : List (List Int))), (47, cI x142)] [(1, va (eTMap p0)), (45, ar 1 eLI zLI ([p0.Rivers, p0.Roads] : List (List Int)))] id ?_
           refine ends_exit ?_
           cases H
           exact rse
         ·clear h176
          cases y175 with
          | inl y177 =>
           replace H := ofInl H
           rintro e s ⟨rfl, rfl⟩
           change EndsI _ _ _ _ _ _
           refine oo [] [] [(1, pk 1), (45, ow 45 1 ([p0.Rivers, p0.Roads] : List (List Int))), (46, cL ([p0.Rivers, p0.Roads] : List (List Int))), (47, cI (W (x142 + 1)))] [(1, va (eTMap p0)), (45, ar 1 eLI zLI ([p0.Rivers, p0.Roads] : List (List Int)))] id ?_
           cases H
           exact rr
          | inr y178 =>
           replace H := ofInr H
           rintro e s ⟨rfl, rfl⟩
           cases H
           exact rsr
       ·refine jf c144 ?_
        refine tl [] [] [] id ?_
        refine ends_exit ?_
        cases H
        exact rse
      ·clear h180
       cases y179 with
       | inl y181 =>
        replace H := ofInl H
        rintro e s ⟨rfl, rfl⟩
        change EndsI _ _ _ _ _ _
        refine so [] [] [(2, cB true)] [] id ?_
        cases H
        exact er
       | inr y182 =>
        replace H := ofInr H
        rintro e s ⟨rfl, rfl⟩
        cases H
        exact qr
     | inr y68 =>
      replace H := ofInr H
      rintro e s ⟨rfl, rfl⟩
      cases H
      exact qr
theorem g_IndexFunc_int_c1_ok (p0 : (List Int)) (cf1 : FuncId) (cs1_0 : List AC) (f1 : Int → Option Bool) (hf1 : ∀ q0 r, f1 q0 = some r → FK cf1 [cI q0, .c (.pd cs1_0 0)] (cB r)) (r : Int) (H : X.g_IndexFunc_int p0 f1 = some r) : FK 173 [.c (dat 1 eI zI p0), .c (.clo cf1 [.pd cs1_0 0])] (cI r) := by
 unfold X.g_IndexFunc_int at H
 refine fi Tryz.f173 g_IndexFunc_int_ir [(4, cI r)] [] glL Tryz.func173 ?_
 refine sn [] [] [] [] [] id ?_
 refine seq_in ?_
 refine sn [] [] [(7, cL p0), (8, cI 0)] [] [] (fun t => lI p0 (t)) ?_
 refine ends_blk ?_
 obtain ⟨y24, h25, H⟩ := oB H
 refine tl [] [(0, dc 1 eI zI p0), (1, .c (.clo cf1 [.pd cs1_0 0])), (7, cL p0), (8, cI 0)] [] id ?_
 refine loop_in (fun (x : Int) => lit [(0, dc 1 eI zI p0), (1, .c (.clo cf1 [.pd cs1_0 0])), (7, cL p0), (8, cI x)] []) (orJ (fun (z : Unit) => At (.exit 0) (lit [] [])) (fun (z : Int) => At .ret (lit [(4, cI z)] []))) h25 ?_ ?_
 ·clear H h25
  intro x16 y0 H
  refine sn [] [] [(9, cB (decide (x16 < (p0.length : Int))))] [] [] id ?_
  refine seq_in ?_
  rcases oC H with ⟨c18, H⟩ | ⟨c18, H⟩
  ·refine it c18 ?_
   refine sk ?_
   refine seq_in ?_
   refine ends_blk ?_
   refine sn [] [] [(5, cI x16)] [] [] id ?_
   obtain ⟨v19, h20, H⟩ := oB H
   obtain ⟨v21, h22, H⟩ := oB H
   refine sn [.cs (eI v19), .res (cB v21)] [] [(16, cB v21)] [] [] (fun t => (a2 eI h20 (aI (hf1 v19 v21 h22) (t)))) ?_
   rcases oC H with ⟨c23, H⟩ | ⟨c23, H⟩
   ·refine it c23 ?_
    refine so [] [] [(4, cI x16)] [] id ?_
    refine ends_ret ?_
    cases H
    exact rsr
   ·refine jf c23 ?_
    refine sk ?_
    refine oo [] [] [(0, dc 1 eI zI p0), (1, .c (.clo cf1 [.pd cs1_0 0])), (7, cL p0), (8, cI (W (x16 + 1)))] [] id ?_
    cases H
    exact rr
  ·refine jf c18 ?_
   refine tl [] [] [] id ?_
   refine ends_exit ?_
   cases H
   exact rse
 ·clear h25
  cases y24 with
  | inl y26 =>
   replace H := ofInl H
   rintro e s ⟨rfl, rfl⟩
   change EndsI _ _ _ _ _ _
   refine so [] [] [(4, cI (-1))] [] id ?_
   cases H
   exact er
  | inr y27 =>
   replace H := ofInr H
   rintro e s ⟨rfl, rfl⟩
   cases H
   exact qr
theorem g_ContainsFunc_int_c1_ok (p0 : (List Int)) (cf1 : FuncId) (cs1_0 : List AC) (f1 : Int → Option Bool) (hf1 : ∀ q0 r, f1 q0 = some r → FK cf1 [cI q0, .c (.pd cs1_0 0)] (cB r)) (r : Bool) (H : X.g_ContainsFunc_int p0 f1 = some r) : FK 136 [.c (dat 1 eI zI p0), .c (.clo cf1 [.pd cs1_0 0])] (cB r) := by
 unfold X.g_ContainsFunc_int at H
 refine fi Tryz.f136 g_ContainsFunc_int_ir [(4, cB r)] [] glL Tryz.func136 ?_
 refine sn [] [] [] [] [] id ?_
 obtain ⟨v1, h2, H⟩ := oB H
 refine so [.res (cI v1)] [] [(4, cB (decide (v1 ≥ 0)))] [] (aI (g_IndexFunc_int_c1_ok p0 (cf1) (cs1_0) f1 hf1 v1 h2)) ?_
 cases H
 exact er
def i_IsBoard_1_ir : S :=
 (sq [o 3 (.mv bF)]
 (sq [om 4 0, oa 5 0 1, oa 6 0 5, ol 7 6, o 8 (.len (.t 7)), o 9 (.bin .geq (.t 4) (.t 8)), om 3 9]
 .ret))
noncomputable def X.i_IsBoard_1 (p0 : Int) (p1 : TBoard) : Option Bool :=
 some (decide (p0 ≥ (p1.Rules.Terrains.length : Int)))
theorem i_IsBoard_1_ok (p0 : Int) (p1 : TBoard) (r : Bool) (H : X.i_IsBoard_1 p0 p1 = some r) : FK 137 [cI p0, .c (.pd (eTBoard p1) 0)] (cB r) := by
 unfold X.i_IsBoard_1 at H
 refine fi Tryz.f137 i_IsBoard_1_ir [(3, cB r)] [] glL Tryz.func137 ?_
 refine sn [] [] [] [] [] id ?_
 refine so [] [] [(3, cB (decide (p0 ≥ (p1.Rules.Terrains.length : Int))))] [] (fun t => lI p1.Rules.Terrains (t)) ?_
 cases H
 exact er
def i_IsBoard_ir : S :=
 (sq [o 1 (.box 12 (.t 0)), o 2 (.mv bF)]
 (.seq (sq [oa 3 0 1, o 4 (.load 7 true (.t 3)), o 5 (.call 134 [.t 4]), o 6 (.not (.t 5)), om 7 6, og 8 (.fad 7 (.t 1)) 7, og 9 (.load 5 true (.t 8)) 7, og 10 (.call 135 [.t 9]) 7, og 11 (.not (.t 10)) 7, o 12 (.pick (.t 7) bT (.t 11))]
 (.ite (.t 12) (sq [o 2 (.mv bF)]
  .ret)
 .skip))
 (sq [oa 13 7 1, oa 14 2 13, ol 15 14, o 16 (.clo 137 [.t 1]), o 17 (.call 136 [.t 15, .t 16]), o 18 (.not (.t 17)), om 2 18]
 .ret)))
noncomputable def X.i_IsBoard (p0 : TBoard) : Option Bool :=
 ((X.i_IsRules p0.Rules).bind fun v7 => (bif (!v7) then some false else ((X.i_IsMap p0.Map).bind fun v10 => (bif (!v10) then some false else ((X.g_ContainsFunc_int p0.Map.Terrain (fun q0 => X.i_IsBoard_1 q0 p0)).bind fun v13 => some (!v13))))))
theorem i_IsBoard_ok (p0 : TBoard) (r : Bool) (H : X.i_IsBoard p0 = some r) : FK 107 [.agg (eTBoard p0)] (cB r) := by
 unfold X.i_IsBoard at H
 refine fi Tryz.f107 i_IsBoard_ir [(2, cB r)] [] glL Tryz.func107 ?_
 refine so [] [] [(1, pk 1)] [(1, va (eTBoard p0))] id ?_
 refine seq_in ?_
 obtain ⟨v7, h8, H⟩ := oB H
 rcases oC H with ⟨c9, H⟩ | ⟨c9, H⟩
 ·refine sn ([.res (cB v7)] ++ rg 5 true []) [] [(12, cB true)] [] [] (fun t => aI (i_IsRules_ok p0.Rules v7 h8) (aG 5 c9 (t))) ?_
  refine it rT ?_
  refine so [] [] [(2, cB false)] [] id ?_
  cases H
  exact er
 ·obtain ⟨v10, h11, H⟩ := oB H
  refine sn ([.res (cB v7)] ++ rg 3 false ([.res (cB v10)] ++ rg 2 false [])) [] [(12, cB (!v10))] [] [] (fun t => aI (i_IsRules_ok p0.Rules v7 h8) (aG 3 c9 (aI (i_IsMap_ok p0.Map v10 h11) (aG 2 c9 (t))))) ?_
  rcases oC H with ⟨c12, H⟩ | ⟨c12, H⟩
  ·refine it c12 ?_
   refine so [] [] [(2, cB false)] [] id ?_
   cases H
   exact er
  ·refine jf c12 ?_
   refine sk ?_
   obtain ⟨v13, h14, H⟩ := oB H
   refine so [.res (cB v13)] [] [(2, cB (!v13))] [] (aI (g_ContainsFunc_int_c1_ok p0.Map.Terrain (137) (eTBoard p0) (fun q0 => X.i_IsBoard_1 q0 p0) (fun q0 r h => i_IsBoard_1_ok q0 p0 r h) v13 h14)) ?_
   cases H
   exact er
def i_fits_ir : S :=
 (sq [o 2 (.box 12 (.t 0)), o 3 (.box 3 (.t 1)), o 4 (.mv bF)]
 (sq [o 5 (.load 12 true (.t 2)), o 6 (.call 107 [.t 5]), om 7 6, oh 8 (.load 12 true (.t 2)) 7, oh 9 (.load 3 true (.t 3)) 7, oh 10 (.call 52 [.t 8, .t 9]) 7, o 11 (.pick (.t 7) (.t 10) bF), om 4 11]
 .ret))
noncomputable def X.i_fits (p0 : TBoard) (p1 : TState) : Option Bool :=
 ((X.i_IsBoard p0).bind fun v1 => (bif v1 then ((X.i_goodState p0 p1).bind fun v4 => some v4) else some false))
theorem i_fits_ok (p0 : TBoard) (p1 : TState) (r : Bool) (H : X.i_fits p0 p1 = some r) : FK 65 [.agg (eTBoard p0), .agg (eTState p1)] (cB r) := by
 unfold X.i_fits at H
 refine fi Tryz.f65 i_fits_ir [(4, cB r)] [] glL Tryz.func65 ?_
 refine so [] [] [(2, pk 2), (3, pk 3)] [(2, va (eTBoard p0)), (3, va (eTState p1))] id ?_
 obtain ⟨v1, h2, H⟩ := oB H
 rcases oC H with ⟨c3, H⟩ | ⟨c3, H⟩
 ·obtain ⟨v4, h5, H⟩ := oB H
  refine so ([.res (cB v1)] ++ rg 3 true [.res (cB v4), .g true]) [] [(4, cB v4)] [] (fun t => aI (i_IsBoard_ok p0 v1 h2) (aG 3 c3 (aI (i_goodState_ok p0 p1 v4 h5) (aI c3 (t))))) ?_
  cases H
  exact er
 ·refine so ([.res (cB v1)] ++ rg 4 false []) [] [(4, cB false)] [] (fun t => aI (i_IsBoard_ok p0 v1 h2) (aG 4 c3 (t))) ?_
  cases H
  exact er
def i_hasUnit_ir : S :=
 (sq [o 3 (.box 12 (.t 0)), o 4 (.box 3 (.t 1)), o 6 (.mv bF)]
 (sq [o 7 (.load 12 true (.t 3)), o 8 (.load 3 true (.t 4)), o 9 (.call 65 [.t 7, .t 8]), om 10 9, oh 11 (.mv (.t 2)) 10, oh 12 (.fad 2 (.t 4)) 10, oh 13 (.load 1 false (.t 12)) 10, oh 14 (.len (.t 13)) 10, oh 15 (.call 40 [.t 11, .t 14]) 10, o 16 (.pick (.t 10) (.t 15) bF), om 6 16]
 .ret))
noncomputable def X.i_hasUnit (p0 : TBoard) (p1 : TState) (p2 : Int) : Option Bool :=
 ((X.i_fits p0 p1).bind fun v1 => (bif v1 then ((X.i_isIndex p2 (p1.Units.length : Int)).bind fun v4 => some v4) else some false))
theorem i_hasUnit_ok (p0 : TBoard) (p1 : TState) (p2 : Int) (r : Bool) (H : X.i_hasUnit p0 p1 p2 = some r) : FK 30 [.agg (eTBoard p0), .agg (eTState p1), cI p2] (cB r) := by
 unfold X.i_hasUnit at H
 refine fi Tryz.f30 i_hasUnit_ir [(6, cB r)] [] glL Tryz.func30 ?_
 refine sn [] [] [(3, pk 3), (4, pk 4)] [] [(3, va (eTBoard p0)), (4, va (eTState p1))] id ?_
 obtain ⟨v1, h2, H⟩ := oB H
 rcases oC H with ⟨c3, H⟩ | ⟨c3, H⟩
 ·obtain ⟨v4, h5, H⟩ := oB H
  refine so ([.res (cB v1)] ++ rg 5 true [.res (cB v4), .g true]) [] [(6, cB v4)] [] (fun t => aI (i_fits_ok p0 p1 v1 h2) (aG 4 c3 (lI p1.Units (aI c3 (aI (i_isIndex_ok p2 (p1.Units.length : Int) v4 h5) (aI c3 (t))))))) ?_
  cases H
  exact er
 ·refine so ([.res (cB v1)] ++ rg 6 false []) [] [(6, cB false)] [] (fun t => aI (i_fits_ok p0 p1 v1 h2) (aG 6 c3 (t))) ?_
  cases H
  exact er
def g_Index_int_ir : S :=
 (sq [o 4 (.mv (iv 0))]
 (.seq (sq [om 6 0, o 7 (.len (.t 6)), o 8 (.mv (iv 0))]
 (.blk 0 (.loop (sq [o 9 (.bin .lss (.t 8) (.t 7))]
   (.seq (.ite (.t 9) .skip
   (.exit 0))
   (.seq (.blk 1 (sq [om 10 8, om 5 10]
    (sq [om 11 1, om 12 0, om 13 5, o 14 (.iad 1 (.t 12) (.t 13)), ol 15 14, o 16 (.bin .eql (.t 11) (.t 15))]
    (.ite (.t 16) (sq [om 17 5, om 4 17]
     .ret)
    .skip))))
   (.ops [o 18 (.bin .add (.t 8) (iv 1)), om 8 18])))))))
 (sq [o 4 (.mv (.v (.int .i64 (-1))))]
 .ret)))
noncomputable def X.g_Index_int (p0 : (List Int)) (p1 : Int) : Option Int :=
 ((loop (fun (x12 : Int) => ((bif (decide (x12 < (p0.length : Int))) then ((at' zI p0 x12).bind fun v15 => (bif (p1 == v15) then some (Sum.inr (Sum.inr x12)) else some (Sum.inl (W (x12 + 1))))) else some (Sum.inr (Sum.inl ()))) : Option (Int ⊕ (Unit ⊕ Int)))) 0).bind fun y18 => (Sum.elim (fun (y20 : Unit) => some (-1)) (fun (y21 : Int) => some y21) y18))
theorem g_Index_int_ok (p0 : (List Int)) (p1 : Int) (r : Int) (H : X.g_Index_int p0 p1 = some r) : FK 81 [.c (dat 1 eI zI p0), cI p1] (cI r) := by
 unfold X.g_Index_int at H
 refine fi Tryz.f81 g_Index_int_ir [(4, cI r)] [] glL Tryz.func81 ?_
 refine sn [] [] [] [] [] id ?_
 refine seq_in ?_
 refine sn [] [] [(7, cL p0), (8, cI 0)] [] [] (fun t => lI p0 (t)) ?_
 refine ends_blk ?_
 obtain ⟨y18, h19, H⟩ := oB H
 refine tl [] [(0, dc 1 eI zI p0), (1, cI p1), (7, cL p0), (8, cI 0)] [] id ?_
 refine loop_in (fun (x : Int) => lit [(0, dc 1 eI zI p0), (1, cI p1), (7, cL p0), (8, cI x)] []) (orJ (fun (z : Unit) => At (.exit 0) (lit [] [])) (fun (z : Int) => At .ret (lit [(4, cI z)] []))) h19 ?_ ?_
 ·clear H h19
  intro x12 y0 H
  refine sn [] [] [(9, cB (decide (x12 < (p0.length : Int))))] [] [] id ?_
  refine seq_in ?_
  rcases oC H with ⟨c14, H⟩ | ⟨c14, H⟩
  ·refine it c14 ?_
   refine sk ?_
   refine seq_in ?_
   refine ends_blk ?_
   refine sn [] [] [(5, cI x12)] [] [] id ?_
   obtain ⟨v15, h16, H⟩ := oB H
   refine sn [.cs (eI v15)] [] [(16, cB (p1 == v15))] [] [] (a2 eI h16) ?_
   rcases oC H with ⟨c17, H⟩ | ⟨c17, H⟩
   ·refine it c17 ?_
    refine so [] [] [(4, cI x12)] [] id ?_
    refine ends_ret ?_
    cases H
    exact rsr
   ·refine jf c17 ?_
    refine sk ?_
    refine oo [] [] [(0, dc 1 eI zI p0), (1, cI p1), (7, cL p0), (8, cI (W (x12 + 1)))] [] id ?_
    cases H
    exact rr
  ·refine jf c14 ?_
   refine tl [] [] [] id ?_
   refine ends_exit ?_
   cases H
   exact rse
 ·clear h19
  cases y18 with
  | inl y20 =>
   replace H := ofInl H
   rintro e s ⟨rfl, rfl⟩
   change EndsI _ _ _ _ _ _
   refine so [] [] [(4, cI (-1))] [] id ?_
   cases H
   exact er
  | inr y21 =>
   replace H := ofInr H
   rintro e s ⟨rfl, rfl⟩
   cases H
   exact qr
def g_Contains_int_ir : S :=
 (sq [o 4 (.mv bF)]
 (sq [om 5 0, om 6 1, o 7 (.call 81 [.t 5, .t 6]), o 8 (.bin .geq (.t 7) (iv 0)), om 4 8]
 .ret))
noncomputable def X.g_Contains_int (p0 : (List Int)) (p1 : Int) : Option Bool :=
 ((X.g_Index_int p0 p1).bind fun v1 => some (decide (v1 ≥ 0)))
theorem g_Contains_int_ok (p0 : (List Int)) (p1 : Int) (r : Bool) (H : X.g_Contains_int p0 p1 = some r) : FK 45 [.c (dat 1 eI zI p0), cI p1] (cB r) := by
 unfold X.g_Contains_int at H
 refine fi Tryz.f45 g_Contains_int_ir [(4, cB r)] [] glL Tryz.func45 ?_
 refine sn [] [] [] [] [] id ?_
 obtain ⟨v1, h2, H⟩ := oB H
 refine so [.res (cI v1)] [] [(4, cB (decide (v1 ≥ 0)))] [] (aI (g_Index_int_ok p0 p1 v1 h2)) ?_
 cases H
 exact er
def i_edgeOf_ir : S :=
 (sq [o 3 (.box 5 (.t 0)), o 6 (.mv (iv 0))]
 (sq [o 8 (.load 5 true (.t 3)), om 9 1, om 10 2, o 11 (.call 109 [.t 8, .t 9, .t 10]), om 7 11]
 (.seq (.blk 0 (sq [om 13 7, o 14 (.bin .lss (.t 13) (iv 0)), om 12 14]
  (.ite (.t 12) (sq [o 6 (.mv (.v (.int .i64 (-1))))]
   .ret)
  (sq [om 16 2, o 17 (.bin .lss (.t 16) (iv 3)), om 15 17]
   (.ite (.t 15) (sq [om 18 1, o 19 (.bin .mul (iv 3) (.t 18)), om 20 2, o 21 (.bin .add (.t 19) (.t 20)), om 6 21]
    .ret)
   .skip)))))
 (sq [om 22 7, o 23 (.bin .mul (iv 3) (.t 22)), om 24 2, o 25 (.bin .add (.t 23) (.t 24)), o 26 (.bin .sub (.t 25) (iv 3)), om 6 26]
 .ret))))
noncomputable def X.i_edgeOf (p0 : TMap) (p1 : Int) (p2 : Int) : Option Int :=
 ((X.i_nextTo p0 p1 p2).bind fun v1 => (bif (decide (v1 < 0)) then some (-1) else (bif (decide (p2 < 3)) then some (W ((W (3 * p1)) + p2)) else some (W ((W ((W (3 * v1)) + p2)) - 3)))))
theorem i_edgeOf_ok (p0 : TMap) (p1 : Int) (p2 : Int) (r : Int) (H : X.i_edgeOf p0 p1 p2 = some r) : FK 138 [.agg (eTMap p0), cI p1, cI p2] (cI r) := by
 unfold X.i_edgeOf at H
 refine fi Tryz.f138 i_edgeOf_ir [(6, cI r)] [] glL Tryz.func138 ?_
 refine sn [] [] [(3, pk 3)] [] [(3, va (eTMap p0))] id ?_
 obtain ⟨v1, h2, H⟩ := oB H
 refine sn [.res (cI v1)] [] [(7, cI v1)] [] [] (aI (i_nextTo_ok p0 p1 p2 v1 h2)) ?_
 refine seq_in ?_
 refine ends_blk ?_
 refine sn [] [] [(12, cB (decide (v1 < 0)))] [3] [] id ?_
 rcases oC H with ⟨c3, H⟩ | ⟨c3, H⟩
 ·refine it c3 ?_
  refine so [] [] [(6, cI (-1))] [] id ?_
  cases H
  exact er
 ·refine jf c3 ?_
  refine sn [] [] [(15, cB (decide (p2 < 3)))] [] [] id ?_
  rcases oC H with ⟨c4, H⟩ | ⟨c4, H⟩
  ·refine it c4 ?_
   refine so [] [] [(6, cI (W ((W (3 * p1)) + p2)))] [] id ?_
   cases H
   exact er
  ·refine jf c4 ?_
   refine sk ?_
   refine so [] [] [(6, cI (W ((W ((W (3 * v1)) + p2)) - 3)))] [] id ?_
   cases H
   exact er
def i_weatherCost_ir : S :=
 (sq [o 4 (.mv (iv 0))]
 (.seq (sq [om 5 1, om 6 5, oh 7 (.mv (.t 0)) 6, oh 8 (.bin .gtr (.t 7) (iv 0)) 6, o 9 (.pick (.t 6) (.t 8) bF)]
 (.ite (.t 9) (sq [om 10 0, o 11 (.bin .sub (.t 10) (iv 1)), om 4 11]
  .ret)
 .skip))
 (sq [om 12 0, om 4 12]
 .ret)))
noncomputable def X.i_weatherCost (p0 : Int) (p1 : Bool) : Option Int :=
 (bif p1 then (bif (decide (p0 > 0)) then some (W (p0 - 1)) else some p0) else some p0)
theorem i_weatherCost_ok (p0 : Int) (p1 : Bool) (r : Int) (H : X.i_weatherCost p0 p1 = some r) : FK 139 [cI p0, cB p1] (cI r) := by
 unfold X.i_weatherCost at H
 refine fi Tryz.f139 i_weatherCost_ir [(4, cI r)] [] glL Tryz.func139 ?_
 refine sn [] [] [] [] [] id ?_
 refine seq_in ?_
 rcases oC H with ⟨c1, H⟩ | ⟨c1, H⟩
 ·refine sn (rg 3 true []) [] [(9, cB (decide (p0 > 0)))] [] [] (fun t => aG 3 c1 (t)) ?_
  rcases oC H with ⟨c2, H⟩ | ⟨c2, H⟩
  ·refine it c2 ?_
   refine so [] [] [(4, cI (W (p0 - 1)))] [] id ?_
   cases H
   exact er
  ·refine jf c2 ?_
   refine sk ?_
   refine so [] [] [(4, cI p0)] [] id ?_
   cases H
   exact er
 ·refine sn (rg 3 false []) [] [(9, cB false)] [] [] (fun t => aG 3 c1 (t)) ?_
  refine jf rF ?_
  refine sk ?_
  refine so [] [] [(4, cI p0)] [] id ?_
  cases H
  exact er
def i_stepCost_ir : S :=
 (sq [o 5 (.box 12 (.t 0)), o 10 (.mv (iv 0))]
 (sq [oa 14 7 5, o 15 (.load 5 true (.t 14)), om 16 3, om 17 4, o 18 (.call 109 [.t 15, .t 16, .t 17]), om 11 18]
 (.seq (sq [om 19 11, o 20 (.bin .lss (.t 19) (iv 0)), om 21 20, og 22 (.load 12 true (.t 5)) 21, og 23 (.mv (.t 1)) 21, og 24 (.mv (.t 11)) 21, og 25 (.call 127 [.t 22, .t 23, .t 24]) 21, og 26 (.bin .eql (.t 25) (iv 0)) 21, o 27 (.pick (.t 21) bT (.t 26))]
 (.ite (.t 27) (sq [o 10 (.mv (iv 0))]
  .ret)
 .skip))
 (sq [oa 28 7 5, o 29 (.load 5 true (.t 28)), om 30 3, om 31 4, o 32 (.call 138 [.t 29, .t 30, .t 31]), om 12 32]
 (.seq (sq [oa 33 7 5, oa 34 4 33, ol 35 34, om 36 12, o 37 (.call 45 [.t 35, .t 36])]
 (.ite (.t 37) (.seq (.drw [(0, 3), (1, 3), (2, 3), (0, 4), (1, 4), (2, 4)] [oa 38 0 5, oa 39 4 38, ol 40 39, om 41 2, o 42 (.call 139 [.t 41, .v (.bool true)]), o 43 (.bin .add (.t 40) (.t 42)), om 10 43])
  .ret)
 .skip))
 (sq [o 44 (.load 12 true (.t 5)), om 45 1, om 46 11, o 47 (.call 127 [.t 44, .t 45, .t 46]), om 48 2, o 49 (.call 139 [.t 48, .v (.bool false)]), o 50 (.bin .add (.t 47) (.t 49)), om 13 50]
 (.seq (sq [oa 51 7 5, oa 52 3 51, ol 53 52, om 54 12, o 55 (.call 45 [.t 53, .t 54])]
 (.ite (.t 55) (.ops [om 56 13, oa 57 0 5, oa 58 3 57, ol 59 58, o 60 (.bin .add (.t 56) (.t 59)), om 13 60])
 .skip))
 (sq [om 61 13, om 10 61]
 .ret))))))))
noncomputable def X.i_stepCost (p0 : TBoard) (p1 : Int) (p2 : Int) (p3 : Int) (p4 : Int) : Option Int :=
 ((X.i_nextTo p0.Map p3 p4).bind fun v1 => (bif (decide (v1 < 0)) then some 0 else ((X.i_enterCost p0 p1 v1).bind fun v8 => (bif (v8 == 0) then some 0 else ((X.i_edgeOf p0.Map p3 p4).bind fun v11 => ((X.g_Contains_int p0.Map.Roads v11).bind fun v18 => (bif v18 then ((X.i_weatherCost p2 true).bind fun v21 => some (W (p0.Rules.Road + v21))) else ((X.i_enterCost p0 p1 v1).bind fun v23 => ((X.i_weatherCost p2 false).bind fun v25 => ((X.g_Contains_int p0.Map.Rivers v11).bind fun v27 => (bif v27 then some (W ((W (v23 + v25)) + p0.Rules.River)) else some (W (v23 + v25)))))))))))))
theorem i_stepCost_ok (p0 : TBoard) (p1 : Int) (p2 : Int) (p3 : Int) (p4 : Int) (r : Int) (H : X.i_stepCost p0 p1 p2 p3 p4 = some r) : FK 108 [.agg (eTBoard p0), cI p1, cI p2, cI p3, cI p4] (cI r) := by
 unfold X.i_stepCost at H
 refine fi Tryz.f108 i_stepCost_ir [(10, cI r)] [] glL Tryz.func108 ?_
 refine sn [] [] [(5, pk 5)] [] [(5, va (eTBoard p0))] id ?_
 obtain ⟨v1, h2, H⟩ := oB H
 refine sn [.res (cI v1)] [] [(11, cI v1)] [] [] (aI (i_nextTo_ok p0.Map p3 p4 v1 h2)) ?_
 refine seq_in ?_
 rcases oC H with ⟨c7, H⟩ | ⟨c7, H⟩
 ·refine sn (rg 6 true []) [] [(27, cB true)] [] [] (fun t => aG 6 c7 (t)) ?_
  refine it rT ?_
  refine so [] [] [(10, cI 0)] [] id ?_
  cases H
  exact er
 ·obtain ⟨v8, h9, H⟩ := oB H
  refine sn (rg 4 false ([.res (cI v8)] ++ rg 2 false [])) [] [(27, cB (v8 == 0))] [] [] (fun t => aG 4 c7 (aI (i_enterCost_ok p0 p1 v1 v8 h9) (aG 2 c7 (t)))) ?_
  rcases oC H with ⟨c10, H⟩ | ⟨c10, H⟩
  ·refine it c10 ?_
   refine so [] [] [(10, cI 0)] [] id ?_
   cases H
   exact er
  ·refine jf c10 ?_
   refine sk ?_
   obtain ⟨v11, h12, H⟩ := oB H
   refine sn [.res (cI v11)] [] [(12, cI v11)] [] [] (aI (i_edgeOf_ok p0.Map p3 p4 v11 h12)) ?_
   refine seq_in ?_
   obtain ⟨v18, h19, H⟩ := oB H
   refine sn [.res (cB v18)] [] [(37, cB v18)] [] [] (aI (g_Contains_int_ok p0.Map.Roads v11 v18 h19)) ?_
   rcases oC H with ⟨c20, H⟩ | ⟨c20, H⟩
   ·refine it c20 ?_
    obtain ⟨v21, h22, H⟩ := oB H
    refine sx [.res (cI v21)] [] [(10, cI (W (p0.Rules.Road + v21)))] [] (fun t => aI (i_weatherCost_ok p2 true v21 h22) (aI trivial (aI rN (t)))) ?_
    cases H
    exact er
   ·refine jf c20 ?_
    refine sk ?_
    obtain ⟨v23, h24, H⟩ := oB H
    obtain ⟨v25, h26, H⟩ := oB H
    refine sn [.res (cI v23), .res (cI v25)] [] [(13, cI (W (v23 + v25)))] [] [] (fun t => aI (i_enterCost_ok p0 p1 v1 v23 h24) (aI (i_weatherCost_ok p2 false v25 h26) (t))) ?_
    refine seq_in ?_
    obtain ⟨v27, h28, H⟩ := oB H
    refine sn [.res (cB v27)] [] [(55, cB v27)] [] [] (aI (g_Contains_int_ok p0.Map.Rivers v11 v27 h28)) ?_
    rcases oC H with ⟨c29, H⟩ | ⟨c29, H⟩
    ·refine it c29 ?_
     refine oo [] [] [(13, cI (W ((W (v23 + v25)) + p0.Rules.River)))] [] id ?_
     change EndsI _ _ _ _ _ _
     refine so [] [] [(10, cI (W ((W (v23 + v25)) + p0.Rules.River)))] [] id ?_
     cases H
     exact er
    ·refine jf c29 ?_
     refine sk ?_
     refine so [] [] [(10, cI (W (v23 + v25)))] [] id ?_
     cases H
     exact er
def i_relaxed_ir : S :=
 (sq [o 6 (.box 12 (.t 0)), o 12 (.mv (.v (.nil)))]
 (sq [o 21 (.load 12 true (.t 6)), o 22 (.call 41 [.t 21]), o 23 (.msl 1 8 [.int .i64 0] (.t 22)), om 13 23]
 (.seq (sq [om 24 13, o 25 (.len (.t 24)), o 26 (.mv (iv 0))]
 (.blk 0 (.loop (sq [o 27 (.bin .lss (.t 26) (.t 25))]
   (.seq (.ite (.t 27) .skip
   (.exit 0))
   (.seq (.blk 1 (sq [om 28 26, om 14 28]
    (.ops [om 29 13, om 30 14, o 31 (.iad 1 (.t 29) (.t 30)), ⟨none, .store 1 (.t 31) (.v (.int .i64 (-1))), none⟩])))
   (.ops [o 32 (.bin .add (.t 26) (iv 1)), om 26 32])))))))
 (sq [om 33 13, om 34 3, o 35 (.iad 1 (.t 33) (.t 34)), ⟨none, .store 1 (.t 35) (iv 0), none⟩]
 (.seq (sq [o 15 (.mv bT)]
 (.blk 2 (.loop (.seq (sq [om 36 15]
   (.ite (.t 36) .skip
   (.exit 2)))
   (.blk 3 (sq [o 15 (.mv bF)]
    (sq [om 37 13, o 38 (.len (.t 37)), o 39 (.mv (iv 0))]
    (.blk 4 (.loop (sq [o 40 (.bin .lss (.t 39) (.t 38))]
      (.seq (.ite (.t 40) .skip
      (.exit 4))
      (.seq (.blk 5 (sq [om 41 39, om 16 41]
       (sq [o 42 (.mv (iv 0))]
       (.blk 6 (.loop (sq [o 43 (.bin .lss (.t 42) (iv 6))]
         (.seq (.ite (.t 43) .skip
         (.exit 6))
         (.seq (.blk 7 (sq [om 44 42, om 17 44]
          (sq [o 45 (.load 12 true (.t 6)), om 46 1, om 47 2, om 48 16, om 49 17, o 50 (.call 108 [.t 45, .t 46, .t 47, .t 48, .t 49]), om 18 50]
          (.seq (sq [om 51 18, o 52 (.bin .eql (.t 51) (iv 0))]
          (.ite (.t 52) (.exit 7)
          .skip))
          (sq [om 53 16, oa 54 7 6, o 55 (.load 5 true (.t 54)), om 56 16, om 57 17, o 58 (.call 109 [.t 55, .t 56, .t 57]), om 19 53, om 20 58]
          (.seq (sq [om 59 5, om 60 20, o 61 (.call 45 [.t 59, .t 60])]
          (.ite (.t 61) (.exit 7)
          .skip))
          (.seq (sq [om 62 4]
          (.ite (.t 62) (.ops [om 63 20, om 64 19, om 19 63, om 20 64])
          .skip))
          (.seq (.drw [(0, 1), (6, 7), (12, 13), (12, 16), (13, 16), (14, 16), (15, 16), (12, 18), (13, 18), (14, 18), (15, 18), (16, 18), (17, 18), (12, 19), (13, 19), (14, 19), (15, 19), (16, 19), (17, 19), (18, 19), (12, 20), (13, 20), (14, 20), (15, 20), (16, 20), (17, 20), (12, 21), (13, 21), (14, 21), (15, 21), (16, 21), (17, 21)] [om 65 13, om 66 19, o 67 (.iad 1 (.t 65) (.t 66)), ol 68 67, o 69 (.bin .geq (.t 68) (iv 0)), om 70 69, oh 71 (.mv (.t 13)) 70, oh 72 (.mv (.t 20)) 70, oh 73 (.iad 1 (.t 71) (.t 72)) 70, oh 74 (.load 1 false (.t 73)) 70, oh 75 (.bin .lss (.t 74) (iv 0)) 70, oh 76 (.mv (.t 75)) 70, og 77 (.mv (.t 13)) 76, og 78 (.mv (.t 19)) 76, og 79 (.iad 1 (.t 77) (.t 78)) 76, og 80 (.load 1 false (.t 79)) 76, og 81 (.mv (.t 18)) 76, og 82 (.bin .add (.t 80) (.t 81)) 76, og 83 (.mv (.t 13)) 76, og 84 (.mv (.t 20)) 76, og 85 (.iad 1 (.t 83) (.t 84)) 76, og 86 (.load 1 false (.t 85)) 76, og 87 (.bin .lss (.t 82) (.t 86)) 76, oh 88 (.pick (.t 76) bT (.t 87)) 70, o 89 (.pick (.t 70) (.t 88) bF)])
          (.ite (.t 89) (sq [om 90 13, om 91 20, om 92 13, om 93 19, o 94 (.iad 1 (.t 92) (.t 93)), ol 95 94, om 96 18, o 97 (.bin .add (.t 95) (.t 96)), o 98 (.iad 1 (.t 90) (.t 91)), os 1 98 97]
           (.ops [o 15 (.mv bT)]))
          .skip)))))))))
         (.ops [o 99 (.bin .add (.t 42) (iv 1)), om 42 99])))))))))
      (.ops [o 100 (.bin .add (.t 39) (iv 1)), om 39 100])))))))))))))
 (sq [om 101 13, om 12 101]
 .ret))))))
noncomputable def X.i_relaxed (p0 : TBoard) (p1 : Int) (p2 : Int) (p3 : Int) (p4 : Bool) (p5 : (List Int)) : Option (List Int) :=
 ((X.i_sizeOf p0).bind fun v1 => (if 0 ≤ v1 ∧ v1.toNat ≤ LIM then ((loop (fun (x24 : (Int × (List Int))) => ((bif (decide (x24.1 < ((List.replicate v1.toNat zI).length : Int))) then (if 0 ≤ x24.1 ∧ x24.1 < (x24.2.length : Int) then some (Sum.inl ((W (x24.1 + 1)), (x24.2.set x24.1.toNat (-1)))) else none) else some (Sum.inr x24.2)) : Option ((Int × (List Int)) ⊕ (List Int)))) (0, (List.replicate v1.toNat zI))).bind fun y28 => (if 0 ≤ p3 ∧ p3 < (y28.length : Int) then ((loop (fun (x492 : (Bool × (List Int))) => ((bif x492.1 then ((loop (fun (x646 : (Bool × Int × (List Int))) => ((bif (decide (x646.2.1 < (x492.2.length : Int))) then ((loop (fun (x696 : (Bool × Int × (List Int))) => ((bif (decide (x696.2.1 < 6)) then ((X.i_stepCost p0 p1 p2 x646.2.1 x696.2.1).bind fun v699 => (bif (v699 == 0) then some (Sum.inl (x696.1, (W (x696.2.1 + 1)), x696.2.2)) else ((X.i_nextTo p0.Map x646.2.1 x696.2.1).bind fun v703 => ((X.g_Contains_int p5 v703).bind fun v708 => (bif v708 then some (Sum.inl (x696.1, (W (x696.2.1 + 1)), x696.2.2)) else (((bif p4 then some (v703, x646.2.1) else some (x646.2.1, v703)) : Option (Int × Int)).bind fun y713 => (if 0 ≤ y713.1 ∧ y713.1 < (x696.2.2.length : Int) then (bif (decide ((x696.2.2.getD y713.1.toNat zI) ≥ 0)) then (if 0 ≤ y713.2 ∧ y713.2 < (x696.2.2.length : Int) then (bif (decide ((x696.2.2.getD y713.2.toNat zI) < 0)) then some (Sum.inl (true, (W (x696.2.1 + 1)), (x696.2.2.set y713.2.toNat (W ((x696.2.2.getD y713.1.toNat zI) + v699))))) else (bif (decide ((W ((x696.2.2.getD y713.1.toNat zI) + v699)) < (x696.2.2.getD y713.2.toNat zI))) then some (Sum.inl (true, (W (x696.2.1 + 1)), (x696.2.2.set y713.2.toNat (W ((x696.2.2.getD y713.1.toNat zI) + v699))))) else some (Sum.inl (x696.1, (W (x696.2.1 + 1)), x696.2.2)))) else none) else some (Sum.inl (x696.1, (W (x696.2.1 + 1)), x696.2.2))) else none))))))) else some (Sum.inr (x696.1, x696.2.2))) : Option ((Bool × Int × (List Int)) ⊕ (Bool × (List Int))))) (x646.1, 0, x646.2.2)).bind fun y720 => some (Sum.inl (y720.1, (W (x646.2.1 + 1)), y720.2))) else some (Sum.inr (x646.1, x646.2.2))) : Option ((Bool × Int × (List Int)) ⊕ (Bool × (List Int))))) (false, 0, x492.2)).bind fun y722 => some (Sum.inl (y722.1, y722.2))) else some (Sum.inr x492.2)) : Option ((Bool × (List Int)) ⊕ (List Int)))) (true, (y28.set p3.toNat 0))).bind fun y724 => some y724) else none)) else none))
theorem i_relaxed_ok (p0 : TBoard) (p1 : Int) (p2 : Int) (p3 : Int) (p4 : Bool) (p5 : (List Int)) (r : (List Int)) (H : X.i_relaxed p0 p1 p2 p3 p4 p5 = some r) : FK 66 [.agg (eTBoard p0), cI p1, cI p2, cI p3, cB p4, .c (dat 1 eI zI p5)] (.c (dat 1 eI zI r)) := by
 unfold X.i_relaxed at H
 refine fi Tryz.f66 i_relaxed_ir [(12, dc 1 eI zI r)] [] glL Tryz.func66 ?_
 refine sn [] [] [(6, pk 6)] [] [(6, va (eTBoard p0))] id ?_
 obtain ⟨v1, h2, H⟩ := oB H
 obtain ⟨g3, H⟩ := oI H
 refine sn [.res (cI v1), fh eI zI (List.replicate v1.toNat zI)] [] [(13, ow 23 1 (List.replicate v1.toNat zI))] [] [(23, ar 1 eI zI (List.replicate v1.toNat zI))] (fun t => aI (i_sizeOf_ok p0 v1 h2) (aI (And.intro g3.1 (And.intro (List.length_replicate (n := v1.toNat) (a := zI)).symm (Nat.le_trans (Nat.le_of_eq List.length_replicate) g3.2 : (List.replicate v1.toNat zI).length ≤ LIM))) (aI (fF_rep eI zI zI v1.toNat) (t)))) ?_
 refine seq_in ?_
 refine sn [] [] [(25, cL (List.replicate v1.toNat zI)), (26, cI 0)] [] [] (fun t => (fun (_ : (List.replicate v1.toNat zI).length ≤ maxLen) => t)) ?_
 refine ends_blk ?_
 obtain ⟨y28, h29, H⟩ := oB H
 refine tl [] [(1, cI p1), (2, cI p2), (3, cI p3), (4, cB p4), (5, dc 1 eI zI p5), (6, pk 6), (13, ow 23 1 (List.replicate v1.toNat zI)), (25, cL (List.replicate v1.toNat zI)), (26, cI 0)] [(6, va (eTBoard p0)), (23, ar 1 eI zI (List.replicate v1.toNat zI))] id ?_
 refine loop_in (fun (x : (Int × (List Int))) => lit [(1, cI p1), (2, cI p2), (3, cI p3), (4, cB p4), (5, dc 1 eI zI p5), (6, pk 6), (13, ow 23 1 x.2), (25, cL (List.replicate v1.toNat zI)), (26, cI x.1)] [(6, va (eTBoard p0)), (23, ar 1 eI zI x.2)]) (fun (z : (List Int)) => At (.exit 0) (lit [(1, cI p1), (2, cI p2), (3, cI p3), (4, cB p4), (5, dc 1 eI zI p5), (6, pk 6), (13, ow 23 1 z)] [(6, va (eTBoard p0)), (23, ar 1 eI zI z)])) h29 ?_ ?_
 ·clear H h29
  intro x24 y0 H
  refine sn [] [] [(27, cB (decide (x24.1 < ((List.replicate v1.toNat zI).length : Int))))] [] [] id ?_
  refine seq_in ?_
  rcases oC H with ⟨c26, H⟩ | ⟨c26, H⟩
  ·refine it c26 ?_
   refine sk ?_
   refine seq_in ?_
   refine ends_blk ?_
   refine sn [] [] [(14, cI x24.1)] [] [] id ?_
   obtain ⟨g27, H⟩ := oI H
   refine oo [.no, .fn 0 (fF eI zI (x24.2.set x24.1.toNat (-1)))] [] [(1, cI p1), (2, cI p2), (3, cI p3), (4, cB p4), (5, dc 1 eI zI p5), (6, pk 6), (13, ow 23 1 x24.2), (25, cL (List.replicate v1.toNat zI)), (26, cI x24.1)] [(6, va (eTBoard p0)), (23, .arr 1 x24.2.length (fF eI zI (x24.2.set x24.1.toNat (-1))) false)] (fun t => aI g27 (aI rT (aI (nat_lt g27) (aI (by decide : 0 + 1 ≤ 1) (aI (fF_set eI zI x24.2 x24.1.toNat (-1) (nat_lt g27) x24.2.length) (t)))))) ?_
   change EndsI _ _ _ _ _ _
   refine oo [] [.rel 13 ((x24.2.set x24.1.toNat (-1)).length), .rep 23 ((x24.2.set x24.1.toNat (-1)).length) (fF eI zI (x24.2.set x24.1.toNat (-1)))] [(1, cI p1), (2, cI p2), (3, cI p3), (4, cB p4), (5, dc 1 eI zI p5), (6, pk 6), (13, ow 23 1 (x24.2.set x24.1.toNat (-1))), (25, cL (List.replicate v1.toNat zI)), (26, cI (W (x24.1 + 1)))] [(6, va (eTBoard p0)), (23, ar 1 eI zI (x24.2.set x24.1.toNat (-1)))] (fun t => aI (by simp : x24.2.length = (x24.2.set x24.1.toNat (-1)).length) (aI (Nat.le_of_eq (by simp : (x24.2.set x24.1.toNat (-1)).length = x24.2.length)) (aI (fun _ _ => rfl : ∀ i, i < (x24.2.set x24.1.toNat (-1)).length → (fF eI zI (x24.2.set x24.1.toNat (-1))) i = (fF eI zI (x24.2.set x24.1.toNat (-1))) i) (t)))) ?_
   cases H
   exact rr
  ·refine jf c26 ?_
   refine tl [] [(1, cI p1), (2, cI p2), (3, cI p3), (4, cB p4), (5, dc 1 eI zI p5), (6, pk 6), (13, ow 23 1 x24.2)] [(6, va (eTBoard p0)), (23, ar 1 eI zI x24.2)] id ?_
   refine ends_exit ?_
   cases H
   exact rse
 ·clear h29
  rintro e s ⟨rfl, rfl⟩
  change EndsI _ _ _ _ _ _
  obtain ⟨g30, H⟩ := oI H
  refine sn [.no, .fn 0 (fF eI zI (y28.set p3.toNat 0))] [] [] [23] [(23, .arr 1 y28.length (fF eI zI (y28.set p3.toNat 0)) false)] (fun t => aI g30 (aI rT (aI (nat_lt g30) (aI (by decide : 0 + 1 ≤ 1) (aI (fF_set eI zI y28 p3.toNat 0 (nat_lt g30) y28.length) (t)))))) ?_
  refine seq_in ?_
  refine sn [] [] [(15, cB true)] [] [] id ?_
  refine ends_blk ?_
  obtain ⟨y724, h725, H⟩ := oB H
  refine tl [.rel 13 ((y28.set p3.toNat 0).length), .rep 23 ((y28.set p3.toNat 0).length) (fF eI zI (y28.set p3.toNat 0))] [(1, cI p1), (2, cI p2), (4, cB p4), (5, dc 1 eI zI p5), (6, pk 6), (13, ow 23 1 (y28.set p3.toNat 0)), (15, cB true)] [(6, va (eTBoard p0)), (23, ar 1 eI zI (y28.set p3.toNat 0))] (fun t => aI (by simp : y28.length = (y28.set p3.toNat 0).length) (aI (Nat.le_of_eq (by simp : (y28.set p3.toNat 0).length = y28.length)) (aI (fun _ _ => rfl : ∀ i, i < (y28.set p3.toNat 0).length → (fF eI zI (y28.set p3.toNat 0)) i = (fF eI zI (y28.set p3.toNat 0)) i) (t)))) ?_
  refine loop_in (fun (x : (Bool × (List Int))) => lit [(1, cI p1), (2, cI p2), (4, cB p4), (5, dc 1 eI zI p5), (6, pk 6), (13, ow 23 1 x.2), (15, cB x.1)] [(6, va (eTBoard p0)), (23, ar 1 eI zI x.2)]) (fun (z : (List Int)) => At (.exit 2) (lit [(13, ow 23 1 z)] [(23, ar 1 eI zI z)])) h725 ?_ ?_
  ·clear H h725
   intro x492 y0 H
   refine seq_in ?_
   refine sn [] [] [(36, cB x492.1)] [] [] id ?_
   rcases oC H with ⟨c494, H⟩ | ⟨c494, H⟩
   ·refine it c494 ?_
    refine sk ?_
    refine ends_blk ?_
    refine so [] [] [(1, cI p1), (2, cI p2), (4, cB p4), (5, dc 1 eI zI p5), (6, pk 6), (13, ow 23 1 x492.2), (15, cB false)] [(6, va (eTBoard p0)), (23, ar 1 eI zI x492.2)] id ?_
    refine sn [] [] [(38, cL x492.2), (39, cI 0)] [] [] (fun t => lI x492.2 (t)) ?_
    refine ends_blk ?_
    obtain ⟨y722, h723, H⟩ := oB H
    refine tl [] [(1, cI p1), (2, cI p2), (4, cB p4), (5, dc 1 eI zI p5), (6, pk 6), (13, ow 23 1 x492.2), (15, cB false), (38, cL x492.2), (39, cI 0)] [(6, va (eTBoard p0)), (23, ar 1 eI zI x492.2)] id ?_
    refine loop_in (fun (x : (Bool × Int × (List Int))) => lit [(1, cI p1), (2, cI p2), (4, cB p4), (5, dc 1 eI zI p5), (6, pk 6), (13, ow 23 1 x.2.2), (15, cB x.1), (38, cL x492.2), (39, cI x.2.1)] [(6, va (eTBoard p0)), (23, ar 1 eI zI x.2.2)]) (fun (z : (Bool × (List Int))) => At (.exit 4) (lit [(1, cI p1), (2, cI p2), (4, cB p4), (5, dc 1 eI zI p5), (6, pk 6), (13, ow 23 1 z.2), (15, cB z.1)] [(6, va (eTBoard p0)), (23, ar 1 eI zI z.2)])) h723 ?_ ?_
    ·clear H h723
     intro x646 y0 H
     refine sn [] [] [(40, cB (decide (x646.2.1 < (x492.2.length : Int))))] [] [] id ?_
     refine seq_in ?_
     rcases oC H with ⟨c648, H⟩ | ⟨c648, H⟩
     ·refine it c648 ?_
      refine sk ?_
      refine seq_in ?_
      refine ends_blk ?_
      refine sn [] [] [(16, cI x646.2.1)] [] [] id ?_
      refine sn [] [] [(42, cI 0)] [] [] id ?_
      refine ends_blk ?_
      obtain ⟨y720, h721, H⟩ := oB H
      refine tl [] [(1, cI p1), (2, cI p2), (4, cB p4), (5, dc 1 eI zI p5), (6, pk 6), (13, ow 23 1 x646.2.2), (15, cB x646.1), (16, cI x646.2.1), (38, cL x492.2), (39, cI x646.2.1), (42, cI 0)] [(6, va (eTBoard p0)), (23, ar 1 eI zI x646.2.2)] id ?_
      refine loop_in (fun (x : (Bool × Int × (List Int))) => lit [(1, cI p1), (2, cI p2), (4, cB p4), (5, dc 1 eI zI p5), (6, pk 6), (13, ow 23 1 x.2.2), (15, cB x.1), (16, cI x646.2.1), (38, cL x492.2), (39, cI x646.2.1), (42, cI x.2.1)] [(6, va (eTBoard p0)), (23, ar 1 eI zI x.2.2)]) (fun (z : (Bool × (List Int))) => At (.exit 6) (lit [(1, cI p1), (2, cI p2), (4, cB p4), (5, dc 1 eI zI p5), (6, pk 6), (13, ow 23 1 z.2), (15, cB z.1), (38, cL x492.2), (39, cI x646.2.1)] [(6, va (eTBoard p0)), (23, ar 1 eI zI z.2)])) h721 ?_ ?_
      ·clear H h721
       intro x696 y0 H
       refine sn [] [] [(43, cB (decide (x696.2.1 < 6)))] [] [] id ?_
       refine seq_in ?_
       rcases oC H with ⟨c698, H⟩ | ⟨c698, H⟩
       ·refine it c698 ?_
        refine sk ?_
        refine seq_in ?_
        refine ends_blk ?_
        refine sn [] [] [(17, cI x696.2.1)] [] [] id ?_
        obtain ⟨v699, h700, H⟩ := oB H
        refine sn [.res (cI v699)] [] [(18, cI v699)] [] [] (aI (i_stepCost_ok p0 p1 p2 x646.2.1 x696.2.1 v699 h700)) ?_
        refine seq_in ?_
        refine sn [] [] [(52, cB (v699 == 0))] [] [] id ?_
        rcases oC H with ⟨c702, H⟩ | ⟨c702, H⟩
        ·refine it c702 ?_
         refine ends_exit ?_
         change EndsI _ _ _ _ _ _
         refine oo [] [] [(1, cI p1), (2, cI p2), (4, cB p4), (5, dc 1 eI zI p5), (6, pk 6), (13, ow 23 1 x696.2.2), (15, cB x696.1), (16, cI x646.2.1), (38, cL x492.2), (39, cI x646.2.1), (42, cI (W (x696.2.1 + 1)))] [(6, va (eTBoard p0)), (23, ar 1 eI zI x696.2.2)] id ?_
         cases H
         exact rr
        ·refine jf c702 ?_
         refine sk ?_
         obtain ⟨v703, h704, H⟩ := oB H
         refine sn [.res (cI v703)] [] [(19, cI x646.2.1), (20, cI v703)] [] [] (aI (i_nextTo_ok p0.Map x646.2.1 x696.2.1 v703 h704)) ?_
         refine seq_in ?_
         obtain ⟨v708, h709, H⟩ := oB H
         refine sn [.res (cB v708)] [] [(61, cB v708)] [] [] (aI (g_Contains_int_ok p5 v703 v708 h709)) ?_
         rcases oC H with ⟨c710, H⟩ | ⟨c710, H⟩
         ·refine it c710 ?_
          refine ends_exit ?_
          change EndsI _ _ _ _ _ _
          refine oo [] [] [(1, cI p1), (2, cI p2), (4, cB p4), (5, dc 1 eI zI p5), (6, pk 6), (13, ow 23 1 x696.2.2), (15, cB x696.1), (16, cI x646.2.1), (38, cL x492.2), (39, cI x646.2.1), (42, cI (W (x696.2.1 + 1)))] [(6, va (eTBoard p0)), (23, ar 1 eI zI x696.2.2)] id ?_
          cases H
          exact rr
         ·refine jf c710 ?_
          refine sk ?_
          obtain ⟨y713, h714, H⟩ := oB H
          refine seq_in (cut_in (fun (z : (Int × Int)) => At .normal (lit [(1, cI p1), (2, cI p2), (4, cB p4), (5, dc 1 eI zI p5), (6, pk 6), (13, ow 23 1 x696.2.2), (15, cB x696.1), (16, cI x646.2.1), (18, cI v699), (19, cI z.1), (20, cI z.2), (38, cL x492.2), (39, cI x646.2.1), (42, cI x696.2.1)] [(6, va (eTBoard p0)), (23, ar 1 eI zI x696.2.2)])) y713 ?_ ?_)
          ·clear H
           revert h714
           generalize y713 = y0
           intro H
           refine sn [] [] [(62, cB p4)] [] [] id ?_
           rcases oC H with ⟨c712, H⟩ | ⟨c712, H⟩
           ·refine it c712 ?_
            refine oo [] [] [(1, cI p1), (2, cI p2), (4, cB p4), (5, dc 1 eI zI p5), (6, pk 6), (13, ow 23 1 x696.2.2), (15, cB x696.1), (16, cI x646.2.1), (18, cI v699), (19, cI v703), (20, cI x646.2.1), (38, cL x492.2), (39, cI x646.2.1), (42, cI x696.2.1)] [(6, va (eTBoard p0)), (23, ar 1 eI zI x696.2.2)] id ?_
            cases H
            exact rr
           ·refine jf c712 ?_
            refine tl [] [(1, cI p1), (2, cI p2), (4, cB p4), (5, dc 1 eI zI p5), (6, pk 6), (13, ow 23 1 x696.2.2), (15, cB x696.1), (16, cI x646.2.1), (18, cI v699), (19, cI x646.2.1), (20, cI v703), (38, cL x492.2), (39, cI x646.2.1), (42, cI x696.2.1)] [(6, va (eTBoard p0)), (23, ar 1 eI zI x696.2.2)] id ?_
            refine ends_skip ?_
            cases H
            exact rr
          ·clear h714
           rintro e s ⟨rfl, rfl⟩
           change EndsI _ _ _ _ _ _
           obtain ⟨g715, H⟩ := oI H
           rcases oC H with ⟨c716, H⟩ | ⟨c716, H⟩
           ·obtain ⟨g717, H⟩ := oI H
            rcases oC H with ⟨c718, H⟩ | ⟨c718, H⟩
            ·refine xn ([.no] ++ rg 3 true ([.no] ++ rg 17 true [])) [] [(89, cB true)] [] [] (fun t => aI g715 (aI (nat_lt g715) (aI rN (aG 3 c716 (aI g717 (aI c716 (aI (nat_lt g717) (aI rN (aG 2 c716 (aG 11 c718 (aI c716 (aI c718 (aI c716 (t)))))))))))))) ?_
             refine it rT ?_
             refine sn [.no, .no, .fn 0 (fF eI zI (x696.2.2.set y713.2.toNat (W ((x696.2.2.getD y713.1.toNat zI) + v699))))] [] [] [23] [(23, .arr 1 x696.2.2.length (fF eI zI (x696.2.2.set y713.2.toNat (W ((x696.2.2.getD y713.1.toNat zI) + v699)))) false)] (fun t => aI g715 (aI (nat_lt g715) (aI g717 (aI rT (aI (nat_lt g717) (aI (by decide : 0 + 1 ≤ 1) (aI (fF_set eI zI x696.2.2 y713.2.toNat (W ((x696.2.2.getD y713.1.toNat zI) + v699)) (nat_lt g717) x696.2.2.length) (t)))))))) ?_
             refine oo [] [] [(1, cI p1), (2, cI p2), (4, cB p4), (5, dc 1 eI zI p5), (6, pk 6), (13, ow 23 1 x696.2.2), (15, cB true), (16, cI x646.2.1), (38, cL x492.2), (39, cI x646.2.1), (42, cI x696.2.1)] [(6, va (eTBoard p0)), (23, .arr 1 x696.2.2.length (fF eI zI (x696.2.2.set y713.2.toNat (W ((x696.2.2.getD y713.1.toNat zI) + v699)))) false)] id ?_
             change EndsI _ _ _ _ _ _
             refine oo [] [.rel 13 ((x696.2.2.set y713.2.toNat (W ((x696.2.2.getD y713.1.toNat zI) + v699))).length), .rep 23 ((x696.2.2.set y713.2.toNat (W ((x696.2.2.getD y713.1.toNat zI) + v699))).length) (fF eI zI (x696.2.2.set y713.2.toNat (W ((x696.2.2.getD y713.1.toNat zI) + v699))))] [(1, cI p1), (2, cI p2), (4, cB p4), (5, dc 1 eI zI p5), (6, pk 6), (13, ow 23 1 (x696.2.2.set y713.2.toNat (W ((x696.2.2.getD y713.1.toNat zI) + v699)))), (15, cB true), (16, cI x646.2.1), (38, cL x492.2), (39, cI x646.2.1), (42, cI (W (x696.2.1 + 1)))] [(6, va (eTBoard p0)), (23, ar 1 eI zI (x696.2.2.set y713.2.toNat (W ((x696.2.2.getD y713.1.toNat zI) + v699))))] (fun t => aI (by simp : x696.2.2.length = (x696.2.2.set y713.2.toNat (W ((x696.2.2.getD y713.1.toNat zI) + v699))).length) (aI (Nat.le_of_eq (by simp : (x696.2.2.set y713.2.toNat (W ((x696.2.2.getD y713.1.toNat zI) + v699))).length = x696.2.2.length)) (aI (fun _ _ => rfl : ∀ i, i < (x696.2.2.set y713.2.toNat (W ((x696.2.2.getD y713.1.toNat zI) + v699))).length → (fF eI zI (x696.2.2.set y713.2.toNat (W ((x696.2.2.getD y713.1.toNat zI) + v699)))) i = (fF eI zI (x696.2.2.set y713.2.toNat (W ((x696.2.2.getD y713.1.toNat zI) + v699)))) i) (t)))) ?_
             cases H
             exact rr
            ·refine xn ([.no] ++ rg 3 true ([.no] ++ rg 3 true (rg 3 false ([.no] ++ rg 6 false ([.no] ++ rg 2 false [.g true, .g false, .g true]))))) [] [(89, cB (decide ((W ((x696.2.2.getD y713.1.toNat zI) + v699)) < (x696.2.2.getD y713.2.toNat zI))))] [] [] (fun t => aI g715 (aI (nat_lt g715) (aI rN (aG 3 c716 (aI g717 (aI c716 (aI (nat_lt g717) (aI rN (aG 2 c716 (aG 3 c718 (aI g715 (aI c718 (aI (nat_lt g715) (aI rN (aG 5 c718 (aI g717 (aI c718 (aI (nat_lt g717) (aI rN (aI c718 (aI c716 (aI c718 (aI c716 (t)))))))))))))))))))))))) ?_
             rcases oC H with ⟨c719, H⟩ | ⟨c719, H⟩
             ·refine it c719 ?_
              refine sn [.no, .no, .fn 0 (fF eI zI (x696.2.2.set y713.2.toNat (W ((x696.2.2.getD y713.1.toNat zI) + v699))))] [] [] [23] [(23, .arr 1 x696.2.2.length (fF eI zI (x696.2.2.set y713.2.toNat (W ((x696.2.2.getD y713.1.toNat zI) + v699)))) false)] (fun t => aI g715 (aI (nat_lt g715) (aI g717 (aI rT (aI (nat_lt g717) (aI (by decide : 0 + 1 ≤ 1) (aI (fF_set eI zI x696.2.2 y713.2.toNat (W ((x696.2.2.getD y713.1.toNat zI) + v699)) (nat_lt g717) x696.2.2.length) (t)))))))) ?_
              refine oo [] [] [(1, cI p1), (2, cI p2), (4, cB p4), (5, dc 1 eI zI p5), (6, pk 6), (13, ow 23 1 x696.2.2), (15, cB true), (16, cI x646.2.1), (38, cL x492.2), (39, cI x646.2.1), (42, cI x696.2.1)] [(6, va (eTBoard p0)), (23, .arr 1 x696.2.2.length (fF eI zI (x696.2.2.set y713.2.toNat (W ((x696.2.2.getD y713.1.toNat zI) + v699)))) false)] id ?_
              change EndsI _ _ _ _ _ _
              refine oo [] [.rel 13 ((x696.2.2.set y713.2.toNat (W ((x696.2.2.getD y713.1.toNat zI) + v699))).length), .rep 23 ((x696.2.2.set y713.2.toNat (W ((x696.2.2.getD y713.1.toNat zI) + v699))).length) (fF eI zI (x696.2.2.set y713.2.toNat (W ((x696.2.2.getD y713.1.toNat zI) + v699))))] [(1, cI p1), (2, cI p2), (4, cB p4), (5, dc 1 eI zI p5), (6, pk 6), (13, ow 23 1 (x696.2.2.set y713.2.toNat (W ((x696.2.2.getD y713.1.toNat zI) + v699)))), (15, cB true), (16, cI x646.2.1), (38, cL x492.2), (39, cI x646.2.1), (42, cI (W (x696.2.1 + 1)))] [(6, va (eTBoard p0)), (23, ar 1 eI zI (x696.2.2.set y713.2.toNat (W ((x696.2.2.getD y713.1.toNat zI) + v699))))] (fun t => aI (by simp : x696.2.2.length = (x696.2.2.set y713.2.toNat (W ((x696.2.2.getD y713.1.toNat zI) + v699))).length) (aI (Nat.le_of_eq (by simp : (x696.2.2.set y713.2.toNat (W ((x696.2.2.getD y713.1.toNat zI) + v699))).length = x696.2.2.length)) (aI (fun _ _ => rfl : ∀ i, i < (x696.2.2.set y713.2.toNat (W ((x696.2.2.getD y713.1.toNat zI) + v699))).length → (fF eI zI (x696.2.2.set y713.2.toNat (W ((x696.2.2.getD y713.1.toNat zI) + v699)))) i = (fF eI zI (x696.2.2.set y713.2.toNat (W ((x696.2.2.getD y713.1.toNat zI) + v699)))) i) (t)))) ?_
              cases H
              exact rr
             ·refine jf c719 ?_
              refine sk ?_
              refine oo [] [] [(1, cI p1), (2, cI p2), (4, cB p4), (5, dc 1 eI zI p5), (6, pk 6), (13, ow 23 1 x696.2.2), (15, cB x696.1), (16, cI x646.2.1), (38, cL x492.2), (39, cI x646.2.1), (42, cI (W (x696.2.1 + 1)))] [(6, va (eTBoard p0)), (23, ar 1 eI zI x696.2.2)] id ?_
              cases H
              exact rr
           ·refine xn ([.no] ++ rg 8 false []) [] [(89, cB false)] [] [] (fun t => aI g715 (aI (nat_lt g715) (aI rN (aG 8 c716 (t))))) ?_
            refine jf rF ?_
            refine sk ?_
            refine oo [] [] [(1, cI p1), (2, cI p2), (4, cB p4), (5, dc 1 eI zI p5), (6, pk 6), (13, ow 23 1 x696.2.2), (15, cB x696.1), (16, cI x646.2.1), (38, cL x492.2), (39, cI x646.2.1), (42, cI (W (x696.2.1 + 1)))] [(6, va (eTBoard p0)), (23, ar 1 eI zI x696.2.2)] id ?_
            cases H
            exact rr
       ·refine jf c698 ?_
        refine tl [] [(1, cI p1), (2, cI p2), (4, cB p4), (5, dc 1 eI zI p5), (6, pk 6), (13, ow 23 1 x696.2.2), (15, cB x696.1), (38, cL x492.2), (39, cI x646.2.1)] [(6, va (eTBoard p0)), (23, ar 1 eI zI x696.2.2)] id ?_
        refine ends_exit ?_
        cases H
        exact rse
      ·clear h721
       rintro e s ⟨rfl, rfl⟩
       change EndsI _ _ _ _ _ _
       refine oo [] [] [(1, cI p1), (2, cI p2), (4, cB p4), (5, dc 1 eI zI p5), (6, pk 6), (13, ow 23 1 y720.2), (15, cB y720.1), (38, cL x492.2), (39, cI (W (x646.2.1 + 1)))] [(6, va (eTBoard p0)), (23, ar 1 eI zI y720.2)] id ?_
       cases H
       exact rr
     ·refine jf c648 ?_
      refine tl [] [(1, cI p1), (2, cI p2), (4, cB p4), (5, dc 1 eI zI p5), (6, pk 6), (13, ow 23 1 x646.2.2), (15, cB x646.1)] [(6, va (eTBoard p0)), (23, ar 1 eI zI x646.2.2)] id ?_
      refine ends_exit ?_
      cases H
      exact rse
    ·clear h723
     rintro e s ⟨rfl, rfl⟩
     cases H
     exact rr
   ·refine jf c494 ?_
    refine tl [] [(13, ow 23 1 x492.2)] [(23, ar 1 eI zI x492.2)] id ?_
    refine ends_exit ?_
    cases H
    exact rse
  ·clear h725
   rintro e s ⟨rfl, rfl⟩
   change EndsI _ _ _ _ _ _
   refine sn [] [] [(12, ow 23 1 y724)] [] [] id ?_
   refine tl [.frz 12] [(12, dc 1 eI zI y724)] [] (aI (Nat.le_refl y724.length)) ?_
   cases H
   exact er
def i_hexesThat_ir : S :=
 (sq [o 2 (.box 12 (.t 0)), o 4 (.mv (.v (.nil)))]
 (sq [o 7 (.bsl 1 []), om 5 7]
 (.seq (sq [oa 8 7 2, oa 9 2 8, ol 10 9, o 11 (.len (.t 10)), o 12 (.mv (iv 0))]
 (.blk 0 (.loop (sq [o 13 (.bin .lss (.t 12) (.t 11))]
   (.seq (.ite (.t 13) .skip
   (.exit 0))
   (.seq (.blk 1 (sq [om 14 12, om 6 14]
    (sq [om 15 1, om 16 6, o 17 (.cald (.t 15) [.t 16])]
    (.ite (.t 17) (.ops [om 18 5, om 19 6, o 20 (.bsl 1 [.t 19]), o 21 (.app 1 8 (.t 18) (.t 20)), om 5 21])
    .skip))))
   (.ops [o 22 (.bin .add (.t 12) (iv 1)), om 12 22])))))))
 (sq [om 23 5, om 4 23]
 .ret))))
noncomputable def X.i_hexesThat (p0 : TBoard) (f1 : Int → Option Bool) : Option (List Int) :=
 ((loop (fun (x14 : (Int × (List Int))) => ((bif (decide (x14.1 < (p0.Map.Terrain.length : Int))) then ((f1 x14.1).bind fun v17 => (bif v17 then (if (x14.2 ++ ([x14.1] : List Int)).length ≤ LIM then some (Sum.inl ((W (x14.1 + 1)), (x14.2 ++ ([x14.1] : List Int)))) else none) else some (Sum.inl ((W (x14.1 + 1)), x14.2)))) else some (Sum.inr x14.2)) : Option ((Int × (List Int)) ⊕ (List Int)))) (0, ([] : List Int))).bind fun y21 => some y21)
theorem i_hexesThat_c3_ok (p0 : TBoard) (cf1 : FuncId) (cs1_0 : List AC) (cs1_1 : List AC) (cs1_2 : List AC) (f1 : Int → Option Bool) (hf1 : ∀ q0 r, f1 q0 = some r → FK cf1 [cI q0, .c (.pd cs1_0 0), .c (.pd cs1_1 0), .c (.pd cs1_2 0)] (cB r)) (r : (List Int)) (H : X.i_hexesThat p0 f1 = some r) : FK 67 [.agg (eTBoard p0), .c (.clo cf1 [.pd cs1_0 0, .pd cs1_1 0, .pd cs1_2 0])] (.c (dat 1 eI zI r)) := by
 unfold X.i_hexesThat at H
 refine fi Tryz.f67 i_hexesThat_ir [(4, dc 1 eI zI r)] [] glL Tryz.func67 ?_
 refine sn [] [] [(2, pk 2)] [] [(2, va (eTBoard p0))] id ?_
 refine sn [fh eI zI ([] : List Int)] [] [(5, ow 7 1 ([] : List Int))] [] [(7, ar 1 eI zI ([] : List Int))] (fun t => aI (rfl : ([] : List Int).length = 0) (aI (fF_lit eI zI ([] : List Int)) (t))) ?_
 refine seq_in ?_
 refine sn [] [] [(11, cL p0.Map.Terrain), (12, cI 0)] [] [] (fun t => lI p0.Map.Terrain (t)) ?_
 refine ends_blk ?_
 obtain ⟨y21, h22, H⟩ := oB H
 refine tl [.ren 7 1001] [(1, .c (.clo cf1 [.pd cs1_0 0, .pd cs1_1 0, .pd cs1_2 0])), (5, ow 1001 1 ([] : List Int)), (11, cL p0.Map.Terrain), (12, cI 0)] [(1001, ar 1 eI zI ([] : List Int))] id ?_
 refine loop_in (fun (x : (Int × (List Int))) => lit [(1, .c (.clo cf1 [.pd cs1_0 0, .pd cs1_1 0, .pd cs1_2 0])), (5, ow 1001 1 x.2), (11, cL p0.Map.Terrain), (12, cI x.1)] [(1001, ar 1 eI zI x.2)]) (fun (z : (List Int)) => At (.exit 0) (lit [(5, ow 1001 1 z)] [(1001, ar 1 eI zI z)])) h22 ?_ ?_
 ·clear H h22
  intro x14 y0 H
  refine sn [] [] [(13, cB (decide (x14.1 < (p0.Map.Terrain.length : Int))))] [] [] id ?_
  refine seq_in ?_
  rcases oC H with ⟨c16, H⟩ | ⟨c16, H⟩
  ·refine it c16 ?_
   refine sk ?_
   refine seq_in ?_
   refine ends_blk ?_
   refine sn [] [] [(6, cI x14.1)] [] [] id ?_
   obtain ⟨v17, h18, H⟩ := oB H
   refine sn [.res (cB v17)] [] [(17, cB v17)] [] [] (aI (hf1 x14.1 v17 h18)) ?_
   rcases oC H with ⟨c19, H⟩ | ⟨c19, H⟩
   ·refine it c19 ?_
    obtain ⟨g20, H⟩ := oI H
    refine oo [fh eI zI ([x14.1] : List Int), fh eI zI (x14.2 ++ ([x14.1] : List Int))] [] [(1, .c (.clo cf1 [.pd cs1_0 0, .pd cs1_1 0, .pd cs1_2 0])), (5, ow 21 1 (x14.2 ++ ([x14.1] : List Int))), (11, cL p0.Map.Terrain), (12, cI x14.1)] [(21, ar 1 eI zI (x14.2 ++ ([x14.1] : List Int)))] (fun t => aI (rfl : ([x14.1] : List Int).length = 1) (aI (fF_lit eI zI ([x14.1] : List Int)) (aI (And.intro (Nat.le_refl x14.2.length) (And.intro (@List.length_append _ x14.2 ([x14.1] : List Int)) g20)) (aI (fF_appL eI zI x14.2 ([x14.1] : List Int)) (aI (fF_appR eI zI x14.2 ([x14.1] : List Int)) (t)))))) ?_
    change EndsI _ _ _ _ _ _
    refine oo [] [.ren 21 1001] [(1, .c (.clo cf1 [.pd cs1_0 0, .pd cs1_1 0, .pd cs1_2 0])), (5, ow 1001 1 (x14.2 ++ ([x14.1] : List Int))), (11, cL p0.Map.Terrain), (12, cI (W (x14.1 + 1)))] [(1001, ar 1 eI zI (x14.2 ++ ([x14.1] : List Int)))] id ?_
    cases H
    exact rr
   ·refine jf c19 ?_
    refine sk ?_
    refine oo [] [] [(1, .c (.clo cf1 [.pd cs1_0 0, .pd cs1_1 0, .pd cs1_2 0])), (5, ow 1001 1 x14.2), (11, cL p0.Map.Terrain), (12, cI (W (x14.1 + 1)))] [(1001, ar 1 eI zI x14.2)] id ?_
    cases H
    exact rr
  ·refine jf c16 ?_
   refine tl [] [(5, ow 1001 1 x14.2)] [(1001, ar 1 eI zI x14.2)] id ?_
   refine ends_exit ?_
   cases H
   exact rse
 ·clear h22
  rintro e s ⟨rfl, rfl⟩
  change EndsI _ _ _ _ _ _
  refine sn [] [] [(4, ow 1001 1 y21)] [] [] id ?_
  refine tl [.frz 4] [(4, dc 1 eI zI y21)] [] (aI (Nat.le_refl y21.length)) ?_
  cases H
  exact er
def i_reachFrom_1_ir : S :=
 (sq [o 5 (.mv bF)]
 (.seq (.drw [(0, 1), (0, 4), (1, 4), (2, 4), (3, 4), (0, 5), (1, 5), (2, 5), (3, 5), (0, 6), (1, 6), (2, 6), (3, 6), (0, 7), (1, 7), (2, 7), (3, 7), (4, 7), (5, 7), (6, 7), (0, 8), (1, 8), (2, 8), (3, 8), (4, 8), (5, 8), (6, 8), (0, 9), (1, 9), (2, 9), (3, 9), (0, 10), (1, 10), (2, 10), (3, 10), (0, 11), (1, 11), (2, 11), (3, 11)] [ol 6 1, om 7 0, o 8 (.iad 1 (.t 6) (.t 7)), ol 9 8, oa 10 0 2, oa 11 1 10, ol 12 11, oa 13 1 3, ol 14 13, o 15 (.iad 6 (.t 12) (.t 14)), oa 16 2 15, ol 17 16, o 18 (.call 69 [.t 9, .v (.int .i64 0), .t 17]), om 5 18])
 .ret))
noncomputable def X.i_reachFrom_1 (p0 : Int) (p1 : (List Int)) (p2 : TBoard) (p3 : TUnit) : Option Bool :=
 ((at' zI p1 p0).bind fun v1 => ((at' zTKind p2.Rules.Kinds p3.Kind).bind fun v3 => ((X.i_inRange v1 0 v3.Moves).bind fun v5 => some v5)))
theorem i_reachFrom_1_ok (p0 : Int) (p1 : (List Int)) (p2 : TBoard) (p3 : TUnit) (r : Bool) (H : X.i_reachFrom_1 p0 p1 p2 p3 = some r) : FK 68 [cI p0, .c (.pd (eLI p1) 0), .c (.pd (eTBoard p2) 0), .c (.pd (eTUnit p3) 0)] (cB r) := by
 unfold X.i_reachFrom_1 at H
 refine fi Tryz.f68 i_reachFrom_1_ir [(5, cB r)] [] glL Tryz.func68 ?_
 refine sn [] [] [] [] [] id ?_
 obtain ⟨v1, h2, H⟩ := oB H
 obtain ⟨v3, h4, H⟩ := oB H
 obtain ⟨v5, h6, H⟩ := oB H
 refine sx [.cs (eI v1), .cs (eTKind v3), .res (cB v5)] [] [(5, cB v5)] [] (fun t => aI rN ((a2 eI h2 (aG 3 rN ((a2 eTKind h4 (aI rN (aI (i_inRange_ok v1 0 v3.Moves v5 h6) (aI trivial (aI rN (t))))))))))) ?_
 cases H
 exact er
def i_reachFrom_ir : S :=
 (sq [o 3 (.box 12 (.t 0)), o 4 (.box 3 (.t 1)), o 5 (.box 4 (.t 2)), o 6 (.mv (.v (.nil)))]
 (sq [o 8 (.load 12 true (.t 3)), oa 9 1 5, ol 10 9, oa 11 1 4, ol 12 11, oa 13 2 5, ol 14 13, o 15 (.call 66 [.t 8, .t 10, .t 12, .t 14, .v (.bool false), .v (.nil)]), o 7 (.alloc [.nil]), os 1 7 15]
 (sq [o 16 (.load 12 true (.t 3)), o 17 (.clo 68 [.t 7, .t 3, .t 5]), o 18 (.call 67 [.t 16, .t 17]), om 6 18]
 .ret)))
noncomputable def X.i_reachFrom (p0 : TBoard) (p1 : TState) (p2 : TUnit) : Option (List Int) :=
 ((X.i_relaxed p0 p2.Kind p1.Weather p2.At false ([] : List Int)).bind fun v1 => ((X.i_hexesThat p0 (fun q0 => X.i_reachFrom_1 q0 v1 p0 p2)).bind fun v3 => some v3))
theorem i_reachFrom_ok (p0 : TBoard) (p1 : TState) (p2 : TUnit) (r : (List Int)) (H : X.i_reachFrom p0 p1 p2 = some r) : FK 31 [.agg (eTBoard p0), .agg (eTState p1), .agg (eTUnit p2)] (.c (dat 1 eI zI r)) := by
 unfold X.i_reachFrom at H
 refine fi Tryz.f31 i_reachFrom_ir [(6, dc 1 eI zI r)] [] glL Tryz.func31 ?_
 refine so [] [] [(3, pk 3), (4, pk 4), (5, pk 5)] [(3, va (eTBoard p0)), (4, va (eTState p1)), (5, va (eTUnit p2))] id ?_
 obtain ⟨v1, h2, H⟩ := oB H
 refine sn [.res (dc 1 eI zI v1)] [] [(7, pk 7)] [] [(7, .var [dat 1 eI zI v1] false)] (aI (FnOk.le2 (xs := [.agg (eTBoard p0), cI p2.Kind, cI p1.Weather, cI p2.At, cB false, .c (.nil)]) (i_relaxed_ok p0 p2.Kind p1.Weather p2.At false ([] : List Int) v1 h2) ⟨LeD.refl _, LeD.refl _, LeD.refl _, LeD.refl _, LeD.refl _, LeD.nil 1 (fF eI zI ([] : List Int)), trivial⟩)) ?_
 obtain ⟨v3, h4, H⟩ := oB H
 refine so [.res (dc 1 eI zI v3)] [] [(6, dc 1 eI zI v3)] [] (aI (i_hexesThat_c3_ok p0 (68) (eLI v1) (eTBoard p0) (eTUnit p2) (fun q0 => X.i_reachFrom_1 q0 v1 p0 p2) (fun q0 r h => i_reachFrom_1_ok q0 v1 p0 p2 r h) v3 h4)) ?_
 cases H
 exact er
def i_MobilityOf_ir : S :=
 (sq [o 3 (.box 12 (.t 0)), o 4 (.box 3 (.t 1)), o 6 (.mv (iv 0)), o 7 (.mv bF)]
 (.seq (sq [o 8 (.load 12 true (.t 3)), o 9 (.load 3 true (.t 4)), om 10 2, o 11 (.call 30 [.t 8, .t 9, .t 10]), o 12 (.not (.t 11))]
 (.ite (.t 12) (sq [o 6 (.mv (iv 0)), o 7 (.mv bF)]
  .ret)
 .skip))
 (.seq (sq [oa 13 2 4, ol 14 13, om 15 2, o 16 (.iad 4 (.t 14) (.t 15)), oa 17 2 16, ol 18 17, o 19 (.bin .lss (.t 18) (iv 0))]
 (.ite (.t 19) (sq [o 6 (.mv (iv 0)), o 7 (.mv bT)]
  .ret)
 .skip))
 (.seq (.drw [(0, 1), (0, 2), (1, 2), (0, 3), (1, 3), (0, 4), (1, 4), (2, 4), (3, 4), (0, 5), (1, 5), (0, 6), (1, 6)] [o 20 (.load 12 true (.t 3)), o 21 (.load 3 true (.t 4)), oa 22 2 4, ol 23 22, om 24 2, o 25 (.iad 4 (.t 23) (.t 24)), o 26 (.load 4 true (.t 25)), o 27 (.call 31 [.t 20, .t 21, .t 26]), o 28 (.len (.t 27)), o 29 (.bin .sub (.t 28) (iv 1)), om 6 29, o 7 (.mv bT)])
 .ret))))
noncomputable def X.i_MobilityOf (p0 : TBoard) (p1 : TState) (p2 : Int) : Option (Int × Bool) :=
 ((X.i_hasUnit p0 p1 p2).bind fun v4 => (bif (!v4) then some (0, false) else ((at' zTUnit p1.Units p2).bind fun v10 => (bif (decide (v10.At < 0)) then some (0, true) else ((X.i_reachFrom p0 p1 v10).bind fun v13 => some ((W ((v13.length : Int) - 1)), true))))))
theorem i_MobilityOf_ok (p0 : TBoard) (p1 : TState) (p2 : Int) (r : (Int × Bool)) (H : X.i_MobilityOf p0 p1 p2 = some r) : FK 11 [.agg (eTBoard p0), .agg (eTState p1), cI p2] (.tup [(false, [.int .i64 r.1]), (false, [.bool r.2])]) := by
 unfold X.i_MobilityOf at H
 refine fi Tryz.f11 i_MobilityOf_ir [(6, cI r.1), (7, cB r.2)] [] glL Tryz.func11 ?_
 refine sn [] [] [(3, pk 3), (4, pk 4)] [] [(3, va (eTBoard p0)), (4, va (eTState p1))] id ?_
 refine seq_in ?_
 obtain ⟨v4, h5, H⟩ := oB H
 refine sn [.res (cB v4)] [] [(12, cB (!v4))] [] [] (aI (i_hasUnit_ok p0 p1 p2 v4 h5)) ?_
 rcases oC H with ⟨c6, H⟩ | ⟨c6, H⟩
 ·refine it c6 ?_
  refine so [] [] [(6, cI 0), (7, cB false)] [] id ?_
  cases H
  exact er
 ·refine jf c6 ?_
  refine sk ?_
  refine seq_in ?_
  obtain ⟨v10, h11, H⟩ := oB H
  refine sn [.cs (eTUnit v10)] [] [(19, cB (decide (v10.At < 0)))] [] [] (a2 eTUnit h11) ?_
  rcases oC H with ⟨c12, H⟩ | ⟨c12, H⟩
  ·refine it c12 ?_
   refine so [] [] [(6, cI 0), (7, cB true)] [] id ?_
   cases H
   exact er
  ·refine jf c12 ?_
   refine sk ?_
   obtain ⟨v13, h14, H⟩ := oB H
   refine sx [.cs (eTUnit v10), .res (dc 1 eI zI v13)] [] [(6, cI (W ((v13.length : Int) - 1))), (7, cB true)] [] (fun t => (a2 eTUnit h11 (aI rN (aI (i_reachFrom_ok p0 p1 v10 v13 h14) (aG 2 rN (t)))))) ?_
   cases H
   exact er
def l_eqIntS_ir : S :=
 (sq [o 4 (.mv bF)]
 (.seq (sq [om 6 0, o 7 (.len (.t 6)), om 8 1, o 9 (.len (.t 8)), o 10 (.bin .neq (.t 7) (.t 9))]
 (.ite (.t 10) (sq [o 4 (.mv bF)]
  .ret)
 .skip))
 (.seq (sq [o 5 (.mv (iv 0))]
 (.blk 0 (.loop (.seq (sq [om 11 5, om 12 0, o 13 (.len (.t 12)), o 14 (.bin .lss (.t 11) (.t 13))]
   (.ite (.t 14) .skip
   (.exit 0)))
   (.seq (.blk 1 (.seq (.drw [(0, 1), (0, 4), (1, 4), (2, 4), (3, 4), (0, 5), (1, 5), (2, 5), (3, 5), (4, 5), (0, 6), (1, 6), (2, 6), (3, 6), (0, 7), (1, 7), (2, 7), (3, 7)] [om 17 0, om 18 5, o 19 (.iad 1 (.t 17) (.t 18)), ol 20 19, om 21 1, om 22 5, o 23 (.iad 1 (.t 21) (.t 22)), ol 24 23, o 25 (.bin .neq (.t 20) (.t 24))])
    (.ite (.t 25) (sq [o 4 (.mv bF)]
     .ret)
    .skip)))
   (.ops [om 15 5, o 16 (.bin .add (.t 15) (iv 1)), om 5 16]))))))
 (sq [o 4 (.mv bT)]
 .ret))))
noncomputable def X.l_eqIntS (p0 : (List Int)) (p1 : (List Int)) : Option Bool :=
 (bif ((p0.length : Int) != (p1.length : Int)) then some false else ((loop (fun (x18 : Int) => ((bif (decide (x18 < (p0.length : Int))) then ((at' zI p0 x18).bind fun v21 => ((at' zI p1 x18).bind fun v23 => (bif (v21 != v23) then some (Sum.inr (Sum.inr false)) else some (Sum.inl (W (x18 + 1)))))) else some (Sum.inr (Sum.inl ()))) : Option (Int ⊕ (Unit ⊕ Bool)))) 0).bind fun y26 => (Sum.elim (fun (y28 : Unit) => some true) (fun (y29 : Bool) => some y29) y26)))
theorem l_eqIntS_ok (p0 : (List Int)) (p1 : (List Int)) (r : Bool) (H : X.l_eqIntS p0 p1 = some r) : FK 72 [.c (dat 1 eI zI p0), .c (dat 1 eI zI p1)] (cB r) := by
 unfold X.l_eqIntS at H
 refine fi Tryz.f72 l_eqIntS_ir [(4, cB r)] [] glL Tryz.func72 ?_
 refine sn [] [] [] [] [] id ?_
 refine seq_in ?_
 refine sn [] [] [(10, cB ((p0.length : Int) != (p1.length : Int)))] [] [] (fun t => lI p0 (lI p1 (t))) ?_
 rcases oC H with ⟨c2, H⟩ | ⟨c2, H⟩
 ·refine it c2 ?_
  refine so [] [] [(4, cB false)] [] id ?_
  cases H
  exact er
 ·refine jf c2 ?_
  refine sk ?_
  refine seq_in ?_
  refine sn [] [] [(5, cI 0)] [] [] id ?_
  refine ends_blk ?_
  obtain ⟨y26, h27, H⟩ := oB H
  refine tl [] [(0, dc 1 eI zI p0), (1, dc 1 eI zI p1), (5, cI 0)] [] id ?_
  refine loop_in (fun (x : Int) => lit [(0, dc 1 eI zI p0), (1, dc 1 eI zI p1), (5, cI x)] []) (orJ (fun (z : Unit) => At (.exit 0) (lit [] [])) (fun (z : Bool) => At .ret (lit [(4, cB z)] []))) h27 ?_ ?_
  ·clear H h27
   intro x18 y0 H
   refine seq_in ?_
   refine sn [] [] [(14, cB (decide (x18 < (p0.length : Int))))] [] [] (fun t => lI p0 (t)) ?_
   rcases oC H with ⟨c20, H⟩ | ⟨c20, H⟩
   ·refine it c20 ?_
    refine sk ?_
    refine seq_in ?_
    refine ends_blk ?_
    obtain ⟨v21, h22, H⟩ := oB H
    obtain ⟨v23, h24, H⟩ := oB H
    refine xn [.cs (eI v21), .cs (eI v23)] [] [(25, cB (v21 != v23))] [] [] (fun t => (a2 eI h22 (aI rN ((a2 eI h24 (aI rN (t))))))) ?_
    rcases oC H with ⟨c25, H⟩ | ⟨c25, H⟩
    ·refine it c25 ?_
     refine so [] [] [(4, cB false)] [] id ?_
     refine ends_ret ?_
     cases H
     exact rsr
    ·refine jf c25 ?_
     refine sk ?_
     refine oo [] [] [(0, dc 1 eI zI p0), (1, dc 1 eI zI p1), (5, cI (W (x18 + 1)))] [] id ?_
     cases H
     exact rr
   ·refine jf c20 ?_
    refine tl [] [] [] id ?_
    refine ends_exit ?_
    cases H
    exact rse
  ·clear h27
   cases y26 with
   | inl y28 =>
    replace H := ofInl H
    rintro e s ⟨rfl, rfl⟩
    change EndsI _ _ _ _ _ _
    refine so [] [] [(4, cB true)] [] id ?_
    cases H
    exact er
   | inr y29 =>
    replace H := ofInr H
    rintro e s ⟨rfl, rfl⟩
    cases H
    exact qr
def l_eqTerrain_ir : S :=
 (sq [o 2 (.box 5 (.t 0)), o 3 (.box 5 (.t 1)), o 4 (.mv bF)]
 (.seq (sq [oa 5 0 2, ol 6 5, oa 7 0 3, ol 8 7, o 9 (.bin .neq (.t 6) (.t 8))]
 (.ite (.t 9) (sq [o 4 (.mv bF)]
  .ret)
 .skip))
 (.seq (sq [oa 10 1 2, ol 11 10, oa 12 1 3, ol 13 12, o 14 (.call 72 [.t 11, .t 13]), o 15 (.not (.t 14))]
 (.ite (.t 15) (sq [o 4 (.mv bF)]
  .ret)
 .skip))
 (.seq (sq [oa 16 2 2, ol 17 16, oa 18 2 3, ol 19 18, o 20 (.bin .neq (.t 17) (.t 19))]
 (.ite (.t 20) (sq [o 4 (.mv bF)]
  .ret)
 .skip))
 (.seq (sq [oa 21 3 2, ol 22 21, oa 23 3 3, ol 24 23, o 25 (.bin .neq (.t 22) (.t 24))]
 (.ite (.t 25) (sq [o 4 (.mv bF)]
  .ret)
 .skip))
 (.seq (sq [oa 26 4 2, ol 27 26, oa 28 4 3, ol 29 28, o 30 (.bqe true (.t 27) (.t 29))]
 (.ite (.t 30) (sq [o 4 (.mv bF)]
  .ret)
 .skip))
 (sq [o 4 (.mv bT)]
 .ret)))))))
noncomputable def X.l_eqTerrain (p0 : TTerrain) (p1 : TTerrain) : Option Bool :=
 (bif (!(p0.Name == p1.Name)) then some false else ((X.l_eqIntS p0.Cost p1.Cost).bind fun v6 => (bif (!v6) then some false else (bif (p0.Shift != p1.Shift) then some false else (bif (p0.Height != p1.Height) then some false else (bif (!(p0.Blocks == p1.Blocks)) then some false else some true))))))
theorem l_eqTerrain_ok (p0 : TTerrain) (p1 : TTerrain) (r : Bool) (H : X.l_eqTerrain p0 p1 = some r) : FK 110 [.agg (eTTerrain p0), .agg (eTTerrain p1)] (cB r) := by
 unfold X.l_eqTerrain at H
 refine fi Tryz.f110 l_eqTerrain_ir [(4, cB r)] [] glL Tryz.func110 ?_
 refine so [] [] [(2, pk 2), (3, pk 3)] [(2, va (eTTerrain p0)), (3, va (eTTerrain p1))] id ?_
 refine seq_in ?_
 refine sn [] [] [(9, cB (!(p0.Name == p1.Name)))] [] [] id ?_
 rcases oC H with ⟨c2, H⟩ | ⟨c2, H⟩
 ·refine it c2 ?_
  refine so [] [] [(4, cB false)] [] id ?_
  cases H
  exact er
 ·refine jf c2 ?_
  refine sk ?_
  refine seq_in ?_
  obtain ⟨v6, h7, H⟩ := oB H
  refine sn [.res (cB v6)] [] [(15, cB (!v6))] [] [] (aI (l_eqIntS_ok p0.Cost p1.Cost v6 h7)) ?_
  rcases oC H with ⟨c8, H⟩ | ⟨c8, H⟩
  ·refine it c8 ?_
   refine so [] [] [(4, cB false)] [] id ?_
   cases H
   exact er
  ·refine jf c8 ?_
   refine sk ?_
   refine seq_in ?_
   refine sn [] [] [(20, cB (p0.Shift != p1.Shift))] [] [] id ?_
   rcases oC H with ⟨c10, H⟩ | ⟨c10, H⟩
   ·refine it c10 ?_
    refine so [] [] [(4, cB false)] [] id ?_
    cases H
    exact er
   ·refine jf c10 ?_
    refine sk ?_
    refine seq_in ?_
    refine sn [] [] [(25, cB (p0.Height != p1.Height))] [] [] id ?_
    rcases oC H with ⟨c12, H⟩ | ⟨c12, H⟩
    ·refine it c12 ?_
     refine so [] [] [(4, cB false)] [] id ?_
     cases H
     exact er
    ·refine jf c12 ?_
     refine sk ?_
     refine seq_in ?_
     refine so [] [] [(30, cB (!(p0.Blocks == p1.Blocks)))] [] id ?_
     rcases oC H with ⟨c13, H⟩ | ⟨c13, H⟩
     ·refine it c13 ?_
      refine so [] [] [(4, cB false)] [] id ?_
      cases H
      exact er
     ·refine jf c13 ?_
      refine sk ?_
      refine so [] [] [(4, cB true)] [] id ?_
      cases H
      exact er
def l_eqTerrainS_ir : S :=
 (sq [o 4 (.mv bF)]
 (.seq (sq [om 6 0, o 7 (.len (.t 6)), om 8 1, o 9 (.len (.t 8)), o 10 (.bin .neq (.t 7) (.t 9))]
 (.ite (.t 10) (sq [o 4 (.mv bF)]
  .ret)
 .skip))
 (.seq (sq [o 5 (.mv (iv 0))]
 (.blk 0 (.loop (.seq (sq [om 11 5, om 12 0, o 13 (.len (.t 12)), o 14 (.bin .lss (.t 11) (.t 13))]
   (.ite (.t 14) .skip
   (.exit 0)))
   (.seq (.blk 1 (.seq (.drw [(0, 1), (0, 4), (1, 4), (2, 4), (3, 4), (0, 5), (1, 5), (2, 5), (3, 5), (4, 5), (0, 6), (1, 6), (2, 6), (3, 6), (0, 7), (1, 7), (2, 7), (3, 7)] [om 17 0, om 18 5, o 19 (.iad 5 (.t 17) (.t 18)), o 20 (.load 5 true (.t 19)), om 21 1, om 22 5, o 23 (.iad 5 (.t 21) (.t 22)), o 24 (.load 5 true (.t 23)), o 25 (.call 110 [.t 20, .t 24]), o 26 (.not (.t 25))])
    (.ite (.t 26) (sq [o 4 (.mv bF)]
     .ret)
    .skip)))
   (.ops [om 15 5, o 16 (.bin .add (.t 15) (iv 1)), om 5 16]))))))
 (sq [o 4 (.mv bT)]
 .ret))))
noncomputable def X.l_eqTerrainS (p0 : (List TTerrain)) (p1 : (List TTerrain)) : Option Bool :=
 (bif ((p0.length : Int) != (p1.length : Int)) then some false else ((loop (fun (x22 : Int) => ((bif (decide (x22 < (p0.length : Int))) then ((at' zTTerrain p0 x22).bind fun v25 => ((at' zTTerrain p1 x22).bind fun v27 => ((X.l_eqTerrain v25 v27).bind fun v29 => (bif (!v29) then some (Sum.inr (Sum.inr false)) else some (Sum.inl (W (x22 + 1))))))) else some (Sum.inr (Sum.inl ()))) : Option (Int ⊕ (Unit ⊕ Bool)))) 0).bind fun y32 => (Sum.elim (fun (y34 : Unit) => some true) (fun (y35 : Bool) => some y35) y32)))
theorem l_eqTerrainS_ok (p0 : (List TTerrain)) (p1 : (List TTerrain)) (r : Bool) (H : X.l_eqTerrainS p0 p1 = some r) : FK 70 [.c (dat 5 eTTerrain zTTerrain p0), .c (dat 5 eTTerrain zTTerrain p1)] (cB r) := by
 unfold X.l_eqTerrainS at H
 refine fi Tryz.f70 l_eqTerrainS_ir [(4, cB r)] [] glL Tryz.func70 ?_
 refine sn [] [] [] [] [] id ?_
 refine seq_in ?_
 refine sn [] [] [(10, cB ((p0.length : Int) != (p1.length : Int)))] [] [] (fun t => lI p0 (lI p1 (t))) ?_
 rcases oC H with ⟨c2, H⟩ | ⟨c2, H⟩
 ·refine it c2 ?_
  refine so [] [] [(4, cB false)] [] id ?_
  cases H
  exact er
 ·refine jf c2 ?_
  refine sk ?_
  refine seq_in ?_
  refine sn [] [] [(5, cI 0)] [] [] id ?_
  refine ends_blk ?_
  obtain ⟨y32, h33, H⟩ := oB H
  refine tl [] [(0, dc 5 eTTerrain zTTerrain p0), (1, dc 5 eTTerrain zTTerrain p1), (5, cI 0)] [] id ?_
  refine loop_in (fun (x : Int) => lit [(0, dc 5 eTTerrain zTTerrain p0), (1, dc 5 eTTerrain zTTerrain p1), (5, cI x)] []) (orJ (fun (z : Unit) => At (.exit 0) (lit [] [])) (fun (z : Bool) => At .ret (lit [(4, cB z)] []))) h33 ?_ ?_
  ·clear H h33
   intro x22 y0 H
   refine seq_in ?_
   refine sn [] [] [(14, cB (decide (x22 < (p0.length : Int))))] [] [] (fun t => lI p0 (t)) ?_
   rcases oC H with ⟨c24, H⟩ | ⟨c24, H⟩
   ·refine it c24 ?_
    refine sk ?_
    refine seq_in ?_
    refine ends_blk ?_
    obtain ⟨v25, h26, H⟩ := oB H
    obtain ⟨v27, h28, H⟩ := oB H
    obtain ⟨v29, h30, H⟩ := oB H
    refine xn [.cs (eTTerrain v25), .cs (eTTerrain v27), .res (cB v29)] [] [(26, cB (!v29))] [] [] (fun t => (a2 eTTerrain h26 (aI rN ((a2 eTTerrain h28 (aI rN (aI (l_eqTerrain_ok v25 v27 v29 h30) (aI trivial (aI rN (t)))))))))) ?_
    rcases oC H with ⟨c31, H⟩ | ⟨c31, H⟩
    ·refine it c31 ?_
     refine so [] [] [(4, cB false)] [] id ?_
     refine ends_ret ?_
     cases H
     exact rsr
    ·refine jf c31 ?_
     refine sk ?_
     refine oo [] [] [(0, dc 5 eTTerrain zTTerrain p0), (1, dc 5 eTTerrain zTTerrain p1), (5, cI (W (x22 + 1)))] [] id ?_
     cases H
     exact rr
   ·refine jf c24 ?_
    refine tl [] [] [] id ?_
    refine ends_exit ?_
    cases H
    exact rse
  ·clear h33
   cases y32 with
   | inl y34 =>
    replace H := ofInl H
    rintro e s ⟨rfl, rfl⟩
    change EndsI _ _ _ _ _ _
    refine so [] [] [(4, cB true)] [] id ?_
    cases H
    exact er
   | inr y35 =>
    replace H := ofInr H
    rintro e s ⟨rfl, rfl⟩
    cases H
    exact qr
def l_eqKind_ir : S :=
 (sq [o 2 (.box 6 (.t 0)), o 3 (.box 6 (.t 1)), o 4 (.mv bF)]
 (.seq (sq [oa 5 0 2, ol 6 5, oa 7 0 3, ol 8 7, o 9 (.bin .neq (.t 6) (.t 8))]
 (.ite (.t 9) (sq [o 4 (.mv bF)]
  .ret)
 .skip))
 (.seq (sq [oa 10 1 2, ol 11 10, oa 12 1 3, ol 13 12, o 14 (.bin .neq (.t 11) (.t 13))]
 (.ite (.t 14) (sq [o 4 (.mv bF)]
  .ret)
 .skip))
 (.seq (sq [oa 15 2 2, ol 16 15, oa 17 2 3, ol 18 17, o 19 (.bin .neq (.t 16) (.t 18))]
 (.ite (.t 19) (sq [o 4 (.mv bF)]
  .ret)
 .skip))
 (.seq (sq [oa 20 3 2, ol 21 20, oa 22 3 3, ol 23 22, o 24 (.bin .neq (.t 21) (.t 23))]
 (.ite (.t 24) (sq [o 4 (.mv bF)]
  .ret)
 .skip))
 (.seq (sq [oa 25 4 2, ol 26 25, oa 27 4 3, ol 28 27, o 29 (.bqe true (.t 26) (.t 28))]
 (.ite (.t 29) (sq [o 4 (.mv bF)]
  .ret)
 .skip))
 (.seq (sq [oa 30 5 2, ol 31 30, oa 32 5 3, ol 33 32, o 34 (.bin .neq (.t 31) (.t 33))]
 (.ite (.t 34) (sq [o 4 (.mv bF)]
  .ret)
 .skip))
 (sq [o 4 (.mv bT)]
 .ret))))))))
noncomputable def X.l_eqKind (p0 : TKind) (p1 : TKind) : Option Bool :=
 (bif (!(p0.Name == p1.Name)) then some false else (bif (p0.Strength != p1.Strength) then some false else (bif (p0.Moves != p1.Moves) then some false else (bif (p0.Steps != p1.Steps) then some false else (bif (!(p0.Zone == p1.Zone)) then some false else (bif (p0.View != p1.View) then some false else some true))))))
theorem l_eqKind_ok (p0 : TKind) (p1 : TKind) (r : Bool) (H : X.l_eqKind p0 p1 = some r) : FK 111 [.agg (eTKind p0), .agg (eTKind p1)] (cB r) := by
 unfold X.l_eqKind at H
 refine fi Tryz.f111 l_eqKind_ir [(4, cB r)] [] glL Tryz.func111 ?_
 refine so [] [] [(2, pk 2), (3, pk 3)] [(2, va (eTKind p0)), (3, va (eTKind p1))] id ?_
 refine seq_in ?_
 refine sn [] [] [(9, cB (!(p0.Name == p1.Name)))] [] [] id ?_
 rcases oC H with ⟨c2, H⟩ | ⟨c2, H⟩
 ·refine it c2 ?_
  refine so [] [] [(4, cB false)] [] id ?_
  cases H
  exact er
 ·refine jf c2 ?_
  refine sk ?_
  refine seq_in ?_
  refine sn [] [] [(14, cB (p0.Strength != p1.Strength))] [] [] id ?_
  rcases oC H with ⟨c4, H⟩ | ⟨c4, H⟩
  ·refine it c4 ?_
   refine so [] [] [(4, cB false)] [] id ?_
   cases H
   exact er
  ·refine jf c4 ?_
   refine sk ?_
   refine seq_in ?_
   refine sn [] [] [(19, cB (p0.Moves != p1.Moves))] [] [] id ?_
   rcases oC H with ⟨c6, H⟩ | ⟨c6, H⟩
   ·refine it c6 ?_
    refine so [] [] [(4, cB false)] [] id ?_
    cases H
    exact er
   ·refine jf c6 ?_
    refine sk ?_
    refine seq_in ?_
    refine sn [] [] [(24, cB (p0.Steps != p1.Steps))] [] [] id ?_
    rcases oC H with ⟨c8, H⟩ | ⟨c8, H⟩
    ·refine it c8 ?_
     refine so [] [] [(4, cB false)] [] id ?_
     cases H
     exact er
    ·refine jf c8 ?_
     refine sk ?_
     refine seq_in ?_
     refine sn [] [] [(29, cB (!(p0.Zone == p1.Zone)))] [] [] id ?_
     rcases oC H with ⟨c10, H⟩ | ⟨c10, H⟩
     ·refine it c10 ?_
      refine so [] [] [(4, cB false)] [] id ?_
      cases H
      exact er
     ·refine jf c10 ?_
      refine sk ?_
      refine seq_in ?_
      refine so [] [] [(34, cB (p0.View != p1.View))] [] id ?_
      rcases oC H with ⟨c11, H⟩ | ⟨c11, H⟩
      ·refine it c11 ?_
       refine so [] [] [(4, cB false)] [] id ?_
       cases H
       exact er
      ·refine jf c11 ?_
       refine sk ?_
       refine so [] [] [(4, cB true)] [] id ?_
       cases H
       exact er
def l_eqKindS_ir : S :=
 (sq [o 4 (.mv bF)]
 (.seq (sq [om 6 0, o 7 (.len (.t 6)), om 8 1, o 9 (.len (.t 8)), o 10 (.bin .neq (.t 7) (.t 9))]
 (.ite (.t 10) (sq [o 4 (.mv bF)]
  .ret)
 .skip))
 (.seq (sq [o 5 (.mv (iv 0))]
 (.blk 0 (.loop (.seq (sq [om 11 5, om 12 0, o 13 (.len (.t 12)), o 14 (.bin .lss (.t 11) (.t 13))]
   (.ite (.t 14) .skip
   (.exit 0)))
   (.seq (.blk 1 (.seq (.drw [(0, 1), (0, 4), (1, 4), (2, 4), (3, 4), (0, 5), (1, 5), (2, 5), (3, 5), (4, 5), (0, 6), (1, 6), (2, 6), (3, 6), (0, 7), (1, 7), (2, 7), (3, 7)] [om 17 0, om 18 5, o 19 (.iad 6 (.t 17) (.t 18)), o 20 (.load 6 true (.t 19)), om 21 1, om 22 5, o 23 (.iad 6 (.t 21) (.t 22)), o 24 (.load 6 true (.t 23)), o 25 (.call 111 [.t 20, .t 24]), o 26 (.not (.t 25))])
    (.ite (.t 26) (sq [o 4 (.mv bF)]
     .ret)
    .skip)))
   (.ops [om 15 5, o 16 (.bin .add (.t 15) (iv 1)), om 5 16]))))))
 (sq [o 4 (.mv bT)]
 .ret))))
noncomputable def X.l_eqKindS (p0 : (List TKind)) (p1 : (List TKind)) : Option Bool :=
 (bif ((p0.length : Int) != (p1.length : Int)) then some false else ((loop (fun (x22 : Int) => ((bif (decide (x22 < (p0.length : Int))) then ((at' zTKind p0 x22).bind fun v25 => ((at' zTKind p1 x22).bind fun v27 => ((X.l_eqKind v25 v27).bind fun v29 => (bif (!v29) then some (Sum.inr (Sum.inr false)) else some (Sum.inl (W (x22 + 1))))))) else some (Sum.inr (Sum.inl ()))) : Option (Int ⊕ (Unit ⊕ Bool)))) 0).bind fun y32 => (Sum.elim (fun (y34 : Unit) => some true) (fun (y35 : Bool) => some y35) y32)))
theorem l_eqKindS_ok (p0 : (List TKind)) (p1 : (List TKind)) (r : Bool) (H : X.l_eqKindS p0 p1 = some r) : FK 71 [.c (dat 6 eTKind zTKind p0), .c (dat 6 eTKind zTKind p1)] (cB r) := by
 unfold X.l_eqKindS at H
 refine fi Tryz.f71 l_eqKindS_ir [(4, cB r)] [] glL Tryz.func71 ?_
 refine sn [] [] [] [] [] id ?_
 refine seq_in ?_
 refine sn [] [] [(10, cB ((p0.length : Int) != (p1.length : Int)))] [] [] (fun t => lI p0 (lI p1 (t))) ?_
 rcases oC H with ⟨c2, H⟩ | ⟨c2, H⟩
 ·refine it c2 ?_
  refine so [] [] [(4, cB false)] [] id ?_
  cases H
  exact er
 ·refine jf c2 ?_
  refine sk ?_
  refine seq_in ?_
  refine sn [] [] [(5, cI 0)] [] [] id ?_
  refine ends_blk ?_
  obtain ⟨y32, h33, H⟩ := oB H
  refine tl [] [(0, dc 6 eTKind zTKind p0), (1, dc 6 eTKind zTKind p1), (5, cI 0)] [] id ?_
  refine loop_in (fun (x : Int) => lit [(0, dc 6 eTKind zTKind p0), (1, dc 6 eTKind zTKind p1), (5, cI x)] []) (orJ (fun (z : Unit) => At (.exit 0) (lit [] [])) (fun (z : Bool) => At .ret (lit [(4, cB z)] []))) h33 ?_ ?_
  ·clear H h33
   intro x22 y0 H
   refine seq_in ?_
   refine sn [] [] [(14, cB (decide (x22 < (p0.length : Int))))] [] [] (fun t => lI p0 (t)) ?_
   rcases oC H with ⟨c24, H⟩ | ⟨c24, H⟩
   ·refine it c24 ?_
    refine sk ?_
    refine seq_in ?_
    refine ends_blk ?_
    obtain ⟨v25, h26, H⟩ := oB H
    obtain ⟨v27, h28, H⟩ := oB H
    obtain ⟨v29, h30, H⟩ := oB H
    refine xn [.cs (eTKind v25), .cs (eTKind v27), .res (cB v29)] [] [(26, cB (!v29))] [] [] (fun t => (a2 eTKind h26 (aI rN ((a2 eTKind h28 (aI rN (aI (l_eqKind_ok v25 v27 v29 h30) (aI trivial (aI rN (t)))))))))) ?_
    rcases oC H with ⟨c31, H⟩ | ⟨c31, H⟩
    ·refine it c31 ?_
     refine so [] [] [(4, cB false)] [] id ?_
     refine ends_ret ?_
     cases H
     exact rsr
    ·refine jf c31 ?_
     refine sk ?_
     refine oo [] [] [(0, dc 6 eTKind zTKind p0), (1, dc 6 eTKind zTKind p1), (5, cI (W (x22 + 1)))] [] id ?_
     cases H
     exact rr
   ·refine jf c24 ?_
    refine tl [] [] [] id ?_
    refine ends_exit ?_
    cases H
    exact rse
  ·clear h33
   cases y32 with
   | inl y34 =>
    replace H := ofInl H
    rintro e s ⟨rfl, rfl⟩
    change EndsI _ _ _ _ _ _
    refine so [] [] [(4, cB true)] [] id ?_
    cases H
    exact er
   | inr y35 =>
    replace H := ofInr H
    rintro e s ⟨rfl, rfl⟩
    cases H
    exact qr
def l_eqRules_ir : S :=
 (sq [o 2 (.box 7 (.t 0)), o 3 (.box 7 (.t 1)), o 4 (.mv bF)]
 (.seq (sq [oa 5 0 2, ol 6 5, oa 7 0 3, ol 8 7, o 9 (.call 70 [.t 6, .t 8]), o 10 (.not (.t 9))]
 (.ite (.t 10) (sq [o 4 (.mv bF)]
  .ret)
 .skip))
 (.seq (sq [oa 11 1 2, ol 12 11, oa 13 1 3, ol 14 13, o 15 (.call 71 [.t 12, .t 14]), o 16 (.not (.t 15))]
 (.ite (.t 16) (sq [o 4 (.mv bF)]
  .ret)
 .skip))
 (.seq (sq [oa 17 2 2, ol 18 17, oa 19 2 3, ol 20 19, o 21 (.bin .neq (.t 18) (.t 20))]
 (.ite (.t 21) (sq [o 4 (.mv bF)]
  .ret)
 .skip))
 (.seq (sq [oa 22 3 2, ol 23 22, oa 24 3 3, ol 25 24, o 26 (.bin .neq (.t 23) (.t 25))]
 (.ite (.t 26) (sq [o 4 (.mv bF)]
  .ret)
 .skip))
 (.seq (sq [oa 27 4 2, ol 28 27, oa 29 4 3, ol 30 29, o 31 (.bin .neq (.t 28) (.t 30))]
 (.ite (.t 31) (sq [o 4 (.mv bF)]
  .ret)
 .skip))
 (.seq (sq [oa 32 5 2, ol 33 32, oa 34 5 3, ol 35 34, o 36 (.bin .neq (.t 33) (.t 35))]
 (.ite (.t 36) (sq [o 4 (.mv bF)]
  .ret)
 .skip))
 (.seq (sq [oa 37 6 2, ol 38 37, oa 39 6 3, ol 40 39, o 41 (.bin .neq (.t 38) (.t 40))]
 (.ite (.t 41) (sq [o 4 (.mv bF)]
  .ret)
 .skip))
 (sq [o 4 (.mv bT)]
 .ret)))))))))
noncomputable def X.l_eqRules (p0 : TRules) (p1 : TRules) : Option Bool :=
 ((X.l_eqTerrainS p0.Terrains p1.Terrains).bind fun v4 => (bif (!v4) then some false else ((X.l_eqKindS p0.Kinds p1.Kinds).bind fun v10 => (bif (!v10) then some false else (bif (p0.Stack != p1.Stack) then some false else (bif (p0.River != p1.River) then some false else (bif (p0.Road != p1.Road) then some false else (bif (p0.Supply != p1.Supply) then some false else (bif (p0.Turns != p1.Turns) then some false else some true)))))))))
theorem l_eqRules_ok (p0 : TRules) (p1 : TRules) (r : Bool) (H : X.l_eqRules p0 p1 = some r) : FK 32 [.agg (eTRules p0), .agg (eTRules p1)] (cB r) := by
 unfold X.l_eqRules at H
 refine fi Tryz.f32 l_eqRules_ir [(4, cB r)] [] glL Tryz.func32 ?_
 refine so [] [] [(2, pk 2), (3, pk 3)] [(2, va (eTRules p0)), (3, va (eTRules p1))] id ?_
 refine seq_in ?_
 obtain ⟨v4, h5, H⟩ := oB H
 refine sn [.res (cB v4)] [] [(10, cB (!v4))] [] [] (aI (l_eqTerrainS_ok p0.Terrains p1.Terrains v4 h5)) ?_
 rcases oC H with ⟨c6, H⟩ | ⟨c6, H⟩
 ·refine it c6 ?_
  refine so [] [] [(4, cB false)] [] id ?_
  cases H
  exact er
 ·refine jf c6 ?_
  refine sk ?_
  refine seq_in ?_
  obtain ⟨v10, h11, H⟩ := oB H
  refine sn [.res (cB v10)] [] [(16, cB (!v10))] [] [] (aI (l_eqKindS_ok p0.Kinds p1.Kinds v10 h11)) ?_
  rcases oC H with ⟨c12, H⟩ | ⟨c12, H⟩
  ·refine it c12 ?_
   refine so [] [] [(4, cB false)] [] id ?_
   cases H
   exact er
  ·refine jf c12 ?_
   refine sk ?_
   refine seq_in ?_
   refine sn [] [] [(21, cB (p0.Stack != p1.Stack))] [] [] id ?_
   rcases oC H with ⟨c14, H⟩ | ⟨c14, H⟩
   ·refine it c14 ?_
    refine so [] [] [(4, cB false)] [] id ?_
    cases H
    exact er
   ·refine jf c14 ?_
    refine sk ?_
    refine seq_in ?_
    refine sn [] [] [(26, cB (p0.River != p1.River))] [] [] id ?_
    rcases oC H with ⟨c16, H⟩ | ⟨c16, H⟩
    ·refine it c16 ?_
     refine so [] [] [(4, cB false)] [] id ?_
     cases H
     exact er
    ·refine jf c16 ?_
     refine sk ?_
     refine seq_in ?_
     refine sn [] [] [(31, cB (p0.Road != p1.Road))] [] [] id ?_
     rcases oC H with ⟨c18, H⟩ | ⟨c18, H⟩
     ·refine it c18 ?_
      refine so [] [] [(4, cB false)] [] id ?_
      cases H
      exact er
     ·refine jf c18 ?_
      refine sk ?_
      refine seq_in ?_
      refine sn [] [] [(36, cB (p0.Supply != p1.Supply))] [] [] id ?_
      rcases oC H with ⟨c20, H⟩ | ⟨c20, H⟩
      ·refine it c20 ?_
       refine so [] [] [(4, cB false)] [] id ?_
       cases H
       exact er
      ·refine jf c20 ?_
       refine sk ?_
       refine seq_in ?_
       refine so [] [] [(41, cB (p0.Turns != p1.Turns))] [] id ?_
       rcases oC H with ⟨c21, H⟩ | ⟨c21, H⟩
       ·refine it c21 ?_
        refine so [] [] [(4, cB false)] [] id ?_
        cases H
        exact er
       ·refine jf c21 ?_
        refine sk ?_
        refine so [] [] [(4, cB true)] [] id ?_
        cases H
        exact er
def l_eqMap_ir : S :=
 (sq [o 2 (.box 5 (.t 0)), o 3 (.box 5 (.t 1)), o 4 (.mv bF)]
 (.seq (sq [oa 5 0 2, ol 6 5, oa 7 0 3, ol 8 7, o 9 (.bin .neq (.t 6) (.t 8))]
 (.ite (.t 9) (sq [o 4 (.mv bF)]
  .ret)
 .skip))
 (.seq (sq [oa 10 1 2, ol 11 10, oa 12 1 3, ol 13 12, o 14 (.bin .neq (.t 11) (.t 13))]
 (.ite (.t 14) (sq [o 4 (.mv bF)]
  .ret)
 .skip))
 (.seq (sq [oa 15 2 2, ol 16 15, oa 17 2 3, ol 18 17, o 19 (.call 72 [.t 16, .t 18]), o 20 (.not (.t 19))]
 (.ite (.t 20) (sq [o 4 (.mv bF)]
  .ret)
 .skip))
 (.seq (sq [oa 21 3 2, ol 22 21, oa 23 3 3, ol 24 23, o 25 (.call 72 [.t 22, .t 24]), o 26 (.not (.t 25))]
 (.ite (.t 26) (sq [o 4 (.mv bF)]
  .ret)
 .skip))
 (.seq (sq [oa 27 4 2, ol 28 27, oa 29 4 3, ol 30 29, o 31 (.call 72 [.t 28, .t 30]), o 32 (.not (.t 31))]
 (.ite (.t 32) (sq [o 4 (.mv bF)]
  .ret)
 .skip))
 (sq [o 4 (.mv bT)]
 .ret)))))))
noncomputable def X.l_eqMap (p0 : TMap) (p1 : TMap) : Option Bool :=
 (bif (p0.Width != p1.Width) then some false else (bif (p0.Height != p1.Height) then some false else ((X.l_eqIntS p0.Terrain p1.Terrain).bind fun v8 => (bif (!v8) then some false else ((X.l_eqIntS p0.Rivers p1.Rivers).bind fun v14 => (bif (!v14) then some false else ((X.l_eqIntS p0.Roads p1.Roads).bind fun v17 => (bif (!v17) then some false else some true))))))))
theorem l_eqMap_ok (p0 : TMap) (p1 : TMap) (r : Bool) (H : X.l_eqMap p0 p1 = some r) : FK 33 [.agg (eTMap p0), .agg (eTMap p1)] (cB r) := by
 unfold X.l_eqMap at H
 refine fi Tryz.f33 l_eqMap_ir [(4, cB r)] [] glL Tryz.func33 ?_
 refine so [] [] [(2, pk 2), (3, pk 3)] [(2, va (eTMap p0)), (3, va (eTMap p1))] id ?_
 refine seq_in ?_
 refine sn [] [] [(9, cB (p0.Width != p1.Width))] [] [] id ?_
 rcases oC H with ⟨c2, H⟩ | ⟨c2, H⟩
 ·refine it c2 ?_
  refine so [] [] [(4, cB false)] [] id ?_
  cases H
  exact er
 ·refine jf c2 ?_
  refine sk ?_
  refine seq_in ?_
  refine sn [] [] [(14, cB (p0.Height != p1.Height))] [] [] id ?_
  rcases oC H with ⟨c4, H⟩ | ⟨c4, H⟩
  ·refine it c4 ?_
   refine so [] [] [(4, cB false)] [] id ?_
   cases H
   exact er
  ·refine jf c4 ?_
   refine sk ?_
   refine seq_in ?_
   obtain ⟨v8, h9, H⟩ := oB H
   refine sn [.res (cB v8)] [] [(20, cB (!v8))] [] [] (aI (l_eqIntS_ok p0.Terrain p1.Terrain v8 h9)) ?_
   rcases oC H with ⟨c10, H⟩ | ⟨c10, H⟩
   ·refine it c10 ?_
    refine so [] [] [(4, cB false)] [] id ?_
    cases H
    exact er
   ·refine jf c10 ?_
    refine sk ?_
    refine seq_in ?_
    obtain ⟨v14, h15, H⟩ := oB H
    refine sn [.res (cB v14)] [] [(26, cB (!v14))] [] [] (aI (l_eqIntS_ok p0.Rivers p1.Rivers v14 h15)) ?_
    rcases oC H with ⟨c16, H⟩ | ⟨c16, H⟩
    ·refine it c16 ?_
     refine so [] [] [(4, cB false)] [] id ?_
     cases H
     exact er
    ·refine jf c16 ?_
     refine sk ?_
     refine seq_in ?_
     obtain ⟨v17, h18, H⟩ := oB H
     refine so [.res (cB v17)] [] [(32, cB (!v17))] [] (aI (l_eqIntS_ok p0.Roads p1.Roads v17 h18)) ?_
     rcases oC H with ⟨c19, H⟩ | ⟨c19, H⟩
     ·refine it c19 ?_
      refine so [] [] [(4, cB false)] [] id ?_
      cases H
      exact er
     ·refine jf c19 ?_
      refine sk ?_
      refine so [] [] [(4, cB true)] [] id ?_
      cases H
      exact er
def l_eqBoard_ir : S :=
 (sq [o 2 (.box 12 (.t 0)), o 3 (.box 12 (.t 1)), o 4 (.mv bF)]
 (.seq (sq [oa 5 0 2, o 6 (.load 7 true (.t 5)), oa 7 0 3, o 8 (.load 7 true (.t 7)), o 9 (.call 32 [.t 6, .t 8]), o 10 (.not (.t 9))]
 (.ite (.t 10) (sq [o 4 (.mv bF)]
  .ret)
 .skip))
 (.seq (sq [oa 11 7 2, o 12 (.load 5 true (.t 11)), oa 13 7 3, o 14 (.load 5 true (.t 13)), o 15 (.call 33 [.t 12, .t 14]), o 16 (.not (.t 15))]
 (.ite (.t 16) (sq [o 4 (.mv bF)]
  .ret)
 .skip))
 (sq [o 4 (.mv bT)]
 .ret))))
noncomputable def X.l_eqBoard (p0 : TBoard) (p1 : TBoard) : Option Bool :=
 ((X.l_eqRules p0.Rules p1.Rules).bind fun v4 => (bif (!v4) then some false else ((X.l_eqMap p0.Map p1.Map).bind fun v7 => (bif (!v7) then some false else some true))))
theorem l_eqBoard_ok (p0 : TBoard) (p1 : TBoard) (r : Bool) (H : X.l_eqBoard p0 p1 = some r) : FK 12 [.agg (eTBoard p0), .agg (eTBoard p1)] (cB r) := by
 unfold X.l_eqBoard at H
 refine fi Tryz.f12 l_eqBoard_ir [(4, cB r)] [] glL Tryz.func12 ?_
 refine so [] [] [(2, pk 2), (3, pk 3)] [(2, va (eTBoard p0)), (3, va (eTBoard p1))] id ?_
 refine seq_in ?_
 obtain ⟨v4, h5, H⟩ := oB H
 refine sn [.res (cB v4)] [] [(10, cB (!v4))] [] [] (aI (l_eqRules_ok p0.Rules p1.Rules v4 h5)) ?_
 rcases oC H with ⟨c6, H⟩ | ⟨c6, H⟩
 ·refine it c6 ?_
  refine so [] [] [(4, cB false)] [] id ?_
  cases H
  exact er
 ·refine jf c6 ?_
  refine sk ?_
  refine seq_in ?_
  obtain ⟨v7, h8, H⟩ := oB H
  refine so [.res (cB v7)] [] [(16, cB (!v7))] [] (aI (l_eqMap_ok p0.Map p1.Map v7 h8)) ?_
  rcases oC H with ⟨c9, H⟩ | ⟨c9, H⟩
  ·refine it c9 ?_
   refine so [] [] [(4, cB false)] [] id ?_
   cases H
   exact er
  ·refine jf c9 ?_
   refine sk ?_
   refine so [] [] [(4, cB true)] [] id ?_
   cases H
   exact er
def l_eqUnit_ir : S :=
 (sq [o 2 (.box 4 (.t 0)), o 3 (.box 4 (.t 1)), o 4 (.mv bF)]
 (.seq (sq [oa 5 0 2, ol 6 5, oa 7 0 3, ol 8 7, o 9 (.bin .neq (.t 6) (.t 8))]
 (.ite (.t 9) (sq [o 4 (.mv bF)]
  .ret)
 .skip))
 (.seq (sq [oa 10 1 2, ol 11 10, oa 12 1 3, ol 13 12, o 14 (.bin .neq (.t 11) (.t 13))]
 (.ite (.t 14) (sq [o 4 (.mv bF)]
  .ret)
 .skip))
 (.seq (sq [oa 15 2 2, ol 16 15, oa 17 2 3, ol 18 17, o 19 (.bin .neq (.t 16) (.t 18))]
 (.ite (.t 19) (sq [o 4 (.mv bF)]
  .ret)
 .skip))
 (.seq (sq [oa 20 3 2, ol 21 20, oa 22 3 3, ol 23 22, o 24 (.bin .neq (.t 21) (.t 23))]
 (.ite (.t 24) (sq [o 4 (.mv bF)]
  .ret)
 .skip))
 (sq [o 4 (.mv bT)]
 .ret))))))
noncomputable def X.l_eqUnit (p0 : TUnit) (p1 : TUnit) : Option Bool :=
 (bif (p0.Side != p1.Side) then some false else (bif (p0.Kind != p1.Kind) then some false else (bif (p0.At != p1.At) then some false else (bif (p0.Steps != p1.Steps) then some false else some true))))
theorem l_eqUnit_ok (p0 : TUnit) (p1 : TUnit) (r : Bool) (H : X.l_eqUnit p0 p1 = some r) : FK 73 [.agg (eTUnit p0), .agg (eTUnit p1)] (cB r) := by
 unfold X.l_eqUnit at H
 refine fi Tryz.f73 l_eqUnit_ir [(4, cB r)] [] glL Tryz.func73 ?_
 refine so [] [] [(2, pk 2), (3, pk 3)] [(2, va (eTUnit p0)), (3, va (eTUnit p1))] id ?_
 refine seq_in ?_
 refine sn [] [] [(9, cB (p0.Side != p1.Side))] [] [] id ?_
 rcases oC H with ⟨c2, H⟩ | ⟨c2, H⟩
 ·refine it c2 ?_
  refine so [] [] [(4, cB false)] [] id ?_
  cases H
  exact er
 ·refine jf c2 ?_
  refine sk ?_
  refine seq_in ?_
  refine sn [] [] [(14, cB (p0.Kind != p1.Kind))] [] [] id ?_
  rcases oC H with ⟨c4, H⟩ | ⟨c4, H⟩
  ·refine it c4 ?_
   refine so [] [] [(4, cB false)] [] id ?_
   cases H
   exact er
  ·refine jf c4 ?_
   refine sk ?_
   refine seq_in ?_
   refine sn [] [] [(19, cB (p0.At != p1.At))] [] [] id ?_
   rcases oC H with ⟨c6, H⟩ | ⟨c6, H⟩
   ·refine it c6 ?_
    refine so [] [] [(4, cB false)] [] id ?_
    cases H
    exact er
   ·refine jf c6 ?_
    refine sk ?_
    refine seq_in ?_
    refine so [] [] [(24, cB (p0.Steps != p1.Steps))] [] id ?_
    rcases oC H with ⟨c7, H⟩ | ⟨c7, H⟩
    ·refine it c7 ?_
     refine so [] [] [(4, cB false)] [] id ?_
     cases H
     exact er
    ·refine jf c7 ?_
     refine sk ?_
     refine so [] [] [(4, cB true)] [] id ?_
     cases H
     exact er
def l_eqUnitS_ir : S :=
 (sq [o 4 (.mv bF)]
 (.seq (sq [om 6 0, o 7 (.len (.t 6)), om 8 1, o 9 (.len (.t 8)), o 10 (.bin .neq (.t 7) (.t 9))]
 (.ite (.t 10) (sq [o 4 (.mv bF)]
  .ret)
 .skip))
 (.seq (sq [o 5 (.mv (iv 0))]
 (.blk 0 (.loop (.seq (sq [om 11 5, om 12 0, o 13 (.len (.t 12)), o 14 (.bin .lss (.t 11) (.t 13))]
   (.ite (.t 14) .skip
   (.exit 0)))
   (.seq (.blk 1 (.seq (.drw [(0, 1), (0, 4), (1, 4), (2, 4), (3, 4), (0, 5), (1, 5), (2, 5), (3, 5), (4, 5), (0, 6), (1, 6), (2, 6), (3, 6), (0, 7), (1, 7), (2, 7), (3, 7)] [om 17 0, om 18 5, o 19 (.iad 4 (.t 17) (.t 18)), o 20 (.load 4 true (.t 19)), om 21 1, om 22 5, o 23 (.iad 4 (.t 21) (.t 22)), o 24 (.load 4 true (.t 23)), o 25 (.call 73 [.t 20, .t 24]), o 26 (.not (.t 25))])
    (.ite (.t 26) (sq [o 4 (.mv bF)]
     .ret)
    .skip)))
   (.ops [om 15 5, o 16 (.bin .add (.t 15) (iv 1)), om 5 16]))))))
 (sq [o 4 (.mv bT)]
 .ret))))
noncomputable def X.l_eqUnitS (p0 : (List TUnit)) (p1 : (List TUnit)) : Option Bool :=
 (bif ((p0.length : Int) != (p1.length : Int)) then some false else ((loop (fun (x22 : Int) => ((bif (decide (x22 < (p0.length : Int))) then ((at' zTUnit p0 x22).bind fun v25 => ((at' zTUnit p1 x22).bind fun v27 => ((X.l_eqUnit v25 v27).bind fun v29 => (bif (!v29) then some (Sum.inr (Sum.inr false)) else some (Sum.inl (W (x22 + 1))))))) else some (Sum.inr (Sum.inl ()))) : Option (Int ⊕ (Unit ⊕ Bool)))) 0).bind fun y32 => (Sum.elim (fun (y34 : Unit) => some true) (fun (y35 : Bool) => some y35) y32)))
theorem l_eqUnitS_ok (p0 : (List TUnit)) (p1 : (List TUnit)) (r : Bool) (H : X.l_eqUnitS p0 p1 = some r) : FK 34 [.c (dat 4 eTUnit zTUnit p0), .c (dat 4 eTUnit zTUnit p1)] (cB r) := by
 unfold X.l_eqUnitS at H
 refine fi Tryz.f34 l_eqUnitS_ir [(4, cB r)] [] glL Tryz.func34 ?_
 refine sn [] [] [] [] [] id ?_
 refine seq_in ?_
 refine sn [] [] [(10, cB ((p0.length : Int) != (p1.length : Int)))] [] [] (fun t => lI p0 (lI p1 (t))) ?_
 rcases oC H with ⟨c2, H⟩ | ⟨c2, H⟩
 ·refine it c2 ?_
  refine so [] [] [(4, cB false)] [] id ?_
  cases H
  exact er
 ·refine jf c2 ?_
  refine sk ?_
  refine seq_in ?_
  refine sn [] [] [(5, cI 0)] [] [] id ?_
  refine ends_blk ?_
  obtain ⟨y32, h33, H⟩ := oB H
  refine tl [] [(0, dc 4 eTUnit zTUnit p0), (1, dc 4 eTUnit zTUnit p1), (5, cI 0)] [] id ?_
  refine loop_in (fun (x : Int) => lit [(0, dc 4 eTUnit zTUnit p0), (1, dc 4 eTUnit zTUnit p1), (5, cI x)] []) (orJ (fun (z : Unit) => At (.exit 0) (lit [] [])) (fun (z : Bool) => At .ret (lit [(4, cB z)] []))) h33 ?_ ?_
  ·clear H h33
   intro x22 y0 H
   refine seq_in ?_
   refine sn [] [] [(14, cB (decide (x22 < (p0.length : Int))))] [] [] (fun t => lI p0 (t)) ?_
   rcases oC H with ⟨c24, H⟩ | ⟨c24, H⟩
   ·refine it c24 ?_
    refine sk ?_
    refine seq_in ?_
    refine ends_blk ?_
    obtain ⟨v25, h26, H⟩ := oB H
    obtain ⟨v27, h28, H⟩ := oB H
    obtain ⟨v29, h30, H⟩ := oB H
    refine xn [.cs (eTUnit v25), .cs (eTUnit v27), .res (cB v29)] [] [(26, cB (!v29))] [] [] (fun t => (a2 eTUnit h26 (aI rN ((a2 eTUnit h28 (aI rN (aI (l_eqUnit_ok v25 v27 v29 h30) (aI trivial (aI rN (t)))))))))) ?_
    rcases oC H with ⟨c31, H⟩ | ⟨c31, H⟩
    ·refine it c31 ?_
     refine so [] [] [(4, cB false)] [] id ?_
     refine ends_ret ?_
     cases H
     exact rsr
    ·refine jf c31 ?_
     refine sk ?_
     refine oo [] [] [(0, dc 4 eTUnit zTUnit p0), (1, dc 4 eTUnit zTUnit p1), (5, cI (W (x22 + 1)))] [] id ?_
     cases H
     exact rr
   ·refine jf c24 ?_
    refine tl [] [] [] id ?_
    refine ends_exit ?_
    cases H
    exact rse
  ·clear h33
   cases y32 with
   | inl y34 =>
    replace H := ofInl H
    rintro e s ⟨rfl, rfl⟩
    change EndsI _ _ _ _ _ _
    refine so [] [] [(4, cB true)] [] id ?_
    cases H
    exact er
   | inr y35 =>
    replace H := ofInr H
    rintro e s ⟨rfl, rfl⟩
    cases H
    exact qr
def l_eqState_ir : S :=
 (sq [o 2 (.box 3 (.t 0)), o 3 (.box 3 (.t 1)), o 4 (.mv bF)]
 (.seq (sq [oa 5 0 2, ol 6 5, oa 7 0 3, ol 8 7, o 9 (.bin .neq (.t 6) (.t 8))]
 (.ite (.t 9) (sq [o 4 (.mv bF)]
  .ret)
 .skip))
 (.seq (sq [oa 10 1 2, ol 11 10, oa 12 1 3, ol 13 12, o 14 (.bin .neq (.t 11) (.t 13))]
 (.ite (.t 14) (sq [o 4 (.mv bF)]
  .ret)
 .skip))
 (.seq (sq [oa 15 2 2, ol 16 15, oa 17 2 3, ol 18 17, o 19 (.call 34 [.t 16, .t 18]), o 20 (.not (.t 19))]
 (.ite (.t 20) (sq [o 4 (.mv bF)]
  .ret)
 .skip))
 (sq [o 4 (.mv bT)]
 .ret)))))
noncomputable def X.l_eqState (p0 : TState) (p1 : TState) : Option Bool :=
 (bif (p0.Turn != p1.Turn) then some false else (bif (p0.Weather != p1.Weather) then some false else ((X.l_eqUnitS p0.Units p1.Units).bind fun v5 => (bif (!v5) then some false else some true))))
theorem l_eqState_ok (p0 : TState) (p1 : TState) (r : Bool) (H : X.l_eqState p0 p1 = some r) : FK 13 [.agg (eTState p0), .agg (eTState p1)] (cB r) := by
 unfold X.l_eqState at H
 refine fi Tryz.f13 l_eqState_ir [(4, cB r)] [] glL Tryz.func13 ?_
 refine so [] [] [(2, pk 2), (3, pk 3)] [(2, va (eTState p0)), (3, va (eTState p1))] id ?_
 refine seq_in ?_
 refine sn [] [] [(9, cB (p0.Turn != p1.Turn))] [] [] id ?_
 rcases oC H with ⟨c2, H⟩ | ⟨c2, H⟩
 ·refine it c2 ?_
  refine so [] [] [(4, cB false)] [] id ?_
  cases H
  exact er
 ·refine jf c2 ?_
  refine sk ?_
  refine seq_in ?_
  refine sn [] [] [(14, cB (p0.Weather != p1.Weather))] [] [] id ?_
  rcases oC H with ⟨c4, H⟩ | ⟨c4, H⟩
  ·refine it c4 ?_
   refine so [] [] [(4, cB false)] [] id ?_
   cases H
   exact er
  ·refine jf c4 ?_
   refine sk ?_
   refine seq_in ?_
   obtain ⟨v5, h6, H⟩ := oB H
   refine so [.res (cB v5)] [] [(20, cB (!v5))] [] (aI (l_eqUnitS_ok p0.Units p1.Units v5 h6)) ?_
   rcases oC H with ⟨c7, H⟩ | ⟨c7, H⟩
   ·refine it c7 ?_
    refine so [] [] [(4, cB false)] [] id ?_
    cases H
    exact er
   ·refine jf c7 ?_
    refine sk ?_
    refine so [] [] [(4, cB true)] [] id ?_
    cases H
    exact er
def l_FnExactMobilityOf_ir : S :=
 (sq [o 3 (.box 12 (.t 0)), o 4 (.box 3 (.t 1)), o 6 (.mv bF)]
 (sq [o 7 (.mv (iv 1048576))]
 (sq [o 14 (.load 12 true (.t 3)), om 15 7, o 16 (.call 6 [.t 14, .t 15]), om 7 16]
 (.seq (sq [om 17 7, o 18 (.bin .lss (.t 17) (iv 0))]
 (.ite (.t 18) (sq [o 6 (.mv bT)]
  .ret)
 .skip))
 (sq [o 19 (.load 3 true (.t 4)), om 20 7, o 21 (.call 7 [.t 19, .t 20]), om 7 21]
 (.seq (sq [om 22 7, o 23 (.bin .lss (.t 22) (iv 0))]
 (.ite (.t 23) (sq [o 6 (.mv bT)]
  .ret)
 .skip))
 (.seq (.drw [(0, 2), (1, 2), (0, 4), (1, 4), (2, 4), (3, 4), (7, 8), (8, 9)] [o 25 (.load 12 true (.t 3)), o 26 (.call 9 [.t 25]), o 27 (.load 3 true (.t 4)), o 28 (.call 10 [.t 27]), om 29 2, o 30 (.call 8 [.t 26, .t 28, .t 29]), om 24 30, o 31 (.ext (.t 24) 0), o 32 (.ext (.t 24) 1), om 8 31, om 9 32])
 (sq [o 33 (.load 12 true (.t 3)), o 34 (.call 9 [.t 33]), o 10 (.alloc [.nil, .nil, .int .i64 0, .int .i64 0, .int .i64 0, .int .i64 0, .int .i64 0, .int .i64 0, .int .i64 0, .nil, .nil, .nil]), os 12 10 34]
 (sq [o 35 (.load 3 true (.t 4)), o 36 (.call 10 [.t 35]), o 11 (.alloc [.int .i64 0, .int .i64 0, .nil]), os 3 11 36]
 (sq [o 38 (.load 12 true (.t 10)), o 39 (.load 3 true (.t 11)), om 40 2, o 41 (.call 11 [.t 38, .t 39, .t 40]), om 37 41, o 42 (.ext (.t 37) 0), o 43 (.ext (.t 37) 1), om 12 42, om 13 43]
 (.seq (sq [om 44 12, om 45 8, o 46 (.bin .neq (.t 44) (.t 45)), om 47 46, og 48 (.mv (.t 13)) 47, og 49 (.mv (.t 9)) 47, og 50 (.bqe true (.t 48) (.t 49)) 47, o 51 (.pick (.t 47) bT (.t 50))]
 (.ite (.t 51) (sq [o 6 (.mv bF)]
  .ret)
 .skip))
 (.seq (.seq (.drw [(0, 1), (0, 2)] [o 52 (.load 12 true (.t 10)), o 53 (.load 12 true (.t 3)), o 54 (.call 9 [.t 53]), o 55 (.call 12 [.t 52, .t 54]), o 56 (.not (.t 55))])
 (.ite (.t 56) (sq [o 6 (.mv bF)]
  .ret)
 .skip))
 (.seq (.seq (.drw [(0, 1), (0, 2)] [o 57 (.load 3 true (.t 11)), o 58 (.load 3 true (.t 4)), o 59 (.call 10 [.t 58]), o 60 (.call 13 [.t 57, .t 59]), o 61 (.not (.t 60))])
 (.ite (.t 61) (sq [o 6 (.mv bF)]
  .ret)
 .skip))
 (sq [o 6 (.mv bT)]
 .ret))))))))))))))
noncomputable def X.l_FnExactMobilityOf (p0 : TBoard) (p1 : TState) (p2 : Int) : Option Bool :=
 ((X.l_szBoard p0 1048576).bind fun v1 => (bif (decide (v1 < 0)) then some true else ((X.l_szState p1 v1).bind fun v5 => (bif (decide (v5 < 0)) then some true else ((X.l_toBoard p0).bind fun v9 => ((X.l_toState p1).bind fun v11 => ((X.s_MobilityOf v9 v11 p2).bind fun v13 => ((X.l_toBoard p0).bind fun v15 => ((X.l_toState p1).bind fun v17 => ((X.i_MobilityOf v15 v17 p2).bind fun v19 => (bif (v19.1 != v13.1) then some false else (bif (!(v19.2 == v13.2)) then some false else ((X.l_toBoard p0).bind fun v30 => ((X.l_eqBoard v15 v30).bind fun v32 => (bif (!v32) then some false else ((X.l_toState p1).bind fun v35 => ((X.l_eqState v17 v35).bind fun v37 => (bif (!v37) then some false else some true))))))))))))))))))
theorem l_FnExactMobilityOf_ok (p0 : TBoard) (p1 : TState) (p2 : Int) (r : Bool) (H : X.l_FnExactMobilityOf p0 p1 p2 = some r) : FK 3 [.agg (eTBoard p0), .agg (eTState p1), cI p2] (cB r) := by
 unfold X.l_FnExactMobilityOf at H
 refine fi Tryz.f3 l_FnExactMobilityOf_ir [(6, cB r)] [] glL Tryz.func3 ?_
 refine sn [] [] [(3, pk 3), (4, pk 4)] [] [(3, va (eTBoard p0)), (4, va (eTState p1))] id ?_
 refine sn [] [] [(7, cI 1048576)] [] [] id ?_
 obtain ⟨v1, h2, H⟩ := oB H
 refine so [.res (cI v1)] [] [(2, cI p2), (3, pk 3), (4, pk 4), (7, cI v1)] [(3, va (eTBoard p0)), (4, va (eTState p1))] (aI (l_szBoard_ok p0 1048576 v1 h2)) ?_
 refine seq_in ?_
 refine sn [] [] [(18, cB (decide (v1 < 0)))] [] [] id ?_
 rcases oC H with ⟨c4, H⟩ | ⟨c4, H⟩
 ·refine it c4 ?_
  refine so [] [] [(6, cB true)] [] id ?_
  cases H
  exact er
 ·refine jf c4 ?_
  refine sk ?_
  obtain ⟨v5, h6, H⟩ := oB H
  refine so [.res (cI v5)] [] [(2, cI p2), (3, pk 3), (4, pk 4), (7, cI v5)] [(3, va (eTBoard p0)), (4, va (eTState p1))] (aI (l_szState_ok p1 v1 v5 h6)) ?_
  refine seq_in ?_
  refine sn [] [] [(23, cB (decide (v5 < 0)))] [] [] id ?_
  rcases oC H with ⟨c8, H⟩ | ⟨c8, H⟩
  ·refine it c8 ?_
   refine so [] [] [(6, cB true)] [] id ?_
   cases H
   exact er
  ·refine jf c8 ?_
   refine sk ?_
   obtain ⟨v9, h10, H⟩ := oB H
   obtain ⟨v11, h12, H⟩ := oB H
   obtain ⟨v13, h14, H⟩ := oB H
   refine xn [.res (.agg (eTBoard v9)), .res (.agg (eTState v11)), .res (.tup [(false, [jI v13.1]), (false, [.bool v13.2])])] [] [(8, cI v13.1), (9, cB v13.2)] [] [] (fun t => aI (l_toBoard_ok p0 v9 h10) (aG 2 rN (aI (l_toState_ok p1 v11 h12) (aG 2 rN (aI (s_MobilityOf_ok v9 v11 p2 v13 h14) (aI trivial (aI rN (t)))))))) ?_
   obtain ⟨v15, h16, H⟩ := oB H
   refine sn [.res (.agg (eTBoard v15))] [] [(10, pk 10)] [] [(10, va (eTBoard v15))] (aI (l_toBoard_ok p0 v15 h16)) ?_
   obtain ⟨v17, h18, H⟩ := oB H
   refine sn [.res (.agg (eTState v17))] [] [(11, pk 11)] [] [(11, va (eTState v17))] (aI (l_toState_ok p1 v17 h18)) ?_
   obtain ⟨v19, h20, H⟩ := oB H
   refine sn [.res (.tup [(false, [jI v19.1]), (false, [.bool v19.2])])] [] [(12, cI v19.1), (13, cB v19.2)] [] [] (aI (i_MobilityOf_ok v15 v17 p2 v19 h20)) ?_
   refine seq_in ?_
   rcases oC H with ⟨c23, H⟩ | ⟨c23, H⟩
   ·refine sn (rg 4 true []) [] [(51, cB true)] [] [] (fun t => aG 4 c23 (t)) ?_
    refine it rT ?_
    refine so [] [] [(6, cB false)] [] id ?_
    cases H
    exact er
   ·refine sn (rg 4 false []) [] [(51, cB (!(v19.2 == v13.2)))] [] [] (fun t => aG 4 c23 (t)) ?_
    rcases oC H with ⟨c24, H⟩ | ⟨c24, H⟩
    ·refine it c24 ?_
     refine so [] [] [(6, cB false)] [] id ?_
     cases H
     exact er
    ·refine jf c24 ?_
     refine sk ?_
     refine seq_in ?_
     obtain ⟨v30, h31, H⟩ := oB H
     obtain ⟨v32, h33, H⟩ := oB H
     refine xn [.res (.agg (eTBoard v30)), .res (cB v32)] [] [(56, cB (!v32))] [] [] (fun t => aI (l_toBoard_ok p0 v30 h31) (aG 2 rN (aI (l_eqBoard_ok v15 v30 v32 h33) (aI trivial (aI rN (t)))))) ?_
     rcases oC H with ⟨c34, H⟩ | ⟨c34, H⟩
     ·refine it c34 ?_
      refine so [] [] [(6, cB false)] [] id ?_
      cases H
      exact er
     ·refine jf c34 ?_
      refine sk ?_
      refine seq_in ?_
      obtain ⟨v35, h36, H⟩ := oB H
      obtain ⟨v37, h38, H⟩ := oB H
      refine sx [.res (.agg (eTState v35)), .res (cB v37)] [] [(61, cB (!v37))] [] (fun t => aI (l_toState_ok p1 v35 h36) (aG 2 rN (aI (l_eqState_ok v17 v35 v37 h38) (aI trivial (aI rN (t)))))) ?_
      rcases oC H with ⟨c39, H⟩ | ⟨c39, H⟩
      ·refine it c39 ?_
       refine so [] [] [(6, cB false)] [] id ?_
       cases H
       exact er
      ·refine jf c39 ?_
       refine sk ?_
       refine so [] [] [(6, cB true)] [] id ?_
       cases H
       exact er
end Go.Proofs.YtgfgmjefikefeaaGreatDoor.X0
