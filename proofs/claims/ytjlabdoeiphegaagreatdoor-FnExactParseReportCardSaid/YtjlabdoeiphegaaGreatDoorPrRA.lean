/- The law FnExactParseReport returns true whatever the input, in the row's own form; no condition. -/
import Derived.Test.YtjlabdoeiphegaaGreatDoorCards
import Derived.Test.YtjlabdoeiphegaaGreatDoorTie
import Derived.SevenTiedAt
import Derived.LaidMore
import Derived.Lay
import Derived.Stop.Joined
import Derived.ChangeVars
import Derived.Test.YtjlabdoeiphegaaGreatDoorAmCore3
import Derived.Test.YtjlabdoeiphegaaGreatDoorPrP
import Derived.WalkKit
import Derived.ProofKit
import Derived.OpenShut
import Derived.ShutString
import Derived.ChangeOld
import Derived.Below
import Derived.Shelf.Vars
import Derived.Lib.LaidTab
import Derived.SizedLaws
set_option linter.unusedVariables false
set_option linter.unusedSimpArgs false
namespace Go.Proofs.YtjlabdoeiphegaaGreatDoor.fnExactParseReport
open Go.ChangeShapes Go.WideShapes Go.ChangeAt Go.RowKit Go.Proofs.YtjlabdoeiphegaaGreatDoor.Ab Go.Proofs.YtjlabdoeiphegaaGreatDoor.X0
open Go.ChangeMaps (open_string shut_string)
theorem own : ownKnob Tryz.prog.godebug = none := by kernel_rfl
theorem o9 : Opens Tryz.prog 9 eS okS := opens_str Tryz.underlying9
theorem o3 : Opens Tryz.prog 3 eI okI := opens_int Tryz.underlying3
theorem o26 : Opens Tryz.prog 26 eLI okLI := opens_slice (z := zI) Tryz.underlying26 (by kernel_rfl) (fun _ => rfl) o3
theorem o4 : Opens Tryz.prog 4 eB okB := opens_bool Tryz.underlying4
theorem o157 : Opens Tryz.prog 157 eTTerrain okTTerrain :=
  (opens_struct (n := 5) Tryz.underlying157 (by kernel_rfl) (opensF_cons (w := 1) o9 rfl (by kernel_rfl) (opensF_cons (w := 1) o26 rfl (by kernel_rfl) (opensF_cons (w := 1) o3 rfl (by kernel_rfl) (opensF_cons (w := 1) o3 rfl (by kernel_rfl) (opensF_cons (w := 1) o4 rfl (by kernel_rfl) opensF_nil)))))).map (fun x => ⟨x.1, x.2.1, x.2.2.1, x.2.2.2.1, x.2.2.2.2.1⟩) (fun _ h => h) (fun _ => rfl)
theorem o22 : Opens Tryz.prog 22 eLTTerrain okLTTerrain := opens_slice (z := zTTerrain) Tryz.underlying22 (by kernel_rfl) (fun _ => rfl) o157
theorem o159 : Opens Tryz.prog 159 eTKind okTKind :=
  (opens_struct (n := 6) Tryz.underlying159 (by kernel_rfl) (opensF_cons (w := 1) o9 rfl (by kernel_rfl) (opensF_cons (w := 1) o3 rfl (by kernel_rfl) (opensF_cons (w := 1) o3 rfl (by kernel_rfl) (opensF_cons (w := 1) o3 rfl (by kernel_rfl) (opensF_cons (w := 1) o4 rfl (by kernel_rfl) (opensF_cons (w := 1) o3 rfl (by kernel_rfl) opensF_nil))))))).map (fun x => ⟨x.1, x.2.1, x.2.2.1, x.2.2.2.1, x.2.2.2.2.1, x.2.2.2.2.2.1⟩) (fun _ h => h) (fun _ => rfl)
theorem o23 : Opens Tryz.prog 23 eLTKind okLTKind := opens_slice (z := zTKind) Tryz.underlying23 (by kernel_rfl) (fun _ => rfl) o159
theorem o25 : Opens Tryz.prog 25 eTRules okTRules :=
  (opens_struct (n := 7) Tryz.underlying25 (by kernel_rfl) (opensF_cons (w := 1) o22 rfl (by kernel_rfl) (opensF_cons (w := 1) o23 rfl (by kernel_rfl) (opensF_cons (w := 1) o3 rfl (by kernel_rfl) (opensF_cons (w := 1) o3 rfl (by kernel_rfl) (opensF_cons (w := 1) o3 rfl (by kernel_rfl) (opensF_cons (w := 1) o3 rfl (by kernel_rfl) (opensF_cons (w := 1) o3 rfl (by kernel_rfl) opensF_nil)))))))).map (fun x => ⟨x.1, x.2.1, x.2.2.1, x.2.2.2.1, x.2.2.2.2.1, x.2.2.2.2.2.1, x.2.2.2.2.2.2.1⟩) (fun _ h => h) (fun _ => rfl)
theorem o28 : Opens Tryz.prog 28 eTMap okTMap :=
  (opens_struct (n := 5) Tryz.underlying28 (by kernel_rfl) (opensF_cons (w := 1) o3 rfl (by kernel_rfl) (opensF_cons (w := 1) o3 rfl (by kernel_rfl) (opensF_cons (w := 1) o26 rfl (by kernel_rfl) (opensF_cons (w := 1) o26 rfl (by kernel_rfl) (opensF_cons (w := 1) o26 rfl (by kernel_rfl) opensF_nil)))))).map (fun x => ⟨x.1, x.2.1, x.2.2.1, x.2.2.2.1, x.2.2.2.2.1⟩) (fun _ h => h) (fun _ => rfl)
theorem o30 : Opens Tryz.prog 30 eTBoard okTBoard :=
  (opens_struct (n := 12) Tryz.underlying30 (by kernel_rfl) (opensF_cons (w := 7) o25 rfl (by kernel_rfl) (opensF_cons (w := 5) o28 rfl (by kernel_rfl) opensF_nil))).map (fun x => ⟨x.1, x.2.1⟩) (fun _ h => h) (fun _ => rfl)
theorem laid_tail {P : Program} {W : World} {a : String × DataW Unit} {l : List (String × DataW Unit)} (h : laidMet P (a :: l) W) : laidMet P l W := by
  obtain ⟨ps, ⟨g, t, cs, fuel, p, q, h1, h2, h3, h4, h5, h6⟩, hn, hc⟩ := h
  refine ⟨q, h5, ?_, fun b off hm => hc b off (by rw [h6]; simp [hm])⟩
  rw [h6] at hn; exact (List.nodup_append.1 hn).2.1
theorem laid_drop {P : Program} {W : World} : ∀ (k : Nat) {l : List (String × DataW Unit)}, laidMet P l W → laidMet P (l.drop k) W
  | 0, _, h => h
  | _ + 1, [], h => h
  | k + 1, _ :: _, h => laid_drop k (laid_tail h)
theorem gk_of_var {P : Program} {W : World} {nm : String} {g : Nat} {vs : Array Value} {cs : List AC} (hn : P.globalNamed nm = some g) (hv : W.var? P nm = some vs) (hl : vs.size = cs.length)
    (h : ∀ (j : Nat) c, cs[j]? = some c → ∃ v, vs[j]? = some v ∧ DR (Old W) W c v) : GK (Old W) W g cs := by
  have hc := World.var?_cell hn hv
  unfold World.var? at hv
  rw [hn, Option.bind_some] at hv
  cases hh : W.heap[g]? with
  | none => rw [hh] at hv; cases hv
  | some o =>
    have hlt : g < W.heap.size := (Array.getElem?_eq_some_iff.1 hh).1
    cases o with
    | cells arr T fr =>
      simp only [hh, Option.some.injEq] at hv
      subst hv
      refine ⟨.pd _ 0 _ (fun j => (arr[j]?).getD .nilIface) (fun j c hj => ?_) (fun j c hj => ?_), .inr (by unfold bsize; rw [hh]; exact hl)⟩
      · rw [Nat.zero_add] at hj
        obtain ⟨v, h1, h2⟩ := h j c hj
        refine ⟨hlt, ?_⟩
        rw [Addr.add_flat, Nat.zero_add, hc, h1]; rfl
      · rw [Nat.zero_add] at hj
        obtain ⟨v, h1, h2⟩ := h j c hj
        simp only [h1]; exact h2
    | _ => simp [hh] at hv
theorem gk_ints {P : Program} {W : World} {nm : String} {g : Nat} {k : IntKind} {zs : List Int} (hn : P.globalNamed nm = some g) (hv : W.var? P nm = some (zs.map fun z => Value.int k z).toArray) : GK (Old W) W g (zs.map (AC.int k)) :=
  gk_of_var hn hv (by simp) fun j c hj => by
    rw [List.getElem?_map, Option.map_eq_some_iff] at hj
    obtain ⟨n, h1, rfl⟩ := hj
    exact ⟨.int k n, by simp [h1], .int _ _⟩
theorem var_iface {P : Program} {W : World} {n nm : String} {d : DataW Unit} {r : List (String × DataW Unit)} {g : Nat} {ti : TypeId} {ms : Array (String × TypeId)} (h : laidMet P ((n, .iface nm d) :: r) W)
    (hg : P.globalNamed n = some g) (ht : (P.globals[g]?).map (·.type) = some ti) (hi : P.underlying ti = some (.interface ms)) : ∃ u v, W.var? P n = some #[.iface u v] := by
  obtain ⟨ps, ⟨g0, t0, cs0, f0, p0, q0, hg0, ht0, hv0, hd0, _, _⟩, _, _⟩ := h
  obtain rfl := Option.some.inj (hg.symm.trans hg0)
  obtain rfl := Option.some.inj (ht.symm.trans ht0)
  obtain ⟨l0⟩ := cs0
  obtain ⟨_, u, v, e, _⟩ := iface_of_trod hi hd0
  obtain rfl : l0 = [.iface u v] := e
  exact ⟨u, v, hv0⟩
theorem var_pairs {P : Program} {W : World} {nm : String} {g : Nat} {t e ti : TypeId} {m : Nat} {fs : Array Field} {f0 f1 : Field} {qs : List (Int × Int)} {l : List (String × DataW Unit)} (hL : laidMet P ((nm, .agg (qs.map pairD)) :: l) W)
    (hg : P.globalNamed nm = some g) (ht : (P.globals[g]?).map (·.type) = some t) (hu : P.underlying t = some (.array m e)) (hct : P.cellsOf t = m * 2) (hce : P.cellsOf e = 2) (hue : P.underlying e = some (.struct fs)) (hfs : fs.toList = [f0, f1])
    (h0 : f0.type = ti ∧ f0.offset = 0) (h1 : f1.type = ti ∧ f1.offset = 1) (hi : P.underlying ti = some (.int .i64)) (hc : P.cellsOf ti = 1) :
    W.var? P nm = some (((qs.flatMap fun q => [q.1, q.2]).map fun z => Value.int .i64 z)).toArray := by
  obtain ⟨ps, ⟨g', t', cs, fuel, p, q, hg', ht', hv, hd, _, _⟩, _, _⟩ := hL
  obtain rfl := Option.some.inj (hg.symm.trans hg')
  obtain rfl := Option.some.inj (ht.symm.trans ht')
  have hcs := trod_pairs hu hce hct (fun fuel cs q p h => trod_pair hue hfs h0 h1 hi hc hce h) hd
  rw [hv]
  congr 1
  apply Array.ext'
  rw [hcs]
theorem par_of {W : World} (hL : laidMetH Tryz.prog Rows.fnExactParseReportRow.laid W) (hS : W.ShapedOpen Tryz.prog) : ∃ G : GPar, ∀ g cs, @gl G g = some cs → GK (Old W) W g cs := by
  rw [MakeChecks.laidMetH_plain _ _ _ (by kernel_rfl)] at hL
  have r0 : ((begin Tryz.prog (fun _ _ => 0) default).world.heap[0]?).bind Obj.row? = some (#[.int .i64 0], 3) := by kernel_rfl
  have n0 : Tryz.prog.globalNamed "internal/bytealg.MaxLen" = some 0 := by kernel_rfl
  obtain ⟨m, hm⟩ := cell_of_shapedOpen_int hS (g := 0) (t := 3) (k := .i64) (of_decide_eq_true (by kernel_rfl)) r0 rfl (by kernel_rfl) (by kernel_rfl) Tryz.underlying3
  obtain ⟨cs0, hh0, hs0, _⟩ := hS.1 0 #[.int .i64 0] 3 (of_decide_eq_true (by kernel_rfl)) r0
  have v0 : W.var? Tryz.prog "internal/bytealg.MaxLen" = some cs0 := by
    unfold World.var?; rw [n0, Option.bind_some, hh0]
  have c0 : cs0[0]? = some (.int .i64 m) := by rw [← World.var?_cell n0 v0 0]; exact hm
  obtain ⟨u1, x1, e1⟩ : ∃ u v, W.var? Tryz.prog "strconv.ErrSyntax" = some #[.iface u v] := var_iface (laid_drop 5 hL) (g := 1) (ti := 127) (by kernel_rfl) (by kernel_rfl) Tryz.underlying127
  obtain ⟨u2, x2, e2⟩ : ∃ u v, W.var? Tryz.prog "strconv.ErrRange" = some #[.iface u v] := var_iface (laid_drop 4 hL) (g := 2) (ti := 127) (by kernel_rfl) (by kernel_rfl) Tryz.underlying127
  have tab : Lib.TabIs Tryz.prog W "internal/strconv.uint64pow10" .u64 Lib.pow10Tab := Lib.tabIs_of_head (g := 3) (t := 252) (e := 211) (n := 20) (by kernel_rfl) (by kernel_rfl) Tryz.underlying252 Tryz.underlying211 (by kernel_rfl) (by kernel_rfl) (laid_drop 2 hL)
  have dv := var_pairs (nm := "loop.example/g00886/impl.directions") (qs := [(1, 0), (1, -1), (0, -1), (-1, 0), (-1, 1), (0, 1)]) (m := 6) (e := 226) (ti := 3) (laid_drop 6 hL) (g := 6) (by kernel_rfl) (by kernel_rfl) Tryz.underlying259 (by kernel_rfl) (by kernel_rfl) Tryz.underlying226 rfl ⟨rfl, rfl⟩ ⟨rfl, rfl⟩ Tryz.underlying3 (by kernel_rfl)
  have raw : ∀ {n : String} {g u : Nat} {x : Value}, Tryz.prog.globalNamed n = some g → W.var? Tryz.prog n = some #[.iface u x] → GK (Old W) W g [.raw (.iface u x)] := fun hn hv => gk_of_var hn hv rfl fun j c hj => by
    cases j with
    | zero => cases hj; exact ⟨_, rfl, .raw _ rfl⟩
    | succ j => cases hj
  refine ⟨⟨m, .iface u1 x1, .iface u2 x2, .inr ⟨_, _, rfl⟩, .inr ⟨_, _, rfl⟩⟩, fun g cs hg => ?_⟩
  unfold gl at hg
  split at hg
  · cases hg
    exact gk_of_var n0 v0 hs0 fun j c hj => by
      cases j with
      | zero => cases hj; exact ⟨_, c0, .int _ _⟩
      | succ j => cases hj
  · cases hg; exact raw (by kernel_rfl) e1
  · cases hg; exact raw (by kernel_rfl) e2
  · cases hg; exact gk_ints (by kernel_rfl) tab
  · cases hg; exact gk_ints (nm := "loop.example/g00886/impl.directions") (by kernel_rfl) dv
  · cases hg
theorem returns_shaped {H : Type} {enc : TypeId × Value → H} {a : Assume} {C : Checked} {os : Os} {f : FuncId} {fn : Func} {s : ChangeSpec} {conds : List PathCond} {apart fresh handsOn again : Bool} {X : World → Array Value → Prop}
    (hX : ∀ (w w' : World) (args : Array Value), w.heap = w'.heap → X w args → X w' args)
    (own : ownKnob C.prog.godebug = none) (started : os.Started) (noInit : C.prog.inits.idxOf? f = none) (hfn : C.prog.funcs[f]? = some fn)
    (witness : ∃ (w : World) (tape : Tape) (i : Input), w.os = os ∧ (w.forCall tape i).Shaped C.prog ∧ i.vars = [] ∧ Input.okWide C.prog (w.forCall tape i) .any w.heap.size f i ∧
      ((s.pre enc C.prog fn conds apart (w.forCall tape i).memory i.args ∧ X (w.forCall tape i).memory i.args) ∧ sizedMet enc C.prog fn (OpenSpec.ofChange s) apart (w.forCall tape i).memory i.args) ∧ a.holds C.prog (lone (Frame.enter C.prog f i.args .normal) [] (w.forCall tape i)))
    (contract : ∀ (W : World) (base : Nat) (args : Array Value) (ds gs : List (DataW H)) (before : List MemPlace),
      (∀ (j : Nat) t v, fn.params[j]? = some t → args[j]? = some v → Value.okWide C.prog W .any base t v) →
      DataW.Whole enc C.prog fn.params.toList s.vars apart W args.toList ds gs before → W.ShapedOpen C.prog → X W args →
      Calls C.prog f args W fun e W' => ∃ v, e = .returned v ∧ s.post enc C.prog fn apart fresh handsOn again W args v W') :
    ReturnsInHanded a C os f .any (fun w args => (s.pre enc C.prog fn conds apart w args ∧ X w args) ∧ sizedMet enc C.prog fn (OpenSpec.ofChange s) apart w args) (s.post enc C.prog fn apart fresh handsOn again) := by
  refine returnsInHanded_of_calls own started noInit witness ?_
  intro w tape i _ hsh _ hok hpre hholds
  obtain ⟨_, _, _, fn', hfn', _, _, _, _, hval⟩ := hok
  have e : fn' = fn := Option.some.inj (hfn'.symm.trans hfn)
  subst e
  obtain ⟨⟨⟨ds, gs, before, hw, hc⟩, hx⟩, hz⟩ := hpre
  have hw' := DataW.Whole.of_heap (w' := w.forCall tape i) (by rfl) hw
  refine (contract (w.forCall tape i) w.heap.size i.args ds gs before hval hw' hsh (hX _ _ _ (by rfl) hx)).mono fun e W' ⟨v, he, hp⟩ => ?_
  subst he
  exact ChangeSpec.post_blind hp
theorem laidOut : laidOutB Tryz.prog = true := by kernel_rfl
set_option maxRecDepth 100000 in
theorem lifted (os : Os) (started : os.Started) (H : Type) (enc : TypeId × Value → H) :
    ReturnsInHanded {} Tryz.checked os 3 .any (fun w args => (Rows.fnExactParseReportSpec.pre enc Tryz.prog Tryz.f3 Rows.fnExactParseReportRow.domain false w args ∧ laidMetH Tryz.prog Rows.fnExactParseReportRow.laid w) ∧ sizedMet enc Tryz.prog Tryz.f3 (OpenSpec.ofChange Rows.fnExactParseReportSpec) false w args) (Rows.fnExactParseReportSpec.post enc Tryz.prog Tryz.f3 false true false false) := by
  refine returns_shaped (C := Tryz.checked) (X := fun w _ => laidMetH Tryz.prog Rows.fnExactParseReportRow.laid w) (fun _ _ _ hh h => h.of_heap hh) own started (by kernel_rfl) Tryz.func3
    (ChangeSpec.witness_shaped (enc := enc) (C := Tryz.checked) (os := os) (X := fun w _ => laidMetH Tryz.prog Rows.fnExactParseReportRow.laid w) false (World.laidAll Tryz.prog os Rows.fnExactParseReportRow.laid) #[.agg #[.slice none 0 0, .slice none 0 0, .int .i64 0, .int .i64 0, .int .i64 0, .int .i64 0, .int .i64 0, .int .i64 0, .int .i64 0, .slice none 0 0, .slice none 0 0, .slice none 0 0], .string ⟨#[]⟩] 8 (World.laidAll_os _ _ _)
      (World.shaped_of_ZipB (by kernel_rfl) (by kernel_rfl)) (by kernel_rfl) (by kernel_rfl) (by kernel_rfl)
      (by rw [MakeChecks.laidMetH_plain _ _ _ (by kernel_rfl)]; exact laidMet_laidAll _ (by kernel_rfl) (by kernel_rfl))) ?_
  intro W base args ds gs before hval0 hW hsh hL
  have hval : ∀ (j : Nat) t v, Tryz.f3.params[j]? = some t → args[j]? = some v → Value.okWide Tryz.prog W .any base t v := hval0
  have hW' := hW
  obtain ⟨p, q, hA0, hV, rfl, hfz, hnd⟩ := hW
  have hA : DataW.TrodAll enc Tryz.prog W 0 (fun _ => true) true Tryz.f3.params.toList args.toList ds p := hA0
  have hlt := hA.lt
  rw [Tryz.params3] at hA hval
  obtain ⟨v0, vs0, d0, ds0, p0, q0, hargs, rfl, rfl, h0, r0⟩ := trodAll_cons hA
  obtain ⟨v1, vs1, d1, ds1, p1, q1, rfl, rfl, rfl, h1, r1⟩ := trodAll_cons r0
  obtain ⟨rfl, rfl, rfl⟩ := trodAll_nil r1
  obtain rfl : args = #[v0, v1] := by cases args; simp_all
  have hV2 := hV
  obtain ⟨_, _, _, _, _, _, rfl, _⟩ := trodVars_one hV2
  obtain ⟨a0, k0, w0⟩ := o30.agg Tryz.underlying30 (hval 0 30 v0 rfl rfl) h0
  have hl0 : ∀ x ∈ p0, x.block < W.heap.size := fun x hx => hlt x (by simp [hx])
  obtain ⟨a1, k1, w1⟩ := o9.cell (by obtain ⟨_, rfl⟩ := okWide_string Tryz.underlying9 (hval 1 9 v1 rfl rfl); intro cs e; cases e) h1
  have hl1 : ∀ x ∈ p1, x.block < W.heap.size := fun x hx => hlt x (by simp [hx])
  obtain ⟨G, hG⟩ := par_of hL hsh
  have hcall := LawOk.law (gl := @gl G) (l_FnExactParseReport_T_ok a0 a1 (Go.Proofs.YtjlabdoeiphegaaGreatDoor.X0.law a0 a1 k0 k1)) (W := W) (vals := [v0, v1]) hG rfl (fun i a v ha hv => by
    match i with
    | 0 => cases ha; cases hv; exact w0
    | 1 => cases ha; cases hv; exact w1
    | i + 2 => cases ha)
  refine hcall.mono fun e W' ⟨he, bel⟩ => ?_
  subst he
  exact ⟨_, rfl, _, _, _, [], _, _, hW', trodAll_mk1 (shut_bool Tryz.underlying4 _), (trodAll_cons_mk (Below.trod (by kernel_rfl) (by kernel_rfl) (of_decide_eq_true (by kernel_rfl)) h0 bel hl0) (trodAll_cons_mk (Below.trod (by kernel_rfl) (by kernel_rfl) (of_decide_eq_true (by kernel_rfl)) h1 bel hl1) trodAll_mk0)), Below.trodVars laidOut bel (by kernel_rfl) hV, bel.frame _, fun h => by cases h⟩
end Go.Proofs.YtjlabdoeiphegaaGreatDoor.fnExactParseReport
