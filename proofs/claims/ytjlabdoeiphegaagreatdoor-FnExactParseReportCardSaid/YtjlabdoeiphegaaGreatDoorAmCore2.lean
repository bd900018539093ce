/- A walk: regions; no condition. -/
import Derived.Test.YtjlabdoeiphegaaGreatDoorAmCore1
import Derived.Laws.CopyRow
set_option linter.unusedVariables false
set_option linter.unusedSimpArgs false
namespace Go.Proofs.YtjlabdoeiphegaaGreatDoor.Ab
open Go Go.RowKit
section
variable {P : Program} {gl : Nat → Option (List AC)} {N : Nat} {w0 : Wk} {Pr : PrT} {φ : Nat → Option (Option Nat)} {s : St} {a : Act} {w : World}
 {o : Oper} {hs : List Hint} {K : List Hint → St → Prop} {next : Act → World → Prop} {Q : Exit → Act → World → Prop}
theorem evs_sound_list (h : Sim gl N w0 Pr φ s a w) : ∀ (xs : List Operand) (ys : List Opd) (vs : List AV), xs.mapM cO = some ys → evs gl s ys = some vs →
  vs.length = xs.length ∧ ∀ (i : Nat) v x, vs[i]? = some v → (xs.map a.eval)[i]? = some x → VR (KR Pr φ w) v x ∧ ∀ k ∈ v.keys, k ∈ s.u
 | [], ys, vs, hm, he => by
  simp at hm; subst hm
  simp [evs] at he; subst he
  exact ⟨rfl, by simp⟩
 | x :: r, ys, vs, hm, he => by
  simp only [List.mapM_cons, Option.bind_eq_bind, Option.bind_eq_some_iff, Option.pure_def, Option.some.injEq] at hm
  obtain ⟨y, hy, ys', hys, rfl⟩ := hm
  simp only [evs] at he
  split at he
  ·rename_i v hv
   split at he
   ·rename_i l hl
    simp only [Option.some.injEq] at he; subst he
    obtain ⟨h1, h2⟩ := evs_sound_list h r ys' l hys hl
    refine ⟨by simp [h1], fun i u z hu hz => ?_⟩
    cases i with
    | zero => simp at hu hz; subst hu hz; exact ev_sound h hy hv
    | succ i => exact h2 i u z (by simpa using hu) (by simpa using hz)
   ·cases he
  ·cases he
theorem run_callFunc {f : FuncId} {args : Array Value} (hc : callable P f = true) : (callFunc f args).run P w = .ok (.enter f args) w := by
 unfold callable at hc
 split at hc
 ·rename_i fn hf
  simp only [Bool.and_eq_true, Bool.not_eq_true'] at hc
  have hb : ¬ fn.body = none := by cases hh : fn.body <;> simp [hh] at hc ⊢
  have hn : ¬ fn.name = "runtime.NumGoroutine" := by simpa using hc.2
  simp [callFunc, program, Sem.run_bind, Result.andThen, hf, hn, hb, Sem.run]
 ·cases hc
theorem Sim.ok (h : Sim gl N w0 Pr φ s a w) : Pr.Ok w := ⟨h.pr, h.ex.qp, h.ex.th, h.ex.dp⟩
theorem Bel.le {A B : PrT} {w w' : World} (h : Bel B w w') (hp : A.Le B) : Bel A w w' :=
 ⟨h.os, h.tape, h.output, h.size, fun b hb hd => h.block b hb fun x => hd (by unfold PrT.dom at x ⊢; rw [hp.t] at x; exact x), by rw [← hp.t]; exact h.th, h.bs⟩
theorem PrT.new_le (Pr : PrT) (w w' : World) : Pr.Le (Pr.new w w') := ⟨fun _ => .inl, rfl, rfl⟩
theorem callI_sound {f : FuncId} {vs : List AV} {vals : List Value} {v : AV} {K' : St → Prop} (h : Sim gl N w0 Pr φ s a w) (hd : ∀ t, o.dst = some t → t < N) (hl : vals.length = vs.length)
  (hx : ∀ (i : Nat) c v, vs[i]? = some c → vals[i]? = some v → VR (KR Pr φ w) c v)
  (hrun : callable P f = true → (execOp a.eval o).run P w = .ok (.enter f vals.toArray) w) (hst : callI P gl o.dst f vs v s K')
  (ha : ∀ s' Pr' φ' a' w', K' s' → Sim gl N w0 Pr' φ' s' a' w' → PrS w0 gl Pr Pr' → next a' w') : o.wp P a w next Q := by
 unfold callI at hst
 obtain ⟨ds, s', Pr', ⟨⟨hcal, hok⟩, hK⟩, ht, hl', hx'⟩ := frVs_sound vs vals h hl hx hst
 unfold Oper.wp
 rw [hrun hcal]
 show Calls P f vals.toArray w _
 refine (hok w Pr' vals ht.sim.ok ht.sim.gk hl' hx').mono fun e w' he => ?_
 obtain ⟨x, rfl, hb, hv⟩ := he
 show next (a.put o.dst x) w'
 have hnk : ∀ k ∈ v.keys, k ∈ s.u := fun k hk => by
  rw [AV.keys_eq] at hk
  obtain ⟨c, hc, hkc⟩ := List.mem_flatMap.1 hk
  rw [hv.nokeysD c hc] at hkc; cases hkc
 split at hK
 ·rename_i hs
  have hg := h.grow (Pr' := Pr) (hb.le ht.p) (.refl _) (fun b y => ⟨Nat.lt_of_lt_of_le (h.pr b y) hb.size, fun _ => y⟩)
  exact ha _ _ _ _ _ hK (hg.pu hd (hv.mono fun c hc u hu => (KR.of_dr (DR.scalar (Pr' := Pr) hu (AV.isS_cells hs c hc))).1) hnk) (PrS.refl _ _)
 ·have hg := ht.sim.grow (Pr' := Pr'.new w w') hb (Pr'.new_le w w')
   (fun b y => ⟨y.elim (fun y => Nat.lt_of_lt_of_le (ht.sim.pr b y) hb.size) (fun y => y.2), fun hlt => y.elim id fun y => absurd y.1 (by omega)⟩)
  refine ha _ _ _ _ _ hK (hg.pu hd (hv.mono fun c hc u hu => (KR.of_dr hu).1) (by rw [ht.u]; exact hnk)) (ht.st.trans (.mk' (Pr'.new_le w w') fun b y => y.elim .inl fun y => .inr (h.bl.nk y.1)))
theorem frMs_sound : ∀ (cs : List AV) (vs : List Value) {s : St} {Pr : PrT} {K : List AV → St → Prop} (h : Sim gl N w0 Pr φ s a w) (hl : vs.length = cs.length)
  (hx : ∀ (i : Nat) c v, cs[i]? = some c → vs[i]? = some v → VR (KR Pr φ w) c v) (hf : frMs s cs K),
  ∃ cs' s' Pr', K cs' s' ∧ Told gl N w0 Pr Pr' φ s s' a w ∧ vs.length = cs'.length ∧ ∀ (i : Nat) c v, cs'[i]? = some c → vs[i]? = some v → VR (KR Pr' φ w) c v
 | [], vs, s, Pr, K, h, hl, hx, hf => ⟨[], s, Pr, hf, .refl h, hl, by simp⟩
 | c :: r, vs, s, Pr, K, h, hl, hx, hf => by
  match vs, hl, hx with
  | [], hl, hx => exact absurd hl (by simp)
  | v :: vs, hl, hx =>
   have plain : frMs s r (fun r' s'' => K (c :: r') s'') → ∃ cs' s' Pr', K cs' s' ∧ Told gl N w0 Pr Pr' φ s s' a w ∧ (v :: vs).length = cs'.length ∧ ∀ (i : Nat) c v', cs'[i]? = some c → (v :: vs)[i]? = some v' → VR (KR Pr' φ w) c v' := fun hf => by
    obtain ⟨cs', s'', Pr'', hK', k1, k2, k3⟩ := frMs_sound r vs h (by simpa using hl) (fun i d u hd hu => hx (i + 1) d u (by simpa using hd) (by simpa using hu)) hf
    refine ⟨c :: cs', s'', Pr'', hK', k1, by simp [k2], fun i d u hd hu => ?_⟩
    cases i with
    | zero => simp at hd hu; subst hd hu; exact (hx 0 c v rfl rfl).weak k1.p
    | succ i => exact k3 i d u (by simpa using hd) (by simpa using hu)
   cases c with
   | c x =>
    cases x with
    | clo f cap =>
     have hx0 : KR Pr φ w (.clo f cap) v := hx 0 _ v rfl rfl
     obtain ⟨c', s', Pr', hK, h1, h3⟩ := frF_sound h hx0 hf
     obtain ⟨cs', s'', Pr'', hK', k1, k2, k3⟩ := frMs_sound r vs h1.sim (by simpa using hl) (fun i d u hd hu => (hx (i + 1) d u (by simpa using hd) (by simpa using hu)).weak h1.p) hK
     refine ⟨.c c' :: cs', s'', Pr'', hK', h1.trans k1, by simp [k2], fun i d u hd hu => ?_⟩
     cases i with
     | zero => simp at hd hu; subst hd hu; exact (KR.of_dr (φ := φ) (h3.weak k1.p)).1
     | succ i => exact k3 i d u (by simpa using hd) (by simpa using hu)
    | _ => exact plain hf
   | agg xs => exact plain hf
   | tup xs => exact plain hf
theorem callM_at {f : FuncId} {vs : List AV} {vals : List Value} {m : Mu} {K' : St → Prop} (h : Sim gl N w0 Pr φ s a w) (hd : ∀ t, o.dst = some t → t < N) (hl : vals.length = vs.length)
  (hx : ∀ (i : Nat) c v, vs[i]? = some c → vals[i]? = some v → VR (KR Pr φ w) c v)
  (hrun : callable P f = true → (execOp a.eval o).run P w = .ok (.enter f vals.toArray) w) (hst : match mkH s m.ks m.ks, chkM s vs m with | some H, true => FnMu P gl f (vs.map (AV.rn (lkN m.ks))) H m.res m.H ∧ K' ((s.mu m).pu o.dst (m.res.rn (lkN m.os))) | _, _ => False)
  (ha : ∀ s' Pr' φ' a' w', K' s' → Sim gl N w0 Pr' φ' s' a' w' → PrS w0 gl Pr Pr' → next a' w') : o.wp P a w next Q := by
 split at hst
 ·rename_i H hH hchk
  obtain ⟨⟨hcal, glc, hL, hg, hok⟩, hK⟩ := hst
  have ho := mok_of hH hchk
  have hin := enter_mu h hL hg hH ho
  unfold Oper.wp
  rw [hrun hcal]
  show Calls P f vals.toArray w _
  refine (hok (wkIn m φ Pr w) Pr (φin m φ) vals hin (by simpa using hl) (fun i c v hc hv => ?_) (fun v hv k hk => ?_)).mono fun e w' he => ?_
  ·rw [List.getElem?_map, Option.map_eq_some_iff] at hc
   obtain ⟨c0, hc0, rfl⟩ := hc
   refine VR_rn (hx i c0 v hc0 hv) fun d hd' u hu => hu.rn fun k hk p hp => ?_
   obtain ⟨j, hj⟩ := mem_fst (ho.kv c0 (List.mem_of_getElem? hc0) k (by rw [AV.keys_eq]; exact List.mem_flatMap.2 ⟨d, hd', hk⟩))
   rw [lkN_mem ho.k1 hj, φin_mem ho hj] at hp
   exact hp
  ·obtain ⟨v0, hv0, rfl⟩ := List.mem_map.1 hv
   obtain ⟨i, hi, rfl⟩ := av_rn_keys hk
   obtain ⟨j, hj⟩ := mem_fst (ho.kv v0 hv0 i hi)
   rw [lkN_mem ho.k1 hj]
   refine List.mem_append_left _ ?_
   rw [mkH_fst hH]
   exact List.mem_map.2 ⟨(i, j), hj, rfl⟩
  ·obtain ⟨x, Pr', φ', rfl, hs', hv, hps⟩ := he
   obtain ⟨k1, k2⟩ := leave_mu h hL hH ho hs' hps
   show next (a.put o.dst x) w'
   refine ha _ _ _ _ _ hK (k1.pu hd (VR_rn hv fun d hd' u hu => hu.rn fun k hk p hp => ?_) fun k hk => ?_) k2
   ·obtain ⟨k', hk'⟩ := mem_fst (ho.rk k (by rw [AV.keys_eq]; exact List.mem_flatMap.2 ⟨d, hd', hk⟩))
    rw [lkN_mem ho.o1 hk', φout_mem ho hk'] at hp
    exact hp
   ·obtain ⟨i, hi, rfl⟩ := av_rn_keys hk
    obtain ⟨k', hk'⟩ := mem_fst (ho.rk i hi)
    rw [lkN_mem ho.o1 hk']
    exact List.mem_append_left _ (List.mem_map.2 ⟨(i, k'), hk', rfl⟩)
 ·exact hst.elim
theorem callM_sound {f : FuncId} {vs : List AV} {vals : List Value} {m : Mu} {K' : St → Prop} (h : Sim gl N w0 Pr φ s a w) (hd : ∀ t, o.dst = some t → t < N) (hl : vals.length = vs.length)
  (hx : ∀ (i : Nat) c v, vs[i]? = some c → vals[i]? = some v → VR (KR Pr φ w) c v)
  (hrun : callable P f = true → (execOp a.eval o).run P w = .ok (.enter f vals.toArray) w) (hst : callM P gl o.dst f vs m s K')
  (ha : ∀ s' Pr' φ' a' w', K' s' → Sim gl N w0 Pr' φ' s' a' w' → PrS w0 gl Pr Pr' → next a' w') : o.wp P a w next Q := by
 unfold callM at hst
 obtain ⟨vs', s', Pr1, hst, ht, hl', hx'⟩ := frMs_sound vs vals h hl hx hst
 exact callM_at ht.sim hd hl' hx' hrun hst fun s'' Pr' φ' a' w' hK hs hp => ha s'' Pr' φ' a' w' hK hs (ht.st.trans hp)
theorem step_call {c : Call} {f : FuncId} {ys : List Opd} (ho : o.op = .call c) (hc : c.callee = .value (.func f)) (hxs : cOs c.args = some ys)
  (h : Sim gl N w0 Pr φ s a w) (hd : ∀ t, o.dst = some t → t < N) (hst : Step P gl o.dst (.call f ys) hs s K) (ha : After gl N w0 Pr K next) : o.wp P a w next Q := by
 simp only [Step] at hst
 split at hst
 ·rename_i vs v hs' hvs
  obtain ⟨h1, h2⟩ := evs_sound_list h c.args.toList ys vs hxs hvs
  refine callI_sound h hd (vals := c.args.toList.map a.eval) (by simp [h1]) (fun i u x hu hx => (h2 i u x hu hx).1) (fun hcal => ?_) hst (fun s' Pr' φ' a' w' hK hs hp => ha _ _ _ _ _ _ hK hs hp)
  have e1 : (c.args.toList.map a.eval).toArray = c.args.map a.eval := by apply Array.ext'; simp
  rw [e1]
  simp only [execOp, ho, resolve, hc, Deferred.ofValue, Act.eval, Sem.run_bind, Sem.run_pure, Result.andThen_ok, invoke, Array.append_empty, Array.empty_append]
  exact run_callFunc hcal
 ·rename_i vs ks os r H hs' hvs
  obtain ⟨h1, h2⟩ := evs_sound_list h c.args.toList ys vs hxs hvs
  refine callM_sound h hd (vals := c.args.toList.map a.eval) (by simp [h1]) (fun i u x hu hx => (h2 i u x hu hx).1) (fun hcal => ?_) hst (fun s' Pr' φ' a' w' hK hs hp => ha _ _ _ _ _ _ hK hs hp)
  have e1 : (c.args.toList.map a.eval).toArray = c.args.map a.eval := by apply Array.ext'; simp
  rw [e1]
  simp only [execOp, ho, resolve, hc, Deferred.ofValue, Act.eval, Sem.run_bind, Sem.run_pure, Result.andThen_ok, invoke, Array.append_empty, Array.empty_append]
  exact run_callFunc hcal
 ·exact hst.elim
theorem step_cald {c : Call} {t : Tmp} {ys : List Opd} (ho : o.op = .call c) (hc : c.callee = .value (.tmp t)) (hxs : cOs c.args = some ys)
  (h : Sim gl N w0 Pr φ s a w) (hd : ∀ t, o.dst = some t → t < N) (hst : Step P gl o.dst (.cald (.t t) ys) hs s K) (ha : After gl N w0 Pr K next) : o.wp P a w next Q := by
 simp only [Step] at hst
 split at hst
 ·rename_i f cap vs v hs' hfv hvs
  obtain ⟨h1, h2⟩ := evs_sound_list h c.args.toList ys vs hxs hvs
  obtain ⟨h3, _⟩ := ev_sound h (x := .tmp t) rfl hfv
  obtain ⟨g, he, hg⟩ := h3
  refine callI_sound h hd (vals := c.args.toList.map a.eval ++ (List.range cap.length).map g) (by simp [h1]) (fun i u x hu hx => ?_) (fun hcal => ?_) hst (fun s' Pr' φ' a' w' hK hs hp => ha _ _ _ _ _ _ hK hs hp)
  ·by_cases hi : i < vs.length
   ·rw [List.getElem?_append_left hi] at hu
    rw [List.getElem?_append_left (by rw [List.length_map]; omega)] at hx
    exact (h2 i u x hu hx).1
   ·rw [List.getElem?_append_right (by omega)] at hu
    rw [List.getElem?_append_right (by rw [List.length_map]; omega)] at hx
    simp only [List.length_map, ← h1] at hx
    rw [List.getElem?_map, Option.map_eq_some_iff] at hu hx
    obtain ⟨q, hq, rfl⟩ := hu
    obtain ⟨r, hr, rfl⟩ := hx
    have hlt : i - vs.length < cap.length := (List.getElem?_eq_some_iff.1 hq).1
    rw [List.getElem?_range hlt] at hr
    cases hr
    exact (hg _ q hq).toKR
  ·have e1 : (c.args.toList.map a.eval ++ (List.range cap.length).map g).toArray = c.args.map a.eval ++ ((List.range cap.length).map g).toArray := by apply Array.ext'; simp
   rw [e1]
   simp only [execOp, ho, resolve, hc, he, Deferred.ofValue, Sem.run_bind, Sem.run_pure, Result.andThen_ok, invoke, Array.empty_append]
   exact run_callFunc hcal
 ·exact hst.elim
theorem step_clo {f : FuncId} {xs : Array Operand} {first : Array Operand} {ys : List Opd} (ho : o.op = .makeFunc (.func f) first xs) (hfs : first.size = 0) (hxs : cOs xs = some ys)
  (h : Sim gl N w0 Pr φ s a w) (hd : ∀ t, o.dst = some t → t < N) (hst : Step P gl o.dst (.clo f ys) hs s K) (ha : After gl N w0 Pr K next) : o.wp P a w next Q := by
 simp only [Step] at hst
 split at hst
 ·rename_i vs hvs
  obtain ⟨h1, h2⟩ := evs_sound_list h xs.toList ys vs hxs hvs
  split at hst
  ·rename_i cap hcap
   have key : ∀ (vs : List AV) (cap : List AC), vs.mapM (fun v => match v with | .c (.clo ..) => none | .c x => some x | _ => none) = some cap → cap.length = vs.length ∧
     ∀ (i : Nat) c, cap[i]? = some c → vs[i]? = some (.c c) ∧ ∀ f l, c ≠ .clo f l := by
    intro vs
    induction vs with
    | nil => intro cap hm; simp at hm; subst hm; exact ⟨rfl, by simp⟩
    | cons v r ih =>
     intro cap hm
     simp only [List.mapM_cons, Option.bind_eq_bind, Option.bind_eq_some_iff, Option.pure_def, Option.some.injEq] at hm
     obtain ⟨c, hc, cap', hcap', rfl⟩ := hm
     obtain ⟨h3, h4⟩ := ih cap' hcap'
     refine ⟨by simp [h3], fun i d hd => ?_⟩
     cases i with
     | zero =>
      simp at hd; subst hd
      split at hc <;> first | cases hc | skip
      rename_i hne
      exact ⟨rfl, fun f l e => hne f l (by rw [e])⟩
     | succ i => simpa using h4 i d (by simpa using hd)
   obtain ⟨h3, h4⟩ := key vs cap hcap
   refine fin_value h hd (x := .func (.func f) #[] (xs.map a.eval)) ?_ (v := .c (.clo f cap)) ?_ ?_ hst ha
   ·have : first = #[] := Array.eq_empty_of_size_eq_zero hfs
    subst this
    simp [execOp, ho, Instr.makeFunc, Sem.run_bind, Result.andThen]
   ·refine ⟨fun i => (xs.map a.eval).getD i undef, ?_, fun j c hj => ?_⟩
    ·congr 1
     apply Array.ext'
     apply List.ext_getElem?
     intro i
     have hlen : cap.length = xs.toList.length := h3.trans h1
     by_cases hi : i < cap.length
     ·rw [List.getElem?_map, List.getElem?_range hi]
      have hi' : i < xs.size := by rw [hlen] at hi; simpa using hi
      simp [Array.getD, hi']
     ·rw [List.getElem?_eq_none (by simp at hlen ⊢; omega), List.getElem?_eq_none (by simp; omega)]
    ·obtain ⟨h5, h6⟩ := h4 j c hj
     have hlt : j < xs.toList.length := by rw [← h1]; exact (List.getElem?_eq_some_iff.1 h5).1
     have hx : (xs.toList.map a.eval)[j]? = some ((xs.map a.eval).getD j undef) := by
      have hi' : j < xs.size := by simpa using hlt
      simp [Array.getD, hi']
     have h7 := (h2 j (.c c) _ h5 hx).1
     have h8 : KR Pr φ w c ((xs.map a.eval).getD j undef) := h7
     cases c <;> first | exact absurd rfl (h6 _ _) | exact h8
   ·intro k hk
    simp only [AV.keys, AC.keys, List.mem_flatMap] at hk
    obtain ⟨c, hc, hkc⟩ := hk
    obtain ⟨j, hj⟩ := List.mem_iff_getElem?.1 hc
    obtain ⟨h5, h6⟩ := h4 j c hj
    have hlt : j < xs.toList.length := by rw [← h1]; exact (List.getElem?_eq_some_iff.1 h5).1
    have hx : (xs.toList.map a.eval)[j]? = some (a.eval xs.toList[j]) := by rw [List.getElem?_map, List.getElem?_eq_getElem hlt]; rfl
    refine (h2 j (.c c) _ h5 hx).2 k ?_
    simp only [AV.keys]
    cases c <;> first | exact absurd rfl (h6 _ _) | exact hkc
  ·exact hst.elim
 ·exact hst.elim
end
theorem foldl_put (off : Nat) : ∀ (l : List Value) (k : Nat) (cells : Array Value), off + k + l.length ≤ cells.size →
  ((l.zipIdx k).foldl (fun cs (p : Value × Nat) => cs.setIfInBounds (off + p.2) p.1) cells).size = cells.size ∧
  ∀ r : Nat, ((l.zipIdx k).foldl (fun cs (p : Value × Nat) => cs.setIfInBounds (off + p.2) p.1) cells)[r]? = if off + k ≤ r ∧ r < off + k + l.length then l[r - (off + k)]? else cells[r]?
 | [], k, cells, h => ⟨rfl, fun r => by simp; omega⟩
 | v :: rest, k, cells, h => by
  simp only [List.length_cons] at h
  simp only [List.zipIdx_cons, List.foldl_cons]
  obtain ⟨h1, h2⟩ := foldl_put off rest (k + 1) (cells.setIfInBounds (off + k) v) (by simp; omega)
  refine ⟨by rw [h1]; simp, fun r => ?_⟩
  rw [h2]
  by_cases hr : off + (k + 1) ≤ r ∧ r < off + (k + 1) + rest.length
  ·rw [if_pos hr, if_pos (by simp; omega), show r - (off + k) = (r - (off + (k + 1))) + 1 by omega, List.getElem?_cons_succ]
  ·rw [if_neg hr]
   by_cases he : r = off + k
   ·subst he
    rw [if_pos (by simp), Array.getElem?_setIfInBounds_self_of_lt (by omega)]
    simp
   ·rw [if_neg (by simp; omega), Array.getElem?_setIfInBounds_ne (fun e => he e.symm)]
section
variable {P : Program} {gl : Nat → Option (List AC)} {N : Nat} {w0 : Wk} {Pr : PrT} {φ : Nat → Option (Option Nat)} {s : St} {a : Act} {w : World}
 {o : Oper} {hs : List Hint} {K : List Hint → St → Prop} {next : Act → World → Prop} {Q : Exit → Act → World → Prop}
theorem fill_sound (h : Sim gl N w0 Pr φ s a w) (place : Nat → Option (Nat × Nat)) (sel : Nat × Operand → Option (Nat × Nat × Opd))
  (hsel : ∀ p q, sel p = some q → place p.1 = some (q.1, q.2.1) ∧ cO p.2 = some q.2.2) :
  ∀ (parts : List (Nat × Operand)) (ps : List (Nat × Nat × Opd)) (cs cs' : List AC) (cells : Array Value), parts.mapM sel = some ps → buildC gl s cs ps = some cs' →
   cellsR (KR Pr φ w) cs cells.toList → (∀ k ∈ cs.flatMap AC.keys, k ∈ s.u) →
   ∃ cells', Instr.fill place cells (parts.map fun p => (p.1, a.eval p.2)) = some cells' ∧ cellsR (KR Pr φ w) cs' cells'.toList ∧ ∀ k ∈ cs'.flatMap AC.keys, k ∈ s.u
 | [], ps, cs, cs', cells, hm, hb, hc, hk => by
  simp at hm; subst hm
  simp [buildC] at hb; subst hb
  exact ⟨cells, rfl, hc, hk⟩
 | p :: rest, ps, cs, cs', cells, hm, hb, hc, hk => by
  simp only [List.mapM_cons, Option.bind_eq_bind, Option.bind_eq_some_iff, Option.pure_def, Option.some.injEq] at hm
  obtain ⟨q, hq, ps', hps, rfl⟩ := hm
  obtain ⟨off, wd, x⟩ := q
  obtain ⟨hpl, hx⟩ := hsel p _ hq
  simp only [buildC] at hb
  split at hb
  ·rename_i v hv
   split at hb
   ·rename_i vc hone
    split at hb
    ·rename_i hlen
     split at hb
     ·rename_i hfit
      obtain ⟨h1, h2⟩ := ev_sound h hx hv
      have hvc := VR.one_cells (fun c y hy => KR.one hy) h1 hone
      have hvl : (a.eval p.2).cells.size = wd := by rw [← Array.length_toList, hvc.1, hlen]
      have hcl : cells.size = cs.length := by rw [← Array.length_toList]; exact hc.1
      obtain ⟨k1, k2⟩ := foldl_put off (a.eval p.2).cells.toList 0 cells (by rw [hvc.1]; omega)
      simp only [Nat.add_zero] at k1 k2
      have hkk : ∀ k ∈ (setC cs off vc).flatMap AC.keys, k ∈ s.u := by
       intro j hj
       obtain ⟨c, hc', hjc⟩ := List.mem_flatMap.1 hj
       obtain ⟨r, hr⟩ := List.mem_iff_getElem?.1 hc'
       rw [setC_get vc cs off r (by omega)] at hr
       split at hr
       ·exact h2 j (by rw [AV.keys_eq, AV.one_cells hone]; exact List.mem_flatMap.2 ⟨c, List.mem_of_getElem? hr, hjc⟩)
       ·exact hk j (List.mem_flatMap.2 ⟨c, List.mem_of_getElem? hr, hjc⟩)
      obtain ⟨cells', h3, h4, h5⟩ := fill_sound h place sel hsel rest ps' (setC cs off vc) cs' (cells := ((a.eval p.2).cells.toList.zipIdx 0).foldl (fun cs (p : Value × Nat) => cs.setIfInBounds (off + p.2) p.1) cells) hps hb
       ⟨by rw [Array.length_toList, k1, setC_length, hcl], fun r c u hcr hur => by
        rw [setC_get vc cs off r (by omega)] at hcr
        rw [Array.getElem?_toList, k2, hvc.1] at hur
        split at hcr
        ·rename_i hr; rw [if_pos hr] at hur; exact hvc.2 _ c u hcr hur
        ·rename_i hr; rw [if_neg hr] at hur; exact hc.2 r c u hcr (by simpa using hur)⟩ hkk
      refine ⟨cells', ?_, h4, h5⟩
      simp only [List.map_cons, Instr.fill, hpl]
      rw [if_neg (by simp [hvl]; omega)]
      rw [← h3, ← Array.foldl_toList, Array.toList_zipIdx]
     ·cases hb
    ·cases hb
   ·cases hb
  ·cases hb
theorem mapM_infos {fs : List Field} (hfs : ∀ f ∈ fs, (P.info? f.type).isSome = true) : (fs.mapM (fun (f : Field) => (do pure (f.offset, ← sizeOf f.type) : Sem (Nat × Nat)))).run P w = .ok (fs.map fun f => (f.offset, P.cellsOf f.type)) w := by
 induction fs with
 | nil => rfl
 | cons f r ih =>
  simp only [List.mapM_cons, Sem.run_bind, run_size (hfs f (by simp)), Result.andThen_ok, Sem.run_pure, ih (fun g hg => hfs g (by simp [hg])), List.map_cons]
theorem step_build {t : TypeId} {parts : Array (Nat × Operand)} {z : List AC} {ps : List (Nat × Nat × Opd)} (ho : o.op = .build t parts) (hz : zeroC P t = some z)
  (hu : (∃ fs : Array Field, P.underlying t = some (.struct fs) ∧ (∀ f ∈ fs.toList, (P.info? f.type).isSome = true) ∧ parts.toList.mapM (selS P fs) = some ps) ∨
   (∃ n e, P.underlying t = some (.array n e) ∧ parts.toList.mapM (selA P e) = some ps ∧ (P.info? e).isSome = true))
  (h : Sim gl N w0 Pr φ s a w) (hd : ∀ t, o.dst = some t → t < N) (hst : Step P gl o.dst (.build z ps) hs s K) (ha : After gl N w0 Pr K next) : o.wp P a w next Q := by
 simp only [Step] at hst
 split at hst
 ·rename_i cs hcs
  obtain ⟨v, hr, hzr, _⟩ := run_zero (Pr := Pr) (w := w) hz
  have hzk : ∀ j ∈ z.flatMap AC.keys, j ∈ s.u := by
   intro j hj
   obtain ⟨c, hc, hjc⟩ := List.mem_flatMap.1 hj
   obtain ⟨q, hq⟩ := List.mem_iff_getElem?.1 hc
   obtain ⟨y, _, h8⟩ := hzr.get hq
   rw [(KR.of_dr (φ := φ) h8).2] at hjc; cases hjc
  have hzr' : cellsR (KR Pr φ w) z v.cells.toList := hzr.mono fun c _ y hy => (KR.of_dr hy).1
  rcases hu with ⟨fs, hu, hinf, hps⟩ | ⟨n, e, hu, hps, hinf⟩
  ·obtain ⟨cells', h3, h4, h5⟩ := fill_sound h (fun i => (fs.map fun f => (f.offset, P.cellsOf f.type))[i]?) _ (fun p q hq => by
    unfold selS at hq
    split at hq
    ·rename_i f x hf hx
     split at hq
     ·simp only [Option.some.injEq] at hq; subst hq
      exact ⟨by simp [hf], hx⟩
     ·cases hq
    ·cases hq) parts.toList ps z cs v.cells hps hcs hzr' hzk
   refine fin_value h hd (x := .agg cells') ?_ (v := .agg cs) ⟨cells'.toList, rfl, h4⟩ h5 hst ha
   have hmm : (fs.mapM (fun (f : Field) => (do pure (f.offset, ← sizeOf f.type) : Sem (Nat × Nat)))).run P w = .ok (fs.map fun f => (f.offset, P.cellsOf f.type)) w := by
    rw [Array.mapM_eq_mapM_toList, Sem.run_map]
    rw [mapM_infos hinf]
    simp only [Result.andThen]
    congr 1
    apply Array.ext'
    simp
   have h3' : Instr.fill (fun i => (fs.map fun f => (f.offset, P.cellsOf f.type))[i]?) v.cells (parts.map fun p => (p.1, a.eval p.2)).toList = some cells' := by simpa using h3
   simp only [execOp, ho, Instr.build, Sem.run_bind, hr, Result.andThen_ok, run_underlying hu, hmm, h3', Sem.run_pure]
  ·obtain ⟨cells', h3, h4, h5⟩ := fill_sound h (fun i => some (i * P.cellsOf e, P.cellsOf e)) _ (fun p q hq => by
    simp only [selA, Option.map_eq_some_iff] at hq
    obtain ⟨x, hx, rfl⟩ := hq
    exact ⟨rfl, hx⟩) parts.toList ps z cs v.cells hps hcs hzr' hzk
   refine fin_value h hd (x := .agg cells') ?_ (v := .agg cs) ⟨cells'.toList, rfl, h4⟩ h5 hst ha
   have h3' : Instr.fill (fun i => some (i * P.cellsOf e, P.cellsOf e)) v.cells (parts.map fun p => (p.1, a.eval p.2)).toList = some cells' := by simpa using h3
   simp [execOp, ho, Instr.build, Sem.run_bind, hr, Result.andThen, run_underlying hu, run_size hinf, h3]
 ·exact hst.elim
end
section
variable {P : Program} {gl : Nat → Option (List AC)} {N : Nat} {w0 : Wk} {Pr : PrT} {φ : Nat → Option (Option Nat)} {s : St} {a : Act} {w : World}
 {o : Oper} {hs : List Hint} {K : List Hint → St → Prop} {next : Act → World → Prop} {Q : Exit → Act → World → Prop}
theorem fin_row {k wd n cap : Nat} {f : Nat → List AC} {arr : Array Value} {T : TypeId} (h : Sim gl N w0 Pr φ s a w) (hd : ∀ t, o.dst = some t → t < N) (hk : s.u.elem k = false) (hkN : k < N)
  (hrun : (execOp a.eval o).run P w = .ok (.value (.slice (some ⟨w.heap.size, 0, none⟩) n cap)) (w.alloc (.cells arr T))) (hc : n ≤ cap) (hz : cap * wd ≤ arr.size)
  (hfit : Fits Pr φ w s.u arr (.arr wd n f false)) (hK : K hs ((s.al k (.arr wd n f false)).pu o.dst (.c (.own k wd 0 n)))) (ha : After gl N w0 Pr K next) : o.wp P a w next Q := by
 obtain ⟨φ', hf, hsim⟩ := h.al (T := T) hk hkN (arr := arr) (blk := .arr wd n f false) rfl hfit
 unfold Oper.wp
 rw [hrun]
 have hnew : (w.alloc (.cells arr T)).heap[w.heap.size]? = some (.cells arr T (0, 0)) := by
  show (w.heap.push _)[w.heap.size]? = _
  simp
 have hv : VR (KR Pr φ' (w.alloc (.cells arr T))) (.c (.own k wd 0 n)) (.slice (some ⟨w.heap.size, 0 * wd, none⟩) n cap) := .mkOwn hf hc (by simp only [bsize, hnew, Nat.zero_add]; exact hz)
 rw [Nat.zero_mul] at hv
 exact ha _ _ _ _ _ _ hK (hsim.pu hd hv (by simp [AV.keys, AC.keys, AC.keys0, St.al])) (PrS.refl _ _)
theorem madeCells_get (z : Array Value) (n wd : Nat) (hz : z.size = wd) (i j : Nat) (hi : i < n) (hj : j < wd) : (madeCells z (n * wd))[i * wd + j]? = z[j]? := by
 have hlt : i * wd + j < n * wd := by
  have : (i + 1) * wd ≤ n * wd := Nat.mul_le_mul_right _ hi
  rw [Nat.add_mul] at this; omega
 unfold madeCells
 rw [Array.getElem?_map, Array.getElem?_range, if_pos hlt]
 simp only [Option.map_some, hz]
 rw [Nat.add_comm (i * wd), Nat.add_mul_mod_self_right, Nat.mod_eq_of_lt hj]
 simp [hz, hj]
theorem step_msl {t e : TypeId} {l c : Operand} {l' : Opd} {z : List AC} (ho : o.op = .makeSlice t l c) (hu : P.underlying t = some (.slice e)) (hz : zeroC P e = some z)
  (hl : cO l = some l') (hlc : a.eval c = a.eval l) (hcel : P.cellsOf e ≠ 0) (hby : P.bytesOf e ≤ 1024) (hzl : z.length = P.cellsOf e)
  (h : Sim gl N w0 Pr φ s a w) (hd : ∀ t, o.dst = some t → t < N) (hst : Step P gl o.dst (.msl (P.cellsOf e) (P.bytesOf e) z l') hs s K) (ha : After gl N w0 Pr K next) : o.wp P a w next Q := by
 simp only [Step] at hst
 split at hst
 ·rename_i k kk m n' f' hs' hk hlv
  split at hst
  ·rename_i hke
   obtain ⟨⟨hm0, hmn, hlim⟩, hf', hst⟩ := hst
   have el := (ev_sound h hl hlv).1.int_inv
   obtain ⟨v, hr, hcs, i, hi, hiz⟩ := run_zero (Pr := Pr) (w := w) hz
   have hvs : v.cells.size = P.cellsOf e := by rw [← Array.length_toList, hcs.1, hzl]
   have hcell : P.cellsOf e = i.size := by simp [Program.cellsOf, hi]
   have hbytes : P.bytesOf e = i.bytes := by simp [Program.bytesOf, hi]
   have hlim' : n' ≤ 68719476736 := hlim
   have hb2 : (i.bytes : Int) * m ≤ 281474976710656 := by
    have h1 : i.bytes * n' ≤ 1024 * 68719476736 := Nat.mul_le_mul (by omega) hlim'
    have h2 : (i.bytes : Int) * m = ((i.bytes * n' : Nat) : Int) := by rw [Int.natCast_mul]; congr 1; omega
    omega
   have hrun := run_make (P := P) w t e i v hu hi hiz kk kk m m hm0 (Int.le_refl _) hb2 (by omega)
   rw [hmn, ← hcell] at hrun
   rw [hk] at hst
   have hmx : n' ≤ maxLen := by unfold maxLen; omega
   refine fin_row h hd hke (hd _ hk) (wd := P.cellsOf e) (n := n') (cap := n') (f := f') (arr := madeCells v.cells (n' * P.cellsOf e)) (T := e) ?_ (Nat.le_refl _) (by rw [size_madeCells]; exact Nat.le_refl _) ?_ (by rw [hk]; exact hst) ha
   ·simp only [execOp, ho, hlc, el, Sem.run_bind, hrun, Result.andThen_ok, Sem.run_pure]
   ·refine ⟨by omega, by rw [size_madeCells]; exact Nat.le_refl _, by rw [size_madeCells]; exact Nat.mul_le_mul_right _ hmx, fun q hq => ⟨by rw [hf' q hq, hzl], fun j c hj => ?_⟩⟩
    rw [hf' q hq] at hj
    have hjl : j < P.cellsOf e := by rw [← hzl]; exact (List.getElem?_eq_some_iff.1 hj).1
    rw [madeCells_get v.cells n' _ hvs q j hq hjl]
    obtain ⟨y, h1, h2⟩ := hcs.get hj
    exact ⟨y, by simpa using h1, h2⟩
  ·exact hst.elim
 ·exact hst.elim
theorem fill_seq (wd : Nat) : ∀ (L : List (Nat × Value)) (k : Nat) (cells : Array Value), L.map (·.1) = List.range' k L.length → (∀ p ∈ L, p.2.cells.size = wd) → (k + L.length) * wd ≤ cells.size →
  ∃ cells', Instr.fill (fun i => some (i * wd, wd)) cells L = some cells' ∧ cells'.size = cells.size ∧
   (∀ r, r < k * wd → cells'[r]? = cells[r]?) ∧ ∀ (i j : Nat) p, L[i]? = some p → j < wd → cells'[(k + i) * wd + j]? = p.2.cells[j]?
 | [], k, cells, hL, hc, hz => ⟨cells, rfl, rfl, fun _ _ => rfl, by simp⟩
 | p :: L, k, cells, hL, hc, hz => by
  simp only [List.map_cons, List.length_cons, List.range'_succ, List.cons.injEq] at hL
  obtain ⟨hp1, hL⟩ := hL
  have hpc := hc p (by simp)
  simp only [List.length_cons] at hz
  have hz1 : (k + 1) * wd ≤ (k + (L.length + 1)) * wd := Nat.mul_le_mul_right _ (by omega)
  have hkw : k * wd + wd = (k + 1) * wd := by rw [Nat.add_mul]; omega
  obtain ⟨f1, f2⟩ := foldl_put (k * wd) p.2.cells.toList 0 cells (by rw [Array.length_toList, hpc]; omega)
  simp only [Nat.add_zero, Array.length_toList, hpc] at f1 f2
  obtain ⟨cells', h1, h2, h3, h4⟩ := fill_seq wd L (k + 1) ((p.2.cells.toList.zipIdx 0).foldl (fun cs (q : Value × Nat) => cs.setIfInBounds (k * wd + q.2) q.1) cells) hL (fun q hq => hc q (by simp [hq]))
   (by rw [f1, show k + 1 + L.length = k + (L.length + 1) by omega]; exact hz)
  refine ⟨cells', ?_, by rw [h2, f1], fun r hr => ?_, fun i j q hq hj => ?_⟩
  ·obtain ⟨p1, p2⟩ := p
   simp only at hp1 hpc
   subst hp1
   simp only [Instr.fill]
   rw [if_neg (by simp [hpc]; omega), ← Array.foldl_toList, Array.toList_zipIdx]
   exact h1
  ·rw [h3 r (by omega), f2, if_neg (by omega)]
  ·cases i with
   | zero =>
    simp only [List.getElem?_cons_zero, Option.some.injEq] at hq
    subst hq
    rw [Nat.add_zero, h3 _ (by omega), f2, if_pos (by omega)]
    rw [show k * wd + j - k * wd = j by omega]
    simp
   | succ i =>
    have := h4 i j q (by simpa using hq) hj
    rw [show k + (i + 1) = k + 1 + i by omega]
    exact this
theorem partsC_sound (h : Sim gl N w0 Pr φ s a w) (wd : Nat) : ∀ (xs : List Operand) (ys : List Opd) (ps : List (List AC)), xs.mapM cO = some ys → partsC gl s wd ys = some ps →
  ps.length = xs.length ∧ ∀ (i : Nat) p x, ps[i]? = some p → xs[i]? = some x → p.length = wd ∧ cellsR (KR Pr φ w) p (a.eval x).cells.toList
 | [], ys, ps, hm, hp => by
  simp at hm; subst hm
  simp [partsC] at hp; subst hp
  exact ⟨rfl, by simp⟩
 | x :: r, ys, ps, hm, hp => by
  simp only [List.mapM_cons, Option.bind_eq_bind, Option.bind_eq_some_iff, Option.pure_def, Option.some.injEq] at hm
  obtain ⟨y, hy, ys', hys, rfl⟩ := hm
  simp only [partsC] at hp
  split at hp
  ·rename_i v hv
   split at hp
   ·rename_i vc hone
    split at hp
    ·rename_i hlen
     split at hp
     ·rename_i l hl
      simp only [Option.some.injEq] at hp; subst hp
      obtain ⟨h1, h2⟩ := partsC_sound h wd r ys' l hys hl
      refine ⟨by simp [h1], fun i u z hu hz => ?_⟩
      cases i with
      | zero => simp at hu hz; subst hu hz; exact ⟨hlen, VR.one_cells (fun c y hy => KR.one hy) (ev_sound h hy hv).1 hone⟩
      | succ i => exact h2 i u z (by simpa using hu) (by simpa using hz)
     ·cases hp
    ·cases hp
   ·cases hp
  ·cases hp
theorem frPartsC_sound : ∀ (cs : List (List AC)) (vs : List (List Value)) {s : St} {Pr : PrT} {K : List (List AC) → St → Prop} (h : Sim gl N w0 Pr φ s a w) (hl : vs.length = cs.length)
  (hx : ∀ (i : Nat) c v, cs[i]? = some c → vs[i]? = some v → cellsR (KR Pr φ w) c v) (hf : frPartsC s cs K),
  ∃ cs' s' Pr', K cs' s' ∧ Told gl N w0 Pr Pr' φ s s' a w ∧ vs.length = cs'.length ∧ ∀ (i : Nat) c v, cs'[i]? = some c → vs[i]? = some v → cellsR (DR Pr' w) c v
 | [], vs, s, Pr, K, h, hl, hx, hf => ⟨[], s, Pr, hf, .refl h, hl, by simp⟩
 | c :: r, vs, s, Pr, K, h, hl, hx, hf => by
  match vs, hl, hx with
  | [], hl, hx => exact absurd hl (by simp)
  | v :: vs, hl, hx =>
   obtain ⟨c', s', Pr', hK, h1, h2, h3, h4, h5, h6, _⟩ := frCs_sound c v h (hx 0 c v rfl rfl) hf
   obtain ⟨cs', s'', Pr'', hK', k1, k2, k3⟩ := frPartsC_sound r vs h2 (by simpa using hl) (fun i d u hd hu => (hx (i + 1) d u (by simpa using hd) (by simpa using hu)).mono fun _ _ _ y => y.weak h6) hK
   refine ⟨c' :: cs', s'', Pr'', hK', Told.trans ⟨h1, h2, h4, h5, h6⟩ k1, by simp [k2], fun i d u hd hu => ?_⟩
   cases i with
   | zero => simp at hd hu; subst hd hu; exact h3.mono fun _ _ _ y => y.weak k1.p
   | succ i => exact k3 i d u (by simpa using hd) (by simpa using hu)
theorem step_bsl {t e : TypeId} {len : Nat} {parts : Array (Nat × Operand)} {ps : List Opd} {z : List AC} (ho : o.op = .buildSlice t len parts) (hu : P.underlying t = some (.slice e)) (hz : zeroC P e = some z)
  (hps : parts.toList.mapM (fun p => cO p.2) = some ps) (hix : parts.toList.map (·.1) = List.range len) (hcel : P.cellsOf e ≠ 0) (hbig : len * P.cellsOf e ≤ 2 ^ 24) (hzl : z.length = P.cellsOf e)
  (h : Sim gl N w0 Pr φ s a w) (hd : ∀ t, o.dst = some t → t < N) (hst : Step P gl o.dst (.bsl (P.cellsOf e) ps) hs s K) (ha : After gl N w0 Pr K next) : o.wp P a w next Q := by
 simp only [Step] at hst
 split at hst
 ·rename_i k pcs n f' hs' hk hpc
  split at hst
  ·rename_i hke
   obtain ⟨v, hr, hcs, i, hi, hiz⟩ := run_zero (Pr := Pr) (w := w) hz
   have hvs : v.cells.size = P.cellsOf e := by rw [← Array.length_toList, hcs.1, hzl]
   have hlen : parts.toList.length = len := by have := congrArg List.length hix; simpa using this
   obtain ⟨q1, q2⟩ := partsC_sound h (P.cellsOf e) (parts.toList.map (·.2)) ps pcs (by rw [List.mapM_map]; exact hps) hpc
   obtain ⟨qs, s', Pr', ⟨hn, hf', hK⟩, ht, ht2, ht3⟩ := frPartsC_sound pcs (parts.toList.map fun p => (a.eval p.2).cells.toList) h (by rw [q1]; simp) (fun i c u hc hu => by
    rw [List.getElem?_map, Option.map_eq_some_iff] at hu
    obtain ⟨p, hp, rfl⟩ := hu
    exact (q2 i c p.2 hc (by rw [List.getElem?_map, hp]; rfl)).2) hst
   have hnl : n = len := by rw [hn, ← ht2]; simpa using hlen
   have hpw : ∀ p ∈ parts.toList, (a.eval p.2).cells.size = P.cellsOf e := by
    intro p hp
    obtain ⟨i, hi⟩ := List.mem_iff_getElem?.1 hp
    have hlt : i < pcs.length := by rw [q1]; simpa using (List.getElem?_eq_some_iff.1 hi).1
    have h5 := q2 i pcs[i] p.2 (List.getElem?_eq_getElem hlt) (by rw [List.getElem?_map, hi]; rfl)
    rw [← Array.length_toList, h5.2.1, h5.1]
   obtain ⟨cells', c1, c2, c3, c4⟩ := fill_seq (P.cellsOf e) (parts.toList.map fun p => (p.1, a.eval p.2)) 0 (madeCells v.cells (len * P.cellsOf e))
    (by rw [List.map_map, List.length_map, hlen, ← List.range_eq_range']; exact hix) (fun p hp => by
     obtain ⟨q, hq, rfl⟩ := List.mem_map.1 hp
     exact hpw q hq) (by rw [size_madeCells, Nat.zero_add, List.length_map, hlen]; exact Nat.le_refl _)
   rw [size_madeCells] at c2
   rw [hk] at hK
   have hke' : s'.u.elem k = false := by rw [ht.u]; exact hke
   refine fin_row (hs := hs') ht.sim hd hke' (hd _ hk) (wd := P.cellsOf e) (n := n) (cap := n) (f := f') (arr := cells') (T := e) ?_ (Nat.le_refl _) (by rw [c2, hnl]; exact Nat.le_refl _) ?_ (by rw [hk]; exact hK)
    (fun hs'' s'' Pr'' φ'' a'' w'' k1 k2 k3 => ha _ _ _ _ _ _ k1 k2 (ht.st.trans k3))
   ·have hi2 : (P.info? e).isSome = true := by rw [hi]; rfl
    have hb : ¬ 16777216 < len * P.cellsOf e := by omega
    have c1b : Instr.fill (fun i => some (i * P.cellsOf e, P.cellsOf e)) ((Array.range (len * P.cellsOf e)).map (v.cells[· % v.cells.size]!)) (parts.toList.map fun p => (p.1, a.eval p.2)) = some cells' := c1
    have c1a : len * P.cellsOf e = 0 → Instr.fill (fun i => some (i * P.cellsOf e, P.cellsOf e)) ((Array.range (len * P.cellsOf e)).map (fun _ => (default : Value))) (parts.toList.map fun p => (p.1, a.eval p.2)) = some cells' := by
     intro h0
     rw [← c1b, h0]
     simp [Array.range_zero']
    have hrun : (Instr.buildSlice t len (parts.map fun p => (p.1, a.eval p.2))).run P w = .ok (.slice (some ⟨w.heap.size, 0, none⟩) len len) (w.alloc (.cells cells' e)) := by
     unfold Instr.buildSlice
     simp [Sem.run_bind, run_underlying hu, Result.andThen, run_size hi2, hb, newRow, newObj]
     split
     ·rename_i h0; rw [c1a h0]; simp [Sem.run]
     ·rw [hr]; simp only []; rw [c1b]; simp [Sem.run]
    rw [hnl]
    simp only [execOp, ho, Sem.run_bind, hrun, Result.andThen_ok, Sem.run_pure]
   ·refine ⟨by omega, by rw [c2, hnl]; exact Nat.le_refl _, by
     rw [c2]
     refine Nat.mul_le_mul_right _ ?_
     have : len * 1 ≤ len * P.cellsOf e := Nat.mul_le_mul_left _ (by omega)
     unfold maxLen; omega, fun i hi' => ?_⟩
    rw [hf' i hi']
    have hlt : i < qs.length := by omega
    have hq : qs[i]? = some qs[i] := List.getElem?_eq_getElem hlt
    have hlt2 : i < parts.toList.length := by omega
    have hp : parts.toList[i]? = some parts.toList[i] := List.getElem?_eq_getElem hlt2
    have h6 := ht3 i qs[i] _ hq (by rw [List.getElem?_map, hp]; rfl)
    have hgd : qs.getD i [] = qs[i] := by simp [List.getD, hq]
    rw [hgd]
    have hpw' := hpw parts.toList[i] (List.mem_of_getElem? hp)
    refine ⟨by have := h6.1; rw [Array.length_toList, hpw'] at this; exact this.symm, fun j c hj => ?_⟩
    obtain ⟨y, h7, h8⟩ := h6.get hj
    have hjl : j < P.cellsOf e := by have := (List.getElem?_eq_some_iff.1 h7).1; rw [Array.length_toList, hpw'] at this; exact this
    have h9 := c4 i j _ (by rw [List.getElem?_map, hp]; rfl) hjl
    rw [Nat.zero_add] at h9
    exact ⟨y, by rw [h9]; simpa using h7, h8⟩
  ·exact hst.elim
 ·exact hst.elim
end
section
variable {P : Program} {gl : Nat → Option (List AC)} {N : Nat} {w0 : Wk} {Pr : PrT} {φ : Nat → Option (Option Nat)} {s : St} {a : Act} {w : World}
 {o : Oper} {hs : List Hint} {K : List Hint → St → Prop} {next : Act → World → Prop} {Q : Exit → Act → World → Prop}
theorem bnd_sound (h : Sim gl N w0 Pr φ s a w) {lo : Option Operand} {lo' : Option Opd} (hl : cOo lo = some lo') {n i : Int} (hb : bnd gl s n lo' = some i) :
  (lo = none ∧ i = n) ∨ ∃ x k, lo = some x ∧ a.eval x = .int k i := by
 cases lo with
 | none => simp [cOo] at hl; subst hl; simp [bnd] at hb; exact .inl ⟨rfl, hb.symm⟩
 | some x =>
  simp only [cOo, Option.map_eq_some_iff] at hl
  obtain ⟨y, hy, rfl⟩ := hl
  simp only [bnd] at hb
  split at hb
  ·rename_i k j hv
   cases hb
   exact .inr ⟨x, k, rfl, (ev_sound h hy hv).1.int_inv⟩
  ·cases hb
theorem run_bounds {isS : Bool} {len cap : Nat} {lo hi : Option Operand} {l hh : Int} (hlo : (lo = none ∧ l = 0) ∨ ∃ x k, lo = some x ∧ a.eval x = .int k l) (hhi : (hi = none ∧ hh = len) ∨ ∃ x k, hi = some x ∧ a.eval x = .int k hh)
  (h0 : 0 ≤ l) (h1 : l ≤ hh) (h2 : hh ≤ len) (h3 : len ≤ cap) :
  (Instr.sliceBounds isS len cap (lo.map a.eval) (hi.map a.eval) none).run P w = .ok (l.toNat, hh.toNat, cap) w := by
 have hlh : l ≤ (hh.toNat : Int) := by omega
 have hhc : hh ≤ (cap : Int) := by omega
 have h4 : 0 ≤ hh := by omega
 have h5 : l ≤ max hh 0 := by omega
 rcases hlo with ⟨rfl, rfl⟩ | ⟨x, k, rfl, hx⟩ <;> rcases hhi with ⟨rfl, rfl⟩ | ⟨y, k', rfl, hy⟩
 ·simp [Instr.sliceBounds, Sem.run_bind, Result.andThen]
 ·simp [Instr.sliceBounds, Instr.sliceBound, asIntOf, Sem.run_bind, Result.andThen, hy, h4, hhc]
 ·have hlen : l ≤ (len : Int) := by omega
  simp [Instr.sliceBounds, Instr.sliceBound, asIntOf, Sem.run_bind, Result.andThen, hx, h0, hlen]
 ·simp [Instr.sliceBounds, Instr.sliceBound, asIntOf, Sem.run_bind, Result.andThen, hx, hy, h0, hlh, h4, hhc, h5]
theorem step_sls {t : TypeId} {x : Operand} {lo hi : Option Operand} {x' : Opd} {lo' hi' : Option Opd} (ho : o.op = .slice t x lo hi none) (hx : cO x = some x')
  (hlo : cOo lo = some lo') (hhi : cOo hi = some hi') (hu : P.underlying t = some .string)
  (h : Sim gl N w0 Pr φ s a w) (hd : ∀ t, o.dst = some t → t < N) (hst : Step P gl o.dst (.sls x' lo' hi') hs s K) (ha : After gl N w0 Pr K next) : o.wp P a w next Q := by
 simp only [Step] at hst
 split at hst
 ·rename_i l l' hs' hxv
  have ex := (ev_sound h hx hxv).1.str_inv
  split at hst
  ·rename_i i j hi1 hj1
   obtain ⟨⟨h0, h1, h2⟩, hl', hst⟩ := hst
   have hz : (⟨l.toArray⟩ : ByteArray).size = l.length := List.size_toArray
   have hr := run_bounds (P := P) (w := w) (isS := false) (len := l.length) (cap := l.length) (bnd_sound h hlo hi1) (bnd_sound h hhi hj1) h0 h1 h2 (Nat.le_refl _)
   refine fin_str h hd ?_ hst ha
   rw [hl', ← ByteArray.extract_mk]
   have : (Instr.slice t (.string ⟨l.toArray⟩) (lo.map a.eval) (hi.map a.eval) none).run P w = .ok (.string ((⟨l.toArray⟩ : ByteArray).extract i.toNat j.toNat)) w := by
    unfold Instr.slice
    simp only [Sem.run_bind, run_underlying hu, Result.andThen_ok, hz]
    simp [Sem.run_bind, hr, Result.andThen]
   simp only [execOp, ho, ex, Option.map_none, Sem.run_bind]
   rw [show (Instr.sliceAt t (.string ⟨l.toArray⟩) (lo.map a.eval) (hi.map a.eval) none).run P w = .ok (.string ((⟨l.toArray⟩ : ByteArray).extract i.toNat j.toNat)) w by
    simp only [Instr.sliceAt, Sem.run_bind, run_underlying hu, Result.andThen_ok, this]]
   rfl
  ·exact hst.elim
 ·exact hst.elim
theorem run_sliceAt {t e : TypeId} (hu : P.underlying t = some (.slice e)) (hi2 : (P.info? e).isSome = true) {ad : Option Addr} {n cap : Nat} {lo hi : Option Operand} {l hh : Int}
  (hlo : (lo = none ∧ l = 0) ∨ ∃ x k, lo = some x ∧ a.eval x = .int k l) (hhi : (hi = none ∧ hh = n) ∨ ∃ x k, hi = some x ∧ a.eval x = .int k hh)
  (h0 : 0 ≤ l) (h1 : l ≤ hh) (h2 : hh ≤ n) (h3 : n ≤ cap) :
  (Instr.sliceAt t (.slice ad n cap) (lo.map a.eval) (hi.map a.eval) none).run P w = .ok (.slice (if cap = l.toNat then ad else ad.map (·.add (l.toNat * P.cellsOf e))) (hh.toNat - l.toNat) (cap - l.toNat)) w := by
 have hr := run_bounds (P := P) (w := w) (isS := true) (len := n) (cap := cap) hlo hhi h0 h1 h2 h3
 simp only [Instr.sliceAt, Sem.run_bind, run_underlying hu, Result.andThen_ok, Instr.slice, hr, run_size hi2, Sem.run_pure]
theorem info_of_cells {e : TypeId} (hz : P.cellsOf e ≠ 0) : (P.info? e).isSome = true := by
 cases hh : P.info? e with
 | none => simp [Program.cellsOf, hh] at hz
 | some _ => rfl
theorem step_slc {t e : TypeId} {x : Operand} {lo hi : Option Operand} {x' : Opd} {lo' hi' : Option Opd} (ho : o.op = .slice t x lo hi none) (hx : cO x = some x')
  (hlo : cOo lo = some lo') (hhi : cOo hi = some hi') (hu : P.underlying t = some (.slice e)) (hcel : P.cellsOf e ≠ 0)
  (h : Sim gl N w0 Pr φ s a w) (hd : ∀ t, o.dst = some t → t < N) (hst : Step P gl o.dst (.slc (P.cellsOf e) x' lo' hi') hs s K) (ha : After gl N w0 Pr K next) : o.wp P a w next Q := by
 have hi2 := info_of_cells hcel
 have run : ∀ ad n cap l hh, a.eval x = .slice ad n cap → ((lo = none ∧ l = 0) ∨ ∃ x k, lo = some x ∧ a.eval x = .int k l) → ((hi = none ∧ hh = (n : Int)) ∨ ∃ x k, hi = some x ∧ a.eval x = .int k hh) → 0 ≤ l → l ≤ hh → hh ≤ n → n ≤ cap →
   (execOp a.eval o).run P w = .ok (.value (.slice (if cap = l.toNat then ad else ad.map (·.add (l.toNat * P.cellsOf e))) (hh.toNat - l.toNat) (cap - l.toNat))) w := by
  intro ad n cap l hh he h1 h2 h3 h4 h5 h6
  simp only [execOp, ho, he, Option.map_none, Sem.run_bind, run_sliceAt hu hi2 h1 h2 h3 h4 h5 h6, Result.andThen_ok, Sem.run_pure]
 have cut : ∀ {Pr' : PrT} {w' : World} {f f' : Nat → List AC} {n n' : Nat} {l hh : Int} {y : Value} {ad : Option Addr} {cap : Nat}, DR Pr' w' (.sl (P.cellsOf e) n f) y → y = .slice ad n cap → 0 ≤ l → l ≤ hh → hh ≤ n → n' = (hh - l).toNat → (∀ i, i < n' → f' i = f (l.toNat + i)) →
   DR Pr' w' (.sl (P.cellsOf e) n' f') (.slice (if cap = l.toNat then ad else ad.map (·.add (l.toNat * P.cellsOf e))) (hh.toNat - l.toNat) (cap - l.toNat)) ∧ n ≤ cap := by
  intro Pr' w' f f' n n' l hh y ad cap hdr hy h0 h1 h2 hn' hf'
  rw [show hh.toNat - l.toNat = n' by omega]
  cases hdr with
  | slN => cases hy; simp only [Nat.zero_sub, Option.map_none]; rw [show n' = 0 by omega]; exact ⟨by simp; exact .slN .., Nat.le_refl _⟩
  | sl _ _ _ ad1 cap1 g hn hc hl hr hd1 =>
   cases hy
   refine ⟨?_, hn⟩
   have hlc : cap - l.toNat ≤ maxLen := by omega
   by_cases hcl : cap = l.toNat
   ·rw [if_pos hcl]
    have : n' = 0 := by omega
    subst this
    exact DR.sl_of_ex (Nat.zero_le _) hlc (fun i hi => absurd hi (by omega)) (fun i j c hi => absurd hi (by omega))
   ·rw [if_neg hcl]
    refine DR.sl_of_ex (by omega) hlc (fun i hi => by rw [hf' i hi]; exact hl _ (by omega)) (fun i j c hi hj => ?_)
    rw [hf' i hi] at hj
    obtain ⟨h5, h6⟩ := hr (l.toNat + i) j c (by omega) hj
    refine ⟨by rw [Addr.add_block]; exact h5, _, ?_, hd1 (l.toNat + i) j c (by omega) hj⟩
    rw [Addr.add_add, ← Nat.add_assoc, ← Nat.add_mul]; exact h6
 simp only [Step] at hst
 split at hst
 ·rename_i wd n f n' f' hs' hxv
  split at hst
  ·rename_i l hh hl1 hh1
   split at hst
   ·rename_i hwd
    subst hwd
    obtain ⟨⟨h0, h1, h2⟩, hn', hf', hst⟩ := hst
    obtain ⟨hv, _⟩ := ev_sound h hx hxv
    have hv' : DR Pr w (.sl (P.cellsOf e) n f) (a.eval x) := hv
    have hsh : ∃ ad cap, a.eval x = .slice ad n cap := by
     generalize a.eval x = y at hv'
     cases hv' <;> exact ⟨_, _, rfl⟩
    obtain ⟨ad, cap, he⟩ := hsh
    obtain ⟨hc1, hc2⟩ := cut hv' he h0 h1 h2 hn' hf'
    exact fin_value h hd (run ad n cap l hh he (bnd_sound h hlo hl1) (bnd_sound h hhi hh1) h0 h1 h2 hc2) (v := .c (.sl (P.cellsOf e) n' f')) (KR.of_dr (φ := φ) hc1).1 (by simp [AV.keys, AC.keys, AC.keys0]) hst ha
   ·exact hst.elim
  ·exact hst.elim
 ·rename_i k wd n n' f' hs' hxv
  split at hst
  ·rename_i l hh wd2 m f z hl1 hh1 hb
   split at hst
   ·rename_i hwd
    subst hwd
    split at hst
    ·rename_i hwd
     subst hwd
     obtain ⟨⟨h0, h1, h2, hnm⟩, hn', hf', hst⟩ := hst
     obtain ⟨hv, _⟩ := ev_sound h hx hxv
     obtain ⟨Pr', k1, k2, k2', k3⟩ := h.fzk hb (.inr ⟨_, m, f, z, rfl, rfl⟩)
     have hk' : (s.sh k (.arr (P.cellsOf e) m f true)).h k = some (.arr (P.cellsOf e) m f true) := by simp [St.sh, nbt]
     have hv' : DR Pr' w (.sl (P.cellsOf e) n (shf f 0)) (a.eval x) := k3.own_dr hk' (hv.weak k1.2) (by omega)
     have hsh : ∃ ad cap, a.eval x = .slice ad n cap := by
      generalize a.eval x = y at hv'
      cases hv' <;> exact ⟨_, _, rfl⟩
     obtain ⟨ad, cap, he⟩ := hsh
     obtain ⟨hc1, hc2⟩ := cut hv' he h0 h1 h2 hn' hf'
     exact fin_value k3 hd (run ad n cap l hh he (bnd_sound h hlo hl1) (bnd_sound h hhi hh1) h0 h1 h2 hc2) (v := .c (.sl (P.cellsOf e) n' f')) (KR.of_dr (φ := φ) hc1).1 (by simp [AV.keys, AC.keys, AC.keys0]) hst
      (fun hs'' s'' Pr'' φ'' a'' w'' q1 q2 q3 => ha _ _ _ _ _ _ q1 q2 (k1.1.trans q3))
    ·exact hst.elim
   ·exact hst.elim
  ·exact hst.elim
 ·rename_i k wd n n' hs' hxv
  split at hst
  ·rename_i lo2 hh w2 m f z hh1 hb
   split at hst
   ·rename_i hwd
    subst hwd
    obtain ⟨⟨h0, h1, h2⟩, hst⟩ := hst
    obtain ⟨hv, hk2⟩ := ev_sound h hx hxv
    have hlo' : lo = none := by
     cases lo with
     | none => rfl
     | some y => simp [cOo] at hlo
    rcases hv.own_inv h hb with ⟨hf, he, rfl, _, _⟩ | ⟨b, arr, T, cap, hf, he, hn, hcap, hhp, hB⟩
    ·have hr := run none 0 0 0 hh he (.inl ⟨hlo', rfl⟩) (bnd_sound h hhi hh1) (Int.le_refl _) h0 h1 (Nat.le_refl _)
     have e1 : n' = 0 := by omega
     subst e1
     rw [show hh.toNat = 0 by omega] at hr
     exact fin_value h hd hr (v := .c (.own k (P.cellsOf e) 0 0)) (by simp; exact .mkOwnNil hf) (by simpa [AV.keys, AC.keys, AC.keys0] using hk2) hst ha
    ·have hr := run _ n cap 0 hh he (.inl ⟨hlo', rfl⟩) (bnd_sound h hhi hh1) (Int.le_refl _) h0 h1 hn
     have e2 : (if cap = Int.toNat 0 then some (⟨b, 0 * P.cellsOf e, none⟩ : Addr) else (some (⟨b, 0 * P.cellsOf e, none⟩ : Addr)).map (·.add (Int.toNat 0 * P.cellsOf e))) = some ⟨b, 0 * P.cellsOf e, none⟩ := by
      simp [Addr.add]
     rw [e2, show hh.toNat - Int.toNat 0 = n' by simp; omega] at hr
     exact fin_value h hd hr (v := .c (.own k (P.cellsOf e) 0 n')) (.mkOwn hf (by simp; omega) (by simp only [bsize, hhp]; simpa using hcap)) (by simpa [AV.keys, AC.keys, AC.keys0] using hk2) hst ha
   ·exact hst.elim
  ·rename_i y2 hh w2 m f z hh1 hb
   split at hst
   ·rename_i l hl1
    split at hst
    ·rename_i hwd
     subst hwd
     obtain ⟨⟨h0, h1, h2, h3⟩, hst⟩ := hst
     obtain ⟨hv, hk2⟩ := ev_sound h hx hxv
     rcases hv.own_inv h hb with ⟨hf, he, rfl, _, _⟩ | ⟨b, arr, T, cap, hf, he, hn, hcap, hhp, hB⟩
     ·omega
     ·have hr := run _ n cap l hh he (bnd_sound h hlo hl1) (bnd_sound h hhi hh1) h0 (by omega) h2 hn
      rw [if_neg (show ¬ cap = l.toNat by omega), Option.map_some, Addr.add_flat, Nat.zero_mul, Nat.zero_add, show hh.toNat - l.toNat = n' by omega] at hr
      exact fin_value h hd hr (v := .c (.own k (P.cellsOf e) l.toNat n')) (.mkOwn hf (by omega) (by simp only [bsize, hhp]; rw [show l.toNat + (cap - l.toNat) = cap by omega]; simpa using hcap)) (by simpa [AV.keys, AC.keys, AC.keys0] using hk2) hst ha
    ·exact hst.elim
   ·exact hst.elim
  ·exact hst.elim
 ·exact hst.elim
end
section
variable {P : Program} {gl : Nat → Option (List AC)} {N : Nat} {w0 : Wk} {Pr : PrT} {φ : Nat → Option (Option Nat)} {s : St} {a : Act} {w : World}
 {o : Oper} {hs : List Hint} {K : List Hint → St → Prop} {next : Act → World → Prop} {Q : Exit → Act → World → Prop}
structure News (Pr : PrT) (w : World) (wd m : Nat) (g : Nat → List AC) (ad : Addr) (news : List Value) : Prop where
 len : news.length = m * wd
 cell : ∀ (j : Nat) u, news[j]? = some u → w.cell? (ad.add j) = some u
 el : ∀ i, i < m → (g i).length = wd ∧ ∀ (j : Nat) c, (g i)[j]? = some c → ∃ u, news[i * wd + j]? = some u ∧ DR Pr w c u
 one : ∀ u ∈ news, u.oneCell' = true
theorem News.of_ex {wd m : Nat} {g : Nat → List AC} {ad : Addr} (hw : 0 < wd) (hl : ∀ i, i < m → (g i).length = wd)
  (hr : ∀ (i j : Nat) c, i < m → (g i)[j]? = some c → ∃ y, w.cell? (ad.add (i * wd + j)) = some y ∧ DR Pr w c y) : ∃ news, News Pr w wd m g ad news := by
 have hall : ∀ r, r < m * wd → ∃ c y, (g (r / wd))[r % wd]? = some c ∧ w.cell? (ad.add r) = some y ∧ DR Pr w c y := by
  intro r hrr
  have h1 : r / wd < m := Nat.div_lt_of_lt_mul (by rw [Nat.mul_comm]; exact hrr)
  have h2 : r % wd < wd := Nat.mod_lt _ hw
  have h3 : (g (r / wd))[r % wd]? = some ((g (r / wd))[r % wd]'(by rw [hl _ h1]; exact h2)) := List.getElem?_eq_getElem _
  obtain ⟨y, h4, h5⟩ := hr _ _ _ h1 h3
  rw [Nat.div_add_mod' r wd] at h4
  exact ⟨_, y, h3, h4, h5⟩
 refine ⟨(List.range (m * wd)).map fun j => (w.cell? (ad.add j)).getD undef, by simp, fun j u hu => ?_, fun i hi => ⟨hl i hi, fun j c hc => ?_⟩, fun u hu => ?_⟩
 ·rw [List.getElem?_map, Option.map_eq_some_iff] at hu
  obtain ⟨q, hq, rfl⟩ := hu
  have hlt : j < m * wd := by have := (List.getElem?_eq_some_iff.1 hq).1; simpa using this
  rw [List.getElem?_range hlt] at hq; cases hq
  obtain ⟨c, y, _, h2, _⟩ := hall j hlt
  rw [h2]; rfl
 ·obtain ⟨y, h1, h2⟩ := hr i j c hi hc
  have hj : j < wd := by rw [← hl i hi]; exact (List.getElem?_eq_some_iff.1 hc).1
  have hlt : i * wd + j < m * wd := by
   have : (i + 1) * wd ≤ m * wd := Nat.mul_le_mul_right _ hi
   rw [Nat.add_mul] at this; omega
  exact ⟨y, by rw [List.getElem?_map, List.getElem?_range hlt]; simp [h1], h2⟩
 ·obtain ⟨q, hq, rfl⟩ := List.mem_map.1 hu
  obtain ⟨c, y, _, h2, h3⟩ := hall q (List.mem_range.1 hq)
  rw [h2]; exact h3.one
theorem elemsB.out {s : St} {v : AV} {Q : Prop} (h : elemsB s v Q) : Q := by
 unfold elemsB at h
 split at h
 ·split at h
  ·exact h.2
  ·exact h.elim
 ·exact h
theorem elemsB.map {s : St} {v : AV} {Q Q2 : Prop} (f : Q → Q2) (h : elemsB s v Q) : elemsB s v Q2 := by
 cases v with
 | c x =>
  cases x
  case own k wd off len =>
   simp only [elemsB] at h ⊢
   cases hb : s.h k with
   | none => rw [hb] at h; exact h.elim
   | some b =>
    rw [hb] at h
    cases b with
    | var cs z => exact h.elim
    | arr wd n g z => exact ⟨h.1, f h.2⟩
  all_goals exact f h
 | agg xs => exact f h
 | tup xs => exact f h
theorem elems_sound (h : Sim gl N w0 Pr φ s a w) {k0 : Option Nat} {v : AV} {x : Value} {wd m : Nat} {g : Nat → List AC} {Q : Prop} (hw : 0 < wd) (hBd : elemsB s v Q) (he : elemsOf s k0 v = some (wd, m, g)) (hv : VR (KR Pr φ w) v x) :
  (m = 0 ∧ x = .slice none 0 0) ∨ ∃ ad mc news, x = .slice (some ad) m mc ∧ News Pr w wd m g ad news := by
 unfold elemsOf at he
 split at he
 ·rename_i wd' n f
  cases he
  rcases hv.sl_inv with ⟨h1, h2⟩ | ⟨ad, cap, h1, _, _, h2, h3⟩
  ·exact .inl ⟨h1, h2⟩
  ·obtain ⟨news, hn⟩ := News.of_ex (Pr := Pr) (w := w) (ad := ad) hw h2 (fun i j c hi hj => (h3 i j c hi hj).2)
   exact .inr ⟨ad, cap, news, h1, hn⟩
 ·rename_i wd' n f
  cases he
  have hv' : VR (KR Pr φ w) (.c (.sl wd m g)) x := by
   have h1 : DR Pr w (.ns (.sl wd m g)) x := hv
   cases h1 with
   | ns _ _ h2 _ => exact (KR.of_dr (φ := φ) h2).1
  rcases hv'.sl_inv with ⟨h1, h2⟩ | ⟨ad, cap, h1, _, _, h2, h3⟩
  ·exact .inl ⟨h1, h2⟩
  ·obtain ⟨news, hn⟩ := News.of_ex (Pr := Pr) (w := w) (ad := ad) hw h2 (fun i j c hi hj => (h3 i j c hi hj).2)
   exact .inr ⟨ad, cap, news, h1, hn⟩
 ·rename_i k wd' off len
  split at he
  ·rename_i wd2 n f z hb
   split at he
   ·rename_i hwd
    subst hwd
    split at he
    ·cases he
    ··have hle : pl off len ≤ n := by
       simp only [elemsB, hb] at hBd; exact hBd.1
      cases he
      have hff : ∀ i, shf f off i = f (off + i) := fun i => by cases off <;> simp [shf]
      have hpl : pl off m = off + m := by cases off <;> simp [pl]
      rcases hv.own_inv h hb with ⟨_, h1, h2, _, _⟩ | ⟨b, arr, T, cap, hf, h1, hn, hcap, hh, hB⟩
      ·exact .inl ⟨h2, h1⟩
      ·obtain ⟨hw0, hB | ⟨b', arr', T', e1, hh', hnsz, hmx, hel⟩⟩ := hB
       ·cases hB.1
       ·cases e1
        rw [hh] at hh'
        cases hh'
        obtain ⟨news, hn⟩ := News.of_ex (Pr := Pr) (w := w) (g := shf f off) (m := m) (ad := ⟨b, off * wd, none⟩) hw (fun i hi => by rw [hff]; exact (hel _ (by omega)).1) (fun i j c hi hj => by
         rw [hff] at hj
         obtain ⟨y, h3, h4⟩ := (hel _ (by omega)).2 j c hj
         exact ⟨y, by rw [Addr.add_flat, cell_flat hh, ← Nat.add_assoc, ← Nat.add_mul]; exact h3, h4⟩)
        exact .inr ⟨_, cap, news, h1, hn⟩
   ·cases he
  ·cases he
 ·cases he
theorem run_app_room {t ty e : TypeId} (ht : P.underlying t = some (.slice e)) (hi : (P.info? e).isSome = true) {T : TypeId}
  {g sLen sCap : Nat} {cur : Array Value} (hg : w.heap[g]? = some (.cells cur T (0, 0)))
  {ad : Addr} {m c : Nat} {news : List Value} (hl : news.length = m * P.cellsOf e) (hnews : ∀ (j : Nat) u, news[j]? = some u → w.cell? (ad.add j) = some u) (h1 : ∀ u ∈ news, u.oneCell' = true)
  (hroom : sLen + m ≤ sCap) (hfit : sLen * P.cellsOf e + news.length ≤ cur.size) :
  (Builtin.append_ #[t, t] ty #[.slice (some ⟨g, 0, none⟩) sLen sCap, .slice (some ad) m c]).run P w =
   .ok (.slice (some ⟨g, 0, none⟩) (sLen + m) sCap) (w.setRow g (cur.toList.take (sLen * P.cellsOf e) ++ news ++ cur.toList.drop (sLen * P.cellsOf e + news.length)).toArray) := by
 have hf := run_firstCells_some (P := P) w (P.cellsOf e) m ad m c news hl hnews
 have hst := run_storeCells_at P g (sLen * P.cellsOf e) T news 0 cur w hg (by simpa using hfit) h1
 simp only [Nat.add_zero] at hst
 simp [Builtin.append_, run_underlying ht, run_size hi, Builtin.lenOf, hroom, hf, Addr.add_lit, hst]
theorem run_app_none {t ty e : TypeId} (ht : P.underlying t = some (.slice e)) (hi : (P.info? e).isSome = true) {b : Option Addr} {n c : Nat} (h : n ≤ c) :
  (Builtin.append_ #[t, t] ty #[.slice b n c, .slice none 0 0]).run P w = .ok (.slice b n c) w := by
 cases b <;> simp [Builtin.append_, run_underlying ht, run_size hi, Builtin.lenOf, h, Builtin.firstCells, storeCells]
theorem run_app_nil0 {t ty e : TypeId} (ht : P.underlying t = some (.slice e)) (hi : (P.info? e).isSome = true) {ad : Addr} {c : Nat} :
  (Builtin.append_ #[t, t] ty #[.slice none 0 0, .slice (some ad) 0 c]).run P w = .ok (.slice none 0 0) w := by
 simp [Builtin.append_, run_underlying ht, run_size hi, Builtin.lenOf, Builtin.firstCells, loadCells, loadCellsFrom]
theorem fin_rowAt {k wd n cap : Nat} {f : Nat → List AC} {arr : Array Value} {T : TypeId} {ws : World} (h : Sim gl N w0 Pr φ s a w) (hd : ∀ t, o.dst = some t → t < N) (hk : s.u.elem k = false) (hkN : k < N)
  (hrun : (execOp a.eval o).run P ws = .ok (.value (.slice (some ⟨w.heap.size, 0, none⟩) n cap)) (w.alloc (.cells arr T))) (hc : n ≤ cap) (hz : cap * wd ≤ arr.size)
  (hfit : Fits Pr φ w s.u arr (.arr wd n f false)) (hK : K hs ((s.al k (.arr wd n f false)).pu o.dst (.c (.own k wd 0 n)))) (ha : After gl N w0 Pr K next) : o.wp P a ws next Q := by
 obtain ⟨φ', hf, hsim⟩ := h.al (T := T) hk hkN (arr := arr) (blk := .arr wd n f false) rfl hfit
 unfold Oper.wp
 rw [hrun]
 have hnew : (w.alloc (.cells arr T)).heap[w.heap.size]? = some (.cells arr T (0, 0)) := by
  show (w.heap.push _)[w.heap.size]? = _
  simp
 have hv : VR (KR Pr φ' (w.alloc (.cells arr T))) (.c (.own k wd 0 n)) (.slice (some ⟨w.heap.size, 0 * wd, none⟩) n cap) := .mkOwn hf hc (by simp only [bsize, hnew, Nat.zero_add]; exact hz)
 rw [Nat.zero_mul] at hv
 exact ha _ _ _ _ _ _ hK (hsim.pu hd hv (by simp [AV.keys, AC.keys, AC.keys0, St.al])) (PrS.refl _ _)
theorem Sim.drew (h : Sim gl N w0 Pr φ s a w) : Sim gl N w0 Pr φ s a w.drew := h.grow (Pr' := Pr) (Bel.of (Below.refl _ _).drew h.ex.th) (.refl _) fun b y => ⟨h.pr b y, fun _ => y⟩
theorem News.drew {wd m : Nat} {g : Nat → List AC} {ad : Addr} {news : List Value} (h : News Pr w wd m g ad news) : News Pr w.drew wd m g ad news :=
 ⟨h.len, h.cell, fun i hi => ⟨(h.el i hi).1, fun j c hc => by obtain ⟨u, h1, h2⟩ := (h.el i hi).2 j c hc; exact ⟨u, h1, h2.mono (.refl _) fun _ _ => rfl⟩⟩, h.one⟩
theorem fits_grown {wd n len m n' : Nat} {f f' g : Nat → List AC} {ad : Addr} {news olds : List Value} {rest : Array Value} {u : List Nat} {cap : Nat} (hw : 0 < wd) (hlen : len ≤ n) (hn' : n' = len + m) (hN : News Pr w wd m g ad news)
  (hol : olds.length = len * wd) (hold : ∀ i, i < len → (f i).length = wd ∧ ∀ (j : Nat) c, (f i)[j]? = some c → ∃ v, olds[i * wd + j]? = some v ∧ DR Pr w c v)
  (h1 : ∀ i, i < len → f' i = f i) (h2 : ∀ j, j < m → f' (len + j) = g j) (hsz : (olds.toArray ++ news.toArray ++ rest).size = cap * wd) (hcap : cap ≤ maxLen) :
  Fits Pr φ w u (olds.toArray ++ news.toArray ++ rest) (.arr wd n' f' false) := by
 have hget : ∀ r, r < (len + m) * wd → (olds.toArray ++ news.toArray ++ rest)[r]? = if r < len * wd then olds[r]? else news[r - len * wd]? := by
  intro r hr
  rw [Nat.add_mul] at hr
  by_cases hlt : r < len * wd
  ·rw [if_pos hlt, Array.getElem?_append_left (by simp [hol]; omega), Array.getElem?_append_left (by simp [hol]; omega)]; simp
  ·rw [if_neg hlt, Array.getElem?_append_left (by simp [hol, hN.len]; omega), Array.getElem?_append_right (by simp [hol]; omega)]; simp [hol]
 refine ⟨hw, ?_, by rw [hsz]; exact Nat.mul_le_mul_right _ hcap, fun i hi => ?_⟩
 ·rw [hn', Nat.add_mul]; simp [hol, hN.len]
 ·have hrow : ∀ j, j < wd → i * wd + j < (len + m) * wd := by
   intro j hj
   have : (i + 1) * wd ≤ (len + m) * wd := Nat.mul_le_mul_right _ (by omega)
   rw [Nat.add_mul] at this; omega
  by_cases hil : i < len
  ·rw [h1 i hil]
   refine ⟨(hold i hil).1, fun j c hc => ?_⟩
   obtain ⟨v, h5, h6⟩ := (hold i hil).2 j c hc
   have hj : j < wd := by rw [← (hold i hil).1]; exact (List.getElem?_eq_some_iff.1 hc).1
   have hlt : i * wd + j < len * wd := by
    have : (i + 1) * wd ≤ len * wd := Nat.mul_le_mul_right _ hil
    rw [Nat.add_mul] at this; omega
   exact ⟨v, by rw [hget _ (hrow j hj), if_pos hlt]; exact h5, h6⟩
  ·obtain ⟨q, rfl⟩ : ∃ q, i = len + q := ⟨i - len, by omega⟩
   rw [h2 q (by omega)]
   refine ⟨(hN.el q (by omega)).1, fun j c hc => ?_⟩
   obtain ⟨v, h5, h6⟩ := (hN.el q (by omega)).2 j c hc
   have hj : j < wd := by rw [← (hN.el q (by omega)).1]; exact (List.getElem?_eq_some_iff.1 hc).1
   refine ⟨v, ?_, h6⟩
   rw [hget _ (hrow j hj), if_neg (by rw [Nat.add_mul]; omega), show (len + q) * wd + j - len * wd = q * wd + j by rw [Nat.add_mul]; omega]
   exact h5
theorem take_rows {wd n len : Nat} {f : Nat → List AC} {arr : Array Value} (hlen : len ≤ n) (hsz : n * wd ≤ arr.size)
  (hel : ∀ i, i < n → (f i).length = wd ∧ ∀ (j : Nat) (c : AC), (f i)[j]? = some c → ∃ v, arr[i * wd + j]? = some v ∧ DR Pr w c v) :
  (arr.toList.take (len * wd)).length = len * wd ∧ ∀ i, i < len → (f i).length = wd ∧ ∀ (j : Nat) c, (f i)[j]? = some c → ∃ v, (arr.toList.take (len * wd))[i * wd + j]? = some v ∧ DR Pr w c v := by
 have h1 : len * wd ≤ n * wd := Nat.mul_le_mul_right _ hlen
 refine ⟨by rw [List.length_take, Array.length_toList]; omega, fun i hi => ⟨(hel i (by omega)).1, fun j c hc => ?_⟩⟩
 obtain ⟨v, h2, h3⟩ := (hel i (by omega)).2 j c hc
 have hj : j < wd := by rw [← (hel i (by omega)).1]; exact (List.getElem?_eq_some_iff.1 hc).1
 have hlt : i * wd + j < len * wd := by
  have : (i + 1) * wd ≤ len * wd := Nat.mul_le_mul_right _ hi
  rw [Nat.add_mul] at this; omega
 exact ⟨v, by rw [List.getElem?_take_of_lt hlt]; simpa using h2, h3⟩
theorem step_app {c : Call} {x y : Operand} {x' y' : Opd} {t e : TypeId} {z : List AC} (ho : o.op = .call c) (hc : c.callee = .builtin .append) (hxs : c.args = #[x, y]) (hts : c.argTypes = #[t, t])
  (hx : cO x = some x') (hy : cO y = some y') (hu : P.underlying t = some (.slice e)) (hz : zeroC P e = some z) (hcel : P.cellsOf e ≠ 0) (hby : P.bytesOf e ≤ 1024) (hzl : z.length = P.cellsOf e)
  (h : Sim gl N w0 Pr φ s a w) (hd : ∀ t, o.dst = some t → t < N) (hst : Step P gl o.dst (.app (P.cellsOf e) (P.bytesOf e) x' y') hs s K) (ha : After gl N w0 Pr K next) : o.wp P a w next Q := by
 have hw : 0 < P.cellsOf e := by omega
 have hi2 := info_of_cells hcel
 obtain ⟨zv, hr, hcs, ti, hi, hiz⟩ := run_zero (Pr := Pr) (w := w) hz
 have hvs : zv.cells.size = P.cellsOf e := by rw [← Array.length_toList, hcs.1, hzl]
 have hcell : ti.size = P.cellsOf e := by simp [Program.cellsOf, hi]
 have hbytes : ti.bytes = P.bytesOf e := by simp [Program.bytesOf, hi]
 have hrun : ∀ v w1, (Builtin.append_ #[t, t] o.type #[a.eval x, a.eval y]).run P w = .ok v w1 → (execOp a.eval o).run P w = .ok (.value v) w1 := by
  intro v w1 hr
  unfold execOp
  simp only [ho, resolve, hc, hxs, hts, invoke, builtin, Sem.run_bind, Sem.run_pure, Result.andThen_ok, List.map_toArray, List.map_cons, List.map_nil, hr]
 have hmul : ∀ q, q ≤ LIM → q * ti.bytes ≤ 140737488355328 := by
  intro q hq
  have : q * ti.bytes ≤ 68719476736 * 1024 := Nat.mul_le_mul hq (by omega)
  omega
 have hmx : ∀ q, q ≤ LIM → q ≤ maxLen := by intro q hq; unfold LIM at hq; unfold maxLen; omega
 have fresh : ∀ {s1 : St} {φ1 : Nat → Option (Option Nat)} {kd m n' : Nat} {f' g : Nat → List AC} {ad : Addr} {mc : Nat} {news : List Value} {hs' : List Hint}, Sim gl N w0 Pr φ1 s1 a w → o.dst = some kd → s1.u.elem kd = false → 0 < m → n' = m → n' ≤ LIM → (∀ j, j < m → f' j = g j) →
   a.eval x = .slice none 0 0 → a.eval y = .slice (some ad) m mc → News Pr w (P.cellsOf e) m g ad news → K hs' ((s1.al kd (.arr (P.cellsOf e) n' f' false)).pu o.dst (.c (.own kd (P.cellsOf e) 0 n'))) → o.wp P a w next Q := by
  intro s1 φ1 kd m n' f' g ad mc news hs' hsim hk hke hm hnm hlim hf' hex hey hN hK
  have h63 := hmx n' hlim
  have h48 := hmul n' hlim
  have hr1 := run_append_nil (P := P) w t o.type e ti zv hu hi hiz ad m mc news (by rw [hcell]; exact hN.len) hN.cell hm (by unfold maxLen at h63; omega) (by rw [← hnm]; omega)
  have hge : m ≤ grownCap w m 0 e := grownCap_ge w m 0 e
  have hcm : grownCap w m 0 e ≤ maxLen := grownCap_le_maxLen w m 0 e (by omega)
  subst hnm
  have hsz : (#[] ++ news.toArray ++ Builtin.zeroCells zv.cells (grownCap w n' 0 e - n')).size = grownCap w n' 0 e * P.cellsOf e := by
   simp only [Array.empty_append, Array.size_append, List.size_toArray, size_zeroCells, hvs, hN.len, ← Nat.add_mul]; congr 1; omega
  have hfit := fits_grown (φ := φ1) (Pr := Pr) (w := w.drew) (u := s1.u) (n := 0) (len := 0) (m := n') (n' := n') (f := fun _ => []) (f' := f') (g := g) (olds := []) hw (Nat.le_refl _) (by omega) hN.drew (by simp) (fun i hi => absurd hi (by omega)) (fun i hi => absurd hi (by omega)) (fun j hj => by rw [Nat.zero_add]; exact hf' j hj) hsz hcm
  refine fin_rowAt (w := w.drew) (ws := w) hsim.drew hd hke (hd _ hk) (cap := grownCap w n' 0 e) (T := e) (hrun _ _ ?_) hge (by rw [hsz]; exact Nat.le_refl _) hfit hK ha
  rw [hex, hey, hr1]
  simp
 simp only [Step] at hst
 split at hst
 ·rename_i kd k wd len yv n' f' hs' hk hxv hyv
  split at hst
  ·rename_i wd2 n f wd3 m g hke hb hel
   split at hst
   ·rename_i hwd; subst hwd
    split at hst
    ·rename_i hwd; subst hwd
     split at hst
     ·rename_i hwd; subst hwd
      have hBd := hst
      replace hst := hst.out
      obtain ⟨⟨hln, hn', hlim⟩, hf1, hf2, hst⟩ := hst
      obtain ⟨hv, hk2⟩ := ev_sound h hx hxv
      have hY := elems_sound h hw hBd hel (ev_sound h hy hyv).1
      rw [hk] at hst
      have hke1 : (s.dr k).u.elem kd = false := hke
      rcases hv.own_inv h hb with ⟨hf, hex, rfl, _, hB⟩ | ⟨b, arr, T, cap, hf, hex, hn, hcap, hh, hB⟩
      ·
       have hn0 : n = 0 := by
        obtain ⟨_, hB | ⟨b, _, _, hcon, _⟩⟩ := hB
        ·exact hB.2
        ·cases hcon
       rcases Nat.eq_zero_or_pos m with hm | hm
       ·have hrr : (Builtin.append_ #[t, t] o.type #[a.eval x, a.eval y]).run P w = .ok (.slice none 0 0) w := by
         rcases hY with ⟨_, hey⟩ | ⟨ad, mc, news, hey, _⟩
         ·rw [hex, hey]; exact run_app_none hu hi2 (Nat.le_refl _)
         ·rw [hex, hey, hm]; exact run_app_nil0 hu hi2
        have e0 : n' = 0 := by omega
        subst e0
        have hs2 := (h.drop k).alnil (k := kd) (f := f') hke1 (.inr (hd _ hk)) hw
        unfold Oper.wp
        rw [hrun _ _ hrr]
        show next (a.put o.dst _) _
        rw [← hk] at hst
        exact ha _ _ _ _ _ _ hst (hs2.pu hd (v := .c (.own kd (P.cellsOf e) 0 0)) (.mkOwnNil (by simp)) (by simp [AV.keys, AC.keys, AC.keys0, St.al])) (PrS.refl _ _)
       ·rcases hY with ⟨h0, _⟩ | ⟨ad, mc, news, hey, hN⟩
        ·omega
        ·exact fresh (f' := f') (h.drop k) hk hke1 hm (by omega) hlim (fun j hj => by have := hf2 j hj; rw [Nat.zero_add] at this; exact this) hex hey hN (by rw [hk]; exact hst)
      ·obtain ⟨_, hB | ⟨b', arr', T', e1, hh', hnsz, hamx, hel2⟩⟩ := hB
       ·cases hB.1
       ·cases e1
        rw [hh] at hh'
        cases hh'
        have hcsz : cap * P.cellsOf e ≤ arr.size := by simpa using hcap
        rw [show (⟨b, 0 * P.cellsOf e, none⟩ : Addr) = ⟨b, 0, none⟩ by simp] at hex
        by_cases hroom : len + m ≤ cap
        ·
         have key : ∃ news : List Value, news.length = m * P.cellsOf e ∧ (Builtin.append_ #[t, t] o.type #[a.eval x, a.eval y]).run P w = .ok (.slice (some ⟨b, 0, none⟩) n' cap) (w.setRow b (arr.toList.take (len * P.cellsOf e) ++ news ++ arr.toList.drop (len * P.cellsOf e + news.length)).toArray) ∧
           ∀ i, i < m → (g i).length = P.cellsOf e ∧ ∀ (j : Nat) c, (g i)[j]? = some c → ∃ u, news[i * P.cellsOf e + j]? = some u ∧ DR Pr w c u := by
          rcases hY with ⟨hm0, hey⟩ | ⟨ad, mc, news, hey, hN⟩
          ·refine ⟨[], by simp [hm0], ?_, fun i hi => absurd hi (by omega)⟩
           rw [hex, hey, run_app_none hu hi2 hn, hn', hm0]
           simp only [List.append_nil, List.length_nil, Nat.add_zero, List.take_append_drop, Array.toArray_toList]
           rw [setRow_self w b arr T (0, 0) hh]
          ·have hfit : len * P.cellsOf e + news.length ≤ arr.size := by
            rw [hN.len, ← Nat.add_mul]
            exact Nat.le_trans (Nat.mul_le_mul_right _ hroom) hcsz
           exact ⟨news, hN.len, by rw [hex, hey, run_app_room hu hi2 hh hN.len hN.cell hN.one hroom hfit, hn'], hN.el⟩
         obtain ⟨news, hnl, hrr, hnel⟩ := key
         have hfz : (Blk.arr (P.cellsOf e) n f false).fz = false := rfl
         have hfitl : len * P.cellsOf e + news.length ≤ arr.toList.length := by
          rw [hnl, ← Nat.add_mul, Array.length_toList]
          exact Nat.le_trans (Nat.mul_le_mul_right _ hroom) hcsz
         have hsz : (arr.toList.take (len * P.cellsOf e) ++ news ++ arr.toList.drop (len * P.cellsOf e + news.length)).toArray.size = arr.size := by
          simp only [List.size_toArray, List.length_append, List.length_take, List.length_drop]
          have hL : arr.toList.length = arr.size := Array.length_toList
          omega
         have hFit : Fits Pr φ w s.u (arr.toList.take (len * P.cellsOf e) ++ news ++ arr.toList.drop (len * P.cellsOf e + news.length)).toArray (.arr (P.cellsOf e) n' f' false) := by
          refine ⟨hw, ?_, by rw [hsz]; exact hamx, fun i hi => ?_⟩
          ·rw [hsz, hn']; exact Nat.le_trans (Nat.mul_le_mul_right _ hroom) hcsz
          ·have hget : ∀ r, (arr.toList.take (len * P.cellsOf e) ++ news ++ arr.toList.drop (len * P.cellsOf e + news.length)).toArray[r]? = if len * P.cellsOf e ≤ r ∧ r < len * P.cellsOf e + news.length then news[r - len * P.cellsOf e]? else arr[r]? := by
            intro r
            rw [List.getElem?_toArray, splice_get _ _ _ _ hfitl]; simp
           by_cases hil : i < len
           ·rw [hf1 i hil]
            refine ⟨(hel2 i (by omega)).1, fun j c hc => ?_⟩
            obtain ⟨v, h5, h6⟩ := (hel2 i (by omega)).2 j c hc
            have hj : j < P.cellsOf e := by rw [← (hel2 i (by omega)).1]; exact (List.getElem?_eq_some_iff.1 hc).1
            have hlt : i * P.cellsOf e + j < len * P.cellsOf e := by
             have : (i + 1) * P.cellsOf e ≤ len * P.cellsOf e := Nat.mul_le_mul_right _ hil
             rw [Nat.add_mul] at this; omega
            exact ⟨v, by rw [hget, if_neg (by omega)]; exact h5, h6⟩
           ·obtain ⟨q, rfl⟩ : ∃ q, i = len + q := ⟨i - len, by omega⟩
            rw [hf2 q (by omega)]
            refine ⟨(hnel q (by omega)).1, fun j c hc => ?_⟩
            obtain ⟨v, h5, h6⟩ := (hnel q (by omega)).2 j c hc
            have hj : j < P.cellsOf e := by rw [← (hnel q (by omega)).1]; exact (List.getElem?_eq_some_iff.1 hc).1
            have hlt : q * P.cellsOf e + j < m * P.cellsOf e := by
             have : (q + 1) * P.cellsOf e ≤ m * P.cellsOf e := Nat.mul_le_mul_right _ (by omega)
             rw [Nat.add_mul] at this; omega
            refine ⟨v, ?_, h6⟩
            rw [hget, if_pos (by rw [Nat.add_mul, hnl]; omega), show (len + q) * P.cellsOf e + j - len * P.cellsOf e = q * P.cellsOf e + j by rw [Nat.add_mul]; omega]
            exact h5
         have hs1 := h.wr hb hf hfz (blk' := .arr (P.cellsOf e) n' f' false) rfl hh hsz hFit
         have hs2 := hs1.rn (k := k) (kd := kd) (blk := .arr (P.cellsOf e) n' f' false) (by simp [St.sh, nbt]) hke (hd _ hk)
         unfold Oper.wp
         rw [hrun _ _ hrr]
         show next (a.put o.dst _) _
         rw [← hk] at hst
         have hne : k ≠ kd := fun e => not_mem_of_elem hke (e ▸ h.ku k (by rw [hb]; simp))
         have hnew := setRow_heap w b arr (arr.toList.take (len * P.cellsOf e) ++ news ++ arr.toList.drop (len * P.cellsOf e + news.length)).toArray T (0, 0) hh
         have hval : VR (KR Pr (fun j => if j = kd then φ k else if j = k then none else φ j) (w.setRow b (arr.toList.take (len * P.cellsOf e) ++ news ++ arr.toList.drop (len * P.cellsOf e + news.length)).toArray)) (.c (.own kd (P.cellsOf e) 0 n')) (.slice (some ⟨b, 0 * P.cellsOf e, none⟩) n' cap) :=
          .mkOwn (by simp [hf]) (by omega) (by simp only [bsize, hnew]; rw [hsz]; simpa using hcsz)
         rw [show (⟨b, 0 * P.cellsOf e, none⟩ : Addr) = ⟨b, 0, none⟩ by simp] at hval
         have hst2 : ((s.sh k (.arr (P.cellsOf e) n' f' false)).dr k).al kd (.arr (P.cellsOf e) n' f' false) = (s.dr k).al kd (.arr (P.cellsOf e) n' f' false) := by
          simp only [St.sh, St.dr, St.al]
          congr 1
          funext j
          cases hj : Nat.beq j kd <;> simp
          cases hj2 : Nat.beq j k <;> simp
         rw [hst2] at hs2
         exact ha _ _ _ _ _ _ hst (hs2.pu hd hval (by simp [AV.keys, AC.keys, AC.keys0, St.al])) (PrS.refl _ _)
        ·
         rcases hY with ⟨hm0, _⟩ | ⟨ad, mc, news, hey, hN⟩
         ·omega
         ·have h63 := hmx n' hlim
          have h48 := hmul n' hlim
          obtain ⟨hol, hold⟩ := take_rows (Pr := Pr) (w := w) (len := len) hln hnsz hel2
          have hgc : cap < len + m := by omega
          have hr1 := run_append_grow (P := P) w t o.type e ti zv hu hi hiz ⟨b, 0, none⟩ len cap (arr.toList.take (len * P.cellsOf e)) (by rw [hcell]; exact hol) (fun j v hv => by
           rw [Addr.add_flat, cell_flat hh, Nat.zero_add]
           have hlt : j < len * P.cellsOf e := by rw [← hol]; exact (List.getElem?_eq_some_iff.1 hv).1
           rw [List.getElem?_take_of_lt hlt] at hv
           simpa using hv) ad m mc news (by rw [hcell]; exact hN.len) hN.cell hgc (by unfold maxLen at h63; omega) (growslice_fits (by omega) (by rw [← hn']; exact h48))
          have hge : len + m ≤ grownCap w (len + m) cap e := grownCap_ge w _ cap e
          have hcm : grownCap w (len + m) cap e ≤ maxLen := grownCap_le_maxLen w _ cap e (by omega)
          have hsz : ((arr.toList.take (len * P.cellsOf e)).toArray ++ news.toArray ++ Builtin.zeroCells zv.cells (grownCap w (len + m) cap e - (len + m))).size = grownCap w (len + m) cap e * P.cellsOf e := by
           simp only [Array.size_append, List.size_toArray, size_zeroCells, hvs, hN.len, hol, ← Nat.add_mul]; congr 1; omega
          have hfit := fits_grown (φ := fun j => if j = k then none else φ j) (Pr := Pr) (w := w.drew) (u := s.u) (n := n) (len := len) (m := m) (n' := n') (f := f) (f' := f') (g := g) hw hln hn' hN.drew hol (fun i hi => ⟨(hold i hi).1, fun j c hc => by
           obtain ⟨v, h5, h6⟩ := (hold i hi).2 j c hc; exact ⟨v, h5, h6.mono (.refl _) fun _ _ => rfl⟩⟩) hf1 hf2 hsz hcm
          refine fin_rowAt (w := w.drew) (ws := w) (h.drop k).drew hd hke1 (hd _ hk) (cap := grownCap w (len + m) cap e) (T := e) (hrun _ _ ?_) (by omega) (by rw [hsz]; exact Nat.le_refl _) hfit (by rw [hk]; exact hst) ha
          rw [hex, hey, hr1, hn']
          rfl
     ·exact hst.elim
    ·exact hst.elim
   ·exact hst.elim
  ·exact hst.elim
 ·rename_i kd yv n' f' hs' hk hxv hyv
  split at hst
  ·rename_i wd3 m g hke hel
   split at hst
   ·rename_i hwd; subst hwd
    have hBd := hst
    replace hst := hst.out
    obtain ⟨⟨hn', hlim⟩, hf2, hst⟩ := hst
    obtain ⟨hv, hk2⟩ := ev_sound h hx hxv
    have hex : a.eval x = .slice none 0 0 := by
     have h1' : DR Pr w .nil (a.eval x) := hv
     generalize a.eval x = y at h1' ⊢
     cases h1'; rfl
    have hY := elems_sound h hw hBd hel (ev_sound h hy hyv).1
    rw [hk] at hst
    rcases Nat.eq_zero_or_pos m with hm | hm
    ·have hrr : (Builtin.append_ #[t, t] o.type #[a.eval x, a.eval y]).run P w = .ok (.slice none 0 0) w := by
      rcases hY with ⟨_, hey⟩ | ⟨ad, mc, news, hey, _⟩
      ·rw [hex, hey]; exact run_app_none hu hi2 (Nat.le_refl _)
      ·rw [hex, hey, hm]; exact run_app_nil0 hu hi2
     have e0 : n' = 0 := by omega
     subst e0
     have hs2 := h.alnil (k := kd) (f := f') hke (.inr (hd _ hk)) hw
     unfold Oper.wp
     rw [hrun _ _ hrr]
     show next (a.put o.dst _) _
     rw [← hk] at hst
     exact ha _ _ _ _ _ _ hst (hs2.pu hd (v := .c (.own kd (P.cellsOf e) 0 0)) (.mkOwnNil (by simp)) (by simp [AV.keys, AC.keys, AC.keys0, St.al])) (PrS.refl _ _)
    ·rcases hY with ⟨h0, _⟩ | ⟨ad, mc, news, hey, hN⟩
     ·omega
     ·exact fresh h hk hke hm hn' hlim hf2 hex hey hN (by rw [hk]; exact hst)
   ·exact hst.elim
  ·exact hst.elim
 ·exact hst.elim
end
section
variable {P : Program} {gl : Nat → Option (List AC)} {N : Nat} {w0 : Wk} {Pr : PrT} {φ : Nat → Option (Option Nat)} {s : St} {a : Act} {w : World}
 {o : Oper} {hs : List Hint} {K : List Hint → St → Prop} {next : Act → World → Prop} {Q : Exit → Act → World → Prop}
theorem step_cpy {c : Call} {x y : Operand} {x' y' : Opd} {t t' e : TypeId} (ho : o.op = .call c) (hc : c.callee = .builtin .copy) (hxs : c.args = #[x, y]) (hts : c.argTypes = #[t, t'])
  (hx : cO x = some x') (hy : cO y = some y') (hu : P.underlying t = some (.slice e)) (hsz : (P.info? e).map (·.size) = some 1)
  (h : Sim gl N w0 Pr φ s a w) (hd : ∀ t, o.dst = some t → t < N) (hst : Step P gl o.dst (.cpy x' y') hs s K) (ha : After gl N w0 Pr K next) : o.wp P a w next Q := by
 have hrun : ∀ v w1, (Builtin.copy_ #[t, t'] o.type #[a.eval x, a.eval y]).run P w = .ok v w1 → (execOp a.eval o).run P w = .ok (.value v) w1 := by
  intro v w1 hr
  unfold execOp
  simp only [ho, resolve, hc, hxs, hts, invoke, builtin, Sem.run_bind, Sem.run_pure, Result.andThen_ok, List.map_toArray, List.map_cons, List.map_nil, hr]
 simp only [Step] at hst
 split at hst
 ·rename_i k off len v n' f' hs' hxv hyv
  split at hst
  ·rename_i n f m g hb hel
   have hBd := hst
   replace hst := hst.out
   obtain ⟨⟨h0, h1, h2⟩, h3, hst⟩ := hst
   obtain ⟨hv, hk2⟩ := ev_sound h hx hxv
   have hY := elems_sound h (by decide : 0 < 1) hBd hel (ev_sound h hy hyv).1
   have h1' : n' = min m len := h1
   rcases hv.own_inv h hb with ⟨_, _, rfl, _, _⟩ | ⟨b, arr, T, cap, hf, hex, hn, hcap, hh, hB⟩
   ·omega
   obtain ⟨hw0, hB | ⟨b', arr', T', e1, hh', hnsz, hmx, hel2⟩⟩ := hB
   ·cases hB.1
   cases e1
   rw [hh] at hh'
   cases hh'
   rcases hY with ⟨hm0, _⟩ | ⟨ad, mc, news, hey, hN⟩
   ·omega
   have hnl : news.length = m := by rw [hN.len, Nat.mul_one]
   rw [Nat.mul_one] at hex hnsz
   have htl : (news.take n').length = n' := by rw [List.length_take]; omega
   have hr := run_copy_row (P := P) w t t' o.type e b off len cap ad m mc arr T (news.take n') hu hsz hh (by rw [htl]; exact h1) (fun j u hj => hN.cell j u (by
     have hjn : j < n' := by rw [← htl]; exact (List.getElem?_eq_some_iff.1 hj).1
     rwa [List.getElem?_take_of_lt hjn] at hj)) (by rw [htl]; omega) (fun u hu' => hN.one u (List.mem_of_mem_take hu'))
   rw [htl] at hr
   unfold Oper.wp
   rw [hrun _ _ (by rw [hex, hey]; exact hr)]
   have hL : arr.toList.length = arr.size := Array.length_toList
   have hsim := h.wr (k := k) (b := b) (blk' := .arr 1 n f' false) hb hf rfl rfl hh (arr := (arr.toList.take off ++ news.take n' ++ arr.toList.drop (off + n')).toArray) (by
     simp only [List.size_toArray, List.length_append, List.length_take, List.length_drop, Array.length_toList, htl]; omega) ⟨hw0, by
     simp only [List.size_toArray, List.length_append, List.length_take, List.length_drop, Array.length_toList, htl]; omega, by
     simp only [List.size_toArray, List.length_append, List.length_take, List.length_drop, Array.length_toList, htl]; omega, fun i hi => by
     have hsp : ∀ r, (arr.toList.take off ++ news.take n' ++ arr.toList.drop (off + n')).toArray[r]? = if off ≤ r ∧ r < off + n' then (news.take n')[r - off]? else arr[r]? := fun r => by
      have := splice_get arr.toList (news.take n') off r (by rw [htl, hL]; omega)
      rw [htl] at this
      simpa using this
     rw [h3 i hi]
     by_cases hin : off ≤ i ∧ i < off + n'
     ·rw [if_pos hin]
      obtain ⟨q1, q2⟩ := hN.el (i - off) (by omega)
      refine ⟨q1, fun j c hc' => ?_⟩
      have hj : j = 0 := by have := (List.getElem?_eq_some_iff.1 hc').1; omega
      subst hj
      obtain ⟨u, u1, u2⟩ := q2 0 c hc'
      rw [Nat.mul_one, Nat.add_zero] at u1
      refine ⟨u, ?_, u2⟩
      rw [Nat.mul_one, Nat.add_zero, hsp, if_pos hin, List.getElem?_take_of_lt (by omega)]
      exact u1
     ·rw [if_neg hin]
      obtain ⟨q1, q2⟩ := hel2 i hi
      refine ⟨q1, fun j c hc' => ?_⟩
      have hj : j = 0 := by have := (List.getElem?_eq_some_iff.1 hc').1; omega
      subst hj
      obtain ⟨u, u1, u2⟩ := q2 0 c hc'
      rw [Nat.mul_one, Nat.add_zero] at u1
      refine ⟨u, ?_, u2⟩
      rw [Nat.mul_one, Nat.add_zero, hsp, if_neg hin]
      exact u1⟩
   exact ha _ _ _ _ _ _ hst (hsim.pu hd (v := .c (.int .i64 n')) (DR.int _ _) (by simp [AV.keys, AC.keys, AC.keys0])) (PrS.refl _ _)
  ·exact hst.elim
 ·exact hst.elim
end
theorem foldl_push (l : List UInt8) : ∀ s : ByteArray, (l.map fun b => (b.toNat : Int)).foldl (fun r n => r.push (UInt8.ofNat n.toNat)) s = ⟨(s.data.toList ++ l).toArray⟩ := by
 induction l with
 | nil => intro s; simp
 | cons b r ih =>
  intro s
  simp only [List.map_cons, List.foldl_cons, ih]
  simp [ByteArray.push, UInt8.ofNat_toNat]
section
variable {P : Program} {gl : Nat → Option (List AC)} {N : Nat} {w0 : Wk} {Pr : PrT} {φ : Nat → Option (Option Nat)} {s : St} {a : Act} {w : World}
 {o : Oper} {hs : List Hint} {K : List Hint → St → Prop} {next : Act → World → Prop} {Q : Exit → Act → World → Prop}
theorem step_b2s {src dst e : TypeId} {x : Operand} {x' : Opd} (ho : o.op = .convert src dst x) (hs1 : P.underlying src = some (.slice e)) (hs2 : P.underlying e = some (.int .u8)) (hs3 : P.underlying dst = some .string) (hx : cO x = some x')
  (h : Sim gl N w0 Pr φ s a w) (hd : ∀ t, o.dst = some t → t < N) (hst : Step P gl o.dst (.b2s x') hs s K) (ha : After gl N w0 Pr K next) : o.wp P a w next Q := by
 simp only [Step] at hst
 split at hst
 ·rename_i k n l hs' hxv
  obtain ⟨hv, _⟩ := ev_sound h hx hxv
  split at hst
  ·rename_i m f z hb
   obtain ⟨hnm, hl, hf, hst⟩ := hst
   have fin : (convert src dst (a.eval x)).run P w = .ok (.string ⟨l.toArray⟩) w → o.wp P a w next Q := fun hr =>
    fin_str h hd (by simp only [execOp, ho, Sem.run_bind, hr, Result.andThen_ok, Sem.run_pure]) hst ha
   rcases hv.own_inv h hb with ⟨hfk, hex, hn0, _, _⟩ | ⟨b, arr, T, cap, hfk, hex, hn, hcap, hh, hB⟩
   ·have : l = [] := List.eq_nil_of_length_eq_zero (by omega)
    subst this
    apply fin
    rw [hex, run_convert_bytes_string w src dst e none 0 0 hs1 hs2 hs3]
    rfl
   ·obtain ⟨_, hB | ⟨b', arr', T', e1, hh', hnsz, hamx, hel⟩⟩ := hB
    ·cases hB.1
    ·cases e1
     rw [hh] at hh'
     cases hh'
     apply fin
     rw [hex, run_convert_bytes_string w src dst e _ n cap hs1 hs2 hs3]
     have hcells : (loadCells (⟨b, 0 * 1, none⟩ : Addr) n).run P w = .ok ((l.map fun b => (b.toNat : Int)).map (Value.int .u8)).toArray w := by
      rw [run_loadCells w _ n (fun j => .int .u8 ((l.getD j 0).toNat : Int)) (fun j hj => by
       obtain ⟨h1, h2⟩ := hel j (by omega)
       rw [hf j hj] at h2
       obtain ⟨v, h3, h4⟩ := h2 0 _ rfl
       rw [Addr.add_flat, cell_flat hh, show 0 * 1 + j = j * 1 + 0 by omega, h3]
       cases h4; rfl)]
      congr 2
      apply List.ext_getElem?
      intro j
      by_cases hj : j < n
      ·rw [List.getElem?_map, List.getElem?_range hj]
       have hj' : j < l.length := by omega
       simp [List.getD, hj']
      ·rw [List.getElem?_eq_none (by simp; omega), List.getElem?_eq_none (by simp; omega)]
     rw [run_bytesToString w _ n cap _ hcells, foldl_push]
     rfl
  ·exact hst.elim
 ·exact hst.elim
theorem cOs_one {xs : Array Operand} {x' : Opd} (h : cOs xs = some [x']) : ∃ x, xs = #[x] ∧ cO x = some x' := by
 unfold cOs at h
 obtain ⟨l⟩ := xs
 simp only at h
 match l with
 | [] => simp at h
 | [x] => simp [Option.bind_eq_some_iff] at h; exact ⟨x, rfl, h⟩
 | x :: y :: r => simp [Option.bind_eq_some_iff] at h
theorem cOs_two {xs : Array Operand} {x' y' : Opd} (h : cOs xs = some [x', y']) : ∃ x y, xs = #[x, y] ∧ cO x = some x' ∧ cO y = some y' := by
 unfold cOs at h
 obtain ⟨l⟩ := xs
 simp only at h
 match l with
 | [] => simp at h
 | [x] => simp [Option.bind_eq_some_iff] at h
 | [x, y] => simp [Option.bind_eq_some_iff] at h; exact ⟨x, y, rfl, h.1, h.2⟩
 | x :: y :: z :: r => simp [Option.bind_eq_some_iff] at h
theorem comp_sound {io : Ins} (hc : compI P o = some io) (h : Sim gl N w0 Pr φ s a w) (hd : ∀ t, o.dst = some t → t < N) (hst : Step P gl o.dst io hs s K) (ha : After gl N w0 Pr K next) : o.wp P a w next Q := by
 cases hop : o.op <;> simp only [compI, hop, Option.bind_eq_bind, Option.bind_eq_some_iff, Option.map_eq_some_iff, reduceCtorEq] at hc
 case move x => obtain ⟨y, hy, rfl⟩ := hc; exact step_mv (.inl hop) hy h hd hst ha
 case nilCheck x => obtain ⟨y, hy, rfl⟩ := hc; exact step_nck hop hy h hd hst ha
 case assign x => obtain ⟨y, hy, rfl⟩ := hc; exact step_mv (.inr hop) hy h hd hst ha
 case pick c x y => obtain ⟨c', hc', x', hx', y', hy', hc⟩ := hc; cases hc; exact step_pick hop hc' hx' hy' h hd hst ha
 case binOp op t x y t' =>
  obtain ⟨x', hx', y', hy', hc⟩ := hc
  split at hc <;> first | cases hc | skip
  ·rename_i hu; exact step_bqe hop (.inl ⟨rfl, rfl⟩) hx' hy' hu h hd hst ha
  ·rename_i hu; exact step_bqe hop (.inr ⟨rfl, rfl⟩) hx' hy' hu h hd hst ha
  ·rename_i hu; obtain ⟨ks, hk, rfl⟩ := Option.map_eq_some_iff.1 hc; exact step_eqa hop (.inl ⟨rfl, rfl⟩) hx' hy' hu hk h hd hst ha
  ·rename_i hu; obtain ⟨ks, hk, rfl⟩ := Option.map_eq_some_iff.1 hc; exact step_eqa hop (.inr ⟨rfl, rfl⟩) hx' hy' hu hk h hd hst ha
  ·exact step_bin hop hx' hy' h hd hst ha
  ·exact step_bin hop hx' hy' h hd hst ha
  ·rename_i hu; split at hc <;> first | cases hc | skip
   exact step_isn hop (.inl ⟨rfl, rfl⟩) hx' hy' hu h hd hst ha
  ·rename_i hu; split at hc <;> first | cases hc | skip
   exact step_isn hop (.inr ⟨rfl, rfl⟩) hx' hy' hu h hd hst ha
 case unOp op t x =>
  cases op <;> simp only [Option.map_eq_some_iff, reduceCtorEq] at hc
  ·obtain ⟨x', hx', rfl⟩ := hc; exact step_neg hop hx' h hd hst ha
  ·obtain ⟨x', hx', rfl⟩ := hc; exact step_not hop hx' h hd hst ha
 case convert src dst x =>
  obtain ⟨x', hx', hc⟩ := hc
  split at hc <;> first | cases hc | skip
  ·rename_i h1 h2; exact step_conv hop h1 h2 hx' h hd hst ha
  ·rename_i h1 h2
   split at hc <;> first | cases hc | skip
   rename_i h3; exact step_b2s hop h1 h3 h2 hx' h hd hst ha
 case field t x i =>
  obtain ⟨x', hx', hc⟩ := hc
  split at hc <;> first | cases hc | skip
  rename_i fs hu
  split at hc <;> first | cases hc | skip
  rename_i f hf
  split at hc <;> first | cases hc | skip
  rename_i g hg
  split at hc <;> first | cases hc | skip
  rename_i hi; exact step_fld hop hx' hu hf hg hi h hd hst ha
 case fieldAddr t x i =>
  obtain ⟨x', hx', hc⟩ := hc
  split at hc <;> first | cases hc | skip
  rename_i fs hu
  split at hc <;> first | cases hc | skip
  rename_i f hf
  split at hc <;> first | cases hc | skip
  rename_i hi; exact step_fad hop hx' hu hf hi h hd hst ha
 case indexAddr t x i =>
  obtain ⟨x', hx', i', hi', hc⟩ := hc
  split at hc <;> first | cases hc | skip
  ·rename_i e hu
   split at hc <;> first | cases hc | skip
   rename_i hz; exact step_iad hop hx' hi' hu hz h hd hst ha
  ·rename_i n e hu
   split at hc <;> first | cases hc | skip
   rename_i hz; exact step_iar hop hx' hi' hu hz h hd hst ha
 case index t x i =>
  obtain ⟨x', hx', i', hi', hc⟩ := hc
  split at hc <;> first | cases hc | skip
  rename_i hu; exact step_ixs hop hx' hi' hu h hd hst ha
 case load t x =>
  obtain ⟨x', hx', hc⟩ := hc
  split at hc <;> first | cases hc | skip
  rename_i g hg
  split at hc <;> first | cases hc | skip
  rename_i hi; exact step_load hop hx' hg hi h hd hst ha
 case store t x y =>
  obtain ⟨x', hx', y', hy', hc⟩ := hc
  split at hc <;> first | cases hc | skip
  rename_i hi; exact step_store hop hx' hy' hi.1 (by simpa using hi.2) h hd hst ha
 case build t parts =>
  obtain ⟨z, hz, hc⟩ := hc
  split at hc <;> first | cases hc | skip
  ·rename_i fs hu
   split at hc <;> first | cases hc | skip
   rename_i hall
   simp only [Option.map_eq_some_iff] at hc
   obtain ⟨ps, hps, rfl⟩ := hc
   exact step_build hop hz (.inl ⟨fs, hu, fun f hf => Array.all_eq_true_iff_forall_mem.1 hall f (Array.mem_toList_iff.1 hf), hps⟩) h hd hst ha
  ·rename_i n e hu
   split at hc <;> first | cases hc | skip
   rename_i hie
   simp only [Option.map_eq_some_iff] at hc
   obtain ⟨ps, hps, rfl⟩ := hc
   exact step_build hop hz (.inr ⟨n, e, hu, hps, hie⟩) h hd hst ha
 case buildSlice t len parts =>
  split at hc <;> first | cases hc | skip
  rename_i e hu
  simp only [Option.bind_eq_some_iff] at hc
  obtain ⟨z, hz, ps, hps, hc⟩ := hc
  split at hc <;> first | cases hc | skip
  rename_i hh
  exact step_bsl hop hu hz hps hh.1 hh.2.1 hh.2.2.1 hh.2.2.2 h hd hst ha
 case makeSlice t l c =>
  obtain ⟨l', hl', c', hc', hc⟩ := hc
  split at hc <;> first | cases hc | skip
  rename_i e hu
  simp only [Option.bind_eq_some_iff] at hc
  obtain ⟨z, hz, hc⟩ := hc
  split at hc <;> first | cases hc | skip
  rename_i hh
  split at hc <;> first | cases hc | skip
  ·rename_i i j
   split at hc <;> first | cases hc | skip
   rename_i hij
   subst hij
   have e1 : l = .tmp i := by cases l <;> simp [cO] at hl' <;> first | (subst hl'; rfl) | (unfold cV at hl'; split at hl' <;> cases hl')
   have e2 : c = .tmp i := by cases c <;> simp [cO] at hc' <;> first | (subst hc'; rfl) | (unfold cV at hc'; split at hc' <;> cases hc')
   exact step_msl hop hu hz hl' (by rw [e1, e2]) hh.1 hh.2.1 hh.2.2 h hd hst ha
  ·rename_i i j
   split at hc <;> first | cases hc | skip
   rename_i hij
   subst hij
   have e1 : l = .const (.int .i64 i) := by cases l <;> simp [cO] at hl'; (unfold cV at hl'; split at hl' <;> cases hl'; rfl)
   have e2 : c = .const (.int .i64 i) := by cases c <;> simp [cO] at hc'; (unfold cV at hc'; split at hc' <;> cases hc'; rfl)
   exact step_msl hop hu hz hl' (by rw [e1, e2]) hh.1 hh.2.1 hh.2.2 h hd hst ha
 case alloc e => obtain ⟨z, hz, rfl⟩ := hc; exact step_alloc hop hz h hd hst ha
 case box e x => obtain ⟨x', hx', hc⟩ := hc; cases hc; exact step_box hop hx' h hd hst ha
 case slice t x lo hi mx =>
  cases mx <;> simp only [Option.bind_eq_some_iff, reduceCtorEq] at hc
  obtain ⟨x', hx', lo', hlo', hi', hhi', hc⟩ := hc
  split at hc <;> first | cases hc | skip
  ·rename_i hu; exact step_sls hop hx' hlo' hhi' hu h hd hst ha
  ·rename_i e hu
   split at hc <;> first | cases hc | skip
   rename_i hz; exact step_slc hop hx' hlo' hhi' hu hz h hd hst ha
 case makeFunc f first captured =>
  cases f <;> simp only [Option.bind_eq_some_iff, reduceCtorEq] at hc
  obtain ⟨xs, hxs, hc⟩ := hc
  split at hc <;> first | cases hc | skip
  rename_i hz; exact step_clo hop hz hxs h hd hst ha
 case extract x i => obtain ⟨x', hx', rfl⟩ := hc; exact step_ext hop hx' h hd hst ha
 case call c =>
  obtain ⟨xs, hxs, hc⟩ := hc
  split at hc <;> first | cases hc | skip
  ·rename_i f hcal; exact step_call hop hcal hxs h hd hst ha
  ·rename_i t hcal; exact step_cald hop hcal hxs h hd hst ha
  ·rename_i hcal
   split at hc <;> first | cases hc | skip
   ·rename_i x' ht
    obtain ⟨x, e1, e2⟩ := cOs_one hxs
    obtain ⟨t, h1, h2⟩ := Option.bind_eq_some_iff.1 ht
    exact step_lens hop hcal e1 e2 h1 h2 h hd hst ha
   ·rename_i x' e ht
    obtain ⟨x, e1, e2⟩ := cOs_one hxs
    obtain ⟨t, h1, h2⟩ := Option.bind_eq_some_iff.1 ht
    exact step_len hop hcal e1 e2 h1 h2 h hd hst ha
  ·rename_i hcal
   split at hc <;> first | cases hc | skip
   rename_i x' y' t t' hts
   split at hc <;> first | cases hc | skip
   rename_i e hu
   simp only [Option.bind_eq_some_iff] at hc
   obtain ⟨z, hz, hc⟩ := hc
   split at hc <;> first | cases hc | skip
   rename_i hh
   obtain ⟨rfl, h1, h2, h3⟩ := hh
   obtain ⟨x, y, e1, e2, e3⟩ := cOs_two hxs
   exact step_app hop hcal e1 (by apply Array.ext'; simpa using hts) e2 e3 hu hz h1 h2 h3 h hd hst ha
  ·rename_i hcal
   split at hc <;> first | cases hc | skip
   rename_i x' y' t t' hts
   split at hc <;> first | cases hc | skip
   rename_i e hu
   split at hc <;> first | cases hc | skip
   rename_i hsz
   obtain ⟨x, y, e1, e2, e3⟩ := cOs_two hxs
   exact step_cpy hop hcal e1 (by apply Array.ext'; simpa using hts) e2 e3 hu (by obtain ⟨i, q1, q2⟩ := hsz; rw [q1]; simp [q2]) h hd hst ha
  ·rename_i hcal
   split at hc <;> first | cases hc | skip
   obtain ⟨x, y, e1, e2, e3⟩ := cOs_two hxs
   exact step_mx (mx := true) hop hcal e1 e2 e3 h hd hst ha
  ·rename_i hcal
   split at hc <;> first | cases hc | skip
   obtain ⟨x, y, e1, e2, e3⟩ := cOs_two hxs
   exact step_mx (mx := false) hop hcal e1 e2 e3 h hd hst ha
end
section
variable {P : Program} {gl : Nat → Option (List AC)} {N : Nat} {w0 : Wk} {Pr : PrT} {φ : Nat → Option (Option Nat)} {s : St} {a : Act} {w : World}
 {o : Oper} {hs : List Hint} {K : List Hint → St → Prop} {next : Act → World → Prop} {Q : Exit → Act → World → Prop}
theorem compO_inv {ops : Array Oper} {io : IOp} (h : compO P N ops o = some io) : compI P o = some io.i ∧ guardOf ops o.guard = some io.g ∧ io.d = o.dst ∧ ∀ t, o.dst = some t → t < N := by
 unfold compO at h
 split at h
 ·rename_i i g hi hg
  split at h
  ·rename_i d hd
   split at h
   ·rename_i hlt
    cases h
    exact ⟨hi, hg, hd.symm, fun t ht => by rw [hd] at ht; cases ht; exact hlt⟩
   ·cases h
  ·rename_i hd
   cases h
   exact ⟨hi, hg, hd.symm, fun t ht => by rw [hd] at ht; cases ht⟩
 ·cases h
theorem wanted_of (h : Sim gl N w0 Pr φ s a w) {ops : Array Oper} {g : Option (Nat × Bool)} (hg : guardOf ops o.guard = some g) :
  (g = none → Region.wanted o (yielded ops a.tmps) = true) ∧ ∀ t b c, g = some (t, b) → s.e t = some (.c (.bool c)) → Region.wanted o (yielded ops a.tmps) = (c == b) := by
 cases hgd : o.guard with
 | none =>
  rw [hgd] at hg
  simp only [guardOf, Option.some.injEq] at hg
  subst hg
  exact ⟨(fun _ => by simp [Region.wanted, hgd]), fun t b c he => by cases he⟩
 | some jb =>
  obtain ⟨j, b⟩ := jb
  rw [hgd] at hg
  simp only [guardOf] at hg
  split at hg
  ·rename_i oj hoj
   split at hg
   ·rename_i t ht
    simp only [Option.some.injEq] at hg
    subst hg
    refine ⟨(fun e => by cases e), fun t' b' c he hs => ?_⟩
    cases he
    have hv := (h.eval_tmp hs).1.bool_inv
    obtain ⟨x, h1, h2⟩ := h.tm t _ hs
    have hx := h2.bool_inv
    subst hx
    simp [Region.wanted, hgd, yielded, hoj, ht, h1]
   ·cases hg
  ·cases hg
theorem wanted_tup (h : Sim gl N w0 Pr φ s a w) {ops : Array Oper} {t : Nat} {b : Bool} (hg : guardOf ops o.guard = some (some (t, b))) {ps : List (Bool × List AC)} (hs : s.e t = some (.tup ps)) :
  Region.wanted o (yielded ops a.tmps) = false := by
 cases hgd : o.guard with
 | none => rw [hgd] at hg; simp [guardOf] at hg
 | some jb =>
  obtain ⟨j, b'⟩ := jb
  rw [hgd] at hg
  simp only [guardOf] at hg
  split at hg
  ·rename_i oj hoj
   split at hg
   ·rename_i t' ht
    simp only [Option.some.injEq, Prod.mk.injEq] at hg
    obtain ⟨rfl, rfl⟩ := hg
    obtain ⟨x, h1, h2⟩ := h.tm t' _ hs
    obtain ⟨g, h3, _⟩ := h2
    subst h3
    simp [Region.wanted, hgd, yielded, hoj, ht, h1]
   ·cases hg
  ·cases hg
theorem Sim.undef (h : Sim gl N w0 Pr φ s a w) {d : Option Nat} (hd : ∀ t, d = some t → t < N) : Sim gl N w0 Pr φ (s.pu d (.tup [])) (a.put d undef) w :=
 h.pu hd ⟨fun _ => Go.undef, rfl, by simp⟩ (by simp [AV.keys])
theorem seg_sound (ops : Array Oper) : ∀ (l : List Oper) (ios : List IOp) {hs : List Hint} {s : St} {Pr : PrT} {φ : Nat → Option (Option Nat)} {a : Act} {w : World}, l.mapM (compO P N ops) = some ios → SegP P gl ios hs s K → Sim gl N w0 Pr φ s a w →
  After gl N w0 Pr K (fun a w => Q .normal a w) → wpList P ops Q l a w
 | [], ios, hs, s, Pr, φ, a, w, hm, hst, h, ha => by
  simp at hm; subst hm
  exact ha hs s Pr φ a w hst h (PrS.refl _ _)
 | o :: r, ios, hs, s, Pr, φ, a, w, hm, hst, h, ha => by
  simp only [List.mapM_cons, Option.bind_eq_bind, Option.bind_eq_some_iff, Option.pure_def, Option.some.injEq] at hm
  obtain ⟨io, hio, ios', hios, rfl⟩ := hm
  obtain ⟨h1, h2, h3, h4⟩ := compO_inv hio
  obtain ⟨w1, w2⟩ := wanted_of h h2
  refine wpList_step fun K' hK' => ?_
  have go : ∀ hs, Step P gl o.dst io.i hs s (fun hs' s' => SegP P gl ios' hs' s' K) → o.wp P a w K' Q := fun _ hst' =>
   comp_sound h1 h h4 hst' fun hs' s' Pr' φ' a' w' k1 k2 k3 => hK' _ _ (seg_sound ops r ios' hios k1 k2 fun hs'' s'' Pr'' φ'' a'' w'' q1 q2 q3 => ha _ _ _ _ _ _ q1 q2 (k3.trans q3))
  simp only [SegP] at hst
  rw [h3] at hst
  split at hst
  ·rename_i hg
   rw [if_pos (w1 hg)]
   exact go _ hst
  ·rename_i t b hg
   split at hst
   ·rename_i c v hs' hc
    obtain ⟨rfl, hst⟩ := hst
    have hw := w2 t b c hg hc
    split at hst
    ·rw [if_pos (by rw [hw]; rfl)]; exact go _ hst
    ·rw [if_pos (by rw [hw]; rfl)]; exact go _ hst
    ·rename_i n1 n2
     have hne : (c == b) = false := by cases c <;> cases b <;> first | rfl | exact absurd rfl (n1 rfl) | exact absurd rfl (n2 rfl)
     rw [if_neg (by rw [hw, hne]; simp)]
     exact hK' _ _ (seg_sound ops r ios' hios hst (h.undef h4) ha)
   ·rename_i ps hc
    rw [if_neg (by rw [wanted_tup h (hg ▸ h2) hc]; simp)]
    exact hK' _ _ (seg_sound ops r ios' hios hst (h.undef h4) ha)
   ·exact hst.elim
theorem region_sound {id : Nat} {ops : Array Oper} {ios : List IOp} (hm : ops.toList.mapM (compO P N ops) = some ios) (hst : SegP P gl ios hs s K) (h : Sim gl N w0 Pr φ s a w)
  (ha : After gl N w0 Pr K (fun a w => Q .normal a w)) : (Code.region id ops false).wp P Q a w :=
 wp_region_list (seg_sound ops ops.toList ios hm hst h ha)
end
section
variable {P : Program} {gl : Nat → Option (List AC)}
def Cl (U : Nat → Prop) (s : St) : Prop := ∀ k blk, U k → s.h k = some blk → ∀ j ∈ blk.keys, U j
def Ag (U : Nat → Prop) (s s2 : St) : Prop := ∀ k, U k → s2.h k = s.h k
theorem Ag.sh {U : Nat → Prop} {s s2 : St} (h : Ag U s s2) {k : Nat} {b : Blk} : Ag U (s.sh k b) (s2.sh k b) := fun j hj => by
 simp only [St.sh]; rw [h j hj]
theorem Cl.sh {U : Nat → Prop} {s : St} (h : Cl U s) {k : Nat} {b : Blk} (hb : ∀ j ∈ b.keys, U j) : Cl U (s.sh k b) := fun j blk hj hjb q hq => by
 simp only [St.sh] at hjb
 by_cases e : j = k
 ·subst e; simp only [nbt, cond_true, Option.some.injEq] at hjb; subst hjb; exact hb q hq
 ·simp only [nbf e, cond_false] at hjb; exact h j blk hj hjb q hq
theorem keys0_sub {c : AC} {k : Nat} (h : k ∈ c.keys0) : k ∈ c.keys := by
 cases c <;> first | exact h | simp [AC.keys0] at h
theorem keys0_clo {c : AC} (h : ∀ f cap, c ≠ .clo f cap) : c.keys = c.keys0 := by
 cases c <;> first | rfl | exact absurd rfl (h _ _)
theorem frC_par {U : Nat → Prop} {s : St} (hcl : Cl U s) {c : AC} {K : AC → St → Prop} (h : frC s c K) (hu : ∀ k ∈ c.keys0, U k) :
  ∃ c' s', K c' s' ∧ Cl U s' ∧ ∀ s2 : St, Ag U s s2 → ∀ K2 : AC → St → Prop, (∀ s3 : St, Ag U s' s3 → K2 c' s3) → frC s2 c K2 := by
 unfold frC at h
 split at h
 ·rename_i k wd off len
  split at h
  ·rename_i wd' n f z hb
   split at h
   ·rename_i hwd
    obtain ⟨h1, h2⟩ := h
    refine ⟨_, _, h2, hcl.sh (by simp [Blk.keys]), fun s2 hs K2 hK => ?_⟩
    unfold frC
    simp only [hs k (hu k (by simp [AC.keys0])), hb, if_pos hwd]
    exact ⟨h1, hK _ hs.sh⟩
   ·exact h.elim
  ·exact h.elim
 ·rename_i hne
  split at h
  ·rename_i hd
   refine ⟨_, _, h, hcl, fun s2 hs K2 hK => ?_⟩
   unfold frC
   split
   ·exact absurd rfl (hne _ _ _ _)
   ·rw [hd]; exact hK _ hs
  ·exact h.elim
theorem frCs_par {U : Nat → Prop} : ∀ (cs : List AC) {s : St} {K : List AC → St → Prop} (hcl : Cl U s) (h : frCs s cs K) (hu : ∀ c ∈ cs, ∀ k ∈ c.keys0, U k),
  ∃ c' s', K c' s' ∧ Cl U s' ∧ ∀ s2 : St, Ag U s s2 → ∀ K2 : List AC → St → Prop, (∀ s3 : St, Ag U s' s3 → K2 c' s3) → frCs s2 cs K2
 | [], s, K, hcl, h, hu => ⟨[], s, h, hcl, fun s2 hs K2 hK => hK s2 hs⟩
 | c :: r, s, K, hcl, h, hu => by
  obtain ⟨c', s', h1, hc1, h2⟩ := frC_par hcl h (hu c (by simp))
  obtain ⟨r', s'', h3, hc2, h4⟩ := frCs_par r hc1 h1 fun c hc => hu c (by simp [hc])
  exact ⟨_, _, h3, hc2, fun s2 hs K2 hK => h2 s2 hs _ fun s3 hs3 => h4 s3 hs3 _ hK⟩
theorem frP_par {U : Nat → Prop} {s : St} (hcl : Cl U s) {c : AC} {K : AC → St → Prop} (h : frP s c K) (hu : ∀ k ∈ c.keys0, U k) :
  ∃ c' s', K c' s' ∧ Cl U s' ∧ (∀ s2 : St, Ag U s s2 → ∀ K2 : AC → St → Prop, (∀ s3 : St, Ag U s' s3 → K2 c' s3) → frP s2 c K2) := by
 unfold frP at h
 split at h
 ·rename_i k i
  have huk : U k := hu k (by simp [AC.keys0])
  split at h
  ·rename_i cs z hb
   have hcs : ∀ c ∈ cs, ∀ k ∈ c.keys, U k := fun c hc k hk => hcl _ _ huk hb k (List.mem_flatMap.2 ⟨c, hc, hk⟩)
   obtain ⟨cs', s', h1, hc1, h2⟩ := frCs_par (U := U) cs hcl h (fun c hc k hk => hcs c hc k (keys0_sub hk))
   refine ⟨_, _, h1, hc1.sh (fun j hj => ?_), fun s2 hs K2 hK => ?_⟩
   ·obtain ⟨c, hc, hk⟩ := List.mem_flatMap.1 hj
    exact hcs c hc j hk
   ·unfold frP
    simp only [hs k huk, hb]
    exact h2 s2 hs _ fun s3 hs3 => hK _ hs3.sh
  ·exact h.elim
 ·rename_i hne
  obtain ⟨c', s', h1, hc1, h2⟩ := frC_par hcl h hu
  refine ⟨_, _, h1, hc1, fun s2 hs K2 hK => ?_⟩
  unfold frP
  split
  ·exact absurd rfl (hne _ _)
  ·exact h2 s2 hs K2 hK
theorem frPs_par {U : Nat → Prop} : ∀ (cs : List AC) {s : St} {K : List AC → St → Prop} (hcl : Cl U s) (h : frPs s cs K) (hu : ∀ c ∈ cs, ∀ k ∈ c.keys0, U k),
  ∃ c' s', K c' s' ∧ Cl U s' ∧ ∀ s2 : St, Ag U s s2 → ∀ K2 : List AC → St → Prop, (∀ s3 : St, Ag U s' s3 → K2 c' s3) → frPs s2 cs K2
 | [], s, K, hcl, h, hu => ⟨[], s, h, hcl, fun s2 hs K2 hK => hK s2 hs⟩
 | c :: r, s, K, hcl, h, hu => by
  obtain ⟨c', s', h1, hc1, h2⟩ := frP_par hcl h (hu c (by simp))
  obtain ⟨r', s'', h3, hc2, h4⟩ := frPs_par r hc1 h1 fun c hc => hu c (by simp [hc])
  exact ⟨_, _, h3, hc2, fun s2 hs K2 hK => h2 s2 hs _ fun s3 hs3 => h4 s3 hs3 _ hK⟩
theorem frF_par {U : Nat → Prop} {s : St} (hcl : Cl U s) {c : AC} {K : AC → St → Prop} (h : frF s c K) (hu : ∀ k ∈ c.keys, U k) :
  ∃ c' s', K c' s' ∧ Cl U s' ∧ ∀ s2 : St, Ag U s s2 → ∀ K2 : AC → St → Prop, (∀ s3 : St, Ag U s' s3 → K2 c' s3) → frF s2 c K2 := by
 unfold frF at h
 split at h
 ·rename_i f cap
  obtain ⟨cap', s', h1, hc1, h2⟩ := frPs_par cap hcl h fun c hc k hk => hu k (List.mem_flatMap.2 ⟨c, hc, hk⟩)
  exact ⟨_, _, h1, hc1, fun s2 hs K2 hK => h2 s2 hs _ hK⟩
 ·rename_i hne
  obtain ⟨c', s', h1, hc1, h2⟩ := frP_par hcl h fun k hk => hu k (keys0_sub hk)
  refine ⟨_, _, h1, hc1, fun s2 hs K2 hK => ?_⟩
  unfold frF
  split
  ·exact absurd rfl (hne _ _)
  ·exact h2 s2 hs K2 hK
theorem frFs_par {U : Nat → Prop} : ∀ (cs : List AC) {s : St} {K : List AC → St → Prop} (hcl : Cl U s) (h : frFs s cs K) (hu : ∀ c ∈ cs, ∀ k ∈ c.keys, U k),
  ∃ c' s', K c' s' ∧ Cl U s' ∧ ∀ s2 : St, Ag U s s2 → ∀ K2 : List AC → St → Prop, (∀ s3 : St, Ag U s' s3 → K2 c' s3) → frFs s2 cs K2
 | [], s, K, hcl, h, hu => ⟨[], s, h, hcl, fun s2 hs K2 hK => hK s2 hs⟩
 | c :: r, s, K, hcl, h, hu => by
  obtain ⟨c', s', h1, hc1, h2⟩ := frF_par hcl h (hu c (by simp))
  obtain ⟨r', s'', h3, hc2, h4⟩ := frFs_par r hc1 h1 fun c hc => hu c (by simp [hc])
  exact ⟨_, _, h3, hc2, fun s2 hs K2 hK => h2 s2 hs _ fun s3 hs3 => h4 s3 hs3 _ hK⟩
theorem frV_par {U : Nat → Prop} {s : St} (hcl : Cl U s) {v : AV} {K : AV → St → Prop} (h : frV s v K) (hu : ∀ k ∈ v.keys, U k) :
  ∃ v' s', K v' s' ∧ Cl U s' ∧ ∀ s2 : St, Ag U s s2 → ∀ K2 : AV → St → Prop, (∀ s3 : St, Ag U s' s3 → K2 v' s3) → frV s2 v K2 := by
 cases v with
 | c x =>
  obtain ⟨c', s', h1, hc1, h2⟩ := frF_par hcl (show frF s x fun x' s' => K (.c x') s' from h) hu
  exact ⟨_, _, h1, hc1, fun s2 hs K2 hK => h2 s2 hs _ hK⟩
 | agg xs =>
  cases hk : (AV.agg xs).keys with
  | nil =>
   unfold frV at h
   simp only [hk] at h
   refine ⟨_, _, h, hcl, fun s2 hs K2 hK => ?_⟩
   unfold frV
   simp only [hk]
   exact hK s2 hs
  | cons q r =>
   unfold frV at h
   simp only [hk] at h
   obtain ⟨c', s', h1, hc1, h2⟩ := frFs_par xs hcl h fun c hc k hk => hu k (List.mem_flatMap.2 ⟨c, hc, hk⟩)
   refine ⟨_, _, h1, hc1, fun s2 hs K2 hK => ?_⟩
   unfold frV
   simp only [hk]
   exact h2 s2 hs _ hK
 | tup xs => exact h.elim
theorem frVs_par {U : Nat → Prop} : ∀ (cs : List AV) {s : St} {K : List AV → St → Prop} (hcl : Cl U s) (h : frVs s cs K) (hu : ∀ c ∈ cs, ∀ k ∈ c.keys, U k),
  ∃ c' s', K c' s' ∧ Cl U s' ∧ ∀ s2 : St, Ag U s s2 → ∀ K2 : List AV → St → Prop, (∀ s3 : St, Ag U s' s3 → K2 c' s3) → frVs s2 cs K2
 | [], s, K, hcl, h, hu => ⟨[], s, h, hcl, fun s2 hs K2 hK => hK s2 hs⟩
 | c :: r, s, K, hcl, h, hu => by
  obtain ⟨c', s', h1, hc1, h2⟩ := frV_par hcl h (hu c (by simp))
  obtain ⟨r', s'', h3, hc2, h4⟩ := frVs_par r hc1 h1 fun c hc => hu c (by simp [hc])
  exact ⟨_, _, h3, hc2, fun s2 hs K2 hK => h2 s2 hs _ fun s3 hs3 => h4 s3 hs3 _ hK⟩
theorem callD_par {U : Nat → Prop} {d : Option Nat} {f : FuncId} {vs : List AV} {v : AV} {s : St} {K : St → Prop} (hcl : Cl U s) (h : callD P gl d f vs v s K) (hu : ∀ c ∈ vs, ∀ k ∈ c.keys, U k) :
  K (s.pu d v) ∧ v.keys = [] ∧ ∀ s2 : St, Ag U s s2 → ∀ K2 : St → Prop, K2 (s2.pu d v) → callD P gl d f vs v s2 K2 := by
 obtain ⟨ds, s', ⟨h1, h2, h3, h4⟩, _, h5⟩ := frVs_par vs hcl h hu
 exact ⟨h4, h3, fun s2 hs K2 hK => h5 s2 hs _ fun s3 _ => ⟨h1, h2, h3, hK⟩⟩
theorem evs_congr {s s2 : St} : ∀ (xs : List Opd), (∀ x ∈ xs, ev gl s2 x = ev gl s x) → evs gl s2 xs = evs gl s xs
 | [], _ => rfl
 | x :: r, h => by
  simp only [evs, h x (by simp), evs_congr r (fun t ht => h t (by simp [ht]))]
theorem evs_keys {U : Nat → Prop} {s : St} : ∀ (xs : List Opd) {vs : List AV}, (∀ x ∈ xs, ∀ v, ev gl s x = some v → ∀ k ∈ v.keys, U k) → evs gl s xs = some vs → ∀ c ∈ vs, ∀ k ∈ c.keys, U k
 | [], vs, _, h => by simp only [evs, Option.some.injEq] at h; subst h; simp
 | x :: r, vs, hu, h => by
  simp only [evs] at h
  split at h
  ·rename_i v hv
   split at h
   ·rename_i l hl
    simp only [Option.some.injEq] at h; subst h
    intro c hc
    rcases List.mem_cons.1 hc with rfl | hc
    ·exact hu x (by simp) _ hv
    ·exact evs_keys r (fun y hy => hu y (by simp [hy])) hl c hc
   ·cases h
  ·cases h
theorem partsC_congr {s s2 : St} {wd : Nat} : ∀ (xs : List Opd), (∀ x ∈ xs, ev gl s2 x = ev gl s x) → partsC gl s2 wd xs = partsC gl s wd xs
 | [], _ => rfl
 | x :: r, h => by
  simp only [partsC, h x (by simp), partsC_congr r (fun t ht => h t (by simp [ht]))]
theorem bnd_congr {s s2 : St} {n : Int} {x : Option Opd} (h : ∀ y ∈ x.toList, ev gl s2 y = ev gl s y) : bnd gl s2 n x = bnd gl s n x := by
 cases x with
 | none => rfl
 | some x => simp only [bnd, h x (by simp)]
theorem buildC_congr {s s2 : St} : ∀ (ps : List (Nat × Nat × Opd)) (cs : List AC), (∀ x ∈ ps.map (·.2.2), ev gl s2 x = ev gl s x) → buildC gl s2 cs ps = buildC gl s cs ps
 | [], cs, _ => rfl
 | (off, w, x) :: r, cs, h => by
  simp only [buildC, h x (by simp)]
  split
  ·split
   ·split
    ·split
     ·exact buildC_congr r _ fun y hy => h y (by simp at hy ⊢; exact .inr hy)
     ·rfl
    ·rfl
   ·rfl
  ·rfl
theorem setC_mem {vc : List AC} : ∀ {cs : List AC} {i : Nat} {c : AC}, c ∈ setC cs i vc → c ∈ cs ∨ c ∈ vc := by
 induction vc with
 | nil => intro cs i c h; exact .inl h
 | cons x r ih =>
  intro cs i c h
  rcases ih h with h | h
  ·rcases List.mem_or_eq_of_mem_set h with h | h
   ·exact .inl h
   ·exact .inr (by simp [h])
  ·exact .inr (by simp [h])
theorem one_keys {v : AV} {vc : List AC} (h : v.one = some vc) : vc.flatMap AC.keys = v.keys := by
 cases v with
 | c x => simp [AV.one] at h; subst h; simp [AV.keys]
 | agg xs => simp [AV.one] at h; subst h; rfl
 | tup xs => simp [AV.one] at h
theorem buildC_keys {U : Nat → Prop} {s : St} : ∀ (ps : List (Nat × Nat × Opd)) (cs : List AC) {r : List AC}, (∀ x ∈ ps.map (·.2.2), ∀ v, ev gl s x = some v → ∀ k ∈ v.keys, U k) →
  (∀ k ∈ cs.flatMap AC.keys, U k) → buildC gl s cs ps = some r → ∀ k ∈ r.flatMap AC.keys, U k
 | [], cs, r, _, hc, h => by simp only [buildC, Option.some.injEq] at h; subst h; exact hc
 | (off, w, x) :: ps, cs, r, hu, hc, h => by
  simp only [buildC] at h
  split at h
  ·rename_i v hv
   split at h
   ·rename_i vc hvc
    split at h
    ·split at h
     ·refine buildC_keys ps _ (fun y hy => hu y (by simp at hy ⊢; exact .inr hy)) (fun k hk => ?_) h
      obtain ⟨c, hc1, hc2⟩ := List.mem_flatMap.1 hk
      rcases setC_mem hc1 with h1 | h1
      ·exact hc k (List.mem_flatMap.2 ⟨c, h1, hc2⟩)
      ·exact hu x (by simp) v hv k (by rw [← one_keys hvc]; exact List.mem_flatMap.2 ⟨c, h1, hc2⟩)
     ·cases h
    ·cases h
   ·cases h
  ·cases h
theorem loadC_keys {cs : List AC} {i w : Nat} {g : Bool} {v : AV} (h : loadC cs i w g = some v) : ∀ k ∈ v.keys, k ∈ cs.flatMap AC.keys := by
 unfold loadC at h
 split at h
 ·split at h
  ·simp only [Option.some.injEq] at h; subst h
   intro k hk
   obtain ⟨c, h1, h2⟩ := List.mem_flatMap.1 hk
   exact List.mem_flatMap.2 ⟨c, List.mem_of_mem_drop (List.mem_of_mem_take h1), h2⟩
  ·cases h
 ·split at h
  ·rename_i c hc
   simp only [Option.some.injEq] at h; subst h
   intro k hk
   exact List.mem_flatMap.2 ⟨c, List.mem_of_getElem? hc, hk⟩
  ·cases h
theorem pu_eff (s : St) (d : Option Nat) (v : AV) : s.pu d v = s.eff d ⟨some v, []⟩ := by cases d <;> rfl
end
def Par (P : Program) (gl : Nat → Option (List AC)) (U : Nat → Prop) (d : Option Nat) (i : Ins) (hs : List Hint) (s : St) (K : List Hint → St → Prop) : Prop :=
 ∃ hs' x, K hs' (s.eff d x) ∧ (∀ p ∈ x.n, d = some p.1 ∧ p.2.keys = []) ∧ (∀ v, x.v = some v → ∀ k ∈ v.keys, U k ∨ k ∈ x.n.map (·.1)) ∧
  (x.n ≠ [] → ∀ t, d = some t → s.u.elem t = false) ∧
  ∀ s2 : St, Ag U s s2 → (∀ y ∈ opsI i, ev gl s2 y = ev gl s y) → (∀ t, d = some t → s.u.elem t = false → s2.u.elem t = false) →
   ∀ K2 : List Hint → St → Prop, K2 hs' (s2.eff d x) → StepD P gl d i hs s2 K2
section
variable {P : Program} {gl : Nat → Option (List AC)} {U : Nat → Prop} {d : Option Nat} {i : Ins} {hs hs' : List Hint} {s : St} {K : List Hint → St → Prop}
theorem Par.mk0 {v : AV} (hK : K hs' (s.pu d v)) (hk : ∀ k ∈ v.keys, U k)
  (hp : ∀ s2 : St, Ag U s s2 → (∀ y ∈ opsI i, ev gl s2 y = ev gl s y) → ∀ K2 : List Hint → St → Prop, K2 hs' (s2.pu d v) → StepD P gl d i hs s2 K2) : Par P gl U d i hs s K :=
 ⟨hs', ⟨some v, []⟩, (pu_eff s d v) ▸ hK, by simp, fun v' hv k hkv => .inl (by cases hv; exact hk k hkv), fun h => absurd rfl h, fun s2 h1 h2 _ K2 h3 => hp s2 h1 h2 K2 ((pu_eff s2 d v) ▸ h3)⟩
theorem nk_int {k : IntKind} {n : Int} : ∀ j ∈ (AV.c (.int k n)).keys, U j := by simp [AV.keys, AC.keys, AC.keys0]
theorem nk_bool {n : Bool} : ∀ j ∈ (AV.c (.bool n)).keys, U j := by simp [AV.keys, AC.keys, AC.keys0]
theorem nk_str {n : List UInt8} : ∀ j ∈ (AV.c (.str n)).keys, U j := by simp [AV.keys, AC.keys, AC.keys0]
theorem bI_keys {op : BinOp} {k : IntKind} {a b : Int} {c : AC} (h : bI op k a b = some c) : ∀ j ∈ (AV.c c).keys, U j := by
 cases op <;> simp only [bI, Option.some.injEq] at h <;> first | (subst h; simp [AV.keys, AC.keys, AC.keys0]; done) | (cases h)
theorem bS_keys {op : BinOp} {a b : List UInt8} {c : AC} (h : bS op a b = some c) : ∀ j ∈ (AV.c c).keys, U j := by
 cases op <;> simp only [bS, Option.some.injEq] at h <;> first | (subst h; simp [AV.keys, AC.keys, AC.keys0]; done) | (cases h)
def isRd : Ins → Bool
 | .load .. | .call .. | .cald .. => true
 | _ => false
def isOw : Ins → Bool
 | .load .. | .iad .. | .iar .. | .fad .. | .nck .. | .mv .. | .ext .. | .fld .. | .build .. => true
 | _ => false
theorem stepD_par (how : isOw i = false) (hcl : isRd i = true → Cl U s) (hU : ∀ x ∈ opsI i, ∀ v, ev gl s x = some v → ∀ k ∈ v.keys, U k) (hpi : isPureI i = true) (h : StepD P gl d i hs s K) : Par P gl U d i hs s K := by
 cases i <;> first | (exact Bool.noConfusion (how : true = false)) | skip
 all_goals simp only [StepD, Step] at h
 all_goals first | exact h.elim | skip
 case pick c x y =>
  split at h
  ·rename_i q v hs' hc
   obtain ⟨hq, h⟩ := h
   cases v with
   | true =>
    simp only at h
    split at h
    ·rename_i v hv
     exact .mk0 h (hU x (by simp [opsI]) v hv) fun s2 hs he K2 hK => by simp only [StepD, Step, he c (by simp [opsI]), hc, he x (by simp [opsI]), hv]; exact ⟨hq, hK⟩
    ·exact h.elim
   | false =>
    simp only at h
    split at h
    ·rename_i v hv
     exact .mk0 h (hU y (by simp [opsI]) v hv) fun s2 hs he K2 hK => by simp only [StepD, Step, he c (by simp [opsI]), hc, he y (by simp [opsI]), hv]; exact ⟨hq, hK⟩
    ·exact h.elim
  ·exact h.elim
 case bin op x y =>
  split at h
  ·rename_i k n k' m hx hy
   split at h
   ·rename_i hk
    by_cases h1 : op = .quo
    ·subst h1
     exact .mk0 h.2 nk_int fun s2 hs he K2 hK => by simp only [StepD, Step, he x (by simp [opsI]), he y (by simp [opsI]), hx, hy, if_pos hk]; exact ⟨h.1, hK⟩
    by_cases h2 : op = .rem
    ·subst h2
     exact .mk0 h.2 nk_int fun s2 hs he K2 hK => by simp only [StepD, Step, he x (by simp [opsI]), he y (by simp [opsI]), hx, hy, if_pos hk]; exact ⟨h.1, hK⟩
    cases hc : bI op k n m with
    | none => cases op <;> first | exact absurd rfl h1 | exact absurd rfl h2 | (simp only [hc] at h)
    | some c =>
     refine .mk0 (hs' := hs) (v := .c c) ?_ (bI_keys hc) fun s2 hs he K2 hK => ?_
     ·cases op <;> first | exact absurd rfl h1 | exact absurd rfl h2 | (simp only [hc] at h; exact h)
     ·simp only [StepD, Step, he x (by simp [opsI]), he y (by simp [opsI]), hx, hy, if_pos hk]
      cases op <;> first | exact absurd rfl h1 | exact absurd rfl h2 | (simp only [hc]; exact hK)
   ·exact h.elim
  ·rename_i n m hx hy
   by_cases h1 : op = .add
   ·subst h1
    exact .mk0 h.2 nk_str fun s2 hs he K2 hK => by simp only [StepD, Step, he x (by simp [opsI]), he y (by simp [opsI]), hx, hy]; exact ⟨h.1, hK⟩
   cases hc : bS op n m with
   | none => cases op <;> first | exact absurd rfl h1 | (simp only [hc] at h)
   | some c =>
    refine .mk0 (hs' := hs) (v := .c c) ?_ (bS_keys hc) fun s2 hs he K2 hK => ?_
    ·cases op <;> first | exact absurd rfl h1 | (simp only [hc] at h; exact h)
    ·simp only [StepD, Step, he x (by simp [opsI]), he y (by simp [opsI]), hx, hy]
     cases op <;> first | exact absurd rfl h1 | (simp only [hc]; exact hK)
  ·exact h.elim
 case bqe ng x y =>
  split at h
  ·rename_i n m hx hy
   exact .mk0 h nk_bool fun s2 hs he K2 hK => by simp only [StepD, Step, he x (by simp [opsI]), he y (by simp [opsI]), hx, hy]; exact hK
  ·exact h.elim
 case eqa ng ks x y =>
  split at h
  ·rename_i xs ys hx hy
   split at h
   ·rename_i b hb
    exact .mk0 h nk_bool fun s2 hs he K2 hK => by simp only [StepD, Step, he x (by simp [opsI]), he y (by simp [opsI]), hx, hy, hb]; exact hK
   ·exact h.elim
  ·exact h.elim
 case not x =>
  split at h
  ·rename_i v hv
   exact .mk0 h nk_bool fun s2 hs he K2 hK => by simp only [StepD, Step, he x (by simp [opsI]), hv]; exact hK
  ·exact h.elim
 case neg x =>
  split at h
  ·rename_i k v hv
   exact .mk0 h nk_int fun s2 hs he K2 hK => by simp only [StepD, Step, he x (by simp [opsI]), hv]; exact hK
  ·exact h.elim
 case conv k x =>
  split at h
  ·rename_i k' v hv
   exact .mk0 h nk_int fun s2 hs he K2 hK => by simp only [StepD, Step, he x (by simp [opsI]), hv]; exact hK
  ·exact h.elim
 case len x =>
  split at h
  ·rename_i wd n f hv
   exact .mk0 h nk_int fun s2 hs he K2 hK => by simp only [StepD, Step, he x (by simp [opsI]), hv]; exact hK
  ·rename_i k wd off n hv
   have hk : U k := hU x (by simp [opsI]) _ hv k (by simp [AV.keys, AC.keys, AC.keys0])
   split at h
   ·rename_i wd' m f z hb
    split at h
    ·rename_i hwd
     exact .mk0 h nk_int fun s2 hs he K2 hK => by simp only [StepD, Step, he x (by simp [opsI]), hv, hs k hk, hb, if_pos hwd]; exact hK
    ·exact h.elim
   ·exact h.elim
  ·rename_i hv
   exact .mk0 h nk_int fun s2 hs he K2 hK => by simp only [StepD, Step, he x (by simp [opsI]), hv]; exact hK
  ·rename_i wd n f hv
   exact .mk0 h nk_int fun s2 hs he K2 hK => by simp only [StepD, Step, he x (by simp [opsI]), hv]; exact hK
  ·rename_i wd n f hv
   exact .mk0 h nk_int fun s2 hs he K2 hK => by simp only [StepD, Step, he x (by simp [opsI]), hv]; exact hK
  ·exact h.elim
 case lens x =>
  split at h
  ·rename_i v hv
   exact .mk0 h nk_int fun s2 hs he K2 hK => by simp only [StepD, Step, he x (by simp [opsI]), hv]; exact hK
  ·exact h.elim
 case isn ng x =>
  split at h
  ·rename_i hv
   exact .mk0 h nk_bool fun s2 hs he K2 hK => by simp only [StepD, Step, he x (by simp [opsI]), hv]; exact hK
  ·rename_i wd n f hv
   exact .mk0 h nk_bool fun s2 hs he K2 hK => by simp only [StepD, Step, he x (by simp [opsI]), hv]; exact hK
  ·exact h.elim
 case bsl wd parts =>
  split at h
  ·rename_i k ps n f' hs' hp
   split at h
   ·rename_i hfr
    obtain ⟨h1, h2, h3, h4⟩ := h
    refine ⟨_, _, h4, by simp [Blk.keys], fun v hv j hj => ?_, fun _ t ht => by cases ht; exact hfr, fun s2 hs he hfr2 K2 hK => ?_⟩
    ·cases hv; simp [AV.keys, AC.keys, AC.keys0] at hj; exact .inr (by simp [hj])
    ·simp only [StepD, partsC_congr (gl := gl) parts he, hp, hfr2 k rfl hfr]; exact ⟨h1, h2, h3, hK⟩
   ·exact h.elim
  ·rename_i k ps n f' hs' hp
   split at h
   ·rename_i hfr
    obtain ⟨h1, h2, h3, h4⟩ := h
    refine ⟨_, _, h4, by simp, fun v hv j hj => ?_, fun h0 => absurd rfl h0, fun s2 hs he hfr2 K2 hK => ?_⟩
    ·cases hv; simp [AV.keys, AC.keys, AC.keys0] at hj
    ·simp only [StepD, partsC_congr (gl := gl) parts he, hp, hfr2 k rfl hfr]; exact ⟨h1, h2, h3, hK⟩
   ·exact h.elim
  ·exact h.elim
 case msl wd bytes zero n =>
  split at h
  ·rename_i k kk m n' f' hs' hp
   split at h
   ·rename_i hfr
    obtain ⟨h1, h2, h4⟩ := h
    refine ⟨_, _, h4, by simp [Blk.keys], fun v hv j hj => ?_, fun _ t ht => by cases ht; exact hfr, fun s2 hs he hfr2 K2 hK => ?_⟩
    ·cases hv; simp [AV.keys, AC.keys, AC.keys0] at hj; exact .inr (by simp [hj])
    ·simp only [StepD, he n (by simp [opsI]), hp, hfr2 k rfl hfr]; exact ⟨h1, h2, hK⟩
   ·exact h.elim
  ·rename_i k kk m n' f' hs' hp
   split at h
   ·rename_i hfr
    obtain ⟨h1, h2, h4⟩ := h
    refine ⟨_, _, h4, by simp, fun v hv j hj => ?_, fun h0 => absurd rfl h0, fun s2 hs he hfr2 K2 hK => ?_⟩
    ·cases hv; simp [AV.keys, AC.keys, AC.keys0] at hj
    ·simp only [StepD, he n (by simp [opsI]), hp, hfr2 k rfl hfr]; exact ⟨h1, h2, hK⟩
   ·exact h.elim
  ·exact h.elim
 case alloc zero =>
  split at h
  ·rename_i k
   split at h
   ·rename_i hfr
    simp only [isPureI, List.isEmpty_iff] at hpi
    refine ⟨_, _, h, ?_, fun v hv j hj => ?_, fun _ t ht => by cases ht; exact hfr, fun s2 hs he hfr2 K2 hK => ?_⟩
    ·simp [Blk.keys, hpi]
    ·cases hv; simp [AV.keys, AC.keys, AC.keys0] at hj; exact .inr (by simp [hj])
    ·simp only [StepD, hfr2 k rfl hfr]; exact hK
   ·exact h.elim
  ·exact h.elim
 case sls x lo hi =>
  split at h
  ·rename_i l l' hs' hx
   split at h
   ·rename_i i j h1 h2
    exact .mk0 h.2.2 nk_str fun s2 hs he K2 hK => by
     have e1 : ∀ n, bnd gl s2 n lo = bnd gl s n lo := fun n => bnd_congr fun y hy => he y (by simp only [opsI, List.mem_cons, List.mem_append]; exact .inr (.inl hy))
     have e2 : ∀ n, bnd gl s2 n hi = bnd gl s n hi := fun n => bnd_congr fun y hy => he y (by simp only [opsI, List.mem_cons, List.mem_append]; exact .inr (.inr hy))
     simp only [StepD, Step, he x (by simp [opsI]), e1, e2, hx, h1, h2]; exact ⟨h.1, h.2.1, hK⟩
   ·exact h.elim
  ·exact h.elim
 case call f xs =>
  split at h
  ·rename_i vs v hs' hx
   obtain ⟨h1, hv, h2⟩ := callD_par (hcl rfl) h (evs_keys xs hU hx)
   exact .mk0 h1 (by rw [hv]; simp) fun s2 hs he K2 hK => by simp only [StepD, evs_congr (gl := gl) xs he, hx]; exact h2 s2 hs _ hK
  ·exact h.elim
 case cald x xs =>
  split at h
  ·rename_i f cap vs v hs' hf hx
   split at h
   ·rename_i hnc
    have hc : ∀ c ∈ vs ++ cap.map .c, ∀ k ∈ c.keys, U k := fun c hc k hk => by
     rcases List.mem_append.1 hc with hc | hc
     ·exact evs_keys xs (fun y hy => hU y (by simp [opsI, hy])) hx c hc k hk
     ·obtain ⟨q, hq, rfl⟩ := List.mem_map.1 hc
      refine hU x (by simp [opsI]) _ hf k (List.mem_flatMap.2 ⟨q, hq, ?_⟩)
      have h1 := List.all_eq_true.1 hnc q hq
      have h2 : k ∈ q.keys := hk
      rwa [keys0_clo (fun f c e => by subst e; simp [AC.nclo] at h1)] at h2
    obtain ⟨h1, hv, h2⟩ := callD_par (hcl rfl) h hc
    exact .mk0 h1 (by rw [hv]; simp) fun s2 hs he K2 hK => by simp only [StepD, he x (by simp [opsI]), evs_congr (gl := gl) xs (fun y hy => he y (by simp [opsI, hy])), hf, hx, hnc]; exact h2 s2 hs _ hK
   ·exact h.elim
  ·exact h.elim
 case ixs x i =>
  split at h
  ·rename_i l k j hx hi
   exact .mk0 h.2 nk_int fun s2 hs he K2 hK => by simp only [StepD, Step, he x (by simp [opsI]), he i (by simp [opsI]), hx, hi]; exact ⟨h.1, hK⟩
  ·exact h.elim
 case mx mx x y =>
  split at h
  ·rename_i k n k' m hx hy
   split at h
   ·rename_i hk
    exact .mk0 h nk_int fun s2 hs he K2 hK => by simp only [StepD, Step, he x (by simp [opsI]), he y (by simp [opsI]), hx, hy, if_pos hk]; exact hK
   ·exact h.elim
  ·exact h.elim
 case b2s x => exact absurd hpi Bool.false_ne_true
end
section
variable {P : Program} {gl : Nat → Option (List AC)} {N : Nat} {w0 : Wk} {Pr : PrT} {φ : Nat → Option (Option Nat)} {s s' : St} {a : Act} {w : World}
 {o : Oper} {hs : List Hint} {K : List Hint → St → Prop} {next : Act → World → Prop} {Q : Exit → Act → World → Prop}
theorem Sim.same (h : Sim gl N w0 Pr φ s a w) (he : ∀ t, s'.e t = s.e t) (hh : ∀ k, s'.h k = s.h k) (hu : ∀ k, k ∈ s.u → k ∈ s'.u) : Sim gl N w0 Pr φ s' a w where
 sz := h.sz
 tm t v ht := h.tm t v (by rw [← he]; exact ht)
 hp k blk hk := h.hp k blk (by rw [← hh]; exact hk)
 lv k hk := h.lv k (by rw [← hh]; exact hk)
 inj := h.inj
 ow k b blk hk := h.ow k b blk (by rw [← hh]; exact hk)
 ku k hk := hu k (h.ku k (by rw [← hh]; exact hk))
 ke t v ht k hk := hu k (h.ke t v (by rw [← he]; exact ht) k hk)
 kh k blk hk k' hk' := hu k' (h.kh k blk (by rw [← hh]; exact hk) k' hk')
 pr := h.pr
 gk := h.gk
 df := h.df
 bl := h.bl
 pn := h.pn.of (fun j _ _ hj => by rw [hh]; exact hj) fun j p _ _ hj => .inr hj
 ex := h.ex
theorem al_eff (s : St) (k : Nat) (b : Blk) (v : AV) : ((s.al k b).pu (some k) v) = s.eff (some k) ⟨some v, [(k, b)]⟩ := by
 simp only [St.al, St.pu, St.eff, lkB, List.map_cons, List.map_nil, List.cons_append, List.nil_append, St.mk.injEq, true_and, and_true]
 funext j
 cases Nat.beq j k <;> rfl
theorem Sim.born (h0 : ∀ j, s.h j ≠ none → j ∈ s.u) (h1 : ∀ t v, s.e t = some v → ∀ k ∈ v.keys, k ∈ s.u) (h2 : ∀ k blk, s.h k = some blk → ∀ k' ∈ blk.keys, k' ∈ s.u)
  {k wd n : Nat} {f : Nat → List AC} (hk : s.u.elem k = false) (h : Sim gl N w0 Pr φ ((s.al k (.arr wd n f false)).pu (some k) (.c (.own k wd 0 n))) a w) :
  ∃ Pr' φ', PrS w0 gl Pr Pr' ∧ Sim gl N w0 Pr' φ' (s.eff (some k) ⟨some (.c (.sl wd n f)), []⟩) a w := by
 have hk' := not_mem_of_elem hk
 have hhk : ((s.al k (.arr wd n f false)).pu (some k) (.c (.own k wd 0 n))).h k = some (.arr wd n f false) := by simp [St.pu, St.al, nbt]
 obtain ⟨Pr', hps, hfz, _, hs⟩ := h.fzk hhk (.inr ⟨wd, n, f, false, rfl, rfl⟩)
 have hek : (((s.al k (.arr wd n f false)).pu (some k) (.c (.own k wd 0 n))).sh k (.arr wd n f true)).e k = some (.c (.own k wd 0 n)) := by simp [St.pu, St.al, St.sh, nbt]
 obtain ⟨x, hx, hv⟩ := hs.tm k _ hek
 have hdr := hs.own_dr (n := n) (f := f) (off := 0) (len := n) (by simp [St.sh, nbt]) hv (by omega)
 have hd2 := hs.drop k
 refine ⟨Pr', fun j => if j = k then none else φ j, hps.1, ?_⟩
 have hE : ∀ t v, (s.eff (some k) ⟨some (.c (.sl wd n f)), []⟩).e t = some v → (t = k ∧ v = .c (.sl wd n f)) ∨ (t ≠ k ∧ s.e t = some v) := fun t v ht => by
  simp only [St.eff] at ht
  by_cases e : t = k
  ·subst e; simp only [nbt, cond_true, Option.some.injEq] at ht; exact .inl ⟨rfl, ht.symm⟩
  ·simp only [nbf e, cond_false] at ht; exact .inr ⟨e, ht⟩
 have hH : ∀ j, (s.eff (some k) ⟨some (.c (.sl wd n f)), []⟩).h j = s.h j := fun j => rfl
 have hH2 : ∀ j, ((((s.al k (.arr wd n f false)).pu (some k) (.c (.own k wd 0 n))).sh k (.arr wd n f true)).dr k).h j = s.h j := fun j => by
  by_cases e : j = k
  ·subst e
   simp only [St.dr, nbt, cond_true]
   cases hj : s.h j with
   | none => rfl
   | some b => exact absurd (h0 j (by rw [hj]; simp)) hk'
  ·simp [St.dr, St.sh, St.pu, St.al, nbf e]
 refine ⟨hd2.sz, fun t v ht => ?_, fun j blk hj => hd2.hp j blk (by rw [hH2, ← hH]; exact hj), fun j hj => hd2.lv j (by rw [hH2, ← hH]; exact hj), hd2.inj,
  fun j b blk hj => hd2.ow j b blk (by rw [hH2, ← hH]; exact hj), fun j hj => h0 j (by rw [← hH]; exact hj), fun t v ht q hq => ?_, fun j blk hj q hq => h2 j blk (by rw [← hH]; exact hj) q hq,
  hd2.pr, hd2.gk, hd2.df, hd2.bl, hd2.pn.of (fun j _ _ hj => by rw [hH, ← hH2]; exact hj) fun j p _ _ hj => .inr hj, hd2.ex⟩
 ·rcases hE t v ht with ⟨rfl, rfl⟩ | ⟨e, ht⟩
  ·exact ⟨x, hx, (KR.of_dr (φ := fun j => if j = t then none else φ j) hdr).1⟩
  ·refine hd2.tm t v ?_
   simp [St.dr, St.sh, St.pu, St.al, nbf e, ht]
 ·rcases hE t v ht with ⟨rfl, rfl⟩ | ⟨e, ht⟩
  ·simp [AV.keys, AC.keys, AC.keys0] at hq
  ·exact h1 t v ht q hq
theorem frC_isD {c : AC} (h : c.isD = true) {K : AC → St → Prop} (hK : K c s) : frC s c K := by
 cases c <;> first | exact hK | (simp [AC.isD] at h)
theorem frCs_isD : ∀ (cs : List AC) {K : List AC → St → Prop}, (cs.all AC.isD) = true → K cs s → frCs s cs K
 | [], K, _, hK => hK
 | c :: r, K, h, hK => by
  simp only [List.all_cons, Bool.and_eq_true] at h
  exact frC_isD h.1 (frCs_isD r h.2 hK)
theorem frPartsC_isD : ∀ (cs : List (List AC)) {K : List (List AC) → St → Prop}, (cs.all fun p => p.all AC.isD) = true → K cs s → frPartsC s cs K
 | [], K, _, hK => hK
 | c :: r, K, h, hK => by
  simp only [List.all_cons, Bool.and_eq_true] at h
  exact frCs_isD c h.1 (frPartsC_isD r h.2 hK)
theorem frP_nk {c : AC} {K : AC → St → Prop} (h : frP s c K) (hk : c.keys0 = []) : ∃ c', K c' s ∧ ∀ K2 : AC → St → Prop, K2 c' s → frP s c K2 := by
 cases c <;> first | exact ⟨_, h, fun K2 h2 => h2⟩ | (simp [AC.keys0] at hk; done) | exact h.elim
theorem frPs_nk : ∀ (cs : List AC) {K : List AC → St → Prop}, frPs s cs K → cs.flatMap AC.keys0 = [] → ∃ c', K c' s ∧ ∀ K2 : List AC → St → Prop, K2 c' s → frPs s cs K2
 | [], K, h, hk => ⟨[], h, fun K2 h2 => h2⟩
 | c :: r, K, h, hk => by
  simp only [List.flatMap_cons, List.append_eq_nil_iff] at hk
  obtain ⟨c', h1, h2⟩ := frP_nk h hk.1
  obtain ⟨r', h3, h4⟩ := frPs_nk r h1 hk.2
  exact ⟨_, h3, fun K2 hK => h2 _ (h4 _ hK)⟩
theorem frF_nk {c : AC} {K : AC → St → Prop} (h : frF s c K) (hk : c.keys = []) : ∃ c', K c' s ∧ ∀ K2 : AC → St → Prop, K2 c' s → frF s c K2 := by
 cases c <;> first
  | exact ⟨_, h, fun K2 h2 => h2⟩
  | (simp [AC.keys, AC.keys0] at hk; done)
  | (obtain ⟨c', h1, h2⟩ := frPs_nk _ h hk; exact ⟨_, h1, fun K2 hK => h2 _ hK⟩)
theorem frV_nk {v : AV} {K : AV → St → Prop} (h : frV s v K) (hk : v.keys = []) : ∃ c', K c' s ∧ ∀ K2 : AV → St → Prop, K2 c' s → frV s v K2 := by
 cases v with
 | c x => obtain ⟨c', h1, h2⟩ := frF_nk (show frF s x fun x' s' => K (.c x') s' from h) hk; exact ⟨_, h1, fun K2 hK => h2 _ hK⟩
 | agg xs =>
  unfold frV at h
  simp only [hk] at h
  exact ⟨_, h, fun K2 hK => by unfold frV; simp only [hk]; exact hK⟩
 | tup xs => exact h.elim
theorem frVs_nk : ∀ (cs : List AV) {K : List AV → St → Prop}, frVs s cs K → cs.flatMap AV.keys = [] → ∃ c', K c' s ∧ ∀ K2 : List AV → St → Prop, K2 c' s → frVs s cs K2
 | [], K, h, hk => ⟨[], h, fun K2 h2 => h2⟩
 | c :: r, K, h, hk => by
  simp only [List.flatMap_cons, List.append_eq_nil_iff] at hk
  obtain ⟨c', h1, h2⟩ := frV_nk h hk.1
  obtain ⟨r', h3, h4⟩ := frVs_nk r h1 hk.2
  exact ⟨_, h3, fun K2 hK => h2 _ (h4 _ hK)⟩
theorem frC_mono {c : AC} {K K2 : AC → St → Prop} (h : frC s c K) (hk : ∀ c s, K c s → K2 c s) : frC s c K2 := by
 cases c with
 | own k wd off len =>
  simp only [frC] at h ⊢
  split at h
  ·split at h
   ·rename_i hw; rw [if_pos hw]; exact ⟨h.1, hk _ _ h.2⟩
   ·exact h.elim
  ·exact h.elim
 | pk => exact h.elim
 | pa => exact h.elim
 | clo => exact h.elim
 | _ => exact hk _ _ h
theorem frCs_mono : ∀ (cs : List AC) {s : St} {K K2 : List AC → St → Prop}, frCs s cs K → (∀ c s, K c s → K2 c s) → frCs s cs K2
 | [], s, K, K2, h, hk => hk _ _ h
 | c :: r, s, K, K2, h, hk => frC_mono (K := _) h fun _ _ h => frCs_mono r h fun _ _ h => hk _ _ h
theorem frP_mono {c : AC} {K K2 : AC → St → Prop} (h : frP s c K) (hk : ∀ c s, K c s → K2 c s) : frP s c K2 := by
 cases c with
 | pk k i =>
  simp only [frP] at h ⊢
  split at h
  ·exact frCs_mono _ h fun _ _ h => hk _ _ h
  ·exact h.elim
 | own k wd off len => exact frC_mono (c := .own k wd off len) h hk
 | pa => exact h.elim
 | clo => exact h.elim
 | _ => exact hk _ _ h
theorem frPs_mono : ∀ (cs : List AC) {s : St} {K K2 : List AC → St → Prop}, frPs s cs K → (∀ c s, K c s → K2 c s) → frPs s cs K2
 | [], s, K, K2, h, hk => hk _ _ h
 | c :: r, s, K, K2, h, hk => frP_mono (K := _) h fun _ _ h => frPs_mono r h fun _ _ h => hk _ _ h
theorem frF_mono {c : AC} {K K2 : AC → St → Prop} (h : frF s c K) (hk : ∀ c s, K c s → K2 c s) : frF s c K2 := by
 cases c with
 | clo f cap => exact frPs_mono cap (K := fun cap' s' => K (.clo f cap') s') h fun _ _ h => hk _ _ h
 | own k wd off len => exact frC_mono (c := .own k wd off len) h hk
 | pk k i => exact frP_mono (c := .pk k i) h hk
 | pa => exact h.elim
 | _ => exact hk _ _ h
theorem frFs_mono : ∀ (cs : List AC) {s : St} {K K2 : List AC → St → Prop}, frFs s cs K → (∀ c s, K c s → K2 c s) → frFs s cs K2
 | [], s, K, K2, h, hk => hk _ _ h
 | c :: r, s, K, K2, h, hk => frF_mono (K := _) h fun _ _ h => frFs_mono r h fun _ _ h => hk _ _ h
theorem frV_mono {v : AV} {K K2 : AV → St → Prop} (h : frV s v K) (hk : ∀ c s, K c s → K2 c s) : frV s v K2 := by
 cases v with
 | c x => exact frF_mono (show frF s x fun x' s' => K (.c x') s' from h) fun _ _ h => hk _ _ h
 | agg xs =>
  unfold frV at h ⊢
  cases hx : (AV.agg xs).keys with
  | nil => simp only [hx] at h ⊢; exact hk _ _ h
  | cons q r => simp only [hx] at h ⊢; exact frFs_mono _ h fun _ _ h => hk _ _ h
 | tup xs => exact h.elim
theorem frVs_mono : ∀ (cs : List AV) {s : St} {K K2 : List AV → St → Prop}, frVs s cs K → (∀ c s, K c s → K2 c s) → frVs s cs K2
 | [], s, K, K2, h, hk => hk _ _ h
 | c :: r, s, K, K2, h, hk => frV_mono (K := _) h fun _ _ h => frVs_mono r h fun _ _ h => hk _ _ h
theorem frMs_no {s : St} : ∀ {vs : List AV} {K : List AV → St → Prop}, vs.all AV.nclo = true → frMs s vs K = K vs s
 | [], K, _ => rfl
 | v :: r, K, h => by
  simp only [List.all_cons, Bool.and_eq_true] at h
  cases v with
  | c c =>
   cases c
   case clo f cap =>
    cases cap with
    | nil => simp only [frMs, frF, frPs]; exact frMs_no (K := fun r' s'' => K (_ :: r') s'') h.2
    | cons => simp [AV.nclo] at h
   all_goals (simp only [frMs]; exact frMs_no (K := fun r' s'' => K (_ :: r') s'') h.2)
  | _ => simp only [frMs]; exact frMs_no (K := fun r' s'' => K (_ :: r') s'') h.2
theorem callI_of_D {d : Option Nat} {f : FuncId} {vs : List AV} {v : AV} {K : St → Prop} (h : callD P gl d f vs v s K) : callI P gl d f vs v s K := by
 unfold callD at h
 unfold callI
 cases hv : v.isS with
 | true =>
  simp only [hv] at h ⊢
  exact frVs_mono vs h fun ds s' h => ⟨h.1, h.2.2.2⟩
 | false =>
  simp only [hv] at h ⊢
  have hnk : vs.flatMap AV.keys = [] := by
   obtain ⟨ds, s', ⟨_, h1, _⟩, _⟩ := frVs_par (U := fun _ => True) vs (fun _ _ _ _ _ _ => trivial) h (fun _ _ _ _ => trivial)
   exact h1
  obtain ⟨ds, h1, h2⟩ := frVs_nk vs h hnk
  exact h2 _ ⟨h1.1, h1.2.2.2⟩
theorem stepD_sound {io : Ins} (hc : compI P o = some io) (h : Sim gl N w0 Pr φ s a w) (hd : ∀ t, o.dst = some t → t < N) (hst : StepD P gl o.dst io hs s K) (ha : After gl N w0 Pr K next) : o.wp P a w next Q := by
 cases io <;> first | exact comp_sound hc h hd hst ha | exact hst.elim | skip
 case len x =>
  refine comp_sound (hs := hs) hc h hd ?_ ha
  simp only [StepD, Step] at hst ⊢
  split at hst
  ·exact fun _ => hst
  ·split at hst
   ·split at hst
    ·rename_i hw; rw [if_pos hw]; exact fun _ => hst
    ·exact hst.elim
   ·exact hst.elim
  ·exact hst
  ·exact fun _ => hst
  ·exact fun _ => hst
  ·exact hst.elim
 case load wd agg x =>
  refine comp_sound (hs := hs) hc h hd ?_ ha
  simp only [StepD, Step] at hst ⊢
  split at hst
  ·split at hst
   ·exact hst.2
   ·exact hst.elim
  ·exact hst
  ·split at hst
   ·split at hst
    ·rename_i hw
     rw [if_pos hw]
     obtain ⟨h0, h1⟩ := hst
     refine ⟨h0, ?_⟩
     split at h1
     ·exact h1.2
     ·exact h1.elim
    ·exact hst.elim
   ·exact hst.elim
  ·exact hst
  ·exact hst.elim
 case alloc zero =>
  refine comp_sound (hs := hs) hc h hd ?_ ha
  simp only [StepD, Step] at hst ⊢
  split at hst
  ·rename_i hd'
   split at hst
   ·rw [hd', al_eff]; exact hst
   ·exact hst.elim
  ·exact hst.elim
 case bsl wd parts =>
  simp only [StepD] at hst
  split at hst
  ·rename_i k ps n f' hs' hd' hp
   split at hst
   ·rename_i hf
    obtain ⟨h1, h2, h3, h4⟩ := hst
    subst h1
    refine comp_sound (hs := .fn ps.length f' :: hs') hc h hd ?_ ha
    simp only [Step, hd', hp, hf]
    exact frPartsC_isD ps h2 ⟨rfl, h3, by rw [al_eff]; exact h4⟩
   ·exact hst.elim
  ·rename_i k ps n f' hs' hd' hp
   split at hst
   ·rename_i hf
    obtain ⟨h1, h2, h3, h4⟩ := hst
    subst h1
    refine comp_sound (hs := .fn ps.length f' :: hs') (K := fun hs'' s'' => hs'' = hs' ∧ s'' = (s.al k (.arr wd ps.length f' false)).pu (some k) (.c (.own k wd 0 ps.length))) hc h hd ?_ ?_
    ·simp only [Step, hd', hp, hf]
     exact frPartsC_isD ps h2 ⟨rfl, h3, by first | exact ⟨rfl, rfl⟩ | exact ⟨trivial, rfl⟩⟩
    ·intro hs'' s'' Pr' φ' a' w' he hsim hps
     obtain ⟨rfl, rfl⟩ := he
     obtain ⟨Pr'', φ'', hps', hsim'⟩ := Sim.born h.ku h.ke h.kh hf hsim
     exact ha _ _ _ _ _ _ h4 hsim' (hps.trans hps')
   ·exact hst.elim
  ·exact hst.elim
 case msl wd bytes zero n =>
  simp only [StepD] at hst
  split at hst
  ·rename_i k kk m n' f' hs' hd' hp
   split at hst
   ·rename_i hf
    obtain ⟨h1, h3, h4⟩ := hst
    refine comp_sound (hs := .fn n' f' :: hs') hc h hd ?_ ha
    simp only [Step, hd', hp, hf]
    exact ⟨h1, h3, by rw [al_eff]; exact h4⟩
   ·exact hst.elim
  ·rename_i k kk m n' f' hs' hd' hp
   split at hst
   ·rename_i hf
    obtain ⟨h1, h3, h4⟩ := hst
    refine comp_sound (hs := .fn n' f' :: hs') (K := fun hs'' s'' => hs'' = hs' ∧ s'' = (s.al k (.arr wd n' f' false)).pu (some k) (.c (.own k wd 0 n'))) hc h hd ?_ ?_
    ·simp only [Step, hd', hp, hf]
     exact ⟨h1, h3, trivial, trivial⟩
    ·intro hs'' s'' Pr' φ' a' w' he hsim hps
     obtain ⟨rfl, rfl⟩ := he
     obtain ⟨Pr'', φ'', hps', hsim'⟩ := Sim.born h.ku h.ke h.kh hf hsim
     exact ha _ _ _ _ _ _ h4 hsim' (hps.trans hps')
   ·exact hst.elim
  ·exact hst.elim
 case call f xs =>
  simp only [StepD] at hst
  split at hst
  ·rename_i vs v hs' hvs
   refine comp_sound (hs := .res v :: hs') hc h hd ?_ ha
   simp only [Step, hvs]; exact callI_of_D hst
  ·exact hst.elim
 case cald x xs =>
  refine comp_sound (hs := hs) hc h hd ?_ ha
  simp only [StepD, Step] at hst ⊢
  split at hst
  ·split at hst
   ·exact callI_of_D hst
   ·exact hst.elim
  ·exact hst.elim
end
end Go.Proofs.YtjlabdoeiphegaaGreatDoor.Ab
