/- An abstract walk through a function's code: regions, loops, contracts, arguments read as data (second part); no condition. -/
import Derived.Test.YtfmeidhialmckaaGreatDoorAbCore1
import Derived.Carry
import Derived.RowKit
import Derived.OpenVars
import Derived.OpenShut
import Derived.LaidMore
import Derived.LaidOnce
import Derived.LaidLaws
set_option linter.unusedVariables false
set_option linter.unusedSimpArgs false
namespace Go.Proofs.YtfmeidhialmckaaGreatDoor.Ab
open Go Go.RowKit

theorem foldl_push (l : List UInt8) : ∀ s : ByteArray, (l.map fun b => (b.toNat : Int)).foldl (fun r n => r.push (UInt8.ofNat n.toNat)) s = ⟨(s.data.toList ++ l).toArray⟩ := by
  induction l with
  | nil => intro s; simp
  | cons b r ih =>
    intro s
    simp only [List.map_cons, List.foldl_cons, ih]
    simp [ByteArray.push, UInt8.ofNat_toNat]

section
variable {P : Program} {gl : Nat → Option (List AC)} {N : Nat} {w0 : World} {Pr : Nat → Prop} {φ : Nat → Option (Option Nat)} {s : St} {a : Act} {w : World}
  {o : Oper} {hs : List Hint} {K : List Hint → St → Prop} {next : Act → World → Prop} {Q : Exit → Act → World → Prop}

theorem step_b2s {src dst e : TypeId} {x : Operand} {x' : Opd} (ho : o.op = .convert src dst x) (hs1 : P.underlying src = some (.slice e)) (hs2 : P.underlying e = some (.int .u8)) (hs3 : P.underlying dst = some .string) (hx : cO x = some x')
    (h : Sim gl N w0 Pr φ s a w) (hd : ∀ t, o.dst = some t → t < N) (hst : Step P gl o.dst (.b2s x') hs s K) (ha : After gl N w0 Pr K next) : o.wp P a w next Q := by
  simp only [Step] at hst
  split at hst
  · rename_i k n l hs' hxv
    obtain ⟨hv, _⟩ := ev_sound h hx hxv
    split at hst
    · rename_i m f z hb
      obtain ⟨hnm, hl, hf, hst⟩ := hst
      have fin : (convert src dst (a.eval x)).run P w = .ok (.string ⟨l.toArray⟩) w → o.wp P a w next Q := fun hr =>
        fin_str h hd (by simp only [execOp, ho, Sem.run_bind, hr, Result.andThen_ok, Sem.run_pure]) hst ha
      rcases hv.own_inv h hb with ⟨hfk, hex, hn0, _, _⟩ | ⟨b, arr, T, cap, hfk, hex, hn, hcap, hh, hB⟩
      · have : l = [] := List.eq_nil_of_length_eq_zero (by omega)
        subst this
        apply fin
        rw [hex, run_convert_bytes_string w src dst e none 0 0 hs1 hs2 hs3]
        rfl
      · obtain ⟨_, hB | ⟨b', arr', T', e1, hh', hnsz, hamx, hel⟩⟩ := hB
        · cases hB.1
        · cases e1
          rw [hh] at hh'
          cases hh'
          apply fin
          rw [hex, run_convert_bytes_string w src dst e _ n cap hs1 hs2 hs3]
          have hcells : (loadCells (⟨b, 0 * 1, none⟩ : Addr) n).run P w = .ok ((l.map fun b => (b.toNat : Int)).map (Value.int .u8)).toArray w := by
            rw [run_loadCells w _ n (fun j => .int .u8 ((l.getD j 0).toNat : Int)) (fun j hj => by
              obtain ⟨h1, h2⟩ := hel j (by omega)
              rw [hf j hj] at h2
              obtain ⟨v, h3, h4⟩ := h2 0 _ rfl
              rw [Addr.add_flat, cell_flat hh, show 0 * 1 + j = j * 1 + 0 by omega, h3]
              cases h4; rfl)]
            congr 2
            apply List.ext_getElem?
            intro j
            by_cases hj : j < n
            · rw [List.getElem?_map, List.getElem?_range hj]
              have hj' : j < l.length := by omega
              simp [List.getD, hj']
            · rw [List.getElem?_eq_none (by simp; omega), List.getElem?_eq_none (by simp; omega)]
          rw [run_bytesToString w _ n cap _ hcells, foldl_push]
          rfl
    · exact hst.elim
  · exact hst.elim

theorem cOs_one {xs : Array Operand} {x' : Opd} (h : cOs xs = some [x']) : ∃ x, xs = #[x] ∧ cO x = some x' := by
  unfold cOs at h
  obtain ⟨l⟩ := xs
  simp only at h
  match l with
  | [] => simp at h
  | [x] => simp [Option.bind_eq_some_iff] at h; exact ⟨x, rfl, h⟩
  | x :: y :: r => simp [Option.bind_eq_some_iff] at h

theorem cOs_two {xs : Array Operand} {x' y' : Opd} (h : cOs xs = some [x', y']) : ∃ x y, xs = #[x, y] ∧ cO x = some x' ∧ cO y = some y' := by
  unfold cOs at h
  obtain ⟨l⟩ := xs
  simp only at h
  match l with
  | [] => simp at h
  | [x] => simp [Option.bind_eq_some_iff] at h
  | [x, y] => simp [Option.bind_eq_some_iff] at h; exact ⟨x, y, rfl, h.1, h.2⟩
  | x :: y :: z :: r => simp [Option.bind_eq_some_iff] at h

/-- Every operation that is taken does what its step says. -/
theorem comp_sound {io : Ins} (hc : compI P o = some io) (h : Sim gl N w0 Pr φ s a w) (hd : ∀ t, o.dst = some t → t < N) (hst : Step P gl o.dst io hs s K) (ha : After gl N w0 Pr K next) : o.wp P a w next Q := by
  cases hop : o.op <;> simp only [compI, hop, Option.bind_eq_bind, Option.bind_eq_some_iff, Option.map_eq_some_iff, reduceCtorEq] at hc
  case move x => obtain ⟨y, hy, rfl⟩ := hc; exact step_mv (.inl hop) hy h hd hst ha
  case assign x => obtain ⟨y, hy, rfl⟩ := hc; exact step_mv (.inr hop) hy h hd hst ha
  case pick c x y => obtain ⟨c', hc', x', hx', y', hy', hc⟩ := hc; cases hc; exact step_pick hop hc' hx' hy' h hd hst ha
  case binOp op t x y t' =>
    obtain ⟨x', hx', y', hy', hc⟩ := hc
    split at hc <;> first | cases hc | skip
    · rename_i hu; exact step_bqe hop (.inl ⟨rfl, rfl⟩) hx' hy' hu h hd hst ha
    · rename_i hu; exact step_bqe hop (.inr ⟨rfl, rfl⟩) hx' hy' hu h hd hst ha
    · rename_i hu; obtain ⟨ks, hk, rfl⟩ := Option.map_eq_some_iff.1 hc; exact step_eqa hop (.inl ⟨rfl, rfl⟩) hx' hy' hu hk h hd hst ha
    · rename_i hu; obtain ⟨ks, hk, rfl⟩ := Option.map_eq_some_iff.1 hc; exact step_eqa hop (.inr ⟨rfl, rfl⟩) hx' hy' hu hk h hd hst ha
    · exact step_bin hop hx' hy' h hd hst ha
    · exact step_bin hop hx' hy' h hd hst ha
  case unOp op t x =>
    cases op <;> simp only [Option.map_eq_some_iff, reduceCtorEq] at hc
    · obtain ⟨x', hx', rfl⟩ := hc; exact step_neg hop hx' h hd hst ha
    · obtain ⟨x', hx', rfl⟩ := hc; exact step_not hop hx' h hd hst ha
  case convert src dst x =>
    obtain ⟨x', hx', hc⟩ := hc
    split at hc <;> first | cases hc | skip
    · rename_i h1 h2; exact step_conv hop h1 h2 hx' h hd hst ha
    · rename_i h1 h2
      split at hc <;> first | cases hc | skip
      rename_i h3; exact step_b2s hop h1 h3 h2 hx' h hd hst ha
  case field t x i =>
    obtain ⟨x', hx', hc⟩ := hc
    split at hc <;> first | cases hc | skip
    rename_i fs hu
    split at hc <;> first | cases hc | skip
    rename_i f hf
    split at hc <;> first | cases hc | skip
    rename_i g hg
    split at hc <;> first | cases hc | skip
    rename_i hi; exact step_fld hop hx' hu hf hg hi h hd hst ha
  case fieldAddr t x i =>
    obtain ⟨x', hx', hc⟩ := hc
    split at hc <;> first | cases hc | skip
    rename_i fs hu
    split at hc <;> first | cases hc | skip
    rename_i f hf
    split at hc <;> first | cases hc | skip
    rename_i hi; exact step_fad hop hx' hu hf hi h hd hst ha
  case indexAddr t x i =>
    obtain ⟨x', hx', i', hi', hc⟩ := hc
    split at hc <;> first | cases hc | skip
    · rename_i e hu
      split at hc <;> first | cases hc | skip
      rename_i hz; exact step_iad hop hx' hi' hu hz h hd hst ha
    · rename_i n e hu
      split at hc <;> first | cases hc | skip
      rename_i hz; exact step_iar hop hx' hi' hu hz h hd hst ha
  case index t x i =>
    obtain ⟨x', hx', i', hi', hc⟩ := hc
    split at hc <;> first | cases hc | skip
    rename_i hu; exact step_ixs hop hx' hi' hu h hd hst ha
  case load t x =>
    obtain ⟨x', hx', hc⟩ := hc
    split at hc <;> first | cases hc | skip
    rename_i g hg
    split at hc <;> first | cases hc | skip
    rename_i hi; exact step_load hop hx' hg hi h hd hst ha
  case store t x y =>
    obtain ⟨x', hx', y', hy', hc⟩ := hc
    split at hc <;> first | cases hc | skip
    rename_i hi; exact step_store hop hx' hy' hi.1 (by simpa using hi.2) h hd hst ha
  case build t parts =>
    obtain ⟨z, hz, hc⟩ := hc
    split at hc <;> first | cases hc | skip
    · rename_i fs hu
      split at hc <;> first | cases hc | skip
      rename_i hall
      simp only [Option.map_eq_some_iff] at hc
      obtain ⟨ps, hps, rfl⟩ := hc
      exact step_build hop hz (.inl ⟨fs, hu, fun f hf => Array.all_eq_true_iff_forall_mem.1 hall f (Array.mem_toList_iff.1 hf), hps⟩) h hd hst ha
    · rename_i n e hu
      split at hc <;> first | cases hc | skip
      rename_i hie
      simp only [Option.map_eq_some_iff] at hc
      obtain ⟨ps, hps, rfl⟩ := hc
      exact step_build hop hz (.inr ⟨n, e, hu, hps, hie⟩) h hd hst ha
  case buildSlice t len parts =>
    split at hc <;> first | cases hc | skip
    rename_i e hu
    simp only [Option.bind_eq_some_iff] at hc
    obtain ⟨z, hz, ps, hps, hc⟩ := hc
    split at hc <;> first | cases hc | skip
    rename_i hh
    exact step_bsl hop hu hz hps hh.1 hh.2.1 hh.2.2.1 hh.2.2.2 h hd hst ha
  case makeSlice t l c =>
    obtain ⟨l', hl', c', hc', hc⟩ := hc
    split at hc <;> first | cases hc | skip
    rename_i e hu
    simp only [Option.bind_eq_some_iff] at hc
    obtain ⟨z, hz, hc⟩ := hc
    split at hc <;> first | cases hc | skip
    rename_i hh
    split at hc <;> first | cases hc | skip
    · rename_i i j
      split at hc <;> first | cases hc | skip
      rename_i hij
      subst hij
      have e1 : l = .tmp i := by cases l <;> simp [cO] at hl' <;> first | (subst hl'; rfl) | (unfold cV at hl'; split at hl' <;> cases hl')
      have e2 : c = .tmp i := by cases c <;> simp [cO] at hc' <;> first | (subst hc'; rfl) | (unfold cV at hc'; split at hc' <;> cases hc')
      exact step_msl hop hu hz hl' (by rw [e1, e2]) hh.1 hh.2.1 hh.2.2 h hd hst ha
    · rename_i i j
      split at hc <;> first | cases hc | skip
      rename_i hij
      subst hij
      have e1 : l = .const (.int .i64 i) := by cases l <;> simp [cO] at hl'; (unfold cV at hl'; split at hl' <;> cases hl'; rfl)
      have e2 : c = .const (.int .i64 i) := by cases c <;> simp [cO] at hc'; (unfold cV at hc'; split at hc' <;> cases hc'; rfl)
      exact step_msl hop hu hz hl' (by rw [e1, e2]) hh.1 hh.2.1 hh.2.2 h hd hst ha
  case alloc e => obtain ⟨z, hz, rfl⟩ := hc; exact step_alloc hop hz h hd hst ha
  case box e x => obtain ⟨x', hx', hc⟩ := hc; cases hc; exact step_box hop hx' h hd hst ha
  case slice t x lo hi mx =>
    cases mx <;> simp only [Option.bind_eq_some_iff, reduceCtorEq] at hc
    obtain ⟨x', hx', lo', hlo', hi', hhi', hc⟩ := hc
    split at hc <;> first | cases hc | skip
    · rename_i hu; exact step_sls hop hx' hlo' hhi' hu h hd hst ha
    · rename_i e hu
      split at hc <;> first | cases hc | skip
      rename_i hz; exact step_slc hop hx' hlo' hhi' hu hz h hd hst ha
  case makeFunc f first captured =>
    cases f <;> simp only [Option.bind_eq_some_iff, reduceCtorEq] at hc
    obtain ⟨xs, hxs, hc⟩ := hc
    split at hc <;> first | cases hc | skip
    rename_i hz; exact step_clo hop hz hxs h hd hst ha
  case extract x i => obtain ⟨x', hx', rfl⟩ := hc; exact step_ext hop hx' h hd hst ha
  case call c =>
    obtain ⟨xs, hxs, hc⟩ := hc
    split at hc <;> first | cases hc | skip
    · rename_i f hcal; exact step_call hop hcal hxs h hd hst ha
    · rename_i t hcal; exact step_cald hop hcal hxs h hd hst ha
    · rename_i hcal
      split at hc <;> first | cases hc | skip
      · rename_i x' ht
        obtain ⟨x, e1, e2⟩ := cOs_one hxs
        obtain ⟨t, h1, h2⟩ := Option.bind_eq_some_iff.1 ht
        exact step_lens hop hcal e1 e2 h1 h2 h hd hst ha
      · rename_i x' e ht
        obtain ⟨x, e1, e2⟩ := cOs_one hxs
        obtain ⟨t, h1, h2⟩ := Option.bind_eq_some_iff.1 ht
        exact step_len hop hcal e1 e2 h1 h2 h hd hst ha
    · rename_i hcal
      split at hc <;> first | cases hc | skip
      rename_i x' y' t t' hts
      split at hc <;> first | cases hc | skip
      rename_i e hu
      simp only [Option.bind_eq_some_iff] at hc
      obtain ⟨z, hz, hc⟩ := hc
      split at hc <;> first | cases hc | skip
      rename_i hh
      obtain ⟨rfl, h1, h2, h3⟩ := hh
      obtain ⟨x, y, e1, e2, e3⟩ := cOs_two hxs
      exact step_app hop hcal e1 (by apply Array.ext'; simpa using hts) e2 e3 hu hz h1 h2 h3 h hd hst ha
    · rename_i hcal
      split at hc <;> first | cases hc | skip
      obtain ⟨x, y, e1, e2, e3⟩ := cOs_two hxs
      exact step_mx (mx := true) hop hcal e1 e2 e3 h hd hst ha
    · rename_i hcal
      split at hc <;> first | cases hc | skip
      obtain ⟨x, y, e1, e2, e3⟩ := cOs_two hxs
      exact step_mx (mx := false) hop hcal e1 e2 e3 h hd hst ha
end
end Go.Proofs.YtfmeidhialmckaaGreatDoor.Ab

namespace Go.Proofs.YtfmeidhialmckaaGreatDoor.Ab
open Go Go.RowKit

section
variable {P : Program} {gl : Nat → Option (List AC)} {N : Nat} {w0 : World} {Pr : Nat → Prop} {φ : Nat → Option (Option Nat)} {s : St} {a : Act} {w : World}
  {o : Oper} {hs : List Hint} {K : List Hint → St → Prop} {next : Act → World → Prop} {Q : Exit → Act → World → Prop}

theorem compO_inv {ops : Array Oper} {io : IOp} (h : compO P N ops o = some io) : compI P o = some io.i ∧ guardOf ops o.guard = some io.g ∧ io.d = o.dst ∧ ∀ t, o.dst = some t → t < N := by
  unfold compO at h
  split at h
  · rename_i i g hi hg
    split at h
    · rename_i d hd
      split at h
      · rename_i hlt
        cases h
        exact ⟨hi, hg, hd.symm, fun t ht => by rw [hd] at ht; cases ht; exact hlt⟩
      · cases h
    · rename_i hd
      cases h
      exact ⟨hi, hg, hd.symm, fun t ht => by rw [hd] at ht; cases ht⟩
  · cases h

/-- Whether a guarded operation is carried out. -/
theorem wanted_of (h : Sim gl N w0 Pr φ s a w) {ops : Array Oper} {g : Option (Nat × Bool)} (hg : guardOf ops o.guard = some g) :
    (g = none → Region.wanted o (yielded ops a.tmps) = true) ∧ ∀ t b c, g = some (t, b) → s.e t = some (.c (.bool c)) → Region.wanted o (yielded ops a.tmps) = (c == b) := by
  cases hgd : o.guard with
  | none =>
    rw [hgd] at hg
    simp only [guardOf, Option.some.injEq] at hg
    subst hg
    exact ⟨(fun _ => by simp [Region.wanted, hgd]), fun t b c he => by cases he⟩
  | some jb =>
    obtain ⟨j, b⟩ := jb
    rw [hgd] at hg
    simp only [guardOf] at hg
    split at hg
    · rename_i oj hoj
      split at hg
      · rename_i t ht
        simp only [Option.some.injEq] at hg
        subst hg
        refine ⟨(fun e => by cases e), fun t' b' c he hs => ?_⟩
        cases he
        have hv := (h.eval_tmp hs).1.bool_inv
        obtain ⟨x, h1, h2⟩ := h.tm t _ hs
        have hx := h2.bool_inv
        subst hx
        simp [Region.wanted, hgd, yielded, hoj, ht, h1]
      · cases hg
    · cases hg

/-- What was passed over leaves nothing that an operation could be told by. -/
theorem wanted_tup (h : Sim gl N w0 Pr φ s a w) {ops : Array Oper} {t : Nat} {b : Bool} (hg : guardOf ops o.guard = some (some (t, b))) {ps : List (Bool × List AC)} (hs : s.e t = some (.tup ps)) :
    Region.wanted o (yielded ops a.tmps) = false := by
  cases hgd : o.guard with
  | none => rw [hgd] at hg; simp [guardOf] at hg
  | some jb =>
    obtain ⟨j, b'⟩ := jb
    rw [hgd] at hg
    simp only [guardOf] at hg
    split at hg
    · rename_i oj hoj
      split at hg
      · rename_i t' ht
        simp only [Option.some.injEq, Prod.mk.injEq] at hg
        obtain ⟨rfl, rfl⟩ := hg
        obtain ⟨x, h1, h2⟩ := h.tm t' _ hs
        obtain ⟨g, h3, _⟩ := h2
        subst h3
        simp [Region.wanted, hgd, yielded, hoj, ht, h1]
      · cases hg
    · cases hg

theorem Sim.undef (h : Sim gl N w0 Pr φ s a w) {d : Option Nat} (hd : ∀ t, d = some t → t < N) : Sim gl N w0 Pr φ (s.pu d (.tup [])) (a.put d undef) w :=
  h.pu hd ⟨fun _ => Go.undef, rfl, by simp⟩ (by simp [AV.keys])

theorem seg_sound (ops : Array Oper) : ∀ (l : List Oper) (ios : List IOp) {hs : List Hint} {s : St} {Pr : Nat → Prop} {φ : Nat → Option (Option Nat)} {a : Act} {w : World}, l.mapM (compO P N ops) = some ios → SegP P gl ios hs s K → Sim gl N w0 Pr φ s a w →
    After gl N w0 Pr K (fun a w => Q .normal a w) → wpList P ops Q l a w
  | [], ios, hs, s, Pr, φ, a, w, hm, hst, h, ha => by
    simp at hm; subst hm
    exact ha hs s Pr φ a w hst h (PrS.refl _ _)
  | o :: r, ios, hs, s, Pr, φ, a, w, hm, hst, h, ha => by
    simp only [List.mapM_cons, Option.bind_eq_bind, Option.bind_eq_some_iff, Option.pure_def, Option.some.injEq] at hm
    obtain ⟨io, hio, ios', hios, rfl⟩ := hm
    obtain ⟨h1, h2, h3, h4⟩ := compO_inv hio
    obtain ⟨w1, w2⟩ := wanted_of h h2
    refine wpList_step fun K' hK' => ?_
    have go : ∀ hs, Step P gl o.dst io.i hs s (fun hs' s' => SegP P gl ios' hs' s' K) → o.wp P a w K' Q := fun _ hst' =>
      comp_sound h1 h h4 hst' fun hs' s' Pr' φ' a' w' k1 k2 k3 => hK' _ _ (seg_sound ops r ios' hios k1 k2 fun hs'' s'' Pr'' φ'' a'' w'' q1 q2 q3 => ha _ _ _ _ _ _ q1 q2 (k3.trans q3))
    simp only [SegP] at hst
    rw [h3] at hst
    split at hst
    · rename_i hg
      rw [if_pos (w1 hg)]
      exact go _ hst
    · rename_i t b hg
      split at hst
      · rename_i c v hs' hc
        obtain ⟨rfl, hst⟩ := hst
        have hw := w2 t b c hg hc
        split at hst
        · rw [if_pos (by rw [hw]; rfl)]; exact go _ hst
        · rw [if_pos (by rw [hw]; rfl)]; exact go _ hst
        · rename_i n1 n2
          have hne : (c == b) = false := by cases c <;> cases b <;> first | rfl | exact absurd rfl (n1 rfl) | exact absurd rfl (n2 rfl)
          rw [if_neg (by rw [hw, hne]; simp)]
          exact hK' _ _ (seg_sound ops r ios' hios hst (h.undef h4) ha)
      · rename_i ps hc
        rw [if_neg (by rw [wanted_tup h (hg ▸ h2) hc]; simp)]
        exact hK' _ _ (seg_sound ops r ios' hios hst (h.undef h4) ha)
      · exact hst.elim

/-- A straight region. -/
theorem region_sound {id : Nat} {ops : Array Oper} {ios : List IOp} (hm : ops.toList.mapM (compO P N ops) = some ios) (hst : SegP P gl ios hs s K) (h : Sim gl N w0 Pr φ s a w)
    (ha : After gl N w0 Pr K (fun a w => Q .normal a w)) : (Code.region id ops false).wp P Q a w :=
  wp_region_list (seg_sound ops ops.toList ios hm hst h ha)
end
end Go.Proofs.YtfmeidhialmckaaGreatDoor.Ab

namespace Go.Proofs.YtfmeidhialmckaaGreatDoor.Ab
open Go Go.RowKit

section
variable {P : Program} {gl : Nat → Option (List AC)}

/-- U holds what its blocks mention. -/
def Cl (U : Nat → Prop) (s : St) : Prop := ∀ k blk, U k → s.h k = some blk → ∀ j ∈ blk.keys, U j
/-- Two states agree at the keys in U. -/
def Ag (U : Nat → Prop) (s s2 : St) : Prop := ∀ k, U k → s2.h k = s.h k

theorem Ag.sh {U : Nat → Prop} {s s2 : St} (h : Ag U s s2) {k : Nat} {b : Blk} : Ag U (s.sh k b) (s2.sh k b) := fun j hj => by
  simp only [St.sh]; rw [h j hj]
theorem Cl.sh {U : Nat → Prop} {s : St} (h : Cl U s) {k : Nat} {b : Blk} (hb : ∀ j ∈ b.keys, U j) : Cl U (s.sh k b) := fun j blk hj hjb q hq => by
  simp only [St.sh] at hjb
  by_cases e : j = k
  · subst e; simp only [nbt, cond_true, Option.some.injEq] at hjb; subst hjb; exact hb q hq
  · simp only [nbf e, cond_false] at hjb; exact h j blk hj hjb q hq

theorem keys0_sub {c : AC} {k : Nat} (h : k ∈ c.keys0) : k ∈ c.keys := by
  cases c <;> first | exact h | simp [AC.keys0] at h

theorem keys0_clo {c : AC} (h : ∀ f cap, c ≠ .clo f cap) : c.keys = c.keys0 := by
  cases c <;> first | rfl | exact absurd rfl (h _ _)

theorem frC_par {U : Nat → Prop} {s : St} (hcl : Cl U s) {c : AC} {K : AC → St → Prop} (h : frC s c K) (hu : ∀ k ∈ c.keys0, U k) :
    ∃ c' s', K c' s' ∧ Cl U s' ∧ ∀ s2 : St, Ag U s s2 → ∀ K2 : AC → St → Prop, (∀ s3 : St, Ag U s' s3 → K2 c' s3) → frC s2 c K2 := by
  unfold frC at h
  split at h
  · rename_i k wd off len
    split at h
    · rename_i wd' n f z hb
      split at h
      · rename_i hwd
        obtain ⟨h1, h2⟩ := h
        refine ⟨_, _, h2, hcl.sh (by simp [Blk.keys]), fun s2 hs K2 hK => ?_⟩
        unfold frC
        simp only [hs k (hu k (by simp [AC.keys0])), hb, if_pos hwd]
        exact ⟨h1, hK _ hs.sh⟩
      · exact h.elim
    · exact h.elim
  · rename_i hne
    split at h
    · rename_i hd
      refine ⟨_, _, h, hcl, fun s2 hs K2 hK => ?_⟩
      unfold frC
      split
      · exact absurd rfl (hne _ _ _ _)
      · rw [hd]; exact hK _ hs
    · exact h.elim

theorem frCs_par {U : Nat → Prop} : ∀ (cs : List AC) {s : St} {K : List AC → St → Prop} (hcl : Cl U s) (h : frCs s cs K) (hu : ∀ c ∈ cs, ∀ k ∈ c.keys0, U k),
    ∃ c' s', K c' s' ∧ Cl U s' ∧ ∀ s2 : St, Ag U s s2 → ∀ K2 : List AC → St → Prop, (∀ s3 : St, Ag U s' s3 → K2 c' s3) → frCs s2 cs K2
  | [], s, K, hcl, h, hu => ⟨[], s, h, hcl, fun s2 hs K2 hK => hK s2 hs⟩
  | c :: r, s, K, hcl, h, hu => by
    obtain ⟨c', s', h1, hc1, h2⟩ := frC_par hcl h (hu c (by simp))
    obtain ⟨r', s'', h3, hc2, h4⟩ := frCs_par r hc1 h1 fun c hc => hu c (by simp [hc])
    exact ⟨_, _, h3, hc2, fun s2 hs K2 hK => h2 s2 hs _ fun s3 hs3 => h4 s3 hs3 _ hK⟩

theorem frP_par {U : Nat → Prop} {s : St} (hcl : Cl U s) {c : AC} {K : AC → St → Prop} (h : frP s c K) (hu : ∀ k ∈ c.keys0, U k) :
    ∃ c' s', K c' s' ∧ Cl U s' ∧ (∀ s2 : St, Ag U s s2 → ∀ K2 : AC → St → Prop, (∀ s3 : St, Ag U s' s3 → K2 c' s3) → frP s2 c K2) := by
  unfold frP at h
  split at h
  · rename_i k i
    have huk : U k := hu k (by simp [AC.keys0])
    split at h
    · rename_i cs z hb
      have hcs : ∀ c ∈ cs, ∀ k ∈ c.keys, U k := fun c hc k hk => hcl _ _ huk hb k (List.mem_flatMap.2 ⟨c, hc, hk⟩)
      obtain ⟨cs', s', h1, hc1, h2⟩ := frCs_par (U := U) cs hcl h (fun c hc k hk => hcs c hc k (keys0_sub hk))
      refine ⟨_, _, h1, hc1.sh (fun j hj => ?_), fun s2 hs K2 hK => ?_⟩
      · obtain ⟨c, hc, hk⟩ := List.mem_flatMap.1 hj
        exact hcs c hc j hk
      · unfold frP
        simp only [hs k huk, hb]
        exact h2 s2 hs _ fun s3 hs3 => hK _ hs3.sh
    · exact h.elim
  · rename_i hne
    obtain ⟨c', s', h1, hc1, h2⟩ := frC_par hcl h hu
    refine ⟨_, _, h1, hc1, fun s2 hs K2 hK => ?_⟩
    unfold frP
    split
    · exact absurd rfl (hne _ _)
    · exact h2 s2 hs K2 hK

theorem frPs_par {U : Nat → Prop} : ∀ (cs : List AC) {s : St} {K : List AC → St → Prop} (hcl : Cl U s) (h : frPs s cs K) (hu : ∀ c ∈ cs, ∀ k ∈ c.keys0, U k),
    ∃ c' s', K c' s' ∧ Cl U s' ∧ ∀ s2 : St, Ag U s s2 → ∀ K2 : List AC → St → Prop, (∀ s3 : St, Ag U s' s3 → K2 c' s3) → frPs s2 cs K2
  | [], s, K, hcl, h, hu => ⟨[], s, h, hcl, fun s2 hs K2 hK => hK s2 hs⟩
  | c :: r, s, K, hcl, h, hu => by
    obtain ⟨c', s', h1, hc1, h2⟩ := frP_par hcl h (hu c (by simp))
    obtain ⟨r', s'', h3, hc2, h4⟩ := frPs_par r hc1 h1 fun c hc => hu c (by simp [hc])
    exact ⟨_, _, h3, hc2, fun s2 hs K2 hK => h2 s2 hs _ fun s3 hs3 => h4 s3 hs3 _ hK⟩

theorem frF_par {U : Nat → Prop} {s : St} (hcl : Cl U s) {c : AC} {K : AC → St → Prop} (h : frF s c K) (hu : ∀ k ∈ c.keys, U k) :
    ∃ c' s', K c' s' ∧ Cl U s' ∧ ∀ s2 : St, Ag U s s2 → ∀ K2 : AC → St → Prop, (∀ s3 : St, Ag U s' s3 → K2 c' s3) → frF s2 c K2 := by
  unfold frF at h
  split at h
  · rename_i f cap
    obtain ⟨cap', s', h1, hc1, h2⟩ := frPs_par cap hcl h fun c hc k hk => hu k (List.mem_flatMap.2 ⟨c, hc, hk⟩)
    exact ⟨_, _, h1, hc1, fun s2 hs K2 hK => h2 s2 hs _ hK⟩
  · rename_i hne
    obtain ⟨c', s', h1, hc1, h2⟩ := frP_par hcl h fun k hk => hu k (keys0_sub hk)
    refine ⟨_, _, h1, hc1, fun s2 hs K2 hK => ?_⟩
    unfold frF
    split
    · exact absurd rfl (hne _ _)
    · exact h2 s2 hs K2 hK

theorem frFs_par {U : Nat → Prop} : ∀ (cs : List AC) {s : St} {K : List AC → St → Prop} (hcl : Cl U s) (h : frFs s cs K) (hu : ∀ c ∈ cs, ∀ k ∈ c.keys, U k),
    ∃ c' s', K c' s' ∧ Cl U s' ∧ ∀ s2 : St, Ag U s s2 → ∀ K2 : List AC → St → Prop, (∀ s3 : St, Ag U s' s3 → K2 c' s3) → frFs s2 cs K2
  | [], s, K, hcl, h, hu => ⟨[], s, h, hcl, fun s2 hs K2 hK => hK s2 hs⟩
  | c :: r, s, K, hcl, h, hu => by
    obtain ⟨c', s', h1, hc1, h2⟩ := frF_par hcl h (hu c (by simp))
    obtain ⟨r', s'', h3, hc2, h4⟩ := frFs_par r hc1 h1 fun c hc => hu c (by simp [hc])
    exact ⟨_, _, h3, hc2, fun s2 hs K2 hK => h2 s2 hs _ fun s3 hs3 => h4 s3 hs3 _ hK⟩

theorem frV_par {U : Nat → Prop} {s : St} (hcl : Cl U s) {v : AV} {K : AV → St → Prop} (h : frV s v K) (hu : ∀ k ∈ v.keys, U k) :
    ∃ v' s', K v' s' ∧ Cl U s' ∧ ∀ s2 : St, Ag U s s2 → ∀ K2 : AV → St → Prop, (∀ s3 : St, Ag U s' s3 → K2 v' s3) → frV s2 v K2 := by
  cases v with
  | c x =>
    obtain ⟨c', s', h1, hc1, h2⟩ := frF_par hcl (show frF s x fun x' s' => K (.c x') s' from h) hu
    exact ⟨_, _, h1, hc1, fun s2 hs K2 hK => h2 s2 hs _ hK⟩
  | agg xs =>
    cases hk : (AV.agg xs).keys with
    | nil =>
      unfold frV at h
      simp only [hk] at h
      refine ⟨_, _, h, hcl, fun s2 hs K2 hK => ?_⟩
      unfold frV
      simp only [hk]
      exact hK s2 hs
    | cons q r =>
      unfold frV at h
      simp only [hk] at h
      obtain ⟨c', s', h1, hc1, h2⟩ := frFs_par xs hcl h fun c hc k hk => hu k (List.mem_flatMap.2 ⟨c, hc, hk⟩)
      refine ⟨_, _, h1, hc1, fun s2 hs K2 hK => ?_⟩
      unfold frV
      simp only [hk]
      exact h2 s2 hs _ hK
  | tup xs => exact h.elim

theorem frVs_par {U : Nat → Prop} : ∀ (cs : List AV) {s : St} {K : List AV → St → Prop} (hcl : Cl U s) (h : frVs s cs K) (hu : ∀ c ∈ cs, ∀ k ∈ c.keys, U k),
    ∃ c' s', K c' s' ∧ Cl U s' ∧ ∀ s2 : St, Ag U s s2 → ∀ K2 : List AV → St → Prop, (∀ s3 : St, Ag U s' s3 → K2 c' s3) → frVs s2 cs K2
  | [], s, K, hcl, h, hu => ⟨[], s, h, hcl, fun s2 hs K2 hK => hK s2 hs⟩
  | c :: r, s, K, hcl, h, hu => by
    obtain ⟨c', s', h1, hc1, h2⟩ := frV_par hcl h (hu c (by simp))
    obtain ⟨r', s'', h3, hc2, h4⟩ := frVs_par r hc1 h1 fun c hc => hu c (by simp [hc])
    exact ⟨_, _, h3, hc2, fun s2 hs K2 hK => h2 s2 hs _ fun s3 hs3 => h4 s3 hs3 _ hK⟩

theorem callD_par {U : Nat → Prop} {d : Option Nat} {f : FuncId} {vs : List AV} {v : AV} {s : St} {K : St → Prop} (hcl : Cl U s) (h : callD P gl d f vs v s K) (hu : ∀ c ∈ vs, ∀ k ∈ c.keys, U k) :
    K (s.pu d v) ∧ v.keys = [] ∧ ∀ s2 : St, Ag U s s2 → ∀ K2 : St → Prop, K2 (s2.pu d v) → callD P gl d f vs v s2 K2 := by
  obtain ⟨ds, s', ⟨h1, h2, h3, h4⟩, _, h5⟩ := frVs_par vs hcl h hu
  exact ⟨h4, h3, fun s2 hs K2 hK => h5 s2 hs _ fun s3 _ => ⟨h1, h2, h3, hK⟩⟩

theorem evs_congr {s s2 : St} : ∀ (xs : List Opd), (∀ x ∈ xs, ev gl s2 x = ev gl s x) → evs gl s2 xs = evs gl s xs
  | [], _ => rfl
  | x :: r, h => by
    simp only [evs, h x (by simp), evs_congr r (fun t ht => h t (by simp [ht]))]

theorem evs_keys {U : Nat → Prop} {s : St} : ∀ (xs : List Opd) {vs : List AV}, (∀ x ∈ xs, ∀ v, ev gl s x = some v → ∀ k ∈ v.keys, U k) → evs gl s xs = some vs → ∀ c ∈ vs, ∀ k ∈ c.keys, U k
  | [], vs, _, h => by simp only [evs, Option.some.injEq] at h; subst h; simp
  | x :: r, vs, hu, h => by
    simp only [evs] at h
    split at h
    · rename_i v hv
      split at h
      · rename_i l hl
        simp only [Option.some.injEq] at h; subst h
        intro c hc
        rcases List.mem_cons.1 hc with rfl | hc
        · exact hu x (by simp) _ hv
        · exact evs_keys r (fun y hy => hu y (by simp [hy])) hl c hc
      · cases h
    · cases h

theorem partsC_congr {s s2 : St} {wd : Nat} : ∀ (xs : List Opd), (∀ x ∈ xs, ev gl s2 x = ev gl s x) → partsC gl s2 wd xs = partsC gl s wd xs
  | [], _ => rfl
  | x :: r, h => by
    simp only [partsC, h x (by simp), partsC_congr r (fun t ht => h t (by simp [ht]))]

theorem bnd_congr {s s2 : St} {n : Int} {x : Option Opd} (h : ∀ y ∈ x.toList, ev gl s2 y = ev gl s y) : bnd gl s2 n x = bnd gl s n x := by
  cases x with
  | none => rfl
  | some x => simp only [bnd, h x (by simp)]

theorem buildC_congr {s s2 : St} : ∀ (ps : List (Nat × Nat × Opd)) (cs : List AC), (∀ x ∈ ps.map (·.2.2), ev gl s2 x = ev gl s x) → buildC gl s2 cs ps = buildC gl s cs ps
  | [], cs, _ => rfl
  | (off, w, x) :: r, cs, h => by
    simp only [buildC, h x (by simp)]
    split
    · split
      · split
        · split
          · exact buildC_congr r _ fun y hy => h y (by simp at hy ⊢; exact .inr hy)
          · rfl
        · rfl
      · rfl
    · rfl

theorem setC_mem {vc : List AC} : ∀ {cs : List AC} {i : Nat} {c : AC}, c ∈ setC cs i vc → c ∈ cs ∨ c ∈ vc := by
  induction vc with
  | nil => intro cs i c h; exact .inl h
  | cons x r ih =>
    intro cs i c h
    rcases ih h with h | h
    · rcases List.mem_or_eq_of_mem_set h with h | h
      · exact .inl h
      · exact .inr (by simp [h])
    · exact .inr (by simp [h])

theorem one_keys {v : AV} {vc : List AC} (h : v.one = some vc) : vc.flatMap AC.keys = v.keys := by
  cases v with
  | c x => simp [AV.one] at h; subst h; simp [AV.keys]
  | agg xs => simp [AV.one] at h; subst h; rfl
  | tup xs => simp [AV.one] at h

theorem buildC_keys {U : Nat → Prop} {s : St} : ∀ (ps : List (Nat × Nat × Opd)) (cs : List AC) {r : List AC}, (∀ x ∈ ps.map (·.2.2), ∀ v, ev gl s x = some v → ∀ k ∈ v.keys, U k) →
    (∀ k ∈ cs.flatMap AC.keys, U k) → buildC gl s cs ps = some r → ∀ k ∈ r.flatMap AC.keys, U k
  | [], cs, r, _, hc, h => by simp only [buildC, Option.some.injEq] at h; subst h; exact hc
  | (off, w, x) :: ps, cs, r, hu, hc, h => by
    simp only [buildC] at h
    split at h
    · rename_i v hv
      split at h
      · rename_i vc hvc
        split at h
        · split at h
          · refine buildC_keys ps _ (fun y hy => hu y (by simp at hy ⊢; exact .inr hy)) (fun k hk => ?_) h
            obtain ⟨c, hc1, hc2⟩ := List.mem_flatMap.1 hk
            rcases setC_mem hc1 with h1 | h1
            · exact hc k (List.mem_flatMap.2 ⟨c, h1, hc2⟩)
            · exact hu x (by simp) v hv k (by rw [← one_keys hvc]; exact List.mem_flatMap.2 ⟨c, h1, hc2⟩)
          · cases h
        · cases h
      · cases h
    · cases h

theorem loadC_keys {cs : List AC} {i w : Nat} {g : Bool} {v : AV} (h : loadC cs i w g = some v) : ∀ k ∈ v.keys, k ∈ cs.flatMap AC.keys := by
  unfold loadC at h
  split at h
  · split at h
    · simp only [Option.some.injEq] at h; subst h
      intro k hk
      obtain ⟨c, h1, h2⟩ := List.mem_flatMap.1 hk
      exact List.mem_flatMap.2 ⟨c, List.mem_of_mem_drop (List.mem_of_mem_take h1), h2⟩
    · cases h
  · split at h
    · rename_i c hc
      simp only [Option.some.injEq] at h; subst h
      intro k hk
      exact List.mem_flatMap.2 ⟨c, List.mem_of_getElem? hc, hk⟩
    · cases h

theorem pu_eff (s : St) (d : Option Nat) (v : AV) : s.pu d v = s.eff d ⟨some v, []⟩ := by cases d <;> rfl
end
end Go.Proofs.YtfmeidhialmckaaGreatDoor.Ab

namespace Go.Proofs.YtfmeidhialmckaaGreatDoor.Ab
open Go Go.RowKit

/-- What such an operation leaves hangs on what it reads alone. -/
def Par (P : Program) (gl : Nat → Option (List AC)) (U : Nat → Prop) (d : Option Nat) (i : Ins) (hs : List Hint) (s : St) (K : List Hint → St → Prop) : Prop :=
  ∃ hs' x, K hs' (s.eff d x) ∧ (∀ p ∈ x.n, d = some p.1 ∧ p.2.keys = []) ∧ (∀ v, x.v = some v → ∀ k ∈ v.keys, U k ∨ k ∈ x.n.map (·.1)) ∧
    (x.n ≠ [] → ∀ t, d = some t → s.u.elem t = false) ∧
    ∀ s2 : St, Ag U s s2 → (∀ y ∈ opsI i, ev gl s2 y = ev gl s y) → (∀ t, d = some t → s.u.elem t = false → s2.u.elem t = false) →
      ∀ K2 : List Hint → St → Prop, K2 hs' (s2.eff d x) → StepD P gl d i hs s2 K2

section
variable {P : Program} {gl : Nat → Option (List AC)} {U : Nat → Prop} {d : Option Nat} {i : Ins} {hs hs' : List Hint} {s : St} {K : List Hint → St → Prop}

theorem Par.mk0 {v : AV} (hK : K hs' (s.pu d v)) (hk : ∀ k ∈ v.keys, U k)
    (hp : ∀ s2 : St, Ag U s s2 → (∀ y ∈ opsI i, ev gl s2 y = ev gl s y) → ∀ K2 : List Hint → St → Prop, K2 hs' (s2.pu d v) → StepD P gl d i hs s2 K2) : Par P gl U d i hs s K :=
  ⟨hs', ⟨some v, []⟩, (pu_eff s d v) ▸ hK, by simp, fun v' hv k hkv => .inl (by cases hv; exact hk k hkv), fun h => absurd rfl h, fun s2 h1 h2 _ K2 h3 => hp s2 h1 h2 K2 ((pu_eff s2 d v) ▸ h3)⟩

theorem nk_int {k : IntKind} {n : Int} : ∀ j ∈ (AV.c (.int k n)).keys, U j := by simp [AV.keys, AC.keys, AC.keys0]
theorem nk_bool {n : Bool} : ∀ j ∈ (AV.c (.bool n)).keys, U j := by simp [AV.keys, AC.keys, AC.keys0]
theorem nk_str {n : List UInt8} : ∀ j ∈ (AV.c (.str n)).keys, U j := by simp [AV.keys, AC.keys, AC.keys0]
theorem nk_pd {n : List AC} {j : Nat} : ∀ j ∈ (AV.c (.pd n j)).keys, U j := by simp [AV.keys, AC.keys, AC.keys0]
theorem nk_sl {wd n : Nat} {f : Nat → List AC} : ∀ j ∈ (AV.c (.sl wd n f)).keys, U j := by simp [AV.keys, AC.keys, AC.keys0]

theorem bI_keys {op : BinOp} {k : IntKind} {a b : Int} {c : AC} (h : bI op k a b = some c) : ∀ j ∈ (AV.c c).keys, U j := by
  cases op <;> simp only [bI, Option.some.injEq] at h <;> first | (subst h; simp [AV.keys, AC.keys, AC.keys0]; done) | (cases h)
theorem bS_keys {op : BinOp} {a b : List UInt8} {c : AC} (h : bS op a b = some c) : ∀ j ∈ (AV.c c).keys, U j := by
  cases op <;> simp only [bS, Option.some.injEq] at h <;> first | (subst h; simp [AV.keys, AC.keys, AC.keys0]; done) | (cases h)

theorem stepD_par (hcl : Cl U s) (hU : ∀ x ∈ opsI i, ∀ v, ev gl s x = some v → ∀ k ∈ v.keys, U k) (hpi : isPureI i = true) (h : StepD P gl d i hs s K) : Par P gl U d i hs s K := by
  cases i <;> simp only [StepD, Step] at h <;> first | exact h.elim | skip
  case mv x =>
    split at h
    · rename_i v hv
      exact .mk0 h (hU x (by simp [opsI]) v hv) fun s2 hs he K2 hK => by simp only [StepD, Step, he x (by simp [opsI]), hv]; exact hK
    · exact h.elim
  case pick c x y =>
    split at h
    · rename_i q v hs' hc
      obtain ⟨hq, h⟩ := h
      cases v with
      | true =>
        simp only at h
        split at h
        · rename_i v hv
          exact .mk0 h (hU x (by simp [opsI]) v hv) fun s2 hs he K2 hK => by simp only [StepD, Step, he c (by simp [opsI]), hc, he x (by simp [opsI]), hv]; exact ⟨hq, hK⟩
        · exact h.elim
      | false =>
        simp only at h
        split at h
        · rename_i v hv
          exact .mk0 h (hU y (by simp [opsI]) v hv) fun s2 hs he K2 hK => by simp only [StepD, Step, he c (by simp [opsI]), hc, he y (by simp [opsI]), hv]; exact ⟨hq, hK⟩
        · exact h.elim
    · exact h.elim
  case bin op x y =>
    split at h
    · rename_i k n k' m hx hy
      split at h
      · rename_i hk
        by_cases h1 : op = .quo
        · subst h1
          exact .mk0 h.2 nk_int fun s2 hs he K2 hK => by simp only [StepD, Step, he x (by simp [opsI]), he y (by simp [opsI]), hx, hy, if_pos hk]; exact ⟨h.1, hK⟩
        by_cases h2 : op = .rem
        · subst h2
          exact .mk0 h.2 nk_int fun s2 hs he K2 hK => by simp only [StepD, Step, he x (by simp [opsI]), he y (by simp [opsI]), hx, hy, if_pos hk]; exact ⟨h.1, hK⟩
        cases hc : bI op k n m with
        | none => cases op <;> first | exact absurd rfl h1 | exact absurd rfl h2 | (simp only [hc] at h)
        | some c =>
          refine .mk0 (hs' := hs) (v := .c c) ?_ (bI_keys hc) fun s2 hs he K2 hK => ?_
          · cases op <;> first | exact absurd rfl h1 | exact absurd rfl h2 | (simp only [hc] at h; exact h)
          · simp only [StepD, Step, he x (by simp [opsI]), he y (by simp [opsI]), hx, hy, if_pos hk]
            cases op <;> first | exact absurd rfl h1 | exact absurd rfl h2 | (simp only [hc]; exact hK)
      · exact h.elim
    · rename_i n m hx hy
      by_cases h1 : op = .add
      · subst h1
        exact .mk0 h.2 nk_str fun s2 hs he K2 hK => by simp only [StepD, Step, he x (by simp [opsI]), he y (by simp [opsI]), hx, hy]; exact ⟨h.1, hK⟩
      cases hc : bS op n m with
      | none => cases op <;> first | exact absurd rfl h1 | (simp only [hc] at h)
      | some c =>
        refine .mk0 (hs' := hs) (v := .c c) ?_ (bS_keys hc) fun s2 hs he K2 hK => ?_
        · cases op <;> first | exact absurd rfl h1 | (simp only [hc] at h; exact h)
        · simp only [StepD, Step, he x (by simp [opsI]), he y (by simp [opsI]), hx, hy]
          cases op <;> first | exact absurd rfl h1 | (simp only [hc]; exact hK)
    · exact h.elim
  case bqe ng x y =>
    split at h
    · rename_i n m hx hy
      exact .mk0 h nk_bool fun s2 hs he K2 hK => by simp only [StepD, Step, he x (by simp [opsI]), he y (by simp [opsI]), hx, hy]; exact hK
    · exact h.elim
  case eqa ng ks x y =>
    split at h
    · rename_i xs ys hx hy
      split at h
      · rename_i b hb
        exact .mk0 h nk_bool fun s2 hs he K2 hK => by simp only [StepD, Step, he x (by simp [opsI]), he y (by simp [opsI]), hx, hy, hb]; exact hK
      · exact h.elim
    · exact h.elim
  case not x =>
    split at h
    · rename_i v hv
      exact .mk0 h nk_bool fun s2 hs he K2 hK => by simp only [StepD, Step, he x (by simp [opsI]), hv]; exact hK
    · exact h.elim
  case neg x =>
    split at h
    · rename_i k v hv
      exact .mk0 h nk_int fun s2 hs he K2 hK => by simp only [StepD, Step, he x (by simp [opsI]), hv]; exact hK
    · exact h.elim
  case conv k x =>
    split at h
    · rename_i k' v hv
      exact .mk0 h nk_int fun s2 hs he K2 hK => by simp only [StepD, Step, he x (by simp [opsI]), hv]; exact hK
    · exact h.elim
  case len x =>
    split at h
    · rename_i wd n f hv
      exact .mk0 h nk_int fun s2 hs he K2 hK => by simp only [StepD, Step, he x (by simp [opsI]), hv]; exact hK
    · rename_i k wd off n hv
      have hk : U k := hU x (by simp [opsI]) _ hv k (by simp [AV.keys, AC.keys, AC.keys0])
      split at h
      · rename_i wd' m f z hb
        split at h
        · rename_i hwd
          exact .mk0 h nk_int fun s2 hs he K2 hK => by simp only [StepD, Step, he x (by simp [opsI]), hv, hs k hk, hb, if_pos hwd]; exact hK
        · exact h.elim
      · exact h.elim
    · rename_i hv
      exact .mk0 h nk_int fun s2 hs he K2 hK => by simp only [StepD, Step, he x (by simp [opsI]), hv]; exact hK
    · exact h.elim
  case lens x =>
    split at h
    · rename_i v hv
      exact .mk0 h nk_int fun s2 hs he K2 hK => by simp only [StepD, Step, he x (by simp [opsI]), hv]; exact hK
    · exact h.elim
  case fld off w agg x =>
    split at h
    · rename_i xs hv
      split at h
      · rename_i v hl
        exact .mk0 h (fun k hk => hU x (by simp [opsI]) _ hv k (loadC_keys hl k hk)) fun s2 hs he K2 hK => by simp only [StepD, Step, he x (by simp [opsI]), hv, hl]; exact hK
      · exact h.elim
    · exact h.elim
  case fad off x =>
    split at h
    · rename_i k i hv
      have hk : U k := hU x (by simp [opsI]) _ hv k (by simp [AV.keys, AC.keys, AC.keys0])
      split at h
      · rename_i b hb
        exact .mk0 h (by simpa [AV.keys, AC.keys, AC.keys0] using hk) fun s2 hs he K2 hK => by simp only [StepD, Step, he x (by simp [opsI]), hv, hs k hk, hb]; exact hK
      · exact h.elim
    · rename_i cs i hv
      exact .mk0 (v := .c (.pd cs (i + off))) h (by simp [AV.keys, AC.keys, AC.keys0]) fun s2 hs he K2 hK => by simp only [StepD, Step, he x (by simp [opsI]), hv]; exact hK
    · rename_i k wd i q hv
      have hk : U k := hU x (by simp [opsI]) _ hv k (by simp [AV.keys, AC.keys, AC.keys0])
      split at h
      · rename_i b hb
        exact .mk0 h (by simpa [AV.keys, AC.keys, AC.keys0] using hk) fun s2 hs he K2 hK => by simp only [StepD, Step, he x (by simp [opsI]), hv, hs k hk, hb]; exact hK
      · exact h.elim
    · exact h.elim
  case iad wd x i =>
    split at h
    · rename_i wd' n f k j ec hs' hx hi
      split at h
      · rename_i hwd
        exact .mk0 h.2.2 (by simp [AV.keys, AC.keys, AC.keys0]) fun s2 hs he K2 hK => by simp only [StepD, Step, he x (by simp [opsI]), he i (by simp [opsI]), hx, hi, if_pos hwd]; exact ⟨h.1, h.2.1, hK⟩
      · exact h.elim
    · rename_i k wd' off n kk j hs' hx hi
      have hk : U k := hU x (by simp [opsI]) _ hx k (by simp [AV.keys, AC.keys, AC.keys0])
      split at h
      · rename_i hwd
        split at h
        · rename_i b hb
          exact .mk0 h.2 (by simpa [AV.keys, AC.keys, AC.keys0] using hk) fun s2 hs he K2 hK => by simp only [StepD, Step, he x (by simp [opsI]), he i (by simp [opsI]), hx, hi, if_pos hwd, hs k hk, hb]; exact ⟨h.1, hK⟩
        · exact h.elim
      · exact h.elim
    · exact h.elim
  case iar n wd x i =>
    split at h
    · rename_i k q kk j m hs' hx hi
      have hk : U k := hU x (by simp [opsI]) _ hx k (by simp [AV.keys, AC.keys, AC.keys0])
      split at h
      · rename_i b hb
        exact .mk0 h.2 (by simpa [AV.keys, AC.keys, AC.keys0] using hk) fun s2 hs he K2 hK => by simp only [StepD, Step, he x (by simp [opsI]), he i (by simp [opsI]), hx, hi, hs k hk, hb]; exact ⟨h.1, hK⟩
      · exact h.elim
    · rename_i k wd' ei q kk j m hs' hx hi
      have hk : U k := hU x (by simp [opsI]) _ hx k (by simp [AV.keys, AC.keys, AC.keys0])
      split at h
      · rename_i b hb
        exact .mk0 h.2 (by simpa [AV.keys, AC.keys, AC.keys0] using hk) fun s2 hs he K2 hK => by simp only [StepD, Step, he x (by simp [opsI]), he i (by simp [opsI]), hx, hi, hs k hk, hb]; exact ⟨h.1, hK⟩
      · exact h.elim
    · rename_i cs q kk j m hs' hx hi
      exact .mk0 (v := .c (.pd cs (q + m * wd))) h.2 (by simp [AV.keys, AC.keys, AC.keys0]) fun s2 hs he K2 hK => by simp only [StepD, Step, he x (by simp [opsI]), he i (by simp [opsI]), hx, hi]; exact ⟨h.1, hK⟩
    · rename_i cs q kk j ec hs' hx hi
      exact .mk0 (v := .c (.pd ec 0)) h.2.2 (by simp [AV.keys, AC.keys, AC.keys0]) fun s2 hs he K2 hK => by simp only [StepD, Step, he x (by simp [opsI]), he i (by simp [opsI]), hx, hi]; exact ⟨h.1, h.2.1, hK⟩
    · exact h.elim
  case load w agg x =>
    split at h
    · rename_i cs i hv
      split at h
      · rename_i v hl
        exact .mk0 h.2 (by rw [h.1]; simp) fun s2 hs he K2 hK => by simp only [StepD, Step, he x (by simp [opsI]), hv, hl]; exact ⟨h.1, hK⟩
      · exact h.elim
    · rename_i k i hv
      have hk : U k := hU x (by simp [opsI]) _ hv k (by simp [AV.keys, AC.keys, AC.keys0])
      split at h
      · rename_i cs z hb
        split at h
        · rename_i v hl
          exact .mk0 h (fun j hj => hcl k _ hk hb j (loadC_keys hl j hj)) fun s2 hs he K2 hK => by simp only [StepD, Step, he x (by simp [opsI]), hv, hs k hk, hb, hl]; exact hK
        · exact h.elim
      · exact h.elim
    · rename_i k wd i q hv
      have hk : U k := hU x (by simp [opsI]) _ hv k (by simp [AV.keys, AC.keys, AC.keys0])
      split at h
      · rename_i wd' n f z hb
        split at h
        · rename_i hwd
          obtain ⟨h0, h⟩ := h
          split at h
          · rename_i v hl
            exact .mk0 h.2 (by rw [h.1]; simp) fun s2 hs he K2 hK => by simp only [StepD, Step, he x (by simp [opsI]), hv, hs k hk, hb, if_pos hwd, hl]; exact ⟨h0, h.1, hK⟩
          · exact h.elim
        · exact h.elim
      · exact h.elim
    · exact h.elim
  case build z ps =>
    split at h
    · rename_i cs hb
      refine .mk0 h (fun k hk => buildC_keys ps z hU ?_ hb k hk) fun s2 hs he K2 hK => by simp only [StepD, Step, buildC_congr (gl := gl) ps z he, hb]; exact hK
      simp only [isPureI, List.isEmpty_iff] at hpi
      rw [hpi]; simp
    · exact h.elim
  case bsl wd parts =>
    split at h
    · rename_i k ps n f' hs' hp
      split at h
      · rename_i hfr
        obtain ⟨h1, h2, h3, h4⟩ := h
        refine ⟨_, _, h4, by simp [Blk.keys], fun v hv j hj => ?_, fun _ t ht => by cases ht; exact hfr, fun s2 hs he hfr2 K2 hK => ?_⟩
        · cases hv; simp [AV.keys, AC.keys, AC.keys0] at hj; exact .inr (by simp [hj])
        · simp only [StepD, partsC_congr (gl := gl) parts he, hp, hfr2 k rfl hfr]; exact ⟨h1, h2, h3, hK⟩
      · exact h.elim
    · rename_i k ps n f' hs' hp
      split at h
      · rename_i hfr
        obtain ⟨h1, h2, h3, h4⟩ := h
        refine ⟨_, _, h4, by simp, fun v hv j hj => ?_, fun h0 => absurd rfl h0, fun s2 hs he hfr2 K2 hK => ?_⟩
        · cases hv; simp [AV.keys, AC.keys, AC.keys0] at hj
        · simp only [StepD, partsC_congr (gl := gl) parts he, hp, hfr2 k rfl hfr]; exact ⟨h1, h2, h3, hK⟩
      · exact h.elim
    · exact h.elim
  case msl wd bytes zero n =>
    split at h
    · rename_i k kk m n' f' hs' hp
      split at h
      · rename_i hfr
        obtain ⟨h1, h2, h4⟩ := h
        refine ⟨_, _, h4, by simp [Blk.keys], fun v hv j hj => ?_, fun _ t ht => by cases ht; exact hfr, fun s2 hs he hfr2 K2 hK => ?_⟩
        · cases hv; simp [AV.keys, AC.keys, AC.keys0] at hj; exact .inr (by simp [hj])
        · simp only [StepD, he n (by simp [opsI]), hp, hfr2 k rfl hfr]; exact ⟨h1, h2, hK⟩
      · exact h.elim
    · rename_i k kk m n' f' hs' hp
      split at h
      · rename_i hfr
        obtain ⟨h1, h2, h4⟩ := h
        refine ⟨_, _, h4, by simp, fun v hv j hj => ?_, fun h0 => absurd rfl h0, fun s2 hs he hfr2 K2 hK => ?_⟩
        · cases hv; simp [AV.keys, AC.keys, AC.keys0] at hj
        · simp only [StepD, he n (by simp [opsI]), hp, hfr2 k rfl hfr]; exact ⟨h1, h2, hK⟩
      · exact h.elim
    · exact h.elim
  case alloc zero =>
    split at h
    · rename_i k
      split at h
      · rename_i hfr
        simp only [isPureI, List.isEmpty_iff] at hpi
        refine ⟨_, _, h, ?_, fun v hv j hj => ?_, fun _ t ht => by cases ht; exact hfr, fun s2 hs he hfr2 K2 hK => ?_⟩
        · simp [Blk.keys, hpi]
        · cases hv; simp [AV.keys, AC.keys, AC.keys0] at hj; exact .inr (by simp [hj])
        · simp only [StepD, hfr2 k rfl hfr]; exact hK
      · exact h.elim
    · exact h.elim
  case sls x lo hi =>
    split at h
    · rename_i l l' hs' hx
      split at h
      · rename_i i j h1 h2
        exact .mk0 h.2.2 nk_str fun s2 hs he K2 hK => by
          have e1 : ∀ n, bnd gl s2 n lo = bnd gl s n lo := fun n => bnd_congr fun y hy => he y (by simp only [opsI, List.mem_cons, List.mem_append]; exact .inr (.inl hy))
          have e2 : ∀ n, bnd gl s2 n hi = bnd gl s n hi := fun n => bnd_congr fun y hy => he y (by simp only [opsI, List.mem_cons, List.mem_append]; exact .inr (.inr hy))
          simp only [StepD, Step, he x (by simp [opsI]), e1, e2, hx, h1, h2]; exact ⟨h.1, h.2.1, hK⟩
      · exact h.elim
    · exact h.elim
  case call f xs =>
    split at h
    · rename_i vs v hs' hx
      obtain ⟨h1, hv, h2⟩ := callD_par hcl h (evs_keys xs hU hx)
      exact .mk0 h1 (by rw [hv]; simp) fun s2 hs he K2 hK => by simp only [StepD, evs_congr (gl := gl) xs he, hx]; exact h2 s2 hs _ hK
    · exact h.elim
  case cald x xs =>
    split at h
    · rename_i f cap vs v hs' hf hx
      split at h
      · rename_i hnc
        have hc : ∀ c ∈ vs ++ cap.map .c, ∀ k ∈ c.keys, U k := fun c hc k hk => by
          rcases List.mem_append.1 hc with hc | hc
          · exact evs_keys xs (fun y hy => hU y (by simp [opsI, hy])) hx c hc k hk
          · obtain ⟨q, hq, rfl⟩ := List.mem_map.1 hc
            refine hU x (by simp [opsI]) _ hf k (List.mem_flatMap.2 ⟨q, hq, ?_⟩)
            have h1 := List.all_eq_true.1 hnc q hq
            have h2 : k ∈ q.keys := hk
            rwa [keys0_clo (fun f c e => by subst e; simp [AC.nclo] at h1)] at h2
        obtain ⟨h1, hv, h2⟩ := callD_par hcl h hc
        exact .mk0 h1 (by rw [hv]; simp) fun s2 hs he K2 hK => by simp only [StepD, he x (by simp [opsI]), evs_congr (gl := gl) xs (fun y hy => he y (by simp [opsI, hy])), hf, hx, hnc]; exact h2 s2 hs _ hK
      · exact h.elim
    · exact h.elim
  case ext x i =>
    split at h
    · rename_i ps hv
      split at h
      · rename_i c hp
        refine .mk0 h (fun k hk => hU x (by simp [opsI]) _ hv k ?_) fun s2 hs he K2 hK => by simp only [StepD, Step, he x (by simp [opsI]), hv, hp]; exact hK
        exact List.mem_flatMap.2 ⟨_, List.mem_of_getElem? hp, by simpa [AV.keys] using hk⟩
      · rename_i c hp
        refine .mk0 h (fun k hk => hU x (by simp [opsI]) _ hv k ?_) fun s2 hs he K2 hK => by simp only [StepD, Step, he x (by simp [opsI]), hv, hp]; exact hK
        exact List.mem_flatMap.2 ⟨_, List.mem_of_getElem? hp, by simpa [AV.keys] using hk⟩
      · exact h.elim
    · exact h.elim
  case ixs x i =>
    split at h
    · rename_i l k j hx hi
      exact .mk0 h.2 nk_int fun s2 hs he K2 hK => by simp only [StepD, Step, he x (by simp [opsI]), he i (by simp [opsI]), hx, hi]; exact ⟨h.1, hK⟩
    · exact h.elim
  case mx mx x y =>
    split at h
    · rename_i k n k' m hx hy
      split at h
      · rename_i hk
        exact .mk0 h nk_int fun s2 hs he K2 hK => by simp only [StepD, Step, he x (by simp [opsI]), he y (by simp [opsI]), hx, hy, if_pos hk]; exact hK
      · exact h.elim
    · exact h.elim
end
end Go.Proofs.YtfmeidhialmckaaGreatDoor.Ab

namespace Go.Proofs.YtfmeidhialmckaaGreatDoor.Ab
open Go Go.RowKit

section
variable {P : Program} {gl : Nat → Option (List AC)} {N : Nat} {w0 : World} {Pr : Nat → Prop} {φ : Nat → Option (Option Nat)} {s s' : St} {a : Act} {w : World}
  {o : Oper} {hs : List Hint} {K : List Hint → St → Prop} {next : Act → World → Prop} {Q : Exit → Act → World → Prop}

/-- The same state, told otherwise. -/
theorem Sim.same (h : Sim gl N w0 Pr φ s a w) (he : ∀ t, s'.e t = s.e t) (hh : ∀ k, s'.h k = s.h k) (hu : ∀ k, k ∈ s.u → k ∈ s'.u) : Sim gl N w0 Pr φ s' a w where
  sz := h.sz
  tm t v ht := h.tm t v (by rw [← he]; exact ht)
  hp k blk hk := h.hp k blk (by rw [← hh]; exact hk)
  lv k hk := h.lv k (by rw [← hh]; exact hk)
  inj := h.inj
  ow k b blk hk := h.ow k b blk (by rw [← hh]; exact hk)
  ku k hk := hu k (h.ku k (by rw [← hh]; exact hk))
  ke t v ht k hk := hu k (h.ke t v (by rw [← he]; exact ht) k hk)
  kh k blk hk k' hk' := hu k' (h.kh k blk (by rw [← hh]; exact hk) k' hk')
  pr := h.pr
  gk := h.gk
  df := h.df
  bl := h.bl

theorem al_eff (s : St) (k : Nat) (b : Blk) (v : AV) : ((s.al k b).pu (some k) v) = s.eff (some k) ⟨some v, [(k, b)]⟩ := by
  simp only [St.al, St.pu, St.eff, lkB, List.map_cons, List.map_nil, List.cons_append, List.nil_append, St.mk.injEq, true_and, and_true]
  funext j
  cases Nat.beq j k <;> rfl

/-- A row that was made just now, told as data at once. -/
theorem Sim.born (h0 : ∀ j, s.h j ≠ none → j ∈ s.u) (h1 : ∀ t v, s.e t = some v → ∀ k ∈ v.keys, k ∈ s.u) (h2 : ∀ k blk, s.h k = some blk → ∀ k' ∈ blk.keys, k' ∈ s.u)
    {k wd n : Nat} {f : Nat → List AC} (hk : s.u.elem k = false) (h : Sim gl N w0 Pr φ ((s.al k (.arr wd n f false)).pu (some k) (.c (.own k wd 0 n))) a w) :
    ∃ Pr' φ', PrS w0 Pr Pr' ∧ Sim gl N w0 Pr' φ' (s.eff (some k) ⟨some (.c (.sl wd n f)), []⟩) a w := by
  have hk' := not_mem_of_elem hk
  have hhk : ((s.al k (.arr wd n f false)).pu (some k) (.c (.own k wd 0 n))).h k = some (.arr wd n f false) := by simp [St.pu, St.al, nbt]
  obtain ⟨Pr', hps, hfz, _, hs⟩ := h.fzk hhk (.inr ⟨wd, n, f, false, rfl, rfl⟩)
  have hek : (((s.al k (.arr wd n f false)).pu (some k) (.c (.own k wd 0 n))).sh k (.arr wd n f true)).e k = some (.c (.own k wd 0 n)) := by simp [St.pu, St.al, St.sh, nbt]
  obtain ⟨x, hx, hv⟩ := hs.tm k _ hek
  have hdr := hs.own_dr (n := n) (f := f) (off := 0) (len := n) (by simp [St.sh, nbt]) hv (by omega)
  have hd2 := hs.drop k
  refine ⟨Pr', fun j => if j = k then none else φ j, hps, ?_⟩
  have hE : ∀ t v, (s.eff (some k) ⟨some (.c (.sl wd n f)), []⟩).e t = some v → (t = k ∧ v = .c (.sl wd n f)) ∨ (t ≠ k ∧ s.e t = some v) := fun t v ht => by
    simp only [St.eff] at ht
    by_cases e : t = k
    · subst e; simp only [nbt, cond_true, Option.some.injEq] at ht; exact .inl ⟨rfl, ht.symm⟩
    · simp only [nbf e, cond_false] at ht; exact .inr ⟨e, ht⟩
  have hH : ∀ j, (s.eff (some k) ⟨some (.c (.sl wd n f)), []⟩).h j = s.h j := fun j => rfl
  have hH2 : ∀ j, ((((s.al k (.arr wd n f false)).pu (some k) (.c (.own k wd 0 n))).sh k (.arr wd n f true)).dr k).h j = s.h j := fun j => by
    by_cases e : j = k
    · subst e
      simp only [St.dr, nbt, cond_true]
      cases hj : s.h j with
      | none => rfl
      | some b => exact absurd (h0 j (by rw [hj]; simp)) hk'
    · simp [St.dr, St.sh, St.pu, St.al, nbf e]
  refine ⟨hd2.sz, fun t v ht => ?_, fun j blk hj => hd2.hp j blk (by rw [hH2, ← hH]; exact hj), fun j hj => hd2.lv j (by rw [hH2, ← hH]; exact hj), hd2.inj,
    fun j b blk hj => hd2.ow j b blk (by rw [hH2, ← hH]; exact hj), fun j hj => h0 j (by rw [← hH]; exact hj), fun t v ht q hq => ?_, fun j blk hj q hq => h2 j blk (by rw [← hH]; exact hj) q hq,
    hd2.pr, hd2.gk, hd2.df, hd2.bl⟩
  · rcases hE t v ht with ⟨rfl, rfl⟩ | ⟨e, ht⟩
    · exact ⟨x, hx, (KR.of_dr (φ := fun j => if j = t then none else φ j) hdr).1⟩
    · refine hd2.tm t v ?_
      simp [St.dr, St.sh, St.pu, St.al, nbf e, ht]
  · rcases hE t v ht with ⟨rfl, rfl⟩ | ⟨e, ht⟩
    · simp [AV.keys, AC.keys, AC.keys0] at hq
    · exact h1 t v ht q hq

theorem frC_isD {c : AC} (h : c.isD = true) {K : AC → St → Prop} (hK : K c s) : frC s c K := by
  cases c <;> first | exact hK | (simp [AC.isD] at h)
theorem frCs_isD : ∀ (cs : List AC) {K : List AC → St → Prop}, (cs.all AC.isD) = true → K cs s → frCs s cs K
  | [], K, _, hK => hK
  | c :: r, K, h, hK => by
    simp only [List.all_cons, Bool.and_eq_true] at h
    exact frC_isD h.1 (frCs_isD r h.2 hK)
theorem frPartsC_isD : ∀ (cs : List (List AC)) {K : List (List AC) → St → Prop}, (cs.all fun p => p.all AC.isD) = true → K cs s → frPartsC s cs K
  | [], K, _, hK => hK
  | c :: r, K, h, hK => by
    simp only [List.all_cons, Bool.and_eq_true] at h
    exact frCs_isD c h.1 (frPartsC_isD r h.2 hK)

/-! without keys nothing is marked -/
theorem frC_nk {c : AC} {K : AC → St → Prop} (h : frC s c K) (hk : c.keys0 = []) : ∃ c', K c' s ∧ ∀ K2 : AC → St → Prop, K2 c' s → frC s c K2 := by
  cases c <;> first | exact ⟨_, h, fun K2 h2 => h2⟩ | (simp [AC.keys0] at hk; done) | exact h.elim
theorem frP_nk {c : AC} {K : AC → St → Prop} (h : frP s c K) (hk : c.keys0 = []) : ∃ c', K c' s ∧ ∀ K2 : AC → St → Prop, K2 c' s → frP s c K2 := by
  cases c <;> first | exact ⟨_, h, fun K2 h2 => h2⟩ | (simp [AC.keys0] at hk; done) | exact h.elim
theorem frPs_nk : ∀ (cs : List AC) {K : List AC → St → Prop}, frPs s cs K → cs.flatMap AC.keys0 = [] → ∃ c', K c' s ∧ ∀ K2 : List AC → St → Prop, K2 c' s → frPs s cs K2
  | [], K, h, hk => ⟨[], h, fun K2 h2 => h2⟩
  | c :: r, K, h, hk => by
    simp only [List.flatMap_cons, List.append_eq_nil_iff] at hk
    obtain ⟨c', h1, h2⟩ := frP_nk h hk.1
    obtain ⟨r', h3, h4⟩ := frPs_nk r h1 hk.2
    exact ⟨_, h3, fun K2 hK => h2 _ (h4 _ hK)⟩
theorem frF_nk {c : AC} {K : AC → St → Prop} (h : frF s c K) (hk : c.keys = []) : ∃ c', K c' s ∧ ∀ K2 : AC → St → Prop, K2 c' s → frF s c K2 := by
  cases c <;> first
    | exact ⟨_, h, fun K2 h2 => h2⟩
    | (simp [AC.keys, AC.keys0] at hk; done)
    | (obtain ⟨c', h1, h2⟩ := frPs_nk _ h hk; exact ⟨_, h1, fun K2 hK => h2 _ hK⟩)
theorem frV_nk {v : AV} {K : AV → St → Prop} (h : frV s v K) (hk : v.keys = []) : ∃ c', K c' s ∧ ∀ K2 : AV → St → Prop, K2 c' s → frV s v K2 := by
  cases v with
  | c x => obtain ⟨c', h1, h2⟩ := frF_nk (show frF s x fun x' s' => K (.c x') s' from h) hk; exact ⟨_, h1, fun K2 hK => h2 _ hK⟩
  | agg xs =>
    unfold frV at h
    simp only [hk] at h
    exact ⟨_, h, fun K2 hK => by unfold frV; simp only [hk]; exact hK⟩
  | tup xs => exact h.elim
theorem frVs_nk : ∀ (cs : List AV) {K : List AV → St → Prop}, frVs s cs K → cs.flatMap AV.keys = [] → ∃ c', K c' s ∧ ∀ K2 : List AV → St → Prop, K2 c' s → frVs s cs K2
  | [], K, h, hk => ⟨[], h, fun K2 h2 => h2⟩
  | c :: r, K, h, hk => by
    simp only [List.flatMap_cons, List.append_eq_nil_iff] at hk
    obtain ⟨c', h1, h2⟩ := frV_nk h hk.1
    obtain ⟨r', h3, h4⟩ := frVs_nk r h1 hk.2
    exact ⟨_, h3, fun K2 hK => h2 _ (h4 _ hK)⟩

theorem frC_mono {c : AC} {K K2 : AC → St → Prop} (h : frC s c K) (hk : ∀ c s, K c s → K2 c s) : frC s c K2 := by
  cases c with
  | own k wd off len =>
    simp only [frC] at h ⊢
    split at h
    · split at h
      · rename_i hw; rw [if_pos hw]; exact ⟨h.1, hk _ _ h.2⟩
      · exact h.elim
    · exact h.elim
  | pk => exact h.elim
  | pa => exact h.elim
  | clo => exact h.elim
  | _ => exact hk _ _ h
theorem frCs_mono : ∀ (cs : List AC) {s : St} {K K2 : List AC → St → Prop}, frCs s cs K → (∀ c s, K c s → K2 c s) → frCs s cs K2
  | [], s, K, K2, h, hk => hk _ _ h
  | c :: r, s, K, K2, h, hk => frC_mono (K := _) h fun _ _ h => frCs_mono r h fun _ _ h => hk _ _ h
theorem frP_mono {c : AC} {K K2 : AC → St → Prop} (h : frP s c K) (hk : ∀ c s, K c s → K2 c s) : frP s c K2 := by
  cases c with
  | pk k i =>
    simp only [frP] at h ⊢
    split at h
    · exact frCs_mono _ h fun _ _ h => hk _ _ h
    · exact h.elim
  | own k wd off len => exact frC_mono (c := .own k wd off len) h hk
  | pa => exact h.elim
  | clo => exact h.elim
  | _ => exact hk _ _ h
theorem frPs_mono : ∀ (cs : List AC) {s : St} {K K2 : List AC → St → Prop}, frPs s cs K → (∀ c s, K c s → K2 c s) → frPs s cs K2
  | [], s, K, K2, h, hk => hk _ _ h
  | c :: r, s, K, K2, h, hk => frP_mono (K := _) h fun _ _ h => frPs_mono r h fun _ _ h => hk _ _ h
theorem frF_mono {c : AC} {K K2 : AC → St → Prop} (h : frF s c K) (hk : ∀ c s, K c s → K2 c s) : frF s c K2 := by
  cases c with
  | clo f cap => exact frPs_mono cap (K := fun cap' s' => K (.clo f cap') s') h fun _ _ h => hk _ _ h
  | own k wd off len => exact frC_mono (c := .own k wd off len) h hk
  | pk k i => exact frP_mono (c := .pk k i) h hk
  | pa => exact h.elim
  | _ => exact hk _ _ h
theorem frFs_mono : ∀ (cs : List AC) {s : St} {K K2 : List AC → St → Prop}, frFs s cs K → (∀ c s, K c s → K2 c s) → frFs s cs K2
  | [], s, K, K2, h, hk => hk _ _ h
  | c :: r, s, K, K2, h, hk => frF_mono (K := _) h fun _ _ h => frFs_mono r h fun _ _ h => hk _ _ h
theorem frV_mono {v : AV} {K K2 : AV → St → Prop} (h : frV s v K) (hk : ∀ c s, K c s → K2 c s) : frV s v K2 := by
  cases v with
  | c x => exact frF_mono (show frF s x fun x' s' => K (.c x') s' from h) fun _ _ h => hk _ _ h
  | agg xs =>
    unfold frV at h ⊢
    cases hx : (AV.agg xs).keys with
    | nil => simp only [hx] at h ⊢; exact hk _ _ h
    | cons q r => simp only [hx] at h ⊢; exact frFs_mono _ h fun _ _ h => hk _ _ h
  | tup xs => exact h.elim
theorem frVs_mono : ∀ (cs : List AV) {s : St} {K K2 : List AV → St → Prop}, frVs s cs K → (∀ c s, K c s → K2 c s) → frVs s cs K2
  | [], s, K, K2, h, hk => hk _ _ h
  | c :: r, s, K, K2, h, hk => frV_mono (K := _) h fun _ _ h => frVs_mono r h fun _ _ h => hk _ _ h

theorem callI_of_D {d : Option Nat} {f : FuncId} {vs : List AV} {v : AV} {K : St → Prop} (h : callD P gl d f vs v s K) : callI P gl d f vs v s K := by
  unfold callD at h
  unfold callI
  cases hv : v.isS with
  | true =>
    simp only [hv] at h ⊢
    exact frVs_mono vs h fun ds s' h => ⟨h.1, h.2.2.2⟩
  | false =>
    simp only [hv] at h ⊢
    have hnk : vs.flatMap AV.keys = [] := by
      obtain ⟨ds, s', ⟨_, h1, _⟩, _⟩ := frVs_par (U := fun _ => True) vs (fun _ _ _ _ _ _ => trivial) h (fun _ _ _ _ => trivial)
      exact h1
    obtain ⟨ds, h1, h2⟩ := frVs_nk vs h hnk
    exact h2 _ ⟨h1.1, h1.2.2.2⟩

/-- An operation of a region that draws its order does what its step says. -/
theorem stepD_sound {io : Ins} (hc : compI P o = some io) (h : Sim gl N w0 Pr φ s a w) (hd : ∀ t, o.dst = some t → t < N) (hst : StepD P gl o.dst io hs s K) (ha : After gl N w0 Pr K next) : o.wp P a w next Q := by
  cases io <;> first | exact comp_sound hc h hd hst ha | exact hst.elim | skip
  case len x =>
    refine comp_sound (hs := hs) hc h hd ?_ ha
    simp only [StepD, Step] at hst ⊢
    split at hst
    · exact fun _ => hst
    · split at hst
      · split at hst
        · rename_i hw; rw [if_pos hw]; exact fun _ => hst
        · exact hst.elim
      · exact hst.elim
    · exact hst
    · exact hst.elim
  case load wd agg x =>
    refine comp_sound (hs := hs) hc h hd ?_ ha
    simp only [StepD, Step] at hst ⊢
    split at hst
    · split at hst
      · exact hst.2
      · exact hst.elim
    · exact hst
    · split at hst
      · split at hst
        · rename_i hw
          rw [if_pos hw]
          obtain ⟨h0, h1⟩ := hst
          refine ⟨h0, ?_⟩
          split at h1
          · exact h1.2
          · exact h1.elim
        · exact hst.elim
      · exact hst.elim
    · exact hst.elim
  case alloc zero =>
    refine comp_sound (hs := hs) hc h hd ?_ ha
    simp only [StepD, Step] at hst ⊢
    split at hst
    · rename_i hd'
      split at hst
      · rw [hd', al_eff]; exact hst
      · exact hst.elim
    · exact hst.elim
  case bsl wd parts =>
    simp only [StepD] at hst
    split at hst
    · rename_i k ps n f' hs' hd' hp
      split at hst
      · rename_i hf
        obtain ⟨h1, h2, h3, h4⟩ := hst
        subst h1
        refine comp_sound (hs := .fn ps.length f' :: hs') hc h hd ?_ ha
        simp only [Step, hd', hp, hf]
        exact frPartsC_isD ps h2 ⟨rfl, h3, by rw [al_eff]; exact h4⟩
      · exact hst.elim
    · rename_i k ps n f' hs' hd' hp
      split at hst
      · rename_i hf
        obtain ⟨h1, h2, h3, h4⟩ := hst
        subst h1
        refine comp_sound (hs := .fn ps.length f' :: hs') (K := fun hs'' s'' => hs'' = hs' ∧ s'' = (s.al k (.arr wd ps.length f' false)).pu (some k) (.c (.own k wd 0 ps.length))) hc h hd ?_ ?_
        · simp only [Step, hd', hp, hf]
          exact frPartsC_isD ps h2 ⟨rfl, h3, by first | exact ⟨rfl, rfl⟩ | exact ⟨trivial, rfl⟩⟩
        · intro hs'' s'' Pr' φ' a' w' he hsim hps
          obtain ⟨rfl, rfl⟩ := he
          obtain ⟨Pr'', φ'', hps', hsim'⟩ := Sim.born h.ku h.ke h.kh hf hsim
          exact ha _ _ _ _ _ _ h4 hsim' (hps.trans hps')
      · exact hst.elim
    · exact hst.elim
  case msl wd bytes zero n =>
    simp only [StepD] at hst
    split at hst
    · rename_i k kk m n' f' hs' hd' hp
      split at hst
      · rename_i hf
        obtain ⟨h1, h3, h4⟩ := hst
        refine comp_sound (hs := .fn n' f' :: hs') hc h hd ?_ ha
        simp only [Step, hd', hp, hf]
        exact ⟨h1, h3, by rw [al_eff]; exact h4⟩
      · exact hst.elim
    · rename_i k kk m n' f' hs' hd' hp
      split at hst
      · rename_i hf
        obtain ⟨h1, h3, h4⟩ := hst
        refine comp_sound (hs := .fn n' f' :: hs') (K := fun hs'' s'' => hs'' = hs' ∧ s'' = (s.al k (.arr wd n' f' false)).pu (some k) (.c (.own k wd 0 n'))) hc h hd ?_ ?_
        · simp only [Step, hd', hp, hf]
          exact ⟨h1, h3, trivial, trivial⟩
        · intro hs'' s'' Pr' φ' a' w' he hsim hps
          obtain ⟨rfl, rfl⟩ := he
          obtain ⟨Pr'', φ'', hps', hsim'⟩ := Sim.born h.ku h.ke h.kh hf hsim
          exact ha _ _ _ _ _ _ h4 hsim' (hps.trans hps')
      · exact hst.elim
    · exact hst.elim
  case call f xs =>
    refine comp_sound (hs := hs) hc h hd ?_ ha
    simp only [StepD, Step] at hst ⊢
    split at hst
    · exact callI_of_D hst
    · exact hst.elim
  case cald x xs =>
    refine comp_sound (hs := hs) hc h hd ?_ ha
    simp only [StepD, Step] at hst ⊢
    split at hst
    · split at hst
      · exact callI_of_D hst
      · exact hst.elim
    · exact hst.elim
end
end Go.Proofs.YtfmeidhialmckaaGreatDoor.Ab

namespace Go.Proofs.YtfmeidhialmckaaGreatDoor.Ab
open Go Go.RowKit

section
variable {P : Program} {gl : Nat → Option (List AC)} {N : Nat} {w0 : World} {Pr : Nat → Prop} {φ : Nat → Option (Option Nat)} {s : St} {a : Act} {w : World}
  {hs : List Hint} {K : List Hint → St → Prop} {Q : Exit → Act → World → Prop}

/-- Every key that a state mentions is in u. -/
def KeyOk (s : St) : Prop := (∀ t v, s.e t = some v → ∀ k ∈ v.keys, k ∈ s.u) ∧ (∀ k blk, s.h k = some blk → ∀ j ∈ blk.keys, j ∈ s.u)

theorem Sim.keyOk (h : Sim gl N w0 Pr φ s a w) : KeyOk s := ⟨h.ke, h.kh⟩

def Opd.kfs (xs : List Opd) : Prop := ∀ x ∈ xs, x.kf = true

theorem ev_keys (h : KeyOk s) {x : Opd} (hk : x.kf = true) {v : AV} (hv : ev gl s x = some v) : ∀ k ∈ v.keys, k ∈ s.u := by
  cases x with
  | t n => exact h.1 n v hv
  | v c => simp only [ev, Option.some.injEq] at hv; subst hv; simp only [Opd.kf, List.isEmpty_iff] at hk; simp [AV.keys, hk]
  | a cs => simp only [ev, Option.some.injEq] at hv; subst hv; simp only [Opd.kf, List.isEmpty_iff] at hk; simp [AV.keys, hk]
  | g n =>
    simp only [ev] at hv
    split at hv
    · simp only [Option.some.injEq] at hv; subst hv; simp [AV.keys, AC.keys, AC.keys0]
    · cases hv
  | f n => simp only [ev, Option.some.injEq] at hv; subst hv; simp [AV.keys, AC.keys]

/-- What a guarded operation leaves. -/
def ParG (P : Program) (gl : Nat → Option (List AC)) (U : Nat → Prop) (o : IOp) (hs : List Hint) (s : St) (K : List Hint → St → Prop) : Prop :=
  ∃ hs' x, K hs' (s.eff o.d x) ∧ (∀ p ∈ x.n, o.d = some p.1 ∧ p.2.keys = []) ∧ (∀ v, x.v = some v → ∀ k ∈ v.keys, U k ∨ k ∈ x.n.map (·.1)) ∧
    (x.n ≠ [] → ∀ t, o.d = some t → s.u.elem t = false) ∧
    ∀ s2 : St, Ag U s s2 → (∀ y ∈ opsG o, ev gl s2 y = ev gl s y) → (∀ t, o.d = some t → s.u.elem t = false → s2.u.elem t = false) →
      ∀ K2 : List Hint → St → Prop, K2 hs' (s2.eff o.d x) → StepG P gl o hs s2 K2

theorem de_eff (s : St) (d : Option Nat) : s.de d = s.eff d ⟨none, []⟩ := by cases d <;> rfl

theorem stepG_par {U : Nat → Prop} {o : IOp} (hcl : Cl U s) (hU : ∀ x ∈ opsI o.i, ∀ v, ev gl s x = some v → ∀ k ∈ v.keys, U k) (hpi : isPureI o.i = true) (h : StepG P gl o hs s K) : ParG P gl U o hs s K := by
  unfold StepG at h
  split at h
  · rename_i hg
    obtain ⟨hs', x, h1, h2, h3, h4, h5⟩ := stepD_par hcl hU hpi h
    exact ⟨hs', x, h1, h2, h3, h4, fun s2 ha he hf K2 hK => by unfold StepG; simp only [hg]; exact h5 s2 ha (fun y hy => he y (by simp [opsG, hy])) hf K2 hK⟩
  · rename_i t b hg
    split at h
    · rename_i c v hs1 hc
      obtain ⟨rfl, h⟩ := h
      split at h
      · obtain ⟨hs', x, h1, h2, h3, h4, h5⟩ := stepD_par hcl hU hpi h
        refine ⟨hs', x, h1, h2, h3, h4, fun s2 ha he hf K2 hK => ?_⟩
        have ht : s2.e t = some (.c (.bool true)) := by rw [← hc]; exact he (.t t) (by simp [opsG, hg])
        unfold StepG; simp only [hg, ht]; exact ⟨trivial, h5 s2 ha (fun y hy => he y (by simp [opsG, hy])) hf K2 hK⟩
      · obtain ⟨hs', x, h1, h2, h3, h4, h5⟩ := stepD_par hcl hU hpi h
        refine ⟨hs', x, h1, h2, h3, h4, fun s2 ha he hf K2 hK => ?_⟩
        have ht : s2.e t = some (.c (.bool false)) := by rw [← hc]; exact he (.t t) (by simp [opsG, hg])
        unfold StepG; simp only [hg, ht]; exact ⟨trivial, h5 s2 ha (fun y hy => he y (by simp [opsG, hy])) hf K2 hK⟩
      · rename_i n1 n2
        refine ⟨hs1, ⟨some (.tup []), []⟩, (pu_eff s o.d _) ▸ h, by simp, by simp [AV.keys], fun h0 => absurd rfl h0, fun s2 ha he hf K2 hK => ?_⟩
        have ht : s2.e t = some (.c (.bool c)) := by rw [← hc]; exact he (.t t) (by simp [opsG, hg])
        have hK' : K2 hs1 (s2.pu o.d (.tup [])) := (pu_eff s2 o.d _) ▸ hK
        unfold StepG; simp only [hg, ht]
        cases c <;> cases b <;> first | exact ⟨trivial, hK'⟩ | exact absurd rfl (n1 rfl) | exact absurd rfl (n2 rfl)
    · rename_i hs ps hc
      refine ⟨_, ⟨some (.tup []), []⟩, (pu_eff s o.d _) ▸ h, by simp, by simp [AV.keys], fun h0 => absurd rfl h0, fun s2 ha he hf K2 hK => ?_⟩
      have ht : s2.e t = some (.tup ps) := by rw [← hc]; exact he (.t t) (by simp [opsG, hg])
      have hK' := (pu_eff s2 o.d (.tup [])).symm ▸ hK
      unfold StepG; simp only [hg, ht]; exact hK'
    · exact h.elim

/-- The keys that an operation can come to. -/
inductive Rch (gl : Nat → Option (List AC)) (s : St) (o : IOp) : Nat → Prop where
  | base (y : Opd) (v : AV) (k : Nat) (hy : y ∈ opsI o.i) (hv : ev gl s y = some v) (hk : k ∈ v.keys) : Rch gl s o k
  | step (k k' : Nat) (blk : Blk) (h : Rch gl s o k) (hb : s.h k = some blk) (hk : k' ∈ blk.keys) : Rch gl s o k'

/-- What is known of an operation's outcome, told once for all states that agree with the text's. -/
structure Out (P : Program) (gl : Nat → Option (List AC)) (s : St) (o : IOp) (x : Eff) : Prop where
  n : ∀ p ∈ x.n, o.d = some p.1 ∧ p.2.keys = []
  k : ∀ v, x.v = some v → ∀ k ∈ v.keys, k ∈ s.u ∨ k ∈ x.n.map (·.1)
  f : x.n ≠ [] → ∀ t, o.d = some t → s.u.elem t = false
  p : ∃ hs hs', ∀ s2 : St, Ag (Rch gl s o) s s2 → (∀ y ∈ opsG o, ev gl s2 y = ev gl s y) → (∀ t, o.d = some t → s.u.elem t = false → s2.u.elem t = false) →
      ∀ K2 : List Hint → St → Prop, K2 hs' (s2.eff o.d x) → StepG P gl o hs s2 K2

theorem Rch.u {o : IOp} (h : KeyOk s) (hkf : ∀ y ∈ opsI o.i, y.kf = true) {k : Nat} (hr : Rch gl s o k) : k ∈ s.u := by
  induction hr with
  | base y v k hy hv hk => exact ev_keys h (hkf y hy) hv k hk
  | step k k' blk _ hb hk _ => exact h.2 k blk hb k' hk

theorem KeyOk.eff {d : Option Nat} {x : Eff} (h : KeyOk s) (hn : ∀ p ∈ x.n, d = some p.1 ∧ p.2.keys = []) (hk : ∀ v, x.v = some v → ∀ k ∈ v.keys, k ∈ s.u ∨ k ∈ x.n.map (·.1)) : KeyOk (s.eff d x) := by
  have hlk : ∀ (n : List (Nat × Blk)) k b, lkB k n = some b → ∃ p ∈ n, p.1 = k ∧ p.2 = b := by
    intro n
    induction n with
    | nil => intro k b h; cases h
    | cons p r ih =>
      intro k b h
      obtain ⟨j, c⟩ := p
      simp only [lkB] at h
      cases hb : Nat.beq k j with
      | true => rw [hb] at h; simp only [cond_true, Option.some.injEq] at h; exact ⟨(j, c), by simp, (Nat.eq_of_beq_eq_true hb).symm, h⟩
      | false => rw [hb] at h; obtain ⟨p, h1, h2⟩ := ih k b h; exact ⟨p, by simp [h1], h2⟩
  refine ⟨fun t v ht k hkv => ?_, fun k blk hb j hj => ?_⟩
  · simp only [St.eff, List.mem_append]
    have hold : s.e t = some v → k ∈ List.map (fun x => x.1) x.n ∨ k ∈ s.u := fun h' => .inr (h.1 t v h' k hkv)
    cases d with
    | none => exact hold ht
    | some d =>
      simp only [St.eff] at ht
      by_cases e : t = d
      · subst e; simp only [nbt, cond_true] at ht; exact (hk v ht k hkv).symm
      · simp only [nbf e, cond_false] at ht; exact hold ht
  · simp only [St.eff, List.mem_append]
    simp only [St.eff] at hb
    split at hb
    · rename_i b hl
      obtain ⟨p, h1, _, h3⟩ := hlk _ _ _ hl
      cases hb
      rw [← h3, (hn p h1).2] at hj; cases hj
    · exact .inr (h.2 k blk hb j hj)

/-- The outcomes, one behind the other. -/
def Run (P : Program) (gl : Nat → Option (List AC)) : St → List IOp → List Eff → Prop
  | _, [], [] => True
  | s, o :: r, x :: xs => Out P gl s o x ∧ Run P gl (s.eff o.d x) r xs
  | _, _, _ => False

def effs (s : St) : List IOp → List Eff → St
  | o :: r, x :: xs => effs (s.eff o.d x) r xs
  | _, _ => s

theorem segD_run : ∀ (ios : List IOp) {hs : List Hint} {s : St}, (∀ o ∈ ios, isPureI o.i = true ∧ ∀ y ∈ opsI o.i, y.kf = true) → KeyOk s → SegD P gl ios hs s K →
    ∃ xs hs', Run P gl s ios xs ∧ K hs' (effs s ios xs)
  | [], hs, s, _, _, h => ⟨[], hs, trivial, h⟩
  | o :: r, hs, s, hp, hk, h => by
    have ho := hp o (by simp)
    obtain ⟨hs', x, h1, h2, h3, h4, h5⟩ := stepG_par (U := Rch gl s o) (fun k blk hu hb j hj => .step k j blk hu hb hj) (fun y hy v hv k hk => .base y v k hy hv hk) ho.1 (h : StepG P gl o hs s _)
    have h3' : ∀ v, x.v = some v → ∀ k ∈ v.keys, k ∈ s.u ∨ k ∈ x.n.map (·.1) := fun v hv k hkv => (h3 v hv k hkv).imp (fun q => q.u hk ho.2) id
    obtain ⟨xs, hs'', h6, h7⟩ := segD_run r (fun o' ho' => hp o' (by simp [ho'])) (hk.eff h2 h3') h1
    exact ⟨x :: xs, hs'', ⟨⟨h2, h3', h4, hs, hs', h5⟩, h6⟩, h7⟩

theorem Run.len {ios : List IOp} : ∀ {xs : List Eff} {s : St}, Run P gl s ios xs → xs.length = ios.length := by
  induction ios with
  | nil => intro xs s h; cases xs with | nil => rfl | cons x xs => exact h.elim
  | cons o r ih => intro xs s h; cases xs with | nil => exact h.elim | cons x xs => simp [ih h.2]

/-- The outcome of the operation i stands behind those before it. -/
theorem Run.at {ios : List IOp} : ∀ {xs : List Eff} {s : St} {i : Nat} {o : IOp} {x : Eff}, Run P gl s ios xs → ios[i]? = some o → xs[i]? = some x → Out P gl (effs s (ios.take i) (xs.take i)) o x := by
  induction ios with
  | nil => intro xs s i o x h ho; simp at ho
  | cons o' r ih =>
    intro xs s i o x h ho hx
    cases xs with
    | nil => exact h.elim
    | cons x' xs =>
      cases i with
      | zero => simp at ho hx; subst ho hx; exact h.1
      | succ i =>
        simp only [List.getElem?_cons_succ] at ho hx
        exact ih h.2 ho hx

theorem effs_snoc {ios : List IOp} : ∀ {xs : List Eff} {s : St} {i : Nat} {o : IOp} {x : Eff}, ios[i]? = some o → xs[i]? = some x → effs s (ios.take (i + 1)) (xs.take (i + 1)) = (effs s (ios.take i) (xs.take i)).eff o.d x := by
  induction ios with
  | nil => intro xs s i o x ho; simp at ho
  | cons o' r ih =>
    intro xs s i o x ho hx
    cases xs with
    | nil => simp at hx
    | cons x' xs =>
      cases i with
      | zero => simp at ho hx; subst ho hx; simp [effs]
      | succ i =>
        simp only [List.getElem?_cons_succ] at ho hx
        simp only [List.take_succ_cons, effs]
        exact ih ho hx

/-! ### the state behind any part of the operations -/
def idx (ios : List IOp) (t : Nat) : Option Nat := ios.findIdx? fun o => o.d == some t

def SP (s : St) (ios : List IOp) (xs : List Eff) (p : Nat → Bool) : St where
  e t := match idx ios t with
    | some j => if p j = true then (match xs[j]? with | some x => x.v | none => none) else s.e t
    | none => s.e t
  h k := match idx ios k with
    | some j => if p j = true then (match xs[j]? with | some x => (match lkB k x.n with | some b => some b | none => s.h k) | none => s.h k) else s.h k
    | none => s.h k
  u := ((List.range ios.length).flatMap fun j => if p j = true then (match xs[j]? with | some x => x.n.map (·.1) | none => []) else []) ++ s.u

/-- Two states that say the same. -/
structure Eqv (s s2 : St) : Prop where
  e : ∀ t, s2.e t = s.e t
  h : ∀ k, s2.h k = s.h k
  u : ∀ k, k ∈ s.u ↔ k ∈ s2.u

theorem Eqv.trans {a b c : St} (h : Eqv a b) (k : Eqv b c) : Eqv a c := ⟨fun t => (k.e t).trans (h.e t), fun t => (k.h t).trans (h.h t), fun t => (h.u t).trans (k.u t)⟩
theorem Eqv.symm {a b : St} (h : Eqv a b) : Eqv b a := ⟨fun t => (h.e t).symm, fun t => (h.h t).symm, fun t => (h.u t).symm⟩
theorem Eqv.eff {a b : St} (h : Eqv a b) (d : Option Nat) (x : Eff) : Eqv (a.eff d x) (b.eff d x) := by
  refine ⟨fun t => ?_, fun k => ?_, fun k => ?_⟩
  · cases d with
    | none => exact h.e t
    | some d => simp only [St.eff]; rw [h.e]
  · simp only [St.eff]; rw [h.h]
  · simp only [St.eff, List.mem_append]; rw [h.u]

structure Distinct (ios : List IOp) : Prop where
  d : ∀ (i j : Nat) (oi oj : IOp) (t : Nat), ios[i]? = some oi → ios[j]? = some oj → oi.d = some t → oj.d = some t → i = j

theorem idx_some {ios : List IOp} {t j : Nat} (h : idx ios t = some j) : ∃ o, ios[j]? = some o ∧ o.d = some t := by
  unfold idx at h
  rw [List.findIdx?_eq_some_iff_getElem] at h
  obtain ⟨hj, h1, _⟩ := h
  exact ⟨ios[j], List.getElem?_eq_getElem hj, by simpa using h1⟩

theorem idx_of {ios : List IOp} (hd : Distinct ios) {t j : Nat} {o : IOp} (ho : ios[j]? = some o) (ht : o.d = some t) : idx ios t = some j := by
  cases h : idx ios t with
  | none =>
    unfold idx at h
    rw [List.findIdx?_eq_none_iff] at h
    have := h o (List.mem_of_getElem? ho)
    simp [ht] at this
  | some i =>
    obtain ⟨oi, h1, h2⟩ := idx_some h
    rw [hd.d i j oi o t h1 ho h2 ht]

theorem lkB_mem {k : Nat} {b : Blk} : ∀ {n : List (Nat × Blk)}, lkB k n = some b → ∃ p ∈ n, p.1 = k ∧ p.2 = b
  | [], h => by cases h
  | (j, c) :: r, h => by
    simp only [lkB] at h
    cases hb : Nat.beq k j with
    | true => rw [hb] at h; simp only [cond_true, Option.some.injEq] at h; exact ⟨(j, c), by simp, (Nat.eq_of_beq_eq_true hb).symm, h⟩
    | false => rw [hb] at h; obtain ⟨p, h1, h2⟩ := lkB_mem h; exact ⟨p, by simp [h1], h2⟩

theorem SP_u {ios : List IOp} {xs : List Eff} {p : Nat → Bool} {k : Nat} : k ∈ (SP s ios xs p).u ↔ k ∈ s.u ∨ ∃ j x, j < ios.length ∧ p j = true ∧ xs[j]? = some x ∧ k ∈ x.n.map (·.1) := by
  simp only [SP, List.mem_append, List.mem_flatMap, List.mem_range]
  constructor
  · rintro (⟨j, hj, h⟩ | h)
    · split at h
      · rename_i hp
        split at h
        · rename_i x hx; exact .inr ⟨j, x, hj, hp, hx, h⟩
        · cases h
      · cases h
    · exact .inl h
  · rintro (h | ⟨j, x, hj, hp, hx, h⟩)
    · exact .inr h
    · refine .inl ⟨j, hj, ?_⟩
      rw [if_pos hp, hx]; exact h

/-- One operation more. -/
theorem SP_step {ios : List IOp} {xs : List Eff} (hd : Distinct ios) {p q : Nat → Bool} {i : Nat} {o : IOp} {x : Eff} (ho : ios[i]? = some o) (hx : xs[i]? = some x) (hds : o.d.isSome = true)
    (hn : ∀ p ∈ x.n, o.d = some p.1 ∧ p.2.keys = []) (hpi : p i = false) (hq : ∀ j, q j = (p j || j == i)) : Eqv ((SP s ios xs p).eff o.d x) (SP s ios xs q) := by
  obtain ⟨d, hd'⟩ := Option.isSome_iff_exists.1 hds
  have hidx : idx ios d = some i := idx_of hd ho hd'
  have hqi : q i = true := by rw [hq]; simp
  have hqj : ∀ j, j ≠ i → q j = p j := fun j hj => by rw [hq]; simp [hj]
  have hother : ∀ t, t ≠ d → ∀ j, idx ios t = some j → j ≠ i := fun t ht j hj e => by
    subst e
    obtain ⟨o', h1, h2⟩ := idx_some hj
    rw [ho] at h1; cases h1
    rw [hd'] at h2; cases h2; exact ht rfl
  refine ⟨fun t => ?_, fun k => ?_, fun k => ?_⟩
  · rw [hd']
    by_cases e : t = d
    · subst e
      simp only [SP, St.eff, nbt, cond_true, hidx, hqi, if_true, hx]
    · simp only [St.eff, nbf e, cond_false]
      simp only [SP]
      cases hj : idx ios t with
      | none => rfl
      | some j => simp only [hqj j (hother t e j hj)]
  · rw [hd']
    simp only [St.eff]
    by_cases e : k = d
    · subst e
      simp only [SP, hidx, hqi, if_true, hx, hpi]
      cases lkB k x.n <;> simp
    · have hl : lkB k x.n = none := by
        cases hl : lkB k x.n with
        | none => rfl
        | some b =>
          obtain ⟨p, h1, h2, _⟩ := lkB_mem hl
          have := (hn p h1).1
          rw [hd'] at this; cases this; exact absurd h2.symm e
      simp only [hl]
      simp only [SP]
      cases hj : idx ios k with
      | none => rfl
      | some j => simp only [hqj j (hother k e j hj)]
  · simp only [St.eff, List.mem_append]
    rw [SP_u, SP_u]
    have hi : i < ios.length := (List.getElem?_eq_some_iff.1 ho).1
    constructor
    · rintro (h | h | ⟨j, y, h1, h2, h3, h4⟩)
      · exact .inr ⟨i, x, hi, hqi, hx, h⟩
      · exact .inl h
      · exact .inr ⟨j, y, h1, by rw [hq, h2]; rfl, h3, h4⟩
    · rintro (h | ⟨j, y, h1, h2, h3, h4⟩)
      · exact .inr (.inl h)
      · by_cases e : j = i
        · subst e; rw [hx] at h3; cases h3; exact .inl h4
        · exact .inr (.inr ⟨j, y, h1, by rw [← hqj j e]; exact h2, h3, h4⟩)

theorem SP_none {ios : List IOp} {xs : List Eff} {p : Nat → Bool} (hp : ∀ j, j < ios.length → p j = false) : Eqv s (SP s ios xs p) := by
  have hlt : ∀ t j, idx ios t = some j → p j = false := fun t j hj => by
    obtain ⟨o, h1, _⟩ := idx_some hj
    exact hp j (List.getElem?_eq_some_iff.1 h1).1
  refine ⟨fun t => ?_, fun k => ?_, fun k => ?_⟩
  · simp only [SP]
    cases hj : idx ios t with
    | none => rfl
    | some j => simp [hlt t j hj]
  · simp only [SP]
    cases hj : idx ios k with
    | none => rfl
    | some j => simp [hlt k j hj]
  · rw [SP_u]
    constructor
    · exact .inl
    · rintro (h | ⟨j, y, h1, h2, _⟩)
      · exact h
      · rw [hp j h1] at h2; cases h2

theorem SP_text {ios : List IOp} {xs : List Eff} (hd : Distinct ios) (hr : Run P gl s ios xs) (hds : ∀ o ∈ ios, o.d.isSome = true) : ∀ i, i ≤ ios.length → Eqv (effs s (ios.take i) (xs.take i)) (SP s ios xs fun j => decide (j < i)) := by
  intro i
  induction i with
  | zero => intro _; simp only [List.take_zero, effs]; exact SP_none fun j _ => by simp
  | succ i ih =>
    intro hi
    have ho : ios[i]? = some ios[i] := List.getElem?_eq_getElem (by omega)
    have hl := hr.len
    have hx : xs[i]? = some xs[i] := List.getElem?_eq_getElem (by omega)
    rw [effs_snoc ho hx]
    refine ((ih (by omega)).eff _ _).trans ?_
    refine SP_step hd ho hx (hds _ (List.getElem_mem _)) (hr.at ho hx).n (by simp) fun j => ?_
    rw [Bool.eq_iff_iff]
    simp only [decide_eq_true_eq, Bool.or_eq_true, beq_iff_eq]
    omega
end
end Go.Proofs.YtfmeidhialmckaaGreatDoor.Ab

namespace Go.Proofs.YtfmeidhialmckaaGreatDoor.Ab
open Go Go.RowKit

structure DrawOk (ops : Array Oper) (ios : List IOp) (m : Nat) : Prop where
  len : ios.length = ops.size
  hm : m ≤ ios.length
  back : ∀ (i : Nat) (pi : Oper), ops[i]? = some pi → ∀ e ∈ pi.after, Region.binds .any e = true → e.on < i
  pure : ∀ (i : Nat) (oi : IOp), i < m → ios[i]? = some oi → isPureI oi.i = true ∧ oi.d.isSome = true ∧ ∀ y ∈ opsI oi.i, y.kf = true
  dist : ∀ (i j : Nat) (oi oj : IOp), i < m → j < m → i ≠ j → ios[i]? = some oi → ios[j]? = some oj → oi.d ≠ oj.d
  dep : ∀ (i j : Nat) (oi oj : IOp) (pi pj : Oper) (t : Nat), i < m → j < m → i ≠ j → ios[i]? = some oi → ios[j]? = some oj → ops[i]? = some pi → ops[j]? = some pj →
    oj.d = some t → t ∈ (opsG oi).flatMap rdO → (j < i → edgeOn pi j = true) ∧ (¬ j < i → edgeOn pj i = true)
  tail : ∀ (i j : Nat) (pi : Oper), m ≤ i → j < i → ops[i]? = some pi → edgeOn pi j = true ∨ ∃ (l : Nat) (pl : Oper), ops[l]? = some pl ∧ edgeOn pi l = true ∧ edgeOn pl j = true

theorem okDraw_spec {ops : Array Oper} {ios : List IOp} {m : Nat} (h : okDraw ops ios m = true) : DrawOk ops ios m := by
  unfold okDraw at h
  simp only [Bool.and_eq_true, decide_eq_true_eq, List.all_eq_true, List.mem_range] at h
  obtain ⟨⟨hm, hl⟩, hall⟩ := h
  have get : ∀ i, i < ios.length → ∃ oi pi, ios[i]? = some oi ∧ ops[i]? = some pi := fun i hi =>
    ⟨ios[i], ops[i]'(by omega), List.getElem?_eq_getElem hi, Array.getElem?_eq_getElem (by omega)⟩
  have lti : ∀ (i : Nat) oi, ios[i]? = some oi → i < ios.length := fun i oi h => (List.getElem?_eq_some_iff.1 h).1
  have ltp : ∀ (i : Nat) pi, ops[i]? = some pi → i < ios.length := fun i oi h => by
    have := (Array.getElem?_eq_some_iff.1 h).1; omega
  refine ⟨hl, hm, fun i pi hp e he hb => ?_, fun i oi hi ho => ?_, fun i j oi oj hi hj hij ho ho' => ?_, fun i j oi oj pi pj t hi hj hij ho ho' hp hp' ht hr => ?_, fun i j pi hi hj hp => ?_⟩
  · obtain ⟨oi, pi', ho, hp'⟩ := get i (ltp i pi hp)
    rw [hp] at hp'; cases hp'
    have h1 := hall i (ltp i pi hp)
    simp only [ho, hp, Bool.and_eq_true, List.all_eq_true] at h1
    have := h1.1 e (by simpa using he)
    simpa [hb] using this
  · obtain ⟨oi', pi, ho', hp⟩ := get i (lti i oi ho)
    rw [ho] at ho'; cases ho'
    have h1 := hall i (lti i oi ho)
    simp only [ho, hp, if_pos hi, Bool.and_eq_true, List.all_eq_true] at h1
    exact ⟨h1.2.1.1.1, h1.2.1.1.2, h1.2.1.2⟩
  · obtain ⟨oi', pi, ho1, hp⟩ := get i (lti i oi ho)
    obtain ⟨oj', pj, ho2, hp'⟩ := get j (lti j oj ho')
    have h1 := hall i (lti i oi ho)
    simp only [ho, hp, if_pos hi, Bool.and_eq_true, List.all_eq_true, List.mem_range] at h1
    have h2 := h1.2.2 j hj
    simp only [ho', hp', Bool.and_eq_true, Bool.or_eq_true, beq_iff_eq, bne_iff_ne] at h2
    exact h2.1.resolve_left hij
  · have h1 := hall i (lti i oi ho)
    simp only [ho, hp, if_pos hi, Bool.and_eq_true, List.all_eq_true, List.mem_range] at h1
    have h2 := h1.2.2 j hj
    simp only [ho', hp', ht, Bool.and_eq_true, Bool.or_eq_true, beq_iff_eq, Bool.not_eq_true'] at h2
    have h3 := h2.2
    have h4 : (if j < i then edgeOn pi j else edgeOn pj i) = true := by
      rcases h3 with (h3 | h3) | h3
      · have h5 := List.elem_eq_true_of_mem hr
        rw [h3] at h5; cases h5
      · exact absurd h3 hij
      · exact h3
    exact ⟨fun h => by rw [if_pos h] at h4; exact h4, fun h => by rw [if_neg h] at h4; exact h4⟩
  · obtain ⟨oi, pi', ho, hp'⟩ := get i (ltp i pi hp)
    have h1 := hall i (ltp i pi hp)
    simp only [ho, hp, if_neg (Nat.not_lt.2 hi), Bool.and_eq_true, List.all_eq_true, List.mem_range, Bool.or_eq_true, List.any_eq_true] at h1
    rcases h1.2 j hj with h2 | ⟨l, _, h2⟩
    · exact .inl h2
    · cases hl : ops[l]? with
      | none => rw [hl] at h2; cases h2
      | some pl =>
        rw [hl] at h2
        simp only [Bool.and_eq_true] at h2
        exact .inr ⟨l, pl, hl, h2.1, h2.2⟩

theorem edgeOn_spec {o : Oper} {j : Nat} (h : edgeOn o j = true) : ∃ e ∈ o.after, e.on = j ∧ Region.binds .any e = true := by
  unfold edgeOn at h
  simp only [List.any_eq_true, Bool.and_eq_true, beq_iff_eq] at h
  obtain ⟨e, h1, h2, h3⟩ := h
  exact ⟨e, by simpa using h1, h2, h3⟩

theorem mapM_get {α β : Type} {f : α → Option β} : ∀ {l : List α} {r : List β}, l.mapM f = some r → ∀ (i : Nat) (x : α), l[i]? = some x → ∃ y, r[i]? = some y ∧ f x = some y
  | [], r, h, i, x, hx => by simp at hx
  | a :: l, r, h, i, x, hx => by
    simp only [List.mapM_cons, Option.bind_eq_bind, Option.bind_eq_some_iff, Option.pure_def, Option.some.injEq] at h
    obtain ⟨y, hy, r', hr, rfl⟩ := h
    cases i with
    | zero => simp at hx; subst hx; exact ⟨y, by simp, hy⟩
    | succ i => simp only [List.getElem?_cons_succ] at hx ⊢; exact mapM_get hr i x hx

/-- How many are not listed. -/
def cnt (L : Nat → Bool) : Nat → Nat
  | 0 => 0
  | n + 1 => cnt L n + (if L n = true then 0 else 1)

theorem cnt_congr {L L' : Nat → Bool} : ∀ n, (∀ j, j < n → L' j = L j) → cnt L' n = cnt L n
  | 0, _ => rfl
  | n + 1, h => by simp only [cnt, cnt_congr n fun j hj => h j (by omega), h n (by omega)]

theorem cnt_set {L L' : Nat → Bool} {i : Nat} (h : ∀ j, L' j = (L j || j == i)) (hi : L i = false) : ∀ n, i < n → cnt L' n + 1 = cnt L n
  | 0, hn => by omega
  | n + 1, hn => by
    by_cases e : i = n
    · subst e
      have h1 : cnt L' i = cnt L i := cnt_congr i fun j hj => by rw [h]; simp; intro e; omega
      have h2 : L' i = true := by rw [h]; simp
      simp [cnt, h1, h2, hi]
    · have h2 : L' n = L n := by rw [h]; simp; intro e'; omega
      have := cnt_set h hi n (by omega)
      simp only [cnt, h2]; omega

theorem cnt_pos {L : Nat → Bool} {i : Nat} (hi : L i = false) : ∀ n, i < n → 0 < cnt L n
  | 0, hn => by omega
  | n + 1, hn => by
    by_cases e : i = n
    · subst e; simp [cnt, hi]
    · have := cnt_pos hi n (by omega); simp only [cnt]; omega

theorem cnt_le {L : Nat → Bool} {m : Nat} (h : ∀ j, m ≤ j → L j = false) : ∀ n, n - m ≤ cnt L n
  | 0 => by omega
  | n + 1 => by
    have := cnt_le h n
    by_cases e : m ≤ n
    · simp [cnt, h n e]; omega
    · simp only [cnt]; omega

section
variable {P : Program} {gl : Nat → Option (List AC)} {N : Nat} {w0 : World} {Pr : Nat → Prop} {φ : Nat → Option (Option Nat)} {s : St} {a : Act} {w : World}
  {hs : List Hint} {K : List Hint → St → Prop} {Q : Exit → Act → World → Prop} {next : Act → World → Prop}

/-- A guarded operation of such a region. -/
theorem opG_sound {ops : Array Oper} {o : Oper} {io : IOp} (hio : compO P N ops o = some io) (h : Sim gl N w0 Pr φ s a w) (hst : StepG P gl io hs s K)
    (ha : After gl N w0 Pr K next) : if Region.wanted o (yielded ops a.tmps) then o.wp P a w next Q else next (a.put o.dst undef) w := by
  obtain ⟨h1, h2, h3, h4⟩ := compO_inv hio
  obtain ⟨w1, w2⟩ := wanted_of h h2
  have go : ∀ hs, StepD P gl o.dst io.i hs s K → o.wp P a w next Q := fun _ hst' => stepD_sound h1 h h4 hst' ha
  unfold StepG at hst
  rw [h3] at hst
  split at hst
  · rename_i hg
    rw [if_pos (w1 hg)]; exact go _ hst
  · rename_i t b hg
    split at hst
    · rename_i c v hs1 hc
      obtain ⟨rfl, hst⟩ := hst
      have hw := w2 t b c hg hc
      split at hst
      · rw [if_pos (by rw [hw]; rfl)]; exact go _ hst
      · rw [if_pos (by rw [hw]; rfl)]; exact go _ hst
      · rename_i n1 n2
        have hne : (c == b) = false := by cases c <;> cases b <;> first | rfl | exact absurd rfl (n1 rfl) | exact absurd rfl (n2 rfl)
        rw [if_neg (by rw [hw, hne]; simp)]
        exact ha _ _ _ _ _ _ hst (h.undef h4) (PrS.refl _ _)
    · rename_i ps hc
      rw [if_neg (by rw [wanted_tup h (hg ▸ h2) hc]; simp)]
      exact ha _ _ _ _ _ _ hst (h.undef h4) (PrS.refl _ _)
    · exact hst.elim

theorem getD_same {listed : Array Bool} {j : Nat} (h : j < listed.size) (d d' : Bool) : listed.getD j d = listed.getD j d' := by
  simp [Array.getD, h]

theorem getD_set {listed : Array Bool} {i j : Nat} (h : i < listed.size) : (listed.setIfInBounds i true).getD j false = (listed.getD j false || j == i) := by
  by_cases e : i = j
  · subst e; simp [Array.getD, h]
  · rw [getD_set_ne false e]
    have : (j == i) = false := by simp; omega
    simp [this]

/-- Those behind: one after the other. -/
theorem tail_sound {ops : Array Oper} {ios : List IOp} {m : Nat} (hok : DrawOk ops ios m) (hcomp : ops.toList.mapM (compO P N ops) = some ios) :
    ∀ (fuel i : Nat) {hs : List Hint} {s : St} {listed : Array Bool} {Pr : Nat → Prop} {φ : Nat → Option (Option Nat)} {a : Act} {w : World}, m ≤ i → i ≤ ops.size → ops.size - i ≤ fuel →
      listed.size = ops.size → (∀ j, j < ops.size → listed.getD j false = decide (j < i)) → SegP P gl (ios.drop i) hs s K → Sim gl N w0 Pr φ s a w →
      After gl N w0 Pr K (fun a w => Q .normal a w) → wpAny P .any ops Q fuel listed a w := by
  intro fuel
  induction fuel with
  | zero =>
    intro i hs s listed Pr φ a w hmi hi hf hsz hL hst h ha
    have hi' : i = ops.size := by omega
    subst hi'
    have hr : Region.ready .any ops listed = [] := by
      rw [List.eq_nil_iff_forall_not_mem]
      intro j hj
      obtain ⟨h1, o, h2, _⟩ := mem_ready.1 hj
      have hjs : j < ops.size := (Array.getElem?_eq_some_iff.1 h2).1
      rw [getD_same (by omega) true false, hL j hjs] at h1
      simp [hjs] at h1
    rw [← hok.len, List.drop_length] at hst
    exact wpAny_done hr (ha _ _ _ _ _ _ hst h (PrS.refl _ _)) 0
  | succ fuel ih =>
    intro i hs s listed Pr φ a w hmi hi hf hsz hL hst h ha
    by_cases hie : i = ops.size
    · subst hie
      have hr : Region.ready .any ops listed = [] := by
        rw [List.eq_nil_iff_forall_not_mem]
        intro j hj
        obtain ⟨h1, o, h2, _⟩ := mem_ready.1 hj
        have hjs : j < ops.size := (Array.getElem?_eq_some_iff.1 h2).1
        rw [getD_same (by omega) true false, hL j hjs] at h1
        simp [hjs] at h1
      rw [← hok.len, List.drop_length] at hst
      exact wpAny_done hr (ha _ _ _ _ _ _ hst h (PrS.refl _ _)) _
    · have hlt : i < ops.size := by omega
      have hpi : ops[i]? = some ops[i] := Array.getElem?_eq_getElem hlt
      have hready : i ∈ Region.ready .any ops listed := mem_ready.2 ⟨by rw [getD_same (by omega) true false, hL i hlt]; simp, _, hpi, fun e he hb => by
        have := hok.back i _ hpi e he hb
        rw [hL _ (by omega)]; simp [this]⟩
      refine ⟨fun h0 => by rw [h0] at hready; (cases hready), fun j hj => ?_⟩
      have hji : j = i := by
        obtain ⟨h1, o, h2, h3⟩ := mem_ready.1 hj
        have hjs : j < ops.size := (Array.getElem?_eq_some_iff.1 h2).1
        rw [getD_same (by omega) true false, hL j hjs] at h1
        simp at h1
        rcases Nat.lt_or_ge i j with hlt' | hge
        · rcases hok.tail j i o (by omega) hlt' h2 with ht | ⟨l, pl, hpl, ht1, ht2⟩
          · obtain ⟨e, he, h4, h5⟩ := edgeOn_spec ht
            have := h3 e he h5
            rw [h4, hL i hlt] at this
            simp at this
          · obtain ⟨e, he, h4, h5⟩ := edgeOn_spec ht1
            obtain ⟨e2, he2, h6, h7⟩ := edgeOn_spec ht2
            have g1 := h3 e he h5
            have g2 := hok.back l pl hpl e2 he2 h7
            have g3 : l < ops.size := (Array.getElem?_eq_some_iff.1 hpl).1
            rw [h4, hL l g3] at g1
            simp at g1
            omega
        · omega
      subst hji
      obtain ⟨io, hio, hco⟩ := mapM_get hcomp j ops[j] (by simp [hpi])
      have hdrop : ios.drop j = io :: ios.drop (j + 1) := by
        obtain ⟨hlt', he⟩ := List.getElem?_eq_some_iff.1 hio
        rw [List.drop_eq_getElem_cons hlt', he]
      rw [hdrop] at hst
      have hL' : ∀ k, k < ops.size → (listed.setIfInBounds j true).getD k false = decide (k < j + 1) := fun k hk => by
        rw [getD_set (by omega), hL k hk, Bool.eq_iff_iff]; simp; omega
      have hnext : ∀ hs' s' Pr' φ' a' w', SegP P gl (ios.drop (j + 1)) hs' s' K → Sim gl N w0 Pr' φ' s' a' w' → PrS w0 Pr Pr' → wpAny P .any ops Q fuel (listed.setIfInBounds j true) a' w' :=
        fun hs' s' Pr' φ' a' w' k1 k2 k3 => ih (j + 1) (by omega) (by omega) (by omega) (by simp [hsz]) hL' k1 k2 fun _ _ _ _ _ _ q1 q2 q3 => ha _ _ _ _ _ _ q1 q2 (k3.trans q3)
      unfold wpOp
      rw [hpi]
      obtain ⟨h1, h2, h3, h4⟩ := compO_inv hco
      obtain ⟨w1, w2⟩ := wanted_of h h2
      have go : ∀ hs, Step P gl ops[j].dst io.i hs s (fun hs' s' => SegP P gl (ios.drop (j + 1)) hs' s' K) → (ops[j]).wp P a w (wpAny P .any ops Q fuel (listed.setIfInBounds j true)) Q := fun _ hst' =>
        comp_sound h1 h h4 hst' fun hs' s' Pr' φ' a' w' k1 k2 k3 => hnext _ _ _ _ _ _ k1 k2 k3
      simp only [SegP] at hst
      rw [h3] at hst
      split at hst
      · rename_i hg
        simp only [w1 hg, if_true]; exact .inl (go _ hst)
      · rename_i t b hg
        split at hst
        · rename_i c v hs1 hc
          obtain ⟨rfl, hst⟩ := hst
          have hw := w2 t b c hg hc
          split at hst
          · simp only [hw, beq_self_eq_true, if_true]; exact .inl (go _ hst)
          · simp only [hw, beq_self_eq_true, if_true]; exact .inl (go _ hst)
          · rename_i n1 n2
            have hne : (c == b) = false := by cases c <;> cases b <;> first | rfl | exact absurd rfl (n1 rfl) | exact absurd rfl (n2 rfl)
            simp only [hw, hne, Bool.false_eq_true, if_false]
            exact hnext _ _ _ _ _ _ hst (h.undef h4) (PrS.refl _ _)
        · rename_i ps hc
          simp only [wanted_tup h (hg ▸ h2) hc, Bool.false_eq_true, if_false]
          exact hnext _ _ _ _ _ _ hst (h.undef h4) (PrS.refl _ _)
        · exact hst.elim

/-- Those in front: in any order. -/
theorem draw_sound {ops : Array Oper} {ios : List IOp} {m : Nat} (hok : DrawOk ops ios m) (hcomp : ops.toList.mapM (compO P N ops) = some ios) {xs : List Eff} (hr : Run P gl s (ios.take m) xs)
    (hko : KeyOk s) (hst : SegP P gl (ios.drop m) hs (effs s (ios.take m) xs) K) {Pr0 : Nat → Prop} (ha : After gl N w0 Pr0 K (fun a w => Q .normal a w)) :
    ∀ (fuel : Nat) {listed : Array Bool} {Pr : Nat → Prop} {φ : Nat → Option (Option Nat)} {a : Act} {w : World}, PrS w0 Pr0 Pr → cnt (fun j => listed.getD j false) ops.size ≤ fuel →
      listed.size = ops.size → (∀ j, m ≤ j → listed.getD j false = false) → (∀ j pj, listed.getD j false = true → ops[j]? = some pj → ∀ e ∈ pj.after, Region.binds .any e = true → listed.getD e.on false = true) →
      Sim gl N w0 Pr φ (SP s (ios.take m) xs fun j => listed.getD j false) a w → wpAny P .any ops Q fuel listed a w := by
  have hml : (ios.take m).length = m := by rw [List.length_take]; have := hok.hm; omega
  have hgt : ∀ (i : Nat) (o : IOp), (ios.take m)[i]? = some o ↔ i < m ∧ ios[i]? = some o := fun i o => by
    rw [List.getElem?_take]
    by_cases e : i < m
    · simp [e]
    · simp [e]
  have hdis : Distinct (ios.take m) := ⟨fun i j oi oj t h1 h2 h3 h4 => by
    have h1' := (hgt i oi).1 h1
    have h2' := (hgt j oj).1 h2
    by_cases e : i = j
    · exact e
    · exact absurd (h3.trans h4.symm) (hok.dist i j oi oj h1'.1 h2'.1 e h1'.2 h2'.2)⟩
  have hdsome : ∀ o ∈ ios.take m, o.d.isSome = true := fun o ho => by
    obtain ⟨i, hi⟩ := List.mem_iff_getElem?.1 ho
    have := (hgt i o).1 hi
    exact (hok.pure i o this.1 this.2).2.1
  have hxl : xs.length = m := by rw [hr.len, hml]
  have hkoT : ∀ i, i ≤ m → KeyOk (effs s ((ios.take m).take i) (xs.take i)) := by
    intro i
    induction i with
    | zero => intro _; simpa [effs] using hko
    | succ i ih =>
      intro hi
      have ho : (ios.take m)[i]? = some (ios.take m)[i] := List.getElem?_eq_getElem (by omega)
      have hx : xs[i]? = some xs[i] := List.getElem?_eq_getElem (by omega)
      rw [effs_snoc ho hx]
      have hout := hr.at ho hx
      exact (ih (by omega)).eff hout.n hout.k
  intro fuel
  induction fuel with
  | zero =>
    intro listed Pr φ a w hps hcnt hsz hge hcl h
    have hall : ∀ j, j < ops.size → listed.getD j false = true := fun j hj => by
      cases hb : listed.getD j false with
      | true => rfl
      | false => have := cnt_pos (L := fun j => listed.getD j false) hb ops.size hj; omega
    have hmm : m = ops.size := by
      have h0 := hok.hm
      have h1 := hok.len
      rcases Nat.lt_or_ge m ops.size with hlt | hge'
      · have := hall m hlt; rw [hge m (Nat.le_refl _)] at this; cases this
      · omega
    have heq : Eqv (effs s (ios.take m) xs) (SP s (ios.take m) xs fun j => listed.getD j false) := by
      have := SP_text hdis hr hdsome m (by omega)
      rw [List.take_of_length_le (l := ios.take m) (by omega), List.take_of_length_le (l := xs) (by omega)] at this
      refine this.trans ⟨fun t => ?_, fun k => ?_, fun k => ?_⟩
      · simp only [SP]
        cases hi : idx (ios.take m) t with
        | none => rfl
        | some j =>
          obtain ⟨o, h1, _⟩ := idx_some hi
          have := ((hgt j o).1 h1).1
          simp only [hall j (by omega), this, decide_true]
      · simp only [SP]
        cases hi : idx (ios.take m) k with
        | none => rfl
        | some j =>
          obtain ⟨o, h1, _⟩ := idx_some hi
          have := ((hgt j o).1 h1).1
          simp only [hall j (by omega), this, decide_true]
      · rw [SP_u, SP_u]
        constructor
        · rintro (h | ⟨j, x, h1, h2, h3, h4⟩)
          · exact .inl h
          · exact .inr ⟨j, x, h1, hall j (by omega), h3, h4⟩
        · rintro (h | ⟨j, x, h1, h2, h3, h4⟩)
          · exact .inl h
          · exact .inr ⟨j, x, h1, by simp; omega, h3, h4⟩
    refine tail_sound hok hcomp 0 m (Nat.le_refl _) (by have := hok.hm; have := hok.len; omega) (by omega) hsz (fun j hj => by rw [hall j hj]; simp; omega) hst
      (h.same (fun t => (heq.e t).symm) (fun k => (heq.h k).symm) (fun k => (heq.u k).2)) (fun _ _ _ _ _ _ q1 q2 q3 => ha _ _ _ _ _ _ q1 q2 (hps.trans q3))
  | succ fuel ih =>
    intro listed Pr φ a w hps hcnt hsz hge hcl h
    by_cases hall : ∀ j, j < m → listed.getD j false = true
    · have heq : Eqv (effs s (ios.take m) xs) (SP s (ios.take m) xs fun j => listed.getD j false) := by
        have := SP_text hdis hr hdsome m (by omega)
        rw [List.take_of_length_le (l := ios.take m) (by omega), List.take_of_length_le (l := xs) (by omega)] at this
        refine this.trans ⟨fun t => ?_, fun k => ?_, fun k => ?_⟩
        · simp only [SP]
          cases hi : idx (ios.take m) t with
          | none => rfl
          | some j =>
            obtain ⟨o, h1, _⟩ := idx_some hi
            have := ((hgt j o).1 h1).1
            simp only [hall j this, this, decide_true]
        · simp only [SP]
          cases hi : idx (ios.take m) k with
          | none => rfl
          | some j =>
            obtain ⟨o, h1, _⟩ := idx_some hi
            have := ((hgt j o).1 h1).1
            simp only [hall j this, this, decide_true]
        · rw [SP_u, SP_u]
          constructor
          · rintro (h | ⟨j, x, h1, h2, h3, h4⟩)
            · exact .inl h
            · exact .inr ⟨j, x, h1, hall j (by omega), h3, h4⟩
          · rintro (h | ⟨j, x, h1, h2, h3, h4⟩)
            · exact .inl h
            · exact .inr ⟨j, x, h1, by simp; omega, h3, h4⟩
      have hle := cnt_le (L := fun j => listed.getD j false) hge ops.size
      refine tail_sound hok hcomp (fuel + 1) m (Nat.le_refl _) (by have := hok.hm; have := hok.len; omega) (by omega) hsz (fun j hj => ?_) hst
        (h.same (fun t => (heq.e t).symm) (fun k => (heq.h k).symm) (fun k => (heq.u k).2)) (fun _ _ _ _ _ _ q1 q2 q3 => ha _ _ _ _ _ _ q1 q2 (hps.trans q3))
      by_cases e : j < m
      · rw [hall j e]; simp [e]
      · rw [hge j (by omega)]; simp; omega
    · have hex : ∃ j, j < m ∧ listed.getD j false = false := by
        obtain ⟨j, hj⟩ := Classical.not_forall.1 hall
        obtain ⟨h1, h2⟩ := Classical.not_imp.1 hj
        exact ⟨j, h1, by simpa using h2⟩
      have hms : m ≤ ops.size := by have := hok.hm; have := hok.len; omega
      -- the least that is not listed is ready
      have hready : ∃ j, j ∈ Region.ready .any ops listed := by
        have key : ∀ n j, j ≤ n → j < m → listed.getD j false = false → ∃ j, j ∈ Region.ready .any ops listed := by
          intro n
          induction n with
          | zero =>
            intro j hj hjm hl
            have hp : ops[j]? = some ops[j] := Array.getElem?_eq_getElem (by omega)
            refine ⟨j, mem_ready.2 ⟨by rw [getD_same (by omega) true false]; exact hl, _, hp, fun e he hb => ?_⟩⟩
            have := hok.back j _ hp e he hb
            omega
          | succ n ih' =>
            intro j hj hjm hl
            have hp : ops[j]? = some ops[j] := Array.getElem?_eq_getElem (by omega)
            by_cases hrd : ∀ e ∈ (ops[j]).after, Region.binds .any e = true → listed.getD e.on false = true
            · exact ⟨j, mem_ready.2 ⟨by rw [getD_same (by omega) true false]; exact hl, _, hp, hrd⟩⟩
            · obtain ⟨e, he⟩ := Classical.not_forall.1 hrd
              obtain ⟨h1, h2⟩ := Classical.not_imp.1 he
              obtain ⟨h3, h4⟩ := Classical.not_imp.1 h2
              have := hok.back j _ hp e h1 h3
              exact ih' e.on (by omega) (by omega) (by simpa using h4)
        obtain ⟨j, hj, hl⟩ := hex
        exact key j j (Nat.le_refl _) hj hl
      refine ⟨fun h0 => by obtain ⟨j, hj⟩ := hready; rw [h0] at hj; (cases hj), fun i hi => ?_⟩
      obtain ⟨hl1, pi, hpi, hdeps⟩ := mem_ready.1 hi
      have his : i < ops.size := (Array.getElem?_eq_some_iff.1 hpi).1
      rw [getD_same (by omega) true false] at hl1
      have him : i < m := by
        rcases Nat.lt_or_ge i m with hlt | hge'
        · exact hlt
        · obtain ⟨j, hj, hl⟩ := hex
          rcases hok.tail i j pi hge' (by omega) hpi with ht | ⟨l, pl, hpl, ht1, ht2⟩
          · obtain ⟨e, he, h4, h5⟩ := edgeOn_spec ht
            have := hdeps e he h5
            rw [h4, hl] at this; cases this
          · obtain ⟨e, he, h4, h5⟩ := edgeOn_spec ht1
            obtain ⟨e2, he2, h6, h7⟩ := edgeOn_spec ht2
            have g1 := hdeps e he h5
            rw [h4] at g1
            have := hcl l pl g1 hpl e2 he2 h7
            rw [h6, hl] at this; cases this
      obtain ⟨io, hio, hco⟩ := mapM_get hcomp i pi (by rw [Array.getElem?_toList]; exact hpi)
      have hio' : (ios.take m)[i]? = some io := (hgt i io).2 ⟨him, hio⟩
      have hx : xs[i]? = some xs[i] := List.getElem?_eq_getElem (by omega)
      have hout := hr.at hio' hx
      obtain ⟨hpure, hds, hkf⟩ := hok.pure i io him hio
      have htext := SP_text hdis hr hdsome i (by omega)
      have hko' := hkoT i (by omega)
      have hkoS : KeyOk (SP s (ios.take m) xs fun j => listed.getD j false) := h.keyOk
      -- what it reads is the same
      have hev : ∀ y ∈ opsG io, ev gl (SP s (ios.take m) xs fun j => listed.getD j false) y = ev gl (effs s ((ios.take m).take i) (xs.take i)) y := by
        intro y hy
        cases y with
        | t t =>
          show (SP s (ios.take m) xs fun j => listed.getD j false).e t = (effs s ((ios.take m).take i) (xs.take i)).e t
          rw [← htext.e]
          simp only [SP]
          cases hj : idx (ios.take m) t with
          | none => rfl
          | some j =>
            obtain ⟨oj, h1, h2⟩ := idx_some hj
            have h1' := (hgt j oj).1 h1
            have hpj : ops[j]? = some ops[j] := Array.getElem?_eq_getElem (by have := h1'.1; omega)
            have hmem : t ∈ (opsG io).flatMap rdO := List.mem_flatMap.2 ⟨.t t, hy, by simp [rdO]⟩
            have hpq : listed.getD j false = decide (j < i) := by
              by_cases e : i = j
              · subst e; rw [hl1]; simp
              · obtain ⟨d1, d2⟩ := hok.dep i j io oj pi _ t him h1'.1 e hio h1'.2 hpi hpj h2 hmem
                by_cases hlt : j < i
                · obtain ⟨ed, he, h4, h5⟩ := edgeOn_spec (d1 hlt)
                  have := hdeps ed he h5
                  rw [h4] at this; rw [this]; simp [hlt]
                · obtain ⟨ed, he, h4, h5⟩ := edgeOn_spec (d2 hlt)
                  cases hb : listed.getD j false with
                  | false => simp [hlt]
                  | true =>
                    have := hcl j _ hb hpj ed he h5
                    rw [h4, hl1] at this; cases this
            simp only [hpq]
        | v c => rfl
        | a cs => rfl
        | g n => rfl
        | f n => rfl
      -- and so are the blocks that it can come to
      have hagk : ∀ k, k ∈ (effs s ((ios.take m).take i) (xs.take i)).u → k ∈ (SP s (ios.take m) xs fun j => listed.getD j false).u →
          (SP s (ios.take m) xs fun j => listed.getD j false).h k = (effs s ((ios.take m).take i) (xs.take i)).h k := by
        intro k hk1 hk2
        rw [← htext.h]
        have hk1 := (htext.u k).1 hk1
        simp only [SP]
        cases hj : idx (ios.take m) k with
        | none => rfl
        | some j =>
          obtain ⟨oj, h1, h2⟩ := idx_some hj
          have hjl : j < (ios.take m).length := (List.getElem?_eq_some_iff.1 h1).1
          have hxj : xs[j]? = some xs[j] := List.getElem?_eq_getElem (by omega)
          have houtj := hr.at h1 hxj
          simp only [hxj]
          by_cases hpq : listed.getD j false = decide (j < i)
          · simp only [hpq]
          · -- the key is of old: it is no new block's
            have hks : k ∈ s.u := by
              have each : ∀ p : Nat → Bool, p j = false → k ∈ (SP s (ios.take m) xs p).u → k ∈ s.u := by
                intro p hp hk
                rcases SP_u.1 hk with hk | ⟨j', x', g1, g2, g3, g4⟩
                · exact hk
                · obtain ⟨pp, g5, g6⟩ := List.mem_map.1 g4
                  have g7 : (ios.take m)[j']? = some (ios.take m)[j'] := List.getElem?_eq_getElem g1
                  have g8 := ((hr.at g7 g3).n pp g5).1
                  rw [g6] at g8
                  have := hdis.d j' j _ oj k g7 h1 g8 h2
                  subst this
                  rw [hp] at g2; cases g2
              cases hb : listed.getD j false with
              | false => exact each _ hb hk2
              | true =>
                have : decide (j < i) = false := by
                  cases hd : decide (j < i) with
                  | false => rfl
                  | true => rw [hb, hd] at hpq; exact absurd rfl hpq
                exact each _ this hk1
            have hnone : lkB k xs[j].n = none := by
              cases hl : lkB k xs[j].n with
              | none => rfl
              | some b =>
                obtain ⟨pp, g5, g6, _⟩ := lkB_mem hl
                have hne : xs[j].n ≠ [] := by intro h0; rw [h0] at g5; cases g5
                have hfr := houtj.f hne k h2
                have hks' : k ∈ (effs s ((ios.take m).take j) (xs.take j)).u := by
                  rw [(SP_text hdis hr hdsome j (by omega)).u k]
                  exact SP_u.2 (.inl hks)
                exact absurd hks' (not_mem_of_elem hfr)
            simp only [hnone]
            split <;> split <;> rfl
      have hag : Ag (Rch gl (effs s ((ios.take m).take i) (xs.take i)) io) (effs s ((ios.take m).take i) (xs.take i)) (SP s (ios.take m) xs fun j => listed.getD j false) := by
        have both : ∀ k, Rch gl (effs s ((ios.take m).take i) (xs.take i)) io k → k ∈ (SP s (ios.take m) xs fun j => listed.getD j false).u := by
          intro k hk
          induction hk with
          | base y v k hy hv hk => exact ev_keys hkoS (hkf y hy) (by rw [hev y (by simp [opsG, hy])]; exact hv) k hk
          | step k k' blk h1 hb hk ih' => exact hkoS.2 k blk (by rw [hagk k (h1.u hko' hkf) ih']; exact hb) k' hk
        exact fun k hk => hagk k (hk.u hko' hkf) (both k hk)
      obtain ⟨hs1, hs2, hstep⟩ := hout.p
      obtain ⟨d, hd⟩ := Option.isSome_iff_exists.1 hds
      have hfresh : ∀ t, io.d = some t → (effs s ((ios.take m).take i) (xs.take i)).u.elem t = false → (SP s (ios.take m) xs fun j => listed.getD j false).u.elem t = false := by
        intro t ht hf
        have hnm := not_mem_of_elem hf
        cases hb : (SP s (ios.take m) xs fun j => listed.getD j false).u.elem t with
        | false => rfl
        | true =>
          exfalso
          have hmem : t ∈ (SP s (ios.take m) xs fun j => listed.getD j false).u := List.mem_of_elem_eq_true hb
          rcases SP_u.1 hmem with hk | ⟨j', x', g1, g2, g3, g4⟩
          · exact hnm ((htext.u t).2 (SP_u.2 (.inl hk)))
          · obtain ⟨pp, g5, g6⟩ := List.mem_map.1 g4
            have g7 : (ios.take m)[j']? = some (ios.take m)[j'] := List.getElem?_eq_getElem g1
            have g8 := ((hr.at g7 g3).n pp g5).1
            rw [g6] at g8
            have := hdis.d j' i _ io t g7 hio' g8 ht
            subst this
            rw [hl1] at g2; cases g2
      have hst' := hstep _ hag hev hfresh (fun _ s' => s' = (SP s (ios.take m) xs fun j => listed.getD j false).eff io.d xs[i]) rfl
      have hL' : ∀ j, (listed.setIfInBounds i true).getD j false = (listed.getD j false || j == i) := fun j => getD_set (by omega)
      have hfin := opG_sound (Q := Q) (next := wpAny P .any ops Q fuel (listed.setIfInBounds i true)) hco h hst' (by
        intro hs' s' Pr' φ' a' w' he hsim hps'
        subst he
        refine ih (φ := φ') (hps.trans hps') ?_ (by simp [hsz]) (fun j hj => ?_) (fun j pj hjl hpj e he hb => ?_) ?_
        · have := cnt_set (L := fun j => listed.getD j false) (L' := fun j => (listed.setIfInBounds i true).getD j false) hL' hl1 ops.size his
          omega
        · rw [hL', hge j hj]; simp; omega
        · rw [hL'] at hjl ⊢
          rw [Bool.or_eq_true] at hjl ⊢
          rcases hjl with hjl | hjl
          · exact .inl (hcl j pj hjl hpj e he hb)
          · simp only [beq_iff_eq] at hjl
            subst hjl
            rw [hpi] at hpj; cases hpj
            exact .inl (hdeps e he hb)
        · have heq := SP_step (s := s) (xs := xs) hdis hio' hx hds hout.n (p := fun j => listed.getD j false) (q := fun j => (listed.setIfInBounds i true).getD j false) hl1 hL'
          exact hsim.same heq.e heq.h (fun k => (heq.u k).1))
      unfold wpOp
      rw [hpi]
      show if Region.wanted pi (yielded ops a.tmps) = true then _ else _
      split
      · rename_i hw; rw [if_pos hw] at hfin; exact .inl hfin
      · rename_i hw; rw [if_neg hw] at hfin; exact hfin

/-- A region that draws its order. -/
theorem regD_sound {id : Nat} {ops : Array Oper} {ios : List IOp} {m : Nat} (hok : okDraw ops ios m = true) (hmx : P.follows .mixedOrders = true) (hcomp : ops.toList.mapM (compO P N ops) = some ios)
    (hst : SegD P gl (ios.take m) hs s fun hs' s' => SegP P gl (ios.drop m) hs' s' K) (h : Sim gl N w0 Pr φ s a w) (ha : After gl N w0 Pr K (fun a w => Q .normal a w)) :
    (Code.region id ops true).wp P Q a w := by
  have hk := okDraw_spec hok
  obtain ⟨xs, hs', hr, hst'⟩ := segD_run (ios.take m) (fun o ho => by
    obtain ⟨i, hi⟩ := List.mem_iff_getElem?.1 ho
    rw [List.getElem?_take] at hi
    split at hi
    · rename_i hlt
      have := hk.pure i o hlt hi
      exact ⟨this.1, this.2.2⟩
    · cases hi) h.keyOk hst
  refine wp_region_any hmx ?_
  have hd : Sim gl N w0 Pr φ s a { w with drawn := w.drawn + 1 } := h.drew
  have hfalse : ∀ j, (Array.replicate ops.size false).getD j false = false := fun j => by
    by_cases e : j < ops.size <;> simp [Array.getD, e]
  refine draw_sound hk hcomp hr h.keyOk hst' ha ops.size (φ := φ) (PrS.refl _ _) ?_ (by simp) (fun j _ => hfalse j) (fun j pj hj => by rw [hfalse] at hj; cases hj) ?_
  · have hc : ∀ (L : Nat → Bool), (∀ j, L j = false) → ∀ n, cnt L n = n := by
      intro L hL n
      induction n with
      | zero => rfl
      | succ n ih => simp [cnt, ih, hL]
    rw [hc _ hfalse]; exact Nat.le_refl _
  · have heq := SP_none (s := s) (ios := ios.take m) (xs := xs) (p := fun j => (Array.replicate ops.size false).getD j false) fun j _ => hfalse j
    exact hd.same heq.e heq.h (fun k => (heq.u k).1)

end
end Go.Proofs.YtfmeidhialmckaaGreatDoor.Ab

namespace Go.Proofs.YtfmeidhialmckaaGreatDoor.Ab
open Go Go.RowKit

/-! ### keys take other names -/
def AC.ren0 (k k' : Nat) : AC → AC
  | .own j wd off len => .own (bif Nat.beq j k then k' else j) wd off len
  | .pk j i => .pk (bif Nat.beq j k then k' else j) i
  | .pa j wd i off => .pa (bif Nat.beq j k then k' else j) wd i off
  | c => c
def AC.ren (k k' : Nat) : AC → AC
  | .clo f cap => .clo f (cap.map (AC.ren0 k k'))
  | c => c.ren0 k k'
def AV.ren (k k' : Nat) : AV → AV
  | .c x => .c (x.ren k k')
  | .agg xs => .agg (xs.map (AC.ren k k'))
  | .tup xs => .tup (xs.map fun p => (p.1, p.2.map (AC.ren k k')))
def Blk.ren (k k' : Nat) : Blk → Blk
  | .var cs z => .var (cs.map (AC.ren k k')) z
  | .arr wd n f z => .arr wd n f z
def St.ren (s : St) (k k' : Nat) : St where
  e t := match s.e t with | some v => some (v.ren k k') | none => none
  h j := bif Nat.beq j k' then (match s.h k with | some b => some (b.ren k k') | none => none) else bif Nat.beq j k then none else (match s.h j with | some b => some (b.ren k k') | none => none)
  u := k' :: s.u
def St.setE (s : St) (t : Nat) (v : AV) : St := { s with e := fun j => bif Nat.beq j t then some v else s.e j }

section
variable {P : Program} {gl : Nat → Option (List AC)} {N : Nat} {w0 : World} {Pr : Nat → Prop} {φ : Nat → Option (Option Nat)} {s : St} {a : Act} {w : World}

/-- The key j under another name. -/
def rk (k k' j : Nat) : Nat := bif Nat.beq j k then k' else j

theorem ren0_keys {k k' : Nat} {c : AC} {j : Nat} (h : j ∈ (c.ren0 k k').keys0) : ∃ i ∈ c.keys0, j = rk k k' i := by
  cases c <;> first | (simp [AC.ren0, AC.keys0] at h; done) | (simp only [AC.ren0, AC.keys0, List.mem_cons, List.not_mem_nil, or_false] at h; exact ⟨_, by simp [AC.keys0], h⟩)
theorem ren_keys {k k' : Nat} {c : AC} {j : Nat} (h : j ∈ (c.ren k k').keys) : ∃ i ∈ c.keys, j = rk k k' i := by
  cases c with
  | clo f cap =>
    obtain ⟨c, hc, hj⟩ := List.mem_flatMap.1 h
    obtain ⟨c', hc', rfl⟩ := List.mem_map.1 hc
    obtain ⟨i, h1, h2⟩ := ren0_keys hj
    exact ⟨i, List.mem_flatMap.2 ⟨c', hc', h1⟩, h2⟩
  | own k0 wd off len => exact ren0_keys (c := .own k0 wd off len) h
  | pk k0 i0 => exact ren0_keys (c := .pk k0 i0) h
  | pa k0 wd i0 off => exact ren0_keys (c := .pa k0 wd i0 off) h
  | int k0 n0 => exact ren0_keys (c := .int k0 n0) h
  | bool b0 => exact ren0_keys (c := .bool b0) h
  | str s0 => exact ren0_keys (c := .str s0) h
  | nil  => exact ren0_keys (c := .nil ) h
  | raw v0 => exact ren0_keys (c := .raw v0) h
  | sl wd n0 f0 => exact ren0_keys (c := .sl wd n0 f0) h
  | pd cs i0 => exact ren0_keys (c := .pd cs i0) h
theorem renL_keys {k k' : Nat} {cs : List AC} {j : Nat} (h : j ∈ (cs.map (AC.ren k k')).flatMap AC.keys) : ∃ i ∈ cs.flatMap AC.keys, j = rk k k' i := by
  obtain ⟨c, hc, hj⟩ := List.mem_flatMap.1 h
  obtain ⟨c', hc', rfl⟩ := List.mem_map.1 hc
  obtain ⟨i, h1, h2⟩ := ren_keys hj
  exact ⟨i, List.mem_flatMap.2 ⟨c', hc', h1⟩, h2⟩
theorem renV_keys {k k' : Nat} {v : AV} {j : Nat} (h : j ∈ (v.ren k k').keys) : ∃ i ∈ v.keys, j = rk k k' i := by
  cases v with
  | c x => exact ren_keys h
  | agg xs => exact renL_keys h
  | tup xs =>
    obtain ⟨p, hp, hj⟩ := List.mem_flatMap.1 h
    obtain ⟨p', hp', rfl⟩ := List.mem_map.1 hp
    obtain ⟨i, h1, h2⟩ := renL_keys hj
    exact ⟨i, List.mem_flatMap.2 ⟨p', hp', h1⟩, h2⟩

theorem rk_u {k k' j : Nat} {u : List Nat} (h : j ∈ u) : rk k k' j ∈ k' :: u := by
  unfold rk
  cases Nat.beq j k <;> simp [h]

/-- Where the keys lie after k has become k'. -/
def φren (φ : Nat → Option (Option Nat)) (k k' : Nat) : Nat → Option (Option Nat) := fun j => if j = k' then φ k else if j = k then none else φ j

theorem φren_rk {k k' j : Nat} (hj : j ≠ k') {p : Option Nat} (h : φren φ k k' (rk k k' j) = some p) : φ j = some p := by
  unfold rk at h
  by_cases e : j = k
  · subst e; simp [nbt, φren] at h; exact h
  · simp only [nbf e, cond_false] at h; simpa [φren, hj, e] using h

theorem KR0.ren {k k' : Nat} {c : AC} {v : Value} (h : KR0 Pr φ w c v) (hk : ∀ j ∈ c.keys0, j ≠ k') : KR0 Pr (φren φ k k') w (c.ren0 k k') v := by
  cases c with
  | own j wd off len => exact ⟨h.1, fun p hp => h.2 p (φren_rk (hk j (by simp [AC.keys0])) hp)⟩
  | pk j i => exact ⟨h.1, fun p hp => h.2 p (φren_rk (hk j (by simp [AC.keys0])) hp)⟩
  | pa j wd i off => exact ⟨h.1, fun p hp => h.2 p (φren_rk (hk j (by simp [AC.keys0])) hp)⟩
  | _ => exact h

theorem KR.ren {k k' : Nat} {c : AC} {v : Value} (h : KR Pr φ w c v) (hk : ∀ j ∈ c.keys, j ≠ k') : KR Pr (φren φ k k') w (c.ren k k') v := by
  cases c with
  | clo f cap =>
    obtain ⟨g, h1, h2⟩ := h
    refine ⟨g, by simpa using h1, fun j c hj => ?_⟩
    rw [List.getElem?_map, Option.map_eq_some_iff] at hj
    obtain ⟨c', hc', rfl⟩ := hj
    exact (h2 j c' hc').ren fun i hi => hk i (List.mem_flatMap.2 ⟨c', List.mem_of_getElem? hc', hi⟩)
  | own j wd off len => exact KR0.ren (Pr := Pr) (φ := φ) (w := w) (c := .own j wd off len) h hk
  | pk j i => exact KR0.ren (Pr := Pr) (φ := φ) (w := w) (c := .pk j i) h hk
  | pa j wd i off => exact KR0.ren (Pr := Pr) (φ := φ) (w := w) (c := .pa j wd i off) h hk
  | int => exact h
  | bool => exact h
  | str => exact h
  | nil => exact h
  | raw => exact h
  | sl => exact h
  | pd => exact h

theorem cellsR.ren {k k' : Nat} {cs : List AC} {vs : List Value} (h : cellsR (KR Pr φ w) cs vs) (hk : ∀ j ∈ cs.flatMap AC.keys, j ≠ k') : cellsR (KR Pr (φren φ k k') w) (cs.map (AC.ren k k')) vs := by
  refine ⟨by simp [h.1], fun i c v hc hv => ?_⟩
  rw [List.getElem?_map, Option.map_eq_some_iff] at hc
  obtain ⟨c', hc', rfl⟩ := hc
  exact (h.2 i c' v hc' hv).ren fun j hj => hk j (List.mem_flatMap.2 ⟨c', List.mem_of_getElem? hc', hj⟩)

theorem VP.ren {k k' : Nat} {p : Bool × List AC} {v : Value} (h : VP (KR Pr φ w) p v) (hk : ∀ j ∈ p.2.flatMap AC.keys, j ≠ k') : VP (KR Pr (φren φ k k') w) (p.1, p.2.map (AC.ren k k')) v := by
  obtain ⟨b, xs⟩ := p
  cases b with
  | false =>
    match xs, h, hk with
    | [x], h, hk => exact KR.ren h fun j hj => hk j (by simpa using hj)
  | true => obtain ⟨vs, h1, h2⟩ := h; exact ⟨vs, h1, h2.ren hk⟩

theorem VR.ren {k k' : Nat} {x : AV} {v : Value} (h : VR (KR Pr φ w) x v) (hk : ∀ j ∈ x.keys, j ≠ k') : VR (KR Pr (φren φ k k') w) (x.ren k k') v := by
  cases x with
  | c x => exact KR.ren h hk
  | agg xs => obtain ⟨vs, h1, h2⟩ := h; exact ⟨vs, h1, h2.ren hk⟩
  | tup xs =>
    obtain ⟨g, h1, h2⟩ := h
    refine ⟨g, by simpa using h1, fun i p hp => ?_⟩
    rw [List.getElem?_map, Option.map_eq_some_iff] at hp
    obtain ⟨p', hp', rfl⟩ := hp
    exact (h2 i p' hp').ren fun j hj => hk j (List.mem_flatMap.2 ⟨p', List.mem_of_getElem? hp', hj⟩)

theorem BR.ren {k k' : Nat} {p : Option Nat} {b : Blk} (h : BR Pr φ w p b) (hk : ∀ j ∈ b.keys, j ≠ k') : BR Pr (φren φ k k') w p (b.ren k k') := by
  cases b with
  | var cs z => obtain ⟨c, arr, T, h3, h4, h5⟩ := h; exact ⟨c, arr, T, h3, h4, h5.ren hk⟩
  | arr wd n f z => exact h

theorem Blk.ren_fz {k k' : Nat} {b : Blk} : (b.ren k k').fz = b.fz := by cases b <;> rfl
theorem Blk.ren_keys {k k' : Nat} {b : Blk} {j : Nat} (h : j ∈ (b.ren k k').keys) : ∃ i ∈ b.keys, j = rk k k' i := by
  cases b with
  | var cs z => exact renL_keys h
  | arr wd n f z => cases h

theorem Sim.ren (h : Sim gl N w0 Pr φ s a w) {k k' : Nat} (hk' : s.u.elem k' = false) : Sim gl N w0 Pr (φren φ k k') (s.ren k k') a w := by
  have hn := not_mem_of_elem hk'
  have hnk : s.h k' = none := by
    cases hh : s.h k' with
    | none => rfl
    | some b => exact absurd (h.ku k' (by rw [hh]; simp)) hn
  have hh : ∀ j b, (s.ren k k').h j = some b → ∃ i b', s.h i = some b' ∧ b = b'.ren k k' ∧ j = rk k k' i ∧ φren φ k k' j = φ i := fun j b hj => by
    simp only [St.ren] at hj
    by_cases e : j = k'
    · subst e
      simp only [nbt, cond_true] at hj
      split at hj
      · rename_i b' hb'
        simp only [Option.some.injEq] at hj
        exact ⟨k, b', hb', hj.symm, by simp [rk, nbt], by simp [φren]⟩
      · cases hj
    · simp only [nbf e, cond_false] at hj
      by_cases e' : j = k
      · subst e'; simp [nbt] at hj
      · simp only [nbf e', cond_false] at hj
        split at hj
        · rename_i b' hb'
          simp only [Option.some.injEq] at hj
          exact ⟨j, b', hb', hj.symm, by simp [rk, nbf e'], by simp [φren, e, e']⟩
        · cases hj
  have hkb : ∀ i b, s.h i = some b → ∀ j ∈ b.keys, j ≠ k' := fun i b hi j hj e => hn (e ▸ h.kh i b hi j hj)
  refine ⟨h.sz, fun t v ht => ?_, fun j b hj => ?_, fun j hj => ?_, fun j j' b hj hj' => ?_, fun j c b hj hc => ?_, fun j hj => ?_, fun t v ht j hj => ?_, fun j b hj q hq => ?_, h.pr, h.gk, h.df, h.bl⟩
  · simp only [St.ren] at ht
    split at ht
    · rename_i v' hv'
      simp only [Option.some.injEq] at ht
      subst ht
      obtain ⟨x, h1, h2⟩ := h.tm t v' hv'
      exact ⟨x, h1, h2.ren fun j hj e => hn (e ▸ h.ke t v' hv' j hj)⟩
    · cases ht
  · obtain ⟨i, b', h1, rfl, _, h4⟩ := hh j b hj
    obtain ⟨p, h5, h6⟩ := h.hp i b' h1
    exact ⟨p, h4.trans h5, h6.ren (hkb i b' h1)⟩
  · simp only [St.ren] at hj
    unfold φren
    by_cases e : j = k'
    · subst e
      simp only [nbt, cond_true] at hj
      rw [if_pos rfl]
      split at hj
      · cases hj
      · rename_i hb; exact h.lv k hb
    · simp only [nbf e, cond_false] at hj
      rw [if_neg e]
      by_cases e' : j = k
      · rw [if_pos e']
      · rw [if_neg e']
        simp only [nbf e', cond_false] at hj
        split at hj
        · cases hj
        · rename_i hb; exact h.lv j hb
  · unfold φren at hj hj'
    have hinj := h.inj
    by_cases e : j = k' <;> by_cases e' : j' = k'
    · rw [e, e']
    · rw [if_pos e] at hj; rw [if_neg e'] at hj'
      by_cases e2 : j' = k
      · rw [if_pos e2] at hj'; cases hj'
      · rw [if_neg e2] at hj'; exact absurd (hinj k j' b hj hj') (fun e3 => e2 e3.symm)
    · rw [if_neg e] at hj; rw [if_pos e'] at hj'
      by_cases e2 : j = k
      · rw [if_pos e2] at hj; cases hj
      · rw [if_neg e2] at hj; exact absurd (hinj j k b hj hj') e2
    · rw [if_neg e] at hj; rw [if_neg e'] at hj'
      by_cases e2 : j = k
      · rw [if_pos e2] at hj; cases hj
      · by_cases e3 : j' = k
        · rw [if_pos e3] at hj'; cases hj'
        · rw [if_neg e2] at hj; rw [if_neg e3] at hj'; exact hinj j j' b hj hj'
  · obtain ⟨i, b', h1, rfl, _, h4⟩ := hh j b hj
    rw [h4] at hc
    rw [Blk.ren_fz]
    exact h.ow i c b' h1 hc
  · cases hq : (s.ren k k').h j with
    | none => exact absurd hq hj
    | some b =>
      obtain ⟨i, b', h1, _, h3, _⟩ := hh j b hq
      rw [h3]; exact rk_u (h.ku i (by rw [h1]; simp))
  · simp only [St.ren] at ht
    split at ht
    · rename_i v' hv'
      simp only [Option.some.injEq] at ht
      subst ht
      obtain ⟨i, h1, rfl⟩ := renV_keys hj
      exact rk_u (h.ke t v' hv' i h1)
    · cases ht
  · obtain ⟨i, b', h1, rfl, _, _⟩ := hh j b hj
    obtain ⟨i', h2, rfl⟩ := Blk.ren_keys hq
    exact rk_u (h.kh i b' h1 i' h2)

/-- A temporary's value told otherwise. -/
theorem Sim.setE (h : Sim gl N w0 Pr φ s a w) {t : Nat} {v v' : AV} (hv : s.e t = some v) (hr : ∀ x, VR (KR Pr φ w) v x → VR (KR Pr φ w) v' x) (hk : ∀ k ∈ v'.keys, k ∈ s.u) : Sim gl N w0 Pr φ (s.setE t v') a w := by
  refine ⟨h.sz, fun j u hj => ?_, h.hp, h.lv, h.inj, h.ow, h.ku, fun j u hj => ?_, h.kh, h.pr, h.gk, h.df, h.bl⟩
  · simp only [St.setE] at hj
    by_cases e : j = t
    · subst e
      simp only [nbt, cond_true, Option.some.injEq] at hj
      subst hj
      obtain ⟨x, h1, h2⟩ := h.tm j v hv
      exact ⟨x, h1, hr x h2⟩
    · simp only [nbf e, cond_false] at hj; exact h.tm j u hj
  · simp only [St.setE] at hj
    by_cases e : j = t
    · subst e
      simp only [nbt, cond_true, Option.some.injEq] at hj
      subst hj
      exact hk
    · simp only [nbf e, cond_false] at hj; exact h.ke j u hj

theorem cellsR.set {R : AC → Value → Prop} {xs : List AC} {vs : List Value} {i : Nat} {c c' : AC} (h : cellsR R xs vs) (hc : xs[i]? = some c) (hr : ∀ v, vs[i]? = some v → R c v → R c' v) : cellsR R (xs.set i c') vs := by
  refine ⟨by simp [h.1], fun j d v hd hv => ?_⟩
  rw [List.getElem?_set] at hd
  split at hd
  · rename_i e
    split at hd
    · cases hd; subst e; exact hr v hv (h.2 _ c v hc hv)
    · cases hd
  · exact h.2 j d v hd hv

/-- A variable's cell told otherwise. -/
theorem Sim.setH (h : Sim gl N w0 Pr φ s a w) {k i : Nat} {cs : List AC} {z : Bool} {c c' : AC} (hv : s.h k = some (.var cs z)) (hc : cs[i]? = some c)
    (hr : ∀ b arr T, φ k = some (some b) → w.heap[b]? = some (.cells arr T (0, 0)) → ∀ x, arr.toList[i]? = some x → KR Pr φ w c x → KR Pr φ w c' x)
    (hk : ∀ k ∈ c'.keys, k ∈ s.u) : Sim gl N w0 Pr φ (s.sh k (.var (cs.set i c') z)) a w := by
  have hh : ∀ j b, (s.sh k (.var (cs.set i c') z)).h j = some b → (j = k ∧ b = .var (cs.set i c') z) ∨ (j ≠ k ∧ s.h j = some b) := fun j b hj => by
    simp only [St.sh] at hj
    by_cases e : j = k
    · subst e; simp only [nbt, cond_true, Option.some.injEq] at hj; exact .inl ⟨rfl, hj.symm⟩
    · simp only [nbf e, cond_false] at hj; exact .inr ⟨e, hj⟩
  refine ⟨h.sz, h.tm, fun j b hj => ?_, fun j hj => ?_, h.inj, fun j c b hj hf => ?_, fun j hj => ?_, h.ke, fun j b hj q hq => ?_, h.pr, h.gk, h.df, h.bl⟩
  · rcases hh j b hj with ⟨rfl, rfl⟩ | ⟨e, hj⟩
    · obtain ⟨p, h1, b, arr, T, h2, h3, h4⟩ := h.hp _ _ hv
      exact ⟨p, h1, b, arr, T, h2, h3, h4.set hc (hr b arr T (h2 ▸ h1) h3)⟩
    · exact h.hp j b hj
  · simp only [St.sh] at hj
    by_cases e : j = k
    · subst e; simp [nbt] at hj
    · simp only [nbf e, cond_false] at hj; exact h.lv j hj
  · rcases hh j b hj with ⟨rfl, rfl⟩ | ⟨e, hj⟩
    · have h9 := h.ow _ c _ hv hf; exact h9
    · exact h.ow j c b hj hf
  · by_cases e : j = k
    · subst e; exact h.ku j (by rw [hv]; simp)
    · simp only [St.sh, nbf e, cond_false] at hj; exact h.ku j hj
  · rcases hh j b hj with ⟨rfl, rfl⟩ | ⟨e, hj⟩
    · obtain ⟨d, hd, hqd⟩ := List.mem_flatMap.1 hq
      rcases List.mem_or_eq_of_mem_set hd with hd | hd
      · exact h.kh _ _ hv q (List.mem_flatMap.2 ⟨d, hd, hqd⟩)
      · exact hk q (hd ▸ hqd)
    · exact h.kh j b hj q hq
end

/-- A cell told as less. -/
def LeC (c c' : AC) : Prop := ∀ (Pr : Nat → Prop) (w : World) (v : Value), DR Pr w c v → DR Pr w c' v
theorem LeC.refl (c : AC) : LeC c c := fun _ _ _ h => h
theorem LeC.nil (wd : Nat) (f : Nat → List AC) : LeC .nil (.sl wd 0 f) := fun Pr w v h => by cases h; exact DR.slN wd f
def LeR : List AC → List AC → Prop
  | [], [] => True
  | c :: r, c' :: r' => LeC c c' ∧ LeR r r'
  | _, _ => False
theorem LeR.len : ∀ {xs ys : List AC}, LeR xs ys → xs.length = ys.length
  | [], [], _ => rfl
  | _ :: _, _ :: _, h => by simp [LeR.len h.2]
  | [], _ :: _, h => h.elim
  | _ :: _, [], h => h.elim
theorem LeR.get : ∀ {xs ys : List AC} {i : Nat} {c' : AC}, LeR xs ys → ys[i]? = some c' → ∃ c, xs[i]? = some c ∧ LeC c c'
  | [], [], i, c', _, h => by simp at h
  | c :: r, d :: r', 0, c', hl, h => by simp at h; subst h; exact ⟨c, by simp, hl.1⟩
  | c :: r, d :: r', i + 1, c', hl, h => by simp only [List.getElem?_cons_succ] at h ⊢; exact LeR.get hl.2 h
  | [], _ :: _, _, _, h, _ => h.elim
  | _ :: _, [], _, _, h, _ => h.elim
theorem LeR.refl : ∀ (xs : List AC), LeR xs xs
  | [] => trivial
  | c :: r => ⟨.refl c, .refl r⟩

section
variable {gl : Nat → Option (List AC)} {N : Nat} {w0 : World} {Pr : Nat → Prop} {φ : Nat → Option (Option Nat)} {s : St} {a : Act} {w : World}
/-- A row told by another function, or less of it. -/
theorem Sim.rep (h : Sim gl N w0 Pr φ s a w) {k wd n n' : Nat} {f f' : Nat → List AC} {z : Bool} (hv : s.h k = some (.arr wd n' f' z)) (hn : n ≤ n') (hf : ∀ i, i < n → f i = f' i) :
    Sim gl N w0 Pr φ (s.sh k (.arr wd n f z)) a w := by
  have hh : ∀ j b, (s.sh k (.arr wd n f z)).h j = some b → (j = k ∧ b = .arr wd n f z) ∨ (j ≠ k ∧ s.h j = some b) := fun j b hj => by
    simp only [St.sh] at hj
    by_cases e : j = k
    · subst e; simp only [nbt, cond_true, Option.some.injEq] at hj; exact .inl ⟨rfl, hj.symm⟩
    · simp only [nbf e, cond_false] at hj; exact .inr ⟨e, hj⟩
  refine ⟨h.sz, h.tm, fun j b hj => ?_, fun j hj => ?_, h.inj, fun j c b hj hc => ?_, fun j hj => ?_, h.ke, fun j b hj q hq => ?_, h.pr, h.gk, h.df, h.bl⟩
  · rcases hh j b hj with ⟨rfl, rfl⟩ | ⟨e, hj⟩
    · obtain ⟨p, h1, h0, h2⟩ := h.hp _ _ hv
      refine ⟨p, h1, h0, ?_⟩
      rcases h2 with ⟨h2, h3⟩ | ⟨b, arr, T, h2, h3, h4, h5, h6⟩
      · exact .inl ⟨h2, by omega⟩
      · exact .inr ⟨b, arr, T, h2, h3, Nat.le_trans (Nat.mul_le_mul_right wd hn) h4, h5, fun i hi => by rw [hf i hi]; exact h6 i (by omega)⟩
    · exact h.hp j b hj
  · simp only [St.sh] at hj
    by_cases e : j = k
    · subst e; simp [nbt] at hj
    · simp only [nbf e, cond_false] at hj; exact h.lv j hj
  · rcases hh j b hj with ⟨rfl, rfl⟩ | ⟨e, hj⟩
    · have h9 := h.ow _ c _ hv hc; exact h9
    · exact h.ow j c b hj hc
  · by_cases e : j = k
    · subst e; exact h.ku j (by rw [hv]; simp)
    · simp only [St.sh, nbf e, cond_false] at hj; exact h.ku j hj
  · rcases hh j b hj with ⟨rfl, rfl⟩ | ⟨e, hj⟩
    · cases hq
    · exact h.kh j b hj q hq
/-- A row whose cells are told as less. -/
theorem Sim.rpw (h : Sim gl N w0 Pr φ s a w) {k wd n : Nat} {f f' : Nat → List AC} {z : Bool} (hv : s.h k = some (.arr wd n f' z)) (hf : ∀ i, i < n → LeR (f' i) (f i)) :
    Sim gl N w0 Pr φ (s.sh k (.arr wd n f z)) a w := by
  have hh : ∀ j b, (s.sh k (.arr wd n f z)).h j = some b → (j = k ∧ b = .arr wd n f z) ∨ (j ≠ k ∧ s.h j = some b) := fun j b hj => by
    simp only [St.sh] at hj
    by_cases e : j = k
    · subst e; simp only [nbt, cond_true, Option.some.injEq] at hj; exact .inl ⟨rfl, hj.symm⟩
    · simp only [nbf e, cond_false] at hj; exact .inr ⟨e, hj⟩
  refine ⟨h.sz, h.tm, fun j b hj => ?_, fun j hj => ?_, h.inj, fun j c b hj hc => ?_, fun j hj => ?_, h.ke, fun j b hj q hq => ?_, h.pr, h.gk, h.df, h.bl⟩
  · rcases hh j b hj with ⟨rfl, rfl⟩ | ⟨e, hj⟩
    · obtain ⟨p, h1, h0, h2⟩ := h.hp _ _ hv
      refine ⟨p, h1, h0, ?_⟩
      rcases h2 with ⟨h2, h3⟩ | ⟨b, arr, T, h2, h3, h4, h5, h6⟩
      · exact .inl ⟨h2, h3⟩
      · refine .inr ⟨b, arr, T, h2, h3, h4, h5, fun i hi => ⟨by rw [← (hf i hi).len]; exact (h6 i hi).1, fun q c hq => ?_⟩⟩
        obtain ⟨c0, h7, h8⟩ := (hf i hi).get hq
        obtain ⟨v, h9, h10⟩ := (h6 i hi).2 q c0 h7
        exact ⟨v, h9, h8 _ _ _ h10⟩
    · exact h.hp j b hj
  · simp only [St.sh] at hj
    by_cases e : j = k
    · subst e; simp [nbt] at hj
    · simp only [nbf e, cond_false] at hj; exact h.lv j hj
  · rcases hh j b hj with ⟨rfl, rfl⟩ | ⟨e, hj⟩
    · have h9 := h.ow _ c _ hv hc; exact h9
    · exact h.ow j c b hj hc
  · by_cases e : j = k
    · subst e; exact h.ku j (by rw [hv]; simp)
    · simp only [St.sh, nbf e, cond_false] at hj; exact h.ku j hj
  · rcases hh j b hj with ⟨rfl, rfl⟩ | ⟨e, hj⟩
    · cases hq
    · exact h.kh j b hj q hq
end

/-! ### steps that only tell a state otherwise -/
inductive Fix where
  | frz (t : Nat)
  | frc (k i : Nat)
  | nld (t wd : Nat) (f : Nat → List AC)
  | nldc (k i wd : Nat) (f : Nat → List AC)
  | nlo (t k wd : Nat) (f : Nat → List AC)
  | nloc (k i k' wd : Nat) (f : Nat → List AC)
  | ren (k k' : Nat)
  | rel (t n : Nat)
  | relc (k i n : Nat)
  | rep (k n : Nat) (f : Nat → List AC)
  | rpw (k : Nat) (f : Nat → List AC)
  | agg (t : Nat) (cs : List AC)

def FixP : List Fix → St → (St → Prop) → Prop
  | [], s, K => K s
  | .frz t :: r, s, K => match s.e t with | some v => frV s v fun v' s' => FixP r (s'.setE t v') K | none => False
  | .frc k i :: r, s, K => match s.h k with
    | some (.var cs z) => match cs[i]? with | some c => frC s c fun c' s' => FixP r (s'.sh k (.var (cs.set i c') z)) K | none => False
    | _ => False
  | .nld t wd f :: r, s, K => match s.e t with | some (.c .nil) => FixP r (s.setE t (.c (.sl wd 0 f))) K | _ => False
  | .nldc k i wd f :: r, s, K => match s.h k with
    | some (.var cs z) => match cs[i]? with | some .nil => FixP r (s.sh k (.var (cs.set i (.sl wd 0 f)) z)) K | _ => False
    | _ => False
  | .nlo t k wd f :: r, s, K => match s.e t, s.u.elem k with
    | some (.c .nil), false => 0 < wd ∧ FixP r ((s.al k (.arr wd 0 f false)).setE t (.c (.own k wd 0 0))) K
    | _, _ => False
  | .nloc k i k' wd f :: r, s, K => match s.h k, s.u.elem k' with
    | some (.var cs z), false => match cs[i]? with | some .nil => 0 < wd ∧ FixP r ((s.al k' (.arr wd 0 f false)).sh k (.var (cs.set i (.own k' wd 0 0)) z)) K | _ => False
    | _, _ => False
  | .ren k k' :: r, s, K => match s.u.elem k' with | false => FixP r (s.ren k k') K | true => False
  | .rel t n :: r, s, K => match s.e t with | some (.c (.own k wd off len)) => len = n ∧ FixP r (s.setE t (.c (.own k wd off n))) K | _ => False
  | .relc k i n :: r, s, K => match s.h k with
    | some (.var cs z) => match cs[i]? with | some (.own j wd off len) => len = n ∧ FixP r (s.sh k (.var (cs.set i (.own j wd off n)) z)) K | _ => False
    | _ => False
  | .rep k n f :: r, s, K => match s.h k with
    | some (.arr wd n' f' z) => n ≤ n' ∧ (∀ i, i < n → f i = f' i) ∧ FixP r (s.sh k (.arr wd n f z)) K
    | _ => False
  | .rpw k f :: r, s, K => match s.h k with
    | some (.arr wd n f' z) => (∀ i, i < n → LeR (f' i) (f i)) ∧ FixP r (s.sh k (.arr wd n f z)) K
    | _ => False
  | .agg t cs :: r, s, K => match s.e t with | some v => v = .agg cs ∧ FixP r (s.setE t (.agg cs)) K | none => False

def lkA (t : Nat) : List (Nat × AV) → Option AV
  | [] => none
  | (j, v) :: r => bif Nat.beq t j then some v else lkA t r

/-- A state that is written out. -/
def lit (E : List (Nat × AV)) (H : List (Nat × Blk)) : St where
  e t := lkA t E
  h k := lkB k H
  u := H.map (·.1) ++ (E.flatMap (·.2.keys) ++ H.flatMap (·.2.keys))

def LeL (E : List (Nat × AV)) (H : List (Nat × Blk)) (s : St) : Prop :=
  E.map (fun p => s.e p.1) = E.map (fun p => some p.2) ∧ H.map (fun p => s.h p.1) = H.map (fun p => some p.2)

section
variable {P : Program} {gl : Nat → Option (List AC)} {N : Nat} {w0 : World} {Pr : Nat → Prop} {φ : Nat → Option (Option Nat)} {s : St} {a : Act} {w : World}

theorem lkA_mem {t : Nat} {v : AV} : ∀ {E : List (Nat × AV)}, lkA t E = some v → (t, v) ∈ E
  | [], h => by cases h
  | (j, c) :: r, h => by
    simp only [lkA] at h
    cases hb : Nat.beq t j with
    | true => rw [hb] at h; simp only [cond_true, Option.some.injEq] at h; rw [Nat.eq_of_beq_eq_true hb, h]; simp
    | false => rw [hb] at h; exact List.mem_cons_of_mem _ (lkA_mem h)

theorem map_eq_mem {α β : Type} {f g : α → β} {l : List α} (h : l.map f = l.map g) : ∀ x ∈ l, f x = g x := by
  induction l with
  | nil => intro x hx; cases hx
  | cons a r ih =>
    simp only [List.map_cons, List.cons.injEq] at h
    intro x hx
    rcases List.mem_cons.1 hx with rfl | hx
    · exact h.1
    · exact ih h.2 x hx

theorem Sim.lit {E : List (Nat × AV)} {H : List (Nat × Blk)} (h : Sim gl N w0 Pr φ s a w) (hl : LeL E H s) :
    Sim gl N w0 Pr (fun k => match lkB k H with | some _ => φ k | none => none) (lit E H) a w := by
  have hE : ∀ t v, lkA t E = some v → s.e t = some v ∧ (t, v) ∈ E := fun t v ht => by
    have := lkA_mem ht
    exact ⟨map_eq_mem hl.1 _ this, this⟩
  have hH : ∀ k b, lkB k H = some b → s.h k = some b ∧ (k, b) ∈ H := fun k b hk => by
    obtain ⟨p, h1, h2, h3⟩ := lkB_mem hk
    have h4 : (k, b) = p := by rw [← h2, ← h3]
    rw [h4]
    exact ⟨by have := map_eq_mem hl.2 _ h1; rw [← h2, ← h3]; exact this, h1⟩
  have hφ : ∀ k p, (match lkB k H with | some _ => φ k | none => none) = some p → φ k = some p := fun k p hk => by
    split at hk
    · exact hk
    · cases hk
  have hkr : ∀ c v, KR Pr φ w c v → KR Pr (fun k => match lkB k H with | some _ => φ k | none => none) w c v := fun c v hc =>
    hc.mono (fun _ x => x) (fun _ _ => rfl) (fun k _ p hp => hφ k p hp) (fun _ _ _ => rfl)
  refine ⟨h.sz, fun t v ht => ?_, fun k b hk => ?_, fun k hk => ?_, fun k k' b hk hk' => h.inj k k' b (hφ k _ hk) (hφ k' _ hk'), fun k c b hk hc => h.ow k c b (hH k b hk).1 (hφ k _ hc), fun k hk => ?_, fun t v ht k hk => ?_, fun k b hk q hq => ?_, h.pr, h.gk, h.df, h.bl⟩
  · obtain ⟨x, h1, h2⟩ := h.tm t v (hE t v ht).1
    exact ⟨x, h1, h2.mono fun c _ v => hkr c v⟩
  · obtain ⟨p, h1, h2⟩ := h.hp k b (hH k b hk).1
    have hk' : lkB k H = some b := hk
    refine ⟨p, by rw [hk']; exact h1, ?_⟩
    cases b with
    | var cs z => obtain ⟨c, arr, T, h3, h4, h5⟩ := h2; exact ⟨c, arr, T, h3, h4, h5.mono fun c _ v => hkr c v⟩
    | arr wd n f z => exact h2
  · have hk' : lkB k H = none := hk
    rw [hk']
  · cases hq : lkB k H with
    | none => exact absurd hq hk
    | some b => exact List.mem_append_left _ (List.mem_map.2 ⟨(k, b), (hH k b hq).2, rfl⟩)
  · exact List.mem_append_right _ (List.mem_append_left _ (List.mem_flatMap.2 ⟨(t, v), (hE t v ht).2, hk⟩))
  · exact List.mem_append_right _ (List.mem_append_right _ (List.mem_flatMap.2 ⟨(k, b), (hH k b hk).2, hq⟩))

theorem fix_sound : ∀ (fx : List Fix) {s : St} {Pr : Nat → Prop} {φ : Nat → Option (Option Nat)} {K : St → Prop}, FixP fx s K → Sim gl N w0 Pr φ s a w →
    ∃ s' Pr' φ', K s' ∧ Sim gl N w0 Pr' φ' s' a w ∧ PrS w0 Pr Pr'
  | [], s, Pr, φ, K, hf, h => ⟨s, Pr, φ, hf, h, PrS.refl _ _⟩
  | .frz t :: r, s, Pr, φ, K, hf, h => by
    simp only [FixP] at hf
    split at hf
    · rename_i v hv
      obtain ⟨x, h1, h2⟩ := h.tm t v hv
      obtain ⟨v', s', Pr', hK, ht, hx⟩ := frV_sound h h2 hf
      have hs : Sim gl N w0 Pr' φ (s'.setE t v') a w := by
        have hnk : v'.keys = [] := by
          rw [AV.keys_eq, List.flatMap_eq_nil_iff]
          exact hx.nokeysD
        refine ⟨ht.sim.sz, fun j u hj => ?_, ht.sim.hp, ht.sim.lv, ht.sim.inj, ht.sim.ow, ht.sim.ku, fun j u hj => ?_, ht.sim.kh, ht.sim.pr, ht.sim.gk, ht.sim.df, ht.sim.bl⟩
        · simp only [St.setE] at hj
          by_cases e : j = t
          · subst e
            simp only [nbt, cond_true, Option.some.injEq] at hj
            subst hj
            exact ⟨x, h1, hx.mono fun c _ v hc => (KR.of_dr (φ := φ) hc).1⟩
          · simp only [nbf e, cond_false] at hj; exact ht.sim.tm j u hj
        · simp only [St.setE] at hj
          by_cases e : j = t
          · subst e
            simp only [nbt, cond_true, Option.some.injEq] at hj
            subst hj
            rw [hnk]; simp
          · simp only [nbf e, cond_false] at hj; exact ht.sim.ke j u hj
      obtain ⟨s'', Pr'', φ'', k1, k2, k3⟩ := fix_sound r hK hs
      exact ⟨s'', Pr'', φ'', k1, k2, ht.st.trans k3⟩
    · exact hf.elim
  | .frc k i :: r, s, Pr, φ, K, hf, h => by
    simp only [FixP] at hf
    split at hf
    · rename_i cs z hv
      split at hf
      · rename_i c hc
        obtain ⟨p, h1, b, arr, T, h2, h3, h4⟩ := h.hp _ _ hv
        obtain ⟨x, hx, hkr⟩ := h4.get hc
        obtain ⟨c', s', Pr', hK, hps, hsim, hdr, he, hu, hpp, hvar⟩ := frC_sound h hkr hf
        have hv' := hvar k cs z hv
        have hnk : c'.keys = [] := (KR.of_dr (φ := φ) hdr).2
        have hs : Sim gl N w0 Pr' φ (s'.sh k (.var (cs.set i c') z)) a w := hsim.setH hv' hc (fun b' arr' T' hf' hh' y hy _ => by
          subst h2
          rw [h1] at hf'; cases hf'
          rw [h3] at hh'; cases hh'
          rw [hx] at hy; cases hy
          exact (KR.of_dr (φ := φ) hdr).1) (by rw [hnk]; simp)
        obtain ⟨s'', Pr'', φ'', k1, k2, k3⟩ := fix_sound r hK hs
        exact ⟨s'', Pr'', φ'', k1, k2, hps.trans k3⟩
      · exact hf.elim
    · exact hf.elim
  | .nld t wd f :: r, s, Pr, φ, K, hf, h => by
    simp only [FixP] at hf
    split at hf
    · rename_i hv
      exact fix_sound r hf (h.setE hv (fun x hx => by
        cases hx
        exact DR.slN wd f) (by simp [AV.keys, AC.keys, AC.keys0]))
    · exact hf.elim
  | .nldc k i wd f :: r, s, Pr, φ, K, hf, h => by
    simp only [FixP] at hf
    split at hf
    · rename_i cs z hv
      split at hf
      · rename_i hc
        exact fix_sound r hf (h.setH hv hc (fun _ _ _ _ _ x _ hx => by
          cases hx
          exact DR.slN wd f) (by simp [AC.keys, AC.keys0]))
      · exact hf.elim
    · exact hf.elim
  | .nlo t k wd f :: r, s, Pr, φ, K, hf, h => by
    simp only [FixP] at hf
    split at hf
    · rename_i hv hk
      have h2 := h.alnil hk (wd := wd) (f := f) hf.1
      exact fix_sound r hf.2 (h2.setE (v := .c .nil) hv (fun x hx => by
        cases hx
        exact VR.mkOwnNil (if_pos rfl)) (by simp [AV.keys, AC.keys, AC.keys0, St.al]))
    · exact hf.elim
  | .nloc k i k' wd f :: r, s, Pr, φ, K, hf, h => by
    simp only [FixP] at hf
    split at hf
    · rename_i cs z hv hk
      split at hf
      · rename_i hc
        have h2 := h.alnil hk (wd := wd) (f := f) hf.1
        have hne : k ≠ k' := fun e => not_mem_of_elem hk (e ▸ h.ku k (by rw [hv]; simp))
        exact fix_sound r hf.2 (h2.setH (cs := cs) (z := z) (c := .nil) (by simp [St.al, nbf hne, hv]) hc (fun _ _ _ _ _ x _ hx => by
          cases hx
          exact VR.mkOwnNil (Pr := Pr) (φ := fun j => if j = k' then some none else φ j) (w := w) (k := k') (wd := wd) (if_pos rfl)) (by simp [AC.keys, AC.keys0, St.al]))
      · exact hf.elim
    · exact hf.elim
  | .ren k k' :: r, s, Pr, φ, K, hf, h => by
    simp only [FixP] at hf
    split at hf
    · rename_i hk
      exact fix_sound r hf (h.ren hk)
    · exact hf.elim
  | .rel t n :: r, s, Pr, φ, K, hf, h => by
    simp only [FixP] at hf
    split at hf
    · rename_i k wd off len hv
      obtain ⟨rfl, hf⟩ := hf
      exact fix_sound r hf (h.setE hv (fun x hx => hx) (h.ke t _ hv))
    · exact hf.elim
  | .relc k i n :: r, s, Pr, φ, K, hf, h => by
    simp only [FixP] at hf
    split at hf
    · rename_i cs z hv
      split at hf
      · rename_i j wd off len hc
        obtain ⟨rfl, hf⟩ := hf
        exact fix_sound r hf (h.setH hv hc (fun _ _ _ _ _ x _ hx => hx) (fun q hq => h.kh k _ hv q (List.mem_flatMap.2 ⟨_, List.mem_of_getElem? hc, hq⟩)))
      · exact hf.elim
    · exact hf.elim
  | .rep k n f :: r, s, Pr, φ, K, hf, h => by
    simp only [FixP] at hf
    split at hf
    · rename_i wd n' f' z hv
      obtain ⟨h1, h2, hf⟩ := hf
      exact fix_sound r hf (h.rep hv h1 h2)
    · exact hf.elim
  | .rpw k f :: r, s, Pr, φ, K, hf, h => by
    simp only [FixP] at hf
    split at hf
    · rename_i wd n f' z hv
      obtain ⟨h2, hf⟩ := hf
      exact fix_sound r hf (h.rpw hv h2)
    · exact hf.elim
  | .agg t cs :: r, s, Pr, φ, K, hf, h => by
    simp only [FixP] at hf
    split at hf
    · rename_i v hv
      obtain ⟨rfl, hf⟩ := hf
      exact fix_sound r hf (h.setE hv (fun x hx => hx) (h.ke t _ hv))
    · exact hf.elim
end
end Go.Proofs.YtfmeidhialmckaaGreatDoor.Ab

namespace Go.Proofs.YtfmeidhialmckaaGreatDoor.Ab
open Go Go.RowKit

/-- What a piece of code comes to: from each machine that the state s tells of, it ends, and J tells of the end. -/
def EndsI (P : Program) (gl : Nat → Option (List AC)) (N : Nat) (ir : S) (s : St) (J : Exit → St → Prop) : Prop :=
  ∀ (c : Code), comp P N c = some ir → ∀ (w0 : World) (Pr : Nat → Prop) (φ : Nat → Option (Option Nat)) (a : Act) (w : World), Sim gl N w0 Pr φ s a w →
    c.wp P (fun e a' w' => ∃ s' Pr' φ', J e s' ∧ Sim gl N w0 Pr' φ' s' a' w' ∧ PrS w0 Pr Pr') a w

/-- The end is e, in the state s. -/
def At (e : Exit) (s : St) : Exit → St → Prop := fun e' s' => e' = e ∧ s' = s
/-- The end is the function's, in the state s. -/
def AtR (s : St) : Exit → St → Prop := fun e' s' => (e' = .ret ∨ e' = .normal) ∧ s' = s

def blkJ (id : Nat) (J : Exit → St → Prop) : Exit → St → Prop
  | .exit i, s => bif Nat.beq i id then J .normal s else J (.exit i) s
  | e, s => J e s

section
variable {P : Program} {gl : Nat → Option (List AC)} {N : Nat} {s s1 : St} {J J' : Exit → St → Prop} {x y : S}

theorem via {A B : Prop} (p : A) (h : A = B) : B := h ▸ p

theorem ends_mono (h : EndsI P gl N x s J) (hj : ∀ e s, J e s → J' e s) : EndsI P gl N x s J' := fun c hc w0 Pr φ a w hs =>
  wp_mono (h c hc w0 Pr φ a w hs) fun e a' w' ⟨s', Pr', φ', h1, h2⟩ => ⟨s', Pr', φ', hj _ _ h1, h2⟩

theorem ends_fix {fx : List Fix} {E : List (Nat × AV)} {H : List (Nat × Blk)} (hf : FixP fx s fun s' => LeL E H s') (h : EndsI P gl N x (lit E H) J) : EndsI P gl N x s J := fun c hc w0 Pr φ a w hs => by
  obtain ⟨s', Pr', φ', h1, h2, h3⟩ := fix_sound fx hf hs
  exact wp_mono (h c hc w0 Pr' _ a w (h2.lit h1)) fun e a' w' ⟨s', Pr'', φ', k1, k2, k3⟩ => ⟨s', Pr'', φ', k1, k2, h3.trans k3⟩

theorem comp_skip {c : Code} (h : comp P N c = some .skip) : c = .skip := by
  cases c <;> simp only [comp, Option.map_eq_some_iff] at h <;> first | rfl | (cases h; done) | (obtain ⟨_, _, h⟩ := h; cases h) | (split at h <;> first | cases h | (split at h <;> first | cases h | (split at h <;> cases h)))
theorem comp_ops {c : Code} {l : List IOp} (h : comp P N c = some (.ops l)) : ∃ id ops, c = .region id ops false ∧ ops.toList.mapM (compO P N ops) = some l := by
  cases c <;> simp only [comp, Option.map_eq_some_iff] at h <;> first | (cases h; done) | (obtain ⟨_, _, h⟩ := h; cases h) | skip
  case region id ops draw =>
    split at h
    · rename_i ios hm
      split at h
      · cases h; exact ⟨id, ops, rfl, hm⟩
      · split at h <;> cases h
    · cases h
  all_goals (split at h <;> cases h)
theorem comp_draw {c : Code} {m : Nat} {l : List IOp} (h : comp P N c = some (.draw m l)) : ∃ id ops, c = .region id ops true ∧ ops.toList.mapM (compO P N ops) = some l ∧ okDraw ops l m = true ∧ P.follows .mixedOrders = true := by
  cases c <;> simp only [comp, Option.map_eq_some_iff] at h <;> first | (cases h; done) | (obtain ⟨_, _, h⟩ := h; cases h) | skip
  case region id ops draw =>
    split at h
    · rename_i ios hm
      split at h
      · cases h
      · split at h
        · rename_i hok; cases h; exact ⟨id, ops, rfl, hm, hok⟩
        · cases h
    · cases h
  all_goals (split at h <;> cases h)
theorem comp_seq {c : Code} (h : comp P N c = some (.seq x y)) : ∃ a b, c = .seq a b ∧ comp P N a = some x ∧ comp P N b = some y := by
  cases c <;> simp only [comp, Option.map_eq_some_iff] at h <;> first | (cases h; done) | (obtain ⟨_, _, h⟩ := h; cases h) | skip
  case region id ops draw =>
    split at h
    · split at h
      · cases h
      · split at h <;> cases h
    · cases h
  case seq a b =>
    split at h
    · rename_i h1 h2; cases h; exact ⟨a, b, rfl, h1, h2⟩
    · cases h
  all_goals (split at h <;> cases h)
theorem comp_ite {c : Code} {q : Opd} (h : comp P N c = some (.ite q x y)) : ∃ p a b, c = .cond p a b ∧ cO p = some q ∧ comp P N a = some x ∧ comp P N b = some y := by
  cases c <;> simp only [comp, Option.map_eq_some_iff] at h <;> first | (cases h; done) | (obtain ⟨_, _, h⟩ := h; cases h) | skip
  case region id ops draw =>
    split at h
    · split at h
      · cases h
      · split at h <;> cases h
    · cases h
  case cond p a b =>
    split at h
    · rename_i h1 h2 h3; cases h; exact ⟨p, a, b, rfl, h1, h2, h3⟩
    · cases h
  all_goals (split at h <;> cases h)
theorem comp_blk {c : Code} {id : Nat} (h : comp P N c = some (.blk id x)) : ∃ a, c = .block id a ∧ comp P N a = some x := by
  cases c <;> simp only [comp, Option.map_eq_some_iff] at h <;> first | (cases h; done) | (obtain ⟨_, h1, h⟩ := h; cases h; done) | skip
  case region id ops draw =>
    split at h
    · split at h
      · cases h
      · split at h <;> cases h
    · cases h
  case block i a => obtain ⟨_, h1, h⟩ := h; cases h; exact ⟨a, rfl, h1⟩
  all_goals first | (split at h <;> cases h) | (obtain ⟨_, h1, h⟩ := h; cases h)
theorem comp_loop {c : Code} (h : comp P N c = some (.loop x)) : ∃ a, c = .loop a ∧ comp P N a = some x := by
  cases c <;> simp only [comp, Option.map_eq_some_iff] at h <;> first | (cases h; done) | (obtain ⟨_, h1, h⟩ := h; cases h; done) | skip
  case region id ops draw =>
    split at h
    · split at h
      · cases h
      · split at h <;> cases h
    · cases h
  case loop a => obtain ⟨_, h1, h⟩ := h; cases h; exact ⟨a, rfl, h1⟩
  all_goals first | (split at h <;> cases h) | (obtain ⟨_, h1, h⟩ := h; cases h)
theorem comp_exit {c : Code} {id : Nat} (h : comp P N c = some (.exit id)) : c = .exit id := by
  cases c <;> simp only [comp, Option.map_eq_some_iff] at h <;> first | (cases h; rfl) | (cases h; done) | (obtain ⟨_, _, h⟩ := h; cases h) | (split at h <;> first | cases h | (split at h <;> first | cases h | (split at h <;> cases h)))
theorem comp_ret {c : Code} (h : comp P N c = some .ret) : c = .ret := by
  cases c <;> simp only [comp, Option.map_eq_some_iff] at h <;> first | rfl | (cases h; done) | (obtain ⟨_, _, h⟩ := h; cases h) | (split at h <;> first | cases h | (split at h <;> first | cases h | (split at h <;> cases h)))

theorem ends_skip (h : J .normal s) : EndsI P gl N .skip s J := fun c hc w0 Pr φ a w hs => by
  rw [comp_skip hc]; exact wp_skip ⟨s, Pr, φ, h, hs, PrS.refl _ _⟩
theorem ends_exit {id : Nat} (h : J (.exit id) s) : EndsI P gl N (.exit id) s J := fun c hc w0 Pr φ a w hs => by
  rw [comp_exit hc]; exact wp_exit ⟨s, Pr, φ, h, hs, PrS.refl _ _⟩
theorem ends_ret (h : J .ret s) : EndsI P gl N .ret s J := fun c hc w0 Pr φ a w hs => by
  rw [comp_ret hc]; exact wp_ret ⟨s, Pr, φ, h, hs, PrS.refl _ _⟩

theorem ends_ops {l : List IOp} {hs : List Hint} (h : SegP P gl l hs s fun _ s' => J .normal s') : EndsI P gl N (.ops l) s J := fun c hc w0 Pr φ a w hs' => by
  obtain ⟨id, ops, rfl, hm⟩ := comp_ops hc
  exact region_sound hm h hs' fun _ s' Pr' φ' a' w' h1 h2 h3 => ⟨s', Pr', φ', h1, h2, h3⟩
theorem ends_draw {m : Nat} {l : List IOp} {hs : List Hint} (h : SegD P gl (l.take m) hs s fun hs' s' => SegP P gl (l.drop m) hs' s' fun _ s' => J .normal s') : EndsI P gl N (.draw m l) s J := fun c hc w0 Pr φ a w hs' => by
  obtain ⟨id, ops, rfl, hm, hok, hmx⟩ := comp_draw hc
  exact regD_sound hok hmx hm h hs' fun _ s' Pr' φ' a' w' h1 h2 h3 => ⟨s', Pr', φ', h1, h2, h3⟩

theorem ends_seq {J1 : Exit → St → Prop} (h : EndsI P gl N x s J1) (hn : ∀ s', J1 .normal s' → EndsI P gl N y s' J) (ho : ∀ e s', e ≠ .normal → J1 e s' → J e s') : EndsI P gl N (.seq x y) s J := fun c hc w0 Pr φ a w hs => by
  obtain ⟨c1, c2, rfl, h1, h2⟩ := comp_seq hc
  refine wp_seq (wp_mono (h c1 h1 w0 Pr φ a w hs) fun e a' w' ⟨s', Pr', φ', k1, k2, k3⟩ => ?_)
  cases e with
  | normal => exact wp_mono (hn s' k1 c2 h2 w0 Pr' φ' a' w' k2) fun e a'' w'' ⟨s'', Pr'', φ'', q1, q2, q3⟩ => ⟨s'', Pr'', φ'', q1, q2, k3.trans q3⟩
  | exit i => exact ⟨s', Pr', φ', ho _ s' (by simp) k1, k2, k3⟩
  | goto i => exact ⟨s', Pr', φ', ho _ s' (by simp) k1, k2, k3⟩
  | ret => exact ⟨s', Pr', φ', ho _ s' (by simp) k1, k2, k3⟩
  | panic i => exact ⟨s', Pr', φ', ho _ s' (by simp) k1, k2, k3⟩
  | outgrown => exact ⟨s', Pr', φ', ho _ s' (by simp) k1, k2, k3⟩

/-- First x, to the state s1; then y. -/
theorem ends_to (h : EndsI P gl N x s (At .normal s1)) (hy : EndsI P gl N y s1 J) : EndsI P gl N (.seq x y) s J :=
  ends_seq h (fun s' h' => by obtain ⟨_, rfl⟩ := h'; exact hy) fun e s' he h' => absurd h'.1 he
/-- x leaves by e: y is not come to. -/
theorem ends_out {e : Exit} (h : EndsI P gl N x s (At e s1)) (hne : e ≠ .normal) (hJ : J e s1) : EndsI P gl N (.seq x y) s J :=
  ends_seq h (fun s' h' => absurd h'.1.symm hne) fun e' s' _ h' => by obtain ⟨rfl, rfl⟩ := h'; exact hJ

theorem ends_ite {q : Opd} {b : Bool} (hq : ev gl s q = some (.c (.bool b))) (ht : b = true → EndsI P gl N x s J) (hf : b = false → EndsI P gl N y s J) : EndsI P gl N (.ite q x y) s J := fun c hc w0 Pr φ a w hs => by
  obtain ⟨p, c1, c2, rfl, h0, h1, h2⟩ := comp_ite hc
  have hv := (ev_sound hs h0 hq).1.bool_inv
  exact wp_cond_split hv (fun e => ht e c1 h1 w0 Pr φ a w hs) fun e => hf e c2 h2 w0 Pr φ a w hs

theorem ends_blk {id : Nat} (h : EndsI P gl N x s (blkJ id J)) : EndsI P gl N (.blk id x) s J := fun c hc w0 Pr φ a w hs => by
  obtain ⟨c1, rfl, h1⟩ := comp_blk hc
  refine wp_block (wp_mono (h c1 h1 w0 Pr φ a w hs) fun e a' w' ⟨s', Pr', φ', k1, k2, k3⟩ => ?_)
  cases e with
  | exit i =>
    simp only [Exit.inBlock]
    simp only [blkJ] at k1
    split
    · rename_i e; subst e; rw [nbt] at k1; exact ⟨s', Pr', φ', k1, k2, k3⟩
    · rename_i e; rw [nbf e] at k1; exact ⟨s', Pr', φ', k1, k2, k3⟩
  | normal => exact ⟨s', Pr', φ', k1, k2, k3⟩
  | goto i => exact ⟨s', Pr', φ', k1, k2, k3⟩
  | ret => exact ⟨s', Pr', φ', k1, k2, k3⟩
  | panic i => exact ⟨s', Pr', φ', k1, k2, k3⟩
  | outgrown => exact ⟨s', Pr', φ', k1, k2, k3⟩

/-! ### loops -/
def loopN {σ ρ : Type} (body : σ → Option (σ ⊕ ρ)) : Nat → σ → Option ρ
  | 0, _ => none
  | n + 1, s => match body s with
    | none => none
    | some (.inl s') => loopN body n s'
    | some (.inr r) => some r

theorem loopN_mono {σ ρ : Type} {body : σ → Option (σ ⊕ ρ)} : ∀ {n m : Nat} {s : σ} {r : ρ}, loopN body n s = some r → n ≤ m → loopN body m s = some r
  | 0, _, _, _, h, _ => by cases h
  | n + 1, 0, _, _, _, hm => by omega
  | n + 1, m + 1, s, r, h, hm => by
    simp only [loopN] at h ⊢
    split at h
    · cases h
    · exact loopN_mono h (by omega)
    · exact h

open Classical in
/-- A loop without a bound: none if it doesn't end. -/
noncomputable def loop {σ ρ : Type} (body : σ → Option (σ ⊕ ρ)) (s : σ) : Option ρ :=
  if h : ∃ n, (loopN body n s).isSome = true then loopN body (Classical.choose h) s else none

theorem loop_some {σ ρ : Type} {body : σ → Option (σ ⊕ ρ)} {s : σ} {r : ρ} : loop body s = some r ↔ ∃ n, loopN body n s = some r := by
  unfold loop
  constructor
  · intro h
    split at h
    · exact ⟨_, h⟩
    · cases h
  · rintro ⟨n, hn⟩
    have hex : ∃ n, (loopN body n s).isSome = true := ⟨n, by rw [hn]; rfl⟩
    rw [dif_pos hex]
    obtain ⟨r', hr'⟩ := Option.isSome_iff_exists.1 (Classical.choose_spec hex)
    have h1 := loopN_mono hr' (Nat.le_max_left (Classical.choose hex) n)
    have h2 := loopN_mono hn (Nat.le_max_right (Classical.choose hex) n)
    rw [hr', ← h1, h2]

theorem loop_eq {σ ρ : Type} (body : σ → Option (σ ⊕ ρ)) (s : σ) : loop body s = match body s with
    | none => none
    | some (.inl s') => loop body s'
    | some (.inr r) => some r := by
  apply Option.ext
  intro r
  constructor
  · intro h
    obtain ⟨n, hn⟩ := loop_some.1 h
    cases n with
    | zero => cases hn
    | succ n =>
      simp only [loopN] at hn
      split at hn
      · cases hn
      · rename_i s' hs; exact loop_some.2 ⟨n, hn⟩
      · rename_i r' hs; exact hn
  · intro h
    split at h
    · cases h
    · rename_i s' hs
      obtain ⟨n, hn⟩ := loop_some.1 h
      exact loop_some.2 ⟨n + 1, by simp only [loopN, hs]; exact hn⟩
    · rename_i r' hs
      exact loop_some.2 ⟨1, by simp only [loopN, hs]; exact h⟩

/-- A loop with a falling count. -/
theorem wp_loop_n {Q : Exit → Act → World → Prop} (c : Code) (I : Nat → Act → World → Prop) (n : Nat) {a : Act} {w : World} (h0 : I n a w)
    (round : ∀ n a w, I n a w → c.wp P (Exit.then (fun a' w' => ∃ m, m < n ∧ I m a' w') Q) a w) : (Code.loop c).wp P Q a w := by
  classical
  have hmin : ∀ a w, (∃ n, I n a w) → ∃ n, I n a w ∧ ∀ m, m < n → ¬ I m a w := by
    intro a w ⟨n, hn⟩
    induction n using Nat.strongRecOn with
    | _ n ih =>
      by_cases h : ∃ m, m < n ∧ I m a w
      · obtain ⟨m, hm, hI⟩ := h; exact ih m hm hI
      · exact ⟨n, hn, fun m hm hI => h ⟨m, hm, hI⟩⟩
  let μ : Act → World → Nat := fun a w => if h : ∃ n, I n a w then Classical.choose (hmin a w h) else 0
  refine wp_loop (fun a w => ∃ n, I n a w) μ ⟨n, h0⟩ fun a w hI => ?_
  obtain ⟨h1, h2⟩ := Classical.choose_spec (hmin a w hI)
  have hμ : μ a w = Classical.choose (hmin a w hI) := by simp only [μ]; rw [dif_pos hI]
  refine wp_mono (round _ a w h1) fun e a' w' he => ?_
  cases e with
  | normal =>
    obtain ⟨m, hm, hI'⟩ := he
    refine ⟨⟨m, hI'⟩, ?_⟩
    have hex : ∃ n, I n a' w' := ⟨m, hI'⟩
    obtain ⟨h3, h4⟩ := Classical.choose_spec (hmin a' w' hex)
    have hμ' : μ a' w' = Classical.choose (hmin a' w' hex) := by simp only [μ]; rw [dif_pos hex]
    rw [hμ, hμ']
    rcases Nat.lt_or_ge m (Classical.choose (hmin a' w' hex)) with h5 | h5
    · exact absurd hI' (h4 m h5)
    · omega
  | exit i => exact he
  | goto i => exact he
  | ret => exact he
  | panic i => exact he
  | outgrown => exact he

/-- What one round of a loop comes to. -/
def loopJ {σ ρ : Type} (S0 : σ → St) (J : ρ → Exit → St → Prop) : σ ⊕ ρ → Exit → St → Prop
  | .inl x, e, s => e = .normal ∧ s = S0 x
  | .inr r, e, s => e ≠ .normal ∧ J r e s

theorem ends_loop {σ ρ : Type} (body : σ → Option (σ ⊕ ρ)) (S0 : σ → St) (J : ρ → Exit → St → Prop) (hb : ∀ x b, body x = some b → EndsI P gl N y (S0 x) (loopJ S0 J b)) {x : σ} {r : ρ} (h : loop body x = some r) :
    EndsI P gl N (.loop y) (S0 x) (J r) := fun c hc w0 Pr φ a w hs => by
  obtain ⟨c1, rfl, h1⟩ := comp_loop hc
  obtain ⟨n, hn⟩ := loop_some.1 h
  refine wp_loop_n c1 (fun n a w => ∃ x Pr' φ', loopN body n x = some r ∧ Sim gl N w0 Pr' φ' (S0 x) a w ∧ PrS w0 Pr Pr') n ⟨x, Pr, φ, hn, hs, PrS.refl _ _⟩ ?_
  rintro n a w ⟨x, Pr', φ', hn, hs, hp⟩
  cases n with
  | zero => cases hn
  | succ n =>
    simp only [loopN] at hn
    cases hx : body x with
    | none => rw [hx] at hn; cases hn
    | some b =>
      rw [hx] at hn
      refine wp_mono (hb x b hx c1 h1 w0 Pr' φ' a w hs) fun e a' w' ⟨s', Pr'', φ'', k1, k2, k3⟩ => ?_
      cases b with
      | inl x' =>
        obtain ⟨rfl, rfl⟩ := k1
        exact ⟨n, Nat.lt_succ_self n, x', Pr'', φ'', hn, k2, hp.trans k3⟩
      | inr r' =>
        cases hn
        have k4 : ∃ s' Pr' φ', J r e s' ∧ Sim gl N w0 Pr' φ' s' a' w' ∧ PrS w0 Pr Pr' := ⟨s', Pr'', φ'', k1.2, k2, hp.trans k3⟩
        cases e with
        | normal => exact absurd rfl k1.1
        | exit i => exact k4
        | goto i => exact k4
        | ret => exact k4
        | panic i => exact k4
        | outgrown => exact k4
end
end Go.Proofs.YtfmeidhialmckaaGreatDoor.Ab

namespace Go.Proofs.YtfmeidhialmckaaGreatDoor.Ab
open Go Go.RowKit

def argE : Nat → List AV → List (Nat × AV)
  | _, [] => []
  | i, v :: r => (i, v) :: argE (i + 1) r

def resOne (P : Program) (s : St) : ResultVar → Option AV
  | .tmp t => s.e t
  | .cell a t => match s.e a with
    | some (.c (.pk k 0)) => match s.h k, aggT P t, P.info? t with
      | some (.var cs _), some g, some _ => loadC cs 0 (P.cellsOf t) g
      | _, _, _ => none
    | _ => none

def pairOf : AV → Option (Bool × List AC)
  | .c x => some (false, [x])
  | .agg xs => some (true, xs)
  | .tup _ => none

def resV (P : Program) (s : St) (rs : List ResultVar) : Option AV :=
  match rs with
  | [r] => resOne P s r
  | rs => match (rs.mapM (resOne P s)) with
    | some vs => match vs.mapM pairOf with | some ps => some (.tup ps) | none => none
    | none => none

def resS (tmps : Array Value) : ResultVar → Sem Value
  | .tmp t => pure (tmps.getD t undef)
  | .cell a t => do loadVar t (← asAddr (tmps.getD a undef))

section
variable {P : Program} {gl : Nat → Option (List AC)} {N : Nat} {w0 : World} {Pr : Nat → Prop} {φ : Nat → Option (Option Nat)} {s : St} {a : Act} {w : World}

theorem lkA_argE : ∀ (vs : List AV) (i t : Nat) (v : AV), lkA t (argE i vs) = some v → i ≤ t ∧ vs[t - i]? = some v
  | [], i, t, v, h => by cases h
  | u :: r, i, t, v, h => by
    simp only [argE, lkA] at h
    by_cases e : t = i
    · subst e; simp only [nbt, cond_true, Option.some.injEq] at h; subst h; exact ⟨Nat.le_refl _, by simp⟩
    · simp only [nbf e, cond_false] at h
      obtain ⟨h1, h2⟩ := lkA_argE r (i + 1) t v h
      refine ⟨by omega, ?_⟩
      have : t - i = (t - (i + 1)) + 1 := by omega
      rw [this, List.getElem?_cons_succ]; exact h2

theorem resOne_sound (h : Sim gl N w0 Pr φ s a w) {r : ResultVar} {v : AV} (hv : resOne P s r = some v) :
    ∃ x, (resS a.tmps r).run P w = .ok x w ∧ VR (KR Pr φ w) v x := by
  cases r with
  | tmp t =>
    obtain ⟨x, h1, h2⟩ := h.tm t v hv
    refine ⟨x, ?_, h2⟩
    have : a.tmps.getD t undef = x := by
      obtain ⟨hlt, he⟩ := Array.getElem?_eq_some_iff.1 h1
      simp [Array.getD, hlt, he]
    simp only [resS]; rw [this]; rfl
  | cell ad t =>
    simp only [resOne] at hv
    split at hv
    · rename_i k hk
      split at hv
      · rename_i cs z g i hb hg hi
        obtain ⟨x, h1, h2⟩ := h.tm ad _ hk
        obtain ⟨b, arr, T, hf, hx', hh, hB⟩ := VR.pk_inv h h2 hb
        obtain ⟨b', arr', T', e1, hh', hcs⟩ := hB
        cases e1
        rw [hh] at hh'
        cases hh'
        obtain ⟨y, h3, h4, h5⟩ := load_sound (P := P) (w := w) (R := KR Pr φ w) hv hg (by rw [hi]; rfl) rfl (ad := ⟨b, 0, none⟩) (fun j c hj => by
          obtain ⟨y, h6, h7⟩ := hcs.get hj
          exact ⟨y, by rw [Addr.add_flat, cell_flat hh]; simpa using h6, h7⟩)
        refine ⟨y, ?_, h4⟩
        have : a.tmps.getD ad undef = x := by
          obtain ⟨hlt, he⟩ := Array.getElem?_eq_some_iff.1 h1
          simp [Array.getD, hlt, he]
        simp only [resS]
        rw [this, hx']
        simp only [asAddr, Sem.run_bind, Result.andThen]
        exact h3
      · cases hv
    · cases hv

theorem resAll_sound (h : Sim gl N w0 Pr φ s a w) : ∀ (rs : List ResultVar) (vs : List AV), rs.mapM (resOne P s) = some vs →
    ∃ xs : List Value, (rs.mapM (resS a.tmps)).run P w = .ok xs w ∧ xs.length = vs.length ∧
      ∀ (i : Nat) v x, vs[i]? = some v → xs[i]? = some x → VR (KR Pr φ w) v x
  | [], vs, hm => by simp at hm; subst hm; exact ⟨[], rfl, rfl, by simp⟩
  | r :: rs, vs, hm => by
    simp only [List.mapM_cons, Option.bind_eq_bind, Option.bind_eq_some_iff, Option.pure_def, Option.some.injEq] at hm
    obtain ⟨v, hv, vs', hvs, rfl⟩ := hm
    obtain ⟨x, h1, h2⟩ := resOne_sound h hv
    obtain ⟨xs, h3, h4, h5⟩ := resAll_sound h rs vs' hvs
    refine ⟨x :: xs, ?_, by simp [h4], fun i u y hu hy => ?_⟩
    · rw [List.mapM_cons, Sem.run_bind, h1]
      simp only [Result.andThen]
      rw [Sem.run_bind, h3]
      rfl
    · cases i with
      | zero => simp at hu hy; subst hu hy; exact h2
      | succ i => exact h5 i u y (by simpa using hu) (by simpa using hy)

theorem results_run {fn : Func} {tmps : Array Value} {xs : List Value} (hx : (fn.results.toList.mapM (resS tmps)).run P w = .ok xs w) :
    (results fn tmps).run P w = .ok (if hh : xs.toArray.size = 1 then xs.toArray[0] else .tuple xs.toArray) w := by
  have h1 : (fn.results.mapM (resS tmps)).run P w = .ok xs.toArray w := by
    rw [Array.mapM_eq_mapM_toList, Sem.run_map, hx]; rfl
  have h2 : results fn tmps = (fn.results.mapM (resS tmps) >>= fun vs => pure (if h : vs.size = 1 then vs[0] else .tuple vs)) := rfl
  rw [h2, Sem.run_bind, h1]
  rfl

theorem mapM_len {α β : Type} {f : α → Option β} : ∀ {l : List α} {r : List β}, l.mapM f = some r → r.length = l.length
  | [], r, h => by simp at h; subst h; rfl
  | a :: l, r, h => by
    simp only [List.mapM_cons, Option.bind_eq_bind, Option.bind_eq_some_iff, Option.pure_def, Option.some.injEq] at h
    obtain ⟨y, hy, r', hr, rfl⟩ := h
    simp [mapM_len hr]

theorem mapM_back {α β : Type} {f : α → Option β} : ∀ {l : List α} {r : List β}, l.mapM f = some r → ∀ (i : Nat) (y : β), r[i]? = some y → ∃ x, l[i]? = some x ∧ f x = some y
  | [], r, h, i, y, hy => by simp at h; subst h; simp at hy
  | a :: l, r, h, i, y, hy => by
    simp only [List.mapM_cons, Option.bind_eq_bind, Option.bind_eq_some_iff, Option.pure_def, Option.some.injEq] at h
    obtain ⟨z, hz, r', hr, rfl⟩ := h
    cases i with
    | zero => simp at hy; subst hy; exact ⟨a, by simp, hz⟩
    | succ i => simp only [List.getElem?_cons_succ] at hy ⊢; exact mapM_back hr i y hy

theorem results_sound (h : Sim gl N w0 Pr φ s a w) {fn : Func} {v : AV} (hv : resV P s fn.results.toList = some v) : ∃ x, (results fn a.tmps).run P w = .ok x w ∧ VR (KR Pr φ w) v x := by
  unfold resV at hv
  split at hv
  · rename_i r hr
    obtain ⟨x, h1, h2⟩ := resOne_sound h hv
    refine ⟨x, ?_, h2⟩
    have := results_run (P := P) (w := w) (fn := fn) (tmps := a.tmps) (xs := [x]) (by rw [hr, List.mapM_cons, Sem.run_bind, h1]; rfl)
    exact this
  · rename_i hne
    split at hv
    · rename_i vs hvs
      split at hv
      · rename_i ps hps
        cases hv
        obtain ⟨xs, h1, h2, h3⟩ := resAll_sound h _ vs hvs
        have hlen : xs.length ≠ 1 := by
          rw [h2, mapM_len hvs]
          intro e
          match hq : fn.results.toList, e with
          | [r], _ => exact hne r hq
        have := results_run h1
        rw [dif_neg (by simpa using hlen)] at this
        refine ⟨_, this, fun i => xs.getD i undef, ?_, fun i p hp => ?_⟩
        · congr 1
          have hl : ps.length = xs.length := by rw [mapM_len hps, h2]
          rw [hl]
          congr 1
          apply List.ext_getElem?
          intro i
          rw [List.getElem?_map]
          by_cases e : i < xs.length
          · rw [List.getElem?_range e, List.getElem?_eq_getElem e]; simp [List.getD, List.getElem?_eq_getElem e]
          · simp [e]
        · obtain ⟨u, hu, hpu⟩ := mapM_back hps i p hp
          have hi : i < xs.length := by rw [h2]; exact (List.getElem?_eq_some_iff.1 hu).1
          have := h3 i u xs[i] hu (List.getElem?_eq_getElem hi)
          have hg : xs.getD i undef = xs[i] := by simp [List.getD, List.getElem?_eq_getElem hi]
          show VP (KR Pr φ w) p (xs.getD i undef)
          rw [hg]
          cases u with
          | c x => simp only [pairOf, Option.some.injEq] at hpu; subst hpu; exact this
          | agg x => simp only [pairOf, Option.some.injEq] at hpu; subst hpu; exact this
          | tup x => cases hpu
      · cases hv
    · cases hv

/-- A contract, out of what the body comes to. -/
theorem fnOk_of {f : FuncId} {fn : Func} {c : Code} {ir : S} {args : List AV} {res : AV} {s1 : St} (hf : P.funcs[f]? = some fn) (hcal : callable P f = true) (hb : fn.body = some c)
    (hc : comp P fn.ntmps c = some ir) (hn : args.length ≤ fn.ntmps) (h : EndsI P gl fn.ntmps ir (lit (argE 0 args) []) (AtR s1)) (hres : resV P s1 fn.results.toList = some res) (hk : res.keys = []) :
    FnOk P gl f args res := by
  refine ⟨hcal, fun w Pr vals hpr hgk hlen hv => ?_⟩
  refine calls_of_wp hf hb ?_
  have hsz : vals.toArray.size = args.length := by simpa using hlen
  have hnk : ∀ (t : Nat) (v : AV), args[t]? = some v → v.keys = [] := fun t v ht => by
    have hlt : t < vals.length := by rw [hlen]; exact (List.getElem?_eq_some_iff.1 ht).1
    have := (hv t v _ ht (List.getElem?_eq_getElem hlt)).nokeysD
    rw [AV.keys_eq, List.flatMap_eq_nil_iff]; exact this
  have hsim : Sim gl fn.ntmps w Pr (fun _ => none) (lit (argE 0 args) []) { tmps := vals.toArray ++ Array.replicate (fn.ntmps - vals.toArray.size) undef, defers := [] } w := by
    refine ⟨?_, fun t v ht => ?_, fun k b hk => (by cases hk), fun _ _ => rfl, fun k k' b hk => (by cases hk), fun k b blk hk => (by cases hk), fun k hk => absurd rfl hk, fun t v ht k hk => ?_, fun k b hk => (by cases hk), hpr, hgk, rfl, Below.refl _ _⟩
    · simp only [Array.size_append, Array.size_replicate]; omega
    · obtain ⟨_, h2⟩ := lkA_argE args 0 t v ht
      simp only [Nat.sub_zero] at h2
      have hlt : t < vals.length := by rw [hlen]; exact (List.getElem?_eq_some_iff.1 h2).1
      refine ⟨vals[t], ?_, (hv t v _ h2 (List.getElem?_eq_getElem hlt)).mono fun c _ v hc => (KR.of_dr hc).1⟩
      rw [Array.getElem?_append_left (by simpa using hlt)]
      simp [hlt]
    · obtain ⟨_, h2⟩ := lkA_argE args 0 t v ht
      simp only [Nat.sub_zero] at h2
      rw [hnk t v h2] at hk; cases hk
  refine wp_mono (h c hc w Pr _ _ _ hsim) fun e a' w' ⟨s', Pr', φ', ⟨he, hs'⟩, h2, h3⟩ => ?_
  subst hs'
  obtain ⟨x, h4, h5⟩ := results_sound h2 hres
  have hfin : a'.defers = [] ∧ ∃ v, (results fn a'.tmps).run P w' = .ok v w' ∧ ∃ v', Ending.returned v = .returned v' ∧ Below w.heap.size w w' ∧ VR (DR (fun b => Pr b ∨ (w.heap.size ≤ b ∧ b < w'.heap.size)) w') res v' := by
    refine ⟨h2.df, x, h4, x, rfl, h2.bl, h5.mono fun c hcm v hcv => ?_⟩
    have hck : c.keys = [] := by
      rw [AV.keys_eq, List.flatMap_eq_nil_iff] at hk
      exact hk c hcm
    exact (hcv.nokeys hck).weak fun b hb => ((h3 b).2 hb).imp id fun q => ⟨q, h2.pr b hb⟩
  rcases he with rfl | rfl
  · exact hfin
  · exact hfin

/-- An argument told as less. -/
def LeD (a b : AV) : Prop := ∀ (Pr : Nat → Prop) (w : World) (v : Value), VR (DR Pr w) a v → VR (DR Pr w) b v

theorem FnOk.le {f : FuncId} {as bs : List AV} {res : AV} (h : FnOk P gl f bs res) (hl : as.length = bs.length) (hle : ∀ (i : Nat) a b, as[i]? = some a → bs[i]? = some b → LeD a b) : FnOk P gl f as res :=
  ⟨h.1, fun w Pr vals hpr hgk hlen hv => h.2 w Pr vals hpr hgk (by rw [hlen, hl]) fun i b v hb hvv => by
    have hlt : i < as.length := by rw [hl]; exact (List.getElem?_eq_some_iff.1 hb).1
    exact hle i _ b (List.getElem?_eq_getElem hlt) hb Pr w v (hv i _ v (List.getElem?_eq_getElem hlt) hvv)⟩
theorem LeD.refl (a : AV) : LeD a a := fun _ _ _ h => h
def LeDs : List AV → List AV → Prop
  | [], [] => True
  | a :: r, b :: r' => LeD a b ∧ LeDs r r'
  | _, _ => False
theorem LeDs.len : ∀ {xs ys : List AV}, LeDs xs ys → xs.length = ys.length
  | [], [], _ => rfl
  | _ :: _, _ :: _, h => by simp [LeDs.len h.2]
  | [], _ :: _, h => h.elim
  | _ :: _, [], h => h.elim
theorem LeDs.get : ∀ {xs ys : List AV} {i : Nat} {a b : AV}, LeDs xs ys → xs[i]? = some a → ys[i]? = some b → LeD a b
  | [], [], i, a, b, _, h, _ => by simp at h
  | c :: r, d :: r', 0, a, b, hl, h, h' => by simp at h h'; subst h h'; exact hl.1
  | c :: r, d :: r', i + 1, a, b, hl, h, h' => by simp only [List.getElem?_cons_succ] at h h'; exact LeDs.get hl.2 h h'
  | [], _ :: _, _, _, _, h, _, _ => h.elim
  | _ :: _, [], _, _, _, h, _, _ => h.elim
theorem FnOk.le2 {f : FuncId} {xs bs : List AV} {res : AV} (h : FnOk P gl f bs res) (hl : LeDs xs bs) : FnOk P gl f xs res :=
  h.le hl.len fun i a b ha hb => hl.get ha hb
theorem LeD.agg {xs ys : List AC} (h : LeR xs ys) : LeD (.agg xs) (.agg ys) := fun Pr w v hv => by
  obtain ⟨vs, h1, h2, h3⟩ := hv
  refine ⟨vs, h1, by rw [h2, h.len], fun i c v hc hv => ?_⟩
  obtain ⟨c0, h4, h5⟩ := h.get hc
  exact h5 _ _ _ (h3 i c0 v h4 hv)
theorem LeD.nil (wd : Nat) (f : Nat → List AC) : LeD (.c .nil) (.c (.sl wd 0 f)) := fun Pr w v h => by cases h; exact DR.slN wd f
end
end Go.Proofs.YtfmeidhialmckaaGreatDoor.Ab

namespace Go.Proofs.YtfmeidhialmckaaGreatDoor.Ab
open Go Go.RowKit

/-- int64's arithmetic. -/
def W (n : Int) : Int := IntKind.i64.wrap n
/-- The elements of a list, as cells. -/
def fF {α : Type} (enc : α → List AC) (z : α) (xs : List α) : Nat → List AC := fun i => enc (xs.getD i z)
/-- A list as a row of data. -/
def dat {α : Type} (wd : Nat) (enc : α → List AC) (z : α) (xs : List α) : AC := .sl wd xs.length (fF enc z xs)
/-- An element, if the index is one. -/
def at' {α : Type} (z : α) (xs : List α) (i : Int) : Option α := if 0 ≤ i ∧ i < (xs.length : Int) then some (xs.getD i.toNat z) else none

section
variable {α β ρ : Type}
theorem ofIf {c : Prop} [Decidable c] {x : Option α} {r : α} (h : (if c then x else none) = some r) : c ∧ x = some r := by
  split at h
  · rename_i hc; exact ⟨hc, h⟩
  · cases h
theorem ofIte {c : Prop} [Decidable c] {x y : Option α} {r : α} (h : (if c then x else y) = some r) : (c ∧ x = some r) ∨ (¬ c ∧ y = some r) := by
  split at h
  · rename_i hc; exact .inl ⟨hc, h⟩
  · rename_i hc; exact .inr ⟨hc, h⟩
theorem ofCond {c : Bool} {x y : Option α} {r : α} (h : (bif c then x else y) = some r) : (c = true ∧ x = some r) ∨ (c = false ∧ y = some r) := by
  cases c
  · exact .inr ⟨rfl, h⟩
  · exact .inl ⟨rfl, h⟩
theorem ofBind {x : Option α} {f : α → Option β} {r : β} (h : x.bind f = some r) : ∃ t, x = some t ∧ f t = some r := Option.bind_eq_some_iff.1 h
theorem ofInl {γ : Type} {f : α → Option γ} {g : β → Option γ} {x : α} {r : γ} (h : Sum.elim f g (.inl x) = some r) : f x = some r := h
theorem ofInr {γ : Type} {f : α → Option γ} {g : β → Option γ} {x : β} {r : γ} (h : Sum.elim f g (.inr x) = some r) : g x = some r := h
theorem at_lt {z : α} {xs : List α} {i : Int} {x : α} (h : at' z xs i = some x) : 0 ≤ i ∧ i < (xs.length : Int) := (ofIf h).1
theorem at_eq {z : α} {xs : List α} {i : Int} {x : α} (h : at' z xs i = some x) : xs.getD i.toNat z = x := Option.some.inj (ofIf h).2
theorem at_enc {enc : α → List AC} {z : α} {xs : List α} {i : Int} {x : α} (h : at' z xs i = some x) : fF enc z xs i.toNat = enc x := congrArg enc (at_eq h)
theorem nat_lt {i : Int} {n : Nat} (h : 0 ≤ i ∧ i < (n : Int)) : i.toNat < n := by omega

theorem fF_lit (enc : α → List AC) (z : α) (xs : List α) : ∀ i, i < xs.length → fF enc z xs i = (xs.map enc).getD i [] := fun i hi => by
  simp [fF, List.getD, List.getElem?_eq_getElem hi]
theorem fF_rep (enc : α → List AC) (z v : α) (n : Nat) : ∀ i, i < (List.replicate n v).length → fF enc z (List.replicate n v) i = enc v := fun i hi => by
  have : i < n := by simpa using hi
  simp [fF, List.getD, this]
theorem fF_appL (enc : α → List AC) (z : α) (xs ys : List α) : ∀ i, i < xs.length → fF enc z (xs ++ ys) i = fF enc z xs i := fun i hi => by
  simp [fF, List.getD, List.getElem?_append_left hi]
theorem fF_appR (enc : α → List AC) (z : α) (xs ys : List α) : ∀ j, j < ys.length → fF enc z (xs ++ ys) (xs.length + j) = fF enc z ys j := fun j hj => by
  simp [fF, List.getD, List.getElem?_append_right]
theorem fF_all (enc : α → List AC) (z : α) (xs : List α) : ∀ j, j < xs.length → fF enc z xs j = fF enc z xs j := fun _ _ => rfl
theorem fF_set (enc : α → List AC) (z : α) (xs : List α) (i : Nat) (v : α) (hi : i < xs.length) (n : Nat) : ∀ j, j < n → fF enc z (xs.set i v) j = if j = i then enc v else fF enc z xs j := fun j hj => by
  by_cases e : j = i
  · subst e; simp [fF, List.getD, hi]
  · simp only [fF, List.getD, if_neg e]; rw [List.getElem?_set_ne (fun h => e h.symm)]
theorem drop_flat {enc : α → List AC} {wd : Nat} (hw : ∀ x, (enc x).length = wd) : ∀ (xs : List α) (k : Nat), k < xs.length → ∀ z, ((xs.flatMap enc).drop (k * wd)).take wd = enc (xs.getD k z)
  | [], k, h, _ => by simp at h
  | x :: r, 0, _, z => by simp [List.take_append_of_le_length (Nat.le_of_eq (hw x).symm), List.take_of_length_le (Nat.le_of_eq (hw x))]
  | x :: r, k + 1, h, z => by
    have h1 := drop_flat hw r k (by simpa using h) z
    rw [List.flatMap_cons, List.drop_append, hw x]
    have e1 : (k + 1) * wd - wd = k * wd := by rw [Nat.succ_mul]; omega
    have e2 : (enc x).drop ((k + 1) * wd) = [] := List.drop_eq_nil_of_le (by rw [hw x, Nat.succ_mul]; omega)
    rw [e1, e2, List.nil_append, h1]
    simp
theorem arr_at {enc : α → List AC} {z : α} {xs : List α} {wd : Nat} {i : Int} {v : α} (hw : ∀ x, (enc x).length = wd) (h : at' z xs i = some v) : ((xs.flatMap enc).drop (0 + i.toNat * wd)).take wd = enc v := by
  have h1 := at_lt h
  rw [Nat.zero_add, drop_flat hw xs i.toNat (by omega) z, at_eq h]
theorem set_lt {xs : List α} {i j : Nat} {v : α} (h : i < xs.length) : i < (xs.set j v).length := by simpa using h
theorem set_len (xs : List α) (j : Nat) (v : α) : xs.length = (xs.set j v).length := by simp
theorem fF_drop (enc : α → List AC) (z : α) (xs : List α) (l h : Int) (hh : 0 ≤ l ∧ l ≤ h ∧ h ≤ (xs.length : Int)) : ∀ i, i < ((xs.drop l.toNat).take (h.toNat - l.toNat)).length → fF enc z ((xs.drop l.toNat).take (h.toNat - l.toNat)) i = fF enc z xs (l.toNat + i) := fun i hi => by
  have : i < h.toNat - l.toNat := by simp at hi; omega
  simp [fF, List.getD, List.getElem?_take, this, List.getElem?_drop]
theorem len_drop (xs : List α) (l h : Int) (hh : 0 ≤ l ∧ l ≤ h ∧ h ≤ (xs.length : Int)) : ((xs.drop l.toNat).take (h.toNat - l.toNat)).length = (h - l).toNat := by
  simp; omega
end

/-- The state's end, as it stands. -/
def LeLr (E : List (Nat × AV)) (H : List (Nat × Blk)) : Prop :=
  E.map (fun p => some p.2) = E.map (fun p => some p.2) ∧ H.map (fun p => some p.2) = H.map (fun p => some p.2)
theorem leLr (E : List (Nat × AV)) (H : List (Nat × Blk)) : LeLr E H := ⟨rfl, rfl⟩

def seqJ (P : Program) (gl : Nat → Option (List AC)) (N : Nat) (y : S) (J : Exit → St → Prop) : Exit → St → Prop
  | .normal, s => EndsI P gl N y s J
  | e, s => J e s
def orJ {α β : Type} (f : α → Exit → St → Prop) (g : β → Exit → St → Prop) : α ⊕ β → Exit → St → Prop
  | .inl x => f x
  | .inr y => g y

section
variable {P : Program} {gl : Nat → Option (List AC)} {N : Nat} {s s1 : St} {J J' : Exit → St → Prop} {x y : S} {A : Prop}

theorem seq_ops {l : List IOp} (hs : List Hint) (fx : List Fix) (E : List (Nat × AV)) (H : List (Nat × Blk)) (p : LeLr E H → A)
    (h : A = SegP P gl l hs s fun _ s' => FixP fx s' fun s'' => LeL E H s'') (hy : EndsI P gl N y (lit E H) J) : EndsI P gl N (.seq (.ops l) y) s J :=
  ends_seq (J1 := fun e s' => e = .normal ∧ FixP fx s' fun s'' => LeL E H s'') (ends_ops (ofSeg (h ▸ p (leLr E H)))) (fun s' h' => ends_fix h'.2 hy) fun e s' he h' => absurd h'.1 he
where
  ofSeg {l : List IOp} {hs : List Hint} {s : St} {K : St → Prop} (h : SegP P gl l hs s fun _ s' => K s') : SegP P gl l hs s fun _ s' => (Exit.normal = .normal ∧ K s') := by
    have e : (fun (_ : List Hint) s' => (Exit.normal = Exit.normal ∧ K s')) = fun _ s' => K s' := by funext _ s'; simp
    rw [e]; exact h

theorem seq_draw {m : Nat} {l : List IOp} (hs : List Hint) (fx : List Fix) (E : List (Nat × AV)) (H : List (Nat × Blk)) (p : LeLr E H → A)
    (h : A = SegD P gl (l.take m) hs s fun hs' s' => SegP P gl (l.drop m) hs' s' fun _ s' => FixP fx s' fun s'' => LeL E H s'') (hy : EndsI P gl N y (lit E H) J) : EndsI P gl N (.seq (.draw m l) y) s J := by
  refine ends_seq (J1 := fun e s' => e = .normal ∧ FixP fx s' fun s'' => LeL E H s'') (ends_draw (hs := hs) ?_) (fun s' h' => ends_fix h'.2 hy) fun e s' he h' => absurd h'.1 he
  have e : (fun (_ : List Hint) s' => (Exit.normal = Exit.normal ∧ FixP fx s' fun s'' => LeL E H s'')) = fun _ s' => FixP fx s' fun s'' => LeL E H s'' := by funext _ s'; simp
  rw [e]; exact h ▸ p (leLr E H)

theorem one_ops {l : List IOp} (hs : List Hint) (fx : List Fix) (E : List (Nat × AV)) (H : List (Nat × Blk)) (p : LeLr E H → A)
    (h : A = SegP P gl l hs s fun _ s' => FixP fx s' fun s'' => LeL E H s'') (hJ : J .normal (lit E H)) : EndsI P gl N (.ops l) s J := fun c hc w0 Pr φ a w hs' => by
  have h1 : EndsI P gl N (.ops l) s (fun e s' => e = .normal ∧ FixP fx s' fun s'' => LeL E H s'') := ends_ops (seq_ops.ofSeg (h ▸ p (leLr E H)))
  refine wp_mono (h1 c hc w0 Pr φ a w hs') fun e a' w' ⟨s', Pr', φ', ⟨k1, k2⟩, k3, k4⟩ => ?_
  subst k1
  obtain ⟨s'', Pr'', φ'', q1, q2, q3⟩ := fix_sound fx k2 k3
  exact ⟨_, Pr'', _, hJ, q2.lit q1, k4.trans q3⟩

theorem one_draw {m : Nat} {l : List IOp} (hs : List Hint) (fx : List Fix) (E : List (Nat × AV)) (H : List (Nat × Blk)) (p : LeLr E H → A)
    (h : A = SegD P gl (l.take m) hs s fun hs' s' => SegP P gl (l.drop m) hs' s' fun _ s' => FixP fx s' fun s'' => LeL E H s'') (hJ : J .normal (lit E H)) : EndsI P gl N (.draw m l) s J := fun c hc w0 Pr φ a w hs' => by
  have h1 : EndsI P gl N (.draw m l) s (fun e s' => e = .normal ∧ FixP fx s' fun s'' => LeL E H s'') := ends_draw (hs := hs) (by
    have e : (fun (_ : List Hint) s' => (Exit.normal = Exit.normal ∧ FixP fx s' fun s'' => LeL E H s'')) = fun _ s' => FixP fx s' fun s'' => LeL E H s'' := by funext _ s'; simp
    rw [e]; exact h ▸ p (leLr E H))
  refine wp_mono (h1 c hc w0 Pr φ a w hs') fun e a' w' ⟨s', Pr', φ', ⟨k1, k2⟩, k3, k4⟩ => ?_
  subst k1
  obtain ⟨s'', Pr'', φ'', q1, q2, q3⟩ := fix_sound fx k2 k3
  exact ⟨_, Pr'', _, hJ, q2.lit q1, k4.trans q3⟩

/-- The state told otherwise. -/
theorem tell (fx : List Fix) (E : List (Nat × AV)) (H : List (Nat × Blk)) (p : LeLr E H → A) (h : A = FixP fx s fun s'' => LeL E H s'') (hx : EndsI P gl N x (lit E H) J) : EndsI P gl N x s J :=
  ends_fix (fx := fx) (E := E) (H := H) (h ▸ p (leLr E H)) hx

theorem seq_in (h : EndsI P gl N x s (seqJ P gl N y J)) : EndsI P gl N (.seq x y) s J :=
  ends_seq h (fun s' h' => h') fun e s' he h' => by cases e <;> first | exact absurd rfl he | exact h'

theorem ite_t {q : Opd} {b : Bool} (hb : b = true) (hq : ev gl s q = some (.c (.bool b))) (h : EndsI P gl N x s J) : EndsI P gl N (.ite q x y) s J :=
  ends_ite hq (fun _ => h) fun e => by rw [hb] at e; cases e
theorem ite_f {q : Opd} {b : Bool} (hb : b = false) (hq : ev gl s q = some (.c (.bool b))) (h : EndsI P gl N y s J) : EndsI P gl N (.ite q x y) s J :=
  ends_ite hq (fun e => by rw [hb] at e; cases e) fun _ => h

theorem loop_in {σ ρ : Type} {body : σ → Option (σ ⊕ ρ)} (S0 : σ → St) (J : ρ → Exit → St → Prop) {v : σ} {r : ρ} (h : loop body v = some r)
    (hb : ∀ v b, body v = some b → EndsI P gl N x (S0 v) (loopJ S0 J b)) (hj : ∀ e s, J r e s → J' e s) : EndsI P gl N (.loop x) (S0 v) J' :=
  ends_mono (ends_loop body S0 J hb h) hj

/-- A part whose end hangs on what it has told. -/
theorem cut_in {ρ : Type} (J1 : ρ → Exit → St → Prop) (r : ρ) (h : EndsI P gl N x s (J1 r)) (hj : ∀ e s, J1 r e s → J' e s) : EndsI P gl N x s J' := ends_mono h hj

theorem fn_in {f : FuncId} {fn : Func} {ir : S} {args : List AV} {res : AV} {s1 : St} (hf : P.funcs[f]? = some fn) (hcal : callable P f = true)
    (hc : (match fn.body with | some c => comp P fn.ntmps c | none => none) = some ir) (hn : (decide (args.length ≤ fn.ntmps)) = true) (hres : resV P s1 fn.results.toList = some res) (hk : res.keys = [])
    (h : EndsI P gl fn.ntmps ir (lit (argE 0 args) []) (AtR s1)) : FnOk P gl f args res := by
  cases hb : fn.body with
  | none => rw [hb] at hc; cases hc
  | some c => rw [hb] at hc; exact fnOk_of hf hcal hb hc (of_decide_eq_true hn) h hres hk
end
abbrev cI (n : Int) : AV := .c (.int .i64 n)
abbrev cB (b : Bool) : AV := .c (.bool b)
theorem aI {a b : Prop} (h : a) (k : b) : a ∧ b := ⟨h, k⟩
theorem lI {α : Type} {q : Prop} (xs : List α) (t : q) : xs.length ≤ maxLen → q := fun _ => t
end Go.Proofs.YtfmeidhialmckaaGreatDoor.Ab

namespace Go.Proofs.YtfmeidhialmckaaGreatDoor.Ab
open Go Go.RowKit

/-- What stands in memory ahead of a call. -/
def Old (W : World) : Nat → Prop := fun b => b < W.heap.size

/-- A type's readings are the encodings of Lean's values. -/
structure Opens {α : Type} (P : Program) (t : TypeId) (enc : α → List AC) (ok : α → Prop) : Prop where
  run : ∀ {H : Type} (en : TypeId × Value → H) (W : World) (sp : Nat → Bool) (held : Bool) (fuel : Nat) (cs : List Value) (x : DataW H × List MemPlace), DataW.trod en P W 0 sp held fuel t cs = some x →
    ∃ v : α, ok v ∧ cellsR (DR (Old W) W) (enc v) cs

theorem cellsR_nil {R : AC → Value → Prop} : cellsR R [] [] := ⟨rfl, fun i c v h => by simp at h⟩
theorem cellsR_cons {R : AC → Value → Prop} {c : AC} {v : Value} {cs : List AC} {vs : List Value} (h : R c v) (hs : cellsR R cs vs) : cellsR R (c :: cs) (v :: vs) := by
  refine ⟨by simp [hs.1], fun i d x hd hx => ?_⟩
  cases i with
  | zero => simp at hd hx; subst hd hx; exact h
  | succ i => exact hs.2 i d x (by simpa using hd) (by simpa using hx)
theorem cellsR_one {R : AC → Value → Prop} {c : AC} {v : Value} (h : R c v) : cellsR R [c] [v] := cellsR_cons h cellsR_nil
theorem cellsR_append {R : AC → Value → Prop} {cs ds : List AC} {vs ws : List Value} (h : cellsR R cs vs) (k : cellsR R ds ws) : cellsR R (cs ++ ds) (vs ++ ws) := by
  refine ⟨by simp [h.1, k.1], fun i d x hd hx => ?_⟩
  by_cases hi : i < cs.length
  · rw [List.getElem?_append_left hi] at hd
    rw [List.getElem?_append_left (by rw [h.1]; exact hi)] at hx
    exact h.2 i d x hd hx
  · rw [List.getElem?_append_right (by omega)] at hd
    rw [List.getElem?_append_right (by rw [h.1]; omega), h.1] at hx
    exact k.2 _ d x hd hx

section
variable {P : Program} {t e : TypeId} {α β : Type}

theorem opens_int {k : IntKind} (ht : P.underlying t = some (.int k)) : Opens P t (fun n => [.int k n]) (fun n => (Lit.int k n).wf = true) := by
  refine ⟨fun {H} en W sp held fuel cs x h => ?_⟩
  obtain ⟨n, rfl, _, hw⟩ := DataW.trod_int ht h
  exact ⟨n, hw, cellsR_one (.int _ _)⟩

theorem opens_bool (ht : P.underlying t = some .bool) : Opens P t (fun n => [.bool n]) (fun _ => True) := by
  refine ⟨fun {H} en W sp held fuel cs x h => ?_⟩
  obtain ⟨b, rfl, _⟩ := DataW.trod_bool ht h
  exact ⟨b, trivial, cellsR_one (.bool _)⟩

theorem opens_str (ht : P.underlying t = some .string) : Opens P t (fun n => [.str n]) (fun s => s.length ≤ maxLen) := by
  refine ⟨fun {H} en W sp held fuel cs x h => ?_⟩
  obtain ⟨s, rfl, _, hw⟩ := DataW.trod_string ht h
  refine ⟨s.data.toList, ?_, cellsR_one ?_⟩
  · have e : s.data.toList.length = s.size := Array.length_toList
    show s.data.toList.length ≤ maxLen
    rw [e]; exact hw
  · exact DR.str (Pr := Old W) (w := W) s.data.toList

theorem opens_slice {wd : Nat} {enc : α → List AC} {z : α} {ok : α → Prop} (ht : P.underlying t = some (.slice e)) (hw : P.cellsOf e = wd) (hlen : ∀ x, (enc x).length = wd) (he : Opens P e enc ok) :
    Opens P t (fun xs => [dat wd enc z xs]) (fun xs => xs.length ≤ maxLen ∧ ∀ x ∈ xs, ok x) := by
  refine ⟨fun {H} en W sp held fuel cs x h => ?_⟩
  rcases DataW.trod_slice ht h with ⟨rfl, _⟩ | ⟨a, len, cap, elems, rest, m, _, rfl, _, _, hlc, hcm, hel0, h1, _⟩
  · exact ⟨[], ⟨Nat.zero_le _, by simp⟩, cellsR_one (DR.slN _ _)⟩
  · rw [hw] at h1
    · have hel : ∀ i, i < len → ∃ (v : α) (vs : List Value), ok v ∧ cellsR (DR (Old W) W) (enc v) vs ∧ W.cells? 0 (a.add (i * wd)) wd = some vs := fun i hi => by
        obtain ⟨y, hy⟩ : ∃ y, elems[i]? = some y := ⟨elems[i], List.getElem?_eq_getElem (by omega)⟩
        have hy := (h1 i hi).trans hy
        simp only [Option.bind_eq_some_iff] at hy
        obtain ⟨vs, h2, h3⟩ := hy
        obtain ⟨v, h4, h5⟩ := he.run en W sp held m vs y h3
        exact ⟨v, vs, h4, h5, h2⟩
      -- one value for each index
      have hch : ∃ g : Nat → α, ∀ i, i < len → ∃ vs : List Value, ok (g i) ∧ cellsR (DR (Old W) W) (enc (g i)) vs ∧ W.cells? 0 (a.add (i * wd)) wd = some vs := by
        refine ⟨fun i => if h : i < len then Classical.choose (hel i h) else z, fun i hi => ?_⟩
        simp only [dif_pos hi]
        exact Classical.choose_spec (hel i hi)
      obtain ⟨g, hg⟩ := hch
      refine ⟨(List.range len).map g, ⟨by rw [List.length_map, List.length_range]; exact Nat.le_trans hlc hcm, fun x hx => ?_⟩, cellsR_one ?_⟩
      · obtain ⟨i, hi, rfl⟩ := List.mem_map.1 hx
        obtain ⟨vs, h2, _⟩ := hg i (by simpa using hi)
        exact h2
      · have hcell : ∀ i j c, i < len → (enc (g i))[j]? = some c → ∃ y, W.cell? (a.add (i * wd + j)) = some y ∧ DR (Old W) W c y := by
          intro i j c hi hj
          obtain ⟨vs, _, h3, h4⟩ := hg i hi
          obtain ⟨y, h5, h6⟩ := h3.get hj
          refine ⟨y, ?_, h6⟩
          unfold World.cells? at h4
          simp only [Nat.zero_le, if_true] at h4
          obtain ⟨q, hq1, hq2⟩ := mapM_back h4 j y h5
          have hjw : j < wd := by rw [← hlen (g i)]; exact (List.getElem?_eq_some_iff.1 hj).1
          rw [List.getElem?_range hjw] at hq1
          cases hq1
          rw [Addr.add_add] at hq2
          exact hq2
        have hf : ∀ i, i < len → fF enc z ((List.range len).map g) i = enc (g i) := fun i hi => by simp [fF, List.getD, hi]
        unfold dat
        have hl : ((List.range len).map g).length = len := by simp
        rw [hl]
        refine DR.sl_of_ex hlc hcm (fun i hi => by rw [hf i hi]; exact hlen _) (fun i j c hi hj => ?_)
        rw [hf i hi] at hj
        obtain ⟨y, h7, h8⟩ := hcell i j c hi hj
        refine ⟨?_, y, h7, h8⟩
        have hb : (a.add (i * wd + j)).block = a.block := Addr.add_block _ _
        unfold Old
        rcases Nat.lt_or_ge a.block W.heap.size with hlt | hge
        · exact hlt
        · exfalso
          unfold World.cell? at h7
          rw [hb] at h7
          rw [Array.getElem?_eq_none hge] at h7
          simp at h7

/-- A struct's fields, one behind the other from the cell o on. -/
structure OpensF {β : Type} (P : Program) (fs : List Field) (o n : Nat) (enc : β → List AC) (ok : β → Prop) : Prop where
  run : ∀ {H : Type} (en : TypeId × Value → H) (W : World) (sp : Nat → Bool) (held : Bool) (fuel : Nat) (cs : List Value) (xs : List (DataW H × List MemPlace)),
    fs.mapM (fun f => DataW.trod en P W 0 sp held fuel f.type ((cs.drop f.offset).take (P.cellsOf f.type))) = some xs → cs.length = o + n →
    ∃ v : β, ok v ∧ cellsR (DR (Old W) W) (enc v) (cs.drop o)

theorem opensF_nil {o : Nat} : OpensF (β := Unit) P [] o 0 (fun _ => []) (fun _ => True) := by
  refine ⟨fun {H} en W sp held fuel cs xs h hl => ?_⟩
  exact ⟨(), trivial, by rw [List.drop_eq_nil_of_le (by omega)]; exact cellsR_nil⟩

theorem opensF_cons {f : Field} {fs : List Field} {o w n : Nat} {enc1 : α → List AC} {enc2 : β → List AC} {ok1 : α → Prop} {ok2 : β → Prop} (h1 : Opens P f.type enc1 ok1) (ho : f.offset = o) (hw : P.cellsOf f.type = w)
    (h2 : OpensF P fs (o + w) n enc2 ok2) : OpensF (β := α × β) P (f :: fs) o (w + n) (fun x => enc1 x.1 ++ enc2 x.2) (fun x => ok1 x.1 ∧ ok2 x.2) := by
  refine ⟨fun {H} en W sp held fuel cs xs h hl => ?_⟩
  simp only [List.mapM_cons, Option.bind_eq_bind, Option.bind_eq_some_iff, Option.pure_def, Option.some.injEq] at h
  obtain ⟨y, hy, r', hr, rfl⟩ := h
  obtain ⟨v1, k1, k2⟩ := h1.run en W sp held fuel _ y hy
  obtain ⟨v2, k3, k4⟩ := h2.run en W sp held fuel cs r' hr (by omega)
  refine ⟨(v1, v2), ⟨k1, k3⟩, ?_⟩
  have hd : cs.drop o = (cs.drop o).take w ++ cs.drop (o + w) := by
    rw [← List.drop_drop]; exact (List.take_append_drop w _).symm
  rw [hd]
  rw [ho, hw] at k2
  exact cellsR_append k2 k4

theorem opens_struct {fs : Array Field} {n : Nat} {enc : β → List AC} {ok : β → Prop} (ht : P.underlying t = some (.struct fs)) (hn : P.cellsOf t = n) (hf : OpensF P fs.toList 0 n enc ok) : Opens P t enc ok := by
  refine ⟨fun {H} en W sp held fuel cs x h => ?_⟩
  obtain ⟨xs, m, _, _, h0, hxl, h1⟩ := DataW.trod_struct ht h
  have hm : ∀ (l : List Field) (ys : List (DataW H × List MemPlace)), ys.length = l.length → (∀ (i : Nat) (f : Field), l[i]? = some f → DataW.trod en P W 0 sp held m f.type ((cs.drop f.offset).take (P.cellsOf f.type)) = ys[i]?) →
      l.mapM (fun f => DataW.trod en P W 0 sp held m f.type ((cs.drop f.offset).take (P.cellsOf f.type))) = some ys := by
    intro l
    induction l with
    | nil => intro ys hl _; cases ys with | nil => rfl | cons y r => simp at hl
    | cons f r ih =>
      intro ys hl hg
      cases ys with
      | nil => simp at hl
      | cons y ys =>
        have e1 := hg 0 f (by simp)
        simp only [List.getElem?_cons_zero] at e1
        rw [List.mapM_cons, e1, ih ys (by simpa using hl) (fun i g hi => by have := hg (i + 1) g (by simpa using hi); simpa using this)]
        rfl
  obtain ⟨v, h2, h3⟩ := hf.run en W sp held m cs xs (hm fs.toList xs (by simpa using hxl) (fun i f hi => h1 i f (by simpa using hi))) (by omega)
  exact ⟨v, h2, by simpa using h3⟩

theorem Opens.map {enc : α → List AC} {ok : α → Prop} {enc' : β → List AC} {ok' : β → Prop} (h : Opens P t enc ok) (g : α → β) (hg : ∀ x, ok x → ok' (g x)) (he : ∀ x, enc x = enc' (g x)) : Opens P t enc' ok' := by
  refine ⟨fun {H} en W sp held fuel cs x hx => ?_⟩
  obtain ⟨v, h1, h2⟩ := h.run en W sp held fuel cs x hx
  exact ⟨g v, hg v h1, (he v) ▸ h2⟩

/-- An argument of a struct's type. -/
theorem Opens.agg {H : Type} {en : TypeId × Value → H} {W : World} {sp : Nat → Bool} {held : Bool} {v : Value} {d : DataW H} {ps : List MemPlace} {r : Reach} {b0 : Nat} {enc : α → List AC} {ok : α → Prop} {fs : Array Field}
    (h : Opens P t enc ok) (ht : P.underlying t = some (.struct fs)) (hval : Value.okWide P W r b0 t v) (hd : DataW.Trod en P W 0 sp held t v d ps) : ∃ x : α, ok x ∧ VR (DR (Old W) W) (.agg (enc x)) v := by
  obtain ⟨fuel, hf⟩ := hd
  obtain ⟨x, h1, h2⟩ := h.run en W sp held fuel _ _ hf
  unfold Value.okWide at hval
  rw [ht] at hval
  obtain ⟨cs, rfl, _⟩ := hval
  exact ⟨x, h1, cs.toList, by simp, h2⟩

/-- An argument of one cell. -/
theorem Opens.cell {H : Type} {en : TypeId × Value → H} {W : World} {sp : Nat → Bool} {held : Bool} {v : Value} {d : DataW H} {ps : List MemPlace} {enc : α → AC} {ok : α → Prop}
    (h : Opens P t (fun x => [enc x]) ok) (hone : ∀ cs, v ≠ .agg cs) (hd : DataW.Trod en P W 0 sp held t v d ps) : ∃ x : α, ok x ∧ VR (DR (Old W) W) (.c (enc x)) v := by
  obtain ⟨fuel, hf⟩ := hd
  obtain ⟨x, h1, h2⟩ := h.run en W sp held fuel _ _ hf
  have hc : v.cells.toList = [v] := by cases v <;> first | rfl | exact absurd rfl (hone _)
  rw [hc] at h2
  exact ⟨x, h1, h2.2 0 _ _ rfl rfl⟩

/-- A law's contract, as a call. -/
theorem FnOk.law {gl : Nat → Option (List AC)} {f : FuncId} {args : List AV} (h : FnOk P gl f args (.c (.bool true))) {W : World} {vals : List Value}
    (hgl : ∀ g cs, gl g = some cs → DR (Old W) W (.pd cs 0) (.pointer (some ⟨g, 0, none⟩))) (hl : vals.length = args.length)
    (hv : ∀ (i : Nat) a v, args[i]? = some a → vals[i]? = some v → VR (DR (Old W) W) a v) :
    Calls P f vals.toArray W fun e W' => e = .returned (.bool true) ∧ Below W.heap.size W W' :=
  (h.2 W (Old W) vals (fun _ hb => hb) hgl hl hv).mono fun e W' ⟨v, he, hb, hr⟩ => by
    have : v = .bool true := by cases hr; rfl
    subst this
    exact ⟨he, hb⟩
end
end Go.Proofs.YtfmeidhialmckaaGreatDoor.Ab

namespace Go.Proofs.YtfmeidhialmckaaGreatDoor.Ab
open Go Go.RowKit

theorem W_of {n : Int} (h : -9223372036854775808 ≤ n ∧ n < 9223372036854775808) : W n = n := by
  unfold W
  simp only [IntKind.wrap]
  simp [IntKind.signed, IntKind.bits]; omega

theorem wf_i64 {n : Int} (h : (Lit.int .i64 n).wf = true) : -9223372036854775808 ≤ n ∧ n < 9223372036854775808 := by
  simp [Lit.wf, IntKind.min, IntKind.max, IntKind.signed, IntKind.bits] at h
  omega
theorem W_ok {n : Int} (h : (Lit.int .i64 n).wf = true) : W n = n := W_of (wf_i64 h)
theorem W_succ {k : Nat} (h : k < 4611686018427387904) : W ((k : Int) + 1) = ((k + 1 : Nat) : Int) := by rw [W_of (by omega)]; omega

section
variable {α β σ ρ τ : Type}

theorem at_nat {z : α} {xs : List α} {k : Nat} (h : k < xs.length) : at' z xs (k : Int) = some xs[k] := by
  unfold at'
  rw [if_pos ⟨by omega, by omega⟩]
  simp [List.getD, h]

/-- A loop by an invariant and a falling count. -/
theorem loop_ind {body : σ → Option (σ ⊕ ρ)} (I : σ → Prop) (μ : σ → Nat) (Q : ρ → Prop)
    (hs : ∀ s, I s → (∃ s', body s = some (.inl s') ∧ I s' ∧ μ s' < μ s) ∨ (∃ r, body s = some (.inr r) ∧ Q r)) {s : σ} (h : I s) : ∃ r, loop body s = some r ∧ Q r := by
  have key : ∀ n s, μ s ≤ n → I s → ∃ r, loop body s = some r ∧ Q r := by
    intro n
    induction n with
    | zero =>
      intro s hn hI
      rcases hs s hI with ⟨s', _, _, h3⟩ | ⟨r, h1, h2⟩
      · omega
      · exact ⟨r, by rw [loop_eq, h1], h2⟩
    | succ n ih =>
      intro s hn hI
      rcases hs s hI with ⟨s', h1, h2, h3⟩ | ⟨r, h1, h2⟩
      · obtain ⟨r, h4, h5⟩ := ih s' (by omega) h2
        exact ⟨r, by rw [loop_eq, h1]; exact h4, h5⟩
      · exact ⟨r, by rw [loop_eq, h1], h2⟩
  exact key _ s (Nat.le_refl _) h

theorem run_ind {γ : Type} {body : σ → Option (σ ⊕ ρ)} {f : ρ → Option γ} {s : σ} (R : Option γ → Prop) (I : σ → Prop) (μ : σ → Nat) (Q : ρ → Prop) (hI : I s)
    (hs : ∀ s, I s → (∃ s', body s = some (.inl s') ∧ I s' ∧ μ s' < μ s) ∨ (∃ r, body s = some (.inr r) ∧ Q r)) (hq : ∀ r, Q r → R (f r)) : R ((loop body s).bind f) := by
  obtain ⟨r, h1, h2⟩ := loop_ind I μ Q hs hI
  rw [h1]; exact hq r h2

/-- Rounds with an early end. -/
def foldE (h : τ → α → τ ⊕ ρ) : τ → List α → τ ⊕ ρ
  | a, [] => .inl a
  | a, x :: r => match h a x with
    | .inl a' => foldE h a' r
    | .inr e => .inr e

/-- A loop over a list, by its index: st k a is the state ahead of the element k. -/
theorem loop_list {body : σ → Option (σ ⊕ ρ)} (xs : List α) (st : Nat → τ → σ) (I : Nat → τ → Prop) (h : Nat → τ → α → τ ⊕ ρ) (fin : τ → ρ)
    (hs : ∀ k a (hk : k < xs.length), I k a → match h k a xs[k] with
      | .inl a' => body (st k a) = some (.inl (st (k + 1) a')) ∧ I (k + 1) a'
      | .inr e => body (st k a) = some (.inr e))
    (he : ∀ a, I xs.length a → body (st xs.length a) = some (.inr (fin a))) {a : τ} (hI : I 0 a) :
    loop body (st 0 a) = some (match foldE (fun (p : Nat × τ) x => match h p.1 p.2 x with | .inl a' => .inl (p.1 + 1, a') | .inr e => .inr e) (0, a) xs with | .inl p => fin p.2 | .inr e => e) := by
  have key : ∀ (r : List α) (k : Nat) (a : τ), xs.drop k = r → k ≤ xs.length → I k a →
      loop body (st k a) = some (match foldE (fun (p : Nat × τ) x => match h p.1 p.2 x with | .inl a' => .inl (p.1 + 1, a') | .inr e => .inr e) (k, a) r with | .inl p => fin p.2 | .inr e => e) := by
    intro r
    induction r with
    | nil =>
      intro k a hr hk hI
      have hkl : k = xs.length := by
        have := congrArg List.length hr
        simp at this; omega
      subst hkl
      rw [loop_eq, he a hI]
      rfl
    | cons x r ih =>
      intro k a hr hk hI
      have hk' : k < xs.length := by
        have := congrArg List.length hr
        simp at this; omega
      have hx : xs[k] = x := by
        have := List.drop_eq_getElem_cons hk'
        rw [hr] at this; exact ((List.cons.inj this).1).symm
      have hr' : xs.drop (k + 1) = r := by
        have := List.drop_eq_getElem_cons hk'
        rw [hr] at this; exact ((List.cons.inj this).2).symm
      have h1 := hs k a hk' hI
      rw [hx] at h1
      rw [loop_eq]
      cases hh : h k a x with
      | inl a' =>
        rw [hh] at h1
        simp only [h1.1, foldE, hh]
        exact ih (k + 1) a' hr' (by omega) h1.2
      | inr e =>
        rw [hh] at h1
        simp only at h1
        simp only [h1, foldE, hh]
  exact key xs 0 a rfl (Nat.zero_le _) hI

/-- The same, where the index counts for nothing but its elements. -/
theorem loop_each {body : σ → Option (σ ⊕ ρ)} (xs : List α) (st : Nat → τ → σ) (I : Nat → τ → Prop) (h : τ → α → τ ⊕ ρ) (fin : τ → ρ)
    (hs : ∀ k a (hk : k < xs.length), I k a → match h a xs[k] with
      | .inl a' => body (st k a) = some (.inl (st (k + 1) a')) ∧ I (k + 1) a'
      | .inr e => body (st k a) = some (.inr e))
    (he : ∀ a, I xs.length a → body (st xs.length a) = some (.inr (fin a))) {a : τ} (hI : I 0 a) :
    loop body (st 0 a) = some (match foldE h a xs with | .inl a => fin a | .inr e => e) := by
  rw [loop_list xs st I (fun _ => h) fin hs he hI]
  have key : ∀ (r : List α) (k : Nat) (a : τ), (match foldE (fun (p : Nat × τ) x => match h p.2 x with | .inl a' => .inl (p.1 + 1, a') | .inr e => .inr e) (k, a) r with | .inl p => fin p.2 | .inr e => e)
      = (match foldE h a r with | .inl a => fin a | .inr e => e) := by
    intro r
    induction r with
    | nil => intro k a; rfl
    | cons x r ih =>
      intro k a
      simp only [foldE]
      cases hh : h a x with
      | inl a' => exact ih (k + 1) a'
      | inr e => rfl
  rw [key xs 0 a]

/-- All of a list. -/
theorem foldE_all (p : α → Bool) (e : ρ) : ∀ xs : List α, foldE (fun (_ : Unit) x => bif p x then .inl () else .inr e) () xs = bif xs.all p then .inl () else .inr e
  | [] => rfl
  | x :: r => by
    simp only [foldE, List.all_cons]
    cases p x with
    | true => simpa using foldE_all p e r
    | false => rfl
/-- .. in front of what stands behind it. -/
theorem run_each {γ : Type} {body : σ → Option (σ ⊕ ρ)} {f : ρ → Option γ} {s : σ} (xs : List α) (st : Nat → τ → σ) (I : Nat → τ → Prop) (h : τ → α → τ ⊕ ρ) (fin : τ → ρ) (a : τ) (h0 : s = st 0 a) (hI : I 0 a)
    (hs : ∀ k a (hk : k < xs.length), I k a → match h a xs[k] with
      | .inl a' => body (st k a) = some (.inl (st (k + 1) a')) ∧ I (k + 1) a'
      | .inr e => body (st k a) = some (.inr e))
    (he : ∀ a, I xs.length a → body (st xs.length a) = some (.inr (fin a))) :
    (loop body s).bind f = f (match foldE h a xs with | .inl a => fin a | .inr e => e) := by
  rw [h0, loop_each xs st I h fin hs he hI]; rfl
/-- A loop that looks whether all of a list are so. -/
theorem run_all {γ : Type} {body : Int → Option (Int ⊕ ρ)} {f : ρ → Option γ} {s : Int} (xs : List α) (p : α → Bool) (e y : ρ) (h0 : s = 0)
    (hs : ∀ k (hk : k < xs.length), body (k : Int) = some (bif p xs[k] then .inl ((k + 1 : Nat) : Int) else .inr e))
    (he : body (xs.length : Int) = some (.inr y)) : (loop body s).bind f = f (bif xs.all p then y else e) := by
  rw [run_each xs (fun k (_ : Unit) => (k : Int)) (fun _ _ => True) (fun _ x => bif p x then .inl () else .inr e) (fun _ => y) () (by rw [h0]; rfl) trivial ?_ (fun _ _ => he), foldE_all]
  · cases xs.all p <;> rfl
  · intro k _ hk _
    have := hs k hk
    cases hp : p xs[k] with
    | true => rw [hp] at this; exact ⟨this, trivial⟩
    | false => rw [hp] at this; exact this

/-- No early end. -/
theorem foldE_fold (g : τ → α → τ) : ∀ (xs : List α) (a : τ), foldE (ρ := ρ) (fun a x => .inl (g a x)) a xs = .inl (xs.foldl g a)
  | [], _ => rfl
  | x :: r, a => by simp only [foldE, List.foldl_cons]; exact foldE_fold g r _
/-- Two loops that go alike. -/
theorem loop_both {b b' : σ → Option (σ ⊕ ρ)} (I : σ → Prop) (μ : σ → Nat) (Q : ρ → Prop)
    (hs : ∀ s, I s → b' s = b s ∧ ((∃ s', b s = some (.inl s') ∧ I s' ∧ μ s' < μ s) ∨ (∃ r, b s = some (.inr r) ∧ Q r))) {s : σ} (h : I s) : ∃ r, loop b s = some r ∧ loop b' s = some r ∧ Q r := by
  have key : ∀ n s, μ s ≤ n → I s → ∃ r, loop b s = some r ∧ loop b' s = some r ∧ Q r := by
    intro n
    induction n with
    | zero =>
      intro s hn hI
      obtain ⟨e, ⟨s', _, _, h3⟩ | ⟨r, h1, h2⟩⟩ := hs s hI
      · omega
      · exact ⟨r, by rw [loop_eq, h1], by rw [loop_eq, e, h1], h2⟩
    | succ n ih =>
      intro s hn hI
      obtain ⟨e, ⟨s', h1, h2, h3⟩ | ⟨r, h1, h2⟩⟩ := hs s hI
      · obtain ⟨r, h4, h5, h6⟩ := ih s' (by omega) h2
        exact ⟨r, by rw [loop_eq, h1]; exact h4, by rw [loop_eq, e, h1]; exact h5, h6⟩
      · exact ⟨r, by rw [loop_eq, h1], by rw [loop_eq, e, h1], h2⟩
  exact key _ s (Nat.le_refl _) h
end
end Go.Proofs.YtfmeidhialmckaaGreatDoor.Ab

namespace Go.Proofs.YtfmeidhialmckaaGreatDoor.Ab
open Go Go.RowKit

/-- 2 to the 20th: what the laws let in. -/
def SM : Nat := 1048576

/-! ### the laws' own helpers over lists: szL counts, toL copies, eqL compares -/
noncomputable def szL {α : Type} (z : α) (f : α → Int → Option Int) (p0 : List α) (p1 : Int) : Option Int :=
  (bif (decide ((W (p1 - (p0.length : Int))) < 0)) then some (-1) else ((loop (fun (x : (Int × Int)) => ((bif (decide (x.2 < (p0.length : Int))) then ((at' z p0 x.2).bind fun v => ((f v x.1).bind fun r => (bif (decide (r < 0)) then some (Sum.inr (Sum.inr (-1))) else some (Sum.inl (r, (W (x.2 + 1))))))) else some (Sum.inr (Sum.inl x.1))) : Option ((Int × Int) ⊕ (Int ⊕ Int)))) ((W (p1 - (p0.length : Int))), 0)).bind fun y => (Sum.elim (fun (y : Int) => some y) (fun (y : Int) => some y) y)))
noncomputable def toL {α : Type} (z : α) (f : α → Option α) (p0 : List α) : Option (List α) :=
  (if 0 ≤ (p0.length : Int) ∧ (p0.length : Int).toNat ≤ LIM then ((loop (fun (x : (Int × (List α))) => ((bif (decide (x.1 < (p0.length : Int))) then ((at' z p0 x.1).bind fun v => ((f v).bind fun u => (if 0 ≤ x.1 ∧ x.1 < (x.2.length : Int) then some (Sum.inl ((W (x.1 + 1)), (x.2.set x.1.toNat u))) else none))) else some (Sum.inr x.2)) : Option ((Int × (List α)) ⊕ (List α)))) (0, (List.replicate (p0.length : Int).toNat z))).bind fun y => some y) else none)
noncomputable def eqL {α : Type} (z : α) (f : α → α → Option Bool) (p0 p1 : List α) : Option Bool :=
  (bif ((p0.length : Int) != (p1.length : Int)) then some false else ((loop (fun (x : Int) => ((bif (decide (x < (p0.length : Int))) then ((at' z p0 x).bind fun v => ((at' z p1 x).bind fun u => ((f v u).bind fun r => (bif (!r) then some (Sum.inr (Sum.inr false)) else some (Sum.inl (W (x + 1))))))) else some (Sum.inr (Sum.inl ()))) : Option (Int ⊕ (Unit ⊕ Bool)))) 0).bind fun y => (Sum.elim (fun (y : Unit) => some true) (fun (y : Bool) => some y) y)))

/-- What a counter tells: -1, or that all is small. -/
def SzOk {α : Type} (f : α → Int → Option Int) (sm : α → Prop) (x : α) : Prop :=
  ∀ n, 0 ≤ n ∧ n ≤ (SM : Int) → ∃ r, f x n = some r ∧ (r = -1 ∨ (0 ≤ r ∧ r ≤ n ∧ sm x))

theorem szL_ok {α : Type} {z : α} {f : α → Int → Option Int} {sm : α → Prop} {xs : List α} (hl : xs.length ≤ maxLen) (h : ∀ x ∈ xs, SzOk f sm x) :
    SzOk (szL z f) (fun xs => xs.length ≤ SM ∧ ∀ x ∈ xs, sm x) xs := by
  intro n hn
  have hm : maxLen = 9223372036854775807 := by decide
  unfold szL
  unfold SM at hn
  rw [W_of (by omega)]
  by_cases hlt : n - xs.length < 0
  · exact ⟨-1, by simp [hlt], .inl rfl⟩
  · simp only [hlt, decide_false, cond_false]
    refine run_ind (fun o => ∃ r, o = some r ∧ (r = -1 ∨ (0 ≤ r ∧ r ≤ n ∧ xs.length ≤ SM ∧ ∀ x ∈ xs, sm x)))
      (fun s => ∃ k : Nat, s.2 = k ∧ k ≤ xs.length ∧ 0 ≤ s.1 ∧ s.1 ≤ n - xs.length ∧ ∀ j (hj : j < xs.length), j < k → sm xs[j]) (fun s => xs.length - s.2.toNat)
      (fun r => match r with | .inl r => 0 ≤ r ∧ r ≤ n ∧ ∀ x ∈ xs, sm x | .inr r => r = -1) ⟨0, rfl, Nat.zero_le _, by omega, Int.le_refl _, fun j hj h => absurd h (Nat.not_lt_zero _)⟩ ?_ (fun r h2 => by
        cases r with
        | inl r => exact ⟨r, rfl, .inr ⟨h2.1, h2.2.1, by unfold SM; omega, h2.2.2⟩⟩
        | inr r => exact ⟨r, rfl, .inl h2⟩)
    · rintro ⟨a, i⟩ ⟨k, hk, hkl, ha, hb, hsm⟩
      simp only at hk ha hb
      subst hk
      by_cases hlt : k < xs.length
      · have hk' : (k : Int) < xs.length := by omega
        obtain ⟨r, h3, h4⟩ := h xs[k] (List.getElem_mem _) a ⟨ha, by unfold SM; omega⟩
        simp only [hk', decide_true, cond_true, at_nat hlt, Option.bind_some, h3, W_succ (show k < 4611686018427387904 by omega)]
        rcases h4 with rfl | ⟨h4, h5, h6⟩
        · right; exact ⟨.inr (-1), by simp, rfl⟩
        · left
          have : ¬ r < 0 := by omega
          simp only [this, decide_false, cond_false]
          refine ⟨(r, ((k + 1 : Nat) : Int)), rfl, ⟨k + 1, rfl, by omega, h4, by simp only; omega, fun j hj hjk => ?_⟩, ?_⟩
          · by_cases e : j = k
            · subst e; exact h6
            · exact hsm j hj (by omega)
          · simp only [Int.toNat_natCast]; omega
      · have hk' : ¬ (k : Int) < xs.length := by omega
        right
        simp only [hk', decide_false, cond_false]
        refine ⟨.inl a, rfl, ha, by omega, fun x hx => ?_⟩
        obtain ⟨j, hj, rfl⟩ := List.getElem_of_mem hx
        exact hsm j hj (by omega)

theorem toL_eq {α : Type} {z : α} {f : α → Option α} {xs : List α} (hl : xs.length ≤ SM) (h : ∀ x ∈ xs, f x = some x) : toL z f xs = some xs := by
  unfold toL
  unfold SM at hl
  rw [if_pos ⟨by omega, by unfold LIM; omega⟩]
  refine run_ind (fun o => o = some xs) (fun s => ∃ k : Nat, s.1 = k ∧ k ≤ xs.length ∧ s.2 = xs.take k ++ List.replicate (xs.length - k) z) (fun s => xs.length - s.1.toNat) (fun r => r = xs)
    ⟨0, rfl, Nat.zero_le _, by simp⟩ ?_ (fun r h => by rw [h])
  · rintro ⟨i, ys⟩ ⟨k, hk, hkl, hy⟩
    simp only at hk hy
    subst hk hy
    by_cases hlt : k < xs.length
    · have hk' : (k : Int) < xs.length := by omega
      left
      have hlen : (xs.take k ++ List.replicate (xs.length - k) z).length = xs.length := by simp; omega
      simp only [hk', decide_true, cond_true, at_nat hlt, Option.bind_some, h xs[k] (List.getElem_mem _), W_succ (show k < 4611686018427387904 by omega), hlen]
      rw [if_pos ⟨by omega, trivial⟩]
      refine ⟨_, rfl, ⟨k + 1, rfl, by omega, ?_⟩, by simp only [Int.toNat_natCast]; omega⟩
      simp only [Int.toNat_natCast]
      have e1 : xs.length - k = (xs.length - (k + 1)) + 1 := by omega
      rw [e1, List.replicate_succ, List.set_append_right _ _ (by simp; omega)]
      have e2 : k - (xs.take k).length = 0 := by simp; omega
      rw [e2, List.set_cons_zero, List.take_succ_eq_append_getElem hlt, List.append_assoc]
      rfl
    · have hk' : ¬ (k : Int) < xs.length := by omega
      right
      simp only [hk', decide_false, cond_false]
      refine ⟨_, rfl, ?_⟩
      have : k = xs.length := by omega
      subst this
      simp

theorem eqL_self {α : Type} {z : α} {f : α → α → Option Bool} {xs : List α} (hl : xs.length ≤ SM) (h : ∀ x ∈ xs, f x x = some true) : eqL z f xs xs = some true := by
  unfold eqL
  unfold SM at hl
  simp only [bne_self_eq_false, cond_false]
  rw [run_all xs (fun _ => true) (.inr false) (.inl ()) rfl ?_ ?_]
  · have : (xs.all fun _ => true) = true := by simp
    rw [this]; rfl
  · intro k hk
    have hk' : (k : Int) < xs.length := by omega
    simp only [hk', decide_true, cond_true, at_nat hk, Option.bind_some, h xs[k] (List.getElem_mem _), W_succ (show k < 4611686018427387904 by omega), Bool.not_true, cond_false]
  · simp
/-! ### what the laws let in, type by type -/
abbrev okI (n : Int) : Prop := (Lit.int .i64 n).wf = true
abbrev okU (n : Int) : Prop := (Lit.int .u8 n).wf = true
abbrev okB (_ : Bool) : Prop := True
abbrev okS (s : List UInt8) : Prop := s.length ≤ maxLen
abbrev okL {α : Type} (ok : α → Prop) (xs : List α) : Prop := xs.length ≤ maxLen ∧ ∀ x ∈ xs, ok x
abbrev smI (_ : Int) : Prop := True
abbrev smB (_ : Bool) : Prop := True
abbrev smS (s : List UInt8) : Prop := s.length ≤ SM
abbrev smL {α : Type} (sm : α → Prop) (xs : List α) : Prop := xs.length ≤ SM ∧ ∀ x ∈ xs, sm x
theorem trivI (n : Int) : smI n := trivial
theorem trivB (n : Bool) : smB n := trivial

def SzR (o : Option Int) (n : Int) (Q : Prop) : Prop := ∃ r, o = some r ∧ (r = -1 ∨ (0 ≤ r ∧ r ≤ n ∧ Q))
theorem szr_step {o : Option Int} {k : Int → Option Int} {m : Int} {Q Q' : Prop} (h : SzR o m Q) (hm : 0 ≤ m ∧ m ≤ (SM : Int))
    (hk : ∀ r, (0 ≤ r ∧ r ≤ (SM : Int)) → Q → SzR (k r) r Q') : SzR (o.bind fun r => bif decide (r < 0) then some (-1) else k r) m Q' := by
  obtain ⟨r, rfl, h1⟩ := h
  rcases h1 with rfl | ⟨h1, h2, h3⟩
  · exact ⟨-1, by simp, .inl rfl⟩
  · obtain ⟨r', e, h4⟩ := hk r ⟨h1, by omega⟩ h3
    have : ¬ r < 0 := by omega
    refine ⟨r', by simp [this, e], ?_⟩
    rcases h4 with h4 | ⟨h4, h5, h6⟩
    · exact .inl h4
    · exact .inr ⟨h4, by omega, h6⟩
theorem szr_len {α : Type} {xs : List α} {k : Int → Option Int} {m : Int} {Q' : Prop} (hx : xs.length ≤ maxLen) (hm : 0 ≤ m ∧ m ≤ (SM : Int))
    (hk : ∀ r, (0 ≤ r ∧ r ≤ (SM : Int)) → xs.length ≤ SM → SzR (k r) r Q') : SzR (bif decide (W (m - (xs.length : Int)) < 0) then some (-1) else k (W (m - (xs.length : Int)))) m Q' := by
  have hl : maxLen = 9223372036854775807 := by decide
  unfold SM at *
  rw [W_of (by omega)]
  by_cases h : m - xs.length < 0
  · exact ⟨-1, by simp [h], .inl rfl⟩
  · obtain ⟨r', e, h4⟩ := hk (m - xs.length) (by omega) (by omega)
    refine ⟨r', by simp [h, e], ?_⟩
    rcases h4 with h4 | ⟨h4, h5, h6⟩
    · exact .inl h4
    · exact .inr ⟨h4, by omega, h6⟩
theorem len_cases {α : Type} {xs : List α} {m : Int} (hx : xs.length ≤ maxLen) (hm : 0 ≤ m ∧ m ≤ (SM : Int)) : ∃ r, W (m - (xs.length : Int)) = r ∧ r ≤ m ∧ (r < 0 ∨ (xs.length ≤ SM ∧ 0 ≤ r ∧ r ≤ (SM : Int))) := by
  have hl : maxLen = 9223372036854775807 := by decide
  unfold SM at *
  rw [W_of (by omega)]
  exact ⟨_, rfl, by omega, by omega⟩
theorem szr_bif {c : Option Int} {r m : Int} {A Q : Prop} (hr : r < 0 ∨ (A ∧ 0 ≤ r ∧ r ≤ (SM : Int))) (hle : r ≤ m) (hk : (0 ≤ r ∧ r ≤ (SM : Int)) → A → SzR c r Q) : SzR (bif decide (r < 0) then some (-1) else c) m Q := by
  rcases hr with hr | ⟨ha, hr⟩
  · exact ⟨-1, by simp [hr], .inl rfl⟩
  · obtain ⟨r', e, h4⟩ := hk hr ha
    have : ¬ r < 0 := by omega
    refine ⟨r', by simp [this, e], ?_⟩
    rcases h4 with h4 | ⟨h4, h5, h6⟩
    · exact .inl h4
    · exact .inr ⟨h4, by omega, h6⟩
theorem szr_last {r : Int} {Q : Prop} (hr : 0 ≤ r ∧ r ≤ (SM : Int)) (q : Q) : SzR (some r) r Q := ⟨r, rfl, .inr ⟨hr.1, Int.le_refl _, q⟩⟩
theorem szS_ok {α : Type} {sm : α → Prop} {xs : List α} (hx : xs.length ≤ maxLen) (h : ∀ x ∈ xs, sm x) : SzOk (fun (p0 : List α) p1 => bif decide (W (p1 - (p0.length : Int)) < 0) then some (-1) else some (W (p1 - (p0.length : Int)))) (smL sm) xs := by
  intro n hn
  exact szr_len hx hn fun r g1 q => szr_last g1 ⟨q, h⟩
/-- The law's own steps over an argument. -/
theorem law_sz {o : Option Int} {m : Int} {Q : Prop} {k : Int → Option Bool} (h : SzR o m Q) (hm : 0 ≤ m ∧ m ≤ (SM : Int)) (hk : ∀ r, (0 ≤ r ∧ r ≤ (SM : Int)) → Q → k r = some true) :
    (o.bind fun r => bif decide (r < 0) then some true else k r) = some true := by
  obtain ⟨r, rfl, h1⟩ := h
  rcases h1 with rfl | ⟨h1, h2, h3⟩
  · simp
  · have : ¬ r < 0 := by omega
    simp only [Option.bind_some, this, decide_false, cond_false]
    exact hk r ⟨h1, by omega⟩ h3
theorem law_len {α : Type} {xs : List α} {k : Option Bool} (hk : xs.length ≤ SM → k = some true) : (bif decide ((xs.length : Int) > 1048576) then some true else k) = some true := by
  by_cases h : (xs.length : Int) > 1048576
  · simp [h]
  · simp only [h, decide_false, cond_false]; exact hk (by unfold SM; omega)
/-- Two rows compared. -/
theorem eqL_eq {α : Type} {z : α} {f : α → α → Option Bool} {p : α → α → Bool} {xs ys : List α} (hl : xs.length ≤ maxLen) (h : ∀ x ∈ xs, ∀ y ∈ ys, f x y = some (p x y)) :
    eqL z f xs ys = some (xs.length == ys.length && (xs.zip ys).all fun q => p q.1 q.2) := by
  have hm : maxLen = 9223372036854775807 := by decide
  unfold eqL
  by_cases e : xs.length = ys.length
  · have e1 : ((xs.length : Int) != (ys.length : Int)) = false := by rw [e]; simp
    have e2 : (xs.length == ys.length) = true := by rw [e]; simp
    rw [e1, e2]
    simp only [cond_false, Bool.true_and]
    have hz : (xs.zip ys).length = xs.length := by simp [e]
    rw [run_all (xs.zip ys) (fun q => p q.1 q.2) (.inr false) (.inl ()) rfl ?_ ?_]
    · cases (xs.zip ys).all fun q => p q.1 q.2 <;> rfl
    · intro k hk
      have h1 : k < xs.length := by omega
      have h2 : k < ys.length := by omega
      have hk' : (k : Int) < xs.length := by omega
      have hw : W ((k : Int) + 1) = ((k + 1 : Nat) : Int) := by rw [W_of (by omega)]; omega
      simp only [hk', decide_true, cond_true, at_nat h1, at_nat h2, Option.bind_some, h xs[k] (List.getElem_mem _) ys[k] (List.getElem_mem _), hw, List.getElem_zip]
      cases p xs[k] ys[k] <;> simp
    · rw [hz]; simp
  · have e1 : ((xs.length : Int) != (ys.length : Int)) = true := by simp; omega
    have e2 : (xs.length == ys.length) = false := by simpa using e
    rw [e1, e2]; rfl
/-- slices.IndexFunc's loop. -/
noncomputable def idxF {α : Type} (z : α) (f : α → Option Bool) (p0 : List α) : Option Int :=
  ((loop (fun (x : Int) => ((bif (decide (x < (p0.length : Int))) then ((at' z p0 x).bind fun v => ((f v).bind fun r => (bif r then some (Sum.inr (Sum.inr x)) else some (Sum.inl (W (x + 1)))))) else some (Sum.inr (Sum.inl ()))) : Option (Int ⊕ (Unit ⊕ Int)))) 0).bind fun y => (Sum.elim (fun (y : Unit) => some (-1)) (fun (y : Int) => some y) y))
theorem idxF_ok {α : Type} {z : α} {f : α → Option Bool} {p : α → Bool} {xs : List α} (hl : xs.length ≤ maxLen) (h : ∀ x ∈ xs, f x = some (p x)) :
    ∃ i : Int, idxF z f xs = some i ∧ ((i = -1 ∧ xs.any p = false) ∨ ∃ (k : Nat) (hk : k < xs.length), i = (k : Int) ∧ p xs[k] = true ∧ (∀ j (hj : j < k), p xs[j] = false) ∧ xs.any p = true) := by
  have hm : maxLen = 9223372036854775807 := by decide
  unfold idxF
  refine run_ind (fun o => ∃ i : Int, o = some i ∧ ((i = -1 ∧ xs.any p = false) ∨ ∃ (k : Nat) (hk : k < xs.length), i = (k : Int) ∧ p xs[k] = true ∧ (∀ j (hj : j < k), p xs[j] = false) ∧ xs.any p = true))
    (fun s => ∃ k : Nat, s = (k : Int) ∧ k ≤ xs.length ∧ ∀ j (hj : j < xs.length), j < k → p xs[j] = false) (fun s => xs.length - s.toNat)
    (fun r => match r with
      | .inl _ => xs.any p = false
      | .inr i => ∃ (k : Nat) (hk : k < xs.length), i = (k : Int) ∧ p xs[k] = true ∧ (∀ j (hj : j < k), p xs[j] = false) ∧ xs.any p = true)
    ⟨0, rfl, Nat.zero_le _, fun j hj h => absurd h (Nat.not_lt_zero _)⟩ ?_ (fun r hr => by
      cases r with
      | inl u => exact ⟨-1, rfl, .inl ⟨rfl, hr⟩⟩
      | inr i => exact ⟨i, rfl, .inr hr⟩)
  rintro s ⟨k, hk, hkl, hp⟩
  subst hk
  by_cases hlt : k < xs.length
  · have hk' : (k : Int) < xs.length := by omega
    have hw : W ((k : Int) + 1) = ((k + 1 : Nat) : Int) := by rw [W_of (by omega)]; omega
    simp only [hk', decide_true, cond_true, at_nat hlt, Option.bind_some, h xs[k] (List.getElem_mem _), hw]
    cases hq : p xs[k] with
    | true =>
      right
      exact ⟨_, rfl, k, hlt, rfl, hq, fun j hj => hp j (by omega) hj, List.any_eq_true.2 ⟨_, List.getElem_mem hlt, hq⟩⟩
    | false =>
      left
      refine ⟨_, rfl, ⟨k + 1, rfl, by omega, fun j hj hjk => ?_⟩, by simp only [Int.toNat_natCast]; omega⟩
      by_cases e : j = k
      · subst e; exact hq
      · exact hp j hj (by omega)
  · have hk' : ¬ (k : Int) < xs.length := by omega
    right
    simp only [hk', decide_false, cond_false]
    refine ⟨_, rfl, ?_⟩
    simp only
    rw [List.any_eq_false]
    intro x hx
    obtain ⟨j, hj, rfl⟩ := List.getElem_of_mem hx
    simp [hp j hj (by omega)]
/-- slices.Contains and ContainsFunc. -/
theorem hasF_eq {α : Type} {z : α} {f : α → Option Bool} {p : α → Bool} {xs : List α} (hl : xs.length ≤ maxLen) (h : ∀ x ∈ xs, f x = some (p x)) :
    ((idxF z f xs).bind fun v => some (decide (v ≥ 0))) = some (xs.any p) := by
  obtain ⟨i, h1, ⟨rfl, h2⟩ | ⟨k, hk, rfl, _, _, h2⟩⟩ := idxF_ok hl h
  · rw [h1, h2]; rfl
  · rw [h1, h2]
    have : (k : Int) ≥ 0 := by omega
    simp [this]
/-- All of k, k + 1, .., m of them. -/
def allFrom : Nat → Nat → (Nat → Bool) → Bool
  | 0, _, _ => true
  | m + 1, k, q => q k && allFrom m (k + 1) q
theorem allFrom_iff {q : Nat → Bool} : ∀ (m k : Nat), allFrom m k q = true ↔ ∀ j, k ≤ j → j < k + m → q j = true
  | 0, k => by simp [allFrom]; intro j h1 h2; omega
  | m + 1, k => by
    simp only [allFrom, Bool.and_eq_true, allFrom_iff m (k + 1)]
    constructor
    · rintro ⟨h1, h2⟩ j h3 h4
      by_cases e : j = k
      · subst e; exact h1
      · exact h2 j (by omega) (by omega)
    · intro h
      exact ⟨h k (Nat.le_refl _) (by omega), fun j h1 h2 => h j (by omega) (by omega)⟩
theorem allFrom_congr {q q' : Nat → Bool} : ∀ (m k : Nat), (∀ j, k ≤ j → j < k + m → q j = q' j) → allFrom m k q = allFrom m k q'
  | 0, k, _ => rfl
  | m + 1, k, h => by
    simp only [allFrom]
    rw [h k (Nat.le_refl _) (by omega), allFrom_congr m (k + 1) fun j h1 h2 => h j (by omega) (by omega)]
theorem loop_allFrom {ρ : Type} {body : Int → Option (Int ⊕ ρ)} (q : Nat → Bool) (e y : ρ) : ∀ (m k : Nat), (∀ j, k ≤ j → j < k + m → body (j : Int) = some (bif q j then .inl ((j + 1 : Nat) : Int) else .inr e)) →
    body ((k + m : Nat) : Int) = some (.inr y) → loop body (k : Int) = some (bif allFrom m k q then y else e)
  | 0, k, _, he => by rw [loop_eq]; simp only [Nat.add_zero] at he; rw [he]; rfl
  | m + 1, k, hs, he => by
    rw [loop_eq, hs k (Nat.le_refl _) (by omega)]
    simp only [allFrom]
    cases q k with
    | true =>
      simp only [cond_true, Bool.true_and]
      exact loop_allFrom q e y m (k + 1) (fun j h1 h2 => hs j (by omega) (by omega)) (by rw [show k + 1 + m = k + (m + 1) by omega]; exact he)
    | false => rfl
/-- A loop that asks each index from 0 on, in front of what stands behind it. -/
theorem run_allN {ρ γ : Type} {body : Int → Option (Int ⊕ ρ)} {f : ρ → Option γ} (n : Nat) (q : Nat → Bool) (e y : ρ) (hs : ∀ k, k < n → body (k : Int) = some (bif q k then .inl ((k + 1 : Nat) : Int) else .inr e))
    (he : body (n : Int) = some (.inr y)) : (loop body 0).bind f = f (bif allFrom n 0 q then y else e) := by
  have := loop_allFrom q e y n 0 (fun j _ h => hs j (by omega)) (by simpa using he)
  rw [show ((0 : Nat) : Int) = 0 from rfl] at this
  rw [this]; rfl
theorem at_getD {α : Type} {z : α} {xs : List α} {k : Nat} (h : k < xs.length) : at' z xs (k : Int) = some (xs.getD k z) := by
  rw [at_nat h]; simp [List.getD, h]
theorem W_up {k n : Nat} (h : k < n) (hn : n ≤ maxLen) : W ((k : Int) + 1) = ((k + 1 : Nat) : Int) := by
  have hm : maxLen = 9223372036854775807 := by decide
  rw [W_of (by omega)]; omega
theorem lt_cast {k n : Nat} (h : k < n) : decide ((k : Int) < (n : Int)) = true := by simp; omega
theorem nlt_self (n : Nat) : decide ((n : Int) < (n : Int)) = false := by simp
/-- A Bool's test in front of the next round. -/
theorem bif_not {α : Type} (b : Bool) (x y : α) : (bif !b then x else y) = bif b then y else x := by cases b <;> rfl
theorem bif_and {α : Type} (a b : Bool) (x y : α) : (bif a then (bif b then x else y) else y) = bif a && b then x else y := by cases a <;> rfl
theorem bif_some {α : Type} (b : Bool) (x y : α) : (bif b then some x else some y) = some (bif b then x else y) := by cases b <;> rfl
theorem bif_id (b : Bool) : (bif b then true else false) = b := by cases b <;> rfl
theorem bif_f (b c : Bool) : (bif b then c else false) = (b && c) := by cases b <;> rfl
/-- A loop that asks each index, beside a state that the index tells. -/
theorem loop_allSt {σ ρ : Type} {body : σ → Option (σ ⊕ ρ)} (n : Nat) (q : Nat → Bool) (st : Nat → σ) (e y : ρ) : ∀ (m k : Nat), k + m = n → (∀ j, k ≤ j → j < n → body (st j) = some (bif q j then .inl (st (j + 1)) else .inr e)) →
    body (st n) = some (.inr y) → loop body (st k) = some (bif allFrom m k q then y else e)
  | 0, k, hk, _, he => by
    have : k = n := by omega
    subst this
    rw [loop_eq, he]; rfl
  | m + 1, k, hk, hs, he => by
    rw [loop_eq, hs k (Nat.le_refl _) (by omega)]
    simp only [allFrom]
    cases q k with
    | true =>
      simp only [cond_true, Bool.true_and]
      exact loop_allSt n q st e y m (k + 1) (by omega) (fun j h1 h2 => hs j (by omega) h2) he
    | false => rfl
theorem run_allSt {σ ρ γ : Type} {body : σ → Option (σ ⊕ ρ)} {f : ρ → Option γ} {s : σ} (n : Nat) (q : Nat → Bool) (st : Nat → σ) (e y : ρ) (h0 : s = st 0) (hs : ∀ k, k < n → body (st k) = some (bif q k then .inl (st (k + 1)) else .inr e))
    (he : body (st n) = some (.inr y)) : (loop body s).bind f = f (bif allFrom n 0 q then y else e) := by
  rw [h0, loop_allSt n q st e y n 0 (by omega) (fun j _ h => hs j h) he]; rfl

/-- The indices below n that are so. -/
def idxs (p : Nat → Bool) (n : Nat) : List Int := ((List.range n).filter p).map fun k : Nat => (k : Int)
theorem idxs_zero (p : Nat → Bool) : idxs p 0 = [] := rfl
theorem idxs_succ (p : Nat → Bool) (n : Nat) : idxs p (n + 1) = bif p n then idxs p n ++ [(n : Int)] else idxs p n := by
  unfold idxs
  rw [List.range_succ, List.filter_append, List.map_append]
  cases h : p n <;> simp [h]
theorem idxs_len (p : Nat → Bool) : ∀ n, (idxs p n).length ≤ n
  | 0 => Nat.le_refl _
  | n + 1 => by
    rw [idxs_succ]
    have := idxs_len p n
    cases p n <;> simp <;> omega
theorem idxs_congr {p q : Nat → Bool} : ∀ n, (∀ k, k < n → p k = q k) → idxs p n = idxs q n
  | 0, _ => rfl
  | n + 1, h => by rw [idxs_succ, idxs_succ, h n (by omega), idxs_congr n fun k hk => h k (by omega)]
theorem idxs_mem {p : Nat → Bool} {n : Nat} {x : Int} : x ∈ idxs p n ↔ ∃ k : Nat, k < n ∧ p k = true ∧ x = (k : Int) := by
  unfold idxs
  simp only [List.mem_map, List.mem_filter, List.mem_range]
  constructor
  · rintro ⟨k, ⟨h1, h2⟩, rfl⟩; exact ⟨k, h1, h2, rfl⟩
  · rintro ⟨k, h1, h2, rfl⟩; exact ⟨k, ⟨h1, h2⟩, rfl⟩
theorem idxs_mono {p : Nat → Bool} {n m : Nat} (h : n ≤ m) : (idxs p n).length ≤ (idxs p m).length := by
  induction h with
  | refl => exact Nat.le_refl _
  | step h ih =>
    rw [idxs_succ]
    cases p _ <;> simp <;> omega
theorem idxs_nil {p : Nat → Bool} {n : Nat} : (idxs p n).length = 0 ↔ ∀ k, k < n → p k = false := by
  rw [List.length_eq_zero_iff]
  constructor
  · intro h k hk
    cases hp : p k with
    | false => rfl
    | true =>
      have : (k : Int) ∈ idxs p n := idxs_mem.2 ⟨k, hk, hp, rfl⟩
      rw [h] at this; cases this
  · intro h
    cases e : idxs p n with
    | nil => rfl
    | cons x r =>
      have : x ∈ idxs p n := by rw [e]; simp
      obtain ⟨k, h1, h2, _⟩ := idxs_mem.1 this
      rw [h k h1] at h2; cases h2
/-- A loop that collects the indices that are so. -/
theorem loop_idxs {σ ρ : Type} {body : σ → Option (σ ⊕ ρ)} (n : Nat) (p : Nat → Bool) (st : Nat → List Int → σ) (fin : List Int → ρ) : ∀ (m k : Nat), k + m = n →
    (∀ j a, k ≤ j → j < n → a.length ≤ j → body (st j a) = some (.inl (st (j + 1) (bif p j then a ++ [(j : Int)] else a)))) → (∀ a, body (st n a) = some (.inr (fin a))) → loop body (st k (idxs p k)) = some (fin (idxs p n))
  | 0, k, hk, _, he => by
    have : k = n := by omega
    subst this
    rw [loop_eq, he]
  | m + 1, k, hk, hs, he => by
    rw [loop_eq, hs k _ (Nat.le_refl _) (by omega) (idxs_len p k), ← idxs_succ]
    exact loop_idxs n p st fin m (k + 1) (by omega) (fun j a h1 h2 h3 => hs j a (by omega) h2 h3) he
theorem run_idxs {σ ρ γ : Type} {body : σ → Option (σ ⊕ ρ)} {f : ρ → Option γ} {s : σ} (n : Nat) (p : Nat → Bool) (st : Nat → List Int → σ) (fin : List Int → ρ) (h0 : s = st 0 [])
    (hs : ∀ j a, j < n → a.length ≤ j → body (st j a) = some (.inl (st (j + 1) (bif p j then a ++ [(j : Int)] else a)))) (he : ∀ a, body (st n a) = some (.inr (fin a))) : (loop body s).bind f = f (fin (idxs p n)) := by
  have := loop_idxs n p st fin n 0 (by omega) (fun j a _ h2 h3 => hs j a h2 h3) he
  rw [idxs_zero] at this
  rw [h0, this]; rfl
def allDown : Nat → (Nat → Bool) → Bool
  | 0, _ => true
  | m + 1, q => q (m + 1) && allDown m q
theorem allDown_iff {q : Nat → Bool} : ∀ m, allDown m q = true ↔ ∀ j, 0 < j → j ≤ m → q j = true
  | 0 => by simp [allDown]; intro j h1 h2; omega
  | m + 1 => by
    simp only [allDown, Bool.and_eq_true, allDown_iff m]
    constructor
    · rintro ⟨h1, h2⟩ j h3 h4
      by_cases e : j = m + 1
      · subst e; exact h1
      · exact h2 j h3 (by omega)
    · intro h; exact ⟨h _ (by omega) (Nat.le_refl _), fun j h1 h2 => h j h1 (by omega)⟩
theorem loop_down {ρ : Type} {body : Int → Option (Int ⊕ ρ)} (q : Nat → Bool) (e y : ρ) : ∀ m : Nat, (∀ j, 0 < j → j ≤ m → body (j : Int) = some (bif q j then .inl ((j - 1 : Nat) : Int) else .inr e)) → body 0 = some (.inr y) →
    loop body (m : Int) = some (bif allDown m q then y else e)
  | 0, _, he => by rw [loop_eq, show ((0 : Nat) : Int) = 0 from rfl, he]; rfl
  | m + 1, hs, he => by
    rw [loop_eq, hs (m + 1) (by omega) (Nat.le_refl _)]
    simp only [allDown]
    cases q (m + 1) with
    | true => exact loop_down q e y m (fun j h1 h2 => hs j h1 (by omega)) he
    | false => rfl
/-- A loop that collects the elements that are so. -/
theorem run_filter {α σ ρ γ : Type} {body : σ → Option (σ ⊕ ρ)} {f : ρ → Option γ} {s : σ} (xs : List α) (p : α → Bool) (st : Nat → List α → σ) (fin : List α → ρ) (h0 : s = st 0 [])
    (hs : ∀ j a (hj : j < xs.length), a.length ≤ j → body (st j a) = some (.inl (st (j + 1) (bif p xs[j] then a ++ [xs[j]] else a)))) (he : ∀ a, body (st xs.length a) = some (.inr (fin a))) : (loop body s).bind f = f (fin (xs.filter p)) := by
  have key : ∀ (m k : Nat), k + m = xs.length → loop body (st k ((xs.take k).filter p)) = some (fin (xs.filter p)) := by
    intro m
    induction m with
    | zero =>
      intro k hk
      have : k = xs.length := by omega
      subst this
      rw [loop_eq, he, List.take_length]
    | succ m ih =>
      intro k hk
      have hlt : k < xs.length := by omega
      have hl : ((xs.take k).filter p).length ≤ k := Nat.le_trans (List.length_filter_le _ _) (by simp; omega)
      rw [loop_eq, hs k _ hlt hl]
      have : (bif p xs[k] then (xs.take k).filter p ++ [xs[k]] else (xs.take k).filter p) = (xs.take (k + 1)).filter p := by
        rw [List.take_succ_eq_append_getElem hlt, List.filter_append]
        cases h : p xs[k] <;> simp [h]
      rw [this]
      exact ih (k + 1) (by omega)
  have := key xs.length 0 (by omega)
  rw [List.take_zero, List.filter_nil] at this
  rw [h0, this]; rfl
theorem idxs_filter (p q : Nat → Bool) : ∀ n, (idxs p n).filter (fun x => q x.toNat) = idxs (fun k => p k && q k) n
  | 0 => rfl
  | n + 1 => by
    rw [idxs_succ, idxs_succ, ← idxs_filter p q n]
    cases h1 : p n <;> cases h2 : q n <;> simp [h2]
theorem allFrom_and {q r : Nat → Bool} : ∀ (m k : Nat), allFrom m k (fun j => q j && r j) = (allFrom m k q && allFrom m k r)
  | 0, _ => rfl
  | m + 1, k => by
    simp only [allFrom, allFrom_and m (k + 1)]
    cases q k <;> cases r k <;> cases allFrom m (k + 1) q <;> rfl

/-- A loop of n rounds, its states told by the round's number. -/
theorem run_st {σ ρ γ : Type} {body : σ → Option (σ ⊕ ρ)} {f : ρ → Option γ} {s : σ} (n : Nat) (st : Nat → σ) (y : ρ) (h0 : s = st 0) (hs : ∀ k, k < n → body (st k) = some (.inl (st (k + 1)))) (he : body (st n) = some (.inr y)) : (loop body s).bind f = f y := by
  rw [run_allSt n (fun _ => true) st y y h0 (fun k hk => by rw [hs k hk]; rfl) he]
  cases allFrom n 0 fun _ => true <;> rfl
end Go.Proofs.YtfmeidhialmckaaGreatDoor.Ab

namespace Go.Proofs.YtfmeidhialmckaaGreatDoor.Ab
open Go Go.RowKit Go.WideElems

/-! ### a listed variable: an array of pairs of numbers -/
def pairD {H : Type} (q : Int × Int) : DataW H := .agg [.lit (.int .i64 q.1), .lit (.int .i64 q.2)]

section
variable {H : Type} {P : Program} {en : TypeId × Value → H} {W : World} {sp : Nat → Bool} {held : Bool}

theorem trod_pair {fuel : Nat} {t : TypeId} {fs : Array Field} {cs : List Value} {q : Int × Int} {p : List MemPlace} {ti : TypeId} {f0 f1 : Field} (ht : P.underlying t = some (.struct fs)) (hfs : fs.toList = [f0, f1])
    (h0 : f0.type = ti ∧ f0.offset = 0) (h1 : f1.type = ti ∧ f1.offset = 1) (hi : P.underlying ti = some (.int .i64)) (hc : P.cellsOf ti = 1) (hct : P.cellsOf t = 2)
    (h : DataW.trod en P W 0 sp held fuel t cs = some (pairD q, p)) : cs = [.int .i64 q.1, .int .i64 q.2] := by
  obtain ⟨xs, n, rfl, hx, hlen, hxl, hel⟩ := DataW.trod_struct ht h
  have e0 : fs[0]? = some f0 := by rw [← Array.getElem?_toList, hfs]; rfl
  have e1 : fs[1]? = some f1 := by rw [← Array.getElem?_toList, hfs]; rfl
  have hsz : fs.size = 2 := by have := congrArg List.length hfs; simpa using this
  have g0 := hel 0 f0 e0
  have g1 := hel 1 f1 e1
  rw [h0.1, h0.2, hc] at g0
  rw [h1.1, h1.2, hc] at g1
  have hx1 : pairD q = DataW.agg (xs.map (·.1)) := congrArg Prod.fst hx
  unfold pairD at hx1
  rw [hsz] at hxl
  match xs, hxl with
  | [x0, x1], _ =>
    simp only [List.map_cons, List.map_nil, DataW.agg.injEq, List.cons.injEq, and_true] at hx1
    obtain ⟨k0, a1, a2, _⟩ := DataW.trod_int hi (show DataW.trod _ P W 0 _ held n ti _ = some x0 from g0)
    obtain ⟨k1, b1, b2, _⟩ := DataW.trod_int hi (show DataW.trod _ P W 0 _ held n ti _ = some x1 from g1)
    rw [a2, b2] at hx1
    simp only [DataW.lit.injEq, Lit.int.injEq, true_and] at hx1
    rw [hct] at hlen
    match cs, hlen with
    | [c0, c1], _ =>
      simp at a1 b1
      rw [a1, b1, hx1.1, hx1.2]

theorem trod_pairs {fuel : Nat} {t e : TypeId} {m : Nat} {cs : List Value} {qs : List (Int × Int)} {p : List MemPlace} (ht : P.underlying t = some (.array m e)) (hce : P.cellsOf e = 2) (hct : P.cellsOf t = m * 2)
    (he : ∀ fuel cs q p, DataW.trod en P W 0 sp held fuel e cs = some (pairD q, p) → cs = [.int .i64 q.1, .int .i64 q.2])
    (h : DataW.trod en P W 0 sp held fuel t cs = some (.agg (qs.map pairD), p)) : cs = (qs.flatMap fun q => [q.1, q.2]).map (Value.int .i64) := by
  obtain ⟨xs, n, rfl, hx, hlen, hxl, hel⟩ := DataW.trod_array ht h
  have hx1 : DataW.agg (qs.map pairD) = DataW.agg (xs.map (·.1)) := congrArg Prod.fst hx
  simp only [DataW.agg.injEq] at hx1
  have hql : qs.length = m := by have := congrArg List.length hx1; simp at this; omega
  rw [hct] at hlen
  have key : ∀ (qs : List (Int × Int)) (k : Nat) (cs : List Value), cs.length = qs.length * 2 → (∀ i, i < qs.length → ∃ q, qs[i]? = some q ∧ (cs.drop (i * 2)).take 2 = [.int .i64 q.1, .int .i64 q.2]) → cs = (qs.flatMap fun q => [q.1, q.2]).map (Value.int .i64) := by
    intro qs
    induction qs with
    | nil => intro k cs hl _; simp at hl; simp [hl]
    | cons q r ih =>
      intro k cs hl h
      obtain ⟨q', h1, h2⟩ := h 0 (by simp)
      simp at h1; subst h1
      simp only [List.length_cons] at hl
      match cs, hl with
      | [], hl => simp at hl
      | [c0], hl => simp at hl; omega
      | c0 :: c1 :: cs, hl =>
        simp at h2
        have := ih k cs (by simp at hl; omega) fun i hi => by
          obtain ⟨q', h3, h4⟩ := h (i + 1) (by simp; omega)
          refine ⟨q', by simpa using h3, ?_⟩
          have e : (i + 1) * 2 = i * 2 + 2 := by omega
          rw [e] at h4
          simpa using h4
        simp only [List.flatMap_cons, List.map_append, List.map_cons, List.map_nil, List.cons_append, List.nil_append, h2.1, h2.2]
        rw [← this]
  refine key qs 0 cs (by omega) fun i hi => ?_
  have h1 := hel i (by omega)
  rw [hce] at h1
  have hix : i < xs.length := by omega
  rw [List.getElem?_eq_getElem hix] at h1
  have hfst : xs[i].1 = pairD qs[i] := by
    have h2 : (qs.map pairD)[i]? = (xs.map (·.1))[i]? := congrArg (·[i]?) hx1
    simp [hi, hix] at h2
    exact h2.symm
  refine ⟨qs[i], List.getElem?_eq_getElem hi, he n _ qs[i] xs[i].2 ?_⟩
  rw [h1, ← hfst]

theorem dr_ints {W : World} {g : Nat} {L : List Int} (hlt : g < W.heap.size) (hc : ∀ j n, L[j]? = some n → W.cell? ⟨g, j, none⟩ = some (.int .i64 n)) :
    DR (Old W) W (.pd (L.map (AC.int .i64)) 0) (.pointer (some ⟨g, 0, none⟩)) := by
  refine .pd _ 0 _ (fun j => match L[j]? with | some n => .int .i64 n | none => .nilIface) (fun j c hj => ?_) (fun j c hj => ?_)
  · simp only [Nat.zero_add, List.getElem?_map, Option.map_eq_some_iff] at hj
    obtain ⟨n, h1, rfl⟩ := hj
    refine ⟨hlt, ?_⟩
    have : (⟨g, 0, none⟩ : Addr).add j = ⟨g, j, none⟩ := by cases j <;> simp [Addr.add]
    rw [this, h1]; exact hc j n h1
  · simp only [Nat.zero_add, List.getElem?_map, Option.map_eq_some_iff] at hj
    obtain ⟨n, h1, rfl⟩ := hj
    rw [h1]; exact .int _ _
end

/-- A listed variable that reads as pairs of numbers, in the world of a call. -/
theorem laid_pairs {P : Program} {W : World} {nm : String} {g : Nat} {t e ti : TypeId} {m : Nat} {fs : Array Field} {f0 f1 : Field} {qs : List (Int × Int)} {l : List (String × DataW Unit)} (hL : laidMet P l W) (hl : l = [(nm, .agg (qs.map pairD))])
    (hg : P.globalNamed nm = some g) (ht : (P.globals[g]?).map (·.type) = some t) (hu : P.underlying t = some (.array m e)) (hct : P.cellsOf t = m * 2) (hce : P.cellsOf e = 2) (hue : P.underlying e = some (.struct fs)) (hfs : fs.toList = [f0, f1])
    (h0 : f0.type = ti ∧ f0.offset = 0) (h1 : f1.type = ti ∧ f1.offset = 1) (hi : P.underlying ti = some (.int .i64)) (hc : P.cellsOf ti = 1) :
    DR (Old W) W (.pd ((qs.flatMap fun q => [q.1, q.2]).map (AC.int .i64)) 0) (.pointer (some ⟨g, 0, none⟩)) := by
  subst hl
  obtain ⟨ps, ⟨g', t', cs, fuel, p, q, hg', ht', hv, hd, _, _⟩, _, _⟩ := hL
  obtain rfl := Option.some.inj (hg.symm.trans hg')
  obtain rfl := Option.some.inj (ht.symm.trans ht')
  have hcs := trod_pairs hu hce hct (fun fuel cs q p h => trod_pair hue hfs h0 h1 hi hc hce h) hd
  have hlt : g < W.heap.size := by
    unfold World.var? at hv
    rw [hg] at hv
    simp only [Option.bind_some] at hv
    cases hh : W.heap[g]? with
    | none => rw [hh] at hv; cases hv
    | some o => exact (Array.getElem?_eq_some_iff.1 hh).1
  refine dr_ints hlt fun j n hj => ?_
  rw [World.var?_cell hg hv j, ← Array.getElem?_toList, hcs, List.getElem?_map, hj]
  rfl
end Go.Proofs.YtfmeidhialmckaaGreatDoor.Ab
