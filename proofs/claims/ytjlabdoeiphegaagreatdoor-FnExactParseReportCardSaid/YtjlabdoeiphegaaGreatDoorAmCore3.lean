/- A walk: loops, contracts, data; no condition. -/
import Derived.Test.YtjlabdoeiphegaaGreatDoorAmCore4
import Derived.Carry
import Derived.RowKit
import Derived.Calls
import Derived.OpenVars
import Derived.OpenShut
import Derived.LaidMore
import Derived.LaidOnce
import Derived.LaidLaws
set_option linter.unusedVariables false
set_option linter.unusedSimpArgs false
namespace Go.Proofs.YtjlabdoeiphegaaGreatDoor.Ab
open Go Go.RowKit
def AC.ren0 (k k' : Nat) : AC → AC
 | .own j wd off len => .own (bif Nat.beq j k then k' else j) wd off len
 | .pk j i => .pk (bif Nat.beq j k then k' else j) i
 | .pa j wd i off => .pa (bif Nat.beq j k then k' else j) wd i off
 | c => c
def AC.ren (k k' : Nat) : AC → AC
 | .clo f cap => .clo f (cap.map (AC.ren0 k k'))
 | c => c.ren0 k k'
def AV.ren (k k' : Nat) : AV → AV
 | .c x => .c (x.ren k k')
 | .agg xs => .agg (xs.map (AC.ren k k'))
 | .tup xs => .tup (xs.map fun p => (p.1, p.2.map (AC.ren k k')))
def Blk.ren (k k' : Nat) : Blk → Blk
 | .var cs z => .var (cs.map (AC.ren k k')) z
 | .arr wd n f z => .arr wd n f z
def St.ren (s : St) (k k' : Nat) : St where
 e t := match s.e t with | some v => some (v.ren k k') | none => none
 h j := bif Nat.beq j k' then (match s.h k with | some b => some (b.ren k k') | none => none) else bif Nat.beq j k then none else (match s.h j with | some b => some (b.ren k k') | none => none)
 u := k' :: s.u
def St.setE (s : St) (t : Nat) (v : AV) : St := { s with e := fun j => bif Nat.beq j t then some v else s.e j }
section
variable {P : Program} {gl : Nat → Option (List AC)} {N : Nat} {w0 : Wk} {Pr : PrT} {φ : Nat → Option (Option Nat)} {s : St} {a : Act} {w : World}
def rk (k k' j : Nat) : Nat := bif Nat.beq j k then k' else j
theorem ren0_keys {k k' : Nat} {c : AC} {j : Nat} (h : j ∈ (c.ren0 k k').keys0) : ∃ i ∈ c.keys0, j = rk k k' i := by
 cases c <;> first | (simp [AC.ren0, AC.keys0] at h; done) | (simp only [AC.ren0, AC.keys0, List.mem_cons, List.not_mem_nil, or_false] at h; exact ⟨_, by simp [AC.keys0], h⟩)
theorem ren_keys {k k' : Nat} {c : AC} {j : Nat} (h : j ∈ (c.ren k k').keys) : ∃ i ∈ c.keys, j = rk k k' i := by
 cases c with
 | clo f cap =>
  obtain ⟨c, hc, hj⟩ := List.mem_flatMap.1 h
  obtain ⟨c', hc', rfl⟩ := List.mem_map.1 hc
  obtain ⟨i, h1, h2⟩ := ren0_keys hj
  exact ⟨i, List.mem_flatMap.2 ⟨c', hc', h1⟩, h2⟩
 | own k0 wd off len => exact ren0_keys (c := .own k0 wd off len) h
 | pk k0 i0 => exact ren0_keys (c := .pk k0 i0) h
 | pa k0 wd i0 off => exact ren0_keys (c := .pa k0 wd i0 off) h
 | int k0 n0 => exact ren0_keys (c := .int k0 n0) h
 | old c0 => exact ren0_keys (c := .old c0) h
 | fr c0 => exact ren0_keys (c := .fr c0) h
 | lv c0 => exact ren0_keys (c := .lv c0) h
 | ns c0 => exact ren0_keys (c := .ns c0) h
 | lp cs0 i0 => exact ren0_keys (c := .lp cs0 i0) h
 | bool b0 => exact ren0_keys (c := .bool b0) h
 | str s0 => exact ren0_keys (c := .str s0) h
 | nil  => exact ren0_keys (c := .nil ) h
 | raw v0 => exact ren0_keys (c := .raw v0) h
 | sl wd n0 f0 => exact ren0_keys (c := .sl wd n0 f0) h
 | pd cs i0 => exact ren0_keys (c := .pd cs i0) h
theorem renL_keys {k k' : Nat} {cs : List AC} {j : Nat} (h : j ∈ (cs.map (AC.ren k k')).flatMap AC.keys) : ∃ i ∈ cs.flatMap AC.keys, j = rk k k' i := by
 obtain ⟨c, hc, hj⟩ := List.mem_flatMap.1 h
 obtain ⟨c', hc', rfl⟩ := List.mem_map.1 hc
 obtain ⟨i, h1, h2⟩ := ren_keys hj
 exact ⟨i, List.mem_flatMap.2 ⟨c', hc', h1⟩, h2⟩
theorem renV_keys {k k' : Nat} {v : AV} {j : Nat} (h : j ∈ (v.ren k k').keys) : ∃ i ∈ v.keys, j = rk k k' i := by
 cases v with
 | c x => exact ren_keys h
 | agg xs => exact renL_keys h
 | tup xs =>
  obtain ⟨p, hp, hj⟩ := List.mem_flatMap.1 h
  obtain ⟨p', hp', rfl⟩ := List.mem_map.1 hp
  obtain ⟨i, h1, h2⟩ := renL_keys hj
  exact ⟨i, List.mem_flatMap.2 ⟨p', hp', h1⟩, h2⟩
theorem rk_u {k k' j : Nat} {u : List Nat} (h : j ∈ u) : rk k k' j ∈ k' :: u := by
 unfold rk
 cases Nat.beq j k <;> simp [h]
def φren (φ : Nat → Option (Option Nat)) (k k' : Nat) : Nat → Option (Option Nat) := fun j => if j = k' then φ k else if j = k then none else φ j
theorem φren_rk {k k' j : Nat} (hj : j ≠ k') {p : Option Nat} (h : φren φ k k' (rk k k' j) = some p) : φ j = some p := by
 unfold rk at h
 by_cases e : j = k
 ·subst e; simp [nbt, φren] at h; exact h
 ·simp only [nbf e, cond_false] at h; simpa [φren, hj, e] using h
theorem KR0.ren {k k' : Nat} {c : AC} {v : Value} (h : KR0 Pr φ w c v) (hk : ∀ j ∈ c.keys0, j ≠ k') : KR0 Pr (φren φ k k') w (c.ren0 k k') v := by
 cases c with
 | own j wd off len => exact ⟨h.1, fun p hp => h.2 p (φren_rk (hk j (by simp [AC.keys0])) hp)⟩
 | pk j i => exact ⟨h.1, fun p hp => h.2 p (φren_rk (hk j (by simp [AC.keys0])) hp)⟩
 | pa j wd i off => exact ⟨h.1, fun p hp => h.2 p (φren_rk (hk j (by simp [AC.keys0])) hp)⟩
 | _ => exact h
theorem KR.ren {k k' : Nat} {c : AC} {v : Value} (h : KR Pr φ w c v) (hk : ∀ j ∈ c.keys, j ≠ k') : KR Pr (φren φ k k') w (c.ren k k') v := by
 cases c with
 | clo f cap =>
  obtain ⟨g, h1, h2⟩ := h
  refine ⟨g, by simpa using h1, fun j c hj => ?_⟩
  rw [List.getElem?_map, Option.map_eq_some_iff] at hj
  obtain ⟨c', hc', rfl⟩ := hj
  exact (h2 j c' hc').ren fun i hi => hk i (List.mem_flatMap.2 ⟨c', List.mem_of_getElem? hc', hi⟩)
 | own j wd off len => exact KR0.ren (Pr := Pr) (φ := φ) (w := w) (c := .own j wd off len) h hk
 | pk j i => exact KR0.ren (Pr := Pr) (φ := φ) (w := w) (c := .pk j i) h hk
 | pa j wd i off => exact KR0.ren (Pr := Pr) (φ := φ) (w := w) (c := .pa j wd i off) h hk
 | int => exact h
 | old => exact h
 | fr => exact h
 | lv => exact h
 | lp => exact h
 | ns => exact h
 | bool => exact h
 | str => exact h
 | nil => exact h
 | raw => exact h
 | sl => exact h
 | pd => exact h
theorem cellsR.ren {k k' : Nat} {cs : List AC} {vs : List Value} (h : cellsR (KR Pr φ w) cs vs) (hk : ∀ j ∈ cs.flatMap AC.keys, j ≠ k') : cellsR (KR Pr (φren φ k k') w) (cs.map (AC.ren k k')) vs := by
 refine ⟨by simp [h.1], fun i c v hc hv => ?_⟩
 rw [List.getElem?_map, Option.map_eq_some_iff] at hc
 obtain ⟨c', hc', rfl⟩ := hc
 exact (h.2 i c' v hc' hv).ren fun j hj => hk j (List.mem_flatMap.2 ⟨c', List.mem_of_getElem? hc', hj⟩)
theorem VP.ren {k k' : Nat} {p : Bool × List AC} {v : Value} (h : VP (KR Pr φ w) p v) (hk : ∀ j ∈ p.2.flatMap AC.keys, j ≠ k') : VP (KR Pr (φren φ k k') w) (p.1, p.2.map (AC.ren k k')) v := by
 obtain ⟨b, xs⟩ := p
 cases b with
 | false =>
  match xs, h, hk with
  | [x], h, hk => exact KR.ren h fun j hj => hk j (by simpa using hj)
 | true => obtain ⟨vs, h1, h2⟩ := h; exact ⟨vs, h1, h2.ren hk⟩
theorem VR.ren {k k' : Nat} {x : AV} {v : Value} (h : VR (KR Pr φ w) x v) (hk : ∀ j ∈ x.keys, j ≠ k') : VR (KR Pr (φren φ k k') w) (x.ren k k') v := by
 cases x with
 | c x => exact KR.ren h hk
 | agg xs => obtain ⟨vs, h1, h2⟩ := h; exact ⟨vs, h1, h2.ren hk⟩
 | tup xs =>
  obtain ⟨g, h1, h2⟩ := h
  refine ⟨g, by simpa using h1, fun i p hp => ?_⟩
  rw [List.getElem?_map, Option.map_eq_some_iff] at hp
  obtain ⟨p', hp', rfl⟩ := hp
  exact (h2 i p' hp').ren fun j hj => hk j (List.mem_flatMap.2 ⟨p', List.mem_of_getElem? hp', hj⟩)
theorem BR.ren {k k' : Nat} {p : Option Nat} {b : Blk} (h : BR Pr φ w p b) (hk : ∀ j ∈ b.keys, j ≠ k') : BR Pr (φren φ k k') w p (b.ren k k') := by
 cases b with
 | var cs z => obtain ⟨c, arr, T, h3, h4, h5⟩ := h; exact ⟨c, arr, T, h3, h4, h5.ren hk⟩
 | arr wd n f z => exact h
theorem Blk.ren_fz {k k' : Nat} {b : Blk} : (b.ren k k').fz = b.fz := by cases b <;> rfl
theorem Blk.ren_keys {k k' : Nat} {b : Blk} {j : Nat} (h : j ∈ (b.ren k k').keys) : ∃ i ∈ b.keys, j = rk k k' i := by
 cases b with
 | var cs z => exact renL_keys h
 | arr wd n f z => cases h
theorem kfree {u : List Nat} {k : Nat} (h : (u.elem k || Nat.ble 1000000 k) = false) : u.elem k = false ∧ k < 1000000 := by
 rw [Bool.or_eq_false_iff] at h
 refine ⟨h.1, ?_⟩
 rcases Nat.lt_or_ge k 1000000 with h1 | h1
 ·exact h1
 ·rw [Nat.ble_eq_true_of_le h1] at h; cases h.2
theorem Sim.ren (h : Sim gl N w0 Pr φ s a w) {k k' : Nat} (hk' : s.u.elem k' = false) (hkN : k' < 1000000) : Sim gl N w0 Pr (φren φ k k') (s.ren k k') a w := by
 have hn := not_mem_of_elem hk'
 have hnk : s.h k' = none := by
  cases hh : s.h k' with
  | none => rfl
  | some b => exact absurd (h.ku k' (by rw [hh]; simp)) hn
 have hh : ∀ j b, (s.ren k k').h j = some b → ∃ i b', s.h i = some b' ∧ b = b'.ren k k' ∧ j = rk k k' i ∧ φren φ k k' j = φ i := fun j b hj => by
  simp only [St.ren] at hj
  by_cases e : j = k'
  ·subst e
   simp only [nbt, cond_true] at hj
   split at hj
   ·rename_i b' hb'
    simp only [Option.some.injEq] at hj
    exact ⟨k, b', hb', hj.symm, by simp [rk, nbt], by simp [φren]⟩
   ·cases hj
  ·simp only [nbf e, cond_false] at hj
   by_cases e' : j = k
   ·subst e'; simp [nbt] at hj
   ·simp only [nbf e', cond_false] at hj
    split at hj
    ·rename_i b' hb'
     simp only [Option.some.injEq] at hj
     exact ⟨j, b', hb', hj.symm, by simp [rk, nbf e'], by simp [φren, e, e']⟩
    ·cases hj
 have hkb : ∀ i b, s.h i = some b → ∀ j ∈ b.keys, j ≠ k' := fun i b hi j hj e => hn (e ▸ h.kh i b hi j hj)
 refine ⟨h.sz, fun t v ht => ?_, fun j b hj => ?_, fun j hj => ?_, fun j j' b hj hj' => ?_, fun j c b hj hc => ?_, fun j hj => ?_, fun t v ht j hj => ?_, fun j b hj q hq => ?_, h.pr, h.gk, h.df, h.bl, ?_, h.ex.phi fun j b hj => by simp only [φren] at hj; (repeat' split at hj) <;> first | (cases hj; done) | exact ⟨_, hj⟩⟩
 ·simp only [St.ren] at ht
  split at ht
  ·rename_i v' hv'
   simp only [Option.some.injEq] at ht
   subst ht
   obtain ⟨x, h1, h2⟩ := h.tm t v' hv'
   exact ⟨x, h1, h2.ren fun j hj e => hn (e ▸ h.ke t v' hv' j hj)⟩
  ·cases ht
 ·obtain ⟨i, b', h1, rfl, _, h4⟩ := hh j b hj
  obtain ⟨p, h5, h6⟩ := h.hp i b' h1
  exact ⟨p, h4.trans h5, h6.ren (hkb i b' h1)⟩
 ·simp only [St.ren] at hj
  unfold φren
  by_cases e : j = k'
  ·subst e
   simp only [nbt, cond_true] at hj
   rw [if_pos rfl]
   split at hj
   ·cases hj
   ·rename_i hb; exact h.lv k hb
  ·simp only [nbf e, cond_false] at hj
   rw [if_neg e]
   by_cases e' : j = k
   ·rw [if_pos e']
   ·rw [if_neg e']
    simp only [nbf e', cond_false] at hj
    split at hj
    ·cases hj
    ·rename_i hb; exact h.lv j hb
 ·unfold φren at hj hj'
  have hinj := h.inj
  by_cases e : j = k' <;> by_cases e' : j' = k'
  ·rw [e, e']
  ·rw [if_pos e] at hj; rw [if_neg e'] at hj'
   by_cases e2 : j' = k
   ·rw [if_pos e2] at hj'; cases hj'
   ·rw [if_neg e2] at hj'; exact absurd (hinj k j' b hj hj') (fun e3 => e2 e3.symm)
  ·rw [if_neg e] at hj; rw [if_pos e'] at hj'
   by_cases e2 : j = k
   ·rw [if_pos e2] at hj; cases hj
   ·rw [if_neg e2] at hj; exact absurd (hinj j k b hj hj') e2
  ·rw [if_neg e] at hj; rw [if_neg e'] at hj'
   by_cases e2 : j = k
   ·rw [if_pos e2] at hj; cases hj
   ·by_cases e3 : j' = k
    ·rw [if_pos e3] at hj'; cases hj'
    ·rw [if_neg e2] at hj; rw [if_neg e3] at hj'; exact hinj j j' b hj hj'
 ·obtain ⟨i, b', h1, rfl, _, h4⟩ := hh j b hj
  rw [h4] at hc
  rw [Blk.ren_fz]
  exact h.ow i c b' h1 hc
 ·cases hq : (s.ren k k').h j with
  | none => exact absurd hq hj
  | some b =>
   obtain ⟨i, b', h1, _, h3, _⟩ := hh j b hq
   rw [h3]; exact rk_u (h.ku i (by rw [h1]; simp))
 ·simp only [St.ren] at ht
  split at ht
  ·rename_i v' hv'
   simp only [Option.some.injEq] at ht
   subst ht
   obtain ⟨i, h1, rfl⟩ := renV_keys hj
   exact rk_u (h.ke t v' hv' i h1)
  ·cases ht
 ·obtain ⟨i, b', h1, rfl, _, _⟩ := hh j b hj
  obtain ⟨i', h2, rfl⟩ := Blk.ren_keys hq
  exact rk_u (h.kh i b' h1 i' h2)
 ·refine h.pn.of (fun j h1 h2 hj => ?_) fun j p h1 h2 hj => ?_
  ·have e : j ≠ k' := by omega
   simp only [St.ren, nbf e, cond_false]; cases Nat.beq j k <;> simp [hj]
  ·have e : j ≠ k' := by omega
   by_cases e' : j = k
   ·exact .inl (by subst e'; simp only [St.ren, nbf e, cond_false, nbt, cond_true])
   ·exact .inr (by simp only [φren, if_neg e, if_neg e']; exact hj)
theorem Sim.setE (h : Sim gl N w0 Pr φ s a w) {t : Nat} {v v' : AV} (hv : s.e t = some v) (hr : ∀ x, VR (KR Pr φ w) v x → VR (KR Pr φ w) v' x) (hk : ∀ k ∈ v'.keys, k ∈ s.u) : Sim gl N w0 Pr φ (s.setE t v') a w := by
 refine ⟨h.sz, fun j u hj => ?_, h.hp, h.lv, h.inj, h.ow, h.ku, fun j u hj => ?_, h.kh, h.pr, h.gk, h.df, h.bl, h.pn, h.ex⟩
 ·simp only [St.setE] at hj
  by_cases e : j = t
  ·subst e
   simp only [nbt, cond_true, Option.some.injEq] at hj
   subst hj
   obtain ⟨x, h1, h2⟩ := h.tm j v hv
   exact ⟨x, h1, hr x h2⟩
  ·simp only [nbf e, cond_false] at hj; exact h.tm j u hj
 ·simp only [St.setE] at hj
  by_cases e : j = t
  ·subst e
   simp only [nbt, cond_true, Option.some.injEq] at hj
   subst hj
   exact hk
  ·simp only [nbf e, cond_false] at hj; exact h.ke j u hj
theorem cellsR.set {R : AC → Value → Prop} {xs : List AC} {vs : List Value} {i : Nat} {c c' : AC} (h : cellsR R xs vs) (hc : xs[i]? = some c) (hr : ∀ v, vs[i]? = some v → R c v → R c' v) : cellsR R (xs.set i c') vs := by
 refine ⟨by simp [h.1], fun j d v hd hv => ?_⟩
 rw [List.getElem?_set] at hd
 split at hd
 ·rename_i e
  split at hd
  ·cases hd; subst e; exact hr v hv (h.2 _ c v hc hv)
  ·cases hd
 ·exact h.2 j d v hd hv
theorem Sim.setH (h : Sim gl N w0 Pr φ s a w) {k i : Nat} {cs : List AC} {z : Bool} {c c' : AC} (hv : s.h k = some (.var cs z)) (hc : cs[i]? = some c)
  (hr : ∀ b arr T, φ k = some (some b) → w.heap[b]? = some (.cells arr T (0, 0)) → ∀ x, arr.toList[i]? = some x → KR Pr φ w c x → KR Pr φ w c' x)
  (hk : ∀ k ∈ c'.keys, k ∈ s.u) : Sim gl N w0 Pr φ (s.sh k (.var (cs.set i c') z)) a w := by
 have hh : ∀ j b, (s.sh k (.var (cs.set i c') z)).h j = some b → (j = k ∧ b = .var (cs.set i c') z) ∨ (j ≠ k ∧ s.h j = some b) := fun j b hj => by
  simp only [St.sh] at hj
  by_cases e : j = k
  ·subst e; simp only [nbt, cond_true, Option.some.injEq] at hj; exact .inl ⟨rfl, hj.symm⟩
  ·simp only [nbf e, cond_false] at hj; exact .inr ⟨e, hj⟩
 refine ⟨h.sz, h.tm, fun j b hj => ?_, fun j hj => ?_, h.inj, fun j c b hj hf => ?_, fun j hj => ?_, h.ke, fun j b hj q hq => ?_, h.pr, h.gk, h.df, h.bl, h.pn.sh hv, h.ex⟩
 ·rcases hh j b hj with ⟨rfl, rfl⟩ | ⟨e, hj⟩
  ·obtain ⟨p, h1, b, arr, T, h2, h3, h4⟩ := h.hp _ _ hv
   exact ⟨p, h1, b, arr, T, h2, h3, h4.set hc (hr b arr T (h2 ▸ h1) h3)⟩
  ·exact h.hp j b hj
 ·simp only [St.sh] at hj
  by_cases e : j = k
  ·subst e; simp [nbt] at hj
  ·simp only [nbf e, cond_false] at hj; exact h.lv j hj
 ·rcases hh j b hj with ⟨rfl, rfl⟩ | ⟨e, hj⟩
  ·have h9 := h.ow _ c _ hv hf; exact h9
  ·exact h.ow j c b hj hf
 ·by_cases e : j = k
  ·subst e; exact h.ku j (by rw [hv]; simp)
  ·simp only [St.sh, nbf e, cond_false] at hj; exact h.ku j hj
 ·rcases hh j b hj with ⟨rfl, rfl⟩ | ⟨e, hj⟩
  ·obtain ⟨d, hd, hqd⟩ := List.mem_flatMap.1 hq
   rcases List.mem_or_eq_of_mem_set hd with hd | hd
   ·exact h.kh _ _ hv q (List.mem_flatMap.2 ⟨d, hd, hqd⟩)
   ·exact hk q (hd ▸ hqd)
  ·exact h.kh j b hj q hq
end
def LeC (c c' : AC) : Prop := ∀ (Pr : PrT) (w : World) (v : Value), DR Pr w c v → DR Pr w c' v
theorem LeC.refl (c : AC) : LeC c c := fun _ _ _ h => h
theorem LeC.nil (wd : Nat) (f : Nat → List AC) : LeC .nil (.sl wd 0 f) := fun Pr w v h => by cases h; exact DR.slN wd f
def LeR : List AC → List AC → Prop
 | [], [] => True
 | c :: r, c' :: r' => LeC c c' ∧ LeR r r'
 | _, _ => False
theorem LeR.len : ∀ {xs ys : List AC}, LeR xs ys → xs.length = ys.length
 | [], [], _ => rfl
 | _ :: _, _ :: _, h => by simp [LeR.len h.2]
 | [], _ :: _, h => h.elim
 | _ :: _, [], h => h.elim
theorem LeR.get : ∀ {xs ys : List AC} {i : Nat} {c' : AC}, LeR xs ys → ys[i]? = some c' → ∃ c, xs[i]? = some c ∧ LeC c c'
 | [], [], i, c', _, h => by simp at h
 | c :: r, d :: r', 0, c', hl, h => by simp at h; subst h; exact ⟨c, by simp, hl.1⟩
 | c :: r, d :: r', i + 1, c', hl, h => by simp only [List.getElem?_cons_succ] at h ⊢; exact LeR.get hl.2 h
 | [], _ :: _, _, _, h, _ => h.elim
 | _ :: _, [], _, _, h, _ => h.elim
theorem LeR.refl : ∀ (xs : List AC), LeR xs xs
 | [] => trivial
 | c :: r => ⟨.refl c, .refl r⟩
section
variable {gl : Nat → Option (List AC)} {N : Nat} {w0 : Wk} {Pr : PrT} {φ : Nat → Option (Option Nat)} {s : St} {a : Act} {w : World}
theorem Sim.rep (h : Sim gl N w0 Pr φ s a w) {k wd n n' : Nat} {f f' : Nat → List AC} {z : Bool} (hv : s.h k = some (.arr wd n' f' z)) (hn : n ≤ n') (hf : ∀ i, i < n → f i = f' i) :
  Sim gl N w0 Pr φ (s.sh k (.arr wd n f z)) a w := by
 have hh : ∀ j b, (s.sh k (.arr wd n f z)).h j = some b → (j = k ∧ b = .arr wd n f z) ∨ (j ≠ k ∧ s.h j = some b) := fun j b hj => by
  simp only [St.sh] at hj
  by_cases e : j = k
  ·subst e; simp only [nbt, cond_true, Option.some.injEq] at hj; exact .inl ⟨rfl, hj.symm⟩
  ·simp only [nbf e, cond_false] at hj; exact .inr ⟨e, hj⟩
 refine ⟨h.sz, h.tm, fun j b hj => ?_, fun j hj => ?_, h.inj, fun j c b hj hc => ?_, fun j hj => ?_, h.ke, fun j b hj q hq => ?_, h.pr, h.gk, h.df, h.bl, h.pn.sh hv, h.ex⟩
 ·rcases hh j b hj with ⟨rfl, rfl⟩ | ⟨e, hj⟩
  ·obtain ⟨p, h1, h0, h2⟩ := h.hp _ _ hv
   refine ⟨p, h1, h0, ?_⟩
   rcases h2 with ⟨h2, h3⟩ | ⟨b, arr, T, h2, h3, h4, h5, h6⟩
   ·exact .inl ⟨h2, by omega⟩
   ·exact .inr ⟨b, arr, T, h2, h3, Nat.le_trans (Nat.mul_le_mul_right wd hn) h4, h5, fun i hi => by rw [hf i hi]; exact h6 i (by omega)⟩
  ·exact h.hp j b hj
 ·simp only [St.sh] at hj
  by_cases e : j = k
  ·subst e; simp [nbt] at hj
  ·simp only [nbf e, cond_false] at hj; exact h.lv j hj
 ·rcases hh j b hj with ⟨rfl, rfl⟩ | ⟨e, hj⟩
  ·have h9 := h.ow _ c _ hv hc; exact h9
  ·exact h.ow j c b hj hc
 ·by_cases e : j = k
  ·subst e; exact h.ku j (by rw [hv]; simp)
  ·simp only [St.sh, nbf e, cond_false] at hj; exact h.ku j hj
 ·rcases hh j b hj with ⟨rfl, rfl⟩ | ⟨e, hj⟩
  ·cases hq
  ·exact h.kh j b hj q hq
theorem Sim.rpw (h : Sim gl N w0 Pr φ s a w) {k wd n : Nat} {f f' : Nat → List AC} {z : Bool} (hv : s.h k = some (.arr wd n f' z)) (hf : ∀ i, i < n → LeR (f' i) (f i)) :
  Sim gl N w0 Pr φ (s.sh k (.arr wd n f z)) a w := by
 have hh : ∀ j b, (s.sh k (.arr wd n f z)).h j = some b → (j = k ∧ b = .arr wd n f z) ∨ (j ≠ k ∧ s.h j = some b) := fun j b hj => by
  simp only [St.sh] at hj
  by_cases e : j = k
  ·subst e; simp only [nbt, cond_true, Option.some.injEq] at hj; exact .inl ⟨rfl, hj.symm⟩
  ·simp only [nbf e, cond_false] at hj; exact .inr ⟨e, hj⟩
 refine ⟨h.sz, h.tm, fun j b hj => ?_, fun j hj => ?_, h.inj, fun j c b hj hc => ?_, fun j hj => ?_, h.ke, fun j b hj q hq => ?_, h.pr, h.gk, h.df, h.bl, h.pn.sh hv, h.ex⟩
 ·rcases hh j b hj with ⟨rfl, rfl⟩ | ⟨e, hj⟩
  ·obtain ⟨p, h1, h0, h2⟩ := h.hp _ _ hv
   refine ⟨p, h1, h0, ?_⟩
   rcases h2 with ⟨h2, h3⟩ | ⟨b, arr, T, h2, h3, h4, h5, h6⟩
   ·exact .inl ⟨h2, h3⟩
   ·refine .inr ⟨b, arr, T, h2, h3, h4, h5, fun i hi => ⟨by rw [← (hf i hi).len]; exact (h6 i hi).1, fun q c hq => ?_⟩⟩
    obtain ⟨c0, h7, h8⟩ := (hf i hi).get hq
    obtain ⟨v, h9, h10⟩ := (h6 i hi).2 q c0 h7
    exact ⟨v, h9, h8 _ _ _ h10⟩
  ·exact h.hp j b hj
 ·simp only [St.sh] at hj
  by_cases e : j = k
  ·subst e; simp [nbt] at hj
  ·simp only [nbf e, cond_false] at hj; exact h.lv j hj
 ·rcases hh j b hj with ⟨rfl, rfl⟩ | ⟨e, hj⟩
  ·have h9 := h.ow _ c _ hv hc; exact h9
  ·exact h.ow j c b hj hc
 ·by_cases e : j = k
  ·subst e; exact h.ku j (by rw [hv]; simp)
  ·simp only [St.sh, nbf e, cond_false] at hj; exact h.ku j hj
 ·rcases hh j b hj with ⟨rfl, rfl⟩ | ⟨e, hj⟩
  ·cases hq
  ·exact h.kh j b hj q hq
end
inductive Fix where
 | frz (t : Nat)
 | frc (k i : Nat)
 | nld (t wd : Nat) (f : Nat → List AC)
 | nldc (k i wd : Nat) (f : Nat → List AC)
 | nlo (t k wd : Nat) (f : Nat → List AC)
 | nloc (k i k' wd : Nat) (f : Nat → List AC)
 | ren (k k' : Nat)
 | rel (t n : Nat)
 | relc (k i n : Nat)
 | rep (k n : Nat) (f : Nat → List AC)
 | rpw (k : Nat) (f : Nat → List AC)
 | agg (t : Nat) (cs : List AC)
def FixP : List Fix → St → (St → Prop) → Prop
 | [], s, K => K s
 | .frz t :: r, s, K => match s.e t with | some v => frV s v fun v' s' => FixP r (s'.setE t v') K | none => False
 | .frc k i :: r, s, K => match s.h k with
  | some (.var cs z) => match cs[i]? with | some c => frC s c fun c' s' => FixP r (s'.sh k (.var (cs.set i c') z)) K | none => False
  | _ => False
 | .nld t wd f :: r, s, K => match s.e t with | some (.c .nil) => FixP r (s.setE t (.c (.sl wd 0 f))) K | _ => False
 | .nldc k i wd f :: r, s, K => match s.h k with
  | some (.var cs z) => match cs[i]? with | some .nil => FixP r (s.sh k (.var (cs.set i (.sl wd 0 f)) z)) K | _ => False
  | _ => False
 | .nlo t k wd f :: r, s, K => match s.e t, (s.u.elem k || Nat.ble 1000000 k) with
  | some (.c .nil), false => 0 < wd ∧ FixP r ((s.al k (.arr wd 0 f false)).setE t (.c (.own k wd 0 0))) K
  | _, _ => False
 | .nloc k i k' wd f :: r, s, K => match s.h k, (s.u.elem k' || Nat.ble 1000000 k') with
  | some (.var cs z), false => match cs[i]? with | some .nil => 0 < wd ∧ FixP r ((s.al k' (.arr wd 0 f false)).sh k (.var (cs.set i (.own k' wd 0 0)) z)) K | _ => False
  | _, _ => False
 | .ren k k' :: r, s, K => match (s.u.elem k' || Nat.ble 1000000 k') with | false => FixP r (s.ren k k') K | true => False
 | .rel t n :: r, s, K => match s.e t with | some (.c (.own k wd off len)) => len = n ∧ FixP r (s.setE t (.c (.own k wd off n))) K | _ => False
 | .relc k i n :: r, s, K => match s.h k with
  | some (.var cs z) => match cs[i]? with | some (.own j wd off len) => len = n ∧ FixP r (s.sh k (.var (cs.set i (.own j wd off n)) z)) K | _ => False
  | _ => False
 | .rep k n f :: r, s, K => match s.h k with
  | some (.arr wd n' f' z) => n ≤ n' ∧ (∀ i, i < n → f i = f' i) ∧ FixP r (s.sh k (.arr wd n f z)) K
  | _ => False
 | .rpw k f :: r, s, K => match s.h k with
  | some (.arr wd n f' z) => (∀ i, i < n → LeR (f' i) (f i)) ∧ FixP r (s.sh k (.arr wd n f z)) K
  | _ => False
 | .agg t cs :: r, s, K => match s.e t with | some v => v = .agg cs ∧ FixP r (s.setE t (.agg cs)) K | none => False
def lkA (t : Nat) : List (Nat × AV) → Option AV
 | [] => none
 | (j, v) :: r => bif Nat.beq t j then some v else lkA t r
def lit (E : List (Nat × AV)) (H : List (Nat × Blk)) : St where
 e t := lkA t E
 h k := lkB k H
 u := H.map (·.1) ++ (E.flatMap (·.2.keys) ++ H.flatMap (·.2.keys))
def LeL (E : List (Nat × AV)) (H : List (Nat × Blk)) (s : St) : Prop :=
 E.map (fun p => s.e p.1) = E.map (fun p => some p.2) ∧ H.map (fun p => s.h p.1) = H.map (fun p => some p.2)
section
variable {P : Program} {gl : Nat → Option (List AC)} {N : Nat} {w0 : Wk} {Pr : PrT} {φ : Nat → Option (Option Nat)} {s : St} {a : Act} {w : World}
theorem lkA_mem {t : Nat} {v : AV} : ∀ {E : List (Nat × AV)}, lkA t E = some v → (t, v) ∈ E
 | [], h => by cases h
 | (j, c) :: r, h => by
  simp only [lkA] at h
  cases hb : Nat.beq t j with
  | true => rw [hb] at h; simp only [cond_true, Option.some.injEq] at h; rw [Nat.eq_of_beq_eq_true hb, h]; simp
  | false => rw [hb] at h; exact List.mem_cons_of_mem _ (lkA_mem h)
theorem map_eq_mem {α β : Type} {f g : α → β} {l : List α} (h : l.map f = l.map g) : ∀ x ∈ l, f x = g x := by
 induction l with
 | nil => intro x hx; cases hx
 | cons a r ih =>
  simp only [List.map_cons, List.cons.injEq] at h
  intro x hx
  rcases List.mem_cons.1 hx with rfl | hx
  ·exact h.1
  ·exact ih h.2 x hx
theorem Sim.lit {E : List (Nat × AV)} {H : List (Nat × Blk)} (h : Sim gl N w0 Pr φ s a w) (hl : LeL E H s) :
  Sim gl N w0 Pr (fun k => match lkB k H with | some _ => φ k | none => none) (lit E H) a w := by
 have hE : ∀ t v, lkA t E = some v → s.e t = some v ∧ (t, v) ∈ E := fun t v ht => by
  have := lkA_mem ht
  exact ⟨map_eq_mem hl.1 _ this, this⟩
 have hH : ∀ k b, lkB k H = some b → s.h k = some b ∧ (k, b) ∈ H := fun k b hk => by
  obtain ⟨p, h1, h2, h3⟩ := lkB_mem hk
  have h4 : (k, b) = p := by rw [← h2, ← h3]
  rw [h4]
  exact ⟨by have := map_eq_mem hl.2 _ h1; rw [← h2, ← h3]; exact this, h1⟩
 have hφ : ∀ k p, (match lkB k H with | some _ => φ k | none => none) = some p → φ k = some p := fun k p hk => by
  split at hk
  ·exact hk
  ·cases hk
 have hkr : ∀ c v, KR Pr φ w c v → KR Pr (fun k => match lkB k H with | some _ => φ k | none => none) w c v := fun c v hc =>
  hc.mono (.refl _) (fun _ _ => rfl) (fun k _ p hp => hφ k p hp) (fun _ _ _ => rfl)
 refine ⟨h.sz, fun t v ht => ?_, fun k b hk => ?_, fun k hk => ?_, fun k k' b hk hk' => h.inj k k' b (hφ k _ hk) (hφ k' _ hk'), fun k c b hk hc => h.ow k c b (hH k b hk).1 (hφ k _ hc), fun k hk => ?_, fun t v ht k hk => ?_, fun k b hk q hq => ?_, h.pr, h.gk, h.df, h.bl, ?_, h.ex.phi fun k b hk => ⟨k, hφ k _ hk⟩⟩
 ·obtain ⟨x, h1, h2⟩ := h.tm t v (hE t v ht).1
  exact ⟨x, h1, h2.mono fun c _ v => hkr c v⟩
 ·obtain ⟨p, h1, h2⟩ := h.hp k b (hH k b hk).1
  have hk' : lkB k H = some b := hk
  refine ⟨p, by rw [hk']; exact h1, ?_⟩
  cases b with
  | var cs z => obtain ⟨c, arr, T, h3, h4, h5⟩ := h2; exact ⟨c, arr, T, h3, h4, h5.mono fun c _ v => hkr c v⟩
  | arr wd n f z => exact h2
 ·have hk' : lkB k H = none := hk
  rw [hk']
 ·cases hq : lkB k H with
  | none => exact absurd hq hk
  | some b => exact List.mem_append_left _ (List.mem_map.2 ⟨(k, b), (hH k b hq).2, rfl⟩)
 ·exact List.mem_append_right _ (List.mem_append_left _ (List.mem_flatMap.2 ⟨(t, v), (hE t v ht).2, hk⟩))
 ·exact List.mem_append_right _ (List.mem_append_right _ (List.mem_flatMap.2 ⟨(k, b), (hH k b hk).2, hq⟩))
 ·intro k p hk
  obtain ⟨h1, h2⟩ := h.pn k p hk
  refine ⟨h1, ?_⟩
  show lkB k H = none ∨ _
  cases hq : lkB k H with
  | none => exact .inl rfl
  | some b => refine .inr ?_; show (match lkB k H with | some _ => φ k | none => none) = some p; rw [hq]; exact h2.resolve_left (by rw [(hH k b hq).1]; simp)
theorem fix_sound : ∀ (fx : List Fix) {s : St} {Pr : PrT} {φ : Nat → Option (Option Nat)} {K : St → Prop}, FixP fx s K → Sim gl N w0 Pr φ s a w →
  ∃ s' Pr' φ', K s' ∧ Sim gl N w0 Pr' φ' s' a w ∧ PrS w0 gl Pr Pr'
 | [], s, Pr, φ, K, hf, h => ⟨s, Pr, φ, hf, h, PrS.refl _ _⟩
 | .frz t :: r, s, Pr, φ, K, hf, h => by
  simp only [FixP] at hf
  split at hf
  ·rename_i v hv
   obtain ⟨x, h1, h2⟩ := h.tm t v hv
   obtain ⟨v', s', Pr', hK, ht, hx⟩ := frV_sound h h2 hf
   have hs : Sim gl N w0 Pr' φ (s'.setE t v') a w := by
    have hnk : v'.keys = [] := by
     rw [AV.keys_eq, List.flatMap_eq_nil_iff]
     exact hx.nokeysD
    refine ⟨ht.sim.sz, fun j u hj => ?_, ht.sim.hp, ht.sim.lv, ht.sim.inj, ht.sim.ow, ht.sim.ku, fun j u hj => ?_, ht.sim.kh, ht.sim.pr, ht.sim.gk, ht.sim.df, ht.sim.bl, ht.sim.pn, ht.sim.ex⟩
    ·simp only [St.setE] at hj
     by_cases e : j = t
     ·subst e
      simp only [nbt, cond_true, Option.some.injEq] at hj
      subst hj
      exact ⟨x, h1, hx.mono fun c _ v hc => (KR.of_dr (φ := φ) hc).1⟩
     ·simp only [nbf e, cond_false] at hj; exact ht.sim.tm j u hj
    ·simp only [St.setE] at hj
     by_cases e : j = t
     ·subst e
      simp only [nbt, cond_true, Option.some.injEq] at hj
      subst hj
      rw [hnk]; simp
     ·simp only [nbf e, cond_false] at hj; exact ht.sim.ke j u hj
   obtain ⟨s'', Pr'', φ'', k1, k2, k3⟩ := fix_sound r hK hs
   exact ⟨s'', Pr'', φ'', k1, k2, ht.st.trans k3⟩
  ·exact hf.elim
 | .frc k i :: r, s, Pr, φ, K, hf, h => by
  simp only [FixP] at hf
  split at hf
  ·rename_i cs z hv
   split at hf
   ·rename_i c hc
    obtain ⟨p, h1, b, arr, T, h2, h3, h4⟩ := h.hp _ _ hv
    obtain ⟨x, hx, hkr⟩ := h4.get hc
    obtain ⟨c', s', Pr', hK, hps, hsim, hdr, he, hu, hpp, hvar⟩ := frC_sound h hkr hf
    have hv' := hvar k cs z hv
    have hnk : c'.keys = [] := (KR.of_dr (φ := φ) hdr).2
    have hs : Sim gl N w0 Pr' φ (s'.sh k (.var (cs.set i c') z)) a w := hsim.setH hv' hc (fun b' arr' T' hf' hh' y hy _ => by
     subst h2
     rw [h1] at hf'; cases hf'
     rw [h3] at hh'; cases hh'
     rw [hx] at hy; cases hy
     exact (KR.of_dr (φ := φ) hdr).1) (by rw [hnk]; simp)
    obtain ⟨s'', Pr'', φ'', k1, k2, k3⟩ := fix_sound r hK hs
    exact ⟨s'', Pr'', φ'', k1, k2, hps.trans k3⟩
   ·exact hf.elim
  ·exact hf.elim
 | .nld t wd f :: r, s, Pr, φ, K, hf, h => by
  simp only [FixP] at hf
  split at hf
  ·rename_i hv
   exact fix_sound r hf (h.setE hv (fun x hx => by
    cases hx
    exact DR.slN wd f) (by simp [AV.keys, AC.keys, AC.keys0]))
  ·exact hf.elim
 | .nldc k i wd f :: r, s, Pr, φ, K, hf, h => by
  simp only [FixP] at hf
  split at hf
  ·rename_i cs z hv
   split at hf
   ·rename_i hc
    exact fix_sound r hf (h.setH hv hc (fun _ _ _ _ _ x _ hx => by
     cases hx
     exact DR.slN wd f) (by simp [AC.keys, AC.keys0]))
   ·exact hf.elim
  ·exact hf.elim
 | .nlo t k wd f :: r, s, Pr, φ, K, hf, h => by
  simp only [FixP] at hf
  split at hf
  ·rename_i hv hk
   have h2 := h.alnil (kfree hk).1 (.inl (kfree hk).2) (wd := wd) (f := f) hf.1
   exact fix_sound r hf.2 (h2.setE (v := .c .nil) hv (fun x hx => by
    cases hx
    exact VR.mkOwnNil (if_pos rfl)) (by simp [AV.keys, AC.keys, AC.keys0, St.al]))
  ·exact hf.elim
 | .nloc k i k' wd f :: r, s, Pr, φ, K, hf, h => by
  simp only [FixP] at hf
  split at hf
  ·rename_i cs z hv hk
   split at hf
   ·rename_i hc
    have h2 := h.alnil (kfree hk).1 (.inl (kfree hk).2) (wd := wd) (f := f) hf.1
    have hne : k ≠ k' := fun e => not_mem_of_elem (kfree hk).1 (e ▸ h.ku k (by rw [hv]; simp))
    exact fix_sound r hf.2 (h2.setH (cs := cs) (z := z) (c := .nil) (by simp [St.al, nbf hne, hv]) hc (fun _ _ _ _ _ x _ hx => by
     cases hx
     exact VR.mkOwnNil (Pr := Pr) (φ := fun j => if j = k' then some none else φ j) (w := w) (k := k') (wd := wd) (if_pos rfl)) (by simp [AC.keys, AC.keys0, St.al]))
   ·exact hf.elim
  ·exact hf.elim
 | .ren k k' :: r, s, Pr, φ, K, hf, h => by
  simp only [FixP] at hf
  split at hf
  ·rename_i hk
   exact fix_sound r hf (h.ren (kfree hk).1 (kfree hk).2)
  ·exact hf.elim
 | .rel t n :: r, s, Pr, φ, K, hf, h => by
  simp only [FixP] at hf
  split at hf
  ·rename_i k wd off len hv
   obtain ⟨rfl, hf⟩ := hf
   exact fix_sound r hf (h.setE hv (fun x hx => hx) (h.ke t _ hv))
  ·exact hf.elim
 | .relc k i n :: r, s, Pr, φ, K, hf, h => by
  simp only [FixP] at hf
  split at hf
  ·rename_i cs z hv
   split at hf
   ·rename_i j wd off len hc
    obtain ⟨rfl, hf⟩ := hf
    exact fix_sound r hf (h.setH hv hc (fun _ _ _ _ _ x _ hx => hx) (fun q hq => h.kh k _ hv q (List.mem_flatMap.2 ⟨_, List.mem_of_getElem? hc, hq⟩)))
   ·exact hf.elim
  ·exact hf.elim
 | .rep k n f :: r, s, Pr, φ, K, hf, h => by
  simp only [FixP] at hf
  split at hf
  ·rename_i wd n' f' z hv
   obtain ⟨h1, h2, hf⟩ := hf
   exact fix_sound r hf (h.rep hv h1 h2)
  ·exact hf.elim
 | .rpw k f :: r, s, Pr, φ, K, hf, h => by
  simp only [FixP] at hf
  split at hf
  ·rename_i wd n f' z hv
   obtain ⟨h2, hf⟩ := hf
   exact fix_sound r hf (h.rpw hv h2)
  ·exact hf.elim
 | .agg t cs :: r, s, Pr, φ, K, hf, h => by
  simp only [FixP] at hf
  split at hf
  ·rename_i v hv
   obtain ⟨rfl, hf⟩ := hf
   exact fix_sound r hf (h.setE hv (fun x hx => hx) (h.ke t _ hv))
  ·exact hf.elim
end
def EndsI (P : Program) (gl : Nat → Option (List AC)) (N : Nat) (ir : S) (s : St) (J : Exit → St → Prop) : Prop :=
 ∀ (c : Code), comp P N c = some ir → ∀ (w0 : Wk) (Pr : PrT) (φ : Nat → Option (Option Nat)) (a : Act) (w : World), Sim gl N w0 Pr φ s a w →
  c.wp P (fun e a' w' => ∃ s' Pr' φ', J e s' ∧ Sim gl N w0 Pr' φ' s' a' w' ∧ PrS w0 gl Pr Pr') a w
def At (e : Exit) (s : St) : Exit → St → Prop := fun e' s' => e' = e ∧ s' = s
def AtR (s : St) : Exit → St → Prop := fun e' s' => (e' = .ret ∨ e' = .normal) ∧ s' = s
def blkJ (id : Nat) (J : Exit → St → Prop) : Exit → St → Prop
 | .exit i, s => bif Nat.beq i id then J .normal s else J (.exit i) s
 | e, s => J e s
section
variable {P : Program} {gl : Nat → Option (List AC)} {N : Nat} {s s1 : St} {J J' : Exit → St → Prop} {x y : S}
theorem ends_mono (h : EndsI P gl N x s J) (hj : ∀ e s, J e s → J' e s) : EndsI P gl N x s J' := fun c hc w0 Pr φ a w hs =>
 wp_mono (h c hc w0 Pr φ a w hs) fun e a' w' ⟨s', Pr', φ', h1, h2⟩ => ⟨s', Pr', φ', hj _ _ h1, h2⟩
theorem ends_fix {fx : List Fix} {E : List (Nat × AV)} {H : List (Nat × Blk)} (hf : FixP fx s fun s' => LeL E H s') (h : EndsI P gl N x (lit E H) J) : EndsI P gl N x s J := fun c hc w0 Pr φ a w hs => by
 obtain ⟨s', Pr', φ', h1, h2, h3⟩ := fix_sound fx hf hs
 exact wp_mono (h c hc w0 Pr' _ a w (h2.lit h1)) fun e a' w' ⟨s', Pr'', φ', k1, k2, k3⟩ => ⟨s', Pr'', φ', k1, k2, h3.trans k3⟩
theorem comp_skip {c : Code} (h : comp P N c = some .skip) : c = .skip := by
 cases c <;> simp only [comp, Option.map_eq_some_iff] at h <;> first | rfl | (cases h; done) | (obtain ⟨_, _, h⟩ := h; cases h) | (split at h <;> first | cases h | (split at h <;> first | cases h | (split at h <;> first | cases h | (split at h <;> cases h))))
theorem comp_ops {c : Code} {l : List IOp} (h : comp P N c = some (.ops l)) : ∃ id ops, c = .region id ops false ∧ ops.toList.mapM (compO P N ops) = some l := by
 cases c <;> simp only [comp, Option.map_eq_some_iff] at h <;> first | (cases h; done) | (obtain ⟨_, _, h⟩ := h; cases h) | skip
 case region id ops draw =>
  split at h
  ·rename_i ios hm
   split at h
   ·cases h; exact ⟨id, ops, rfl, hm⟩
   ·split at h <;> first | cases h | (split at h <;> cases h)
  ·cases h
 all_goals (split at h <;> cases h)
theorem comp_drw {c : Code} {un : List (Nat × Nat)} {l : List IOp} (h : comp P N c = some (.drw un l)) : ∃ id ops, c = .region id ops true ∧ ops.toList.mapM (compO P N ops) = some l ∧ un = unP ops ∧ okDraw2 ops l = true ∧ P.follows .mixedOrders = true := by
 cases c <;> simp only [comp, Option.map_eq_some_iff] at h <;> first | (cases h; done) | (obtain ⟨_, _, h⟩ := h; cases h) | skip
 case region id ops draw =>
  split at h
  ·rename_i ios hm
   split at h
   ·cases h
   ·split at h
    ·rename_i hok; cases h; exact ⟨id, ops, rfl, hm, rfl, hok⟩
    ·cases h
  ·cases h
 all_goals (split at h <;> cases h)
theorem comp_seq {c : Code} (h : comp P N c = some (.seq x y)) : ∃ a b, c = .seq a b ∧ comp P N a = some x ∧ comp P N b = some y := by
 cases c <;> simp only [comp, Option.map_eq_some_iff] at h <;> first | (cases h; done) | (obtain ⟨_, _, h⟩ := h; cases h) | skip
 case region id ops draw =>
  split at h
  ·split at h
   ·cases h
   ·split at h <;> first | cases h | (split at h <;> cases h)
  ·cases h
 case seq a b =>
  split at h
  ·rename_i h1 h2; cases h; exact ⟨a, b, rfl, h1, h2⟩
  ·cases h
 all_goals (split at h <;> cases h)
theorem comp_ite {c : Code} {q : Opd} (h : comp P N c = some (.ite q x y)) : ∃ p a b, c = .cond p a b ∧ cO p = some q ∧ comp P N a = some x ∧ comp P N b = some y := by
 cases c <;> simp only [comp, Option.map_eq_some_iff] at h <;> first | (cases h; done) | (obtain ⟨_, _, h⟩ := h; cases h) | skip
 case region id ops draw =>
  split at h
  ·split at h
   ·cases h
   ·split at h <;> first | cases h | (split at h <;> cases h)
  ·cases h
 case cond p a b =>
  split at h
  ·rename_i h1 h2 h3; cases h; exact ⟨p, a, b, rfl, h1, h2, h3⟩
  ·cases h
 all_goals (split at h <;> cases h)
theorem comp_blk {c : Code} {id : Nat} (h : comp P N c = some (.blk id x)) : ∃ a, c = .block id a ∧ comp P N a = some x := by
 cases c <;> simp only [comp, Option.map_eq_some_iff] at h <;> first | (cases h; done) | (obtain ⟨_, h1, h⟩ := h; cases h; done) | skip
 case region id ops draw =>
  split at h
  ·split at h
   ·cases h
   ·split at h <;> first | cases h | (split at h <;> cases h)
  ·cases h
 case block i a => obtain ⟨_, h1, h⟩ := h; cases h; exact ⟨a, rfl, h1⟩
 all_goals first | (split at h <;> cases h) | (obtain ⟨_, h1, h⟩ := h; cases h)
theorem comp_loop {c : Code} (h : comp P N c = some (.loop x)) : ∃ a, c = .loop a ∧ comp P N a = some x := by
 cases c <;> simp only [comp, Option.map_eq_some_iff] at h <;> first | (cases h; done) | (obtain ⟨_, h1, h⟩ := h; cases h; done) | skip
 case region id ops draw =>
  split at h
  ·split at h
   ·cases h
   ·split at h <;> first | cases h | (split at h <;> cases h)
  ·cases h
 case loop a => obtain ⟨_, h1, h⟩ := h; cases h; exact ⟨a, rfl, h1⟩
 all_goals first | (split at h <;> cases h) | (obtain ⟨_, h1, h⟩ := h; cases h)
theorem comp_exit {c : Code} {id : Nat} (h : comp P N c = some (.exit id)) : c = .exit id := by
 cases c <;> simp only [comp, Option.map_eq_some_iff] at h <;> first | (cases h; rfl) | (cases h; done) | (obtain ⟨_, _, h⟩ := h; cases h) | (split at h <;> first | cases h | (split at h <;> first | cases h | (split at h <;> first | cases h | (split at h <;> cases h))))
theorem comp_ret {c : Code} (h : comp P N c = some .ret) : c = .ret := by
 cases c <;> simp only [comp, Option.map_eq_some_iff] at h <;> first | rfl | (cases h; done) | (obtain ⟨_, _, h⟩ := h; cases h) | (split at h <;> first | cases h | (split at h <;> first | cases h | (split at h <;> first | cases h | (split at h <;> cases h))))
theorem ends_skip (h : J .normal s) : EndsI P gl N .skip s J := fun c hc w0 Pr φ a w hs => by
 rw [comp_skip hc]; exact wp_skip ⟨s, Pr, φ, h, hs, PrS.refl _ _⟩
theorem ends_exit {id : Nat} (h : J (.exit id) s) : EndsI P gl N (.exit id) s J := fun c hc w0 Pr φ a w hs => by
 rw [comp_exit hc]; exact wp_exit ⟨s, Pr, φ, h, hs, PrS.refl _ _⟩
theorem ends_ret (h : J .ret s) : EndsI P gl N .ret s J := fun c hc w0 Pr φ a w hs => by
 rw [comp_ret hc]; exact wp_ret ⟨s, Pr, φ, h, hs, PrS.refl _ _⟩
theorem ends_ops {l : List IOp} {hs : List Hint} (h : SegP P gl l hs s fun _ s' => J .normal s') : EndsI P gl N (.ops l) s J := fun c hc w0 Pr φ a w hs' => by
 obtain ⟨id, ops, rfl, hm⟩ := comp_ops hc
 exact region_sound hm h hs' fun _ s' Pr' φ' a' w' h1 h2 h3 => ⟨s', Pr', φ', h1, h2, h3⟩
theorem ends_drw {un : List (Nat × Nat)} {l : List IOp} {hs : List Hint} (h : SegX P gl un [] l hs s fun _ s' => J .normal s') : EndsI P gl N (.drw un l) s J := fun c hc w0 Pr φ a w hs' => by
 obtain ⟨id, ops, rfl, hm, rfl, hok, hmx⟩ := comp_drw hc
 exact regX_sound hok hmx hm h hs' fun _ s' Pr' φ' a' w' h1 h2 h3 => ⟨s', Pr', φ', h1, h2, h3⟩
theorem ends_seq {J1 : Exit → St → Prop} (h : EndsI P gl N x s J1) (hn : ∀ s', J1 .normal s' → EndsI P gl N y s' J) (ho : ∀ e s', e ≠ .normal → J1 e s' → J e s') : EndsI P gl N (.seq x y) s J := fun c hc w0 Pr φ a w hs => by
 obtain ⟨c1, c2, rfl, h1, h2⟩ := comp_seq hc
 refine wp_seq (wp_mono (h c1 h1 w0 Pr φ a w hs) fun e a' w' ⟨s', Pr', φ', k1, k2, k3⟩ => ?_)
 cases e with
 | normal => exact wp_mono (hn s' k1 c2 h2 w0 Pr' φ' a' w' k2) fun e a'' w'' ⟨s'', Pr'', φ'', q1, q2, q3⟩ => ⟨s'', Pr'', φ'', q1, q2, k3.trans q3⟩
 | exit i => exact ⟨s', Pr', φ', ho _ s' (by simp) k1, k2, k3⟩
 | goto i => exact ⟨s', Pr', φ', ho _ s' (by simp) k1, k2, k3⟩
 | ret => exact ⟨s', Pr', φ', ho _ s' (by simp) k1, k2, k3⟩
 | panic i => exact ⟨s', Pr', φ', ho _ s' (by simp) k1, k2, k3⟩
 | outgrown => exact ⟨s', Pr', φ', ho _ s' (by simp) k1, k2, k3⟩
theorem ends_ite {q : Opd} {b : Bool} (hq : ev gl s q = some (.c (.bool b))) (ht : b = true → EndsI P gl N x s J) (hf : b = false → EndsI P gl N y s J) : EndsI P gl N (.ite q x y) s J := fun c hc w0 Pr φ a w hs => by
 obtain ⟨p, c1, c2, rfl, h0, h1, h2⟩ := comp_ite hc
 have hv := (ev_sound hs h0 hq).1.bool_inv
 exact wp_cond_split hv (fun e => ht e c1 h1 w0 Pr φ a w hs) fun e => hf e c2 h2 w0 Pr φ a w hs
theorem ends_blk {id : Nat} (h : EndsI P gl N x s (blkJ id J)) : EndsI P gl N (.blk id x) s J := fun c hc w0 Pr φ a w hs => by
 obtain ⟨c1, rfl, h1⟩ := comp_blk hc
 refine wp_block (wp_mono (h c1 h1 w0 Pr φ a w hs) fun e a' w' ⟨s', Pr', φ', k1, k2, k3⟩ => ?_)
 cases e with
 | exit i =>
  simp only [Exit.inBlock]
  simp only [blkJ] at k1
  split
  ·rename_i e; subst e; rw [nbt] at k1; exact ⟨s', Pr', φ', k1, k2, k3⟩
  ·rename_i e; rw [nbf e] at k1; exact ⟨s', Pr', φ', k1, k2, k3⟩
 | normal => exact ⟨s', Pr', φ', k1, k2, k3⟩
 | goto i => exact ⟨s', Pr', φ', k1, k2, k3⟩
 | ret => exact ⟨s', Pr', φ', k1, k2, k3⟩
 | panic i => exact ⟨s', Pr', φ', k1, k2, k3⟩
 | outgrown => exact ⟨s', Pr', φ', k1, k2, k3⟩
def loopN {σ ρ : Type} (body : σ → Option (σ ⊕ ρ)) : Nat → σ → Option ρ
 | 0, _ => none
 | n + 1, s => match body s with
  | none => none
  | some (.inl s') => loopN body n s'
  | some (.inr r) => some r
theorem loopN_mono {σ ρ : Type} {body : σ → Option (σ ⊕ ρ)} : ∀ {n m : Nat} {s : σ} {r : ρ}, loopN body n s = some r → n ≤ m → loopN body m s = some r
 | 0, _, _, _, h, _ => by cases h
 | n + 1, 0, _, _, _, hm => by omega
 | n + 1, m + 1, s, r, h, hm => by
  simp only [loopN] at h ⊢
  split at h
  ·cases h
  ·exact loopN_mono h (by omega)
  ·exact h
open Classical in
noncomputable def loop {σ ρ : Type} (body : σ → Option (σ ⊕ ρ)) (s : σ) : Option ρ :=
 if h : ∃ n, (loopN body n s).isSome = true then loopN body (Classical.choose h) s else none
theorem loop_some {σ ρ : Type} {body : σ → Option (σ ⊕ ρ)} {s : σ} {r : ρ} : loop body s = some r ↔ ∃ n, loopN body n s = some r := by
 unfold loop
 constructor
 ·intro h
  split at h
  ·exact ⟨_, h⟩
  ·cases h
 ·rintro ⟨n, hn⟩
  have hex : ∃ n, (loopN body n s).isSome = true := ⟨n, by rw [hn]; rfl⟩
  rw [dif_pos hex]
  obtain ⟨r', hr'⟩ := Option.isSome_iff_exists.1 (Classical.choose_spec hex)
  have h1 := loopN_mono hr' (Nat.le_max_left (Classical.choose hex) n)
  have h2 := loopN_mono hn (Nat.le_max_right (Classical.choose hex) n)
  rw [hr', ← h1, h2]
theorem loop_eq {σ ρ : Type} (body : σ → Option (σ ⊕ ρ)) (s : σ) : loop body s = match body s with
  | none => none
  | some (.inl s') => loop body s'
  | some (.inr r) => some r := by
 apply Option.ext
 intro r
 constructor
 ·intro h
  obtain ⟨n, hn⟩ := loop_some.1 h
  cases n with
  | zero => cases hn
  | succ n =>
   simp only [loopN] at hn
   split at hn
   ·cases hn
   ·rename_i s' hs; exact loop_some.2 ⟨n, hn⟩
   ·rename_i r' hs; exact hn
 ·intro h
  split at h
  ·cases h
  ·rename_i s' hs
   obtain ⟨n, hn⟩ := loop_some.1 h
   exact loop_some.2 ⟨n + 1, by simp only [loopN, hs]; exact hn⟩
  ·rename_i r' hs
   exact loop_some.2 ⟨1, by simp only [loopN, hs]; exact h⟩
theorem wp_loop_n {Q : Exit → Act → World → Prop} (c : Code) (I : Nat → Act → World → Prop) (n : Nat) {a : Act} {w : World} (h0 : I n a w)
  (round : ∀ n a w, I n a w → c.wp P (Exit.then (fun a' w' => ∃ m, m < n ∧ I m a' w') Q) a w) : (Code.loop c).wp P Q a w := by
 classical
 have hmin : ∀ a w, (∃ n, I n a w) → ∃ n, I n a w ∧ ∀ m, m < n → ¬ I m a w := by
  intro a w ⟨n, hn⟩
  induction n using Nat.strongRecOn with
  | _ n ih =>
   by_cases h : ∃ m, m < n ∧ I m a w
   ·obtain ⟨m, hm, hI⟩ := h; exact ih m hm hI
   ·exact ⟨n, hn, fun m hm hI => h ⟨m, hm, hI⟩⟩
 let μ : Act → World → Nat := fun a w => if h : ∃ n, I n a w then Classical.choose (hmin a w h) else 0
 refine wp_loop (fun a w => ∃ n, I n a w) μ ⟨n, h0⟩ fun a w hI => ?_
 obtain ⟨h1, h2⟩ := Classical.choose_spec (hmin a w hI)
 have hμ : μ a w = Classical.choose (hmin a w hI) := by simp only [μ]; rw [dif_pos hI]
 refine wp_mono (round _ a w h1) fun e a' w' he => ?_
 cases e with
 | normal =>
  obtain ⟨m, hm, hI'⟩ := he
  refine ⟨⟨m, hI'⟩, ?_⟩
  have hex : ∃ n, I n a' w' := ⟨m, hI'⟩
  obtain ⟨h3, h4⟩ := Classical.choose_spec (hmin a' w' hex)
  have hμ' : μ a' w' = Classical.choose (hmin a' w' hex) := by simp only [μ]; rw [dif_pos hex]
  rw [hμ, hμ']
  rcases Nat.lt_or_ge m (Classical.choose (hmin a' w' hex)) with h5 | h5
  ·exact absurd hI' (h4 m h5)
  ·omega
 | exit i => exact he
 | goto i => exact he
 | ret => exact he
 | panic i => exact he
 | outgrown => exact he
def loopJ {σ ρ : Type} (S0 : σ → St) (J : ρ → Exit → St → Prop) : σ ⊕ ρ → Exit → St → Prop
 | .inl x, e, s => e = .normal ∧ s = S0 x
 | .inr r, e, s => e ≠ .normal ∧ J r e s
theorem ends_loop {σ ρ : Type} (body : σ → Option (σ ⊕ ρ)) (S0 : σ → St) (J : ρ → Exit → St → Prop) (hb : ∀ x b, body x = some b → EndsI P gl N y (S0 x) (loopJ S0 J b)) {x : σ} {r : ρ} (h : loop body x = some r) :
  EndsI P gl N (.loop y) (S0 x) (J r) := fun c hc w0 Pr φ a w hs => by
 obtain ⟨c1, rfl, h1⟩ := comp_loop hc
 obtain ⟨n, hn⟩ := loop_some.1 h
 refine wp_loop_n c1 (fun n a w => ∃ x Pr' φ', loopN body n x = some r ∧ Sim gl N w0 Pr' φ' (S0 x) a w ∧ PrS w0 gl Pr Pr') n ⟨x, Pr, φ, hn, hs, PrS.refl _ _⟩ ?_
 rintro n a w ⟨x, Pr', φ', hn, hs, hp⟩
 cases n with
 | zero => cases hn
 | succ n =>
  simp only [loopN] at hn
  cases hx : body x with
  | none => rw [hx] at hn; cases hn
  | some b =>
   rw [hx] at hn
   refine wp_mono (hb x b hx c1 h1 w0 Pr' φ' a w hs) fun e a' w' ⟨s', Pr'', φ'', k1, k2, k3⟩ => ?_
   cases b with
   | inl x' =>
    obtain ⟨rfl, rfl⟩ := k1
    exact ⟨n, Nat.lt_succ_self n, x', Pr'', φ'', hn, k2, hp.trans k3⟩
   | inr r' =>
    cases hn
    have k4 : ∃ s' Pr' φ', J r e s' ∧ Sim gl N w0 Pr' φ' s' a' w' ∧ PrS w0 gl Pr Pr' := ⟨s', Pr'', φ'', k1.2, k2, hp.trans k3⟩
    cases e with
    | normal => exact absurd rfl k1.1
    | exit i => exact k4
    | goto i => exact k4
    | ret => exact k4
    | panic i => exact k4
    | outgrown => exact k4
end
def argE : Nat → List AV → List (Nat × AV)
 | _, [] => []
 | i, v :: r => (i, v) :: argE (i + 1) r
def resOne (P : Program) (s : St) : ResultVar → Option AV
 | .tmp t => s.e t
 | .cell a t => match s.e a with
  | some (.c (.pk k 0)) => match s.h k, aggT P t, P.info? t with
   | some (.var cs _), some g, some _ => loadC cs 0 (P.cellsOf t) g
   | _, _, _ => none
  | _ => none
def pairOf : AV → Option (Bool × List AC)
 | .c x => some (false, [x])
 | .agg xs => some (true, xs)
 | .tup _ => none
def resV (P : Program) (s : St) (rs : List ResultVar) : Option AV :=
 match rs with
 | [r] => resOne P s r
 | rs => match (rs.mapM (resOne P s)) with
  | some vs => match vs.mapM pairOf with | some ps => some (.tup ps) | none => none
  | none => none
def resS (tmps : Array Value) : ResultVar → Sem Value
 | .tmp t => pure (tmps.getD t undef)
 | .cell a t => do loadVar t (← asAddr (tmps.getD a undef))
section
variable {P : Program} {gl : Nat → Option (List AC)} {N : Nat} {w0 : Wk} {Pr : PrT} {φ : Nat → Option (Option Nat)} {s : St} {a : Act} {w : World}
theorem lkA_argE : ∀ (vs : List AV) (i t : Nat) (v : AV), lkA t (argE i vs) = some v → i ≤ t ∧ vs[t - i]? = some v
 | [], i, t, v, h => by cases h
 | u :: r, i, t, v, h => by
  simp only [argE, lkA] at h
  by_cases e : t = i
  ·subst e; simp only [nbt, cond_true, Option.some.injEq] at h; subst h; exact ⟨Nat.le_refl _, by simp⟩
  ·simp only [nbf e, cond_false] at h
   obtain ⟨h1, h2⟩ := lkA_argE r (i + 1) t v h
   refine ⟨by omega, ?_⟩
   have : t - i = (t - (i + 1)) + 1 := by omega
   rw [this, List.getElem?_cons_succ]; exact h2
theorem resOne_sound (h : Sim gl N w0 Pr φ s a w) {r : ResultVar} {v : AV} (hv : resOne P s r = some v) :
  ∃ x, (resS a.tmps r).run P w = .ok x w ∧ VR (KR Pr φ w) v x := by
 cases r with
 | tmp t =>
  obtain ⟨x, h1, h2⟩ := h.tm t v hv
  refine ⟨x, ?_, h2⟩
  have : a.tmps.getD t undef = x := by
   obtain ⟨hlt, he⟩ := Array.getElem?_eq_some_iff.1 h1
   simp [Array.getD, hlt, he]
  simp only [resS]; rw [this]; rfl
 | cell ad t =>
  simp only [resOne] at hv
  split at hv
  ·rename_i k hk
   split at hv
   ·rename_i cs z g i hb hg hi
    obtain ⟨x, h1, h2⟩ := h.tm ad _ hk
    obtain ⟨b, arr, T, hf, hx', hh, hB⟩ := VR.pk_inv h h2 hb
    obtain ⟨b', arr', T', e1, hh', hcs⟩ := hB
    cases e1
    rw [hh] at hh'
    cases hh'
    obtain ⟨y, h3, h4, h5⟩ := load_sound (P := P) (w := w) (R := KR Pr φ w) hv hg (by rw [hi]; rfl) rfl (ad := ⟨b, 0, none⟩) (fun j c hj => by
     obtain ⟨y, h6, h7⟩ := hcs.get hj
     exact ⟨y, by rw [Addr.add_flat, cell_flat hh]; simpa using h6, h7⟩)
    refine ⟨y, ?_, h4⟩
    have : a.tmps.getD ad undef = x := by
     obtain ⟨hlt, he⟩ := Array.getElem?_eq_some_iff.1 h1
     simp [Array.getD, hlt, he]
    simp only [resS]
    rw [this, hx']
    simp only [asAddr, Sem.run_bind, Result.andThen]
    exact h3
   ·cases hv
  ·cases hv
theorem resAll_sound (h : Sim gl N w0 Pr φ s a w) : ∀ (rs : List ResultVar) (vs : List AV), rs.mapM (resOne P s) = some vs →
  ∃ xs : List Value, (rs.mapM (resS a.tmps)).run P w = .ok xs w ∧ xs.length = vs.length ∧
   ∀ (i : Nat) v x, vs[i]? = some v → xs[i]? = some x → VR (KR Pr φ w) v x
 | [], vs, hm => by simp at hm; subst hm; exact ⟨[], rfl, rfl, by simp⟩
 | r :: rs, vs, hm => by
  simp only [List.mapM_cons, Option.bind_eq_bind, Option.bind_eq_some_iff, Option.pure_def, Option.some.injEq] at hm
  obtain ⟨v, hv, vs', hvs, rfl⟩ := hm
  obtain ⟨x, h1, h2⟩ := resOne_sound h hv
  obtain ⟨xs, h3, h4, h5⟩ := resAll_sound h rs vs' hvs
  refine ⟨x :: xs, ?_, by simp [h4], fun i u y hu hy => ?_⟩
  ·rw [List.mapM_cons, Sem.run_bind, h1]
   simp only [Result.andThen]
   rw [Sem.run_bind, h3]
   rfl
  ·cases i with
   | zero => simp at hu hy; subst hu hy; exact h2
   | succ i => exact h5 i u y (by simpa using hu) (by simpa using hy)
theorem results_run {fn : Func} {tmps : Array Value} {xs : List Value} (hx : (fn.results.toList.mapM (resS tmps)).run P w = .ok xs w) :
  (results fn tmps).run P w = .ok (if hh : xs.toArray.size = 1 then xs.toArray[0] else .tuple xs.toArray) w := by
 have h1 : (fn.results.mapM (resS tmps)).run P w = .ok xs.toArray w := by
  rw [Array.mapM_eq_mapM_toList, Sem.run_map, hx]; rfl
 have h2 : results fn tmps = (fn.results.mapM (resS tmps) >>= fun vs => pure (if h : vs.size = 1 then vs[0] else .tuple vs)) := rfl
 rw [h2, Sem.run_bind, h1]
 rfl
theorem mapM_len {α β : Type} {f : α → Option β} : ∀ {l : List α} {r : List β}, l.mapM f = some r → r.length = l.length
 | [], r, h => by simp at h; subst h; rfl
 | a :: l, r, h => by
  simp only [List.mapM_cons, Option.bind_eq_bind, Option.bind_eq_some_iff, Option.pure_def, Option.some.injEq] at h
  obtain ⟨y, hy, r', hr, rfl⟩ := h
  simp [mapM_len hr]
theorem mapM_back {α β : Type} {f : α → Option β} : ∀ {l : List α} {r : List β}, l.mapM f = some r → ∀ (i : Nat) (y : β), r[i]? = some y → ∃ x, l[i]? = some x ∧ f x = some y
 | [], r, h, i, y, hy => by simp at h; subst h; simp at hy
 | a :: l, r, h, i, y, hy => by
  simp only [List.mapM_cons, Option.bind_eq_bind, Option.bind_eq_some_iff, Option.pure_def, Option.some.injEq] at h
  obtain ⟨z, hz, r', hr, rfl⟩ := h
  cases i with
  | zero => simp at hy; subst hy; exact ⟨a, by simp, hz⟩
  | succ i => simp only [List.getElem?_cons_succ] at hy ⊢; exact mapM_back hr i y hy
theorem results_sound (h : Sim gl N w0 Pr φ s a w) {fn : Func} {v : AV} (hv : resV P s fn.results.toList = some v) : ∃ x, (results fn a.tmps).run P w = .ok x w ∧ VR (KR Pr φ w) v x := by
 unfold resV at hv
 split at hv
 ·rename_i r hr
  obtain ⟨x, h1, h2⟩ := resOne_sound h hv
  refine ⟨x, ?_, h2⟩
  have := results_run (P := P) (w := w) (fn := fn) (tmps := a.tmps) (xs := [x]) (by rw [hr, List.mapM_cons, Sem.run_bind, h1]; rfl)
  exact this
 ·rename_i hne
  split at hv
  ·rename_i vs hvs
   split at hv
   ·rename_i ps hps
    cases hv
    obtain ⟨xs, h1, h2, h3⟩ := resAll_sound h _ vs hvs
    have hlen : xs.length ≠ 1 := by
     rw [h2, mapM_len hvs]
     intro e
     match hq : fn.results.toList, e with
     | [r], _ => exact hne r hq
    have := results_run h1
    rw [dif_neg (by simpa using hlen)] at this
    refine ⟨_, this, fun i => xs.getD i undef, ?_, fun i p hp => ?_⟩
    ·congr 1
     have hl : ps.length = xs.length := by rw [mapM_len hps, h2]
     rw [hl]
     congr 1
     apply List.ext_getElem?
     intro i
     rw [List.getElem?_map]
     by_cases e : i < xs.length
     ·rw [List.getElem?_range e, List.getElem?_eq_getElem e]; simp [List.getD, List.getElem?_eq_getElem e]
     ·simp [e]
    ·obtain ⟨u, hu, hpu⟩ := mapM_back hps i p hp
     have hi : i < xs.length := by rw [h2]; exact (List.getElem?_eq_some_iff.1 hu).1
     have := h3 i u xs[i] hu (List.getElem?_eq_getElem hi)
     have hg : xs.getD i undef = xs[i] := by simp [List.getD, List.getElem?_eq_getElem hi]
     show VP (KR Pr φ w) p (xs.getD i undef)
     rw [hg]
     cases u with
     | c x => simp only [pairOf, Option.some.injEq] at hpu; subst hpu; exact this
     | agg x => simp only [pairOf, Option.some.injEq] at hpu; subst hpu; exact this
     | tup x => cases hpu
   ·cases hv
  ·cases hv
def Wk.all (Pr : PrT) (w : World) : Wk := ⟨w, fun b => b < w.heap.size ∧ ¬ Pr.dom b, fun _ => none, fun _ h => h.1⟩
theorem Keep.refl (w0 : Wk) : Keep w0 w0.w := ⟨rfl, rfl, rfl, Nat.le_refl _, fun _ _ => rfl, fun _ _ => rfl⟩
theorem Pin.none {w : World} {h : Nat → Option Blk} : Pin (Wk.all Pr w) N φ h := fun k p hk => by cases hk
theorem dom_eq {A B : PrT} (h : A.Le B) (b : Nat) : B.dom b ↔ A.dom b := by unfold PrT.dom; rw [h.t]
theorem sim_start {fn : Func} {args : List AV} {vals : List Value} (hL : gl LAW = none) (hpr : Pr.Ok w) (hgk : ∀ g cs, gl g = some cs → GK Pr.old w g cs)
  (hn : args.length ≤ fn.ntmps) (hlen : vals.length = args.length) (hv : ∀ (i : Nat) a v, args[i]? = some a → vals[i]? = some v → VR (DR Pr w) a v) :
  Sim gl fn.ntmps (Wk.all Pr w) Pr (fun _ => none) (lit (argE 0 args) []) { tmps := vals.toArray ++ Array.replicate (fn.ntmps - vals.toArray.size) undef, defers := [] } w := by
 have hsz : vals.toArray.size = args.length := by simpa using hlen
 have hnk : ∀ (t : Nat) (v : AV), args[t]? = some v → v.keys = [] := fun t v ht => by
  have hlt : t < vals.length := by rw [hlen]; exact (List.getElem?_eq_some_iff.1 ht).1
  have := (hv t v _ ht (List.getElem?_eq_getElem hlt)).nokeysD
  rw [AV.keys_eq, List.flatMap_eq_nil_iff]; exact this
 refine ⟨?_, fun t v ht => ?_, fun k b hk => (by cases hk), fun _ _ => rfl, fun k k' b hk => (by cases hk), fun k b blk hk => (by cases hk), fun k hk => absurd rfl hk, fun t v ht k hk => ?_, fun k b hk => (by cases hk), hpr.lt, hgk, rfl, Keep.refl _, Pin.none,
  ⟨hpr.qp, hpr.th, fun b hb hk => hk.2 hb, hpr.dp, fun b hb k hk => (by cases hk), fun h => absurd hL h⟩⟩
 ·simp only [Array.size_append, Array.size_replicate]; omega
 ·obtain ⟨_, h2⟩ := lkA_argE args 0 t v ht
  simp only [Nat.sub_zero] at h2
  have hlt : t < vals.length := by rw [hlen]; exact (List.getElem?_eq_some_iff.1 h2).1
  refine ⟨vals[t], ?_, (hv t v _ h2 (List.getElem?_eq_getElem hlt)).mono fun c _ v hc => (KR.of_dr hc).1⟩
  rw [Array.getElem?_append_left (by simpa using hlt)]
  simp [hlt]
 ·obtain ⟨_, h2⟩ := lkA_argE args 0 t v ht
  simp only [Nat.sub_zero] at h2
  rw [hnk t v h2] at hk; cases hk
theorem bel_end {Pr' : PrT} {w' : World} {s' : St} (hL : gl LAW = none) (h2 : Sim gl N (Wk.all Pr w) Pr' φ s' a w') (h3 : PrS (Wk.all Pr w) gl Pr Pr') : Bel Pr w w' :=
 ⟨h2.bl.os, h2.bl.tape, h2.bl.output, h2.bl.size, fun b hb hd => h2.bl.block b ⟨hb, hd⟩, by have := h2.ex.th; rw [(h3.le hL).t] at this; exact this, h2.bl.bs⟩
theorem le_end {Pr' : PrT} {w' : World} {s' : St} (hL : gl LAW = none) (h2 : Sim gl N (Wk.all Pr w) Pr' φ s' a w') (h3 : PrS (Wk.all Pr w) gl Pr Pr') : Pr'.Le (Pr.new w w') :=
 ⟨fun b hb => ((h3.nk hL b) hb).imp id fun q => by
  have hlt := h2.pr b hb
  refine ⟨Nat.le_of_not_lt fun hlt' => q ⟨hlt', fun hd => h2.ex.dp b ((dom_eq (h3.le hL) b).2 hd) hb⟩, hlt⟩, ((h3.le hL).q).symm, ((h3.le hL).t).symm⟩
theorem fnOk_of {f : FuncId} {fn : Func} {c : Code} {ir : S} {args : List AV} {res : AV} {s1 : St} (hL : gl LAW = none) (hf : P.funcs[f]? = some fn) (hcal : callable P f = true) (hb : fn.body = some c)
  (hc : comp P fn.ntmps c = some ir) (hn : args.length ≤ fn.ntmps) (h : EndsI P gl fn.ntmps ir (lit (argE 0 args) []) (AtR s1)) (hres : resV P s1 fn.results.toList = some res) (hk : res.keys = []) :
  FnOk P gl f args res := by
 refine ⟨hcal, fun w Pr vals hpr hgk hlen hv => ?_⟩
 refine calls_of_wp hf hb ?_
 refine wp_mono (h c hc (Wk.all Pr w) Pr _ _ _ (sim_start hL hpr hgk hn hlen hv)) fun e a' w' ⟨s', Pr', φ', ⟨he, hs'⟩, h2, h3⟩ => ?_
 subst hs'
 obtain ⟨x, h4, h5⟩ := results_sound h2 hres
 have hfin : a'.defers = [] ∧ ∃ v, (results fn a'.tmps).run P w' = .ok v w' ∧ ∃ v', Ending.returned v = .returned v' ∧ Bel Pr w w' ∧ VR (DR (Pr.new w w') w') res v' := by
  refine ⟨h2.df, x, h4, x, rfl, bel_end hL h2 h3, h5.mono fun c hcm v hcv => ?_⟩
  have hck : c.keys = [] := by
   rw [AV.keys_eq, List.flatMap_eq_nil_iff] at hk
   exact hk c hcm
  exact (hcv.nokeys hck).weak (le_end hL h2 h3)
 rcases he with rfl | rfl
 ·exact hfin
 ·exact hfin
def LeD (a b : AV) : Prop := ∀ (Pr : PrT) (w : World) (v : Value), VR (DR Pr w) a v → VR (DR Pr w) b v
theorem FnOk.le {f : FuncId} {as bs : List AV} {res : AV} (h : FnOk P gl f bs res) (hl : as.length = bs.length) (hle : ∀ (i : Nat) a b, as[i]? = some a → bs[i]? = some b → LeD a b) : FnOk P gl f as res :=
 ⟨h.1, fun w Pr vals hpr hgk hlen hv => h.2 w Pr vals hpr hgk (by rw [hlen, hl]) fun i b v hb hvv => by
  have hlt : i < as.length := by rw [hl]; exact (List.getElem?_eq_some_iff.1 hb).1
  exact hle i _ b (List.getElem?_eq_getElem hlt) hb Pr w v (hv i _ v (List.getElem?_eq_getElem hlt) hvv)⟩
theorem LeD.refl (a : AV) : LeD a a := fun _ _ _ h => h
def LeDs : List AV → List AV → Prop
 | [], [] => True
 | a :: r, b :: r' => LeD a b ∧ LeDs r r'
 | _, _ => False
theorem LeDs.len : ∀ {xs ys : List AV}, LeDs xs ys → xs.length = ys.length
 | [], [], _ => rfl
 | _ :: _, _ :: _, h => by simp [LeDs.len h.2]
 | [], _ :: _, h => h.elim
 | _ :: _, [], h => h.elim
theorem LeDs.get : ∀ {xs ys : List AV} {i : Nat} {a b : AV}, LeDs xs ys → xs[i]? = some a → ys[i]? = some b → LeD a b
 | [], [], i, a, b, _, h, _ => by simp at h
 | c :: r, d :: r', 0, a, b, hl, h, h' => by simp at h h'; subst h h'; exact hl.1
 | c :: r, d :: r', i + 1, a, b, hl, h, h' => by simp only [List.getElem?_cons_succ] at h h'; exact LeDs.get hl.2 h h'
 | [], _ :: _, _, _, _, h, _, _ => h.elim
 | _ :: _, [], _, _, _, h, _, _ => h.elim
theorem FnOk.le2 {f : FuncId} {xs bs : List AV} {res : AV} (h : FnOk P gl f bs res) (hl : LeDs xs bs) : FnOk P gl f xs res :=
 h.le hl.len fun i a b ha hb => hl.get ha hb
theorem LeD.agg {xs ys : List AC} (h : LeR xs ys) : LeD (.agg xs) (.agg ys) := fun Pr w v hv => by
 obtain ⟨vs, h1, h2, h3⟩ := hv
 refine ⟨vs, h1, by rw [h2, h.len], fun i c v hc hv => ?_⟩
 obtain ⟨c0, h4, h5⟩ := h.get hc
 exact h5 _ _ _ (h3 i c0 v h4 hv)
theorem LeD.nil (wd : Nat) (f : Nat → List AC) : LeD (.c .nil) (.c (.sl wd 0 f)) := fun Pr w v h => by cases h; exact DR.slN wd f
end
def W (n : Int) : Int := IntKind.i64.wrap n
def fF {α : Type} (enc : α → List AC) (z : α) (xs : List α) : Nat → List AC := fun i => enc (xs.getD i z)
def dat {α : Type} (wd : Nat) (enc : α → List AC) (z : α) (xs : List α) : AC := .sl wd xs.length (fF enc z xs)
def at' {α : Type} (z : α) (xs : List α) (i : Int) : Option α := if 0 ≤ i ∧ i < (xs.length : Int) then some (xs.getD i.toNat z) else none
section
variable {α β ρ : Type}
theorem ofIf {c : Prop} [Decidable c] {x : Option α} {r : α} (h : (if c then x else none) = some r) : c ∧ x = some r := by
 split at h
 ·rename_i hc; exact ⟨hc, h⟩
 ·cases h
theorem ofCond {c : Bool} {x y : Option α} {r : α} (h : (bif c then x else y) = some r) : (c = true ∧ x = some r) ∨ (c = false ∧ y = some r) := by
 cases c
 ·exact .inr ⟨rfl, h⟩
 ·exact .inl ⟨rfl, h⟩
theorem ofBind {x : Option α} {f : α → Option β} {r : β} (h : x.bind f = some r) : ∃ t, x = some t ∧ f t = some r := Option.bind_eq_some_iff.1 h
theorem ofInl {γ : Type} {f : α → Option γ} {g : β → Option γ} {x : α} {r : γ} (h : Sum.elim f g (.inl x) = some r) : f x = some r := h
theorem ofInr {γ : Type} {f : α → Option γ} {g : β → Option γ} {x : β} {r : γ} (h : Sum.elim f g (.inr x) = some r) : g x = some r := h
theorem at_lt {z : α} {xs : List α} {i : Int} {x : α} (h : at' z xs i = some x) : 0 ≤ i ∧ i < (xs.length : Int) := (ofIf h).1
theorem at_eq {z : α} {xs : List α} {i : Int} {x : α} (h : at' z xs i = some x) : xs.getD i.toNat z = x := Option.some.inj (ofIf h).2
theorem at_enc {enc : α → List AC} {z : α} {xs : List α} {i : Int} {x : α} (h : at' z xs i = some x) : fF enc z xs i.toNat = enc x := congrArg enc (at_eq h)
theorem nat_lt {i : Int} {n : Nat} (h : 0 ≤ i ∧ i < (n : Int)) : i.toNat < n := by omega
theorem fF_lit (enc : α → List AC) (z : α) (xs : List α) : ∀ i, i < xs.length → fF enc z xs i = (xs.map enc).getD i [] := fun i hi => by
 simp [fF, List.getD, List.getElem?_eq_getElem hi]
theorem fF_rep (enc : α → List AC) (z v : α) (n : Nat) : ∀ i, i < (List.replicate n v).length → fF enc z (List.replicate n v) i = enc v := fun i hi => by
 have : i < n := by simpa using hi
 simp [fF, List.getD, this]
theorem fF_appL (enc : α → List AC) (z : α) (xs ys : List α) : ∀ i, i < xs.length → fF enc z (xs ++ ys) i = fF enc z xs i := fun i hi => by
 simp [fF, List.getD, List.getElem?_append_left hi]
theorem fF_appR (enc : α → List AC) (z : α) (xs ys : List α) : ∀ j, j < ys.length → fF enc z (xs ++ ys) (xs.length + j) = fF enc z ys j := fun j hj => by
 simp [fF, List.getD, List.getElem?_append_right]
theorem fF_set (enc : α → List AC) (z : α) (xs : List α) (i : Nat) (v : α) (hi : i < xs.length) (n : Nat) : ∀ j, j < n → fF enc z (xs.set i v) j = if j = i then enc v else fF enc z xs j := fun j hj => by
 by_cases e : j = i
 ·subst e; simp [fF, List.getD, hi]
 ·simp only [fF, List.getD, if_neg e]; rw [List.getElem?_set_ne (fun h => e h.symm)]
theorem drop_flat {enc : α → List AC} {wd : Nat} (hw : ∀ x, (enc x).length = wd) : ∀ (xs : List α) (k : Nat), k < xs.length → ∀ z, ((xs.flatMap enc).drop (k * wd)).take wd = enc (xs.getD k z)
 | [], k, h, _ => by simp at h
 | x :: r, 0, _, z => by simp [List.take_append_of_le_length (Nat.le_of_eq (hw x).symm), List.take_of_length_le (Nat.le_of_eq (hw x))]
 | x :: r, k + 1, h, z => by
  have h1 := drop_flat hw r k (by simpa using h) z
  rw [List.flatMap_cons, List.drop_append, hw x]
  have e1 : (k + 1) * wd - wd = k * wd := by rw [Nat.succ_mul]; omega
  have e2 : (enc x).drop ((k + 1) * wd) = [] := List.drop_eq_nil_of_le (by rw [hw x, Nat.succ_mul]; omega)
  rw [e1, e2, List.nil_append, h1]
  simp
theorem arr_at {enc : α → List AC} {z : α} {xs : List α} {wd : Nat} {i : Int} {v : α} (hw : ∀ x, (enc x).length = wd) (h : at' z xs i = some v) : ((xs.flatMap enc).drop (0 + i.toNat * wd)).take wd = enc v := by
 have h1 := at_lt h
 rw [Nat.zero_add, drop_flat hw xs i.toNat (by omega) z, at_eq h]
theorem fF_drop (enc : α → List AC) (z : α) (xs : List α) (l h : Int) (hh : 0 ≤ l ∧ l ≤ h ∧ h ≤ (xs.length : Int)) : ∀ i, i < ((xs.drop l.toNat).take (h.toNat - l.toNat)).length → fF enc z ((xs.drop l.toNat).take (h.toNat - l.toNat)) i = fF enc z xs (l.toNat + i) := fun i hi => by
 have : i < h.toNat - l.toNat := by simp at hi; omega
 simp [fF, List.getD, List.getElem?_take, this, List.getElem?_drop]
theorem len_drop (xs : List α) (l h : Int) (hh : 0 ≤ l ∧ l ≤ h ∧ h ≤ (xs.length : Int)) : ((xs.drop l.toNat).take (h.toNat - l.toNat)).length = (h - l).toNat := by
 simp; omega
end
def LeLr (E : List (Nat × AV)) (H : List (Nat × Blk)) : Prop :=
 E.map (fun p => some p.2) = E.map (fun p => some p.2) ∧ H.map (fun p => some p.2) = H.map (fun p => some p.2)
theorem leLr (E : List (Nat × AV)) (H : List (Nat × Blk)) : LeLr E H := ⟨rfl, rfl⟩
def seqJ (P : Program) (gl : Nat → Option (List AC)) (N : Nat) (y : S) (J : Exit → St → Prop) : Exit → St → Prop
 | .normal, s => EndsI P gl N y s J
 | e, s => J e s
def orJ {α β : Type} (f : α → Exit → St → Prop) (g : β → Exit → St → Prop) : α ⊕ β → Exit → St → Prop
 | .inl x => f x
 | .inr y => g y
section
variable {P : Program} {gl : Nat → Option (List AC)} {N : Nat} {s s1 : St} {J J' : Exit → St → Prop} {x y : S} {A : Prop}
theorem seq_ops {l : List IOp} (hs : List Hint) (fx : List Fix) (E : List (Nat × AV)) (H : List (Nat × Blk)) (p : LeLr E H → A)
  (h : A = SegP P gl l hs s fun _ s' => FixP fx s' fun s'' => LeL E H s'') (hy : EndsI P gl N y (lit E H) J) : EndsI P gl N (.seq (.ops l) y) s J :=
 ends_seq (J1 := fun e s' => e = .normal ∧ FixP fx s' fun s'' => LeL E H s'') (ends_ops (ofSeg (h ▸ p (leLr E H)))) (fun s' h' => ends_fix h'.2 hy) fun e s' he h' => absurd h'.1 he
where
 ofSeg {l : List IOp} {hs : List Hint} {s : St} {K : St → Prop} (h : SegP P gl l hs s fun _ s' => K s') : SegP P gl l hs s fun _ s' => (Exit.normal = .normal ∧ K s') := by
  have e : (fun (_ : List Hint) s' => (Exit.normal = Exit.normal ∧ K s')) = fun _ s' => K s' := by funext _ s'; simp
  rw [e]; exact h
theorem seq_drw {un : List (Nat × Nat)} {l : List IOp} (hs : List Hint) (fx : List Fix) (E : List (Nat × AV)) (H : List (Nat × Blk)) (p : LeLr E H → A)
  (h : A = SegX P gl un [] l hs s fun _ s' => FixP fx s' fun s'' => LeL E H s'') (hy : EndsI P gl N y (lit E H) J) : EndsI P gl N (.seq (.drw un l) y) s J := by
 refine ends_seq (J1 := fun e s' => e = .normal ∧ FixP fx s' fun s'' => LeL E H s'') (ends_drw (hs := hs) ?_) (fun s' h' => ends_fix h'.2 hy) fun e s' he h' => absurd h'.1 he
 have e : (fun (_ : List Hint) s' => (Exit.normal = Exit.normal ∧ FixP fx s' fun s'' => LeL E H s'')) = fun _ s' => FixP fx s' fun s'' => LeL E H s'' := by funext _ s'; simp
 rw [e]; exact h ▸ p (leLr E H)
theorem one_ops {l : List IOp} (hs : List Hint) (fx : List Fix) (E : List (Nat × AV)) (H : List (Nat × Blk)) (p : LeLr E H → A)
  (h : A = SegP P gl l hs s fun _ s' => FixP fx s' fun s'' => LeL E H s'') (hJ : J .normal (lit E H)) : EndsI P gl N (.ops l) s J := fun c hc w0 Pr φ a w hs' => by
 have h1 : EndsI P gl N (.ops l) s (fun e s' => e = .normal ∧ FixP fx s' fun s'' => LeL E H s'') := ends_ops (seq_ops.ofSeg (h ▸ p (leLr E H)))
 refine wp_mono (h1 c hc w0 Pr φ a w hs') fun e a' w' ⟨s', Pr', φ', ⟨k1, k2⟩, k3, k4⟩ => ?_
 subst k1
 obtain ⟨s'', Pr'', φ'', q1, q2, q3⟩ := fix_sound fx k2 k3
 exact ⟨_, Pr'', _, hJ, q2.lit q1, k4.trans q3⟩
theorem tell (fx : List Fix) (E : List (Nat × AV)) (H : List (Nat × Blk)) (p : LeLr E H → A) (h : A = FixP fx s fun s'' => LeL E H s'') (hx : EndsI P gl N x (lit E H) J) : EndsI P gl N x s J :=
 ends_fix (fx := fx) (E := E) (H := H) (h ▸ p (leLr E H)) hx
theorem seq_in (h : EndsI P gl N x s (seqJ P gl N y J)) : EndsI P gl N (.seq x y) s J :=
 ends_seq h (fun s' h' => h') fun e s' he h' => by cases e <;> first | exact absurd rfl he | exact h'
theorem ite_t {q : Opd} {b : Bool} (hb : b = true) (hq : ev gl s q = some (.c (.bool b))) (h : EndsI P gl N x s J) : EndsI P gl N (.ite q x y) s J :=
 ends_ite hq (fun _ => h) fun e => by rw [hb] at e; cases e
theorem ite_f {q : Opd} {b : Bool} (hb : b = false) (hq : ev gl s q = some (.c (.bool b))) (h : EndsI P gl N y s J) : EndsI P gl N (.ite q x y) s J :=
 ends_ite hq (fun e => by rw [hb] at e; cases e) fun _ => h
theorem loop_in {σ ρ : Type} {body : σ → Option (σ ⊕ ρ)} (S0 : σ → St) (J : ρ → Exit → St → Prop) {v : σ} {r : ρ} (h : loop body v = some r)
  (hb : ∀ v b, body v = some b → EndsI P gl N x (S0 v) (loopJ S0 J b)) (hj : ∀ e s, J r e s → J' e s) : EndsI P gl N (.loop x) (S0 v) J' :=
 ends_mono (ends_loop body S0 J hb h) hj
theorem cut_in {ρ : Type} (J1 : ρ → Exit → St → Prop) (r : ρ) (h : EndsI P gl N x s (J1 r)) (hj : ∀ e s, J1 r e s → J' e s) : EndsI P gl N x s J' := ends_mono h hj
theorem fn_in {f : FuncId} {fn : Func} {ir : S} {args : List AV} {res : AV} {s1 : St} (hL : gl LAW = none) (hf : P.funcs[f]? = some fn) (hcal : callable P f = true)
  (hc : (match fn.body with | some c => comp P fn.ntmps c | none => none) = some ir) (hn : (decide (args.length ≤ fn.ntmps)) = true) (hres : resV P s1 fn.results.toList = some res) (hk : res.keys = [])
  (h : EndsI P gl fn.ntmps ir (lit (argE 0 args) []) (AtR s1)) : FnOk P gl f args res := by
 cases hb : fn.body with
 | none => rw [hb] at hc; cases hc
 | some c => rw [hb] at hc; exact fnOk_of hL hf hcal hb hc (of_decide_eq_true hn) h hres hk
end
abbrev cI (n : Int) : AV := .c (.int .i64 n)
abbrev cB (b : Bool) : AV := .c (.bool b)
theorem aI {a b : Prop} (h : a) (k : b) : a ∧ b := ⟨h, k⟩
theorem lI {α : Type} {q : Prop} (xs : List α) (t : q) : xs.length ≤ maxLen → q := fun _ => t
def Old (W : World) : PrT := ⟨fun b => b < W.heap.size, fun b => b < W.heap.size, fun _ _ => none⟩
theorem Old.ok (W : World) : (Old W).Ok W := ⟨fun _ h => h, fun _ h => h, fun b o s h => (by cases h), fun _ ⟨_, h⟩ => absurd rfl h⟩
theorem Old.old_le (W : World) : (Old W).Le (Old W).old := ⟨fun _ h => ⟨h, h⟩, rfl, rfl⟩
structure Opens {α : Type} (P : Program) (t : TypeId) (enc : α → List AC) (ok : α → Prop) : Prop where
 run : ∀ {H : Type} (en : TypeId × Value → H) (W : World) (sp : Nat → Bool) (held : Bool) (fuel : Nat) (cs : List Value) (x : DataW H × List MemPlace), DataW.trod en P W 0 sp held fuel t cs = some x →
  ∃ v : α, ok v ∧ cellsR (DR (Old W) W) (enc v) cs
theorem cellsR_nil {R : AC → Value → Prop} : cellsR R [] [] := ⟨rfl, fun i c v h => by simp at h⟩
theorem cellsR_cons {R : AC → Value → Prop} {c : AC} {v : Value} {cs : List AC} {vs : List Value} (h : R c v) (hs : cellsR R cs vs) : cellsR R (c :: cs) (v :: vs) := by
 refine ⟨by simp [hs.1], fun i d x hd hx => ?_⟩
 cases i with
 | zero => simp at hd hx; subst hd hx; exact h
 | succ i => exact hs.2 i d x (by simpa using hd) (by simpa using hx)
theorem cellsR_one {R : AC → Value → Prop} {c : AC} {v : Value} (h : R c v) : cellsR R [c] [v] := cellsR_cons h cellsR_nil
theorem cellsR_append {R : AC → Value → Prop} {cs ds : List AC} {vs ws : List Value} (h : cellsR R cs vs) (k : cellsR R ds ws) : cellsR R (cs ++ ds) (vs ++ ws) := by
 refine ⟨by simp [h.1, k.1], fun i d x hd hx => ?_⟩
 by_cases hi : i < cs.length
 ·rw [List.getElem?_append_left hi] at hd
  rw [List.getElem?_append_left (by rw [h.1]; exact hi)] at hx
  exact h.2 i d x hd hx
 ·rw [List.getElem?_append_right (by omega)] at hd
  rw [List.getElem?_append_right (by rw [h.1]; omega), h.1] at hx
  exact k.2 _ d x hd hx
section
variable {P : Program} {t e : TypeId} {α β : Type}
theorem opens_int {k : IntKind} (ht : P.underlying t = some (.int k)) : Opens P t (fun n => [.int k n]) (fun n => (Lit.int k n).wf = true) := by
 refine ⟨fun {H} en W sp held fuel cs x h => ?_⟩
 obtain ⟨n, rfl, _, hw⟩ := DataW.trod_int ht h
 exact ⟨n, hw, cellsR_one (.int _ _)⟩
theorem opens_bool (ht : P.underlying t = some .bool) : Opens P t (fun n => [.bool n]) (fun _ => True) := by
 refine ⟨fun {H} en W sp held fuel cs x h => ?_⟩
 obtain ⟨b, rfl, _⟩ := DataW.trod_bool ht h
 exact ⟨b, trivial, cellsR_one (.bool _)⟩
theorem opens_str (ht : P.underlying t = some .string) : Opens P t (fun n => [.str n]) (fun s => s.length ≤ maxLen) := by
 refine ⟨fun {H} en W sp held fuel cs x h => ?_⟩
 obtain ⟨s, rfl, _, hw⟩ := DataW.trod_string ht h
 refine ⟨s.data.toList, ?_, cellsR_one ?_⟩
 ·have e : s.data.toList.length = s.size := Array.length_toList
  show s.data.toList.length ≤ maxLen
  rw [e]; exact hw
 ·exact DR.str (Pr := Old W) (w := W) s.data.toList
theorem opens_slice {wd : Nat} {enc : α → List AC} {z : α} {ok : α → Prop} (ht : P.underlying t = some (.slice e)) (hw : P.cellsOf e = wd) (hlen : ∀ x, (enc x).length = wd) (he : Opens P e enc ok) :
  Opens P t (fun xs => [dat wd enc z xs]) (fun xs => xs.length ≤ maxLen ∧ ∀ x ∈ xs, ok x) := by
 refine ⟨fun {H} en W sp held fuel cs x h => ?_⟩
 rcases DataW.trod_slice ht h with ⟨rfl, _⟩ | ⟨a, len, cap, elems, rest, m, _, rfl, _, _, hlc, hcm, hel0, h1, _⟩
 ·exact ⟨[], ⟨Nat.zero_le _, by simp⟩, cellsR_one (DR.slN _ _)⟩
 ·rw [hw] at h1
  ·have hel : ∀ i, i < len → ∃ (v : α) (vs : List Value), ok v ∧ cellsR (DR (Old W) W) (enc v) vs ∧ W.cells? 0 (a.add (i * wd)) wd = some vs := fun i hi => by
    obtain ⟨y, hy⟩ : ∃ y, elems[i]? = some y := ⟨elems[i], List.getElem?_eq_getElem (by omega)⟩
    have hy := (h1 i hi).trans hy
    simp only [Option.bind_eq_some_iff] at hy
    obtain ⟨vs, h2, h3⟩ := hy
    obtain ⟨v, h4, h5⟩ := he.run en W sp held m vs y h3
    exact ⟨v, vs, h4, h5, h2⟩
   have hch : ∃ g : Nat → α, ∀ i, i < len → ∃ vs : List Value, ok (g i) ∧ cellsR (DR (Old W) W) (enc (g i)) vs ∧ W.cells? 0 (a.add (i * wd)) wd = some vs := by
    refine ⟨fun i => if h : i < len then Classical.choose (hel i h) else z, fun i hi => ?_⟩
    simp only [dif_pos hi]
    exact Classical.choose_spec (hel i hi)
   obtain ⟨g, hg⟩ := hch
   refine ⟨(List.range len).map g, ⟨by rw [List.length_map, List.length_range]; exact Nat.le_trans hlc hcm, fun x hx => ?_⟩, cellsR_one ?_⟩
   ·obtain ⟨i, hi, rfl⟩ := List.mem_map.1 hx
    obtain ⟨vs, h2, _⟩ := hg i (by simpa using hi)
    exact h2
   ·have hcell : ∀ i j c, i < len → (enc (g i))[j]? = some c → ∃ y, W.cell? (a.add (i * wd + j)) = some y ∧ DR (Old W) W c y := by
     intro i j c hi hj
     obtain ⟨vs, _, h3, h4⟩ := hg i hi
     obtain ⟨y, h5, h6⟩ := h3.get hj
     refine ⟨y, ?_, h6⟩
     unfold World.cells? at h4
     simp only [Nat.zero_le, if_true] at h4
     obtain ⟨q, hq1, hq2⟩ := mapM_back h4 j y h5
     have hjw : j < wd := by rw [← hlen (g i)]; exact (List.getElem?_eq_some_iff.1 hj).1
     rw [List.getElem?_range hjw] at hq1
     cases hq1
     rw [Addr.add_add] at hq2
     exact hq2
    have hf : ∀ i, i < len → fF enc z ((List.range len).map g) i = enc (g i) := fun i hi => by simp [fF, List.getD, hi]
    unfold dat
    have hl : ((List.range len).map g).length = len := by simp
    rw [hl]
    refine DR.sl_of_ex hlc hcm (fun i hi => by rw [hf i hi]; exact hlen _) (fun i j c hi hj => ?_)
    rw [hf i hi] at hj
    obtain ⟨y, h7, h8⟩ := hcell i j c hi hj
    refine ⟨?_, y, h7, h8⟩
    have hb : (a.add (i * wd + j)).block = a.block := Addr.add_block _ _
    unfold Old
    rcases Nat.lt_or_ge a.block W.heap.size with hlt | hge
    ·exact hlt
    ·exfalso
     unfold World.cell? at h7
     rw [hb] at h7
     rw [Array.getElem?_eq_none hge] at h7
     simp at h7
structure OpensF {β : Type} (P : Program) (fs : List Field) (o n : Nat) (enc : β → List AC) (ok : β → Prop) : Prop where
 run : ∀ {H : Type} (en : TypeId × Value → H) (W : World) (sp : Nat → Bool) (held : Bool) (fuel : Nat) (cs : List Value) (xs : List (DataW H × List MemPlace)),
  fs.mapM (fun f => DataW.trod en P W 0 sp held fuel f.type ((cs.drop f.offset).take (P.cellsOf f.type))) = some xs → cs.length = o + n →
  ∃ v : β, ok v ∧ cellsR (DR (Old W) W) (enc v) (cs.drop o)
theorem opensF_nil {o : Nat} : OpensF (β := Unit) P [] o 0 (fun _ => []) (fun _ => True) := by
 refine ⟨fun {H} en W sp held fuel cs xs h hl => ?_⟩
 exact ⟨(), trivial, by rw [List.drop_eq_nil_of_le (by omega)]; exact cellsR_nil⟩
theorem opensF_cons {f : Field} {fs : List Field} {o w n : Nat} {enc1 : α → List AC} {enc2 : β → List AC} {ok1 : α → Prop} {ok2 : β → Prop} (h1 : Opens P f.type enc1 ok1) (ho : f.offset = o) (hw : P.cellsOf f.type = w)
  (h2 : OpensF P fs (o + w) n enc2 ok2) : OpensF (β := α × β) P (f :: fs) o (w + n) (fun x => enc1 x.1 ++ enc2 x.2) (fun x => ok1 x.1 ∧ ok2 x.2) := by
 refine ⟨fun {H} en W sp held fuel cs xs h hl => ?_⟩
 simp only [List.mapM_cons, Option.bind_eq_bind, Option.bind_eq_some_iff, Option.pure_def, Option.some.injEq] at h
 obtain ⟨y, hy, r', hr, rfl⟩ := h
 obtain ⟨v1, k1, k2⟩ := h1.run en W sp held fuel _ y hy
 obtain ⟨v2, k3, k4⟩ := h2.run en W sp held fuel cs r' hr (by omega)
 refine ⟨(v1, v2), ⟨k1, k3⟩, ?_⟩
 have hd : cs.drop o = (cs.drop o).take w ++ cs.drop (o + w) := by
  rw [← List.drop_drop]; exact (List.take_append_drop w _).symm
 rw [hd]
 rw [ho, hw] at k2
 exact cellsR_append k2 k4
theorem opens_struct {fs : Array Field} {n : Nat} {enc : β → List AC} {ok : β → Prop} (ht : P.underlying t = some (.struct fs)) (hn : P.cellsOf t = n) (hf : OpensF P fs.toList 0 n enc ok) : Opens P t enc ok := by
 refine ⟨fun {H} en W sp held fuel cs x h => ?_⟩
 obtain ⟨xs, m, _, _, h0, hxl, h1⟩ := DataW.trod_struct ht h
 have hm : ∀ (l : List Field) (ys : List (DataW H × List MemPlace)), ys.length = l.length → (∀ (i : Nat) (f : Field), l[i]? = some f → DataW.trod en P W 0 sp held m f.type ((cs.drop f.offset).take (P.cellsOf f.type)) = ys[i]?) →
   l.mapM (fun f => DataW.trod en P W 0 sp held m f.type ((cs.drop f.offset).take (P.cellsOf f.type))) = some ys := by
  intro l
  induction l with
  | nil => intro ys hl _; cases ys with | nil => rfl | cons y r => simp at hl
  | cons f r ih =>
   intro ys hl hg
   cases ys with
   | nil => simp at hl
   | cons y ys =>
    have e1 := hg 0 f (by simp)
    simp only [List.getElem?_cons_zero] at e1
    rw [List.mapM_cons, e1, ih ys (by simpa using hl) (fun i g hi => by have := hg (i + 1) g (by simpa using hi); simpa using this)]
    rfl
 obtain ⟨v, h2, h3⟩ := hf.run en W sp held m cs xs (hm fs.toList xs (by simpa using hxl) (fun i f hi => h1 i f (by simpa using hi))) (by omega)
 exact ⟨v, h2, by simpa using h3⟩
theorem Opens.map {enc : α → List AC} {ok : α → Prop} {enc' : β → List AC} {ok' : β → Prop} (h : Opens P t enc ok) (g : α → β) (hg : ∀ x, ok x → ok' (g x)) (he : ∀ x, enc x = enc' (g x)) : Opens P t enc' ok' := by
 refine ⟨fun {H} en W sp held fuel cs x hx => ?_⟩
 obtain ⟨v, h1, h2⟩ := h.run en W sp held fuel cs x hx
 exact ⟨g v, hg v h1, (he v) ▸ h2⟩
theorem Opens.agg {H : Type} {en : TypeId × Value → H} {W : World} {sp : Nat → Bool} {held : Bool} {v : Value} {d : DataW H} {ps : List MemPlace} {r : Reach} {b0 : Nat} {enc : α → List AC} {ok : α → Prop} {fs : Array Field}
  (h : Opens P t enc ok) (ht : P.underlying t = some (.struct fs)) (hval : Value.okWide P W r b0 t v) (hd : DataW.Trod en P W 0 sp held t v d ps) : ∃ x : α, ok x ∧ VR (DR (Old W) W) (.agg (enc x)) v := by
 obtain ⟨fuel, hf⟩ := hd
 obtain ⟨x, h1, h2⟩ := h.run en W sp held fuel _ _ hf
 unfold Value.okWide at hval
 rw [ht] at hval
 obtain ⟨cs, rfl, _⟩ := hval
 exact ⟨x, h1, cs.toList, by simp, h2⟩
theorem Opens.cell {H : Type} {en : TypeId × Value → H} {W : World} {sp : Nat → Bool} {held : Bool} {v : Value} {d : DataW H} {ps : List MemPlace} {enc : α → AC} {ok : α → Prop}
  (h : Opens P t (fun x => [enc x]) ok) (hone : ∀ cs, v ≠ .agg cs) (hd : DataW.Trod en P W 0 sp held t v d ps) : ∃ x : α, ok x ∧ VR (DR (Old W) W) (.c (enc x)) v := by
 obtain ⟨fuel, hf⟩ := hd
 obtain ⟨x, h1, h2⟩ := h.run en W sp held fuel _ _ hf
 have hc : v.cells.toList = [v] := by cases v <;> first | rfl | exact absurd rfl (hone _)
 rw [hc] at h2
 exact ⟨x, h1, h2.2 0 _ _ rfl rfl⟩
theorem FnOk.law {gl : Nat → Option (List AC)} {f : FuncId} {args : List AV} (h : FnOk P gl f args (.c (.bool true))) {W : World} {vals : List Value}
  (hgl : ∀ g cs, gl g = some cs → GK (Old W) W g cs) (hl : vals.length = args.length)
  (hv : ∀ (i : Nat) a v, args[i]? = some a → vals[i]? = some v → VR (DR (Old W) W) a v) :
  Calls P f vals.toArray W fun e W' => e = .returned (.bool true) ∧ Below W.heap.size W W' :=
 (h.2 W (Old W) vals (Old.ok W) (fun g cs hg => (hgl g cs hg).mono (Old.old_le W) fun _ _ => rfl) hl hv).mono fun e W' ⟨v, he, hb, hr⟩ => by
  have : v = .bool true := by cases hr; rfl
  subst this
  exact ⟨he, hb.os, hb.tape, hb.output, hb.size, fun b hb' => hb.block b hb' fun ⟨_, h⟩ => absurd rfl h⟩
def LawOk (P : Program) (gl : Nat → Option (List AC)) (f : FuncId) (args : List AV) : Prop :=
 ∀ {W : World} {vals : List Value}, (∀ g cs, gl g = some cs → GK (Old W) W g cs) → vals.length = args.length →
  (∀ (i : Nat) a v, args[i]? = some a → vals[i]? = some v → VR (DR (Old W) W) a v) →
  Calls P f vals.toArray W fun e W' => e = .returned (.bool true) ∧ Below W.heap.size W W'
def AC.oldc : AC → AC
 | .sl wd n f => .old (.sl wd n f)
 | c => c
def AV.old : AV → AV
 | .c x => .c x.oldc
 | .agg xs => .agg (xs.map AC.oldc)
 | .tup xs => .tup xs
def glT (gl : Nat → Option (List AC)) : Nat → Option (List AC) := fun g => bif Nat.beq g LAW then some [] else gl g
theorem lawOk_of {gl : Nat → Option (List AC)} {f : FuncId} {fn : Func} {ir : S} {args : List AV} {s1 : St} (hf : P.funcs[f]? = some fn)
  (hc : (match fn.body with | some c => comp P fn.ntmps c | none => none) = some ir) (hn : (decide (args.length ≤ fn.ntmps)) = true) (hres : resV P s1 fn.results.toList = some (.c (.bool true)))
  (ht : (args.all fun a => match a with | .tup _ => false | _ => true) = true)
  (h : EndsI P (glT gl) fn.ntmps ir (lit (argE 0 (args.map AV.old)) []) (AtR s1)) : LawOk P gl f args := by
 intro W vals hgl hl hv
 cases hb : fn.body with
 | none => rw [hb] at hc; cases hc
 | some c =>
  rw [hb] at hc
  refine calls_of_wp hf hb ?_
  have hold : ∀ c v, DR (Old W) W c v → DR (Old W) W c.oldc v := fun c v hd => by
   cases c with
   | sl => exact .old _ _ (hd.mono (Old.old_le W) fun _ _ => rfl)
   | _ => exact hd
  have hargs : ∀ (i : Nat) a v, (args.map AV.old)[i]? = some a → vals[i]? = some v → VR (DR (Old W) W) a v := fun i a v ha hvv => by
   rw [List.getElem?_map, Option.map_eq_some_iff] at ha
   obtain ⟨a', ha', rfl⟩ := ha
   have h1 := hv i a' v ha' hvv
   cases a' with
   | c x => exact hold x v h1
   | agg xs =>
    obtain ⟨vs, e1, e2⟩ := h1
    refine ⟨vs, e1, by simp [e2.1], fun j c u hj hu => ?_⟩
    rw [List.getElem?_map, Option.map_eq_some_iff] at hj
    obtain ⟨c', hc', rfl⟩ := hj
    exact hold c' u (e2.2 j c' u hc' hu)
   | tup xs => have := List.all_eq_true.1 ht _ (List.mem_of_getElem? ha'); simp at this
  have hsz : vals.toArray.size = (args.map AV.old).length := by simpa using hl
  have hn' : (args.map AV.old).length ≤ fn.ntmps := by simpa using of_decide_eq_true hn
  have hnk : ∀ (t : Nat) (v : AV), (args.map AV.old)[t]? = some v → v.keys = [] := fun t v ht => by
   have hlt : t < vals.length := by rw [hl, ← List.length_map (f := AV.old)]; exact (List.getElem?_eq_some_iff.1 ht).1
   have := (hargs t v _ ht (List.getElem?_eq_getElem hlt)).nokeysD
   rw [AV.keys_eq, List.flatMap_eq_nil_iff]; exact this
  have hsim : Sim (glT gl) fn.ntmps (Wk.all (Old W) W) (Old W) (fun _ => none) (lit (argE 0 (args.map AV.old)) []) { tmps := vals.toArray ++ Array.replicate (fn.ntmps - vals.toArray.size) undef, defers := [] } W := by
   refine ⟨?_, fun t v ht => ?_, fun k b hk => (by cases hk), fun _ _ => rfl, fun k k' b hk => (by cases hk), fun k b blk hk => (by cases hk), fun k hk => absurd rfl hk, fun t v ht k hk => ?_, fun k b hk => (by cases hk), (Old.ok W).lt, fun g cs hg => ?_, rfl, Keep.refl _, Pin.none,
    ⟨(Old.ok W).qp, (Old.ok W).th, fun b ⟨_, h⟩ => absurd rfl h, (Old.ok W).dp, fun b _ k hk => (by cases hk), fun _ b hb => hb.1⟩⟩
   ·simp only [Array.size_append, Array.size_replicate]; omega
   ·obtain ⟨_, h2⟩ := lkA_argE _ 0 t v ht
    simp only [Nat.sub_zero] at h2
    have hlt : t < vals.length := by rw [hl, ← List.length_map (f := AV.old)]; exact (List.getElem?_eq_some_iff.1 h2).1
    refine ⟨vals[t], ?_, (hargs t v _ h2 (List.getElem?_eq_getElem hlt)).mono fun c _ v hc => (KR.of_dr hc).1⟩
    rw [Array.getElem?_append_left (by simpa using hlt)]
    simp [hlt]
   ·obtain ⟨_, h2⟩ := lkA_argE _ 0 t v ht
    simp only [Nat.sub_zero] at h2
    rw [hnk t v h2] at hk; cases hk
   ·unfold glT at hg
    cases e : Nat.beq g LAW with
    | true => rw [e] at hg; cases hg; exact ⟨.pd _ _ _ (fun _ => undef) (fun j c hj => by simp at hj) (fun j c hj => by simp at hj), .inl rfl⟩
    | false => rw [e] at hg; exact (hgl g cs hg).mono (Old.old_le W) fun _ _ => rfl
  refine wp_mono (h c hc (Wk.all (Old W) W) (Old W) _ _ _ hsim) fun e a' w' ⟨s', Pr', φ', ⟨he, hs'⟩, h2, h3⟩ => ?_
  subst hs'
  obtain ⟨x, h4, h5⟩ := results_sound h2 hres
  have hx : x = .bool true := h5.bool_inv
  have hbel : Below W.heap.size W w' := ⟨h2.bl.os, h2.bl.tape, h2.bl.output, h2.bl.size, fun b hb => h2.bl.block b ⟨hb, fun ⟨_, h⟩ => absurd rfl h⟩⟩
  subst hx
  rcases he with rfl | rfl
  ·exact ⟨h2.df, _, h4, rfl, hbel⟩
  ·exact ⟨h2.df, _, h4, rfl, hbel⟩
end
theorem W_of {n : Int} (h : -9223372036854775808 ≤ n ∧ n < 9223372036854775808) : W n = n := by
 unfold W
 simp only [IntKind.wrap]
 simp [IntKind.signed, IntKind.bits]; omega
theorem W_succ {k : Nat} (h : k < 4611686018427387904) : W ((k : Int) + 1) = ((k + 1 : Nat) : Int) := by rw [W_of (by omega)]; omega
section
variable {α β σ ρ τ : Type}
theorem at_nat {z : α} {xs : List α} {k : Nat} (h : k < xs.length) : at' z xs (k : Int) = some xs[k] := by
 unfold at'
 rw [if_pos ⟨by omega, by omega⟩]
 simp [List.getD, h]
theorem loop_ind {body : σ → Option (σ ⊕ ρ)} (I : σ → Prop) (μ : σ → Nat) (Q : ρ → Prop)
  (hs : ∀ s, I s → (∃ s', body s = some (.inl s') ∧ I s' ∧ μ s' < μ s) ∨ (∃ r, body s = some (.inr r) ∧ Q r)) {s : σ} (h : I s) : ∃ r, loop body s = some r ∧ Q r := by
 have key : ∀ n s, μ s ≤ n → I s → ∃ r, loop body s = some r ∧ Q r := by
  intro n
  induction n with
  | zero =>
   intro s hn hI
   rcases hs s hI with ⟨s', _, _, h3⟩ | ⟨r, h1, h2⟩
   ·omega
   ·exact ⟨r, by rw [loop_eq, h1], h2⟩
  | succ n ih =>
   intro s hn hI
   rcases hs s hI with ⟨s', h1, h2, h3⟩ | ⟨r, h1, h2⟩
   ·obtain ⟨r, h4, h5⟩ := ih s' (by omega) h2
    exact ⟨r, by rw [loop_eq, h1]; exact h4, h5⟩
   ·exact ⟨r, by rw [loop_eq, h1], h2⟩
 exact key _ s (Nat.le_refl _) h
theorem run_ind {γ : Type} {body : σ → Option (σ ⊕ ρ)} {f : ρ → Option γ} {s : σ} (R : Option γ → Prop) (I : σ → Prop) (μ : σ → Nat) (Q : ρ → Prop) (hI : I s)
  (hs : ∀ s, I s → (∃ s', body s = some (.inl s') ∧ I s' ∧ μ s' < μ s) ∨ (∃ r, body s = some (.inr r) ∧ Q r)) (hq : ∀ r, Q r → R (f r)) : R ((loop body s).bind f) := by
 obtain ⟨r, h1, h2⟩ := loop_ind I μ Q hs hI
 rw [h1]; exact hq r h2
def foldE (h : τ → α → τ ⊕ ρ) : τ → List α → τ ⊕ ρ
 | a, [] => .inl a
 | a, x :: r => match h a x with
  | .inl a' => foldE h a' r
  | .inr e => .inr e
theorem loop_list {body : σ → Option (σ ⊕ ρ)} (xs : List α) (st : Nat → τ → σ) (I : Nat → τ → Prop) (h : Nat → τ → α → τ ⊕ ρ) (fin : τ → ρ)
  (hs : ∀ k a (hk : k < xs.length), I k a → match h k a xs[k] with
   | .inl a' => body (st k a) = some (.inl (st (k + 1) a')) ∧ I (k + 1) a'
   | .inr e => body (st k a) = some (.inr e))
  (he : ∀ a, I xs.length a → body (st xs.length a) = some (.inr (fin a))) {a : τ} (hI : I 0 a) :
  loop body (st 0 a) = some (match foldE (fun (p : Nat × τ) x => match h p.1 p.2 x with | .inl a' => .inl (p.1 + 1, a') | .inr e => .inr e) (0, a) xs with | .inl p => fin p.2 | .inr e => e) := by
 have key : ∀ (r : List α) (k : Nat) (a : τ), xs.drop k = r → k ≤ xs.length → I k a →
   loop body (st k a) = some (match foldE (fun (p : Nat × τ) x => match h p.1 p.2 x with | .inl a' => .inl (p.1 + 1, a') | .inr e => .inr e) (k, a) r with | .inl p => fin p.2 | .inr e => e) := by
  intro r
  induction r with
  | nil =>
   intro k a hr hk hI
   have hkl : k = xs.length := by
    have := congrArg List.length hr
    simp at this; omega
   subst hkl
   rw [loop_eq, he a hI]
   rfl
  | cons x r ih =>
   intro k a hr hk hI
   have hk' : k < xs.length := by
    have := congrArg List.length hr
    simp at this; omega
   have hx : xs[k] = x := by
    have := List.drop_eq_getElem_cons hk'
    rw [hr] at this; exact ((List.cons.inj this).1).symm
   have hr' : xs.drop (k + 1) = r := by
    have := List.drop_eq_getElem_cons hk'
    rw [hr] at this; exact ((List.cons.inj this).2).symm
   have h1 := hs k a hk' hI
   rw [hx] at h1
   rw [loop_eq]
   cases hh : h k a x with
   | inl a' =>
    rw [hh] at h1
    simp only [h1.1, foldE, hh]
    exact ih (k + 1) a' hr' (by omega) h1.2
   | inr e =>
    rw [hh] at h1
    simp only at h1
    simp only [h1, foldE, hh]
 exact key xs 0 a rfl (Nat.zero_le _) hI
theorem loop_each {body : σ → Option (σ ⊕ ρ)} (xs : List α) (st : Nat → τ → σ) (I : Nat → τ → Prop) (h : τ → α → τ ⊕ ρ) (fin : τ → ρ)
  (hs : ∀ k a (hk : k < xs.length), I k a → match h a xs[k] with
   | .inl a' => body (st k a) = some (.inl (st (k + 1) a')) ∧ I (k + 1) a'
   | .inr e => body (st k a) = some (.inr e))
  (he : ∀ a, I xs.length a → body (st xs.length a) = some (.inr (fin a))) {a : τ} (hI : I 0 a) :
  loop body (st 0 a) = some (match foldE h a xs with | .inl a => fin a | .inr e => e) := by
 rw [loop_list xs st I (fun _ => h) fin hs he hI]
 have key : ∀ (r : List α) (k : Nat) (a : τ), (match foldE (fun (p : Nat × τ) x => match h p.2 x with | .inl a' => .inl (p.1 + 1, a') | .inr e => .inr e) (k, a) r with | .inl p => fin p.2 | .inr e => e)
   = (match foldE h a r with | .inl a => fin a | .inr e => e) := by
  intro r
  induction r with
  | nil => intro k a; rfl
  | cons x r ih =>
   intro k a
   simp only [foldE]
   cases hh : h a x with
   | inl a' => exact ih (k + 1) a'
   | inr e => rfl
 rw [key xs 0 a]
theorem foldE_all (p : α → Bool) (e : ρ) : ∀ xs : List α, foldE (fun (_ : Unit) x => bif p x then .inl () else .inr e) () xs = bif xs.all p then .inl () else .inr e
 | [] => rfl
 | x :: r => by
  simp only [foldE, List.all_cons]
  cases p x with
  | true => simpa using foldE_all p e r
  | false => rfl
theorem run_each {γ : Type} {body : σ → Option (σ ⊕ ρ)} {f : ρ → Option γ} {s : σ} (xs : List α) (st : Nat → τ → σ) (I : Nat → τ → Prop) (h : τ → α → τ ⊕ ρ) (fin : τ → ρ) (a : τ) (h0 : s = st 0 a) (hI : I 0 a)
  (hs : ∀ k a (hk : k < xs.length), I k a → match h a xs[k] with
   | .inl a' => body (st k a) = some (.inl (st (k + 1) a')) ∧ I (k + 1) a'
   | .inr e => body (st k a) = some (.inr e))
  (he : ∀ a, I xs.length a → body (st xs.length a) = some (.inr (fin a))) :
  (loop body s).bind f = f (match foldE h a xs with | .inl a => fin a | .inr e => e) := by
 rw [h0, loop_each xs st I h fin hs he hI]; rfl
theorem run_all {γ : Type} {body : Int → Option (Int ⊕ ρ)} {f : ρ → Option γ} {s : Int} (xs : List α) (p : α → Bool) (e y : ρ) (h0 : s = 0)
  (hs : ∀ k (hk : k < xs.length), body (k : Int) = some (bif p xs[k] then .inl ((k + 1 : Nat) : Int) else .inr e))
  (he : body (xs.length : Int) = some (.inr y)) : (loop body s).bind f = f (bif xs.all p then y else e) := by
 rw [run_each xs (fun k (_ : Unit) => (k : Int)) (fun _ _ => True) (fun _ x => bif p x then .inl () else .inr e) (fun _ => y) () (by rw [h0]; rfl) trivial ?_ (fun _ _ => he), foldE_all]
 ·cases xs.all p <;> rfl
 ·intro k _ hk _
  have := hs k hk
  cases hp : p xs[k] with
  | true => rw [hp] at this; exact ⟨this, trivial⟩
  | false => rw [hp] at this; exact this
end
def SM : Nat := 1048576
noncomputable def szL {α : Type} (z : α) (f : α → Int → Option Int) (p0 : List α) (p1 : Int) : Option Int :=
 (bif (decide ((W (p1 - (p0.length : Int))) < 0)) then some (-1) else ((loop (fun (x : (Int × Int)) => ((bif (decide (x.2 < (p0.length : Int))) then ((at' z p0 x.2).bind fun v => ((f v x.1).bind fun r => (bif (decide (r < 0)) then some (Sum.inr (Sum.inr (-1))) else some (Sum.inl (r, (W (x.2 + 1))))))) else some (Sum.inr (Sum.inl x.1))) : Option ((Int × Int) ⊕ (Int ⊕ Int)))) ((W (p1 - (p0.length : Int))), 0)).bind fun y => (Sum.elim (fun (y : Int) => some y) (fun (y : Int) => some y) y)))
noncomputable def toL {α : Type} (z : α) (f : α → Option α) (p0 : List α) : Option (List α) :=
 (if 0 ≤ (p0.length : Int) ∧ (p0.length : Int).toNat ≤ LIM then ((loop (fun (x : (Int × (List α))) => ((bif (decide (x.1 < (p0.length : Int))) then ((at' z p0 x.1).bind fun v => ((f v).bind fun u => (if 0 ≤ x.1 ∧ x.1 < (x.2.length : Int) then some (Sum.inl ((W (x.1 + 1)), (x.2.set x.1.toNat u))) else none))) else some (Sum.inr x.2)) : Option ((Int × (List α)) ⊕ (List α)))) (0, (List.replicate (p0.length : Int).toNat z))).bind fun y => some y) else none)
noncomputable def eqL {α : Type} (z : α) (f : α → α → Option Bool) (p0 p1 : List α) : Option Bool :=
 (bif ((p0.length : Int) != (p1.length : Int)) then some false else ((loop (fun (x : Int) => ((bif (decide (x < (p0.length : Int))) then ((at' z p0 x).bind fun v => ((at' z p1 x).bind fun u => ((f v u).bind fun r => (bif (!r) then some (Sum.inr (Sum.inr false)) else some (Sum.inl (W (x + 1))))))) else some (Sum.inr (Sum.inl ()))) : Option (Int ⊕ (Unit ⊕ Bool)))) 0).bind fun y => (Sum.elim (fun (y : Unit) => some true) (fun (y : Bool) => some y) y)))
def SzOk {α : Type} (f : α → Int → Option Int) (sm : α → Prop) (x : α) : Prop :=
 ∀ n, 0 ≤ n ∧ n ≤ (SM : Int) → ∃ r, f x n = some r ∧ (r = -1 ∨ (0 ≤ r ∧ r ≤ n ∧ sm x))
theorem szL_ok {α : Type} {z : α} {f : α → Int → Option Int} {sm : α → Prop} {xs : List α} (hl : xs.length ≤ maxLen) (h : ∀ x ∈ xs, SzOk f sm x) :
  SzOk (szL z f) (fun xs => xs.length ≤ SM ∧ ∀ x ∈ xs, sm x) xs := by
 intro n hn
 have hm : maxLen = 9223372036854775807 := by decide
 unfold szL
 unfold SM at hn
 rw [W_of (by omega)]
 by_cases hlt : n - xs.length < 0
 ·exact ⟨-1, by simp [hlt], .inl rfl⟩
 ·simp only [hlt, decide_false, cond_false]
  refine run_ind (fun o => ∃ r, o = some r ∧ (r = -1 ∨ (0 ≤ r ∧ r ≤ n ∧ xs.length ≤ SM ∧ ∀ x ∈ xs, sm x)))
   (fun s => ∃ k : Nat, s.2 = k ∧ k ≤ xs.length ∧ 0 ≤ s.1 ∧ s.1 ≤ n - xs.length ∧ ∀ j (hj : j < xs.length), j < k → sm xs[j]) (fun s => xs.length - s.2.toNat)
   (fun r => match r with | .inl r => 0 ≤ r ∧ r ≤ n ∧ ∀ x ∈ xs, sm x | .inr r => r = -1) ⟨0, rfl, Nat.zero_le _, by omega, Int.le_refl _, fun j hj h => absurd h (Nat.not_lt_zero _)⟩ ?_ (fun r h2 => by
    cases r with
    | inl r => exact ⟨r, rfl, .inr ⟨h2.1, h2.2.1, by unfold SM; omega, h2.2.2⟩⟩
    | inr r => exact ⟨r, rfl, .inl h2⟩)
  ·rintro ⟨a, i⟩ ⟨k, hk, hkl, ha, hb, hsm⟩
   simp only at hk ha hb
   subst hk
   by_cases hlt : k < xs.length
   ·have hk' : (k : Int) < xs.length := by omega
    obtain ⟨r, h3, h4⟩ := h xs[k] (List.getElem_mem _) a ⟨ha, by unfold SM; omega⟩
    simp only [hk', decide_true, cond_true, at_nat hlt, Option.bind_some, h3, W_succ (show k < 4611686018427387904 by omega)]
    rcases h4 with rfl | ⟨h4, h5, h6⟩
    ·right; exact ⟨.inr (-1), by simp, rfl⟩
    ·left
     have : ¬ r < 0 := by omega
     simp only [this, decide_false, cond_false]
     refine ⟨(r, ((k + 1 : Nat) : Int)), rfl, ⟨k + 1, rfl, by omega, h4, by simp only; omega, fun j hj hjk => ?_⟩, ?_⟩
     ·by_cases e : j = k
      ·subst e; exact h6
      ·exact hsm j hj (by omega)
     ·simp only [Int.toNat_natCast]; omega
   ·have hk' : ¬ (k : Int) < xs.length := by omega
    right
    simp only [hk', decide_false, cond_false]
    refine ⟨.inl a, rfl, ha, by omega, fun x hx => ?_⟩
    obtain ⟨j, hj, rfl⟩ := List.getElem_of_mem hx
    exact hsm j hj (by omega)
theorem toL_eq {α : Type} {z : α} {f : α → Option α} {xs : List α} (hl : xs.length ≤ SM) (h : ∀ x ∈ xs, f x = some x) : toL z f xs = some xs := by
 unfold toL
 unfold SM at hl
 rw [if_pos ⟨by omega, by unfold LIM; omega⟩]
 refine run_ind (fun o => o = some xs) (fun s => ∃ k : Nat, s.1 = k ∧ k ≤ xs.length ∧ s.2 = xs.take k ++ List.replicate (xs.length - k) z) (fun s => xs.length - s.1.toNat) (fun r => r = xs)
  ⟨0, rfl, Nat.zero_le _, by simp⟩ ?_ (fun r h => by rw [h])
 ·rintro ⟨i, ys⟩ ⟨k, hk, hkl, hy⟩
  simp only at hk hy
  subst hk hy
  by_cases hlt : k < xs.length
  ·have hk' : (k : Int) < xs.length := by omega
   left
   have hlen : (xs.take k ++ List.replicate (xs.length - k) z).length = xs.length := by simp; omega
   simp only [hk', decide_true, cond_true, at_nat hlt, Option.bind_some, h xs[k] (List.getElem_mem _), W_succ (show k < 4611686018427387904 by omega), hlen]
   rw [if_pos ⟨by omega, trivial⟩]
   refine ⟨_, rfl, ⟨k + 1, rfl, by omega, ?_⟩, by simp only [Int.toNat_natCast]; omega⟩
   simp only [Int.toNat_natCast]
   have e1 : xs.length - k = (xs.length - (k + 1)) + 1 := by omega
   rw [e1, List.replicate_succ, List.set_append_right _ _ (by simp; omega)]
   have e2 : k - (xs.take k).length = 0 := by simp; omega
   rw [e2, List.set_cons_zero, List.take_succ_eq_append_getElem hlt, List.append_assoc]
   rfl
  ·have hk' : ¬ (k : Int) < xs.length := by omega
   right
   simp only [hk', decide_false, cond_false]
   refine ⟨_, rfl, ?_⟩
   have : k = xs.length := by omega
   subst this
   simp
theorem eqL_self {α : Type} {z : α} {f : α → α → Option Bool} {xs : List α} (hl : xs.length ≤ SM) (h : ∀ x ∈ xs, f x x = some true) : eqL z f xs xs = some true := by
 unfold eqL
 unfold SM at hl
 simp only [bne_self_eq_false, cond_false]
 rw [run_all xs (fun _ => true) (.inr false) (.inl ()) rfl ?_ ?_]
 ·have : (xs.all fun _ => true) = true := by simp
  rw [this]; rfl
 ·intro k hk
  have hk' : (k : Int) < xs.length := by omega
  simp only [hk', decide_true, cond_true, at_nat hk, Option.bind_some, h xs[k] (List.getElem_mem _), W_succ (show k < 4611686018427387904 by omega), Bool.not_true, cond_false]
 ·simp
abbrev okI (n : Int) : Prop := (Lit.int .i64 n).wf = true
abbrev okB (_ : Bool) : Prop := True
abbrev okS (s : List UInt8) : Prop := s.length ≤ maxLen
abbrev okL {α : Type} (ok : α → Prop) (xs : List α) : Prop := xs.length ≤ maxLen ∧ ∀ x ∈ xs, ok x
abbrev smI (_ : Int) : Prop := True
abbrev smB (_ : Bool) : Prop := True
abbrev smS (s : List UInt8) : Prop := s.length ≤ SM
abbrev smL {α : Type} (sm : α → Prop) (xs : List α) : Prop := xs.length ≤ SM ∧ ∀ x ∈ xs, sm x
theorem trivI (n : Int) : smI n := trivial
theorem trivB (n : Bool) : smB n := trivial
def SzR (o : Option Int) (n : Int) (Q : Prop) : Prop := ∃ r, o = some r ∧ (r = -1 ∨ (0 ≤ r ∧ r ≤ n ∧ Q))
theorem szr_step {o : Option Int} {k : Int → Option Int} {m : Int} {Q Q' : Prop} (h : SzR o m Q) (hm : 0 ≤ m ∧ m ≤ (SM : Int))
  (hk : ∀ r, (0 ≤ r ∧ r ≤ (SM : Int)) → Q → SzR (k r) r Q') : SzR (o.bind fun r => bif decide (r < 0) then some (-1) else k r) m Q' := by
 obtain ⟨r, rfl, h1⟩ := h
 rcases h1 with rfl | ⟨h1, h2, h3⟩
 ·exact ⟨-1, by simp, .inl rfl⟩
 ·obtain ⟨r', e, h4⟩ := hk r ⟨h1, by omega⟩ h3
  have : ¬ r < 0 := by omega
  refine ⟨r', by simp [this, e], ?_⟩
  rcases h4 with h4 | ⟨h4, h5, h6⟩
  ·exact .inl h4
  ·exact .inr ⟨h4, by omega, h6⟩
theorem szr_len {α : Type} {xs : List α} {k : Int → Option Int} {m : Int} {Q' : Prop} (hx : xs.length ≤ maxLen) (hm : 0 ≤ m ∧ m ≤ (SM : Int))
  (hk : ∀ r, (0 ≤ r ∧ r ≤ (SM : Int)) → xs.length ≤ SM → SzR (k r) r Q') : SzR (bif decide (W (m - (xs.length : Int)) < 0) then some (-1) else k (W (m - (xs.length : Int)))) m Q' := by
 have hl : maxLen = 9223372036854775807 := by decide
 unfold SM at *
 rw [W_of (by omega)]
 by_cases h : m - xs.length < 0
 ·exact ⟨-1, by simp [h], .inl rfl⟩
 ·obtain ⟨r', e, h4⟩ := hk (m - xs.length) (by omega) (by omega)
  refine ⟨r', by simp [h, e], ?_⟩
  rcases h4 with h4 | ⟨h4, h5, h6⟩
  ·exact .inl h4
  ·exact .inr ⟨h4, by omega, h6⟩
theorem len_cases {α : Type} {xs : List α} {m : Int} (hx : xs.length ≤ maxLen) (hm : 0 ≤ m ∧ m ≤ (SM : Int)) : ∃ r, W (m - (xs.length : Int)) = r ∧ r ≤ m ∧ (r < 0 ∨ (xs.length ≤ SM ∧ 0 ≤ r ∧ r ≤ (SM : Int))) := by
 have hl : maxLen = 9223372036854775807 := by decide
 unfold SM at *
 rw [W_of (by omega)]
 exact ⟨_, rfl, by omega, by omega⟩
theorem szr_bif {c : Option Int} {r m : Int} {A Q : Prop} (hr : r < 0 ∨ (A ∧ 0 ≤ r ∧ r ≤ (SM : Int))) (hle : r ≤ m) (hk : (0 ≤ r ∧ r ≤ (SM : Int)) → A → SzR c r Q) : SzR (bif decide (r < 0) then some (-1) else c) m Q := by
 rcases hr with hr | ⟨ha, hr⟩
 ·exact ⟨-1, by simp [hr], .inl rfl⟩
 ·obtain ⟨r', e, h4⟩ := hk hr ha
  have : ¬ r < 0 := by omega
  refine ⟨r', by simp [this, e], ?_⟩
  rcases h4 with h4 | ⟨h4, h5, h6⟩
  ·exact .inl h4
  ·exact .inr ⟨h4, by omega, h6⟩
theorem szr_last {r : Int} {Q : Prop} (hr : 0 ≤ r ∧ r ≤ (SM : Int)) (q : Q) : SzR (some r) r Q := ⟨r, rfl, .inr ⟨hr.1, Int.le_refl _, q⟩⟩
theorem szS_ok {α : Type} {sm : α → Prop} {xs : List α} (hx : xs.length ≤ maxLen) (h : ∀ x ∈ xs, sm x) : SzOk (fun (p0 : List α) p1 => bif decide (W (p1 - (p0.length : Int)) < 0) then some (-1) else some (W (p1 - (p0.length : Int)))) (smL sm) xs := by
 intro n hn
 exact szr_len hx hn fun r g1 q => szr_last g1 ⟨q, h⟩
theorem law_sz {o : Option Int} {m : Int} {Q : Prop} {k : Int → Option Bool} (h : SzR o m Q) (hm : 0 ≤ m ∧ m ≤ (SM : Int)) (hk : ∀ r, (0 ≤ r ∧ r ≤ (SM : Int)) → Q → k r = some true) :
  (o.bind fun r => bif decide (r < 0) then some true else k r) = some true := by
 obtain ⟨r, rfl, h1⟩ := h
 rcases h1 with rfl | ⟨h1, h2, h3⟩
 ·simp
 ·have : ¬ r < 0 := by omega
  simp only [Option.bind_some, this, decide_false, cond_false]
  exact hk r ⟨h1, by omega⟩ h3
theorem law_len {α : Type} {xs : List α} {k : Option Bool} (hk : xs.length ≤ SM → k = some true) : (bif decide ((xs.length : Int) > 1048576) then some true else k) = some true := by
 by_cases h : (xs.length : Int) > 1048576
 ·simp [h]
 ·simp only [h, decide_false, cond_false]; exact hk (by unfold SM; omega)
noncomputable def idxF {α : Type} (z : α) (f : α → Option Bool) (p0 : List α) : Option Int :=
 ((loop (fun (x : Int) => ((bif (decide (x < (p0.length : Int))) then ((at' z p0 x).bind fun v => ((f v).bind fun r => (bif r then some (Sum.inr (Sum.inr x)) else some (Sum.inl (W (x + 1)))))) else some (Sum.inr (Sum.inl ()))) : Option (Int ⊕ (Unit ⊕ Int)))) 0).bind fun y => (Sum.elim (fun (y : Unit) => some (-1)) (fun (y : Int) => some y) y))
theorem idxF_ok {α : Type} {z : α} {f : α → Option Bool} {p : α → Bool} {xs : List α} (hl : xs.length ≤ maxLen) (h : ∀ x ∈ xs, f x = some (p x)) :
  ∃ i : Int, idxF z f xs = some i ∧ ((i = -1 ∧ xs.any p = false) ∨ ∃ (k : Nat) (hk : k < xs.length), i = (k : Int) ∧ p xs[k] = true ∧ (∀ j (hj : j < k), p xs[j] = false) ∧ xs.any p = true) := by
 have hm : maxLen = 9223372036854775807 := by decide
 unfold idxF
 refine run_ind (fun o => ∃ i : Int, o = some i ∧ ((i = -1 ∧ xs.any p = false) ∨ ∃ (k : Nat) (hk : k < xs.length), i = (k : Int) ∧ p xs[k] = true ∧ (∀ j (hj : j < k), p xs[j] = false) ∧ xs.any p = true))
  (fun s => ∃ k : Nat, s = (k : Int) ∧ k ≤ xs.length ∧ ∀ j (hj : j < xs.length), j < k → p xs[j] = false) (fun s => xs.length - s.toNat)
  (fun r => match r with
   | .inl _ => xs.any p = false
   | .inr i => ∃ (k : Nat) (hk : k < xs.length), i = (k : Int) ∧ p xs[k] = true ∧ (∀ j (hj : j < k), p xs[j] = false) ∧ xs.any p = true)
  ⟨0, rfl, Nat.zero_le _, fun j hj h => absurd h (Nat.not_lt_zero _)⟩ ?_ (fun r hr => by
   cases r with
   | inl u => exact ⟨-1, rfl, .inl ⟨rfl, hr⟩⟩
   | inr i => exact ⟨i, rfl, .inr hr⟩)
 rintro s ⟨k, hk, hkl, hp⟩
 subst hk
 by_cases hlt : k < xs.length
 ·have hk' : (k : Int) < xs.length := by omega
  have hw : W ((k : Int) + 1) = ((k + 1 : Nat) : Int) := by rw [W_of (by omega)]; omega
  simp only [hk', decide_true, cond_true, at_nat hlt, Option.bind_some, h xs[k] (List.getElem_mem _), hw]
  cases hq : p xs[k] with
  | true =>
   right
   exact ⟨_, rfl, k, hlt, rfl, hq, fun j hj => hp j (by omega) hj, List.any_eq_true.2 ⟨_, List.getElem_mem hlt, hq⟩⟩
  | false =>
   left
   refine ⟨_, rfl, ⟨k + 1, rfl, by omega, fun j hj hjk => ?_⟩, by simp only [Int.toNat_natCast]; omega⟩
   by_cases e : j = k
   ·subst e; exact hq
   ·exact hp j hj (by omega)
 ·have hk' : ¬ (k : Int) < xs.length := by omega
  right
  simp only [hk', decide_false, cond_false]
  refine ⟨_, rfl, ?_⟩
  simp only
  rw [List.any_eq_false]
  intro x hx
  obtain ⟨j, hj, rfl⟩ := List.getElem_of_mem hx
  simp [hp j hj (by omega)]
theorem hasF_eq {α : Type} {z : α} {f : α → Option Bool} {p : α → Bool} {xs : List α} (hl : xs.length ≤ maxLen) (h : ∀ x ∈ xs, f x = some (p x)) :
  ((idxF z f xs).bind fun v => some (decide (v ≥ 0))) = some (xs.any p) := by
 obtain ⟨i, h1, ⟨rfl, h2⟩ | ⟨k, hk, rfl, _, _, h2⟩⟩ := idxF_ok hl h
 ·rw [h1, h2]; rfl
 ·rw [h1, h2]
  have : (k : Int) ≥ 0 := by omega
  simp [this]
def allFrom : Nat → Nat → (Nat → Bool) → Bool
 | 0, _, _ => true
 | m + 1, k, q => q k && allFrom m (k + 1) q
theorem allFrom_iff {q : Nat → Bool} : ∀ (m k : Nat), allFrom m k q = true ↔ ∀ j, k ≤ j → j < k + m → q j = true
 | 0, k => by simp [allFrom]; intro j h1 h2; omega
 | m + 1, k => by
  simp only [allFrom, Bool.and_eq_true, allFrom_iff m (k + 1)]
  constructor
  ·rintro ⟨h1, h2⟩ j h3 h4
   by_cases e : j = k
   ·subst e; exact h1
   ·exact h2 j (by omega) (by omega)
  ·intro h
   exact ⟨h k (Nat.le_refl _) (by omega), fun j h1 h2 => h j (by omega) (by omega)⟩
theorem loop_allFrom {ρ : Type} {body : Int → Option (Int ⊕ ρ)} (q : Nat → Bool) (e y : ρ) : ∀ (m k : Nat), (∀ j, k ≤ j → j < k + m → body (j : Int) = some (bif q j then .inl ((j + 1 : Nat) : Int) else .inr e)) →
  body ((k + m : Nat) : Int) = some (.inr y) → loop body (k : Int) = some (bif allFrom m k q then y else e)
 | 0, k, _, he => by rw [loop_eq]; simp only [Nat.add_zero] at he; rw [he]; rfl
 | m + 1, k, hs, he => by
  rw [loop_eq, hs k (Nat.le_refl _) (by omega)]
  simp only [allFrom]
  cases q k with
  | true =>
   simp only [cond_true, Bool.true_and]
   exact loop_allFrom q e y m (k + 1) (fun j h1 h2 => hs j (by omega) (by omega)) (by rw [show k + 1 + m = k + (m + 1) by omega]; exact he)
  | false => rfl
theorem run_allN {ρ γ : Type} {body : Int → Option (Int ⊕ ρ)} {f : ρ → Option γ} (n : Nat) (q : Nat → Bool) (e y : ρ) (hs : ∀ k, k < n → body (k : Int) = some (bif q k then .inl ((k + 1 : Nat) : Int) else .inr e))
  (he : body (n : Int) = some (.inr y)) : (loop body 0).bind f = f (bif allFrom n 0 q then y else e) := by
 have := loop_allFrom q e y n 0 (fun j _ h => hs j (by omega)) (by simpa using he)
 rw [show ((0 : Nat) : Int) = 0 from rfl] at this
 rw [this]; rfl
theorem at_getD {α : Type} {z : α} {xs : List α} {k : Nat} (h : k < xs.length) : at' z xs (k : Int) = some (xs.getD k z) := by
 rw [at_nat h]; simp [List.getD, h]
theorem W_up {k n : Nat} (h : k < n) (hn : n ≤ maxLen) : W ((k : Int) + 1) = ((k + 1 : Nat) : Int) := by
 have hm : maxLen = 9223372036854775807 := by decide
 rw [W_of (by omega)]; omega
theorem lt_cast {k n : Nat} (h : k < n) : decide ((k : Int) < (n : Int)) = true := by simp; omega
theorem nlt_self (n : Nat) : decide ((n : Int) < (n : Int)) = false := by simp
theorem bif_not {α : Type} (b : Bool) (x y : α) : (bif !b then x else y) = bif b then y else x := by cases b <;> rfl
theorem bif_some {α : Type} (b : Bool) (x y : α) : (bif b then some x else some y) = some (bif b then x else y) := by cases b <;> rfl
theorem loop_allSt {σ ρ : Type} {body : σ → Option (σ ⊕ ρ)} (n : Nat) (q : Nat → Bool) (st : Nat → σ) (e y : ρ) : ∀ (m k : Nat), k + m = n → (∀ j, k ≤ j → j < n → body (st j) = some (bif q j then .inl (st (j + 1)) else .inr e)) →
  body (st n) = some (.inr y) → loop body (st k) = some (bif allFrom m k q then y else e)
 | 0, k, hk, _, he => by
  have : k = n := by omega
  subst this
  rw [loop_eq, he]; rfl
 | m + 1, k, hk, hs, he => by
  rw [loop_eq, hs k (Nat.le_refl _) (by omega)]
  simp only [allFrom]
  cases q k with
  | true =>
   simp only [cond_true, Bool.true_and]
   exact loop_allSt n q st e y m (k + 1) (by omega) (fun j h1 h2 => hs j (by omega) h2) he
  | false => rfl
theorem run_allSt {σ ρ γ : Type} {body : σ → Option (σ ⊕ ρ)} {f : ρ → Option γ} {s : σ} (n : Nat) (q : Nat → Bool) (st : Nat → σ) (e y : ρ) (h0 : s = st 0) (hs : ∀ k, k < n → body (st k) = some (bif q k then .inl (st (k + 1)) else .inr e))
  (he : body (st n) = some (.inr y)) : (loop body s).bind f = f (bif allFrom n 0 q then y else e) := by
 rw [h0, loop_allSt n q st e y n 0 (by omega) (fun j _ h => hs j h) he]; rfl
def allDown : Nat → (Nat → Bool) → Bool
 | 0, _ => true
 | m + 1, q => q (m + 1) && allDown m q
theorem allDown_iff {q : Nat → Bool} : ∀ m, allDown m q = true ↔ ∀ j, 0 < j → j ≤ m → q j = true
 | 0 => by simp [allDown]; intro j h1 h2; omega
 | m + 1 => by
  simp only [allDown, Bool.and_eq_true, allDown_iff m]
  constructor
  ·rintro ⟨h1, h2⟩ j h3 h4
   by_cases e : j = m + 1
   ·subst e; exact h1
   ·exact h2 j h3 (by omega)
  ·intro h; exact ⟨h _ (by omega) (Nat.le_refl _), fun j h1 h2 => h j h1 (by omega)⟩
theorem loop_down {ρ : Type} {body : Int → Option (Int ⊕ ρ)} (q : Nat → Bool) (e y : ρ) : ∀ m : Nat, (∀ j, 0 < j → j ≤ m → body (j : Int) = some (bif q j then .inl ((j - 1 : Nat) : Int) else .inr e)) → body 0 = some (.inr y) →
  loop body (m : Int) = some (bif allDown m q then y else e)
 | 0, _, he => by rw [loop_eq, show ((0 : Nat) : Int) = 0 from rfl, he]; rfl
 | m + 1, hs, he => by
  rw [loop_eq, hs (m + 1) (by omega) (Nat.le_refl _)]
  simp only [allDown]
  cases q (m + 1) with
  | true => exact loop_down q e y m (fun j h1 h2 => hs j h1 (by omega)) he
  | false => rfl
theorem allFrom_and {q r : Nat → Bool} : ∀ (m k : Nat), allFrom m k (fun j => q j && r j) = (allFrom m k q && allFrom m k r)
 | 0, _ => rfl
 | m + 1, k => by
  simp only [allFrom, allFrom_and m (k + 1)]
  cases q k <;> cases r k <;> cases allFrom m (k + 1) q <;> rfl
theorem run_st {σ ρ γ : Type} {body : σ → Option (σ ⊕ ρ)} {f : ρ → Option γ} {s : σ} (n : Nat) (st : Nat → σ) (y : ρ) (h0 : s = st 0) (hs : ∀ k, k < n → body (st k) = some (.inl (st (k + 1)))) (he : body (st n) = some (.inr y)) : (loop body s).bind f = f y := by
 rw [run_allSt n (fun _ => true) st y y h0 (fun k hk => by rw [hs k hk]; rfl) he]
 cases allFrom n 0 fun _ => true <;> rfl
def AC.isFr : AC → Bool
 | .fr _ => true
 | _ => false
def AC.strip : AC → AC
 | .fr c => c
 | c => c
def okFr (cs : List AC) : Bool := cs.all fun c => c.isS || c.isFr
def FrTo (s : St) (c c' : AC) : Prop := ((c.isS || c.isFr) = true ∧ c' = c) ∨
 ∃ k wd n m f f', c = .own k wd 0 n ∧ c' = .fr (.sl wd n f') ∧ s.h k = some (.arr wd m f false) ∧ n ≤ m ∧ ∀ i, i < n → okFr (f i) = true ∧ f' i = (f i).map AC.strip
def FrTos (s : St) : List AC → List AC → Prop
 | [], [] => True
 | c :: r, c' :: r' => FrTo s c c' ∧ FrTos s r r'
 | _, _ => False
def FrToV (s : St) : AV → AV → Prop
 | .c x, .c y => FrTo s x y
 | .agg xs, .agg ys => FrTos s xs ys
 | .tup [], .tup [] => True
 | _, _ => False
section
variable {P : Program} {gl : Nat → Option (List AC)} {N : Nat} {w0 : Wk} {Pr : PrT} {φ : Nat → Option (Option Nat)} {s : St} {a : Act} {w : World}
theorem FrTo.own {k wd n m : Nat} {f f' : Nat → List AC} (h : s.h k = some (.arr wd m f false)) (hn : n ≤ m) (hf : ∀ i, i < n → okFr (f i) = true ∧ f' i = (f i).map AC.strip) : FrTo s (.own k wd 0 n) (.fr (.sl wd n f')) :=
 .inr ⟨k, wd, n, m, f, f', rfl, rfl, h, hn, hf⟩
theorem strip_dr {Pr' : PrT} {w' : World} {c : AC} {v : Value} (h : DR Pr w' c v) (hc : (c.isS || c.isFr) = true) (hp : Pr.Le Pr') : DR (Pr'.frs w') w' c.strip v := by
 cases c with
 | fr c => cases h with | fr _ _ h => exact h.mono (hp.frs fun _ _ => rfl) fun _ _ => rfl
 | int => exact h.scalar rfl
 | bool => exact h.scalar rfl
 | str => exact h.scalar rfl
 | nil => exact h.scalar rfl
 | raw => exact h.scalar rfl
 | _ => simp [AC.isS, AC.isFr] at hc
theorem frTo_sound {Pr' : PrT} {c c' : AC} {v : Value} (h : Sim gl N w0 Pr φ s a w) (hv : KR Pr φ w c v) (hp : Pr.Le Pr') (hn : ∀ k b, φ k = some (some b) → Pr' b) (hc : FrTo s c c') : DR Pr' w c' v := by
 rcases hc with ⟨h1, rfl⟩ | ⟨k, wd, n, m, f, f', rfl, rfl, hk, hnm, hf⟩
 ·cases c' with
  | fr c => exact (hv.nokeys (by simp [AC.keys, AC.keys0])).weak hp
  | int => exact (hv.nokeys (by simp [AC.keys, AC.keys0])).weak hp
  | bool => exact (hv.nokeys (by simp [AC.keys, AC.keys0])).weak hp
  | str => exact (hv.nokeys (by simp [AC.keys, AC.keys0])).weak hp
  | nil => exact (hv.nokeys (by simp [AC.keys, AC.keys0])).weak hp
  | raw => exact (hv.nokeys (by simp [AC.keys, AC.keys0])).weak hp
  | _ => simp [AC.isS, AC.isFr] at h1
 ·refine .fr _ _ ?_
  have hv' : VR (KR Pr φ w) (.c (.own k wd 0 n)) v := hv
  rcases hv'.own_inv h hk with ⟨hfk, he, rfl, _, _⟩ | ⟨b, arr, T, cap, hfk, he, hn', hcap, hh, hB⟩
  ·rw [he]; exact .slN ..
  ·obtain ⟨hw, hB | ⟨b', arr', T', e1, hh', hnsz, hmx, hel⟩⟩ := hB
   ·cases hB.1
   ·cases e1
    rw [hh] at hh'; cases hh'
    rw [he]
    have hnp : ¬ Pr b := fun hp' => by have := (h.ow k b _ hk hfk).2.1 hp'; cases this
    have hpb : (Pr'.frs w) b := ⟨hn k b hfk, fun hq => hnp (h.ex.qp b (by rw [← hp.q]; exact hq)), arr, T, hh⟩
    refine DR.sl_of_ex hn' ?_ (fun i hi => ?_) (fun i j c hi hj => ?_)
    ·have := le_of_mul_le (Nat.le_trans hcap hmx) hw; omega
    ·rw [(hf i hi).2, List.length_map]; exact (hel i (by omega)).1
    ·rw [(hf i hi).2, List.getElem?_map, Option.map_eq_some_iff] at hj
     obtain ⟨c0, hc0, rfl⟩ := hj
     obtain ⟨y, h7, h8⟩ := (hel i (by omega)).2 j c0 hc0
     refine ⟨hpb, y, ?_, strip_dr h8 (List.all_eq_true.1 (hf i hi).1 _ (List.mem_of_getElem? hc0)) hp⟩
     rw [Addr.add_flat, cell_flat hh]; simpa using h7
theorem frTos_get {s : St} : ∀ {xs ys : List AC}, FrTos s xs ys → xs.length = ys.length ∧ ∀ (i : Nat) y, ys[i]? = some y → ∃ x, xs[i]? = some x ∧ FrTo s x y
 | [], [], _ => ⟨rfl, by simp⟩
 | x :: xs, y :: ys, h => by
  obtain ⟨h1, h2⟩ := frTos_get h.2
  refine ⟨by simp [h1], fun i z hz => ?_⟩
  cases i with
  | zero => simp at hz; subst hz; exact ⟨x, rfl, h.1⟩
  | succ i => exact h2 i z (by simpa using hz)
 | [], _ :: _, h => h.elim
 | _ :: _, [], h => h.elim
theorem fn_fr {f : FuncId} {fn : Func} {ir : S} {args : List AV} {res0 res : AV} {s1 : St} (hL : gl LAW = none) (hf : P.funcs[f]? = some fn) (hcal : callable P f = true)
  (hc : (match fn.body with | some c => comp P fn.ntmps c | none => none) = some ir) (hn : (decide (args.length ≤ fn.ntmps)) = true) (hres : resV P s1 fn.results.toList = some res0) (hfr : FrToV s1 res0 res)
  (h : EndsI P gl fn.ntmps ir (lit (argE 0 args) []) (AtR s1)) : FnOk P gl f args res := by
 cases hb : fn.body with
 | none => rw [hb] at hc; cases hc
 | some c =>
  rw [hb] at hc
  refine ⟨hcal, fun w Pr vals hpr hgk hlen hv => ?_⟩
  refine calls_of_wp hf hb ?_
  refine wp_mono (h c hc (Wk.all Pr w) Pr _ _ _ (sim_start hL hpr hgk (of_decide_eq_true hn) hlen hv)) fun e a' w' ⟨s', Pr', φ', ⟨he, hs'⟩, h2, h3⟩ => ?_
  subst hs'
  obtain ⟨x, h4, h5⟩ := results_sound h2 hres
  have hle := le_end hL h2 h3
  have hnew : ∀ k b, φ' k = some (some b) → (Pr.new w w') b := fun k b hk => by
   have hlt := h2.lt hk
   cases hb' : s'.h k with
   | none => rw [h2.lv k hb'] at hk; cases hk
   | some blk =>
    have hnk := (h2.ow k b blk hb' hk).1
    rcases Nat.lt_or_ge b w.heap.size with hlt' | hge
    ·exact absurd ⟨hlt', fun hd => h2.ex.df b ((dom_eq (h3.le hL) b).2 hd) k hk⟩ hnk
    ·exact .inr ⟨hge, hlt⟩
  have hfin : a'.defers = [] ∧ ∃ v, (results fn a'.tmps).run P w' = .ok v w' ∧ ∃ v', Ending.returned v = .returned v' ∧ Bel Pr w w' ∧ VR (DR (Pr.new w w') w') res v' := by
   refine ⟨h2.df, x, h4, x, rfl, bel_end hL h2 h3, ?_⟩
   cases res0 with
   | c c0 =>
    cases res with
    | c c1 => exact frTo_sound h2 h5 hle hnew hfr
    | agg => exact hfr.elim
    | tup => exact hfr.elim
   | agg xs =>
    cases res with
    | agg ys =>
     obtain ⟨vs, e1, e2⟩ := h5
     obtain ⟨e3, e4⟩ := frTos_get hfr
     refine ⟨vs, e1, by rw [e2.1, e3], fun i c u hci hu => ?_⟩
     obtain ⟨c0, k1, k2⟩ := e4 i c hci
     exact frTo_sound h2 (e2.2 i c0 u k1 hu) hle hnew k2
    | c => exact hfr.elim
    | tup => exact hfr.elim
   | tup ps =>
    cases res with
    | tup qs =>
     cases ps with
     | nil =>
      cases qs with
      | nil => obtain ⟨g, e1, e2⟩ := h5; exact ⟨g, e1, fun i p hp => by simp at hp⟩
      | cons => exact hfr.elim
     | cons => cases qs <;> exact hfr.elim
    | c => cases ps <;> exact hfr.elim
    | agg => cases ps <;> exact hfr.elim
  rcases he with rfl | rfl
  ·exact hfin
  ·exact hfin
inductive Shp : AC → Prop where
 | int (k n) : Shp (.int k n)
 | bool (b) : Shp (.bool b)
 | str (l) : Shp (.str l)
 | nil : Shp .nil
 | sl (wd n f) (h : ∀ i, i < n → ∀ c ∈ f i, Shp c) : Shp (.sl wd n f)
def Shps (cs : List AC) : Prop := ∀ c ∈ cs, Shp c
theorem Shps.nil : Shps [] := fun _ h => by cases h
theorem Shps.cons {c : AC} {cs : List AC} (h : Shp c) (k : Shps cs) : Shps (c :: cs) := fun d hd => by
 rcases List.mem_cons.1 hd with rfl | hd
 ·exact h
 ·exact k d hd
theorem Shp.dat {α : Type} {wd : Nat} {enc : α → List AC} {z : α} {xs : List α} (h : ∀ x, Shps (enc x)) : Shp (dat wd enc z xs) := .sl _ _ _ fun i _ => h _
def kindOf : Value → Kd
 | .int k _ => .int k
 | .bool _ => .bool
 | .string _ => .str
 | u => .fix u
open Classical in
noncomputable def PrT.soft (Pr : PrT) (w : World) : PrT where
 p := Pr.Q
 Q := Pr.Q
 Θ := fun b o => if (Pr.frs w) b then (w.cell? ⟨b, o, none⟩).map kindOf else Pr.Θ b o
theorem DR.mono2 {Pr Pr' : PrT} {w : World} {c : AC} {v : Value} (h : DR Pr w c v) (hp : ∀ b, Pr b → Pr' b) (hq : Pr'.Q = Pr.Q) (ht : ∀ b o k, Pr.Θ b o = some k → Pr'.Θ b o = some k) : DR Pr' w c v := by
 have hLV : ∀ {Θ Θ' : Nat → Nat → Option Kd} {c : AC} {v : Value}, (∀ b o k, Θ b o = some k → Θ' b o = some k) → LV Θ c v → LV Θ' c v := by
  intro Θ Θ' c v ht h
  induction h with
  | nil => exact .nil
  | slN wd f => exact .slN wd f
  | sl wd n f a cap g hn hc hs hl hr hd ih => exact .sl wd n f a cap g hn hc hs hl (fun i j c hi hj => ⟨ht _ _ _ (hr i j c hi hj).1, (hr i j c hi hj).2⟩) ih
 induction h generalizing Pr' with
 | int k n => exact .int k n
 | bool b => exact .bool b
 | str s => exact .str s
 | nil => exact .nil
 | raw v ho => exact .raw v ho
 | slN wd f => exact .slN wd f
 | sl wd n f a cap g hn hc hl hr hd ih => exact .sl wd n f a cap g hn hc hl (fun i j c hi hj => ⟨hp _ (hr i j c hi hj).1, (hr i j c hi hj).2⟩) fun i j c hi hj => ih i j c hi hj hp hq ht
 | pd cs i a g hr hd ih => exact .pd cs i a g (fun j c hj => ⟨hp _ (hr j c hj).1, (hr j c hj).2⟩) fun j c hj => ih j c hj hp hq ht
 | clo f cap g hd ih => exact .clo f cap g fun j c hj => ih j c hj hp hq ht
 | old c v h ih => exact .old c v (ih (Pr' := Pr'.old) (fun b hb => ⟨hp b hb.1, by rw [hq]; exact hb.2⟩) hq ht)
 | fr c v h ih => exact .fr c v (ih (Pr' := Pr'.frs _) (fun b hb => ⟨hp b hb.1, by rw [hq]; exact hb.2.1, hb.2.2⟩) hq ht)
 | lv c v h => exact .lv c v (hLV ht h)
 | ns c v h hv ih => exact .ns c v (ih hp hq ht) hv
 | lp cs i b o g hr hd => exact .lp cs i b o g (fun j c hj => ⟨ht _ _ _ (hr j c hj).1, (hr j c hj).2⟩) fun j c u hj hg => hLV ht (hd j c u hj hg)
theorem GK.mono2 {Pr Pr' : PrT} {w : World} {g : Nat} {cs : List AC} (h : GK Pr w g cs) (hp : ∀ b, Pr b → Pr' b) (hq : Pr'.Q = Pr.Q) (ht : ∀ b o k, Pr.Θ b o = some k → Pr'.Θ b o = some k) : GK Pr' w g cs := ⟨h.1.mono2 hp hq ht, h.2⟩
def ShpsG (cs : List AC) : Prop := ∀ c ∈ cs, Shp c ∨ ∃ v, c = .raw v
theorem LV.of_dr {Pr0 : PrT} {Θ : Nat → Nat → Option Kd} {c : AC} {v : Value} (h : DR Pr0 w c v) (hΘ : ∀ b o x, Pr0 b → w.cell? ⟨b, o, none⟩ = some x → Θ b o = some (kindOf x)) (hc : Shp c) (hsl : ∀ x, kindOf v = .fix x → x = v) :
  (∃ u, kindOf v = .fix u) → LV Θ c v := by
 induction h with
 | nil => exact fun _ => .nil
 | slN wd f => exact fun _ => .slN wd f
 | sl wd n f a cap g hn hcap hl hr hd ih =>
  intro _
  cases hc with
  | sl _ _ _ hsh =>
  have hcell : ∀ i j c, i < n → (f i)[j]? = some c → World.cell? _ ⟨a.block, a.off + (i * wd + j), none⟩ = some (g i j) := fun i j c hi hj => by
   have := (hr i j c hi hj).2
   unfold Addr.add at this
   split at this
   ·rename_i e
    have hs : a.spot = none := by
     unfold World.cell? at this
     split at this
     ·split at this
      ·cases this
      ·rename_i hs; simpa using hs
     ·cases this
    obtain ⟨ab, ao, as⟩ := a
    simp only at hs; subst hs
    rw [e]; exact this
   ·exact this
  refine .sl wd n f a cap (fun i j => kindOf (g i j)) hn hcap (fun h0 h1 => ?_) hl (fun i j c hi hj => ⟨hΘ _ _ _ (hr i j c hi hj).1 (hcell i j c hi hj), ?_⟩) (fun i j c u hi hj hu => ?_)
  ·have hl0 := hl 0 h0
   have hj : (f 0)[0]? = some ((f 0)[0]'(by omega)) := List.getElem?_eq_getElem (by omega)
   have := (hr 0 0 _ h0 hj).2
   rw [Nat.zero_mul] at this
   unfold Addr.add World.cell? at this
   rw [if_pos rfl] at this
   split at this
   ·split at this
    ·cases this
    ·rename_i hs; simpa using hs
   ·cases this
  ·have h1 := hd i j c hi hj
   have h2 := hsh i hi c (List.mem_of_getElem? hj)
   cases h2 <;> (generalize g i j = y at h1; cases h1 <;> simp [kindOf, KdOk])
  ·have h1 := hd i j c hi hj
   have h2 := hsh i hi c (List.mem_of_getElem? hj)
   have h3 : u = g i j := by
    generalize g i j = y at hu
    cases y <;> simp [kindOf] at hu <;> exact hu.symm
   rw [h3]
   exact ih i j c hi hj hΘ h2 (fun x hx => by
    generalize g i j = y at hx ⊢
    cases y <;> simp [kindOf] at hx <;> exact hx.symm) ⟨u, hu⟩
 | int k n => rintro ⟨u, hu⟩; cases hu
 | bool b => rintro ⟨u, hu⟩; cases hu
 | str l => rintro ⟨u, hu⟩; cases hu
 | _ => cases hc
theorem lkA_mem' {t : Nat} {v : AV} : ∀ {E : List (Nat × AV)}, lkA t E = some v → (t, v) ∈ E
 | [], h => by cases h
 | (j, u) :: r, h => by
  simp only [lkA] at h
  by_cases e : t = j
  ·subst e; simp only [nbt, cond_true, Option.some.injEq] at h; subst h; exact List.mem_cons_self
  ·simp only [nbf e, cond_false] at h; exact List.mem_cons_of_mem _ (lkA_mem' h)
theorem lkB_mem' {t : Nat} {v : Blk} : ∀ {E : List (Nat × Blk)}, lkB t E = some v → (t, v) ∈ E
 | [], h => by cases h
 | (j, u) :: r, h => by
  simp only [lkB] at h
  by_cases e : t = j
  ·subst e; simp only [nbt, cond_true, Option.some.injEq] at h; subst h; exact List.mem_cons_self
  ·simp only [nbf e, cond_false] at h; exact List.mem_cons_of_mem _ (lkB_mem' h)
def isKey : AC → Bool
 | .own .. | .pk .. | .pa .. => true
 | _ => false
def isSl : AC → Bool
 | .sl .. => true
 | _ => false
def TurnC (c c' : AC) : Prop := ((c.isS || isKey c) = true ∧ c' = c) ∨ c = .old c' ∨ ∃ d, c = .fr d ∧ c' = .lv d ∧ isSl d = true ∧ Shp d
def TurnCs (T : AC → AC → Prop) : List AC → List AC → Prop
 | [], [] => True
 | c :: r, c' :: r' => T c c' ∧ TurnCs T r r'
 | _, _ => False
def TurnV (T : AC → AC → Prop) : AV → AV → Prop
 | .c x, .c y => T x y
 | .agg xs, .agg ys => TurnCs T xs ys
 | _, _ => False
def TurnB (T : AC → AC → Prop) : Blk → Blk → Prop
 | .var cs false, .var cs' false => TurnCs T cs cs'
 | .arr wd n f false, .arr wd' n' f' false => wd' = wd ∧ n' = n ∧ f' = f ∧ ∀ i, i < n → (f i).all AC.isS = true
 | _, _ => False
def TurnE (T : AC → AC → Prop) : List (Nat × AV) → List (Nat × AV) → Prop
 | [], [] => True
 | p :: r, q :: r' => (q.1 = p.1 ∧ TurnV T p.2 q.2) ∧ TurnE T r r'
 | _, _ => False
def TurnH (T : AC → AC → Prop) : List (Nat × Blk) → List (Nat × Blk) → Prop
 | [], [] => True
 | p :: r, q :: r' => (q.1 = p.1 ∧ TurnB T p.2 q.2) ∧ TurnH T r r'
 | _, _ => False
theorem TurnCs.get {T : AC → AC → Prop} : ∀ {xs ys : List AC}, TurnCs T xs ys → xs.length = ys.length ∧ ∀ (i : Nat) y, ys[i]? = some y → ∃ x, xs[i]? = some x ∧ T x y
 | [], [], _ => ⟨rfl, by simp⟩
 | x :: xs, y :: ys, h => by
  obtain ⟨h1, h2⟩ := TurnCs.get h.2
  refine ⟨by simp [h1], fun i z hz => ?_⟩
  cases i with
  | zero => simp at hz; subst hz; exact ⟨x, rfl, h.1⟩
  | succ i => exact h2 i z (by simpa using hz)
 | [], _ :: _, h => h.elim
 | _ :: _, [], h => h.elim
theorem TurnE.get {T : AC → AC → Prop} : ∀ {E E' : List (Nat × AV)}, TurnE T E E' → ∀ t, (lkA t E' = none → lkA t E = none) ∧ ∀ v', lkA t E' = some v' → ∃ v, lkA t E = some v ∧ TurnV T v v'
 | [], [], _, t => ⟨fun _ => rfl, fun v h => by cases h⟩
 | p :: r, q :: r', h, t => by
  obtain ⟨⟨h1, h2⟩, h3⟩ := h
  obtain ⟨i1, i2⟩ := TurnE.get h3 t
  obtain ⟨p1, p2⟩ := p
  obtain ⟨q1, q2⟩ := q
  simp only at h1 h2
  subst h1
  simp only [lkA]
  cases Nat.beq t q1 with
  | true => exact ⟨fun h => (by cases h), fun v' h => (by cases h; exact ⟨p2, rfl, h2⟩)⟩
  | false => exact ⟨i1, i2⟩
 | [], _ :: _, h, _ => h.elim
 | _ :: _, [], h, _ => h.elim
theorem TurnH.get {T : AC → AC → Prop} : ∀ {E E' : List (Nat × Blk)}, TurnH T E E' → ∀ t, (lkB t E' = none → lkB t E = none) ∧ ∀ v', lkB t E' = some v' → ∃ v, lkB t E = some v ∧ TurnB T v v'
 | [], [], _, t => ⟨fun _ => rfl, fun v h => by cases h⟩
 | p :: r, q :: r', h, t => by
  obtain ⟨⟨h1, h2⟩, h3⟩ := h
  obtain ⟨i1, i2⟩ := TurnH.get h3 t
  obtain ⟨p1, p2⟩ := p
  obtain ⟨q1, q2⟩ := q
  simp only at h1 h2
  subst h1
  simp only [lkB]
  cases Nat.beq t q1 with
  | true => exact ⟨fun h => (by cases h), fun v' h => (by cases h; exact ⟨p2, rfl, h2⟩)⟩
  | false => exact ⟨i1, i2⟩
 | [], _ :: _, h, _ => h.elim
 | _ :: _, [], h, _ => h.elim
theorem soft_sub (h : Ext gl w0 Pr φ w) : ∀ b o k, Pr.Θ b o = some k → (Pr.soft w).Θ b o = some k := fun b o k hk => by
 have hd : Pr.dom b := ⟨o, by rw [hk]; simp⟩
 have e : (Pr.soft w).Θ b o = Pr.Θ b o := if_neg fun hf => h.dp b hd hf.1
 rw [e]; exact hk
theorem turnC_sound (h : Sim gl N w0 Pr φ s a w) {c c' : AC} {v : Value} (hc : TurnC c c') (hv : KR Pr φ w c v) : KR (Pr.soft w) φ w c' v := by
 rcases hc with ⟨h1, rfl⟩ | rfl | ⟨d, rfl, rfl, h1, h2⟩
 ·cases c' with
  | int => exact DR.scalar (c := .int _ _) hv rfl
  | bool => exact DR.scalar (c := .bool _) hv rfl
  | str => exact DR.scalar (c := .str _) hv rfl
  | nil => exact DR.scalar (c := .nil) hv rfl
  | raw => exact DR.scalar (c := .raw _) hv rfl
  | own => exact hv
  | pk => exact hv
  | pa => exact hv
  | _ => simp [AC.isS, isKey] at h1
 ·have hv' : DR Pr w (.old c') v := hv
  cases hv' with
  | old _ _ h1 => exact (KR.of_dr (φ := φ) (h1.mono2 (Pr' := Pr.soft w) (fun b hb => hb.2) rfl (soft_sub h.ex))).1
 ·have hv' : DR Pr w (.fr d) v := hv
  cases hv' with
  | fr _ _ h3 =>
   refine DR.lv _ _ (LV.of_dr h3 (fun b o x hb hx => ?_) h2 (fun x hx => ?_) ?_)
   ·have e : (Pr.soft w).Θ b o = (w.cell? ⟨b, o, none⟩).map kindOf := if_pos hb
    rw [e, hx]; rfl
   ·cases d with
    | sl => cases h3 <;> (cases hx; rfl)
    | _ => simp [isSl] at h1
   ·cases d with
    | sl => cases h3 <;> exact ⟨_, rfl⟩
    | _ => simp [isSl] at h1
theorem turn_gen {T : AC → AC → Prop} {Pr' : PrT} {E E' : List (Nat × AV)} {H H' : List (Nat × Blk)} (hs : Sim gl N w0 Pr φ (lit E H) a w) (hE : TurnE T E E') (hH : TurnH T H H')
  (hkr : ∀ c c' v, T c c' → KR Pr φ w c v → KR Pr' φ w c' v) (hsub : ∀ b, Pr' b → Pr b) (hgk : ∀ g cs, gl g = some cs → GK Pr'.old w g cs)
  (hex : (∀ k b, φ k = some (some b) → ¬ Pr b) → Ext gl w0 Pr' φ w) : Sim gl N w0 Pr' φ (lit E' H') a w := by
 have hcs : ∀ xs ys vs, TurnCs T xs ys → cellsR (KR Pr φ w) xs vs → cellsR (KR Pr' φ w) ys vs := fun xs ys vs h k => by
  obtain ⟨h1, h2⟩ := h.get
  refine ⟨by rw [k.1, h1], fun i c v hci hv => ?_⟩
  obtain ⟨c0, k1, k2⟩ := h2 i c hci
  exact hkr c0 c v k2 (k.2 i c0 v k1 hv)
 have hfz : ∀ k blk, lkB k H = some blk → blk.fz = false := fun k blk hk => by
  cases hq : lkB k H' with
  | none => rw [((hH.get k).1 hq)] at hk; cases hk
  | some b' =>
   obtain ⟨b0, h1, h2⟩ := (hH.get k).2 b' hq
   rw [hk] at h1; cases h1
   cases blk with
   | var cs z => cases z <;> first | rfl | (cases b' <;> exact h2.elim)
   | arr wd n f z => cases z <;> first | rfl | (cases b' <;> exact h2.elim)
 have hown : ∀ k b, φ k = some (some b) → ¬ Pr b := fun k b hk hp => by
  cases hq : (lit E H).h k with
  | none => rw [hs.lv k hq] at hk; cases hk
  | some blk => have := (hs.ow k b blk hq hk).2.1 hp; rw [hfz k blk hq] at this; cases this
 refine ⟨hs.sz, fun t v ht => ?_, fun k blk hk => ?_, fun k hk => hs.lv k ((hH.get k).1 hk), hs.inj, fun k b blk hk hf => ?_, fun k hk => ?_, fun t v ht k hk => ?_, fun k b hk q hq => ?_, fun b hb => hs.pr b (hsub b hb),
  hgk, hs.df, hs.bl, fun k p hk => ?_, hex hown⟩
 ·obtain ⟨v0, h1, h2⟩ := (hE.get t).2 v ht
  obtain ⟨x, h3, h4⟩ := hs.tm t v0 h1
  refine ⟨x, h3, ?_⟩
  cases v0 with
  | c c0 => cases v with
   | c c1 => exact hkr c0 c1 x h2 h4
   | agg => exact h2.elim
   | tup => exact h2.elim
  | agg xs => cases v with
   | agg ys => obtain ⟨vs, e1, e2⟩ := h4; exact ⟨vs, e1, hcs xs ys vs h2 e2⟩
   | c => exact h2.elim
   | tup => exact h2.elim
  | tup => cases v <;> exact h2.elim
 ·obtain ⟨b0, h1, h2⟩ := (hH.get k).2 blk hk
  obtain ⟨p, h3, h4⟩ := hs.hp k b0 h1
  refine ⟨p, h3, ?_⟩
  have hz := hfz k b0 h1
  cases b0 with
  | var cs z =>
   cases z with
   | true => cases hz
   | false => cases blk with
    | var cs' z' => cases z' with
     | true => exact h2.elim
     | false => obtain ⟨b, arr, T', e1, e2, e3⟩ := h4; exact ⟨b, arr, T', e1, e2, hcs cs cs' _ h2 e3⟩
    | arr => exact h2.elim
  | arr wd n f z =>
   cases z with
   | true => cases hz
   | false => cases blk with
    | var => exact h2.elim
    | arr wd' n' f' z' => cases z' with
     | true => exact h2.elim
     | false =>
      obtain ⟨rfl, rfl, rfl, h5⟩ := h2
      obtain ⟨h0, h6 | ⟨b, arr, T', e1, e2, e3, e4, e5⟩⟩ := h4
      ·exact ⟨h0, .inl h6⟩
      ·refine ⟨h0, .inr ⟨b, arr, T', e1, e2, e3, e4, fun i hi => ⟨(e5 i hi).1, fun j c hj => ?_⟩⟩⟩
       obtain ⟨y, e6, e7⟩ := (e5 i hi).2 j c hj
       exact ⟨y, e6, e7.scalar (List.all_eq_true.1 (h5 i hi) c (List.mem_of_getElem? hj))⟩
 ·obtain ⟨b0, h1, h2⟩ := (hH.get k).2 blk hk
  obtain ⟨h3, h4⟩ := hs.ow k b b0 h1 hf
  have hz' : blk.fz = false := by
   cases blk with
   | var cs z => cases z <;> first | rfl | (cases b0 with | var _ z => cases z <;> exact h2.elim | arr _ _ _ z => cases z <;> exact h2.elim)
   | arr wd n f z => cases z <;> first | rfl | (cases b0 with | var _ z => cases z <;> exact h2.elim | arr _ _ _ z => cases z <;> exact h2.elim)
  exact ⟨h3, fun hq => absurd (hsub b hq) (hown k b hf), fun hz => by rw [hz'] at hz; cases hz⟩
 ·cases hq : lkB k H' with
  | none => exact absurd hq hk
  | some b => exact List.mem_append_left _ (List.mem_map.2 ⟨(k, b), lkB_mem' hq, rfl⟩)
 ·exact List.mem_append_right _ (List.mem_append_left _ (List.mem_flatMap.2 ⟨(t, v), lkA_mem' (show lkA t E' = some v from ht), hk⟩))
 ·exact List.mem_append_right _ (List.mem_append_right _ (List.mem_flatMap.2 ⟨(k, b), lkB_mem' (show lkB k H' = some b from hk), hq⟩))
 ·obtain ⟨h1, h2⟩ := hs.pn k p hk
  refine ⟨h1, h2.imp (fun h3 => ?_) id⟩
  cases hq : lkB k H' with
  | none => exact hq
  | some b => obtain ⟨b0, h4, _⟩ := (hH.get k).2 b hq; rw [show lkB k H = none from h3] at h4; cases h4
theorem turn {E E' : List (Nat × AV)} {H H' : List (Nat × Blk)} {J : Exit → St → Prop} {x : S} (hT : gl LAW ≠ none) (hE : TurnE TurnC E E') (hH : TurnH TurnC H H') (hx : EndsI P gl N x (lit E' H') J) : EndsI P gl N x (lit E H) J := fun c hc w0 Pr φ a w hs => by
 have hdom : ∀ b, (Pr.soft w).dom b → Pr.dom b ∨ (Pr.frs w) b := fun b ⟨o, ho⟩ => by
  by_cases hf : (Pr.frs w) b
  ·exact .inr hf
  ·refine .inl ⟨o, ?_⟩
   have : (Pr.soft w).Θ b o = Pr.Θ b o := if_neg hf
   rw [this] at ho; exact ho
 have hsim : Sim gl N w0 (Pr.soft w) φ (lit E' H') a w := by
  refine turn_gen hs hE hH (fun c c' v h k => turnC_sound hs h k) (fun b hb => hs.ex.qp b hb) (fun g cs hg => (hs.gk g cs hg).mono2 (Pr' := (Pr.soft w).old) (fun b hb => ⟨hb.2, hb.2⟩) rfl (soft_sub hs.ex)) fun hown => ?_
  refine ⟨fun b hb => hb, fun b o k hk => ?_, fun b hb => ?_, fun b hb hq => ?_, fun b hb k hk => ?_, hs.ex.lw⟩
  ·by_cases hf : (Pr.frs w) b
   ·have e : (Pr.soft w).Θ b o = (w.cell? ⟨b, o, none⟩).map kindOf := if_pos hf
    rw [e, Option.map_eq_some_iff] at hk
    obtain ⟨x, hx, rfl⟩ := hk
    obtain ⟨_, _, arr, T, hh⟩ := hf
    refine ⟨arr, T, x, hh, by rw [cell_flat hh] at hx; exact hx, ?_⟩
    cases x <;> simp [kindOf, KindOk]
   ·have e : (Pr.soft w).Θ b o = Pr.Θ b o := if_neg hf
    rw [e] at hk; exact hs.ex.th b o k hk
  ·rcases hdom b hb with hd | hf
   ·exact hs.ex.dk b hd
   ·exact fun hK => hf.2.1 (hs.ex.lw hT b hK)
  ·rcases hdom b hb with hd | hf
   ·exact hs.ex.dp b hd (hs.ex.qp b hq)
   ·exact hf.2.1 hq
  ·rcases hdom b hb with hd | hf
   ·exact hs.ex.df b hd k hk
   ·exact hown k b hk hf.1
 exact wp_mono (hx c hc w0 (Pr.soft w) φ a w hsim) fun e a' w' ⟨s', Pr', φ', k1, k2, k3⟩ => ⟨s', Pr', φ', k1, k2, ⟨fun h => absurd h hT, fun h => absurd h hT⟩⟩
theorem DR.plain {Pr Pr' : PrT} {w : World} {c : AC} {v : Value} (h : DR Pr w c v) (hc : Shp c) (hp : ∀ b, Pr b → Pr' b) : DR Pr' w c v := by
 induction h generalizing Pr' with
 | int k n => exact .int k n
 | bool b => exact .bool b
 | str s => exact .str s
 | nil => exact .nil
 | slN wd f => exact .slN wd f
 | sl wd n f a cap g hn hcap hl hr hd ih =>
  cases hc with
  | sl _ _ _ hsh => exact .sl wd n f a cap g hn hcap hl (fun i j c hi hj => ⟨hp _ (hr i j c hi hj).1, (hr i j c hi hj).2⟩) fun i j c hi hj => ih i j c hi hj (hsh i hi c (List.mem_of_getElem? hj)) hp
 | _ => cases hc
def PrT.now (Pr : PrT) : PrT := { Pr with Q := Pr.p }
def TurnC0 (c c' : AC) : Prop := ((c.isS || isKey c) = true ∧ c' = c) ∨ (∃ d, c = .old d ∧ c' = .old d ∧ Shp d) ∨ (c' = .old c ∧ isSl c = true ∧ Shp c)
theorem turn0 {E E' : List (Nat × AV)} {H H' : List (Nat × Blk)} {J : Exit → St → Prop} {x : S} (hT : gl LAW ≠ none) (hg : ∀ g cs, gl g = some cs → ShpsG cs) (hE : TurnE TurnC0 E E') (hH : TurnH TurnC0 H H') (hx : EndsI P gl N x (lit E' H') J) : EndsI P gl N x (lit E H) J := fun c hc w0 Pr φ a w hs => by
 have hsim : Sim gl N w0 Pr.now φ (lit E' H') a w := by
  refine turn_gen hs hE hH (fun c c' v h k => ?_) (fun b hb => hb) (fun g cs hgc => ?_) fun hown => ⟨fun b hb => hb, hs.ex.th, hs.ex.dk, hs.ex.dp, hs.ex.df, fun h b hb => hs.ex.qp b (hs.ex.lw h b hb)⟩
  ·rcases h with ⟨h1, rfl⟩ | ⟨d, rfl, rfl, h2⟩ | ⟨rfl, h1, h2⟩
   ·cases c' with
    | int => exact DR.scalar (c := .int _ _) k rfl
    | bool => exact DR.scalar (c := .bool _) k rfl
    | str => exact DR.scalar (c := .str _) k rfl
    | nil => exact DR.scalar (c := .nil) k rfl
    | raw => exact DR.scalar (c := .raw _) k rfl
    | own => exact k
    | pk => exact k
    | pa => exact k
    | _ => simp [AC.isS, isKey] at h1
   ·have k' : DR Pr w (.old d) v := k
    cases k' with
    | old _ _ h3 => exact DR.old _ _ (h3.plain h2 fun b hb => ⟨hb.1, hb.1⟩)
   ·cases c with
    | sl wd n f =>
     have k' : DR Pr w (.sl wd n f) v := k
     exact DR.old _ _ (k'.plain h2 fun b hb => ⟨hb, hb⟩)
    | _ => simp [isSl] at h1
  ·have h1 := (hs.gk g cs hgc).1
   have h2 := hg g cs hgc
   refine ⟨?_, (hs.gk g cs hgc).2⟩
   cases h1 with
   | pd _ _ ad gg hr hd =>
    refine .pd _ _ _ gg (fun j c hj => ⟨⟨(hr j c hj).1.1, (hr j c hj).1.1⟩, (hr j c hj).2⟩) fun j c hj => ?_
    rcases h2 c (List.mem_of_getElem? hj) with h3 | ⟨v, rfl⟩
    ·exact (hd j c hj).plain h3 fun b hb => ⟨hb.1, hb.1⟩
    ·have h4 := hd j _ hj
     generalize gg j = y at h4
     cases h4
     exact .raw _ ‹_›
 exact wp_mono (hx c hc w0 Pr.now φ a w hsim) fun e a' w' ⟨s', Pr', φ', k1, k2, k3⟩ => ⟨s', Pr', φ', k1, k2, ⟨fun h => absurd h hT, fun h => absurd h hT⟩⟩
end
section
variable {P : Program} {gl : Nat → Option (List AC)} {N : Nat} {w0 : Wk} {Pr : PrT} {φ : Nat → Option (Option Nat)} {s : St} {a : Act} {w : World}
theorem fn_mu {f : FuncId} {fn : Func} {ir : S} {args : List AV} {res : AV} {H E1 : List (Nat × Blk)} {E' : List (Nat × AV)} (hL : gl LAW = none) (hf : P.funcs[f]? = some fn) (hcal : callable P f = true)
  (hc : (match fn.body with | some c => comp P fn.ntmps c | none => none) = some ir) (hn : (decide (args.length ≤ fn.ntmps)) = true) (hN : Nat.ble fn.ntmps 1000000 = true)
  (hres : resV P (lit E' E1) fn.results.toList = some res) (h : EndsI P gl fn.ntmps ir (lit (argE 0 args) H) (AtR (lit E' E1))) : FnMu P gl f args H res E1 := by
 cases hb : fn.body with
 | none => rw [hb] at hc; cases hc
 | some c =>
  rw [hb] at hc
  refine ⟨hcal, gl, hL, fun _ _ h => h, fun w0 Pr φ vals hs hlen hv hk => ?_⟩
  refine calls_of_wp hf hb ?_
  have hn' := of_decide_eq_true hn
  have hsz : vals.toArray.size = args.length := by simpa using hlen
  have hsim : Sim gl fn.ntmps w0 Pr φ (lit (argE 0 args) H) { tmps := vals.toArray ++ Array.replicate (fn.ntmps - vals.toArray.size) undef, defers := [] } w0.w := by
   refine ⟨?_, fun t v ht => ?_, hs.hp, hs.lv, hs.inj, hs.ow, fun k hk => ?_, fun t v ht k hk => ?_, fun k b hk i hi => ?_, hs.pr, hs.gk, rfl, hs.bl, fun k p hk => ?_, hs.ex⟩
   ·simp only [Array.size_append, Array.size_replicate]; omega
   ·obtain ⟨_, h2⟩ := lkA_argE args 0 t v ht
    simp only [Nat.sub_zero] at h2
    have hlt : t < vals.length := by rw [hlen]; exact (List.getElem?_eq_some_iff.1 h2).1
    refine ⟨vals[t], ?_, hv t v _ h2 (List.getElem?_eq_getElem hlt)⟩
    rw [Array.getElem?_append_left (by simpa using hlt)]
    simp [hlt]
   ·cases hq : lkB k H with
    | none => exact absurd hq hk
    | some b => exact List.mem_append_left _ (List.mem_map.2 ⟨(k, b), lkB_in hq, rfl⟩)
   ·exact List.mem_append_right _ (List.mem_append_left _ (List.mem_flatMap.2 ⟨(t, v), lkA_mem' (show lkA t (argE 0 args) = some v from ht), hk⟩))
   ·exact List.mem_append_right _ (List.mem_append_right _ (List.mem_flatMap.2 ⟨(k, b), lkB_in (show lkB k H = some b from hk), hi⟩))
   ·obtain ⟨h1, h2⟩ := hs.pn k p hk
    exact ⟨⟨h1.1, Nat.le_of_ble_eq_true hN⟩, h2⟩
  refine wp_mono (h c hc w0 Pr φ _ _ hsim) fun e a' w' ⟨s', Pr', φ', ⟨he, hs'⟩, h2, h3⟩ => ?_
  subst hs'
  obtain ⟨x, h4, h5⟩ := results_sound h2 hres
  have hend : Sim gl 0 w0 Pr' φ' (heapS E1) ⟨#[], []⟩ w' := by
   refine ⟨rfl, fun t v ht => (by cases ht), h2.hp, h2.lv, h2.inj, h2.ow, fun k hk => ?_, fun t v ht => (by cases ht), fun k b hk i hi => ?_, h2.pr, h2.gk, rfl, h2.bl, fun k p hk => ?_, h2.ex⟩
   ·cases hq : lkB k E1 with
    | none => exact absurd hq hk
    | some b => exact List.mem_append_left _ (List.mem_map.2 ⟨(k, b), lkB_in hq, rfl⟩)
   ·exact List.mem_append_right _ (List.mem_flatMap.2 ⟨(k, b), lkB_in (show lkB k E1 = some b from hk), hi⟩)
   ·obtain ⟨h1, h6⟩ := h2.pn k p hk
    exact ⟨⟨h1.1, by omega⟩, h6⟩
  have hfin : a'.defers = [] ∧ ∃ v, (results fn a'.tmps).run P w' = .ok v w' ∧ ∃ v' Pr' φ', Ending.returned v = .returned v' ∧ Sim gl 0 w0 Pr' φ' (heapS E1) ⟨#[], []⟩ w' ∧ VR (KR Pr' φ' w') res v' ∧ PrS w0 gl Pr Pr' :=
   ⟨h2.df, x, h4, x, Pr', φ', rfl, hend, h5, h3⟩
  rcases he with rfl | rfl
  ·exact hfin
  ·exact hfin
theorem FnOk.up {gl' : Nat → Option (List AC)} {f : FuncId} {args : List AV} {res : AV} (h : FnOk P gl f args res) (hg : ∀ g cs, gl g = some cs → gl' g = some cs) : FnOk P gl' f args res :=
 ⟨h.1, fun w Pr vals hpr hgk hlen hv => h.2 w Pr vals hpr (fun g cs hx => hgk g cs (hg g cs hx)) hlen hv⟩
theorem FnMu.up {gl' : Nat → Option (List AC)} {f : FuncId} {args : List AV} {H H' : List (Nat × Blk)} {res : AV} (h : FnMu P gl f args H res H') (hg : ∀ g cs, gl g = some cs → gl' g = some cs) : FnMu P gl' f args H res H' := by
 obtain ⟨h1, glc, h2, h3, h4⟩ := h
 exact ⟨h1, glc, h2, fun g cs hx => hg g cs (h3 g cs hx), h4⟩
theorem glT_sub (hL : gl LAW = none) : ∀ g cs, gl g = some cs → glT gl g = some cs := fun g cs h => by
 unfold glT
 cases e : Nat.beq g LAW with
 | true => rw [Nat.eq_of_beq_eq_true e, hL] at h; cases h
 | false => exact h
theorem tS (c : AC) (h : (c.isS || isKey c) = true) : TurnC c c := .inl ⟨h, rfl⟩
theorem tO (c : AC) : TurnC (.old c) c := .inr (.inl rfl)
theorem tF (c : AC) (h : isSl c = true) (k : Shp c) : TurnC (.fr c) (.lv c) := .inr (.inr ⟨c, rfl, rfl, h, k⟩)
def bytesOf (xs : List Int) : List UInt8 := xs.map fun x => UInt8.ofNat x.toNat
def inU8 (x : Int) : Bool := decide (0 ≤ x ∧ x < 256)
theorem bytesOf_len (xs : List Int) : (bytesOf xs).length = xs.length := by simp [bytesOf]
theorem bytesOf_at (xs : List Int) (h : xs.all inU8 = true) : ∀ i, i < xs.length → fF (fun x => [AC.int .u8 x]) 0 xs i = [.int .u8 (((bytesOf xs).getD i 0).toNat : Int)] := fun i hi => by
 have h1 := List.all_eq_true.1 h _ (List.getElem_mem hi)
 unfold inU8 at h1
 have h2 := of_decide_eq_true h1
 have e : (((bytesOf xs).getD i 0).toNat : Int) = xs[i] := by
  simp only [bytesOf, List.getD, List.getElem?_map, List.getElem?_eq_getElem hi, Option.map_some, Option.getD_some]
  rw [UInt8.toNat_ofNat_of_lt' (by show xs[i].toNat < 256; omega)]
  omega
 simp only [fF]
 rw [e]
 simp [List.getD, List.getElem?_eq_getElem hi]
theorem LawOk.law {f : FuncId} {args : List AV} (h : LawOk P gl f args) {W : World} {vals : List Value}
  (hgl : ∀ g cs, gl g = some cs → GK (Old W) W g cs) (hl : vals.length = args.length)
  (hv : ∀ (i : Nat) a v, args[i]? = some a → vals[i]? = some v → VR (DR (Old W) W) a v) :
  Calls P f vals.toArray W fun e W' => e = .returned (.bool true) ∧ Below W.heap.size W W' := h hgl hl hv
theorem uS (c : AC) (h : (c.isS || isKey c) = true) : TurnC0 c c := .inl ⟨h, rfl⟩
theorem uO (c : AC) (h : Shp c) : TurnC0 (.old c) (.old c) := .inr (.inl ⟨c, rfl, rfl, h⟩)
theorem uD (c : AC) (h : isSl c = true) (k : Shp c) : TurnC0 c (.old c) := .inr (.inr ⟨rfl, h, k⟩)
theorem glT_shp (h : ∀ g cs, gl g = some cs → ShpsG cs) : ∀ g cs, glT gl g = some cs → ShpsG cs := fun g cs hg => by
 unfold glT at hg
 cases e : Nat.beq g LAW with
 | true => rw [e] at hg; cases hg; exact fun _ h => nomatch h
 | false => rw [e] at hg; exact h g cs hg
theorem LeC.nilfr (wd : Nat) (f : Nat → List AC) : LeC .nil (.fr (.sl wd 0 f)) := fun Pr w v h => by cases h; exact .fr _ _ (.slN wd f)
def LeKs : List AV → List AV → Prop
 | [], [] => True
 | a :: r, b :: r' => (a = b ∨ (a.keys = [] ∧ LeD a b)) ∧ LeKs r r'
 | _, _ => False
theorem LeK.refl (a : AV) : a = a ∨ (a.keys = [] ∧ LeD a a) := .inl rfl
theorem LeK.of {a b : AV} (h : a.keys = []) (k : LeD a b) : a = b ∨ (a.keys = [] ∧ LeD a b) := .inr ⟨h, k⟩
theorem LeKs.len : ∀ {xs ys : List AV}, LeKs xs ys → xs.length = ys.length
 | [], [], _ => rfl
 | _ :: _, _ :: _, h => by simp [LeKs.len h.2]
 | [], _ :: _, h => h.elim
 | _ :: _, [], h => h.elim
theorem LeKs.get : ∀ {xs ys : List AV} {i : Nat} {b : AV}, LeKs xs ys → ys[i]? = some b → ∃ a, xs[i]? = some a ∧ (a = b ∨ (a.keys = [] ∧ LeD a b))
 | a :: r, b :: r', i, c, h, hy => by
  cases i with
  | zero => simp at hy; subst hy; exact ⟨a, rfl, h.1⟩
  | succ i => exact LeKs.get (xs := r) (i := i) h.2 (by simpa using hy)
 | [], [], _, _, _, hy => by simp at hy
 | [], _ :: _, _, _, h, _ => h.elim
 | _ :: _, [], _, _, h, _ => h.elim
theorem FnMu.le2 {f : FuncId} {xs bs : List AV} {H H' : List (Nat × Blk)} {res : AV} (h : FnMu P gl f bs H res H') (hl : LeKs xs bs) : FnMu P gl f xs H res H' := by
 obtain ⟨h1, glc, h2, h3, h4⟩ := h
 have hD : ∀ {Pr : PrT} {φ : Nat → Option (Option Nat)} {w : World} {a b : AV} {v : Value}, a.keys = [] → LeD a b → VR (KR Pr φ w) a v → VR (DR Pr w) b v := fun hk hle hv => by
  rw [AV.keys_eq, List.flatMap_eq_nil_iff] at hk
  exact hle _ _ _ (hv.mono fun c hc v hcv => hcv.nokeys (hk c hc))
 refine ⟨h1, glc, h2, h3, fun w0 Pr φ vals hs hlen hv hk => ?_⟩
 refine h4 w0 Pr φ vals hs (by rw [hlen, hl.len]) (fun i b v hb hvv => ?_) (fun b hb k hkb => ?_)
 ·obtain ⟨a, ha, hab⟩ := hl.get hb
  rcases hab with rfl | ⟨e1, e2⟩
  ·exact hv i _ v ha hvv
  ·exact (hD e1 e2 (hv i a v ha hvv)).mono fun c _ u hu => (KR.of_dr hu).1
 ·obtain ⟨i, hi⟩ := List.mem_iff_getElem?.1 hb
  obtain ⟨a, ha, hab⟩ := hl.get hi
  rcases hab with rfl | ⟨e1, e2⟩
  ·exact hk _ (List.mem_of_getElem? ha) k hkb
  ·have hlt : i < vals.length := by rw [hlen]; exact (List.getElem?_eq_some_iff.1 ha).1
   have := hD e1 e2 (hv i a _ ha (List.getElem?_eq_getElem hlt))
   rw [AV.keys_eq] at hkb
   obtain ⟨c, hc, hkc⟩ := List.mem_flatMap.1 hkb
   rw [this.nokeysD c hc] at hkc; cases hkc
theorem LeC.old (c : AC) : LeC (.old c) c := fun Pr w v h => by cases h with | old _ _ h => exact h.mono (.of_old _) fun _ _ => rfl
theorem LeC.fr (c : AC) : LeC (.fr c) c := fun Pr w v h => by cases h with | fr _ _ h => exact h.mono (.of_frs _ _) fun _ _ => rfl
theorem LeD.old (c : AC) : LeD (.c (.old c)) (.c c) := fun Pr w v h => LeC.old c Pr w v h
theorem LeD.fr (c : AC) : LeD (.c (.fr c)) (.c c) := fun Pr w v h => LeC.fr c Pr w v h
end
theorem fF_setN {α : Type} (enc : α → List AC) (z : α) {xs ys : List α} {i : Nat} {v : α} (h : some (xs.set i v) = some ys) (hi : i < xs.length) (n : Nat) : ∀ j, j < n → fF enc z ys j = if j = i then enc v else fF enc z xs j := by
 cases h; exact fF_set enc z xs i v hi n
theorem lenN {α : Type} {xs ys : List α} {i : Nat} {v : α} (h : some (xs.set i v) = some ys) : ys.length = xs.length := by cases h; simp
theorem ltN {α : Type} {xs ys : List α} {i k : Nat} {v : α} (h : some (xs.set i v) = some ys) (hk : k < xs.length) : k < ys.length := by rw [lenN h]; exact hk
section
variable {P : Program} {gl : Nat → Option (List AC)} {N : Nat} {s : St} {J J' : Exit → St → Prop} {A : Prop} {x y : S}
def o (n : Nat) (op : Ins) : IOp := ⟨some n, op, none⟩
def om (a b : Nat) : IOp := ⟨some a, .mv (.t b), none⟩
def iv (n : Int) : Opd := .v (.int .i64 n)
def ol (n x : Nat) : IOp := ⟨some n, .load 1 false (.t x), none⟩
def oa (n k x : Nat) : IOp := ⟨some n, .fad k (.t x), none⟩
def os (w x y : Nat) : IOp := ⟨none, .store w (.t x) (.t y), none⟩
def og (n : Nat) (i : Ins) (g : Nat) : IOp := ⟨some n, i, some (g, false)⟩
def oh (n : Nat) (i : Ins) (g : Nat) : IOp := ⟨some n, i, some (g, true)⟩
def bF : Opd := .v (.bool false)
def bT : Opd := .v (.bool true)
theorem er (h : AtR s .ret s = J .ret s := by rfl) : EndsI P gl N .ret s J := ends_ret (h ▸ ⟨.inl rfl, rfl⟩)
abbrev sq (l : List IOp) (y : S) : S := .seq (.ops l) y
abbrev pk (n : Nat) : AV := .c (.pk n 0)
abbrev va (cs : List AC) : Blk := .var cs false
abbrev dc {α : Type} (wd : Nat) (enc : α → List AC) (z : α) (xs : List α) : AV := .c (dat wd enc z xs)
abbrev ow {α : Type} (k wd : Nat) (xs : List α) : AV := .c (.own k wd 0 xs.length)
abbrev ar {α : Type} (wd : Nat) (enc : α → List AC) (z : α) (xs : List α) : Blk := .arr wd xs.length (fF enc z xs) false
abbrev cL {α : Type} (xs : List α) : AV := cI (xs.length : Int)
abbrev fh {α : Type} (enc : α → List AC) (z : α) (xs : List α) : Hint := .fn xs.length (fF enc z xs)
theorem a2 {α : Type} {C : Prop} (enc : α → List AC) {z : α} {xs : List α} {i : Int} {x : α} (h : at' z xs i = some x) (t : C) : (0 ≤ i ∧ i < (xs.length : Int)) ∧ (fF enc z xs i.toNat = enc x ∧ C) := ⟨at_lt h, at_enc h, t⟩
theorem so {l : List IOp} (hs : List Hint) (fx : List Fix) (E : List (Nat × AV)) (H : List (Nat × Blk)) (p : LeLr E H → A) (hy : EndsI P gl N y (lit E H) J)
  (h : A = SegP P gl l hs s fun _ s' => FixP fx s' fun s'' => LeL E H s'' := by kernel_rfl) : EndsI P gl N (.seq (.ops l) y) s J := seq_ops hs fx E H p h hy
theorem sx {un : List (Nat × Nat)} {l : List IOp} (hs : List Hint) (fx : List Fix) (E : List (Nat × AV)) (H : List (Nat × Blk)) (p : LeLr E H → A) (hy : EndsI P gl N y (lit E H) J)
  (h : A = SegX P gl un [] l hs s fun _ s' => FixP fx s' fun s'' => LeL E H s'' := by kernel_rfl) : EndsI P gl N (.seq (.drw un l) y) s J := seq_drw hs fx E H p h hy
def hU (ks : List Nat) (xs H : List (Nat × Blk)) : List (Nat × Blk) := xs ++ H.filter fun p => !ks.elem p.1
theorem sn {l : List IOp} {E : List (Nat × AV)} {H : List (Nat × Blk)} (hs : List Hint) (fx : List Fix) (E1 : List (Nat × AV)) (ks : List Nat) (H1 : List (Nat × Blk)) (p : LeLr (E1 ++ E) (hU ks H1 H) → A) (hy : EndsI P gl N y (lit (E1 ++ E) (hU ks H1 H)) J)
  (h : A = SegP P gl l hs (lit E H) fun _ s' => FixP fx s' fun s'' => LeL (E1 ++ E) (hU ks H1 H) s'' := by kernel_rfl) : EndsI P gl N (.seq (.ops l) y) (lit E H) J := seq_ops hs fx _ _ p h hy
theorem xn {un : List (Nat × Nat)} {l : List IOp} {E : List (Nat × AV)} {H : List (Nat × Blk)} (hs : List Hint) (fx : List Fix) (E1 : List (Nat × AV)) (ks : List Nat) (H1 : List (Nat × Blk)) (p : LeLr (E1 ++ E) (hU ks H1 H) → A) (hy : EndsI P gl N y (lit (E1 ++ E) (hU ks H1 H)) J)
  (h : A = SegX P gl un [] l hs (lit E H) fun _ s' => FixP fx s' fun s'' => LeL (E1 ++ E) (hU ks H1 H) s'' := by kernel_rfl) : EndsI P gl N (.seq (.drw un l) y) (lit E H) J := seq_drw hs fx _ _ p h hy
theorem rN : ([] : List Nat) = [] := rfl
theorem oI {α : Type} {c : Prop} [Decidable c] {x : Option α} {r : α} (h : (if c then x else none) = some r) : c ∧ x = some r := ofIf h
theorem oC {α : Type} {c : Bool} {x y : Option α} {r : α} (h : (bif c then x else y) = some r) : (c = true ∧ x = some r) ∨ (c = false ∧ y = some r) := ofCond h
theorem oB {α β : Type} {x : Option α} {f : α → Option β} {r : β} (h : x.bind f = some r) : ∃ t, x = some t ∧ f t = some r := ofBind h
def rg (n : Nat) (b : Bool) (l : List Hint) : List Hint := List.replicate n (.g b) ++ l
def An : Nat → Prop → Prop → Prop
 | 0, _, C => C
 | n + 1, p, C => p ∧ An n p C
theorem aG {C p : Prop} : ∀ (n : Nat), p → C → An n p C
 | 0, _, t => t
 | n + 1, h, t => ⟨h, aG n h t⟩
abbrev jI (x : Int) : AC := .int .i64 x
theorem rsr : Exit.ret ≠ .normal ∧ (Exit.ret = Exit.ret ∧ s = s) := ⟨by simp, rfl, rfl⟩
theorem rse {i : Nat} : Exit.exit i ≠ .normal ∧ (Exit.exit i = Exit.exit i ∧ s = s) := ⟨by simp, rfl, rfl⟩
theorem rr {e : Exit} : e = e ∧ s = s := ⟨rfl, rfl⟩
theorem rF : (false : Bool) = false := rfl
theorem rT : true = true := rfl
theorem qr : AtR s .ret s := ⟨.inl rfl, rfl⟩
theorem oo {l : List IOp} (hs : List Hint) (fx : List Fix) (E : List (Nat × AV)) (H : List (Nat × Blk)) (p : LeLr E H → A) (hJ : J .normal (lit E H))
  (h : A = SegP P gl l hs s fun _ s' => FixP fx s' fun s'' => LeL E H s'' := by kernel_rfl) : EndsI P gl N (.ops l) s J := one_ops hs fx E H p h hJ
theorem tl (fx : List Fix) (E : List (Nat × AV)) (H : List (Nat × Blk)) (p : LeLr E H → A) (hx : EndsI P gl N x (lit E H) J) (h : A = FixP fx s fun s'' => LeL E H s'' := by kernel_rfl) : EndsI P gl N x s J := tell fx E H p h hx
theorem it {q : Opd} {b : Bool} (hb : b = true) (h : EndsI P gl N x s J) (hq : ev gl s q = some (.c (.bool b)) := by kernel_rfl) : EndsI P gl N (.ite q x y) s J := ite_t hb hq h
theorem jf {q : Opd} {b : Bool} (hb : b = false) (h : EndsI P gl N y s J) (hq : ev gl s q = some (.c (.bool b)) := by kernel_rfl) : EndsI P gl N (.ite q x y) s J := ite_f hb hq h
theorem sk (h : EndsI P gl N y s J') (e : EndsI P gl N y s J' = J .normal s := by rfl) : EndsI P gl N .skip s J := ends_skip (e ▸ h)
theorem fi {f : FuncId} {args : List AV} {res : AV} (fn : Func) (ir : S) (E : List (Nat × AV)) (H : List (Nat × Blk)) (hL : gl LAW = none) (hf : P.funcs[f]? = some fn)
  (h : EndsI P gl fn.ntmps ir (lit (argE 0 args) []) (AtR (lit E H))) (hcal : callable P f = true := by kernel_rfl)
  (hc : (match fn.body with | some c => comp P fn.ntmps c | none => none) = some ir := by kernel_rfl) (hn : (decide (args.length ≤ fn.ntmps)) = true := by kernel_rfl) (hres : resV P (lit E H) fn.results.toList = some res := by kernel_rfl) (hk : res.keys = [] := by kernel_rfl) : FnOk P gl f args res :=
 fn_in hL hf hcal hc hn hres hk h
end
variable {P : Program}
theorem cell_at {w : World} {a : Addr} {n : Nat} {v : Value} (h : w.cell? (a.add n) = some v) : w.cell? ⟨a.block, a.off + n, none⟩ = some v := by
 unfold Addr.add at h
 split at h
 ·rename_i e
  have hs : a.spot = none := by
   unfold World.cell? at h
   split at h
   ·split at h
    ·cases h
    ·rename_i hs; simpa using hs
   ·cases h
  obtain ⟨ab, ao, as⟩ := a
  simp only at hs; subst hs
  rw [e]; exact h
 ·exact h
theorem spot_of {w : World} {a : Addr} {v : Value} (h : w.cell? (a.add 0) = some v) : a.spot = none := by
 unfold Addr.add World.cell? at h
 rw [if_pos rfl] at h
 split at h
 ·split at h
  ·cases h
  ·rename_i hs; simpa using hs
 ·cases h
theorem join_fn {gl : Nat → Option (List AC)} {f : FuncId} (hc : callable P f = true)
  (h0 : ∀ (a : Option Addr) (c : Nat) (sep : ByteArray) (w : World), Calls P f #[.slice a 0 c, .string sep] w fun e w' => e = .returned (.string ⟨#[]⟩) ∧ w' = w)
  (hJ : ∀ (bk o c : Nat) (xs : List ByteArray) (sep : ByteArray) (w : World), (∀ (j : Nat) x, xs[j]? = some x → w.cell? ⟨bk, o + j, none⟩ = some (.string x)) → bk < w.heap.size → xs.length ≤ 140737488355328 → xs.length ≤ c →
   (sep.data.toList.intercalate (xs.map (·.data.toList))).length ≤ 140737488355328 →
   Calls P f #[.slice (some ⟨bk, o, none⟩) xs.length c, .string sep] w fun e w' => e = .returned (.string ⟨(sep.data.toList.intercalate (xs.map (·.data.toList))).toArray⟩) ∧ Below w.heap.size w w')
  {eS : List UInt8 → List AC} (he : ∀ x, eS x = [.str x]) {z : List UInt8} (xs : List (List UInt8)) (sep : List UInt8) (r : List UInt8)
  (H : (if xs.length ≤ 140737488355328 ∧ (sep.intercalate xs).length ≤ 140737488355328 then some (sep.intercalate xs) else none) = some r) :
  FnOk P gl f [.c (dat 1 eS z xs), .c (.str sep)] (.c (.str r)) := by
 split at H
 case isFalse => cases H
 rename_i hh
 obtain ⟨hl, hj⟩ := hh
 cases H
 refine ⟨hc, fun w Pr vals hp hg hvl hv => ?_⟩
 match vals, hvl with
 | [v0, v1], _ =>
 have H0 : DR Pr w (dat 1 eS z xs) v0 := hv 0 _ _ rfl rfl
 have H1 : DR Pr w (.str sep) v1 := hv 1 _ _ rfl rfl
 cases H1
 have nilc : ∀ (a : Option Addr) (c : Nat), xs.length = 0 → Calls P f #[.slice a 0 c, .string ⟨sep.toArray⟩] w fun e w' => ∃ v, e = .returned v ∧ Bel Pr w w' ∧ VR (DR (Pr.new w w') w') (.c (.str (sep.intercalate xs))) v := fun a c hx => by
  refine (h0 a c _ w).mono ?_
  rintro e w' ⟨rfl, rfl⟩
  have : xs = [] := List.length_eq_zero_iff.1 hx
  subst this
  exact ⟨_, rfl, Bel.of (Below.refl _ _) hp.th, DR.str []⟩
 unfold dat at H0
 generalize hn : xs.length = n at H0
 generalize hf : fF eS z xs = F at H0
 cases H0 with
 | slN => exact nilc _ _ hn
 | sl _ _ _ a cap g hnc hcm hlen hr hd =>
  by_cases hz : n = 0
  ·subst hz; exact nilc _ _ hn
  have cell : ∀ i, i < n → Pr a.block ∧ w.cell? ⟨a.block, a.off + i, none⟩ = some (.string ⟨(xs.getD i z).toArray⟩) := fun i hi => by
   have hF : (F i)[0]? = some (.str (xs.getD i z)) := by rw [← hf]; unfold fF; rw [he]; rfl
   obtain ⟨g1, g2⟩ := hr i 0 _ hi hF
   have g3 := hd i 0 _ hi hF
   generalize g i 0 = y at g2 g3
   cases g3
   have := cell_at g2
   rw [Nat.mul_one, Nat.add_zero] at this
   exact ⟨g1, this⟩
  have hs : a.spot = none := by
   have hF : (F 0)[0]? = some (.str (xs.getD 0 z)) := by rw [← hf]; unfold fF; rw [he]; rfl
   have := (hr 0 0 _ (by omega) hF).2
   exact spot_of this
  have hmap : (xs.map fun l => (⟨l.toArray⟩ : ByteArray)).map (·.data.toList) = xs := by
   rw [List.map_map]
   conv => rhs; rw [← List.map_id xs]
   rfl
  have key := hJ a.block a.off cap (xs.map fun l => (⟨l.toArray⟩ : ByteArray)) ⟨sep.toArray⟩ w (fun j x hx => by
   rw [List.getElem?_map] at hx
   cases hxj : xs[j]? with
   | none => rw [hxj] at hx; cases hx
   | some y =>
    rw [hxj] at hx
    cases hx
    have hjn : j < n := by rw [← hn]; exact (List.getElem?_eq_some_iff.1 hxj).1
    have := (cell j hjn).2
    rw [this]
    simp [List.getD, hxj]) (hp.lt _ (cell 0 (by omega)).1) (by rw [List.length_map]; exact hl) (by rw [List.length_map]; omega) (by rw [hmap]; exact hj)
  rw [hmap] at key
  obtain ⟨ab, ao, as⟩ := a
  simp only at hs; subst hs
  rw [List.length_map, hn] at key
  refine Calls.mono key ?_
  rintro e w' ⟨rfl, hb⟩
  exact ⟨_, rfl, Bel.of hb hp.th, DR.str _⟩
end Go.Proofs.YtjlabdoeiphegaaGreatDoor.Ab

namespace Go.Proofs.YtjlabdoeiphegaaGreatDoor.Ab
open Go Go.RowKit Go.WideElems
def pairD {H : Type} (q : Int × Int) : DataW H := .agg [.lit (.int .i64 q.1), .lit (.int .i64 q.2)]
section
variable {H : Type} {P : Program} {en : TypeId × Value → H} {W : World} {sp : Nat → Bool} {held : Bool}
theorem trod_pair {fuel : Nat} {t : TypeId} {fs : Array Field} {cs : List Value} {q : Int × Int} {p : List MemPlace} {ti : TypeId} {f0 f1 : Field} (ht : P.underlying t = some (.struct fs)) (hfs : fs.toList = [f0, f1])
  (h0 : f0.type = ti ∧ f0.offset = 0) (h1 : f1.type = ti ∧ f1.offset = 1) (hi : P.underlying ti = some (.int .i64)) (hc : P.cellsOf ti = 1) (hct : P.cellsOf t = 2)
  (h : DataW.trod en P W 0 sp held fuel t cs = some (pairD q, p)) : cs = [.int .i64 q.1, .int .i64 q.2] := by
 obtain ⟨xs, n, rfl, hx, hlen, hxl, hel⟩ := DataW.trod_struct ht h
 have e0 : fs[0]? = some f0 := by rw [← Array.getElem?_toList, hfs]; rfl
 have e1 : fs[1]? = some f1 := by rw [← Array.getElem?_toList, hfs]; rfl
 have hsz : fs.size = 2 := by have := congrArg List.length hfs; simpa using this
 have g0 := hel 0 f0 e0
 have g1 := hel 1 f1 e1
 rw [h0.1, h0.2, hc] at g0
 rw [h1.1, h1.2, hc] at g1
 have hx1 : pairD q = DataW.agg (xs.map (·.1)) := congrArg Prod.fst hx
 unfold pairD at hx1
 rw [hsz] at hxl
 match xs, hxl with
 | [x0, x1], _ =>
  simp only [List.map_cons, List.map_nil, DataW.agg.injEq, List.cons.injEq, and_true] at hx1
  obtain ⟨k0, a1, a2, _⟩ := DataW.trod_int hi (show DataW.trod _ P W 0 _ held n ti _ = some x0 from g0)
  obtain ⟨k1, b1, b2, _⟩ := DataW.trod_int hi (show DataW.trod _ P W 0 _ held n ti _ = some x1 from g1)
  rw [a2, b2] at hx1
  simp only [DataW.lit.injEq, Lit.int.injEq, true_and] at hx1
  rw [hct] at hlen
  match cs, hlen with
  | [c0, c1], _ =>
   simp at a1 b1
   rw [a1, b1, hx1.1, hx1.2]
theorem trod_pairs {fuel : Nat} {t e : TypeId} {m : Nat} {cs : List Value} {qs : List (Int × Int)} {p : List MemPlace} (ht : P.underlying t = some (.array m e)) (hce : P.cellsOf e = 2) (hct : P.cellsOf t = m * 2)
  (he : ∀ fuel cs q p, DataW.trod en P W 0 sp held fuel e cs = some (pairD q, p) → cs = [.int .i64 q.1, .int .i64 q.2])
  (h : DataW.trod en P W 0 sp held fuel t cs = some (.agg (qs.map pairD), p)) : cs = (qs.flatMap fun q => [q.1, q.2]).map (Value.int .i64) := by
 obtain ⟨xs, n, rfl, hx, hlen, hxl, hel⟩ := DataW.trod_array ht h
 have hx1 : DataW.agg (qs.map pairD) = DataW.agg (xs.map (·.1)) := congrArg Prod.fst hx
 simp only [DataW.agg.injEq] at hx1
 have hql : qs.length = m := by have := congrArg List.length hx1; simp at this; omega
 rw [hct] at hlen
 have key : ∀ (qs : List (Int × Int)) (k : Nat) (cs : List Value), cs.length = qs.length * 2 → (∀ i, i < qs.length → ∃ q, qs[i]? = some q ∧ (cs.drop (i * 2)).take 2 = [.int .i64 q.1, .int .i64 q.2]) → cs = (qs.flatMap fun q => [q.1, q.2]).map (Value.int .i64) := by
  intro qs
  induction qs with
  | nil => intro k cs hl _; simp at hl; simp [hl]
  | cons q r ih =>
   intro k cs hl h
   obtain ⟨q', h1, h2⟩ := h 0 (by simp)
   simp at h1; subst h1
   simp only [List.length_cons] at hl
   match cs, hl with
   | [], hl => simp at hl
   | [c0], hl => simp at hl; omega
   | c0 :: c1 :: cs, hl =>
    simp at h2
    have := ih k cs (by simp at hl; omega) fun i hi => by
     obtain ⟨q', h3, h4⟩ := h (i + 1) (by simp; omega)
     refine ⟨q', by simpa using h3, ?_⟩
     have e : (i + 1) * 2 = i * 2 + 2 := by omega
     rw [e] at h4
     simpa using h4
    simp only [List.flatMap_cons, List.map_append, List.map_cons, List.map_nil, List.cons_append, List.nil_append, h2.1, h2.2]
    rw [← this]
 refine key qs 0 cs (by omega) fun i hi => ?_
 have h1 := hel i (by omega)
 rw [hce] at h1
 have hix : i < xs.length := by omega
 rw [List.getElem?_eq_getElem hix] at h1
 have hfst : xs[i].1 = pairD qs[i] := by
  have h2 : (qs.map pairD)[i]? = (xs.map (·.1))[i]? := congrArg (·[i]?) hx1
  simp [hi, hix] at h2
  exact h2.symm
 refine ⟨qs[i], List.getElem?_eq_getElem hi, he n _ qs[i] xs[i].2 ?_⟩
 rw [h1, ← hfst]
end
end Go.Proofs.YtjlabdoeiphegaaGreatDoor.Ab
