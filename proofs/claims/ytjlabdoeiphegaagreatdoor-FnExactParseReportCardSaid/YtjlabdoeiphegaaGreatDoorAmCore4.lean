/- A walk: drawn regions; no condition. -/
import Derived.Test.YtjlabdoeiphegaaGreatDoorAmCore2
set_option linter.unusedVariables false
set_option linter.unusedSimpArgs false
namespace Go.Proofs.YtjlabdoeiphegaaGreatDoor.Ab
open Go Go.RowKit
section
variable {P : Program} {gl : Nat → Option (List AC)} {N : Nat} {w0 : Wk} {Pr : PrT} {φ : Nat → Option (Option Nat)} {s : St} {a : Act} {w : World}
 {hs : List Hint} {K : List Hint → St → Prop} {Q : Exit → Act → World → Prop}
def KeyOk (s : St) : Prop := (∀ t v, s.e t = some v → ∀ k ∈ v.keys, k ∈ s.u) ∧ (∀ k blk, s.h k = some blk → ∀ j ∈ blk.keys, j ∈ s.u)
theorem Sim.keyOk (h : Sim gl N w0 Pr φ s a w) : KeyOk s := ⟨h.ke, h.kh⟩
theorem ev_keys (h : KeyOk s) {x : Opd} (hk : x.kf = true) {v : AV} (hv : ev gl s x = some v) : ∀ k ∈ v.keys, k ∈ s.u := by
 cases x with
 | t n => exact h.1 n v hv
 | v c => simp only [ev, Option.some.injEq] at hv; subst hv; simp only [Opd.kf, List.isEmpty_iff] at hk; simp [AV.keys, hk]
 | a cs => simp only [ev, Option.some.injEq] at hv; subst hv; simp only [Opd.kf, List.isEmpty_iff] at hk; simp [AV.keys, hk]
 | g n =>
  simp only [ev] at hv
  split at hv
  ·simp only [Option.some.injEq] at hv; subst hv; simp [AV.keys, AC.keys, AC.keys0]
  ·cases hv
 | f n => simp only [ev, Option.some.injEq] at hv; subst hv; simp [AV.keys, AC.keys]
inductive Rch (gl : Nat → Option (List AC)) (s : St) (o : IOp) : Nat → Prop where
 | base (y : Opd) (v : AV) (k : Nat) (hy : y ∈ opsI o.i) (hv : ev gl s y = some v) (hk : k ∈ v.keys) : Rch gl s o k
 | step (k k' : Nat) (blk : Blk) (h : Rch gl s o k) (hb : s.h k = some blk) (hk : k' ∈ blk.keys) : Rch gl s o k'
structure Out (P : Program) (gl : Nat → Option (List AC)) (s : St) (o : IOp) (x : Eff) : Prop where
 n : ∀ p ∈ x.n, o.d = some p.1 ∧ p.2.keys = []
 k : ∀ v, x.v = some v → ∀ k ∈ v.keys, k ∈ s.u ∨ k ∈ x.n.map (·.1)
 f : x.n ≠ [] → ∀ t, o.d = some t → s.u.elem t = false
 p : ∃ hs hs', ∀ s2 : St, Ag (Rch gl s o) s s2 → (∀ y ∈ opsG o, ev gl s2 y = ev gl s y) → (∀ t, o.d = some t → s.u.elem t = false → s2.u.elem t = false) →
   ∀ K2 : List Hint → St → Prop, K2 hs' (s2.eff o.d x) → StepG P gl o hs s2 K2
theorem Rch.u {o : IOp} (h : KeyOk s) (hkf : ∀ y ∈ opsI o.i, y.kf = true) {k : Nat} (hr : Rch gl s o k) : k ∈ s.u := by
 induction hr with
 | base y v k hy hv hk => exact ev_keys h (hkf y hy) hv k hk
 | step k k' blk _ hb hk _ => exact h.2 k blk hb k' hk
theorem KeyOk.eff {d : Option Nat} {x : Eff} (h : KeyOk s) (hn : ∀ p ∈ x.n, d = some p.1 ∧ p.2.keys = []) (hk : ∀ v, x.v = some v → ∀ k ∈ v.keys, k ∈ s.u ∨ k ∈ x.n.map (·.1)) : KeyOk (s.eff d x) := by
 have hlk : ∀ (n : List (Nat × Blk)) k b, lkB k n = some b → ∃ p ∈ n, p.1 = k ∧ p.2 = b := by
  intro n
  induction n with
  | nil => intro k b h; cases h
  | cons p r ih =>
   intro k b h
   obtain ⟨j, c⟩ := p
   simp only [lkB] at h
   cases hb : Nat.beq k j with
   | true => rw [hb] at h; simp only [cond_true, Option.some.injEq] at h; exact ⟨(j, c), by simp, (Nat.eq_of_beq_eq_true hb).symm, h⟩
   | false => rw [hb] at h; obtain ⟨p, h1, h2⟩ := ih k b h; exact ⟨p, by simp [h1], h2⟩
 refine ⟨fun t v ht k hkv => ?_, fun k blk hb j hj => ?_⟩
 ·simp only [St.eff, List.mem_append]
  have hold : s.e t = some v → k ∈ List.map (fun x => x.1) x.n ∨ k ∈ s.u := fun h' => .inr (h.1 t v h' k hkv)
  cases d with
  | none => exact hold ht
  | some d =>
   simp only [St.eff] at ht
   by_cases e : t = d
   ·subst e; simp only [nbt, cond_true] at ht; exact (hk v ht k hkv).symm
   ·simp only [nbf e, cond_false] at ht; exact hold ht
 ·simp only [St.eff, List.mem_append]
  simp only [St.eff] at hb
  split at hb
  ·rename_i b hl
   obtain ⟨p, h1, _, h3⟩ := hlk _ _ _ hl
   cases hb
   rw [← h3, (hn p h1).2] at hj; cases hj
  ·exact .inr (h.2 k blk hb j hj)
def Run (P : Program) (gl : Nat → Option (List AC)) : St → List IOp → List Eff → Prop
 | _, [], [] => True
 | s, o :: r, x :: xs => Out P gl s o x ∧ Run P gl (s.eff o.d x) r xs
 | _, _, _ => False
def effs (s : St) : List IOp → List Eff → St
 | o :: r, x :: xs => effs (s.eff o.d x) r xs
 | _, _ => s
theorem Run.len {ios : List IOp} : ∀ {xs : List Eff} {s : St}, Run P gl s ios xs → xs.length = ios.length := by
 induction ios with
 | nil => intro xs s h; cases xs with | nil => rfl | cons x xs => exact h.elim
 | cons o r ih => intro xs s h; cases xs with | nil => exact h.elim | cons x xs => simp [ih h.2]
theorem Run.at {ios : List IOp} : ∀ {xs : List Eff} {s : St} {i : Nat} {o : IOp} {x : Eff}, Run P gl s ios xs → ios[i]? = some o → xs[i]? = some x → Out P gl (effs s (ios.take i) (xs.take i)) o x := by
 induction ios with
 | nil => intro xs s i o x h ho; simp at ho
 | cons o' r ih =>
  intro xs s i o x h ho hx
  cases xs with
  | nil => exact h.elim
  | cons x' xs =>
   cases i with
   | zero => simp at ho hx; subst ho hx; exact h.1
   | succ i =>
    simp only [List.getElem?_cons_succ] at ho hx
    exact ih h.2 ho hx
structure Eqv (s s2 : St) : Prop where
 e : ∀ t, s2.e t = s.e t
 h : ∀ k, s2.h k = s.h k
 u : ∀ k, k ∈ s.u ↔ k ∈ s2.u
theorem Eqv.trans {a b c : St} (h : Eqv a b) (k : Eqv b c) : Eqv a c := ⟨fun t => (k.e t).trans (h.e t), fun t => (k.h t).trans (h.h t), fun t => (h.u t).trans (k.u t)⟩
theorem Eqv.symm {a b : St} (h : Eqv a b) : Eqv b a := ⟨fun t => (h.e t).symm, fun t => (h.h t).symm, fun t => (h.u t).symm⟩
theorem Eqv.eff {a b : St} (h : Eqv a b) (d : Option Nat) (x : Eff) : Eqv (a.eff d x) (b.eff d x) := by
 refine ⟨fun t => ?_, fun k => ?_, fun k => ?_⟩
 ·cases d with
  | none => exact h.e t
  | some d => simp only [St.eff]; rw [h.e]
 ·simp only [St.eff]; rw [h.h]
 ·simp only [St.eff, List.mem_append]; rw [h.u]
structure Distinct (ios : List IOp) : Prop where
 d : ∀ (i j : Nat) (oi oj : IOp) (t : Nat), ios[i]? = some oi → ios[j]? = some oj → oi.d = some t → oj.d = some t → i = j
theorem lkB_mem {k : Nat} {b : Blk} : ∀ {n : List (Nat × Blk)}, lkB k n = some b → ∃ p ∈ n, p.1 = k ∧ p.2 = b
 | [], h => by cases h
 | (j, c) :: r, h => by
  simp only [lkB] at h
  cases hb : Nat.beq k j with
  | true => rw [hb] at h; simp only [cond_true, Option.some.injEq] at h; exact ⟨(j, c), by simp, (Nat.eq_of_beq_eq_true hb).symm, h⟩
  | false => rw [hb] at h; obtain ⟨p, h1, h2⟩ := lkB_mem h; exact ⟨p, by simp [h1], h2⟩
end
structure DrawOk (ops : Array Oper) (ios : List IOp) (m : Nat) : Prop where
 len : ios.length = ops.size
 hm : m ≤ ios.length
 back : ∀ (i : Nat) (pi : Oper), ops[i]? = some pi → ∀ e ∈ pi.after, Region.binds .any e = true → e.on < i
 pure : ∀ (i : Nat) (oi : IOp), i < m → ios[i]? = some oi → isPureI oi.i = true ∧ oi.d.isSome = true ∧ ∀ y ∈ opsI oi.i, y.kf = true
 dist : ∀ (i j : Nat) (oi oj : IOp), i < m → j < m → i ≠ j → ios[i]? = some oi → ios[j]? = some oj → oi.d ≠ oj.d
 dep : ∀ (i j : Nat) (oi oj : IOp) (pi pj : Oper) (t : Nat), i < m → j < m → i ≠ j → ios[i]? = some oi → ios[j]? = some oj → ops[i]? = some pi → ops[j]? = some pj →
  oj.d = some t → t ∈ (opsG oi).flatMap rdO → (j < i → edgeOn pi j = true) ∧ (¬ j < i → edgeOn pj i = true)
 tail : ∀ (i j : Nat) (pi : Oper), m ≤ i → j < i → ops[i]? = some pi → edgeOn pi j = true ∨ ∃ (l : Nat) (pl : Oper), ops[l]? = some pl ∧ edgeOn pi l = true ∧ edgeOn pl j = true
theorem mapM_get {α β : Type} {f : α → Option β} : ∀ {l : List α} {r : List β}, l.mapM f = some r → ∀ (i : Nat) (x : α), l[i]? = some x → ∃ y, r[i]? = some y ∧ f x = some y
 | [], r, h, i, x, hx => by simp at hx
 | a :: l, r, h, i, x, hx => by
  simp only [List.mapM_cons, Option.bind_eq_bind, Option.bind_eq_some_iff, Option.pure_def, Option.some.injEq] at h
  obtain ⟨y, hy, r', hr, rfl⟩ := h
  cases i with
  | zero => simp at hx; subst hx; exact ⟨y, by simp, hy⟩
  | succ i => simp only [List.getElem?_cons_succ] at hx ⊢; exact mapM_get hr i x hx
def cnt (L : Nat → Bool) : Nat → Nat
 | 0 => 0
 | n + 1 => cnt L n + (if L n = true then 0 else 1)
theorem cnt_congr {L L' : Nat → Bool} : ∀ n, (∀ j, j < n → L' j = L j) → cnt L' n = cnt L n
 | 0, _ => rfl
 | n + 1, h => by simp only [cnt, cnt_congr n fun j hj => h j (by omega), h n (by omega)]
theorem cnt_set {L L' : Nat → Bool} {i : Nat} (h : ∀ j, L' j = (L j || j == i)) (hi : L i = false) : ∀ n, i < n → cnt L' n + 1 = cnt L n
 | 0, hn => by omega
 | n + 1, hn => by
  by_cases e : i = n
  ·subst e
   have h1 : cnt L' i = cnt L i := cnt_congr i fun j hj => by rw [h]; simp; intro e; omega
   have h2 : L' i = true := by rw [h]; simp
   simp [cnt, h1, h2, hi]
  ·have h2 : L' n = L n := by rw [h]; simp; intro e'; omega
   have := cnt_set h hi n (by omega)
   simp only [cnt, h2]; omega
theorem cnt_pos {L : Nat → Bool} {i : Nat} (hi : L i = false) : ∀ n, i < n → 0 < cnt L n
 | 0, hn => by omega
 | n + 1, hn => by
  by_cases e : i = n
  ·subst e; simp [cnt, hi]
  ·have := cnt_pos hi n (by omega); simp only [cnt]; omega
section
variable {P : Program} {gl : Nat → Option (List AC)} {N : Nat} {w0 : Wk} {Pr : PrT} {φ : Nat → Option (Option Nat)} {s : St} {a : Act} {w : World}
 {hs : List Hint} {K : List Hint → St → Prop} {Q : Exit → Act → World → Prop} {next : Act → World → Prop}
theorem getD_same {listed : Array Bool} {j : Nat} (h : j < listed.size) (d d' : Bool) : listed.getD j d = listed.getD j d' := by
 simp [Array.getD, h]
theorem getD_set {listed : Array Bool} {i j : Nat} (h : i < listed.size) : (listed.setIfInBounds i true).getD j false = (listed.getD j false || j == i) := by
 by_cases e : i = j
 ·subst e; simp [Array.getD, h]
 ·rw [getD_set_ne false e]
  have : (j == i) = false := by simp; omega
  simp [this]
end
structure Eff2 where
 v : Option AV
 n : List (Nat × Option Blk)
 u : List Nat
def lkO (k : Nat) : List (Nat × Option Blk) → Option (Option Blk)
 | [] => none
 | (j, b) :: r => bif Nat.beq k j then some b else lkO k r
def St.eff2 (s : St) (d : Option Nat) (x : Eff2) : St :=
 {e := fun t => match d with | some d => bif Nat.beq t d then x.v else s.e t | none => s.e t
  h := fun k => match lkO k x.n with | some b => b | none => s.h k
  u := x.u ++ s.u }
def SPf : List (Option Nat × Eff2) → Nat → (Nat → Bool) → St → St
 | [], _, _, s => s
 | (d, x) :: r, i, p, s => SPf r (i + 1) p (bif p i then s.eff2 d x else s)
theorem eff2_h {s : St} {d : Option Nat} {x : Eff2} {k : Nat} (h : lkO k x.n = none) : (s.eff2 d x).h k = s.h k := by simp only [St.eff2, h]
theorem eff2_h' {s : St} {d : Option Nat} {x : Eff2} {k : Nat} {b : Option Blk} (h : lkO k x.n = some b) : (s.eff2 d x).h k = b := by simp only [St.eff2, h]
theorem eff2_e {s : St} {d : Option Nat} {x : Eff2} {t : Nat} (h : d ≠ some t) : (s.eff2 d x).e t = s.e t := by
 cases d with
 | none => rfl
 | some d => simp only [St.eff2]; rw [nbf (fun e => h (by rw [e]))]; rfl
theorem eff2_e' {s : St} {x : Eff2} {t : Nat} : (s.eff2 (some t) x).e t = x.v := by simp only [St.eff2, nbt, cond_true]
theorem SPf_h {k : Nat} : ∀ {l : List (Option Nat × Eff2)} {i : Nat} {p q : Nat → Bool} {s s' : St}, (∀ j d x, l[j]? = some (d, x) → lkO k x.n ≠ none → p (i + j) = q (i + j)) → s.h k = s'.h k →
  (SPf l i p s).h k = (SPf l i q s').h k
 | [], _, _, _, _, _, _, h => h
 | (d, x) :: r, i, p, q, s, s', hp, h => by
  simp only [SPf]
  refine SPf_h (fun j d' x' hj hx => ?_) ?_
  ·have := hp (j + 1) d' x' (by simpa using hj) hx
   rw [show i + 1 + j = i + (j + 1) by omega]; exact this
  ·have h0 := hp 0 d x rfl
   cases hk : lkO k x.n with
   | none => cases p i <;> cases q i <;> simp only [cond_true, cond_false, eff2_h hk, h]
   | some b =>
    have := h0 (by rw [hk]; simp)
    simp only [Nat.add_zero] at this
    rw [this]
    cases q i
    ·exact h
    ·simp only [cond_true, eff2_h' hk]
theorem SPf_e {t : Nat} : ∀ {l : List (Option Nat × Eff2)} {i : Nat} {p q : Nat → Bool} {s s' : St}, (∀ j x, l[j]? = some (some t, x) → p (i + j) = q (i + j)) → s.e t = s'.e t →
  (SPf l i p s).e t = (SPf l i q s').e t
 | [], _, _, _, _, _, _, h => h
 | (d, x) :: r, i, p, q, s, s', hp, h => by
  simp only [SPf]
  refine SPf_e (fun j x' hj => ?_) ?_
  ·have := hp (j + 1) x' (by simpa using hj)
   rw [show i + 1 + j = i + (j + 1) by omega]; exact this
  ·by_cases hd : d = some t
   ·subst hd
    have := hp 0 x rfl
    simp only [Nat.add_zero] at this
    rw [this]
    cases q i
    ·exact h
    ·simp only [cond_true, eff2_e']
   ·cases p i <;> cases q i <;> simp only [cond_true, cond_false, eff2_e hd, h]
theorem SPf_u {k : Nat} : ∀ {l : List (Option Nat × Eff2)} {i : Nat} {p : Nat → Bool} {s : St}, k ∈ (SPf l i p s).u ↔ k ∈ s.u ∨ ∃ j d x, l[j]? = some (d, x) ∧ p (i + j) = true ∧ k ∈ x.u
 | [], _, _, _ => by simp [SPf]
 | (d, x) :: r, i, p, s => by
  simp only [SPf]
  rw [SPf_u]
  constructor
  ·rintro (h | ⟨j, d', x', h1, h2, h3⟩)
   ·cases hp : p i with
    | false => rw [hp] at h; exact .inl h
    | true =>
     rw [hp] at h
     simp only [cond_true, St.eff2, List.mem_append] at h
     rcases h with h | h
     ·exact .inr ⟨0, d, x, rfl, hp, h⟩
     ·exact .inl h
   ·exact .inr ⟨j + 1, d', x', by simpa using h1, by rw [show i + (j + 1) = i + 1 + j by omega]; exact h2, h3⟩
  ·rintro (h | ⟨j, d', x', h1, h2, h3⟩)
   ·left
    cases p i
    ·exact h
    ·simp only [cond_true, St.eff2, List.mem_append]; exact .inr h
   ·cases j with
    | zero =>
     simp only [List.getElem?_cons_zero, Option.some.injEq, Prod.mk.injEq] at h1
     obtain ⟨rfl, rfl⟩ := h1
     simp only [Nat.add_zero] at h2
     left; rw [h2]; simp only [cond_true, St.eff2, List.mem_append]; exact .inl h3
    | succ j => exact .inr ⟨j, d', x', by simpa using h1, by rw [show i + 1 + j = i + (j + 1) by omega]; exact h2, h3⟩
theorem SPf_h_last {k : Nat} {b : Option Blk} : ∀ {l : List (Option Nat × Eff2)} {i m : Nat} {d : Option Nat} {x : Eff2} {p : Nat → Bool} {s : St}, l[m]? = some (d, x) → lkO k x.n = some b → p (i + m) = true →
  (∀ j d' x', m < j → l[j]? = some (d', x') → lkO k x'.n ≠ none → p (i + j) = false) → (SPf l i p s).h k = b
 | [], _, m, _, _, _, _, h, _, _, _ => by simp at h
 | (d', x') :: r, i, m, d, x, p, s, hm, hk, hp, hl => by
  simp only [SPf]
  cases m with
  | zero =>
   simp only [List.getElem?_cons_zero, Option.some.injEq, Prod.mk.injEq] at hm
   obtain ⟨rfl, rfl⟩ := hm
   simp only [Nat.add_zero] at hp
   rw [hp, cond_true]
   have : (SPf r (i + 1) p (s.eff2 d' x')).h k = (SPf r (i + 1) (fun _ => false) (s.eff2 d' x')).h k := SPf_h (fun j d2 x2 hj hx => by
    rw [show i + 1 + j = i + (j + 1) by omega]
    exact hl (j + 1) d2 x2 (by omega) (by simpa using hj) hx) rfl
   rw [this]
   have none : ∀ (l : List (Option Nat × Eff2)) (i : Nat) (s : St), SPf l i (fun _ => false) s = s := by
    intro l
    induction l with
    | nil => intro i s; rfl
    | cons y l ih => intro i s; obtain ⟨a, c⟩ := y; simp only [SPf, cond_false]; exact ih _ _
   rw [none, eff2_h' hk]
  | succ m =>
   refine SPf_h_last (m := m) (by simpa using hm) hk (by rw [show i + 1 + m = i + (m + 1) by omega]; exact hp) fun j d2 x2 hj hjl hx => ?_
   rw [show i + 1 + j = i + (j + 1) by omega]
   exact hl (j + 1) d2 x2 (by omega) (by simpa using hjl) hx
theorem SPf_e_last {t : Nat} : ∀ {l : List (Option Nat × Eff2)} {i m : Nat} {x : Eff2} {p : Nat → Bool} {s : St}, l[m]? = some (some t, x) → p (i + m) = true →
  (∀ j x', m < j → l[j]? = some (some t, x') → p (i + j) = false) → (SPf l i p s).e t = x.v
 | [], _, m, _, _, _, h, _, _ => by simp at h
 | (d', x') :: r, i, m, x, p, s, hm, hp, hl => by
  simp only [SPf]
  cases m with
  | zero =>
   simp only [List.getElem?_cons_zero, Option.some.injEq, Prod.mk.injEq] at hm
   obtain ⟨rfl, rfl⟩ := hm
   simp only [Nat.add_zero] at hp
   rw [hp, cond_true]
   have : (SPf r (i + 1) p (s.eff2 (some t) x')).e t = (SPf r (i + 1) (fun _ => false) (s.eff2 (some t) x')).e t := SPf_e (fun j x2 hj => by
    rw [show i + 1 + j = i + (j + 1) by omega]
    exact hl (j + 1) x2 (by omega) (by simpa using hj)) rfl
   rw [this]
   have none : ∀ (l : List (Option Nat × Eff2)) (i : Nat) (s : St), SPf l i (fun _ => false) s = s := by
    intro l
    induction l with
    | nil => intro i s; rfl
    | cons y l ih => intro i s; obtain ⟨a, c⟩ := y; simp only [SPf, cond_false]; exact ih _ _
   rw [none, eff2_e']
  | succ m =>
   refine SPf_e_last (m := m) (by simpa using hm) (by rw [show i + 1 + m = i + (m + 1) by omega]; exact hp) fun j x2 hj hjl => ?_
   rw [show i + 1 + j = i + (j + 1) by omega]
   exact hl (j + 1) x2 (by omega) (by simpa using hjl)
theorem SPf_step {l : List (Option Nat × Eff2)} {m : Nat} {d : Option Nat} {x : Eff2} {p q : Nat → Bool} {s : St} (hm : l[m]? = some (d, x)) (hpm : p m = false) (hq : ∀ j, q j = (p j || j == m))
  (hd : ∀ j d' x' t, m < j → l[j]? = some (d', x') → d = some t → d' = some t → p j = false) (hk : ∀ j d' x' k, m < j → l[j]? = some (d', x') → lkO k x.n ≠ none → lkO k x'.n ≠ none → p j = false) :
  Eqv ((SPf l 0 p s).eff2 d x) (SPf l 0 q s) := by
 have hqm : q m = true := by rw [hq]; simp
 have hqj : ∀ j, j ≠ m → q j = p j := fun j hj => by rw [hq]; simp [hj]
 refine ⟨fun t => ?_, fun k => ?_, fun k => ?_⟩
 ·by_cases e : d = some t
  ·subst e
   rw [eff2_e']
   refine SPf_e_last (m := m) hm (by simpa using hqm) fun j x' hj hjl => ?_
   rw [Nat.zero_add, hqj j (by omega)]
   exact hd j _ x' t hj hjl rfl rfl
  ·rw [eff2_e e]
   refine SPf_e (fun j x' hj => ?_) rfl
   rw [Nat.zero_add]
   refine hqj j fun e' => ?_
   subst e'
   rw [hm] at hj; cases hj; exact e rfl
 ·cases hl : lkO k x.n with
  | none =>
   rw [eff2_h hl]
   refine SPf_h (fun j d' x' hj hx => ?_) rfl
   rw [Nat.zero_add]
   refine hqj j fun e' => ?_
   subst e'
   rw [hm] at hj; cases hj; exact hx hl
  | some b =>
   rw [eff2_h' hl]
   refine SPf_h_last (m := m) hm hl (by simpa using hqm) fun j d' x' hj hjl hx => ?_
   rw [Nat.zero_add, hqj j (by omega)]
   exact hk j d' x' k hj hjl (by rw [hl]; simp) hx
 ·simp only [St.eff2, List.mem_append]
  rw [SPf_u, SPf_u]
  constructor
  ·rintro (h | h | ⟨j, d', y, h1, h2, h3⟩)
   ·exact .inr ⟨m, d, x, hm, by simpa using hqm, h⟩
   ·exact .inl h
   ·exact .inr ⟨j, d', y, h1, by rw [hq, h2]; rfl, h3⟩
  ·rintro (h | ⟨j, d', y, h1, h2, h3⟩)
   ·exact .inr (.inl h)
   ·by_cases e : j = m
    ·subst e; rw [hm] at h1; cases h1; exact .inl h3
    ·exact .inr (.inr ⟨j, d', y, h1, by rw [← hqj (0 + j) (by omega)]; exact h2, h3⟩)
def keysOf (gl : Nat → Option (List AC)) (s : St) (y : Opd) : List Nat := match ev gl s y with | some v => v.keys | none => []
def opsC : Ins → List Opd
 | .iad .. | .fad .. | .nck .. | .iar .. | .mv .. | .ext .. | .fld .. | .build .. => []
 | i => opsX i
def reach (s : St) (ks : List Nat) : List Nat := ks ++ ks.flatMap fun k => match s.h k with | some b => b.keys | none => []
def rdL (gl : Nat → Option (List AC)) (s : St) : Ins → List Nat
 | .call _ xs => reach s (xs.flatMap (keysOf gl s))
 | .cald x xs => reach s ((x :: xs).flatMap (keysOf gl s))
 | i => (opsC i).flatMap (keysOf gl s)
def nmL (gl : Nat → Option (List AC)) (s : St) (i : Ins) : List Nat := (opsX i).flatMap (keysOf gl s)
def kcK (gl : Nat → Option (List AC)) (s : St) : Ins → List Nat
 | .app _ _ x _ => keysOf gl s x
 | .call _ xs => reach s (xs.flatMap (keysOf gl s))
 | _ => []
def updK (gl : Nat → Option (List AC)) (s : St) : Ins → List Nat
 | .store _ a _ => keysOf gl s a
 | .app _ _ x _ => keysOf gl s x
 | .cpy x _ => keysOf gl s x
 | .call _ xs => reach s (xs.flatMap (keysOf gl s))
 | _ => []
def muG (m : Mu) (k : Nat) : Option Blk := bif (m.os.map (·.2)).elem k then (match lkB (lkN (swp m.os) k) m.H with | some b => some (b.rn (lkN m.os)) | none => none) else none
def muE (m : Mu) : Eff2 := ⟨some (m.res.rn (lkN m.os)), (m.os.map (·.2) ++ m.ks.map (·.1)).map fun k => (k, muG m k), (m.os.map (·.2)).filter fun k => !(m.ks.map (·.1)).elem k⟩
def chkX (gl : Nat → Option (List AC)) (s : St) (xs : List Opd) (m : Mu) : Bool :=
 (m.ks.map (·.1)).all (fun k => (reach s (xs.flatMap (keysOf gl s))).elem k) && (muE m).u.all fun k => Nat.ble 1000 k
def callX (P : Program) (gl : Nat → Option (List AC)) (d : Option Nat) (f : FuncId) (xs : List Opd) (vs : List AV) (m : Mu) (s : St) (K : St → Prop) : Prop :=
 match mkH s m.ks m.ks, vs.all AV.nclo && (chkM s vs m && chkX gl s xs m) with
 | some H, true => FnMu P gl f (vs.map (AV.rn (lkN m.ks))) H m.res m.H ∧ K (s.eff2 d (muE m))
 | _, _ => False
def clR (s : St) (ks : List Nat) : Bool := (reach s (reach s ks)).all fun k => (reach s ks).elem k
def StepX (P : Program) (gl : Nat → Option (List AC)) (d : Option Nat) : Ins → List Hint → St → (List Hint → St → Prop) → Prop
 | .store w a v, hs, s, K => match d, ev gl s a, ev gl s v with
  | none, some (.c (.pk k i)), some v => match s.h k, v.one with
   | some (.var cs false), some vc => if vc.length = w then if i + w ≤ cs.length then K hs (s.eff2 none ⟨none, [(k, some (.var (setC cs i vc) false))], []⟩) else False else False
   | _, _ => False
  | none, some (.c (.pa k wd i o)), some v => match s.h k, v.one, hs with
   | some (.arr wd' n f false), some vc, .fn _ f' :: hs => if wd = wd' then if vc.length = w then vc.all AC.isD = true ∧ i < n ∧ o + w ≤ wd ∧
     (∀ j, j < n → f' j = if j = i then setC (f i) o vc else f j) ∧ K hs (s.eff2 none ⟨none, [(k, some (.arr wd n f' false))], []⟩) else False else False
   | _, _, _ => False
  | _, _, _ => False
 | .app wd bytes x y, hs, s, K => match d, ev gl s x, ev gl s y, hs with
  | some kd, some (.c (.own k wd' 0 len)), some y, .fn n' f' :: hs => match s.u.elem kd, s.h k, elemsOf s (some k) y with
   | false, some (.arr wd'' n f false), some (wd3, m, g) => if wd = wd' then if wd = wd'' then if wd = wd3 then elemsB s y ((len ≤ n ∧ n' = len + m ∧ n' ≤ LIM) ∧
     (∀ i, i < len → f' i = f i) ∧ (∀ j, j < m → f' (len + j) = g j) ∧ K hs (s.eff2 (some kd) ⟨some (.c (.own kd wd 0 n')), [(kd, some (.arr wd n' f' false)), (k, none)], [kd]⟩)) else False else False else False
   | _, _, _ => False
  | some kd, some (.c .nil), some y, .fn n' f' :: hs => match s.u.elem kd, elemsOf s none y with
   | false, some (wd3, m, g) => if wd = wd3 then elemsB s y ((n' = m ∧ n' ≤ LIM) ∧ (∀ j, j < m → f' j = g j) ∧ K hs (s.eff2 (some kd) ⟨some (.c (.own kd wd 0 n')), [(kd, some (.arr wd n' f' false))], [kd]⟩)) else False
   | _, _ => False
  | _, _, _, _ => False
 | .slc wd x lo hi, hs, s, K => match ev gl s x, hs with
  | some (.c (.sl wd' n f)), .fn n' f' :: hs => match bnd gl s 0 lo, bnd gl s n hi with
   | some l, some h => if wd = wd' then (0 ≤ l ∧ l ≤ h ∧ h ≤ n) ∧ n' = (h - l).toNat ∧ (∀ i, i < n' → f' i = f (l.toNat + i)) ∧ K hs (s.pu d (.c (.sl wd n' f'))) else False
   | _, _ => False
  | some (.c (.own k wd' 0 n)), .nat n' :: hs => match lo, bnd gl s n hi, s.h k with
   | none, some h, some (.arr _ _ _ _) => if wd = wd' then (0 ≤ h ∧ h ≤ n ∧ h.toNat = n') ∧ K hs (s.pu d (.c (.own k wd' 0 n'))) else False
   | some y, some h, some (.arr _ _ _ _) => match bnd gl s 0 (some y) with | some l => if wd = wd' then (0 ≤ l ∧ l < h ∧ h ≤ n ∧ (h - l).toNat = n') ∧ K hs (s.pu d (.c (.own k wd' l.toNat n'))) else False | none => False
   | _, _, _ => False
  | _, _ => False
 | .cpy x y, hs, s, K => match ev gl s x, ev gl s y, hs with
  | some (.c (.own k 1 off len)), some y, .fn n' f' :: hs => match s.h k, elemsOf s none y with
   | some (.arr 1 n f false), some (1, m, g) => elemsB s y ((0 < n' ∧ n' = Nat.min m len ∧ off + len ≤ n) ∧ (∀ i, i < n → f' i = if off ≤ i ∧ i < off + n' then g (i - off) else f i) ∧ K hs (s.eff2 d ⟨some (.c (.int .i64 n')), [(k, some (.arr 1 n f' false))], []⟩))
   | _, _ => False
  | _, _, _ => False
 | .load w agg x, hs, s, K => StepD P gl d (.load w agg x) hs s K
 | .call f xs, .mu ks os r H :: hs1, s, K => match evs gl s xs with
  | some vs => callX P gl d f xs vs ⟨ks, os, r, H⟩ s (K hs1)
  | none => False
 | .call f xs, hs, s, K => match clR s (xs.flatMap (keysOf gl s)) with | true => StepD P gl d (.call f xs) hs s K | false => False
 | .cald x xs, hs, s, K => match clR s ((x :: xs).flatMap (keysOf gl s)) with | true => StepD P gl d (.cald x xs) hs s K | false => False
 | i, hs, s, K => StepD P gl d i hs s K
def StepXG (P : Program) (gl : Nat → Option (List AC)) (o : IOp) (hs : List Hint) (s : St) (K : List Hint → St → Prop) : Prop :=
 match o.g with
 | none => StepX P gl o.d o.i hs s K
 | some (t, b) => match s.e t, hs with
  | some (.c (.bool c)), .g v :: hs => c = v ∧ match v, b with
   | true, true | false, false => StepX P gl o.d o.i hs s K
   | _, _ => K hs (s.pu o.d (.tup []))
  | some (.tup _), hs => K hs (s.pu o.d (.tup []))
  | _, _ => False
def Eff.two (x : Eff) : Eff2 := ⟨x.v, x.n.map fun p => (p.1, some p.2), x.n.map (·.1)⟩
theorem lkO_two {k : Nat} : ∀ (n : List (Nat × Blk)), lkO k (n.map fun p => (p.1, some p.2)) = (lkB k n).map some
 | [] => rfl
 | (j, b) :: r => by
  simp only [List.map_cons, lkO, lkB]
  cases Nat.beq k j
  ·exact lkO_two r
  ·rfl
theorem eff_two (s : St) (d : Option Nat) (x : Eff) : s.eff d x = s.eff2 d x.two := by
 have hh : (s.eff d x).h = (s.eff2 d x.two).h := by
  funext k
  simp only [St.eff, St.eff2]
  rw [show x.two.n = x.n.map fun p => (p.1, some p.2) from rfl, lkO_two]
  cases lkB k x.n <;> rfl
 have e : s.eff d x = ⟨(s.eff d x).e, (s.eff d x).h, (s.eff d x).u⟩ := rfl
 rw [e, hh]
 rfl
section
variable {P : Program} {gl : Nat → Option (List AC)} {N : Nat} {w0 : Wk} {Pr : PrT} {φ : Nat → Option (Option Nat)} {s : St} {a : Act} {w : World}
 {d : Option Nat} {i : Ins} {hs hs' : List Hint} {K : List Hint → St → Prop}
structure Ok2 (P : Program) (gl : Nat → Option (List AC)) (s : St) (d : Option Nat) (i : Ins) (x : Eff2) : Prop where
 k : ∀ v, x.v = some v → ∀ k ∈ v.keys, k ∈ s.u ∨ k ∈ x.u
 b : ∀ k b, lkO k x.n = some (some b) → ∀ j ∈ b.keys, j ∈ s.u ∨ j ∈ x.u
 n : ∀ k, lkO k x.n ≠ none → k ∈ x.u ∨ k ∈ updK gl s i
 f : ∀ k ∈ x.u, (d = some k ∨ 1000 ≤ k) ∧ s.u.elem k = false
 c : ∀ k, lkO k x.n = some none → k ∈ kcK gl s i ∨ k ∈ x.u
 s : ∀ k b, lkO k x.n = some (some b) → k ∈ x.u ∨ s.h k ≠ none
def Same2 (P : Program) (gl : Nat → Option (List AC)) (s : St) (d : Option Nat) (i : Ins) (x : Eff2) (hs hs' : List Hint) : Prop :=
 ∀ s2 : St, (∀ k ∈ rdL gl s i, s2.h k = s.h k) → (∀ k ∈ nmL gl s i, s.h k ≠ none → s2.h k ≠ none) → (∀ y ∈ opsX i, ev gl s2 y = ev gl s y) → (∀ t, d = some t → s.u.elem t = false → s2.u.elem t = false) → (∀ k ∈ x.u, s2.u.elem k = false) →
  ∀ K2 : List Hint → St → Prop, K2 hs' (s2.eff2 d x) → StepX P gl d i hs s2 K2
theorem opsC_sub {y : Opd} (h : y ∈ opsC i) : y ∈ opsX i := by
 unfold opsC at h
 split at h <;> first | (cases h; done) | exact h
theorem mem_nmL {y : Opd} {v : AV} {k : Nat} (hy : y ∈ opsX i) (hv : ev gl s y = some v) (hk : k ∈ v.keys) : k ∈ nmL gl s i :=
 List.mem_flatMap.2 ⟨y, hy, by simp only [keysOf, hv]; exact hk⟩
theorem rdL_of {k : Nat} (h : k ∈ (opsC i).flatMap (keysOf gl s)) : k ∈ rdL gl s i := by
 cases i <;> first | exact h | exact List.mem_append_left _ h
theorem mem_rdL {y : Opd} {v : AV} {k : Nat} (hy : y ∈ opsC i) (hv : ev gl s y = some v) (hk : k ∈ v.keys) : k ∈ rdL gl s i :=
 rdL_of <| List.mem_flatMap.2 ⟨y, hy, by simp only [keysOf, hv]; exact hk⟩
theorem nmL_u (h : KeyOk s) (hkf : ∀ y ∈ opsX i, y.kf = true) {k : Nat} (hk : k ∈ nmL gl s i) : k ∈ s.u := by
 obtain ⟨y, hy, hk⟩ := List.mem_flatMap.1 hk
 unfold keysOf at hk
 split at hk
 ·rename_i v hv; exact ev_keys h (hkf y hy) hv k hk
 ·cases hk
theorem opsC_nm {k : Nat} (hk : k ∈ (opsC i).flatMap (keysOf gl s)) : k ∈ nmL gl s i := by
 obtain ⟨y, hy, hk⟩ := List.mem_flatMap.1 hk
 exact List.mem_flatMap.2 ⟨y, opsC_sub hy, hk⟩
theorem reach_cases {ks : List Nat} {k : Nat} (h : k ∈ reach s ks) : k ∈ ks ∨ ∃ k0 b, k0 ∈ ks ∧ s.h k0 = some b ∧ k ∈ b.keys := by
 rcases List.mem_append.1 h with h | h
 ·exact .inl h
 ·obtain ⟨k0, h0, hk⟩ := List.mem_flatMap.1 h
  split at hk
  ·rename_i b hb; exact .inr ⟨k0, b, h0, hb, hk⟩
  ·cases hk
theorem rdL_cases {k : Nat} (h : k ∈ rdL gl s i) : k ∈ nmL gl s i ∨ ∃ k0 b, k0 ∈ nmL gl s i ∧ k0 ∈ rdL gl s i ∧ s.h k0 = some b ∧ k ∈ b.keys := by
 cases i
 case call f xs =>
  rcases reach_cases h with h | ⟨k0, b, h0, h1, h2⟩
  ·exact .inl h
  ·exact .inr ⟨k0, b, h0, List.mem_append_left _ h0, h1, h2⟩
 case cald x xs =>
  rcases reach_cases h with h | ⟨k0, b, h0, h1, h2⟩
  ·exact .inl h
  ·exact .inr ⟨k0, b, h0, List.mem_append_left _ h0, h1, h2⟩
 all_goals exact .inl (opsC_nm h)
theorem rdL_u (h : KeyOk s) (hkf : ∀ y ∈ opsX i, y.kf = true) {k : Nat} (hk : k ∈ rdL gl s i) : k ∈ s.u := by
 rcases rdL_cases hk with hk | ⟨k0, b, _, _, h1, h2⟩
 ·exact nmL_u h hkf hk
 ·exact h.2 k0 b h1 k h2
theorem flat_congr {s2 : St} {L : List Opd} (h : ∀ y ∈ L, ev gl s2 y = ev gl s y) : L.flatMap (keysOf gl s2) = L.flatMap (keysOf gl s) := by
 have : ∀ l : List Opd, (∀ y ∈ l, ev gl s2 y = ev gl s y) → l.flatMap (keysOf gl s2) = l.flatMap (keysOf gl s) := by
  intro l
  induction l with
  | nil => intro _; rfl
  | cons y l ih => intro hl; rw [List.flatMap_cons, List.flatMap_cons, ih fun z hz => hl z (by simp [hz])]; simp only [keysOf, hl y (by simp)]
 exact this _ h
theorem reach_congr {s2 : St} {ks : List Nat} (h : ∀ k ∈ reach s ks, s2.h k = s.h k) : reach s2 ks = reach s ks := by
 unfold reach
 have : ∀ l : List Nat, (∀ k ∈ l, s2.h k = s.h k) → (l.flatMap fun k => match s2.h k with | some b => b.keys | none => []) = l.flatMap fun k => match s.h k with | some b => b.keys | none => [] := by
  intro l
  induction l with
  | nil => intro _; rfl
  | cons y l ih => intro hl; rw [List.flatMap_cons, List.flatMap_cons, ih fun z hz => hl z (by simp [hz]), hl y (by simp)]
 rw [this ks fun k hk => h k (List.mem_append_left _ hk)]
theorem rdL_congr {s2 : St} (h : ∀ y ∈ opsX i, ev gl s2 y = ev gl s y) (hh : ∀ k ∈ rdL gl s i, s2.h k = s.h k) : rdL gl s2 i = rdL gl s i := by
 cases i
 case call f xs =>
  have e : xs.flatMap (keysOf gl s2) = xs.flatMap (keysOf gl s) := flat_congr h
  show reach s2 (xs.flatMap (keysOf gl s2)) = reach s (xs.flatMap (keysOf gl s))
  rw [e]; exact reach_congr hh
 case cald x xs =>
  have e : (x :: xs).flatMap (keysOf gl s2) = (x :: xs).flatMap (keysOf gl s) := flat_congr h
  show reach s2 ((x :: xs).flatMap (keysOf gl s2)) = reach s ((x :: xs).flatMap (keysOf gl s))
  rw [e]; exact reach_congr hh
 all_goals exact flat_congr fun y hy => h y (opsC_sub hy)
theorem nmL_congr {s2 : St} (h : ∀ y ∈ opsX i, ev gl s2 y = ev gl s y) : nmL gl s2 i = nmL gl s i := flat_congr h
theorem ok2_of_par (hko : KeyOk s) (hkf : ∀ y ∈ opsX i, y.kf = true) (he : opsX i = opsI i) (hX : ∀ s2 K2, (∀ k ∈ rdL gl s i, s2.h k = s.h k) → (∀ y ∈ opsX i, ev gl s2 y = ev gl s y) → StepD P gl d i hs s2 K2 → StepX P gl d i hs s2 K2)
  (h : Par P gl (fun k => k ∈ rdL gl s i) d i hs s K) : ∃ hs' x, K hs' (s.eff2 d x) ∧ Ok2 P gl s d i x ∧ Same2 P gl s d i x hs hs' := by
 obtain ⟨hs', x, h1, h2, h3, h4, h5⟩ := h
 refine ⟨hs', x.two, by rw [← eff_two]; exact h1, ⟨fun v hv k hk => ?_, fun k b hb j hj => ?_, fun k hk => ?_, fun k hk => ?_, fun k hb => ?_, fun k b hb => ?_⟩, fun s2 ha _ hev hf _ K2 hK => hX s2 K2 ha hev (h5 s2 ha (fun y hy => hev y (by rw [he]; exact hy)) hf K2 (by rw [eff_two]; exact hK))⟩
 ·rcases h3 v hv k hk with h | h
  ·exact .inl (rdL_u hko hkf h)
  ·exact .inr h
 ·rw [show x.two.n = x.n.map fun p => (p.1, some p.2) from rfl, lkO_two] at hb
  cases hl : lkB k x.n with
  | none => rw [hl] at hb; cases hb
  | some b' =>
   rw [hl] at hb; cases hb
   obtain ⟨p, hp, _, rfl⟩ := lkB_mem hl
   rw [(h2 p hp).2] at hj; cases hj
 ·rw [show x.two.n = x.n.map fun p => (p.1, some p.2) from rfl, lkO_two] at hk
  cases hl : lkB k x.n with
  | none => rw [hl] at hk; exact absurd rfl hk
  | some b' =>
   obtain ⟨p, hp, rfl, _⟩ := lkB_mem hl
   exact .inl (List.mem_map.2 ⟨p, hp, rfl⟩)
 ·obtain ⟨p, hp, rfl⟩ := List.mem_map.1 hk
  exact ⟨.inl (h2 p hp).1, h4 (fun e => by rw [e] at hp; cases hp) _ (h2 p hp).1⟩
 ·rw [show x.two.n = x.n.map fun p => (p.1, some p.2) from rfl, lkO_two] at hb
  cases hl : lkB k x.n with
  | none => rw [hl] at hb; cases hb
  | some b' => rw [hl] at hb; cases hb
 ·rw [show x.two.n = x.n.map fun p => (p.1, some p.2) from rfl, lkO_two] at hb
  cases hl : lkB k x.n with
  | none => rw [hl] at hb; cases hb
  | some b' =>
   obtain ⟨p, hp, rfl, _⟩ := lkB_mem hl
   exact .inl (List.mem_map.2 ⟨p, hp, rfl⟩)
theorem eff_pu2 (s : St) (d : Option Nat) (v : AV) : s.pu d v = s.eff2 d ⟨some v, [], []⟩ := by cases d <;> rfl
theorem load_ok {w : Nat} {g : Bool} {y : Opd} (hko : KeyOk s) (hkf : ∀ z ∈ opsX (.load w g y), z.kf = true) (h : StepX P gl d (.load w g y) hs s K) :
  ∃ hs' x, K hs' (s.eff2 d x) ∧ Ok2 P gl s d (.load w g y) x ∧ Same2 P gl s d (.load w g y) x hs hs' := by
 have ok : ∀ v : AV, (∀ k ∈ v.keys, k ∈ s.u) → Ok2 P gl s d (.load w g y) ⟨some v, [], []⟩ := fun v hv =>
  ⟨fun v' h' k hk => by cases h'; exact .inl (hv k hk), fun k b hb => (by cases hb), fun k hk => absurd rfl hk, fun k hk => (by cases hk), fun k hb => (by cases hb), fun k b hb => (by cases hb)⟩
 simp only [StepX, StepD] at h
 split at h
 ·rename_i cs j hv
  split at h
  ·rename_i v hl
   refine ⟨hs, ⟨some v, [], []⟩, by rw [← eff_pu2]; exact h.2, ok v (by rw [h.1]; simp), fun s2 ha hal he hf hfu K2 hK => ?_⟩
   simp only [StepX, StepD, he y (by simp [opsX, opsI]), hv, hl]
   exact ⟨h.1, by rw [eff_pu2]; exact hK⟩
  ·exact h.elim
 ·rename_i k j hv
  split at h
  ·rename_i cs z hb
   split at h
   ·rename_i v hl
    refine ⟨hs, ⟨some v, [], []⟩, by rw [← eff_pu2]; exact h, ok v fun q hq => hko.2 k _ hb q (loadC_keys hl q hq), fun s2 ha hal he hf hfu K2 hK => ?_⟩
    have hk : k ∈ rdL gl s (.load w g y) := mem_rdL (y := y) (by simp [opsC, opsX, opsI]) hv (by simp [AV.keys, AC.keys, AC.keys0])
    simp only [StepX, StepD, he y (by simp [opsX, opsI]), hv, ha k hk, hb, hl]
    rw [eff_pu2]; exact hK
   ·exact h.elim
  ·exact h.elim
 ·rename_i k wd j q hv
  split at h
  ·rename_i wd' n f z hb
   split at h
   ·rename_i hw
    obtain ⟨h1, h2⟩ := h
    split at h2
    ·rename_i v hl
     refine ⟨hs, ⟨some v, [], []⟩, by rw [← eff_pu2]; exact h2.2, ok v (by rw [h2.1]; simp), fun s2 ha hal he hf hfu K2 hK => ?_⟩
     have hk : k ∈ rdL gl s (.load w g y) := mem_rdL (y := y) (by simp [opsC, opsX, opsI]) hv (by simp [AV.keys, AC.keys, AC.keys0])
     simp only [StepX, StepD, he y (by simp [opsX, opsI]), hv, ha k hk, hb, if_pos hw, hl]
     exact ⟨h1, h2.1, by rw [eff_pu2]; exact hK⟩
    ·exact h2.elim
   ·exact h.elim
  ·exact h.elim
 ·rename_i cs j hv
  split at h
  ·rename_i v hl
   refine ⟨hs, ⟨some v, [], []⟩, by rw [← eff_pu2]; exact h, ok v (fun q hq => ?_), fun s2 ha hal he hf hfu K2 hK => ?_⟩
   ·obtain ⟨wd, n, f, _, _, _, rfl⟩ := loadL_inv hl
    simp [AV.keys, AC.keys, AC.keys0] at hq
   ·simp only [StepX, StepD, he y (by simp [opsX, opsI]), hv, hl]
    rw [eff_pu2]; exact hK
  ·exact h.elim
 ·exact h.elim
theorem store_ok {w : Nat} {y z : Opd} (hko : KeyOk s) (hkf : ∀ q ∈ opsX (.store w y z), q.kf = true) (h : StepX P gl d (.store w y z) hs s K) :
  ∃ hs' x, K hs' (s.eff2 d x) ∧ Ok2 P gl s d (.store w y z) x ∧ Same2 P gl s d (.store w y z) x hs hs' := by
 simp only [StepX] at h
 split at h
 ·rename_i k i v hy hz
  split at h
  ·rename_i cs vc hb ho
   split at h
   ·rename_i h1
    split at h
    ·rename_i h2
     have hk : k ∈ rdL gl s (.store w y z) := mem_rdL (y := y) (by simp [opsC, opsX]) hy (by simp [AV.keys, AC.keys, AC.keys0])
     have hku : k ∈ updK gl s (.store w y z) := by simp [updK, keysOf, hy, AV.keys, AC.keys, AC.keys0]
     refine ⟨hs, _, h, ⟨fun v' h' => (by cases h'), fun k' b hb' j hj => ?_, fun k' hk' => ?_, fun k' hk' => (by cases hk'), fun k' hb' => ?_, fun k' b hb' => ?_⟩, fun s2 ha hal he hf hfu K2 hK => ?_⟩
     ·simp only [lkO] at hb'
      cases hn : Nat.beq k' k with
      | false => rw [hn] at hb'; cases hb'
      | true =>
       rw [hn] at hb'
       simp only [cond_true, Option.some.injEq] at hb'
       subst hb'
       simp only [Blk.keys, List.mem_flatMap] at hj
       obtain ⟨c, hc, hj⟩ := hj
       rcases setC_mem hc with hc | hc
       ·exact .inl (hko.2 k _ hb j (by simp only [Blk.keys, List.mem_flatMap]; exact ⟨c, hc, hj⟩))
       ·refine .inl (ev_keys hko (hkf z (by simp [opsX])) hz j ?_)
        rw [← one_keys ho]; exact List.mem_flatMap.2 ⟨c, hc, hj⟩
     ·simp only [lkO] at hk'
      cases hn : Nat.beq k' k with
      | false => rw [hn] at hk'; exact absurd rfl hk'
      | true => rw [Nat.eq_of_beq_eq_true hn]; exact .inr hku
     ·simp only [lkO] at hb'
      cases hn : Nat.beq k' k with
      | false => rw [hn] at hb'; cases hb'
      | true => rw [hn] at hb'; cases hb'
     ·simp only [lkO] at hb'
      cases hn : Nat.beq k' k with
      | false => rw [hn] at hb'; cases hb'
      | true => rw [Nat.eq_of_beq_eq_true hn, hb]; exact .inr (by simp)
     ·simp only [StepX, he y (by simp [opsX]), he z (by simp [opsX]), hy, hz, ha k hk, hb, ho, if_pos h1, if_pos h2]; exact hK
    ·exact h.elim
   ·exact h.elim
  ·exact h.elim
 ·rename_i k wd i q v hy hz
  split at h
  ·rename_i wd' n f vc f' n0 hs1 hb ho
   split at h
   ·rename_i h1
    split at h
    ·rename_i h2
     obtain ⟨h3, h4, h5, h6, h7⟩ := h
     have hk : k ∈ rdL gl s (.store w y z) := mem_rdL (y := y) (by simp [opsC, opsX]) hy (by simp [AV.keys, AC.keys, AC.keys0])
     have hku : k ∈ updK gl s (.store w y z) := by simp [updK, keysOf, hy, AV.keys, AC.keys, AC.keys0]
     refine ⟨_, _, h7, ⟨fun v' h' => (by cases h'), fun k' b hb' j hj => ?_, fun k' hk' => ?_, fun k' hk' => (by cases hk'), fun k' hb' => ?_, fun k' b hb' => ?_⟩, fun s2 ha hal he hf hfu K2 hK => ?_⟩
     ·simp only [lkO] at hb'
      cases hn : Nat.beq k' k with
      | false => rw [hn] at hb'; cases hb'
      | true =>
       rw [hn] at hb'
       simp only [cond_true, Option.some.injEq] at hb'
       subst hb'
       simp [Blk.keys] at hj
     ·simp only [lkO] at hk'
      cases hn : Nat.beq k' k with
      | false => rw [hn] at hk'; exact absurd rfl hk'
      | true => rw [Nat.eq_of_beq_eq_true hn]; exact .inr hku
     ·simp only [lkO] at hb'
      cases hn : Nat.beq k' k with
      | false => rw [hn] at hb'; cases hb'
      | true => rw [hn] at hb'; cases hb'
     ·simp only [lkO] at hb'
      cases hn : Nat.beq k' k with
      | false => rw [hn] at hb'; cases hb'
      | true => rw [Nat.eq_of_beq_eq_true hn, hb]; exact .inr (by simp)
     ·simp only [StepX, he y (by simp [opsX]), he z (by simp [opsX]), hy, hz, ha k hk, hb, ho, if_pos h1, if_pos h2]; exact ⟨h3, h4, h5, h6, hK⟩
    ·exact h.elim
   ·exact h.elim
  ·exact h.elim
 ·exact h.elim
theorem elems_congr {s2 : St} {k0 : Option Nat} {v : AV} (h : ∀ k ∈ v.keys, s2.h k = s.h k) : elemsOf s2 k0 v = elemsOf s k0 v := by
 unfold elemsOf
 split
 ·rfl
 ·rfl
 ·rename_i k wd off len
  rw [h k (by simp [AV.keys, AC.keys, AC.keys0])]
 ·rfl
theorem elemsB_congr {s2 : St} {v : AV} {Q : Prop} (h : ∀ k ∈ v.keys, s2.h k = s.h k) : elemsB s2 v Q = elemsB s v Q := by
 cases v with
 | c x =>
  cases x
  case own k wd off len =>
   simp only [elemsB]
   rw [h k (by simp [AV.keys, AC.keys, AC.keys0])]
  all_goals rfl
 | agg xs => rfl
 | tup xs => rfl
theorem app_ok {wd by' : Nat} {y z : Opd} (hko : KeyOk s) (hkf : ∀ q ∈ opsX (.app wd by' y z), q.kf = true) (h : StepX P gl d (.app wd by' y z) hs s K) :
  ∃ hs' x, K hs' (s.eff2 d x) ∧ Ok2 P gl s d (.app wd by' y z) x ∧ Same2 P gl s d (.app wd by' y z) x hs hs' := by
 simp only [StepX] at h
 split at h
 ·rename_i kd k wd' len v n' f' hs1 hy hz
  split at h
  ·rename_i wd'' n f wd3 m g hfr hb hel
   split at h
   ·rename_i h1
    split at h
    ·rename_i h2
     split at h
     ·rename_i h3
      have hB0 := h
      obtain ⟨h4, h5, h6, h7⟩ := h.out
      have hk : k ∈ rdL gl s (.app wd by' y z) := mem_rdL (y := y) (by simp [opsC, opsX]) hy (by simp [AV.keys, AC.keys, AC.keys0])
      have hku : k ∈ updK gl s (.app wd by' y z) := by simp [updK, keysOf, hy, AV.keys, AC.keys, AC.keys0]
      refine ⟨_, _, h7, ⟨fun v' h' q hq => ?_, fun k' b hb' j hj => ?_, fun k' hk' => ?_, fun k' hk' => ?_, fun k' hb' => ?_, fun k' b hb' => ?_⟩, fun s2 ha hal he hf hfu K2 hK => ?_⟩
      ·cases h'; simp [AV.keys, AC.keys, AC.keys0] at hq; exact .inr (by simp [hq])
      ·simp only [lkO] at hb'
       cases hn : Nat.beq k' kd with
       | true => rw [hn] at hb'; simp only [cond_true, Option.some.injEq] at hb'; subst hb'; simp [Blk.keys] at hj
       | false =>
        rw [hn] at hb'; simp only [cond_false] at hb'
        cases hn2 : Nat.beq k' k with
        | true => rw [hn2] at hb'; simp at hb'
        | false => rw [hn2] at hb'; simp at hb'
      ·simp only [lkO] at hk'
       cases hn : Nat.beq k' kd with
       | true => rw [Nat.eq_of_beq_eq_true hn]; exact .inl (by simp)
       | false =>
        rw [hn] at hk'; simp only [cond_false] at hk'
        cases hn2 : Nat.beq k' k with
        | true => rw [Nat.eq_of_beq_eq_true hn2]; exact .inr hku
        | false => rw [hn2] at hk'; exact absurd rfl hk'
      ·simp only [List.mem_singleton] at hk'; subst hk'; exact ⟨.inl rfl, hfr⟩
      ·simp only [lkO] at hb'
       cases hn : Nat.beq k' kd with
       | true => rw [hn] at hb'; simp at hb'
       | false =>
        rw [hn] at hb'; simp only [cond_false] at hb'
        cases hn2 : Nat.beq k' k with
        | true => rw [Nat.eq_of_beq_eq_true hn2]; exact .inl (by simp [kcK, keysOf, hy, AV.keys, AC.keys, AC.keys0])
        | false => rw [hn2] at hb'; simp at hb'
      ·simp only [lkO] at hb'
       cases hn : Nat.beq k' kd with
       | true => rw [Nat.eq_of_beq_eq_true hn]; exact .inl (by simp)
       | false =>
        rw [hn] at hb'; simp only [cond_false] at hb'
        cases hn2 : Nat.beq k' k with
        | true => rw [hn2] at hb'; simp at hb'
        | false => rw [hn2] at hb'; simp at hb'
      ·have hel2 : elemsOf s2 (some k) v = elemsOf s (some k) v := elems_congr fun q hq => ha q (mem_rdL (y := z) (by simp [opsC, opsX]) hz hq)
       simp only [StepX, he y (by simp [opsX]), he z (by simp [opsX]), hy, hz, hf kd rfl hfr, ha k hk, hb, hel2, hel, if_pos h1, if_pos h2, if_pos h3]
       rw [elemsB_congr fun q hq => ha q (mem_rdL (y := z) (by simp [opsC, opsX]) hz hq)]
       exact elemsB.map (fun _ => ⟨h4, h5, h6, hK⟩) hB0
     ·exact h.elim
    ·exact h.elim
   ·exact h.elim
  ·exact h.elim
 ·rename_i kd v n' f' hs1 hy hz
  split at h
  ·rename_i wd3 m g hfr hel
   split at h
   ·rename_i h3
    have hB0 := h
    obtain ⟨h4, h6, h7⟩ := h.out
    refine ⟨_, _, h7, ⟨fun v' h' q hq => ?_, fun k' b hb' j hj => ?_, fun k' hk' => ?_, fun k' hk' => ?_, fun k' hb' => ?_, fun k' b hb' => ?_⟩, fun s2 ha hal he hf hfu K2 hK => ?_⟩
    ·cases h'; simp [AV.keys, AC.keys, AC.keys0] at hq; exact .inr (by simp [hq])
    ·simp only [lkO] at hb'
     cases hn : Nat.beq k' kd with
     | true => rw [hn] at hb'; simp only [cond_true, Option.some.injEq] at hb'; subst hb'; simp [Blk.keys] at hj
     | false => rw [hn] at hb'; simp at hb'
    ·simp only [lkO] at hk'
     cases hn : Nat.beq k' kd with
     | true => rw [Nat.eq_of_beq_eq_true hn]; exact .inl (by simp)
     | false => rw [hn] at hk'; exact absurd rfl hk'
    ·simp only [List.mem_singleton] at hk'; subst hk'; exact ⟨.inl rfl, hfr⟩
    ·simp only [lkO] at hb'
     cases hn : Nat.beq k' kd with
     | true => rw [hn] at hb'; simp at hb'
     | false => rw [hn] at hb'; simp at hb'
    ·simp only [lkO] at hb'
     cases hn : Nat.beq k' kd with
     | true => rw [Nat.eq_of_beq_eq_true hn]; exact .inl (by simp)
     | false => rw [hn] at hb'; simp at hb'
    ·have hel2 : elemsOf s2 none v = elemsOf s none v := elems_congr fun q hq => ha q (mem_rdL (y := z) (by simp [opsC, opsX]) hz hq)
     simp only [StepX, he y (by simp [opsX]), he z (by simp [opsX]), hy, hz, hf kd rfl hfr, hel2, hel, if_pos h3]
     rw [elemsB_congr fun q hq => ha q (mem_rdL (y := z) (by simp [opsC, opsX]) hz hq)]
     exact elemsB.map (fun _ => ⟨h4, h6, hK⟩) hB0
   ·exact h.elim
  ·exact h.elim
 ·exact h.elim
theorem mk2 {v : AV} (hK : K hs' (s.pu d v)) (hv : ∀ k ∈ v.keys, k ∈ s.u)
  (h2 : ∀ s2 : St, (∀ k ∈ nmL gl s i, s.h k ≠ none → s2.h k ≠ none) → (∀ y ∈ opsX i, ev gl s2 y = ev gl s y) → ∀ K2 : List Hint → St → Prop, K2 hs' (s2.pu d v) → StepX P gl d i hs s2 K2) :
  ∃ hs' x, K hs' (s.eff2 d x) ∧ Ok2 P gl s d i x ∧ Same2 P gl s d i x hs hs' :=
 ⟨hs', ⟨some v, [], []⟩, by rw [← eff_pu2]; exact hK, ⟨fun v' h' k hk => by cases h'; exact .inl (hv k hk), fun k b hb => (by cases hb), fun k hk => absurd rfl hk, fun k hk => (by cases hk), fun k hb => (by cases hb), fun k b hb => (by cases hb)⟩, fun s2 _ hn he _ _ K2 hK => h2 s2 hn he K2 (by rw [eff_pu2]; exact hK)⟩
theorem alive2 {s2 : St} {k : Nat} {b : Blk} (h : s.h k ≠ none → s2.h k ≠ none) (hb : s.h k = some b) : ∃ b2, s2.h k = some b2 :=
 Option.ne_none_iff_exists'.1 (h (by rw [hb]; simp))
theorem iad_ok {wd : Nat} {x j : Opd} (hko : KeyOk s) (hkf : ∀ q ∈ opsX (.iad wd x j), q.kf = true) (h : StepX P gl d (.iad wd x j) hs s K) :
  ∃ hs' x', K hs' (s.eff2 d x') ∧ Ok2 P gl s d (.iad wd x j) x' ∧ Same2 P gl s d (.iad wd x j) x' hs hs' := by
 replace h : StepD P gl d (.iad wd x j) hs s K := h
 simp only [StepD, Step] at h
 split at h
 ·rename_i wd' n f k q ec hs' hx hi
  split at h
  ·rename_i hwd
   refine mk2 h.2.2 (by simp [AV.keys, AC.keys, AC.keys0]) fun s2 hn he K2 hK => ?_
   show StepD P gl d (.iad wd x j) _ s2 K2
   simp only [StepD, Step, he x (by simp [opsX, opsI]), he j (by simp [opsX, opsI]), hx, hi, if_pos hwd]; exact ⟨h.1, h.2.1, hK⟩
  ·exact h.elim
 ·rename_i k wd' off n kk q hs' hx hi
  split at h
  ·rename_i hwd
   split at h
   ·rename_i b hb
    have hku : k ∈ (AV.c (.own k wd' off n)).keys := by simp [AV.keys, AC.keys, AC.keys0]
    have hk := ev_keys hko (hkf x (by simp [opsX, opsI])) hx k hku
    refine mk2 h.2 (by simpa [AV.keys, AC.keys, AC.keys0] using hk) fun s2 hn he K2 hK => ?_
    obtain ⟨b2, hb2⟩ := alive2 (hn k (mem_nmL (y := x) (by simp [opsX, opsI]) hx hku)) hb
    show StepD P gl d (.iad wd x j) _ s2 K2
    simp only [StepD, Step, he x (by simp [opsX, opsI]), he j (by simp [opsX, opsI]), hx, hi, if_pos hwd, hb2]; exact ⟨h.1, hK⟩
   ·exact h.elim
  ·exact h.elim
 ·rename_i wd' n f k q ec hs' hx hi
  split at h
  ·rename_i hwd
   refine mk2 h.2.2 (by simp [AV.keys, AC.keys, AC.keys0]) fun s2 hn he K2 hK => ?_
   show StepD P gl d (.iad wd x j) _ s2 K2
   simp only [StepD, Step, he x (by simp [opsX, opsI]), he j (by simp [opsX, opsI]), hx, hi, if_pos hwd]; exact ⟨h.1, h.2.1, hK⟩
  ·exact h.elim
 ·exact h.elim
theorem iar_ok {n wd : Nat} {x j : Opd} (hko : KeyOk s) (hkf : ∀ q ∈ opsX (.iar n wd x j), q.kf = true) (h : StepX P gl d (.iar n wd x j) hs s K) :
  ∃ hs' x', K hs' (s.eff2 d x') ∧ Ok2 P gl s d (.iar n wd x j) x' ∧ Same2 P gl s d (.iar n wd x j) x' hs hs' := by
 replace h : StepD P gl d (.iar n wd x j) hs s K := h
 simp only [StepD, Step] at h
 split at h
 ·rename_i k q kk i m hs' hx hi
  split at h
  ·rename_i b hb
   have hku : k ∈ (AV.c (.pk k q)).keys := by simp [AV.keys, AC.keys, AC.keys0]
   have hk := ev_keys hko (hkf x (by simp [opsX, opsI])) hx k hku
   refine mk2 h.2 (by simpa [AV.keys, AC.keys, AC.keys0] using hk) fun s2 hn he K2 hK => ?_
   obtain ⟨b2, hb2⟩ := alive2 (hn k (mem_nmL (y := x) (by simp [opsX, opsI]) hx hku)) hb
   show StepD P gl d (.iar n wd x j) _ s2 K2
   simp only [StepD, Step, he x (by simp [opsX, opsI]), he j (by simp [opsX, opsI]), hx, hi, hb2]; exact ⟨h.1, hK⟩
  ·exact h.elim
 ·rename_i k wd' ei q kk i m hs' hx hi
  split at h
  ·rename_i b hb
   have hku : k ∈ (AV.c (.pa k wd' ei q)).keys := by simp [AV.keys, AC.keys, AC.keys0]
   have hk := ev_keys hko (hkf x (by simp [opsX, opsI])) hx k hku
   refine mk2 h.2 (by simpa [AV.keys, AC.keys, AC.keys0] using hk) fun s2 hn he K2 hK => ?_
   obtain ⟨b2, hb2⟩ := alive2 (hn k (mem_nmL (y := x) (by simp [opsX, opsI]) hx hku)) hb
   show StepD P gl d (.iar n wd x j) _ s2 K2
   simp only [StepD, Step, he x (by simp [opsX, opsI]), he j (by simp [opsX, opsI]), hx, hi, hb2]; exact ⟨h.1, hK⟩
  ·exact h.elim
 ·rename_i cs q kk i m hs' hx hi
  refine mk2 (v := .c (.pd cs (q + m * wd))) h.2 (by simp [AV.keys, AC.keys, AC.keys0]) fun s2 hn he K2 hK => ?_
  show StepD P gl d (.iar n wd x j) _ s2 K2
  simp only [StepD, Step, he x (by simp [opsX, opsI]), he j (by simp [opsX, opsI]), hx, hi]; exact ⟨h.1, hK⟩
 ·rename_i cs q kk i ec hs' hx hi
  refine mk2 (v := .c (.pd ec 0)) h.2.2 (by simp [AV.keys, AC.keys, AC.keys0]) fun s2 hn he K2 hK => ?_
  show StepD P gl d (.iar n wd x j) _ s2 K2
  simp only [StepD, Step, he x (by simp [opsX, opsI]), he j (by simp [opsX, opsI]), hx, hi]; exact ⟨h.1, h.2.1, hK⟩
 ·exact h.elim
theorem fad_ok {off : Nat} {x : Opd} (hko : KeyOk s) (hkf : ∀ q ∈ opsX (.fad off x), q.kf = true) (h : StepX P gl d (.fad off x) hs s K) :
  ∃ hs' x', K hs' (s.eff2 d x') ∧ Ok2 P gl s d (.fad off x) x' ∧ Same2 P gl s d (.fad off x) x' hs hs' := by
 replace h : StepD P gl d (.fad off x) hs s K := h
 simp only [StepD, Step] at h
 split at h
 ·rename_i k q hx
  split at h
  ·rename_i b hb
   have hku : k ∈ (AV.c (.pk k q)).keys := by simp [AV.keys, AC.keys, AC.keys0]
   have hk := ev_keys hko (hkf x (by simp [opsX, opsI])) hx k hku
   refine mk2 h (by simpa [AV.keys, AC.keys, AC.keys0] using hk) fun s2 hn he K2 hK => ?_
   obtain ⟨b2, hb2⟩ := alive2 (hn k (mem_nmL (y := x) (by simp [opsX, opsI]) hx hku)) hb
   show StepD P gl d (.fad off x) _ s2 K2
   simp only [StepD, Step, he x (by simp [opsX, opsI]), hx, hb2]; exact hK
  ·exact h.elim
 ·rename_i cs q hx
  refine mk2 (v := .c (.pd cs (q + off))) h (by simp [AV.keys, AC.keys, AC.keys0]) fun s2 hn he K2 hK => ?_
  show StepD P gl d (.fad off x) _ s2 K2
  simp only [StepD, Step, he x (by simp [opsX, opsI]), hx]; exact hK
 ·rename_i k wd' ei q hx
  split at h
  ·rename_i b hb
   have hku : k ∈ (AV.c (.pa k wd' ei q)).keys := by simp [AV.keys, AC.keys, AC.keys0]
   have hk := ev_keys hko (hkf x (by simp [opsX, opsI])) hx k hku
   refine mk2 h (by simpa [AV.keys, AC.keys, AC.keys0] using hk) fun s2 hn he K2 hK => ?_
   obtain ⟨b2, hb2⟩ := alive2 (hn k (mem_nmL (y := x) (by simp [opsX, opsI]) hx hku)) hb
   show StepD P gl d (.fad off x) _ s2 K2
   simp only [StepD, Step, he x (by simp [opsX, opsI]), hx, hb2]; exact hK
  ·exact h.elim
 ·rename_i cs q hx
  refine mk2 (v := .c (.lp cs (q + off))) h (by simp [AV.keys, AC.keys, AC.keys0]) fun s2 hn he K2 hK => ?_
  show StepD P gl d (.fad off x) _ s2 K2
  simp only [StepD, Step, he x (by simp [opsX, opsI]), hx]; exact hK
 ·exact h.elim
theorem mv_ok {x : Opd} (hko : KeyOk s) (hkf : ∀ q ∈ opsX (.mv x), q.kf = true) (h : StepX P gl d (.mv x) hs s K) :
  ∃ hs' x', K hs' (s.eff2 d x') ∧ Ok2 P gl s d (.mv x) x' ∧ Same2 P gl s d (.mv x) x' hs hs' := by
 replace h : StepD P gl d (.mv x) hs s K := h
 simp only [StepD, Step] at h
 split at h
 ·rename_i v hx
  refine mk2 h (ev_keys hko (hkf x (by simp [opsX, opsI])) hx) fun s2 hn he K2 hK => ?_
  show StepD P gl d (.mv x) _ s2 K2
  simp only [StepD, Step, he x (by simp [opsX, opsI]), hx]; exact hK
 ·exact h.elim
theorem ext_ok {x : Opd} {j : Nat} (hko : KeyOk s) (hkf : ∀ q ∈ opsX (.ext x j), q.kf = true) (h : StepX P gl d (.ext x j) hs s K) :
  ∃ hs' x', K hs' (s.eff2 d x') ∧ Ok2 P gl s d (.ext x j) x' ∧ Same2 P gl s d (.ext x j) x' hs hs' := by
 replace h : StepD P gl d (.ext x j) hs s K := h
 simp only [StepD, Step] at h
 split at h
 ·rename_i ps hx
  have hku := ev_keys hko (hkf x (by simp [opsX, opsI])) hx
  split at h
  ·rename_i c hp
   refine mk2 (v := .c c) h (fun k hk => hku k (List.mem_flatMap.2 ⟨_, List.mem_of_getElem? hp, by simpa [AV.keys] using hk⟩)) fun s2 hn he K2 hK => ?_
   show StepD P gl d (.ext x j) _ s2 K2
   simp only [StepD, Step, he x (by simp [opsX, opsI]), hx, hp]; exact hK
  ·rename_i cs hp
   refine mk2 (v := .agg cs) h (fun k hk => hku k (List.mem_flatMap.2 ⟨_, List.mem_of_getElem? hp, by simpa [AV.keys] using hk⟩)) fun s2 hn he K2 hK => ?_
   show StepD P gl d (.ext x j) _ s2 K2
   simp only [StepD, Step, he x (by simp [opsX, opsI]), hx, hp]; exact hK
  ·exact h.elim
 ·exact h.elim
theorem fld_ok {off w : Nat} {g : Bool} {x : Opd} (hko : KeyOk s) (hkf : ∀ q ∈ opsX (.fld off w g x), q.kf = true) (h : StepX P gl d (.fld off w g x) hs s K) :
  ∃ hs' x', K hs' (s.eff2 d x') ∧ Ok2 P gl s d (.fld off w g x) x' ∧ Same2 P gl s d (.fld off w g x) x' hs hs' := by
 replace h : StepD P gl d (.fld off w g x) hs s K := h
 simp only [StepD, Step] at h
 split at h
 ·rename_i xs hx
  have hku := ev_keys hko (hkf x (by simp [opsX, opsI])) hx
  split at h
  ·rename_i v hl
   refine mk2 h (fun k hk => hku k (loadC_keys hl k hk)) fun s2 hn he K2 hK => ?_
   show StepD P gl d (.fld off w g x) _ s2 K2
   simp only [StepD, Step, he x (by simp [opsX, opsI]), hx, hl]; exact hK
  ·exact h.elim
 ·exact h.elim
theorem build_ok {z : List AC} {ps : List (Nat × Nat × Opd)} (hko : KeyOk s) (hkf : ∀ q ∈ opsX (.build z ps), q.kf = true) (hpi : isPart (.build z ps) = true) (h : StepX P gl d (.build z ps) hs s K) :
  ∃ hs' x', K hs' (s.eff2 d x') ∧ Ok2 P gl s d (.build z ps) x' ∧ Same2 P gl s d (.build z ps) x' hs hs' := by
 replace h : StepD P gl d (.build z ps) hs s K := h
 simp only [StepD, Step] at h
 split at h
 ·rename_i cs hb
  refine mk2 (v := .agg cs) h (fun k hk => buildC_keys (U := fun k => k ∈ s.u) ps z (fun y hy v hv k hk => ev_keys hko (hkf y hy) hv k hk) ?_ hb k hk) fun s2 hn he K2 hK => ?_
  ·simp only [isPart, isPureI, List.isEmpty_iff] at hpi
   rw [hpi]; simp
  ·show StepD P gl d (.build z ps) _ s2 K2
   simp only [StepD, Step, buildC_congr (gl := gl) ps z he, hb]; exact hK
 ·exact h.elim
theorem nck_ok {x : Opd} (hko : KeyOk s) (hkf : ∀ q ∈ opsX (.nck x), q.kf = true) (h : StepX P gl d (.nck x) hs s K) :
  ∃ hs' x', K hs' (s.eff2 d x') ∧ Ok2 P gl s d (.nck x) x' ∧ Same2 P gl s d (.nck x) x' hs hs' := by
 replace h : StepD P gl d (.nck x) hs s K := h
 simp only [StepD, Step] at h
 split at h
 ·rename_i k q hx
  split at h
  ·rename_i b hb
   have hku : k ∈ (AV.c (.pk k q)).keys := by simp [AV.keys, AC.keys, AC.keys0]
   have hk := ev_keys hko (hkf x (by simp [opsX, opsI])) hx k hku
   refine mk2 (v := .c (.pk k q)) h (by simpa [AV.keys, AC.keys, AC.keys0] using hk) fun s2 hn he K2 hK => ?_
   obtain ⟨b2, hb2⟩ := alive2 (hn k (mem_nmL (y := x) (by simp [opsX, opsI]) hx hku)) hb
   show StepD P gl d (.nck x) _ s2 K2
   simp only [StepD, Step, he x (by simp [opsX, opsI]), hx, hb2]; exact hK
  ·exact h.elim
 ·rename_i k wd' ei q hx
  split at h
  ·rename_i b hb
   have hku : k ∈ (AV.c (.pa k wd' ei q)).keys := by simp [AV.keys, AC.keys, AC.keys0]
   have hk := ev_keys hko (hkf x (by simp [opsX, opsI])) hx k hku
   refine mk2 (v := .c (.pa k wd' ei q)) h (by simpa [AV.keys, AC.keys, AC.keys0] using hk) fun s2 hn he K2 hK => ?_
   obtain ⟨b2, hb2⟩ := alive2 (hn k (mem_nmL (y := x) (by simp [opsX, opsI]) hx hku)) hb
   show StepD P gl d (.nck x) _ s2 K2
   simp only [StepD, Step, he x (by simp [opsX, opsI]), hx, hb2]; exact hK
  ·exact h.elim
 ·rename_i cs q hx
  refine mk2 (v := .c (.pd cs q)) h (by simp [AV.keys, AC.keys, AC.keys0]) fun s2 hn he K2 hK => ?_
  show StepD P gl d (.nck x) _ s2 K2
  simp only [StepD, Step, he x (by simp [opsX, opsI]), hx]; exact hK
 ·exact h.elim
theorem slc_ok {wd : Nat} {x : Opd} {lo hi : Option Opd} (hko : KeyOk s) (hkf : ∀ q ∈ opsX (.slc wd x lo hi), q.kf = true) (h : StepX P gl d (.slc wd x lo hi) hs s K) :
  ∃ hs' x', K hs' (s.eff2 d x') ∧ Ok2 P gl s d (.slc wd x lo hi) x' ∧ Same2 P gl s d (.slc wd x lo hi) x' hs hs' := by
 simp only [StepX] at h
 have ok : ∀ v : AV, (∀ k ∈ v.keys, k ∈ s.u) → Ok2 P gl s d (.slc wd x lo hi) ⟨some v, [], []⟩ := fun v hv =>
  ⟨fun v' h' k hk => by cases h'; exact .inl (hv k hk), fun k b hb => (by cases hb), fun k hk => absurd rfl hk, fun k hk => (by cases hk), fun k hb => (by cases hb), fun k b hb => (by cases hb)⟩
 split at h
 ·rename_i wd' n f n' f' hs1 hx
  split at h
  ·rename_i l j hl hj
   split at h
   ·rename_i hw
    obtain ⟨h1, h2, h3, h4⟩ := h
    refine ⟨hs1, ⟨some (.c (.sl wd n' f')), [], []⟩, by rw [← eff_pu2]; exact h4, ok _ (by simp [AV.keys, AC.keys, AC.keys0]), fun s2 ha hal he hf hfu K2 hK => ?_⟩
    have e1 : ∀ m, bnd gl s2 m lo = bnd gl s m lo := fun m => bnd_congr fun y hy => he y (by simp only [opsX, List.mem_cons, List.mem_append]; exact .inr (.inl hy))
    have e2 : ∀ m, bnd gl s2 m hi = bnd gl s m hi := fun m => bnd_congr fun y hy => he y (by simp only [opsX, List.mem_cons, List.mem_append]; exact .inr (.inr hy))
    simp only [StepX, he x (by simp [opsX]), e1, e2, hx, hl, hj, if_pos hw]; exact ⟨h1, h2, h3, by rw [eff_pu2]; exact hK⟩
   ·exact h.elim
  ·exact h.elim
 ·rename_i k wd' n n' hs1 hx
  split at h
  ·rename_i j b1 b2 b3 b4 hj hb
   split at h
   ·rename_i hw
    obtain ⟨h1, h2⟩ := h
    have hku : k ∈ (AV.c (.own k wd' 0 n)).keys := by simp [AV.keys, AC.keys, AC.keys0]
    have hk := ev_keys hko (hkf x (by simp [opsX])) hx k hku
    refine ⟨hs1, ⟨some (.c (.own k wd' 0 n')), [], []⟩, by rw [← eff_pu2]; exact h2, ok _ (by simpa [AV.keys, AC.keys, AC.keys0] using hk), fun s2 ha hal he hf hfu K2 hK => ?_⟩
    have e2 : ∀ m, bnd gl s2 m hi = bnd gl s m hi := fun m => bnd_congr fun y hy => he y (by simp only [opsX, List.mem_cons, List.mem_append]; exact .inr (.inr hy))
    have hr : k ∈ rdL gl s (.slc wd x none hi) := mem_rdL (y := x) (by simp [opsC, opsX]) hx hku
    simp only [StepX, he x (by simp [opsX]), e2, hx, hj, ha k hr, hb, if_pos hw]; exact ⟨h1, by rw [eff_pu2]; exact hK⟩
   ·exact h.elim
  ·rename_i y2 j b1 b2 b3 b4 hj hb
   split at h
   ·rename_i l hl
    split at h
    ·rename_i hw
     obtain ⟨h1, h2⟩ := h
     have hku : k ∈ (AV.c (.own k wd' 0 n)).keys := by simp [AV.keys, AC.keys, AC.keys0]
     have hk := ev_keys hko (hkf x (by simp [opsX])) hx k hku
     refine ⟨hs1, ⟨some (.c (.own k wd' l.toNat n')), [], []⟩, by rw [← eff_pu2]; exact h2, ok _ (by simpa [AV.keys, AC.keys, AC.keys0] using hk), fun s2 ha hal he hf hfu K2 hK => ?_⟩
     have e1 : ∀ m, bnd gl s2 m (some y2) = bnd gl s m (some y2) := fun m => bnd_congr fun y hy => he y (by simp only [opsX, List.mem_cons, List.mem_append]; exact .inr (.inl hy))
     have e2 : ∀ m, bnd gl s2 m hi = bnd gl s m hi := fun m => bnd_congr fun y hy => he y (by simp only [opsX, List.mem_cons, List.mem_append]; exact .inr (.inr hy))
     have hr : k ∈ rdL gl s (.slc wd x (some y2) hi) := mem_rdL (y := x) (by simp [opsC, opsX]) hx hku
     simp only [StepX, he x (by simp [opsX]), e1, e2, hx, hj, hl, ha k hr, hb, if_pos hw]; exact ⟨h1, by rw [eff_pu2]; exact hK⟩
    ·exact h.elim
   ·exact h.elim
  ·exact h.elim
 ·exact h.elim
theorem cpy_ok {y z : Opd} (hko : KeyOk s) (hkf : ∀ q ∈ opsX (.cpy y z), q.kf = true) (h : StepX P gl d (.cpy y z) hs s K) :
  ∃ hs' x, K hs' (s.eff2 d x) ∧ Ok2 P gl s d (.cpy y z) x ∧ Same2 P gl s d (.cpy y z) x hs hs' := by
 simp only [StepX] at h
 split at h
 ·rename_i k off len v n' f' hs1 hy hz
  split at h
  ·rename_i n f m g hb hel
   have hB0 := h
   obtain ⟨h3, h4, h7⟩ := h.out
   have hk : k ∈ rdL gl s (.cpy y z) := mem_rdL (y := y) (by simp [opsC, opsX]) hy (by simp [AV.keys, AC.keys, AC.keys0])
   have hku : k ∈ updK gl s (.cpy y z) := by simp [updK, keysOf, hy, AV.keys, AC.keys, AC.keys0]
   refine ⟨_, _, h7, ⟨fun v' h' q hq => (by cases h'; simp [AV.keys, AC.keys, AC.keys0] at hq), fun k' b hb' j hj => ?_, fun k' hk' => ?_, fun k' hk' => (by cases hk'), fun k' hb' => ?_, fun k' b hb' => ?_⟩, fun s2 ha hal he hf hfu K2 hK => ?_⟩
   ·simp only [lkO] at hb'
    cases hn : Nat.beq k' k with
    | false => rw [hn] at hb'; cases hb'
    | true =>
     rw [hn] at hb'
     simp only [cond_true, Option.some.injEq] at hb'
     subst hb'
     simp [Blk.keys] at hj
   ·simp only [lkO] at hk'
    cases hn : Nat.beq k' k with
    | false => rw [hn] at hk'; exact absurd rfl hk'
    | true => rw [Nat.eq_of_beq_eq_true hn]; exact .inr hku
   ·simp only [lkO] at hb'
    cases hn : Nat.beq k' k with
    | false => rw [hn] at hb'; cases hb'
    | true => rw [hn] at hb'; cases hb'
   ·simp only [lkO] at hb'
    cases hn : Nat.beq k' k with
    | false => rw [hn] at hb'; cases hb'
    | true => rw [Nat.eq_of_beq_eq_true hn, hb]; exact .inr (by simp)
   ·have hel2 : elemsOf s2 none v = elemsOf s none v := elems_congr fun q hq => ha q (mem_rdL (y := z) (by simp [opsC, opsX]) hz hq)
    simp only [StepX, he y (by simp [opsX]), he z (by simp [opsX]), hy, hz, ha k hk, hb, hel2, hel]
    rw [elemsB_congr fun q hq => ha q (mem_rdL (y := z) (by simp [opsC, opsX]) hz hq)]
    exact elemsB.map (fun _ => ⟨h3, h4, hK⟩) hB0
  ·exact h.elim
 ·exact h.elim
theorem b2s_ok {x : Opd} (hko : KeyOk s) (hkf : ∀ q ∈ opsX (.b2s x), q.kf = true) (h : StepX P gl d (.b2s x) hs s K) :
  ∃ hs' x', K hs' (s.eff2 d x') ∧ Ok2 P gl s d (.b2s x) x' ∧ Same2 P gl s d (.b2s x) x' hs hs' := by
 change StepD P gl d (.b2s x) hs s K at h
 simp only [StepD, Step] at h
 split at h
 ·rename_i k n l hs1 hx
  split at h
  ·rename_i m f b hb
   obtain ⟨h1, h2, h3, h4⟩ := h
   have hr : k ∈ rdL gl s (.b2s x) := mem_rdL (y := x) (by simp [opsC, opsX, opsI]) hx (by simp [AV.keys, AC.keys, AC.keys0])
   refine ⟨hs1, ⟨some (.c (.str l)), [], []⟩, by rw [← eff_pu2]; exact h4, ⟨fun v' h' k hk => by cases h'; simp [AV.keys, AC.keys, AC.keys0] at hk, fun k b hb => (by cases hb), fun k hk => absurd rfl hk, fun k hk => (by cases hk), fun k hb => (by cases hb), fun k b hb => (by cases hb)⟩, fun s2 ha hal he hf hfu K2 hK => ?_⟩
   show StepD P gl d (.b2s x) _ s2 K2
   simp only [StepD, Step, he x (by simp [opsX, opsI]), hx, ha k hr, hb]; exact ⟨h1, h2, h3, by rw [eff_pu2]; exact hK⟩
  ·exact h.elim
 ·exact h.elim
theorem lkO_map {k : Nat} {g : Nat → Option Blk} : ∀ L : List Nat, lkO k (L.map fun j => (j, g j)) = bif L.elem k then some (g k) else none
 | [] => rfl
 | j :: r => by
  simp only [List.map_cons, lkO, List.elem_cons]
  by_cases e : k = j
  ·subst e; simp [nbt]
  ·have : (k == j) = false := beq_eq_false_iff_ne.2 e
   rw [nbf e, cond_false, this]; exact lkO_map r
theorem muE_n {m : Mu} {k : Nat} : lkO k (muE m).n = bif (m.os.map (·.2) ++ m.ks.map (·.1)).elem k then some (muG m k) else none := lkO_map _
theorem muE_mem {m : Mu} {k : Nat} (h : lkO k (muE m).n ≠ none) : k ∈ m.os.map (·.2) ∨ k ∈ m.ks.map (·.1) := by
 rw [muE_n] at h
 cases he : (m.os.map (·.2) ++ m.ks.map (·.1)).elem k with
 | false => rw [he] at h; exact absurd rfl h
 | true => exact List.mem_append.1 (elem_iff.1 he)
theorem muE_get {m : Mu} {k : Nat} {b : Option Blk} (h : lkO k (muE m).n = some b) : b = muG m k := by
 rw [muE_n] at h
 cases he : (m.os.map (·.2) ++ m.ks.map (·.1)).elem k with
 | false => rw [he] at h; cases h
 | true => rw [he] at h; cases h; rfl
theorem muE_u {m : Mu} {k : Nat} : k ∈ (muE m).u ↔ k ∈ m.os.map (·.2) ∧ k ∉ m.ks.map (·.1) := by
 show k ∈ (m.os.map (·.2)).filter (fun k => !(m.ks.map (·.1)).elem k) ↔ _
 rw [List.mem_filter]
 refine and_congr Iff.rfl ?_
 rw [Bool.not_eq_true']
 exact ⟨not_mem_of_elem, nelem⟩
theorem mkH_congr {s2 : St} {ks : List (Nat × Nat)} : ∀ {l : List (Nat × Nat)}, (∀ p ∈ l, s2.h p.1 = s.h p.1) → mkH s2 ks l = mkH s ks l
 | [], _ => rfl
 | (k, j) :: r, h => by
  simp only [mkH]
  have h0 : s2.h k = s.h k := h (k, j) (by simp)
  rw [h0, mkH_congr (l := r) fun p hp => h p (by simp [hp])]
theorem chkM_congr {s2 : St} {vs : List AV} {m : Mu} (h : chkM s vs m = true) (hh : ∀ p ∈ m.ks, s2.h p.1 = s.h p.1) (hks : ∀ k ∈ m.ks.map (·.1), k ∈ s.u) (hu : ∀ k ∈ (muE m).u, s2.u.elem k = false) : chkM s2 vs m = true := by
 unfold chkM at h ⊢
 simp only [Bool.and_eq_true] at h ⊢
 obtain ⟨h1, h2, h3, h4, h5, h6, h7, h8, h9, h10, h11⟩ := h
 refine ⟨h1, h2, h3, h4, ?_, h6, h7, h8, ?_, h10, h11⟩
 ·rw [List.all_eq_true] at h5 ⊢
  intro p hp
  have := h5 p hp
  rw [hh p hp]; exact this
 ·rw [List.all_eq_true] at h9 ⊢
  intro p hp
  have := h9 p hp
  rw [Bool.or_eq_true, Bool.and_eq_true] at this ⊢
  rcases this with h | h
  ·exact .inl h
  ·by_cases hk : p.2 ∈ m.ks.map (·.1)
   ·have h' := h.1
    rw [Bool.not_eq_true'] at h'
    exact absurd (hks _ hk) (not_mem_of_elem h')
   ·refine .inr ⟨?_, h.2⟩
    rw [Bool.not_eq_true']
    exact hu p.2 (muE_u.2 ⟨List.mem_map.2 ⟨p, hp, rfl⟩, hk⟩)
theorem callX_ok {f : FuncId} {xs : List Opd} {vs : List AV} {m : Mu} {hs1 : List Hint} (hko : KeyOk s) (hkf : ∀ q ∈ opsX (.call f xs), q.kf = true) (hev : evs gl s xs = some vs)
  (h : callX P gl d f xs vs m s (K hs1)) : ∃ hs' x, K hs' (s.eff2 d x) ∧ Ok2 P gl s d (.call f xs) x ∧ Same2 P gl s d (.call f xs) x (.mu m.ks m.os m.res m.H :: hs1) hs' := by
 unfold callX at h
 split at h
 ·rename_i H hH hc
  simp only [Bool.and_eq_true] at hc
  obtain ⟨hn, hchk, hcx⟩ := hc
  obtain ⟨hfn, hK⟩ := h
  have ho := mok_of hH hchk
  unfold chkX at hcx
  simp only [Bool.and_eq_true, List.all_eq_true, elem_iff] at hcx
  obtain ⟨hr, h1000⟩ := hcx
  have hR : ∀ k ∈ m.ks.map (·.1), k ∈ rdL gl s (.call f xs) := hr
  have hRu : ∀ k ∈ m.ks.map (·.1), k ∈ s.u := fun k hk => rdL_u hko hkf (hR k hk)
  have ren : ∀ i, i ∈ m.os.map (·.1) → lkN m.os i ∈ s.u ∨ lkN m.os i ∈ (muE m).u := fun i hi => by
   obtain ⟨k', hk'⟩ := mem_fst hi
   rw [lkN_mem ho.o1 hk']
   have h1 : k' ∈ m.os.map (·.2) := List.mem_map.2 ⟨_, hk', rfl⟩
   by_cases hk : k' ∈ m.ks.map (·.1)
   ·exact .inl (hRu k' hk)
   ·exact .inr (muE_u.2 ⟨h1, hk⟩)
  have cls : ∀ k, lkO k (muE m).n ≠ none → k ∈ (muE m).u ∨ k ∈ m.ks.map (·.1) := fun k hk => by
   rcases muE_mem hk with h1 | h1
   ·by_cases h2 : k ∈ m.ks.map (·.1)
    ·exact .inr h2
    ·exact .inl (muE_u.2 ⟨h1, h2⟩)
   ·exact .inr h1
  refine ⟨hs1, muE m, hK, ⟨fun v hv k hk => ?_, fun k b hb j hj => ?_, fun k hk => (cls k hk).imp id (hR k), fun k hk => ?_, fun k hk => ?_, fun k b hb => ?_⟩, fun s2 ha hal he hf hfu K2 hK2 => ?_⟩
  ·cases hv
   obtain ⟨i, hi, rfl⟩ := av_rn_keys hk
   exact ren i (ho.rk i hi)
  ·have hb' := muE_get hb
   unfold muG at hb'
   cases hel : (m.os.map (·.2)).elem k with
   | false => rw [hel] at hb'; cases hb'
   | true =>
    rw [hel, cond_true] at hb'
    cases hl : lkB (lkN (swp m.os) k) m.H with
    | none => rw [hl] at hb'; cases hb'
    | some b0 =>
     rw [hl] at hb'
     simp only [Option.some.injEq] at hb'
     subst hb'
     obtain ⟨i, hi, rfl⟩ := blk_rn_keys hj
     exact ren i (ho.hk _ (lkB_in hl) i hi)
  ·obtain ⟨h1, h2⟩ := muE_u.1 hk
   refine ⟨.inr (Nat.le_of_ble_eq_true (h1000 k hk)), ?_⟩
   obtain ⟨j, hj⟩ := mem_snd h1
   rcases ho.on j k hj with h3 | ⟨h3, _⟩
   ·exact absurd (List.mem_map.2 ⟨_, h3, rfl⟩) h2
   ·exact nelem h3
  ·exact ((cls k (by rw [hk]; simp)).imp id (hR k)).symm
  ·rcases cls k (by rw [hb]; simp) with h1 | h1
   ·exact .inl h1
   ·obtain ⟨j, hj⟩ := mem_fst h1
    obtain ⟨b0, hb0, _⟩ := mkH_all hH hj
    exact .inr (by rw [hb0]; simp)
  ·have hag : ∀ p ∈ m.ks, s2.h p.1 = s.h p.1 := fun p hp => ha p.1 (hR _ (List.mem_map.2 ⟨p, hp, rfl⟩))
   have e1 : evs gl s2 xs = some vs := by rw [evs_congr xs (fun x hx => he x hx)]; exact hev
   have e2 : mkH s2 m.ks m.ks = some H := by rw [mkH_congr hag]; exact hH
   have e3 : chkM s2 vs m = true := chkM_congr hchk hag hRu hfu
   have e4 : chkX gl s2 xs m = true := by
    have e : reach s2 (xs.flatMap (keysOf gl s2)) = reach s (xs.flatMap (keysOf gl s)) := rdL_congr (i := .call f xs) he ha
    unfold chkX
    rw [e]
    simp only [Bool.and_eq_true, List.all_eq_true, elem_iff]
    exact ⟨hr, h1000⟩
   simp only [StepX, e1]
   unfold callX
   simp only [e2, hn, e3, e4, Bool.and_self]
   exact ⟨hfn, hK2⟩
 ·exact h.elim
theorem clR_cl {ks : List Nat} (h : clR s ks = true) : Cl (fun k => k ∈ reach s ks) s := fun k b hk hb j hj => by
 unfold clR at h
 rw [List.all_eq_true] at h
 refine elem_iff.1 (h j (List.mem_append_right _ (List.mem_flatMap.2 ⟨k, hk, ?_⟩)))
 rw [hb]; exact hj
theorem clR_congr {s2 : St} {ks : List Nat} (h : clR s ks = true) (hh : ∀ k ∈ reach s ks, s2.h k = s.h k) : clR s2 ks = true := by
 have e1 : reach s2 ks = reach s ks := reach_congr hh
 have e2 : reach s2 (reach s ks) = reach s (reach s ks) := by
  refine reach_congr fun k hk => hh k ?_
  unfold clR at h
  rw [List.all_eq_true] at h
  exact elem_iff.1 (h k hk)
 unfold clR at h ⊢
 rw [e1, e2]; exact h
theorem stepX_ok (hko : KeyOk s) (hkf : ∀ q ∈ opsX i, q.kf = true) (hpi : isPart i = true) (h : StepX P gl d i hs s K) :
  ∃ hs' x, K hs' (s.eff2 d x) ∧ Ok2 P gl s d i x ∧ Same2 P gl s d i x hs hs' := by
 have gen : isOw i = false → (∀ k ∈ (opsC i).flatMap (keysOf gl s), k ∈ rdL gl s i) → opsC i = opsX i → opsX i = opsI i → isPureI i = true → (∀ s2 K2, (∀ k ∈ rdL gl s i, s2.h k = s.h k) → (∀ y ∈ opsX i, ev gl s2 y = ev gl s y) → StepD P gl d i hs s2 K2 → StepX P gl d i hs s2 K2) → StepD P gl d i hs s K →
   (isRd i = true → Cl (fun k => k ∈ rdL gl s i) s) → ∃ hs' x, K hs' (s.eff2 d x) ∧ Ok2 P gl s d i x ∧ Same2 P gl s d i x hs hs' :=
  fun how _ hcx he hp hX hst hc => ok2_of_par hko hkf he hX (stepD_par how (U := fun k => k ∈ rdL gl s i) hc (fun y hy v hv k hk => mem_rdL (by rw [hcx, he]; exact hy) hv hk) hp hst)
 cases i <;> first | exact gen rfl (fun _ => rdL_of) rfl rfl hpi (fun _ _ _ _ q => q) h (fun h0 => absurd h0 Bool.false_ne_true) | exact iad_ok hko hkf h | exact iar_ok hko hkf h | exact fad_ok hko hkf h | exact nck_ok hko hkf h | exact mv_ok hko hkf h | exact ext_ok hko hkf h | exact fld_ok hko hkf h | exact build_ok hko hkf hpi h | exact load_ok hko hkf h | exact store_ok hko hkf h | exact app_ok hko hkf h | exact slc_ok hko hkf h | exact cpy_ok hko hkf h | exact b2s_ok hko hkf h | skip
 case call f xs =>
  have old : ∀ (_ : ∀ s2 K2, StepX P gl d (.call f xs) hs s2 K2 = match clR s2 (xs.flatMap (keysOf gl s2)) with | true => StepD P gl d (.call f xs) hs s2 K2 | false => False),
    ∃ hs' x, K hs' (s.eff2 d x) ∧ Ok2 P gl s d (.call f xs) x ∧ Same2 P gl s d (.call f xs) x hs hs' := fun hX => by
   have h' := h
   rw [hX] at h'
   split at h'
   ·rename_i hn
    refine gen rfl (fun _ => rdL_of) rfl rfl hpi (fun s2 K2 ha he q => ?_) h' fun _ => clR_cl hn
    have e : xs.flatMap (keysOf gl s2) = xs.flatMap (keysOf gl s) := flat_congr he
    rw [hX, e]
    simp only [clR_congr hn ha]; exact q
   ·exact h'.elim
  cases hs with
  | nil => exact old fun _ _ => rfl
  | cons h0 hs1 =>
   cases h0 with
   | mu ks os r H =>
    have h' := h
    simp only [StepX] at h'
    split at h'
    ·rename_i vs hv
     exact callX_ok (m := ⟨ks, os, r, H⟩) hko hkf hv h'
    ·exact h'.elim
   | no => exact old fun _ _ => rfl
   | cs c => exact old fun _ _ => rfl
   | nat n => exact old fun _ _ => rfl
   | fn n f' => exact old fun _ _ => rfl
   | res v => exact old fun _ _ => rfl
   | b x => exact old fun _ _ => rfl
   | str l => exact old fun _ _ => rfl
   | g x => exact old fun _ _ => rfl
 case cald y xs =>
  have h' := h
  simp only [StepX] at h'
  split at h'
  ·rename_i hn
   refine gen rfl (fun _ => rdL_of) rfl rfl hpi (fun s2 K2 ha he q => ?_) h' fun _ => clR_cl hn
   have e : (y :: xs).flatMap (keysOf gl s2) = (y :: xs).flatMap (keysOf gl s) := flat_congr he
   simp only [StepX, e, clR_congr hn ha]; exact q
  ·exact h'.elim
end
section
variable {P : Program} {gl : Nat → Option (List AC)} {N : Nat} {w0 : Wk} {Pr : PrT} {φ : Nat → Option (Option Nat)} {s : St} {a : Act} {w : World} {o : Oper}
 {hs : List Hint} {K : List Hint → St → Prop} {Q : Exit → Act → World → Prop} {next : Act → World → Prop}
theorem stepX_sound {io : Ins} (hc : compI P o = some io) (h : Sim gl N w0 Pr φ s a w) (hd : ∀ t, o.dst = some t → t < N) (hst : StepX P gl o.dst io hs s K) (ha : After gl N w0 Pr K next) : o.wp P a w next Q := by
 cases io <;> first | exact stepD_sound hc h hd hst ha | exact (hst : False).elim | skip
 case call f xs =>
  have old : (∀ s2 K2, StepX P gl o.dst (.call f xs) hs s2 K2 = match clR s2 (xs.flatMap (keysOf gl s2)) with | true => StepD P gl o.dst (.call f xs) hs s2 K2 | false => False) → o.wp P a w next Q := fun hX => by
   rw [hX] at hst
   split at hst
   ·exact stepD_sound hc h hd hst ha
   ·exact hst.elim
  cases hs with
  | nil => exact old fun _ _ => rfl
  | cons h0 hs1 =>
   cases h0 with
   | mu ks os r H =>
    simp only [StepX] at hst
    split at hst
    ·rename_i vs hv
     unfold callX at hst
     split at hst
     ·rename_i H0 hH hcc
      simp only [Bool.and_eq_true] at hcc
      obtain ⟨hn, hchk, hcx⟩ := hcc
      obtain ⟨hfn, hK⟩ := hst
      refine comp_sound (K := fun hs'' s'' => hs'' = hs1 ∧ s'' = (s.mu ⟨ks, os, r, H⟩).pu o.dst (r.rn (lkN os))) (hs := .mu ks os r H :: hs1) hc h hd ?_ ?_
      ·simp only [Step, hv]
       unfold callM
       rw [frMs_no hn]
       simp only [hH, hchk]
       exact ⟨hfn, trivial, trivial⟩
      ·intro hs'' s'' Pr' φ' a' w' he hsim hps
       obtain ⟨rfl, rfl⟩ := he
       have hku : ∀ k ∈ ks.map (·.1), k ∈ s.u := fun k hk => by
        obtain ⟨j, hj⟩ := mem_fst hk
        obtain ⟨b0, hb0, _⟩ := mkH_all hH hj
        exact h.ku k (by rw [hb0]; simp)
       refine ha _ _ _ _ _ _ hK (hsim.same (fun t => ?_) (fun q => ?_) fun q hq => ?_) hps
       ·simp only [St.eff2, St.pu, muE]; cases o.dst <;> rfl
       ·have e : ((s.mu ⟨ks, os, r, H⟩).pu o.dst (r.rn (lkN os))).h q = (s.mu ⟨ks, os, r, H⟩).h q := by cases o.dst <;> rfl
        rw [e]
        simp only [St.eff2, muE_n, muG, St.mu]
        cases h1 : (os.map (·.2)).elem q with
        | true =>
         rw [elem_iff.2 (List.mem_append_left _ (elem_iff.1 h1))]; rfl
        | false =>
         cases h2 : (ks.map (·.1)).elem q with
         | true => rw [elem_iff.2 (List.mem_append_right _ (elem_iff.1 h2))]; rfl
         | false => rw [nelem fun h3 => (List.mem_append.1 h3).elim (not_mem_of_elem h1) (not_mem_of_elem h2)]; rfl
       ·have e : ((s.mu ⟨ks, os, r, H⟩).pu o.dst (r.rn (lkN os))).u = os.map (·.2) ++ s.u := by cases o.dst <;> rfl
        rw [e] at hq
        simp only [St.eff2]
        rcases List.mem_append.1 hq with hq | hq
        ·by_cases hk : q ∈ ks.map (·.1)
         ·exact List.mem_append_right _ (hku q hk)
         ·exact List.mem_append_left _ (muE_u.2 ⟨hq, hk⟩)
        ·exact List.mem_append_right _ hq
     ·exact hst.elim
    ·exact hst.elim
   | no => exact old fun _ _ => rfl
   | cs c => exact old fun _ _ => rfl
   | nat n => exact old fun _ _ => rfl
   | fn n f' => exact old fun _ _ => rfl
   | res v => exact old fun _ _ => rfl
   | b x => exact old fun _ _ => rfl
   | str l => exact old fun _ _ => rfl
   | g x => exact old fun _ _ => rfl
 case cald y xs =>
  simp only [StepX] at hst
  split at hst
  ·exact stepD_sound hc h hd hst ha
  ·exact hst.elim
 case slc wd x lo hi =>
  simp only [StepX] at hst
  refine comp_sound (hs := hs) hc h hd ?_ ha
  simp only [Step]
  split at hst
  ·rename_i wd' n f n' f' hs1 hx
   simp only [hx]; exact hst
  ·rename_i k wd' n n' hs1 hx
   simp only [hx]; exact hst
  ·exact hst.elim
 case cpy y z =>
  simp only [StepX] at hst
  split at hst
  ·rename_i k off len v n' f' hs1 hy hz
   split at hst
   ·rename_i n f m g hb hel
    have hB0 := hst
    obtain ⟨h3, h4, h7⟩ := hst.out
    refine comp_sound (K := fun hs'' s'' => hs'' = hs1 ∧ s'' = (s.sh k (.arr 1 n f' false)).pu o.dst (.c (.int .i64 n'))) hc h hd (hs := .fn n' f' :: hs1) ?_ ?_
    ·simp only [Step, hy, hz, hb, hel]; exact elemsB.map (fun _ => ⟨h3, h4, trivial, trivial⟩) hB0
    ·intro hs'' s'' Pr' φ' a' w' he hsim hps
     obtain ⟨rfl, rfl⟩ := he
     refine ha _ _ _ _ _ _ h7 (hsim.same (fun t => ?_) (fun q => ?_) fun q hq => ?_) hps
     ·cases o.dst <;> rfl
     ·cases o.dst <;> simp only [St.eff2, St.pu, St.sh, lkO] <;> cases Nat.beq q k <;> rfl
     ·revert hq; cases o.dst <;> intro hq <;> simpa [St.eff2, St.pu, St.sh] using hq
   ·exact hst.elim
  ·exact hst.elim
 case store wd y z =>
  simp only [StepX] at hst
  split at hst
  ·rename_i k i v hd' hy hz
   split at hst
   ·rename_i cs vc hb ho
    split at hst
    ·rename_i h1
     split at hst
     ·rename_i h2
      refine comp_sound (hs := hs) (K := fun hs'' s'' => hs'' = hs ∧ s'' = s.sh k (.var (setC cs i vc) false)) hc h hd ?_ ?_
      ·simp only [Step, hy, hz, hb, ho, if_pos h1, if_pos h2]; exact ⟨trivial, trivial⟩
      ·intro hs'' s'' Pr' φ' a' w' he hsim hps
       obtain ⟨rfl, rfl⟩ := he
       refine ha _ _ _ _ _ _ hst (hsim.same (fun t => rfl) (fun q => ?_) fun q hq => hq) hps
       simp only [St.eff2, St.sh, lkO]
       cases Nat.beq q k <;> rfl
     ·exact hst.elim
    ·exact hst.elim
   ·exact hst.elim
  ·rename_i k wd2 i q v hd' hy hz
   split at hst
   ·rename_i wd' n f vc f' n0 hs1 hb ho
    split at hst
    ·rename_i h1
     split at hst
     ·rename_i h2
      obtain ⟨h3, h4, h5, h6, h7⟩ := hst
      refine comp_sound (K := fun hs'' s'' => hs'' = hs1 ∧ s'' = s.sh k (.arr wd2 n n0 false)) hc h hd (hs := .fn f' n0 :: hs1) ?_ ?_
      ·simp only [Step, hy, hz, hb, ho, if_pos h1, if_pos h2]; exact ⟨h3, h4, h5, h6, trivial, trivial⟩
      ·intro hs'' s'' Pr' φ' a' w' he hsim hps
       obtain ⟨rfl, rfl⟩ := he
       refine ha _ _ _ _ _ _ h7 (hsim.same (fun t => rfl) (fun q => ?_) fun q hq => hq) hps
       simp only [St.eff2, St.sh, lkO]
       cases Nat.beq q k <;> rfl
     ·exact hst.elim
    ·exact hst.elim
   ·exact hst.elim
  ·exact hst.elim
 case app wd bt y z =>
  simp only [StepX] at hst
  split at hst
  ·rename_i kd k wd' len v n' f' hs1 hd' hy hz
   split at hst
   ·rename_i wd'' n f wd3 m g hfr hb hel
    split at hst
    ·rename_i h1
     split at hst
     ·rename_i h2
      split at hst
      ·rename_i h3
       have hB0 := hst
       obtain ⟨h4, h5, h6, h7⟩ := hst.out
       refine comp_sound (K := fun hs'' s'' => hs'' = hs1 ∧ s'' = ((s.dr k).al kd (.arr wd n' f' false)).pu (some kd) (.c (.own kd wd 0 n'))) (hs := .fn n' f' :: hs1) hc h hd ?_ ?_
       ·simp only [Step, hd', hy, hz, hfr, hb, hel, if_pos h1, if_pos h2, if_pos h3]; exact elemsB.map (fun _ => ⟨h4, h5, h6, trivial, trivial⟩) hB0
       ·intro hs'' s'' Pr' φ' a' w' he hsim hps
        obtain ⟨rfl, rfl⟩ := he
        refine ha _ _ _ _ _ _ h7 (hsim.same (fun t => ?_) (fun q => ?_) fun q hq => ?_) hps
        ·simp only [St.eff2, St.pu, St.al, St.dr]
        ·simp only [St.eff2, St.pu, St.al, St.dr, lkO]
         cases Nat.beq q kd
         ·cases Nat.beq q k <;> rfl
         ·rfl
        ·simpa [St.eff2, St.pu, St.al, St.dr] using hq
      ·exact hst.elim
     ·exact hst.elim
    ·exact hst.elim
   ·exact hst.elim
  ·rename_i kd v n' f' hs1 hd' hy hz
   split at hst
   ·rename_i wd3 m g hfr hel
    split at hst
    ·rename_i h3
     have hB0 := hst
     obtain ⟨h4, h6, h7⟩ := hst.out
     refine comp_sound (K := fun hs'' s'' => hs'' = hs1 ∧ s'' = (s.al kd (.arr wd n' f' false)).pu (some kd) (.c (.own kd wd 0 n'))) (hs := .fn n' f' :: hs1) hc h hd ?_ ?_
     ·simp only [Step, hd', hy, hz, hfr, hel, if_pos h3]; exact elemsB.map (fun _ => ⟨h4, h6, trivial, trivial⟩) hB0
     ·intro hs'' s'' Pr' φ' a' w' he hsim hps
      obtain ⟨rfl, rfl⟩ := he
      refine ha _ _ _ _ _ _ h7 (hsim.same (fun t => ?_) (fun q => ?_) fun q hq => ?_) hps
      ·simp only [St.eff2, St.pu, St.al]
      ·simp only [St.eff2, St.pu, St.al, lkO]
       cases Nat.beq q kd <;> rfl
      ·simpa [St.eff2, St.pu, St.al] using hq
    ·exact hst.elim
   ·exact hst.elim
  ·exact hst.elim
structure Out2 (P : Program) (gl : Nat → Option (List AC)) (s : St) (o : IOp) (x : Eff2) : Prop where
 ok : Ok2 P gl s o.d o.i x
 p : ∃ hs hs', ∀ s2 : St, (∀ k ∈ rdL gl s o.i, s2.h k = s.h k) → (∀ k ∈ nmL gl s o.i, s.h k ≠ none → s2.h k ≠ none) → (∀ y ∈ opsXG o, ev gl s2 y = ev gl s y) → (∀ t, o.d = some t → s.u.elem t = false → s2.u.elem t = false) → (∀ k ∈ x.u, s2.u.elem k = false) →
  ∀ K2 : List Hint → St → Prop, K2 hs' (s2.eff2 o.d x) → StepXG P gl o hs s2 K2
theorem ok2_tup {d : Option Nat} {i : Ins} : Ok2 P gl s d i ⟨some (.tup []), [], []⟩ :=
 ⟨fun v hv k hk => (by cases hv; simp [AV.keys] at hk), fun k b hb => (by cases hb), fun k hk => absurd rfl hk, fun k hk => (by cases hk), fun k hb => (by cases hb), fun k b hb => (by cases hb)⟩
theorem stepXG_ok {o : IOp} (hko : KeyOk s) (hkf : ∀ q ∈ opsX o.i, q.kf = true) (hpi : isPart o.i = true) (h : StepXG P gl o hs s K) : ∃ hs' x, K hs' (s.eff2 o.d x) ∧ Out2 P gl s o x := by
 have h0 := h
 unfold StepXG at h
 split at h
 ·rename_i hg
  obtain ⟨hs', x, h1, h2, h3⟩ := stepX_ok hko hkf hpi h
  exact ⟨hs', x, h1, h2, hs, hs', fun s2 ha hal he hf hfu K2 hK => by unfold StepXG; simp only [hg]; exact h3 s2 ha hal (fun y hy => he y (by simp [opsXG, hy])) hf hfu K2 hK⟩
 ·rename_i t b hg
  split at h
  ·rename_i c v hs1 hc
   obtain ⟨rfl, h⟩ := h
   split at h
   ·obtain ⟨hs', x, h1, h2, h3⟩ := stepX_ok hko hkf hpi h
    refine ⟨hs', x, h1, h2, .g true :: hs1, hs', fun s2 ha hal he hf hfu K2 hK => ?_⟩
    have ht : s2.e t = some (.c (.bool true)) := by rw [← hc]; exact he (.t t) (by simp [opsXG, hg])
    unfold StepXG; simp only [hg, ht]; exact ⟨trivial, h3 s2 ha hal (fun y hy => he y (by simp [opsXG, hy])) hf hfu K2 hK⟩
   ·obtain ⟨hs', x, h1, h2, h3⟩ := stepX_ok hko hkf hpi h
    refine ⟨hs', x, h1, h2, .g false :: hs1, hs', fun s2 ha hal he hf hfu K2 hK => ?_⟩
    have ht : s2.e t = some (.c (.bool false)) := by rw [← hc]; exact he (.t t) (by simp [opsXG, hg])
    unfold StepXG; simp only [hg, ht]; exact ⟨trivial, h3 s2 ha hal (fun y hy => he y (by simp [opsXG, hy])) hf hfu K2 hK⟩
   ·rename_i n1 n2
    refine ⟨hs1, ⟨some (.tup []), [], []⟩, (eff_pu2 s o.d _) ▸ h, ok2_tup, .g c :: hs1, hs1, fun s2 ha hal he hf hfu K2 hK => ?_⟩
    have ht : s2.e t = some (.c (.bool c)) := by rw [← hc]; exact he (.t t) (by simp [opsXG, hg])
    have hK' : K2 hs1 (s2.pu o.d (.tup [])) := (eff_pu2 s2 o.d _) ▸ hK
    unfold StepXG; simp only [hg, ht]
    cases c <;> cases b <;> first | exact ⟨trivial, hK'⟩ | exact absurd rfl (n1 rfl) | exact absurd rfl (n2 rfl)
  ·rename_i ps hc
   refine ⟨_, ⟨some (.tup []), [], []⟩, (eff_pu2 s o.d _) ▸ h, ok2_tup, [], [], fun s2 ha hal he hf hfu K2 hK => ?_⟩
   have ht : s2.e t = some (.tup ps) := by rw [← hc]; exact he (.t t) (by simp [opsXG, hg])
   have hK' := (eff_pu2 s2 o.d (.tup [])).symm ▸ hK
   unfold StepXG; simp only [hg, ht]; exact hK'
  ·exact h.elim
theorem KeyOk.eff2 {d : Option Nat} {x : Eff2} {i : Ins} (h : KeyOk s) (ho : Ok2 P gl s d i x) : KeyOk (s.eff2 d x) := by
 refine ⟨fun t v ht k hkv => ?_, fun k blk hb j hj => ?_⟩
 ·simp only [St.eff2, List.mem_append]
  cases d with
  | none => exact .inr (h.1 t v ht k hkv)
  | some d =>
   by_cases e : t = d
   ·subst e
    rw [eff2_e'] at ht
    exact (ho.k v ht k hkv).symm
   ·rw [eff2_e (fun q => e (by cases q; rfl))] at ht
    exact .inr (h.1 t v ht k hkv)
 ·simp only [St.eff2, List.mem_append]
  cases hl : lkO k x.n with
  | none => rw [eff2_h hl] at hb; exact .inr (h.2 k blk hb j hj)
  | some b =>
   rw [eff2_h' hl] at hb
   subst hb
   exact (ho.b k blk hl j hj).symm
end
def updD (gl : Nat → Option (List AC)) (s : St) (o : IOp) : List Nat := updK gl s o.i ++ o.d.toList
def disj (a b : List Nat) : Bool := a.all fun k => !b.elem k
def unB (un : List (Nat × Nat)) (j i : Nat) : Bool := un.any fun p => Nat.beq p.1 j && Nat.beq p.2 i
def getA : Nat → List (List Nat × List Nat) → List Nat × List Nat
 | _, [] => ([], [])
 | 0, x :: _ => x
 | n + 1, _ :: r => getA n r
def chkP (un : List (Nat × Nat)) (i : Nat) (A : List (List Nat × List Nat)) (ri ui : List Nat) : Bool :=
 un.all fun p => bif Nat.beq p.2 i then (disj ui (getA p.1 A).1 && disj (getA p.1 A).2 ri) else true
def kcD (gl : Nat → Option (List AC)) (s : St) (o : IOp) : List Nat := kcK gl s o.i ++ o.d.toList
def rdE (gl : Nat → Option (List AC)) (s : St) (i : Ins) : List Nat := (rdL gl s i).map (2 * ·) ++ (nmL gl s i).map (2 * · + 1)
def updE (gl : Nat → Option (List AC)) (s : St) (o : IOp) : List Nat := (updD gl s o).map (2 * ·) ++ (kcD gl s o).map (2 * · + 1)
def newU (l : List Nat) : List Nat := l.flatMap fun k => [2 * k, 2 * k + 1]
def newE (s s' : St) : List Nat := newU (s'.u.take (s'.u.length - s.u.length))
def SegX (P : Program) (gl : Nat → Option (List AC)) (un : List (Nat × Nat)) : List (List Nat × List Nat) → List IOp → List Hint → St → (List Hint → St → Prop) → Prop
 | _, [], hs, s, K => K hs s
 | A, o :: r, hs, s, K => match chkP un A.length A (rdE gl s o.i) (updE gl s o) with
  | true => StepXG P gl o hs s fun hs' s' => SegX P gl un (A ++ [(rdE gl s o.i, updE gl s o ++ newE s s')]) r hs' s' K
  | false => False
section
variable {P : Program} {gl : Nat → Option (List AC)} {N : Nat} {w0 : Wk} {Pr : PrT} {φ : Nat → Option (Option Nat)} {s : St} {a : Act} {w : World}
 {hs : List Hint} {K : List Hint → St → Prop} {un : List (Nat × Nat)}
theorem disj_spec {a b : List Nat} (h : disj a b = true) {k : Nat} (hk : k ∈ a) : k ∉ b := fun hb => by
 have := List.all_eq_true.1 h k hk
 rw [List.elem_eq_true_of_mem hb] at this
 cases this
theorem disj_of {a b : List Nat} (h : ∀ k ∈ a, k ∉ b) : disj a b = true := List.all_eq_true.2 fun k hk => by
 cases hb : b.elem k with
 | false => rfl
 | true => exact absurd (List.mem_of_elem_eq_true hb) (h k hk)
theorem disjE {s2 : St} {o : IOp} {i : Ins} (h : disj (updE gl s o) (rdE gl s2 i) = true) : disj (updD gl s o) (rdL gl s2 i) = true ∧ disj (kcD gl s o) (nmL gl s2 i) = true :=
 ⟨disj_of fun k h1 h2 => disj_spec h (k := 2 * k) (List.mem_append_left _ (List.mem_map.2 ⟨k, h1, rfl⟩)) (List.mem_append_left _ (List.mem_map.2 ⟨k, h2, rfl⟩)),
  disj_of fun k h1 h2 => disj_spec h (k := 2 * k + 1) (List.mem_append_right _ (List.mem_map.2 ⟨k, h1, rfl⟩)) (List.mem_append_right _ (List.mem_map.2 ⟨k, h2, rfl⟩))⟩
theorem newU_mem {l : List Nat} {k : Nat} (h : k ∈ l) : 2 * k ∈ newU l ∧ 2 * k + 1 ∈ newU l :=
 ⟨List.mem_flatMap.2 ⟨k, h, by simp⟩, List.mem_flatMap.2 ⟨k, h, by simp⟩⟩
theorem disj_left {a b c : List Nat} (h : disj (a ++ b) c = true) : disj a c = true := disj_of fun _ hk => disj_spec h (List.mem_append_left _ hk)
theorem getA_get : ∀ {A : List (List Nat × List Nat)} {j : Nat} {x : List Nat × List Nat}, A[j]? = some x → getA j A = x
 | [], _, _, h => by simp at h
 | y :: r, 0, _, h => by simp only [List.getElem?_cons_zero, Option.some.injEq] at h; exact h
 | y :: r, j + 1, _, h => getA_get (A := r) (by simpa using h)
theorem chkP_spec {i : Nat} {B : List (List Nat × List Nat)} {ri ui : List Nat} (hc : chkP un i B ri ui = true) (j : Nat) (r u : List Nat) (h : B[j]? = some (r, u)) (hu : unB un j i = true) : disj ui r = true ∧ disj u ri = true := by
 unfold unB at hu
 rw [List.any_eq_true] at hu
 obtain ⟨p, hp, h1⟩ := hu
 rw [Bool.and_eq_true] at h1
 unfold chkP at hc
 rw [List.all_eq_true] at hc
 have h2 := hc p hp
 rw [h1.2, cond_true, Nat.eq_of_beq_eq_true h1.1, getA_get h, Bool.and_eq_true] at h2
 exact h2
def RunX (P : Program) (gl : Nat → Option (List AC)) (un : List (Nat × Nat)) : St → List (List Nat × List Nat) → List IOp → List (Option Nat × Eff2) → Prop
 | _, _, [], [] => True
 | s, A, o :: r, y :: l => y.1 = o.d ∧ Out2 P gl s o y.2 ∧ chkP un A.length A (rdE gl s o.i) (updE gl s o) = true ∧ RunX P gl un (s.eff2 y.1 y.2) (A ++ [(rdE gl s o.i, updE gl s o ++ newU y.2.u)]) r l
 | _, _, _, _ => False
def allX (s : St) : List (Option Nat × Eff2) → St
 | [] => s
 | y :: l => allX (s.eff2 y.1 y.2) l
theorem segX_run : ∀ (ios : List IOp) {A : List (List Nat × List Nat)} {hs : List Hint} {s : St}, (∀ o ∈ ios, isPart o.i = true ∧ ∀ y ∈ opsX o.i, y.kf = true) → KeyOk s → SegX P gl un A ios hs s K →
  ∃ l hs', RunX P gl un s A ios l ∧ K hs' (allX s l)
 | [], A, hs, s, _, _, h => ⟨[], hs, trivial, h⟩
 | o :: r, A, hs, s, hp, hk, h => by
  have ho := hp o (by simp)
  simp only [SegX] at h
  split at h
  ·rename_i hc
   obtain ⟨hs', x, h1, h2⟩ := stepXG_ok hk ho.2 ho.1 h
   have e : newE s (s.eff2 o.d x) = newU x.u := by
    unfold newE
    have : (s.eff2 o.d x).u = x.u ++ s.u := rfl
    rw [this, List.length_append, Nat.add_sub_cancel, List.take_left]
   rw [e] at h1
   obtain ⟨l, hs'', h3, h4⟩ := segX_run r (fun o' ho' => hp o' (by simp [ho'])) (hk.eff2 h2.ok) h1
   exact ⟨(o.d, x) :: l, hs'', ⟨rfl, h2, hc, h3⟩, h4⟩
  ·exact h.elim
theorem SPf_shift : ∀ {l : List (Option Nat × Eff2)} {i : Nat} {p : Nat → Bool} {s : St}, SPf l (i + 1) p s = SPf l i (fun j => p (j + 1)) s
 | [], _, _, _ => rfl
 | (d, x) :: r, i, p, s => by simp only [SPf]; exact SPf_shift
theorem SPf_nil : ∀ {l : List (Option Nat × Eff2)} {i : Nat} {s : St}, SPf l i (fun _ => false) s = s
 | [], _, _ => rfl
 | (d, x) :: r, i, s => by simp only [SPf, cond_false]; exact SPf_nil
theorem SPf_all : ∀ {l : List (Option Nat × Eff2)} {i : Nat} {s : St}, SPf l i (fun _ => true) s = allX s l
 | [], _, _ => rfl
 | (d, x) :: r, i, s => by simp only [SPf, cond_true, allX]; exact SPf_all
def TS (s : St) (l : List (Option Nat × Eff2)) (i : Nat) : St := SPf l 0 (fun j => decide (j < i)) s
theorem TS_zero {l : List (Option Nat × Eff2)} : TS s l 0 = s := by
 unfold TS
 have : (fun j => decide (j < 0)) = fun _ => false := by funext j; simp
 rw [this, SPf_nil]
theorem TS_cons {y : Option Nat × Eff2} {l : List (Option Nat × Eff2)} {i : Nat} : TS s (y :: l) (i + 1) = TS (s.eff2 y.1 y.2) l i := by
 obtain ⟨d, x⟩ := y
 unfold TS
 simp only [SPf, Nat.zero_lt_succ, decide_true, cond_true]
 rw [SPf_shift]
 congr 1
 funext j
 simp
theorem RunX.len : ∀ {ios : List IOp} {l : List (Option Nat × Eff2)} {A : List (List Nat × List Nat)} {s : St}, RunX P gl un s A ios l → l.length = ios.length
 | [], [], _, _, _ => rfl
 | [], _ :: _, _, _, h => h.elim
 | _ :: _, [], _, _, h => h.elim
 | _ :: r, _ :: l, _, _, h => by simp [RunX.len h.2.2.2]
theorem RunX.at : ∀ {ios : List IOp} {l : List (Option Nat × Eff2)} {A : List (List Nat × List Nat)} {s : St} {i : Nat} {o : IOp} {d : Option Nat} {x : Eff2}, RunX P gl un s A ios l → ios[i]? = some o → l[i]? = some (d, x) →
  d = o.d ∧ Out2 P gl (TS s l i) o x
 | [], _, _, _, i, _, _, _, _, h, _ => by simp at h
 | _ :: _, [], _, _, _, _, _, _, h, _, _ => h.elim
 | o' :: r, y :: l, A, s, i, o, d, x, h, ho, hx => by
  cases i with
  | zero =>
   simp only [List.getElem?_cons_zero, Option.some.injEq] at ho hx
   subst ho hx
   rw [TS_zero]
   exact ⟨h.1, h.2.1⟩
  | succ i =>
   rw [TS_cons]
   exact RunX.at h.2.2.2 (by simpa using ho) (by simpa using hx)
theorem RunX.pair : ∀ {ios : List IOp} {l : List (Option Nat × Eff2)} {A : List (List Nat × List Nat)} {s : St} {i : Nat} {oi : IOp}, RunX P gl un s A ios l → ios[i]? = some oi →
  (∀ (j : Nat) (r u : List Nat), A[j]? = some (r, u) → unB un j (A.length + i) = true → disj (updE gl (TS s l i) oi) r = true ∧ disj u (rdE gl (TS s l i) oi.i) = true) ∧
  (∀ (j : Nat) (oj : IOp) (dj : Option Nat) (xj : Eff2), j < i → ios[j]? = some oj → l[j]? = some (dj, xj) → unB un (A.length + j) (A.length + i) = true → disj (updE gl (TS s l i) oi) (rdE gl (TS s l j) oj.i) = true ∧ disj (updE gl (TS s l j) oj ++ newU xj.u) (rdE gl (TS s l i) oi.i) = true)
 | [], _, _, _, i, _, _, h => by simp at h
 | _ :: _, [], _, _, _, _, h, _ => h.elim
 | o' :: r, y :: l, A, s, i, oi, h, ho => by
  cases i with
  | zero =>
   simp only [List.getElem?_cons_zero, Option.some.injEq] at ho
   subst ho
   rw [TS_zero]
   refine ⟨fun j r u hj hu => ?_, fun j oj dj xj hj => by omega⟩
   exact chkP_spec h.2.2.1 j r u hj (by simpa using hu)
  | succ i =>
   obtain ⟨h1, h2⟩ := RunX.pair h.2.2.2 (by simpa using ho : r[i]? = some oi)
   have hlen : (A ++ [(rdE gl s o'.i, updE gl s o' ++ newU y.2.u)]).length + i = A.length + (i + 1) := by simp; omega
   rw [TS_cons]
   refine ⟨fun j r' u hj hu => ?_, fun j oj dj xj hj hoj hxj hu => ?_⟩
   ·have hjl : j < A.length := (List.getElem?_eq_some_iff.1 hj).1
    exact h1 j r' u (by rw [List.getElem?_append_left hjl]; exact hj) (by rw [hlen]; exact hu)
   ·cases j with
    | zero =>
     simp only [List.getElem?_cons_zero, Option.some.injEq] at hoj hxj
     subst hoj hxj
     rw [TS_zero]
     exact h1 A.length _ _ (by simp) (by rw [hlen]; simpa using hu)
    | succ j =>
     rw [TS_cons]
     refine h2 j oj dj xj (by omega) (by simpa using hoj) (by simpa using hxj) ?_
     rw [hlen, show (A ++ [(rdE gl s o'.i, updE gl s o' ++ newU y.2.u)]).length + j = A.length + (j + 1) by simp; omega]
     exact hu
end
theorem mask_spec (A : List Nat) : ∀ (D : List Nat) (m j : Nat), (D.foldl (fun m l => m ||| (2 ^ l ||| A.getD l 0)) m).testBit j = true → m.testBit j = true ∨ j ∈ D ∨ ∃ k ∈ D, (A.getD k 0).testBit j = true
 | [], m, j, h => .inl h
 | l :: D, m, j, h => by
  rw [List.foldl_cons] at h
  rcases mask_spec A D _ j h with h | h | ⟨k, hk, h⟩
  ·rw [Nat.testBit_or, Nat.testBit_or, Bool.or_eq_true, Bool.or_eq_true, Nat.testBit_two_pow] at h
   rcases h with h | h | h
   ·exact .inl h
   ·have : l = j := by simpa using h
    exact .inr (.inl (by simp [this]))
   ·exact .inr (.inr ⟨l, by simp, h⟩)
  ·exact .inr (.inl (by simp [h]))
  ·exact .inr (.inr ⟨k, by simp [hk], h⟩)
theorem ancs_spec : ∀ (l : List Oper) (A : List Nat) {i j : Nat}, ((ancs l A).getD i 0).testBit j = true → (i < A.length → (A.getD i 0).testBit j = true) ∧ (A.length ≤ i → ∃ o, l[i - A.length]? = some o ∧ (j ∈ dirE o ∨ ∃ k ∈ dirE o, k < i ∧ ((ancs l A).getD k 0).testBit j = true))
 | [], A, i, j, h => by
  simp only [ancs] at h ⊢
  refine ⟨fun _ => h, fun hi => ?_⟩
  rw [List.getD_eq_getElem?_getD, List.getElem?_eq_none hi] at h
  simp at h
 | o :: r, A, i, j, h => by
  simp only [ancs] at h ⊢
  obtain ⟨h1, h2⟩ := ancs_spec r _ h
  have hlen : (A ++ [maskE A o]).length = A.length + 1 := by simp
  have stay : ∀ (l : List Oper) (B : List Nat) (k : Nat), k < B.length → (ancs l B).getD k 0 = B.getD k 0 := by
   intro l
   induction l with
   | nil => intro B k _; rfl
   | cons q l ih =>
    intro B k hk
    simp only [ancs]
    rw [ih _ k (by simp; omega), List.getD_eq_getElem?_getD, List.getElem?_append_left hk, ← List.getD_eq_getElem?_getD]
  constructor
  ·intro hi
   have := h1 (by omega)
   rwa [List.getD_eq_getElem?_getD, List.getElem?_append_left hi, ← List.getD_eq_getElem?_getD] at this
  ·intro hi
   by_cases e : i = A.length
   ·subst e
    have h3 := h1 (by omega)
    rw [List.getD_eq_getElem?_getD, List.getElem?_append_right (Nat.le_refl _)] at h3
    simp only [Nat.sub_self, List.getElem?_cons_zero, Option.getD_some] at h3
    refine ⟨o, by simp, ?_⟩
    rcases mask_spec A (dirE o) 0 j h3 with h3 | h3 | ⟨k, hk, h3⟩
    ·simp at h3
    ·exact .inl h3
    ·have hkl : k < A.length := by
      rcases Nat.lt_or_ge k A.length with q | q
      ·exact q
      ·rw [List.getD_eq_getElem?_getD, List.getElem?_eq_none q] at h3; simp at h3
     refine .inr ⟨k, hk, hkl, ?_⟩
     rw [stay _ _ k (by omega), List.getD_eq_getElem?_getD, List.getElem?_append_left hkl, ← List.getD_eq_getElem?_getD]
     exact h3
   ·obtain ⟨o', h3, h4⟩ := h2 (by omega)
    refine ⟨o', ?_, h4⟩
    rw [hlen] at h3
    rw [show i - A.length = (i - (A.length + 1)) + 1 by omega, List.getElem?_cons_succ]
    exact h3
theorem ancOf_spec {ops : Array Oper} {i j : Nat} (h : ancB ops i j = true) : ∃ o, ops[i]? = some o ∧ (j ∈ dirE o ∨ ∃ k ∈ dirE o, k < i ∧ ancB ops k j = true) := by
 obtain ⟨o, h1, h2⟩ := (ancs_spec ops.toList [] h).2 (by simp)
 exact ⟨o, by simpa using h1, h2⟩
theorem dirE_spec {o : Oper} {j : Nat} (h : j ∈ dirE o) : ∃ e ∈ o.after, e.on = j ∧ Region.binds .any e = true := by
 unfold dirE at h
 rw [List.mem_map] at h
 obtain ⟨e, he, rfl⟩ := h
 rw [List.mem_filter] at he
 exact ⟨e, by simpa using he.1, rfl, he.2⟩
theorem anc_listed {ops : Array Oper} {L : Nat → Bool} (hcl : ∀ j pj, L j = true → ops[j]? = some pj → ∀ e ∈ pj.after, Region.binds .any e = true → L e.on = true) :
  ∀ (n i j : Nat), i ≤ n → ancB ops i j = true → (∀ o, ops[i]? = some o → ∀ e ∈ o.after, Region.binds .any e = true → L e.on = true) → L j = true := by
 intro n
 induction n with
 | zero =>
  intro i j hi hj hr
  obtain ⟨o, h1, h2⟩ := ancOf_spec hj
  rcases h2 with h2 | ⟨k, hk, hki, h2⟩
  ·obtain ⟨e, he, rfl, hb⟩ := dirE_spec h2; exact hr o h1 e he hb
  ·omega
 | succ n ih =>
  intro i j hi hj hr
  obtain ⟨o, h1, h2⟩ := ancOf_spec hj
  rcases h2 with h2 | ⟨k, hk, hki, h2⟩
  ·obtain ⟨e, he, rfl, hb⟩ := dirE_spec h2; exact hr o h1 e he hb
  ·obtain ⟨e, he, rfl, hb⟩ := dirE_spec hk
   have hLk := hr o h1 e he hb
   exact ih e.on j (by omega) h2 fun o' ho' => hcl _ o' hLk ho'
theorem unB_of {ops : Array Oper} {i j : Nat} (hi : i < ops.size) (hji : j < i) (h : ¬ ancB ops i j = true) : unB (unP ops) j i = true := by
 unfold unB
 rw [List.any_eq_true]
 refine ⟨(j, i), ?_, by simp [nbt]⟩
 unfold unP
 rw [List.mem_flatMap]
 refine ⟨i, List.mem_range.2 hi, List.mem_map.2 ⟨j, List.mem_filter.2 ⟨List.mem_range.2 hji, ?_⟩, rfl⟩⟩
 cases hb : ancB ops i j with
 | false => rfl
 | true => exact absurd hb h
structure DrawOk2 (ops : Array Oper) (ios : List IOp) : Prop where
 len : ios.length = ops.size
 back : ∀ (i : Nat) (pi : Oper), ops[i]? = some pi → ∀ e ∈ pi.after, Region.binds .any e = true → e.on < i
 part : ∀ (i : Nat) (oi : IOp), ios[i]? = some oi → isPart oi.i = true ∧ ∀ y ∈ opsX oi.i, y.kf = true
 small : ∀ (i : Nat) (oi : IOp) (t : Nat), ios[i]? = some oi → oi.d = some t → t < 1000
 dist : ∀ (i j : Nat) (oi oj : IOp) (t : Nat), ios[i]? = some oi → ios[j]? = some oj → i ≠ j → oj.d = some t → oi.d ≠ some t
 dep : ∀ (i j : Nat) (oi oj : IOp) (t : Nat), ios[i]? = some oi → ios[j]? = some oj → i ≠ j → oj.d = some t → t ∈ (opsXG oi).flatMap rdO →
  (j < i → ancB ops i j = true) ∧ (¬ j < i → ancB ops j i = true)
theorem okDraw2_spec {ops : Array Oper} {ios : List IOp} (h : okDraw2 ops ios = true) : DrawOk2 ops ios := by
 unfold okDraw2 at h
 simp only [Bool.and_eq_true, decide_eq_true_eq, List.all_eq_true, List.mem_range] at h
 obtain ⟨hl, hall⟩ := h
 have get : ∀ i, i < ios.length → ∃ oi pi, ios[i]? = some oi ∧ ops[i]? = some pi := fun i hi =>
  ⟨ios[i], ops[i]'(by omega), List.getElem?_eq_getElem hi, Array.getElem?_eq_getElem (by omega)⟩
 have lti : ∀ (i : Nat) oi, ios[i]? = some oi → i < ios.length := fun i oi h => (List.getElem?_eq_some_iff.1 h).1
 have ltp : ∀ (i : Nat) pi, ops[i]? = some pi → i < ios.length := fun i oi h => by
  have := (Array.getElem?_eq_some_iff.1 h).1; omega
 have pair : ∀ (i j : Nat) (oi oj : IOp) (t : Nat), ios[i]? = some oi → ios[j]? = some oj → i ≠ j → oj.d = some t → oi.d ≠ oj.d ∧
   (((opsXG oi).flatMap rdO).elem t = false ∨ (if j < i then ancB ops i j else ancB ops j i) = true) := by
  intro i j oi oj t ho ho' hij ht
  obtain ⟨oi', pi, ho1, hp⟩ := get i (lti i oi ho)
  have h1 := hall i (lti i oi ho)
  simp only [ho, hp, Bool.and_eq_true, List.all_eq_true, List.mem_range] at h1
  have h2 := h1.2.2 j (lti j oj ho')
  simp only [ho', ht, Bool.and_eq_true, Bool.or_eq_true, beq_iff_eq, bne_iff_ne, Bool.not_eq_true'] at h2
  have h3 := h2.resolve_left hij
  rw [ht]
  exact h3
 refine ⟨hl, fun i pi hp e he hb => ?_, fun i oi ho => ?_, fun i oi t ho ht => ?_, fun i j oi oj t ho ho' hij ht => ?_, fun i j oi oj t ho ho' hij ht hr => ?_⟩
 ·obtain ⟨oi, pi', ho, hp'⟩ := get i (ltp i pi hp)
  rw [hp] at hp'; cases hp'
  have h1 := hall i (ltp i pi hp)
  simp only [ho, hp, Bool.and_eq_true, List.all_eq_true] at h1
  have := h1.1 e (by simpa using he)
  simpa [hb] using this
 ·obtain ⟨oi', pi, ho', hp⟩ := get i (lti i oi ho)
  rw [ho] at ho'; cases ho'
  have h1 := hall i (lti i oi ho)
  simp only [ho, hp, Bool.and_eq_true, List.all_eq_true] at h1
  exact ⟨h1.2.1.2.1, h1.2.1.2.2⟩
 ·obtain ⟨oi', pi, ho', hp⟩ := get i (lti i oi ho)
  rw [ho] at ho'; cases ho'
  have h1 := hall i (lti i oi ho)
  simp only [ho, hp, ht, Bool.and_eq_true, List.all_eq_true] at h1
  have := h1.2.1.1
  simpa [Nat.blt_eq] using this
 ·rw [← ht]; exact (pair i j oi oj t ho ho' hij ht).1
 ·have h4 := (pair i j oi oj t ho ho' hij ht).2.resolve_left (by rw [List.elem_eq_true_of_mem hr]; simp)
  exact ⟨fun h => by rw [if_pos h] at h4; exact h4, fun h => by rw [if_neg h] at h4; exact h4⟩
section
variable {P : Program} {gl : Nat → Option (List AC)} {N : Nat} {w0 : Wk} {Pr : PrT} {φ : Nat → Option (Option Nat)} {s : St} {a : Act} {w : World}
 {hs : List Hint} {K : List Hint → St → Prop} {Q : Exit → Act → World → Prop} {next : Act → World → Prop} {un : List (Nat × Nat)}
theorem opX_sound {ops : Array Oper} {o : Oper} {io : IOp} (hio : compO P N ops o = some io) (h : Sim gl N w0 Pr φ s a w) (hst : StepXG P gl io hs s K)
  (ha : After gl N w0 Pr K next) : if Region.wanted o (yielded ops a.tmps) then o.wp P a w next Q else next (a.put o.dst undef) w := by
 obtain ⟨h1, h2, h3, h4⟩ := compO_inv hio
 obtain ⟨w1, w2⟩ := wanted_of h h2
 have go : ∀ hs, StepX P gl o.dst io.i hs s K → o.wp P a w next Q := fun _ hst' => stepX_sound h1 h h4 hst' ha
 unfold StepXG at hst
 rw [h3] at hst
 split at hst
 ·rename_i hg
  rw [if_pos (w1 hg)]; exact go _ hst
 ·rename_i t b hg
  split at hst
  ·rename_i c v hs1 hc
   obtain ⟨rfl, hst⟩ := hst
   have hw := w2 t b c hg hc
   split at hst
   ·rw [if_pos (by rw [hw]; rfl)]; exact go _ hst
   ·rw [if_pos (by rw [hw]; rfl)]; exact go _ hst
   ·rename_i n1 n2
    have hne : (c == b) = false := by cases c <;> cases b <;> first | rfl | exact absurd rfl (n1 rfl) | exact absurd rfl (n2 rfl)
    rw [if_neg (by rw [hw, hne]; simp)]
    exact ha _ _ _ _ _ _ hst (h.undef h4) (PrS.refl _ _)
  ·rename_i ps hc
   rw [if_neg (by rw [wanted_tup h (hg ▸ h2) hc]; simp)]
   exact ha _ _ _ _ _ _ hst (h.undef h4) (PrS.refl _ _)
  ·exact hst.elim
theorem RunX.keyOk : ∀ {ios : List IOp} {l : List (Option Nat × Eff2)} {A : List (List Nat × List Nat)} {s : St}, RunX P gl un s A ios l → KeyOk s → ∀ i, KeyOk (TS s l i)
 | [], [], _, s, _, hk, i => hk
 | [], _ :: _, _, _, h, _, _ => h.elim
 | _ :: _, [], _, _, h, _, _ => h.elim
 | o :: r, y :: l, A, s, h, hk, i => by
  cases i with
  | zero => rw [TS_zero]; exact hk
  | succ i =>
   rw [TS_cons]
   refine RunX.keyOk h.2.2.2 ?_ i
   rw [h.1]
   exact hk.eff2 h.2.1.ok
theorem SPf_congr : ∀ {l : List (Option Nat × Eff2)} {i : Nat} {p q : Nat → Bool} {s : St}, (∀ j, j < l.length → p (i + j) = q (i + j)) → SPf l i p s = SPf l i q s
 | [], _, _, _, _, _ => rfl
 | (d, x) :: r, i, p, q, s, h => by
  simp only [SPf]
  have h0 := h 0 (by simp)
  rw [Nat.add_zero] at h0
  rw [h0]
  exact SPf_congr fun j hj => by
   have := h (j + 1) (by simp; omega)
   rw [show i + 1 + j = i + (j + 1) by omega]; exact this
theorem SPf_alive {k : Nat} : ∀ {l : List (Option Nat × Eff2)} {i : Nat} {p q : Nat → Bool} {s s' : St}, (∀ j d x, l[j]? = some (d, x) → (lkO k x.n = some none ∨ k ∈ x.u) → p (i + j) = q (i + j)) →
  (∀ j d x b, l[j]? = some (d, x) → q (i + j) = true → lkO k x.n = some (some b) → k ∈ x.u ∨ (SPf (l.take j) i q s).h k ≠ none) → (s.h k ≠ none → s'.h k ≠ none) → (SPf l i q s).h k ≠ none → (SPf l i p s').h k ≠ none
 | [], _, _, _, _, _, _, _, h, h' => h h'
 | (d, x) :: r, i, p, q, s, s', ha, hb, h, h' => by
  simp only [SPf] at h' ⊢
  refine SPf_alive (s := bif q i then s.eff2 d x else s) (fun j d' x' hj hx => ?_) (fun j d' x' b hj hq hx => ?_) ?_ h'
  ·have := ha (j + 1) d' x' (by simpa using hj) hx
   rw [show i + 1 + j = i + (j + 1) by omega]; exact this
  ·have := hb (j + 1) d' x' b (by simpa using hj) (by rw [show i + (j + 1) = i + 1 + j by omega]; exact hq) hx
   simpa only [List.take_succ_cons, SPf] using this
  ·have ha0 := ha 0 d x rfl
   have hb0 := hb 0 d x
   simp only [Nat.add_zero, List.take_zero, SPf] at ha0 hb0
   cases hl : lkO k x.n with
   | none => cases p i <;> cases q i <;> simp only [cond_true, cond_false, eff2_h hl] <;> exact h
   | some b =>
    cases b with
    | none =>
     have e := ha0 (.inl hl)
     rw [e]
     cases q i
     ·exact h
     ·simp only [cond_true, eff2_h' hl]; exact fun q => q
    | some b =>
     by_cases hu : k ∈ x.u
     ·have e := ha0 (.inr hu)
      rw [e]
      cases q i
      ·exact h
      ·simp only [cond_true, eff2_h' hl]; exact fun q => q
     ·cases hp : p i with
      | true => simp only [cond_true, eff2_h' hl]; exact fun _ => by simp
      | false =>
       cases hq : q i with
       | false => exact h
       | true => exact fun _ => h ((hb0 b rfl hq hl).resolve_left hu)
theorem SPf_take : ∀ {l : List (Option Nat × Eff2)} {i j : Nat} {q : Nat → Bool} {s : St}, (∀ m, m < j → q (i + m) = true) → SPf (l.take j) i q s = SPf l i (fun m => decide (m < i + j)) s
 | [], _, j, _, _, _ => by cases j <;> rfl
 | (d, x) :: r, i, 0, q, s, _ => by
  rw [List.take_zero]
  have : SPf ((d, x) :: r) i (fun m => decide (m < i + 0)) s = SPf ((d, x) :: r) i (fun _ => false) s := SPf_congr fun j _ => by simp
  rw [this, SPf_nil]; rfl
 | (d, x) :: r, i, j + 1, q, s, h => by
  simp only [List.take_succ_cons, SPf]
  have h0 := h 0 (by omega)
  rw [Nat.add_zero] at h0
  rw [h0, SPf_take (j := j) fun m hm => by
   have := h (m + 1) (by omega)
   rw [show i + 1 + m = i + (m + 1) by omega]; exact this]
  simp only [cond_true, show decide (i < i + (j + 1)) = true by simp]
  congr 1
  funext m
  rw [show i + 1 + j = i + (j + 1) by omega]
end
section
variable {P : Program} {gl : Nat → Option (List AC)} {N : Nat} {w0 : Wk} {Pr : PrT} {φ : Nat → Option (Option Nat)} {s : St} {a : Act} {w : World}
 {hs : List Hint} {K : List Hint → St → Prop} {Q : Exit → Act → World → Prop} {next : Act → World → Prop} {un : List (Nat × Nat)}
theorem upd_rd {i : Ins} {k : Nat} (h : k ∈ updK gl s i) : k ∈ rdL gl s i := by
 cases i <;> simp only [updK, List.not_mem_nil] at h
 ·exact rdL_of (List.mem_flatMap.2 ⟨_, by simp [opsC, opsX], h⟩)
 ·exact rdL_of (List.mem_flatMap.2 ⟨_, by simp [opsC, opsX], h⟩)
 ·exact h
 ·exact rdL_of (List.mem_flatMap.2 ⟨_, by simp [opsC, opsX], h⟩)
theorem drw_sound {ops : Array Oper} {ios : List IOp} (hok : DrawOk2 ops ios) (hcomp : ops.toList.mapM (compO P N ops) = some ios) {l : List (Option Nat × Eff2)} (hr : RunX P gl (unP ops) s [] ios l)
  (hko : KeyOk s) (hst : K hs (allX s l)) {Pr0 : PrT} (ha : After gl N w0 Pr0 K (fun a w => Q .normal a w)) :
  ∀ (fuel : Nat) {listed : Array Bool} {Pr : PrT} {φ : Nat → Option (Option Nat)} {a : Act} {w : World}, PrS w0 gl Pr0 Pr → cnt (fun j => listed.getD j false) ops.size ≤ fuel →
   listed.size = ops.size → (∀ j pj, listed.getD j false = true → ops[j]? = some pj → ∀ e ∈ pj.after, Region.binds .any e = true → listed.getD e.on false = true) →
   Sim gl N w0 Pr φ (SPf l 0 (fun j => listed.getD j false) s) a w → wpAny P .any ops Q fuel listed a w := by
 have hll : l.length = ops.size := by rw [hr.len, hok.len]
 have getl : ∀ j, j < ops.size → ∃ oj x, ios[j]? = some oj ∧ l[j]? = some (oj.d, x) ∧ Out2 P gl (TS s l j) oj x := fun j hj => by
  have h1 : ios[j]? = some (ios[j]'(by rw [hok.len]; exact hj)) := List.getElem?_eq_getElem _
  have h2 : l[j]? = some (l[j]'(by rw [hll]; exact hj)) := List.getElem?_eq_getElem _
  obtain ⟨h3, h4⟩ := hr.at h1 (by rw [h2] : l[j]? = some ((l[j]'(by rw [hll]; exact hj)).1, (l[j]'(by rw [hll]; exact hj)).2))
  exact ⟨_, _, h1, by rw [h2, ← h3], h4⟩
 have done : ∀ (fuel : Nat) {listed : Array Bool} {Pr : PrT} {φ : Nat → Option (Option Nat)} {a : Act} {w : World}, (∀ j, j < ops.size → listed.getD j false = true) → listed.size = ops.size → PrS w0 gl Pr0 Pr →
   Sim gl N w0 Pr φ (SPf l 0 (fun j => listed.getD j false) s) a w → wpAny P .any ops Q fuel listed a w := by
  intro fuel listed Pr φ a w hall hsz hps h
  have hr0 : Region.ready .any ops listed = [] := by
   rw [List.eq_nil_iff_forall_not_mem]
   intro j hj
   obtain ⟨h1, o, h2, _⟩ := mem_ready.1 hj
   have hjs : j < ops.size := (Array.getElem?_eq_some_iff.1 h2).1
   rw [getD_same (by omega) true false, hall j hjs] at h1
   cases h1
  have he : SPf l 0 (fun j => listed.getD j false) s = allX s l := by
   rw [← SPf_all (i := 0)]
   exact SPf_congr fun j hj => hall (0 + j) (by omega)
  rw [he] at h
  exact wpAny_done hr0 (ha _ _ _ _ _ _ hst h hps) fuel
 intro fuel
 induction fuel with
 | zero =>
  intro listed Pr φ a w hps hcnt hsz hcl h
  refine done 0 (fun j hj => ?_) hsz hps h
  cases hb : listed.getD j false with
  | true => rfl
  | false => have := cnt_pos (L := fun j => listed.getD j false) hb ops.size hj; omega
 | succ fuel ih =>
  intro listed Pr φ a w hps hcnt hsz hcl h
  by_cases hall : ∀ j, j < ops.size → listed.getD j false = true
  ·exact done _ hall hsz hps h
  ·have hex : ∃ j, j < ops.size ∧ listed.getD j false = false := by
    obtain ⟨j, hj⟩ := Classical.not_forall.1 hall
    obtain ⟨h1, h2⟩ := Classical.not_imp.1 hj
    exact ⟨j, h1, by simpa using h2⟩
   have hready : ∃ j, j ∈ Region.ready .any ops listed := by
    have key : ∀ n j, j ≤ n → j < ops.size → listed.getD j false = false → ∃ j, j ∈ Region.ready .any ops listed := by
     intro n
     induction n with
     | zero =>
      intro j hj hjm hl
      have hp : ops[j]? = some ops[j] := Array.getElem?_eq_getElem (by omega)
      refine ⟨j, mem_ready.2 ⟨by rw [getD_same (by omega) true false]; exact hl, _, hp, fun e he hb => ?_⟩⟩
      have := hok.back j _ hp e he hb
      omega
     | succ n ih' =>
      intro j hj hjm hl
      have hp : ops[j]? = some ops[j] := Array.getElem?_eq_getElem (by omega)
      by_cases hrd : ∀ e ∈ (ops[j]).after, Region.binds .any e = true → listed.getD e.on false = true
      ·exact ⟨j, mem_ready.2 ⟨by rw [getD_same (by omega) true false]; exact hl, _, hp, hrd⟩⟩
      ·obtain ⟨e, he⟩ := Classical.not_forall.1 hrd
       obtain ⟨h1, h2⟩ := Classical.not_imp.1 he
       obtain ⟨h3, h4⟩ := Classical.not_imp.1 h2
       have := hok.back j _ hp e h1 h3
       exact ih' e.on (by omega) (by omega) (by simpa using h4)
    obtain ⟨j, hj, hl⟩ := hex
    exact key j j (Nat.le_refl _) hj hl
   refine ⟨fun h0 => by obtain ⟨j, hj⟩ := hready; rw [h0] at hj; (cases hj), fun i hi => ?_⟩
   obtain ⟨hl1, pi, hpi, hdeps⟩ := mem_ready.1 hi
   have his : i < ops.size := (Array.getElem?_eq_some_iff.1 hpi).1
   rw [getD_same (by omega) true false] at hl1
   obtain ⟨io, x, hio, hx, hout⟩ := getl i his
   obtain ⟨io', hio', hco⟩ := mapM_get hcomp i pi (by rw [Array.getElem?_toList]; exact hpi)
   rw [hio] at hio'; cases hio'
   have hT := hr.keyOk hko i
   have hS : KeyOk (SPf l 0 (fun j => listed.getD j false) s) := h.keyOk
   have hkf := (hok.part i io hio).2
   have ord1 : ∀ j, ancB ops i j = true → listed.getD j false = true := fun j hj =>
    anc_listed (L := fun j => listed.getD j false) hcl i i j (Nat.le_refl _) hj fun o ho e he hb => by rw [hpi] at ho; cases ho; exact hdeps e he hb
   have ord2 : ∀ j, ancB ops j i = true → listed.getD j false = false := fun j hj => by
    cases hb : listed.getD j false with
    | false => rfl
    | true =>
     have := anc_listed (L := fun j => listed.getD j false) hcl j j i (Nat.le_refl _) hj fun o ho e he hb' => hcl j o hb ho e he hb'
     rw [hl1] at this; cases this
   have ltj : ∀ (j : Nat) (y : Option Nat × Eff2), l[j]? = some y → j < ops.size := fun j y hj => by have := (List.getElem?_eq_some_iff.1 hj).1; omega
   have lst : ∀ (j : Nat) (d' : Option Nat) (x' : Eff2), l[j]? = some (d', x') → ∃ oj, ios[j]? = some oj ∧ d' = oj.d ∧ Out2 P gl (TS s l j) oj x' := fun j d' x' hj => by
    obtain ⟨oj, x2, h1, h2, h3⟩ := getl j (ltj j _ hj)
    rw [hj] at h2; cases h2
    exact ⟨oj, h1, rfl, h3⟩
   have same : ∀ j, j ≠ i → (j < i → ancB ops i j = true) ∧ (¬ j < i → ancB ops j i = true) → listed.getD j false = decide (j < i) := fun j hj hd => by
    by_cases hlt : j < i
    ·rw [ord1 j (hd.1 hlt)]; simp [hlt]
    ·rw [ord2 j (hd.2 hlt)]; simp [hlt]
   have hev : ∀ y ∈ opsXG io, ev gl (SPf l 0 (fun j => listed.getD j false) s) y = ev gl (TS s l i) y := by
    intro y hy
    cases y with
    | t t =>
     show (SPf l 0 (fun j => listed.getD j false) s).e t = (SPf l 0 (fun j => decide (j < i)) s).e t
     refine SPf_e (fun j x' hj => ?_) rfl
     rw [Nat.zero_add]
     obtain ⟨oj, h1, h2, _⟩ := lst j _ x' hj
     by_cases e : j = i
     ·subst e; rw [hl1]; simp
     ·exact same j e (hok.dep i j io oj t hio h1 (fun q => e q.symm) h2.symm (List.mem_flatMap.2 ⟨.t t, hy, by simp [rdO]⟩))
    | v c => rfl
    | a cs => rfl
    | g n => rfl
    | f n => rfl
   have hevX : ∀ y ∈ opsX io.i, ev gl (SPf l 0 (fun j => listed.getD j false) s) y = ev gl (TS s l i) y := fun y hy => hev y (by simp [opsXG, hy])
   have uniq0 : ∀ (j j' : Nat) (d d' : Option Nat) (x x' : Eff2) (k : Nat), j < j' → l[j]? = some (d, x) → l[j']? = some (d', x') → k ∈ x.u → k ∈ x'.u → False := fun j j' d d' x x' k hjj hj hj' h1 h2 => by
    obtain ⟨oj', _, _, r3⟩ := lst j' d' x' hj'
    exact not_mem_of_elem (r3.ok.f k h2).2 (SPf_u.2 (.inr ⟨j, d, x, hj, by simpa using hjj, h1⟩))
   have uniq : ∀ (j j' : Nat) (d d' : Option Nat) (x x' : Eff2) (k : Nat), l[j]? = some (d, x) → l[j']? = some (d', x') → k ∈ x.u → k ∈ x'.u → j = j' := fun j j' d d' x x' k hj hj' h1 h2 => by
    rcases Nat.lt_trichotomy j j' with h | h | h
    ·exact (uniq0 j j' d d' x x' k h hj hj' h1 h2).elim
    ·exact h
    ·exact (uniq0 j' j d' d x' x k h hj' hj h2 h1).elim
   have inv : ∀ (j : Nat) (d' : Option Nat) (x' : Eff2) (k : Nat), l[j]? = some (d', x') → k ∈ x'.u → ∀ p : Nat → Bool, k ∈ (SPf l 0 p s).u → p j = true := fun j d' x' k hj hu p hp => by
    obtain ⟨oj, h1, h2, h3⟩ := lst j d' x' hj
    rcases SPf_u.1 hp with hp | ⟨j', d2, x2, q1, q2, q3⟩
    ·exact absurd (SPf_u.2 (.inl hp)) (not_mem_of_elem (h3.ok.f k hu).2)
    ·have := uniq j' j d2 d' x2 x' k q1 hj q3 hu
     subst this; simpa using q2
   have hagk0 : ∀ k ∈ rdL gl (TS s l i) io.i, k ∈ (SPf l 0 (fun j => listed.getD j false) s).u → (SPf l 0 (fun j => listed.getD j false) s).h k = (TS s l i).h k := by
    intro k hk hkS
    have hkT := rdL_u hT hkf hk
    show (SPf l 0 (fun j => listed.getD j false) s).h k = (SPf l 0 (fun j => decide (j < i)) s).h k
    refine SPf_h (fun j d' x' hj hx' => ?_) rfl
    rw [Nat.zero_add]
    obtain ⟨oj, h1, h2, h3⟩ := lst j d' x' hj
    by_cases e : j = i
    ·subst e; rw [hl1]; simp
    rcases h3.ok.n k hx' with hu | hu
    ·
     rw [inv j d' x' k hj hu _ hkS, inv j d' x' k hj hu _ hkT]
    ·refine same j e ⟨fun hlt => ?_, fun hlt => ?_⟩
     ·refine Classical.byContradiction fun hn => ?_
      have := ((hr.pair hio).2 j oj d' x' hlt h1 hj (by simpa using unB_of his hlt hn)).2
      exact disj_spec (disjE (disj_left this)).1 (List.mem_append_left _ hu) hk
     ·refine Classical.byContradiction fun hn => ?_
      have := ((hr.pair h1).2 i io _ _ (by omega) hio hx (by simpa using unB_of (ltj j _ hj) (by omega) hn)).1
      exact disj_spec (disjE this).1 (List.mem_append_left _ hu) hk
   have hagk : ∀ k ∈ rdL gl (TS s l i) io.i, (SPf l 0 (fun j => listed.getD j false) s).h k = (TS s l i).h k := by
    intro k hk
    have nmS : ∀ k ∈ nmL gl (TS s l i) io.i, k ∈ (SPf l 0 (fun j => listed.getD j false) s).u := fun k hk => nmL_u hS hkf (by rw [nmL_congr hevX]; exact hk)
    refine hagk0 k hk ?_
    rcases rdL_cases hk with h1 | ⟨k0, b, h1, h2, h3, h4⟩
    ·exact nmS k h1
    ·exact hS.2 k0 b (by rw [hagk0 k0 h2 (nmS k0 h1)]; exact h3) k h4
   have halive : ∀ k ∈ nmL gl (TS s l i) io.i, (TS s l i).h k ≠ none → (SPf l 0 (fun j => listed.getD j false) s).h k ≠ none := by
    intro k hk hne
    have hkT := nmL_u hT hkf hk
    have hkS : k ∈ (SPf l 0 (fun j => listed.getD j false) s).u := nmL_u hS hkf (by rw [nmL_congr hevX]; exact hk)
    refine SPf_alive (q := fun j => decide (j < i)) (s := s) (fun j d' x' hj hx' => ?_) (fun j d' x' b hj hq hx' => ?_) (fun q => q) hne
    ·rw [Nat.zero_add]
     obtain ⟨oj, h1, h2, h3⟩ := lst j d' x' hj
     by_cases e : j = i
     ·subst e; rw [hl1]; simp
     have hdisj : k ∈ x'.u ∨ k ∈ kcK gl (TS s l j) oj.i := hx'.elim (fun q => (h3.ok.c k q).symm) .inl
     rcases hdisj with hu | hu
     ·rw [inv j d' x' k hj hu _ hkS, inv j d' x' k hj hu _ hkT]
     ·refine same j e ⟨fun hlt => ?_, fun hlt => ?_⟩
      ·refine Classical.byContradiction fun hn => ?_
       have := ((hr.pair hio).2 j oj d' x' hlt h1 hj (by simpa using unB_of his hlt hn)).2
       exact disj_spec (disjE (disj_left this)).2 (List.mem_append_left _ hu) hk
      ·refine Classical.byContradiction fun hn => ?_
       have := ((hr.pair h1).2 i io _ _ (by omega) hio hx (by simpa using unB_of (ltj j _ hj) (by omega) hn)).1
       exact disj_spec (disjE this).2 (List.mem_append_left _ hu) hk
    ·obtain ⟨oj, h1, h2, h3⟩ := lst j d' x' hj
     rw [Nat.zero_add, decide_eq_true_eq] at hq
     refine (h3.ok.s k b hx').imp id fun hh => ?_
     rw [SPf_take (fun m hm => by simp; omega)]
     simpa only [TS, Nat.zero_add] using hh
   have hfresh : ∀ t, io.d = some t → (TS s l i).u.elem t = false → (SPf l 0 (fun j => listed.getD j false) s).u.elem t = false := by
    intro t ht hf
    cases hb : (SPf l 0 (fun j => listed.getD j false) s).u.elem t with
    | false => rfl
    | true =>
     exfalso
     rcases SPf_u.1 (List.mem_of_elem_eq_true hb) with hp | ⟨j', d2, x2, q1, q2, q3⟩
     ·exact not_mem_of_elem hf (SPf_u.2 (.inl hp))
     ·obtain ⟨oj', r1, r2, r3⟩ := lst j' d2 x2 q1
      by_cases e' : j' = i
      ·subst e'; rw [Nat.zero_add, hl1] at q2; cases q2
      ·rcases (r3.ok.f t q3).1 with r4 | r4
       ·exact absurd (r2 ▸ r4) (hok.dist j' i oj' io t r1 hio e' ht)
       ·have := hok.small i io t hio ht; omega
   have hfreshU : ∀ k ∈ x.u, (SPf l 0 (fun j => listed.getD j false) s).u.elem k = false := by
    intro k hk
    cases hb : (SPf l 0 (fun j => listed.getD j false) s).u.elem k with
    | false => rfl
    | true =>
     have := inv i _ x k hx hk _ (List.mem_of_elem_eq_true hb)
     rw [hl1] at this; cases this
   obtain ⟨hs1, hs2, hstep⟩ := hout.p
   have hst' := hstep _ hagk halive hev hfresh hfreshU (fun _ s' => s' = (SPf l 0 (fun j => listed.getD j false) s).eff2 io.d x) rfl
   have hL' : ∀ j, (listed.setIfInBounds i true).getD j false = (listed.getD j false || j == i) := fun j => getD_set (by omega)
   have hfin := opX_sound (Q := Q) (next := wpAny P .any ops Q fuel (listed.setIfInBounds i true)) hco h hst' (by
    intro hs' s' Pr' φ' a' w' he hsim hps'
    subst he
    refine ih (φ := φ') (hps.trans hps') ?_ (by simp [hsz]) (fun j pj hjl hpj e he hb => ?_) ?_
    ·have := cnt_set (L := fun j => listed.getD j false) (L' := fun j => (listed.setIfInBounds i true).getD j false) hL' hl1 ops.size his
     omega
    ·rw [hL'] at hjl ⊢
     rw [Bool.or_eq_true] at hjl ⊢
     rcases hjl with hjl | hjl
     ·exact .inl (hcl j pj hjl hpj e he hb)
     ·simp only [beq_iff_eq] at hjl
      subst hjl
      rw [hpi] at hpj; cases hpj
      exact .inl (hdeps e he hb)
    ·have heq := SPf_step (s := s) (p := fun j => listed.getD j false) (q := fun j => (listed.setIfInBounds i true).getD j false) hx hl1 hL'
      (fun j d' x' t hj hjl hd1 hd2 => by
       obtain ⟨oj, r1, r2, _⟩ := lst j d' x' hjl
       exact absurd hd1 (hok.dist i j io oj t hio r1 (by omega) (by rw [← r2]; exact hd2)))
      (fun j d' x' k hj hjl hk1 hk2 => by
       obtain ⟨oj, r1, r2, r3⟩ := lst j d' x' hjl
       refine ord2 j (Classical.byContradiction fun hn => ?_)
       have hp := (hr.pair r1).2 i io _ _ hj hio hx (by simpa using unB_of (ltj j _ hjl) hj hn)
       rcases hout.ok.n k hk1 with q | q
       ·rcases r3.ok.n k hk2 with q' | q'
        ·have := uniq i j _ _ x x' k hx hjl q q'; omega
        ·exact disj_spec hp.2 (List.mem_append_right _ (newU_mem q).1) (List.mem_append_left _ (List.mem_map.2 ⟨k, upd_rd q', rfl⟩))
       ·rcases r3.ok.n k hk2 with q' | q'
        ·have hk3 : k ∈ (TS s l i).u := rdL_u hT hkf (upd_rd q)
         have hk4 : k ∈ (TS s l j).u := by
          rcases SPf_u.1 hk3 with h5 | ⟨j', d2, x2, q1, q2, q3⟩
          ·exact SPf_u.2 (.inl h5)
          ·refine SPf_u.2 (.inr ⟨j', d2, x2, q1, ?_, q3⟩)
           simp only [decide_eq_true_eq] at q2 ⊢
           omega
         exact not_mem_of_elem (r3.ok.f k q').2 hk4
        ·exact disj_spec (disjE hp.1).1 (List.mem_append_left _ q') (upd_rd q))
     exact hsim.same heq.e heq.h (fun k => (heq.u k).1))
   unfold wpOp
   rw [hpi]
   show if Region.wanted pi (yielded ops a.tmps) = true then _ else _
   split
   ·rename_i hw; rw [if_pos hw] at hfin; exact .inl hfin
   ·rename_i hw; rw [if_neg hw] at hfin; exact hfin
end
section
variable {P : Program} {gl : Nat → Option (List AC)} {N : Nat} {w0 : Wk} {Pr : PrT} {φ : Nat → Option (Option Nat)} {s : St} {a : Act} {w : World}
 {hs : List Hint} {K : List Hint → St → Prop} {Q : Exit → Act → World → Prop}
theorem regX_sound {id : Nat} {ops : Array Oper} {ios : List IOp} (hok : okDraw2 ops ios = true) (hmx : P.follows .mixedOrders = true) (hcomp : ops.toList.mapM (compO P N ops) = some ios)
  (hst : SegX P gl (unP ops) [] ios hs s K) (h : Sim gl N w0 Pr φ s a w) (ha : After gl N w0 Pr K (fun a w => Q .normal a w)) : (Code.region id ops true).wp P Q a w := by
 have hk := okDraw2_spec hok
 obtain ⟨l, hs', hr, hst'⟩ := segX_run ios (fun o ho => by
  obtain ⟨i, hi⟩ := List.mem_iff_getElem?.1 ho
  exact hk.part i o hi) h.keyOk hst
 refine wp_region_any hmx ?_
 have hd : Sim gl N w0 Pr φ s a { w with drawn := w.drawn + 1 } := h.drew
 have hfalse : ∀ j, (Array.replicate ops.size false).getD j false = false := fun j => by
  by_cases e : j < ops.size <;> simp [Array.getD, e]
 refine drw_sound hk hcomp hr h.keyOk hst' ha ops.size (φ := φ) (PrS.refl _ _) ?_ (by simp) (fun j pj hj => by rw [hfalse] at hj; cases hj) ?_
 ·have hc : ∀ (L : Nat → Bool), (∀ j, L j = false) → ∀ n, cnt L n = n := by
   intro L hL n
   induction n with
   | zero => rfl
   | succ n ih => simp [cnt, ih, hL]
  rw [hc _ hfalse]; exact Nat.le_refl _
 ·have : SPf l 0 (fun j => (Array.replicate ops.size false).getD j false) s = s := by
   have e : (fun j => (Array.replicate ops.size false).getD j false) = fun _ => false := funext hfalse
   rw [e, SPf_nil]
  rw [this]; exact hd
end
end Go.Proofs.YtjlabdoeiphegaaGreatDoor.Ab
