/- An abstract walk through a function's code: cells, instructions, their soundness (first part); no condition. -/
import Derived.Orders
import Derived.Below
import Derived.KernelRfl
import Derived.Laws.Sem
import Derived.WalkKit
import Derived.Laws.CopyOwn
import Derived.Laws.StructEq
set_option linter.unusedVariables false
set_option linter.unusedSimpArgs false
namespace Go.Proofs.YtfmeidhialmckaaGreatDoor.Ab
open Go Go.RowKit

/-- An abstract cell: a scalar, a row of data that nobody writes, a row or a variable of the call's own (by its key), an address of data, a function value. -/
inductive AC where
  | int (k : IntKind) (n : Int)
  | bool (b : Bool)
  | str (s : List UInt8)
  | nil
  | raw (v : Value)
  | sl (wd n : Nat) (f : Nat → List AC)
  | pd (cs : List AC) (i : Nat)
  | own (k wd off len : Nat)
  | pk (k i : Nat)
  | pa (k wd i off : Nat)
  | clo (f : FuncId) (cap : List AC)

inductive AV where
  | c (x : AC)
  | agg (xs : List AC)
  | tup (xs : List (Bool × List AC))

/-- What an abstract cell says of a value: data alone. Pr: the blocks that nobody writes. -/
inductive DR (Pr : Nat → Prop) (w : World) : AC → Value → Prop where
  | int (k n) : DR Pr w (.int k n) (.int k n)
  | bool (b) : DR Pr w (.bool b) (.bool b)
  | str (s) : DR Pr w (.str s) (.string ⟨s.toArray⟩)
  | nil : DR Pr w .nil (.slice none 0 0)
  | nilIface : DR Pr w (.raw .nilIface) .nilIface
  | nilFunc : DR Pr w (.raw .nilFunc) .nilFunc
  | nilPtr : DR Pr w (.raw (.pointer none)) (.pointer none)
  | slN (wd f) : DR Pr w (.sl wd 0 f) (.slice none 0 0)
  | sl (wd n f) (a : Addr) (cap : Nat) (g : Nat → Nat → Value) (hn : n ≤ cap) (hc : cap ≤ maxLen) (hl : ∀ i, i < n → (f i).length = wd)
      (hr : ∀ i j c, i < n → (f i)[j]? = some c → Pr a.block ∧ w.cell? (a.add (i * wd + j)) = some (g i j))
      (hd : ∀ i j c, i < n → (f i)[j]? = some c → DR Pr w c (g i j)) : DR Pr w (.sl wd n f) (.slice (some a) n cap)
  | pd (cs i) (a : Addr) (g : Nat → Value) (hr : ∀ j c, cs[i + j]? = some c → Pr a.block ∧ w.cell? (a.add j) = some (g j))
      (hd : ∀ j c, cs[i + j]? = some c → DR Pr w c (g j)) : DR Pr w (.pd cs i) (.pointer (some a))
  | clo (f cap) (g : Nat → Value) (hd : ∀ j c, cap[j]? = some c → DR Pr w c (g j)) :
      DR Pr w (.clo f cap) (.func (.func f) #[] ((List.range cap.length).map g).toArray)

theorem DR.mono {Pr Pr' : Nat → Prop} {w w' : World} {c : AC} {v : Value} (h : DR Pr w c v) (hp : ∀ b, Pr b → Pr' b)
    (hw : ∀ b, Pr b → w'.heap[b]? = w.heap[b]?) : DR Pr' w' c v := by
  induction h with
  | int k n => exact .int k n
  | bool b => exact .bool b
  | str s => exact .str s
  | nil => exact .nil
  | nilIface => exact .nilIface
  | nilFunc => exact .nilFunc
  | nilPtr => exact .nilPtr
  | slN wd f => exact .slN wd f
  | sl wd n f a cap g hn hc hl hr hd ih =>
    refine .sl wd n f a cap g hn hc hl (fun i j c hi hj => ⟨hp _ (hr i j c hi hj).1, ?_⟩) ih
    have hb : (a.add (i * wd + j)).block = a.block := by unfold Addr.add; split <;> rfl
    rw [World.cell?_of_block (w := w) (by rw [hb]; exact hw _ (hr i j c hi hj).1)]
    exact (hr i j c hi hj).2
  | pd cs i a g hr hd ih =>
    refine .pd cs i a g (fun j c hj => ⟨hp _ (hr j c hj).1, ?_⟩) ih
    have hb : (a.add j).block = a.block := by unfold Addr.add; split <;> rfl
    rw [World.cell?_of_block (w := w) (by rw [hb]; exact hw _ (hr j c hj).1)]
    exact (hr j c hj).2
  | clo f cap g hd ih => exact .clo f cap g ih

theorem nbf {t d : Nat} (h : ¬ t = d) : Nat.beq t d = false := by
  cases hb : Nat.beq t d with
  | false => rfl
  | true => exact absurd (Nat.eq_of_beq_eq_true hb) h
theorem nbt (t : Nat) : Nat.beq t t = true := Nat.beq_refl t

theorem DR.one {Pr : Nat → Prop} {w : World} {c : AC} {v : Value} (h : DR Pr w c v) : v.oneCell' = true := by
  cases h <;> rfl

/-- A block of the call's own: a variable's cells, or a row: n elements of wd cells; fz: it is written no more. -/
inductive Blk where
  | var (cs : List AC) (fz : Bool)
  | arr (wd n : Nat) (f : Nat → List AC) (fz : Bool)

def bsize (w : World) (b : Nat) : Nat := match w.heap[b]? with | some (.cells arr _ _) => arr.size | _ => 0

/-- The keys that a cell mentions. -/
def AC.keys0 : AC → List Nat
  | .own k .. | .pk k _ | .pa k .. => [k]
  | _ => []
def AC.keys : AC → List Nat
  | .clo _ cap => cap.flatMap AC.keys0
  | c => c.keys0
def AV.keys : AV → List Nat
  | .c x => x.keys
  | .agg xs => xs.flatMap AC.keys
  | .tup xs => xs.flatMap fun p => p.2.flatMap AC.keys
def Blk.keys : Blk → List Nat
  | .var cs _ => cs.flatMap AC.keys
  | .arr .. => []
def Blk.fz : Blk → Bool
  | .var _ z => z
  | .arr _ _ _ z => z

/-- A cell that is no function value: data, or an address of the call's own. φ: where a key's block lies (some none: a nil slice). -/
def KR0 (Pr : Nat → Prop) (φ : Nat → Option (Option Nat)) (w : World) : AC → Value → Prop
  | .own k wd off len, v => v.oneCell' = true ∧ ∀ p, φ k = some p → match p with
    | none => v = .slice none 0 0 ∧ len = 0 ∧ off = 0
    | some b => ∃ cap, v = .slice (some ⟨b, off * wd, none⟩) len cap ∧ len ≤ cap ∧ (off + cap) * wd ≤ bsize w b
  | .pk k i, v => v.oneCell' = true ∧ ∀ p, φ k = some p → ∃ b, p = some b ∧ v = .pointer (some ⟨b, i, none⟩)
  | .pa k wd i off, v => v.oneCell' = true ∧ ∀ p, φ k = some p → ∃ b, p = some b ∧ v = .pointer (some ⟨b, i * wd + off, none⟩)
  | c, v => DR Pr w c v

def KR (Pr : Nat → Prop) (φ : Nat → Option (Option Nat)) (w : World) : AC → Value → Prop
  | .clo f cap, v => ∃ g : Nat → Value, v = .func (.func f) #[] ((List.range cap.length).map g).toArray ∧ ∀ (j : Nat) (c : AC), cap[j]? = some c → KR0 Pr φ w c (g j)
  | c, v => KR0 Pr φ w c v

theorem KR0.of_dr {Pr : Nat → Prop} {φ : Nat → Option (Option Nat)} {w : World} {c : AC} {v : Value} (h : DR Pr w c v) : KR0 Pr φ w c v ∧ c.keys0 = [] := by
  cases h <;> exact ⟨by first | (exact DR.int ..) | (exact DR.bool ..) | (exact DR.str ..) | (exact DR.nil) | (exact DR.nilIface) | (exact DR.nilFunc) | (exact DR.nilPtr) | (exact DR.slN ..) | (exact DR.sl _ _ _ _ _ _ ‹_› ‹_› ‹_› ‹_› ‹_›) | (exact DR.pd _ _ _ _ ‹_› ‹_›) | (exact DR.clo _ _ _ ‹_›), rfl⟩

theorem KR.of_dr {Pr : Nat → Prop} {φ : Nat → Option (Option Nat)} {w : World} {c : AC} {v : Value} (h : DR Pr w c v) : KR Pr φ w c v ∧ c.keys = [] := by
  cases h with
  | clo f cap g hd =>
    refine ⟨⟨g, rfl, fun j c hj => (KR0.of_dr (hd j c hj)).1⟩, ?_⟩
    show cap.flatMap AC.keys0 = []
    rw [List.flatMap_eq_nil_iff]
    intro c hc
    obtain ⟨j, hj⟩ := List.mem_iff_getElem?.1 hc
    exact (KR0.of_dr (φ := φ) (hd j c hj)).2
  | int k n => exact ⟨(KR0.of_dr (φ := φ) (.int k n)).1, rfl⟩
  | bool b => exact ⟨(KR0.of_dr (φ := φ) (.bool b)).1, rfl⟩
  | str s => exact ⟨(KR0.of_dr (φ := φ) (.str s)).1, rfl⟩
  | nil => exact ⟨(KR0.of_dr (φ := φ) .nil).1, rfl⟩
  | nilIface => exact ⟨(KR0.of_dr (φ := φ) .nilIface).1, rfl⟩
  | nilFunc => exact ⟨(KR0.of_dr (φ := φ) .nilFunc).1, rfl⟩
  | nilPtr => exact ⟨(KR0.of_dr (φ := φ) .nilPtr).1, rfl⟩
  | slN wd f => exact ⟨(KR0.of_dr (φ := φ) (.slN wd f)).1, rfl⟩
  | sl wd n f a cap g hn hc hl hr hd => exact ⟨(KR0.of_dr (φ := φ) (.sl wd n f a cap g hn hc hl hr hd)).1, rfl⟩
  | pd cs i a g hr hd => exact ⟨(KR0.of_dr (φ := φ) (.pd cs i a g hr hd)).1, rfl⟩

theorem KR0.mono {Pr Pr' : Nat → Prop} {φ φ' : Nat → Option (Option Nat)} {w w' : World} {c : AC} {v : Value} (h : KR0 Pr φ w c v)
    (hp : ∀ b, Pr b → Pr' b) (hw : ∀ b, Pr b → w'.heap[b]? = w.heap[b]?) (hf : ∀ k ∈ c.keys0, ∀ p, φ' k = some p → φ k = some p)
    (hs : ∀ k b, φ k = some (some b) → bsize w' b = bsize w b) : KR0 Pr' φ' w' c v := by
  cases c with
  | own k wd off len =>
    refine ⟨h.1, fun p hp' => ?_⟩
    have hk := hf k (by simp [AC.keys0]) p hp'
    have h' := h.2 p hk
    cases p with
    | none => exact h'
    | some b => obtain ⟨cap, h1, h2, h3⟩ := h'; exact ⟨cap, h1, h2, by rw [hs k b hk]; exact h3⟩
  | pk k i => exact ⟨h.1, fun p hp' => h.2 p (hf k (by simp [AC.keys0]) p hp')⟩
  | pa k wd i off => exact ⟨h.1, fun p hp' => h.2 p (hf k (by simp [AC.keys0]) p hp')⟩
  | _ => exact DR.mono h hp hw

theorem KR.mono {Pr Pr' : Nat → Prop} {φ φ' : Nat → Option (Option Nat)} {w w' : World} {c : AC} {v : Value} (h : KR Pr φ w c v)
    (hp : ∀ b, Pr b → Pr' b) (hw : ∀ b, Pr b → w'.heap[b]? = w.heap[b]?) (hf : ∀ k ∈ c.keys, ∀ p, φ' k = some p → φ k = some p)
    (hs : ∀ k b, φ k = some (some b) → bsize w' b = bsize w b) : KR Pr' φ' w' c v := by
  cases c with
  | clo f cap =>
    obtain ⟨g, h1, h2⟩ := h
    refine ⟨g, h1, fun j c hj => (h2 j c hj).mono hp hw (fun k hk => hf k ?_) hs⟩
    exact List.mem_flatMap.2 ⟨c, List.mem_of_getElem? hj, hk⟩
  | own k wd off len => exact KR0.mono (c := .own k wd off len) h hp hw hf hs
  | pk k i => exact KR0.mono (c := .pk k i) h hp hw hf hs
  | pa k wd i off => exact KR0.mono (c := .pa k wd i off) h hp hw hf hs
  | int k n => exact DR.mono h hp hw
  | bool b => exact DR.mono h hp hw
  | str s => exact DR.mono h hp hw
  | nil => exact DR.mono h hp hw
  | raw v => exact DR.mono h hp hw
  | sl wd n f => exact DR.mono h hp hw
  | pd cs i => exact DR.mono h hp hw

theorem KR.one {Pr : Nat → Prop} {φ : Nat → Option (Option Nat)} {w : World} {c : AC} {v : Value} (h : KR Pr φ w c v) : v.oneCell' = true := by
  cases c with
  | clo f cap => obtain ⟨g, h1, h2⟩ := h; subst h1; rfl
  | own k wd off len => exact h.1
  | pk k i => exact h.1
  | pa k wd i off => exact h.1
  | int k n => exact DR.one h
  | bool b => exact DR.one h
  | str s => exact DR.one h
  | nil => exact DR.one h
  | raw v => exact DR.one h
  | sl wd n f => exact DR.one h
  | pd cs i => exact DR.one h

def cellsR (R : AC → Value → Prop) (xs : List AC) (vs : List Value) : Prop := vs.length = xs.length ∧ ∀ (i : Nat) (c : AC) (v : Value), xs[i]? = some c → vs[i]? = some v → R c v

theorem cellsR.mono {R R' : AC → Value → Prop} {xs : List AC} {vs : List Value} (h : cellsR R xs vs) (hr : ∀ c ∈ xs, ∀ v, R c v → R' c v) : cellsR R' xs vs :=
  ⟨h.1, fun i c v hc hv => hr c (List.mem_of_getElem? hc) v (h.2 i c v hc hv)⟩

theorem cellsR.get {R : AC → Value → Prop} {xs : List AC} {vs : List Value} (h : cellsR R xs vs) {i : Nat} {c : AC} (hc : xs[i]? = some c) : ∃ v, vs[i]? = some v ∧ R c v := by
  have hlt : i < xs.length := (List.getElem?_eq_some_iff.1 hc).1
  have hlt' : i < vs.length := by rw [h.1]; exact hlt
  exact ⟨vs[i], List.getElem?_eq_getElem hlt', h.2 i c _ hc (List.getElem?_eq_getElem hlt')⟩

def VP (R : AC → Value → Prop) : Bool × List AC → Value → Prop
  | (false, [x]), v => R x v
  | (true, xs), v => ∃ vs : List Value, v = .agg vs.toArray ∧ cellsR R xs vs
  | _, _ => False

def VR (R : AC → Value → Prop) : AV → Value → Prop
  | .c x, v => R x v
  | .agg xs, v => ∃ vs : List Value, v = .agg vs.toArray ∧ cellsR R xs vs
  | .tup xs, v => ∃ g : Nat → Value, v = .tuple ((List.range xs.length).map g).toArray ∧ ∀ (i : Nat) p, xs[i]? = some p → VP R p (g i)

theorem VP.mono {R R' : AC → Value → Prop} {p : Bool × List AC} {v : Value} (h : VP R p v) (hr : ∀ c ∈ p.2, ∀ v, R c v → R' c v) : VP R' p v := by
  obtain ⟨b, xs⟩ := p
  cases b with
  | false =>
    match xs, h with
    | [x], h => exact hr x (by simp) v h
  | true => obtain ⟨vs, h1, h2⟩ := h; exact ⟨vs, h1, h2.mono hr⟩

def AV.cells : AV → List AC
  | .c x => [x]
  | .agg xs => xs
  | .tup xs => xs.flatMap (·.2)

theorem AV.keys_eq (v : AV) : v.keys = v.cells.flatMap AC.keys := by
  cases v with
  | c x => simp [AV.keys, AV.cells]
  | agg xs => rfl
  | tup xs => simp [AV.keys, AV.cells, List.flatMap_assoc]

theorem VR.mono {R R' : AC → Value → Prop} {x : AV} {v : Value} (h : VR R x v) (hr : ∀ c ∈ x.cells, ∀ v, R c v → R' c v) : VR R' x v := by
  cases x with
  | c x => exact hr x (by simp [AV.cells]) v h
  | agg xs => obtain ⟨vs, h1, h2⟩ := h; exact ⟨vs, h1, h2.mono hr⟩
  | tup xs =>
    obtain ⟨g, h1, h2⟩ := h
    exact ⟨g, h1, fun i p hp => (h2 i p hp).mono fun c hc => hr c (List.mem_flatMap.2 ⟨p, List.mem_of_getElem? hp, hc⟩)⟩

def BR (Pr : Nat → Prop) (φ : Nat → Option (Option Nat)) (w : World) (p : Option Nat) : Blk → Prop
  | .var cs _ => ∃ b arr T, p = some b ∧ w.heap[b]? = some (.cells arr T (0, 0)) ∧ cellsR (KR Pr φ w) cs arr.toList
  | .arr wd n f _ => 0 < wd ∧ ((p = none ∧ n = 0) ∨ ∃ b arr T, p = some b ∧ w.heap[b]? = some (.cells arr T (0, 0)) ∧ n * wd ≤ arr.size ∧ arr.size ≤ maxLen * wd ∧
      ∀ i, i < n → (f i).length = wd ∧ ∀ (j : Nat) (c : AC), (f i)[j]? = some c → ∃ v, arr[i * wd + j]? = some v ∧ DR Pr w c v)

structure St where
  e : Nat → Option AV
  h : Nat → Option Blk
  u : List Nat

structure Sim (gl : Nat → Option (List AC)) (N : Nat) (w0 : World) (Pr : Nat → Prop) (φ : Nat → Option (Option Nat)) (s : St) (a : Act) (w : World) : Prop where
  sz : a.tmps.size = N
  tm : ∀ t v, s.e t = some v → ∃ x, a.tmps[t]? = some x ∧ VR (KR Pr φ w) v x
  hp : ∀ k blk, s.h k = some blk → ∃ p, φ k = some p ∧ BR Pr φ w p blk
  lv : ∀ k, s.h k = none → φ k = none
  inj : ∀ k k' b, φ k = some (some b) → φ k' = some (some b) → k = k'
  ow : ∀ k b blk, s.h k = some blk → φ k = some (some b) → w0.heap.size ≤ b ∧ (Pr b ↔ blk.fz = true)
  ku : ∀ k, s.h k ≠ none → k ∈ s.u
  ke : ∀ t v, s.e t = some v → ∀ k ∈ v.keys, k ∈ s.u
  kh : ∀ k blk, s.h k = some blk → ∀ k' ∈ blk.keys, k' ∈ s.u
  pr : ∀ b, Pr b → b < w.heap.size
  gk : ∀ g cs, gl g = some cs → DR Pr w (.pd cs 0) (.pointer (some ⟨g, 0, none⟩))
  df : a.defers = []
  bl : Below w0.heap.size w0 w

def PrS (w0 : World) (Pr Pr' : Nat → Prop) : Prop := ∀ b, (Pr b → Pr' b) ∧ (Pr' b → Pr b ∨ w0.heap.size ≤ b)
theorem PrS.refl (w0 : World) (Pr : Nat → Prop) : PrS w0 Pr Pr := fun b => ⟨id, .inl⟩
theorem PrS.trans {w0 : World} {A B C : Nat → Prop} (h : PrS w0 A B) (k : PrS w0 B C) : PrS w0 A C :=
  fun b => ⟨fun x => (k b).1 ((h b).1 x), fun x => ((k b).2 x).elim (fun y => (h b).2 y) .inr⟩

section
variable {gl : Nat → Option (List AC)} {N : Nat} {w0 : World} {Pr : Nat → Prop} {φ : Nat → Option (Option Nat)} {s : St} {a : Act} {w : World}

theorem Sim.alive (h : Sim gl N w0 Pr φ s a w) {k b : Nat} (hk : φ k = some (some b)) : ∃ arr T, w.heap[b]? = some (.cells arr T (0, 0)) := by
  cases hh : s.h k with
  | none => rw [h.lv k hh] at hk; cases hk
  | some blk =>
    obtain ⟨p, hp, hb⟩ := h.hp k blk hh
    rw [hk] at hp; cases hp
    cases blk with
    | var cs z => obtain ⟨b', arr, T, h1, h2, _⟩ := hb; cases h1; exact ⟨arr, T, h2⟩
    | arr wd n f z =>
      obtain ⟨_, h1 | ⟨b', arr, T, h1, h2, _⟩⟩ := hb
      · cases h1.1
      · cases h1; exact ⟨arr, T, h2⟩

theorem Sim.lt (h : Sim gl N w0 Pr φ s a w) {k b : Nat} (hk : φ k = some (some b)) : b < w.heap.size := by
  obtain ⟨arr, T, hh⟩ := h.alive hk
  rcases Nat.lt_or_ge b w.heap.size with h1 | h1
  · exact h1
  · rw [Array.getElem?_eq_none h1] at hh; cases hh

/-- The world has grown, nothing that was there has turned; more is kept from writing. -/
theorem Sim.grow (h : Sim gl N w0 Pr φ s a w) {w' : World} {Pr' : Nat → Prop} (hb : Below w.heap.size w w') (hp : ∀ b, Pr b → Pr' b)
    (hq : ∀ b, Pr' b → b < w'.heap.size ∧ (b < w.heap.size → Pr b)) : Sim gl N w0 Pr' φ s a w' := by
  have hw : ∀ b, Pr b → w'.heap[b]? = w.heap[b]? := fun b hb' => hb.block b (h.pr b hb')
  have hs : ∀ k b, φ k = some (some b) → bsize w' b = bsize w b := fun k b hk => by unfold bsize; rw [hb.block b (h.lt hk)]
  have hkr : ∀ c v, KR Pr φ w c v → KR Pr' φ w' c v := fun c v hc => hc.mono hp hw (fun _ _ _ h => h) hs
  refine ⟨h.sz, fun t v ht => ?_, fun k blk hk => ?_, h.lv, h.inj, fun k b blk hk hf => ?_, h.ku, h.ke, h.kh, fun b hb' => (hq b hb').1, fun g cs hg => (h.gk g cs hg).mono hp hw, h.df, ?_⟩
  · obtain ⟨x, h1, h2⟩ := h.tm t v ht
    exact ⟨x, h1, h2.mono fun c _ v => hkr c v⟩
  · obtain ⟨p, h1, h2⟩ := h.hp k blk hk
    refine ⟨p, h1, ?_⟩
    cases blk with
    | var cs z =>
      obtain ⟨b, arr, T, h3, h4, h5⟩ := h2
      subst h3
      exact ⟨b, arr, T, rfl, by rw [hb.block b (h.lt h1)]; exact h4, h5.mono fun c _ v => hkr c v⟩
    | arr wd n f z =>
      obtain ⟨h0, h3 | ⟨b, arr, T, h3, h4, h5, h5', h6⟩⟩ := h2
      · exact ⟨h0, .inl h3⟩
      · subst h3
        refine ⟨h0, .inr ⟨b, arr, T, rfl, by rw [hb.block b (h.lt h1)]; exact h4, h5, h5', fun i hi => ⟨(h6 i hi).1, fun j c hj => ?_⟩⟩⟩
        obtain ⟨v, h7, h8⟩ := (h6 i hi).2 j c hj
        exact ⟨v, h7, h8.mono hp hw⟩
  · refine ⟨(h.ow k b blk hk hf).1, fun hb' => (h.ow k b blk hk hf).2.1 ((hq b hb').2 (h.lt hf)), fun hz => hp b ((h.ow k b blk hk hf).2.2 hz)⟩
  · exact h.bl.trans (hb.mono h.bl.size)

/-- A temporary takes a value. -/
theorem Sim.put (h : Sim gl N w0 Pr φ s a w) {d : Nat} {v : AV} {x : Value} (hd : d < N) (hv : VR (KR Pr φ w) v x) (hk : ∀ k ∈ v.keys, k ∈ s.u) :
    Sim gl N w0 Pr φ { s with e := fun t => bif Nat.beq t d then some v else s.e t } (a.put (some d) x) w := by
  have hsz := h.sz
  refine ⟨by simpa [Act.put] using h.sz, fun t u ht => ?_, h.hp, h.lv, h.inj, h.ow, h.ku, fun t u ht => ?_, h.kh, h.pr, h.gk, by simpa [Act.put] using h.df, h.bl⟩
  · by_cases e : t = d
    · subst e
      simp [nbt] at ht
      subst ht
      exact ⟨x, by simp only [Act.put]; exact Array.getElem?_setIfInBounds_self_of_lt (by omega), hv⟩
    · have e' : Nat.beq t d = false := nbf e
      simp [e'] at ht
      obtain ⟨y, h1, h2⟩ := h.tm t u ht
      exact ⟨y, by simp [Act.put]; rw [Array.getElem?_setIfInBounds_ne (fun e2 => e e2.symm)]; exact h1, h2⟩
  · by_cases e : t = d
    · subst e
      simp [nbt] at ht
      subst ht
      exact hk
    · have e' : Nat.beq t d = false := nbf e
      simp [e'] at ht
      exact h.ke t u ht

/-- A temporary of which nothing is known any more. -/
theorem Sim.del (h : Sim gl N w0 Pr φ s a w) (d : Option Nat) (x : Value) :
    Sim gl N w0 Pr φ { s with e := fun t => match d with | some d => bif Nat.beq t d then none else s.e t | none => s.e t } (a.put d x) w := by
  cases d with
  | none => exact h
  | some d =>
    refine ⟨by simpa [Act.put] using h.sz, fun t u ht => ?_, h.hp, h.lv, h.inj, h.ow, h.ku, fun t u ht => ?_, h.kh, h.pr, h.gk, by simpa [Act.put] using h.df, h.bl⟩
    · by_cases e : t = d
      · subst e; simp [nbt] at ht
      · have e' : Nat.beq t d = false := nbf e
        simp [e'] at ht
        obtain ⟨y, h1, h2⟩ := h.tm t u ht
        exact ⟨y, by simp [Act.put]; rw [Array.getElem?_setIfInBounds_ne (fun e2 => e e2.symm)]; exact h1, h2⟩
    · by_cases e : t = d
      · subst e; simp [nbt] at ht
      · have e' : Nat.beq t d = false := nbf e
        simp [e'] at ht
        exact h.ke t u ht
end
end Go.Proofs.YtfmeidhialmckaaGreatDoor.Ab

namespace Go.Proofs.YtfmeidhialmckaaGreatDoor.Ab
open Go Go.RowKit

inductive Opd where
  | t (n : Nat)
  | v (c : AC)
  | a (cs : List AC)
  | g (n : Nat)
  | f (n : FuncId)

inductive Ins where
  | mv (x : Opd)
  | pick (c a b : Opd)
  | bin (op : BinOp) (x y : Opd)
  | bqe (neg : Bool) (x y : Opd)
  | eqa (neg : Bool) (ks : List Nat) (x y : Opd)
  | not (x : Opd)
  | neg (x : Opd)
  | conv (k : IntKind) (x : Opd)
  | len (x : Opd)
  | lens (x : Opd)
  | fld (off w : Nat) (agg : Bool) (x : Opd)
  | fad (off : Nat) (x : Opd)
  | iad (wd : Nat) (x i : Opd)
  | iar (n wd : Nat) (x i : Opd)
  | load (w : Nat) (agg : Bool) (x : Opd)
  | store (w : Nat) (a v : Opd)
  | build (zero : List AC) (parts : List (Nat × Nat × Opd))
  | bsl (wd : Nat) (parts : List Opd)
  | msl (wd bytes : Nat) (zero : List AC) (n : Opd)
  | box (w : Nat) (x : Opd)
  | alloc (zero : List AC)
  | slc (wd : Nat) (x : Opd) (lo hi : Option Opd)
  | sls (x : Opd) (lo hi : Option Opd)
  | app (wd bytes : Nat) (x y : Opd)
  | call (f : FuncId) (xs : List Opd)
  | cald (x : Opd) (xs : List Opd)
  | clo (f : FuncId) (xs : List Opd)
  | ext (x : Opd) (i : Nat)
  | ixs (x i : Opd)
  | b2s (x : Opd)
  | mx (max : Bool) (x y : Opd)

structure IOp where
  d : Option Nat
  i : Ins
  g : Option (Nat × Bool)

/-- What an operation whose value isn't computed is told. -/
inductive Hint where
  | no
  | cs (cs : List AC)
  | nat (n : Nat)
  | fn (n : Nat) (f : Nat → List AC)
  | res (v : AV)
  | b (b : Bool)
  | str (l : List UInt8)
  | g (b : Bool)

def LIM : Nat := 2 ^ 36

def ev (gl : Nat → Option (List AC)) (s : St) : Opd → Option AV
  | .t n => s.e n
  | .v c => some (.c c)
  | .a cs => some (.agg cs)
  | .g n => match gl n with | some cs => some (.c (.pd cs 0)) | none => none
  | .f n => some (.c (.clo n []))

def evs (gl : Nat → Option (List AC)) (s : St) : List Opd → Option (List AV)
  | [] => some []
  | x :: r => match ev gl s x with
    | some v => match evs gl s r with | some l => some (v :: l) | none => none
    | none => none

def St.pu (s : St) (d : Option Nat) (v : AV) : St :=
  match d with
  | some d => { s with e := fun t => bif Nat.beq t d then some v else s.e t }
  | none => s
def St.de (s : St) (d : Option Nat) : St := { s with e := fun t => match d with | some d => bif Nat.beq t d then none else s.e t | none => s.e t }
def St.sh (s : St) (k : Nat) (b : Blk) : St := { s with h := fun j => bif Nat.beq j k then some b else s.h j }
def St.dr (s : St) (k : Nat) : St := { s with h := fun j => bif Nat.beq j k then none else s.h j }
def St.al (s : St) (k : Nat) (b : Blk) : St := { s with h := fun j => bif Nat.beq j k then some b else s.h j, u := k :: s.u }

def AC.isD : AC → Bool
  | .own .. | .pk .. | .pa .. | .clo .. => false
  | _ => true
def AC.isS : AC → Bool
  | .int .. | .bool _ | .str _ | .nil | .raw _ => true
  | _ => false
def AV.isS : AV → Bool
  | .c x => x.isS
  | .agg xs => xs.all AC.isS
  | .tup xs => xs.all fun p => p.2.all AC.isS

def setC (cs : List AC) (i : Nat) : List AC → List AC
  | [] => cs
  | c :: r => setC (cs.set i c) (i + 1) r

def AV.one : AV → Option (List AC)
  | .c x => some [x]
  | .agg xs => some xs
  | .tup _ => none

def pl (off : Nat) (i : Nat) : Nat := match off with | 0 => i | o + 1 => o + 1 + i
/-- The elements from off on. -/
def shf (f : Nat → List AC) : Nat → Nat → List AC
  | 0 => f
  | o + 1 => fun i => f (o + 1 + i)

/-- A cell told as data: a row of the call's own, as it now stands. K: with the row marked as written no more. -/
def frC (s : St) : AC → (AC → St → Prop) → Prop
  | .own k wd off len, K => match s.h k with
    | some (.arr wd' n f _) => if wd = wd' then pl off len ≤ n ∧ K (.sl wd len (shf f off)) (s.sh k (.arr wd n f true)) else False
    | _ => False
  | c, K => match c.isD with | true => K c s | false => False

def frCs (s : St) : List AC → (List AC → St → Prop) → Prop
  | [], K => K [] s
  | c :: r, K => frC s c fun c' s' => frCs s' r fun r' s'' => K (c' :: r') s''

/-- An address of a variable of the call's own told as an address of data; a function value with what it has captured. -/
def frP (s : St) : AC → (AC → St → Prop) → Prop
  | .pk k i, K => match s.h k with
    | some (.var cs z) => frCs s cs fun cs' s' => K (.pd cs' i) (s'.sh k (.var cs true))
    | _ => False
  | c, K => frC s c K
def frPs (s : St) : List AC → (List AC → St → Prop) → Prop
  | [], K => K [] s
  | c :: r, K => frP s c fun c' s' => frPs s' r fun r' s'' => K (c' :: r') s''
def frF (s : St) : AC → (AC → St → Prop) → Prop
  | .clo f cap, K => frPs s cap fun cap' s' => K (.clo f cap') s'
  | c, K => frP s c K
def frFs (s : St) : List AC → (List AC → St → Prop) → Prop
  | [], K => K [] s
  | c :: r, K => frF s c fun c' s' => frFs s' r fun r' s'' => K (c' :: r') s''
def frV (s : St) (v : AV) (K : AV → St → Prop) : Prop :=
  match v with
  | .c x => frF s x fun x' s' => K (.c x') s'
  | .agg xs => match v.keys with
    | [] => K v s
    | _ => frFs s xs fun xs' s' => K (.agg xs') s'
  | .tup _ => False
def frVs (s : St) : List AV → (List AV → St → Prop) → Prop
  | [], K => K [] s
  | v :: r, K => frV s v fun v' s' => frVs s' r fun r' s'' => K (v' :: r') s''

def callable (P : Program) (f : FuncId) : Bool :=
  match P.funcs[f]? with
  | some fn => fn.body.isSome && !(fn.name == "runtime.NumGoroutine")
  | none => false

/-- What is known of a Go function at these arguments (data): it returns, its result reads as res, nothing that was there has turned. -/
def FnOk (P : Program) (gl : Nat → Option (List AC)) (f : FuncId) (args : List AV) (res : AV) : Prop :=
  callable P f = true ∧ ∀ (w : World) (Pr : Nat → Prop) (vals : List Value), (∀ b, Pr b → b < w.heap.size) →
    (∀ g cs, gl g = some cs → DR Pr w (.pd cs 0) (.pointer (some ⟨g, 0, none⟩))) → vals.length = args.length →
    (∀ (i : Nat) a v, args[i]? = some a → vals[i]? = some v → VR (DR Pr w) a v) →
    Calls P f vals.toArray w fun e w' => ∃ v, e = .returned v ∧ Below w.heap.size w w' ∧ VR (DR (fun b => Pr b ∨ (w.heap.size ≤ b ∧ b < w'.heap.size)) w') res v

def bI (op : BinOp) (k : IntKind) (a b : Int) : Option AC :=
  match op with
  | .add => some (.int k (k.wrap (a + b)))
  | .sub => some (.int k (k.wrap (a - b)))
  | .mul => some (.int k (k.wrap (a * b)))
  | .eql => some (.bool (a == b))
  | .neq => some (.bool (a != b))
  | .lss => some (.bool (decide (a < b)))
  | .leq => some (.bool (decide (a ≤ b)))
  | .gtr => some (.bool (decide (a > b)))
  | .geq => some (.bool (decide (a ≥ b)))
  | _ => none

def bS (op : BinOp) (a b : List UInt8) : Option AC :=
  match op with
  | .eql => some (.bool (a == b))
  | .neq => some (.bool (!(a == b)))
  | .lss => some (.bool (Op.bytesLess a b))
  | .leq => some (.bool (Op.bytesLess a b || a == b))
  | .gtr => some (.bool (!(Op.bytesLess a b || a == b)))
  | .geq => some (.bool (!(Op.bytesLess a b)))
  | _ => none


/-- '==' of one cell: of a Bool (0), a number (1), a string (2). -/
def eqC : Nat → AC → AC → Option Bool
  | 0, .bool a, .bool b => some (a == b)
  | 1, .int k a, .int k' b => if k = k' then some (a == b) else none
  | 2, .str a, .str b => some (a == b)
  | _, _, _ => none
def eqCs : List Nat → List AC → List AC → Option Bool
  | [], [], [] => some true
  | k :: ks, x :: xs, y :: ys => match eqC k x y, eqCs ks xs ys with | some b, some c => some (b && c) | _, _ => none
  | _, _, _ => none

def loadC (cs : List AC) (i w : Nat) (agg : Bool) : Option AV :=
  match agg with
  | true => if ((cs.drop i).take w).length = w then some (.agg ((cs.drop i).take w)) else none
  | false => match cs[i]? with | some c => some (.c c) | none => none

def buildC (gl : Nat → Option (List AC)) (s : St) : List AC → List (Nat × Nat × Opd) → Option (List AC)
  | cs, [] => some cs
  | cs, (off, w, x) :: r => match ev gl s x with
    | some v => match v.one with
      | some vc => if vc.length = w then if off + w ≤ cs.length then buildC gl s (setC cs off vc) r else none else none
      | none => none
    | none => none

def partsC (gl : Nat → Option (List AC)) (s : St) (wd : Nat) : List Opd → Option (List (List AC))
  | [] => some []
  | x :: r => match ev gl s x with
    | some v => match v.one with
      | some vc => if vc.length = wd then match partsC gl s wd r with | some l => some (vc :: l) | none => none else none
      | none => none
    | none => none

def frPartsC (s : St) : List (List AC) → (List (List AC) → St → Prop) → Prop
  | [], K => K [] s
  | c :: r, K => frCs s c fun c' s' => frPartsC s' r fun r' s'' => K (c' :: r') s''

def bnd (gl : Nat → Option (List AC)) (s : St) (n : Int) : Option Opd → Option Int
  | none => some n
  | some x => match ev gl s x with
    | some (.c (.int _ i)) => some i
    | _ => none

/-- The elements that a slice brings to an append. -/
def elemsOf (s : St) (k0 : Option Nat) : AV → Option (Nat × Nat × (Nat → List AC))
  | .c (.sl wd n f) => some (wd, n, f)
  | .c (.own k wd off len) => match s.h k with
    | some (.arr wd' n f _) => if wd = wd' then if k0 = some k then none else if pl off len ≤ n then some (wd, len, shf f off) else none else none
    | _ => none
  | _ => none

def callI (P : Program) (gl : Nat → Option (List AC)) (d : Option Nat) (f : FuncId) (vs : List AV) (v : AV) (s : St) (K : St → Prop) : Prop :=
  frVs s vs fun ds s' => FnOk P gl f ds v ∧ match v.isS with | true => K (s.pu d v) | false => K (s'.pu d v)

def Step (P : Program) (gl : Nat → Option (List AC)) (d : Option Nat) : Ins → List Hint → St → (List Hint → St → Prop) → Prop
  | .mv x, hs, s, K => match ev gl s x with | some v => K hs (s.pu d v) | none => False
  | .pick c a b, hs, s, K => match ev gl s c, hs with
    | some (.c (.bool q)), .g v :: hs => q = v ∧ match v with
      | true => match ev gl s a with | some x => K hs (s.pu d x) | none => False
      | false => match ev gl s b with | some x => K hs (s.pu d x) | none => False
    | _, _ => False
  | .bin op x y, hs, s, K => match ev gl s x, ev gl s y with
    | some (.c (.int k a)), some (.c (.int k' b)) => if k = k' then match op with
      | .quo => b ≠ 0 ∧ K hs (s.pu d (.c (.int k (k.wrap (a.tdiv b)))))
      | .rem => b ≠ 0 ∧ K hs (s.pu d (.c (.int k (a.tmod b))))
      | op => match bI op k a b with | some c => K hs (s.pu d (.c c)) | none => False
      else False
    | some (.c (.str a)), some (.c (.str b)) => match op with
      | .add => a.length + b.length ≤ maxLen ∧ K hs (s.pu d (.c (.str (a ++ b))))
      | op => match bS op a b with | some c => K hs (s.pu d (.c c)) | none => False
    | _, _ => False
  | .bqe ng x y, hs, s, K => match ev gl s x, ev gl s y with
    | some (.c (.bool a)), some (.c (.bool b)) => K hs (s.pu d (.c (.bool (bif ng then !(a == b) else (a == b)))))
    | _, _ => False
  | .eqa ng ks x y, hs, s, K => match ev gl s x, ev gl s y with
    | some (.agg xs), some (.agg ys) => match eqCs ks xs ys with | some b => K hs (s.pu d (.c (.bool (bif ng then !b else b)))) | none => False
    | _, _ => False
  | .not x, hs, s, K => match ev gl s x with | some (.c (.bool b)) => K hs (s.pu d (.c (.bool (!b)))) | _ => False
  | .neg x, hs, s, K => match ev gl s x with | some (.c (.int k n)) => K hs (s.pu d (.c (.int k (k.wrap (0 - n))))) | _ => False
  | .conv k x, hs, s, K => match ev gl s x with | some (.c (.int _ n)) => K hs (s.pu d (.c (.int k (k.wrap n)))) | _ => False
  | .len x, hs, s, K => match ev gl s x with
    | some (.c (.sl _ n _)) => n ≤ maxLen → K hs (s.pu d (.c (.int .i64 n)))
    | some (.c (.own k wd _ n)) => match s.h k with | some (.arr wd' _ _ _) => if wd = wd' then n ≤ maxLen → K hs (s.pu d (.c (.int .i64 n))) else False | _ => False
    | some (.c .nil) => K hs (s.pu d (.c (.int .i64 0)))
    | _ => False
  | .lens x, hs, s, K => match ev gl s x with
    | some (.c (.str l)) => K hs (s.pu d (.c (.int .i64 l.length)))
    | _ => False
  | .fld off w agg x, hs, s, K => match ev gl s x with
    | some (.agg xs) => match loadC xs off w agg with | some v => K hs (s.pu d v) | none => False
    | _ => False
  | .fad off x, hs, s, K => match ev gl s x with
    | some (.c (.pk k i)) => match s.h k with | some _ => K hs (s.pu d (.c (.pk k (i + off)))) | none => False
    | some (.c (.pd cs i)) => K hs (s.pu d (.c (.pd cs (i + off))))
    | some (.c (.pa k wd i o)) => match s.h k with | some _ => K hs (s.pu d (.c (.pa k wd i (o + off)))) | none => False
    | _ => False
  | .iad wd x i, hs, s, K => match ev gl s x, ev gl s i, hs with
    | some (.c (.sl wd' n f)), some (.c (.int _ i)), .cs e :: hs => if wd = wd' then (0 ≤ i ∧ i < n) ∧ f i.toNat = e ∧ K hs (s.pu d (.c (.pd e 0))) else False
    | some (.c (.own k wd' off len)), some (.c (.int _ i)), .no :: hs => if wd = wd' then match s.h k with
      | some _ => (0 ≤ i ∧ i < len) ∧ K hs (s.pu d (.c (.pa k wd (pl off i.toNat) 0)))
      | none => False
      else False
    | _, _, _ => False
  | .iar n wd x i, hs, s, K => match ev gl s x, ev gl s i, hs with
    | some (.c (.pk k o)), some (.c (.int _ i)), .nat j :: hs => match s.h k with | some _ => (i = j ∧ j < n) ∧ K hs (s.pu d (.c (.pk k (o + j * wd)))) | none => False
    | some (.c (.pa k wd' e o)), some (.c (.int _ i)), .nat j :: hs => match s.h k with | some _ => (i = j ∧ j < n) ∧ K hs (s.pu d (.c (.pa k wd' e (o + j * wd)))) | none => False
    | some (.c (.pd cs o)), some (.c (.int _ i)), .nat j :: hs => (i = j ∧ j < n) ∧ K hs (s.pu d (.c (.pd cs (o + j * wd))))
    | some (.c (.pd cs o)), some (.c (.int _ i)), .cs e :: hs => (0 ≤ i ∧ i < n) ∧ (cs.drop (o + i.toNat * wd)).take wd = e ∧ K hs (s.pu d (.c (.pd e 0)))
    | _, _, _ => False
  | .load w agg x, hs, s, K => match ev gl s x with
    | some (.c (.pd cs i)) => match loadC cs i w agg with | some v => K hs (s.pu d v) | none => False
    | some (.c (.pk k i)) => match s.h k with
      | some (.var cs _) => match loadC cs i w agg with | some v => K hs (s.pu d v) | none => False
      | _ => False
    | some (.c (.pa k wd i o)) => match s.h k with
      | some (.arr wd' n f _) => if wd = wd' then i < n ∧ match loadC (f i) o w agg with | some v => K hs (s.pu d v) | none => False else False
      | _ => False
    | _ => False
  | .store w a v, hs, s, K => match ev gl s a, ev gl s v with
    | some (.c (.pk k i)), some v => match s.h k, v.one with
      | some (.var cs false), some vc => if vc.length = w then if i + w ≤ cs.length then K hs (s.sh k (.var (setC cs i vc) false)) else False else False
      | _, _ => False
    | some (.c (.pa k wd i o)), some v => match s.h k, v.one, hs with
      | some (.arr wd' n f false), some vc, .fn _ f' :: hs => if wd = wd' then if vc.length = w then vc.all AC.isD = true ∧ i < n ∧ o + w ≤ wd ∧
          (∀ j, j < n → f' j = if j = i then setC (f i) o vc else f j) ∧ K hs (s.sh k (.arr wd n f' false)) else False else False
      | _, _, _ => False
    | _, _ => False
  | .build zero parts, hs, s, K => match buildC gl s zero parts with | some cs => K hs (s.pu d (.agg cs)) | none => False
  | .bsl wd parts, hs, s, K => match d, partsC gl s wd parts, hs with
    | some k, some ps, .fn n f' :: hs => match s.u.elem k with
      | false => frPartsC s ps fun qs s' => n = qs.length ∧ (∀ i, i < n → f' i = qs.getD i []) ∧ K hs ((s'.al k (.arr wd n f' false)).pu d (.c (.own k wd 0 n)))
      | true => False
    | _, _, _ => False
  | .msl wd bytes zero n, hs, s, K => match d, ev gl s n, hs with
    | some k, some (.c (.int _ m)), .fn n' f' :: hs => match s.u.elem k with
      | false => (0 ≤ m ∧ m.toNat = n' ∧ n' ≤ LIM) ∧ (∀ i, i < n' → f' i = zero) ∧ K hs ((s.al k (.arr wd n' f' false)).pu d (.c (.own k wd 0 n')))
      | true => False
    | _, _, _ => False
  | .box w x, hs, s, K => match d, ev gl s x with
    | some k, some v => match s.u.elem k, v.one with
      | false, some vc => if vc.length = w then K hs ((s.al k (.var vc false)).pu d (.c (.pk k 0))) else False
      | _, _ => False
    | _, _ => False
  | .alloc zero, hs, s, K => match d with
    | some k => match s.u.elem k with
      | false => K hs ((s.al k (.var zero false)).pu d (.c (.pk k 0)))
      | true => False
    | none => False
  | .slc wd x lo hi, hs, s, K => match ev gl s x, hs with
    | some (.c (.sl wd' n f)), .fn n' f' :: hs => match bnd gl s 0 lo, bnd gl s n hi with
      | some l, some h => if wd = wd' then (0 ≤ l ∧ l ≤ h ∧ h ≤ n) ∧ n' = (h - l).toNat ∧ (∀ i, i < n' → f' i = f (l.toNat + i)) ∧ K hs (s.pu d (.c (.sl wd n' f'))) else False
      | _, _ => False
    | some (.c (.own k wd' 0 n)), .fn n' f' :: hs => match bnd gl s 0 lo, bnd gl s n hi, s.h k with
      | some l, some h, some (.arr wd'' m f z) => if wd = wd' then if wd = wd'' then (0 ≤ l ∧ l ≤ h ∧ h ≤ n ∧ n ≤ m) ∧ n' = (h - l).toNat ∧ (∀ i, i < n' → f' i = f (l.toNat + i)) ∧
          K hs ((s.sh k (.arr wd m f true)).pu d (.c (.sl wd n' f'))) else False else False
      | _, _, _ => False
    | some (.c (.own k wd' 0 n)), .nat n' :: hs => match lo, bnd gl s n hi, s.h k with
      | none, some h, some (.arr _ _ _ _) => if wd = wd' then (0 ≤ h ∧ h ≤ n ∧ h.toNat = n') ∧ K hs (s.pu d (.c (.own k wd' 0 n'))) else False
      | _, _, _ => False
    | _, _ => False
  | .sls x lo hi, hs, s, K => match ev gl s x, hs with
    | some (.c (.str l)), .str l' :: hs => match bnd gl s 0 lo, bnd gl s l.length hi with
      | some i, some j => (0 ≤ i ∧ i ≤ j ∧ j ≤ l.length) ∧ l' = (l.drop i.toNat).take (j.toNat - i.toNat) ∧ K hs (s.pu d (.c (.str l')))
      | _, _ => False
    | _, _ => False
  | .app wd bytes x y, hs, s, K => match d, ev gl s x, ev gl s y, hs with
    | some kd, some (.c (.own k wd' 0 len)), some y, .fn n' f' :: hs => match s.u.elem kd, s.h k, elemsOf s (some k) y with
      | false, some (.arr wd'' n f false), some (wd3, m, g) => if wd = wd' then if wd = wd'' then if wd = wd3 then (len ≤ n ∧ n' = len + m ∧ n' ≤ LIM) ∧
          (∀ i, i < len → f' i = f i) ∧ (∀ j, j < m → f' (len + j) = g j) ∧ K hs (((s.dr k).al kd (.arr wd n' f' false)).pu d (.c (.own kd wd 0 n'))) else False else False else False
      | _, _, _ => False
    | some kd, some (.c .nil), some y, .fn n' f' :: hs => match s.u.elem kd, elemsOf s none y with
      | false, some (wd3, m, g) => if wd = wd3 then (n' = m ∧ n' ≤ LIM) ∧ (∀ j, j < m → f' j = g j) ∧ K hs ((s.al kd (.arr wd n' f' false)).pu d (.c (.own kd wd 0 n'))) else False
      | _, _ => False
    | _, _, _, _ => False
  | .call f xs, hs, s, K => match evs gl s xs, hs with
    | some vs, .res v :: hs => callI P gl d f vs v s (K hs)
    | _, _ => False
  | .cald x xs, hs, s, K => match ev gl s x, evs gl s xs, hs with
    | some (.c (.clo f cap)), some vs, .res v :: hs => callI P gl d f (vs ++ cap.map .c) v s (K hs)
    | _, _, _ => False
  | .clo f xs, hs, s, K => match evs gl s xs with
    | some vs => match vs.mapM (fun v => match v with | .c (.clo ..) => none | .c x => some x | _ => none) with | some cap => K hs (s.pu d (.c (.clo f cap))) | none => False
    | none => False
  | .ext x i, hs, s, K => match ev gl s x with
    | some (.tup ps) => match ps[i]? with
      | some (false, [c]) => K hs (s.pu d (.c c))
      | some (true, cs) => K hs (s.pu d (.agg cs))
      | _ => False
    | _ => False
  | .ixs x i, hs, s, K => match ev gl s x, ev gl s i with
    | some (.c (.str l)), some (.c (.int _ i)) => (0 ≤ i ∧ i < l.length) ∧ K hs (s.pu d (.c (.int .u8 (l.getD i.toNat 0).toNat)))
    | _, _ => False
  | .b2s x, hs, s, K => match ev gl s x, hs with
    | some (.c (.own k 1 0 n)), .str l :: hs => match s.h k with
      | some (.arr 1 m f _) => n ≤ m ∧ l.length = n ∧ (∀ i, i < n → f i = [.int .u8 (l.getD i 0).toNat]) ∧ K hs (s.pu d (.c (.str l)))
      | _ => False
    | _, _ => False
  | .mx mx x y, hs, s, K => match ev gl s x, ev gl s y with
    | some (.c (.int k a)), some (.c (.int k' b)) => if k = k' then K hs (s.pu d (.c (.int k (bif mx then (if b > a then b else a) else (if b < a then b else a))))) else False
    | _, _ => False

/-- The operations of a region, one behind the other. -/
def SegP (P : Program) (gl : Nat → Option (List AC)) : List IOp → List Hint → St → (List Hint → St → Prop) → Prop
  | [], hs, s, K => K hs s
  | o :: r, hs, s, K => match o.g with
    | none => Step P gl o.d o.i hs s fun hs' s' => SegP P gl r hs' s' K
    | some (t, b) => match s.e t, hs with
      | some (.c (.bool c)), .g v :: hs => c = v ∧ match v, b with
        | true, true | false, false => Step P gl o.d o.i hs s fun hs' s' => SegP P gl r hs' s' K
        | _, _ => SegP P gl r hs (s.pu o.d (.tup [])) K
      | some (.tup _), hs => SegP P gl r hs (s.pu o.d (.tup [])) K
      | _, _ => False

def AC.nclo : AC → Bool
  | .clo .. => false
  | _ => true

/-- What an operation of such a region leaves: its value (none: nothing is known), and the blocks that it has made. -/
structure Eff where
  v : Option AV
  n : List (Nat × Blk)

def lkB (k : Nat) : List (Nat × Blk) → Option Blk
  | [] => none
  | (j, b) :: r => bif Nat.beq k j then some b else lkB k r

def St.eff (s : St) (d : Option Nat) (x : Eff) : St :=
  { e := fun t => match d with | some d => bif Nat.beq t d then x.v else s.e t | none => s.e t
    h := fun k => match lkB k x.n with | some b => some b | none => s.h k
    u := x.n.map (·.1) ++ s.u }

/-- A call in a region that draws its order: nothing is marked. -/
def callD (P : Program) (gl : Nat → Option (List AC)) (d : Option Nat) (f : FuncId) (vs : List AV) (v : AV) (s : St) (K : St → Prop) : Prop :=
  frVs s vs fun ds _ => FnOk P gl f ds v ∧ (match v.isS with | true => True | false => vs.flatMap AV.keys = []) ∧ v.keys = [] ∧ K (s.pu d v)

/-- An operation of a region that draws its order: it reads, computes, calls, makes rows. -/
def StepD (P : Program) (gl : Nat → Option (List AC)) (d : Option Nat) : Ins → List Hint → St → (List Hint → St → Prop) → Prop
  | .mv x, hs, s, K => Step P gl d (.mv x) hs s K
  | .pick a b c, hs, s, K => Step P gl d (.pick a b c) hs s K
  | .bin a b c, hs, s, K => Step P gl d (.bin a b c) hs s K
  | .bqe a b c, hs, s, K => Step P gl d (.bqe a b c) hs s K
  | .eqa a ks b c, hs, s, K => Step P gl d (.eqa a ks b c) hs s K
  | .not x, hs, s, K => Step P gl d (.not x) hs s K
  | .neg x, hs, s, K => Step P gl d (.neg x) hs s K
  | .conv k x, hs, s, K => Step P gl d (.conv k x) hs s K
  | .len x, hs, s, K => match ev gl s x with
    | some (.c (.sl _ n _)) => K hs (s.pu d (.c (.int .i64 n)))
    | some (.c (.own k wd _ n)) => match s.h k with | some (.arr wd' _ _ _) => if wd = wd' then K hs (s.pu d (.c (.int .i64 n))) else False | _ => False
    | some (.c .nil) => K hs (s.pu d (.c (.int .i64 0)))
    | _ => False
  | .lens x, hs, s, K => Step P gl d (.lens x) hs s K
  | .fld a b c x, hs, s, K => Step P gl d (.fld a b c x) hs s K
  | .fad a x, hs, s, K => Step P gl d (.fad a x) hs s K
  | .iad a x i, hs, s, K => Step P gl d (.iad a x i) hs s K
  | .iar a b x i, hs, s, K => Step P gl d (.iar a b x i) hs s K
  | .load w agg x, hs, s, K => match ev gl s x with
    | some (.c (.pd cs i)) => match loadC cs i w agg with | some v => v.keys = [] ∧ K hs (s.pu d v) | none => False
    | some (.c (.pk k i)) => match s.h k with
      | some (.var cs _) => match loadC cs i w agg with | some v => K hs (s.pu d v) | none => False
      | _ => False
    | some (.c (.pa k wd i o)) => match s.h k with
      | some (.arr wd' n f _) => if wd = wd' then i < n ∧ match loadC (f i) o w agg with | some v => v.keys = [] ∧ K hs (s.pu d v) | none => False else False
      | _ => False
    | _ => False
  | .sls x lo hi, hs, s, K => Step P gl d (.sls x lo hi) hs s K
  | .ext x i, hs, s, K => Step P gl d (.ext x i) hs s K
  | .ixs x i, hs, s, K => Step P gl d (.ixs x i) hs s K
  | .mx a x y, hs, s, K => Step P gl d (.mx a x y) hs s K
  | .build z ps, hs, s, K => Step P gl d (.build z ps) hs s K
  | .bsl wd parts, hs, s, K => match d, partsC gl s wd parts, hs with
    | some k, some ps, .no :: .fn n f' :: hs => match s.u.elem k with
      | false => n = ps.length ∧ (ps.all fun p => p.all AC.isD) = true ∧ (∀ i, i < n → f' i = ps.getD i []) ∧ K hs (s.eff (some k) ⟨some (.c (.own k wd 0 n)), [(k, .arr wd n f' false)]⟩)
      | true => False
    | some k, some ps, .fn n f' :: hs => match s.u.elem k with
      | false => n = ps.length ∧ (ps.all fun p => p.all AC.isD) = true ∧ (∀ i, i < n → f' i = ps.getD i []) ∧ K hs (s.eff (some k) ⟨some (.c (.sl wd n f')), []⟩)
      | true => False
    | _, _, _ => False
  | .msl wd bytes zero n, hs, s, K => match d, ev gl s n, hs with
    | some k, some (.c (.int _ m)), .no :: .fn n' f' :: hs => match s.u.elem k with
      | false => (0 ≤ m ∧ m.toNat = n' ∧ n' ≤ LIM) ∧ (∀ i, i < n' → f' i = zero) ∧ K hs (s.eff (some k) ⟨some (.c (.own k wd 0 n')), [(k, .arr wd n' f' false)]⟩)
      | true => False
    | some k, some (.c (.int _ m)), .fn n' f' :: hs => match s.u.elem k with
      | false => (0 ≤ m ∧ m.toNat = n' ∧ n' ≤ LIM) ∧ (∀ i, i < n' → f' i = zero) ∧ K hs (s.eff (some k) ⟨some (.c (.sl wd n' f')), []⟩)
      | true => False
    | _, _, _ => False
  | .alloc zero, hs, s, K => match d with
    | some k => match s.u.elem k with
      | false => K hs (s.eff (some k) ⟨some (.c (.pk k 0)), [(k, .var zero false)]⟩)
      | true => False
    | none => False
  | .call f xs, hs, s, K => match evs gl s xs, hs with
    | some vs, .res v :: hs => callD P gl d f vs v s (K hs)
    | _, _ => False
  | .cald x xs, hs, s, K => match ev gl s x, evs gl s xs, hs with
    | some (.c (.clo f cap)), some vs, .res v :: hs => match cap.all AC.nclo with | true => callD P gl d f (vs ++ cap.map .c) v s (K hs) | false => False
    | _, _, _ => False
  | _, _, _, _ => False

def StepG (P : Program) (gl : Nat → Option (List AC)) (o : IOp) (hs : List Hint) (s : St) (K : List Hint → St → Prop) : Prop :=
  match o.g with
  | none => StepD P gl o.d o.i hs s K
  | some (t, b) => match s.e t, hs with
    | some (.c (.bool c)), .g v :: hs => c = v ∧ match v, b with
      | true, true | false, false => StepD P gl o.d o.i hs s K
      | _, _ => K hs (s.pu o.d (.tup []))
    | some (.tup _), hs => K hs (s.pu o.d (.tup []))
    | _, _ => False

def SegD (P : Program) (gl : Nat → Option (List AC)) : List IOp → List Hint → St → (List Hint → St → Prop) → Prop
  | [], hs, s, K => K hs s
  | o :: r, hs, s, K => StepG P gl o hs s fun hs' s' => SegD P gl r hs' s' K

/-! ### from the model's code -/
def cV : Value → Option Opd
  | .int k n => some (.v (.int k n))
  | .bool b => some (.v (.bool b))
  | .string s => some (.v (.str s.data.toList))
  | .slice none 0 0 => some (.v .nil)
  | .nilIface => some (.v (.raw .nilIface))
  | .nilFunc => some (.v (.raw .nilFunc))
  | .pointer none => some (.v (.raw (.pointer none)))
  | _ => none

def cO : Operand → Option Opd
  | .tmp t => some (.t t)
  | .const v => cV v
  | .global g => some (.g g)
  | .func f => some (.f f)

def cOs (xs : Array Operand) : Option (List Opd) := xs.toList.mapM cO

def cOo : Option Operand → Option (Option Opd)
  | none => some none
  | some y => (cO y).map some

def aggT (P : Program) (t : TypeId) : Option Bool :=
  match P.underlying t with
  | some (.struct _) | some (.array _ _) => some true
  | some _ => some false
  | none => none

def zeroC (P : Program) (t : TypeId) : Option (List AC) :=
  match P.info? t with
  | some i => match i.zero with
    | some v => v.cells.toList.mapM fun x => match cV x with | some (.v c) => some c | _ => none
    | none => none
  | none => none

def scalarT (P : Program) (t : TypeId) : Bool :=
  match P.underlying t with
  | some .bool | some (.int _) | some .string => true
  | _ => false

def selS (P : Program) (fs : Array Field) (p : Nat × Operand) : Option (Nat × Nat × Opd) :=
  match fs[p.1]?, cO p.2 with
  | some f, some x => if (P.info? f.type).isSome then some (f.offset, P.cellsOf f.type, x) else none
  | _, _ => none
def selA (P : Program) (e : TypeId) (p : Nat × Operand) : Option (Nat × Nat × Opd) := (cO p.2).map fun x => (p.1 * P.cellsOf e, P.cellsOf e, x)

/-- What the fields of a flat struct of scalars are. -/
def kindT (P : Program) (t : TypeId) : Option Nat :=
  match P.underlying t with
  | some .bool => some 0
  | some (.int _) => some 1
  | some .string => some 2
  | _ => none
def flatK (P : Program) : Nat → List Field → Option (List Nat)
  | _, [] => some []
  | i, f :: r => match f.name == "_", f.offset == i, kindT P f.type, flatK P (i + 1) r with
    | false, true, some k, some l => some (k :: l)
    | _, _, _, _ => none
def eqT (P : Program) (t : TypeId) (fs : Array Field) : Option (List Nat) :=
  match P.stoodInHeld t, P.eqGuardType P.depth t with
  | false, false => flatK P 0 fs.toList
  | _, _ => none

def compI (P : Program) (o : Oper) : Option Ins :=
  match o.op with
  | .move x | .assign x => (cO x).map .mv
  | .pick c a b => do some (.pick (← cO c) (← cO a) (← cO b))
  | .binOp op t x y _ => do
    let x ← cO x
    let y ← cO y
    match P.underlying t, op with
    | some .bool, .eql => some (.bqe false x y)
    | some .bool, .neq => some (.bqe true x y)
    | some (.struct fs), .eql => (eqT P t fs).map fun ks => .eqa false ks x y
    | some (.struct fs), .neq => (eqT P t fs).map fun ks => .eqa true ks x y
    | some (.int _), _ | some .string, _ => some (.bin op x y)
    | _, _ => none
  | .unOp .not _ x => (cO x).map .not
  | .unOp .neg _ x => (cO x).map .neg
  | .convert src dst x => do
    let x ← cO x
    match P.underlying src, P.underlying dst with
    | some (.int _), some (.int k) => some (.conv k x)
    | some (.slice e), some .string => match P.underlying e with | some (.int .u8) => some (.b2s x) | _ => none
    | _, _ => none
  | .field t x i => do
    let x ← cO x
    match P.underlying t with
    | some (.struct fs) => match fs[i]? with
      | some f => match aggT P f.type with
        | some g => if (P.info? f.type).isSome then some (.fld f.offset (P.cellsOf f.type) g x) else none
        | none => none
      | none => none
    | _ => none
  | .fieldAddr t x i => do
    let x ← cO x
    match P.underlying t with
    | some (.struct fs) => match fs[i]? with
      | some f => if P.cellsOf f.type = 0 then none else some (.fad f.offset x)
      | none => none
    | _ => none
  | .indexAddr t x i => do
    let x ← cO x
    let i ← cO i
    match P.underlying t with
    | some (.slice e) => if P.cellsOf e = 0 then none else some (.iad (P.cellsOf e) x i)
    | some (.array n e) => if P.cellsOf e = 0 then none else some (.iar n (P.cellsOf e) x i)
    | _ => none
  | .index t x i => do
    let x ← cO x
    let i ← cO i
    match P.underlying t with
    | some .string => some (.ixs x i)
    | _ => none
  | .load t x => do
    let x ← cO x
    match aggT P t with
    | some g => if (P.info? t).isSome then some (.load (P.cellsOf t) g x) else none
    | none => none
  | .store t a v => do
    let a ← cO a
    let v ← cO v
    if (P.info? t).isSome ∧ o.dst.isNone then some (.store (P.cellsOf t) a v) else none
  | .build t parts => do
    let z ← zeroC P t
    match P.underlying t with
    | some (.struct fs) => if fs.all fun f => (P.info? f.type).isSome then (parts.toList.mapM (selS P fs)).map (.build z) else none
    | some (.array _ e) => if (P.info? e).isSome then (parts.toList.mapM (selA P e)).map (.build z) else none
    | _ => none
  | .buildSlice t len parts => do
    match P.underlying t with
    | some (.slice e) => do
      let z ← zeroC P e
      let ps ← parts.toList.mapM fun p => cO p.2
      if parts.toList.map (·.1) = List.range len ∧ P.cellsOf e ≠ 0 ∧ len * P.cellsOf e ≤ 2 ^ 24 ∧ z.length = P.cellsOf e then some (.bsl (P.cellsOf e) ps) else none
    | _ => none
  | .makeSlice t l c => do
    let l ← cO l
    let c ← cO c
    match P.underlying t with
    | some (.slice e) => do
      let z ← zeroC P e
      if P.cellsOf e ≠ 0 ∧ P.bytesOf e ≤ 1024 ∧ z.length = P.cellsOf e then
        (match l, c with
        | .t i, .t j => if i = j then some (.msl (P.cellsOf e) (P.bytesOf e) z l) else none
        | .v (.int .i64 i), .v (.int .i64 j) => if i = j then some (.msl (P.cellsOf e) (P.bytesOf e) z l) else none
        | _, _ => none)
      else none
    | _ => none
  | .alloc e => (zeroC P e).map .alloc
  | .box e x => do
    let x ← cO x
    some (.box (P.cellsOf e) x)
  | .slice t x lo hi none => do
    let x ← cO x
    let lo ← cOo lo
    let hi ← cOo hi
    match P.underlying t with
    | some .string => some (.sls x lo hi)
    | some (.slice e) => if P.cellsOf e = 0 then none else some (.slc (P.cellsOf e) x lo hi)
    | _ => none
  | .makeFunc (.func f) first captured => do
    let xs ← cOs captured
    if first.size = 0 then some (.clo f xs) else none
  | .extract x i => (cO x).map (.ext · i)
  | .call c => do
    let xs ← cOs c.args
    match c.callee with
    | .value (.func f) => some (.call f xs)
    | .value (.tmp t) => some (.cald (.t t) xs)
    | .builtin .len => match xs, (c.argTypes[0]?).bind P.underlying with
      | [x], some .string => some (.lens x)
      | [x], some (.slice _) => some (.len x)
      | _, _ => none
    | .builtin .append => match xs, c.argTypes.toList with
      | [x, y], [t, t'] => match P.underlying t with
        | some (.slice e) => do
          let z ← zeroC P e
          if t = t' ∧ P.cellsOf e ≠ 0 ∧ P.bytesOf e ≤ 1024 ∧ z.length = P.cellsOf e then some (.app (P.cellsOf e) (P.bytesOf e) x y) else none
        | _ => none
      | _, _ => none
    | .builtin .max => match xs with | [x, y] => some (.mx true x y) | _ => none
    | .builtin .min => match xs with | [x, y] => some (.mx false x y) | _ => none
    | _ => none
  | _ => none

def rdO : Opd → List Nat
  | .t n => [n]
  | _ => []
def rdOo : Option Opd → List Nat
  | some x => rdO x
  | none => []
/-- What an operation reads. -/
def opsI : Ins → List Opd
  | .mv x | .not x | .neg x | .conv _ x | .len x | .lens x | .fld _ _ _ x | .fad _ x | .load _ _ x | .ext x _ | .msl _ _ _ x => [x]
  | .pick a b c => [a, b, c]
  | .bin _ x y | .bqe _ x y | .eqa _ _ x y | .iad _ x y | .iar _ _ x y | .ixs x y | .mx _ x y => [x, y]
  | .sls x lo hi => x :: (lo.toList ++ hi.toList)
  | .bsl _ ps => ps
  | .build _ ps => ps.map (·.2.2)
  | .call _ xs => xs
  | .cald x xs => x :: xs
  | _ => []
def opsG (o : IOp) : List Opd := opsI o.i ++ (match o.g with | some (t, _) => [.t t] | none => [])
/-- A constant that mentions no key. -/
def Opd.kf : Opd → Bool
  | .v c => c.keys.isEmpty
  | .a cs => (cs.flatMap AC.keys).isEmpty
  | _ => true

def guardOf (ops : Array Oper) : Option (Nat × Bool) → Option (Option (Nat × Bool))
  | none => some none
  | some (j, b) => match ops[j]? with
    | some o => match o.dst with
      | some t => some (some (t, b))
      | none => none
    | none => none

def compO (P : Program) (N : Nat) (ops : Array Oper) (o : Oper) : Option IOp :=
  match compI P o, guardOf ops o.guard with
  | some i, some g => match o.dst with
    | some d => if d < N then some ⟨some d, i, g⟩ else none
    | none => some ⟨none, i, g⟩
  | _, _ => none

def isPureI : Ins → Bool
  | .mv _ | .pick .. | .bin .. | .bqe .. | .eqa .. | .not _ | .neg _ | .conv .. | .len _ | .lens _ | .fld .. | .fad .. | .iad .. | .iar .. | .load .. | .sls .. | .ext .. | .ixs .. | .mx .. | .bsl .. | .call .. | .cald .. => true
  | .msl _ _ z _ => (z.flatMap AC.keys).isEmpty && z.all AC.isD
  | .build z _ | .alloc z => (z.flatMap AC.keys).isEmpty
  | _ => false

def edgeOn (o : Oper) (j : Nat) : Bool := o.after.toList.any fun e => e.on == j && Region.binds .any e

/-- In a region that draws its order: the first m operations read, compute, call; every two of them that touch one temporary stand in an edge; edges lead back; each temporary is written once. Each of the others waits for all that stand before it. -/
def okDraw (ops : Array Oper) (ios : List IOp) (m : Nat) : Bool :=
  decide (m ≤ ios.length) && decide (ios.length = ops.size) &&
  (List.range ios.length).all fun i =>
    match ios[i]?, ops[i]? with
    | some oi, some pi =>
      pi.after.toList.all (fun e => !Region.binds .any e || decide (e.on < i)) &&
      (if i < m then
        isPureI oi.i && oi.d.isSome && (opsI oi.i).all Opd.kf &&
        (List.range m).all fun j =>
          match ios[j]?, ops[j]? with
          | some oj, some pj =>
            (i == j || oi.d != oj.d) &&
            (match oj.d with
            | some t => !((opsG oi).flatMap rdO).elem t || i == j || (if j < i then edgeOn pi j else edgeOn pj i)
            | none => true)
          | _, _ => false
      else (List.range i).all fun j => edgeOn pi j || (List.range i).any fun l => match ops[l]? with | some pl => edgeOn pi l && edgeOn pl j | none => false)
    | _, _ => false

inductive S where
  | skip
  | ops (l : List IOp)
  | draw (m : Nat) (l : List IOp)
  | seq (a b : S)
  | ite (c : Opd) (a b : S)
  | blk (id : Nat) (b : S)
  | loop (b : S)
  | exit (id : Nat)
  | ret

/-- How many of a region's operations only read, compute, call. -/
def pureLen : List IOp → Nat
  | [] => 0
  | o :: r => match isPureI o.i with | true => pureLen r + 1 | false => 0

def comp (P : Program) (N : Nat) : Code → Option S
  | .skip => some .skip
  | .region _ ops draw => match ops.toList.mapM (compO P N ops) with
    | some ios => match draw with
      | false => some (.ops ios)
      | true => if okDraw ops ios (pureLen ios) = true ∧ P.follows .mixedOrders = true then some (.draw (pureLen ios) ios) else none
    | none => none
  | .seq a b => match comp P N a, comp P N b with | some x, some y => some (.seq x y) | _, _ => none
  | .cond c a b => match cO c, comp P N a, comp P N b with | some c, some x, some y => some (.ite c x y) | _, _, _ => none
  | .block id b => (comp P N b).map (.blk id)
  | .loop b => (comp P N b).map .loop
  | .exit id => some (.exit id)
  | .ret => some .ret
  | _ => none
end Go.Proofs.YtfmeidhialmckaaGreatDoor.Ab

namespace Go.Proofs.YtfmeidhialmckaaGreatDoor.Ab
open Go Go.RowKit

section
variable {P : Program} {gl : Nat → Option (List AC)} {N : Nat} {w0 : World} {Pr : Nat → Prop} {φ : Nat → Option (Option Nat)} {s : St} {a : Act} {w : World}

/-- What stands behind an operation. -/
def After (gl : Nat → Option (List AC)) (N : Nat) (w0 : World) (Pr : Nat → Prop) (K : List Hint → St → Prop) (next : Act → World → Prop) : Prop :=
  ∀ hs' s' Pr' φ' a' w', K hs' s' → Sim gl N w0 Pr' φ' s' a' w' → PrS w0 Pr Pr' → next a' w'

theorem Sim.pu (h : Sim gl N w0 Pr φ s a w) {d : Option Nat} {v : AV} {x : Value} (hd : ∀ t, d = some t → t < N) (hv : VR (KR Pr φ w) v x) (hk : ∀ k ∈ v.keys, k ∈ s.u) :
    Sim gl N w0 Pr φ (s.pu d v) (a.put d x) w := by
  cases d with
  | none => exact h
  | some d => exact h.put (hd d rfl) hv hk

theorem Sim.de (h : Sim gl N w0 Pr φ s a w) (d : Option Nat) (x : Value) : Sim gl N w0 Pr φ (s.de d) (a.put d x) w := h.del d x

theorem Sim.eval_tmp (h : Sim gl N w0 Pr φ s a w) {t : Nat} {v : AV} (hv : s.e t = some v) : VR (KR Pr φ w) v (a.eval (.tmp t)) ∧ ∀ k ∈ v.keys, k ∈ s.u := by
  obtain ⟨x, h1, h2⟩ := h.tm t v hv
  exact ⟨by simpa [Act.eval, Array.getD, Array.getElem?_eq_some_iff.1 h1 |>.choose_spec, (Array.getElem?_eq_some_iff.1 h1).choose] using h2, h.ke t v hv⟩

theorem cV_sound {v : Value} {y : Opd} {u : AV} (hc : cV v = some y) (hv : ev gl s y = some u) : VR (KR Pr φ w) u v ∧ ∀ k ∈ u.keys, k ∈ s.u := by
  unfold cV at hc
  split at hc <;> first | cases hc | skip
  all_goals (simp only [ev, Option.some.injEq] at hv; subst hv)
  · exact ⟨DR.int .., by simp [AV.keys, AC.keys, AC.keys0]⟩
  · exact ⟨DR.bool .., by simp [AV.keys, AC.keys, AC.keys0]⟩
  · rename_i s'
    refine ⟨?_, by simp [AV.keys, AC.keys, AC.keys0]⟩
    have := DR.str (Pr := Pr) (w := w) s'.data.toList
    rw [Array.toArray_toList] at this
    exact this
  · exact ⟨DR.nil, by simp [AV.keys, AC.keys, AC.keys0]⟩
  · exact ⟨DR.nilIface, by simp [AV.keys, AC.keys, AC.keys0]⟩
  · exact ⟨DR.nilFunc, by simp [AV.keys, AC.keys, AC.keys0]⟩
  · exact ⟨DR.nilPtr, by simp [AV.keys, AC.keys, AC.keys0]⟩

theorem ev_sound (h : Sim gl N w0 Pr φ s a w) {x : Operand} {y : Opd} {v : AV} (hc : cO x = some y) (hv : ev gl s y = some v) :
    VR (KR Pr φ w) v (a.eval x) ∧ ∀ k ∈ v.keys, k ∈ s.u := by
  cases x with
  | tmp t => simp only [cO, Option.some.injEq] at hc; subst hc; exact h.eval_tmp hv
  | const c => exact cV_sound hc hv
  | global g =>
    simp only [cO, Option.some.injEq] at hc; subst hc
    simp only [ev] at hv
    cases hg : gl g with
    | none => rw [hg] at hv; cases hv
    | some cs =>
      rw [hg] at hv
      simp only [Option.some.injEq] at hv
      subst hv
      exact ⟨(KR.of_dr (φ := φ) (h.gk g cs hg)).1, by simp [AV.keys, AC.keys, AC.keys0]⟩
  | func f =>
    simp only [cO, Option.some.injEq] at hc; subst hc
    simp only [ev, Option.some.injEq] at hv
    subst hv
    exact ⟨⟨fun _ => undef, by simp [Act.eval], by simp⟩, by simp [AV.keys, AC.keys, AC.keys0]⟩

theorem fin_value {o : Oper} {x : Value} {v : AV} {hs : List Hint} {K : List Hint → St → Prop} {next : Act → World → Prop} {Q : Exit → Act → World → Prop}
    (h : Sim gl N w0 Pr φ s a w) (hd : ∀ t, o.dst = some t → t < N) (hrun : (execOp a.eval o).run P w = .ok (.value x) w) (hv : VR (KR Pr φ w) v x) (hk : ∀ k ∈ v.keys, k ∈ s.u)
    (hK : K hs (s.pu o.dst v)) (ha : After gl N w0 Pr K next) : o.wp P a w next Q := by
  unfold Oper.wp
  rw [hrun]
  exact ha _ _ _ _ _ _ hK (h.pu hd hv hk) (PrS.refl _ _)

theorem VR.int_inv {k : IntKind} {n : Int} {x : Value} (h : VR (KR Pr φ w) (.c (.int k n)) x) : x = .int k n := by cases h; rfl
theorem VR.bool_inv {b : Bool} {x : Value} (h : VR (KR Pr φ w) (.c (.bool b)) x) : x = .bool b := by cases h; rfl
theorem VR.str_inv {l : List UInt8} {x : Value} (h : VR (KR Pr φ w) (.c (.str l)) x) : x = .string ⟨l.toArray⟩ := by cases h; rfl

theorem VR.mkInt (k : IntKind) (n : Int) : VR (KR Pr φ w) (.c (.int k n)) (.int k n) := DR.int k n
theorem VR.mkBool (b : Bool) : VR (KR Pr φ w) (.c (.bool b)) (.bool b) := DR.bool b
theorem VR.mkStr (l : List UInt8) : VR (KR Pr φ w) (.c (.str l)) (.string ⟨l.toArray⟩) := DR.str l
theorem nokeys_int (k : IntKind) (n : Int) (u : List Nat) : ∀ j ∈ (AV.c (.int k n)).keys, j ∈ u := by simp [AV.keys, AC.keys, AC.keys0]
theorem nokeys_bool (b : Bool) (u : List Nat) : ∀ j ∈ (AV.c (.bool b)).keys, j ∈ u := by simp [AV.keys, AC.keys, AC.keys0]
theorem nokeys_str (l : List UInt8) (u : List Nat) : ∀ j ∈ (AV.c (.str l)).keys, j ∈ u := by simp [AV.keys, AC.keys, AC.keys0]

theorem step_mv {o : Oper} {x : Operand} {y : Opd} {hs : List Hint} {K : List Hint → St → Prop} {next : Act → World → Prop} {Q : Exit → Act → World → Prop}
    (ho : o.op = .move x ∨ o.op = .assign x) (hx : cO x = some y)
    (h : Sim gl N w0 Pr φ s a w) (hd : ∀ t, o.dst = some t → t < N) (hst : Step P gl o.dst (.mv y) hs s K) (ha : After gl N w0 Pr K next) : o.wp P a w next Q := by
  simp only [Step] at hst
  split at hst
  · rename_i v hv
    obtain ⟨h1, h2⟩ := ev_sound h hx hv
    exact fin_value h hd (by rcases ho with ho | ho <;> simp [execOp, ho, Sem.run, pure]) h1 h2 hst ha
  · exact hst.elim

theorem step_pick {o : Oper} {c x y : Operand} {c' x' y' : Opd} {hs : List Hint} {K : List Hint → St → Prop} {next : Act → World → Prop} {Q : Exit → Act → World → Prop}
    (ho : o.op = .pick c x y) (hc : cO c = some c') (hx : cO x = some x') (hy : cO y = some y')
    (h : Sim gl N w0 Pr φ s a w) (hd : ∀ t, o.dst = some t → t < N) (hst : Step P gl o.dst (.pick c' x' y') hs s K) (ha : After gl N w0 Pr K next) : o.wp P a w next Q := by
  simp only [Step] at hst
  split at hst
  · rename_i q v hs' hcv
    obtain ⟨rfl, hst⟩ := hst
    have hb := (ev_sound h hc hcv).1.bool_inv
    cases q with
    | true =>
      simp only at hst
      split at hst
      · rename_i v hv
        obtain ⟨h1, h2⟩ := ev_sound h hx hv
        exact fin_value h hd (by simp [execOp, ho, hb, asBool, Sem.run_bind, Result.andThen]) h1 h2 hst ha
      · exact hst.elim
    | false =>
      simp only at hst
      split at hst
      · rename_i v hv
        obtain ⟨h1, h2⟩ := ev_sound h hy hv
        exact fin_value h hd (by simp [execOp, ho, hb, asBool, Sem.run_bind, Result.andThen]) h1 h2 hst ha
      · exact hst.elim
  · exact hst.elim
end
end Go.Proofs.YtfmeidhialmckaaGreatDoor.Ab

namespace Go.Proofs.YtfmeidhialmckaaGreatDoor.Ab
open Go Go.RowKit

section
variable {P : Program} {gl : Nat → Option (List AC)} {N : Nat} {w0 : World} {Pr : Nat → Prop} {φ : Nat → Option (Option Nat)} {s : St} {a : Act} {w : World}
  {o : Oper} {hs : List Hint} {K : List Hint → St → Prop} {next : Act → World → Prop} {Q : Exit → Act → World → Prop}

theorem guard_int (op : BinOp) (t : TypeId) (x y : Operand) (k k' : IntKind) (n m : Int) : (eqGuard op t x y (.int k n) (.int k' m)).run P w = .ok () w := by
  unfold eqGuard; split <;> simp
theorem guard_bool (op : BinOp) (t : TypeId) (x y : Operand) (n m : Bool) : (eqGuard op t x y (.bool n) (.bool m)).run P w = .ok () w := by
  unfold eqGuard; split <;> simp
theorem guard_str (op : BinOp) (t : TypeId) (x y : Operand) (n m : ByteArray) : (eqGuard op t x y (.string n) (.string m)).run P w = .ok () w := by
  unfold eqGuard; split <;> simp

theorem fin_int {k : IntKind} {n : Int} (h : Sim gl N w0 Pr φ s a w) (hd : ∀ t, o.dst = some t → t < N) (hrun : (execOp a.eval o).run P w = .ok (.value (.int k n)) w)
    (hK : K hs (s.pu o.dst (.c (.int k n)))) (ha : After gl N w0 Pr K next) : o.wp P a w next Q := fin_value h hd hrun (.mkInt k n) (nokeys_int k n s.u) hK ha
theorem fin_bool {b : Bool} (h : Sim gl N w0 Pr φ s a w) (hd : ∀ t, o.dst = some t → t < N) (hrun : (execOp a.eval o).run P w = .ok (.value (.bool b)) w)
    (hK : K hs (s.pu o.dst (.c (.bool b)))) (ha : After gl N w0 Pr K next) : o.wp P a w next Q := fin_value h hd hrun (.mkBool b) (nokeys_bool b s.u) hK ha
theorem fin_str {l : List UInt8} (h : Sim gl N w0 Pr φ s a w) (hd : ∀ t, o.dst = some t → t < N) (hrun : (execOp a.eval o).run P w = .ok (.value (.string ⟨l.toArray⟩)) w)
    (hK : K hs (s.pu o.dst (.c (.str l)))) (ha : After gl N w0 Pr K next) : o.wp P a w next Q := fin_value h hd hrun (.mkStr l) (nokeys_str l s.u) hK ha

theorem ba_toList (l : List UInt8) : (⟨l.toArray⟩ : ByteArray).toList = l := by rw [ByteArray.toList_eq]

theorem ba_append (l m : List UInt8) : (⟨l.toArray⟩ ++ ⟨m.toArray⟩ : ByteArray) = ⟨(l ++ m).toArray⟩ := by
  apply ByteArray.ext; simp

theorem step_bin {op : BinOp} {t t' : TypeId} {x y : Operand} {x' y' : Opd}
    (ho : o.op = .binOp op t x y t') (hx : cO x = some x') (hy : cO y = some y')
    (h : Sim gl N w0 Pr φ s a w) (hd : ∀ t, o.dst = some t → t < N) (hst : Step P gl o.dst (.bin op x' y') hs s K) (ha : After gl N w0 Pr K next) : o.wp P a w next Q := by
  simp only [Step] at hst
  split at hst
  · rename_i k n k' m hxv hyv
    have ex := (ev_sound h hx hxv).1.int_inv
    have ey := (ev_sound h hy hyv).1.int_inv
    split at hst
    · rename_i hk
      subst hk
      split at hst
      · obtain ⟨hm, hst⟩ := hst
        exact fin_int h hd (by simp [execOp, ho, ex, ey, Sem.run_bind, Result.andThen, guard_int, binOp, Op.intDiv, hm]) hst ha
      · obtain ⟨hm, hst⟩ := hst
        exact fin_int h hd (by simp [execOp, ho, ex, ey, Sem.run_bind, Result.andThen, guard_int, binOp, Op.intDiv, hm]) hst ha
      · rename_i h1 h2
        split at hst
        · rename_i c hc
          cases op <;> simp only [bI, Option.some.injEq, reduceCtorEq] at hc <;> subst hc <;>
            first
              | exact fin_int h hd (by simp [execOp, ho, ex, ey, Sem.run_bind, Result.andThen, guard_int, binOp, Op.intArith, Op.intCmp]) hst ha
              | exact fin_bool h hd (by simp [execOp, ho, ex, ey, Sem.run_bind, Result.andThen, guard_int, binOp, Op.intArith, Op.intCmp]) hst ha
        · exact hst.elim
    · exact hst.elim
  · rename_i n m hxv hyv
    have ex := (ev_sound h hx hxv).1.str_inv
    have ey := (ev_sound h hy hyv).1.str_inv
    split at hst
    · obtain ⟨hl, hst⟩ := hst
      refine fin_str h hd ?_ hst ha
      have hl' : ¬ ((9223372036854775807 : Int) < (n.length : Int) + m.length) := by
        unfold maxLen at hl; omega
      simp [execOp, ho, ex, ey, Sem.run_bind, Result.andThen, guard_str, binOp, Op.stringOp, ByteArray.size, hl', ba_append]
    · split at hst
      · rename_i c hc
        cases op <;> simp only [bS, Option.some.injEq, reduceCtorEq] at hc <;> subst hc <;>
          exact fin_bool h hd (by simp [execOp, ho, ex, ey, Sem.run_bind, Result.andThen, guard_str, binOp, Op.stringOp, ba_toList]) hst ha
      · exact hst.elim
  · exact hst.elim

theorem run_eqb {t : TypeId} (ht : P.underlying t = some .bool) (n m : Bool) : (Op.equal t (.bool n) (.bool m)).run P w = .ok (n == m) w := by
  unfold Op.equal
  rw [show Op.maxDepth = 9999 + 1 from rfl, Op.equalIn]
  simp only [Sem.run_bind, run_underlying ht, Result.andThen_ok]
  rfl

theorem step_bqe {ng : Bool} {op : BinOp} {t t' : TypeId} {x y : Operand} {x' y' : Opd}
    (ho : o.op = .binOp op t x y t') (hop : (op = .eql ∧ ng = false) ∨ (op = .neq ∧ ng = true)) (hx : cO x = some x') (hy : cO y = some y') (ht : P.underlying t = some .bool)
    (h : Sim gl N w0 Pr φ s a w) (hd : ∀ t, o.dst = some t → t < N) (hst : Step P gl o.dst (.bqe ng x' y') hs s K) (ha : After gl N w0 Pr K next) : o.wp P a w next Q := by
  simp only [Step] at hst
  split at hst
  · rename_i n m hxv hyv
    have ex := (ev_sound h hx hxv).1.bool_inv
    have ey := (ev_sound h hy hyv).1.bool_inv
    rcases hop with ⟨rfl, rfl⟩ | ⟨rfl, rfl⟩
    · exact fin_bool h hd (by simp [execOp, ho, ex, ey, Sem.run_bind, Result.andThen, guard_bool, binOp, run_eqb ht]) hst ha
    · exact fin_bool h hd (by simp [execOp, ho, ex, ey, Sem.run_bind, Result.andThen, guard_bool, binOp, run_eqb ht]) hst ha
  · exact hst.elim

theorem kindT_info {t : TypeId} {k : Nat} (h : kindT P t = some k) {xs : Array Value} {off : Nat} {v : Value} (hx : xs[off]? = some v) : (part t xs off).run P w = .ok v w := by
  unfold kindT at h
  cases hu : P.underlying t with
  | none => simp [hu] at h
  | some d => cases d <;> simp [hu] at h <;> simp [part, isAgg, run_underlying hu, hx]

theorem run_eqC {d : Nat} {t : TypeId} {k : Nat} {c c' : AC} {b : Bool} {v v' : Value} (ht : kindT P t = some k) (hc : eqC k c c' = some b) (hv : KR Pr φ w c v) (hv' : KR Pr φ w c' v') :
    (Op.equalIn (d + 1) t v v').run P w = .ok b w := by
  unfold kindT at ht
  cases hu : P.underlying t with
  | none => simp [hu] at ht
  | some D =>
    cases D <;> simp [hu] at ht <;> subst ht <;> cases c <;> simp only [eqC, reduceCtorEq] at hc <;> cases c' <;> simp only [eqC, reduceCtorEq] at hc
    · obtain rfl := VR.bool_inv (φ := φ) (x := v) hv
      obtain rfl := VR.bool_inv (φ := φ) (x := v') hv'
      cases hc
      simp only [Op.equalIn, Sem.run_bind, run_underlying hu, Result.andThen_ok]; rfl
    · obtain rfl := VR.int_inv (φ := φ) (x := v) hv
      obtain rfl := VR.int_inv (φ := φ) (x := v') hv'
      split at hc
      · rename_i hk; subst hk
        cases hc
        simp [Op.equalIn, Sem.run_bind, run_underlying hu]
      · cases hc
    · obtain rfl := VR.str_inv (φ := φ) (x := v) hv
      obtain rfl := VR.str_inv (φ := φ) (x := v') hv'
      cases hc
      simp [Op.equalIn, Sem.run_bind, run_underlying hu, beq_toListBytes, ba_toList]

theorem run_eqCs {d : Nat} {vs us : List Value} : ∀ {fs : List Field} {i : Nat} {ks : List Nat} {cs cs' : List AC} {b : Bool}, flatK P i fs = some ks → eqCs ks cs cs' = some b →
    (∀ (j : Nat) (c : AC), cs[j]? = some c → ∃ v, vs.toArray[i + j]? = some v ∧ KR Pr φ w c v) → (∀ (j : Nat) (c : AC), cs'[j]? = some c → ∃ v, us.toArray[i + j]? = some v ∧ KR Pr φ w c v) →
    (Op.eqFields (d + 1) vs.toArray us.toArray fs).run P w = .ok b w
  | [], i, ks, cs, cs', b, hf, hb, hv, hu => by
    cases hf
    unfold eqCs at hb
    split at hb
    · cases hb; simp [Op.eqFields]
    · rename_i h; cases h
    · cases hb
  | f :: fs, i, ks, cs, cs', b, hf, hb, hv, hu => by
    unfold flatK at hf
    split at hf
    · rename_i k l h1 h2 h3 h4
      cases hf
      unfold eqCs at hb
      split at hb
      · rename_i h; cases h
      · rename_i k' ks' x xs y ys he
        cases he
        split at hb
        · rename_i b1 b2 e1 e2
          cases hb
          have h2' : f.offset = i := by simpa using h2
          obtain ⟨v, hv1, hv2⟩ := hv 0 x rfl
          obtain ⟨u, hu1, hu2⟩ := hu 0 y rfl
          have hn : f.name ≠ "_" := by simpa using h1
          have ih := run_eqCs (d := d) (fs := fs) (i := i + 1) h4 e2 (fun j c hj => by
              obtain ⟨v, h5, h6⟩ := hv (j + 1) c hj
              exact ⟨v, by rw [show i + 1 + j = i + (j + 1) by omega]; exact h5, h6⟩) (fun j c hj => by
              obtain ⟨v, h5, h6⟩ := hu (j + 1) c hj
              exact ⟨v, by rw [show i + 1 + j = i + (j + 1) by omega]; exact h5, h6⟩)
          rw [Op.eqFields]
          simp only [if_pos hn, Sem.run_bind]
          rw [h2', kindT_info h3 (show vs.toArray[i]? = some v from hv1)]
          simp only [Result.andThen_ok]
          rw [kindT_info h3 (show us.toArray[i]? = some u from hu1)]
          simp only [Result.andThen_ok]
          rw [run_eqC h3 e1 hv2 hu2]
          simp only [Result.andThen_ok]
          cases b1
          · simp
          · simpa using ih
        · cases hb
      · cases hb
    · cases hf

theorem guard_agg (op : BinOp) (t : TypeId) (x y : Operand) (a b : Array Value) (h : P.eqGuardType P.depth t = false) : (eqGuard op t x y (.agg a) (.agg b)).run P w = .ok () w := by
  unfold eqGuard; split <;> simp [h]

theorem step_eqa {ng : Bool} {op : BinOp} {t t' : TypeId} {x y : Operand} {x' y' : Opd} {fs : Array Field} {ks : List Nat}
    (ho : o.op = .binOp op t x y t') (hop : (op = .eql ∧ ng = false) ∨ (op = .neq ∧ ng = true)) (hx : cO x = some x') (hy : cO y = some y') (ht : P.underlying t = some (.struct fs)) (hk : eqT P t fs = some ks)
    (h : Sim gl N w0 Pr φ s a w) (hd : ∀ t, o.dst = some t → t < N) (hst : Step P gl o.dst (.eqa ng ks x' y') hs s K) (ha : After gl N w0 Pr K next) : o.wp P a w next Q := by
  simp only [Step] at hst
  split at hst
  · rename_i xs ys hxv hyv
    split at hst
    · rename_i b hb
      obtain ⟨vs, ex, hvs⟩ := (ev_sound h hx hxv).1
      obtain ⟨us, ey, hus⟩ := (ev_sound h hy hyv).1
      unfold eqT at hk
      split at hk
      · rename_i hh hg
        have hf : P.fieldsOf t = fs := by simp [Program.fieldsOf, ht]
        have hrun : (Op.equal t (.agg vs.toArray) (.agg us.toArray)).run P w = .ok b w := by
          show (Op.equalIn (9998 + 1 + 1) t _ _).run P w = _
          rw [run_equalIn_struct (P := P) w _ t _ _ (by rw [hf]; exact ht) hh, hf]
          refine run_eqCs (Pr := Pr) (φ := φ) hk hb (fun j c hj => ?_) (fun j c hj => ?_)
          · obtain ⟨v, h1, h2⟩ := hvs.get hj; exact ⟨v, by simpa using h1, h2⟩
          · obtain ⟨v, h1, h2⟩ := hus.get hj; exact ⟨v, by simpa using h1, h2⟩
        rcases hop with ⟨rfl, rfl⟩ | ⟨rfl, rfl⟩
        · exact fin_bool h hd (by simp [execOp, ho, ex, ey, Sem.run_bind, Result.andThen, guard_agg _ _ _ _ _ _ hg, binOp, hrun]) hst ha
        · exact fin_bool h hd (by simp [execOp, ho, ex, ey, Sem.run_bind, Result.andThen, guard_agg _ _ _ _ _ _ hg, binOp, hrun]) hst ha
      · cases hk
    · exact hst.elim
  · exact hst.elim

theorem step_not {t : TypeId} {x : Operand} {x' : Opd} (ho : o.op = .unOp .not t x) (hx : cO x = some x')
    (h : Sim gl N w0 Pr φ s a w) (hd : ∀ t, o.dst = some t → t < N) (hst : Step P gl o.dst (.not x') hs s K) (ha : After gl N w0 Pr K next) : o.wp P a w next Q := by
  simp only [Step] at hst
  split at hst
  · rename_i b hxv
    have ex := (ev_sound h hx hxv).1.bool_inv
    exact fin_bool h hd (by simp [execOp, ho, ex, Op.unary, Sem.run_bind, Result.andThen]) hst ha
  · exact hst.elim

theorem step_neg {t : TypeId} {x : Operand} {x' : Opd} (ho : o.op = .unOp .neg t x) (hx : cO x = some x')
    (h : Sim gl N w0 Pr φ s a w) (hd : ∀ t, o.dst = some t → t < N) (hst : Step P gl o.dst (.neg x') hs s K) (ha : After gl N w0 Pr K next) : o.wp P a w next Q := by
  simp only [Step] at hst
  split at hst
  · rename_i k n hxv
    have ex := (ev_sound h hx hxv).1.int_inv
    exact fin_int h hd (by simp [execOp, ho, ex, Op.unary, Op.intArith, Sem.run_bind, Result.andThen]) hst ha
  · exact hst.elim

theorem step_conv {src dst : TypeId} {k0 k : IntKind} {x : Operand} {x' : Opd} (ho : o.op = .convert src dst x) (hs1 : P.underlying src = some (.int k0)) (hs2 : P.underlying dst = some (.int k)) (hx : cO x = some x')
    (h : Sim gl N w0 Pr φ s a w) (hd : ∀ t, o.dst = some t → t < N) (hst : Step P gl o.dst (.conv k x') hs s K) (ha : After gl N w0 Pr K next) : o.wp P a w next Q := by
  simp only [Step] at hst
  split at hst
  · rename_i k' n hxv
    have ex := (ev_sound h hx hxv).1.int_inv
    exact fin_int h hd (by simp [execOp, ho, ex, convert, run_underlying hs1, run_underlying hs2, Conv.intToInt, Sem.run_bind, Result.andThen]) hst ha
  · exact hst.elim

theorem step_mx {mx : Bool} {c : Call} {x y : Operand} {x' y' : Opd} (ho : o.op = .call c) (hc : c.callee = .builtin (bif mx then .max else .min)) (hxs : c.args = #[x, y]) (hx : cO x = some x') (hy : cO y = some y')
    (h : Sim gl N w0 Pr φ s a w) (hd : ∀ t, o.dst = some t → t < N) (hst : Step P gl o.dst (.mx mx x' y') hs s K) (ha : After gl N w0 Pr K next) : o.wp P a w next Q := by
  simp only [Step] at hst
  split at hst
  · rename_i k n k' m hxv hyv
    have ex := (ev_sound h hx hxv).1.int_inv
    have ey := (ev_sound h hy hyv).1.int_inv
    split at hst
    · rename_i hk; subst hk
      cases mx
      · exact fin_int h hd (by simp [execOp, ho, resolve, hc, hxs, invoke, builtin, Builtin.min_, Builtin.min2, ex, ey, Sem.run_bind, Result.andThen]) hst ha
      · exact fin_int h hd (by simp [execOp, ho, resolve, hc, hxs, invoke, builtin, Builtin.max_, Builtin.max2, ex, ey, Sem.run_bind, Result.andThen]) hst ha
    · exact hst.elim
  · exact hst.elim
end
end Go.Proofs.YtfmeidhialmckaaGreatDoor.Ab

namespace Go.Proofs.YtfmeidhialmckaaGreatDoor.Ab
open Go Go.RowKit

theorem Addr.add_block (a : Addr) (n : Nat) : (a.add n).block = a.block := by unfold Addr.add; split <;> rfl
theorem Addr.add_add (a : Addr) (n m : Nat) : (a.add n).add m = a.add (n + m) := by
  unfold Addr.add
  by_cases hn : n = 0
  · subst hn; simp
  · by_cases hm : m = 0
    · subst hm; simp
    · have : ¬ (n = 0 ∧ m = 0) := by omega
      simp [hn, hm, this, Nat.add_assoc]
theorem Addr.add_flat (b o n : Nat) : (⟨b, o, none⟩ : Addr).add n = ⟨b, o + n, none⟩ := by
  unfold Addr.add; split <;> simp_all
theorem cell_flat {w : World} {b : Nat} {arr : Array Value} {T : TypeId} {z : Nat × Nat} (h : w.heap[b]? = some (.cells arr T z)) (o : Nat) : w.cell? ⟨b, o, none⟩ = arr[o]? := by
  simp [World.cell?, h]

section
variable {P : Program} {gl : Nat → Option (List AC)} {N : Nat} {w0 : World} {Pr : Nat → Prop} {φ : Nat → Option (Option Nat)} {s : St} {a : Act} {w : World}
  {o : Oper} {hs : List Hint} {K : List Hint → St → Prop} {next : Act → World → Prop} {Q : Exit → Act → World → Prop}

theorem run_isAgg {t : TypeId} {g : Bool} (h : aggT P t = some g) : (isAgg t).run P w = .ok g w := by
  unfold aggT at h
  split at h <;> first | cases h | skip
  · rename_i fs hu; simp [isAgg, Sem.run_bind, run_underlying hu, Result.andThen]
  · rename_i n e hu; simp [isAgg, Sem.run_bind, run_underlying hu, Result.andThen]
  · rename_i d h1 h2 hu
    simp only [isAgg, Sem.run_bind, run_underlying hu, Result.andThen_ok]
    cases d <;> first | rfl | (exact absurd hu (h1 _)) | (exact absurd hu (h2 _ _))

theorem run_size {t : TypeId} (h : (P.info? t).isSome = true) : (sizeOf t).run P w = .ok (P.cellsOf t) w := by
  obtain ⟨i, hi⟩ := Option.isSome_iff_exists.1 h
  simp [sizeOf, typeInfo, program, Sem.run_bind, Result.andThen, hi, Sem.run, Program.cellsOf]

theorem load_sound {R : AC → Value → Prop} {cs : List AC} {i wd : Nat} {g : Bool} {v : AV} {t : TypeId} {ad : Addr}
    (hl : loadC cs i wd g = some v) (hg : aggT P t = some g) (hi : (P.info? t).isSome = true) (hw : P.cellsOf t = wd)
    (hr : ∀ (j : Nat) c, cs[i + j]? = some c → ∃ x, w.cell? (ad.add j) = some x ∧ R c x) :
    ∃ x, (loadVar t ad).run P w = .ok x w ∧ VR R v x ∧ ∀ c ∈ v.cells, c ∈ cs := by
  unfold loadC at hl
  cases g with
  | true =>
    simp only at hl
    split at hl
    · rename_i hlen
      simp only [Option.some.injEq] at hl
      subst hl
      simp only [List.length_take, List.length_drop] at hlen
      have hx : ∀ j, j < wd → ∃ x, w.cell? (ad.add j) = some x ∧ ∀ c, cs[i + j]? = some c → R c x := by
        intro j hj
        have hlt : i + j < cs.length := by omega
        obtain ⟨x, h1, h2⟩ := hr j cs[i + j] (List.getElem?_eq_getElem hlt)
        refine ⟨x, h1, fun c hc => ?_⟩
        rw [List.getElem?_eq_getElem hlt] at hc
        cases hc
        exact h2
      have hch : ∃ f : Nat → Value, ∀ j, j < wd → w.cell? (ad.add j) = some (f j) ∧ ∀ c, cs[i + j]? = some c → R c (f j) := by
        refine ⟨fun j => if h : j < wd then (hx j h).choose else undef, fun j hj => ?_⟩
        simp only [hj, dif_pos]
        exact (hx j hj).choose_spec
      obtain ⟨f, hf⟩ := hch
      refine ⟨.agg ((List.range wd).map f).toArray, ?_, ⟨(List.range wd).map f, rfl, by simp; omega, ?_⟩, ?_⟩
      · simp only [loadVar, Sem.run_bind, run_isAgg hg, Result.andThen_ok, if_true, run_size hi, hw, run_loadCells w ad wd f (fun j hj => (hf j hj).1)]
        rfl
      · intro j c x hc hx'
        simp only [List.getElem?_take, List.getElem?_drop] at hc
        split at hc
        · rename_i hj
          rw [List.getElem?_map, List.getElem?_range hj] at hx'
          simp only [Option.map_some, Option.some.injEq] at hx'
          subst hx'
          exact (hf j hj).2 c hc
        · cases hc
      · intro c hc
        exact List.mem_of_mem_drop (List.mem_of_mem_take hc)
    · cases hl
  | false =>
    simp only at hl
    split at hl
    · rename_i c hc
      simp only [Option.some.injEq] at hl
      subst hl
      obtain ⟨x, h1, h2⟩ := hr 0 c (by simpa using hc)
      rw [show ad.add 0 = ad from rfl] at h1
      refine ⟨x, ?_, h2, fun c' hc' => ?_⟩
      · simp only [loadVar, Sem.run_bind, run_isAgg hg, Result.andThen_ok, Bool.false_eq_true, if_false, run_load, h1]
      · simp only [AV.cells, List.mem_singleton] at hc'
        subst hc'
        exact List.mem_of_getElem? hc
    · cases hl

theorem keys_sub {v : AV} {cs : List AC} {u : List Nat} (h : ∀ c ∈ v.cells, c ∈ cs) (hk : ∀ k ∈ cs.flatMap AC.keys, k ∈ u) : ∀ k ∈ v.keys, k ∈ u := by
  intro k hk'
  rw [AV.keys_eq] at hk'
  obtain ⟨c, hc, hkc⟩ := List.mem_flatMap.1 hk'
  exact hk k (List.mem_flatMap.2 ⟨c, h c hc, hkc⟩)

theorem VR.pd_inv {cs : List AC} {i : Nat} {x : Value} (h : VR (KR Pr φ w) (.c (.pd cs i)) x) :
    ∃ ad : Addr, x = .pointer (some ad) ∧ ∀ (j : Nat) c, cs[i + j]? = some c → Pr ad.block ∧ ∃ y, w.cell? (ad.add j) = some y ∧ DR Pr w c y := by
  have h' : DR Pr w (.pd cs i) x := h
  cases h' with
  | pd _ _ ad g hr hd => exact ⟨ad, rfl, fun j c hj => ⟨(hr j c hj).1, g j, (hr j c hj).2, hd j c hj⟩⟩

theorem VR.sl_inv {wd n : Nat} {f : Nat → List AC} {x : Value} (h : VR (KR Pr φ w) (.c (.sl wd n f)) x) :
    (n = 0 ∧ x = .slice none 0 0) ∨ ∃ (ad : Addr) (cap : Nat), x = .slice (some ad) n cap ∧ n ≤ cap ∧ cap ≤ maxLen ∧ (∀ i, i < n → (f i).length = wd) ∧
      ∀ (i j : Nat) c, i < n → (f i)[j]? = some c → Pr ad.block ∧ ∃ y, w.cell? (ad.add (i * wd + j)) = some y ∧ DR Pr w c y := by
  have h' : DR Pr w (.sl wd n f) x := h
  cases h' with
  | slN => exact .inl ⟨rfl, rfl⟩
  | sl _ _ _ ad cap g hn hc hl hr hd => exact .inr ⟨ad, cap, rfl, hn, hc, hl, fun i j c hi hj => ⟨(hr i j c hi hj).1, g i j, (hr i j c hi hj).2, hd i j c hi hj⟩⟩

theorem VR.pk_inv (h : Sim gl N w0 Pr φ s a w) {k i : Nat} {x : Value} (hv : VR (KR Pr φ w) (.c (.pk k i)) x) {blk : Blk} (hb : s.h k = some blk) :
    ∃ b arr T, φ k = some (some b) ∧ x = .pointer (some ⟨b, i, none⟩) ∧ w.heap[b]? = some (.cells arr T (0, 0)) ∧ BR Pr φ w (some b) blk := by
  obtain ⟨p, h1, h2⟩ := h.hp k blk hb
  have hv' : KR0 Pr φ w (.pk k i) x := hv
  obtain ⟨b, hp, hx⟩ := hv'.2 p h1
  subst hp
  obtain ⟨arr, T, hh⟩ := h.alive h1
  exact ⟨b, arr, T, h1, hx, hh, h2⟩

theorem VR.pa_inv (h : Sim gl N w0 Pr φ s a w) {k wd i q : Nat} {x : Value} (hv : VR (KR Pr φ w) (.c (.pa k wd i q)) x) {blk : Blk} (hb : s.h k = some blk) :
    ∃ b arr T, φ k = some (some b) ∧ x = .pointer (some ⟨b, i * wd + q, none⟩) ∧ w.heap[b]? = some (.cells arr T (0, 0)) ∧ BR Pr φ w (some b) blk := by
  obtain ⟨p, h1, h2⟩ := h.hp k blk hb
  have hv' : KR0 Pr φ w (.pa k wd i q) x := hv
  obtain ⟨b, hp, hx⟩ := hv'.2 p h1
  subst hp
  obtain ⟨arr, T, hh⟩ := h.alive h1
  exact ⟨b, arr, T, h1, hx, hh, h2⟩

theorem step_load {t : TypeId} {x : Operand} {x' : Opd} {g : Bool} (ho : o.op = .load t x) (hx : cO x = some x') (hg : aggT P t = some g) (hi : (P.info? t).isSome = true)
    (h : Sim gl N w0 Pr φ s a w) (hd : ∀ t, o.dst = some t → t < N) (hst : Step P gl o.dst (.load (P.cellsOf t) g x') hs s K) (ha : After gl N w0 Pr K next) : o.wp P a w next Q := by
  simp only [Step] at hst
  split at hst
  · rename_i cs i hxv
    obtain ⟨h1, h2⟩ := ev_sound h hx hxv
    obtain ⟨ad, hx', hr⟩ := h1.pd_inv
    split at hst
    · rename_i v hv
      obtain ⟨y, h3, h4, h5⟩ := load_sound (P := P) (w := w) (R := DR Pr w) hv hg hi rfl (ad := ad) (fun j c hj => (hr j c hj).2)
      have hk : ∀ c ∈ v.cells, AC.keys c = [] := by
        intro c hc
        obtain ⟨j, hj⟩ := List.mem_iff_getElem?.1 hc
        cases v with
        | c x1 => simp [AV.cells] at hc; subst hc; exact (KR.of_dr (φ := φ) h4).2
        | agg xs => obtain ⟨vs, h6, h7⟩ := h4; obtain ⟨v', _, h8⟩ := h7.get hj; exact (KR.of_dr (φ := φ) h8).2
        | tup xs => unfold loadC at hv; split at hv <;> (split at hv <;> cases hv)
      refine fin_value h hd (by simp [execOp, ho, Instr.loadAt, hx', Instr.sureAddr, Sem.run_bind, Result.andThen, h3]) (h4.mono fun c _ v hc => (KR.of_dr hc).1) ?_ hst ha
      intro k hk'
      rw [AV.keys_eq] at hk'
      obtain ⟨c, hc, hkc⟩ := List.mem_flatMap.1 hk'
      rw [hk c hc] at hkc
      cases hkc
    · exact hst.elim
  · rename_i k i hxv
    obtain ⟨h1, h2⟩ := ev_sound h hx hxv
    split at hst
    · rename_i cs z hb
      obtain ⟨b, arr, T, hf, hx', hh, hB⟩ := VR.pk_inv h h1 hb
      obtain ⟨b', arr', T', e1, hh', hcs⟩ := hB
      cases e1
      rw [hh] at hh'
      cases hh'
      split at hst
      · rename_i v hv
        obtain ⟨y, h3, h4, h5⟩ := load_sound (P := P) (w := w) (R := KR Pr φ w) hv hg hi rfl (ad := ⟨b, i, none⟩) (fun j c hj => by
          obtain ⟨y, h6, h7⟩ := hcs.get hj
          exact ⟨y, by rw [Addr.add_flat, cell_flat hh]; simpa using h6, h7⟩)
        exact fin_value h hd (by simp [execOp, ho, Instr.loadAt, hx', Instr.sureAddr, Sem.run_bind, Result.andThen, h3]) h4 (keys_sub h5 (h.kh k _ hb)) hst ha
      · exact hst.elim
    · exact hst.elim
  · rename_i k wd i q hxv
    obtain ⟨h1, h2⟩ := ev_sound h hx hxv
    split at hst
    · rename_i wd' n f z hb
      obtain ⟨b, arr, T, hf, hx', hh, hB⟩ := VR.pa_inv h h1 hb
      split at hst
      · rename_i hwd
        subst hwd
        obtain ⟨hin, hst⟩ := hst
        split at hst
        · rename_i v hv
          obtain ⟨hw0, hB | ⟨b', arr', T', e1, hh', _, _, hel⟩⟩ := hB
          · cases hB.1
          · cases e1
            rw [hh] at hh'
            cases hh'
            obtain ⟨y, h3, h4, h5⟩ := load_sound (P := P) (w := w) (R := DR Pr w) hv hg hi rfl (ad := ⟨b, i * wd + q, none⟩) (fun j c hj => by
              obtain ⟨y, h6, h7⟩ := (hel i hin).2 (q + j) c hj
              exact ⟨y, by rw [Addr.add_flat, cell_flat hh]; simpa [Nat.add_assoc] using h6, h7⟩)
            refine fin_value h hd (by simp [execOp, ho, Instr.loadAt, hx', Instr.sureAddr, Sem.run_bind, Result.andThen, h3]) (h4.mono fun c _ v hc => (KR.of_dr hc).1) ?_ hst ha
            intro k' hk'
            rw [AV.keys_eq] at hk'
            obtain ⟨c, hc, hkc⟩ := List.mem_flatMap.1 hk'
            obtain ⟨j, hj⟩ := List.mem_iff_getElem?.1 (h5 c hc)
            obtain ⟨y', _, h8⟩ := (hel i hin).2 j c hj
            rw [(KR.of_dr (φ := φ) h8).2] at hkc
            cases hkc
        · exact hst.elim
      · exact hst.elim
    · exact hst.elim
  · exact hst.elim
end
end Go.Proofs.YtfmeidhialmckaaGreatDoor.Ab

namespace Go.Proofs.YtfmeidhialmckaaGreatDoor.Ab
open Go Go.RowKit

section
variable {P : Program} {gl : Nat → Option (List AC)} {N : Nat} {w0 : World} {Pr : Nat → Prop} {φ : Nat → Option (Option Nat)} {s : St} {a : Act} {w : World}
  {o : Oper} {hs : List Hint} {K : List Hint → St → Prop} {next : Act → World → Prop} {Q : Exit → Act → World → Prop}

theorem VR.own_inv (h : Sim gl N w0 Pr φ s a w) {k wd off n : Nat} {x : Value} (hv : VR (KR Pr φ w) (.c (.own k wd off n)) x) {blk : Blk} (hb : s.h k = some blk) :
    (φ k = some none ∧ x = .slice none 0 0 ∧ n = 0 ∧ off = 0 ∧ BR Pr φ w none blk) ∨
    ∃ b arr T cap, φ k = some (some b) ∧ x = .slice (some ⟨b, off * wd, none⟩) n cap ∧ n ≤ cap ∧ (off + cap) * wd ≤ arr.size ∧ w.heap[b]? = some (.cells arr T (0, 0)) ∧ BR Pr φ w (some b) blk := by
  obtain ⟨p, h1, h2⟩ := h.hp k blk hb
  have hv' : KR0 Pr φ w (.own k wd off n) x := hv
  have h3 := hv'.2 p h1
  cases p with
  | none => exact .inl ⟨h1, h3.1, h3.2.1, h3.2.2, h2⟩
  | some b =>
    obtain ⟨cap, h4, h5, h6⟩ := h3
    obtain ⟨arr, T, hh⟩ := h.alive h1
    refine .inr ⟨b, arr, T, cap, h1, h4, h5, ?_, hh, h2⟩
    simpa [bsize, hh] using h6

theorem run_len {c : Call} {x : Operand} {t e : TypeId} (ho : o.op = .call c) (hc : c.callee = .builtin .len) (hxs : c.args = #[x])
    (ht : c.argTypes[0]? = some t) (hu : P.underlying t = some (.slice e)) {n cap : Nat} {ad : Option Addr} (he : a.eval x = .slice ad n cap) :
    (execOp a.eval o).run P w = .ok (.value (.int .i64 n)) w := by
  simp [execOp, ho, resolve, hc, hxs, invoke, builtin, Builtin.len_, ht, he, Sem.run_bind, Result.andThen, run_underlying hu, goInt]

theorem le_of_mul_le {n m k : Nat} (h : n * k ≤ m * k) (hk : 0 < k) : n ≤ m := Nat.le_of_mul_le_mul_right h hk

theorem step_len {c : Call} {x : Operand} {x' : Opd} {t e : TypeId} (ho : o.op = .call c) (hc : c.callee = .builtin .len) (hxs : c.args = #[x]) (hx : cO x = some x')
    (ht : c.argTypes[0]? = some t) (hu : P.underlying t = some (.slice e))
    (h : Sim gl N w0 Pr φ s a w) (hd : ∀ t, o.dst = some t → t < N) (hst : Step P gl o.dst (.len x') hs s K) (ha : After gl N w0 Pr K next) : o.wp P a w next Q := by
  simp only [Step] at hst
  split at hst
  · rename_i wd n f hxv
    obtain ⟨h1, h2⟩ := ev_sound h hx hxv
    rcases h1.sl_inv with ⟨rfl, he⟩ | ⟨ad, cap, he, hn, hcap, _⟩
    · exact fin_int h hd (run_len ho hc hxs ht hu he) (hst (Nat.zero_le _)) ha
    · exact fin_int h hd (run_len ho hc hxs ht hu he) (hst (Nat.le_trans hn hcap)) ha
  · rename_i k wd off n hxv
    obtain ⟨h1, h2⟩ := ev_sound h hx hxv
    split at hst
    · rename_i wd' m f z hb
      split at hst
      · rename_i hwd
        subst hwd
        rcases h1.own_inv h hb with ⟨_, he, rfl, _, _⟩ | ⟨b, arr, T, cap, hf, he, hn, hcap, hh, hw, hB⟩
        · exact fin_int h hd (run_len ho hc hxs ht hu he) (hst (Nat.zero_le _)) ha
        · rcases hB with hB | ⟨b', arr', T', e1, hh', _, hmx, _⟩
          · cases hB.1
          · cases e1
            rw [hh] at hh'
            cases hh'
            refine fin_int h hd (run_len ho hc hxs ht hu he) (hst ?_) ha
            have : (off + cap) * wd ≤ maxLen * wd := Nat.le_trans hcap hmx
            have := le_of_mul_le this hw
            omega
      · exact hst.elim
    · exact hst.elim
  · rename_i hxv
    obtain ⟨h1, h2⟩ := ev_sound h hx hxv
    have he : a.eval x = .slice none 0 0 := by have h1' : DR Pr w .nil (a.eval x) := h1; generalize a.eval x = y at h1' ⊢; cases h1'; rfl
    exact fin_int h hd (run_len ho hc hxs ht hu he) hst ha
  · exact hst.elim

theorem step_lens {c : Call} {x : Operand} {x' : Opd} {t : TypeId} (ho : o.op = .call c) (hc : c.callee = .builtin .len) (hxs : c.args = #[x]) (hx : cO x = some x')
    (ht : c.argTypes[0]? = some t) (hu : P.underlying t = some .string)
    (h : Sim gl N w0 Pr φ s a w) (hd : ∀ t, o.dst = some t → t < N) (hst : Step P gl o.dst (.lens x') hs s K) (ha : After gl N w0 Pr K next) : o.wp P a w next Q := by
  simp only [Step] at hst
  split at hst
  · rename_i l hxv
    have ex := (ev_sound h hx hxv).1.str_inv
    have hz : (⟨l.toArray⟩ : ByteArray).size = l.length := List.size_toArray
    exact fin_int h hd (by simp [execOp, ho, resolve, hc, hxs, invoke, builtin, Builtin.len_, ht, ex, Sem.run_bind, Result.andThen, run_underlying hu, goInt, hz]) hst ha
  · exact hst.elim

theorem run_part {t : TypeId} {g : Bool} (hg : aggT P t = some g) (hi : (P.info? t).isSome = true) (cs : List Value) (off : Nat) (x : Value)
    (hx : match g with | true => x = .agg ((cs.drop off).take (P.cellsOf t)).toArray | false => cs[off]? = some x) : (part t cs.toArray off).run P w = .ok x w := by
  cases g with
  | true =>
    simp only at hx
    subst hx
    simp only [part, Sem.run_bind, run_isAgg hg, Result.andThen_ok, if_true, run_size hi]
    simp
  | false =>
    simp only at hx
    simp [part, Sem.run_bind, run_isAgg hg, Result.andThen_ok, hx]

theorem step_fld {t : TypeId} {i : Nat} {x : Operand} {x' : Opd} {g : Bool} {fs : Array Field} {f : Field} (ho : o.op = .field t x i) (hx : cO x = some x') (hu : P.underlying t = some (.struct fs)) (hf : fs[i]? = some f)
    (hg : aggT P f.type = some g) (hi : (P.info? f.type).isSome = true)
    (h : Sim gl N w0 Pr φ s a w) (hd : ∀ t, o.dst = some t → t < N) (hst : Step P gl o.dst (.fld f.offset (P.cellsOf f.type) g x') hs s K) (ha : After gl N w0 Pr K next) : o.wp P a w next Q := by
  simp only [Step] at hst
  split at hst
  · rename_i xs hxv
    obtain ⟨h1, h2⟩ := ev_sound h hx hxv
    obtain ⟨vs, he, hcs⟩ := h1
    split at hst
    · rename_i v hv
      have key : ∃ y, (part f.type vs.toArray f.offset).run P w = .ok y w ∧ VR (KR Pr φ w) v y ∧ ∀ c ∈ v.cells, c ∈ xs := by
        unfold loadC at hv
        cases g with
        | true =>
          simp only at hv
          split at hv
          · rename_i hlen
            simp only [Option.some.injEq] at hv
            subst hv
            refine ⟨_, run_part hg hi vs f.offset _ rfl, ⟨_, rfl, ?_, ?_⟩, fun c hc => List.mem_of_mem_drop (List.mem_of_mem_take hc)⟩
            · simp only [List.length_take, List.length_drop, hcs.1]
            · intro j c y hc hy
              simp only [List.getElem?_take, List.getElem?_drop] at hc hy
              split at hc
              · rename_i hj
                simp only [hj, if_true] at hy
                exact hcs.2 _ c y hc hy
              · cases hc
          · cases hv
        | false =>
          simp only at hv
          split at hv
          · rename_i c hc
            simp only [Option.some.injEq] at hv
            subst hv
            obtain ⟨y, h3, h4⟩ := hcs.get hc
            exact ⟨y, run_part hg hi vs f.offset _ h3, h4, fun c' hc' => by simp only [AV.cells, List.mem_singleton] at hc'; subst hc'; exact List.mem_of_getElem? hc⟩
          · cases hv
      obtain ⟨y, h3, h4, h5⟩ := key
      refine fin_value h hd ?_ h4 (keys_sub h5 h2) hst ha
      simp [execOp, ho, Instr.field, Sem.run_bind, Result.andThen, run_underlying hu, hf, he, asAgg, h3]
    · exact hst.elim
  · exact hst.elim

theorem VR.mkPd {cs : List AC} {i : Nat} {x : Value} (h : DR Pr w (.pd cs i) x) : VR (KR Pr φ w) (.c (.pd cs i)) x := (KR.of_dr (φ := φ) h).1
theorem VR.mkPk {k i b : Nat} (hf : φ k = some (some b)) : VR (KR Pr φ w) (.c (.pk k i)) (.pointer (some ⟨b, i, none⟩)) :=
  show KR0 Pr φ w (.pk k i) _ from ⟨rfl, fun p hp => by rw [hf] at hp; cases hp; exact ⟨b, rfl, rfl⟩⟩
theorem VR.mkPa {k wd i q b : Nat} (hf : φ k = some (some b)) : VR (KR Pr φ w) (.c (.pa k wd i q)) (.pointer (some ⟨b, i * wd + q, none⟩)) :=
  show KR0 Pr φ w (.pa k wd i q) _ from ⟨rfl, fun p hp => by rw [hf] at hp; cases hp; exact ⟨b, rfl, rfl⟩⟩

theorem DR.pd_shift {cs : List AC} {i off : Nat} {ad : Addr} (h : DR Pr w (.pd cs i) (.pointer (some ad))) : DR Pr w (.pd cs (i + off)) (.pointer (some (ad.add off))) := by
  cases h with
  | pd _ _ _ g hr hd =>
    refine .pd _ _ _ (fun j => g (off + j)) (fun j c hj => ?_) (fun j c hj => ?_)
    · rw [Nat.add_assoc] at hj
      exact ⟨by rw [Addr.add_block]; exact (hr _ c hj).1, by rw [Addr.add_add]; exact (hr _ c hj).2⟩
    · rw [Nat.add_assoc] at hj
      exact hd _ c hj

theorem step_fad {t : TypeId} {i : Nat} {x : Operand} {x' : Opd} {fs : Array Field} {f : Field} (ho : o.op = .fieldAddr t x i) (hx : cO x = some x') (hu : P.underlying t = some (.struct fs)) (hf : fs[i]? = some f)
    (hi : P.cellsOf f.type ≠ 0)
    (h : Sim gl N w0 Pr φ s a w) (hd : ∀ t, o.dst = some t → t < N) (hst : Step P gl o.dst (.fad f.offset x') hs s K) (ha : After gl N w0 Pr K next) : o.wp P a w next Q := by
  have hi' : (P.info? f.type).isSome = true := by
    cases hh : P.info? f.type with
    | none => simp [Program.cellsOf, hh] at hi
    | some _ => rfl
  have run : ∀ ad, a.eval x = .pointer (some ad) → (execOp a.eval o).run P w = .ok (.value (.pointer (some (ad.add f.offset)))) w := by
    intro ad he
    simp [execOp, ho, Instr.fieldAt, Sem.run_bind, Result.andThen, run_underlying hu, hf, he, Instr.sureAddr, fieldPlace, run_size hi', hi]
  simp only [Step] at hst
  split at hst
  · rename_i k j hxv
    obtain ⟨h1, h2⟩ := ev_sound h hx hxv
    split at hst
    · rename_i blk hb
      obtain ⟨b, arr, T, hfk, he, hh, hB⟩ := VR.pk_inv h h1 hb
      refine fin_value h hd (run _ he) (v := .c (.pk k (j + f.offset))) ?_ (by simpa [AV.keys, AC.keys, AC.keys0] using h2) hst ha
      rw [Addr.add_flat]; exact .mkPk hfk
    · exact hst.elim
  · rename_i cs j hxv
    obtain ⟨h1, h2⟩ := ev_sound h hx hxv
    obtain ⟨ad, he, _⟩ := h1.pd_inv
    rw [he] at h1
    exact fin_value h hd (run ad he) (.mkPd (DR.pd_shift (off := f.offset) h1)) (by simp [AV.keys, AC.keys, AC.keys0]) hst ha
  · rename_i k wd j q hxv
    obtain ⟨h1, h2⟩ := ev_sound h hx hxv
    split at hst
    · rename_i blk hb
      obtain ⟨b, arr, T, hfk, he, hh, hB⟩ := VR.pa_inv h h1 hb
      refine fin_value h hd (run _ he) (v := .c (.pa k wd j (q + f.offset))) ?_ (by simpa [AV.keys, AC.keys, AC.keys0] using h2) hst ha
      rw [Addr.add_flat, Nat.add_assoc]; exact .mkPa hfk
    · exact hst.elim
  · exact hst.elim

theorem DR.pd_of_ex {cs : List AC} {ad : Addr} (hr : ∀ (j : Nat) c, cs[j]? = some c → Pr ad.block ∧ ∃ y, w.cell? (ad.add j) = some y ∧ DR Pr w c y) : DR Pr w (.pd cs 0) (.pointer (some ad)) := by
  refine .pd _ _ _ (fun j => (w.cell? (ad.add j)).getD undef) (fun j c hj => ?_) (fun j c hj => ?_)
  · rw [Nat.zero_add] at hj
    obtain ⟨h1, y, h2, h3⟩ := hr j c hj
    exact ⟨h1, by rw [h2]; rfl⟩
  · rw [Nat.zero_add] at hj
    obtain ⟨h1, y, h2, h3⟩ := hr j c hj
    simpa [h2] using h3

theorem step_iad {t e : TypeId} {x i : Operand} {x' i' : Opd} (ho : o.op = .indexAddr t x i) (hx : cO x = some x') (hi : cO i = some i') (hu : P.underlying t = some (.slice e)) (hz : P.cellsOf e ≠ 0)
    (h : Sim gl N w0 Pr φ s a w) (hd : ∀ t, o.dst = some t → t < N) (hst : Step P gl o.dst (.iad (P.cellsOf e) x' i') hs s K) (ha : After gl N w0 Pr K next) : o.wp P a w next Q := by
  have hi2 : (P.info? e).isSome = true := by
    cases hh : P.info? e with
    | none => simp [Program.cellsOf, hh] at hz
    | some _ => rfl
  have run : ∀ ad n cap k j, a.eval x = .slice (some ad) n cap → a.eval i = .int k j → 0 ≤ j → j < n →
      (execOp a.eval o).run P w = .ok (.value (.pointer (some (ad.add (j.toNat * P.cellsOf e))))) w := by
    intro ad n cap k j he hj h0 h1
    simp [execOp, ho, Instr.indexAt, Sem.run_bind, Result.andThen, run_underlying hu, he, hj, asIntOf, run_size hi2, h0, h1]
  simp only [Step] at hst
  split at hst
  · rename_i wd n f k j ec hs' hxv hiv
    obtain ⟨h1, h2⟩ := ev_sound h hx hxv
    have ei := (ev_sound h hi hiv).1.int_inv
    split at hst
    · rename_i hwd
      subst hwd
      obtain ⟨⟨hj0, hjn⟩, hec, hst⟩ := hst
      subst hec
      rcases h1.sl_inv with ⟨rfl, he⟩ | ⟨ad, cap, he, hn, hcap, hlen, hel⟩
      · omega
      · have hlt : j.toNat < n := by omega
        refine fin_value h hd (run ad n cap k j he ei hj0 hjn) (.mkPd (DR.pd_of_ex (cs := f j.toNat) fun q c hq => ?_)) (by simp [AV.keys, AC.keys, AC.keys0]) hst ha
        rw [Addr.add_block, Addr.add_add]
        exact hel j.toNat q c hlt hq
    · exact hst.elim
  · rename_i kk wd off n k j hs' hxv hiv
    obtain ⟨h1, h2⟩ := ev_sound h hx hxv
    have ei := (ev_sound h hi hiv).1.int_inv
    split at hst
    · rename_i hwd
      subst hwd
      split at hst
      · rename_i blk hb
        obtain ⟨⟨hj0, hjn⟩, hst⟩ := hst
        rcases h1.own_inv h hb with ⟨_, he, rfl, _, _⟩ | ⟨b, arr, T, cap, hf, he, hn, hcap, hh, hB⟩
        · omega
        · refine fin_value h hd (run _ n cap k j he ei hj0 hjn) (v := .c (.pa kk (P.cellsOf e) (pl off j.toNat) 0)) ?_ (by simpa [AV.keys, AC.keys, AC.keys0] using h2) hst ha
          have e3 : pl off j.toNat = off + j.toNat := by cases off <;> simp [pl]
          rw [Addr.add_flat, ← Nat.add_mul, e3]
          exact .mkPa hf
      · exact hst.elim
    · exact hst.elim
  · exact hst.elim

theorem DR.pd_at {cs : List AC} {i j n : Nat} {ad : Addr} (h : DR Pr w (.pd cs i) (.pointer (some ad))) (ec : List AC) (he : (cs.drop (i + j)).take n = ec) : DR Pr w (.pd ec 0) (.pointer (some (ad.add j))) := by
  have h' := DR.pd_shift (off := j) h
  cases h' with
  | pd _ _ _ g hr hd =>
    refine DR.pd_of_ex fun q c hq => ?_
    rw [← he, List.getElem?_take, List.getElem?_drop] at hq
    split at hq
    · exact ⟨(hr q c hq).1, _, (hr q c hq).2, hd q c hq⟩
    · cases hq

theorem step_iar {t e : TypeId} {n : Nat} {x i : Operand} {x' i' : Opd} (ho : o.op = .indexAddr t x i) (hx : cO x = some x') (hi : cO i = some i') (hu : P.underlying t = some (.array n e)) (hz : P.cellsOf e ≠ 0)
    (h : Sim gl N w0 Pr φ s a w) (hd : ∀ t, o.dst = some t → t < N) (hst : Step P gl o.dst (.iar n (P.cellsOf e) x' i') hs s K) (ha : After gl N w0 Pr K next) : o.wp P a w next Q := by
  have hi2 : (P.info? e).isSome = true := by
    cases hh : P.info? e with
    | none => simp [Program.cellsOf, hh] at hz
    | some _ => rfl
  have run : ∀ ad k j, a.eval x = .pointer (some ad) → a.eval i = .int k j → 0 ≤ j → j < n →
      (execOp a.eval o).run P w = .ok (.value (.pointer (some (ad.add (j.toNat * P.cellsOf e))))) w := by
    intro ad k j he hj h0 h1
    simp [execOp, ho, Instr.indexAt, Sem.run_bind, Result.andThen, run_underlying hu, he, hj, asIntOf, run_size hi2, h0, h1, Instr.sureAddr]
  simp only [Step] at hst
  split at hst
  · rename_i k q kj j m hs' hxv hiv
    obtain ⟨h1, h2⟩ := ev_sound h hx hxv
    have ei := (ev_sound h hi hiv).1.int_inv
    split at hst
    · rename_i blk hb
      obtain ⟨⟨hj, hm⟩, hst⟩ := hst
      obtain ⟨b, arr, T, hfk, he, hh, hB⟩ := VR.pk_inv h h1 hb
      refine fin_value h hd (run _ _ j he ei (by omega) (by omega)) (v := .c (.pk k (q + m * P.cellsOf e))) ?_ (by simpa [AV.keys, AC.keys, AC.keys0] using h2) hst ha
      rw [Addr.add_flat, show j.toNat = m by omega]; exact .mkPk hfk
    · exact hst.elim
  · rename_i k wd' ei' q kj j m hs' hxv hiv
    obtain ⟨h1, h2⟩ := ev_sound h hx hxv
    have ei := (ev_sound h hi hiv).1.int_inv
    split at hst
    · rename_i blk hb
      obtain ⟨⟨hj, hm⟩, hst⟩ := hst
      obtain ⟨b, arr, T, hfk, he, hh, hB⟩ := VR.pa_inv h h1 hb
      refine fin_value h hd (run _ _ j he ei (by omega) (by omega)) (v := .c (.pa k wd' ei' (q + m * P.cellsOf e))) ?_ (by simpa [AV.keys, AC.keys, AC.keys0] using h2) hst ha
      rw [Addr.add_flat, show j.toNat = m by omega, Nat.add_assoc]; exact .mkPa hfk
    · exact hst.elim
  · rename_i cs q kj j m hs' hxv hiv
    obtain ⟨h1, h2⟩ := ev_sound h hx hxv
    have ei := (ev_sound h hi hiv).1.int_inv
    obtain ⟨⟨hj, hm⟩, hst⟩ := hst
    obtain ⟨ad, he, _⟩ := h1.pd_inv
    rw [he] at h1
    refine fin_value h hd (run _ _ j he ei (by omega) (by omega)) (v := .c (.pd cs (q + m * P.cellsOf e))) ?_ (by simp [AV.keys, AC.keys, AC.keys0]) hst ha
    rw [show j.toNat = m by omega]; exact .mkPd (DR.pd_shift h1)
  · rename_i cs q kj j ec hs' hxv hiv
    obtain ⟨h1, h2⟩ := ev_sound h hx hxv
    have ei := (ev_sound h hi hiv).1.int_inv
    obtain ⟨⟨hj, hm⟩, hec, hst⟩ := hst
    obtain ⟨ad, he, _⟩ := h1.pd_inv
    rw [he] at h1
    exact fin_value h hd (run _ _ j he ei hj hm) (v := .c (.pd ec 0)) (.mkPd (DR.pd_at h1 ec hec)) (by simp [AV.keys, AC.keys, AC.keys0]) hst ha
  · exact hst.elim

theorem step_ext {x : Operand} {x' : Opd} {i : Nat} (ho : o.op = .extract x i) (hx : cO x = some x')
    (h : Sim gl N w0 Pr φ s a w) (hd : ∀ t, o.dst = some t → t < N) (hst : Step P gl o.dst (.ext x' i) hs s K) (ha : After gl N w0 Pr K next) : o.wp P a w next Q := by
  simp only [Step] at hst
  split at hst
  · rename_i ps hxv
    obtain ⟨h1, h2⟩ := ev_sound h hx hxv
    obtain ⟨g, he, hg⟩ := h1
    have run : ∀ p, ps[i]? = some p → (execOp a.eval o).run P w = .ok (.value (g i)) w := by
      intro p hp
      have hlt : i < ps.length := (List.getElem?_eq_some_iff.1 hp).1
      simp [execOp, ho, he, Instr.extract, Sem.run_bind, Result.andThen, hlt]
    have hk : ∀ p, ps[i]? = some p → ∀ k ∈ p.2.flatMap AC.keys, k ∈ s.u := fun p hp k hk' => h2 k (List.mem_flatMap.2 ⟨p, List.mem_of_getElem? hp, hk'⟩)
    split at hst
    · rename_i c hp
      exact fin_value h hd (run _ hp) (v := .c c) (hg i _ hp) (by simpa [AV.keys] using hk _ hp) hst ha
    · rename_i cs hp
      exact fin_value h hd (run _ hp) (v := .agg cs) (hg i _ hp) (hk _ hp) hst ha
    · exact hst.elim
  · exact hst.elim

theorem step_ixs {t : TypeId} {x i : Operand} {x' i' : Opd} (ho : o.op = .index t x i) (hx : cO x = some x') (hi : cO i = some i') (hu : P.underlying t = some .string)
    (h : Sim gl N w0 Pr φ s a w) (hd : ∀ t, o.dst = some t → t < N) (hst : Step P gl o.dst (.ixs x' i') hs s K) (ha : After gl N w0 Pr K next) : o.wp P a w next Q := by
  simp only [Step] at hst
  split at hst
  · rename_i l k j hxv hiv
    have ex := (ev_sound h hx hxv).1.str_inv
    have ei := (ev_sound h hi hiv).1.int_inv
    obtain ⟨⟨h0, h1⟩, hst⟩ := hst
    have hlt : j.toNat < l.length := by omega
    have hb : (⟨l.toArray⟩ : ByteArray)[j.toNat]? = some (l.getD j.toNat 0) := by
      have hz : (⟨l.toArray⟩ : ByteArray).size = l.length := List.size_toArray
      rw [getElem?_pos _ _ (by rw [hz]; exact hlt)]
      simp [List.getD, List.getElem?_eq_getElem hlt]
      rfl
    exact fin_int h hd (by simp [execOp, ho, Instr.index, Sem.run_bind, Result.andThen, run_underlying hu, ex, ei, asIntOf, h0, hb]) hst ha
  · exact hst.elim
end
end Go.Proofs.YtfmeidhialmckaaGreatDoor.Ab

namespace Go.Proofs.YtfmeidhialmckaaGreatDoor.Ab
open Go Go.RowKit

section
variable {P : Program} {gl : Nat → Option (List AC)} {N : Nat} {w0 : World} {Pr : Nat → Prop} {φ : Nat → Option (Option Nat)} {s : St} {a : Act} {w : World}
  {o : Oper} {hs : List Hint} {K : List Hint → St → Prop} {next : Act → World → Prop} {Q : Exit → Act → World → Prop}

/-- What a new block must hold. -/
def Fits (Pr : Nat → Prop) (φ : Nat → Option (Option Nat)) (w : World) (u : List Nat) (arr : Array Value) : Blk → Prop
  | .var cs _ => cellsR (KR Pr φ w) cs arr.toList ∧ ∀ j ∈ cs.flatMap AC.keys, j ∈ u
  | .arr wd n f _ => 0 < wd ∧ n * wd ≤ arr.size ∧ arr.size ≤ maxLen * wd ∧ ∀ i, i < n → (f i).length = wd ∧ ∀ (j : Nat) (c : AC), (f i)[j]? = some c → ∃ v, arr[i * wd + j]? = some v ∧ DR Pr w c v

theorem not_mem_of_elem {u : List Nat} {k : Nat} (h : u.elem k = false) : k ∉ u := by
  intro hm
  have : u.elem k = true := List.elem_eq_true_of_mem hm
  rw [h] at this; cases this

theorem Sim.al (h : Sim gl N w0 Pr φ s a w) {k : Nat} (hk : s.u.elem k = false) {arr : Array Value} {T : TypeId} {blk : Blk} (hz : blk.fz = false) (hc : Fits Pr φ w s.u arr blk) :
    ∃ φ', φ' k = some (some w.heap.size) ∧ Sim gl N w0 Pr φ' (s.al k blk) a (w.alloc (.cells arr T)) := by
  have hk' := not_mem_of_elem hk
  have hb : Below w.heap.size w (w.alloc (.cells arr T)) := (Below.refl _ _).alloc (Nat.le_refl _) _
  have hsz : (w.alloc (.cells arr T)).heap.size = w.heap.size + 1 := Array.size_push _
  have hnew : (w.alloc (.cells arr T)).heap[w.heap.size]? = some (.cells arr T (0, 0)) := by
    show (w.heap.push _)[w.heap.size]? = _
    simp
  have h' := h.grow (Pr' := Pr) hb (fun _ x => x) (fun b x => ⟨by rw [hsz]; have := h.pr b x; omega, fun _ => x⟩)
  have hfk : φ k = none := h.lv k (by cases hh : s.h k with | none => rfl | some _ => exact absurd (h.ku k (by simp [hh])) hk')
  let φ' : Nat → Option (Option Nat) := fun j => if j = k then some (some w.heap.size) else φ j
  have hne : ∀ j, j ∈ s.u → φ' j = φ j := fun j hj => by simp only [φ']; rw [if_neg (fun (e : j = k) => hk' (e ▸ hj))]
  have hs : ∀ j b, φ j = some (some b) → bsize (w.alloc (.cells arr T)) b = bsize w b := fun j b hj => by unfold bsize; rw [hb.block b (h.lt hj)]
  have hw : ∀ b, Pr b → (w.alloc (.cells arr T)).heap[b]? = w.heap[b]? := fun b hb' => hb.block b (h.pr b hb')
  have hkr : ∀ c v, (∀ j ∈ c.keys, j ∈ s.u) → KR Pr φ w c v → KR Pr φ' (w.alloc (.cells arr T)) c v := fun c v hj hc => hc.mono (fun _ x => x) hw (fun j hj' p hp => by rw [hne j (hj j hj')] at hp; exact hp) hs
  refine ⟨φ', by simp [φ'], ⟨h.sz, fun t v ht => ?_, fun j b hj => ?_, fun j hj => ?_, fun j j' b hj hj' => ?_, fun j b bk hj hf => ?_, fun j hj => ?_, fun t v ht j hj => ?_, fun j bk hj q hq => ?_, h'.pr, h'.gk, h.df, h'.bl⟩⟩
  · obtain ⟨x, h1, h2⟩ := h.tm t v ht
    exact ⟨x, h1, h2.mono fun c hc v => hkr c v fun j hj => h.ke t _ ht j (by rw [AV.keys_eq]; exact List.mem_flatMap.2 ⟨c, hc, hj⟩)⟩
  · simp only [St.al] at hj
    by_cases e : j = k
    · subst e
      simp only [nbt, cond_true, Option.some.injEq] at hj
      subst hj
      refine ⟨some w.heap.size, by simp [φ'], ?_⟩
      cases blk with
      | var cs z => exact ⟨_, arr, T, rfl, hnew, hc.1.mono fun c hc' v => hkr c v fun q hq => hc.2 q (List.mem_flatMap.2 ⟨c, hc', hq⟩)⟩
      | arr wd n f z => exact ⟨hc.1, .inr ⟨_, arr, T, rfl, hnew, hc.2.1, hc.2.2.1, fun i hi => ⟨(hc.2.2.2 i hi).1, fun q c hq => by
          obtain ⟨v, h1, h2⟩ := (hc.2.2.2 i hi).2 q c hq
          exact ⟨v, h1, h2.mono (fun _ x => x) hw⟩⟩⟩⟩
    · simp only [nbf e, cond_false] at hj
      obtain ⟨p, h1, h2⟩ := h.hp j b hj
      refine ⟨p, by simp only [φ']; rw [if_neg e]; exact h1, ?_⟩
      cases b with
      | var cs z =>
        obtain ⟨b, arr', T', h3, h4, h5⟩ := h2
        subst h3
        exact ⟨b, arr', T', rfl, by rw [hb.block b (h.lt h1)]; exact h4, h5.mono fun c hc' v => hkr c v fun q hq => h.kh j _ hj q (List.mem_flatMap.2 ⟨c, hc', hq⟩)⟩
      | arr wd n f z =>
        obtain ⟨h0, h3 | ⟨b, arr', T', h3, h4, h5, h5', h6⟩⟩ := h2
        · exact ⟨h0, .inl h3⟩
        · subst h3
          refine ⟨h0, .inr ⟨b, arr', T', rfl, by rw [hb.block b (h.lt h1)]; exact h4, h5, h5', fun i hi => ⟨(h6 i hi).1, fun q c hq => ?_⟩⟩⟩
          obtain ⟨v, h7, h8⟩ := (h6 i hi).2 q c hq
          exact ⟨v, h7, h8.mono (fun _ x => x) hw⟩
  · simp only [St.al] at hj
    by_cases e : j = k
    · subst e; simp [nbt] at hj
    · simp only [nbf e, cond_false] at hj
      simp only [φ']; rw [if_neg e]; exact h.lv j hj
  · simp only [φ'] at hj hj'
    by_cases e : j = k <;> by_cases e' : j' = k
    · rw [e, e']
    · rw [if_pos e] at hj; rw [if_neg e'] at hj'; cases hj; exact absurd (h.lt hj') (by omega)
    · rw [if_neg e] at hj; rw [if_pos e'] at hj'; cases hj'; exact absurd (h.lt hj) (by omega)
    · rw [if_neg e] at hj; rw [if_neg e'] at hj'; exact h.inj j j' b hj hj'
  · simp only [St.al] at hj
    simp only [φ'] at hf
    by_cases e : j = k
    · subst e
      simp only [nbt, cond_true, Option.some.injEq] at hj
      subst hj
      rw [if_pos rfl] at hf; cases hf
      exact ⟨h.bl.size, fun hp => absurd (h.pr _ hp) (by omega), fun hp => by rw [hz] at hp; cases hp⟩
    · simp only [nbf e, cond_false] at hj
      rw [if_neg e] at hf
      exact h.ow j b bk hj hf
  · simp only [St.al] at hj ⊢
    by_cases e : j = k
    · subst e; simp
    · simp only [nbf e, cond_false] at hj
      exact List.mem_cons_of_mem _ (h.ku j hj)
  · exact List.mem_cons_of_mem _ (h.ke t v ht j hj)
  · simp only [St.al] at hj ⊢
    by_cases e : j = k
    · subst e
      simp only [nbt, cond_true, Option.some.injEq] at hj
      subst hj
      cases blk with
      | var cs z => exact List.mem_cons_of_mem _ (hc.2 q hq)
      | arr wd n f z => simp [Blk.keys] at hq
    · simp only [nbf e, cond_false] at hj
      exact List.mem_cons_of_mem _ (h.kh j bk hj q hq)

theorem run_zero {t : TypeId} {cs : List AC} (h : zeroC P t = some cs) : ∃ v : Value, (zeroValue t).run P w = .ok v w ∧ cellsR (DR Pr w) cs v.cells.toList ∧ ∃ i, P.info? t = some i ∧ i.zero = some v := by
  unfold zeroC at h
  split at h
  · rename_i i hi
    split at h
    · rename_i v hv
      refine ⟨v, by simp [zeroValue, typeInfo, program, Sem.run_bind, Result.andThen, hi, hv, Sem.run], ?_, i, hi, hv⟩
      have key : ∀ (l : List Value) (cs : List AC), l.mapM (fun x => match cV x with | some (.v c) => some c | _ => none) = some cs → cellsR (DR Pr w) cs l := by
        intro l
        induction l with
        | nil => intro cs hm; simp at hm; subst hm; exact ⟨rfl, by simp⟩
        | cons x r ih =>
          intro cs hm
          simp only [List.mapM_cons, Option.bind_eq_bind, Option.bind_eq_some_iff, Option.pure_def, Option.some.injEq] at hm
          obtain ⟨c, hc, cs', hcs, rfl⟩ := hm
          obtain ⟨h1, h2⟩ := ih cs' hcs
          refine ⟨by simp [h1], fun j c' v' hc' hv' => ?_⟩
          cases j with
          | zero =>
            simp only [List.getElem?_cons_zero, Option.some.injEq] at hc' hv'
            subst hc' hv'
            unfold cV at hc
            split at hc <;> first | cases hc | skip
            · rename_i hq; split at hq <;> first | cases hq | skip
              · exact .int ..
              · exact .bool ..
              · rename_i s'
                have := DR.str (Pr := Pr) (w := w) s'.data.toList
                rw [Array.toArray_toList] at this
                exact this
              · exact .nil
              · exact .nilIface
              · exact .nilFunc
              · exact .nilPtr
          | succ j => exact h2 j c' v' (by simpa using hc') (by simpa using hv')
      exact key _ _ h
    · cases h
  · cases h

theorem AV.one_cells {v : AV} {vc : List AC} (h : v.one = some vc) : v.cells = vc := by
  cases v <;> simp [AV.one] at h <;> simp [AV.cells, h]

/-- The cells of a value that is no tuple. -/
theorem VR.one_cells {R : AC → Value → Prop} {v : AV} {x : Value} (hn : ∀ c y, R c y → y.oneCell' = true) (h : VR R v x) {vc : List AC} (h1 : v.one = some vc) : cellsR R vc x.cells.toList := by
  cases v with
  | c y =>
    simp only [AV.one, Option.some.injEq] at h1; subst h1
    have hx : x.cells = #[x] := by
      have := hn y x h
      cases x <;> first | rfl | (simp [Value.oneCell'] at this)
    rw [hx]
    refine ⟨rfl, fun i c v hc hv => ?_⟩
    cases i with
    | zero => simp at hc hv; subst hc hv; exact h
    | succ i => simp at hc
  | agg xs =>
    simp only [AV.one, Option.some.injEq] at h1; subst h1
    obtain ⟨vs, h2, h3⟩ := h
    subst h2
    exact h3
  | tup xs => simp [AV.one] at h1

theorem step_box {t : TypeId} {x : Operand} {x' : Opd} (ho : o.op = .box t x) (hx : cO x = some x')
    (h : Sim gl N w0 Pr φ s a w) (hd : ∀ t, o.dst = some t → t < N) (hst : Step P gl o.dst (.box (P.cellsOf t) x') hs s K) (ha : After gl N w0 Pr K next) : o.wp P a w next Q := by
  simp only [Step] at hst
  split at hst
  · rename_i k v hk hxv
    obtain ⟨h1, h2⟩ := ev_sound h hx hxv
    split at hst
    · rename_i vc hke hone
      split at hst
      · rename_i hlen
        have hc := VR.one_cells (fun c y hy => KR.one hy) h1 hone
        obtain ⟨φ', hf, hsim⟩ := h.al (T := t) hke (arr := (a.eval x).cells) (blk := .var vc false) rfl ⟨hc, fun j hj => h2 j (by rw [AV.keys_eq, AV.one_cells hone]; exact hj)⟩
        unfold Oper.wp
        rw [show (execOp a.eval o).run P w = .ok (.value (.pointer (some ⟨w.heap.size, 0, none⟩))) (w.alloc (.cells (a.eval x).cells t)) by
          simp [execOp, ho, Instr.box, newVar, newRow, newObj, Sem.run_bind, Result.andThen, Sem.run]]
        rw [hk] at hst
        have hpu := hsim.pu (d := o.dst) hd (v := .c (.pk k 0)) (.mkPk hf) (by simp [AV.keys, AC.keys, AC.keys0, St.al])
        rw [hk] at hpu
        show next (a.put o.dst _) _
        rw [hk]
        exact ha _ _ _ _ _ _ hst hpu (PrS.refl _ _)
      · exact hst.elim
    · exact hst.elim
  · exact hst.elim

theorem step_alloc {t : TypeId} {z : List AC} (ho : o.op = .alloc t) (hz : zeroC P t = some z)
    (h : Sim gl N w0 Pr φ s a w) (hd : ∀ t, o.dst = some t → t < N) (hst : Step P gl o.dst (.alloc z) hs s K) (ha : After gl N w0 Pr K next) : o.wp P a w next Q := by
  simp only [Step] at hst
  split at hst
  · rename_i k hk
    split at hst
    · rename_i hke
      obtain ⟨v, hr, hcs, _⟩ := run_zero (Pr := Pr) (w := w) hz
      have hkk : ∀ j ∈ z.flatMap AC.keys, j ∈ s.u := by
        intro j hj
        obtain ⟨c, hc, hjc⟩ := List.mem_flatMap.1 hj
        obtain ⟨q, hq⟩ := List.mem_iff_getElem?.1 hc
        obtain ⟨y, _, h8⟩ := hcs.get hq
        rw [(KR.of_dr (φ := φ) h8).2] at hjc; cases hjc
      obtain ⟨φ', hf, hsim⟩ := h.al (T := t) hke (arr := v.cells) (blk := .var z false) rfl ⟨hcs.mono fun c _ y hy => (KR.of_dr hy).1, hkk⟩
      unfold Oper.wp
      rw [show (execOp a.eval o).run P w = .ok (.value (.pointer (some ⟨w.heap.size, 0, none⟩))) (w.alloc (.cells v.cells t)) by
        simp [execOp, ho, Instr.alloc, newVar, newRow, newObj, Sem.run_bind, Result.andThen, Sem.run, hr]]
      rw [hk] at hst
      have hpu := hsim.pu (d := o.dst) hd (v := .c (.pk k 0)) (.mkPk hf) (by simp [AV.keys, AC.keys, AC.keys0, St.al])
      rw [hk] at hpu
      show next (a.put o.dst _) _
      rw [hk]
      exact ha _ _ _ _ _ _ hst hpu (PrS.refl _ _)
    · exact hst.elim
  · exact hst.elim
end
end Go.Proofs.YtfmeidhialmckaaGreatDoor.Ab

namespace Go.Proofs.YtfmeidhialmckaaGreatDoor.Ab
open Go Go.RowKit

section
variable {P : Program} {gl : Nat → Option (List AC)} {N : Nat} {w0 : World} {Pr : Nat → Prop} {φ : Nat → Option (Option Nat)} {s : St} {a : Act} {w : World}
  {o : Oper} {hs : List Hint} {K : List Hint → St → Prop} {next : Act → World → Prop} {Q : Exit → Act → World → Prop}

/-- A block of the call's own that isn't kept from writing takes new cells. -/
theorem Sim.wr (h : Sim gl N w0 Pr φ s a w) {k b : Nat} {blk blk' : Blk} (hk : s.h k = some blk) (hf : φ k = some (some b)) (hz : blk.fz = false) (hz' : blk'.fz = false)
    {cur arr : Array Value} {T : TypeId} (hcur : w.heap[b]? = some (.cells cur T (0, 0))) (hsz : arr.size = cur.size) (hc : Fits Pr φ w s.u arr blk') :
    Sim gl N w0 Pr φ (s.sh k blk') a (w.setRow b arr) := by
  have how := h.ow k b blk hk hf
  have hnp : ¬ Pr b := fun hp => by have := how.2.1 hp; rw [hz] at this; cases this
  have hother : ∀ j, j ≠ b → (w.setRow b arr).heap[j]? = w.heap[j]? := fun j hj => setRow_other w b j arr hj
  have hnew : (w.setRow b arr).heap[b]? = some (.cells arr T (0, 0)) := setRow_heap w b cur arr T (0, 0) hcur
  have hw : ∀ j, Pr j → (w.setRow b arr).heap[j]? = w.heap[j]? := fun j hj => hother j (fun e => hnp (e ▸ hj))
  have hs : ∀ j c, φ j = some (some c) → bsize (w.setRow b arr) c = bsize w c := fun j c hj => by
    by_cases e : c = b
    · subst e; simp [bsize, hnew, hcur, hsz]
    · unfold bsize; rw [hother c e]
  have hkr : ∀ c v, KR Pr φ w c v → KR Pr φ (w.setRow b arr) c v := fun c v hc => hc.mono (fun _ x => x) hw (fun _ _ _ hp => hp) hs
  have hsize : (w.setRow b arr).heap.size = w.heap.size := setRow_size w b arr
  refine ⟨h.sz, fun t v ht => ?_, fun j bk hj => ?_, fun j hj => ?_, h.inj, fun j c bk hj hfj => ?_, fun j hj => ?_, h.ke, fun j bk hj q hq => ?_, fun j hj => by rw [hsize]; exact h.pr j hj,
    fun g cs hg => (h.gk g cs hg).mono (fun _ x => x) hw, h.df, below_setRow h.bl how.1 arr⟩
  · obtain ⟨x, h1, h2⟩ := h.tm t v ht
    exact ⟨x, h1, h2.mono fun c _ v => hkr c v⟩
  · simp only [St.sh] at hj
    by_cases e : j = k
    · subst e
      simp only [nbt, cond_true, Option.some.injEq] at hj
      subst hj
      refine ⟨some b, hf, ?_⟩
      cases blk' with
      | var cs z => exact ⟨_, arr, T, rfl, hnew, hc.1.mono fun c _ v => hkr c v⟩
      | arr wd n f z => exact ⟨hc.1, .inr ⟨_, arr, T, rfl, hnew, hc.2.1, hc.2.2.1, fun i hi => ⟨(hc.2.2.2 i hi).1, fun q c hq => by
          obtain ⟨v, h1, h2⟩ := (hc.2.2.2 i hi).2 q c hq
          exact ⟨v, h1, h2.mono (fun _ x => x) hw⟩⟩⟩⟩
    · simp only [nbf e, cond_false] at hj
      obtain ⟨p, h1, h2⟩ := h.hp j bk hj
      refine ⟨p, h1, ?_⟩
      have hpb : ∀ c, p = some c → c ≠ b := fun c hc' e2 => e (h.inj j k b (by rw [h1, hc', e2]) hf)
      cases bk with
      | var cs z =>
        obtain ⟨c, arr', T', h3, h4, h5⟩ := h2
        exact ⟨c, arr', T', h3, by rw [hother c (hpb c h3)]; exact h4, h5.mono fun c _ v => hkr c v⟩
      | arr wd n f z =>
        obtain ⟨h0, h3 | ⟨c, arr', T', h3, h4, h5, h5', h6⟩⟩ := h2
        · exact ⟨h0, .inl h3⟩
        · refine ⟨h0, .inr ⟨c, arr', T', h3, by rw [hother c (hpb c h3)]; exact h4, h5, h5', fun i hi => ⟨(h6 i hi).1, fun q c hq => ?_⟩⟩⟩
          obtain ⟨v, h7, h8⟩ := (h6 i hi).2 q c hq
          exact ⟨v, h7, h8.mono (fun _ x => x) hw⟩
  · simp only [St.sh] at hj
    by_cases e : j = k
    · subst e; simp [nbt] at hj
    · simp only [nbf e, cond_false] at hj; exact h.lv j hj
  · simp only [St.sh] at hj
    by_cases e : j = k
    · subst e
      simp only [nbt, cond_true, Option.some.injEq] at hj
      subst hj
      rw [hf] at hfj; cases hfj
      exact ⟨how.1, fun hp => absurd hp hnp, fun hp => by rw [hz'] at hp; cases hp⟩
    · simp only [nbf e, cond_false] at hj; exact h.ow j c bk hj hfj
  · simp only [St.sh] at hj
    by_cases e : j = k
    · subst e; exact h.ku j (by rw [hk]; simp)
    · simp only [nbf e, cond_false] at hj; exact h.ku j hj
  · simp only [St.sh] at hj
    by_cases e : j = k
    · subst e
      simp only [nbt, cond_true, Option.some.injEq] at hj
      subst hj
      cases blk' with
      | var cs z => exact hc.2 q hq
      | arr wd n f z => simp [Blk.keys] at hq
    · simp only [nbf e, cond_false] at hj; exact h.kh j bk hj q hq

/-- Of a key nothing is known any more. -/
theorem Sim.drop (h : Sim gl N w0 Pr φ s a w) (k : Nat) : Sim gl N w0 Pr (fun j => if j = k then none else φ j) (s.dr k) a w := by
  have hkr : ∀ c v, KR Pr φ w c v → KR Pr (fun j => if j = k then none else φ j) w c v := fun c v hc => hc.mono (fun _ x => x) (fun _ _ => rfl)
    (fun j _ p hp => by by_cases e : j = k <;> simp [e] at hp; exact hp) (fun _ _ _ => rfl)
  have hh : ∀ j bk, (s.dr k).h j = some bk → j ≠ k ∧ s.h j = some bk := fun j bk hj => by
    simp only [St.dr] at hj
    by_cases e : j = k
    · subst e; simp [nbt] at hj
    · simp only [nbf e, cond_false] at hj; exact ⟨e, hj⟩
  refine ⟨h.sz, fun t v ht => ?_, fun j bk hj => ?_, fun j hj => ?_, fun j j' b hj hj' => ?_, fun j c bk hj hfj => ?_, fun j hj => ?_, h.ke, fun j bk hj => h.kh j bk (hh j bk hj).2, h.pr, h.gk, h.df, h.bl⟩
  · obtain ⟨x, h1, h2⟩ := h.tm t v ht
    exact ⟨x, h1, h2.mono fun c _ v => hkr c v⟩
  · obtain ⟨e, hj⟩ := hh j bk hj
    obtain ⟨p, h1, h2⟩ := h.hp j bk hj
    refine ⟨p, by simp [e, h1], ?_⟩
    cases bk with
    | var cs z => obtain ⟨c, arr', T', h3, h4, h5⟩ := h2; exact ⟨c, arr', T', h3, h4, h5.mono fun c _ v => hkr c v⟩
    | arr wd n f z => exact h2
  · by_cases e : j = k
    · simp [e]
    · simp only [St.dr, nbf e, cond_false] at hj
      simp only [e, if_false]; exact h.lv j hj
  · by_cases e : j = k <;> by_cases e' : j' = k <;> simp [e, e'] at hj hj'
    exact h.inj j j' b hj hj'
  · obtain ⟨e, hj⟩ := hh j bk hj
    simp [e] at hfj
    exact h.ow j c bk hj hfj
  · cases hq : (s.dr k).h j with
    | none => exact absurd hq hj
    | some bk => exact h.ku j (by rw [(hh j bk hq).2]; simp)

/-- A nil slice, told as a row of the call's own. -/
theorem Sim.alnil (h : Sim gl N w0 Pr φ s a w) {k : Nat} (hk : s.u.elem k = false) {wd : Nat} {f : Nat → List AC} (hw : 0 < wd) :
    Sim gl N w0 Pr (fun j => if j = k then some none else φ j) (s.al k (.arr wd 0 f false)) a w := by
  have hk' := not_mem_of_elem hk
  have hkr : ∀ c v, (∀ j ∈ c.keys, j ∈ s.u) → KR Pr φ w c v → KR Pr (fun j => if j = k then some none else φ j) w c v := fun c v hj hc => hc.mono (fun _ x => x) (fun _ _ => rfl)
    (fun j hj' p hp => by rw [if_neg (fun (e : j = k) => hk' (e ▸ hj j hj'))] at hp; exact hp) (fun _ _ _ => rfl)
  have hh : ∀ j bk, (s.al k (.arr wd 0 f false)).h j = some bk → (j = k ∧ bk = .arr wd 0 f false) ∨ (j ≠ k ∧ s.h j = some bk) := fun j bk hj => by
    simp only [St.al] at hj
    by_cases e : j = k
    · subst e; simp [nbt] at hj; exact .inl ⟨rfl, hj.symm⟩
    · simp only [nbf e, cond_false] at hj; exact .inr ⟨e, hj⟩
  refine ⟨h.sz, fun t v ht => ?_, fun j bk hj => ?_, fun j hj => ?_, fun j j' b hj hj' => ?_, fun j c bk hj hfj => ?_, fun j hj => ?_, fun t v ht j hj => List.mem_cons_of_mem _ (h.ke t v ht j hj), fun j bk hj q hq => ?_, h.pr, h.gk, h.df, h.bl⟩
  · obtain ⟨x, h1, h2⟩ := h.tm t v ht
    exact ⟨x, h1, h2.mono fun c hc v => hkr c v fun j hj => h.ke t _ ht j (by rw [AV.keys_eq]; exact List.mem_flatMap.2 ⟨c, hc, hj⟩)⟩
  · rcases hh j bk hj with ⟨rfl, rfl⟩ | ⟨e, hj⟩
    · exact ⟨none, by simp, hw, .inl ⟨rfl, rfl⟩⟩
    · obtain ⟨p, h1, h2⟩ := h.hp j bk hj
      refine ⟨p, by simp [e, h1], ?_⟩
      cases bk with
      | var cs z => obtain ⟨c, arr', T', h3, h4, h5⟩ := h2; exact ⟨c, arr', T', h3, h4, h5.mono fun c hc v => hkr c v fun q hq => h.kh j _ hj q (List.mem_flatMap.2 ⟨c, hc, hq⟩)⟩
      | arr wd n f z => exact h2
  · simp only [St.al] at hj
    by_cases e : j = k
    · subst e; simp [nbt] at hj
    · simp only [nbf e, cond_false] at hj
      simp only [e, if_false]; exact h.lv j hj
  · by_cases e : j = k <;> by_cases e' : j' = k <;> simp [e, e'] at hj hj'
    exact h.inj j j' b hj hj'
  · rcases hh j bk hj with ⟨rfl, rfl⟩ | ⟨e, hj⟩
    · simp at hfj
    · simp [e] at hfj; exact h.ow j c bk hj hfj
  · cases hq : (s.al k (.arr wd 0 f false)).h j with
    | none => exact absurd hq hj
    | some bk =>
      rcases hh j bk hq with ⟨rfl, _⟩ | ⟨e, hq⟩
      · simp [St.al]
      · exact List.mem_cons_of_mem _ (h.ku j (by rw [hq]; simp))
  · rcases hh j bk hj with ⟨rfl, rfl⟩ | ⟨e, hj⟩
    · simp [Blk.keys] at hq
    · exact List.mem_cons_of_mem _ (h.kh j bk hj q hq)

/-- A key takes another name. -/
theorem Sim.rn (h : Sim gl N w0 Pr φ s a w) {k kd : Nat} {blk : Blk} (hk : s.h k = some blk) (hkd : s.u.elem kd = false) :
    Sim gl N w0 Pr (fun j => if j = kd then φ k else if j = k then none else φ j) ((s.dr k).al kd blk) a w := by
  have hk' := not_mem_of_elem hkd
  have hku : k ∈ s.u := h.ku k (by rw [hk]; simp)
  have hne : k ≠ kd := fun e => hk' (e ▸ hku)
  have hkr : ∀ c v, (∀ j ∈ c.keys, j ∈ s.u) → KR Pr φ w c v → KR Pr (fun j => if j = kd then φ k else if j = k then none else φ j) w c v := fun c v hj hc => hc.mono (fun _ x => x) (fun _ _ => rfl)
    (fun j hj' p hp => by
      rw [if_neg (fun (e : j = kd) => hk' (e ▸ hj j hj'))] at hp
      by_cases e : j = k <;> simp [e] at hp
      exact hp) (fun _ _ _ => rfl)
  have hh : ∀ j bk, ((s.dr k).al kd blk).h j = some bk → (j = kd ∧ bk = blk) ∨ (j ≠ kd ∧ j ≠ k ∧ s.h j = some bk) := fun j bk hj => by
    simp only [St.al, St.dr] at hj
    by_cases e : j = kd
    · subst e; simp [nbt] at hj; exact .inl ⟨rfl, hj.symm⟩
    · simp only [nbf e, cond_false] at hj
      by_cases e' : j = k
      · subst e'; simp [nbt] at hj
      · simp only [nbf e', cond_false] at hj; exact .inr ⟨e, e', hj⟩
  have hbr : ∀ j p bk, s.h j = some bk → BR Pr φ w p bk → BR Pr (fun j => if j = kd then φ k else if j = k then none else φ j) w p bk := fun j p bk hj h2 => by
    cases bk with
    | var cs z => obtain ⟨c, arr', T', h3, h4, h5⟩ := h2; exact ⟨c, arr', T', h3, h4, h5.mono fun c hc v => hkr c v fun q hq => h.kh j _ hj q (List.mem_flatMap.2 ⟨c, hc, hq⟩)⟩
    | arr wd n f z => exact h2
  refine ⟨h.sz, fun t v ht => ?_, fun j bk hj => ?_, fun j hj => ?_, fun j j' b hj hj' => ?_, fun j c bk hj hfj => ?_, fun j hj => ?_, fun t v ht j hj => List.mem_cons_of_mem _ (h.ke t v ht j hj), fun j bk hj q hq => ?_, h.pr, h.gk, h.df, h.bl⟩
  · obtain ⟨x, h1, h2⟩ := h.tm t v ht
    exact ⟨x, h1, h2.mono fun c hc v => hkr c v fun j hj => h.ke t _ ht j (by rw [AV.keys_eq]; exact List.mem_flatMap.2 ⟨c, hc, hj⟩)⟩
  · rcases hh j bk hj with ⟨rfl, rfl⟩ | ⟨e, e', hj⟩
    · obtain ⟨p, h1, h2⟩ := h.hp k bk hk
      exact ⟨p, by simp [h1], hbr k p bk hk h2⟩
    · obtain ⟨p, h1, h2⟩ := h.hp j bk hj
      exact ⟨p, by simp [e, e', h1], hbr j p bk hj h2⟩
  · simp only [St.al, St.dr] at hj
    by_cases e : j = kd
    · subst e; simp [nbt] at hj
    · simp only [nbf e, cond_false] at hj
      by_cases e' : j = k
      · simp [e, e', hne]
      · simp only [nbf e', cond_false] at hj
        simp only [e, e', if_false]; exact h.lv j hj
  · have hinj := h.inj
    by_cases e : j = kd <;> by_cases e' : j' = kd
    · rw [e, e']
    · simp only [e, e', if_true, if_false] at hj hj'
      by_cases e2 : j' = k <;> simp [e2] at hj'
      exact absurd (hinj k j' b hj hj') (fun e3 => e2 e3.symm)
    · simp only [e, e', if_true, if_false] at hj hj'
      by_cases e2 : j = k <;> simp [e2] at hj
      exact absurd (hinj j k b hj hj') e2
    · simp only [e, e', if_false] at hj hj'
      by_cases e2 : j = k <;> by_cases e3 : j' = k <;> simp [e2, e3] at hj hj'
      exact hinj j j' b hj hj'
  · rcases hh j bk hj with ⟨rfl, rfl⟩ | ⟨e, e', hj⟩
    · simp at hfj; exact h.ow k c bk hk hfj
    · simp [e, e'] at hfj; exact h.ow j c bk hj hfj
  · cases hq : ((s.dr k).al kd blk).h j with
    | none => exact absurd hq hj
    | some bk =>
      rcases hh j bk hq with ⟨rfl, _⟩ | ⟨e, e', hq⟩
      · simp [St.al]
      · exact List.mem_cons_of_mem _ (h.ku j (by rw [hq]; simp))
  · rcases hh j bk hj with ⟨rfl, rfl⟩ | ⟨e, e', hj⟩
    · exact List.mem_cons_of_mem _ (h.kh k bk hk q hq)
    · exact List.mem_cons_of_mem _ (h.kh j bk hj q hq)
end
end Go.Proofs.YtfmeidhialmckaaGreatDoor.Ab

namespace Go.Proofs.YtfmeidhialmckaaGreatDoor.Ab
open Go Go.RowKit

theorem setC_length (vc : List AC) : ∀ (cs : List AC) (i : Nat), (setC cs i vc).length = cs.length := by
  induction vc with
  | nil => intro cs i; rfl
  | cons c r ih => intro cs i; simp [setC, ih]

theorem setC_get (vc : List AC) : ∀ (cs : List AC) (i j : Nat), i + vc.length ≤ cs.length →
    (setC cs i vc)[j]? = if i ≤ j ∧ j < i + vc.length then vc[j - i]? else cs[j]? := by
  induction vc with
  | nil => intro cs i j h; simp [setC]; omega
  | cons c r ih =>
    intro cs i j h
    simp only [List.length_cons] at h
    rw [setC, ih _ _ _ (by simp; omega)]
    by_cases h1 : i + 1 ≤ j ∧ j < i + 1 + r.length
    · rw [if_pos h1, if_pos (by simp; omega), show j - i = (j - (i + 1)) + 1 by omega, List.getElem?_cons_succ]
    · rw [if_neg h1]
      by_cases h2 : j = i
      · subst h2
        rw [if_pos (by simp), List.getElem?_set_self (by omega)]
        simp
      · rw [if_neg (by simp; omega), List.getElem?_set_ne (fun e => h2 e.symm)]

theorem splice_get (l vs : List Value) (i j : Nat) (h : i + vs.length ≤ l.length) :
    (l.take i ++ vs ++ l.drop (i + vs.length))[j]? = if i ≤ j ∧ j < i + vs.length then vs[j - i]? else l[j]? := by
  by_cases h1 : j < i
  · rw [List.append_assoc, List.getElem?_append_left (by simp; omega), if_neg (by omega), List.getElem?_take_of_lt h1]
  · by_cases h2 : j < i + vs.length
    · rw [List.append_assoc, List.getElem?_append_right (by simp; omega), if_pos (by omega), List.getElem?_append_left (by simp; omega)]
      simp only [List.length_take]
      congr 1; omega
    · rw [if_neg (by omega), List.getElem?_append_right (by simp; omega), List.getElem?_drop]
      simp only [List.length_append, List.length_take]
      congr 1; omega

section
variable {P : Program} {gl : Nat → Option (List AC)} {N : Nat} {w0 : World} {Pr : Nat → Prop} {φ : Nat → Option (Option Nat)} {s : St} {a : Act} {w : World}
  {o : Oper} {hs : List Hint} {K : List Hint → St → Prop} {next : Act → World → Prop} {Q : Exit → Act → World → Prop}

theorem cellsR.one {R : AC → Value → Prop} {xs : List AC} {vs : List Value} (hn : ∀ c y, R c y → y.oneCell' = true) (h : cellsR R xs vs) : ∀ v ∈ vs, v.oneCell' = true := by
  intro v hv
  obtain ⟨i, hi⟩ := List.mem_iff_getElem?.1 hv
  have hlt : i < xs.length := by have := (List.getElem?_eq_some_iff.1 hi).1; rw [h.1] at this; exact this
  exact hn xs[i] v (h.2 i _ v (List.getElem?_eq_getElem hlt) hi)

theorem run_storeVar {t : TypeId} {b i : Nat} {v : Value} {cur : Array Value} {T : TypeId} (hi : (P.info? t).isSome = true) (hsz : v.cells.size = P.cellsOf t)
    (hh : w.heap[b]? = some (.cells cur T (0, 0))) (hfit : i + v.cells.size ≤ cur.size) (h1 : ∀ u ∈ v.cells.toList, u.oneCell' = true) :
    (storeVar t ⟨b, i, none⟩ v).run P w = .ok () (w.setRow b (cur.toList.take i ++ v.cells.toList ++ cur.toList.drop (i + v.cells.toList.length)).toArray) := by
  have hst := run_storeCells_at P b i T v.cells.toList 0 cur w hh (by simpa using hfit) h1
  simp only [Nat.add_zero] at hst
  simp only [storeVar, Sem.run_bind, run_size hi, Result.andThen_ok, hsz, ne_eq, not_true_eq_false, if_false, Sem.run_pure, hst]

theorem KR.isD {c : AC} {v : Value} (h : KR Pr φ w c v) (hd : c.isD = true) : DR Pr w c v := by
  cases c <;> first | exact h | (simp [AC.isD] at hd)

theorem step_store {t : TypeId} {x y : Operand} {x' y' : Opd} (ho : o.op = .store t x y) (hx : cO x = some x') (hy : cO y = some y') (hi : (P.info? t).isSome = true) (hod : o.dst = none)
    (h : Sim gl N w0 Pr φ s a w) (hd : ∀ t, o.dst = some t → t < N) (hst : Step P gl o.dst (.store (P.cellsOf t) x' y') hs s K) (ha : After gl N w0 Pr K next) : o.wp P a w next Q := by
  have fin : ∀ (ad : Addr) w' s' hs', a.eval x = .pointer (some ad) → (storeVar t ad (a.eval y)).run P w = .ok () w' → K hs' s' → Sim gl N w0 Pr φ s' a w' → o.wp P a w next Q := by
    intro ad w' s' hs' he hr hK hsim
    unfold Oper.wp
    rw [show (execOp a.eval o).run P w = .ok .skip w' by
      simp [execOp, ho, Instr.storeAt, he, Instr.sureAddr, Sem.run_bind, Result.andThen, hr]]
    show next (a.put o.dst undef) w'
    rw [hod]
    exact ha _ _ _ _ _ _ hK hsim (PrS.refl _ _)
  simp only [Step] at hst
  split at hst
  · rename_i k i v hxv hyv
    obtain ⟨h1, h2⟩ := ev_sound h hx hxv
    obtain ⟨h3, h4⟩ := ev_sound h hy hyv
    split at hst
    · rename_i cs vc hb hone
      split at hst
      · rename_i hlen
        split at hst
        · rename_i hfit
          obtain ⟨b, arr, T, hf, he, hh, hB⟩ := VR.pk_inv h h1 hb
          obtain ⟨b', arr', T', e1, hh', hcs⟩ := hB
          cases e1
          rw [hh] at hh'
          cases hh'
          have hvc := VR.one_cells (fun c y hy => KR.one hy) h3 hone
          have hvl : (a.eval y).cells.toList.length = vc.length := hvc.1
          have hvs : (a.eval y).cells.size = P.cellsOf t := by rw [← Array.length_toList, hvl, hlen]
          have hal : arr.size = cs.length := by rw [← Array.length_toList]; exact hcs.1
          have hkk : ∀ j ∈ (setC cs i vc).flatMap AC.keys, j ∈ s.u := by
            intro j hj
            obtain ⟨c, hc, hjc⟩ := List.mem_flatMap.1 hj
            obtain ⟨q, hq⟩ := List.mem_iff_getElem?.1 hc
            rw [setC_get vc cs i q (by omega)] at hq
            split at hq
            · exact h4 j (by rw [AV.keys_eq, AV.one_cells hone]; exact List.mem_flatMap.2 ⟨c, List.mem_of_getElem? hq, hjc⟩)
            · exact h.kh k _ hb j (List.mem_flatMap.2 ⟨c, List.mem_of_getElem? hq, hjc⟩)
          refine fin ⟨b, i, none⟩ _ _ _ he (run_storeVar hi hvs hh (by omega) (hvc.one fun c y hy => KR.one hy)) hst (h.wr hb hf rfl rfl hh ?_ ⟨⟨?_, ?_⟩, hkk⟩)
          · simp only [List.size_toArray, List.length_append, List.length_take, List.length_drop, Array.length_toList]; omega
          · simp only [List.length_append, List.length_take, List.length_drop, Array.length_toList, setC_length]; omega
          · intro q c u hc hu
            rw [setC_get vc cs i q (by omega)] at hc
            simp only [] at hu
            rw [splice_get _ _ _ _ (by rw [hvl]; have hL : arr.toList.length = arr.size := Array.length_toList; omega), hvl] at hu
            split at hc
            · rename_i hq; rw [if_pos hq] at hu; exact hvc.2 _ c u hc hu
            · rename_i hq; rw [if_neg hq] at hu; exact hcs.2 _ c u hc hu
        · exact hst.elim
      · exact hst.elim
    · exact hst.elim
  · rename_i k wd i q v hxv hyv
    obtain ⟨h1, h2⟩ := ev_sound h hx hxv
    obtain ⟨h3, h4⟩ := ev_sound h hy hyv
    split at hst
    · rename_i wd' n f vc n' f' hs' hb hone
      split at hst
      · rename_i hwd
        subst hwd
        split at hst
        · rename_i hlen
          obtain ⟨hdat, hin, hfit, hset, hst⟩ := hst
          obtain ⟨b, arr, T, hf, he, hh, hB⟩ := VR.pa_inv h h1 hb
          obtain ⟨hw0, hB | ⟨b', arr', T', e1, hh', hnsz, hmx, hel⟩⟩ := hB
          · cases hB.1
          · cases e1
            rw [hh] at hh'
            cases hh'
            have hvc := VR.one_cells (fun c y hy => KR.one hy) h3 hone
            have hvl : (a.eval y).cells.toList.length = vc.length := hvc.1
            have hvs : (a.eval y).cells.size = P.cellsOf t := by rw [← Array.length_toList, hvl, hlen]
            have hrow : i * wd + wd ≤ arr.size := by
              have : (i + 1) * wd ≤ n * wd := Nat.mul_le_mul_right _ hin
              rw [Nat.add_mul] at this; omega
            refine fin ⟨b, i * wd + q, none⟩ _ _ _ he (run_storeVar hi hvs hh (by omega) (hvc.one fun c y hy => KR.one hy)) hst (h.wr hb hf rfl rfl hh ?_ ⟨hw0, ?_, ?_, ?_⟩)
            · simp only [List.size_toArray, List.length_append, List.length_take, List.length_drop, Array.length_toList]; omega
            · simp only [List.size_toArray, List.length_append, List.length_take, List.length_drop, Array.length_toList]; omega
            · simp only [List.size_toArray, List.length_append, List.length_take, List.length_drop, Array.length_toList]; omega
            · intro j hj
              rw [hset j hj]
              have hget : ∀ r, (arr.toList.take (i * wd + q) ++ (a.eval y).cells.toList ++ arr.toList.drop (i * wd + q + (a.eval y).cells.toList.length)).toArray[r]? =
                  if i * wd + q ≤ r ∧ r < i * wd + q + vc.length then (a.eval y).cells.toList[r - (i * wd + q)]? else arr[r]? := by
                intro r
                rw [List.getElem?_toArray, splice_get _ _ _ _ (by rw [hvl]; have hL : arr.toList.length = arr.size := Array.length_toList; omega), hvl]
                simp
              by_cases hji : j = i
              · subst hji
                rw [if_pos rfl]
                refine ⟨by rw [setC_length]; exact (hel j hj).1, fun r c hc => ?_⟩
                rw [setC_get vc _ q r (by rw [(hel j hj).1]; omega)] at hc
                rw [hget]
                split at hc
                · rename_i hr
                  rw [if_pos (by omega)]
                  obtain ⟨u, h5, h6⟩ := hvc.get hc
                  refine ⟨u, by rw [show j * wd + r - (j * wd + q) = r - q by omega]; exact h5, KR.isD h6 ?_⟩
                  exact List.all_eq_true.1 hdat c (List.mem_of_getElem? hc)
                · rename_i hr
                  rw [if_neg (by omega)]
                  exact (hel j hj).2 r c hc
              · rw [if_neg hji]
                refine ⟨(hel j hj).1, fun r c hc => ?_⟩
                have hr : r < wd := by have := (List.getElem?_eq_some_iff.1 hc).1; rw [(hel j hj).1] at this; exact this
                rw [hget, if_neg]
                · exact (hel j hj).2 r c hc
                · intro hcon
                  rcases Nat.lt_or_gt_of_ne hji with h7 | h7
                  · have : (j + 1) * wd ≤ i * wd := Nat.mul_le_mul_right _ h7
                    rw [Nat.add_mul] at this; omega
                  · have : (i + 1) * wd ≤ j * wd := Nat.mul_le_mul_right _ h7
                    rw [Nat.add_mul] at this; omega
        · exact hst.elim
      · exact hst.elim
    · exact hst.elim
  · exact hst.elim
end
end Go.Proofs.YtfmeidhialmckaaGreatDoor.Ab

namespace Go.Proofs.YtfmeidhialmckaaGreatDoor.Ab
open Go Go.RowKit

section
variable {P : Program} {gl : Nat → Option (List AC)} {N : Nat} {w0 : World} {Pr : Nat → Prop} {φ : Nat → Option (Option Nat)} {s : St} {a : Act} {w : World}
  {o : Oper} {hs : List Hint} {K : List Hint → St → Prop} {next : Act → World → Prop} {Q : Exit → Act → World → Prop}

theorem VR.mkOwn {k wd off n b cap : Nat} (hf : φ k = some (some b)) (hc : n ≤ cap) (hz : (off + cap) * wd ≤ bsize w b) : VR (KR Pr φ w) (.c (.own k wd off n)) (.slice (some ⟨b, off * wd, none⟩) n cap) :=
  show KR0 Pr φ w (.own k wd off n) _ from ⟨rfl, fun p hp => by rw [hf] at hp; cases hp; exact ⟨cap, rfl, hc, hz⟩⟩
theorem VR.mkOwnNil {k wd : Nat} (hf : φ k = some none) : VR (KR Pr φ w) (.c (.own k wd 0 0)) (.slice none 0 0) :=
  show KR0 Pr φ w (.own k wd 0 0) _ from ⟨rfl, fun p hp => by rw [hf] at hp; cases hp; exact ⟨rfl, rfl, rfl⟩⟩

theorem VR.mkSlN {wd : Nat} {f : Nat → List AC} : VR (KR Pr φ w) (.c (.sl wd 0 f)) (.slice none 0 0) := DR.slN wd f

theorem DR.sl_of_ex {wd n cap : Nat} {f : Nat → List AC} {ad : Addr} (hn : n ≤ cap) (hc : cap ≤ maxLen) (hl : ∀ i, i < n → (f i).length = wd)
    (hr : ∀ (i j : Nat) c, i < n → (f i)[j]? = some c → Pr ad.block ∧ ∃ y, w.cell? (ad.add (i * wd + j)) = some y ∧ DR Pr w c y) : DR Pr w (.sl wd n f) (.slice (some ad) n cap) := by
  refine .sl wd n f ad cap (fun i j => (w.cell? (ad.add (i * wd + j))).getD undef) hn hc hl (fun i j c hi hj => ?_) (fun i j c hi hj => ?_)
  · obtain ⟨h1, y, h2, h3⟩ := hr i j c hi hj; exact ⟨h1, by rw [h2]; rfl⟩
  · obtain ⟨h1, y, h2, h3⟩ := hr i j c hi hj; simpa [h2] using h3

theorem VR.mkSl {wd n cap : Nat} {f : Nat → List AC} {ad : Addr} (hn : n ≤ cap) (hc : cap ≤ maxLen) (hl : ∀ i, i < n → (f i).length = wd)
    (hr : ∀ (i j : Nat) c, i < n → (f i)[j]? = some c → Pr ad.block ∧ ∃ y, w.cell? (ad.add (i * wd + j)) = some y ∧ DR Pr w c y) : VR (KR Pr φ w) (.c (.sl wd n f)) (.slice (some ad) n cap) :=
  (KR.of_dr (φ := φ) (DR.sl_of_ex hn hc hl hr)).1

/-- A key's row or variable is written no more. -/
theorem Sim.fzk (h : Sim gl N w0 Pr φ s a w) {k : Nat} {blk blk' : Blk} (hk : s.h k = some blk) (hb : (∃ cs z, blk = .var cs z ∧ blk' = .var cs true) ∨ ∃ wd n f z, blk = .arr wd n f z ∧ blk' = .arr wd n f true) :
    ∃ Pr', PrS w0 Pr Pr' ∧ (∀ b, φ k = some (some b) → Pr' b) ∧ (∀ b, Pr' b ↔ Pr b ∨ φ k = some (some b)) ∧ Sim gl N w0 Pr' φ (s.sh k blk') a w := by
  let Pr' : Nat → Prop := fun b => Pr b ∨ φ k = some (some b)
  have hp : ∀ b, Pr b → Pr' b := fun b x => .inl x
  have hfz : blk'.fz = true := by rcases hb with ⟨cs, z, _, rfl⟩ | ⟨wd, n, f, z, _, rfl⟩ <;> rfl
  have hkr : ∀ c v, KR Pr φ w c v → KR Pr' φ w c v := fun c v hc => hc.mono hp (fun _ _ => rfl) (fun _ _ _ x => x) (fun _ _ _ => rfl)
  have hbr : ∀ p bk, BR Pr φ w p bk → BR Pr' φ w p bk := fun p bk h2 => by
    cases bk with
    | var cs z => obtain ⟨c, arr', T', h3, h4, h5⟩ := h2; exact ⟨c, arr', T', h3, h4, h5.mono fun c _ v => hkr c v⟩
    | arr wd n f z =>
      obtain ⟨h0, h3 | ⟨c, arr', T', h3, h4, h5, h5', h6⟩⟩ := h2
      · exact ⟨h0, .inl h3⟩
      · exact ⟨h0, .inr ⟨c, arr', T', h3, h4, h5, h5', fun i hi => ⟨(h6 i hi).1, fun q c hq => by
          obtain ⟨v, h7, h8⟩ := (h6 i hi).2 q c hq
          exact ⟨v, h7, h8.mono hp (fun _ _ => rfl)⟩⟩⟩⟩
  have hbr' : ∀ p, BR Pr φ w p blk → BR Pr' φ w p blk' := fun p h2 => by
    rcases hb with ⟨cs, z, rfl, rfl⟩ | ⟨wd, n, f, z, rfl, rfl⟩
    · exact hbr p (.var cs true) h2
    · exact hbr p (.arr wd n f true) h2
  have hkeys : blk'.keys = blk.keys := by rcases hb with ⟨cs, z, rfl, rfl⟩ | ⟨wd, n, f, z, rfl, rfl⟩ <;> rfl
  have hh : ∀ j bk, (s.sh k blk').h j = some bk → (j = k ∧ bk = blk') ∨ (j ≠ k ∧ s.h j = some bk) := fun j bk hj => by
    simp only [St.sh] at hj
    by_cases e : j = k
    · subst e; simp [nbt] at hj; exact .inl ⟨rfl, hj.symm⟩
    · simp only [nbf e, cond_false] at hj; exact .inr ⟨e, hj⟩
  refine ⟨Pr', fun b => ⟨.inl, fun x => x.elim .inl fun y => .inr (h.ow k b blk hk y).1⟩, fun b x => .inr x, fun b => Iff.rfl,
    ⟨h.sz, fun t v ht => ?_, fun j bk hj => ?_, fun j hj => ?_, h.inj, fun j c bk hj hfj => ?_, fun j hj => ?_, h.ke, fun j bk hj q hq => ?_, fun b hb' => ?_, fun g cs hg => (h.gk g cs hg).mono hp (fun _ _ => rfl), h.df, h.bl⟩⟩
  · obtain ⟨x, h1, h2⟩ := h.tm t v ht
    exact ⟨x, h1, h2.mono fun c _ v => hkr c v⟩
  · rcases hh j bk hj with ⟨rfl, rfl⟩ | ⟨e, hj⟩
    · obtain ⟨p, h1, h2⟩ := h.hp _ _ hk; exact ⟨p, h1, hbr' p h2⟩
    · obtain ⟨p, h1, h2⟩ := h.hp _ _ hj; exact ⟨p, h1, hbr p bk h2⟩
  · simp only [St.sh] at hj
    by_cases e : j = k
    · subst e; simp [nbt] at hj
    · simp only [nbf e, cond_false] at hj; exact h.lv j hj
  · rcases hh j bk hj with ⟨rfl, rfl⟩ | ⟨e, hj⟩
    · exact ⟨(h.ow _ c _ hk hfj).1, fun _ => hfz, fun _ => .inr hfj⟩
    · obtain ⟨h1, h2⟩ := h.ow j c bk hj hfj
      exact ⟨h1, fun x => x.elim h2.1 fun y => absurd (h.inj j k c hfj y) e, fun x => .inl (h2.2 x)⟩
  · cases hq : (s.sh k blk').h j with
    | none => exact absurd hq hj
    | some bk => rcases hh j bk hq with ⟨rfl, _⟩ | ⟨e, hq⟩
                 · exact h.ku _ (by rw [hk]; simp)
                 · exact h.ku j (by rw [hq]; simp)
  · rcases hh j bk hj with ⟨rfl, rfl⟩ | ⟨e, hj⟩
    · rw [hkeys] at hq; exact h.kh _ _ hk q hq
    · exact h.kh j bk hj q hq
  · exact hb'.elim (h.pr b) fun y => h.lt y

/-- A row of the call's own that is written no more reads as data. -/
theorem Sim.own_dr (h : Sim gl N w0 Pr φ s a w) {k wd off len n : Nat} {f : Nat → List AC} {x : Value} (hk : s.h k = some (.arr wd n f true)) (hv : VR (KR Pr φ w) (.c (.own k wd off len)) x) (hl : off + len ≤ n) :
    DR Pr w (.sl wd len (shf f off)) x := by
  have hff : ∀ i, shf f off i = f (off + i) := fun i => by cases off <;> simp [shf]
  rcases hv.own_inv h hk with ⟨hf, he, rfl, rfl, _⟩ | ⟨b, arr, T, cap, hf, he, hn, hcap, hh, hB⟩
  · rw [he]; exact .slN ..
  · obtain ⟨hw, hB | ⟨b', arr', T', e1, hh', hnsz, hmx, hel⟩⟩ := hB
    · cases hB.1
    · cases e1
      rw [hh] at hh'
      cases hh'
      rw [he]
      have hpb : Pr b := (h.ow k b _ hk hf).2.2 rfl
      refine DR.sl_of_ex hn ?_ (fun i hi => ?_) (fun i j c hi hj => ?_)
      · have := le_of_mul_le (Nat.le_trans hcap hmx) hw; omega
      · rw [hff]; exact (hel _ (by omega)).1
      · rw [hff] at hj
        obtain ⟨v, h7, h8⟩ := (hel _ (by omega)).2 j c hj
        refine ⟨hpb, v, ?_, h8⟩
        rw [Addr.add_flat, cell_flat hh, ← Nat.add_assoc, ← Nat.add_mul]; exact h7

/-- A cell told as data. -/
theorem frC_sound {c : AC} {x : Value} {K : AC → St → Prop} (h : Sim gl N w0 Pr φ s a w) (hx : KR Pr φ w c x) (hf : frC s c K) :
    ∃ c' s' Pr', K c' s' ∧ PrS w0 Pr Pr' ∧ Sim gl N w0 Pr' φ s' a w ∧ DR Pr' w c' x ∧ s'.e = s.e ∧ s'.u = s.u ∧ (∀ b, Pr b → Pr' b) ∧ (∀ j cs z, s.h j = some (.var cs z) → s'.h j = some (.var cs z)) := by
  unfold frC at hf
  split at hf
  · rename_i k wd off len
    split at hf
    · rename_i wd' n f z hb
      split at hf
      · rename_i hwd
        subst hwd
        obtain ⟨Pr', h1, h2, h2', h3⟩ := h.fzk hb (.inr ⟨wd, n, f, z, rfl, rfl⟩)
        have hk' : (s.sh k (.arr wd n f true)).h k = some (.arr wd n f true) := by simp [St.sh, nbt]
        have hx' : VR (KR Pr' φ w) (.c (.own k wd off len)) x := hx.mono (fun b y => (h1 b).1 y) (fun _ _ => rfl) (fun _ _ _ y => y) (fun _ _ _ => rfl)
        · obtain ⟨hl, hK⟩ := hf
          have hpl : pl off len = off + len := by cases off <;> simp [pl]
          refine ⟨_, _, Pr', hK, h1, h3, h3.own_dr hk' hx' (by omega), rfl, rfl, fun b y => (h1 b).1 y, fun j cs z' hj => ?_⟩
          have hne : j ≠ k := fun e => by subst e; rw [hb] at hj; cases hj
          simp only [St.sh, nbf hne, cond_false]; exact hj
      · exact hf.elim
    · exact hf.elim
  · split at hf
    · rename_i hd
      exact ⟨_, _, Pr, hf, PrS.refl _ _, h, KR.isD hx hd, rfl, rfl, fun _ y => y, fun _ _ _ y => y⟩
    · exact hf.elim

theorem KR.weak {Pr' : Nat → Prop} {c : AC} {v : Value} (h : KR Pr φ w c v) (hp : ∀ b, Pr b → Pr' b) : KR Pr' φ w c v := h.mono hp (fun _ _ => rfl) (fun _ _ _ y => y) (fun _ _ _ => rfl)
theorem DR.weak {Pr' : Nat → Prop} {c : AC} {v : Value} (h : DR Pr w c v) (hp : ∀ b, Pr b → Pr' b) : DR Pr' w c v := h.mono hp (fun _ _ => rfl)

theorem frCs_sound : ∀ (cs : List AC) (vs : List Value) {s : St} {Pr : Nat → Prop} {K : List AC → St → Prop} (h : Sim gl N w0 Pr φ s a w) (hx : cellsR (KR Pr φ w) cs vs) (hf : frCs s cs K),
    ∃ cs' s' Pr', K cs' s' ∧ PrS w0 Pr Pr' ∧ Sim gl N w0 Pr' φ s' a w ∧ cellsR (DR Pr' w) cs' vs ∧ s'.e = s.e ∧ s'.u = s.u ∧ (∀ b, Pr b → Pr' b) ∧ (∀ j cs z, s.h j = some (.var cs z) → s'.h j = some (.var cs z))
  | [], vs, s, Pr, K, h, hx, hf => ⟨[], s, Pr, hf, PrS.refl _ _, h, ⟨hx.1, by simp⟩, rfl, rfl, fun _ y => y, fun _ _ _ y => y⟩
  | c :: r, vs, s, Pr, K, h, hx, hf => by
    match vs, hx with
    | [], hx => exact absurd hx.1 (by simp)
    | v :: vs, hx =>
      obtain ⟨c', s', Pr', hK, h1, h2, h3, h4, h5, h6, h7⟩ := frC_sound h (hx.2 0 c v rfl rfl) hf
      have hr : cellsR (KR Pr' φ w) r vs := ⟨by simpa using hx.1, fun i d u hd hu => (hx.2 (i + 1) d u (by simpa using hd) (by simpa using hu)).weak h6⟩
      obtain ⟨cs', s'', Pr'', hK', k1, k2, k3, k4, k5, k6, k7⟩ := frCs_sound r vs h2 hr hK
      refine ⟨c' :: cs', s'', Pr'', hK', h1.trans k1, k2, ⟨by simp [k3.1], fun i d u hd hu => ?_⟩, k4.trans h4, k5.trans h5, fun b y => k6 b (h6 b y), fun j cs z y => k7 j cs z (h7 j cs z y)⟩
      cases i with
      | zero => simp at hd hu; subst hd hu; exact h3.weak k6
      | succ i => exact k3.2 i d u (by simpa using hd) (by simpa using hu)
end
end Go.Proofs.YtfmeidhialmckaaGreatDoor.Ab

namespace Go.Proofs.YtfmeidhialmckaaGreatDoor.Ab
open Go Go.RowKit

section
variable {P : Program} {gl : Nat → Option (List AC)} {N : Nat} {w0 : World} {Pr : Nat → Prop} {φ : Nat → Option (Option Nat)} {s : St} {a : Act} {w : World}
  {o : Oper} {hs : List Hint} {K : List Hint → St → Prop} {next : Act → World → Prop} {Q : Exit → Act → World → Prop}

theorem KR0.toKR {c : AC} {v : Value} (h : KR0 Pr φ w c v) : KR Pr φ w c v := by
  cases c with
  | clo f cap => exact (KR.of_dr (φ := φ) (show DR Pr w (.clo f cap) v from h)).1
  | _ => exact h

/-- What telling something as data leaves. -/
structure Told (gl : Nat → Option (List AC)) (N : Nat) (w0 : World) (Pr Pr' : Nat → Prop) (φ : Nat → Option (Option Nat)) (s s' : St) (a : Act) (w : World) : Prop where
  st : PrS w0 Pr Pr'
  sim : Sim gl N w0 Pr' φ s' a w
  e : s'.e = s.e
  u : s'.u = s.u
  p : ∀ b, Pr b → Pr' b

theorem Told.refl (h : Sim gl N w0 Pr φ s a w) : Told gl N w0 Pr Pr φ s s a w := ⟨PrS.refl _ _, h, rfl, rfl, fun _ y => y⟩
theorem Told.trans {A B C : Nat → Prop} {s s' s'' : St} (h : Told gl N w0 A B φ s s' a w) (k : Told gl N w0 B C φ s' s'' a w) : Told gl N w0 A C φ s s'' a w :=
  ⟨h.st.trans k.st, k.sim, k.e.trans h.e, k.u.trans h.u, fun b y => k.p b (h.p b y)⟩

theorem DR.pd_of_exi {cs : List AC} {i : Nat} {ad : Addr} (hr : ∀ (j : Nat) c, cs[i + j]? = some c → Pr ad.block ∧ ∃ y, w.cell? (ad.add j) = some y ∧ DR Pr w c y) : DR Pr w (.pd cs i) (.pointer (some ad)) := by
  refine .pd _ _ _ (fun j => (w.cell? (ad.add j)).getD undef) (fun j c hj => ?_) (fun j c hj => ?_)
  · obtain ⟨h1, y, h2, h3⟩ := hr j c hj
    exact ⟨h1, by rw [h2]; rfl⟩
  · obtain ⟨h1, y, h2, h3⟩ := hr j c hj
    simpa [h2] using h3

theorem frP_sound {c : AC} {x : Value} {K : AC → St → Prop} (h : Sim gl N w0 Pr φ s a w) (hx : KR Pr φ w c x) (hf : frP s c K) :
    ∃ c' s' Pr', K c' s' ∧ Told gl N w0 Pr Pr' φ s s' a w ∧ DR Pr' w c' x := by
  unfold frP at hf
  split at hf
  · rename_i k i
    split at hf
    · rename_i cs z hb
      obtain ⟨b, arr, T, hfk, he, hh, hB⟩ := VR.pk_inv h (x := x) (i := i) hx hb
      obtain ⟨b', arr', T', e1, hh', hcs⟩ := hB
      cases e1
      rw [hh] at hh'
      cases hh'
      obtain ⟨cs', s', Pr', hK, h1, h2, h3, h4, h5, h6, h7⟩ := frCs_sound cs arr.toList h hcs hf
      obtain ⟨Pr'', k1, k2, k2', k3⟩ := h2.fzk (h7 k cs z hb) (.inl ⟨cs, z, rfl, rfl⟩)
      refine ⟨_, _, Pr'', hK, ⟨h1.trans k1, k3, h4, h5, fun b y => (k1 b).1 (h6 b y)⟩, ?_⟩
      rw [he]
      refine DR.pd_of_exi fun j d hj => ?_
      obtain ⟨y, h8, h9⟩ := h3.get hj
      exact ⟨k2 b hfk, y, by rw [Addr.add_flat, cell_flat hh]; simpa using h8, h9.weak fun b y => (k1 b).1 y⟩
    · exact hf.elim
  · obtain ⟨c', s', Pr', hK, h1, h2, h3, h4, h5, h6, h7⟩ := frC_sound h hx hf
    exact ⟨c', s', Pr', hK, ⟨h1, h2, h4, h5, h6⟩, h3⟩

theorem frPs_sound : ∀ (cs : List AC) (vs : List Value) {s : St} {Pr : Nat → Prop} {K : List AC → St → Prop} (h : Sim gl N w0 Pr φ s a w) (hx : cellsR (KR Pr φ w) cs vs) (hf : frPs s cs K),
    ∃ cs' s' Pr', K cs' s' ∧ Told gl N w0 Pr Pr' φ s s' a w ∧ cellsR (DR Pr' w) cs' vs
  | [], vs, s, Pr, K, h, hx, hf => ⟨[], s, Pr, hf, .refl h, ⟨hx.1, by simp⟩⟩
  | c :: r, vs, s, Pr, K, h, hx, hf => by
    match vs, hx with
    | [], hx => exact absurd hx.1 (by simp)
    | v :: vs, hx =>
      obtain ⟨c', s', Pr', hK, h1, h3⟩ := frP_sound h (hx.2 0 c v rfl rfl) hf
      have hr : cellsR (KR Pr' φ w) r vs := ⟨by simpa using hx.1, fun i d u hd hu => (hx.2 (i + 1) d u (by simpa using hd) (by simpa using hu)).weak h1.p⟩
      obtain ⟨cs', s'', Pr'', hK', k1, k3⟩ := frPs_sound r vs h1.sim hr hK
      refine ⟨c' :: cs', s'', Pr'', hK', h1.trans k1, ⟨by simp [k3.1], fun i d u hd hu => ?_⟩⟩
      cases i with
      | zero => simp at hd hu; subst hd hu; exact h3.weak k1.p
      | succ i => exact k3.2 i d u (by simpa using hd) (by simpa using hu)

theorem frF_sound {c : AC} {x : Value} {K : AC → St → Prop} (h : Sim gl N w0 Pr φ s a w) (hx : KR Pr φ w c x) (hf : frF s c K) :
    ∃ c' s' Pr', K c' s' ∧ Told gl N w0 Pr Pr' φ s s' a w ∧ DR Pr' w c' x := by
  unfold frF at hf
  split at hf
  · rename_i f cap
    obtain ⟨g, he, hg⟩ := hx
    obtain ⟨cap', s', Pr', hK, h1, h3⟩ := frPs_sound cap ((List.range cap.length).map g) h ⟨by simp, fun i c v hc hv => by
      have hlt : i < cap.length := (List.getElem?_eq_some_iff.1 hc).1
      rw [List.getElem?_map, List.getElem?_range hlt] at hv
      simp at hv; subst hv
      exact (hg i c hc).toKR⟩ hf
    refine ⟨_, _, Pr', hK, h1, ?_⟩
    have hlen : cap'.length = cap.length := by have := h3.1; simpa using this.symm
    rw [he, ← hlen]
    refine .clo f cap' g fun j c hj => ?_
    have hlt : j < cap.length := by rw [← hlen]; exact (List.getElem?_eq_some_iff.1 hj).1
    exact h3.2 j c (g j) hj (by rw [List.getElem?_map, List.getElem?_range hlt]; rfl)
  · exact frP_sound h hx hf

theorem frFs_sound : ∀ (cs : List AC) (vs : List Value) {s : St} {Pr : Nat → Prop} {K : List AC → St → Prop} (h : Sim gl N w0 Pr φ s a w) (hx : cellsR (KR Pr φ w) cs vs) (hf : frFs s cs K),
    ∃ cs' s' Pr', K cs' s' ∧ Told gl N w0 Pr Pr' φ s s' a w ∧ cellsR (DR Pr' w) cs' vs
  | [], vs, s, Pr, K, h, hx, hf => ⟨[], s, Pr, hf, .refl h, ⟨hx.1, by simp⟩⟩
  | c :: r, vs, s, Pr, K, h, hx, hf => by
    match vs, hx with
    | [], hx => exact absurd hx.1 (by simp)
    | v :: vs, hx =>
      obtain ⟨c', s', Pr', hK, h1, h3⟩ := frF_sound h (hx.2 0 c v rfl rfl) hf
      have hr : cellsR (KR Pr' φ w) r vs := ⟨by simpa using hx.1, fun i d u hd hu => (hx.2 (i + 1) d u (by simpa using hd) (by simpa using hu)).weak h1.p⟩
      obtain ⟨cs', s'', Pr'', hK', k1, k3⟩ := frFs_sound r vs h1.sim hr hK
      refine ⟨c' :: cs', s'', Pr'', hK', h1.trans k1, ⟨by simp [k3.1], fun i d u hd hu => ?_⟩⟩
      cases i with
      | zero => simp at hd hu; subst hd hu; exact h3.weak k1.p
      | succ i => exact k3.2 i d u (by simpa using hd) (by simpa using hu)

theorem KR.nokeys {c : AC} {v : Value} (h : KR Pr φ w c v) (hk : c.keys = []) : DR Pr w c v := by
  cases c with
  | own => simp [AC.keys, AC.keys0] at hk
  | pk => simp [AC.keys, AC.keys0] at hk
  | pa => simp [AC.keys, AC.keys0] at hk
  | clo f cap =>
    obtain ⟨g, he, hg⟩ := h
    rw [he]
    refine .clo f cap g fun j c hj => ?_
    have hk' : c.keys0 = [] := by
      simp only [AC.keys, List.flatMap_eq_nil_iff] at hk
      exact hk c (List.mem_of_getElem? hj)
    have := hg j c hj
    cases c <;> first | exact this | (simp [AC.keys0] at hk')
  | _ => exact h

theorem frV_sound {v : AV} {x : Value} {K : AV → St → Prop} (h : Sim gl N w0 Pr φ s a w) (hx : VR (KR Pr φ w) v x) (hf : frV s v K) :
    ∃ v' s' Pr', K v' s' ∧ Told gl N w0 Pr Pr' φ s s' a w ∧ VR (DR Pr' w) v' x := by
  unfold frV at hf
  split at hf
  · obtain ⟨c', s', Pr', hK, h1, h3⟩ := frF_sound h hx hf
    exact ⟨_, _, Pr', hK, h1, h3⟩
  · rename_i xs
    split at hf
    · rename_i hk
      refine ⟨_, _, Pr, hf, .refl h, ?_⟩
      obtain ⟨vs, h1, h2⟩ := hx
      refine ⟨vs, h1, h2.mono fun c hc v hv => hv.nokeys ?_⟩
      simp only [AV.keys, List.flatMap_eq_nil_iff] at hk
      exact hk c hc
    · obtain ⟨vs, h1, h2⟩ := hx
      obtain ⟨cs', s', Pr', hK, h3, h4⟩ := frFs_sound xs vs h h2 hf
      exact ⟨_, _, Pr', hK, h3, ⟨vs, h1, h4⟩⟩
  · exact hf.elim

theorem VR.weakD {Pr' : Nat → Prop} {v : AV} {x : Value} (h : VR (DR Pr w) v x) (hp : ∀ b, Pr b → Pr' b) : VR (DR Pr' w) v x := h.mono fun _ _ _ y => y.weak hp
theorem VR.weak {Pr' : Nat → Prop} {v : AV} {x : Value} (h : VR (KR Pr φ w) v x) (hp : ∀ b, Pr b → Pr' b) : VR (KR Pr' φ w) v x := h.mono fun _ _ _ y => y.weak hp

theorem frVs_sound : ∀ (cs : List AV) (vs : List Value) {s : St} {Pr : Nat → Prop} {K : List AV → St → Prop} (h : Sim gl N w0 Pr φ s a w) (hl : vs.length = cs.length)
    (hx : ∀ (i : Nat) c v, cs[i]? = some c → vs[i]? = some v → VR (KR Pr φ w) c v) (hf : frVs s cs K),
    ∃ cs' s' Pr', K cs' s' ∧ Told gl N w0 Pr Pr' φ s s' a w ∧ vs.length = cs'.length ∧ ∀ (i : Nat) c v, cs'[i]? = some c → vs[i]? = some v → VR (DR Pr' w) c v
  | [], vs, s, Pr, K, h, hl, hx, hf => ⟨[], s, Pr, hf, .refl h, hl, by simp⟩
  | c :: r, vs, s, Pr, K, h, hl, hx, hf => by
    match vs, hl, hx with
    | [], hl, hx => exact absurd hl (by simp)
    | v :: vs, hl, hx =>
      obtain ⟨c', s', Pr', hK, h1, h3⟩ := frV_sound h (hx 0 c v rfl rfl) hf
      obtain ⟨cs', s'', Pr'', hK', k1, k2, k3⟩ := frVs_sound r vs h1.sim (by simpa using hl) (fun i d u hd hu => (hx (i + 1) d u (by simpa using hd) (by simpa using hu)).weak h1.p) hK
      refine ⟨c' :: cs', s'', Pr'', hK', h1.trans k1, by simp [k2], fun i d u hd hu => ?_⟩
      cases i with
      | zero => simp at hd hu; subst hd hu; exact h3.weakD k1.p
      | succ i => exact k3 i d u (by simpa using hd) (by simpa using hu)

theorem VR.nokeysD {v : AV} {x : Value} (h : VR (DR Pr w) v x) : ∀ c ∈ v.cells, AC.keys c = [] := by
  intro c hc
  cases v with
  | c y => simp [AV.cells] at hc; subst hc; exact (KR.of_dr (φ := fun _ => none) h).2
  | agg xs => obtain ⟨vs, h1, h2⟩ := h; obtain ⟨q, hq⟩ := List.mem_iff_getElem?.1 hc; obtain ⟨y, _, h8⟩ := h2.get hq; exact (KR.of_dr (φ := fun _ => none) h8).2
  | tup xs =>
    obtain ⟨g, h1, h2⟩ := h
    simp only [AV.cells, List.mem_flatMap] at hc
    obtain ⟨p, hp, hc⟩ := hc
    obtain ⟨q, hq⟩ := List.mem_iff_getElem?.1 hp
    have h3 := h2 q p hq
    obtain ⟨b, ys⟩ := p
    cases b with
    | false =>
      match ys, h3, hc with
      | [y], h3, hc => simp at hc; subst hc; exact (KR.of_dr (φ := fun _ => none) h3).2
    | true => obtain ⟨vs, _, h4⟩ := h3; obtain ⟨q, hq⟩ := List.mem_iff_getElem?.1 hc; obtain ⟨y, _, h8⟩ := h4.get hq; exact (KR.of_dr (φ := fun _ => none) h8).2

/-- A scalar reads whatever is kept from writing. -/
theorem DR.scalar {Pr' : Nat → Prop} {w' : World} {c : AC} {v : Value} (h : DR Pr w c v) (hs : c.isS = true) : DR Pr' w' c v := by
  cases h <;> first | (simp [AC.isS] at hs; done) | (constructor)

theorem AV.isS_cells {v : AV} (h : v.isS = true) : ∀ c ∈ v.cells, c.isS = true := by
  intro c hc
  cases v with
  | c y => simp [AV.cells] at hc; subst hc; exact h
  | agg xs => exact List.all_eq_true.1 h c hc
  | tup xs =>
    simp only [AV.cells, List.mem_flatMap] at hc
    obtain ⟨p, hp, hc⟩ := hc
    exact List.all_eq_true.1 (List.all_eq_true.1 h p hp) c hc
end
end Go.Proofs.YtfmeidhialmckaaGreatDoor.Ab

namespace Go.Proofs.YtfmeidhialmckaaGreatDoor.Ab
open Go Go.RowKit

section
variable {P : Program} {gl : Nat → Option (List AC)} {N : Nat} {w0 : World} {Pr : Nat → Prop} {φ : Nat → Option (Option Nat)} {s : St} {a : Act} {w : World}
  {o : Oper} {hs : List Hint} {K : List Hint → St → Prop} {next : Act → World → Prop} {Q : Exit → Act → World → Prop}

theorem evs_sound_list (h : Sim gl N w0 Pr φ s a w) : ∀ (xs : List Operand) (ys : List Opd) (vs : List AV), xs.mapM cO = some ys → evs gl s ys = some vs →
    vs.length = xs.length ∧ ∀ (i : Nat) v x, vs[i]? = some v → (xs.map a.eval)[i]? = some x → VR (KR Pr φ w) v x ∧ ∀ k ∈ v.keys, k ∈ s.u
  | [], ys, vs, hm, he => by
    simp at hm; subst hm
    simp [evs] at he; subst he
    exact ⟨rfl, by simp⟩
  | x :: r, ys, vs, hm, he => by
    simp only [List.mapM_cons, Option.bind_eq_bind, Option.bind_eq_some_iff, Option.pure_def, Option.some.injEq] at hm
    obtain ⟨y, hy, ys', hys, rfl⟩ := hm
    simp only [evs] at he
    split at he
    · rename_i v hv
      split at he
      · rename_i l hl
        simp only [Option.some.injEq] at he; subst he
        obtain ⟨h1, h2⟩ := evs_sound_list h r ys' l hys hl
        refine ⟨by simp [h1], fun i u z hu hz => ?_⟩
        cases i with
        | zero => simp at hu hz; subst hu hz; exact ev_sound h hy hv
        | succ i => exact h2 i u z (by simpa using hu) (by simpa using hz)
      · cases he
    · cases he

theorem run_callFunc {f : FuncId} {args : Array Value} (hc : callable P f = true) : (callFunc f args).run P w = .ok (.enter f args) w := by
  unfold callable at hc
  split at hc
  · rename_i fn hf
    simp only [Bool.and_eq_true, Bool.not_eq_true'] at hc
    have hb : ¬ fn.body = none := by cases hh : fn.body <;> simp [hh] at hc ⊢
    have hn : ¬ fn.name = "runtime.NumGoroutine" := by simpa using hc.2
    simp [callFunc, program, Sem.run_bind, Result.andThen, hf, hn, hb, Sem.run]
  · cases hc

theorem callI_sound {f : FuncId} {vs : List AV} {vals : List Value} {v : AV} {K' : St → Prop} (h : Sim gl N w0 Pr φ s a w) (hd : ∀ t, o.dst = some t → t < N) (hl : vals.length = vs.length)
    (hx : ∀ (i : Nat) c v, vs[i]? = some c → vals[i]? = some v → VR (KR Pr φ w) c v)
    (hrun : callable P f = true → (execOp a.eval o).run P w = .ok (.enter f vals.toArray) w) (hst : callI P gl o.dst f vs v s K')
    (ha : ∀ s' Pr' φ' a' w', K' s' → Sim gl N w0 Pr' φ' s' a' w' → PrS w0 Pr Pr' → next a' w') : o.wp P a w next Q := by
  unfold callI at hst
  obtain ⟨ds, s', Pr', ⟨⟨hcal, hok⟩, hK⟩, ht, hl', hx'⟩ := frVs_sound vs vals h hl hx hst
  unfold Oper.wp
  rw [hrun hcal]
  show Calls P f vals.toArray w _
  refine (hok w Pr' vals ht.sim.pr ht.sim.gk hl' hx').mono fun e w' he => ?_
  obtain ⟨x, rfl, hb, hv⟩ := he
  show next (a.put o.dst x) w'
  have hnk : ∀ k ∈ v.keys, k ∈ s.u := fun k hk => by
    rw [AV.keys_eq] at hk
    obtain ⟨c, hc, hkc⟩ := List.mem_flatMap.1 hk
    rw [hv.nokeysD c hc] at hkc; cases hkc
  split at hK
  · rename_i hs
    have hg := h.grow (Pr' := Pr) hb (fun _ y => y) (fun b y => ⟨Nat.lt_of_lt_of_le (h.pr b y) hb.size, fun _ => y⟩)
    exact ha _ _ _ _ _ hK (hg.pu hd (hv.mono fun c hc u hu => (KR.of_dr (DR.scalar (Pr' := Pr) hu (AV.isS_cells hs c hc))).1) hnk) (PrS.refl _ _)
  · have hg := ht.sim.grow (Pr' := fun b => Pr' b ∨ (w.heap.size ≤ b ∧ b < w'.heap.size)) hb (fun _ y => .inl y)
      (fun b y => ⟨y.elim (fun y => Nat.lt_of_lt_of_le (ht.sim.pr b y) hb.size) (fun y => y.2), fun hlt => y.elim id fun y => absurd y.1 (by omega)⟩)
    refine ha _ _ _ _ _ hK (hg.pu hd (hv.mono fun c hc u hu => (KR.of_dr hu).1) (by rw [ht.u]; exact hnk)) (ht.st.trans fun b => ⟨.inl, fun y => y.elim .inl fun y => .inr (Nat.le_trans h.bl.size y.1)⟩)

theorem step_call {c : Call} {f : FuncId} {ys : List Opd} (ho : o.op = .call c) (hc : c.callee = .value (.func f)) (hxs : cOs c.args = some ys)
    (h : Sim gl N w0 Pr φ s a w) (hd : ∀ t, o.dst = some t → t < N) (hst : Step P gl o.dst (.call f ys) hs s K) (ha : After gl N w0 Pr K next) : o.wp P a w next Q := by
  simp only [Step] at hst
  split at hst
  · rename_i vs v hs' hvs
    obtain ⟨h1, h2⟩ := evs_sound_list h c.args.toList ys vs hxs hvs
    refine callI_sound h hd (vals := c.args.toList.map a.eval) (by simp [h1]) (fun i u x hu hx => (h2 i u x hu hx).1) (fun hcal => ?_) hst (fun s' Pr' φ' a' w' hK hs hp => ha _ _ _ _ _ _ hK hs hp)
    have e1 : (c.args.toList.map a.eval).toArray = c.args.map a.eval := by apply Array.ext'; simp
    rw [e1]
    simp only [execOp, ho, resolve, hc, Deferred.ofValue, Act.eval, Sem.run_bind, Sem.run_pure, Result.andThen_ok, invoke, Array.append_empty, Array.empty_append]
    exact run_callFunc hcal
  · exact hst.elim

theorem step_cald {c : Call} {t : Tmp} {ys : List Opd} (ho : o.op = .call c) (hc : c.callee = .value (.tmp t)) (hxs : cOs c.args = some ys)
    (h : Sim gl N w0 Pr φ s a w) (hd : ∀ t, o.dst = some t → t < N) (hst : Step P gl o.dst (.cald (.t t) ys) hs s K) (ha : After gl N w0 Pr K next) : o.wp P a w next Q := by
  simp only [Step] at hst
  split at hst
  · rename_i f cap vs v hs' hfv hvs
    obtain ⟨h1, h2⟩ := evs_sound_list h c.args.toList ys vs hxs hvs
    obtain ⟨h3, _⟩ := ev_sound h (x := .tmp t) rfl hfv
    obtain ⟨g, he, hg⟩ := h3
    refine callI_sound h hd (vals := c.args.toList.map a.eval ++ (List.range cap.length).map g) (by simp [h1]) (fun i u x hu hx => ?_) (fun hcal => ?_) hst (fun s' Pr' φ' a' w' hK hs hp => ha _ _ _ _ _ _ hK hs hp)
    · by_cases hi : i < vs.length
      · rw [List.getElem?_append_left hi] at hu
        rw [List.getElem?_append_left (by rw [List.length_map]; omega)] at hx
        exact (h2 i u x hu hx).1
      · rw [List.getElem?_append_right (by omega)] at hu
        rw [List.getElem?_append_right (by rw [List.length_map]; omega)] at hx
        simp only [List.length_map, ← h1] at hx
        rw [List.getElem?_map, Option.map_eq_some_iff] at hu hx
        obtain ⟨q, hq, rfl⟩ := hu
        obtain ⟨r, hr, rfl⟩ := hx
        have hlt : i - vs.length < cap.length := (List.getElem?_eq_some_iff.1 hq).1
        rw [List.getElem?_range hlt] at hr
        cases hr
        exact (hg _ q hq).toKR
    · have e1 : (c.args.toList.map a.eval ++ (List.range cap.length).map g).toArray = c.args.map a.eval ++ ((List.range cap.length).map g).toArray := by apply Array.ext'; simp
      rw [e1]
      simp only [execOp, ho, resolve, hc, he, Deferred.ofValue, Sem.run_bind, Sem.run_pure, Result.andThen_ok, invoke, Array.empty_append]
      exact run_callFunc hcal
  · exact hst.elim

theorem step_clo {f : FuncId} {xs : Array Operand} {first : Array Operand} {ys : List Opd} (ho : o.op = .makeFunc (.func f) first xs) (hfs : first.size = 0) (hxs : cOs xs = some ys)
    (h : Sim gl N w0 Pr φ s a w) (hd : ∀ t, o.dst = some t → t < N) (hst : Step P gl o.dst (.clo f ys) hs s K) (ha : After gl N w0 Pr K next) : o.wp P a w next Q := by
  simp only [Step] at hst
  split at hst
  · rename_i vs hvs
    obtain ⟨h1, h2⟩ := evs_sound_list h xs.toList ys vs hxs hvs
    split at hst
    · rename_i cap hcap
      have key : ∀ (vs : List AV) (cap : List AC), vs.mapM (fun v => match v with | .c (.clo ..) => none | .c x => some x | _ => none) = some cap → cap.length = vs.length ∧
          ∀ (i : Nat) c, cap[i]? = some c → vs[i]? = some (.c c) ∧ ∀ f l, c ≠ .clo f l := by
        intro vs
        induction vs with
        | nil => intro cap hm; simp at hm; subst hm; exact ⟨rfl, by simp⟩
        | cons v r ih =>
          intro cap hm
          simp only [List.mapM_cons, Option.bind_eq_bind, Option.bind_eq_some_iff, Option.pure_def, Option.some.injEq] at hm
          obtain ⟨c, hc, cap', hcap', rfl⟩ := hm
          obtain ⟨h3, h4⟩ := ih cap' hcap'
          refine ⟨by simp [h3], fun i d hd => ?_⟩
          cases i with
          | zero =>
            simp at hd; subst hd
            split at hc <;> first | cases hc | skip
            rename_i hne
            exact ⟨rfl, fun f l e => hne f l (by rw [e])⟩
          | succ i => simpa using h4 i d (by simpa using hd)
      obtain ⟨h3, h4⟩ := key vs cap hcap
      refine fin_value h hd (x := .func (.func f) #[] (xs.map a.eval)) ?_ (v := .c (.clo f cap)) ?_ ?_ hst ha
      · have : first = #[] := Array.eq_empty_of_size_eq_zero hfs
        subst this
        simp [execOp, ho, Instr.makeFunc, Sem.run_bind, Result.andThen]
      · refine ⟨fun i => (xs.map a.eval).getD i undef, ?_, fun j c hj => ?_⟩
        · congr 1
          apply Array.ext'
          apply List.ext_getElem?
          intro i
          have hlen : cap.length = xs.toList.length := h3.trans h1
          by_cases hi : i < cap.length
          · rw [List.getElem?_map, List.getElem?_range hi]
            have hi' : i < xs.size := by rw [hlen] at hi; simpa using hi
            simp [Array.getD, hi']
          · rw [List.getElem?_eq_none (by simp at hlen ⊢; omega), List.getElem?_eq_none (by simp; omega)]
        · obtain ⟨h5, h6⟩ := h4 j c hj
          have hlt : j < xs.toList.length := by rw [← h1]; exact (List.getElem?_eq_some_iff.1 h5).1
          have hx : (xs.toList.map a.eval)[j]? = some ((xs.map a.eval).getD j undef) := by
            have hi' : j < xs.size := by simpa using hlt
            simp [Array.getD, hi']
          have h7 := (h2 j (.c c) _ h5 hx).1
          have h8 : KR Pr φ w c ((xs.map a.eval).getD j undef) := h7
          cases c <;> first | exact absurd rfl (h6 _ _) | exact h8
      · intro k hk
        simp only [AV.keys, AC.keys, List.mem_flatMap] at hk
        obtain ⟨c, hc, hkc⟩ := hk
        obtain ⟨j, hj⟩ := List.mem_iff_getElem?.1 hc
        obtain ⟨h5, h6⟩ := h4 j c hj
        have hlt : j < xs.toList.length := by rw [← h1]; exact (List.getElem?_eq_some_iff.1 h5).1
        have hx : (xs.toList.map a.eval)[j]? = some (a.eval xs.toList[j]) := by rw [List.getElem?_map, List.getElem?_eq_getElem hlt]; rfl
        refine (h2 j (.c c) _ h5 hx).2 k ?_
        simp only [AV.keys]
        cases c <;> first | exact absurd rfl (h6 _ _) | exact hkc
    · exact hst.elim
  · exact hst.elim
end
end Go.Proofs.YtfmeidhialmckaaGreatDoor.Ab

namespace Go.Proofs.YtfmeidhialmckaaGreatDoor.Ab
open Go Go.RowKit

theorem foldl_put (off : Nat) : ∀ (l : List Value) (k : Nat) (cells : Array Value), off + k + l.length ≤ cells.size →
    ((l.zipIdx k).foldl (fun cs (p : Value × Nat) => cs.setIfInBounds (off + p.2) p.1) cells).size = cells.size ∧
    ∀ r : Nat, ((l.zipIdx k).foldl (fun cs (p : Value × Nat) => cs.setIfInBounds (off + p.2) p.1) cells)[r]? = if off + k ≤ r ∧ r < off + k + l.length then l[r - (off + k)]? else cells[r]?
  | [], k, cells, h => ⟨rfl, fun r => by simp; omega⟩
  | v :: rest, k, cells, h => by
    simp only [List.length_cons] at h
    simp only [List.zipIdx_cons, List.foldl_cons]
    obtain ⟨h1, h2⟩ := foldl_put off rest (k + 1) (cells.setIfInBounds (off + k) v) (by simp; omega)
    refine ⟨by rw [h1]; simp, fun r => ?_⟩
    rw [h2]
    by_cases hr : off + (k + 1) ≤ r ∧ r < off + (k + 1) + rest.length
    · rw [if_pos hr, if_pos (by simp; omega), show r - (off + k) = (r - (off + (k + 1))) + 1 by omega, List.getElem?_cons_succ]
    · rw [if_neg hr]
      by_cases he : r = off + k
      · subst he
        rw [if_pos (by simp), Array.getElem?_setIfInBounds_self_of_lt (by omega)]
        simp
      · rw [if_neg (by simp; omega), Array.getElem?_setIfInBounds_ne (fun e => he e.symm)]

section
variable {P : Program} {gl : Nat → Option (List AC)} {N : Nat} {w0 : World} {Pr : Nat → Prop} {φ : Nat → Option (Option Nat)} {s : St} {a : Act} {w : World}
  {o : Oper} {hs : List Hint} {K : List Hint → St → Prop} {next : Act → World → Prop} {Q : Exit → Act → World → Prop}

/-- The parts of a composite value, laid into the zero value's cells. -/
theorem fill_sound (h : Sim gl N w0 Pr φ s a w) (place : Nat → Option (Nat × Nat)) (sel : Nat × Operand → Option (Nat × Nat × Opd))
    (hsel : ∀ p q, sel p = some q → place p.1 = some (q.1, q.2.1) ∧ cO p.2 = some q.2.2) :
    ∀ (parts : List (Nat × Operand)) (ps : List (Nat × Nat × Opd)) (cs cs' : List AC) (cells : Array Value), parts.mapM sel = some ps → buildC gl s cs ps = some cs' →
      cellsR (KR Pr φ w) cs cells.toList → (∀ k ∈ cs.flatMap AC.keys, k ∈ s.u) →
      ∃ cells', Instr.fill place cells (parts.map fun p => (p.1, a.eval p.2)) = some cells' ∧ cellsR (KR Pr φ w) cs' cells'.toList ∧ ∀ k ∈ cs'.flatMap AC.keys, k ∈ s.u
  | [], ps, cs, cs', cells, hm, hb, hc, hk => by
    simp at hm; subst hm
    simp [buildC] at hb; subst hb
    exact ⟨cells, rfl, hc, hk⟩
  | p :: rest, ps, cs, cs', cells, hm, hb, hc, hk => by
    simp only [List.mapM_cons, Option.bind_eq_bind, Option.bind_eq_some_iff, Option.pure_def, Option.some.injEq] at hm
    obtain ⟨q, hq, ps', hps, rfl⟩ := hm
    obtain ⟨off, wd, x⟩ := q
    obtain ⟨hpl, hx⟩ := hsel p _ hq
    simp only [buildC] at hb
    split at hb
    · rename_i v hv
      split at hb
      · rename_i vc hone
        split at hb
        · rename_i hlen
          split at hb
          · rename_i hfit
            obtain ⟨h1, h2⟩ := ev_sound h hx hv
            have hvc := VR.one_cells (fun c y hy => KR.one hy) h1 hone
            have hvl : (a.eval p.2).cells.size = wd := by rw [← Array.length_toList, hvc.1, hlen]
            have hcl : cells.size = cs.length := by rw [← Array.length_toList]; exact hc.1
            obtain ⟨k1, k2⟩ := foldl_put off (a.eval p.2).cells.toList 0 cells (by rw [hvc.1]; omega)
            simp only [Nat.add_zero] at k1 k2
            have hkk : ∀ k ∈ (setC cs off vc).flatMap AC.keys, k ∈ s.u := by
              intro j hj
              obtain ⟨c, hc', hjc⟩ := List.mem_flatMap.1 hj
              obtain ⟨r, hr⟩ := List.mem_iff_getElem?.1 hc'
              rw [setC_get vc cs off r (by omega)] at hr
              split at hr
              · exact h2 j (by rw [AV.keys_eq, AV.one_cells hone]; exact List.mem_flatMap.2 ⟨c, List.mem_of_getElem? hr, hjc⟩)
              · exact hk j (List.mem_flatMap.2 ⟨c, List.mem_of_getElem? hr, hjc⟩)
            obtain ⟨cells', h3, h4, h5⟩ := fill_sound h place sel hsel rest ps' (setC cs off vc) cs' (cells := ((a.eval p.2).cells.toList.zipIdx 0).foldl (fun cs (p : Value × Nat) => cs.setIfInBounds (off + p.2) p.1) cells) hps hb
              ⟨by rw [Array.length_toList, k1, setC_length, hcl], fun r c u hcr hur => by
                rw [setC_get vc cs off r (by omega)] at hcr
                rw [Array.getElem?_toList, k2, hvc.1] at hur
                split at hcr
                · rename_i hr; rw [if_pos hr] at hur; exact hvc.2 _ c u hcr hur
                · rename_i hr; rw [if_neg hr] at hur; exact hc.2 r c u hcr (by simpa using hur)⟩ hkk
            refine ⟨cells', ?_, h4, h5⟩
            simp only [List.map_cons, Instr.fill, hpl]
            rw [if_neg (by simp [hvl]; omega)]
            rw [← h3, ← Array.foldl_toList, Array.toList_zipIdx]
          · cases hb
        · cases hb
      · cases hb
    · cases hb

theorem mapM_infos {fs : List Field} (hfs : ∀ f ∈ fs, (P.info? f.type).isSome = true) : (fs.mapM (fun (f : Field) => (do pure (f.offset, ← sizeOf f.type) : Sem (Nat × Nat)))).run P w = .ok (fs.map fun f => (f.offset, P.cellsOf f.type)) w := by
  induction fs with
  | nil => rfl
  | cons f r ih =>
    simp only [List.mapM_cons, Sem.run_bind, run_size (hfs f (by simp)), Result.andThen_ok, Sem.run_pure, ih (fun g hg => hfs g (by simp [hg])), List.map_cons]

theorem step_build {t : TypeId} {parts : Array (Nat × Operand)} {z : List AC} {ps : List (Nat × Nat × Opd)} (ho : o.op = .build t parts) (hz : zeroC P t = some z)
    (hu : (∃ fs : Array Field, P.underlying t = some (.struct fs) ∧ (∀ f ∈ fs.toList, (P.info? f.type).isSome = true) ∧ parts.toList.mapM (selS P fs) = some ps) ∨
      (∃ n e, P.underlying t = some (.array n e) ∧ parts.toList.mapM (selA P e) = some ps ∧ (P.info? e).isSome = true))
    (h : Sim gl N w0 Pr φ s a w) (hd : ∀ t, o.dst = some t → t < N) (hst : Step P gl o.dst (.build z ps) hs s K) (ha : After gl N w0 Pr K next) : o.wp P a w next Q := by
  simp only [Step] at hst
  split at hst
  · rename_i cs hcs
    obtain ⟨v, hr, hzr, _⟩ := run_zero (Pr := Pr) (w := w) hz
    have hzk : ∀ j ∈ z.flatMap AC.keys, j ∈ s.u := by
      intro j hj
      obtain ⟨c, hc, hjc⟩ := List.mem_flatMap.1 hj
      obtain ⟨q, hq⟩ := List.mem_iff_getElem?.1 hc
      obtain ⟨y, _, h8⟩ := hzr.get hq
      rw [(KR.of_dr (φ := φ) h8).2] at hjc; cases hjc
    have hzr' : cellsR (KR Pr φ w) z v.cells.toList := hzr.mono fun c _ y hy => (KR.of_dr hy).1
    rcases hu with ⟨fs, hu, hinf, hps⟩ | ⟨n, e, hu, hps, hinf⟩
    · obtain ⟨cells', h3, h4, h5⟩ := fill_sound h (fun i => (fs.map fun f => (f.offset, P.cellsOf f.type))[i]?) _ (fun p q hq => by
        unfold selS at hq
        split at hq
        · rename_i f x hf hx
          split at hq
          · simp only [Option.some.injEq] at hq; subst hq
            exact ⟨by simp [hf], hx⟩
          · cases hq
        · cases hq) parts.toList ps z cs v.cells hps hcs hzr' hzk
      refine fin_value h hd (x := .agg cells') ?_ (v := .agg cs) ⟨cells'.toList, rfl, h4⟩ h5 hst ha
      have hmm : (fs.mapM (fun (f : Field) => (do pure (f.offset, ← sizeOf f.type) : Sem (Nat × Nat)))).run P w = .ok (fs.map fun f => (f.offset, P.cellsOf f.type)) w := by
        rw [Array.mapM_eq_mapM_toList, Sem.run_map]
        rw [mapM_infos hinf]
        simp only [Result.andThen]
        congr 1
        apply Array.ext'
        simp
      have h3' : Instr.fill (fun i => (fs.map fun f => (f.offset, P.cellsOf f.type))[i]?) v.cells (parts.map fun p => (p.1, a.eval p.2)).toList = some cells' := by simpa using h3
      simp only [execOp, ho, Instr.build, Sem.run_bind, hr, Result.andThen_ok, run_underlying hu, hmm, h3', Sem.run_pure]
    · obtain ⟨cells', h3, h4, h5⟩ := fill_sound h (fun i => some (i * P.cellsOf e, P.cellsOf e)) _ (fun p q hq => by
        simp only [selA, Option.map_eq_some_iff] at hq
        obtain ⟨x, hx, rfl⟩ := hq
        exact ⟨rfl, hx⟩) parts.toList ps z cs v.cells hps hcs hzr' hzk
      refine fin_value h hd (x := .agg cells') ?_ (v := .agg cs) ⟨cells'.toList, rfl, h4⟩ h5 hst ha
      have h3' : Instr.fill (fun i => some (i * P.cellsOf e, P.cellsOf e)) v.cells (parts.map fun p => (p.1, a.eval p.2)).toList = some cells' := by simpa using h3
      simp [execOp, ho, Instr.build, Sem.run_bind, hr, Result.andThen, run_underlying hu, run_size hinf, h3]
  · exact hst.elim
end
end Go.Proofs.YtfmeidhialmckaaGreatDoor.Ab

namespace Go.Proofs.YtfmeidhialmckaaGreatDoor.Ab
open Go Go.RowKit

section
variable {P : Program} {gl : Nat → Option (List AC)} {N : Nat} {w0 : World} {Pr : Nat → Prop} {φ : Nat → Option (Option Nat)} {s : St} {a : Act} {w : World}
  {o : Oper} {hs : List Hint} {K : List Hint → St → Prop} {next : Act → World → Prop} {Q : Exit → Act → World → Prop}

/-- A new row: the operation hands back a slice of it. -/
theorem fin_row {k wd n cap : Nat} {f : Nat → List AC} {arr : Array Value} {T : TypeId} (h : Sim gl N w0 Pr φ s a w) (hd : ∀ t, o.dst = some t → t < N) (hk : s.u.elem k = false)
    (hrun : (execOp a.eval o).run P w = .ok (.value (.slice (some ⟨w.heap.size, 0, none⟩) n cap)) (w.alloc (.cells arr T))) (hc : n ≤ cap) (hz : cap * wd ≤ arr.size)
    (hfit : Fits Pr φ w s.u arr (.arr wd n f false)) (hK : K hs ((s.al k (.arr wd n f false)).pu o.dst (.c (.own k wd 0 n)))) (ha : After gl N w0 Pr K next) : o.wp P a w next Q := by
  obtain ⟨φ', hf, hsim⟩ := h.al (T := T) hk (arr := arr) (blk := .arr wd n f false) rfl hfit
  unfold Oper.wp
  rw [hrun]
  have hnew : (w.alloc (.cells arr T)).heap[w.heap.size]? = some (.cells arr T (0, 0)) := by
    show (w.heap.push _)[w.heap.size]? = _
    simp
  have hv : VR (KR Pr φ' (w.alloc (.cells arr T))) (.c (.own k wd 0 n)) (.slice (some ⟨w.heap.size, 0 * wd, none⟩) n cap) := .mkOwn hf hc (by simp only [bsize, hnew, Nat.zero_add]; exact hz)
  rw [Nat.zero_mul] at hv
  exact ha _ _ _ _ _ _ hK (hsim.pu hd hv (by simp [AV.keys, AC.keys, AC.keys0, St.al])) (PrS.refl _ _)

theorem zeros_get (z : Array Value) (n wd : Nat) (hz : z.size = wd) (hw : 0 < wd) (i j : Nat) (hi : i < n) (hj : j < wd) :
    ((Array.range (n * wd)).map (z[· % z.size]!))[i * wd + j]? = z[j]? := by
  have hlt : i * wd + j < n * wd := by
    have : (i + 1) * wd ≤ n * wd := Nat.mul_le_mul_right _ hi
    rw [Nat.add_mul] at this; omega
  rw [Array.getElem?_map, Array.getElem?_range, if_pos hlt]
  simp only [Option.map_some, hz]
  rw [Nat.add_comm (i * wd), Nat.add_mul_mod_self_right, Nat.mod_eq_of_lt hj]
  simp [hz, hj]

theorem madeCells_get (z : Array Value) (n wd : Nat) (hz : z.size = wd) (i j : Nat) (hi : i < n) (hj : j < wd) : (madeCells z (n * wd))[i * wd + j]? = z[j]? := by
  have hlt : i * wd + j < n * wd := by
    have : (i + 1) * wd ≤ n * wd := Nat.mul_le_mul_right _ hi
    rw [Nat.add_mul] at this; omega
  unfold madeCells
  rw [Array.getElem?_map, Array.getElem?_range, if_pos hlt]
  simp only [Option.map_some, hz]
  rw [Nat.add_comm (i * wd), Nat.add_mul_mod_self_right, Nat.mod_eq_of_lt hj]
  simp [hz, hj]

theorem step_msl {t e : TypeId} {l c : Operand} {l' : Opd} {z : List AC} (ho : o.op = .makeSlice t l c) (hu : P.underlying t = some (.slice e)) (hz : zeroC P e = some z)
    (hl : cO l = some l') (hlc : a.eval c = a.eval l) (hcel : P.cellsOf e ≠ 0) (hby : P.bytesOf e ≤ 1024) (hzl : z.length = P.cellsOf e)
    (h : Sim gl N w0 Pr φ s a w) (hd : ∀ t, o.dst = some t → t < N) (hst : Step P gl o.dst (.msl (P.cellsOf e) (P.bytesOf e) z l') hs s K) (ha : After gl N w0 Pr K next) : o.wp P a w next Q := by
  simp only [Step] at hst
  split at hst
  · rename_i k kk m n' f' hs' hk hlv
    split at hst
    · rename_i hke
      obtain ⟨⟨hm0, hmn, hlim⟩, hf', hst⟩ := hst
      have el := (ev_sound h hl hlv).1.int_inv
      obtain ⟨v, hr, hcs, i, hi, hiz⟩ := run_zero (Pr := Pr) (w := w) hz
      have hvs : v.cells.size = P.cellsOf e := by rw [← Array.length_toList, hcs.1, hzl]
      have hcell : P.cellsOf e = i.size := by simp [Program.cellsOf, hi]
      have hbytes : P.bytesOf e = i.bytes := by simp [Program.bytesOf, hi]
      have hlim' : n' ≤ 68719476736 := hlim
      have hb2 : (i.bytes : Int) * m ≤ 281474976710656 := by
        have h1 : i.bytes * n' ≤ 1024 * 68719476736 := Nat.mul_le_mul (by omega) hlim'
        have h2 : (i.bytes : Int) * m = ((i.bytes * n' : Nat) : Int) := by rw [Int.natCast_mul]; congr 1; omega
        omega
      have hrun := run_make (P := P) w t e i v hu hi hiz kk kk m m hm0 (Int.le_refl _) hb2 (by omega)
      rw [hmn, ← hcell] at hrun
      rw [hk] at hst
      have hmx : n' ≤ maxLen := by unfold maxLen; omega
      refine fin_row h hd hke (wd := P.cellsOf e) (n := n') (cap := n') (f := f') (arr := madeCells v.cells (n' * P.cellsOf e)) (T := e) ?_ (Nat.le_refl _) (by rw [size_madeCells]; exact Nat.le_refl _) ?_ (by rw [hk]; exact hst) ha
      · simp only [execOp, ho, hlc, el, Sem.run_bind, hrun, Result.andThen_ok, Sem.run_pure]
      · refine ⟨by omega, by rw [size_madeCells]; exact Nat.le_refl _, by rw [size_madeCells]; exact Nat.mul_le_mul_right _ hmx, fun q hq => ⟨by rw [hf' q hq, hzl], fun j c hj => ?_⟩⟩
        rw [hf' q hq] at hj
        have hjl : j < P.cellsOf e := by rw [← hzl]; exact (List.getElem?_eq_some_iff.1 hj).1
        rw [madeCells_get v.cells n' _ hvs q j hq hjl]
        obtain ⟨y, h1, h2⟩ := hcs.get hj
        exact ⟨y, by simpa using h1, h2⟩
    · exact hst.elim
  · exact hst.elim

theorem fill_seq (wd : Nat) : ∀ (L : List (Nat × Value)) (k : Nat) (cells : Array Value), L.map (·.1) = List.range' k L.length → (∀ p ∈ L, p.2.cells.size = wd) → (k + L.length) * wd ≤ cells.size →
    ∃ cells', Instr.fill (fun i => some (i * wd, wd)) cells L = some cells' ∧ cells'.size = cells.size ∧
      (∀ r, r < k * wd → cells'[r]? = cells[r]?) ∧ ∀ (i j : Nat) p, L[i]? = some p → j < wd → cells'[(k + i) * wd + j]? = p.2.cells[j]?
  | [], k, cells, hL, hc, hz => ⟨cells, rfl, rfl, fun _ _ => rfl, by simp⟩
  | p :: L, k, cells, hL, hc, hz => by
    simp only [List.map_cons, List.length_cons, List.range'_succ, List.cons.injEq] at hL
    obtain ⟨hp1, hL⟩ := hL
    have hpc := hc p (by simp)
    simp only [List.length_cons] at hz
    have hz1 : (k + 1) * wd ≤ (k + (L.length + 1)) * wd := Nat.mul_le_mul_right _ (by omega)
    have hkw : k * wd + wd = (k + 1) * wd := by rw [Nat.add_mul]; omega
    obtain ⟨f1, f2⟩ := foldl_put (k * wd) p.2.cells.toList 0 cells (by rw [Array.length_toList, hpc]; omega)
    simp only [Nat.add_zero, Array.length_toList, hpc] at f1 f2
    obtain ⟨cells', h1, h2, h3, h4⟩ := fill_seq wd L (k + 1) ((p.2.cells.toList.zipIdx 0).foldl (fun cs (q : Value × Nat) => cs.setIfInBounds (k * wd + q.2) q.1) cells) hL (fun q hq => hc q (by simp [hq]))
      (by rw [f1, show k + 1 + L.length = k + (L.length + 1) by omega]; exact hz)
    refine ⟨cells', ?_, by rw [h2, f1], fun r hr => ?_, fun i j q hq hj => ?_⟩
    · obtain ⟨p1, p2⟩ := p
      simp only at hp1 hpc
      subst hp1
      simp only [Instr.fill]
      rw [if_neg (by simp [hpc]; omega), ← Array.foldl_toList, Array.toList_zipIdx]
      exact h1
    · rw [h3 r (by omega), f2, if_neg (by omega)]
    · cases i with
      | zero =>
        simp only [List.getElem?_cons_zero, Option.some.injEq] at hq
        subst hq
        rw [Nat.add_zero, h3 _ (by omega), f2, if_pos (by omega)]
        rw [show k * wd + j - k * wd = j by omega]
        simp
      | succ i =>
        have := h4 i j q (by simpa using hq) hj
        rw [show k + (i + 1) = k + 1 + i by omega]
        exact this

theorem partsC_sound (h : Sim gl N w0 Pr φ s a w) (wd : Nat) : ∀ (xs : List Operand) (ys : List Opd) (ps : List (List AC)), xs.mapM cO = some ys → partsC gl s wd ys = some ps →
    ps.length = xs.length ∧ ∀ (i : Nat) p x, ps[i]? = some p → xs[i]? = some x → p.length = wd ∧ cellsR (KR Pr φ w) p (a.eval x).cells.toList
  | [], ys, ps, hm, hp => by
    simp at hm; subst hm
    simp [partsC] at hp; subst hp
    exact ⟨rfl, by simp⟩
  | x :: r, ys, ps, hm, hp => by
    simp only [List.mapM_cons, Option.bind_eq_bind, Option.bind_eq_some_iff, Option.pure_def, Option.some.injEq] at hm
    obtain ⟨y, hy, ys', hys, rfl⟩ := hm
    simp only [partsC] at hp
    split at hp
    · rename_i v hv
      split at hp
      · rename_i vc hone
        split at hp
        · rename_i hlen
          split at hp
          · rename_i l hl
            simp only [Option.some.injEq] at hp; subst hp
            obtain ⟨h1, h2⟩ := partsC_sound h wd r ys' l hys hl
            refine ⟨by simp [h1], fun i u z hu hz => ?_⟩
            cases i with
            | zero => simp at hu hz; subst hu hz; exact ⟨hlen, VR.one_cells (fun c y hy => KR.one hy) (ev_sound h hy hv).1 hone⟩
            | succ i => exact h2 i u z (by simpa using hu) (by simpa using hz)
          · cases hp
        · cases hp
      · cases hp
    · cases hp

theorem frPartsC_sound : ∀ (cs : List (List AC)) (vs : List (List Value)) {s : St} {Pr : Nat → Prop} {K : List (List AC) → St → Prop} (h : Sim gl N w0 Pr φ s a w) (hl : vs.length = cs.length)
    (hx : ∀ (i : Nat) c v, cs[i]? = some c → vs[i]? = some v → cellsR (KR Pr φ w) c v) (hf : frPartsC s cs K),
    ∃ cs' s' Pr', K cs' s' ∧ Told gl N w0 Pr Pr' φ s s' a w ∧ vs.length = cs'.length ∧ ∀ (i : Nat) c v, cs'[i]? = some c → vs[i]? = some v → cellsR (DR Pr' w) c v
  | [], vs, s, Pr, K, h, hl, hx, hf => ⟨[], s, Pr, hf, .refl h, hl, by simp⟩
  | c :: r, vs, s, Pr, K, h, hl, hx, hf => by
    match vs, hl, hx with
    | [], hl, hx => exact absurd hl (by simp)
    | v :: vs, hl, hx =>
      obtain ⟨c', s', Pr', hK, h1, h2, h3, h4, h5, h6, _⟩ := frCs_sound c v h (hx 0 c v rfl rfl) hf
      obtain ⟨cs', s'', Pr'', hK', k1, k2, k3⟩ := frPartsC_sound r vs h2 (by simpa using hl) (fun i d u hd hu => (hx (i + 1) d u (by simpa using hd) (by simpa using hu)).mono fun _ _ _ y => y.weak h6) hK
      refine ⟨c' :: cs', s'', Pr'', hK', Told.trans ⟨h1, h2, h4, h5, h6⟩ k1, by simp [k2], fun i d u hd hu => ?_⟩
      cases i with
      | zero => simp at hd hu; subst hd hu; exact h3.mono fun _ _ _ y => y.weak k1.p
      | succ i => exact k3 i d u (by simpa using hd) (by simpa using hu)

theorem step_bsl {t e : TypeId} {len : Nat} {parts : Array (Nat × Operand)} {ps : List Opd} {z : List AC} (ho : o.op = .buildSlice t len parts) (hu : P.underlying t = some (.slice e)) (hz : zeroC P e = some z)
    (hps : parts.toList.mapM (fun p => cO p.2) = some ps) (hix : parts.toList.map (·.1) = List.range len) (hcel : P.cellsOf e ≠ 0) (hbig : len * P.cellsOf e ≤ 2 ^ 24) (hzl : z.length = P.cellsOf e)
    (h : Sim gl N w0 Pr φ s a w) (hd : ∀ t, o.dst = some t → t < N) (hst : Step P gl o.dst (.bsl (P.cellsOf e) ps) hs s K) (ha : After gl N w0 Pr K next) : o.wp P a w next Q := by
  simp only [Step] at hst
  split at hst
  · rename_i k pcs n f' hs' hk hpc
    split at hst
    · rename_i hke
      obtain ⟨v, hr, hcs, i, hi, hiz⟩ := run_zero (Pr := Pr) (w := w) hz
      have hvs : v.cells.size = P.cellsOf e := by rw [← Array.length_toList, hcs.1, hzl]
      have hlen : parts.toList.length = len := by have := congrArg List.length hix; simpa using this
      obtain ⟨q1, q2⟩ := partsC_sound h (P.cellsOf e) (parts.toList.map (·.2)) ps pcs (by rw [List.mapM_map]; exact hps) hpc
      obtain ⟨qs, s', Pr', ⟨hn, hf', hK⟩, ht, ht2, ht3⟩ := frPartsC_sound pcs (parts.toList.map fun p => (a.eval p.2).cells.toList) h (by rw [q1]; simp) (fun i c u hc hu => by
        rw [List.getElem?_map, Option.map_eq_some_iff] at hu
        obtain ⟨p, hp, rfl⟩ := hu
        exact (q2 i c p.2 hc (by rw [List.getElem?_map, hp]; rfl)).2) hst
      have hnl : n = len := by rw [hn, ← ht2]; simpa using hlen
      have hpw : ∀ p ∈ parts.toList, (a.eval p.2).cells.size = P.cellsOf e := by
        intro p hp
        obtain ⟨i, hi⟩ := List.mem_iff_getElem?.1 hp
        have hlt : i < pcs.length := by rw [q1]; simpa using (List.getElem?_eq_some_iff.1 hi).1
        have h5 := q2 i pcs[i] p.2 (List.getElem?_eq_getElem hlt) (by rw [List.getElem?_map, hi]; rfl)
        rw [← Array.length_toList, h5.2.1, h5.1]
      obtain ⟨cells', c1, c2, c3, c4⟩ := fill_seq (P.cellsOf e) (parts.toList.map fun p => (p.1, a.eval p.2)) 0 (madeCells v.cells (len * P.cellsOf e))
        (by rw [List.map_map, List.length_map, hlen, ← List.range_eq_range']; exact hix) (fun p hp => by
          obtain ⟨q, hq, rfl⟩ := List.mem_map.1 hp
          exact hpw q hq) (by rw [size_madeCells, Nat.zero_add, List.length_map, hlen]; exact Nat.le_refl _)
      rw [size_madeCells] at c2
      rw [hk] at hK
      have hke' : s'.u.elem k = false := by rw [ht.u]; exact hke
      refine fin_row (hs := hs') ht.sim hd hke' (wd := P.cellsOf e) (n := n) (cap := n) (f := f') (arr := cells') (T := e) ?_ (Nat.le_refl _) (by rw [c2, hnl]; exact Nat.le_refl _) ?_ (by rw [hk]; exact hK)
        (fun hs'' s'' Pr'' φ'' a'' w'' k1 k2 k3 => ha _ _ _ _ _ _ k1 k2 (ht.st.trans k3))
      · have hi2 : (P.info? e).isSome = true := by rw [hi]; rfl
        have hb : ¬ 16777216 < len * P.cellsOf e := by omega
        have c1b : Instr.fill (fun i => some (i * P.cellsOf e, P.cellsOf e)) ((Array.range (len * P.cellsOf e)).map (v.cells[· % v.cells.size]!)) (parts.toList.map fun p => (p.1, a.eval p.2)) = some cells' := c1
        have c1a : len * P.cellsOf e = 0 → Instr.fill (fun i => some (i * P.cellsOf e, P.cellsOf e)) ((Array.range (len * P.cellsOf e)).map (fun _ => (default : Value))) (parts.toList.map fun p => (p.1, a.eval p.2)) = some cells' := by
          intro h0
          rw [← c1b, h0]
          simp [Array.range_zero']
        have hrun : (Instr.buildSlice t len (parts.map fun p => (p.1, a.eval p.2))).run P w = .ok (.slice (some ⟨w.heap.size, 0, none⟩) len len) (w.alloc (.cells cells' e)) := by
          unfold Instr.buildSlice
          simp [Sem.run_bind, run_underlying hu, Result.andThen, run_size hi2, hb, newRow, newObj]
          split
          · rename_i h0; rw [c1a h0]; simp [Sem.run]
          · rw [hr]; simp only []; rw [c1b]; simp [Sem.run]
        rw [hnl]
        simp only [execOp, ho, Sem.run_bind, hrun, Result.andThen_ok, Sem.run_pure]
      · refine ⟨by omega, by rw [c2, hnl]; exact Nat.le_refl _, by
          rw [c2]
          refine Nat.mul_le_mul_right _ ?_
          have : len * 1 ≤ len * P.cellsOf e := Nat.mul_le_mul_left _ (by omega)
          unfold maxLen; omega, fun i hi' => ?_⟩
        rw [hf' i hi']
        have hlt : i < qs.length := by omega
        have hq : qs[i]? = some qs[i] := List.getElem?_eq_getElem hlt
        have hlt2 : i < parts.toList.length := by omega
        have hp : parts.toList[i]? = some parts.toList[i] := List.getElem?_eq_getElem hlt2
        have h6 := ht3 i qs[i] _ hq (by rw [List.getElem?_map, hp]; rfl)
        have hgd : qs.getD i [] = qs[i] := by simp [List.getD, hq]
        rw [hgd]
        have hpw' := hpw parts.toList[i] (List.mem_of_getElem? hp)
        refine ⟨by have := h6.1; rw [Array.length_toList, hpw'] at this; exact this.symm, fun j c hj => ?_⟩
        obtain ⟨y, h7, h8⟩ := h6.get hj
        have hjl : j < P.cellsOf e := by have := (List.getElem?_eq_some_iff.1 h7).1; rw [Array.length_toList, hpw'] at this; exact this
        have h9 := c4 i j _ (by rw [List.getElem?_map, hp]; rfl) hjl
        rw [Nat.zero_add] at h9
        exact ⟨y, by rw [h9]; simpa using h7, h8⟩
    · exact hst.elim
  · exact hst.elim
end
end Go.Proofs.YtfmeidhialmckaaGreatDoor.Ab

namespace Go.Proofs.YtfmeidhialmckaaGreatDoor.Ab
open Go Go.RowKit

section
variable {P : Program} {gl : Nat → Option (List AC)} {N : Nat} {w0 : World} {Pr : Nat → Prop} {φ : Nat → Option (Option Nat)} {s : St} {a : Act} {w : World}
  {o : Oper} {hs : List Hint} {K : List Hint → St → Prop} {next : Act → World → Prop} {Q : Exit → Act → World → Prop}

/-- A bound that is given, or not. -/
theorem bnd_sound (h : Sim gl N w0 Pr φ s a w) {lo : Option Operand} {lo' : Option Opd} (hl : cOo lo = some lo') {n i : Int} (hb : bnd gl s n lo' = some i) :
    (lo = none ∧ i = n) ∨ ∃ x k, lo = some x ∧ a.eval x = .int k i := by
  cases lo with
  | none => simp [cOo] at hl; subst hl; simp [bnd] at hb; exact .inl ⟨rfl, hb.symm⟩
  | some x =>
    simp only [cOo, Option.map_eq_some_iff] at hl
    obtain ⟨y, hy, rfl⟩ := hl
    simp only [bnd] at hb
    split at hb
    · rename_i k j hv
      cases hb
      exact .inr ⟨x, k, rfl, (ev_sound h hy hv).1.int_inv⟩
    · cases hb

theorem run_bounds {isS : Bool} {len cap : Nat} {lo hi : Option Operand} {l hh : Int} (hlo : (lo = none ∧ l = 0) ∨ ∃ x k, lo = some x ∧ a.eval x = .int k l) (hhi : (hi = none ∧ hh = len) ∨ ∃ x k, hi = some x ∧ a.eval x = .int k hh)
    (h0 : 0 ≤ l) (h1 : l ≤ hh) (h2 : hh ≤ len) (h3 : len ≤ cap) :
    (Instr.sliceBounds isS len cap (lo.map a.eval) (hi.map a.eval) none).run P w = .ok (l.toNat, hh.toNat, cap) w := by
  have hlh : l ≤ (hh.toNat : Int) := by omega
  have hhc : hh ≤ (cap : Int) := by omega
  have h4 : 0 ≤ hh := by omega
  have h5 : l ≤ max hh 0 := by omega
  rcases hlo with ⟨rfl, rfl⟩ | ⟨x, k, rfl, hx⟩ <;> rcases hhi with ⟨rfl, rfl⟩ | ⟨y, k', rfl, hy⟩
  · simp [Instr.sliceBounds, Sem.run_bind, Result.andThen]
  · simp [Instr.sliceBounds, Instr.sliceBound, asIntOf, Sem.run_bind, Result.andThen, hy, h4, hhc]
  · have hlen : l ≤ (len : Int) := by omega
    simp [Instr.sliceBounds, Instr.sliceBound, asIntOf, Sem.run_bind, Result.andThen, hx, h0, hlen]
  · simp [Instr.sliceBounds, Instr.sliceBound, asIntOf, Sem.run_bind, Result.andThen, hx, hy, h0, hlh, h4, hhc, h5]

theorem step_sls {t : TypeId} {x : Operand} {lo hi : Option Operand} {x' : Opd} {lo' hi' : Option Opd} (ho : o.op = .slice t x lo hi none) (hx : cO x = some x')
    (hlo : cOo lo = some lo') (hhi : cOo hi = some hi') (hu : P.underlying t = some .string)
    (h : Sim gl N w0 Pr φ s a w) (hd : ∀ t, o.dst = some t → t < N) (hst : Step P gl o.dst (.sls x' lo' hi') hs s K) (ha : After gl N w0 Pr K next) : o.wp P a w next Q := by
  simp only [Step] at hst
  split at hst
  · rename_i l l' hs' hxv
    have ex := (ev_sound h hx hxv).1.str_inv
    split at hst
    · rename_i i j hi1 hj1
      obtain ⟨⟨h0, h1, h2⟩, hl', hst⟩ := hst
      have hz : (⟨l.toArray⟩ : ByteArray).size = l.length := List.size_toArray
      have hr := run_bounds (P := P) (w := w) (isS := false) (len := l.length) (cap := l.length) (bnd_sound h hlo hi1) (bnd_sound h hhi hj1) h0 h1 h2 (Nat.le_refl _)
      refine fin_str h hd ?_ hst ha
      rw [hl', ← ByteArray.extract_mk]
      have : (Instr.slice t (.string ⟨l.toArray⟩) (lo.map a.eval) (hi.map a.eval) none).run P w = .ok (.string ((⟨l.toArray⟩ : ByteArray).extract i.toNat j.toNat)) w := by
        unfold Instr.slice
        simp only [Sem.run_bind, run_underlying hu, Result.andThen_ok, hz]
        simp [Sem.run_bind, hr, Result.andThen]
      simp only [execOp, ho, ex, Option.map_none, Sem.run_bind]
      rw [show (Instr.sliceAt t (.string ⟨l.toArray⟩) (lo.map a.eval) (hi.map a.eval) none).run P w = .ok (.string ((⟨l.toArray⟩ : ByteArray).extract i.toNat j.toNat)) w by
        simp only [Instr.sliceAt, Sem.run_bind, run_underlying hu, Result.andThen_ok, this]]
      rfl
    · exact hst.elim
  · exact hst.elim

theorem run_sliceAt {t e : TypeId} (hu : P.underlying t = some (.slice e)) (hi2 : (P.info? e).isSome = true) {ad : Option Addr} {n cap : Nat} {lo hi : Option Operand} {l hh : Int}
    (hlo : (lo = none ∧ l = 0) ∨ ∃ x k, lo = some x ∧ a.eval x = .int k l) (hhi : (hi = none ∧ hh = n) ∨ ∃ x k, hi = some x ∧ a.eval x = .int k hh)
    (h0 : 0 ≤ l) (h1 : l ≤ hh) (h2 : hh ≤ n) (h3 : n ≤ cap) :
    (Instr.sliceAt t (.slice ad n cap) (lo.map a.eval) (hi.map a.eval) none).run P w = .ok (.slice (if cap = l.toNat then ad else ad.map (·.add (l.toNat * P.cellsOf e))) (hh.toNat - l.toNat) (cap - l.toNat)) w := by
  have hr := run_bounds (P := P) (w := w) (isS := true) (len := n) (cap := cap) hlo hhi h0 h1 h2 h3
  simp only [Instr.sliceAt, Sem.run_bind, run_underlying hu, Result.andThen_ok, Instr.slice, hr, run_size hi2, Sem.run_pure]

theorem info_of_cells {e : TypeId} (hz : P.cellsOf e ≠ 0) : (P.info? e).isSome = true := by
  cases hh : P.info? e with
  | none => simp [Program.cellsOf, hh] at hz
  | some _ => rfl

theorem step_slc {t e : TypeId} {x : Operand} {lo hi : Option Operand} {x' : Opd} {lo' hi' : Option Opd} (ho : o.op = .slice t x lo hi none) (hx : cO x = some x')
    (hlo : cOo lo = some lo') (hhi : cOo hi = some hi') (hu : P.underlying t = some (.slice e)) (hcel : P.cellsOf e ≠ 0)
    (h : Sim gl N w0 Pr φ s a w) (hd : ∀ t, o.dst = some t → t < N) (hst : Step P gl o.dst (.slc (P.cellsOf e) x' lo' hi') hs s K) (ha : After gl N w0 Pr K next) : o.wp P a w next Q := by
  have hi2 := info_of_cells hcel
  have run : ∀ ad n cap l hh, a.eval x = .slice ad n cap → ((lo = none ∧ l = 0) ∨ ∃ x k, lo = some x ∧ a.eval x = .int k l) → ((hi = none ∧ hh = (n : Int)) ∨ ∃ x k, hi = some x ∧ a.eval x = .int k hh) → 0 ≤ l → l ≤ hh → hh ≤ n → n ≤ cap →
      (execOp a.eval o).run P w = .ok (.value (.slice (if cap = l.toNat then ad else ad.map (·.add (l.toNat * P.cellsOf e))) (hh.toNat - l.toNat) (cap - l.toNat))) w := by
    intro ad n cap l hh he h1 h2 h3 h4 h5 h6
    simp only [execOp, ho, he, Option.map_none, Sem.run_bind, run_sliceAt hu hi2 h1 h2 h3 h4 h5 h6, Result.andThen_ok, Sem.run_pure]
  -- a slice of readable elements, cut
  have cut : ∀ {Pr' : Nat → Prop} {w' : World} {f f' : Nat → List AC} {n n' : Nat} {l hh : Int} {y : Value} {ad : Option Addr} {cap : Nat}, DR Pr' w' (.sl (P.cellsOf e) n f) y → y = .slice ad n cap → 0 ≤ l → l ≤ hh → hh ≤ n → n' = (hh - l).toNat → (∀ i, i < n' → f' i = f (l.toNat + i)) →
      DR Pr' w' (.sl (P.cellsOf e) n' f') (.slice (if cap = l.toNat then ad else ad.map (·.add (l.toNat * P.cellsOf e))) (hh.toNat - l.toNat) (cap - l.toNat)) ∧ n ≤ cap := by
    intro Pr' w' f f' n n' l hh y ad cap hdr hy h0 h1 h2 hn' hf'
    rw [show hh.toNat - l.toNat = n' by omega]
    cases hdr with
    | slN => cases hy; simp only [Nat.zero_sub, Option.map_none]; rw [show n' = 0 by omega]; exact ⟨by simp; exact .slN .., Nat.le_refl _⟩
    | sl _ _ _ ad1 cap1 g hn hc hl hr hd1 =>
      cases hy
      refine ⟨?_, hn⟩
      have hlc : cap - l.toNat ≤ maxLen := by omega
      by_cases hcl : cap = l.toNat
      · rw [if_pos hcl]
        have : n' = 0 := by omega
        subst this
        exact DR.sl_of_ex (Nat.zero_le _) hlc (fun i hi => absurd hi (by omega)) (fun i j c hi => absurd hi (by omega))
      · rw [if_neg hcl]
        refine DR.sl_of_ex (by omega) hlc (fun i hi => by rw [hf' i hi]; exact hl _ (by omega)) (fun i j c hi hj => ?_)
        rw [hf' i hi] at hj
        obtain ⟨h5, h6⟩ := hr (l.toNat + i) j c (by omega) hj
        refine ⟨by rw [Addr.add_block]; exact h5, _, ?_, hd1 (l.toNat + i) j c (by omega) hj⟩
        rw [Addr.add_add, ← Nat.add_assoc, ← Nat.add_mul]; exact h6
  simp only [Step] at hst
  split at hst
  · rename_i wd n f n' f' hs' hxv
    split at hst
    · rename_i l hh hl1 hh1
      split at hst
      · rename_i hwd
        subst hwd
        obtain ⟨⟨h0, h1, h2⟩, hn', hf', hst⟩ := hst
        obtain ⟨hv, _⟩ := ev_sound h hx hxv
        have hv' : DR Pr w (.sl (P.cellsOf e) n f) (a.eval x) := hv
        have hsh : ∃ ad cap, a.eval x = .slice ad n cap := by
          generalize a.eval x = y at hv'
          cases hv' <;> exact ⟨_, _, rfl⟩
        obtain ⟨ad, cap, he⟩ := hsh
        obtain ⟨hc1, hc2⟩ := cut hv' he h0 h1 h2 hn' hf'
        exact fin_value h hd (run ad n cap l hh he (bnd_sound h hlo hl1) (bnd_sound h hhi hh1) h0 h1 h2 hc2) (v := .c (.sl (P.cellsOf e) n' f')) (KR.of_dr (φ := φ) hc1).1 (by simp [AV.keys, AC.keys, AC.keys0]) hst ha
      · exact hst.elim
    · exact hst.elim
  · rename_i k wd n n' f' hs' hxv
    split at hst
    · rename_i l hh wd2 m f z hl1 hh1 hb
      split at hst
      · rename_i hwd
        subst hwd
        split at hst
        · rename_i hwd
          subst hwd
          obtain ⟨⟨h0, h1, h2, hnm⟩, hn', hf', hst⟩ := hst
          obtain ⟨hv, _⟩ := ev_sound h hx hxv
          obtain ⟨Pr', k1, k2, k2', k3⟩ := h.fzk hb (.inr ⟨_, m, f, z, rfl, rfl⟩)
          have hk' : (s.sh k (.arr (P.cellsOf e) m f true)).h k = some (.arr (P.cellsOf e) m f true) := by simp [St.sh, nbt]
          have hv' : DR Pr' w (.sl (P.cellsOf e) n (shf f 0)) (a.eval x) := k3.own_dr hk' (hv.weak fun b y => (k1 b).1 y) (by omega)
          have hsh : ∃ ad cap, a.eval x = .slice ad n cap := by
            generalize a.eval x = y at hv'
            cases hv' <;> exact ⟨_, _, rfl⟩
          obtain ⟨ad, cap, he⟩ := hsh
          obtain ⟨hc1, hc2⟩ := cut hv' he h0 h1 h2 hn' hf'
          exact fin_value k3 hd (run ad n cap l hh he (bnd_sound h hlo hl1) (bnd_sound h hhi hh1) h0 h1 h2 hc2) (v := .c (.sl (P.cellsOf e) n' f')) (KR.of_dr (φ := φ) hc1).1 (by simp [AV.keys, AC.keys, AC.keys0]) hst
            (fun hs'' s'' Pr'' φ'' a'' w'' q1 q2 q3 => ha _ _ _ _ _ _ q1 q2 (k1.trans q3))
        · exact hst.elim
      · exact hst.elim
    · exact hst.elim
  · rename_i k wd n n' hs' hxv
    split at hst
    · rename_i lo2 hh w2 m f z hh1 hb
      split at hst
      · rename_i hwd
        subst hwd
        obtain ⟨⟨h0, h1, h2⟩, hst⟩ := hst
        obtain ⟨hv, hk2⟩ := ev_sound h hx hxv
        have hlo' : lo = none := by
          cases lo with
          | none => rfl
          | some y => simp [cOo] at hlo
        rcases hv.own_inv h hb with ⟨hf, he, rfl, _, _⟩ | ⟨b, arr, T, cap, hf, he, hn, hcap, hhp, hB⟩
        · have hr := run none 0 0 0 hh he (.inl ⟨hlo', rfl⟩) (bnd_sound h hhi hh1) (Int.le_refl _) h0 h1 (Nat.le_refl _)
          have e1 : n' = 0 := by omega
          subst e1
          rw [show hh.toNat = 0 by omega] at hr
          exact fin_value h hd hr (v := .c (.own k (P.cellsOf e) 0 0)) (by simp; exact .mkOwnNil hf) (by simpa [AV.keys, AC.keys, AC.keys0] using hk2) hst ha
        · have hr := run _ n cap 0 hh he (.inl ⟨hlo', rfl⟩) (bnd_sound h hhi hh1) (Int.le_refl _) h0 h1 hn
          have e2 : (if cap = Int.toNat 0 then some (⟨b, 0 * P.cellsOf e, none⟩ : Addr) else (some (⟨b, 0 * P.cellsOf e, none⟩ : Addr)).map (·.add (Int.toNat 0 * P.cellsOf e))) = some ⟨b, 0 * P.cellsOf e, none⟩ := by
            simp [Addr.add]
          rw [e2, show hh.toNat - Int.toNat 0 = n' by simp; omega] at hr
          exact fin_value h hd hr (v := .c (.own k (P.cellsOf e) 0 n')) (.mkOwn hf (by simp; omega) (by simp only [bsize, hhp]; simpa using hcap)) (by simpa [AV.keys, AC.keys, AC.keys0] using hk2) hst ha
      · exact hst.elim
    · exact hst.elim
  · exact hst.elim
end
end Go.Proofs.YtfmeidhialmckaaGreatDoor.Ab

namespace Go.Proofs.YtfmeidhialmckaaGreatDoor.Ab
open Go Go.RowKit

section
variable {P : Program} {gl : Nat → Option (List AC)} {N : Nat} {w0 : World} {Pr : Nat → Prop} {φ : Nat → Option (Option Nat)} {s : St} {a : Act} {w : World}
  {o : Oper} {hs : List Hint} {K : List Hint → St → Prop} {next : Act → World → Prop} {Q : Exit → Act → World → Prop}

/-- What an append reads of the slice that it brings. -/
structure News (Pr : Nat → Prop) (w : World) (wd m : Nat) (g : Nat → List AC) (ad : Addr) (news : List Value) : Prop where
  len : news.length = m * wd
  cell : ∀ (j : Nat) u, news[j]? = some u → w.cell? (ad.add j) = some u
  el : ∀ i, i < m → (g i).length = wd ∧ ∀ (j : Nat) c, (g i)[j]? = some c → ∃ u, news[i * wd + j]? = some u ∧ DR Pr w c u
  one : ∀ u ∈ news, u.oneCell' = true

theorem News.of_ex {wd m : Nat} {g : Nat → List AC} {ad : Addr} (hw : 0 < wd) (hl : ∀ i, i < m → (g i).length = wd)
    (hr : ∀ (i j : Nat) c, i < m → (g i)[j]? = some c → ∃ y, w.cell? (ad.add (i * wd + j)) = some y ∧ DR Pr w c y) : ∃ news, News Pr w wd m g ad news := by
  have hall : ∀ r, r < m * wd → ∃ c y, (g (r / wd))[r % wd]? = some c ∧ w.cell? (ad.add r) = some y ∧ DR Pr w c y := by
    intro r hrr
    have h1 : r / wd < m := Nat.div_lt_of_lt_mul (by rw [Nat.mul_comm]; exact hrr)
    have h2 : r % wd < wd := Nat.mod_lt _ hw
    have h3 : (g (r / wd))[r % wd]? = some ((g (r / wd))[r % wd]'(by rw [hl _ h1]; exact h2)) := List.getElem?_eq_getElem _
    obtain ⟨y, h4, h5⟩ := hr _ _ _ h1 h3
    rw [Nat.div_add_mod' r wd] at h4
    exact ⟨_, y, h3, h4, h5⟩
  refine ⟨(List.range (m * wd)).map fun j => (w.cell? (ad.add j)).getD undef, by simp, fun j u hu => ?_, fun i hi => ⟨hl i hi, fun j c hc => ?_⟩, fun u hu => ?_⟩
  · rw [List.getElem?_map, Option.map_eq_some_iff] at hu
    obtain ⟨q, hq, rfl⟩ := hu
    have hlt : j < m * wd := by have := (List.getElem?_eq_some_iff.1 hq).1; simpa using this
    rw [List.getElem?_range hlt] at hq; cases hq
    obtain ⟨c, y, _, h2, _⟩ := hall j hlt
    rw [h2]; rfl
  · obtain ⟨y, h1, h2⟩ := hr i j c hi hc
    have hj : j < wd := by rw [← hl i hi]; exact (List.getElem?_eq_some_iff.1 hc).1
    have hlt : i * wd + j < m * wd := by
      have : (i + 1) * wd ≤ m * wd := Nat.mul_le_mul_right _ hi
      rw [Nat.add_mul] at this; omega
    exact ⟨y, by rw [List.getElem?_map, List.getElem?_range hlt]; simp [h1], h2⟩
  · obtain ⟨q, hq, rfl⟩ := List.mem_map.1 hu
    obtain ⟨c, y, _, h2, h3⟩ := hall q (List.mem_range.1 hq)
    rw [h2]; exact h3.one

theorem elems_sound (h : Sim gl N w0 Pr φ s a w) {k0 : Option Nat} {v : AV} {x : Value} {wd m : Nat} {g : Nat → List AC} (hw : 0 < wd) (he : elemsOf s k0 v = some (wd, m, g)) (hv : VR (KR Pr φ w) v x) :
    (m = 0 ∧ x = .slice none 0 0) ∨ ∃ ad mc news, x = .slice (some ad) m mc ∧ News Pr w wd m g ad news := by
  unfold elemsOf at he
  split at he
  · rename_i wd' n f
    cases he
    rcases hv.sl_inv with ⟨h1, h2⟩ | ⟨ad, cap, h1, _, _, h2, h3⟩
    · exact .inl ⟨h1, h2⟩
    · obtain ⟨news, hn⟩ := News.of_ex (Pr := Pr) (w := w) (ad := ad) hw h2 (fun i j c hi hj => (h3 i j c hi hj).2)
      exact .inr ⟨ad, cap, news, h1, hn⟩
  · rename_i k wd' off len
    split at he
    · rename_i wd2 n f z hb
      split at he
      · rename_i hwd
        subst hwd
        split at he
        · cases he
        · split at he
          · rename_i hle
            cases he
            have hff : ∀ i, shf f off i = f (off + i) := fun i => by cases off <;> simp [shf]
            have hpl : pl off m = off + m := by cases off <;> simp [pl]
            rcases hv.own_inv h hb with ⟨_, h1, h2, _, _⟩ | ⟨b, arr, T, cap, hf, h1, hn, hcap, hh, hB⟩
            · exact .inl ⟨h2, h1⟩
            · obtain ⟨hw0, hB | ⟨b', arr', T', e1, hh', hnsz, hmx, hel⟩⟩ := hB
              · cases hB.1
              · cases e1
                rw [hh] at hh'
                cases hh'
                obtain ⟨news, hn⟩ := News.of_ex (Pr := Pr) (w := w) (g := shf f off) (m := m) (ad := ⟨b, off * wd, none⟩) hw (fun i hi => by rw [hff]; exact (hel _ (by omega)).1) (fun i j c hi hj => by
                  rw [hff] at hj
                  obtain ⟨y, h3, h4⟩ := (hel _ (by omega)).2 j c hj
                  exact ⟨y, by rw [Addr.add_flat, cell_flat hh, ← Nat.add_assoc, ← Nat.add_mul]; exact h3, h4⟩)
                exact .inr ⟨_, cap, news, h1, hn⟩
          · cases he
      · cases he
    · cases he
  · cases he

theorem run_app_room {t ty e : TypeId} (ht : P.underlying t = some (.slice e)) (hi : (P.info? e).isSome = true) {T : TypeId}
    {g sLen sCap : Nat} {cur : Array Value} (hg : w.heap[g]? = some (.cells cur T (0, 0)))
    {ad : Addr} {m c : Nat} {news : List Value} (hl : news.length = m * P.cellsOf e) (hnews : ∀ (j : Nat) u, news[j]? = some u → w.cell? (ad.add j) = some u) (h1 : ∀ u ∈ news, u.oneCell' = true)
    (hroom : sLen + m ≤ sCap) (hfit : sLen * P.cellsOf e + news.length ≤ cur.size) :
    (Builtin.append_ #[t, t] ty #[.slice (some ⟨g, 0, none⟩) sLen sCap, .slice (some ad) m c]).run P w =
      .ok (.slice (some ⟨g, 0, none⟩) (sLen + m) sCap) (w.setRow g (cur.toList.take (sLen * P.cellsOf e) ++ news ++ cur.toList.drop (sLen * P.cellsOf e + news.length)).toArray) := by
  have hf := run_firstCells_some (P := P) w (P.cellsOf e) m ad m c news hl hnews
  have hst := run_storeCells_at P g (sLen * P.cellsOf e) T news 0 cur w hg (by simpa using hfit) h1
  simp only [Nat.add_zero] at hst
  simp [Builtin.append_, run_underlying ht, run_size hi, Builtin.lenOf, hroom, hf, Addr.add_lit, hst]

theorem run_app_none {t ty e : TypeId} (ht : P.underlying t = some (.slice e)) (hi : (P.info? e).isSome = true) {b : Option Addr} {n c : Nat} (h : n ≤ c) :
    (Builtin.append_ #[t, t] ty #[.slice b n c, .slice none 0 0]).run P w = .ok (.slice b n c) w := by
  cases b <;> simp [Builtin.append_, run_underlying ht, run_size hi, Builtin.lenOf, h, Builtin.firstCells, storeCells]

theorem run_app_nil0 {t ty e : TypeId} (ht : P.underlying t = some (.slice e)) (hi : (P.info? e).isSome = true) {ad : Addr} {c : Nat} :
    (Builtin.append_ #[t, t] ty #[.slice none 0 0, .slice (some ad) 0 c]).run P w = .ok (.slice none 0 0) w := by
  simp [Builtin.append_, run_underlying ht, run_size hi, Builtin.lenOf, Builtin.firstCells, loadCells, loadCellsFrom]

/-- A new row, made in a world that has grown since. -/
theorem fin_rowAt {k wd n cap : Nat} {f : Nat → List AC} {arr : Array Value} {T : TypeId} {ws : World} (h : Sim gl N w0 Pr φ s a w) (hd : ∀ t, o.dst = some t → t < N) (hk : s.u.elem k = false)
    (hrun : (execOp a.eval o).run P ws = .ok (.value (.slice (some ⟨w.heap.size, 0, none⟩) n cap)) (w.alloc (.cells arr T))) (hc : n ≤ cap) (hz : cap * wd ≤ arr.size)
    (hfit : Fits Pr φ w s.u arr (.arr wd n f false)) (hK : K hs ((s.al k (.arr wd n f false)).pu o.dst (.c (.own k wd 0 n)))) (ha : After gl N w0 Pr K next) : o.wp P a ws next Q := by
  obtain ⟨φ', hf, hsim⟩ := h.al (T := T) hk (arr := arr) (blk := .arr wd n f false) rfl hfit
  unfold Oper.wp
  rw [hrun]
  have hnew : (w.alloc (.cells arr T)).heap[w.heap.size]? = some (.cells arr T (0, 0)) := by
    show (w.heap.push _)[w.heap.size]? = _
    simp
  have hv : VR (KR Pr φ' (w.alloc (.cells arr T))) (.c (.own k wd 0 n)) (.slice (some ⟨w.heap.size, 0 * wd, none⟩) n cap) := .mkOwn hf hc (by simp only [bsize, hnew, Nat.zero_add]; exact hz)
  rw [Nat.zero_mul] at hv
  exact ha _ _ _ _ _ _ hK (hsim.pu hd hv (by simp [AV.keys, AC.keys, AC.keys0, St.al])) (PrS.refl _ _)

theorem Sim.drew (h : Sim gl N w0 Pr φ s a w) : Sim gl N w0 Pr φ s a w.drew := h.grow (Pr' := Pr) (Below.refl _ _).drew (fun _ y => y) fun b y => ⟨h.pr b y, fun _ => y⟩

theorem News.drew {wd m : Nat} {g : Nat → List AC} {ad : Addr} {news : List Value} (h : News Pr w wd m g ad news) : News Pr w.drew wd m g ad news :=
  ⟨h.len, h.cell, fun i hi => ⟨(h.el i hi).1, fun j c hc => by obtain ⟨u, h1, h2⟩ := (h.el i hi).2 j c hc; exact ⟨u, h1, h2.mono (fun _ y => y) fun _ _ => rfl⟩⟩, h.one⟩

/-- The cells of a row that has grown: what was there, what was brought, zeros. -/
theorem fits_grown {wd n len m n' : Nat} {f f' g : Nat → List AC} {ad : Addr} {news olds : List Value} {rest : Array Value} {u : List Nat} {cap : Nat} (hw : 0 < wd) (hlen : len ≤ n) (hn' : n' = len + m) (hN : News Pr w wd m g ad news)
    (hol : olds.length = len * wd) (hold : ∀ i, i < len → (f i).length = wd ∧ ∀ (j : Nat) c, (f i)[j]? = some c → ∃ v, olds[i * wd + j]? = some v ∧ DR Pr w c v)
    (h1 : ∀ i, i < len → f' i = f i) (h2 : ∀ j, j < m → f' (len + j) = g j) (hsz : (olds.toArray ++ news.toArray ++ rest).size = cap * wd) (hcap : cap ≤ maxLen) :
    Fits Pr φ w u (olds.toArray ++ news.toArray ++ rest) (.arr wd n' f' false) := by
  have hget : ∀ r, r < (len + m) * wd → (olds.toArray ++ news.toArray ++ rest)[r]? = if r < len * wd then olds[r]? else news[r - len * wd]? := by
    intro r hr
    rw [Nat.add_mul] at hr
    by_cases hlt : r < len * wd
    · rw [if_pos hlt, Array.getElem?_append_left (by simp [hol]; omega), Array.getElem?_append_left (by simp [hol]; omega)]; simp
    · rw [if_neg hlt, Array.getElem?_append_left (by simp [hol, hN.len]; omega), Array.getElem?_append_right (by simp [hol]; omega)]; simp [hol]
  refine ⟨hw, ?_, by rw [hsz]; exact Nat.mul_le_mul_right _ hcap, fun i hi => ?_⟩
  · rw [hn', Nat.add_mul]; simp [hol, hN.len]
  · have hrow : ∀ j, j < wd → i * wd + j < (len + m) * wd := by
      intro j hj
      have : (i + 1) * wd ≤ (len + m) * wd := Nat.mul_le_mul_right _ (by omega)
      rw [Nat.add_mul] at this; omega
    by_cases hil : i < len
    · rw [h1 i hil]
      refine ⟨(hold i hil).1, fun j c hc => ?_⟩
      obtain ⟨v, h5, h6⟩ := (hold i hil).2 j c hc
      have hj : j < wd := by rw [← (hold i hil).1]; exact (List.getElem?_eq_some_iff.1 hc).1
      have hlt : i * wd + j < len * wd := by
        have : (i + 1) * wd ≤ len * wd := Nat.mul_le_mul_right _ hil
        rw [Nat.add_mul] at this; omega
      exact ⟨v, by rw [hget _ (hrow j hj), if_pos hlt]; exact h5, h6⟩
    · obtain ⟨q, rfl⟩ : ∃ q, i = len + q := ⟨i - len, by omega⟩
      rw [h2 q (by omega)]
      refine ⟨(hN.el q (by omega)).1, fun j c hc => ?_⟩
      obtain ⟨v, h5, h6⟩ := (hN.el q (by omega)).2 j c hc
      have hj : j < wd := by rw [← (hN.el q (by omega)).1]; exact (List.getElem?_eq_some_iff.1 hc).1
      refine ⟨v, ?_, h6⟩
      rw [hget _ (hrow j hj), if_neg (by rw [Nat.add_mul]; omega), show (len + q) * wd + j - len * wd = q * wd + j by rw [Nat.add_mul]; omega]
      exact h5

theorem take_rows {wd n len : Nat} {f : Nat → List AC} {arr : Array Value} (hlen : len ≤ n) (hsz : n * wd ≤ arr.size)
    (hel : ∀ i, i < n → (f i).length = wd ∧ ∀ (j : Nat) (c : AC), (f i)[j]? = some c → ∃ v, arr[i * wd + j]? = some v ∧ DR Pr w c v) :
    (arr.toList.take (len * wd)).length = len * wd ∧ ∀ i, i < len → (f i).length = wd ∧ ∀ (j : Nat) c, (f i)[j]? = some c → ∃ v, (arr.toList.take (len * wd))[i * wd + j]? = some v ∧ DR Pr w c v := by
  have h1 : len * wd ≤ n * wd := Nat.mul_le_mul_right _ hlen
  refine ⟨by rw [List.length_take, Array.length_toList]; omega, fun i hi => ⟨(hel i (by omega)).1, fun j c hc => ?_⟩⟩
  obtain ⟨v, h2, h3⟩ := (hel i (by omega)).2 j c hc
  have hj : j < wd := by rw [← (hel i (by omega)).1]; exact (List.getElem?_eq_some_iff.1 hc).1
  have hlt : i * wd + j < len * wd := by
    have : (i + 1) * wd ≤ len * wd := Nat.mul_le_mul_right _ hi
    rw [Nat.add_mul] at this; omega
  exact ⟨v, by rw [List.getElem?_take_of_lt hlt]; simpa using h2, h3⟩

theorem step_app {c : Call} {x y : Operand} {x' y' : Opd} {t e : TypeId} {z : List AC} (ho : o.op = .call c) (hc : c.callee = .builtin .append) (hxs : c.args = #[x, y]) (hts : c.argTypes = #[t, t])
    (hx : cO x = some x') (hy : cO y = some y') (hu : P.underlying t = some (.slice e)) (hz : zeroC P e = some z) (hcel : P.cellsOf e ≠ 0) (hby : P.bytesOf e ≤ 1024) (hzl : z.length = P.cellsOf e)
    (h : Sim gl N w0 Pr φ s a w) (hd : ∀ t, o.dst = some t → t < N) (hst : Step P gl o.dst (.app (P.cellsOf e) (P.bytesOf e) x' y') hs s K) (ha : After gl N w0 Pr K next) : o.wp P a w next Q := by
  have hw : 0 < P.cellsOf e := by omega
  have hi2 := info_of_cells hcel
  obtain ⟨zv, hr, hcs, ti, hi, hiz⟩ := run_zero (Pr := Pr) (w := w) hz
  have hvs : zv.cells.size = P.cellsOf e := by rw [← Array.length_toList, hcs.1, hzl]
  have hcell : ti.size = P.cellsOf e := by simp [Program.cellsOf, hi]
  have hbytes : ti.bytes = P.bytesOf e := by simp [Program.bytesOf, hi]
  have hrun : ∀ v w1, (Builtin.append_ #[t, t] o.type #[a.eval x, a.eval y]).run P w = .ok v w1 → (execOp a.eval o).run P w = .ok (.value v) w1 := by
    intro v w1 hr
    unfold execOp
    simp only [ho, resolve, hc, hxs, hts, invoke, builtin, Sem.run_bind, Sem.run_pure, Result.andThen_ok, List.map_toArray, List.map_cons, List.map_nil, hr]
  have hmul : ∀ q, q ≤ LIM → q * ti.bytes ≤ 140737488355328 := by
    intro q hq
    have : q * ti.bytes ≤ 68719476736 * 1024 := Nat.mul_le_mul hq (by omega)
    omega
  have hmx : ∀ q, q ≤ LIM → q ≤ maxLen := by intro q hq; unfold LIM at hq; unfold maxLen; omega
  -- out of nothing: m > 0 elements into a new row
  have fresh : ∀ {s1 : St} {φ1 : Nat → Option (Option Nat)} {kd m n' : Nat} {f' g : Nat → List AC} {ad : Addr} {mc : Nat} {news : List Value} {hs' : List Hint}, Sim gl N w0 Pr φ1 s1 a w → o.dst = some kd → s1.u.elem kd = false → 0 < m → n' = m → n' ≤ LIM → (∀ j, j < m → f' j = g j) →
      a.eval x = .slice none 0 0 → a.eval y = .slice (some ad) m mc → News Pr w (P.cellsOf e) m g ad news → K hs' ((s1.al kd (.arr (P.cellsOf e) n' f' false)).pu o.dst (.c (.own kd (P.cellsOf e) 0 n'))) → o.wp P a w next Q := by
    intro s1 φ1 kd m n' f' g ad mc news hs' hsim hk hke hm hnm hlim hf' hex hey hN hK
    have h63 := hmx n' hlim
    have h48 := hmul n' hlim
    have hr1 := run_append_nil (P := P) w t o.type e ti zv hu hi hiz ad m mc news (by rw [hcell]; exact hN.len) hN.cell hm (by unfold maxLen at h63; omega) (by rw [← hnm]; omega)
    have hge : m ≤ grownCap w m 0 e := grownCap_ge w m 0 e
    have hcm : grownCap w m 0 e ≤ maxLen := grownCap_le_maxLen w m 0 e (by omega)
    subst hnm
    have hsz : (#[] ++ news.toArray ++ Builtin.zeroCells zv.cells (grownCap w n' 0 e - n')).size = grownCap w n' 0 e * P.cellsOf e := by
      simp only [Array.empty_append, Array.size_append, List.size_toArray, size_zeroCells, hvs, hN.len, ← Nat.add_mul]; congr 1; omega
    have hfit := fits_grown (φ := φ1) (Pr := Pr) (w := w.drew) (u := s1.u) (n := 0) (len := 0) (m := n') (n' := n') (f := fun _ => []) (f' := f') (g := g) (olds := []) hw (Nat.le_refl _) (by omega) hN.drew (by simp) (fun i hi => absurd hi (by omega)) (fun i hi => absurd hi (by omega)) (fun j hj => by rw [Nat.zero_add]; exact hf' j hj) hsz hcm
    refine fin_rowAt (w := w.drew) (ws := w) hsim.drew hd hke (cap := grownCap w n' 0 e) (T := e) (hrun _ _ ?_) hge (by rw [hsz]; exact Nat.le_refl _) hfit hK ha
    rw [hex, hey, hr1]
    simp
  simp only [Step] at hst
  split at hst
  · rename_i kd k wd len yv n' f' hs' hk hxv hyv
    split at hst
    · rename_i wd2 n f wd3 m g hke hb hel
      split at hst
      · rename_i hwd; subst hwd
        split at hst
        · rename_i hwd; subst hwd
          split at hst
          · rename_i hwd; subst hwd
            obtain ⟨⟨hln, hn', hlim⟩, hf1, hf2, hst⟩ := hst
            obtain ⟨hv, hk2⟩ := ev_sound h hx hxv
            have hY := elems_sound h hw hel (ev_sound h hy hyv).1
            rw [hk] at hst
            have hke1 : (s.dr k).u.elem kd = false := hke
            rcases hv.own_inv h hb with ⟨hf, hex, rfl, _, hB⟩ | ⟨b, arr, T, cap, hf, hex, hn, hcap, hh, hB⟩
            · -- out of a nil slice
              have hn0 : n = 0 := by
                obtain ⟨_, hB | ⟨b, _, _, hcon, _⟩⟩ := hB
                · exact hB.2
                · cases hcon
              rcases Nat.eq_zero_or_pos m with hm | hm
              · have hrr : (Builtin.append_ #[t, t] o.type #[a.eval x, a.eval y]).run P w = .ok (.slice none 0 0) w := by
                  rcases hY with ⟨_, hey⟩ | ⟨ad, mc, news, hey, _⟩
                  · rw [hex, hey]; exact run_app_none hu hi2 (Nat.le_refl _)
                  · rw [hex, hey, hm]; exact run_app_nil0 hu hi2
                have e0 : n' = 0 := by omega
                subst e0
                have hs2 := (h.drop k).alnil (k := kd) (f := f') hke1 hw
                unfold Oper.wp
                rw [hrun _ _ hrr]
                show next (a.put o.dst _) _
                rw [← hk] at hst
                exact ha _ _ _ _ _ _ hst (hs2.pu hd (v := .c (.own kd (P.cellsOf e) 0 0)) (.mkOwnNil (by simp)) (by simp [AV.keys, AC.keys, AC.keys0, St.al])) (PrS.refl _ _)
              · rcases hY with ⟨h0, _⟩ | ⟨ad, mc, news, hey, hN⟩
                · omega
                · exact fresh (f' := f') (h.drop k) hk hke1 hm (by omega) hlim (fun j hj => by have := hf2 j hj; rw [Nat.zero_add] at this; exact this) hex hey hN (by rw [hk]; exact hst)
            · obtain ⟨_, hB | ⟨b', arr', T', e1, hh', hnsz, hamx, hel2⟩⟩ := hB
              · cases hB.1
              · cases e1
                rw [hh] at hh'
                cases hh'
                have hcsz : cap * P.cellsOf e ≤ arr.size := by simpa using hcap
                rw [show (⟨b, 0 * P.cellsOf e, none⟩ : Addr) = ⟨b, 0, none⟩ by simp] at hex
                by_cases hroom : len + m ≤ cap
                · -- there is room
                  have key : ∃ news : List Value, news.length = m * P.cellsOf e ∧ (Builtin.append_ #[t, t] o.type #[a.eval x, a.eval y]).run P w = .ok (.slice (some ⟨b, 0, none⟩) n' cap) (w.setRow b (arr.toList.take (len * P.cellsOf e) ++ news ++ arr.toList.drop (len * P.cellsOf e + news.length)).toArray) ∧
                      ∀ i, i < m → (g i).length = P.cellsOf e ∧ ∀ (j : Nat) c, (g i)[j]? = some c → ∃ u, news[i * P.cellsOf e + j]? = some u ∧ DR Pr w c u := by
                    rcases hY with ⟨hm0, hey⟩ | ⟨ad, mc, news, hey, hN⟩
                    · refine ⟨[], by simp [hm0], ?_, fun i hi => absurd hi (by omega)⟩
                      rw [hex, hey, run_app_none hu hi2 hn, hn', hm0]
                      simp only [List.append_nil, List.length_nil, Nat.add_zero, List.take_append_drop, Array.toArray_toList]
                      rw [setRow_self w b arr T (0, 0) hh]
                    · have hfit : len * P.cellsOf e + news.length ≤ arr.size := by
                        rw [hN.len, ← Nat.add_mul]
                        exact Nat.le_trans (Nat.mul_le_mul_right _ hroom) hcsz
                      exact ⟨news, hN.len, by rw [hex, hey, run_app_room hu hi2 hh hN.len hN.cell hN.one hroom hfit, hn'], hN.el⟩
                  obtain ⟨news, hnl, hrr, hnel⟩ := key
                  have hfz : (Blk.arr (P.cellsOf e) n f false).fz = false := rfl
                  have hfitl : len * P.cellsOf e + news.length ≤ arr.toList.length := by
                    rw [hnl, ← Nat.add_mul, Array.length_toList]
                    exact Nat.le_trans (Nat.mul_le_mul_right _ hroom) hcsz
                  have hsz : (arr.toList.take (len * P.cellsOf e) ++ news ++ arr.toList.drop (len * P.cellsOf e + news.length)).toArray.size = arr.size := by
                    simp only [List.size_toArray, List.length_append, List.length_take, List.length_drop]
                    have hL : arr.toList.length = arr.size := Array.length_toList
                    omega
                  have hFit : Fits Pr φ w s.u (arr.toList.take (len * P.cellsOf e) ++ news ++ arr.toList.drop (len * P.cellsOf e + news.length)).toArray (.arr (P.cellsOf e) n' f' false) := by
                    refine ⟨hw, ?_, by rw [hsz]; exact hamx, fun i hi => ?_⟩
                    · rw [hsz, hn']; exact Nat.le_trans (Nat.mul_le_mul_right _ hroom) hcsz
                    · have hget : ∀ r, (arr.toList.take (len * P.cellsOf e) ++ news ++ arr.toList.drop (len * P.cellsOf e + news.length)).toArray[r]? = if len * P.cellsOf e ≤ r ∧ r < len * P.cellsOf e + news.length then news[r - len * P.cellsOf e]? else arr[r]? := by
                        intro r
                        rw [List.getElem?_toArray, splice_get _ _ _ _ hfitl]; simp
                      by_cases hil : i < len
                      · rw [hf1 i hil]
                        refine ⟨(hel2 i (by omega)).1, fun j c hc => ?_⟩
                        obtain ⟨v, h5, h6⟩ := (hel2 i (by omega)).2 j c hc
                        have hj : j < P.cellsOf e := by rw [← (hel2 i (by omega)).1]; exact (List.getElem?_eq_some_iff.1 hc).1
                        have hlt : i * P.cellsOf e + j < len * P.cellsOf e := by
                          have : (i + 1) * P.cellsOf e ≤ len * P.cellsOf e := Nat.mul_le_mul_right _ hil
                          rw [Nat.add_mul] at this; omega
                        exact ⟨v, by rw [hget, if_neg (by omega)]; exact h5, h6⟩
                      · obtain ⟨q, rfl⟩ : ∃ q, i = len + q := ⟨i - len, by omega⟩
                        rw [hf2 q (by omega)]
                        refine ⟨(hnel q (by omega)).1, fun j c hc => ?_⟩
                        obtain ⟨v, h5, h6⟩ := (hnel q (by omega)).2 j c hc
                        have hj : j < P.cellsOf e := by rw [← (hnel q (by omega)).1]; exact (List.getElem?_eq_some_iff.1 hc).1
                        have hlt : q * P.cellsOf e + j < m * P.cellsOf e := by
                          have : (q + 1) * P.cellsOf e ≤ m * P.cellsOf e := Nat.mul_le_mul_right _ (by omega)
                          rw [Nat.add_mul] at this; omega
                        refine ⟨v, ?_, h6⟩
                        rw [hget, if_pos (by rw [Nat.add_mul, hnl]; omega), show (len + q) * P.cellsOf e + j - len * P.cellsOf e = q * P.cellsOf e + j by rw [Nat.add_mul]; omega]
                        exact h5
                  have hs1 := h.wr hb hf hfz (blk' := .arr (P.cellsOf e) n' f' false) rfl hh hsz hFit
                  have hs2 := hs1.rn (k := k) (kd := kd) (blk := .arr (P.cellsOf e) n' f' false) (by simp [St.sh, nbt]) hke
                  unfold Oper.wp
                  rw [hrun _ _ hrr]
                  show next (a.put o.dst _) _
                  rw [← hk] at hst
                  have hne : k ≠ kd := fun e => not_mem_of_elem hke (e ▸ h.ku k (by rw [hb]; simp))
                  have hnew := setRow_heap w b arr (arr.toList.take (len * P.cellsOf e) ++ news ++ arr.toList.drop (len * P.cellsOf e + news.length)).toArray T (0, 0) hh
                  have hval : VR (KR Pr (fun j => if j = kd then φ k else if j = k then none else φ j) (w.setRow b (arr.toList.take (len * P.cellsOf e) ++ news ++ arr.toList.drop (len * P.cellsOf e + news.length)).toArray)) (.c (.own kd (P.cellsOf e) 0 n')) (.slice (some ⟨b, 0 * P.cellsOf e, none⟩) n' cap) :=
                    .mkOwn (by simp [hf]) (by omega) (by simp only [bsize, hnew]; rw [hsz]; simpa using hcsz)
                  rw [show (⟨b, 0 * P.cellsOf e, none⟩ : Addr) = ⟨b, 0, none⟩ by simp] at hval
                  have hst2 : ((s.sh k (.arr (P.cellsOf e) n' f' false)).dr k).al kd (.arr (P.cellsOf e) n' f' false) = (s.dr k).al kd (.arr (P.cellsOf e) n' f' false) := by
                    simp only [St.sh, St.dr, St.al]
                    congr 1
                    funext j
                    cases hj : Nat.beq j kd <;> simp
                    cases hj2 : Nat.beq j k <;> simp
                  rw [hst2] at hs2
                  exact ha _ _ _ _ _ _ hst (hs2.pu hd hval (by simp [AV.keys, AC.keys, AC.keys0, St.al])) (PrS.refl _ _)
                · -- a new row
                  rcases hY with ⟨hm0, _⟩ | ⟨ad, mc, news, hey, hN⟩
                  · omega
                  · have h63 := hmx n' hlim
                    have h48 := hmul n' hlim
                    obtain ⟨hol, hold⟩ := take_rows (Pr := Pr) (w := w) (len := len) hln hnsz hel2
                    have hgc : cap < len + m := by omega
                    have hr1 := run_append_grow (P := P) w t o.type e ti zv hu hi hiz ⟨b, 0, none⟩ len cap (arr.toList.take (len * P.cellsOf e)) (by rw [hcell]; exact hol) (fun j v hv => by
                      rw [Addr.add_flat, cell_flat hh, Nat.zero_add]
                      have hlt : j < len * P.cellsOf e := by rw [← hol]; exact (List.getElem?_eq_some_iff.1 hv).1
                      rw [List.getElem?_take_of_lt hlt] at hv
                      simpa using hv) ad m mc news (by rw [hcell]; exact hN.len) hN.cell hgc (by unfold maxLen at h63; omega) (growslice_fits (by omega) (by rw [← hn']; exact h48))
                    have hge : len + m ≤ grownCap w (len + m) cap e := grownCap_ge w _ cap e
                    have hcm : grownCap w (len + m) cap e ≤ maxLen := grownCap_le_maxLen w _ cap e (by omega)
                    have hsz : ((arr.toList.take (len * P.cellsOf e)).toArray ++ news.toArray ++ Builtin.zeroCells zv.cells (grownCap w (len + m) cap e - (len + m))).size = grownCap w (len + m) cap e * P.cellsOf e := by
                      simp only [Array.size_append, List.size_toArray, size_zeroCells, hvs, hN.len, hol, ← Nat.add_mul]; congr 1; omega
                    have hfit := fits_grown (φ := fun j => if j = k then none else φ j) (Pr := Pr) (w := w.drew) (u := s.u) (n := n) (len := len) (m := m) (n' := n') (f := f) (f' := f') (g := g) hw hln hn' hN.drew hol (fun i hi => ⟨(hold i hi).1, fun j c hc => by
                      obtain ⟨v, h5, h6⟩ := (hold i hi).2 j c hc; exact ⟨v, h5, h6.mono (fun _ y => y) fun _ _ => rfl⟩⟩) hf1 hf2 hsz hcm
                    refine fin_rowAt (w := w.drew) (ws := w) (h.drop k).drew hd hke1 (cap := grownCap w (len + m) cap e) (T := e) (hrun _ _ ?_) (by omega) (by rw [hsz]; exact Nat.le_refl _) hfit (by rw [hk]; exact hst) ha
                    rw [hex, hey, hr1, hn']
                    rfl
          · exact hst.elim
        · exact hst.elim
      · exact hst.elim
    · exact hst.elim
  · rename_i kd yv n' f' hs' hk hxv hyv
    split at hst
    · rename_i wd3 m g hke hel
      split at hst
      · rename_i hwd; subst hwd
        obtain ⟨⟨hn', hlim⟩, hf2, hst⟩ := hst
        obtain ⟨hv, hk2⟩ := ev_sound h hx hxv
        have hex : a.eval x = .slice none 0 0 := by
          have h1' : DR Pr w .nil (a.eval x) := hv
          generalize a.eval x = y at h1' ⊢
          cases h1'; rfl
        have hY := elems_sound h hw hel (ev_sound h hy hyv).1
        rw [hk] at hst
        rcases Nat.eq_zero_or_pos m with hm | hm
        · have hrr : (Builtin.append_ #[t, t] o.type #[a.eval x, a.eval y]).run P w = .ok (.slice none 0 0) w := by
            rcases hY with ⟨_, hey⟩ | ⟨ad, mc, news, hey, _⟩
            · rw [hex, hey]; exact run_app_none hu hi2 (Nat.le_refl _)
            · rw [hex, hey, hm]; exact run_app_nil0 hu hi2
          have e0 : n' = 0 := by omega
          subst e0
          have hs2 := h.alnil (k := kd) (f := f') hke hw
          unfold Oper.wp
          rw [hrun _ _ hrr]
          show next (a.put o.dst _) _
          rw [← hk] at hst
          exact ha _ _ _ _ _ _ hst (hs2.pu hd (v := .c (.own kd (P.cellsOf e) 0 0)) (.mkOwnNil (by simp)) (by simp [AV.keys, AC.keys, AC.keys0, St.al])) (PrS.refl _ _)
        · rcases hY with ⟨h0, _⟩ | ⟨ad, mc, news, hey, hN⟩
          · omega
          · exact fresh h hk hke hm hn' hlim hf2 hex hey hN (by rw [hk]; exact hst)
      · exact hst.elim
    · exact hst.elim
  · exact hst.elim
end
end Go.Proofs.YtfmeidhialmckaaGreatDoor.Ab
