/- A walk through code: cells, instructions; no condition. -/
import Derived.Orders
import Derived.Below
import Derived.KernelRfl
import Derived.Laws.Sem
import Derived.WalkKit
import Derived.Laws.CopyOwn
import Derived.Laws.StructEq
set_option linter.unusedVariables false
set_option linter.unusedSimpArgs false
namespace Go.Proofs.YtjlabdoeiphegaaGreatDoor.Ab
open Go Go.RowKit
inductive AC where
 | int (k : IntKind) (n : Int)
 | bool (b : Bool)
 | str (s : List UInt8)
 | nil
 | raw (v : Value)
 | sl (wd n : Nat) (f : Nat → List AC)
 | pd (cs : List AC) (i : Nat)
 | own (k wd off len : Nat)
 | pk (k i : Nat)
 | pa (k wd i off : Nat)
 | clo (f : FuncId) (cap : List AC)
 | old (c : AC)
 | fr (c : AC)
 | lv (c : AC)
 | lp (cs : List AC) (i : Nat)
 | ns (c : AC)
inductive AV where
 | c (x : AC)
 | agg (xs : List AC)
 | tup (xs : List (Bool × List AC))
inductive Kd where
 | int (k : IntKind)
 | bool
 | str
 | fix (v : Value)
structure PrT where
 p : Nat → Prop
 Q : Nat → Prop
 Θ : Nat → Nat → Option Kd
instance : CoeFun PrT (fun _ => Nat → Prop) := ⟨PrT.p⟩
def Flat (w : World) (b : Nat) : Prop := ∃ arr T, w.heap[b]? = some (.cells arr T (0, 0))
def PrT.old (Pr : PrT) : PrT := { Pr with p := fun b => Pr b ∧ Pr.Q b }
def PrT.frs (Pr : PrT) (w : World) : PrT := { Pr with p := fun b => Pr b ∧ ¬ Pr.Q b ∧ Flat w b }
def PrT.dom (Pr : PrT) (b : Nat) : Prop := ∃ o, Pr.Θ b o ≠ none
structure PrT.Le (Pr Pr' : PrT) : Prop where
 f : ∀ b, Pr b → Pr' b
 q : Pr'.Q = Pr.Q
 t : Pr'.Θ = Pr.Θ
theorem PrT.Le.refl (Pr : PrT) : Pr.Le Pr := ⟨fun _ x => x, rfl, rfl⟩
theorem PrT.Le.trans {A B C : PrT} (h : A.Le B) (k : B.Le C) : A.Le C := ⟨fun b x => k.f b (h.f b x), k.q.trans h.q, k.t.trans h.t⟩
theorem PrT.Le.old {A B : PrT} (h : A.Le B) : A.old.Le B.old := ⟨fun b x => ⟨h.f b x.1, by rw [h.q]; exact x.2⟩, h.q, h.t⟩
theorem PrT.Le.of_old (A : PrT) : A.old.Le A := ⟨fun b x => x.1, rfl, rfl⟩
theorem PrT.Le.of_frs (A : PrT) (w : World) : (A.frs w).Le A := ⟨fun b x => x.1, rfl, rfl⟩
theorem PrT.Le.frs {A B : PrT} (h : A.Le B) {w w' : World} (hw : ∀ b, A b → w'.heap[b]? = w.heap[b]?) : (A.frs w).Le (B.frs w') :=
 ⟨fun b ⟨x, y, arr, T, z⟩ => ⟨h.f b x, by rw [h.q]; exact y, arr, T, by rw [hw b x]; exact z⟩, h.q, h.t⟩
def KdOk : Kd → AC → Prop
 | .int k, .int k' _ => k = k'
 | .bool, .bool _ => True
 | .str, .str _ => True
 | .fix _, .sl .. => True
 | .fix _, .nil => True
 | _, _ => False
inductive LV (Θ : Nat → Nat → Option Kd) : AC → Value → Prop where
 | nil : LV Θ .nil (.slice none 0 0)
 | slN (wd f) : LV Θ (.sl wd 0 f) (.slice none 0 0)
 | sl (wd n f) (a : Addr) (cap : Nat) (g : Nat → Nat → Kd) (hn : n ≤ cap) (hc : cap ≤ maxLen) (hs : 0 < n → 0 < wd → a.spot = none) (hl : ∀ i, i < n → (f i).length = wd)
   (hr : ∀ i j c, i < n → (f i)[j]? = some c → Θ a.block (a.off + (i * wd + j)) = some (g i j) ∧ KdOk (g i j) c)
   (hd : ∀ i j c u, i < n → (f i)[j]? = some c → g i j = .fix u → LV Θ c u) : LV Θ (.sl wd n f) (.slice (some a) n cap)
inductive DR : PrT → World → AC → Value → Prop where
 | int {Pr w} (k n) : DR Pr w (.int k n) (.int k n)
 | bool {Pr w} (b) : DR Pr w (.bool b) (.bool b)
 | str {Pr w} (s) : DR Pr w (.str s) (.string ⟨s.toArray⟩)
 | nil {Pr w} : DR Pr w .nil (.slice none 0 0)
 | raw {Pr w} (v) (ho : v.oneCell' = true) : DR Pr w (.raw v) v
 | slN {Pr w} (wd f) : DR Pr w (.sl wd 0 f) (.slice none 0 0)
 | sl {Pr : PrT} {w : World} (wd n f) (a : Addr) (cap : Nat) (g : Nat → Nat → Value) (hn : n ≤ cap) (hc : cap ≤ maxLen) (hl : ∀ i, i < n → (f i).length = wd)
   (hr : ∀ i j c, i < n → (f i)[j]? = some c → Pr a.block ∧ w.cell? (a.add (i * wd + j)) = some (g i j))
   (hd : ∀ i j c, i < n → (f i)[j]? = some c → DR Pr w c (g i j)) : DR Pr w (.sl wd n f) (.slice (some a) n cap)
 | pd {Pr : PrT} {w : World} (cs i) (a : Addr) (g : Nat → Value) (hr : ∀ j c, cs[i + j]? = some c → Pr a.block ∧ w.cell? (a.add j) = some (g j))
   (hd : ∀ j c, cs[i + j]? = some c → DR Pr w c (g j)) : DR Pr w (.pd cs i) (.pointer (some a))
 | clo {Pr : PrT} {w : World} (f cap) (g : Nat → Value) (hd : ∀ j c, cap[j]? = some c → DR Pr w c (g j)) :
   DR Pr w (.clo f cap) (.func (.func f) #[] ((List.range cap.length).map g).toArray)
 | old {Pr : PrT} {w : World} (c v) (h : DR Pr.old w c v) : DR Pr w (.old c) v
 | fr {Pr : PrT} {w : World} (c v) (h : DR (Pr.frs w) w c v) : DR Pr w (.fr c) v
 | lv {Pr : PrT} {w : World} (c v) (h : LV Pr.Θ c v) : DR Pr w (.lv c) v
 | ns {Pr : PrT} {w : World} (c v) (h : DR Pr w c v) (hv : v ≠ .slice none 0 0) : DR Pr w (.ns c) v
 | lp {Pr : PrT} {w : World} (cs i) (b o : Nat) (g : Nat → Kd) (hr : ∀ j c, cs[i + j]? = some c → Pr.Θ b (o + j) = some (g j) ∧ KdOk (g j) c)
   (hd : ∀ j c u, cs[i + j]? = some c → g j = .fix u → LV Pr.Θ c u) : DR Pr w (.lp cs i) (.pointer (some ⟨b, o, none⟩))
theorem DR.mono {Pr Pr' : PrT} {w w' : World} {c : AC} {v : Value} (h : DR Pr w c v) (hp : Pr.Le Pr')
  (hw : ∀ b, Pr b → w'.heap[b]? = w.heap[b]?) : DR Pr' w' c v := by
 induction h generalizing Pr' with
 | int k n => exact .int k n
 | bool b => exact .bool b
 | str s => exact .str s
 | nil => exact .nil
 | raw v ho => exact .raw v ho
 | slN wd f => exact .slN wd f
 | sl wd n f a cap g hn hc hl hr hd ih =>
  refine .sl wd n f a cap g hn hc hl (fun i j c hi hj => ⟨hp.f _ (hr i j c hi hj).1, ?_⟩) fun i j c hi hj => ih i j c hi hj hp hw
  have hb : (a.add (i * wd + j)).block = a.block := by unfold Addr.add; split <;> rfl
  exact (World.cell?_of_block (by rw [hb]; exact hw _ (hr i j c hi hj).1)).trans (hr i j c hi hj).2
 | pd cs i a g hr hd ih =>
  refine .pd cs i a g (fun j c hj => ⟨hp.f _ (hr j c hj).1, ?_⟩) fun j c hj => ih j c hj hp hw
  have hb : (a.add j).block = a.block := by unfold Addr.add; split <;> rfl
  exact (World.cell?_of_block (by rw [hb]; exact hw _ (hr j c hj).1)).trans (hr j c hj).2
 | clo f cap g hd ih => exact .clo f cap g fun j c hj => ih j c hj hp hw
 | old c v h ih => exact .old c v (ih hp.old fun b hb => hw b hb.1)
 | fr c v h ih => exact .fr c v (ih (hp.frs hw) fun b hb => hw b hb.1)
 | lv c v h => exact .lv c v (by rw [hp.t]; exact h)
 | ns c v h hv ih => exact .ns c v (ih hp hw) hv
 | lp cs i b o g hr hd => exact .lp cs i b o g (by rw [hp.t]; exact hr) (by rw [hp.t]; exact hd)
theorem nbf {t d : Nat} (h : ¬ t = d) : Nat.beq t d = false := by
 cases hb : Nat.beq t d with
 | false => rfl
 | true => exact absurd (Nat.eq_of_beq_eq_true hb) h
theorem nbt (t : Nat) : Nat.beq t t = true := Nat.beq_refl t
theorem DR.one {Pr : PrT} {w : World} {c : AC} {v : Value} (h : DR Pr w c v) : v.oneCell' = true := by
 induction h <;> first | rfl | assumption | (rename_i h; cases h <;> rfl)
inductive Blk where
 | var (cs : List AC) (fz : Bool)
 | arr (wd n : Nat) (f : Nat → List AC) (fz : Bool)
def bsize (w : World) (b : Nat) : Nat := match w.heap[b]? with | some (.cells arr _ _) => arr.size | _ => 0
def GK (Pr : PrT) (w : World) (g : Nat) (cs : List AC) : Prop := DR Pr w (.pd cs 0) (.pointer (some ⟨g, 0, none⟩)) ∧ (cs = [] ∨ bsize w g = cs.length)
theorem GK.mono {Pr Pr' : PrT} {w w' : World} {g : Nat} {cs : List AC} (h : GK Pr w g cs) (hp : Pr.Le Pr') (hw : ∀ b, Pr b → w'.heap[b]? = w.heap[b]?) : GK Pr' w' g cs := by
 refine ⟨h.1.mono hp hw, ?_⟩
 rcases h.2 with e | e
 ·exact .inl e
 ·cases cs with
  | nil => exact .inl rfl
  | cons c r =>
   have h1 := h.1
   cases h1 with
   | pd _ _ a gg hr hd => exact .inr (by unfold bsize at e ⊢; rw [hw g (hr 0 c rfl).1]; exact e)
def AC.keys0 : AC → List Nat
 | .own k .. | .pk k _ | .pa k .. => [k]
 | _ => []
def AC.keys : AC → List Nat
 | .clo _ cap => cap.flatMap AC.keys0
 | c => c.keys0
def AV.keys : AV → List Nat
 | .c x => x.keys
 | .agg xs => xs.flatMap AC.keys
 | .tup xs => xs.flatMap fun p => p.2.flatMap AC.keys
def Blk.keys : Blk → List Nat
 | .var cs _ => cs.flatMap AC.keys
 | .arr .. => []
def Blk.fz : Blk → Bool
 | .var _ z => z
 | .arr _ _ _ z => z
def KR0 (Pr : PrT) (φ : Nat → Option (Option Nat)) (w : World) : AC → Value → Prop
 | .own k wd off len, v => v.oneCell' = true ∧ ∀ p, φ k = some p → match p with
  | none => v = .slice none 0 0 ∧ len = 0 ∧ off = 0
  | some b => ∃ cap, v = .slice (some ⟨b, off * wd, none⟩) len cap ∧ len ≤ cap ∧ (off + cap) * wd ≤ bsize w b
 | .pk k i, v => v.oneCell' = true ∧ ∀ p, φ k = some p → ∃ b, p = some b ∧ v = .pointer (some ⟨b, i, none⟩)
 | .pa k wd i off, v => v.oneCell' = true ∧ ∀ p, φ k = some p → ∃ b, p = some b ∧ v = .pointer (some ⟨b, i * wd + off, none⟩)
 | c, v => DR Pr w c v
def KR (Pr : PrT) (φ : Nat → Option (Option Nat)) (w : World) : AC → Value → Prop
 | .clo f cap, v => ∃ g : Nat → Value, v = .func (.func f) #[] ((List.range cap.length).map g).toArray ∧ ∀ (j : Nat) (c : AC), cap[j]? = some c → KR0 Pr φ w c (g j)
 | c, v => KR0 Pr φ w c v
theorem KR0.of_dr {Pr : PrT} {φ : Nat → Option (Option Nat)} {w : World} {c : AC} {v : Value} (h : DR Pr w c v) : KR0 Pr φ w c v ∧ c.keys0 = [] := by
 cases h <;> exact ⟨by first | (exact DR.int ..) | (exact DR.bool ..) | (exact DR.str ..) | (exact DR.nil) | (exact DR.raw _ ‹_›) | (exact DR.slN ..) | (exact DR.sl _ _ _ _ _ _ ‹_› ‹_› ‹_› ‹_› ‹_›) | (exact DR.pd _ _ _ _ ‹_› ‹_›) | (exact DR.clo _ _ _ ‹_›) | (exact DR.old _ _ ‹_›) | (exact DR.fr _ _ ‹_›) | (exact DR.lv _ _ ‹_›) | (exact DR.ns _ _ ‹_› ‹_›) | (exact DR.lp _ _ _ _ _ ‹_› ‹_›), rfl⟩
theorem KR.of_dr {Pr : PrT} {φ : Nat → Option (Option Nat)} {w : World} {c : AC} {v : Value} (h : DR Pr w c v) : KR Pr φ w c v ∧ c.keys = [] := by
 cases h with
 | clo f cap g hd =>
  refine ⟨⟨g, rfl, fun j c hj => (KR0.of_dr (hd j c hj)).1⟩, ?_⟩
  show cap.flatMap AC.keys0 = []
  rw [List.flatMap_eq_nil_iff]
  intro c hc
  obtain ⟨j, hj⟩ := List.mem_iff_getElem?.1 hc
  exact (KR0.of_dr (φ := φ) (hd j c hj)).2
 | int k n => exact ⟨(KR0.of_dr (φ := φ) (.int k n)).1, rfl⟩
 | bool b => exact ⟨(KR0.of_dr (φ := φ) (.bool b)).1, rfl⟩
 | str s => exact ⟨(KR0.of_dr (φ := φ) (.str s)).1, rfl⟩
 | nil => exact ⟨(KR0.of_dr (φ := φ) .nil).1, rfl⟩
 | raw v ho => exact ⟨(KR0.of_dr (φ := φ) (.raw v ho)).1, rfl⟩
 | slN wd f => exact ⟨(KR0.of_dr (φ := φ) (.slN wd f)).1, rfl⟩
 | sl wd n f a cap g hn hc hl hr hd => exact ⟨(KR0.of_dr (φ := φ) (.sl wd n f a cap g hn hc hl hr hd)).1, rfl⟩
 | pd cs i a g hr hd => exact ⟨(KR0.of_dr (φ := φ) (.pd cs i a g hr hd)).1, rfl⟩
 | old c v h => exact ⟨(KR0.of_dr (φ := φ) (.old c v h)).1, rfl⟩
 | fr c v h => exact ⟨(KR0.of_dr (φ := φ) (.fr c v h)).1, rfl⟩
 | lv c v h => exact ⟨(KR0.of_dr (φ := φ) (.lv c v h)).1, rfl⟩
 | ns c v h hv => exact ⟨(KR0.of_dr (φ := φ) (.ns c v h hv)).1, rfl⟩
 | lp cs i b o g hr hd => exact ⟨(KR0.of_dr (φ := φ) (.lp cs i b o g hr hd)).1, rfl⟩
theorem KR0.mono {Pr Pr' : PrT} {φ φ' : Nat → Option (Option Nat)} {w w' : World} {c : AC} {v : Value} (h : KR0 Pr φ w c v)
  (hp : Pr.Le Pr') (hw : ∀ b, Pr b → w'.heap[b]? = w.heap[b]?) (hf : ∀ k ∈ c.keys0, ∀ p, φ' k = some p → φ k = some p)
  (hs : ∀ k b, φ k = some (some b) → bsize w' b = bsize w b) : KR0 Pr' φ' w' c v := by
 cases c with
 | own k wd off len =>
  refine ⟨h.1, fun p hp' => ?_⟩
  have hk := hf k (by simp [AC.keys0]) p hp'
  have h' := h.2 p hk
  cases p with
  | none => exact h'
  | some b => obtain ⟨cap, h1, h2, h3⟩ := h'; exact ⟨cap, h1, h2, by rw [hs k b hk]; exact h3⟩
 | pk k i => exact ⟨h.1, fun p hp' => h.2 p (hf k (by simp [AC.keys0]) p hp')⟩
 | pa k wd i off => exact ⟨h.1, fun p hp' => h.2 p (hf k (by simp [AC.keys0]) p hp')⟩
 | _ => exact DR.mono h hp hw
theorem KR.mono {Pr Pr' : PrT} {φ φ' : Nat → Option (Option Nat)} {w w' : World} {c : AC} {v : Value} (h : KR Pr φ w c v)
  (hp : Pr.Le Pr') (hw : ∀ b, Pr b → w'.heap[b]? = w.heap[b]?) (hf : ∀ k ∈ c.keys, ∀ p, φ' k = some p → φ k = some p)
  (hs : ∀ k b, φ k = some (some b) → bsize w' b = bsize w b) : KR Pr' φ' w' c v := by
 cases c with
 | clo f cap =>
  obtain ⟨g, h1, h2⟩ := h
  refine ⟨g, h1, fun j c hj => (h2 j c hj).mono hp hw (fun k hk => hf k ?_) hs⟩
  exact List.mem_flatMap.2 ⟨c, List.mem_of_getElem? hj, hk⟩
 | own k wd off len => exact KR0.mono (c := .own k wd off len) h hp hw hf hs
 | pk k i => exact KR0.mono (c := .pk k i) h hp hw hf hs
 | pa k wd i off => exact KR0.mono (c := .pa k wd i off) h hp hw hf hs
 | int k n => exact DR.mono h hp hw
 | bool b => exact DR.mono h hp hw
 | str s => exact DR.mono h hp hw
 | nil => exact DR.mono h hp hw
 | raw v => exact DR.mono h hp hw
 | sl wd n f => exact DR.mono h hp hw
 | pd cs i => exact DR.mono h hp hw
 | old c => exact DR.mono h hp hw
 | fr c => exact DR.mono h hp hw
 | lv c => exact DR.mono h hp hw
 | ns c => exact DR.mono h hp hw
 | lp cs i => exact DR.mono h hp hw
theorem KR.one {Pr : PrT} {φ : Nat → Option (Option Nat)} {w : World} {c : AC} {v : Value} (h : KR Pr φ w c v) : v.oneCell' = true := by
 cases c with
 | clo f cap => obtain ⟨g, h1, h2⟩ := h; subst h1; rfl
 | own k wd off len => exact h.1
 | pk k i => exact h.1
 | pa k wd i off => exact h.1
 | int k n => exact DR.one h
 | bool b => exact DR.one h
 | str s => exact DR.one h
 | nil => exact DR.one h
 | raw v => exact DR.one h
 | sl wd n f => exact DR.one h
 | pd cs i => exact DR.one h
 | old c => exact DR.one h
 | fr c => exact DR.one h
 | lv c => exact DR.one h
 | ns c => exact DR.one h
 | lp cs i => exact DR.one h
def cellsR (R : AC → Value → Prop) (xs : List AC) (vs : List Value) : Prop := vs.length = xs.length ∧ ∀ (i : Nat) (c : AC) (v : Value), xs[i]? = some c → vs[i]? = some v → R c v
theorem cellsR.mono {R R' : AC → Value → Prop} {xs : List AC} {vs : List Value} (h : cellsR R xs vs) (hr : ∀ c ∈ xs, ∀ v, R c v → R' c v) : cellsR R' xs vs :=
 ⟨h.1, fun i c v hc hv => hr c (List.mem_of_getElem? hc) v (h.2 i c v hc hv)⟩
theorem cellsR.get {R : AC → Value → Prop} {xs : List AC} {vs : List Value} (h : cellsR R xs vs) {i : Nat} {c : AC} (hc : xs[i]? = some c) : ∃ v, vs[i]? = some v ∧ R c v := by
 have hlt : i < xs.length := (List.getElem?_eq_some_iff.1 hc).1
 have hlt' : i < vs.length := by rw [h.1]; exact hlt
 exact ⟨vs[i], List.getElem?_eq_getElem hlt', h.2 i c _ hc (List.getElem?_eq_getElem hlt')⟩
def VP (R : AC → Value → Prop) : Bool × List AC → Value → Prop
 | (false, [x]), v => R x v
 | (true, xs), v => ∃ vs : List Value, v = .agg vs.toArray ∧ cellsR R xs vs
 | _, _ => False
def VR (R : AC → Value → Prop) : AV → Value → Prop
 | .c x, v => R x v
 | .agg xs, v => ∃ vs : List Value, v = .agg vs.toArray ∧ cellsR R xs vs
 | .tup xs, v => ∃ g : Nat → Value, v = .tuple ((List.range xs.length).map g).toArray ∧ ∀ (i : Nat) p, xs[i]? = some p → VP R p (g i)
theorem VP.mono {R R' : AC → Value → Prop} {p : Bool × List AC} {v : Value} (h : VP R p v) (hr : ∀ c ∈ p.2, ∀ v, R c v → R' c v) : VP R' p v := by
 obtain ⟨b, xs⟩ := p
 cases b with
 | false =>
  match xs, h with
  | [x], h => exact hr x (by simp) v h
 | true => obtain ⟨vs, h1, h2⟩ := h; exact ⟨vs, h1, h2.mono hr⟩
def AV.cells : AV → List AC
 | .c x => [x]
 | .agg xs => xs
 | .tup xs => xs.flatMap (·.2)
theorem AV.keys_eq (v : AV) : v.keys = v.cells.flatMap AC.keys := by
 cases v with
 | c x => simp [AV.keys, AV.cells]
 | agg xs => rfl
 | tup xs => simp [AV.keys, AV.cells, List.flatMap_assoc]
theorem VR.mono {R R' : AC → Value → Prop} {x : AV} {v : Value} (h : VR R x v) (hr : ∀ c ∈ x.cells, ∀ v, R c v → R' c v) : VR R' x v := by
 cases x with
 | c x => exact hr x (by simp [AV.cells]) v h
 | agg xs => obtain ⟨vs, h1, h2⟩ := h; exact ⟨vs, h1, h2.mono hr⟩
 | tup xs =>
  obtain ⟨g, h1, h2⟩ := h
  exact ⟨g, h1, fun i p hp => (h2 i p hp).mono fun c hc => hr c (List.mem_flatMap.2 ⟨p, List.mem_of_getElem? hp, hc⟩)⟩
def BR (Pr : PrT) (φ : Nat → Option (Option Nat)) (w : World) (p : Option Nat) : Blk → Prop
 | .var cs _ => ∃ b arr T, p = some b ∧ w.heap[b]? = some (.cells arr T (0, 0)) ∧ cellsR (KR Pr φ w) cs arr.toList
 | .arr wd n f _ => 0 < wd ∧ ((p = none ∧ n = 0) ∨ ∃ b arr T, p = some b ∧ w.heap[b]? = some (.cells arr T (0, 0)) ∧ n * wd ≤ arr.size ∧ arr.size ≤ maxLen * wd ∧
   ∀ i, i < n → (f i).length = wd ∧ ∀ (j : Nat) (c : AC), (f i)[j]? = some c → ∃ v, arr[i * wd + j]? = some v ∧ DR Pr w c v)
structure St where
 e : Nat → Option AV
 h : Nat → Option Blk
 u : List Nat
structure Wk where
 w : World
 K : Nat → Prop
 pin : Nat → Option (Option Nat)
 lt : ∀ b, K b → b < w.heap.size
structure Keep (w0 : Wk) (w : World) : Prop where
 os : w.os = w0.w.os
 tape : w.tape = w0.w.tape
 output : w.output = w0.w.output
 size : w0.w.heap.size ≤ w.heap.size
 block : ∀ b, w0.K b → w.heap[b]? = w0.w.heap[b]?
 bs : ∀ b, b < w0.w.heap.size → bsize w b = bsize w0.w b
def KindOk : Kd → Value → Prop
 | .int k, x => ∃ n, x = .int k n
 | .bool, x => ∃ b, x = .bool b
 | .str, x => ∃ l, x = .string l
 | .fix u, x => x = u
def ThOk (Θ : Nat → Nat → Option Kd) (w : World) : Prop := ∀ b o s, Θ b o = some s → ∃ arr T x, w.heap[b]? = some (.cells arr T (0, 0)) ∧ arr[o]? = some x ∧ KindOk s x
theorem ThOk.mono {Pr : PrT} {w w' : World} (h : ThOk Pr.Θ w) (hw : ∀ b, Pr.dom b → w'.heap[b]? = w.heap[b]?) : ThOk Pr.Θ w' := fun b o s hs => by
 obtain ⟨arr, T, x, h1, h2⟩ := h b o s hs
 exact ⟨arr, T, x, by rw [hw b ⟨o, by rw [hs]; simp⟩]; exact h1, h2⟩
theorem ThOk.lt {Pr : PrT} {w : World} (h : ThOk Pr.Θ w) {b : Nat} (hb : Pr.dom b) : b < w.heap.size := by
 obtain ⟨o, ho⟩ := hb
 cases hs : Pr.Θ b o with
 | none => exact absurd hs ho
 | some s =>
  obtain ⟨arr, T, x, h1, _⟩ := h b o s hs
  rcases Nat.lt_or_ge b w.heap.size with h2 | h2
  ·exact h2
  ·rw [Array.getElem?_eq_none h2] at h1; cases h1
structure Bel (Pr : PrT) (w w' : World) : Prop where
 os : w'.os = w.os
 tape : w'.tape = w.tape
 output : w'.output = w.output
 size : w.heap.size ≤ w'.heap.size
 block : ∀ b, b < w.heap.size → ¬ Pr.dom b → w'.heap[b]? = w.heap[b]?
 th : ThOk Pr.Θ w'
 bs : ∀ b, b < w.heap.size → bsize w' b = bsize w b
theorem Bel.of {Pr : PrT} {w w' : World} (h : Below w.heap.size w w') (ht : ThOk Pr.Θ w) : Bel Pr w w' :=
 ⟨h.os, h.tape, h.output, h.size, fun b hb _ => h.block b hb, ht.mono fun b hb => h.block b (ht.lt hb), fun b hb => by unfold bsize; rw [h.block b hb]⟩
theorem Keep.trans {Pr : PrT} {w0 : Wk} {w w' : World} (h : Keep w0 w) (k : Bel Pr w w') (hd : ∀ b, Pr.dom b → ¬ w0.K b) : Keep w0 w' :=
 ⟨k.os.trans h.os, k.tape.trans h.tape, k.output.trans h.output, Nat.le_trans h.size k.size, fun b hb => (k.block b (Nat.lt_of_lt_of_le (w0.lt b hb) h.size) (fun x => hd b x hb)).trans (h.block b hb), fun b hb => (k.bs b (Nat.lt_of_lt_of_le hb h.size)).trans (h.bs b hb)⟩
theorem Keep.nk {w0 : Wk} {w : World} (h : Keep w0 w) {b : Nat} (hb : w.heap.size ≤ b) : ¬ w0.K b := fun x => absurd (w0.lt b x) (by have := h.size; omega)
def Pin (w0 : Wk) (N : Nat) (φ : Nat → Option (Option Nat)) (h : Nat → Option Blk) : Prop :=
 ∀ k p, w0.pin k = some p → (1000000 ≤ k ∧ N ≤ 1000000) ∧ (h k = none ∨ φ k = some p)
theorem Pin.of {w0 : Wk} {N : Nat} {φ φ' : Nat → Option (Option Nat)} {h h' : Nat → Option Blk} (hp : Pin w0 N φ h) (hc : ∀ k, 1000000 ≤ k → N ≤ 1000000 → h k = none → h' k = none)
  (hd : ∀ k p, 1000000 ≤ k → N ≤ 1000000 → φ k = some p → h' k = none ∨ φ' k = some p) : Pin w0 N φ' h' := fun k p hk => by
 obtain ⟨⟨h1, h2⟩, h3⟩ := hp k p hk
 exact ⟨⟨h1, h2⟩, h3.elim (fun e => .inl (hc k h1 h2 e)) fun e => hd k p h1 h2 e⟩
def LAW : Nat := 1000000
structure Ext (gl : Nat → Option (List AC)) (w0 : Wk) (Pr : PrT) (φ : Nat → Option (Option Nat)) (w : World) : Prop where
 qp : ∀ b, Pr.Q b → Pr b
 th : ThOk Pr.Θ w
 dk : ∀ b, Pr.dom b → ¬ w0.K b
 dp : ∀ b, Pr.dom b → ¬ Pr b
 df : ∀ b, Pr.dom b → ∀ k, φ k ≠ some (some b)
 lw : gl LAW ≠ none → ∀ b, w0.K b → Pr.Q b
structure Sim (gl : Nat → Option (List AC)) (N : Nat) (w0 : Wk) (Pr : PrT) (φ : Nat → Option (Option Nat)) (s : St) (a : Act) (w : World) : Prop where
 sz : a.tmps.size = N
 tm : ∀ t v, s.e t = some v → ∃ x, a.tmps[t]? = some x ∧ VR (KR Pr φ w) v x
 hp : ∀ k blk, s.h k = some blk → ∃ p, φ k = some p ∧ BR Pr φ w p blk
 lv : ∀ k, s.h k = none → φ k = none
 inj : ∀ k k' b, φ k = some (some b) → φ k' = some (some b) → k = k'
 ow : ∀ k b blk, s.h k = some blk → φ k = some (some b) → ¬ w0.K b ∧ (Pr b ↔ blk.fz = true)
 ku : ∀ k, s.h k ≠ none → k ∈ s.u
 ke : ∀ t v, s.e t = some v → ∀ k ∈ v.keys, k ∈ s.u
 kh : ∀ k blk, s.h k = some blk → ∀ k' ∈ blk.keys, k' ∈ s.u
 pr : ∀ b, Pr b → b < w.heap.size
 gk : ∀ g cs, gl g = some cs → GK Pr.old w g cs
 df : a.defers = []
 bl : Keep w0 w
 pn : Pin w0 N φ s.h
 ex : Ext gl w0 Pr φ w
structure PrS (w0 : Wk) (gl : Nat → Option (List AC)) (Pr Pr' : PrT) : Prop where
 le : gl LAW = none → Pr.Le Pr'
 nk : gl LAW = none → ∀ b, Pr' b → Pr b ∨ ¬ w0.K b
theorem PrS.refl (w0 : Wk) {gl : Nat → Option (List AC)} (Pr : PrT) : PrS w0 gl Pr Pr := ⟨fun _ => .refl _, fun _ _ => .inl⟩
theorem PrS.trans {w0 : Wk} {gl : Nat → Option (List AC)} {A B C : PrT} (h : PrS w0 gl A B) (k : PrS w0 gl B C) : PrS w0 gl A C :=
 ⟨fun g => (h.le g).trans (k.le g), fun g b x => ((k.nk g) b x).elim (fun y => h.nk g b y) .inr⟩
theorem PrS.mk' {w0 : Wk} {gl : Nat → Option (List AC)} {A B : PrT} (h : A.Le B) (k : ∀ b, B b → A b ∨ ¬ w0.K b) : PrS w0 gl A B := ⟨fun _ => h, fun _ => k⟩
theorem Ext.phi {gl : Nat → Option (List AC)} {w0 : Wk} {Pr : PrT} {φ φ' : Nat → Option (Option Nat)} {w : World} (h : Ext gl w0 Pr φ w)
  (hf : ∀ k b, φ' k = some (some b) → ∃ k', φ k' = some (some b)) : Ext gl w0 Pr φ' w :=
 ⟨h.qp, h.th, h.dk, h.dp, fun b hb k hk => by obtain ⟨k', hk'⟩ := hf k b hk; exact h.df b hb k' hk', h.lw⟩
theorem Ext.phiNew {gl : Nat → Option (List AC)} {w0 : Wk} {Pr : PrT} {φ φ' : Nat → Option (Option Nat)} {w : World} (h : Ext gl w0 Pr φ w)
  (hf : ∀ k b, φ' k = some (some b) → (∃ k', φ k' = some (some b)) ∨ w.heap.size ≤ b) : Ext gl w0 Pr φ' w :=
 ⟨h.qp, h.th, h.dk, h.dp, fun b hb k hk => by
  rcases hf k b hk with ⟨k', hk'⟩ | hle
  ·exact h.df b hb k' hk'
  ·have := h.th.lt hb; omega, h.lw⟩
theorem Ext.world {gl : Nat → Option (List AC)} {w0 : Wk} {Pr : PrT} {φ : Nat → Option (Option Nat)} {w w' : World} (h : Ext gl w0 Pr φ w) (hw : ∀ b, Pr.dom b → w'.heap[b]? = w.heap[b]?) : Ext gl w0 Pr φ w' :=
 ⟨h.qp, h.th.mono hw, h.dk, h.dp, h.df, h.lw⟩
theorem Ext.prs {gl : Nat → Option (List AC)} {w0 : Wk} {Pr Pr' : PrT} {φ : Nat → Option (Option Nat)} {w : World} (h : Ext gl w0 Pr φ w) (hp : Pr.Le Pr') (hn : ∀ b, Pr.dom b → ¬ Pr' b) : Ext gl w0 Pr' φ w := by
 have hd : ∀ b, Pr'.dom b → Pr.dom b := fun b hb => by unfold PrT.dom at hb ⊢; rw [hp.t] at hb; exact hb
 exact ⟨fun b hb => hp.f b (h.qp b (by rw [hp.q] at hb; exact hb)), by rw [hp.t]; exact h.th, fun b hb => h.dk b (hd b hb), fun b hb => hn b (hd b hb), fun b hb => h.df b (hd b hb), fun g b hb => by rw [hp.q]; exact h.lw g b hb⟩
section
variable {gl : Nat → Option (List AC)} {N : Nat} {w0 : Wk} {Pr : PrT} {φ : Nat → Option (Option Nat)} {s : St} {a : Act} {w : World}
theorem Sim.alive (h : Sim gl N w0 Pr φ s a w) {k b : Nat} (hk : φ k = some (some b)) : ∃ arr T, w.heap[b]? = some (.cells arr T (0, 0)) := by
 cases hh : s.h k with
 | none => rw [h.lv k hh] at hk; cases hk
 | some blk =>
  obtain ⟨p, hp, hb⟩ := h.hp k blk hh
  rw [hk] at hp; cases hp
  cases blk with
  | var cs z => obtain ⟨b', arr, T, h1, h2, _⟩ := hb; cases h1; exact ⟨arr, T, h2⟩
  | arr wd n f z =>
   obtain ⟨_, h1 | ⟨b', arr, T, h1, h2, _⟩⟩ := hb
   ·cases h1.1
   ·cases h1; exact ⟨arr, T, h2⟩
theorem Sim.lt (h : Sim gl N w0 Pr φ s a w) {k b : Nat} (hk : φ k = some (some b)) : b < w.heap.size := by
 obtain ⟨arr, T, hh⟩ := h.alive hk
 rcases Nat.lt_or_ge b w.heap.size with h1 | h1
 ·exact h1
 ·rw [Array.getElem?_eq_none h1] at hh; cases hh
theorem Sim.grow (h : Sim gl N w0 Pr φ s a w) {w' : World} {Pr' : PrT} (hb : Bel Pr w w') (hp : Pr.Le Pr')
  (hq : ∀ b, Pr' b → b < w'.heap.size ∧ (b < w.heap.size → Pr b)) : Sim gl N w0 Pr' φ s a w' := by
 have hw : ∀ b, Pr b → w'.heap[b]? = w.heap[b]? := fun b hb' => hb.block b (h.pr b hb') fun x => h.ex.dp b x hb'
 have hs : ∀ k b, φ k = some (some b) → bsize w' b = bsize w b := fun k b hk => by unfold bsize; rw [hb.block b (h.lt hk) fun x => h.ex.df b x k hk]
 have hkr : ∀ c v, KR Pr φ w c v → KR Pr' φ w' c v := fun c v hc => hc.mono hp hw (fun _ _ _ h => h) hs
 refine ⟨h.sz, fun t v ht => ?_, fun k blk hk => ?_, h.lv, h.inj, fun k b blk hk hf => ?_, h.ku, h.ke, h.kh, fun b hb' => (hq b hb').1, fun g cs hg => (h.gk g cs hg).mono hp.old fun b x => hw b x.1, h.df, ?_, h.pn, ?_⟩
 ·obtain ⟨x, h1, h2⟩ := h.tm t v ht
  exact ⟨x, h1, h2.mono fun c _ v => hkr c v⟩
 ·obtain ⟨p, h1, h2⟩ := h.hp k blk hk
  refine ⟨p, h1, ?_⟩
  cases blk with
  | var cs z =>
   obtain ⟨b, arr, T, h3, h4, h5⟩ := h2
   subst h3
   exact ⟨b, arr, T, rfl, by rw [hb.block b (h.lt h1) fun x => h.ex.df b x k h1]; exact h4, h5.mono fun c _ v => hkr c v⟩
  | arr wd n f z =>
   obtain ⟨h0, h3 | ⟨b, arr, T, h3, h4, h5, h5', h6⟩⟩ := h2
   ·exact ⟨h0, .inl h3⟩
   ·subst h3
    refine ⟨h0, .inr ⟨b, arr, T, rfl, by rw [hb.block b (h.lt h1) fun x => h.ex.df b x k h1]; exact h4, h5, h5', fun i hi => ⟨(h6 i hi).1, fun j c hj => ?_⟩⟩⟩
    obtain ⟨v, h7, h8⟩ := (h6 i hi).2 j c hj
    exact ⟨v, h7, h8.mono hp hw⟩
 ·refine ⟨(h.ow k b blk hk hf).1, fun hb' => (h.ow k b blk hk hf).2.1 ((hq b hb').2 (h.lt hf)), fun hz => hp.f b ((h.ow k b blk hk hf).2.2 hz)⟩
 ·exact h.bl.trans hb h.ex.dk
 ·have hd : ∀ b, Pr.dom b → ¬ Pr' b := fun b hb' x => h.ex.dp b hb' ((hq b x).2 (h.ex.th.lt hb'))
  have := h.ex.prs hp hd
  exact ⟨this.qp, by rw [hp.t]; exact hb.th, this.dk, this.dp, this.df, this.lw⟩
theorem Sim.put (h : Sim gl N w0 Pr φ s a w) {d : Nat} {v : AV} {x : Value} (hd : d < N) (hv : VR (KR Pr φ w) v x) (hk : ∀ k ∈ v.keys, k ∈ s.u) :
  Sim gl N w0 Pr φ { s with e := fun t => bif Nat.beq t d then some v else s.e t } (a.put (some d) x) w := by
 have hsz := h.sz
 refine ⟨by simpa [Act.put] using h.sz, fun t u ht => ?_, h.hp, h.lv, h.inj, h.ow, h.ku, fun t u ht => ?_, h.kh, h.pr, h.gk, by simpa [Act.put] using h.df, h.bl, h.pn, h.ex⟩
 ·by_cases e : t = d
  ·subst e
   simp [nbt] at ht
   subst ht
   exact ⟨x, by simp only [Act.put]; exact Array.getElem?_setIfInBounds_self_of_lt (by omega), hv⟩
  ·have e' : Nat.beq t d = false := nbf e
   simp [e'] at ht
   obtain ⟨y, h1, h2⟩ := h.tm t u ht
   exact ⟨y, by simp [Act.put]; rw [Array.getElem?_setIfInBounds_ne (fun e2 => e e2.symm)]; exact h1, h2⟩
 ·by_cases e : t = d
  ·subst e
   simp [nbt] at ht
   subst ht
   exact hk
  ·have e' : Nat.beq t d = false := nbf e
   simp [e'] at ht
   exact h.ke t u ht
end
inductive Opd where
 | t (n : Nat)
 | v (c : AC)
 | a (cs : List AC)
 | g (n : Nat)
 | f (n : FuncId)
inductive Ins where
 | mv (x : Opd)
 | pick (c a b : Opd)
 | bin (op : BinOp) (x y : Opd)
 | bqe (neg : Bool) (x y : Opd)
 | eqa (neg : Bool) (ks : List Nat) (x y : Opd)
 | not (x : Opd)
 | neg (x : Opd)
 | conv (k : IntKind) (x : Opd)
 | len (x : Opd)
 | lens (x : Opd)
 | fld (off w : Nat) (agg : Bool) (x : Opd)
 | fad (off : Nat) (x : Opd)
 | iad (wd : Nat) (x i : Opd)
 | iar (n wd : Nat) (x i : Opd)
 | load (w : Nat) (agg : Bool) (x : Opd)
 | store (w : Nat) (a v : Opd)
 | build (zero : List AC) (parts : List (Nat × Nat × Opd))
 | bsl (wd : Nat) (parts : List Opd)
 | msl (wd bytes : Nat) (zero : List AC) (n : Opd)
 | box (w : Nat) (x : Opd)
 | alloc (zero : List AC)
 | slc (wd : Nat) (x : Opd) (lo hi : Option Opd)
 | sls (x : Opd) (lo hi : Option Opd)
 | app (wd bytes : Nat) (x y : Opd)
 | call (f : FuncId) (xs : List Opd)
 | cald (x : Opd) (xs : List Opd)
 | clo (f : FuncId) (xs : List Opd)
 | ext (x : Opd) (i : Nat)
 | ixs (x i : Opd)
 | b2s (x : Opd)
 | mx (max : Bool) (x y : Opd)
 | nck (x : Opd)
 | isn (neg : Bool) (x : Opd)
 | cpy (x y : Opd)
structure IOp where
 d : Option Nat
 i : Ins
 g : Option (Nat × Bool)
inductive Hint where
 | no
 | cs (cs : List AC)
 | nat (n : Nat)
 | fn (n : Nat) (f : Nat → List AC)
 | res (v : AV)
 | b (b : Bool)
 | str (l : List UInt8)
 | g (b : Bool)
 | mu (ks os : List (Nat × Nat)) (res : AV) (H : List (Nat × Blk))
def LIM : Nat := 2 ^ 36
def ev (gl : Nat → Option (List AC)) (s : St) : Opd → Option AV
 | .t n => s.e n
 | .v c => some (.c c)
 | .a cs => some (.agg cs)
 | .g n => match gl n with | some cs => some (.c (.pd cs 0)) | none => none
 | .f n => some (.c (.clo n []))
def evs (gl : Nat → Option (List AC)) (s : St) : List Opd → Option (List AV)
 | [] => some []
 | x :: r => match ev gl s x with
  | some v => match evs gl s r with | some l => some (v :: l) | none => none
  | none => none
def St.pu (s : St) (d : Option Nat) (v : AV) : St :=
 match d with
 | some d => { s with e := fun t => bif Nat.beq t d then some v else s.e t }
 | none => s
def St.sh (s : St) (k : Nat) (b : Blk) : St := { s with h := fun j => bif Nat.beq j k then some b else s.h j }
def St.dr (s : St) (k : Nat) : St := { s with h := fun j => bif Nat.beq j k then none else s.h j }
def St.al (s : St) (k : Nat) (b : Blk) : St := { s with h := fun j => bif Nat.beq j k then some b else s.h j, u := k :: s.u }
def AC.isD : AC → Bool
 | .own .. | .pk .. | .pa .. | .clo .. => false
 | _ => true
def AC.isS : AC → Bool
 | .int .. | .bool _ | .str _ | .nil | .raw _ => true
 | _ => false
def AV.isS : AV → Bool
 | .c x => x.isS
 | .agg xs => xs.all AC.isS
 | .tup xs => xs.all fun p => p.2.all AC.isS
def setC (cs : List AC) (i : Nat) : List AC → List AC
 | [] => cs
 | c :: r => setC (cs.set i c) (i + 1) r
def AV.one : AV → Option (List AC)
 | .c x => some [x]
 | .agg xs => some xs
 | .tup _ => none
def pl (off : Nat) (i : Nat) : Nat := match off with | 0 => i | o + 1 => o + 1 + i
def shf (f : Nat → List AC) : Nat → Nat → List AC
 | 0 => f
 | o + 1 => fun i => f (o + 1 + i)
def frC (s : St) : AC → (AC → St → Prop) → Prop
 | .own k wd off len, K => match s.h k with
  | some (.arr wd' n f _) => if wd = wd' then pl off len ≤ n ∧ K (.sl wd len (shf f off)) (s.sh k (.arr wd n f true)) else False
  | _ => False
 | c, K => match c.isD with | true => K c s | false => False
def frCs (s : St) : List AC → (List AC → St → Prop) → Prop
 | [], K => K [] s
 | c :: r, K => frC s c fun c' s' => frCs s' r fun r' s'' => K (c' :: r') s''
def frP (s : St) : AC → (AC → St → Prop) → Prop
 | .pk k i, K => match s.h k with
  | some (.var cs z) => frCs s cs fun cs' s' => K (.pd cs' i) (s'.sh k (.var cs true))
  | _ => False
 | c, K => frC s c K
def frPs (s : St) : List AC → (List AC → St → Prop) → Prop
 | [], K => K [] s
 | c :: r, K => frP s c fun c' s' => frPs s' r fun r' s'' => K (c' :: r') s''
def frF (s : St) : AC → (AC → St → Prop) → Prop
 | .clo f cap, K => frPs s cap fun cap' s' => K (.clo f cap') s'
 | c, K => frP s c K
def frFs (s : St) : List AC → (List AC → St → Prop) → Prop
 | [], K => K [] s
 | c :: r, K => frF s c fun c' s' => frFs s' r fun r' s'' => K (c' :: r') s''
def frV (s : St) (v : AV) (K : AV → St → Prop) : Prop :=
 match v with
 | .c x => frF s x fun x' s' => K (.c x') s'
 | .agg xs => match v.keys with
  | [] => K v s
  | _ => frFs s xs fun xs' s' => K (.agg xs') s'
 | .tup _ => False
def frVs (s : St) : List AV → (List AV → St → Prop) → Prop
 | [], K => K [] s
 | v :: r, K => frV s v fun v' s' => frVs s' r fun r' s'' => K (v' :: r') s''
def callable (P : Program) (f : FuncId) : Bool :=
 match P.funcs[f]? with
 | some fn => fn.body.isSome && !(fn.name == "runtime.NumGoroutine")
 | none => false
structure PrT.Ok (Pr : PrT) (w : World) : Prop where
 lt : ∀ b, Pr b → b < w.heap.size
 qp : ∀ b, Pr.Q b → Pr b
 th : ThOk Pr.Θ w
 dp : ∀ b, Pr.dom b → ¬ Pr b
def PrT.new (Pr : PrT) (w w' : World) : PrT := { Pr with p := fun b => Pr b ∨ (w.heap.size ≤ b ∧ b < w'.heap.size) }
def FnOk (P : Program) (gl : Nat → Option (List AC)) (f : FuncId) (args : List AV) (res : AV) : Prop :=
 callable P f = true ∧ ∀ (w : World) (Pr : PrT) (vals : List Value), Pr.Ok w →
  (∀ g cs, gl g = some cs → GK Pr.old w g cs) → vals.length = args.length →
  (∀ (i : Nat) a v, args[i]? = some a → vals[i]? = some v → VR (DR Pr w) a v) →
  Calls P f vals.toArray w fun e w' => ∃ v, e = .returned v ∧ Bel Pr w w' ∧ VR (DR (Pr.new w w') w') res v
def AC.rn0 (r : Nat → Nat) : AC → AC
 | .own k wd off len => .own (r k) wd off len
 | .pk k i => .pk (r k) i
 | .pa k wd i off => .pa (r k) wd i off
 | c => c
def AC.rn (r : Nat → Nat) : AC → AC
 | .clo f cap => .clo f (cap.map (AC.rn0 r))
 | c => c.rn0 r
def AV.rn (r : Nat → Nat) : AV → AV
 | .c x => .c (x.rn r)
 | .agg xs => .agg (xs.map (AC.rn r))
 | .tup xs => .tup (xs.map fun p => (p.1, p.2.map (AC.rn r)))
def Blk.rn (r : Nat → Nat) : Blk → Blk
 | .var cs z => .var (cs.map (AC.rn r)) z
 | b => b
def lkN : List (Nat × Nat) → Nat → Nat
 | [], k => k
 | (a, b) :: r, k => bif Nat.beq k a then b else lkN r k
def swp (l : List (Nat × Nat)) : List (Nat × Nat) := l.map fun p => (p.2, p.1)
def lkB (k : Nat) : List (Nat × Blk) → Option Blk
 | [] => none
 | (j, b) :: r => bif Nat.beq k j then some b else lkB k r
def heapS (H : List (Nat × Blk)) : St := ⟨fun _ => none, fun k => lkB k H, H.map (·.1) ++ H.flatMap (·.2.keys)⟩
def FnMu (P : Program) (gl : Nat → Option (List AC)) (f : FuncId) (args : List AV) (H : List (Nat × Blk)) (res : AV) (H' : List (Nat × Blk)) : Prop :=
 callable P f = true ∧ ∃ glc : Nat → Option (List AC), glc LAW = none ∧ (∀ g cs, glc g = some cs → gl g = some cs) ∧
  ∀ (w0 : Wk) (Pr : PrT) (φ : Nat → Option (Option Nat)) (vals : List Value), Sim glc 0 w0 Pr φ (heapS H) ⟨#[], []⟩ w0.w → vals.length = args.length →
   (∀ (i : Nat) a v, args[i]? = some a → vals[i]? = some v → VR (KR Pr φ w0.w) a v) → (∀ a ∈ args, ∀ k ∈ a.keys, k ∈ (heapS H).u) →
   Calls P f vals.toArray w0.w fun e w' => ∃ v Pr' φ', e = .returned v ∧ Sim glc 0 w0 Pr' φ' (heapS H') ⟨#[], []⟩ w' ∧ VR (KR Pr' φ' w') res v ∧ PrS w0 glc Pr Pr'
structure Mu where
 ks : List (Nat × Nat)
 os : List (Nat × Nat)
 res : AV
 H : List (Nat × Blk)
def mkH (s : St) (ks : List (Nat × Nat)) : List (Nat × Nat) → Option (List (Nat × Blk))
 | [] => some []
 | (k, j) :: r => match s.h k with
  | some b => match b.fz, mkH s ks r with
   | false, some l => some ((j, b.rn (lkN ks)) :: l)
   | _, _ => none
  | none => none
def nodupB : List Nat → Bool
 | [] => true
 | a :: r => !r.elem a && nodupB r
def eqNs : List Nat → List Nat → Bool
 | [], [] => true
 | a :: r, b :: t => Nat.beq a b && eqNs r t
 | _, _ => false
def chkM (s : St) (vs : List AV) (m : Mu) : Bool :=
 nodupB (m.ks.map (·.1)) && (nodupB (m.ks.map (·.2)) && (m.ks.all (fun p => Nat.ble 1000000 p.2) && ((vs.flatMap AV.keys).all (fun k => (m.ks.map (·.1)).elem k) &&
 (m.ks.all (fun p => match s.h p.1 with | some b => b.keys.all fun k => (m.ks.map (·.1)).elem k | none => false) &&
 (nodupB (m.os.map (·.1)) && (nodupB (m.os.map (·.2)) && (eqNs (m.os.map (·.1)) (m.H.map (·.1)) &&
 (m.os.all (fun p => (m.ks.any fun q => Nat.beq q.1 p.2 && Nat.beq q.2 p.1) || (!s.u.elem p.2 && (Nat.ble p.2 999999 && !(m.ks.map (·.2)).elem p.1))) &&
 (m.res.keys.all (fun k => (m.os.map (·.1)).elem k) && m.H.all (fun p => p.2.keys.all fun k => (m.os.map (·.1)).elem k))))))))))
def St.mu (s : St) (m : Mu) : St where
 e := s.e
 h := fun k => bif (m.os.map (·.2)).elem k then (match lkB (lkN (swp m.os) k) m.H with | some b => some (b.rn (lkN m.os)) | none => none) else bif (m.ks.map (·.1)).elem k then none else s.h k
 u := m.os.map (·.2) ++ s.u
def bI (op : BinOp) (k : IntKind) (a b : Int) : Option AC :=
 match op with
 | .add => some (.int k (k.wrap (a + b)))
 | .sub => some (.int k (k.wrap (a - b)))
 | .mul => some (.int k (k.wrap (a * b)))
 | .eql => some (.bool (a == b))
 | .neq => some (.bool (a != b))
 | .lss => some (.bool (decide (a < b)))
 | .leq => some (.bool (decide (a ≤ b)))
 | .gtr => some (.bool (decide (a > b)))
 | .geq => some (.bool (decide (a ≥ b)))
 | _ => none
def bS (op : BinOp) (a b : List UInt8) : Option AC :=
 match op with
 | .eql => some (.bool (a == b))
 | .neq => some (.bool (!(a == b)))
 | .lss => some (.bool (Op.bytesLess a b))
 | .leq => some (.bool (Op.bytesLess a b || a == b))
 | .gtr => some (.bool (!(Op.bytesLess a b || a == b)))
 | .geq => some (.bool (!(Op.bytesLess a b)))
 | _ => none
def eqC : Nat → AC → AC → Option Bool
 | 0, .bool a, .bool b => some (a == b)
 | 1, .int k a, .int k' b => if k = k' then some (a == b) else none
 | 2, .str a, .str b => some (a == b)
 | _, _, _ => none
def eqCs : List Nat → List AC → List AC → Option Bool
 | [], [], [] => some true
 | k :: ks, x :: xs, y :: ys => match eqC k x y, eqCs ks xs ys with | some b, some c => some (b && c) | _, _ => none
 | _, _, _ => none
def loadC (cs : List AC) (i w : Nat) (agg : Bool) : Option AV :=
 match agg with
 | true => if ((cs.drop i).take w).length = w then some (.agg ((cs.drop i).take w)) else none
 | false => match cs[i]? with | some c => some (.c c) | none => none
def loadL (cs : List AC) (i w : Nat) (agg : Bool) : Option AV :=
 match agg, w, cs[i]? with
 | false, 1, some (.sl wd n f) => some (.c (.lv (.sl wd n f)))
 | _, _, _ => none
def sameK : AC → AC → Bool
 | .int k _, .int k' _ => decide (k = k')
 | .bool _, .bool _ => true
 | .str _, .str _ => true
 | _, _ => false
def buildC (gl : Nat → Option (List AC)) (s : St) : List AC → List (Nat × Nat × Opd) → Option (List AC)
 | cs, [] => some cs
 | cs, (off, w, x) :: r => match ev gl s x with
  | some v => match v.one with
   | some vc => if vc.length = w then if off + w ≤ cs.length then buildC gl s (setC cs off vc) r else none else none
   | none => none
  | none => none
def partsC (gl : Nat → Option (List AC)) (s : St) (wd : Nat) : List Opd → Option (List (List AC))
 | [] => some []
 | x :: r => match ev gl s x with
  | some v => match v.one with
   | some vc => if vc.length = wd then match partsC gl s wd r with | some l => some (vc :: l) | none => none else none
   | none => none
  | none => none
def frPartsC (s : St) : List (List AC) → (List (List AC) → St → Prop) → Prop
 | [], K => K [] s
 | c :: r, K => frCs s c fun c' s' => frPartsC s' r fun r' s'' => K (c' :: r') s''
def bnd (gl : Nat → Option (List AC)) (s : St) (n : Int) : Option Opd → Option Int
 | none => some n
 | some x => match ev gl s x with
  | some (.c (.int _ i)) => some i
  | _ => none
def elemsOf (s : St) (k0 : Option Nat) : AV → Option (Nat × Nat × (Nat → List AC))
 | .c (.sl wd n f) => some (wd, n, f)
 | .c (.ns (.sl wd n f)) => some (wd, n, f)
 | .c (.own k wd off len) => match s.h k with
  | some (.arr wd' n f _) => if wd = wd' then if k0 = some k then none else some (wd, len, shf f off) else none
  | _ => none
 | _ => none
def elemsB (s : St) : AV → Prop → Prop
 | .c (.own k _ off len), K => match s.h k with | some (.arr _ n _ _) => pl off len ≤ n ∧ K | _ => False
 | _, K => K
def callI (P : Program) (gl : Nat → Option (List AC)) (d : Option Nat) (f : FuncId) (vs : List AV) (v : AV) (s : St) (K : St → Prop) : Prop :=
 frVs s vs fun ds s' => FnOk P gl f ds v ∧ match v.isS with | true => K (s.pu d v) | false => K (s'.pu d v)
def AV.nclo : AV → Bool
 | .c (.clo _ (_ :: _)) => false
 | _ => true
def frMs (s : St) : List AV → (List AV → St → Prop) → Prop
 | [], K => K [] s
 | .c (.clo f cap) :: r, K => frF s (.clo f cap) fun c' s' => frMs s' r fun r' s'' => K (.c c' :: r') s''
 | v :: r, K => frMs s r fun r' s'' => K (v :: r') s''
def callM (P : Program) (gl : Nat → Option (List AC)) (d : Option Nat) (f : FuncId) (vs : List AV) (m : Mu) (s : St) (K : St → Prop) : Prop :=
 frMs s vs fun vs' s' => match mkH s' m.ks m.ks, chkM s' vs' m with
 | some H, true => FnMu P gl f (vs'.map (AV.rn (lkN m.ks))) H m.res m.H ∧ K ((s'.mu m).pu d (m.res.rn (lkN m.os)))
 | _, _ => False
def Step (P : Program) (gl : Nat → Option (List AC)) (d : Option Nat) : Ins → List Hint → St → (List Hint → St → Prop) → Prop
 | .mv x, hs, s, K => match ev gl s x with | some v => K hs (s.pu d v) | none => False
 | .pick c a b, hs, s, K => match ev gl s c, hs with
  | some (.c (.bool q)), .g v :: hs => q = v ∧ match v with
   | true => match ev gl s a with | some x => K hs (s.pu d x) | none => False
   | false => match ev gl s b with | some x => K hs (s.pu d x) | none => False
  | _, _ => False
 | .bin op x y, hs, s, K => match ev gl s x, ev gl s y with
  | some (.c (.int k a)), some (.c (.int k' b)) => if k = k' then match op with
   | .quo => b ≠ 0 ∧ K hs (s.pu d (.c (.int k (k.wrap (a.tdiv b)))))
   | .rem => b ≠ 0 ∧ K hs (s.pu d (.c (.int k (a.tmod b))))
   | op => match bI op k a b with | some c => K hs (s.pu d (.c c)) | none => False
   else False
  | some (.c (.str a)), some (.c (.str b)) => match op with
   | .add => a.length + b.length ≤ maxLen ∧ K hs (s.pu d (.c (.str (a ++ b))))
   | op => match bS op a b with | some c => K hs (s.pu d (.c c)) | none => False
  | _, _ => False
 | .bqe ng x y, hs, s, K => match ev gl s x, ev gl s y with
  | some (.c (.bool a)), some (.c (.bool b)) => K hs (s.pu d (.c (.bool (bif ng then !(a == b) else (a == b)))))
  | _, _ => False
 | .eqa ng ks x y, hs, s, K => match ev gl s x, ev gl s y with
  | some (.agg xs), some (.agg ys) => match eqCs ks xs ys with | some b => K hs (s.pu d (.c (.bool (bif ng then !b else b)))) | none => False
  | _, _ => False
 | .not x, hs, s, K => match ev gl s x with | some (.c (.bool b)) => K hs (s.pu d (.c (.bool (!b)))) | _ => False
 | .neg x, hs, s, K => match ev gl s x with | some (.c (.int k n)) => K hs (s.pu d (.c (.int k (k.wrap (0 - n))))) | _ => False
 | .conv k x, hs, s, K => match ev gl s x with | some (.c (.int _ n)) => K hs (s.pu d (.c (.int k (k.wrap n)))) | _ => False
 | .len x, hs, s, K => match ev gl s x with
  | some (.c (.sl _ n _)) => n ≤ maxLen → K hs (s.pu d (.c (.int .i64 n)))
  | some (.c (.own k wd _ n)) => match s.h k with | some (.arr wd' _ _ _) => if wd = wd' then n ≤ maxLen → K hs (s.pu d (.c (.int .i64 n))) else False | _ => False
  | some (.c .nil) => K hs (s.pu d (.c (.int .i64 0)))
  | some (.c (.lv (.sl _ n _))) => n ≤ maxLen → K hs (s.pu d (.c (.int .i64 n)))
  | some (.c (.old (.sl _ n _))) => n ≤ maxLen → K hs (s.pu d (.c (.int .i64 n)))
  | _ => False
 | .lens x, hs, s, K => match ev gl s x with
  | some (.c (.str l)) => K hs (s.pu d (.c (.int .i64 l.length)))
  | _ => False
 | .fld off w agg x, hs, s, K => match ev gl s x with
  | some (.agg xs) => match loadC xs off w agg with | some v => K hs (s.pu d v) | none => False
  | _ => False
 | .fad off x, hs, s, K => match ev gl s x with
  | some (.c (.pk k i)) => match s.h k with | some _ => K hs (s.pu d (.c (.pk k (i + off)))) | none => False
  | some (.c (.pd cs i)) => K hs (s.pu d (.c (.pd cs (i + off))))
  | some (.c (.pa k wd i o)) => match s.h k with | some _ => K hs (s.pu d (.c (.pa k wd i (o + off)))) | none => False
  | some (.c (.lp cs i)) => K hs (s.pu d (.c (.lp cs (i + off))))
  | _ => False
 | .iad wd x i, hs, s, K => match ev gl s x, ev gl s i, hs with
  | some (.c (.sl wd' n f)), some (.c (.int _ i)), .cs e :: hs => if wd = wd' then (0 ≤ i ∧ i < n) ∧ f i.toNat = e ∧ K hs (s.pu d (.c (.pd e 0))) else False
  | some (.c (.own k wd' off len)), some (.c (.int _ i)), .no :: hs => if wd = wd' then match s.h k with
   | some _ => (0 ≤ i ∧ i < len) ∧ K hs (s.pu d (.c (.pa k wd (pl off i.toNat) 0)))
   | none => False
   else False
  | some (.c (.lv (.sl wd' n f))), some (.c (.int _ i)), .cs e :: hs => if wd = wd' then (0 ≤ i ∧ i < n) ∧ f i.toNat = e ∧ K hs (s.pu d (.c (.lp e 0))) else False
  | _, _, _ => False
 | .iar n wd x i, hs, s, K => match ev gl s x, ev gl s i, hs with
  | some (.c (.pk k o)), some (.c (.int _ i)), .nat j :: hs => match s.h k with | some _ => (i = j ∧ j < n) ∧ K hs (s.pu d (.c (.pk k (o + j * wd)))) | none => False
  | some (.c (.pa k wd' e o)), some (.c (.int _ i)), .nat j :: hs => match s.h k with | some _ => (i = j ∧ j < n) ∧ K hs (s.pu d (.c (.pa k wd' e (o + j * wd)))) | none => False
  | some (.c (.pd cs o)), some (.c (.int _ i)), .nat j :: hs => (i = j ∧ j < n) ∧ K hs (s.pu d (.c (.pd cs (o + j * wd))))
  | some (.c (.pd cs o)), some (.c (.int _ i)), .cs e :: hs => (0 ≤ i ∧ i < n) ∧ (cs.drop (o + i.toNat * wd)).take wd = e ∧ K hs (s.pu d (.c (.pd e 0)))
  | _, _, _ => False
 | .load w agg x, hs, s, K => match ev gl s x with
  | some (.c (.pd cs i)) => match loadC cs i w agg with | some v => K hs (s.pu d v) | none => False
  | some (.c (.pk k i)) => match s.h k with
   | some (.var cs _) => match loadC cs i w agg with | some v => K hs (s.pu d v) | none => False
   | _ => False
  | some (.c (.pa k wd i o)) => match s.h k with
   | some (.arr wd' n f _) => if wd = wd' then i < n ∧ match loadC (f i) o w agg with | some v => K hs (s.pu d v) | none => False else False
   | _ => False
  | some (.c (.lp cs i)) => match loadL cs i w agg with | some v => K hs (s.pu d v) | none => False
  | _ => False
 | .store w a v, hs, s, K => match ev gl s a, ev gl s v with
  | some (.c (.pk k i)), some v => match s.h k, v.one with
   | some (.var cs false), some vc => if vc.length = w then if i + w ≤ cs.length then K hs (s.sh k (.var (setC cs i vc) false)) else False else False
   | _, _ => False
  | some (.c (.pa k wd i o)), some v => match s.h k, v.one, hs with
   | some (.arr wd' n f false), some vc, .fn _ f' :: hs => if wd = wd' then if vc.length = w then vc.all AC.isD = true ∧ i < n ∧ o + w ≤ wd ∧
     (∀ j, j < n → f' j = if j = i then setC (f i) o vc else f j) ∧ K hs (s.sh k (.arr wd n f' false)) else False else False
   | _, _, _ => False
  | some (.c (.lp cs i)), some (.c v) => match w, cs[i]? with | 1, some c => sameK c v = true ∧ K hs s | _, _ => False
  | _, _ => False
 | .build zero parts, hs, s, K => match buildC gl s zero parts with | some cs => K hs (s.pu d (.agg cs)) | none => False
 | .bsl wd parts, hs, s, K => match d, partsC gl s wd parts, hs with
  | some k, some ps, .fn n f' :: hs => match s.u.elem k with
   | false => frPartsC s ps fun qs s' => n = qs.length ∧ (∀ i, i < n → f' i = qs.getD i []) ∧ K hs ((s'.al k (.arr wd n f' false)).pu d (.c (.own k wd 0 n)))
   | true => False
  | _, _, _ => False
 | .msl wd bytes zero n, hs, s, K => match d, ev gl s n, hs with
  | some k, some (.c (.int _ m)), .fn n' f' :: hs => match s.u.elem k with
   | false => (0 ≤ m ∧ m.toNat = n' ∧ n' ≤ LIM) ∧ (∀ i, i < n' → f' i = zero) ∧ K hs ((s.al k (.arr wd n' f' false)).pu d (.c (.own k wd 0 n')))
   | true => False
  | _, _, _ => False
 | .box w x, hs, s, K => match d, ev gl s x with
  | some k, some v => match s.u.elem k, v.one with
   | false, some vc => if vc.length = w then K hs ((s.al k (.var vc false)).pu d (.c (.pk k 0))) else False
   | _, _ => False
  | _, _ => False
 | .alloc zero, hs, s, K => match d with
  | some k => match s.u.elem k with
   | false => K hs ((s.al k (.var zero false)).pu d (.c (.pk k 0)))
   | true => False
  | none => False
 | .slc wd x lo hi, hs, s, K => match ev gl s x, hs with
  | some (.c (.sl wd' n f)), .fn n' f' :: hs => match bnd gl s 0 lo, bnd gl s n hi with
   | some l, some h => if wd = wd' then (0 ≤ l ∧ l ≤ h ∧ h ≤ n) ∧ n' = (h - l).toNat ∧ (∀ i, i < n' → f' i = f (l.toNat + i)) ∧ K hs (s.pu d (.c (.sl wd n' f'))) else False
   | _, _ => False
  | some (.c (.own k wd' 0 n)), .fn n' f' :: hs => match bnd gl s 0 lo, bnd gl s n hi, s.h k with
   | some l, some h, some (.arr wd'' m f z) => if wd = wd' then if wd = wd'' then (0 ≤ l ∧ l ≤ h ∧ h ≤ n ∧ n ≤ m) ∧ n' = (h - l).toNat ∧ (∀ i, i < n' → f' i = f (l.toNat + i)) ∧
     K hs ((s.sh k (.arr wd m f true)).pu d (.c (.sl wd n' f'))) else False else False
   | _, _, _ => False
  | some (.c (.own k wd' 0 n)), .nat n' :: hs => match lo, bnd gl s n hi, s.h k with
   | none, some h, some (.arr _ _ _ _) => if wd = wd' then (0 ≤ h ∧ h ≤ n ∧ h.toNat = n') ∧ K hs (s.pu d (.c (.own k wd' 0 n'))) else False
   | some y, some h, some (.arr _ _ _ _) => match bnd gl s 0 (some y) with | some l => if wd = wd' then (0 ≤ l ∧ l < h ∧ h ≤ n ∧ (h - l).toNat = n') ∧ K hs (s.pu d (.c (.own k wd' l.toNat n'))) else False | none => False
   | _, _, _ => False
  | _, _ => False
 | .sls x lo hi, hs, s, K => match ev gl s x, hs with
  | some (.c (.str l)), .str l' :: hs => match bnd gl s 0 lo, bnd gl s l.length hi with
   | some i, some j => (0 ≤ i ∧ i ≤ j ∧ j ≤ l.length) ∧ l' = (l.drop i.toNat).take (j.toNat - i.toNat) ∧ K hs (s.pu d (.c (.str l')))
   | _, _ => False
  | _, _ => False
 | .app wd bytes x y, hs, s, K => match d, ev gl s x, ev gl s y, hs with
  | some kd, some (.c (.own k wd' 0 len)), some y, .fn n' f' :: hs => match s.u.elem kd, s.h k, elemsOf s (some k) y with
   | false, some (.arr wd'' n f false), some (wd3, m, g) => if wd = wd' then if wd = wd'' then if wd = wd3 then elemsB s y ((len ≤ n ∧ n' = len + m ∧ n' ≤ LIM) ∧
     (∀ i, i < len → f' i = f i) ∧ (∀ j, j < m → f' (len + j) = g j) ∧ K hs (((s.dr k).al kd (.arr wd n' f' false)).pu d (.c (.own kd wd 0 n')))) else False else False else False
   | _, _, _ => False
  | some kd, some (.c .nil), some y, .fn n' f' :: hs => match s.u.elem kd, elemsOf s none y with
   | false, some (wd3, m, g) => if wd = wd3 then elemsB s y ((n' = m ∧ n' ≤ LIM) ∧ (∀ j, j < m → f' j = g j) ∧ K hs ((s.al kd (.arr wd n' f' false)).pu d (.c (.own kd wd 0 n')))) else False
   | _, _ => False
  | _, _, _, _ => False
 | .call f xs, hs, s, K => match evs gl s xs, hs with
  | some vs, .res v :: hs => callI P gl d f vs v s (K hs)
  | some vs, .mu ks os r H :: hs => callM P gl d f vs ⟨ks, os, r, H⟩ s (K hs)
  | _, _ => False
 | .cald x xs, hs, s, K => match ev gl s x, evs gl s xs, hs with
  | some (.c (.clo f cap)), some vs, .res v :: hs => callI P gl d f (vs ++ cap.map .c) v s (K hs)
  | _, _, _ => False
 | .clo f xs, hs, s, K => match evs gl s xs with
  | some vs => match vs.mapM (fun v => match v with | .c (.clo ..) => none | .c x => some x | _ => none) with | some cap => K hs (s.pu d (.c (.clo f cap))) | none => False
  | none => False
 | .ext x i, hs, s, K => match ev gl s x with
  | some (.tup ps) => match ps[i]? with
   | some (false, [c]) => K hs (s.pu d (.c c))
   | some (true, cs) => K hs (s.pu d (.agg cs))
   | _ => False
  | _ => False
 | .ixs x i, hs, s, K => match ev gl s x, ev gl s i with
  | some (.c (.str l)), some (.c (.int _ i)) => (0 ≤ i ∧ i < l.length) ∧ K hs (s.pu d (.c (.int .u8 (l.getD i.toNat 0).toNat)))
  | _, _ => False
 | .b2s x, hs, s, K => match ev gl s x, hs with
  | some (.c (.own k 1 0 n)), .str l :: hs => match s.h k with
   | some (.arr 1 m f _) => n ≤ m ∧ l.length = n ∧ (∀ i, i < n → f i = [.int .u8 (l.getD i 0).toNat]) ∧ K hs (s.pu d (.c (.str l)))
   | _ => False
  | _, _ => False
 | .mx mx x y, hs, s, K => match ev gl s x, ev gl s y with
  | some (.c (.int k a)), some (.c (.int k' b)) => if k = k' then K hs (s.pu d (.c (.int k (bif mx then (if b > a then b else a) else (if b < a then b else a))))) else False
  | _, _ => False
 | .nck x, hs, s, K => match ev gl s x with
  | some (.c (.pk k i)) => match s.h k with | some _ => K hs (s.pu d (.c (.pk k i))) | none => False
  | some (.c (.pa k wd i o)) => match s.h k with | some _ => K hs (s.pu d (.c (.pa k wd i o))) | none => False
  | some (.c (.pd cs i)) => K hs (s.pu d (.c (.pd cs i)))
  | _ => False
 | .isn ng x, hs, s, K => match ev gl s x with
  | some (.c .nil) => K hs (s.pu d (.c (.bool (!ng))))
  | some (.c (.ns (.sl _ _ _))) => K hs (s.pu d (.c (.bool ng)))
  | _ => False
 | .cpy x y, hs, s, K => match ev gl s x, ev gl s y, hs with
  | some (.c (.own k 1 off len)), some y, .fn n' f' :: hs => match s.h k, elemsOf s none y with
   | some (.arr 1 n f false), some (1, m, g) => elemsB s y ((0 < n' ∧ n' = Nat.min m len ∧ off + len ≤ n) ∧ (∀ i, i < n → f' i = if off ≤ i ∧ i < off + n' then g (i - off) else f i) ∧ K hs ((s.sh k (.arr 1 n f' false)).pu d (.c (.int .i64 n'))))
   | _, _ => False
  | _, _, _ => False
def SegP (P : Program) (gl : Nat → Option (List AC)) : List IOp → List Hint → St → (List Hint → St → Prop) → Prop
 | [], hs, s, K => K hs s
 | o :: r, hs, s, K => match o.g with
  | none => Step P gl o.d o.i hs s fun hs' s' => SegP P gl r hs' s' K
  | some (t, b) => match s.e t, hs with
   | some (.c (.bool c)), .g v :: hs => c = v ∧ match v, b with
    | true, true | false, false => Step P gl o.d o.i hs s fun hs' s' => SegP P gl r hs' s' K
    | _, _ => SegP P gl r hs (s.pu o.d (.tup [])) K
   | some (.tup _), hs => SegP P gl r hs (s.pu o.d (.tup [])) K
   | _, _ => False
def AC.nclo : AC → Bool
 | .clo .. => false
 | _ => true
structure Eff where
 v : Option AV
 n : List (Nat × Blk)
def St.eff (s : St) (d : Option Nat) (x : Eff) : St :=
 {e := fun t => match d with | some d => bif Nat.beq t d then x.v else s.e t | none => s.e t
  h := fun k => match lkB k x.n with | some b => some b | none => s.h k
  u := x.n.map (·.1) ++ s.u }
def callD (P : Program) (gl : Nat → Option (List AC)) (d : Option Nat) (f : FuncId) (vs : List AV) (v : AV) (s : St) (K : St → Prop) : Prop :=
 frVs s vs fun ds _ => FnOk P gl f ds v ∧ (match v.isS with | true => True | false => vs.flatMap AV.keys = []) ∧ v.keys = [] ∧ K (s.pu d v)
def StepD (P : Program) (gl : Nat → Option (List AC)) (d : Option Nat) : Ins → List Hint → St → (List Hint → St → Prop) → Prop
 | .mv x, hs, s, K => Step P gl d (.mv x) hs s K
 | .pick a b c, hs, s, K => Step P gl d (.pick a b c) hs s K
 | .bin a b c, hs, s, K => Step P gl d (.bin a b c) hs s K
 | .bqe a b c, hs, s, K => Step P gl d (.bqe a b c) hs s K
 | .eqa a ks b c, hs, s, K => Step P gl d (.eqa a ks b c) hs s K
 | .not x, hs, s, K => Step P gl d (.not x) hs s K
 | .neg x, hs, s, K => Step P gl d (.neg x) hs s K
 | .conv k x, hs, s, K => Step P gl d (.conv k x) hs s K
 | .len x, hs, s, K => match ev gl s x with
  | some (.c (.sl _ n _)) => K hs (s.pu d (.c (.int .i64 n)))
  | some (.c (.own k wd _ n)) => match s.h k with | some (.arr wd' _ _ _) => if wd = wd' then K hs (s.pu d (.c (.int .i64 n))) else False | _ => False
  | some (.c .nil) => K hs (s.pu d (.c (.int .i64 0)))
  | some (.c (.lv (.sl _ n _))) => K hs (s.pu d (.c (.int .i64 n)))
  | some (.c (.old (.sl _ n _))) => K hs (s.pu d (.c (.int .i64 n)))
  | _ => False
 | .lens x, hs, s, K => Step P gl d (.lens x) hs s K
 | .fld a b c x, hs, s, K => Step P gl d (.fld a b c x) hs s K
 | .fad a x, hs, s, K => Step P gl d (.fad a x) hs s K
 | .iad a x i, hs, s, K => Step P gl d (.iad a x i) hs s K
 | .b2s x, hs, s, K => Step P gl d (.b2s x) hs s K
 | .iar a b x i, hs, s, K => Step P gl d (.iar a b x i) hs s K
 | .load w agg x, hs, s, K => match ev gl s x with
  | some (.c (.pd cs i)) => match loadC cs i w agg with | some v => v.keys = [] ∧ K hs (s.pu d v) | none => False
  | some (.c (.pk k i)) => match s.h k with
   | some (.var cs _) => match loadC cs i w agg with | some v => K hs (s.pu d v) | none => False
   | _ => False
  | some (.c (.pa k wd i o)) => match s.h k with
   | some (.arr wd' n f _) => if wd = wd' then i < n ∧ match loadC (f i) o w agg with | some v => v.keys = [] ∧ K hs (s.pu d v) | none => False else False
   | _ => False
  | some (.c (.lp cs i)) => match loadL cs i w agg with | some v => K hs (s.pu d v) | none => False
  | _ => False
 | .sls x lo hi, hs, s, K => Step P gl d (.sls x lo hi) hs s K
 | .ext x i, hs, s, K => Step P gl d (.ext x i) hs s K
 | .ixs x i, hs, s, K => Step P gl d (.ixs x i) hs s K
 | .mx a x y, hs, s, K => Step P gl d (.mx a x y) hs s K
 | .nck x, hs, s, K => Step P gl d (.nck x) hs s K
 | .isn a x, hs, s, K => Step P gl d (.isn a x) hs s K
 | .build z ps, hs, s, K => Step P gl d (.build z ps) hs s K
 | .bsl wd parts, hs, s, K => match d, partsC gl s wd parts, hs with
  | some k, some ps, .no :: .fn n f' :: hs => match s.u.elem k with
   | false => n = ps.length ∧ (ps.all fun p => p.all AC.isD) = true ∧ (∀ i, i < n → f' i = ps.getD i []) ∧ K hs (s.eff (some k) ⟨some (.c (.own k wd 0 n)), [(k, .arr wd n f' false)]⟩)
   | true => False
  | some k, some ps, .fn n f' :: hs => match s.u.elem k with
   | false => n = ps.length ∧ (ps.all fun p => p.all AC.isD) = true ∧ (∀ i, i < n → f' i = ps.getD i []) ∧ K hs (s.eff (some k) ⟨some (.c (.sl wd n f')), []⟩)
   | true => False
  | _, _, _ => False
 | .msl wd bytes zero n, hs, s, K => match d, ev gl s n, hs with
  | some k, some (.c (.int _ m)), .no :: .fn n' f' :: hs => match s.u.elem k with
   | false => (0 ≤ m ∧ m.toNat = n' ∧ n' ≤ LIM) ∧ (∀ i, i < n' → f' i = zero) ∧ K hs (s.eff (some k) ⟨some (.c (.own k wd 0 n')), [(k, .arr wd n' f' false)]⟩)
   | true => False
  | some k, some (.c (.int _ m)), .fn n' f' :: hs => match s.u.elem k with
   | false => (0 ≤ m ∧ m.toNat = n' ∧ n' ≤ LIM) ∧ (∀ i, i < n' → f' i = zero) ∧ K hs (s.eff (some k) ⟨some (.c (.sl wd n' f')), []⟩)
   | true => False
  | _, _, _ => False
 | .alloc zero, hs, s, K => match d with
  | some k => match s.u.elem k with
   | false => K hs (s.eff (some k) ⟨some (.c (.pk k 0)), [(k, .var zero false)]⟩)
   | true => False
  | none => False
 | .call f xs, hs, s, K => match evs gl s xs, hs with
  | some vs, .res v :: hs => callD P gl d f vs v s (K hs)
  | _, _ => False
 | .cald x xs, hs, s, K => match ev gl s x, evs gl s xs, hs with
  | some (.c (.clo f cap)), some vs, .res v :: hs => match cap.all AC.nclo with | true => callD P gl d f (vs ++ cap.map .c) v s (K hs) | false => False
  | _, _, _ => False
 | _, _, _, _ => False
def StepG (P : Program) (gl : Nat → Option (List AC)) (o : IOp) (hs : List Hint) (s : St) (K : List Hint → St → Prop) : Prop :=
 match o.g with
 | none => StepD P gl o.d o.i hs s K
 | some (t, b) => match s.e t, hs with
  | some (.c (.bool c)), .g v :: hs => c = v ∧ match v, b with
   | true, true | false, false => StepD P gl o.d o.i hs s K
   | _, _ => K hs (s.pu o.d (.tup []))
  | some (.tup _), hs => K hs (s.pu o.d (.tup []))
  | _, _ => False
def cV : Value → Option Opd
 | .int k n => some (.v (.int k n))
 | .bool b => some (.v (.bool b))
 | .string s => some (.v (.str s.data.toList))
 | .slice none 0 0 => some (.v .nil)
 | .nilIface => some (.v (.raw .nilIface))
 | .nilFunc => some (.v (.raw .nilFunc))
 | .pointer none => some (.v (.raw (.pointer none)))
 | _ => none
def cO : Operand → Option Opd
 | .tmp t => some (.t t)
 | .const v => cV v
 | .global g => some (.g g)
 | .func f => some (.f f)
def cOs (xs : Array Operand) : Option (List Opd) := xs.toList.mapM cO
def cOo : Option Operand → Option (Option Opd)
 | none => some none
 | some y => (cO y).map some
def aggT (P : Program) (t : TypeId) : Option Bool :=
 match P.underlying t with
 | some (.struct _) | some (.array _ _) => some true
 | some _ => some false
 | none => none
def zeroC (P : Program) (t : TypeId) : Option (List AC) :=
 match P.info? t with
 | some i => match i.zero with
  | some v => v.cells.toList.mapM fun x => match cV x with | some (.v c) => some c | _ => none
  | none => none
 | none => none
def selS (P : Program) (fs : Array Field) (p : Nat × Operand) : Option (Nat × Nat × Opd) :=
 match fs[p.1]?, cO p.2 with
 | some f, some x => if (P.info? f.type).isSome then some (f.offset, P.cellsOf f.type, x) else none
 | _, _ => none
def selA (P : Program) (e : TypeId) (p : Nat × Operand) : Option (Nat × Nat × Opd) := (cO p.2).map fun x => (p.1 * P.cellsOf e, P.cellsOf e, x)
def kindT (P : Program) (t : TypeId) : Option Nat :=
 match P.underlying t with
 | some .bool => some 0
 | some (.int _) => some 1
 | some .string => some 2
 | _ => none
def flatK (P : Program) : Nat → List Field → Option (List Nat)
 | _, [] => some []
 | i, f :: r => match f.name == "_", f.offset == i, kindT P f.type, flatK P (i + 1) r with
  | false, true, some k, some l => some (k :: l)
  | _, _, _, _ => none
def eqT (P : Program) (t : TypeId) (fs : Array Field) : Option (List Nat) :=
 match P.stoodInHeld t, P.eqGuardType P.depth t with
 | false, false => flatK P 0 fs.toList
 | _, _ => none
def compI (P : Program) (o : Oper) : Option Ins :=
 match o.op with
 | .move x | .assign x => (cO x).map .mv
 | .pick c a b => do some (.pick (← cO c) (← cO a) (← cO b))
 | .binOp op t x y _ => do
  let x ← cO x
  let y ← cO y
  match P.underlying t, op with
  | some .bool, .eql => some (.bqe false x y)
  | some .bool, .neq => some (.bqe true x y)
  | some (.struct fs), .eql => (eqT P t fs).map fun ks => .eqa false ks x y
  | some (.struct fs), .neq => (eqT P t fs).map fun ks => .eqa true ks x y
  | some (.int _), _ | some .string, _ => some (.bin op x y)
  | some (.slice _), .eql => match y with | .v .nil => some (.isn false x) | _ => none
  | some (.slice _), .neq => match y with | .v .nil => some (.isn true x) | _ => none
  | _, _ => none
 | .unOp .not _ x => (cO x).map .not
 | .unOp .neg _ x => (cO x).map .neg
 | .convert src dst x => do
  let x ← cO x
  match P.underlying src, P.underlying dst with
  | some (.int _), some (.int k) => some (.conv k x)
  | some (.slice e), some .string => match P.underlying e with | some (.int .u8) => some (.b2s x) | _ => none
  | _, _ => none
 | .field t x i => do
  let x ← cO x
  match P.underlying t with
  | some (.struct fs) => match fs[i]? with
   | some f => match aggT P f.type with
    | some g => if (P.info? f.type).isSome then some (.fld f.offset (P.cellsOf f.type) g x) else none
    | none => none
   | none => none
  | _ => none
 | .fieldAddr t x i => do
  let x ← cO x
  match P.underlying t with
  | some (.struct fs) => match fs[i]? with
   | some f => if P.cellsOf f.type = 0 then none else some (.fad f.offset x)
   | none => none
  | _ => none
 | .indexAddr t x i => do
  let x ← cO x
  let i ← cO i
  match P.underlying t with
  | some (.slice e) => if P.cellsOf e = 0 then none else some (.iad (P.cellsOf e) x i)
  | some (.array n e) => if P.cellsOf e = 0 then none else some (.iar n (P.cellsOf e) x i)
  | _ => none
 | .index t x i => do
  let x ← cO x
  let i ← cO i
  match P.underlying t with
  | some .string => some (.ixs x i)
  | _ => none
 | .load t x => do
  let x ← cO x
  match aggT P t with
  | some g => if (P.info? t).isSome then some (.load (P.cellsOf t) g x) else none
  | none => none
 | .store t a v => do
  let a ← cO a
  let v ← cO v
  if (P.info? t).isSome ∧ o.dst.isNone then some (.store (P.cellsOf t) a v) else none
 | .build t parts => do
  let z ← zeroC P t
  match P.underlying t with
  | some (.struct fs) => if fs.all fun f => (P.info? f.type).isSome then (parts.toList.mapM (selS P fs)).map (.build z) else none
  | some (.array _ e) => if (P.info? e).isSome then (parts.toList.mapM (selA P e)).map (.build z) else none
  | _ => none
 | .buildSlice t len parts => do
  match P.underlying t with
  | some (.slice e) => do
   let z ← zeroC P e
   let ps ← parts.toList.mapM fun p => cO p.2
   if parts.toList.map (·.1) = List.range len ∧ P.cellsOf e ≠ 0 ∧ len * P.cellsOf e ≤ 2 ^ 24 ∧ z.length = P.cellsOf e then some (.bsl (P.cellsOf e) ps) else none
  | _ => none
 | .makeSlice t l c => do
  let l ← cO l
  let c ← cO c
  match P.underlying t with
  | some (.slice e) => do
   let z ← zeroC P e
   if P.cellsOf e ≠ 0 ∧ P.bytesOf e ≤ 1024 ∧ z.length = P.cellsOf e then
    (match l, c with
    | .t i, .t j => if i = j then some (.msl (P.cellsOf e) (P.bytesOf e) z l) else none
    | .v (.int .i64 i), .v (.int .i64 j) => if i = j then some (.msl (P.cellsOf e) (P.bytesOf e) z l) else none
    | _, _ => none)
   else none
  | _ => none
 | .alloc e => (zeroC P e).map .alloc
 | .box e x => do
  let x ← cO x
  some (.box (P.cellsOf e) x)
 | .slice t x lo hi none => do
  let x ← cO x
  let lo ← cOo lo
  let hi ← cOo hi
  match P.underlying t with
  | some .string => some (.sls x lo hi)
  | some (.slice e) => if P.cellsOf e = 0 then none else some (.slc (P.cellsOf e) x lo hi)
  | _ => none
 | .makeFunc (.func f) first captured => do
  let xs ← cOs captured
  if first.size = 0 then some (.clo f xs) else none
 | .extract x i => (cO x).map (.ext · i)
 | .nilCheck x => (cO x).map .nck
 | .call c => do
  let xs ← cOs c.args
  match c.callee with
  | .value (.func f) => some (.call f xs)
  | .value (.tmp t) => some (.cald (.t t) xs)
  | .builtin .len => match xs, (c.argTypes[0]?).bind P.underlying with
   | [x], some .string => some (.lens x)
   | [x], some (.slice _) => some (.len x)
   | _, _ => none
  | .builtin .append => match xs, c.argTypes.toList with
   | [x, y], [t, t'] => match P.underlying t with
    | some (.slice e) => do
     let z ← zeroC P e
     if t = t' ∧ P.cellsOf e ≠ 0 ∧ P.bytesOf e ≤ 1024 ∧ z.length = P.cellsOf e then some (.app (P.cellsOf e) (P.bytesOf e) x y) else none
    | _ => none
   | _, _ => none
  | .builtin .copy => match xs, c.argTypes.toList with
   | [x, y], [t, _] => match P.underlying t with
    | some (.slice e) => if (P.info? e).map (·.size) = some 1 then some (.cpy x y) else none
    | _ => none
   | _, _ => none
  | .builtin .max => match xs with | [x, y] => some (.mx true x y) | _ => none
  | .builtin .min => match xs with | [x, y] => some (.mx false x y) | _ => none
  | _ => none
 | _ => none
def rdO : Opd → List Nat
 | .t n => [n]
 | _ => []
def opsI : Ins → List Opd
 | .mv x | .not x | .neg x | .conv _ x | .len x | .lens x | .fld _ _ _ x | .fad _ x | .load _ _ x | .ext x _ | .msl _ _ _ x | .nck x | .isn _ x | .b2s x => [x]
 | .pick a b c => [a, b, c]
 | .bin _ x y | .bqe _ x y | .eqa _ _ x y | .iad _ x y | .iar _ _ x y | .ixs x y | .mx _ x y => [x, y]
 | .sls x lo hi => x :: (lo.toList ++ hi.toList)
 | .bsl _ ps => ps
 | .build _ ps => ps.map (·.2.2)
 | .call _ xs => xs
 | .cald x xs => x :: xs
 | _ => []
def opsG (o : IOp) : List Opd := opsI o.i ++ (match o.g with | some (t, _) => [.t t] | none => [])
def Opd.kf : Opd → Bool
 | .v c => c.keys.isEmpty
 | .a cs => (cs.flatMap AC.keys).isEmpty
 | _ => true
def guardOf (ops : Array Oper) : Option (Nat × Bool) → Option (Option (Nat × Bool))
 | none => some none
 | some (j, b) => match ops[j]? with
  | some o => match o.dst with
   | some t => some (some (t, b))
   | none => none
  | none => none
def compO (P : Program) (N : Nat) (ops : Array Oper) (o : Oper) : Option IOp :=
 match compI P o, guardOf ops o.guard with
 | some i, some g => match o.dst with
  | some d => if d < N then some ⟨some d, i, g⟩ else none
  | none => some ⟨none, i, g⟩
 | _, _ => none
def isPureI : Ins → Bool
 | .mv _ | .pick .. | .bin .. | .bqe .. | .eqa .. | .not _ | .neg _ | .conv .. | .len _ | .lens _ | .fld .. | .fad .. | .iad .. | .iar .. | .load .. | .sls .. | .ext .. | .ixs .. | .mx .. | .nck .. | .isn .. | .bsl .. | .call .. | .cald .. => true
 | .msl _ _ z _ => (z.flatMap AC.keys).isEmpty && z.all AC.isD
 | .build z _ | .alloc z => (z.flatMap AC.keys).isEmpty
 | _ => false
def edgeOn (o : Oper) (j : Nat) : Bool := o.after.toList.any fun e => e.on == j && Region.binds .any e
def opsX : Ins → List Opd
 | .store _ a v => [a, v]
 | .app _ _ x y => [x, y]
 | .cpy x y => [x, y]
 | .slc _ x lo hi => x :: (lo.toList ++ hi.toList)
 | i => opsI i
def opsXG (o : IOp) : List Opd := opsX o.i ++ (match o.g with | some (t, _) => [.t t] | none => [])
def isPart : Ins → Bool
 | .store .. | .app .. | .slc .. | .b2s _ | .cpy .. => true
 | i => isPureI i
def dirE (o : Oper) : List Nat := (o.after.toList.filter fun e => Region.binds .any e).map (·.on)
def maskE (A : List Nat) (o : Oper) : Nat := (dirE o).foldl (fun m l => m ||| (2 ^ l ||| A.getD l 0)) 0
def ancs : List Oper → List Nat → List Nat
 | [], A => A
 | o :: r, A => ancs r (A ++ [maskE A o])
def ancB (ops : Array Oper) (i j : Nat) : Bool := ((ancs ops.toList []).getD i 0).testBit j
def unP (ops : Array Oper) : List (Nat × Nat) :=
 (List.range ops.size).flatMap fun i => ((List.range i).filter fun j => !ancB ops i j).map fun j => (j, i)
def okDraw2 (ops : Array Oper) (ios : List IOp) : Bool :=
 decide (ios.length = ops.size) &&
 (List.range ios.length).all fun i =>
  match ios[i]?, ops[i]? with
  | some oi, some pi =>
   pi.after.toList.all (fun e => !Region.binds .any e || decide (e.on < i)) &&
   ((match oi.d with | some t => Nat.blt t 1000 | none => true) && (isPart oi.i && (opsX oi.i).all Opd.kf) &&
    (List.range ios.length).all fun j =>
     match ios[j]? with
     | some oj => match oj.d with
      | some t => i == j || (oi.d != oj.d && (!((opsXG oi).flatMap rdO).elem t || (if j < i then ancB ops i j else ancB ops j i)))
      | none => true
     | none => false)
  | _, _ => false
inductive S where
 | skip
 | ops (l : List IOp)
 | drw (un : List (Nat × Nat)) (l : List IOp)
 | seq (a b : S)
 | ite (c : Opd) (a b : S)
 | blk (id : Nat) (b : S)
 | loop (b : S)
 | exit (id : Nat)
 | ret
 | bad
def comp (P : Program) (N : Nat) : Code → Option S
 | .skip => some .skip
 | .region _ ops draw => match ops.toList.mapM (compO P N ops) with
  | some ios => match draw with
   | false => some (.ops ios)
   | true => if okDraw2 ops ios = true ∧ P.follows .mixedOrders = true then some (.drw (unP ops) ios) else some .bad
  | none => some .bad
 | .seq a b => match comp P N a, comp P N b with | some x, some y => some (.seq x y) | _, _ => none
 | .cond c a b => match cO c, comp P N a, comp P N b with | some c, some x, some y => some (.ite c x y) | _, _, _ => none
 | .block id b => (comp P N b).map (.blk id)
 | .loop b => (comp P N b).map .loop
 | .exit id => some (.exit id)
 | .ret => some .ret
 | _ => some .bad
section
variable {P : Program} {gl : Nat → Option (List AC)} {N : Nat} {w0 : Wk} {Pr : PrT} {φ : Nat → Option (Option Nat)} {s : St} {a : Act} {w : World}
def After (gl : Nat → Option (List AC)) (N : Nat) (w0 : Wk) (Pr : PrT) (K : List Hint → St → Prop) (next : Act → World → Prop) : Prop :=
 ∀ hs' s' Pr' φ' a' w', K hs' s' → Sim gl N w0 Pr' φ' s' a' w' → PrS w0 gl Pr Pr' → next a' w'
theorem Sim.pu (h : Sim gl N w0 Pr φ s a w) {d : Option Nat} {v : AV} {x : Value} (hd : ∀ t, d = some t → t < N) (hv : VR (KR Pr φ w) v x) (hk : ∀ k ∈ v.keys, k ∈ s.u) :
  Sim gl N w0 Pr φ (s.pu d v) (a.put d x) w := by
 cases d with
 | none => exact h
 | some d => exact h.put (hd d rfl) hv hk
theorem Sim.eval_tmp (h : Sim gl N w0 Pr φ s a w) {t : Nat} {v : AV} (hv : s.e t = some v) : VR (KR Pr φ w) v (a.eval (.tmp t)) ∧ ∀ k ∈ v.keys, k ∈ s.u := by
 obtain ⟨x, h1, h2⟩ := h.tm t v hv
 exact ⟨by simpa [Act.eval, Array.getD, Array.getElem?_eq_some_iff.1 h1 |>.choose_spec, (Array.getElem?_eq_some_iff.1 h1).choose] using h2, h.ke t v hv⟩
theorem cV_sound {v : Value} {y : Opd} {u : AV} (hc : cV v = some y) (hv : ev gl s y = some u) : VR (KR Pr φ w) u v ∧ ∀ k ∈ u.keys, k ∈ s.u := by
 unfold cV at hc
 split at hc <;> first | cases hc | skip
 all_goals (simp only [ev, Option.some.injEq] at hv; subst hv)
 ·exact ⟨DR.int .., by simp [AV.keys, AC.keys, AC.keys0]⟩
 ·exact ⟨DR.bool .., by simp [AV.keys, AC.keys, AC.keys0]⟩
 ·rename_i s'
  refine ⟨?_, by simp [AV.keys, AC.keys, AC.keys0]⟩
  have := DR.str (Pr := Pr) (w := w) s'.data.toList
  rw [Array.toArray_toList] at this
  exact this
 ·exact ⟨DR.nil, by simp [AV.keys, AC.keys, AC.keys0]⟩
 ·exact ⟨DR.raw _ rfl, by simp [AV.keys, AC.keys, AC.keys0]⟩
 ·exact ⟨DR.raw _ rfl, by simp [AV.keys, AC.keys, AC.keys0]⟩
 ·exact ⟨DR.raw _ rfl, by simp [AV.keys, AC.keys, AC.keys0]⟩
theorem ev_sound (h : Sim gl N w0 Pr φ s a w) {x : Operand} {y : Opd} {v : AV} (hc : cO x = some y) (hv : ev gl s y = some v) :
  VR (KR Pr φ w) v (a.eval x) ∧ ∀ k ∈ v.keys, k ∈ s.u := by
 cases x with
 | tmp t => simp only [cO, Option.some.injEq] at hc; subst hc; exact h.eval_tmp hv
 | const c => exact cV_sound hc hv
 | global g =>
  simp only [cO, Option.some.injEq] at hc; subst hc
  simp only [ev] at hv
  cases hg : gl g with
  | none => rw [hg] at hv; cases hv
  | some cs =>
   rw [hg] at hv
   simp only [Option.some.injEq] at hv
   subst hv
   exact ⟨(KR.of_dr (φ := φ) ((h.gk g cs hg).1.mono (.of_old _) fun _ _ => rfl)).1, by simp [AV.keys, AC.keys, AC.keys0]⟩
 | func f =>
  simp only [cO, Option.some.injEq] at hc; subst hc
  simp only [ev, Option.some.injEq] at hv
  subst hv
  exact ⟨⟨fun _ => undef, by simp [Act.eval], by simp⟩, by simp [AV.keys, AC.keys, AC.keys0]⟩
theorem fin_value {o : Oper} {x : Value} {v : AV} {hs : List Hint} {K : List Hint → St → Prop} {next : Act → World → Prop} {Q : Exit → Act → World → Prop}
  (h : Sim gl N w0 Pr φ s a w) (hd : ∀ t, o.dst = some t → t < N) (hrun : (execOp a.eval o).run P w = .ok (.value x) w) (hv : VR (KR Pr φ w) v x) (hk : ∀ k ∈ v.keys, k ∈ s.u)
  (hK : K hs (s.pu o.dst v)) (ha : After gl N w0 Pr K next) : o.wp P a w next Q := by
 unfold Oper.wp
 rw [hrun]
 exact ha _ _ _ _ _ _ hK (h.pu hd hv hk) (PrS.refl _ _)
theorem VR.int_inv {k : IntKind} {n : Int} {x : Value} (h : VR (KR Pr φ w) (.c (.int k n)) x) : x = .int k n := by cases h; rfl
theorem VR.bool_inv {b : Bool} {x : Value} (h : VR (KR Pr φ w) (.c (.bool b)) x) : x = .bool b := by cases h; rfl
theorem VR.str_inv {l : List UInt8} {x : Value} (h : VR (KR Pr φ w) (.c (.str l)) x) : x = .string ⟨l.toArray⟩ := by cases h; rfl
theorem VR.mkInt (k : IntKind) (n : Int) : VR (KR Pr φ w) (.c (.int k n)) (.int k n) := DR.int k n
theorem VR.mkBool (b : Bool) : VR (KR Pr φ w) (.c (.bool b)) (.bool b) := DR.bool b
theorem VR.mkStr (l : List UInt8) : VR (KR Pr φ w) (.c (.str l)) (.string ⟨l.toArray⟩) := DR.str l
theorem nokeys_int (k : IntKind) (n : Int) (u : List Nat) : ∀ j ∈ (AV.c (.int k n)).keys, j ∈ u := by simp [AV.keys, AC.keys, AC.keys0]
theorem nokeys_bool (b : Bool) (u : List Nat) : ∀ j ∈ (AV.c (.bool b)).keys, j ∈ u := by simp [AV.keys, AC.keys, AC.keys0]
theorem nokeys_str (l : List UInt8) (u : List Nat) : ∀ j ∈ (AV.c (.str l)).keys, j ∈ u := by simp [AV.keys, AC.keys, AC.keys0]
theorem step_mv {o : Oper} {x : Operand} {y : Opd} {hs : List Hint} {K : List Hint → St → Prop} {next : Act → World → Prop} {Q : Exit → Act → World → Prop}
  (ho : o.op = .move x ∨ o.op = .assign x) (hx : cO x = some y)
  (h : Sim gl N w0 Pr φ s a w) (hd : ∀ t, o.dst = some t → t < N) (hst : Step P gl o.dst (.mv y) hs s K) (ha : After gl N w0 Pr K next) : o.wp P a w next Q := by
 simp only [Step] at hst
 split at hst
 ·rename_i v hv
  obtain ⟨h1, h2⟩ := ev_sound h hx hv
  exact fin_value h hd (by rcases ho with ho | ho <;> simp [execOp, ho, Sem.run, pure]) h1 h2 hst ha
 ·exact hst.elim
theorem step_pick {o : Oper} {c x y : Operand} {c' x' y' : Opd} {hs : List Hint} {K : List Hint → St → Prop} {next : Act → World → Prop} {Q : Exit → Act → World → Prop}
  (ho : o.op = .pick c x y) (hc : cO c = some c') (hx : cO x = some x') (hy : cO y = some y')
  (h : Sim gl N w0 Pr φ s a w) (hd : ∀ t, o.dst = some t → t < N) (hst : Step P gl o.dst (.pick c' x' y') hs s K) (ha : After gl N w0 Pr K next) : o.wp P a w next Q := by
 simp only [Step] at hst
 split at hst
 ·rename_i q v hs' hcv
  obtain ⟨rfl, hst⟩ := hst
  have hb := (ev_sound h hc hcv).1.bool_inv
  cases q with
  | true =>
   simp only at hst
   split at hst
   ·rename_i v hv
    obtain ⟨h1, h2⟩ := ev_sound h hx hv
    exact fin_value h hd (by simp [execOp, ho, hb, asBool, Sem.run_bind, Result.andThen]) h1 h2 hst ha
   ·exact hst.elim
  | false =>
   simp only at hst
   split at hst
   ·rename_i v hv
    obtain ⟨h1, h2⟩ := ev_sound h hy hv
    exact fin_value h hd (by simp [execOp, ho, hb, asBool, Sem.run_bind, Result.andThen]) h1 h2 hst ha
   ·exact hst.elim
 ·exact hst.elim
end
section
variable {P : Program} {gl : Nat → Option (List AC)} {N : Nat} {w0 : Wk} {Pr : PrT} {φ : Nat → Option (Option Nat)} {s : St} {a : Act} {w : World}
 {o : Oper} {hs : List Hint} {K : List Hint → St → Prop} {next : Act → World → Prop} {Q : Exit → Act → World → Prop}
theorem guard_int (op : BinOp) (t : TypeId) (x y : Operand) (k k' : IntKind) (n m : Int) : (eqGuard op t x y (.int k n) (.int k' m)).run P w = .ok () w := by
 unfold eqGuard; split <;> simp
theorem guard_bool (op : BinOp) (t : TypeId) (x y : Operand) (n m : Bool) : (eqGuard op t x y (.bool n) (.bool m)).run P w = .ok () w := by
 unfold eqGuard; split <;> simp
theorem guard_str (op : BinOp) (t : TypeId) (x y : Operand) (n m : ByteArray) : (eqGuard op t x y (.string n) (.string m)).run P w = .ok () w := by
 unfold eqGuard; split <;> simp
theorem fin_int {k : IntKind} {n : Int} (h : Sim gl N w0 Pr φ s a w) (hd : ∀ t, o.dst = some t → t < N) (hrun : (execOp a.eval o).run P w = .ok (.value (.int k n)) w)
  (hK : K hs (s.pu o.dst (.c (.int k n)))) (ha : After gl N w0 Pr K next) : o.wp P a w next Q := fin_value h hd hrun (.mkInt k n) (nokeys_int k n s.u) hK ha
theorem fin_bool {b : Bool} (h : Sim gl N w0 Pr φ s a w) (hd : ∀ t, o.dst = some t → t < N) (hrun : (execOp a.eval o).run P w = .ok (.value (.bool b)) w)
  (hK : K hs (s.pu o.dst (.c (.bool b)))) (ha : After gl N w0 Pr K next) : o.wp P a w next Q := fin_value h hd hrun (.mkBool b) (nokeys_bool b s.u) hK ha
theorem fin_str {l : List UInt8} (h : Sim gl N w0 Pr φ s a w) (hd : ∀ t, o.dst = some t → t < N) (hrun : (execOp a.eval o).run P w = .ok (.value (.string ⟨l.toArray⟩)) w)
  (hK : K hs (s.pu o.dst (.c (.str l)))) (ha : After gl N w0 Pr K next) : o.wp P a w next Q := fin_value h hd hrun (.mkStr l) (nokeys_str l s.u) hK ha
theorem ba_toList (l : List UInt8) : (⟨l.toArray⟩ : ByteArray).toList = l := by rw [ByteArray.toList_eq]
theorem ba_append (l m : List UInt8) : (⟨l.toArray⟩ ++ ⟨m.toArray⟩ : ByteArray) = ⟨(l ++ m).toArray⟩ := by
 apply ByteArray.ext; simp
theorem step_bin {op : BinOp} {t t' : TypeId} {x y : Operand} {x' y' : Opd}
  (ho : o.op = .binOp op t x y t') (hx : cO x = some x') (hy : cO y = some y')
  (h : Sim gl N w0 Pr φ s a w) (hd : ∀ t, o.dst = some t → t < N) (hst : Step P gl o.dst (.bin op x' y') hs s K) (ha : After gl N w0 Pr K next) : o.wp P a w next Q := by
 simp only [Step] at hst
 split at hst
 ·rename_i k n k' m hxv hyv
  have ex := (ev_sound h hx hxv).1.int_inv
  have ey := (ev_sound h hy hyv).1.int_inv
  split at hst
  ·rename_i hk
   subst hk
   split at hst
   ·obtain ⟨hm, hst⟩ := hst
    exact fin_int h hd (by simp [execOp, ho, ex, ey, Sem.run_bind, Result.andThen, guard_int, binOp, Op.intDiv, hm]) hst ha
   ·obtain ⟨hm, hst⟩ := hst
    exact fin_int h hd (by simp [execOp, ho, ex, ey, Sem.run_bind, Result.andThen, guard_int, binOp, Op.intDiv, hm]) hst ha
   ·rename_i h1 h2
    split at hst
    ·rename_i c hc
     cases op <;> simp only [bI, Option.some.injEq, reduceCtorEq] at hc <;> subst hc <;>
      first
       | exact fin_int h hd (by simp [execOp, ho, ex, ey, Sem.run_bind, Result.andThen, guard_int, binOp, Op.intArith, Op.intCmp]) hst ha
       | exact fin_bool h hd (by simp [execOp, ho, ex, ey, Sem.run_bind, Result.andThen, guard_int, binOp, Op.intArith, Op.intCmp]) hst ha
    ·exact hst.elim
  ·exact hst.elim
 ·rename_i n m hxv hyv
  have ex := (ev_sound h hx hxv).1.str_inv
  have ey := (ev_sound h hy hyv).1.str_inv
  split at hst
  ·obtain ⟨hl, hst⟩ := hst
   refine fin_str h hd ?_ hst ha
   have hl' : ¬ ((9223372036854775807 : Int) < (n.length : Int) + m.length) := by
    unfold maxLen at hl; omega
   simp [execOp, ho, ex, ey, Sem.run_bind, Result.andThen, guard_str, binOp, Op.stringOp, ByteArray.size, hl', ba_append]
  ·split at hst
   ·rename_i c hc
    cases op <;> simp only [bS, Option.some.injEq, reduceCtorEq] at hc <;> subst hc <;>
     exact fin_bool h hd (by simp [execOp, ho, ex, ey, Sem.run_bind, Result.andThen, guard_str, binOp, Op.stringOp, ba_toList]) hst ha
   ·exact hst.elim
 ·exact hst.elim
theorem run_eqb {t : TypeId} (ht : P.underlying t = some .bool) (n m : Bool) : (Op.equal t (.bool n) (.bool m)).run P w = .ok (n == m) w := by
 unfold Op.equal
 rw [show Op.maxDepth = 9999 + 1 from rfl, Op.equalIn]
 simp only [Sem.run_bind, run_underlying ht, Result.andThen_ok]
 rfl
theorem step_bqe {ng : Bool} {op : BinOp} {t t' : TypeId} {x y : Operand} {x' y' : Opd}
  (ho : o.op = .binOp op t x y t') (hop : (op = .eql ∧ ng = false) ∨ (op = .neq ∧ ng = true)) (hx : cO x = some x') (hy : cO y = some y') (ht : P.underlying t = some .bool)
  (h : Sim gl N w0 Pr φ s a w) (hd : ∀ t, o.dst = some t → t < N) (hst : Step P gl o.dst (.bqe ng x' y') hs s K) (ha : After gl N w0 Pr K next) : o.wp P a w next Q := by
 simp only [Step] at hst
 split at hst
 ·rename_i n m hxv hyv
  have ex := (ev_sound h hx hxv).1.bool_inv
  have ey := (ev_sound h hy hyv).1.bool_inv
  rcases hop with ⟨rfl, rfl⟩ | ⟨rfl, rfl⟩
  ·exact fin_bool h hd (by simp [execOp, ho, ex, ey, Sem.run_bind, Result.andThen, guard_bool, binOp, run_eqb ht]) hst ha
  ·exact fin_bool h hd (by simp [execOp, ho, ex, ey, Sem.run_bind, Result.andThen, guard_bool, binOp, run_eqb ht]) hst ha
 ·exact hst.elim
theorem kindT_info {t : TypeId} {k : Nat} (h : kindT P t = some k) {xs : Array Value} {off : Nat} {v : Value} (hx : xs[off]? = some v) : (part t xs off).run P w = .ok v w := by
 unfold kindT at h
 cases hu : P.underlying t with
 | none => simp [hu] at h
 | some d => cases d <;> simp [hu] at h <;> simp [part, isAgg, run_underlying hu, hx]
theorem run_eqC {d : Nat} {t : TypeId} {k : Nat} {c c' : AC} {b : Bool} {v v' : Value} (ht : kindT P t = some k) (hc : eqC k c c' = some b) (hv : KR Pr φ w c v) (hv' : KR Pr φ w c' v') :
  (Op.equalIn (d + 1) t v v').run P w = .ok b w := by
 unfold kindT at ht
 cases hu : P.underlying t with
 | none => simp [hu] at ht
 | some D =>
  cases D <;> simp [hu] at ht <;> subst ht <;> cases c <;> simp only [eqC, reduceCtorEq] at hc <;> cases c' <;> simp only [eqC, reduceCtorEq] at hc
  ·obtain rfl := VR.bool_inv (φ := φ) (x := v) hv
   obtain rfl := VR.bool_inv (φ := φ) (x := v') hv'
   cases hc
   simp only [Op.equalIn, Sem.run_bind, run_underlying hu, Result.andThen_ok]; rfl
  ·obtain rfl := VR.int_inv (φ := φ) (x := v) hv
   obtain rfl := VR.int_inv (φ := φ) (x := v') hv'
   split at hc
   ·rename_i hk; subst hk
    cases hc
    simp [Op.equalIn, Sem.run_bind, run_underlying hu]
   ·cases hc
  ·obtain rfl := VR.str_inv (φ := φ) (x := v) hv
   obtain rfl := VR.str_inv (φ := φ) (x := v') hv'
   cases hc
   simp [Op.equalIn, Sem.run_bind, run_underlying hu, beq_toListBytes, ba_toList]
theorem run_eqCs {d : Nat} {vs us : List Value} : ∀ {fs : List Field} {i : Nat} {ks : List Nat} {cs cs' : List AC} {b : Bool}, flatK P i fs = some ks → eqCs ks cs cs' = some b →
  (∀ (j : Nat) (c : AC), cs[j]? = some c → ∃ v, vs.toArray[i + j]? = some v ∧ KR Pr φ w c v) → (∀ (j : Nat) (c : AC), cs'[j]? = some c → ∃ v, us.toArray[i + j]? = some v ∧ KR Pr φ w c v) →
  (Op.eqFields (d + 1) vs.toArray us.toArray fs).run P w = .ok b w
 | [], i, ks, cs, cs', b, hf, hb, hv, hu => by
  cases hf
  unfold eqCs at hb
  split at hb
  ·cases hb; simp [Op.eqFields]
  ·rename_i h; cases h
  ·cases hb
 | f :: fs, i, ks, cs, cs', b, hf, hb, hv, hu => by
  unfold flatK at hf
  split at hf
  ·rename_i k l h1 h2 h3 h4
   cases hf
   unfold eqCs at hb
   split at hb
   ·rename_i h; cases h
   ·rename_i k' ks' x xs y ys he
    cases he
    split at hb
    ·rename_i b1 b2 e1 e2
     cases hb
     have h2' : f.offset = i := by simpa using h2
     obtain ⟨v, hv1, hv2⟩ := hv 0 x rfl
     obtain ⟨u, hu1, hu2⟩ := hu 0 y rfl
     have hn : f.name ≠ "_" := by simpa using h1
     have ih := run_eqCs (d := d) (fs := fs) (i := i + 1) h4 e2 (fun j c hj => by
       obtain ⟨v, h5, h6⟩ := hv (j + 1) c hj
       exact ⟨v, by rw [show i + 1 + j = i + (j + 1) by omega]; exact h5, h6⟩) (fun j c hj => by
       obtain ⟨v, h5, h6⟩ := hu (j + 1) c hj
       exact ⟨v, by rw [show i + 1 + j = i + (j + 1) by omega]; exact h5, h6⟩)
     rw [Op.eqFields]
     simp only [if_pos hn, Sem.run_bind]
     rw [h2', kindT_info h3 (show vs.toArray[i]? = some v from hv1)]
     simp only [Result.andThen_ok]
     rw [kindT_info h3 (show us.toArray[i]? = some u from hu1)]
     simp only [Result.andThen_ok]
     rw [run_eqC h3 e1 hv2 hu2]
     simp only [Result.andThen_ok]
     cases b1
     ·simp
     ·simpa using ih
    ·cases hb
   ·cases hb
  ·cases hf
theorem guard_agg (op : BinOp) (t : TypeId) (x y : Operand) (a b : Array Value) (h : P.eqGuardType P.depth t = false) : (eqGuard op t x y (.agg a) (.agg b)).run P w = .ok () w := by
 unfold eqGuard; split <;> simp [h]
theorem step_eqa {ng : Bool} {op : BinOp} {t t' : TypeId} {x y : Operand} {x' y' : Opd} {fs : Array Field} {ks : List Nat}
  (ho : o.op = .binOp op t x y t') (hop : (op = .eql ∧ ng = false) ∨ (op = .neq ∧ ng = true)) (hx : cO x = some x') (hy : cO y = some y') (ht : P.underlying t = some (.struct fs)) (hk : eqT P t fs = some ks)
  (h : Sim gl N w0 Pr φ s a w) (hd : ∀ t, o.dst = some t → t < N) (hst : Step P gl o.dst (.eqa ng ks x' y') hs s K) (ha : After gl N w0 Pr K next) : o.wp P a w next Q := by
 simp only [Step] at hst
 split at hst
 ·rename_i xs ys hxv hyv
  split at hst
  ·rename_i b hb
   obtain ⟨vs, ex, hvs⟩ := (ev_sound h hx hxv).1
   obtain ⟨us, ey, hus⟩ := (ev_sound h hy hyv).1
   unfold eqT at hk
   split at hk
   ·rename_i hh hg
    have hf : P.fieldsOf t = fs := by simp [Program.fieldsOf, ht]
    have hrun : (Op.equal t (.agg vs.toArray) (.agg us.toArray)).run P w = .ok b w := by
     show (Op.equalIn (9998 + 1 + 1) t _ _).run P w = _
     rw [run_equalIn_struct (P := P) w _ t _ _ (by rw [hf]; exact ht) hh, hf]
     refine run_eqCs (Pr := Pr) (φ := φ) hk hb (fun j c hj => ?_) (fun j c hj => ?_)
     ·obtain ⟨v, h1, h2⟩ := hvs.get hj; exact ⟨v, by simpa using h1, h2⟩
     ·obtain ⟨v, h1, h2⟩ := hus.get hj; exact ⟨v, by simpa using h1, h2⟩
    rcases hop with ⟨rfl, rfl⟩ | ⟨rfl, rfl⟩
    ·exact fin_bool h hd (by simp [execOp, ho, ex, ey, Sem.run_bind, Result.andThen, guard_agg _ _ _ _ _ _ hg, binOp, hrun]) hst ha
    ·exact fin_bool h hd (by simp [execOp, ho, ex, ey, Sem.run_bind, Result.andThen, guard_agg _ _ _ _ _ _ hg, binOp, hrun]) hst ha
   ·cases hk
  ·exact hst.elim
 ·exact hst.elim
theorem step_not {t : TypeId} {x : Operand} {x' : Opd} (ho : o.op = .unOp .not t x) (hx : cO x = some x')
  (h : Sim gl N w0 Pr φ s a w) (hd : ∀ t, o.dst = some t → t < N) (hst : Step P gl o.dst (.not x') hs s K) (ha : After gl N w0 Pr K next) : o.wp P a w next Q := by
 simp only [Step] at hst
 split at hst
 ·rename_i b hxv
  have ex := (ev_sound h hx hxv).1.bool_inv
  exact fin_bool h hd (by simp [execOp, ho, ex, Op.unary, Sem.run_bind, Result.andThen]) hst ha
 ·exact hst.elim
theorem step_neg {t : TypeId} {x : Operand} {x' : Opd} (ho : o.op = .unOp .neg t x) (hx : cO x = some x')
  (h : Sim gl N w0 Pr φ s a w) (hd : ∀ t, o.dst = some t → t < N) (hst : Step P gl o.dst (.neg x') hs s K) (ha : After gl N w0 Pr K next) : o.wp P a w next Q := by
 simp only [Step] at hst
 split at hst
 ·rename_i k n hxv
  have ex := (ev_sound h hx hxv).1.int_inv
  exact fin_int h hd (by simp [execOp, ho, ex, Op.unary, Op.intArith, Sem.run_bind, Result.andThen]) hst ha
 ·exact hst.elim
theorem step_conv {src dst : TypeId} {k0 k : IntKind} {x : Operand} {x' : Opd} (ho : o.op = .convert src dst x) (hs1 : P.underlying src = some (.int k0)) (hs2 : P.underlying dst = some (.int k)) (hx : cO x = some x')
  (h : Sim gl N w0 Pr φ s a w) (hd : ∀ t, o.dst = some t → t < N) (hst : Step P gl o.dst (.conv k x') hs s K) (ha : After gl N w0 Pr K next) : o.wp P a w next Q := by
 simp only [Step] at hst
 split at hst
 ·rename_i k' n hxv
  have ex := (ev_sound h hx hxv).1.int_inv
  exact fin_int h hd (by simp [execOp, ho, ex, convert, run_underlying hs1, run_underlying hs2, Conv.intToInt, Sem.run_bind, Result.andThen]) hst ha
 ·exact hst.elim
theorem step_mx {mx : Bool} {c : Call} {x y : Operand} {x' y' : Opd} (ho : o.op = .call c) (hc : c.callee = .builtin (bif mx then .max else .min)) (hxs : c.args = #[x, y]) (hx : cO x = some x') (hy : cO y = some y')
  (h : Sim gl N w0 Pr φ s a w) (hd : ∀ t, o.dst = some t → t < N) (hst : Step P gl o.dst (.mx mx x' y') hs s K) (ha : After gl N w0 Pr K next) : o.wp P a w next Q := by
 simp only [Step] at hst
 split at hst
 ·rename_i k n k' m hxv hyv
  have ex := (ev_sound h hx hxv).1.int_inv
  have ey := (ev_sound h hy hyv).1.int_inv
  split at hst
  ·rename_i hk; subst hk
   cases mx
   ·exact fin_int h hd (by simp [execOp, ho, resolve, hc, hxs, invoke, builtin, Builtin.min_, Builtin.min2, ex, ey, Sem.run_bind, Result.andThen]) hst ha
   ·exact fin_int h hd (by simp [execOp, ho, resolve, hc, hxs, invoke, builtin, Builtin.max_, Builtin.max2, ex, ey, Sem.run_bind, Result.andThen]) hst ha
  ·exact hst.elim
 ·exact hst.elim
end
theorem Addr.add_block (a : Addr) (n : Nat) : (a.add n).block = a.block := by unfold Addr.add; split <;> rfl
theorem Addr.add_add (a : Addr) (n m : Nat) : (a.add n).add m = a.add (n + m) := by
 unfold Addr.add
 by_cases hn : n = 0
 ·subst hn; simp
 ·by_cases hm : m = 0
  ·subst hm; simp
  ·have : ¬ (n = 0 ∧ m = 0) := by omega
   simp [hn, hm, this, Nat.add_assoc]
theorem Addr.add_flat (b o n : Nat) : (⟨b, o, none⟩ : Addr).add n = ⟨b, o + n, none⟩ := by
 unfold Addr.add; split <;> simp_all
theorem cell_flat {w : World} {b : Nat} {arr : Array Value} {T : TypeId} {z : Nat × Nat} (h : w.heap[b]? = some (.cells arr T z)) (o : Nat) : w.cell? ⟨b, o, none⟩ = arr[o]? := by
 simp [World.cell?, h]
section
variable {P : Program} {gl : Nat → Option (List AC)} {N : Nat} {w0 : Wk} {Pr : PrT} {φ : Nat → Option (Option Nat)} {s : St} {a : Act} {w : World}
 {o : Oper} {hs : List Hint} {K : List Hint → St → Prop} {next : Act → World → Prop} {Q : Exit → Act → World → Prop}
theorem run_isAgg {t : TypeId} {g : Bool} (h : aggT P t = some g) : (isAgg t).run P w = .ok g w := by
 unfold aggT at h
 split at h <;> first | cases h | skip
 ·rename_i fs hu; simp [isAgg, Sem.run_bind, run_underlying hu, Result.andThen]
 ·rename_i n e hu; simp [isAgg, Sem.run_bind, run_underlying hu, Result.andThen]
 ·rename_i d h1 h2 hu
  simp only [isAgg, Sem.run_bind, run_underlying hu, Result.andThen_ok]
  cases d <;> first | rfl | (exact absurd hu (h1 _)) | (exact absurd hu (h2 _ _))
theorem run_size {t : TypeId} (h : (P.info? t).isSome = true) : (sizeOf t).run P w = .ok (P.cellsOf t) w := by
 obtain ⟨i, hi⟩ := Option.isSome_iff_exists.1 h
 simp [sizeOf, typeInfo, program, Sem.run_bind, Result.andThen, hi, Sem.run, Program.cellsOf]
theorem load_sound {R : AC → Value → Prop} {cs : List AC} {i wd : Nat} {g : Bool} {v : AV} {t : TypeId} {ad : Addr}
  (hl : loadC cs i wd g = some v) (hg : aggT P t = some g) (hi : (P.info? t).isSome = true) (hw : P.cellsOf t = wd)
  (hr : ∀ (j : Nat) c, cs[i + j]? = some c → ∃ x, w.cell? (ad.add j) = some x ∧ R c x) :
  ∃ x, (loadVar t ad).run P w = .ok x w ∧ VR R v x ∧ ∀ c ∈ v.cells, c ∈ cs := by
 unfold loadC at hl
 cases g with
 | true =>
  simp only at hl
  split at hl
  ·rename_i hlen
   simp only [Option.some.injEq] at hl
   subst hl
   simp only [List.length_take, List.length_drop] at hlen
   have hx : ∀ j, j < wd → ∃ x, w.cell? (ad.add j) = some x ∧ ∀ c, cs[i + j]? = some c → R c x := by
    intro j hj
    have hlt : i + j < cs.length := by omega
    obtain ⟨x, h1, h2⟩ := hr j cs[i + j] (List.getElem?_eq_getElem hlt)
    refine ⟨x, h1, fun c hc => ?_⟩
    rw [List.getElem?_eq_getElem hlt] at hc
    cases hc
    exact h2
   have hch : ∃ f : Nat → Value, ∀ j, j < wd → w.cell? (ad.add j) = some (f j) ∧ ∀ c, cs[i + j]? = some c → R c (f j) := by
    refine ⟨fun j => if h : j < wd then (hx j h).choose else undef, fun j hj => ?_⟩
    simp only [hj, dif_pos]
    exact (hx j hj).choose_spec
   obtain ⟨f, hf⟩ := hch
   refine ⟨.agg ((List.range wd).map f).toArray, ?_, ⟨(List.range wd).map f, rfl, by simp; omega, ?_⟩, ?_⟩
   ·simp only [loadVar, Sem.run_bind, run_isAgg hg, Result.andThen_ok, if_true, run_size hi, hw, run_loadCells w ad wd f (fun j hj => (hf j hj).1)]
    rfl
   ·intro j c x hc hx'
    simp only [List.getElem?_take, List.getElem?_drop] at hc
    split at hc
    ·rename_i hj
     rw [List.getElem?_map, List.getElem?_range hj] at hx'
     simp only [Option.map_some, Option.some.injEq] at hx'
     subst hx'
     exact (hf j hj).2 c hc
    ·cases hc
   ·intro c hc
    exact List.mem_of_mem_drop (List.mem_of_mem_take hc)
  ·cases hl
 | false =>
  simp only at hl
  split at hl
  ·rename_i c hc
   simp only [Option.some.injEq] at hl
   subst hl
   obtain ⟨x, h1, h2⟩ := hr 0 c (by simpa using hc)
   rw [show ad.add 0 = ad from rfl] at h1
   refine ⟨x, ?_, h2, fun c' hc' => ?_⟩
   ·simp only [loadVar, Sem.run_bind, run_isAgg hg, Result.andThen_ok, Bool.false_eq_true, if_false, run_load, h1]
   ·simp only [AV.cells, List.mem_singleton] at hc'
    subst hc'
    exact List.mem_of_getElem? hc
  ·cases hl
theorem keys_sub {v : AV} {cs : List AC} {u : List Nat} (h : ∀ c ∈ v.cells, c ∈ cs) (hk : ∀ k ∈ cs.flatMap AC.keys, k ∈ u) : ∀ k ∈ v.keys, k ∈ u := by
 intro k hk'
 rw [AV.keys_eq] at hk'
 obtain ⟨c, hc, hkc⟩ := List.mem_flatMap.1 hk'
 exact hk k (List.mem_flatMap.2 ⟨c, h c hc, hkc⟩)
theorem VR.pd_inv {cs : List AC} {i : Nat} {x : Value} (h : VR (KR Pr φ w) (.c (.pd cs i)) x) :
  ∃ ad : Addr, x = .pointer (some ad) ∧ ∀ (j : Nat) c, cs[i + j]? = some c → Pr ad.block ∧ ∃ y, w.cell? (ad.add j) = some y ∧ DR Pr w c y := by
 have h' : DR Pr w (.pd cs i) x := h
 cases h' with
 | pd _ _ ad g hr hd => exact ⟨ad, rfl, fun j c hj => ⟨(hr j c hj).1, g j, (hr j c hj).2, hd j c hj⟩⟩
theorem VR.sl_inv {wd n : Nat} {f : Nat → List AC} {x : Value} (h : VR (KR Pr φ w) (.c (.sl wd n f)) x) :
  (n = 0 ∧ x = .slice none 0 0) ∨ ∃ (ad : Addr) (cap : Nat), x = .slice (some ad) n cap ∧ n ≤ cap ∧ cap ≤ maxLen ∧ (∀ i, i < n → (f i).length = wd) ∧
   ∀ (i j : Nat) c, i < n → (f i)[j]? = some c → Pr ad.block ∧ ∃ y, w.cell? (ad.add (i * wd + j)) = some y ∧ DR Pr w c y := by
 have h' : DR Pr w (.sl wd n f) x := h
 cases h' with
 | slN => exact .inl ⟨rfl, rfl⟩
 | sl _ _ _ ad cap g hn hc hl hr hd => exact .inr ⟨ad, cap, rfl, hn, hc, hl, fun i j c hi hj => ⟨(hr i j c hi hj).1, g i j, (hr i j c hi hj).2, hd i j c hi hj⟩⟩
theorem VR.lp_inv {cs : List AC} {i : Nat} {x : Value} (h : VR (KR Pr φ w) (.c (.lp cs i)) x) :
  ∃ (b o : Nat) (g : Nat → Kd), x = .pointer (some ⟨b, o, none⟩) ∧ (∀ (j : Nat) c, cs[i + j]? = some c → Pr.Θ b (o + j) = some (g j) ∧ KdOk (g j) c) ∧ (∀ (j : Nat) c u, cs[i + j]? = some c → g j = .fix u → LV Pr.Θ c u) := by
 have h' : DR Pr w (.lp cs i) x := h
 cases h' with
 | lp _ _ b o g hr hd => exact ⟨b, o, g, rfl, hr, hd⟩
theorem loadL_inv {cs : List AC} {i w : Nat} {g : Bool} {v : AV} (h : loadL cs i w g = some v) : ∃ wd n f, g = false ∧ w = 1 ∧ cs[i]? = some (.sl wd n f) ∧ v = .c (.lv (.sl wd n f)) := by
 unfold loadL at h
 split at h
 ·rename_i wd n f hc; cases h; exact ⟨wd, n, f, rfl, rfl, hc, rfl⟩
 ·cases h
theorem VR.pk_inv (h : Sim gl N w0 Pr φ s a w) {k i : Nat} {x : Value} (hv : VR (KR Pr φ w) (.c (.pk k i)) x) {blk : Blk} (hb : s.h k = some blk) :
  ∃ b arr T, φ k = some (some b) ∧ x = .pointer (some ⟨b, i, none⟩) ∧ w.heap[b]? = some (.cells arr T (0, 0)) ∧ BR Pr φ w (some b) blk := by
 obtain ⟨p, h1, h2⟩ := h.hp k blk hb
 have hv' : KR0 Pr φ w (.pk k i) x := hv
 obtain ⟨b, hp, hx⟩ := hv'.2 p h1
 subst hp
 obtain ⟨arr, T, hh⟩ := h.alive h1
 exact ⟨b, arr, T, h1, hx, hh, h2⟩
theorem VR.pa_inv (h : Sim gl N w0 Pr φ s a w) {k wd i q : Nat} {x : Value} (hv : VR (KR Pr φ w) (.c (.pa k wd i q)) x) {blk : Blk} (hb : s.h k = some blk) :
  ∃ b arr T, φ k = some (some b) ∧ x = .pointer (some ⟨b, i * wd + q, none⟩) ∧ w.heap[b]? = some (.cells arr T (0, 0)) ∧ BR Pr φ w (some b) blk := by
 obtain ⟨p, h1, h2⟩ := h.hp k blk hb
 have hv' : KR0 Pr φ w (.pa k wd i q) x := hv
 obtain ⟨b, hp, hx⟩ := hv'.2 p h1
 subst hp
 obtain ⟨arr, T, hh⟩ := h.alive h1
 exact ⟨b, arr, T, h1, hx, hh, h2⟩
theorem step_load {t : TypeId} {x : Operand} {x' : Opd} {g : Bool} (ho : o.op = .load t x) (hx : cO x = some x') (hg : aggT P t = some g) (hi : (P.info? t).isSome = true)
  (h : Sim gl N w0 Pr φ s a w) (hd : ∀ t, o.dst = some t → t < N) (hst : Step P gl o.dst (.load (P.cellsOf t) g x') hs s K) (ha : After gl N w0 Pr K next) : o.wp P a w next Q := by
 simp only [Step] at hst
 split at hst
 ·rename_i cs i hxv
  obtain ⟨h1, h2⟩ := ev_sound h hx hxv
  obtain ⟨ad, hx', hr⟩ := h1.pd_inv
  split at hst
  ·rename_i v hv
   obtain ⟨y, h3, h4, h5⟩ := load_sound (P := P) (w := w) (R := DR Pr w) hv hg hi rfl (ad := ad) (fun j c hj => (hr j c hj).2)
   have hk : ∀ c ∈ v.cells, AC.keys c = [] := by
    intro c hc
    obtain ⟨j, hj⟩ := List.mem_iff_getElem?.1 hc
    cases v with
    | c x1 => simp [AV.cells] at hc; subst hc; exact (KR.of_dr (φ := φ) h4).2
    | agg xs => obtain ⟨vs, h6, h7⟩ := h4; obtain ⟨v', _, h8⟩ := h7.get hj; exact (KR.of_dr (φ := φ) h8).2
    | tup xs => unfold loadC at hv; split at hv <;> (split at hv <;> cases hv)
   refine fin_value h hd (by simp [execOp, ho, Instr.loadAt, hx', Instr.sureAddr, Sem.run_bind, Result.andThen, h3]) (h4.mono fun c _ v hc => (KR.of_dr hc).1) ?_ hst ha
   intro k hk'
   rw [AV.keys_eq] at hk'
   obtain ⟨c, hc, hkc⟩ := List.mem_flatMap.1 hk'
   rw [hk c hc] at hkc
   cases hkc
  ·exact hst.elim
 ·rename_i k i hxv
  obtain ⟨h1, h2⟩ := ev_sound h hx hxv
  split at hst
  ·rename_i cs z hb
   obtain ⟨b, arr, T, hf, hx', hh, hB⟩ := VR.pk_inv h h1 hb
   obtain ⟨b', arr', T', e1, hh', hcs⟩ := hB
   cases e1
   rw [hh] at hh'
   cases hh'
   split at hst
   ·rename_i v hv
    obtain ⟨y, h3, h4, h5⟩ := load_sound (P := P) (w := w) (R := KR Pr φ w) hv hg hi rfl (ad := ⟨b, i, none⟩) (fun j c hj => by
     obtain ⟨y, h6, h7⟩ := hcs.get hj
     exact ⟨y, by rw [Addr.add_flat, cell_flat hh]; simpa using h6, h7⟩)
    exact fin_value h hd (by simp [execOp, ho, Instr.loadAt, hx', Instr.sureAddr, Sem.run_bind, Result.andThen, h3]) h4 (keys_sub h5 (h.kh k _ hb)) hst ha
   ·exact hst.elim
  ·exact hst.elim
 ·rename_i k wd i q hxv
  obtain ⟨h1, h2⟩ := ev_sound h hx hxv
  split at hst
  ·rename_i wd' n f z hb
   obtain ⟨b, arr, T, hf, hx', hh, hB⟩ := VR.pa_inv h h1 hb
   split at hst
   ·rename_i hwd
    subst hwd
    obtain ⟨hin, hst⟩ := hst
    split at hst
    ·rename_i v hv
     obtain ⟨hw0, hB | ⟨b', arr', T', e1, hh', _, _, hel⟩⟩ := hB
     ·cases hB.1
     ·cases e1
      rw [hh] at hh'
      cases hh'
      obtain ⟨y, h3, h4, h5⟩ := load_sound (P := P) (w := w) (R := DR Pr w) hv hg hi rfl (ad := ⟨b, i * wd + q, none⟩) (fun j c hj => by
       obtain ⟨y, h6, h7⟩ := (hel i hin).2 (q + j) c hj
       exact ⟨y, by rw [Addr.add_flat, cell_flat hh]; simpa [Nat.add_assoc] using h6, h7⟩)
      refine fin_value h hd (by simp [execOp, ho, Instr.loadAt, hx', Instr.sureAddr, Sem.run_bind, Result.andThen, h3]) (h4.mono fun c _ v hc => (KR.of_dr hc).1) ?_ hst ha
      intro k' hk'
      rw [AV.keys_eq] at hk'
      obtain ⟨c, hc, hkc⟩ := List.mem_flatMap.1 hk'
      obtain ⟨j, hj⟩ := List.mem_iff_getElem?.1 (h5 c hc)
      obtain ⟨y', _, h8⟩ := (hel i hin).2 j c hj
      rw [(KR.of_dr (φ := φ) h8).2] at hkc
      cases hkc
    ·exact hst.elim
   ·exact hst.elim
  ·exact hst.elim
 ·rename_i cs i hxv
  obtain ⟨h1, h2⟩ := ev_sound h hx hxv
  obtain ⟨b, o', gk, hx', hr, hd'⟩ := VR.lp_inv (φ := φ) h1
  split at hst
  ·rename_i v hv
   obtain ⟨wd, n, f, rfl, hw1, hci, rfl⟩ := loadL_inv hv
   obtain ⟨y, h3, h4, h5⟩ := load_sound (P := P) (w := w) (t := t) (cs := cs) (i := i) (R := fun c y => ∀ wd n f, c = .sl wd n f → LV Pr.Θ c y) (v := .c (.sl wd n f)) (by simp [loadC, hci]) hg hi rfl (ad := ⟨b, o', none⟩) (fun j c hj => by
    obtain ⟨arr, T, x, k1, k2, k3⟩ := h.ex.th b (o' + j) _ (hr j c hj).1
    refine ⟨x, by rw [Addr.add_flat, cell_flat k1]; exact k2, fun wd n f e => ?_⟩
    have k4 := (hr j c hj).2
    subst e
    cases hgj : gk j with
    | fix u => rw [hgj] at k3; have k3' : x = u := k3; subst k3'; exact hd' j _ _ hj hgj
    | int k => rw [hgj] at k4; exact k4.elim
    | bool => rw [hgj] at k4; exact k4.elim
    | str => rw [hgj] at k4; exact k4.elim)
   exact fin_value (v := .c (.lv (.sl wd n f))) h hd (by simp [execOp, ho, Instr.loadAt, hx', Instr.sureAddr, Sem.run_bind, Result.andThen, h3]) (show VR (KR Pr φ w) (.c (.lv (.sl wd n f))) y from DR.lv _ _ (h4 wd n f rfl)) (by simp [AV.keys, AC.keys, AC.keys0]) hst ha
  ·exact hst.elim
 ·exact hst.elim
end
section
variable {P : Program} {gl : Nat → Option (List AC)} {N : Nat} {w0 : Wk} {Pr : PrT} {φ : Nat → Option (Option Nat)} {s : St} {a : Act} {w : World}
 {o : Oper} {hs : List Hint} {K : List Hint → St → Prop} {next : Act → World → Prop} {Q : Exit → Act → World → Prop}
theorem VR.own_inv (h : Sim gl N w0 Pr φ s a w) {k wd off n : Nat} {x : Value} (hv : VR (KR Pr φ w) (.c (.own k wd off n)) x) {blk : Blk} (hb : s.h k = some blk) :
  (φ k = some none ∧ x = .slice none 0 0 ∧ n = 0 ∧ off = 0 ∧ BR Pr φ w none blk) ∨
  ∃ b arr T cap, φ k = some (some b) ∧ x = .slice (some ⟨b, off * wd, none⟩) n cap ∧ n ≤ cap ∧ (off + cap) * wd ≤ arr.size ∧ w.heap[b]? = some (.cells arr T (0, 0)) ∧ BR Pr φ w (some b) blk := by
 obtain ⟨p, h1, h2⟩ := h.hp k blk hb
 have hv' : KR0 Pr φ w (.own k wd off n) x := hv
 have h3 := hv'.2 p h1
 cases p with
 | none => exact .inl ⟨h1, h3.1, h3.2.1, h3.2.2, h2⟩
 | some b =>
  obtain ⟨cap, h4, h5, h6⟩ := h3
  obtain ⟨arr, T, hh⟩ := h.alive h1
  refine .inr ⟨b, arr, T, cap, h1, h4, h5, ?_, hh, h2⟩
  simpa [bsize, hh] using h6
theorem run_len {c : Call} {x : Operand} {t e : TypeId} (ho : o.op = .call c) (hc : c.callee = .builtin .len) (hxs : c.args = #[x])
  (ht : c.argTypes[0]? = some t) (hu : P.underlying t = some (.slice e)) {n cap : Nat} {ad : Option Addr} (he : a.eval x = .slice ad n cap) :
  (execOp a.eval o).run P w = .ok (.value (.int .i64 n)) w := by
 simp [execOp, ho, resolve, hc, hxs, invoke, builtin, Builtin.len_, ht, he, Sem.run_bind, Result.andThen, run_underlying hu, goInt]
theorem le_of_mul_le {n m k : Nat} (h : n * k ≤ m * k) (hk : 0 < k) : n ≤ m := Nat.le_of_mul_le_mul_right h hk
theorem VR.lv_inv {wd n : Nat} {f : Nat → List AC} {x : Value} (h : VR (KR Pr φ w) (.c (.lv (.sl wd n f))) x) :
  (n = 0 ∧ x = .slice none 0 0) ∨ ∃ (ad : Addr) (cap : Nat) (g : Nat → Nat → Kd), x = .slice (some ad) n cap ∧ n ≤ cap ∧ cap ≤ maxLen ∧ (0 < n → 0 < wd → ad.spot = none) ∧
   (∀ (i j : Nat) c, i < n → (f i)[j]? = some c → Pr.Θ ad.block (ad.off + (i * wd + j)) = some (g i j) ∧ KdOk (g i j) c) ∧
   (∀ (i j : Nat) c u, i < n → (f i)[j]? = some c → g i j = .fix u → LV Pr.Θ c u) := by
 have h' : DR Pr w (.lv (.sl wd n f)) x := h
 cases h' with
 | lv _ _ h2 =>
  cases h2 with
  | slN => exact .inl ⟨rfl, rfl⟩
  | sl _ _ _ ad cap g hn hc hs hl hr hd => exact .inr ⟨ad, cap, g, rfl, hn, hc, hs, hr, hd⟩
theorem step_len {c : Call} {x : Operand} {x' : Opd} {t e : TypeId} (ho : o.op = .call c) (hc : c.callee = .builtin .len) (hxs : c.args = #[x]) (hx : cO x = some x')
  (ht : c.argTypes[0]? = some t) (hu : P.underlying t = some (.slice e))
  (h : Sim gl N w0 Pr φ s a w) (hd : ∀ t, o.dst = some t → t < N) (hst : Step P gl o.dst (.len x') hs s K) (ha : After gl N w0 Pr K next) : o.wp P a w next Q := by
 simp only [Step] at hst
 split at hst
 ·rename_i wd n f hxv
  obtain ⟨h1, h2⟩ := ev_sound h hx hxv
  rcases h1.sl_inv with ⟨rfl, he⟩ | ⟨ad, cap, he, hn, hcap, _⟩
  ·exact fin_int h hd (run_len ho hc hxs ht hu he) (hst (Nat.zero_le _)) ha
  ·exact fin_int h hd (run_len ho hc hxs ht hu he) (hst (Nat.le_trans hn hcap)) ha
 ·rename_i k wd off n hxv
  obtain ⟨h1, h2⟩ := ev_sound h hx hxv
  split at hst
  ·rename_i wd' m f z hb
   split at hst
   ·rename_i hwd
    subst hwd
    rcases h1.own_inv h hb with ⟨_, he, rfl, _, _⟩ | ⟨b, arr, T, cap, hf, he, hn, hcap, hh, hw, hB⟩
    ·exact fin_int h hd (run_len ho hc hxs ht hu he) (hst (Nat.zero_le _)) ha
    ·rcases hB with hB | ⟨b', arr', T', e1, hh', _, hmx, _⟩
     ·cases hB.1
     ·cases e1
      rw [hh] at hh'
      cases hh'
      refine fin_int h hd (run_len ho hc hxs ht hu he) (hst ?_) ha
      have : (off + cap) * wd ≤ maxLen * wd := Nat.le_trans hcap hmx
      have := le_of_mul_le this hw
      omega
   ·exact hst.elim
  ·exact hst.elim
 ·rename_i hxv
  obtain ⟨h1, h2⟩ := ev_sound h hx hxv
  have he : a.eval x = .slice none 0 0 := by have h1' : DR Pr w .nil (a.eval x) := h1; generalize a.eval x = y at h1' ⊢; cases h1'; rfl
  exact fin_int h hd (run_len ho hc hxs ht hu he) hst ha
 ·rename_i wd n f hxv
  obtain ⟨h1, h2⟩ := ev_sound h hx hxv
  rcases VR.lv_inv (φ := φ) h1 with ⟨rfl, he⟩ | ⟨ad, cap, g, he, hn, hcap, _⟩
  ·exact fin_int h hd (run_len ho hc hxs ht hu he) (hst (Nat.zero_le _)) ha
  ·exact fin_int h hd (run_len ho hc hxs ht hu he) (hst (Nat.le_trans hn hcap)) ha
 ·rename_i wd n f hxv
  obtain ⟨h1, h2⟩ := ev_sound h hx hxv
  have h1' : VR (KR Pr φ w) (.c (.sl wd n f)) (a.eval x) := by
   have h1' : DR Pr w (.old (.sl wd n f)) (a.eval x) := h1
   cases h1' with
   | old _ _ h3 => exact (KR.of_dr (φ := φ) (h3.mono (.of_old _) fun _ _ => rfl)).1
  rcases h1'.sl_inv with ⟨rfl, he⟩ | ⟨ad, cap, he, hn, hcap, _⟩
  ·exact fin_int h hd (run_len ho hc hxs ht hu he) (hst (Nat.zero_le _)) ha
  ·exact fin_int h hd (run_len ho hc hxs ht hu he) (hst (Nat.le_trans hn hcap)) ha
 ·exact hst.elim
theorem step_lens {c : Call} {x : Operand} {x' : Opd} {t : TypeId} (ho : o.op = .call c) (hc : c.callee = .builtin .len) (hxs : c.args = #[x]) (hx : cO x = some x')
  (ht : c.argTypes[0]? = some t) (hu : P.underlying t = some .string)
  (h : Sim gl N w0 Pr φ s a w) (hd : ∀ t, o.dst = some t → t < N) (hst : Step P gl o.dst (.lens x') hs s K) (ha : After gl N w0 Pr K next) : o.wp P a w next Q := by
 simp only [Step] at hst
 split at hst
 ·rename_i l hxv
  have ex := (ev_sound h hx hxv).1.str_inv
  have hz : (⟨l.toArray⟩ : ByteArray).size = l.length := List.size_toArray
  exact fin_int h hd (by simp [execOp, ho, resolve, hc, hxs, invoke, builtin, Builtin.len_, ht, ex, Sem.run_bind, Result.andThen, run_underlying hu, goInt, hz]) hst ha
 ·exact hst.elim
theorem run_part {t : TypeId} {g : Bool} (hg : aggT P t = some g) (hi : (P.info? t).isSome = true) (cs : List Value) (off : Nat) (x : Value)
  (hx : match g with | true => x = .agg ((cs.drop off).take (P.cellsOf t)).toArray | false => cs[off]? = some x) : (part t cs.toArray off).run P w = .ok x w := by
 cases g with
 | true =>
  simp only at hx
  subst hx
  simp only [part, Sem.run_bind, run_isAgg hg, Result.andThen_ok, if_true, run_size hi]
  simp
 | false =>
  simp only at hx
  simp [part, Sem.run_bind, run_isAgg hg, Result.andThen_ok, hx]
theorem step_fld {t : TypeId} {i : Nat} {x : Operand} {x' : Opd} {g : Bool} {fs : Array Field} {f : Field} (ho : o.op = .field t x i) (hx : cO x = some x') (hu : P.underlying t = some (.struct fs)) (hf : fs[i]? = some f)
  (hg : aggT P f.type = some g) (hi : (P.info? f.type).isSome = true)
  (h : Sim gl N w0 Pr φ s a w) (hd : ∀ t, o.dst = some t → t < N) (hst : Step P gl o.dst (.fld f.offset (P.cellsOf f.type) g x') hs s K) (ha : After gl N w0 Pr K next) : o.wp P a w next Q := by
 simp only [Step] at hst
 split at hst
 ·rename_i xs hxv
  obtain ⟨h1, h2⟩ := ev_sound h hx hxv
  obtain ⟨vs, he, hcs⟩ := h1
  split at hst
  ·rename_i v hv
   have key : ∃ y, (part f.type vs.toArray f.offset).run P w = .ok y w ∧ VR (KR Pr φ w) v y ∧ ∀ c ∈ v.cells, c ∈ xs := by
    unfold loadC at hv
    cases g with
    | true =>
     simp only at hv
     split at hv
     ·rename_i hlen
      simp only [Option.some.injEq] at hv
      subst hv
      refine ⟨_, run_part hg hi vs f.offset _ rfl, ⟨_, rfl, ?_, ?_⟩, fun c hc => List.mem_of_mem_drop (List.mem_of_mem_take hc)⟩
      ·simp only [List.length_take, List.length_drop, hcs.1]
      ·intro j c y hc hy
       simp only [List.getElem?_take, List.getElem?_drop] at hc hy
       split at hc
       ·rename_i hj
        simp only [hj, if_true] at hy
        exact hcs.2 _ c y hc hy
       ·cases hc
     ·cases hv
    | false =>
     simp only at hv
     split at hv
     ·rename_i c hc
      simp only [Option.some.injEq] at hv
      subst hv
      obtain ⟨y, h3, h4⟩ := hcs.get hc
      exact ⟨y, run_part hg hi vs f.offset _ h3, h4, fun c' hc' => by simp only [AV.cells, List.mem_singleton] at hc'; subst hc'; exact List.mem_of_getElem? hc⟩
     ·cases hv
   obtain ⟨y, h3, h4, h5⟩ := key
   refine fin_value h hd ?_ h4 (keys_sub h5 h2) hst ha
   simp [execOp, ho, Instr.field, Sem.run_bind, Result.andThen, run_underlying hu, hf, he, asAgg, h3]
  ·exact hst.elim
 ·exact hst.elim
theorem VR.mkPd {cs : List AC} {i : Nat} {x : Value} (h : DR Pr w (.pd cs i) x) : VR (KR Pr φ w) (.c (.pd cs i)) x := (KR.of_dr (φ := φ) h).1
theorem VR.mkPk {k i b : Nat} (hf : φ k = some (some b)) : VR (KR Pr φ w) (.c (.pk k i)) (.pointer (some ⟨b, i, none⟩)) :=
 show KR0 Pr φ w (.pk k i) _ from ⟨rfl, fun p hp => by rw [hf] at hp; cases hp; exact ⟨b, rfl, rfl⟩⟩
theorem VR.mkPa {k wd i q b : Nat} (hf : φ k = some (some b)) : VR (KR Pr φ w) (.c (.pa k wd i q)) (.pointer (some ⟨b, i * wd + q, none⟩)) :=
 show KR0 Pr φ w (.pa k wd i q) _ from ⟨rfl, fun p hp => by rw [hf] at hp; cases hp; exact ⟨b, rfl, rfl⟩⟩
theorem DR.pd_shift {cs : List AC} {i off : Nat} {ad : Addr} (h : DR Pr w (.pd cs i) (.pointer (some ad))) : DR Pr w (.pd cs (i + off)) (.pointer (some (ad.add off))) := by
 cases h with
 | pd _ _ _ g hr hd =>
  refine .pd _ _ _ (fun j => g (off + j)) (fun j c hj => ?_) (fun j c hj => ?_)
  ·rw [Nat.add_assoc] at hj
   exact ⟨by rw [Addr.add_block]; exact (hr _ c hj).1, by rw [Addr.add_add]; exact (hr _ c hj).2⟩
  ·rw [Nat.add_assoc] at hj
   exact hd _ c hj
theorem step_fad {t : TypeId} {i : Nat} {x : Operand} {x' : Opd} {fs : Array Field} {f : Field} (ho : o.op = .fieldAddr t x i) (hx : cO x = some x') (hu : P.underlying t = some (.struct fs)) (hf : fs[i]? = some f)
  (hi : P.cellsOf f.type ≠ 0)
  (h : Sim gl N w0 Pr φ s a w) (hd : ∀ t, o.dst = some t → t < N) (hst : Step P gl o.dst (.fad f.offset x') hs s K) (ha : After gl N w0 Pr K next) : o.wp P a w next Q := by
 have hi' : (P.info? f.type).isSome = true := by
  cases hh : P.info? f.type with
  | none => simp [Program.cellsOf, hh] at hi
  | some _ => rfl
 have run : ∀ ad, a.eval x = .pointer (some ad) → (execOp a.eval o).run P w = .ok (.value (.pointer (some (ad.add f.offset)))) w := by
  intro ad he
  simp [execOp, ho, Instr.fieldAt, Sem.run_bind, Result.andThen, run_underlying hu, hf, he, Instr.sureAddr, fieldPlace, run_size hi', hi]
 simp only [Step] at hst
 split at hst
 ·rename_i k j hxv
  obtain ⟨h1, h2⟩ := ev_sound h hx hxv
  split at hst
  ·rename_i blk hb
   obtain ⟨b, arr, T, hfk, he, hh, hB⟩ := VR.pk_inv h h1 hb
   refine fin_value h hd (run _ he) (v := .c (.pk k (j + f.offset))) ?_ (by simpa [AV.keys, AC.keys, AC.keys0] using h2) hst ha
   rw [Addr.add_flat]; exact .mkPk hfk
  ·exact hst.elim
 ·rename_i cs j hxv
  obtain ⟨h1, h2⟩ := ev_sound h hx hxv
  obtain ⟨ad, he, _⟩ := h1.pd_inv
  rw [he] at h1
  exact fin_value h hd (run ad he) (.mkPd (DR.pd_shift (off := f.offset) h1)) (by simp [AV.keys, AC.keys, AC.keys0]) hst ha
 ·rename_i k wd j q hxv
  obtain ⟨h1, h2⟩ := ev_sound h hx hxv
  split at hst
  ·rename_i blk hb
   obtain ⟨b, arr, T, hfk, he, hh, hB⟩ := VR.pa_inv h h1 hb
   refine fin_value h hd (run _ he) (v := .c (.pa k wd j (q + f.offset))) ?_ (by simpa [AV.keys, AC.keys, AC.keys0] using h2) hst ha
   rw [Addr.add_flat, Nat.add_assoc]; exact .mkPa hfk
  ·exact hst.elim
 ·rename_i cs j hxv
  obtain ⟨h1, h2⟩ := ev_sound h hx hxv
  obtain ⟨b, o', g, he, hr, hdd⟩ := VR.lp_inv (φ := φ) h1
  refine fin_value h hd (run _ he) (v := .c (.lp cs (j + f.offset))) ?_ (by simp [AV.keys, AC.keys, AC.keys0]) hst ha
  rw [Addr.add_flat]
  show DR Pr w (.lp cs (j + f.offset)) _
  refine .lp _ _ b (o' + f.offset) (fun q => g (f.offset + q)) (fun q c hq => ?_) (fun q c u hq hg => hdd _ c u (by rw [← hq, Nat.add_assoc]) hg)
  have := hr (f.offset + q) c (by rw [← hq, Nat.add_assoc])
  rw [Nat.add_assoc]; exact this
 ·exact hst.elim
theorem DR.pd_of_ex {cs : List AC} {ad : Addr} (hr : ∀ (j : Nat) c, cs[j]? = some c → Pr ad.block ∧ ∃ y, w.cell? (ad.add j) = some y ∧ DR Pr w c y) : DR Pr w (.pd cs 0) (.pointer (some ad)) := by
 refine .pd _ _ _ (fun j => (w.cell? (ad.add j)).getD undef) (fun j c hj => ?_) (fun j c hj => ?_)
 ·rw [Nat.zero_add] at hj
  obtain ⟨h1, y, h2, h3⟩ := hr j c hj
  exact ⟨h1, by rw [h2]; rfl⟩
 ·rw [Nat.zero_add] at hj
  obtain ⟨h1, y, h2, h3⟩ := hr j c hj
  simpa [h2] using h3
theorem step_iad {t e : TypeId} {x i : Operand} {x' i' : Opd} (ho : o.op = .indexAddr t x i) (hx : cO x = some x') (hi : cO i = some i') (hu : P.underlying t = some (.slice e)) (hz : P.cellsOf e ≠ 0)
  (h : Sim gl N w0 Pr φ s a w) (hd : ∀ t, o.dst = some t → t < N) (hst : Step P gl o.dst (.iad (P.cellsOf e) x' i') hs s K) (ha : After gl N w0 Pr K next) : o.wp P a w next Q := by
 have hi2 : (P.info? e).isSome = true := by
  cases hh : P.info? e with
  | none => simp [Program.cellsOf, hh] at hz
  | some _ => rfl
 have run : ∀ ad n cap k j, a.eval x = .slice (some ad) n cap → a.eval i = .int k j → 0 ≤ j → j < n →
   (execOp a.eval o).run P w = .ok (.value (.pointer (some (ad.add (j.toNat * P.cellsOf e))))) w := by
  intro ad n cap k j he hj h0 h1
  simp [execOp, ho, Instr.indexAt, Sem.run_bind, Result.andThen, run_underlying hu, he, hj, asIntOf, run_size hi2, h0, h1]
 simp only [Step] at hst
 split at hst
 ·rename_i wd n f k j ec hs' hxv hiv
  obtain ⟨h1, h2⟩ := ev_sound h hx hxv
  have ei := (ev_sound h hi hiv).1.int_inv
  split at hst
  ·rename_i hwd
   subst hwd
   obtain ⟨⟨hj0, hjn⟩, hec, hst⟩ := hst
   subst hec
   rcases h1.sl_inv with ⟨rfl, he⟩ | ⟨ad, cap, he, hn, hcap, hlen, hel⟩
   ·omega
   ·have hlt : j.toNat < n := by omega
    refine fin_value h hd (run ad n cap k j he ei hj0 hjn) (.mkPd (DR.pd_of_ex (cs := f j.toNat) fun q c hq => ?_)) (by simp [AV.keys, AC.keys, AC.keys0]) hst ha
    rw [Addr.add_block, Addr.add_add]
    exact hel j.toNat q c hlt hq
  ·exact hst.elim
 ·rename_i kk wd off n k j hs' hxv hiv
  obtain ⟨h1, h2⟩ := ev_sound h hx hxv
  have ei := (ev_sound h hi hiv).1.int_inv
  split at hst
  ·rename_i hwd
   subst hwd
   split at hst
   ·rename_i blk hb
    obtain ⟨⟨hj0, hjn⟩, hst⟩ := hst
    rcases h1.own_inv h hb with ⟨_, he, rfl, _, _⟩ | ⟨b, arr, T, cap, hf, he, hn, hcap, hh, hB⟩
    ·omega
    ·refine fin_value h hd (run _ n cap k j he ei hj0 hjn) (v := .c (.pa kk (P.cellsOf e) (pl off j.toNat) 0)) ?_ (by simpa [AV.keys, AC.keys, AC.keys0] using h2) hst ha
     have e3 : pl off j.toNat = off + j.toNat := by cases off <;> simp [pl]
     rw [Addr.add_flat, ← Nat.add_mul, e3]
     exact .mkPa hf
   ·exact hst.elim
  ·exact hst.elim
 ·rename_i wd n f k j ec hs' hxv hiv
  obtain ⟨h1, h2⟩ := ev_sound h hx hxv
  have ei := (ev_sound h hi hiv).1.int_inv
  split at hst
  ·rename_i hwd
   subst hwd
   obtain ⟨⟨hj0, hjn⟩, hec, hst⟩ := hst
   subst hec
   rcases VR.lv_inv (φ := φ) h1 with ⟨rfl, he⟩ | ⟨ad, cap, g, he, hn, hcap, hsp, hr, hdd⟩
   ·omega
   ·have hlt : j.toNat < n := by omega
    obtain ⟨b, o', sp⟩ := ad
    have := hsp (by omega) (by omega)
    simp only at this
    subst this
    refine fin_value h hd (run _ n cap k j he ei hj0 hjn) (v := .c (.lp (f j.toNat) 0)) ?_ (by simp [AV.keys, AC.keys, AC.keys0]) hst ha
    rw [Addr.add_flat]
    show DR Pr w (.lp (f j.toNat) 0) _
    refine .lp _ _ b _ (fun q => g j.toNat q) (fun q c hq => ?_) (fun q c u hq hg => hdd _ q c u hlt (by rw [← hq, Nat.zero_add]) hg)
    have := hr j.toNat q c hlt (by rw [← hq, Nat.zero_add])
    rw [Nat.add_assoc]; exact this
  ·exact hst.elim
 ·exact hst.elim
theorem DR.pd_at {cs : List AC} {i j n : Nat} {ad : Addr} (h : DR Pr w (.pd cs i) (.pointer (some ad))) (ec : List AC) (he : (cs.drop (i + j)).take n = ec) : DR Pr w (.pd ec 0) (.pointer (some (ad.add j))) := by
 have h' := DR.pd_shift (off := j) h
 cases h' with
 | pd _ _ _ g hr hd =>
  refine DR.pd_of_ex fun q c hq => ?_
  rw [← he, List.getElem?_take, List.getElem?_drop] at hq
  split at hq
  ·exact ⟨(hr q c hq).1, _, (hr q c hq).2, hd q c hq⟩
  ·cases hq
theorem step_iar {t e : TypeId} {n : Nat} {x i : Operand} {x' i' : Opd} (ho : o.op = .indexAddr t x i) (hx : cO x = some x') (hi : cO i = some i') (hu : P.underlying t = some (.array n e)) (hz : P.cellsOf e ≠ 0)
  (h : Sim gl N w0 Pr φ s a w) (hd : ∀ t, o.dst = some t → t < N) (hst : Step P gl o.dst (.iar n (P.cellsOf e) x' i') hs s K) (ha : After gl N w0 Pr K next) : o.wp P a w next Q := by
 have hi2 : (P.info? e).isSome = true := by
  cases hh : P.info? e with
  | none => simp [Program.cellsOf, hh] at hz
  | some _ => rfl
 have run : ∀ ad k j, a.eval x = .pointer (some ad) → a.eval i = .int k j → 0 ≤ j → j < n →
   (execOp a.eval o).run P w = .ok (.value (.pointer (some (ad.add (j.toNat * P.cellsOf e))))) w := by
  intro ad k j he hj h0 h1
  simp [execOp, ho, Instr.indexAt, Sem.run_bind, Result.andThen, run_underlying hu, he, hj, asIntOf, run_size hi2, h0, h1, Instr.sureAddr]
 simp only [Step] at hst
 split at hst
 ·rename_i k q kj j m hs' hxv hiv
  obtain ⟨h1, h2⟩ := ev_sound h hx hxv
  have ei := (ev_sound h hi hiv).1.int_inv
  split at hst
  ·rename_i blk hb
   obtain ⟨⟨hj, hm⟩, hst⟩ := hst
   obtain ⟨b, arr, T, hfk, he, hh, hB⟩ := VR.pk_inv h h1 hb
   refine fin_value h hd (run _ _ j he ei (by omega) (by omega)) (v := .c (.pk k (q + m * P.cellsOf e))) ?_ (by simpa [AV.keys, AC.keys, AC.keys0] using h2) hst ha
   rw [Addr.add_flat, show j.toNat = m by omega]; exact .mkPk hfk
  ·exact hst.elim
 ·rename_i k wd' ei' q kj j m hs' hxv hiv
  obtain ⟨h1, h2⟩ := ev_sound h hx hxv
  have ei := (ev_sound h hi hiv).1.int_inv
  split at hst
  ·rename_i blk hb
   obtain ⟨⟨hj, hm⟩, hst⟩ := hst
   obtain ⟨b, arr, T, hfk, he, hh, hB⟩ := VR.pa_inv h h1 hb
   refine fin_value h hd (run _ _ j he ei (by omega) (by omega)) (v := .c (.pa k wd' ei' (q + m * P.cellsOf e))) ?_ (by simpa [AV.keys, AC.keys, AC.keys0] using h2) hst ha
   rw [Addr.add_flat, show j.toNat = m by omega, Nat.add_assoc]; exact .mkPa hfk
  ·exact hst.elim
 ·rename_i cs q kj j m hs' hxv hiv
  obtain ⟨h1, h2⟩ := ev_sound h hx hxv
  have ei := (ev_sound h hi hiv).1.int_inv
  obtain ⟨⟨hj, hm⟩, hst⟩ := hst
  obtain ⟨ad, he, _⟩ := h1.pd_inv
  rw [he] at h1
  refine fin_value h hd (run _ _ j he ei (by omega) (by omega)) (v := .c (.pd cs (q + m * P.cellsOf e))) ?_ (by simp [AV.keys, AC.keys, AC.keys0]) hst ha
  rw [show j.toNat = m by omega]; exact .mkPd (DR.pd_shift h1)
 ·rename_i cs q kj j ec hs' hxv hiv
  obtain ⟨h1, h2⟩ := ev_sound h hx hxv
  have ei := (ev_sound h hi hiv).1.int_inv
  obtain ⟨⟨hj, hm⟩, hec, hst⟩ := hst
  obtain ⟨ad, he, _⟩ := h1.pd_inv
  rw [he] at h1
  exact fin_value h hd (run _ _ j he ei hj hm) (v := .c (.pd ec 0)) (.mkPd (DR.pd_at h1 ec hec)) (by simp [AV.keys, AC.keys, AC.keys0]) hst ha
 ·exact hst.elim
theorem step_nck {x : Operand} {x' : Opd} (ho : o.op = .nilCheck x) (hx : cO x = some x')
  (h : Sim gl N w0 Pr φ s a w) (hd : ∀ t, o.dst = some t → t < N) (hst : Step P gl o.dst (.nck x') hs s K) (ha : After gl N w0 Pr K next) : o.wp P a w next Q := by
 have run : ∀ ad, a.eval x = .pointer (some ad) → (execOp a.eval o).run P w = .ok (.value (a.eval x)) w := by
  intro ad he
  simp [execOp, ho, he]
 simp only [Step] at hst
 split at hst
 ·rename_i k j hxv
  obtain ⟨h1, h2⟩ := ev_sound h hx hxv
  split at hst
  ·rename_i blk hb
   obtain ⟨b, arr, T, hfk, he, hh, hB⟩ := VR.pk_inv h h1 hb
   exact fin_value h hd (run _ he) (v := .c (.pk k j)) h1 h2 hst ha
  ·exact hst.elim
 ·rename_i k wd j q hxv
  obtain ⟨h1, h2⟩ := ev_sound h hx hxv
  split at hst
  ·rename_i blk hb
   obtain ⟨b, arr, T, hfk, he, hh, hB⟩ := VR.pa_inv h h1 hb
   exact fin_value h hd (run _ he) (v := .c (.pa k wd j q)) h1 h2 hst ha
  ·exact hst.elim
 ·rename_i cs j hxv
  obtain ⟨h1, h2⟩ := ev_sound h hx hxv
  obtain ⟨ad, he, _⟩ := h1.pd_inv
  exact fin_value h hd (run _ he) (v := .c (.pd cs j)) h1 h2 hst ha
 ·exact hst.elim
theorem run_isn {t e : TypeId} {x : Value} (ht : P.underlying t = some (.slice e)) (b : Bool) (hx : (b = true ∧ x = .slice none 0 0) ∨ (b = false ∧ ∃ a n c, x = .slice (some a) n c)) : (Op.equal t x (.slice none 0 0)).run P w = .ok b w := by
 unfold Op.equal
 rw [show Op.maxDepth = 9999 + 1 from rfl, Op.equalIn]
 rcases hx with ⟨rfl, rfl⟩ | ⟨rfl, a, n, c, rfl⟩ <;> (simp only [Sem.run_bind, run_underlying ht, Result.andThen_ok]; rfl)
theorem step_isn {ng : Bool} {op : BinOp} {t t' e : TypeId} {x y : Operand} {x' : Opd}
  (ho : o.op = .binOp op t x y t') (hop : (op = .eql ∧ ng = false) ∨ (op = .neq ∧ ng = true)) (hx : cO x = some x') (hy : cO y = some (.v .nil)) (ht : P.underlying t = some (.slice e))
  (h : Sim gl N w0 Pr φ s a w) (hd : ∀ t, o.dst = some t → t < N) (hst : Step P gl o.dst (.isn ng x') hs s K) (ha : After gl N w0 Pr K next) : o.wp P a w next Q := by
 have ey : a.eval y = .slice none 0 0 := by
  have h1 : DR Pr w .nil (a.eval y) := (ev_sound h hy (v := .c .nil) rfl).1
  generalize a.eval y = z at h1 ⊢; cases h1; rfl
 have guard : ∀ v : Value, (∃ q n c, v = .slice q n c) → (eqGuard op t x y v (.slice none 0 0)).run P w = .ok () w := by
  rintro v ⟨q, n, c, rfl⟩
  unfold eqGuard
  rcases hop with ⟨rfl, _⟩ | ⟨rfl, _⟩ <;> simp <;> rfl
 have fin : ∀ b : Bool, ((b = true ∧ a.eval x = .slice none 0 0) ∨ (b = false ∧ ∃ q n c, a.eval x = .slice (some q) n c)) → K hs (s.pu o.dst (.c (.bool (bif ng then !b else b)))) → o.wp P a w next Q := by
  intro b hb hK
  have hsl : ∃ q n c, a.eval x = .slice q n c := by rcases hb with ⟨_, e⟩ | ⟨_, q, n, c, e⟩ <;> exact ⟨_, _, _, e⟩
  have hg := guard _ hsl
  have he := run_isn (w := w) ht b hb
  obtain ⟨q, n, c, e⟩ := hsl
  rw [e] at hg he
  rcases hop with ⟨rfl, rfl⟩ | ⟨rfl, rfl⟩
  ·exact fin_bool h hd (by simp [execOp, ho, e, ey, Sem.run_bind, Result.andThen, hg, binOp, he]) hK ha
  ·exact fin_bool h hd (by simp [execOp, ho, e, ey, Sem.run_bind, Result.andThen, hg, binOp, he]) hK ha
 simp only [Step] at hst
 split at hst
 ·rename_i hxv
  have h1 : DR Pr w .nil (a.eval x) := (ev_sound h hx hxv).1
  refine fin true (.inl ⟨rfl, ?_⟩) (by cases ng <;> exact hst)
  generalize a.eval x = z at h1 ⊢; cases h1; rfl
 ·rename_i wd n f hxv
  have h1 : DR Pr w (.ns (.sl wd n f)) (a.eval x) := (ev_sound h hx hxv).1
  refine fin false (.inr ⟨rfl, ?_⟩) (by cases ng <;> exact hst)
  cases h1 with
  | ns _ _ h2 hv =>
   generalize a.eval x = z at h2 hv ⊢
   cases h2 with
   | slN => exact absurd rfl hv
   | sl => exact ⟨_, _, _, rfl⟩
 ·exact hst.elim
theorem step_ext {x : Operand} {x' : Opd} {i : Nat} (ho : o.op = .extract x i) (hx : cO x = some x')
  (h : Sim gl N w0 Pr φ s a w) (hd : ∀ t, o.dst = some t → t < N) (hst : Step P gl o.dst (.ext x' i) hs s K) (ha : After gl N w0 Pr K next) : o.wp P a w next Q := by
 simp only [Step] at hst
 split at hst
 ·rename_i ps hxv
  obtain ⟨h1, h2⟩ := ev_sound h hx hxv
  obtain ⟨g, he, hg⟩ := h1
  have run : ∀ p, ps[i]? = some p → (execOp a.eval o).run P w = .ok (.value (g i)) w := by
   intro p hp
   have hlt : i < ps.length := (List.getElem?_eq_some_iff.1 hp).1
   simp [execOp, ho, he, Instr.extract, Sem.run_bind, Result.andThen, hlt]
  have hk : ∀ p, ps[i]? = some p → ∀ k ∈ p.2.flatMap AC.keys, k ∈ s.u := fun p hp k hk' => h2 k (List.mem_flatMap.2 ⟨p, List.mem_of_getElem? hp, hk'⟩)
  split at hst
  ·rename_i c hp
   exact fin_value h hd (run _ hp) (v := .c c) (hg i _ hp) (by simpa [AV.keys] using hk _ hp) hst ha
  ·rename_i cs hp
   exact fin_value h hd (run _ hp) (v := .agg cs) (hg i _ hp) (hk _ hp) hst ha
  ·exact hst.elim
 ·exact hst.elim
theorem step_ixs {t : TypeId} {x i : Operand} {x' i' : Opd} (ho : o.op = .index t x i) (hx : cO x = some x') (hi : cO i = some i') (hu : P.underlying t = some .string)
  (h : Sim gl N w0 Pr φ s a w) (hd : ∀ t, o.dst = some t → t < N) (hst : Step P gl o.dst (.ixs x' i') hs s K) (ha : After gl N w0 Pr K next) : o.wp P a w next Q := by
 simp only [Step] at hst
 split at hst
 ·rename_i l k j hxv hiv
  have ex := (ev_sound h hx hxv).1.str_inv
  have ei := (ev_sound h hi hiv).1.int_inv
  obtain ⟨⟨h0, h1⟩, hst⟩ := hst
  have hlt : j.toNat < l.length := by omega
  have hb : (⟨l.toArray⟩ : ByteArray)[j.toNat]? = some (l.getD j.toNat 0) := by
   have hz : (⟨l.toArray⟩ : ByteArray).size = l.length := List.size_toArray
   rw [getElem?_pos _ _ (by rw [hz]; exact hlt)]
   simp [List.getD, List.getElem?_eq_getElem hlt]
   rfl
  exact fin_int h hd (by simp [execOp, ho, Instr.index, Sem.run_bind, Result.andThen, run_underlying hu, ex, ei, asIntOf, h0, hb]) hst ha
 ·exact hst.elim
end
section
variable {P : Program} {gl : Nat → Option (List AC)} {N : Nat} {w0 : Wk} {Pr : PrT} {φ : Nat → Option (Option Nat)} {s : St} {a : Act} {w : World}
 {o : Oper} {hs : List Hint} {K : List Hint → St → Prop} {next : Act → World → Prop} {Q : Exit → Act → World → Prop}
def Fits (Pr : PrT) (φ : Nat → Option (Option Nat)) (w : World) (u : List Nat) (arr : Array Value) : Blk → Prop
 | .var cs _ => cellsR (KR Pr φ w) cs arr.toList ∧ ∀ j ∈ cs.flatMap AC.keys, j ∈ u
 | .arr wd n f _ => 0 < wd ∧ n * wd ≤ arr.size ∧ arr.size ≤ maxLen * wd ∧ ∀ i, i < n → (f i).length = wd ∧ ∀ (j : Nat) (c : AC), (f i)[j]? = some c → ∃ v, arr[i * wd + j]? = some v ∧ DR Pr w c v
theorem not_mem_of_elem {u : List Nat} {k : Nat} (h : u.elem k = false) : k ∉ u := by
 intro hm
 have : u.elem k = true := List.elem_eq_true_of_mem hm
 rw [h] at this; cases this
theorem Sim.al' (h : Sim gl N w0 Pr φ s a w) {k : Nat} (hk : s.u.elem k = false) (hkN : k < 1000000 ∨ k < N) {arr : Array Value} {T : TypeId} {blk : Blk} (hz : blk.fz = false) (hc : Fits Pr φ w s.u arr blk) :
  ∃ φ', φ' k = some (some w.heap.size) ∧ Sim gl N w0 Pr φ' (s.al k blk) a (w.alloc (.cells arr T)) := by
 have hk' := not_mem_of_elem hk
 have hb : Below w.heap.size w (w.alloc (.cells arr T)) := (Below.refl _ _).alloc (Nat.le_refl _) _
 have hsz : (w.alloc (.cells arr T)).heap.size = w.heap.size + 1 := Array.size_push _
 have hnew : (w.alloc (.cells arr T)).heap[w.heap.size]? = some (.cells arr T (0, 0)) := by
  show (w.heap.push _)[w.heap.size]? = _
  simp
 have h' := h.grow (Pr' := Pr) (Bel.of hb h.ex.th) (.refl _) (fun b x => ⟨by rw [hsz]; have := h.pr b x; omega, fun _ => x⟩)
 have hfk : φ k = none := h.lv k (by cases hh : s.h k with | none => rfl | some _ => exact absurd (h.ku k (by simp [hh])) hk')
 let φ' : Nat → Option (Option Nat) := fun j => if j = k then some (some w.heap.size) else φ j
 have hne : ∀ j, j ∈ s.u → φ' j = φ j := fun j hj => by simp only [φ']; rw [if_neg (fun (e : j = k) => hk' (e ▸ hj))]
 have hs : ∀ j b, φ j = some (some b) → bsize (w.alloc (.cells arr T)) b = bsize w b := fun j b hj => by unfold bsize; rw [hb.block b (h.lt hj)]
 have hw : ∀ b, Pr b → (w.alloc (.cells arr T)).heap[b]? = w.heap[b]? := fun b hb' => hb.block b (h.pr b hb')
 have hkr : ∀ c v, (∀ j ∈ c.keys, j ∈ s.u) → KR Pr φ w c v → KR Pr φ' (w.alloc (.cells arr T)) c v := fun c v hj hc => hc.mono (.refl _) hw (fun j hj' p hp => by rw [hne j (hj j hj')] at hp; exact hp) hs
 refine ⟨φ', by simp [φ'], ⟨h.sz, fun t v ht => ?_, fun j b hj => ?_, fun j hj => ?_, fun j j' b hj hj' => ?_, fun j b bk hj hf => ?_, fun j hj => ?_, fun t v ht j hj => ?_, fun j bk hj q hq => ?_, h'.pr, h'.gk, h.df, h'.bl, ?_, ?_⟩⟩
 ·obtain ⟨x, h1, h2⟩ := h.tm t v ht
  exact ⟨x, h1, h2.mono fun c hc v => hkr c v fun j hj => h.ke t _ ht j (by rw [AV.keys_eq]; exact List.mem_flatMap.2 ⟨c, hc, hj⟩)⟩
 ·simp only [St.al] at hj
  by_cases e : j = k
  ·subst e
   simp only [nbt, cond_true, Option.some.injEq] at hj
   subst hj
   refine ⟨some w.heap.size, by simp [φ'], ?_⟩
   cases blk with
   | var cs z => exact ⟨_, arr, T, rfl, hnew, hc.1.mono fun c hc' v => hkr c v fun q hq => hc.2 q (List.mem_flatMap.2 ⟨c, hc', hq⟩)⟩
   | arr wd n f z => exact ⟨hc.1, .inr ⟨_, arr, T, rfl, hnew, hc.2.1, hc.2.2.1, fun i hi => ⟨(hc.2.2.2 i hi).1, fun q c hq => by
     obtain ⟨v, h1, h2⟩ := (hc.2.2.2 i hi).2 q c hq
     exact ⟨v, h1, h2.mono (.refl _) hw⟩⟩⟩⟩
  ·simp only [nbf e, cond_false] at hj
   obtain ⟨p, h1, h2⟩ := h.hp j b hj
   refine ⟨p, by simp only [φ']; rw [if_neg e]; exact h1, ?_⟩
   cases b with
   | var cs z =>
    obtain ⟨b, arr', T', h3, h4, h5⟩ := h2
    subst h3
    exact ⟨b, arr', T', rfl, by rw [hb.block b (h.lt h1)]; exact h4, h5.mono fun c hc' v => hkr c v fun q hq => h.kh j _ hj q (List.mem_flatMap.2 ⟨c, hc', hq⟩)⟩
   | arr wd n f z =>
    obtain ⟨h0, h3 | ⟨b, arr', T', h3, h4, h5, h5', h6⟩⟩ := h2
    ·exact ⟨h0, .inl h3⟩
    ·subst h3
     refine ⟨h0, .inr ⟨b, arr', T', rfl, by rw [hb.block b (h.lt h1)]; exact h4, h5, h5', fun i hi => ⟨(h6 i hi).1, fun q c hq => ?_⟩⟩⟩
     obtain ⟨v, h7, h8⟩ := (h6 i hi).2 q c hq
     exact ⟨v, h7, h8.mono (.refl _) hw⟩
 ·simp only [St.al] at hj
  by_cases e : j = k
  ·subst e; simp [nbt] at hj
  ·simp only [nbf e, cond_false] at hj
   simp only [φ']; rw [if_neg e]; exact h.lv j hj
 ·simp only [φ'] at hj hj'
  by_cases e : j = k <;> by_cases e' : j' = k
  ·rw [e, e']
  ·rw [if_pos e] at hj; rw [if_neg e'] at hj'; cases hj; exact absurd (h.lt hj') (by omega)
  ·rw [if_neg e] at hj; rw [if_pos e'] at hj'; cases hj'; exact absurd (h.lt hj) (by omega)
  ·rw [if_neg e] at hj; rw [if_neg e'] at hj'; exact h.inj j j' b hj hj'
 ·simp only [St.al] at hj
  simp only [φ'] at hf
  by_cases e : j = k
  ·subst e
   simp only [nbt, cond_true, Option.some.injEq] at hj
   subst hj
   rw [if_pos rfl] at hf; cases hf
   exact ⟨h.bl.nk (Nat.le_refl _), fun hp => absurd (h.pr _ hp) (by omega), fun hp => by rw [hz] at hp; cases hp⟩
  ·simp only [nbf e, cond_false] at hj
   rw [if_neg e] at hf
   exact h.ow j b bk hj hf
 ·simp only [St.al] at hj ⊢
  by_cases e : j = k
  ·subst e; simp
  ·simp only [nbf e, cond_false] at hj
   exact List.mem_cons_of_mem _ (h.ku j hj)
 ·exact List.mem_cons_of_mem _ (h.ke t v ht j hj)
 ·simp only [St.al] at hj ⊢
  by_cases e : j = k
  ·subst e
   simp only [nbt, cond_true, Option.some.injEq] at hj
   subst hj
   cases blk with
   | var cs z => exact List.mem_cons_of_mem _ (hc.2 q hq)
   | arr wd n f z => simp [Blk.keys] at hq
  ·simp only [nbf e, cond_false] at hj
   exact List.mem_cons_of_mem _ (h.kh j bk hj q hq)
 ·intro j p hp
  obtain ⟨h1, h2⟩ := h.pn j p hp
  have e : j ≠ k := by omega
  refine ⟨h1, ?_⟩
  simp only [St.al, nbf e, cond_false, φ', if_neg e]
  exact h2
 ·refine Ext.world (h.ex.phiNew fun j b hj => ?_) fun b hb' => hb.block b (h.ex.th.lt hb')
  simp only [φ'] at hj
  by_cases e : j = k
  ·rw [if_pos e] at hj; cases hj; exact .inr (Nat.le_refl _)
  ·rw [if_neg e] at hj; exact .inl ⟨j, hj⟩
theorem Sim.al (h : Sim gl N w0 Pr φ s a w) {k : Nat} (hk : s.u.elem k = false) (hkN : k < N) {arr : Array Value} {T : TypeId} {blk : Blk} (hz : blk.fz = false) (hc : Fits Pr φ w s.u arr blk) :
  ∃ φ', φ' k = some (some w.heap.size) ∧ Sim gl N w0 Pr φ' (s.al k blk) a (w.alloc (.cells arr T)) := h.al' hk (.inr hkN) hz hc
theorem run_zero {t : TypeId} {cs : List AC} (h : zeroC P t = some cs) : ∃ v : Value, (zeroValue t).run P w = .ok v w ∧ cellsR (DR Pr w) cs v.cells.toList ∧ ∃ i, P.info? t = some i ∧ i.zero = some v := by
 unfold zeroC at h
 split at h
 ·rename_i i hi
  split at h
  ·rename_i v hv
   refine ⟨v, by simp [zeroValue, typeInfo, program, Sem.run_bind, Result.andThen, hi, hv, Sem.run], ?_, i, hi, hv⟩
   have key : ∀ (l : List Value) (cs : List AC), l.mapM (fun x => match cV x with | some (.v c) => some c | _ => none) = some cs → cellsR (DR Pr w) cs l := by
    intro l
    induction l with
    | nil => intro cs hm; simp at hm; subst hm; exact ⟨rfl, by simp⟩
    | cons x r ih =>
     intro cs hm
     simp only [List.mapM_cons, Option.bind_eq_bind, Option.bind_eq_some_iff, Option.pure_def, Option.some.injEq] at hm
     obtain ⟨c, hc, cs', hcs, rfl⟩ := hm
     obtain ⟨h1, h2⟩ := ih cs' hcs
     refine ⟨by simp [h1], fun j c' v' hc' hv' => ?_⟩
     cases j with
     | zero =>
      simp only [List.getElem?_cons_zero, Option.some.injEq] at hc' hv'
      subst hc' hv'
      unfold cV at hc
      split at hc <;> first | cases hc | skip
      ·rename_i hq; split at hq <;> first | cases hq | skip
       ·exact .int ..
       ·exact .bool ..
       ·rename_i s'
        have := DR.str (Pr := Pr) (w := w) s'.data.toList
        rw [Array.toArray_toList] at this
        exact this
       ·exact .nil
       ·exact .raw _ rfl
       ·exact .raw _ rfl
       ·exact .raw _ rfl
     | succ j => exact h2 j c' v' (by simpa using hc') (by simpa using hv')
   exact key _ _ h
  ·cases h
 ·cases h
theorem AV.one_cells {v : AV} {vc : List AC} (h : v.one = some vc) : v.cells = vc := by
 cases v <;> simp [AV.one] at h <;> simp [AV.cells, h]
theorem VR.one_cells {R : AC → Value → Prop} {v : AV} {x : Value} (hn : ∀ c y, R c y → y.oneCell' = true) (h : VR R v x) {vc : List AC} (h1 : v.one = some vc) : cellsR R vc x.cells.toList := by
 cases v with
 | c y =>
  simp only [AV.one, Option.some.injEq] at h1; subst h1
  have hx : x.cells = #[x] := by
   have := hn y x h
   cases x <;> first | rfl | (simp [Value.oneCell'] at this)
  rw [hx]
  refine ⟨rfl, fun i c v hc hv => ?_⟩
  cases i with
  | zero => simp at hc hv; subst hc hv; exact h
  | succ i => simp at hc
 | agg xs =>
  simp only [AV.one, Option.some.injEq] at h1; subst h1
  obtain ⟨vs, h2, h3⟩ := h
  subst h2
  exact h3
 | tup xs => simp [AV.one] at h1
theorem step_box {t : TypeId} {x : Operand} {x' : Opd} (ho : o.op = .box t x) (hx : cO x = some x')
  (h : Sim gl N w0 Pr φ s a w) (hd : ∀ t, o.dst = some t → t < N) (hst : Step P gl o.dst (.box (P.cellsOf t) x') hs s K) (ha : After gl N w0 Pr K next) : o.wp P a w next Q := by
 simp only [Step] at hst
 split at hst
 ·rename_i k v hk hxv
  obtain ⟨h1, h2⟩ := ev_sound h hx hxv
  split at hst
  ·rename_i vc hke hone
   split at hst
   ·rename_i hlen
    have hc := VR.one_cells (fun c y hy => KR.one hy) h1 hone
    obtain ⟨φ', hf, hsim⟩ := h.al (T := t) hke (hd _ hk) (arr := (a.eval x).cells) (blk := .var vc false) rfl ⟨hc, fun j hj => h2 j (by rw [AV.keys_eq, AV.one_cells hone]; exact hj)⟩
    unfold Oper.wp
    rw [show (execOp a.eval o).run P w = .ok (.value (.pointer (some ⟨w.heap.size, 0, none⟩))) (w.alloc (.cells (a.eval x).cells t)) by
     simp [execOp, ho, Instr.box, newVar, newRow, newObj, Sem.run_bind, Result.andThen, Sem.run]]
    rw [hk] at hst
    have hpu := hsim.pu (d := o.dst) hd (v := .c (.pk k 0)) (.mkPk hf) (by simp [AV.keys, AC.keys, AC.keys0, St.al])
    rw [hk] at hpu
    show next (a.put o.dst _) _
    rw [hk]
    exact ha _ _ _ _ _ _ hst hpu (PrS.refl _ _)
   ·exact hst.elim
  ·exact hst.elim
 ·exact hst.elim
theorem step_alloc {t : TypeId} {z : List AC} (ho : o.op = .alloc t) (hz : zeroC P t = some z)
  (h : Sim gl N w0 Pr φ s a w) (hd : ∀ t, o.dst = some t → t < N) (hst : Step P gl o.dst (.alloc z) hs s K) (ha : After gl N w0 Pr K next) : o.wp P a w next Q := by
 simp only [Step] at hst
 split at hst
 ·rename_i k hk
  split at hst
  ·rename_i hke
   obtain ⟨v, hr, hcs, _⟩ := run_zero (Pr := Pr) (w := w) hz
   have hkk : ∀ j ∈ z.flatMap AC.keys, j ∈ s.u := by
    intro j hj
    obtain ⟨c, hc, hjc⟩ := List.mem_flatMap.1 hj
    obtain ⟨q, hq⟩ := List.mem_iff_getElem?.1 hc
    obtain ⟨y, _, h8⟩ := hcs.get hq
    rw [(KR.of_dr (φ := φ) h8).2] at hjc; cases hjc
   obtain ⟨φ', hf, hsim⟩ := h.al (T := t) hke (hd _ hk) (arr := v.cells) (blk := .var z false) rfl ⟨hcs.mono fun c _ y hy => (KR.of_dr hy).1, hkk⟩
   unfold Oper.wp
   rw [show (execOp a.eval o).run P w = .ok (.value (.pointer (some ⟨w.heap.size, 0, none⟩))) (w.alloc (.cells v.cells t)) by
    simp [execOp, ho, Instr.alloc, newVar, newRow, newObj, Sem.run_bind, Result.andThen, Sem.run, hr]]
   rw [hk] at hst
   have hpu := hsim.pu (d := o.dst) hd (v := .c (.pk k 0)) (.mkPk hf) (by simp [AV.keys, AC.keys, AC.keys0, St.al])
   rw [hk] at hpu
   show next (a.put o.dst _) _
   rw [hk]
   exact ha _ _ _ _ _ _ hst hpu (PrS.refl _ _)
  ·exact hst.elim
 ·exact hst.elim
end
section
variable {P : Program} {gl : Nat → Option (List AC)} {N : Nat} {w0 : Wk} {Pr : PrT} {φ : Nat → Option (Option Nat)} {s : St} {a : Act} {w : World}
 {o : Oper} {hs : List Hint} {K : List Hint → St → Prop} {next : Act → World → Prop} {Q : Exit → Act → World → Prop}
theorem Pin.sh (hp : Pin w0 N φ s.h) {k : Nat} {b blk : Blk} (hk : s.h k = some blk) : Pin w0 N φ (s.sh k b).h :=
 hp.of (fun j _ _ hj => by
  have e : j ≠ k := fun e => by rw [e, hk] at hj; cases hj
  simp only [St.sh, nbf e, cond_false]; exact hj) fun j p _ _ hj => .inr hj
theorem bsize_setRow {b : Nat} {cur arr : Array Value} {T : TypeId} {q : Nat × Nat} (hcur : w.heap[b]? = some (.cells cur T q)) (hsz : arr.size = cur.size) (j : Nat) : bsize (w.setRow b arr) j = bsize w j := by
 by_cases e : j = b
 ·subst e; simp [bsize, setRow_heap w j cur arr T q hcur, hcur, hsz]
 ·unfold bsize; rw [setRow_other w b j arr e]
theorem keep_setRow (h : Keep w0 w) {b : Nat} (hb : ¬ w0.K b) (arr : Array Value) (hs : ∀ j, bsize (w.setRow b arr) j = bsize w j) : Keep w0 (w.setRow b arr) :=
 ⟨h.os, h.tape, h.output, by rw [setRow_size]; exact h.size, fun j hj => by rw [setRow_other w b j arr (fun e => hb (e ▸ hj))]; exact h.block j hj, fun j hj => (hs j).trans (h.bs j hj)⟩
theorem Sim.wr (h : Sim gl N w0 Pr φ s a w) {k b : Nat} {blk blk' : Blk} (hk : s.h k = some blk) (hf : φ k = some (some b)) (hz : blk.fz = false) (hz' : blk'.fz = false)
  {cur arr : Array Value} {T : TypeId} (hcur : w.heap[b]? = some (.cells cur T (0, 0))) (hsz : arr.size = cur.size) (hc : Fits Pr φ w s.u arr blk') :
  Sim gl N w0 Pr φ (s.sh k blk') a (w.setRow b arr) := by
 have how := h.ow k b blk hk hf
 have hnp : ¬ Pr b := fun hp => by have := how.2.1 hp; rw [hz] at this; cases this
 have hother : ∀ j, j ≠ b → (w.setRow b arr).heap[j]? = w.heap[j]? := fun j hj => setRow_other w b j arr hj
 have hnew : (w.setRow b arr).heap[b]? = some (.cells arr T (0, 0)) := setRow_heap w b cur arr T (0, 0) hcur
 have hw : ∀ j, Pr j → (w.setRow b arr).heap[j]? = w.heap[j]? := fun j hj => hother j (fun e => hnp (e ▸ hj))
 have hs : ∀ j c, φ j = some (some c) → bsize (w.setRow b arr) c = bsize w c := fun j c hj => by
  by_cases e : c = b
  ·subst e; simp [bsize, hnew, hcur, hsz]
  ·unfold bsize; rw [hother c e]
 have hkr : ∀ c v, KR Pr φ w c v → KR Pr φ (w.setRow b arr) c v := fun c v hc => hc.mono (.refl _) hw (fun _ _ _ hp => hp) hs
 have hsize : (w.setRow b arr).heap.size = w.heap.size := setRow_size w b arr
 refine ⟨h.sz, fun t v ht => ?_, fun j bk hj => ?_, fun j hj => ?_, h.inj, fun j c bk hj hfj => ?_, fun j hj => ?_, h.ke, fun j bk hj q hq => ?_, fun j hj => by rw [hsize]; exact h.pr j hj,
  fun g cs hg => (h.gk g cs hg).mono (.refl _) fun b hb => hw b hb.1, h.df, keep_setRow h.bl how.1 arr (bsize_setRow hcur hsz), ?_, h.ex.world fun j hj => hother j fun e => h.ex.df j hj k (e ▸ hf)⟩
 ·obtain ⟨x, h1, h2⟩ := h.tm t v ht
  exact ⟨x, h1, h2.mono fun c _ v => hkr c v⟩
 ·simp only [St.sh] at hj
  by_cases e : j = k
  ·subst e
   simp only [nbt, cond_true, Option.some.injEq] at hj
   subst hj
   refine ⟨some b, hf, ?_⟩
   cases blk' with
   | var cs z => exact ⟨_, arr, T, rfl, hnew, hc.1.mono fun c _ v => hkr c v⟩
   | arr wd n f z => exact ⟨hc.1, .inr ⟨_, arr, T, rfl, hnew, hc.2.1, hc.2.2.1, fun i hi => ⟨(hc.2.2.2 i hi).1, fun q c hq => by
     obtain ⟨v, h1, h2⟩ := (hc.2.2.2 i hi).2 q c hq
     exact ⟨v, h1, h2.mono (.refl _) hw⟩⟩⟩⟩
  ·simp only [nbf e, cond_false] at hj
   obtain ⟨p, h1, h2⟩ := h.hp j bk hj
   refine ⟨p, h1, ?_⟩
   have hpb : ∀ c, p = some c → c ≠ b := fun c hc' e2 => e (h.inj j k b (by rw [h1, hc', e2]) hf)
   cases bk with
   | var cs z =>
    obtain ⟨c, arr', T', h3, h4, h5⟩ := h2
    exact ⟨c, arr', T', h3, by rw [hother c (hpb c h3)]; exact h4, h5.mono fun c _ v => hkr c v⟩
   | arr wd n f z =>
    obtain ⟨h0, h3 | ⟨c, arr', T', h3, h4, h5, h5', h6⟩⟩ := h2
    ·exact ⟨h0, .inl h3⟩
    ·refine ⟨h0, .inr ⟨c, arr', T', h3, by rw [hother c (hpb c h3)]; exact h4, h5, h5', fun i hi => ⟨(h6 i hi).1, fun q c hq => ?_⟩⟩⟩
     obtain ⟨v, h7, h8⟩ := (h6 i hi).2 q c hq
     exact ⟨v, h7, h8.mono (.refl _) hw⟩
 ·simp only [St.sh] at hj
  by_cases e : j = k
  ·subst e; simp [nbt] at hj
  ·simp only [nbf e, cond_false] at hj; exact h.lv j hj
 ·simp only [St.sh] at hj
  by_cases e : j = k
  ·subst e
   simp only [nbt, cond_true, Option.some.injEq] at hj
   subst hj
   rw [hf] at hfj; cases hfj
   exact ⟨how.1, fun hp => absurd hp hnp, fun hp => by rw [hz'] at hp; cases hp⟩
  ·simp only [nbf e, cond_false] at hj; exact h.ow j c bk hj hfj
 ·simp only [St.sh] at hj
  by_cases e : j = k
  ·subst e; exact h.ku j (by rw [hk]; simp)
  ·simp only [nbf e, cond_false] at hj; exact h.ku j hj
 ·simp only [St.sh] at hj
  by_cases e : j = k
  ·subst e
   simp only [nbt, cond_true, Option.some.injEq] at hj
   subst hj
   cases blk' with
   | var cs z => exact hc.2 q hq
   | arr wd n f z => simp [Blk.keys] at hq
  ·simp only [nbf e, cond_false] at hj; exact h.kh j bk hj q hq
 ·exact h.pn.sh hk
theorem Sim.drop (h : Sim gl N w0 Pr φ s a w) (k : Nat) : Sim gl N w0 Pr (fun j => if j = k then none else φ j) (s.dr k) a w := by
 have hkr : ∀ c v, KR Pr φ w c v → KR Pr (fun j => if j = k then none else φ j) w c v := fun c v hc => hc.mono (.refl _) (fun _ _ => rfl)
  (fun j _ p hp => by by_cases e : j = k <;> simp [e] at hp; exact hp) (fun _ _ _ => rfl)
 have hh : ∀ j bk, (s.dr k).h j = some bk → j ≠ k ∧ s.h j = some bk := fun j bk hj => by
  simp only [St.dr] at hj
  by_cases e : j = k
  ·subst e; simp [nbt] at hj
  ·simp only [nbf e, cond_false] at hj; exact ⟨e, hj⟩
 refine ⟨h.sz, fun t v ht => ?_, fun j bk hj => ?_, fun j hj => ?_, fun j j' b hj hj' => ?_, fun j c bk hj hfj => ?_, fun j hj => ?_, h.ke, fun j bk hj => h.kh j bk (hh j bk hj).2, h.pr, h.gk, h.df, h.bl, ?_, h.ex.phi fun j b hj => by (repeat' split at hj) <;> first | (cases hj; done) | exact ⟨_, hj⟩⟩
 ·obtain ⟨x, h1, h2⟩ := h.tm t v ht
  exact ⟨x, h1, h2.mono fun c _ v => hkr c v⟩
 ·obtain ⟨e, hj⟩ := hh j bk hj
  obtain ⟨p, h1, h2⟩ := h.hp j bk hj
  refine ⟨p, by simp [e, h1], ?_⟩
  cases bk with
  | var cs z => obtain ⟨c, arr', T', h3, h4, h5⟩ := h2; exact ⟨c, arr', T', h3, h4, h5.mono fun c _ v => hkr c v⟩
  | arr wd n f z => exact h2
 ·by_cases e : j = k
  ·simp [e]
  ·simp only [St.dr, nbf e, cond_false] at hj
   simp only [e, if_false]; exact h.lv j hj
 ·by_cases e : j = k <;> by_cases e' : j' = k <;> simp [e, e'] at hj hj'
  exact h.inj j j' b hj hj'
 ·obtain ⟨e, hj⟩ := hh j bk hj
  simp [e] at hfj
  exact h.ow j c bk hj hfj
 ·cases hq : (s.dr k).h j with
  | none => exact absurd hq hj
  | some bk => exact h.ku j (by rw [(hh j bk hq).2]; simp)
 ·refine h.pn.of (fun j _ _ hj => ?_) fun j p _ _ hj => ?_
  ·simp only [St.dr]; cases Nat.beq j k <;> simp [hj]
  ·by_cases e : j = k
   ·exact .inl (by simp only [St.dr, e, nbt, cond_true])
   ·exact .inr (by simp only [if_neg e]; exact hj)
theorem Sim.alnil (h : Sim gl N w0 Pr φ s a w) {k : Nat} (hk : s.u.elem k = false) (hkN : k < 1000000 ∨ k < N) {wd : Nat} {f : Nat → List AC} (hw : 0 < wd) :
  Sim gl N w0 Pr (fun j => if j = k then some none else φ j) (s.al k (.arr wd 0 f false)) a w := by
 have hk' := not_mem_of_elem hk
 have hkr : ∀ c v, (∀ j ∈ c.keys, j ∈ s.u) → KR Pr φ w c v → KR Pr (fun j => if j = k then some none else φ j) w c v := fun c v hj hc => hc.mono (.refl _) (fun _ _ => rfl)
  (fun j hj' p hp => by rw [if_neg (fun (e : j = k) => hk' (e ▸ hj j hj'))] at hp; exact hp) (fun _ _ _ => rfl)
 have hh : ∀ j bk, (s.al k (.arr wd 0 f false)).h j = some bk → (j = k ∧ bk = .arr wd 0 f false) ∨ (j ≠ k ∧ s.h j = some bk) := fun j bk hj => by
  simp only [St.al] at hj
  by_cases e : j = k
  ·subst e; simp [nbt] at hj; exact .inl ⟨rfl, hj.symm⟩
  ·simp only [nbf e, cond_false] at hj; exact .inr ⟨e, hj⟩
 refine ⟨h.sz, fun t v ht => ?_, fun j bk hj => ?_, fun j hj => ?_, fun j j' b hj hj' => ?_, fun j c bk hj hfj => ?_, fun j hj => ?_, fun t v ht j hj => List.mem_cons_of_mem _ (h.ke t v ht j hj), fun j bk hj q hq => ?_, h.pr, h.gk, h.df, h.bl, ?_, h.ex.phi fun j b hj => by (repeat' split at hj) <;> first | (cases hj; done) | exact ⟨_, hj⟩⟩
 ·obtain ⟨x, h1, h2⟩ := h.tm t v ht
  exact ⟨x, h1, h2.mono fun c hc v => hkr c v fun j hj => h.ke t _ ht j (by rw [AV.keys_eq]; exact List.mem_flatMap.2 ⟨c, hc, hj⟩)⟩
 ·rcases hh j bk hj with ⟨rfl, rfl⟩ | ⟨e, hj⟩
  ·exact ⟨none, by simp, hw, .inl ⟨rfl, rfl⟩⟩
  ·obtain ⟨p, h1, h2⟩ := h.hp j bk hj
   refine ⟨p, by simp [e, h1], ?_⟩
   cases bk with
   | var cs z => obtain ⟨c, arr', T', h3, h4, h5⟩ := h2; exact ⟨c, arr', T', h3, h4, h5.mono fun c hc v => hkr c v fun q hq => h.kh j _ hj q (List.mem_flatMap.2 ⟨c, hc, hq⟩)⟩
   | arr wd n f z => exact h2
 ·simp only [St.al] at hj
  by_cases e : j = k
  ·subst e; simp [nbt] at hj
  ·simp only [nbf e, cond_false] at hj
   simp only [e, if_false]; exact h.lv j hj
 ·by_cases e : j = k <;> by_cases e' : j' = k <;> simp [e, e'] at hj hj'
  exact h.inj j j' b hj hj'
 ·rcases hh j bk hj with ⟨rfl, rfl⟩ | ⟨e, hj⟩
  ·simp at hfj
  ·simp [e] at hfj; exact h.ow j c bk hj hfj
 ·cases hq : (s.al k (.arr wd 0 f false)).h j with
  | none => exact absurd hq hj
  | some bk =>
   rcases hh j bk hq with ⟨rfl, _⟩ | ⟨e, hq⟩
   ·simp [St.al]
   ·exact List.mem_cons_of_mem _ (h.ku j (by rw [hq]; simp))
 ·rcases hh j bk hj with ⟨rfl, rfl⟩ | ⟨e, hj⟩
  ·simp [Blk.keys] at hq
  ·exact List.mem_cons_of_mem _ (h.kh j bk hj q hq)
 ·refine h.pn.of (fun j h1 h2 hj => ?_) fun j p h1 h2 hj => ?_
  ·have e : j ≠ k := by omega
   simp only [St.al, nbf e, cond_false]; exact hj
  ·have e : j ≠ k := by omega
   exact .inr (by simp only [if_neg e]; exact hj)
theorem Sim.rn (h : Sim gl N w0 Pr φ s a w) {k kd : Nat} {blk : Blk} (hk : s.h k = some blk) (hkd : s.u.elem kd = false) (hkN : kd < N) :
  Sim gl N w0 Pr (fun j => if j = kd then φ k else if j = k then none else φ j) ((s.dr k).al kd blk) a w := by
 have hk' := not_mem_of_elem hkd
 have hku : k ∈ s.u := h.ku k (by rw [hk]; simp)
 have hne : k ≠ kd := fun e => hk' (e ▸ hku)
 have hkr : ∀ c v, (∀ j ∈ c.keys, j ∈ s.u) → KR Pr φ w c v → KR Pr (fun j => if j = kd then φ k else if j = k then none else φ j) w c v := fun c v hj hc => hc.mono (.refl _) (fun _ _ => rfl)
  (fun j hj' p hp => by
   rw [if_neg (fun (e : j = kd) => hk' (e ▸ hj j hj'))] at hp
   by_cases e : j = k <;> simp [e] at hp
   exact hp) (fun _ _ _ => rfl)
 have hh : ∀ j bk, ((s.dr k).al kd blk).h j = some bk → (j = kd ∧ bk = blk) ∨ (j ≠ kd ∧ j ≠ k ∧ s.h j = some bk) := fun j bk hj => by
  simp only [St.al, St.dr] at hj
  by_cases e : j = kd
  ·subst e; simp [nbt] at hj; exact .inl ⟨rfl, hj.symm⟩
  ·simp only [nbf e, cond_false] at hj
   by_cases e' : j = k
   ·subst e'; simp [nbt] at hj
   ·simp only [nbf e', cond_false] at hj; exact .inr ⟨e, e', hj⟩
 have hbr : ∀ j p bk, s.h j = some bk → BR Pr φ w p bk → BR Pr (fun j => if j = kd then φ k else if j = k then none else φ j) w p bk := fun j p bk hj h2 => by
  cases bk with
  | var cs z => obtain ⟨c, arr', T', h3, h4, h5⟩ := h2; exact ⟨c, arr', T', h3, h4, h5.mono fun c hc v => hkr c v fun q hq => h.kh j _ hj q (List.mem_flatMap.2 ⟨c, hc, hq⟩)⟩
  | arr wd n f z => exact h2
 refine ⟨h.sz, fun t v ht => ?_, fun j bk hj => ?_, fun j hj => ?_, fun j j' b hj hj' => ?_, fun j c bk hj hfj => ?_, fun j hj => ?_, fun t v ht j hj => List.mem_cons_of_mem _ (h.ke t v ht j hj), fun j bk hj q hq => ?_, h.pr, h.gk, h.df, h.bl, ?_, h.ex.phi fun j b hj => by (repeat' split at hj) <;> first | (cases hj; done) | exact ⟨_, hj⟩⟩
 ·obtain ⟨x, h1, h2⟩ := h.tm t v ht
  exact ⟨x, h1, h2.mono fun c hc v => hkr c v fun j hj => h.ke t _ ht j (by rw [AV.keys_eq]; exact List.mem_flatMap.2 ⟨c, hc, hj⟩)⟩
 ·rcases hh j bk hj with ⟨rfl, rfl⟩ | ⟨e, e', hj⟩
  ·obtain ⟨p, h1, h2⟩ := h.hp k bk hk
   exact ⟨p, by simp [h1], hbr k p bk hk h2⟩
  ·obtain ⟨p, h1, h2⟩ := h.hp j bk hj
   exact ⟨p, by simp [e, e', h1], hbr j p bk hj h2⟩
 ·simp only [St.al, St.dr] at hj
  by_cases e : j = kd
  ·subst e; simp [nbt] at hj
  ·simp only [nbf e, cond_false] at hj
   by_cases e' : j = k
   ·simp [e, e', hne]
   ·simp only [nbf e', cond_false] at hj
    simp only [e, e', if_false]; exact h.lv j hj
 ·have hinj := h.inj
  by_cases e : j = kd <;> by_cases e' : j' = kd
  ·rw [e, e']
  ·simp only [e, e', if_true, if_false] at hj hj'
   by_cases e2 : j' = k <;> simp [e2] at hj'
   exact absurd (hinj k j' b hj hj') (fun e3 => e2 e3.symm)
  ·simp only [e, e', if_true, if_false] at hj hj'
   by_cases e2 : j = k <;> simp [e2] at hj
   exact absurd (hinj j k b hj hj') e2
  ·simp only [e, e', if_false] at hj hj'
   by_cases e2 : j = k <;> by_cases e3 : j' = k <;> simp [e2, e3] at hj hj'
   exact hinj j j' b hj hj'
 ·rcases hh j bk hj with ⟨rfl, rfl⟩ | ⟨e, e', hj⟩
  ·simp at hfj; exact h.ow k c bk hk hfj
  ·simp [e, e'] at hfj; exact h.ow j c bk hj hfj
 ·cases hq : ((s.dr k).al kd blk).h j with
  | none => exact absurd hq hj
  | some bk =>
   rcases hh j bk hq with ⟨rfl, _⟩ | ⟨e, e', hq⟩
   ·simp [St.al]
   ·exact List.mem_cons_of_mem _ (h.ku j (by rw [hq]; simp))
 ·rcases hh j bk hj with ⟨rfl, rfl⟩ | ⟨e, e', hj⟩
  ·exact List.mem_cons_of_mem _ (h.kh k bk hk q hq)
  ·exact List.mem_cons_of_mem _ (h.kh j bk hj q hq)
 ·refine h.pn.of (fun j h1 h2 hj => ?_) fun j p h1 h2 hj => ?_
  ·have e : j ≠ kd := by omega
   simp only [St.al, St.dr, nbf e, cond_false]; cases Nat.beq j k <;> simp [hj]
  ·have e : j ≠ kd := by omega
   by_cases e' : j = k
   ·exact .inl (by subst e'; simp only [St.al, St.dr, nbf e, cond_false, nbt, cond_true])
   ·exact .inr (by simp only [if_neg e, if_neg e']; exact hj)
theorem Sim.wrTh (h : Sim gl N w0 Pr φ s a w) {b i : Nat} {kd : Kd} {x : Value} (ht : Pr.Θ b i = some kd) (hk : KindOk kd x) {cur arr : Array Value} {T : TypeId} (hcur : w.heap[b]? = some (.cells cur T (0, 0)))
  (hi : arr[i]? = some x) (hq : ∀ q, q ≠ i → arr[q]? = cur[q]?) (hsz : arr.size = cur.size) : Sim gl N w0 Pr φ s a (w.setRow b arr) := by
 have hdom : Pr.dom b := ⟨i, by rw [ht]; simp⟩
 have hnew : (w.setRow b arr).heap[b]? = some (.cells arr T (0, 0)) := setRow_heap w b cur arr T (0, 0) hcur
 have hsize : (w.setRow b arr).heap.size = w.heap.size := setRow_size w b arr
 have hother : ∀ j, j ≠ b → (w.setRow b arr).heap[j]? = w.heap[j]? := fun j hj => setRow_other w b j arr hj
 refine h.grow (Pr' := Pr) ⟨rfl, rfl, rfl, Nat.le_of_eq hsize.symm, fun j hj hd => hother j fun e => hd (e ▸ hdom), fun c o s hs => ?_, fun j _ => bsize_setRow hcur hsz j⟩ (.refl _) (fun j hj => ⟨by rw [hsize]; exact h.pr j hj, fun _ => hj⟩)
 obtain ⟨arr', T', y, h1, h2, h3⟩ := h.ex.th c o s hs
 by_cases e : c = b
 ·subst e
  rw [hcur] at h1; cases h1
  by_cases e2 : o = i
  ·subst e2
   rw [ht] at hs; cases hs
   exact ⟨arr, T, x, hnew, hi, hk⟩
  ·exact ⟨arr, T, y, hnew, by rw [hq o e2]; exact h2, h3⟩
 ·exact ⟨arr', T', y, by rw [hother c e]; exact h1, h2, h3⟩
end
theorem setC_length (vc : List AC) : ∀ (cs : List AC) (i : Nat), (setC cs i vc).length = cs.length := by
 induction vc with
 | nil => intro cs i; rfl
 | cons c r ih => intro cs i; simp [setC, ih]
theorem setC_get (vc : List AC) : ∀ (cs : List AC) (i j : Nat), i + vc.length ≤ cs.length →
  (setC cs i vc)[j]? = if i ≤ j ∧ j < i + vc.length then vc[j - i]? else cs[j]? := by
 induction vc with
 | nil => intro cs i j h; simp [setC]; omega
 | cons c r ih =>
  intro cs i j h
  simp only [List.length_cons] at h
  rw [setC, ih _ _ _ (by simp; omega)]
  by_cases h1 : i + 1 ≤ j ∧ j < i + 1 + r.length
  ·rw [if_pos h1, if_pos (by simp; omega), show j - i = (j - (i + 1)) + 1 by omega, List.getElem?_cons_succ]
  ·rw [if_neg h1]
   by_cases h2 : j = i
   ·subst h2
    rw [if_pos (by simp), List.getElem?_set_self (by omega)]
    simp
   ·rw [if_neg (by simp; omega), List.getElem?_set_ne (fun e => h2 e.symm)]
theorem splice_get (l vs : List Value) (i j : Nat) (h : i + vs.length ≤ l.length) :
  (l.take i ++ vs ++ l.drop (i + vs.length))[j]? = if i ≤ j ∧ j < i + vs.length then vs[j - i]? else l[j]? := by
 by_cases h1 : j < i
 ·rw [List.append_assoc, List.getElem?_append_left (by simp; omega), if_neg (by omega), List.getElem?_take_of_lt h1]
 ·by_cases h2 : j < i + vs.length
  ·rw [List.append_assoc, List.getElem?_append_right (by simp; omega), if_pos (by omega), List.getElem?_append_left (by simp; omega)]
   simp only [List.length_take]
   congr 1; omega
  ·rw [if_neg (by omega), List.getElem?_append_right (by simp; omega), List.getElem?_drop]
   simp only [List.length_append, List.length_take]
   congr 1; omega
section
variable {P : Program} {gl : Nat → Option (List AC)} {N : Nat} {w0 : Wk} {Pr : PrT} {φ : Nat → Option (Option Nat)} {s : St} {a : Act} {w : World}
 {o : Oper} {hs : List Hint} {K : List Hint → St → Prop} {next : Act → World → Prop} {Q : Exit → Act → World → Prop}
theorem cellsR.one {R : AC → Value → Prop} {xs : List AC} {vs : List Value} (hn : ∀ c y, R c y → y.oneCell' = true) (h : cellsR R xs vs) : ∀ v ∈ vs, v.oneCell' = true := by
 intro v hv
 obtain ⟨i, hi⟩ := List.mem_iff_getElem?.1 hv
 have hlt : i < xs.length := by have := (List.getElem?_eq_some_iff.1 hi).1; rw [h.1] at this; exact this
 exact hn xs[i] v (h.2 i _ v (List.getElem?_eq_getElem hlt) hi)
theorem run_storeVar {t : TypeId} {b i : Nat} {v : Value} {cur : Array Value} {T : TypeId} (hi : (P.info? t).isSome = true) (hsz : v.cells.size = P.cellsOf t)
  (hh : w.heap[b]? = some (.cells cur T (0, 0))) (hfit : i + v.cells.size ≤ cur.size) (h1 : ∀ u ∈ v.cells.toList, u.oneCell' = true) :
  (storeVar t ⟨b, i, none⟩ v).run P w = .ok () (w.setRow b (cur.toList.take i ++ v.cells.toList ++ cur.toList.drop (i + v.cells.toList.length)).toArray) := by
 have hst := run_storeCells_at P b i T v.cells.toList 0 cur w hh (by simpa using hfit) h1
 simp only [Nat.add_zero] at hst
 simp only [storeVar, Sem.run_bind, run_size hi, Result.andThen_ok, hsz, ne_eq, not_true_eq_false, if_false, Sem.run_pure, hst]
theorem KR.isD {c : AC} {v : Value} (h : KR Pr φ w c v) (hd : c.isD = true) : DR Pr w c v := by
 cases c <;> first | exact h | (simp [AC.isD] at hd)
theorem step_store {t : TypeId} {x y : Operand} {x' y' : Opd} (ho : o.op = .store t x y) (hx : cO x = some x') (hy : cO y = some y') (hi : (P.info? t).isSome = true) (hod : o.dst = none)
  (h : Sim gl N w0 Pr φ s a w) (hd : ∀ t, o.dst = some t → t < N) (hst : Step P gl o.dst (.store (P.cellsOf t) x' y') hs s K) (ha : After gl N w0 Pr K next) : o.wp P a w next Q := by
 have fin : ∀ (ad : Addr) w' s' hs', a.eval x = .pointer (some ad) → (storeVar t ad (a.eval y)).run P w = .ok () w' → K hs' s' → Sim gl N w0 Pr φ s' a w' → o.wp P a w next Q := by
  intro ad w' s' hs' he hr hK hsim
  unfold Oper.wp
  rw [show (execOp a.eval o).run P w = .ok .skip w' by
   simp [execOp, ho, Instr.storeAt, he, Instr.sureAddr, Sem.run_bind, Result.andThen, hr]]
  show next (a.put o.dst undef) w'
  rw [hod]
  exact ha _ _ _ _ _ _ hK hsim (PrS.refl _ _)
 simp only [Step] at hst
 split at hst
 ·rename_i k i v hxv hyv
  obtain ⟨h1, h2⟩ := ev_sound h hx hxv
  obtain ⟨h3, h4⟩ := ev_sound h hy hyv
  split at hst
  ·rename_i cs vc hb hone
   split at hst
   ·rename_i hlen
    split at hst
    ·rename_i hfit
     obtain ⟨b, arr, T, hf, he, hh, hB⟩ := VR.pk_inv h h1 hb
     obtain ⟨b', arr', T', e1, hh', hcs⟩ := hB
     cases e1
     rw [hh] at hh'
     cases hh'
     have hvc := VR.one_cells (fun c y hy => KR.one hy) h3 hone
     have hvl : (a.eval y).cells.toList.length = vc.length := hvc.1
     have hvs : (a.eval y).cells.size = P.cellsOf t := by rw [← Array.length_toList, hvl, hlen]
     have hal : arr.size = cs.length := by rw [← Array.length_toList]; exact hcs.1
     have hkk : ∀ j ∈ (setC cs i vc).flatMap AC.keys, j ∈ s.u := by
      intro j hj
      obtain ⟨c, hc, hjc⟩ := List.mem_flatMap.1 hj
      obtain ⟨q, hq⟩ := List.mem_iff_getElem?.1 hc
      rw [setC_get vc cs i q (by omega)] at hq
      split at hq
      ·exact h4 j (by rw [AV.keys_eq, AV.one_cells hone]; exact List.mem_flatMap.2 ⟨c, List.mem_of_getElem? hq, hjc⟩)
      ·exact h.kh k _ hb j (List.mem_flatMap.2 ⟨c, List.mem_of_getElem? hq, hjc⟩)
     refine fin ⟨b, i, none⟩ _ _ _ he (run_storeVar hi hvs hh (by omega) (hvc.one fun c y hy => KR.one hy)) hst (h.wr hb hf rfl rfl hh ?_ ⟨⟨?_, ?_⟩, hkk⟩)
     ·simp only [List.size_toArray, List.length_append, List.length_take, List.length_drop, Array.length_toList]; omega
     ·simp only [List.length_append, List.length_take, List.length_drop, Array.length_toList, setC_length]; omega
     ·intro q c u hc hu
      rw [setC_get vc cs i q (by omega)] at hc
      simp only [] at hu
      rw [splice_get _ _ _ _ (by rw [hvl]; have hL : arr.toList.length = arr.size := Array.length_toList; omega), hvl] at hu
      split at hc
      ·rename_i hq; rw [if_pos hq] at hu; exact hvc.2 _ c u hc hu
      ·rename_i hq; rw [if_neg hq] at hu; exact hcs.2 _ c u hc hu
    ·exact hst.elim
   ·exact hst.elim
  ·exact hst.elim
 ·rename_i k wd i q v hxv hyv
  obtain ⟨h1, h2⟩ := ev_sound h hx hxv
  obtain ⟨h3, h4⟩ := ev_sound h hy hyv
  split at hst
  ·rename_i wd' n f vc n' f' hs' hb hone
   split at hst
   ·rename_i hwd
    subst hwd
    split at hst
    ·rename_i hlen
     obtain ⟨hdat, hin, hfit, hset, hst⟩ := hst
     obtain ⟨b, arr, T, hf, he, hh, hB⟩ := VR.pa_inv h h1 hb
     obtain ⟨hw0, hB | ⟨b', arr', T', e1, hh', hnsz, hmx, hel⟩⟩ := hB
     ·cases hB.1
     ·cases e1
      rw [hh] at hh'
      cases hh'
      have hvc := VR.one_cells (fun c y hy => KR.one hy) h3 hone
      have hvl : (a.eval y).cells.toList.length = vc.length := hvc.1
      have hvs : (a.eval y).cells.size = P.cellsOf t := by rw [← Array.length_toList, hvl, hlen]
      have hrow : i * wd + wd ≤ arr.size := by
       have : (i + 1) * wd ≤ n * wd := Nat.mul_le_mul_right _ hin
       rw [Nat.add_mul] at this; omega
      refine fin ⟨b, i * wd + q, none⟩ _ _ _ he (run_storeVar hi hvs hh (by omega) (hvc.one fun c y hy => KR.one hy)) hst (h.wr hb hf rfl rfl hh ?_ ⟨hw0, ?_, ?_, ?_⟩)
      ·simp only [List.size_toArray, List.length_append, List.length_take, List.length_drop, Array.length_toList]; omega
      ·simp only [List.size_toArray, List.length_append, List.length_take, List.length_drop, Array.length_toList]; omega
      ·simp only [List.size_toArray, List.length_append, List.length_take, List.length_drop, Array.length_toList]; omega
      ·intro j hj
       rw [hset j hj]
       have hget : ∀ r, (arr.toList.take (i * wd + q) ++ (a.eval y).cells.toList ++ arr.toList.drop (i * wd + q + (a.eval y).cells.toList.length)).toArray[r]? =
         if i * wd + q ≤ r ∧ r < i * wd + q + vc.length then (a.eval y).cells.toList[r - (i * wd + q)]? else arr[r]? := by
        intro r
        rw [List.getElem?_toArray, splice_get _ _ _ _ (by rw [hvl]; have hL : arr.toList.length = arr.size := Array.length_toList; omega), hvl]
        simp
       by_cases hji : j = i
       ·subst hji
        rw [if_pos rfl]
        refine ⟨by rw [setC_length]; exact (hel j hj).1, fun r c hc => ?_⟩
        rw [setC_get vc _ q r (by rw [(hel j hj).1]; omega)] at hc
        rw [hget]
        split at hc
        ·rename_i hr
         rw [if_pos (by omega)]
         obtain ⟨u, h5, h6⟩ := hvc.get hc
         refine ⟨u, by rw [show j * wd + r - (j * wd + q) = r - q by omega]; exact h5, KR.isD h6 ?_⟩
         exact List.all_eq_true.1 hdat c (List.mem_of_getElem? hc)
        ·rename_i hr
         rw [if_neg (by omega)]
         exact (hel j hj).2 r c hc
       ·rw [if_neg hji]
        refine ⟨(hel j hj).1, fun r c hc => ?_⟩
        have hr : r < wd := by have := (List.getElem?_eq_some_iff.1 hc).1; rw [(hel j hj).1] at this; exact this
        rw [hget, if_neg]
        ·exact (hel j hj).2 r c hc
        ·intro hcon
         rcases Nat.lt_or_gt_of_ne hji with h7 | h7
         ·have : (j + 1) * wd ≤ i * wd := Nat.mul_le_mul_right _ h7
          rw [Nat.add_mul] at this; omega
         ·have : (i + 1) * wd ≤ j * wd := Nat.mul_le_mul_right _ h7
          rw [Nat.add_mul] at this; omega
    ·exact hst.elim
   ·exact hst.elim
  ·exact hst.elim
 ·rename_i cs i c hxv hyv
  obtain ⟨h1, h2⟩ := ev_sound h hx hxv
  obtain ⟨h3, h4⟩ := ev_sound h hy hyv
  obtain ⟨b, o', g, he, hr, _⟩ := VR.lp_inv (φ := φ) h1
  split at hst
  ·rename_i c0 hw1 hc0
   obtain ⟨hsk, hst⟩ := hst
   obtain ⟨hΘ, hkd⟩ := hr 0 c0 (by simpa using hc0)
   rw [Nat.add_zero] at hΘ
   obtain ⟨arr, T, y0, k1, k2, k3⟩ := h.ex.th b o' _ hΘ
   have hone : (a.eval y).oneCell' = true := KR.one h3
   have hcell : (a.eval y).cells = #[a.eval y] := by
    generalize a.eval y = z at hone
    cases z <;> first | rfl | (simp [Value.oneCell'] at hone)
   have hlt : o' < arr.size := (Array.getElem?_eq_some_iff.1 k2).1
   have hko : KindOk (g 0) (a.eval y) := by
    unfold sameK at hsk
    split at hsk
    ·have e := of_decide_eq_true hsk; subst e
     cases hg : g 0 with
     | int k => rw [hg] at hkd; have e : k = _ := hkd; subst e; exact ⟨_, h3.int_inv⟩
     | bool => rw [hg] at hkd; exact hkd.elim
     | str => rw [hg] at hkd; exact hkd.elim
     | fix u => rw [hg] at hkd; exact hkd.elim
    ·cases hg : g 0 with
     | bool => exact ⟨_, h3.bool_inv⟩
     | int k => rw [hg] at hkd; exact hkd.elim
     | str => rw [hg] at hkd; exact hkd.elim
     | fix u => rw [hg] at hkd; exact hkd.elim
    ·cases hg : g 0 with
     | str => exact ⟨_, h3.str_inv⟩
     | int k => rw [hg] at hkd; exact hkd.elim
     | bool => rw [hg] at hkd; exact hkd.elim
     | fix u => rw [hg] at hkd; exact hkd.elim
    ·cases hsk
   have hL : arr.toList.length = arr.size := Array.length_toList
   refine fin ⟨b, o', none⟩ _ _ _ he (run_storeVar hi (by rw [hcell, hw1]; rfl) k1 (by rw [hcell]; show o' + 1 ≤ _; omega) (by rw [hcell]; simp [hone])) hst (h.wrTh hΘ hko k1 ?_ (fun q hq => ?_) ?_)
   ·rw [hcell, List.getElem?_toArray, splice_get _ _ _ _ (by simp; omega)]
    simp
   ·rw [hcell, List.getElem?_toArray, splice_get _ _ _ _ (by simp; omega), if_neg (by simp; omega)]
    simp
   ·rw [hcell]
    simp only [List.size_toArray, List.length_append, List.length_take, List.length_drop, List.length_cons, List.length_nil]; omega
  ·exact hst.elim
 ·exact hst.elim
end
section
variable {P : Program} {gl : Nat → Option (List AC)} {N : Nat} {w0 : Wk} {Pr : PrT} {φ : Nat → Option (Option Nat)} {s : St} {a : Act} {w : World}
 {o : Oper} {hs : List Hint} {K : List Hint → St → Prop} {next : Act → World → Prop} {Q : Exit → Act → World → Prop}
theorem VR.mkOwn {k wd off n b cap : Nat} (hf : φ k = some (some b)) (hc : n ≤ cap) (hz : (off + cap) * wd ≤ bsize w b) : VR (KR Pr φ w) (.c (.own k wd off n)) (.slice (some ⟨b, off * wd, none⟩) n cap) :=
 show KR0 Pr φ w (.own k wd off n) _ from ⟨rfl, fun p hp => by rw [hf] at hp; cases hp; exact ⟨cap, rfl, hc, hz⟩⟩
theorem VR.mkOwnNil {k wd : Nat} (hf : φ k = some none) : VR (KR Pr φ w) (.c (.own k wd 0 0)) (.slice none 0 0) :=
 show KR0 Pr φ w (.own k wd 0 0) _ from ⟨rfl, fun p hp => by rw [hf] at hp; cases hp; exact ⟨rfl, rfl, rfl⟩⟩
theorem DR.sl_of_ex {wd n cap : Nat} {f : Nat → List AC} {ad : Addr} (hn : n ≤ cap) (hc : cap ≤ maxLen) (hl : ∀ i, i < n → (f i).length = wd)
  (hr : ∀ (i j : Nat) c, i < n → (f i)[j]? = some c → Pr ad.block ∧ ∃ y, w.cell? (ad.add (i * wd + j)) = some y ∧ DR Pr w c y) : DR Pr w (.sl wd n f) (.slice (some ad) n cap) := by
 refine .sl wd n f ad cap (fun i j => (w.cell? (ad.add (i * wd + j))).getD undef) hn hc hl (fun i j c hi hj => ?_) (fun i j c hi hj => ?_)
 ·obtain ⟨h1, y, h2, h3⟩ := hr i j c hi hj; exact ⟨h1, by rw [h2]; rfl⟩
 ·obtain ⟨h1, y, h2, h3⟩ := hr i j c hi hj; simpa [h2] using h3
theorem Sim.fzk (h : Sim gl N w0 Pr φ s a w) {k : Nat} {blk blk' : Blk} (hk : s.h k = some blk) (hb : (∃ cs z, blk = .var cs z ∧ blk' = .var cs true) ∨ ∃ wd n f z, blk = .arr wd n f z ∧ blk' = .arr wd n f true) :
  ∃ Pr', (PrS w0 gl Pr Pr' ∧ Pr.Le Pr') ∧ (∀ b, φ k = some (some b) → Pr' b) ∧ (∀ b, Pr' b ↔ Pr b ∨ φ k = some (some b)) ∧ Sim gl N w0 Pr' φ (s.sh k blk') a w := by
 let Pr' : PrT := { Pr with p := fun b => Pr b ∨ φ k = some (some b) }
 have hp : Pr.Le Pr' := ⟨fun b x => .inl x, rfl, rfl⟩
 have hfz : blk'.fz = true := by rcases hb with ⟨cs, z, _, rfl⟩ | ⟨wd, n, f, z, _, rfl⟩ <;> rfl
 have hkr : ∀ c v, KR Pr φ w c v → KR Pr' φ w c v := fun c v hc => hc.mono hp (fun _ _ => rfl) (fun _ _ _ x => x) (fun _ _ _ => rfl)
 have hbr : ∀ p bk, BR Pr φ w p bk → BR Pr' φ w p bk := fun p bk h2 => by
  cases bk with
  | var cs z => obtain ⟨c, arr', T', h3, h4, h5⟩ := h2; exact ⟨c, arr', T', h3, h4, h5.mono fun c _ v => hkr c v⟩
  | arr wd n f z =>
   obtain ⟨h0, h3 | ⟨c, arr', T', h3, h4, h5, h5', h6⟩⟩ := h2
   ·exact ⟨h0, .inl h3⟩
   ·exact ⟨h0, .inr ⟨c, arr', T', h3, h4, h5, h5', fun i hi => ⟨(h6 i hi).1, fun q c hq => by
     obtain ⟨v, h7, h8⟩ := (h6 i hi).2 q c hq
     exact ⟨v, h7, h8.mono hp (fun _ _ => rfl)⟩⟩⟩⟩
 have hbr' : ∀ p, BR Pr φ w p blk → BR Pr' φ w p blk' := fun p h2 => by
  rcases hb with ⟨cs, z, rfl, rfl⟩ | ⟨wd, n, f, z, rfl, rfl⟩
  ·exact hbr p (.var cs true) h2
  ·exact hbr p (.arr wd n f true) h2
 have hkeys : blk'.keys = blk.keys := by rcases hb with ⟨cs, z, rfl, rfl⟩ | ⟨wd, n, f, z, rfl, rfl⟩ <;> rfl
 have hh : ∀ j bk, (s.sh k blk').h j = some bk → (j = k ∧ bk = blk') ∨ (j ≠ k ∧ s.h j = some bk) := fun j bk hj => by
  simp only [St.sh] at hj
  by_cases e : j = k
  ·subst e; simp [nbt] at hj; exact .inl ⟨rfl, hj.symm⟩
  ·simp only [nbf e, cond_false] at hj; exact .inr ⟨e, hj⟩
 refine ⟨Pr', ⟨.mk' hp fun b x => x.elim .inl fun y => .inr (h.ow k b blk hk y).1, hp⟩, fun b x => .inr x, fun b => Iff.rfl,
  ⟨h.sz, fun t v ht => ?_, fun j bk hj => ?_, fun j hj => ?_, h.inj, fun j c bk hj hfj => ?_, fun j hj => ?_, h.ke, fun j bk hj q hq => ?_, fun b hb' => ?_, fun g cs hg => (h.gk g cs hg).mono hp.old (fun _ _ => rfl), h.df, h.bl, ?_, h.ex.prs hp fun b hb x => x.elim (h.ex.dp b hb) (h.ex.df b hb k)⟩⟩
 ·obtain ⟨x, h1, h2⟩ := h.tm t v ht
  exact ⟨x, h1, h2.mono fun c _ v => hkr c v⟩
 ·rcases hh j bk hj with ⟨rfl, rfl⟩ | ⟨e, hj⟩
  ·obtain ⟨p, h1, h2⟩ := h.hp _ _ hk; exact ⟨p, h1, hbr' p h2⟩
  ·obtain ⟨p, h1, h2⟩ := h.hp _ _ hj; exact ⟨p, h1, hbr p bk h2⟩
 ·simp only [St.sh] at hj
  by_cases e : j = k
  ·subst e; simp [nbt] at hj
  ·simp only [nbf e, cond_false] at hj; exact h.lv j hj
 ·rcases hh j bk hj with ⟨rfl, rfl⟩ | ⟨e, hj⟩
  ·exact ⟨(h.ow _ c _ hk hfj).1, fun _ => hfz, fun _ => .inr hfj⟩
  ·obtain ⟨h1, h2⟩ := h.ow j c bk hj hfj
   exact ⟨h1, fun x => x.elim h2.1 fun y => absurd (h.inj j k c hfj y) e, fun x => .inl (h2.2 x)⟩
 ·cases hq : (s.sh k blk').h j with
  | none => exact absurd hq hj
  | some bk =>
   rcases hh j bk hq with ⟨rfl, _⟩ | ⟨e, hq⟩
   ·exact h.ku _ (by rw [hk]; simp)
   ·exact h.ku j (by rw [hq]; simp)
 ·rcases hh j bk hj with ⟨rfl, rfl⟩ | ⟨e, hj⟩
  ·rw [hkeys] at hq; exact h.kh _ _ hk q hq
  ·exact h.kh j bk hj q hq
 ·exact hb'.elim (h.pr b) fun y => h.lt y
 ·exact h.pn.sh hk
theorem Sim.own_dr (h : Sim gl N w0 Pr φ s a w) {k wd off len n : Nat} {f : Nat → List AC} {x : Value} (hk : s.h k = some (.arr wd n f true)) (hv : VR (KR Pr φ w) (.c (.own k wd off len)) x) (hl : off + len ≤ n) :
  DR Pr w (.sl wd len (shf f off)) x := by
 have hff : ∀ i, shf f off i = f (off + i) := fun i => by cases off <;> simp [shf]
 rcases hv.own_inv h hk with ⟨hf, he, rfl, rfl, _⟩ | ⟨b, arr, T, cap, hf, he, hn, hcap, hh, hB⟩
 ·rw [he]; exact .slN ..
 ·obtain ⟨hw, hB | ⟨b', arr', T', e1, hh', hnsz, hmx, hel⟩⟩ := hB
  ·cases hB.1
  ·cases e1
   rw [hh] at hh'
   cases hh'
   rw [he]
   have hpb : Pr b := (h.ow k b _ hk hf).2.2 rfl
   refine DR.sl_of_ex hn ?_ (fun i hi => ?_) (fun i j c hi hj => ?_)
   ·have := le_of_mul_le (Nat.le_trans hcap hmx) hw; omega
   ·rw [hff]; exact (hel _ (by omega)).1
   ·rw [hff] at hj
    obtain ⟨v, h7, h8⟩ := (hel _ (by omega)).2 j c hj
    refine ⟨hpb, v, ?_, h8⟩
    rw [Addr.add_flat, cell_flat hh, ← Nat.add_assoc, ← Nat.add_mul]; exact h7
theorem frC_sound {c : AC} {x : Value} {K : AC → St → Prop} (h : Sim gl N w0 Pr φ s a w) (hx : KR Pr φ w c x) (hf : frC s c K) :
  ∃ c' s' Pr', K c' s' ∧ PrS w0 gl Pr Pr' ∧ Sim gl N w0 Pr' φ s' a w ∧ DR Pr' w c' x ∧ s'.e = s.e ∧ s'.u = s.u ∧ Pr.Le Pr' ∧ (∀ j cs z, s.h j = some (.var cs z) → s'.h j = some (.var cs z)) := by
 unfold frC at hf
 split at hf
 ·rename_i k wd off len
  split at hf
  ·rename_i wd' n f z hb
   split at hf
   ·rename_i hwd
    subst hwd
    obtain ⟨Pr', h1, h2, h2', h3⟩ := h.fzk hb (.inr ⟨wd, n, f, z, rfl, rfl⟩)
    have hk' : (s.sh k (.arr wd n f true)).h k = some (.arr wd n f true) := by simp [St.sh, nbt]
    have hx' : VR (KR Pr' φ w) (.c (.own k wd off len)) x := hx.mono h1.2 (fun _ _ => rfl) (fun _ _ _ y => y) (fun _ _ _ => rfl)
    ·obtain ⟨hl, hK⟩ := hf
     have hpl : pl off len = off + len := by cases off <;> simp [pl]
     refine ⟨_, _, Pr', hK, h1.1, h3, h3.own_dr hk' hx' (by omega), rfl, rfl, h1.2, fun j cs z' hj => ?_⟩
     have hne : j ≠ k := fun e => by subst e; rw [hb] at hj; cases hj
     simp only [St.sh, nbf hne, cond_false]; exact hj
   ·exact hf.elim
  ·exact hf.elim
 ·split at hf
  ·rename_i hd
   exact ⟨_, _, Pr, hf, PrS.refl _ _, h, KR.isD hx hd, rfl, rfl, .refl _, fun _ _ _ y => y⟩
  ·exact hf.elim
theorem KR.weak {Pr' : PrT} {c : AC} {v : Value} (h : KR Pr φ w c v) (hp : Pr.Le Pr') : KR Pr' φ w c v := h.mono hp (fun _ _ => rfl) (fun _ _ _ y => y) (fun _ _ _ => rfl)
theorem DR.weak {Pr' : PrT} {c : AC} {v : Value} (h : DR Pr w c v) (hp : Pr.Le Pr') : DR Pr' w c v := h.mono hp (fun _ _ => rfl)
theorem frCs_sound : ∀ (cs : List AC) (vs : List Value) {s : St} {Pr : PrT} {K : List AC → St → Prop} (h : Sim gl N w0 Pr φ s a w) (hx : cellsR (KR Pr φ w) cs vs) (hf : frCs s cs K),
  ∃ cs' s' Pr', K cs' s' ∧ PrS w0 gl Pr Pr' ∧ Sim gl N w0 Pr' φ s' a w ∧ cellsR (DR Pr' w) cs' vs ∧ s'.e = s.e ∧ s'.u = s.u ∧ Pr.Le Pr' ∧ (∀ j cs z, s.h j = some (.var cs z) → s'.h j = some (.var cs z))
 | [], vs, s, Pr, K, h, hx, hf => ⟨[], s, Pr, hf, PrS.refl _ _, h, ⟨hx.1, by simp⟩, rfl, rfl, .refl _, fun _ _ _ y => y⟩
 | c :: r, vs, s, Pr, K, h, hx, hf => by
  match vs, hx with
  | [], hx => exact absurd hx.1 (by simp)
  | v :: vs, hx =>
   obtain ⟨c', s', Pr', hK, h1, h2, h3, h4, h5, h6, h7⟩ := frC_sound h (hx.2 0 c v rfl rfl) hf
   have hr : cellsR (KR Pr' φ w) r vs := ⟨by simpa using hx.1, fun i d u hd hu => (hx.2 (i + 1) d u (by simpa using hd) (by simpa using hu)).weak h6⟩
   obtain ⟨cs', s'', Pr'', hK', k1, k2, k3, k4, k5, k6, k7⟩ := frCs_sound r vs h2 hr hK
   refine ⟨c' :: cs', s'', Pr'', hK', h1.trans k1, k2, ⟨by simp [k3.1], fun i d u hd hu => ?_⟩, k4.trans h4, k5.trans h5, h6.trans k6, fun j cs z y => k7 j cs z (h7 j cs z y)⟩
   cases i with
   | zero => simp at hd hu; subst hd hu; exact h3.weak k6
   | succ i => exact k3.2 i d u (by simpa using hd) (by simpa using hu)
end
section
variable {P : Program} {gl : Nat → Option (List AC)} {N : Nat} {w0 : Wk} {Pr : PrT} {φ : Nat → Option (Option Nat)} {s : St} {a : Act} {w : World}
 {o : Oper} {hs : List Hint} {K : List Hint → St → Prop} {next : Act → World → Prop} {Q : Exit → Act → World → Prop}
theorem KR0.toKR {c : AC} {v : Value} (h : KR0 Pr φ w c v) : KR Pr φ w c v := by
 cases c with
 | clo f cap => exact (KR.of_dr (φ := φ) (show DR Pr w (.clo f cap) v from h)).1
 | _ => exact h
structure Told (gl : Nat → Option (List AC)) (N : Nat) (w0 : Wk) (Pr Pr' : PrT) (φ : Nat → Option (Option Nat)) (s s' : St) (a : Act) (w : World) : Prop where
 st : PrS w0 gl Pr Pr'
 sim : Sim gl N w0 Pr' φ s' a w
 e : s'.e = s.e
 u : s'.u = s.u
 p : Pr.Le Pr'
theorem Told.refl (h : Sim gl N w0 Pr φ s a w) : Told gl N w0 Pr Pr φ s s a w := ⟨PrS.refl _ _, h, rfl, rfl, .refl _⟩
theorem Told.trans {A B C : PrT} {s s' s'' : St} (h : Told gl N w0 A B φ s s' a w) (k : Told gl N w0 B C φ s' s'' a w) : Told gl N w0 A C φ s s'' a w :=
 ⟨h.st.trans k.st, k.sim, k.e.trans h.e, k.u.trans h.u, h.p.trans k.p⟩
theorem DR.pd_of_exi {cs : List AC} {i : Nat} {ad : Addr} (hr : ∀ (j : Nat) c, cs[i + j]? = some c → Pr ad.block ∧ ∃ y, w.cell? (ad.add j) = some y ∧ DR Pr w c y) : DR Pr w (.pd cs i) (.pointer (some ad)) := by
 refine .pd _ _ _ (fun j => (w.cell? (ad.add j)).getD undef) (fun j c hj => ?_) (fun j c hj => ?_)
 ·obtain ⟨h1, y, h2, h3⟩ := hr j c hj
  exact ⟨h1, by rw [h2]; rfl⟩
 ·obtain ⟨h1, y, h2, h3⟩ := hr j c hj
  simpa [h2] using h3
theorem frP_sound {c : AC} {x : Value} {K : AC → St → Prop} (h : Sim gl N w0 Pr φ s a w) (hx : KR Pr φ w c x) (hf : frP s c K) :
  ∃ c' s' Pr', K c' s' ∧ Told gl N w0 Pr Pr' φ s s' a w ∧ DR Pr' w c' x := by
 unfold frP at hf
 split at hf
 ·rename_i k i
  split at hf
  ·rename_i cs z hb
   obtain ⟨b, arr, T, hfk, he, hh, hB⟩ := VR.pk_inv h (x := x) (i := i) hx hb
   obtain ⟨b', arr', T', e1, hh', hcs⟩ := hB
   cases e1
   rw [hh] at hh'
   cases hh'
   obtain ⟨cs', s', Pr', hK, h1, h2, h3, h4, h5, h6, h7⟩ := frCs_sound cs arr.toList h hcs hf
   obtain ⟨Pr'', k1, k2, k2', k3⟩ := h2.fzk (h7 k cs z hb) (.inl ⟨cs, z, rfl, rfl⟩)
   refine ⟨_, _, Pr'', hK, ⟨h1.trans k1.1, k3, h4, h5, h6.trans k1.2⟩, ?_⟩
   rw [he]
   refine DR.pd_of_exi fun j d hj => ?_
   obtain ⟨y, h8, h9⟩ := h3.get hj
   exact ⟨k2 b hfk, y, by rw [Addr.add_flat, cell_flat hh]; simpa using h8, h9.weak k1.2⟩
  ·exact hf.elim
 ·obtain ⟨c', s', Pr', hK, h1, h2, h3, h4, h5, h6, h7⟩ := frC_sound h hx hf
  exact ⟨c', s', Pr', hK, ⟨h1, h2, h4, h5, h6⟩, h3⟩
theorem frPs_sound : ∀ (cs : List AC) (vs : List Value) {s : St} {Pr : PrT} {K : List AC → St → Prop} (h : Sim gl N w0 Pr φ s a w) (hx : cellsR (KR Pr φ w) cs vs) (hf : frPs s cs K),
  ∃ cs' s' Pr', K cs' s' ∧ Told gl N w0 Pr Pr' φ s s' a w ∧ cellsR (DR Pr' w) cs' vs
 | [], vs, s, Pr, K, h, hx, hf => ⟨[], s, Pr, hf, .refl h, ⟨hx.1, by simp⟩⟩
 | c :: r, vs, s, Pr, K, h, hx, hf => by
  match vs, hx with
  | [], hx => exact absurd hx.1 (by simp)
  | v :: vs, hx =>
   obtain ⟨c', s', Pr', hK, h1, h3⟩ := frP_sound h (hx.2 0 c v rfl rfl) hf
   have hr : cellsR (KR Pr' φ w) r vs := ⟨by simpa using hx.1, fun i d u hd hu => (hx.2 (i + 1) d u (by simpa using hd) (by simpa using hu)).weak h1.p⟩
   obtain ⟨cs', s'', Pr'', hK', k1, k3⟩ := frPs_sound r vs h1.sim hr hK
   refine ⟨c' :: cs', s'', Pr'', hK', h1.trans k1, ⟨by simp [k3.1], fun i d u hd hu => ?_⟩⟩
   cases i with
   | zero => simp at hd hu; subst hd hu; exact h3.weak k1.p
   | succ i => exact k3.2 i d u (by simpa using hd) (by simpa using hu)
theorem frF_sound {c : AC} {x : Value} {K : AC → St → Prop} (h : Sim gl N w0 Pr φ s a w) (hx : KR Pr φ w c x) (hf : frF s c K) :
  ∃ c' s' Pr', K c' s' ∧ Told gl N w0 Pr Pr' φ s s' a w ∧ DR Pr' w c' x := by
 unfold frF at hf
 split at hf
 ·rename_i f cap
  obtain ⟨g, he, hg⟩ := hx
  obtain ⟨cap', s', Pr', hK, h1, h3⟩ := frPs_sound cap ((List.range cap.length).map g) h ⟨by simp, fun i c v hc hv => by
   have hlt : i < cap.length := (List.getElem?_eq_some_iff.1 hc).1
   rw [List.getElem?_map, List.getElem?_range hlt] at hv
   simp at hv; subst hv
   exact (hg i c hc).toKR⟩ hf
  refine ⟨_, _, Pr', hK, h1, ?_⟩
  have hlen : cap'.length = cap.length := by have := h3.1; simpa using this.symm
  rw [he, ← hlen]
  refine .clo f cap' g fun j c hj => ?_
  have hlt : j < cap.length := by rw [← hlen]; exact (List.getElem?_eq_some_iff.1 hj).1
  exact h3.2 j c (g j) hj (by rw [List.getElem?_map, List.getElem?_range hlt]; rfl)
 ·exact frP_sound h hx hf
theorem frFs_sound : ∀ (cs : List AC) (vs : List Value) {s : St} {Pr : PrT} {K : List AC → St → Prop} (h : Sim gl N w0 Pr φ s a w) (hx : cellsR (KR Pr φ w) cs vs) (hf : frFs s cs K),
  ∃ cs' s' Pr', K cs' s' ∧ Told gl N w0 Pr Pr' φ s s' a w ∧ cellsR (DR Pr' w) cs' vs
 | [], vs, s, Pr, K, h, hx, hf => ⟨[], s, Pr, hf, .refl h, ⟨hx.1, by simp⟩⟩
 | c :: r, vs, s, Pr, K, h, hx, hf => by
  match vs, hx with
  | [], hx => exact absurd hx.1 (by simp)
  | v :: vs, hx =>
   obtain ⟨c', s', Pr', hK, h1, h3⟩ := frF_sound h (hx.2 0 c v rfl rfl) hf
   have hr : cellsR (KR Pr' φ w) r vs := ⟨by simpa using hx.1, fun i d u hd hu => (hx.2 (i + 1) d u (by simpa using hd) (by simpa using hu)).weak h1.p⟩
   obtain ⟨cs', s'', Pr'', hK', k1, k3⟩ := frFs_sound r vs h1.sim hr hK
   refine ⟨c' :: cs', s'', Pr'', hK', h1.trans k1, ⟨by simp [k3.1], fun i d u hd hu => ?_⟩⟩
   cases i with
   | zero => simp at hd hu; subst hd hu; exact h3.weak k1.p
   | succ i => exact k3.2 i d u (by simpa using hd) (by simpa using hu)
theorem KR.nokeys {c : AC} {v : Value} (h : KR Pr φ w c v) (hk : c.keys = []) : DR Pr w c v := by
 cases c with
 | own => simp [AC.keys, AC.keys0] at hk
 | pk => simp [AC.keys, AC.keys0] at hk
 | pa => simp [AC.keys, AC.keys0] at hk
 | clo f cap =>
  obtain ⟨g, he, hg⟩ := h
  rw [he]
  refine .clo f cap g fun j c hj => ?_
  have hk' : c.keys0 = [] := by
   simp only [AC.keys, List.flatMap_eq_nil_iff] at hk
   exact hk c (List.mem_of_getElem? hj)
  have := hg j c hj
  cases c <;> first | exact this | (simp [AC.keys0] at hk')
 | _ => exact h
theorem frV_sound {v : AV} {x : Value} {K : AV → St → Prop} (h : Sim gl N w0 Pr φ s a w) (hx : VR (KR Pr φ w) v x) (hf : frV s v K) :
  ∃ v' s' Pr', K v' s' ∧ Told gl N w0 Pr Pr' φ s s' a w ∧ VR (DR Pr' w) v' x := by
 unfold frV at hf
 split at hf
 ·obtain ⟨c', s', Pr', hK, h1, h3⟩ := frF_sound h hx hf
  exact ⟨_, _, Pr', hK, h1, h3⟩
 ·rename_i xs
  split at hf
  ·rename_i hk
   refine ⟨_, _, Pr, hf, .refl h, ?_⟩
   obtain ⟨vs, h1, h2⟩ := hx
   refine ⟨vs, h1, h2.mono fun c hc v hv => hv.nokeys ?_⟩
   simp only [AV.keys, List.flatMap_eq_nil_iff] at hk
   exact hk c hc
  ·obtain ⟨vs, h1, h2⟩ := hx
   obtain ⟨cs', s', Pr', hK, h3, h4⟩ := frFs_sound xs vs h h2 hf
   exact ⟨_, _, Pr', hK, h3, ⟨vs, h1, h4⟩⟩
 ·exact hf.elim
theorem VR.weakD {Pr' : PrT} {v : AV} {x : Value} (h : VR (DR Pr w) v x) (hp : Pr.Le Pr') : VR (DR Pr' w) v x := h.mono fun _ _ _ y => y.weak hp
theorem VR.weak {Pr' : PrT} {v : AV} {x : Value} (h : VR (KR Pr φ w) v x) (hp : Pr.Le Pr') : VR (KR Pr' φ w) v x := h.mono fun _ _ _ y => y.weak hp
theorem frVs_sound : ∀ (cs : List AV) (vs : List Value) {s : St} {Pr : PrT} {K : List AV → St → Prop} (h : Sim gl N w0 Pr φ s a w) (hl : vs.length = cs.length)
  (hx : ∀ (i : Nat) c v, cs[i]? = some c → vs[i]? = some v → VR (KR Pr φ w) c v) (hf : frVs s cs K),
  ∃ cs' s' Pr', K cs' s' ∧ Told gl N w0 Pr Pr' φ s s' a w ∧ vs.length = cs'.length ∧ ∀ (i : Nat) c v, cs'[i]? = some c → vs[i]? = some v → VR (DR Pr' w) c v
 | [], vs, s, Pr, K, h, hl, hx, hf => ⟨[], s, Pr, hf, .refl h, hl, by simp⟩
 | c :: r, vs, s, Pr, K, h, hl, hx, hf => by
  match vs, hl, hx with
  | [], hl, hx => exact absurd hl (by simp)
  | v :: vs, hl, hx =>
   obtain ⟨c', s', Pr', hK, h1, h3⟩ := frV_sound h (hx 0 c v rfl rfl) hf
   obtain ⟨cs', s'', Pr'', hK', k1, k2, k3⟩ := frVs_sound r vs h1.sim (by simpa using hl) (fun i d u hd hu => (hx (i + 1) d u (by simpa using hd) (by simpa using hu)).weak h1.p) hK
   refine ⟨c' :: cs', s'', Pr'', hK', h1.trans k1, by simp [k2], fun i d u hd hu => ?_⟩
   cases i with
   | zero => simp at hd hu; subst hd hu; exact h3.weakD k1.p
   | succ i => exact k3 i d u (by simpa using hd) (by simpa using hu)
theorem VR.nokeysD {v : AV} {x : Value} (h : VR (DR Pr w) v x) : ∀ c ∈ v.cells, AC.keys c = [] := by
 intro c hc
 cases v with
 | c y => simp [AV.cells] at hc; subst hc; exact (KR.of_dr (φ := fun _ => none) h).2
 | agg xs => obtain ⟨vs, h1, h2⟩ := h; obtain ⟨q, hq⟩ := List.mem_iff_getElem?.1 hc; obtain ⟨y, _, h8⟩ := h2.get hq; exact (KR.of_dr (φ := fun _ => none) h8).2
 | tup xs =>
  obtain ⟨g, h1, h2⟩ := h
  simp only [AV.cells, List.mem_flatMap] at hc
  obtain ⟨p, hp, hc⟩ := hc
  obtain ⟨q, hq⟩ := List.mem_iff_getElem?.1 hp
  have h3 := h2 q p hq
  obtain ⟨b, ys⟩ := p
  cases b with
  | false =>
   match ys, h3, hc with
   | [y], h3, hc => simp at hc; subst hc; exact (KR.of_dr (φ := fun _ => none) h3).2
  | true => obtain ⟨vs, _, h4⟩ := h3; obtain ⟨q, hq⟩ := List.mem_iff_getElem?.1 hc; obtain ⟨y, _, h8⟩ := h4.get hq; exact (KR.of_dr (φ := fun _ => none) h8).2
theorem DR.scalar {Pr' : PrT} {w' : World} {c : AC} {v : Value} (h : DR Pr w c v) (hs : c.isS = true) : DR Pr' w' c v := by
 cases h <;> first | (simp [AC.isS] at hs; done) | (exact DR.raw _ ‹_›) | (constructor)
theorem AV.isS_cells {v : AV} (h : v.isS = true) : ∀ c ∈ v.cells, c.isS = true := by
 intro c hc
 cases v with
 | c y => simp [AV.cells] at hc; subst hc; exact h
 | agg xs => exact List.all_eq_true.1 h c hc
 | tup xs =>
  simp only [AV.cells, List.mem_flatMap] at hc
  obtain ⟨p, hp, hc⟩ := hc
  exact List.all_eq_true.1 (List.all_eq_true.1 h p hp) c hc
end
theorem KR0.rn {Pr : PrT} {φ φ' : Nat → Option (Option Nat)} {w : World} {c : AC} {v : Value} {r : Nat → Nat} (h : KR0 Pr φ w c v) (hf : ∀ k ∈ c.keys0, ∀ p, φ' (r k) = some p → φ k = some p) : KR0 Pr φ' w (c.rn0 r) v := by
 cases c with
 | own k wd off len => exact ⟨h.1, fun p hp => h.2 p (hf k (by simp [AC.keys0]) p hp)⟩
 | pk k i => exact ⟨h.1, fun p hp => h.2 p (hf k (by simp [AC.keys0]) p hp)⟩
 | pa k wd i off => exact ⟨h.1, fun p hp => h.2 p (hf k (by simp [AC.keys0]) p hp)⟩
 | _ => exact h
theorem KR.rn {Pr : PrT} {φ φ' : Nat → Option (Option Nat)} {w : World} {c : AC} {v : Value} {r : Nat → Nat} (h : KR Pr φ w c v) (hf : ∀ k ∈ c.keys, ∀ p, φ' (r k) = some p → φ k = some p) : KR Pr φ' w (c.rn r) v := by
 cases c with
 | clo f cap =>
  obtain ⟨g, h1, h2⟩ := h
  refine ⟨g, by simpa using h1, fun j c hj => ?_⟩
  rw [List.getElem?_map, Option.map_eq_some_iff] at hj
  obtain ⟨c', hc', rfl⟩ := hj
  exact (h2 j c' hc').rn fun i hi => hf i (List.mem_flatMap.2 ⟨c', List.mem_of_getElem? hc', hi⟩)
 | own j wd off len => exact KR0.rn (Pr := Pr) (φ := φ) (w := w) (c := .own j wd off len) h hf
 | pk j i => exact KR0.rn (Pr := Pr) (φ := φ) (w := w) (c := .pk j i) h hf
 | pa j wd i off => exact KR0.rn (Pr := Pr) (φ := φ) (w := w) (c := .pa j wd i off) h hf
 | _ => exact h
theorem rn_keys0 {c : AC} {r : Nat → Nat} {j : Nat} (h : j ∈ (c.rn0 r).keys0) : ∃ i ∈ c.keys0, j = r i := by
 cases c <;> first | (simp [AC.rn0, AC.keys0] at h; done) | (simp only [AC.rn0, AC.keys0, List.mem_cons, List.not_mem_nil, or_false] at h; exact ⟨_, by simp [AC.keys0], h⟩)
theorem rn_keys {c : AC} {r : Nat → Nat} {j : Nat} (h : j ∈ (c.rn r).keys) : ∃ i ∈ c.keys, j = r i := by
 cases c with
 | clo f cap =>
  obtain ⟨c, hc, hj⟩ := List.mem_flatMap.1 h
  obtain ⟨c', hc', rfl⟩ := List.mem_map.1 hc
  obtain ⟨i, h1, h2⟩ := rn_keys0 hj
  exact ⟨i, List.mem_flatMap.2 ⟨c', hc', h1⟩, h2⟩
 | own k0 wd off len => exact rn_keys0 (c := .own k0 wd off len) h
 | pk k0 i0 => exact rn_keys0 (c := .pk k0 i0) h
 | pa k0 wd i0 off => exact rn_keys0 (c := .pa k0 wd i0 off) h
 | int k0 n0 => exact rn_keys0 (c := .int k0 n0) h
 | bool b0 => exact rn_keys0 (c := .bool b0) h
 | str s0 => exact rn_keys0 (c := .str s0) h
 | nil => exact rn_keys0 (c := .nil) h
 | raw v0 => exact rn_keys0 (c := .raw v0) h
 | sl wd n f => exact rn_keys0 (c := .sl wd n f) h
 | pd cs i => exact rn_keys0 (c := .pd cs i) h
 | old c0 => exact rn_keys0 (c := .old c0) h
 | fr c0 => exact rn_keys0 (c := .fr c0) h
 | lv c0 => exact rn_keys0 (c := .lv c0) h
 | ns c0 => exact rn_keys0 (c := .ns c0) h
 | lp cs0 i0 => exact rn_keys0 (c := .lp cs0 i0) h
theorem blk_rn_keys {b : Blk} {r : Nat → Nat} {j : Nat} (h : j ∈ (b.rn r).keys) : ∃ i ∈ b.keys, j = r i := by
 cases b with
 | var cs z =>
  obtain ⟨c, hc, hj⟩ := List.mem_flatMap.1 h
  obtain ⟨c', hc', rfl⟩ := List.mem_map.1 hc
  obtain ⟨i, h1, h2⟩ := rn_keys hj
  exact ⟨i, List.mem_flatMap.2 ⟨c', hc', h1⟩, h2⟩
 | arr => simp [Blk.rn, Blk.keys] at h
theorem av_rn_keys {v : AV} {r : Nat → Nat} {j : Nat} (h : j ∈ (v.rn r).keys) : ∃ i ∈ v.keys, j = r i := by
 cases v with
 | c x => exact rn_keys h
 | agg xs =>
  obtain ⟨c, hc, hj⟩ := List.mem_flatMap.1 h
  obtain ⟨c', hc', rfl⟩ := List.mem_map.1 hc
  obtain ⟨i, h1, h2⟩ := rn_keys hj
  exact ⟨i, List.mem_flatMap.2 ⟨c', hc', h1⟩, h2⟩
 | tup xs =>
  obtain ⟨p, hp, hj⟩ := List.mem_flatMap.1 h
  obtain ⟨p', hp', rfl⟩ := List.mem_map.1 hp
  obtain ⟨c, hc, hj⟩ := List.mem_flatMap.1 hj
  obtain ⟨c', hc', rfl⟩ := List.mem_map.1 hc
  obtain ⟨i, h1, h2⟩ := rn_keys hj
  exact ⟨i, List.mem_flatMap.2 ⟨p', hp', List.mem_flatMap.2 ⟨c', hc', h1⟩⟩, h2⟩
theorem cellsR_rn {R R' : AC → Value → Prop} {cs : List AC} {vs : List Value} {r : Nat → Nat} (h : cellsR R cs vs) (hr : ∀ c ∈ cs, ∀ v, R c v → R' (c.rn r) v) : cellsR R' (cs.map (AC.rn r)) vs := by
 refine ⟨by rw [h.1, List.length_map], fun i c v hc hv => ?_⟩
 rw [List.getElem?_map, Option.map_eq_some_iff] at hc
 obtain ⟨c', hc', rfl⟩ := hc
 exact hr c' (List.mem_of_getElem? hc') v (h.2 i c' v hc' hv)
theorem VR_rn {R R' : AC → Value → Prop} {x : AV} {v : Value} {r : Nat → Nat} (h : VR R x v) (hr : ∀ c ∈ x.cells, ∀ v, R c v → R' (c.rn r) v) : VR R' (x.rn r) v := by
 cases x with
 | c x => exact hr x (by simp [AV.cells]) v h
 | agg xs => obtain ⟨vs, h1, h2⟩ := h; exact ⟨vs, h1, cellsR_rn h2 hr⟩
 | tup xs =>
  obtain ⟨g, h1, h2⟩ := h
  refine ⟨g, by simpa using h1, fun i p hp => ?_⟩
  rw [List.getElem?_map, Option.map_eq_some_iff] at hp
  obtain ⟨p', hp', rfl⟩ := hp
  have h3 := h2 i p' hp'
  have hr' : ∀ c ∈ p'.2, ∀ v, R c v → R' (c.rn r) v := fun c hc => hr c (List.mem_flatMap.2 ⟨p', List.mem_of_getElem? hp', hc⟩)
  obtain ⟨b, ys⟩ := p'
  cases b with
  | false =>
   match ys, h3, hr' with
   | [y], h3, hr' => exact hr' y (by simp) _ h3
  | true => obtain ⟨vs, h4, h5⟩ := h3; exact ⟨vs, h4, cellsR_rn h5 hr'⟩
theorem BR_rn {Pr : PrT} {φ φ' : Nat → Option (Option Nat)} {w : World} {p : Option Nat} {b : Blk} {r : Nat → Nat} (h : BR Pr φ w p b) (hf : ∀ k ∈ b.keys, ∀ p, φ' (r k) = some p → φ k = some p) : BR Pr φ' w p (b.rn r) := by
 cases b with
 | var cs z =>
  obtain ⟨c, arr, T, h3, h4, h5⟩ := h
  exact ⟨c, arr, T, h3, h4, cellsR_rn h5 fun c hc v hv => hv.rn fun k hk => hf k (List.mem_flatMap.2 ⟨c, hc, hk⟩)⟩
 | arr wd n f z => exact h
theorem elem_iff {l : List Nat} {k : Nat} : l.elem k = true ↔ k ∈ l := List.elem_iff
theorem nodupB_iff : ∀ {l : List Nat}, nodupB l = true → l.Nodup
 | [], _ => List.nodup_nil
 | a :: r, h => by
  simp only [nodupB, Bool.and_eq_true, Bool.not_eq_true'] at h
  refine List.nodup_cons.2 ⟨fun hm => ?_, nodupB_iff h.2⟩
  rw [elem_iff.2 hm] at h; cases h.1
theorem lkN_mem : ∀ {l : List (Nat × Nat)} {a b : Nat}, (l.map (·.1)).Nodup → (a, b) ∈ l → lkN l a = b
 | (c, d) :: r, a, b, hn, h => by
  simp only [lkN]
  rcases List.mem_cons.1 h with e | h
  ·cases e; simp [nbt]
  ·rename_i hm
   have : a ≠ c := fun e => by
    subst e
    exact (List.nodup_cons.1 hn).1 (List.mem_map.2 ⟨(a, b), by assumption, rfl⟩)
   rw [nbf this]; exact lkN_mem (List.nodup_cons.1 hn).2 h
theorem swp_mem {l : List (Nat × Nat)} {a b : Nat} (h : (a, b) ∈ l) : (b, a) ∈ swp l := List.mem_map.2 ⟨(a, b), h, rfl⟩
theorem swp_fst (l : List (Nat × Nat)) : (swp l).map (·.1) = l.map (·.2) := by simp [swp]
theorem lkN_swp {l : List (Nat × Nat)} {a b : Nat} (hn : (l.map (·.2)).Nodup) (h : (a, b) ∈ l) : lkN (swp l) b = a := lkN_mem (by rw [swp_fst]; exact hn) (swp_mem h)
theorem mem_fst {l : List (Nat × Nat)} {a : Nat} (h : a ∈ l.map (·.1)) : ∃ b, (a, b) ∈ l := by obtain ⟨⟨x, y⟩, h1, rfl⟩ := List.mem_map.1 h; exact ⟨y, h1⟩
theorem mem_snd {l : List (Nat × Nat)} {b : Nat} (h : b ∈ l.map (·.2)) : ∃ a, (a, b) ∈ l := by obtain ⟨⟨x, y⟩, h1, rfl⟩ := List.mem_map.1 h; exact ⟨x, h1⟩
theorem eqNs_eq : ∀ {a b : List Nat}, eqNs a b = true → a = b
 | [], [], _ => rfl
 | x :: a, y :: b, h => by
  simp only [eqNs, Bool.and_eq_true] at h
  rw [Nat.eq_of_beq_eq_true h.1, eqNs_eq h.2]
 | [], _ :: _, h => by cases h
 | _ :: _, [], h => by cases h
theorem lkB_some {k : Nat} : ∀ {H : List (Nat × Blk)}, k ∈ H.map (·.1) → ∃ b, lkB k H = some b
 | (j, b) :: r, h => by
  simp only [lkB]
  by_cases e : k = j
  ·subst e; exact ⟨b, by simp [nbt]⟩
  ·rw [nbf e]; exact lkB_some (by simpa [e] using h)
theorem lkB_in {k : Nat} {v : Blk} : ∀ {H : List (Nat × Blk)}, lkB k H = some v → (k, v) ∈ H
 | [], h => by cases h
 | (j, u) :: r, h => by
  simp only [lkB] at h
  by_cases e : k = j
  ·subst e; simp only [nbt, cond_true, Option.some.injEq] at h; subst h; exact List.mem_cons_self
  ·simp only [nbf e, cond_false] at h; exact List.mem_cons_of_mem _ (lkB_in h)
theorem mkH_fst {s : St} {ks : List (Nat × Nat)} : ∀ {l : List (Nat × Nat)} {H : List (Nat × Blk)}, mkH s ks l = some H → H.map (·.1) = l.map (·.2)
 | [], H, h => by simp only [mkH, Option.some.injEq] at h; subst h; rfl
 | (k, j) :: r, H, h => by
  simp only [mkH] at h
  split at h
  ·split at h
   ·rename_i hl; cases h; simp [mkH_fst hl]
   ·cases h
  ·cases h
theorem mkH_get {s : St} {ks : List (Nat × Nat)} : ∀ {l : List (Nat × Nat)} {H : List (Nat × Blk)} {j : Nat} {b : Blk}, mkH s ks l = some H → lkB j H = some b → ∃ k b0, (k, j) ∈ l ∧ s.h k = some b0 ∧ b0.fz = false ∧ b = b0.rn (lkN ks)
 | [], H, j, b, h, hj => by simp only [mkH, Option.some.injEq] at h; subst h; cases hj
 | (k, i) :: r, H, j, b, h, hj => by
  simp only [mkH] at h
  split at h
  ·rename_i b0 hb
   split at h
   ·rename_i l' hz hl
    cases h
    simp only [lkB] at hj
    by_cases e : j = i
    ·subst e
     simp only [nbt, cond_true, Option.some.injEq] at hj
     exact ⟨k, b0, by simp, hb, hz, hj.symm⟩
    ·simp only [nbf e, cond_false] at hj
     obtain ⟨k', b', h1, h2⟩ := mkH_get hl hj
     exact ⟨k', b', List.mem_cons_of_mem _ h1, h2⟩
   ·cases h
  ·cases h
theorem mkH_all {s : St} {ks : List (Nat × Nat)} : ∀ {l : List (Nat × Nat)} {H : List (Nat × Blk)} {k j : Nat}, mkH s ks l = some H → (k, j) ∈ l → ∃ b0, s.h k = some b0 ∧ b0.fz = false
 | (k', i) :: r, H, k, j, h, hm => by
  simp only [mkH] at h
  split at h
  ·rename_i b0 hb
   split at h
   ·rename_i l' hz hl
    rcases List.mem_cons.1 hm with e | hm
    ·cases e; exact ⟨b0, hb, hz⟩
    ·exact mkH_all hl hm
   ·cases h
  ·cases h
theorem blk_rn_fz (b : Blk) (r : Nat → Nat) : (b.rn r).fz = b.fz := by cases b <;> rfl
section
variable {P : Program} {gl : Nat → Option (List AC)} {N : Nat} {w0 : Wk} {Pr : PrT} {φ : Nat → Option (Option Nat)} {s : St} {a : Act} {w : World}
structure Mok (s : St) (vs : List AV) (m : Mu) (H : List (Nat × Blk)) : Prop where
 k1 : (m.ks.map (·.1)).Nodup
 k2 : (m.ks.map (·.2)).Nodup
 kp : ∀ k j, (k, j) ∈ m.ks → 1000000 ≤ j
 kv : ∀ v ∈ vs, ∀ k ∈ v.keys, k ∈ m.ks.map (·.1)
 kb : ∀ k j b, (k, j) ∈ m.ks → s.h k = some b → ∀ i ∈ b.keys, i ∈ m.ks.map (·.1)
 o1 : (m.os.map (·.1)).Nodup
 o2 : (m.os.map (·.2)).Nodup
 oh : m.os.map (·.1) = m.H.map (·.1)
 on : ∀ j k, (j, k) ∈ m.os → (k, j) ∈ m.ks ∨ (k ∉ s.u ∧ k < 1000000 ∧ j ∉ m.ks.map (·.2))
 rk : ∀ k ∈ m.res.keys, k ∈ m.os.map (·.1)
 hk : ∀ p ∈ m.H, ∀ k ∈ p.2.keys, k ∈ m.os.map (·.1)
theorem mok_of {vs : List AV} {m : Mu} {H : List (Nat × Blk)} (hH : mkH s m.ks m.ks = some H) (h : chkM s vs m = true) : Mok s vs m H := by
 unfold chkM at h
 simp only [Bool.and_eq_true, List.all_eq_true, elem_iff] at h
 obtain ⟨h1, h2, h3, h4, h5, h6, h7, h8, h9, h10, h11⟩ := h
 refine ⟨nodupB_iff h1, nodupB_iff h2, fun k j hm => Nat.le_of_ble_eq_true (h3 _ hm), fun v hv k hk => h4 k (List.mem_flatMap.2 ⟨v, hv, hk⟩), fun k j b hm hb i hi => ?_, nodupB_iff h6, nodupB_iff h7, eqNs_eq h8, fun j k hm => ?_, h10, fun p hp k hk => h11 p hp k hk⟩
 ·have := h5 (k, j) hm
  simp only [hb, List.all_eq_true, elem_iff] at this
  exact this i hi
 ·have := h9 (j, k) hm
  simp only [Bool.or_eq_true, Bool.and_eq_true, List.any_eq_true, Bool.not_eq_true'] at this
  rcases this with ⟨⟨a, b⟩, h1, h2, h3⟩ | ⟨h1, h2, h3⟩
  ·have e1 := Nat.eq_of_beq_eq_true h2
   have e2 := Nat.eq_of_beq_eq_true h3
   have e1 : a = k := e1
   have e2 : b = j := e2
   subst e1 e2
   exact .inl h1
  ·have hb : k ≤ 999999 := Nat.le_of_ble_eq_true h2
   exact .inr ⟨not_mem_of_elem h1, by omega, not_mem_of_elem h3⟩
def φin (m : Mu) (φ : Nat → Option (Option Nat)) : Nat → Option (Option Nat) := fun j => bif (m.ks.map (·.2)).elem j then φ (lkN (swp m.ks) j) else none
def φout (m : Mu) (φ φ' : Nat → Option (Option Nat)) : Nat → Option (Option Nat) := fun k => bif (m.os.map (·.2)).elem k then φ' (lkN (swp m.os) k) else bif (m.ks.map (·.1)).elem k then none else φ k
def wkIn (m : Mu) (φ : Nat → Option (Option Nat)) (Pr : PrT) (w : World) : Wk := ⟨w, fun b => b < w.heap.size ∧ ¬ Pr.dom b ∧ ∀ j, φin m φ j ≠ some (some b), φin m φ, fun _ h => h.1⟩
theorem φin_mem {m : Mu} {H : List (Nat × Blk)} {vs : List AV} (ho : Mok s vs m H) {k j : Nat} (h : (k, j) ∈ m.ks) : φin m φ j = φ k := by
 unfold φin
 have e : (m.ks.map (·.2)).elem j = true := elem_iff.2 (List.mem_map.2 ⟨(k, j), h, rfl⟩)
 rw [e, cond_true, lkN_swp ho.k2 h]
theorem φin_some {m : Mu} {H : List (Nat × Blk)} {vs : List AV} (ho : Mok s vs m H) {j : Nat} {p : Option Nat} (h : φin m φ j = some p) : ∃ k, (k, j) ∈ m.ks ∧ φ k = some p := by
 unfold φin at h
 cases e : (m.ks.map (·.2)).elem j with
 | false => rw [e] at h; cases h
 | true =>
  obtain ⟨k, hk⟩ := mem_snd (elem_iff.1 e)
  rw [e, cond_true, lkN_swp ho.k2 hk] at h
  exact ⟨k, hk, h⟩
theorem φout_mem {m : Mu} {H : List (Nat × Blk)} {vs : List AV} {φ' : Nat → Option (Option Nat)} (ho : Mok s vs m H) {k j : Nat} (h : (j, k) ∈ m.os) : φout m φ φ' k = φ' j := by
 unfold φout
 have e : (m.os.map (·.2)).elem k = true := elem_iff.2 (List.mem_map.2 ⟨(j, k), h, rfl⟩)
 rw [e, cond_true, lkN_swp ho.o2 h]
theorem nelem {l : List Nat} {k : Nat} (h : k ∉ l) : l.elem k = false := by
 cases e : l.elem k with
 | false => rfl
 | true => exact absurd (elem_iff.1 e) h
theorem enter_mu (h : Sim gl N w0 Pr φ s a w) {glc : Nat → Option (List AC)} (hL : glc LAW = none) (hg : ∀ g cs, glc g = some cs → gl g = some cs) {vs : List AV} {m : Mu} {H : List (Nat × Blk)} (hH : mkH s m.ks m.ks = some H) (ho : Mok s vs m H) :
  Sim glc 0 (wkIn m φ Pr w) Pr (φin m φ) (heapS H) ⟨#[], []⟩ w := by
 have hfst := mkH_fst hH
 refine ⟨rfl, fun t v ht => (by cases ht), fun j b hj => ?_, fun j hj => ?_, fun j j' b hj hj' => ?_, fun j b blk hj hf => ?_, fun j hj => ?_, fun t v ht => (by cases ht), fun j b hj i hi => ?_, h.pr, fun g cs hgc => h.gk g cs (hg g cs hgc), rfl, ?_, fun j p hp => ?_, ?_⟩
 ·obtain ⟨k, b0, h1, h2, h3, rfl⟩ := mkH_get hH hj
  obtain ⟨p, h4, h5⟩ := h.hp k b0 h2
  refine ⟨p, by rw [φin_mem ho h1]; exact h4, BR_rn h5 fun i hi q hq => ?_⟩
  obtain ⟨j', hj'⟩ := mem_fst (ho.kb k j b0 h1 h2 i hi)
  rw [lkN_mem ho.k1 hj', φin_mem ho hj'] at hq
  exact hq
 ·unfold φin
  rw [nelem, cond_false]
  intro hm
  have : j ∈ H.map (·.1) := by rw [hfst]; exact hm
  obtain ⟨b, hb⟩ := lkB_some this
  rw [show lkB j H = none from hj] at hb; cases hb
 ·obtain ⟨k, h1, h2⟩ := φin_some ho hj
  obtain ⟨k', h3, h4⟩ := φin_some ho hj'
  have := h.inj k k' b h2 h4
  subst this
  have e1 := lkN_mem ho.k1 h1
  have e2 := lkN_mem ho.k1 h3
  rw [← e1, ← e2]
 ·obtain ⟨k, b0, h1, h2, h3, rfl⟩ := mkH_get hH hj
  rw [φin_mem ho h1] at hf
  refine ⟨fun hk => hk.2.2 j (by rw [φin_mem ho h1]; exact hf), ?_⟩
  rw [blk_rn_fz]
  exact (h.ow k b b0 h2 hf).2
 ·cases hq : lkB j H with
  | none => exact absurd hq hj
  | some b => exact List.mem_append_left _ (List.mem_map.2 ⟨(j, b), lkB_in hq, rfl⟩)
 ·exact List.mem_append_right _ (List.mem_flatMap.2 ⟨(j, b), lkB_in hj, hi⟩)
 ·exact ⟨rfl, rfl, rfl, Nat.le_refl _, fun _ _ => rfl, fun _ _ => rfl⟩
 ·obtain ⟨k, h1, h2⟩ := φin_some ho hp
  exact ⟨⟨ho.kp k j h1, by omega⟩, .inr hp⟩
 ·refine ⟨h.ex.qp, h.ex.th, fun b hb hk => hk.2.1 hb, h.ex.dp, fun b hb j hj => ?_, fun hx => absurd hL hx⟩
  obtain ⟨k, h1, h2⟩ := φin_some ho hj
  exact h.ex.df b hb k h2
theorem leave_mu (h : Sim gl N w0 Pr φ s a w) {glc : Nat → Option (List AC)} (hL : glc LAW = none) {vs : List AV} {m : Mu} {H : List (Nat × Blk)} (hH : mkH s m.ks m.ks = some H) (ho : Mok s vs m H)
  {Pr' : PrT} {φ' : Nat → Option (Option Nat)} {w' : World} (h' : Sim glc 0 (wkIn m φ Pr w) Pr' φ' (heapS m.H) ⟨#[], []⟩ w') (hp : PrS (wkIn m φ Pr w) glc Pr Pr') :
  Sim gl N w0 Pr' (φout m φ φ') (s.mu m) a w' ∧ PrS w0 gl Pr Pr' := by
 have hle := hp.le hL
 have hnk := hp.nk hL
 have hφs : ∀ k b, φ k = some (some b) → ∃ blk, s.h k = some blk := fun k b hk => by
  cases hb : s.h k with
  | none => rw [h.lv k hb] at hk; cases hk
  | some blk => exact ⟨blk, rfl⟩
 have F1 : ∀ b, w0.K b → (wkIn m φ Pr w).K b := fun b hb => by
  refine ⟨Nat.lt_of_lt_of_le (w0.lt b hb) h.bl.size, fun hd => h.ex.dk b hd hb, fun j hj => ?_⟩
  obtain ⟨k, h1, h2⟩ := φin_some ho hj
  obtain ⟨blk, h3⟩ := hφs k b h2
  exact (h.ow k b blk h3 h2).1 hb
 have F2 : ∀ k b, k ∉ m.ks.map (·.1) → φ k = some (some b) → (wkIn m φ Pr w).K b := fun k b hk hf => by
  refine ⟨h.lt hf, fun hd => h.ex.df b hd k hf, fun j hj => ?_⟩
  obtain ⟨k', h1, h2⟩ := φin_some ho hj
  have := h.inj k k' b hf h2
  subst this
  exact hk (List.mem_map.2 ⟨(k, j), h1, rfl⟩)
 have F3 : ∀ b, Pr b → (wkIn m φ Pr w).K b := fun b hb => by
  refine ⟨h.pr b hb, fun hd => h.ex.dp b hd hb, fun j hj => ?_⟩
  obtain ⟨k, h1, h2⟩ := φin_some ho hj
  obtain ⟨b0, h3, h4⟩ := mkH_all hH h1
  have := (h.ow k b b0 h3 h2).2.1 hb
  rw [h4] at this; cases this
 have hw : ∀ b, Pr b → w'.heap[b]? = w.heap[b]? := fun b hb => h'.bl.block b (F3 b hb)
 have hsz : ∀ k b, φ k = some (some b) → bsize w' b = bsize w b := fun k b hk => h'.bl.bs b (h.lt hk)
 have hpin : ∀ k j, (j, k) ∈ m.os → (k, j) ∈ m.ks → ∀ p, φ k = some p → φ' j = some p := fun k j hos hks p hk => by
  have h1 : (wkIn m φ Pr w).pin j = some p := by show φin m φ j = some p; rw [φin_mem ho hks]; exact hk
  obtain ⟨_, h2⟩ := h'.pn j p h1
  refine h2.resolve_left fun hn => ?_
  have : j ∈ m.H.map (·.1) := by rw [← ho.oh]; exact List.mem_map.2 ⟨(j, k), hos, rfl⟩
  obtain ⟨b, hb⟩ := lkB_some this
  rw [show lkB j m.H = none from hn] at hb; cases hb
 have hold : ∀ k p, k ∈ s.u → φout m φ φ' k = some p → φ k = some p := fun k p hku hk => by
  unfold φout at hk
  cases e : (m.os.map (·.2)).elem k with
  | true =>
   obtain ⟨j, hj⟩ := mem_snd (elem_iff.1 e)
   rw [e, cond_true, lkN_swp ho.o2 hj] at hk
   rcases ho.on j k hj with h1 | h1
   ·obtain ⟨b0, h2, h3⟩ := mkH_all hH h1
    obtain ⟨q, h4, _⟩ := h.hp k b0 h2
    have := hpin k j hj h1 q h4
    rw [this] at hk; cases hk; exact h4
   ·exact absurd hku h1.1
  | false =>
   rw [e, cond_false] at hk
   cases e2 : (m.ks.map (·.1)).elem k with
   | true => rw [e2] at hk; cases hk
   | false => rw [e2] at hk; exact hk
 have hkr : ∀ c v, (∀ k ∈ c.keys, k ∈ s.u) → KR Pr φ w c v → KR Pr' (φout m φ φ') w' c v := fun c v hc hv => hv.mono hle hw (fun k hk p hp => hold k p (hc k hk) hp) hsz
 have hmu : ∀ k blk, (s.mu m).h k = some blk → (∃ j b0, (j, k) ∈ m.os ∧ lkB j m.H = some b0 ∧ blk = b0.rn (lkN m.os)) ∨ (k ∉ m.os.map (·.2) ∧ k ∉ m.ks.map (·.1) ∧ s.h k = some blk) := fun k blk hk => by
  simp only [St.mu] at hk
  cases e : (m.os.map (·.2)).elem k with
  | true =>
   obtain ⟨j, hj⟩ := mem_snd (elem_iff.1 e)
   rw [e, cond_true, lkN_swp ho.o2 hj] at hk
   split at hk
   ·rename_i b0 hb0; cases hk; exact .inl ⟨j, b0, hj, hb0, rfl⟩
   ·cases hk
  | false =>
   rw [e, cond_false] at hk
   cases e2 : (m.ks.map (·.1)).elem k with
   | true => rw [e2] at hk; cases hk
   | false => rw [e2] at hk; exact .inr ⟨not_mem_of_elem e, not_mem_of_elem e2, hk⟩
 have hrk : ∀ b0 : Blk, (∀ i ∈ b0.keys, i ∈ m.os.map (·.1)) → ∀ i ∈ b0.keys, ∀ q, φout m φ φ' (lkN m.os i) = some q → φ' i = some q := fun b0 hb i hi q hq => by
  obtain ⟨k, hk⟩ := mem_fst (hb i hi)
  rw [lkN_mem ho.o1 hk, φout_mem ho hk] at hq
  exact hq
 have hφn : ∀ k, k ∉ m.os.map (·.2) → k ∉ m.ks.map (·.1) → φout m φ φ' k = φ k := fun k h1 h2 => by
  unfold φout; rw [nelem h1, nelem h2]; rfl
 refine ⟨⟨h.sz, fun t v ht => ?_, fun k blk hk => ?_, fun k hk => ?_, fun k k' b hk hk' => ?_, fun k b blk hk hf => ?_, fun k hk => ?_, fun t v ht k hk => ?_, fun k blk hk i hi => ?_, h'.pr, fun g cs hg => (h.gk g cs hg).mono hle.old fun b hb => hw b hb.1, h.df, ?_, fun k p hk => ?_, ?_⟩, .mk' hle fun b hb => ?_⟩
 ·obtain ⟨x, h1, h2⟩ := h.tm t v ht
  refine ⟨x, h1, h2.mono fun c hc v => hkr c v fun k hk => h.ke t _ ht k ?_⟩
  rw [AV.keys_eq]; exact List.mem_flatMap.2 ⟨c, hc, hk⟩
 ·rcases hmu k blk hk with ⟨j, b0, h1, h2, rfl⟩ | ⟨h1, h2, h3⟩
  ·obtain ⟨p, h4, h5⟩ := h'.hp j b0 h2
   exact ⟨p, by rw [φout_mem ho h1]; exact h4, BR_rn h5 (hrk b0 (ho.hk (j, b0) (lkB_in h2)))⟩
  ·obtain ⟨p, h4, h5⟩ := h.hp k blk h3
   refine ⟨p, by rw [hφn k h1 h2]; exact h4, ?_⟩
   cases blk with
   | var cs z =>
    obtain ⟨b, arr, T, rfl, h7, h8⟩ := h5
    exact ⟨b, arr, T, rfl, by rw [h'.bl.block b (F2 k b h2 h4)]; exact h7, h8.mono fun c hc v => hkr c v fun i hi => h.kh k _ h3 i (List.mem_flatMap.2 ⟨c, hc, hi⟩)⟩
   | arr wd n f z =>
    obtain ⟨h0, h6 | ⟨b, arr, T, rfl, h7, h8, h9, h10⟩⟩ := h5
    ·exact ⟨h0, .inl h6⟩
    ·exact ⟨h0, .inr ⟨b, arr, T, rfl, by rw [h'.bl.block b (F2 k b h2 h4)]; exact h7, h8, h9, fun i hi => ⟨(h10 i hi).1, fun q c hq => by
      obtain ⟨v, h11, h12⟩ := (h10 i hi).2 q c hq
      exact ⟨v, h11, h12.mono hle hw⟩⟩⟩⟩
 ·simp only [St.mu] at hk
  unfold φout
  cases e : (m.os.map (·.2)).elem k with
  | true =>
   rw [e, cond_true] at hk
   rw [cond_true]
   refine h'.lv _ ?_
   show lkB _ m.H = none
   split at hk
   ·cases hk
   ·assumption
  | false =>
   rw [e, cond_false] at hk
   rw [cond_false]
   cases e2 : (m.ks.map (·.1)).elem k with
   | true => rfl
   | false => rw [e2] at hk; exact h.lv k hk
 ·have side : ∀ k b, φout m φ φ' k = some (some b) → (∃ j, (j, k) ∈ m.os ∧ φ' j = some (some b) ∧ ¬ (wkIn m φ Pr w).K b) ∨ (φ k = some (some b) ∧ (wkIn m φ Pr w).K b) := fun k b hk => by
   unfold φout at hk
   cases e : (m.os.map (·.2)).elem k with
   | true =>
    obtain ⟨j, hj⟩ := mem_snd (elem_iff.1 e)
    rw [e, cond_true, lkN_swp ho.o2 hj] at hk
    refine .inl ⟨j, hj, hk, ?_⟩
    cases hb : lkB j m.H with
    | none => have := h'.lv j hb; rw [this] at hk; cases hk
    | some b0 => exact (h'.ow j b b0 hb hk).1
   | false =>
    rw [e, cond_false] at hk
    cases e2 : (m.ks.map (·.1)).elem k with
    | true => rw [e2] at hk; cases hk
    | false => rw [e2] at hk; exact .inr ⟨hk, F2 k b (not_mem_of_elem e2) hk⟩
  rcases side k b hk with ⟨j, h1, h2, h3⟩ | ⟨h2, h3⟩ <;> rcases side k' b hk' with ⟨j', h4, h5, h6⟩ | ⟨h5, h6⟩
  ·have := h'.inj j j' b h2 h5
   subst this
   rw [← lkN_mem ho.o1 h1, ← lkN_mem ho.o1 h4]
  ·exact absurd h6 h3
  ·exact absurd h3 h6
  ·exact h.inj k k' b h2 h5
 ·rcases hmu k blk hk with ⟨j, b0, h1, h2, rfl⟩ | ⟨h1, h2, h3⟩
  ·rw [φout_mem ho h1] at hf
   obtain ⟨h4, h5⟩ := h'.ow j b b0 h2 hf
   exact ⟨fun hK => h4 (F1 b hK), by rw [blk_rn_fz]; exact h5⟩
  ·rw [hφn k h1 h2] at hf
   obtain ⟨h4, h5⟩ := h.ow k b blk h3 hf
   exact ⟨h4, fun hb => h5.1 ((hnk b hb).resolve_right fun hx => hx (F2 k b h2 hf)), fun hz => hle.f b (h5.2 hz)⟩
 ·cases hq : (s.mu m).h k with
  | none => exact absurd hq hk
  | some blk =>
   rcases hmu k blk hq with ⟨j, b0, h1, h2, rfl⟩ | ⟨h1, h2, h3⟩
   ·exact List.mem_append_left _ (List.mem_map.2 ⟨(j, k), h1, rfl⟩)
   ·exact List.mem_append_right _ (h.ku k (by rw [h3]; simp))
 ·exact List.mem_append_right _ (h.ke t v ht k hk)
 ·rcases hmu k blk hk with ⟨j, b0, h1, h2, rfl⟩ | ⟨h1, h2, h3⟩
  ·obtain ⟨i', h4, rfl⟩ := blk_rn_keys hi
   obtain ⟨k', hk'⟩ := mem_fst (ho.hk (j, b0) (lkB_in h2) i' h4)
   rw [lkN_mem ho.o1 hk']
   exact List.mem_append_left _ (List.mem_map.2 ⟨(i', k'), hk', rfl⟩)
  ·exact List.mem_append_right _ (h.kh k blk h3 i hi)
 ·exact ⟨h'.bl.os.trans h.bl.os, h'.bl.tape.trans h.bl.tape, h'.bl.output.trans h.bl.output, Nat.le_trans h.bl.size h'.bl.size, fun b hb => (h'.bl.block b (F1 b hb)).trans (h.bl.block b hb),
   fun b hb => (h'.bl.bs b (Nat.lt_of_lt_of_le hb h.bl.size)).trans (h.bl.bs b hb)⟩
 ·obtain ⟨h1, h2⟩ := h.pn k p hk
  refine ⟨h1, ?_⟩
  cases e : (m.os.map (·.2)).elem k with
  | true =>
   obtain ⟨j, hj⟩ := mem_snd (elem_iff.1 e)
   rcases ho.on j k hj with h3 | h3
   ·obtain ⟨b0, h4, h5⟩ := mkH_all hH h3
    have h6 : φ k = some p := h2.resolve_left (by rw [h4]; simp)
    exact .inr (by rw [φout_mem ho hj]; exact hpin k j hj h3 p h6)
   ·exact absurd h1.1 (by omega)
  | false =>
   cases e2 : (m.ks.map (·.1)).elem k with
   | true => exact .inl (by simp only [St.mu, e, e2, cond_true, cond_false])
   | false =>
    refine h2.imp (fun h3 => ?_) fun h3 => ?_
    ·simp only [St.mu, e, e2, cond_false]; exact h3
    ·rw [hφn k (not_mem_of_elem e) (not_mem_of_elem e2)]; exact h3
 ·refine ⟨h'.ex.qp, h'.ex.th, fun b hb => h.ex.dk b ?_, h'.ex.dp, fun b hb k hk => ?_, fun hx b hb => by rw [hle.q]; exact h.ex.lw hx b hb⟩
  ·unfold PrT.dom at hb ⊢; rw [hle.t] at hb; exact hb
  ·have hd : Pr.dom b := by unfold PrT.dom at hb ⊢; rw [hle.t] at hb; exact hb
   unfold φout at hk
   cases e : (m.os.map (·.2)).elem k with
   | true => rw [e, cond_true] at hk; exact h'.ex.df b hb _ hk
   | false =>
    rw [e, cond_false] at hk
    cases e2 : (m.ks.map (·.1)).elem k with
    | true => rw [e2] at hk; cases hk
    | false => rw [e2] at hk; exact h.ex.df b hd k hk
 ·exact (hnk b hb).imp id fun hx hK => hx (F1 b hK)
end
end Go.Proofs.YtjlabdoeiphegaaGreatDoor.Ab
