/- A library function, told; no condition. -/
import Derived.Test.YtjlabdoeiphegaaGreatDoorAmCore3
import Derived.Lib.Split
import Derived.Lib.SplitLaws
import Derived.Lib.IndexMore
import Derived.Lib.ItoaNum
import Derived.Lib.LaidTab
import Derived.Lib.AtoiAll
set_option linter.unusedVariables false
set_option linter.unusedSimpArgs false
namespace Go.Proofs.YtjlabdoeiphegaaGreatDoor.Ab
open Go Go.RowKit
variable {P : Program}
theorem gk_cell {Pr : PrT} {w : World} {g : Nat} {cs : List AC} (h : DR Pr w (.pd cs 0) (.pointer (some ⟨g, 0, none⟩))) {j : Nat} {c : AC} (hj : cs[j]? = some c) : ∃ v, w.cell? ⟨g, j, none⟩ = some v ∧ DR Pr w c v := by
 cases h with
 | pd _ _ a gg hr hd =>
  refine ⟨gg j, ?_, hd j c (by rw [Nat.zero_add]; exact hj)⟩
  have := (hr j c (by rw [Nat.zero_add]; exact hj)).2
  rwa [Addr.add_flat, Nat.zero_add] at this
theorem gk_int {Pr : PrT} {w : World} {g : Nat} {m : Int} (h : GK Pr w g [.int .i64 m]) : w.cell? ⟨g, 0, none⟩ = some (.int .i64 m) := by
 obtain ⟨v, h1, h2⟩ := gk_cell h.1 (j := 0) rfl
 cases h2; exact h1
theorem gk_raw {Pr : PrT} {w : World} {g : Nat} {x : Value} (h : GK Pr w g [.raw x]) : w.cell? ⟨g, 0, none⟩ = some x := by
 obtain ⟨v, h1, h2⟩ := gk_cell h.1 (j := 0) rfl
 cases h2; exact h1
theorem gk_tab {Pr : PrT} {w : World} {g : Nat} {zs : List Int} {nm : String} (hne : zs ≠ []) (hn : P.globalNamed nm = some g) (h : GK Pr w g (zs.map (AC.int .u64))) : Lib.TabIs P w nm .u64 zs := by
 have hb : bsize w g = zs.length := by
  rcases h.2 with e | e
  ·exact absurd (List.map_eq_nil_iff.1 e) hne
  ·simpa using e
 unfold Lib.TabIs World.var?
 rw [hn, Option.bind_some]
 cases zs with
 | nil => exact absurd rfl hne
 | cons z r =>
  have h0 := (gk_cell h.1 (j := 0) (c := .int .u64 z) rfl)
  obtain ⟨v0, c0, _⟩ := h0
  unfold World.cell? at c0
  unfold bsize at hb
  cases hh : w.heap[g]? with
  | none => simp only [hh] at c0; cases c0
  | some o =>
   cases o with
   | cells arr T fr =>
    simp only [hh] at hb ⊢
    congr 1
    apply Array.ext
    ·simpa using hb
    ·intro i h1 h2
     have h3 : i < (z :: r).length := by simpa using h2
     obtain ⟨v, c1, c2⟩ := gk_cell h.1 (j := i) (c := .int .u64 (z :: r)[i]) (by rw [List.getElem?_map, List.getElem?_eq_getElem h3]; rfl)
     cases c2
     simp only [World.cell?, hh] at c1
     have h4 : arr[i]? = some (.int .u64 (z :: r)[i]) := by simpa using c1
     rw [Array.getElem?_eq_getElem h1] at h4
     have := Option.some.inj h4
     rw [this, List.getElem_toArray, List.getElem_map]
   | _ => simp only [hh] at c0; cases c0
theorem ba_list (l : List UInt8) : (⟨l.toArray⟩ : ByteArray).data.toList = l := by simp
theorem ba_size (l : List UInt8) : (⟨l.toArray⟩ : ByteArray).size = l.length := rfl
theorem cut_fn {gl : Nat → Option (List AC)} {f : FuncId} (hc : callable P f = true) {g : Nat} {mx : Int} (hg : gl g = some [.int .i64 mx])
  (hC : ∀ (s sep : ByteArray) (m : Int) (w : World), s.size < 4294967281 → w.cell? ⟨g, 0, none⟩ = some (.int .i64 m) → Calls P f #[.string s, .string sep] w fun e w' =>
   e = .returned (.tuple #[.string ⟨(Lib.cut s.data.toList sep.data.toList).1.toArray⟩, .string ⟨(Lib.cut s.data.toList sep.data.toList).2.1.toArray⟩, .bool (Lib.cut s.data.toList sep.data.toList).2.2]) ∧ Below w.heap.size w w')
  (s sep : List UInt8) (hs : s.length < 4294967281) :
  FnOk P gl f [.c (.str s), .c (.str sep)] (.tup [(false, [.str (Lib.cut s sep).1]), (false, [.str (Lib.cut s sep).2.1]), (false, [.bool (Lib.cut s sep).2.2])]) := by
 refine ⟨hc, fun w Pr vals hp hgk hvl hv => ?_⟩
 match vals, hvl with
 | [v0, v1], _ =>
 have H0 : DR Pr w (.str s) v0 := hv 0 _ _ rfl rfl
 have H1 : DR Pr w (.str sep) v1 := hv 1 _ _ rfl rfl
 cases H0
 cases H1
 have key := hC ⟨s.toArray⟩ ⟨sep.toArray⟩ mx w hs (gk_int (hgk g _ hg))
 rw [ba_list, ba_list] at key
 refine key.mono ?_
 rintro e w' ⟨rfl, hbel⟩
 refine ⟨_, rfl, Bel.of hbel hp.th, ?_⟩
 refine ⟨fun i => match i with | 0 => .string ⟨(Lib.cut s sep).1.toArray⟩ | 1 => .string ⟨(Lib.cut s sep).2.1.toArray⟩ | _ => .bool (Lib.cut s sep).2.2, rfl, fun i p hp' => ?_⟩
 match i, hp' with
 | 0, hp' => cases hp'; exact DR.str _
 | 1, hp' => cases hp'; exact DR.str _
 | 2, hp' => cases hp'; exact DR.bool _
def spl (s sep : List UInt8) : List (List UInt8) := (Lib.splitB ⟨sep.toArray⟩ 0 (Lib.countB ⟨s.toArray⟩ ⟨sep.toArray⟩) ⟨s.toArray⟩).map (·.data.toList)
theorem split_fn {gl : Nat → Option (List AC)} {f : FuncId} {t9 : TypeId} (hc : callable P f = true) {g : Nat} {mx : Int} (hg : gl g = some [.int .i64 mx])
  (hS : ∀ (s sep : ByteArray) (m : Int) (w : World), s.size < 4294967281 → w.cell? ⟨g, 0, none⟩ = some (.int .i64 m) → 1 ≤ sep.size → Calls P f #[.string s, .string sep] w fun e w' =>
   e = .returned (.slice (some ⟨w.heap.size, 0, none⟩) (Lib.countB s sep + 1) (Lib.countB s sep + 1)) ∧ w' = w.alloc (.cells ((Lib.splitB sep 0 (Lib.countB s sep) s).map Value.string).toArray t9))
  {eS : List UInt8 → List AC} (he : ∀ x, eS x = [.str x]) {z : List UInt8} (s sep : List UInt8) (hs : s.length < 4294967281) (h1 : 1 ≤ sep.length) :
  FnOk P gl f [.c (.str s), .c (.str sep)] (.c (dat 1 eS z (spl s sep))) := by
 refine ⟨hc, fun w Pr vals hp hgk hvl hv => ?_⟩
 match vals, hvl with
 | [v0, v1], _ =>
 have H0 : DR Pr w (.str s) v0 := hv 0 _ _ rfl rfl
 have H1 : DR Pr w (.str sep) v1 := hv 1 _ _ rfl rfl
 cases H0
 cases H1
 refine (hS ⟨s.toArray⟩ ⟨sep.toArray⟩ mx w hs (gk_int (hgk g _ hg)) h1).mono ?_
 rintro e w' ⟨rfl, rfl⟩
 have hle := Lib.countB_le (⟨sep.toArray⟩ : ByteArray) h1 (⟨s.toArray⟩ : ByteArray).size ⟨s.toArray⟩ (Nat.le_refl _)
 have hlen := Lib.splitB_all (⟨sep.toArray⟩ : ByteArray) h1 0 _ ⟨s.toArray⟩ rfl
 have hsz : (⟨s.toArray⟩ : ByteArray).size = s.length := rfl
 have hspl : (spl s sep).length = Lib.countB ⟨s.toArray⟩ ⟨sep.toArray⟩ + 1 := by unfold spl; rw [List.length_map]; exact hlen
 have hnew : (w.alloc (.cells ((Lib.splitB ⟨sep.toArray⟩ 0 (Lib.countB ⟨s.toArray⟩ ⟨sep.toArray⟩) ⟨s.toArray⟩).map Value.string).toArray t9)).heap[w.heap.size]? = some (.cells ((Lib.splitB ⟨sep.toArray⟩ 0 (Lib.countB ⟨s.toArray⟩ ⟨sep.toArray⟩) ⟨s.toArray⟩).map Value.string).toArray t9 (0, 0)) := by
  have e : ∀ (H : Array Obj) (x : Obj), (H.push x)[H.size]? = some x := fun H x => by simp
  exact e _ _
 refine ⟨_, rfl, Bel.of ((Below.refl _ _).alloc (Nat.le_refl _) _) hp.th, ?_⟩
 show DR _ _ (dat 1 eS z (spl s sep)) _
 unfold dat
 rw [← hspl]
 refine .sl _ _ _ _ _ (fun i j => .string ⟨((spl s sep).getD i z).toArray⟩) (Nat.le_refl _) (by rw [hspl]; unfold maxLen; omega) (fun i hi => by unfold fF; rw [he]; rfl) (fun i j c hi hj => ?_) (fun i j c hi hj => ?_)
 ·have hj0 : j = 0 := by
   unfold fF at hj; rw [he] at hj
   have := (List.getElem?_eq_some_iff.1 hj).1
   simpa using this
  subst hj0
  refine ⟨.inr ⟨Nat.le_refl _, by show w.heap.size < (w.heap.push _).size; simp⟩, ?_⟩
  rw [Addr.add_flat, cell_flat hnew, Nat.mul_one, Nat.add_zero, Nat.zero_add]
  unfold spl at hi ⊢
  rw [List.length_map] at hi
  simp [List.getD, hi]
 ·have hj0 : j = 0 := by
   unfold fF at hj; rw [he] at hj
   have := (List.getElem?_eq_some_iff.1 hj).1
   simpa using this
  subst hj0
  unfold fF at hj; rw [he] at hj
  cases hj
  exact DR.str _
theorem itoa_fn {gl : Nat → Option (List AC)} {f : FuncId} (hc : callable P f = true) {g : Nat} {zs : List Int} {nm : String} (hne : zs ≠ []) (hn : P.globalNamed nm = some g) (hg : gl g = some (zs.map (AC.int .u64)))
  (hI : ∀ (n : Int) (w : World), -9223372036854775808 ≤ n → n ≤ 9223372036854775807 → Lib.TabIs P w nm .u64 zs → Calls P f #[.int .i64 n] w fun e w' => e = .returned (.string ⟨(Lib.itoa n).toArray⟩) ∧ Below w.heap.size w w')
  (n : Int) (h0 : -9223372036854775808 ≤ n ∧ n ≤ 9223372036854775807) : FnOk P gl f [.c (.int .i64 n)] (.c (.str (Lib.itoa n))) := by
 refine ⟨hc, fun w Pr vals hp hgk hvl hv => ?_⟩
 match vals, hvl with
 | [v0], _ =>
 have H0 : DR Pr w (.int .i64 n) v0 := hv 0 _ _ rfl rfl
 cases H0
 refine (hI n w h0.1 h0.2 (gk_tab hne hn (hgk g _ hg))).mono ?_
 rintro e w' ⟨rfl, hb⟩
 exact ⟨_, rfl, Bel.of hb hp.th, DR.str _⟩
def rdInt (s : List UInt8) : Int × Bool := match Lib.atoiAll s with
 | .ok v => if s.length ≤ 10 ∧ Lib.itoa v = s then (v, true) else (0, false)
 | _ => (0, false)
theorem rint_fn {gl : Nat → Option (List AC)} {f : FuncId} (hc : callable P f = true) {g1 g2 g3 : Nat} {e1 e2 : Value} {zs : List Int} {nm : String} (hne : zs ≠ []) (hn : P.globalNamed nm = some g3)
  (hg1 : gl g1 = some [.raw e1]) (hg2 : gl g2 = some [.raw e2]) (hg3 : gl g3 = some (zs.map (AC.int .u64)))
  (hE1 : e1 = .nilIface ∨ ∃ te pe, e1 = .iface te pe) (hE2 : e2 = .nilIface ∨ ∃ te pe, e2 = .iface te pe)
  (hs : ∀ (s : ByteArray), s.size ≤ 281474976710656 → Lib.atoiAll s.data.toList = Lib.atoiAll [] → ∀ (ev : Value) (w : World), w.cell? ⟨g1, 0, none⟩ = some ev → (ev = .nilIface ∨ ∃ te pe, ev = .iface te pe) → Calls P f #[.string s] w fun e w' => e = .returned (.tuple #[.int .i64 0, .bool false]) ∧ Below w.heap.size w w')
  (hr : ∀ (s : ByteArray), s.size ≤ 281474976710656 → Lib.atoiAll s.data.toList = .range → ∀ (ev : Value) (w : World), w.cell? ⟨g2, 0, none⟩ = some ev → (ev = .nilIface ∨ ∃ te pe, ev = .iface te pe) → Calls P f #[.string s] w fun e w' => e = .returned (.tuple #[.int .i64 0, .bool false]) ∧ Below w.heap.size w w')
  (hl : ∀ (s : ByteArray), s.size ≤ 281474976710656 → ∀ v, Lib.atoiAll s.data.toList = .ok v → 10 < s.size → ∀ (w : World), Calls P f #[.string s] w fun e w' => e = .returned (.tuple #[.int .i64 0, .bool false]) ∧ Below w.heap.size w w')
  (hk : ∀ (s : ByteArray), s.size ≤ 281474976710656 → ∀ v, Lib.atoiAll s.data.toList = .ok v → s.size ≤ 10 → ∀ (w : World), Lib.TabIs P w nm .u64 zs → ∀ b, (!(⟨(Lib.itoa v).toArray⟩ : ByteArray).toList == s.toList) = b → Calls P f #[.string s] w fun e w' => e = .returned (.tuple #[.int .i64 (bif b then 0 else v), .bool (!b)]) ∧ Below w.heap.size w w')
  (s : List UInt8) (h48 : s.length ≤ 281474976710656) : FnOk P gl f [.c (.str s)] (.tup [(false, [.int .i64 (rdInt s).1]), (false, [.bool (rdInt s).2])]) := by
 refine ⟨hc, fun w Pr vals hp hgk hvl hv => ?_⟩
 match vals, hvl with
 | [v0], _ =>
 have H0 : DR Pr w (.str s) v0 := hv 0 _ _ rfl rfl
 cases H0
 have fin : ∀ (a : Int) (b : Bool), rdInt s = (a, b) → (Calls P f #[.string ⟨s.toArray⟩] w fun e w' => e = .returned (.tuple #[.int .i64 a, .bool b]) ∧ Below w.heap.size w w') →
   Calls P f [Value.string ⟨s.toArray⟩].toArray w fun e w' => ∃ v, e = .returned v ∧ Bel Pr w w' ∧ VR (DR (Pr.new w w') w') (.tup [(false, [.int .i64 (rdInt s).1]), (false, [.bool (rdInt s).2])]) v := fun a b hab h => by
  rw [hab]
  refine Calls.mono h ?_
  rintro e w' ⟨rfl, hb⟩
  refine ⟨_, rfl, Bel.of hb hp.th, ?_⟩
  refine ⟨fun i => match i with | 0 => .int .i64 a | _ => .bool b, rfl, fun i p hp' => ?_⟩
  match i, hp' with
  | 0, hp' => cases hp'; exact DR.int _ _
  | 1, hp' => cases hp'; exact DR.bool _
 have hd : (⟨s.toArray⟩ : ByteArray).data.toList = s := ba_list s
 cases ha : Lib.atoiAll s with
 | range => exact fin _ _ (by unfold rdInt; rw [ha]) (hr ⟨s.toArray⟩ h48 (by rw [hd]; exact ha) e2 w (gk_raw (hgk g2 _ hg2)) hE2)
 | ok v =>
  by_cases h10 : s.length ≤ 10
  ·have key := hk ⟨s.toArray⟩ h48 v (by rw [hd]; exact ha) h10 w (gk_tab hne hn (hgk g3 _ hg3)) _ rfl
   rw [ByteArray.toList_eq, ByteArray.toList_eq, ba_list, ba_list] at key
   refine fin _ _ ?_ key
   unfold rdInt; rw [ha]
   show (if s.length ≤ 10 ∧ Lib.itoa v = s then (v, true) else (0, false)) = _
   by_cases e : Lib.itoa v = s
   ·rw [if_pos ⟨h10, e⟩, e]; simp
   ·have : (Lib.itoa v == s) = false := beq_eq_false_iff_ne.2 e
    rw [if_neg (fun h => e h.2), this]; rfl
  ·exact fin _ _ (by unfold rdInt; rw [ha]; exact if_neg fun h => h10 h.1) (hl ⟨s.toArray⟩ h48 v (by rw [hd]; exact ha) (by rw [ba_size]; omega) w)
 | _ => exact fin _ _ (by unfold rdInt; rw [ha]) (hs ⟨s.toArray⟩ h48 (by rw [hd]; exact ha) e1 w (gk_raw (hgk g1 _ hg1)) hE1)
end Go.Proofs.YtjlabdoeiphegaaGreatDoor.Ab
