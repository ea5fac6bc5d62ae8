/- Typed formulas of the program's functions that few laws need; printed by lift.py off the code. -/
import Derived.Test.YtnhkdkcgdcgmdaaDoorzNV1
import Derived.Test.YtnhkdkcgdcgmdaaDoorzNG1t
import Derived.Test.YtnhkdkcgdcgmdaaDoorzNG1r
import Derived.Test.YtnhkdkcgdcgmdaaDoorzNQn
namespace Go.Proofs.YtnhkdkcgdcgmdaaDoor
open Go.RowKit
set_option maxRecDepth 100000
set_option maxHeartbeats 2000000
def a3L (x0 : l7) (H : Hp) (K : Int → Bool → Hp → Prop) : Prop :=
 (x0.b9 = 1 →
 K x0.C4 true H) ∧
 (¬ (x0.b9 = 1) →
 ∃ x_6 : l7, ((decide (x0.b9 = 5)) = true → (0 : Int) ≤ 0 ∧ (0 : Int) < x0.A5.n ∧ EltH H x0.A5 0 4 (d9 x_6)) ∧
 (((decide (x0.b9 = 5)) && (decide (x_6.b9 = 1))) = true →
 (0 : Int) ≤ 0 ∧ (0 : Int) < x0.A5.n ∧ ∃ b4H : l7, EltH H x0.A5 0 4 (d9 b4H) ∧
 K (IntKind.wrap .i64 (0 - b4H.C4)) true H) ∧
 (((decide (x0.b9 = 5)) && (decide (x_6.b9 = 1))) = false →
 K 0 false H))
end Go.Proofs.YtnhkdkcgdcgmdaaDoor
namespace Go.Proofs.YtnhkdkcgdcgmdaaDoor
open Go.RowKit
set_option maxRecDepth 100000
set_option maxHeartbeats 2000000
def eN (k n : Int) (s : ByteArray) (cs : List PT) : PT := .mk (.expr k n s cs.length) cs
def kidC : List PT → Option Int
  | .mk (.expr k n _ _) _ :: _ => if k = 1 then some (IntKind.wrap .i64 (0 - n)) else none
  | _ => none
def cst : PT → Option Int
  | .mk (.expr k n _ _) cs => if k = 1 then some n else if k = 5 then kidC cs else none
  | _ => none
def plainT (v : Int) : PT := if v < 0 then eN 5 0 ⟨#[]⟩ [eN 1 (IntKind.wrap .i64 (0 - v)) ⟨#[]⟩ []] else eN 1 v ⟨#[]⟩ []
def two (f : Int → Int → Option Int) : Option Int → Option Int → Option Int
  | some x, some y => f x y
  | _, _ => none
def cN (k op : Int) (xs ps : List PT) : PT := .mk (.cond k op xs.length ps.length) (xs ++ ps)
def kindC : PT → Int
  | .mk (.cond k _ _ _) _ => k
  | _ => 0
def arE (k : Int) (n : Nat) : Prop := 1 ≤ k ∧ k ≤ 10 ∧ (k < 5 → n ≤ 1) ∧ (k = 5 → n = 1) ∧ (6 ≤ k → n = 2)
inductive Ar : PT → Prop
  | mk {k n : Int} {s : ByteArray} {a : Nat} {cs : List PT} : arE k cs.length ∧ a = cs.length → m4 n → (∀ t ∈ cs, Ar t) → Ar (.mk (.expr k n s a) cs)
def arC (k : Int) (e p : Nat) : Prop := (k = 3 → e = 2) ∧ (k = 4 → p = 1) ∧ (k = 5 → p = 2) ∧ (k = 6 → p = 2)
inductive ArC : PT → Prop
  | mk {k op : Int} {xs ps : List PT} : arC k xs.length ps.length → (∀ t ∈ xs, Ar t) → (∀ t ∈ ps, ArC t) → ArC (.mk (.cond k op xs.length ps.length) (xs ++ ps))
theorem d3x (n : Int) : m4 (IntKind.wrap .i64 n) := by rw [IntKind.wrap_i64]; unfold m4; omega
theorem f3V {t : PT} (h : Ar t) {v : Int} (hv : cst t = some v) : m4 v := by
  cases h with
  | @mk k n s a cs h1 h2 h3 =>
    rw [cst] at hv
    split at hv
    · cases hv; exact h2
    · split at hv
      · unfold kidC at hv
        split at hv
        · split at hv
          · cases hv; exact d3x _
          · cases hv
        · cases hv
      · cases hv
section
variable {H : Hp}
theorem EH.kid {e : l7} {ts : List PT} {l : Lab} (he : EH H e (.mk l ts)) {i : Nat} {t : PT} (ht : ts[i]? = some t) : ∃ x, EltH H e.A5 i 4 (d9 x) ∧ EH H x t ∧ (i : Int) < e.A5.n := by
  cases he with
  | @mk _ xs _ hs hb hl hr =>
    obtain ⟨x, hx⟩ := t7 (l := xs) (i := i) (by have := C5 ht; omega)
    have := C5 hx
    have hn := hs.1
    exact ⟨x, hs.2 i x hx, hr i x t hx ht, by omega⟩
theorem EH.inv {e : l7} {t : PT} (he : EH H e t) : ∃ ts, t = eN e.b9 e.C4 e.d6 ts ∧ e.A5.n = ts.length := by
  cases he with
  | @mk _ xs ts hs hb hl hr => exact ⟨ts, rfl, by have := hs.1; omega⟩
def cstP (t : PT) : Int × Bool := match cst t with | some v => (v, true) | none => (0, false)
theorem c1x {t : PT} {v : Int} (h : cst t = some v) : cstP t = (v, true) := by unfold cstP; rw [h]
theorem c1y {t : PT} (h : cst t = none) : cstP t = (0, false) := by unfold cstP; rw [h]
theorem g6d {k n : Int} {s : ByteArray} {a : Nat} {ts : List PT} (h : Ar (.mk (.expr k n s a) ts)) (hk : k = 5) : ∃ t, ts = [t] ∧ Ar t := by
  cases h with
  | mk h1 h2 h3 =>
    have := h1.1.2.2.2.1 hk
    match ts, this with
    | [t], _ => exact ⟨t, rfl, h3 t (by simp)⟩
theorem e4b {e : l7} {t : PT} (he : EH H e t) (ha : Ar t) {K : Int → Bool → Hp → Prop} (h : K (cstP t).1 (cstP t).2 H) : a3L e H K := by
  obtain ⟨ts, rfl, hn⟩ := he.inv
  unfold a3L
  refine ⟨fun h1 => ?_, fun h1 => ?_⟩
  · have : cst (eN e.b9 e.C4 e.d6 ts) = some e.C4 := by unfold eN; rw [cst, if_pos h1]
    rw [c1x this] at h; exact h
  · by_cases h5 : e.b9 = 5
    · obtain ⟨t, rfl, hat⟩ := g6d ha h5
      obtain ⟨x, hE, hx, hl⟩ := he.kid (i := 0) rfl
      obtain ⟨us, rfl, _⟩ := hx.inv
      have hc : cst (eN e.b9 e.C4 e.d6 [eN x.b9 x.C4 x.d6 us]) = if x.b9 = 1 then some (IntKind.wrap .i64 (0 - x.C4)) else none := by
        unfold eN; rw [cst, if_neg h1, if_pos h5, kidC]
      refine ⟨x, fun _ => ⟨Int.le_refl _, hl, hE⟩, fun hq => ⟨Int.le_refl _, hl, x, hE, ?_⟩, fun hq => ?_⟩
      · simp only [Bool.and_eq_true, decide_eq_true_eq] at hq
        rw [if_pos hq.2] at hc
        rw [c1x hc] at h; exact h
      · rw [if_neg (by rw [decide_eq_true h5, Bool.true_and] at hq; exact of_decide_eq_false hq)] at hc
        rw [c1y hc] at h; exact h
    · have hc : cst (eN e.b9 e.C4 e.d6 ts) = none := by unfold eN; rw [cst, if_neg h1, if_neg h5]
      rw [c1y hc] at h
      refine ⟨⟨0, 0, ⟨#[]⟩, ⟨none, 0, 0⟩⟩, fun hq => ((h5 (of_decide_eq_true hq)).elim), fun hq => ?_, fun _ => h⟩
      rw [decide_eq_false h5, Bool.false_and] at hq; cases hq
theorem EH.leaf (H : Hp) (k n : Int) (s : ByteArray) : EH H ⟨k, n, s, ⟨none, 0, 0⟩⟩ (eN k n s []) := EH.mk (e := ⟨k, n, s, ⟨none, 0, 0⟩⟩) (ts := []) (SlH.nil _ _ _) (Nat.zero_le _) rfl fun i x t hx => by simp at hx
theorem EH.node {k n : Int} {s : ByteArray} {sl : Sl} {xs : List l7} {ts : List PT} (hs : SlH H 4 d9 sl xs) (hb : xs.length ≤ big) (hr : A4 (EH H) xs ts) : EH H ⟨k, n, s, sl⟩ (eN k n s ts) := EH.mk (e := ⟨k, n, s, sl⟩) hs hb hr.1 hr.2
end
end Go.Proofs.YtnhkdkcgdcgmdaaDoor
namespace Go.Proofs.YtnhkdkcgdcgmdaaDoor
open Go.RowKit
set_option maxRecDepth 100000
set_option maxHeartbeats 2000000
section
variable {H : Hp}
theorem CH.kind {e : u1} {t : PT} (h : CH H e t) : e.b9 = kindC t := by cases h; rfl
theorem CH.leaf (H : Hp) (k op : Int) : CH H ⟨k, op, ⟨none, 0, 0⟩, ⟨none, 0, 0⟩⟩ (cN k op [] []) := CH.mk (c := ⟨k, op, ⟨none, 0, 0⟩, ⟨none, 0, 0⟩⟩) (ts := []) (us := []) (SlH.nil _ _ _) (Nat.zero_le _) A4.nil (SlH.nil _ _ _) (Nat.zero_le _) rfl fun i x t hx => by simp at hx
theorem CH.node {k op : Int} {s s' : Sl} {xs : List l7} {ts : List PT} {ys : List u1} {us : List PT} (hs : SlH H 4 d9 s xs) (hb : xs.length ≤ big) (hr : A4 (EH H) xs ts) (hs' : SlH H 4 i7 s' ys) (hb' : ys.length ≤ big) (hr' : A4 (CH H) ys us) : CH H ⟨k, op, s, s'⟩ (cN k op ts us) := CH.mk (c := ⟨k, op, s, s'⟩) hs hb hr hs' hb' hr'.1 hr'.2
theorem SlH.at_ {α : Type} {sz : Nat} {c : α → List Value} {s : Sl} {xs : List α} (hs : SlH H sz c s xs) {i : Nat} {x : α} (hx : xs[i]? = some x) : EltH H s i sz (c x) ∧ (i : Int) < s.n := ⟨hs.2 i x hx, by have := C5 hx; have := hs.1; omega⟩
end
theorem D8 : ∀ {ts : List PT} (_ : formTs ts = true) {t : PT} (_ : t ∈ ts), formT t = true
  | t :: ts, h, u, hu => by
    rw [formTs, Bool.and_eq_true] at h
    rcases List.mem_cons.1 hu with e | hu
    · rw [e]; exact h.1
    · exact D8 h.2 hu
theorem d7j {k n : Int} {s : ByteArray} {a : Nat} (h : formE k n s a = true) : arE k a := by
  unfold formE at h
  split at h
  · cases h
  · split at h
    · simp only [Bool.and_eq_true, decide_eq_true_eq] at h; unfold arE; omega
    · split at h
      · simp only [decide_eq_true_eq] at h; unfold arE; omega
      · split at h
        · simp only [decide_eq_true_eq] at h; unfold arE; omega
        · split at h
          · simp only [decide_eq_true_eq] at h; unfold arE; omega
          · cases h
theorem d7k {k op : Int} {e p : Nat} (h : formC k op e p = true) : arC k e p := by
  unfold formC at h
  split at h
  · simp only [Bool.and_eq_true, decide_eq_true_eq] at h; unfold arC; omega
  · split at h
    · split at h
      · simp only [decide_eq_true_eq] at h; unfold arC; omega
      · split at h
        · simp only [decide_eq_true_eq] at h; unfold arC; omega
        · split at h
          · simp only [decide_eq_true_eq] at h; unfold arC; omega
          · cases h
    · cases h
section
variable {H : Hp}
theorem Sm.num {l : Lab} {cs : List PT} (h : Sm (.mk l cs)) : m4 (numL l) ∧ ∀ t ∈ cs, Sm t := by
  cases h with
  | mk h1 h2 => exact ⟨h1.2, h2⟩
theorem e0z {e : l7} {t : PT} (he : EH H e t) (hf : formT t = true) (hs : Sm t) : Ar t := by
  induction he with
  | @mk e xs ts hsl hb hl hr ih =>
    rw [formT, Bool.and_eq_true] at hf
    refine .mk ⟨d7j hf.1, rfl⟩ hs.num.1 fun t ht => ?_
    obtain ⟨i, hi⟩ := List.getElem?_of_mem ht
    obtain ⟨x, hx⟩ := t7 (l := xs) (i := i) (by have := C5 hi; omega)
    exact ih i x t hx hi (D8 hf.2 ht) (hs.num.2 t ht)
theorem f3W {e : u1} {t : PT} (he : CH H e t) (hf : formT t = true) (hs : Sm t) : ArC t := by
  induction he with
  | @mk e xs ts ys us hsl hb hr hc hcb hcl hcr ih =>
    rw [formT, Bool.and_eq_true] at hf
    refine .mk (d7k hf.1) (fun t ht => ?_) fun t ht => ?_
    · obtain ⟨i, hi⟩ := List.getElem?_of_mem ht
      obtain ⟨x, hx⟩ := t7 (l := xs) (i := i) (by have := C5 hi; have := hr.1; omega)
      exact e0z (hr.2 i x t hx hi) (D8 hf.2 (List.mem_append_left _ ht)) (hs.num.2 t (List.mem_append_left _ ht))
    · obtain ⟨i, hi⟩ := List.getElem?_of_mem ht
      obtain ⟨x, hx⟩ := t7 (l := ys) (i := i) (by have := C5 hi; omega)
      exact ih i x t hx hi (D8 hf.2 (List.mem_append_right _ ht)) (hs.num.2 t (List.mem_append_right _ ht))
end
end Go.Proofs.YtnhkdkcgdcgmdaaDoor
