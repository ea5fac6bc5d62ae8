/- Typed formulas of the program's functions that few laws need; printed by lift.py off the code. -/
import Derived.Test.YtnhkdkcgdcgmdaaDoorzZV1
import Derived.Test.YtnhkdkcgdcgmdaaDoorzZG1t
import Derived.Test.YtnhkdkcgdcgmdaaDoorzZQ8
import Derived.Test.YtnhkdkcgdcgmdaaDoorzZQn
namespace Go.Proofs.YtnhkdkcgdcgmdaaDoor
open Go.RowKit
set_option maxRecDepth 100000
set_option maxHeartbeats 2000000
def a3M (x0 : i4) (H : Hp) (K : Int → Bool → Hp → Prop) : Prop :=
 (x0.d9 = 1 →
 K x0.K2 true H) ∧
 (¬ (x0.d9 = 1) →
 ∃ x_6 : i4, ((decide (x0.d9 = 5)) = true → (0 : Int) ≤ 0 ∧ (0 : Int) < x0.A7.n ∧ EltH H x0.A7 0 4 (d5 x_6)) ∧
 (((decide (x0.d9 = 5)) && (decide (x_6.d9 = 1))) = true →
 (0 : Int) ≤ 0 ∧ (0 : Int) < x0.A7.n ∧ ∃ b4q : i4, EltH H x0.A7 0 4 (d5 b4q) ∧
 K (IntKind.wrap .i64 (0 - b4q.K2)) true H) ∧
 (((decide (x0.d9 = 5)) && (decide (x_6.d9 = 1))) = false →
 K 0 false H))
end Go.Proofs.YtnhkdkcgdcgmdaaDoor
namespace Go.Proofs.YtnhkdkcgdcgmdaaDoor
open Go.RowKit
set_option maxRecDepth 100000
set_option maxHeartbeats 2000000
def eN (k n : Int) (s : ByteArray) (cs : List PT) : PT := .mk (.expr k n s cs.length) cs
def kidC : List PT → Option Int
  | .mk (.expr k n _ _) _ :: _ => if k = 1 then some (IntKind.wrap .i64 (0 - n)) else none
  | _ => none
def cst : PT → Option Int
  | .mk (.expr k n _ _) cs => if k = 1 then some n else if k = 5 then kidC cs else none
  | _ => none
def plainT (v : Int) : PT := if v < 0 then eN 5 0 ⟨#[]⟩ [eN 1 (IntKind.wrap .i64 (0 - v)) ⟨#[]⟩ []] else eN 1 v ⟨#[]⟩ []
def two (f : Int → Int → Option Int) : Option Int → Option Int → Option Int
  | some x, some y => f x y
  | _, _ => none
def cN (k op : Int) (xs ps : List PT) : PT := .mk (.cond k op xs.length ps.length) (xs ++ ps)
def kindC : PT → Int
  | .mk (.cond k _ _ _) _ => k
  | _ => 0
def arE (k : Int) (n : Nat) : Prop := 1 ≤ k ∧ k ≤ 10 ∧ (k < 5 → n ≤ 1) ∧ (k = 5 → n = 1) ∧ (6 ≤ k → n = 2)
inductive Ar : PT → Prop
  | mk {k n : Int} {s : ByteArray} {a : Nat} {cs : List PT} : arE k cs.length ∧ a = cs.length → o0 n → (∀ t ∈ cs, Ar t) → Ar (.mk (.expr k n s a) cs)
def arC (k : Int) (e p : Nat) : Prop := (k = 3 → e = 2) ∧ (k = 4 → p = 1) ∧ (k = 5 → p = 2) ∧ (k = 6 → p = 2)
inductive ArC : PT → Prop
  | mk {k op : Int} {xs ps : List PT} : arC k xs.length ps.length → (∀ t ∈ xs, Ar t) → (∀ t ∈ ps, ArC t) → ArC (.mk (.cond k op xs.length ps.length) (xs ++ ps))
theorem d2y (n : Int) : o0 (IntKind.wrap .i64 n) := by rw [IntKind.wrap_i64]; unfold o0; omega
theorem f3b {t : PT} (h : Ar t) {v : Int} (hv : cst t = some v) : o0 v := by
  cases h with
  | @mk k n s a cs h1 h2 h3 =>
    rw [cst] at hv
    split at hv
    · cases hv; exact h2
    · split at hv
      · unfold kidC at hv
        split at hv
        · split at hv
          · cases hv; exact d2y _
          · cases hv
        · cases hv
      · cases hv
section
variable {H : Hp}
theorem EH.kid {e : i4} {ts : List PT} {l : Lab} (he : EH H e (.mk l ts)) {i : Nat} {t : PT} (ht : ts[i]? = some t) : ∃ x, EltH H e.A7 i 4 (d5 x) ∧ EH H x t ∧ (i : Int) < e.A7.n := by
  cases he with
  | @mk _ xs _ hs hb hl hr =>
    obtain ⟨x, hx⟩ := u4 (l := xs) (i := i) (by have := D2 ht; omega)
    have := D2 hx
    have hn := hs.1
    exact ⟨x, hs.2 i x hx, hr i x t hx ht, by omega⟩
theorem EH.inv {e : i4} {t : PT} (he : EH H e t) : ∃ ts, t = eN e.d9 e.K2 e.g7 ts ∧ e.A7.n = ts.length := by
  cases he with
  | @mk _ xs ts hs hb hl hr => exact ⟨ts, rfl, by have := hs.1; omega⟩
def cstP (t : PT) : Int × Bool := match cst t with | some v => (v, true) | none => (0, false)
theorem c1l {t : PT} {v : Int} (h : cst t = some v) : cstP t = (v, true) := by unfold cstP; rw [h]
theorem c1m {t : PT} (h : cst t = none) : cstP t = (0, false) := by unfold cstP; rw [h]
theorem g5A {k n : Int} {s : ByteArray} {a : Nat} {ts : List PT} (h : Ar (.mk (.expr k n s a) ts)) (hk : k = 5) : ∃ t, ts = [t] ∧ Ar t := by
  cases h with
  | mk h1 h2 h3 =>
    have := h1.1.2.2.2.1 hk
    match ts, this with
    | [t], _ => exact ⟨t, rfl, h3 t (by simp)⟩
theorem e2M {e : i4} {t : PT} (he : EH H e t) (ha : Ar t) {K : Int → Bool → Hp → Prop} (h : K (cstP t).1 (cstP t).2 H) : a3M e H K := by
  obtain ⟨ts, rfl, hn⟩ := he.inv
  unfold a3M
  refine ⟨fun h1 => ?_, fun h1 => ?_⟩
  · have : cst (eN e.d9 e.K2 e.g7 ts) = some e.K2 := by unfold eN; rw [cst, if_pos h1]
    rw [c1l this] at h; exact h
  · by_cases h5 : e.d9 = 5
    · obtain ⟨t, rfl, hat⟩ := g5A ha h5
      obtain ⟨x, hE, hx, hl⟩ := he.kid (i := 0) rfl
      obtain ⟨us, rfl, _⟩ := hx.inv
      have hc : cst (eN e.d9 e.K2 e.g7 [eN x.d9 x.K2 x.g7 us]) = if x.d9 = 1 then some (IntKind.wrap .i64 (0 - x.K2)) else none := by
        unfold eN; rw [cst, if_neg h1, if_pos h5, kidC]
      refine ⟨x, fun _ => ⟨Int.le_refl _, hl, hE⟩, fun hq => ⟨Int.le_refl _, hl, x, hE, ?_⟩, fun hq => ?_⟩
      · simp only [Bool.and_eq_true, decide_eq_true_eq] at hq
        rw [if_pos hq.2] at hc
        rw [c1l hc] at h; exact h
      · rw [if_neg (by rw [decide_eq_true h5, Bool.true_and] at hq; exact of_decide_eq_false hq)] at hc
        rw [c1m hc] at h; exact h
    · have hc : cst (eN e.d9 e.K2 e.g7 ts) = none := by unfold eN; rw [cst, if_neg h1, if_neg h5]
      rw [c1m hc] at h
      refine ⟨⟨0, 0, ⟨#[]⟩, ⟨none, 0, 0⟩⟩, fun hq => ((h5 (of_decide_eq_true hq)).elim), fun hq => ?_, fun _ => h⟩
      rw [decide_eq_false h5, Bool.false_and] at hq; cases hq
theorem EH.leaf (H : Hp) (k n : Int) (s : ByteArray) : EH H ⟨k, n, s, ⟨none, 0, 0⟩⟩ (eN k n s []) := EH.mk (e := ⟨k, n, s, ⟨none, 0, 0⟩⟩) (ts := []) (SlH.nil _ _ _) (Nat.zero_le _) rfl fun i x t hx => by simp at hx
theorem EH.node {k n : Int} {s : ByteArray} {sl : Sl} {xs : List i4} {ts : List PT} (hs : SlH H 4 d5 sl xs) (hb : xs.length ≤ big) (hr : s7 (EH H) xs ts) : EH H ⟨k, n, s, sl⟩ (eN k n s ts) := EH.mk (e := ⟨k, n, s, sl⟩) hs hb hr.1 hr.2
end
end Go.Proofs.YtnhkdkcgdcgmdaaDoor
namespace Go.Proofs.YtnhkdkcgdcgmdaaDoor
open Go.RowKit
set_option maxRecDepth 100000
set_option maxHeartbeats 2000000
section
variable {H : Hp}
theorem CH.kind {e : o8} {t : PT} (h : CH H e t) : e.d9 = kindC t := by cases h; rfl
theorem CH.leaf (H : Hp) (k op : Int) : CH H ⟨k, op, ⟨none, 0, 0⟩, ⟨none, 0, 0⟩⟩ (cN k op [] []) := CH.mk (c := ⟨k, op, ⟨none, 0, 0⟩, ⟨none, 0, 0⟩⟩) (ts := []) (us := []) (SlH.nil _ _ _) (Nat.zero_le _) s7.nil (SlH.nil _ _ _) (Nat.zero_le _) rfl fun i x t hx => by simp at hx
theorem CH.node {k op : Int} {s s' : Sl} {xs : List i4} {ts : List PT} {ys : List o8} {us : List PT} (hs : SlH H 4 d5 s xs) (hb : xs.length ≤ big) (hr : s7 (EH H) xs ts) (hs' : SlH H 4 g8 s' ys) (hb' : ys.length ≤ big) (hr' : s7 (CH H) ys us) : CH H ⟨k, op, s, s'⟩ (cN k op ts us) := CH.mk (c := ⟨k, op, s, s'⟩) hs hb hr hs' hb' hr'.1 hr'.2
theorem SlH.at_ {α : Type} {sz : Nat} {c : α → List Value} {s : Sl} {xs : List α} (hs : SlH H sz c s xs) {i : Nat} {x : α} (hx : xs[i]? = some x) : EltH H s i sz (c x) ∧ (i : Int) < s.n := ⟨hs.2 i x hx, by have := D2 hx; have := hs.1; omega⟩
end
theorem D6 : ∀ {ts : List PT} (_ : formTs ts = true) {t : PT} (_ : t ∈ ts), formT t = true
  | t :: ts, h, u, hu => by
    rw [formTs, Bool.and_eq_true] at h
    rcases List.mem_cons.1 hu with e | hu
    · rw [e]; exact h.1
    · exact D6 h.2 hu
theorem d6d {k n : Int} {s : ByteArray} {a : Nat} (h : formE k n s a = true) : arE k a := by
  unfold formE at h
  split at h
  · cases h
  · split at h
    · simp only [Bool.and_eq_true, decide_eq_true_eq] at h; unfold arE; omega
    · split at h
      · simp only [decide_eq_true_eq] at h; unfold arE; omega
      · split at h
        · simp only [decide_eq_true_eq] at h; unfold arE; omega
        · split at h
          · simp only [decide_eq_true_eq] at h; unfold arE; omega
          · cases h
theorem d6e {k op : Int} {e p : Nat} (h : formC k op e p = true) : arC k e p := by
  unfold formC at h
  split at h
  · simp only [Bool.and_eq_true, decide_eq_true_eq] at h; unfold arC; omega
  · split at h
    · split at h
      · simp only [decide_eq_true_eq] at h; unfold arC; omega
      · split at h
        · simp only [decide_eq_true_eq] at h; unfold arC; omega
        · split at h
          · simp only [decide_eq_true_eq] at h; unfold arC; omega
          · cases h
    · cases h
section
variable {H : Hp}
theorem Sm.num {l : Lab} {cs : List PT} (h : Sm (.mk l cs)) : o0 (numL l) ∧ ∀ t ∈ cs, Sm t := by
  cases h with
  | mk h1 h2 => exact ⟨h1.2, h2⟩
theorem d9q {e : i4} {t : PT} (he : EH H e t) (hf : formT t = true) (hs : Sm t) : Ar t := by
  induction he with
  | @mk e xs ts hsl hb hl hr ih =>
    rw [formT, Bool.and_eq_true] at hf
    refine .mk ⟨d6d hf.1, rfl⟩ hs.num.1 fun t ht => ?_
    obtain ⟨i, hi⟩ := List.getElem?_of_mem ht
    obtain ⟨x, hx⟩ := u4 (l := xs) (i := i) (by have := D2 hi; omega)
    exact ih i x t hx hi (D6 hf.2 ht) (hs.num.2 t ht)
theorem f3c {e : o8} {t : PT} (he : CH H e t) (hf : formT t = true) (hs : Sm t) : ArC t := by
  induction he with
  | @mk e xs ts ys us hsl hb hr hc hcb hcl hcr ih =>
    rw [formT, Bool.and_eq_true] at hf
    refine .mk (d6e hf.1) (fun t ht => ?_) fun t ht => ?_
    · obtain ⟨i, hi⟩ := List.getElem?_of_mem ht
      obtain ⟨x, hx⟩ := u4 (l := xs) (i := i) (by have := D2 hi; have := hr.1; omega)
      exact d9q (hr.2 i x t hx hi) (D6 hf.2 (List.mem_append_left _ ht)) (hs.num.2 t (List.mem_append_left _ ht))
    · obtain ⟨i, hi⟩ := List.getElem?_of_mem ht
      obtain ⟨x, hx⟩ := u4 (l := ys) (i := i) (by have := D2 hi; omega)
      exact ih i x t hx hi (D6 hf.2 (List.mem_append_right _ ht)) (hs.num.2 t (List.mem_append_right _ ht))
end
end Go.Proofs.YtnhkdkcgdcgmdaaDoor
