/- Typed formulas of the program's functions that few laws need; printed by lift.py off the code. -/
import Derived.Test.YtnhkdkcgdcgmdaaGreatDoorzXG1t
import Derived.Test.YtnhkdkcgdcgmdaaGreatDoorzXQ8
namespace Go.Proofs.YtnhkdkcgdcgmdaaGreatDoor
open Go.RowKit
set_option maxRecDepth 100000
set_option maxHeartbeats 2000000
def a6M (x0 : m2) (H : Hp) (K : Int → Bool → Hp → Prop) : Prop :=
 (x0.b7 = 1 →
 K x0.C9 true H) ∧
 (¬ (x0.b7 = 1) →
 ∃ a : m2, ((decide (x0.b7 = 5)) = true → (0 : Int) ≤ 0 ∧ (0 : Int) < x0.z8.n ∧ EltH H x0.z8 0 4 (f4 a)) ∧
 (((decide (x0.b7 = 5)) && (decide (a.b7 = 1))) = true →
 (0 : Int) ≤ 0 ∧ (0 : Int) < x0.z8.n ∧ ∃ b : m2, EltH H x0.z8 0 4 (f4 b) ∧
 K (IntKind.wrap .i64 (0 - b.C9)) true H) ∧
 (((decide (x0.b7 = 5)) && (decide (a.b7 = 1))) = false →
 K 0 false H))
def eN (k n : Int) (s : ByteArray) (cs : List PT) : PT := .mk (.expr k n s cs.length) cs
def kidC : List PT → Option Int
 | .mk (.expr k n _ _) _ :: _ => if k = 1 then some (IntKind.wrap .i64 (0 - n)) else none
 | _ => none
def cst : PT → Option Int
 | .mk (.expr k n _ _) cs => if k = 1 then some n else if k = 5 then kidC cs else none
 | _ => none
def plainT (v : Int) : PT := if v < 0 then eN 5 0 ⟨#[]⟩ [eN 1 (IntKind.wrap .i64 (0 - v)) ⟨#[]⟩ []] else eN 1 v ⟨#[]⟩ []
def two (f : Int → Int → Option Int) : Option Int → Option Int → Option Int
 | some x, some y => f x y
 | _, _ => none
def cN (k op : Int) (xs ps : List PT) : PT := .mk (.cond k op xs.length ps.length) (xs ++ ps)
def kindC : PT → Int
 | .mk (.cond k _ _ _) _ => k
 | _ => 0
def arE (k : Int) (n : Nat) : Prop := 1 ≤ k ∧ k ≤ 10 ∧ (k < 5 → n ≤ 1) ∧ (k = 5 → n = 1) ∧ (6 ≤ k → n = 2)
inductive Ar : PT → Prop
 | mk {k n : Int} {s : ByteArray} {a : Nat} {cs : List PT} : arE k cs.length ∧ a = cs.length → o8 n → (∀ t ∈ cs, Ar t) → Ar (.mk (.expr k n s a) cs)
def arC (k : Int) (e p : Nat) : Prop := (k = 3 → e = 2) ∧ (k = 4 → p = 1) ∧ (k = 5 → p = 2) ∧ (k = 6 → p = 2)
inductive ArC : PT → Prop
 | mk {k op : Int} {xs ps : List PT} : arC k xs.length ps.length → (∀ t ∈ xs, Ar t) → (∀ t ∈ ps, ArC t) → ArC (.mk (.cond k op xs.length ps.length) (xs ++ ps))
theorem c5q (n : Int) : o8 (IntKind.wrap .i64 n) := by rw [IntKind.wrap_i64]; unfold o8; omega
theorem d2L {t : PT} (h : Ar t) {v : Int} (hv : cst t = some v) : o8 v := by
 cases h with
 | @mk k n s a cs h1 h2 h3 =>
  rw [cst] at hv
  split at hv
  ·cases hv; exact h2
  ·split at hv
   ·unfold kidC at hv
    split at hv
    ·split at hv
     ·cases hv; exact c5q _
     ·cases hv
    ·cases hv
   ·cases hv
section
variable {H : Hp}
theorem EH.kid {e : m2} {ts : List PT} {l : Lab} (he : EH H e (.mk l ts)) {i : Nat} {t : PT} (ht : ts[i]? = some t) : ∃ x, EltH H e.z8 i 4 (f4 x) ∧ EH H x t ∧ (i : Int) < e.z8.n := by
 cases he with
 | @mk _ xs _ hs hb hl hr =>
  obtain ⟨x, hx⟩ := r6 (l := xs) (i := i) (by have := s8 ht; omega)
  have := s8 hx
  have hn := hs.1
  exact ⟨x, hs.2 i x hx, hr i x t hx ht, by omega⟩
theorem EH.inv {e : m2} {t : PT} (he : EH H e t) : ∃ ts, t = eN e.b7 e.C9 e.d9 ts ∧ e.z8.n = ts.length := by
 cases he with
 | @mk _ xs ts hs hb hl hr => exact ⟨ts, rfl, by have := hs.1; omega⟩
def cstP (t : PT) : Int × Bool := match cst t with | some v => (v, true) | none => (0, false)
theorem b4v {t : PT} {v : Int} (h : cst t = some v) : cstP t = (v, true) := by unfold cstP; rw [h]
theorem b4w {t : PT} (h : cst t = none) : cstP t = (0, false) := by unfold cstP; rw [h]
theorem d5X {k n : Int} {s : ByteArray} {a : Nat} {ts : List PT} (h : Ar (.mk (.expr k n s a) ts)) (hk : k = 5) : ∃ t, ts = [t] ∧ Ar t := by
 cases h with
 | mk h1 h2 h3 =>
  have := h1.1.2.2.2.1 hk
  match ts, this with
  | [t], _ => exact ⟨t, rfl, h3 t (by simp)⟩
theorem c2y {e : m2} {t : PT} (he : EH H e t) (ha : Ar t) {K : Int → Bool → Hp → Prop} (h : K (cstP t).1 (cstP t).2 H) : a6M e H K := by
 obtain ⟨ts, rfl, hn⟩ := he.inv
 unfold a6M
 refine ⟨fun h1 => ?_, fun h1 => ?_⟩
 ·have : cst (eN e.b7 e.C9 e.d9 ts) = some e.C9 := by unfold eN; rw [cst, if_pos h1]
  rw [b4v this] at h; exact h
 ·by_cases h5 : e.b7 = 5
  ·obtain ⟨t, rfl, hat⟩ := d5X ha h5
   obtain ⟨x, hE, hx, hl⟩ := he.kid (i := 0) rfl
   obtain ⟨us, rfl, _⟩ := hx.inv
   have hc : cst (eN e.b7 e.C9 e.d9 [eN x.b7 x.C9 x.d9 us]) = if x.b7 = 1 then some (IntKind.wrap .i64 (0 - x.C9)) else none := by
    unfold eN; rw [cst, if_neg h1, if_pos h5, kidC]
   refine ⟨x, fun _ => ⟨Int.le_refl _, hl, hE⟩, fun hq => ⟨Int.le_refl _, hl, x, hE, ?_⟩, fun hq => ?_⟩
   ·simp only [Bool.and_eq_true, decide_eq_true_eq] at hq
    rw [if_pos hq.2] at hc
    rw [b4v hc] at h; exact h
   ·rw [if_neg (by rw [decide_eq_true h5, Bool.true_and] at hq; exact of_decide_eq_false hq)] at hc
    rw [b4w hc] at h; exact h
  ·have hc : cst (eN e.b7 e.C9 e.d9 ts) = none := by unfold eN; rw [cst, if_neg h1, if_neg h5]
   rw [b4w hc] at h
   refine ⟨⟨0, 0, ⟨#[]⟩, ⟨none, 0, 0⟩⟩, fun hq => ((h5 (of_decide_eq_true hq)).elim), fun hq => ?_, fun _ => h⟩
   rw [decide_eq_false h5, Bool.false_and] at hq; cases hq
theorem EH.leaf (H : Hp) (k n : Int) (s : ByteArray) : EH H ⟨k, n, s, ⟨none, 0, 0⟩⟩ (eN k n s []) := EH.mk (e := ⟨k, n, s, ⟨none, 0, 0⟩⟩) (ts := []) (SlH.nil _ _ _) (Nat.zero_le _) rfl fun i x t hx => by simp at hx
theorem EH.node {k n : Int} {s : ByteArray} {sl : Sl} {xs : List m2} {ts : List PT} (hs : SlH H 4 f4 sl xs) (hb : xs.length ≤ big) (hr : C0 (EH H) xs ts) : EH H ⟨k, n, s, sl⟩ (eN k n s ts) := EH.mk (e := ⟨k, n, s, sl⟩) hs hb hr.1 hr.2
end
section
variable {H : Hp}
theorem CH.kind {e : o0} {t : PT} (h : CH H e t) : e.b7 = kindC t := by cases h; rfl
theorem CH.leaf (H : Hp) (k op : Int) : CH H ⟨k, op, ⟨none, 0, 0⟩, ⟨none, 0, 0⟩⟩ (cN k op [] []) := CH.mk (c := ⟨k, op, ⟨none, 0, 0⟩, ⟨none, 0, 0⟩⟩) (ts := []) (us := []) (SlH.nil _ _ _) (Nat.zero_le _) C0.nil (SlH.nil _ _ _) (Nat.zero_le _) rfl fun i x t hx => by simp at hx
theorem CH.node {k op : Int} {s s' : Sl} {xs : List m2} {ts : List PT} {ys : List o0} {us : List PT} (hs : SlH H 4 f4 s xs) (hb : xs.length ≤ big) (hr : C0 (EH H) xs ts) (hs' : SlH H 4 h9 s' ys) (hb' : ys.length ≤ big) (hr' : C0 (CH H) ys us) : CH H ⟨k, op, s, s'⟩ (cN k op ts us) := CH.mk (c := ⟨k, op, s, s'⟩) hs hb hr hs' hb' hr'.1 hr'.2
theorem SlH.at_ {α : Type} {sz : Nat} {c : α → List Value} {s : Sl} {xs : List α} (hs : SlH H sz c s xs) {i : Nat} {x : α} (hx : xs[i]? = some x) : EltH H s i sz (c x) ∧ (i : Int) < s.n := ⟨hs.2 i x hx, by have := s8 hx; have := hs.1; omega⟩
end
theorem A7 : ∀ {ts : List PT} (_ : formTs ts = true) {t : PT} (_ : t ∈ ts), formT t = true
 | t :: ts, h, u, hu => by
  rw [formTs, Bool.and_eq_true] at h
  rcases List.mem_cons.1 hu with e | hu
  ·rw [e]; exact h.1
  ·exact A7 h.2 hu
theorem c6P {k n : Int} {s : ByteArray} {a : Nat} (h : formE k n s a = true) : arE k a := by
 unfold formE at h
 split at h
 ·cases h
 ·split at h
  ·simp only [Bool.and_eq_true, decide_eq_true_eq] at h; unfold arE; omega
  ·split at h
   ·simp only [decide_eq_true_eq] at h; unfold arE; omega
   ·split at h
    ·simp only [decide_eq_true_eq] at h; unfold arE; omega
    ·split at h
     ·simp only [decide_eq_true_eq] at h; unfold arE; omega
     ·cases h
theorem c6Q {k op : Int} {e p : Nat} (h : formC k op e p = true) : arC k e p := by
 unfold formC at h
 split at h
 ·simp only [Bool.and_eq_true, decide_eq_true_eq] at h; unfold arC; omega
 ·split at h
  ·split at h
   ·simp only [decide_eq_true_eq] at h; unfold arC; omega
   ·split at h
    ·simp only [decide_eq_true_eq] at h; unfold arC; omega
    ·split at h
     ·simp only [decide_eq_true_eq] at h; unfold arC; omega
     ·cases h
  ·cases h
section
variable {H : Hp}
theorem Sm.num {l : Lab} {cs : List PT} (h : Sm (.mk l cs)) : o8 (numL l) ∧ ∀ t ∈ cs, Sm t := by
 cases h with
 | mk h1 h2 => exact ⟨h1.2, h2⟩
theorem c7I {e : m2} {t : PT} (he : EH H e t) (hf : formT t = true) (hs : Sm t) : Ar t := by
 induction he with
 | @mk e xs ts hsl hb hl hr ih =>
  rw [formT, Bool.and_eq_true] at hf
  refine .mk ⟨c6P hf.1, rfl⟩ hs.num.1 fun t ht => ?_
  obtain ⟨i, hi⟩ := List.getElem?_of_mem ht
  obtain ⟨x, hx⟩ := r6 (l := xs) (i := i) (by have := s8 hi; omega)
  exact ih i x t hx hi (A7 hf.2 ht) (hs.num.2 t ht)
theorem d2M {e : o0} {t : PT} (he : CH H e t) (hf : formT t = true) (hs : Sm t) : ArC t := by
 induction he with
 | @mk e xs ts ys us hsl hb hr hc hcb hcl hcr ih =>
  rw [formT, Bool.and_eq_true] at hf
  refine .mk (c6Q hf.1) (fun t ht => ?_) fun t ht => ?_
  ·obtain ⟨i, hi⟩ := List.getElem?_of_mem ht
   obtain ⟨x, hx⟩ := r6 (l := xs) (i := i) (by have := s8 hi; have := hr.1; omega)
   exact c7I (hr.2 i x t hx hi) (A7 hf.2 (List.mem_append_left _ ht)) (hs.num.2 t (List.mem_append_left _ ht))
  ·obtain ⟨i, hi⟩ := List.getElem?_of_mem ht
   obtain ⟨x, hx⟩ := r6 (l := ys) (i := i) (by have := s8 hi; omega)
   exact ih i x t hx hi (A7 hf.2 (List.mem_append_right _ ht)) (hs.num.2 t (List.mem_append_right _ ht))
end
variable {w : World} {R : RT} {E : Pan}
def F62 (x0 w) (R : RT) (E) :=
 oP E (xV (Instr.box 25 x0)) w fun a b =>
 oP E (fA 25 a 1) b fun c d =>
 oP E (lA 23 c) d fun e f =>
 oP E (xCall (fC 104) [(nS), e]) f fun g i =>
 R g i
def h62 : Hint := (sQ (sQ hN))
theorem d2N {x0 : Value} (h : F62 x0 w R E) : Cv pG 62 #[x0] w R E := okF (h := h62) Tryz.func62 (by kernel_rfl) (by kernel_rfl) h
def b7R (x0 w) (R : RT) (_E : Pan) :=
 ∀ _τ : Fr, (R x0 w)
def b7S (x0 _x1 x5 : Value) (w) (next2 : NT) (_R : RT) (E) :=
 ∀ _τ : Fr, (oP E (xBin .add 3 (.tmp 13) (.const (vI 1)) x5 (vI 1)) w fun a b =>
 next2 [x0, a] b)
def b7T (x0 _x1 _x5 x6 : Value) (w) (j3 : NT) (_R : RT) (E) :=
 ∀ _τ : Fr, (oP E (fA 73 x6 4) w fun a b =>
 oP E (lA 23 a) b fun c d =>
 oP E (xCall (fC 104) [x0, c]) d fun e f =>
 oP E (fA 73 x6 5) f fun g i =>
 oP E (lA 23 g) i fun j k =>
 oP E (xCall (fC 104) [e, j]) k fun l m =>
 j3 [l] m)
def c2z (x0 _x1 _x5 x6 x8 : Value) (w) (next7 : NT) (j6 : NT) (_R : RT) (E) :=
 oP E (fA 73 x6 2) w fun b c =>
 oP E (lA 51 b) c fun d e =>
 oP E (xBuiltin .len #[51] 3 [false] [d]) e fun f g =>
 oP E (xBin .lss 3 (.tmp 50) (.tmp 53) x8 f) g fun i a =>
 xcond i
 (oP E (fA 73 x6 2) a fun j k =>
 oP E (lA 51 j) k fun l m =>
 oP E (iA 51 l x8) m fun n o =>
 oP E (lA 53 n) o fun p q =>
 oP E (xCall (fC 139) [x0, p]) q fun r s =>
 oP E (xBin .add 3 (.tmp 55) (.const (vI 1)) x8 (vI 1)) s fun t u =>
 next7 [r, t] u)
 (j6 [x0] a)
def b7U (x0 x1 x5 x6 w) (j3 : NT) (R : RT) (E) :=
 ∀ _τ : Fr, (xcut (fun b c => b7T (nth b 0) x1 x5 x6 c j3 R E) fun j6 =>
 xloop [0, 8] [x0, (vI 0)] w fun a d next7 =>
 c2z (a 0) x1 x5 x6 (a 8) d next7 j6 R E)
def c2A (x0 _x1 _x5 x6 x7 : Value) (w) (next8 : NT) (j5 : NT) (_R : RT) (E) :=
 oP E (fA 73 x6 3) w fun b c =>
 oP E (lA 57 b) c fun d e =>
 oP E (xBuiltin .len #[57] 3 [false] [d]) e fun f g =>
 oP E (xBin .lss 3 (.tmp 36) (.tmp 39) x7 f) g fun i a =>
 xcond i
 (oP E (fA 73 x6 3) a fun j k =>
 oP E (lA 57 j) k fun l m =>
 oP E (iA 57 l x7) m fun n o =>
 oP E (lA 59 n) o fun p q =>
 oP E (xCall (fC 138) [x0, p]) q fun r s =>
 oP E (xBin .add 3 (.tmp 41) (.const (vI 1)) x7 (vI 1)) s fun t u =>
 next8 [r, t] u)
 (j5 [x0] a)
def b7V (x0 x1 x5 x6 w) (j3 : NT) (R : RT) (E) :=
 ∀ _τ : Fr, (xcut (fun b c => b7U (nth b 0) x1 x5 x6 c j3 R E) fun j5 =>
 xloop [0, 7] [x0, (vI 0)] w fun a d next8 =>
 c2A (a 0) x1 x5 x6 (a 7) d next8 j5 R E)
def c2B (x0 x1 x5 w) (next2 : NT) (j1 : NT) (R : RT) (E) :=
 oP E (xBuiltin .len #[23] 3 [false] [x1]) w fun e f =>
 oP E (xBin .lss 3 (.tmp 9) (.tmp 11) x5 e) f fun g c =>
 xcond g
 (xcut (fun i j => b7S (nth i 0) x1 x5 j next2 R E) fun j3 =>
 oP E (iA 23 x1 x5) c fun k l =>
 oP E (lA 73 k) l fun m n =>
 oP E (xV (Instr.alloc 73 true (.tuple #[]))) n fun a o =>
 oP E (sA 73 a m) o fun _ p =>
 xcut (fun q r => b7V (nth q 0) x1 x5 a r j3 R E) fun j4 =>
 oP E (fA 73 a 0) p fun s t =>
 oP E (lA 3 s) t fun u v =>
 oP E (xBin .eql 3 (.tmp 20) (.const (vI 1)) u (vI 1)) v fun b y =>
 oP E (gsem (asB b) false (fA 73 a 0)) y fun z aa =>
 oP E (gsem (asB b) false (lA 3 z)) aa fun ab ac =>
 oP E (gsem (asB b) false (xBin .eql 3 (.tmp 24) (.const (vI 2)) ab (vI 2))) ac fun ad ae =>
 oP E (xPick b (vB true) ad) ae fun af d =>
 xcond af
 (oP E (fA 73 a 1) d fun ag ah =>
 oP E (lA 9 ag) ah fun ai aj =>
 oP E (fA 73 a 0) aj fun ak al =>
 oP E (lA 3 ak) al fun am an =>
 oP E (xBin .eql 3 (.tmp 31) (.const (vI 2)) am (vI 2)) an fun ao ap =>
 oP E (xV (Instr.build 133 #[(0, ai), (1, ao)])) ap fun aq ar =>
 oP E (xV (Instr.buildSlice 130 1 #[(0, aq)])) ar fun au av =>
 oP E (xBuiltin .append #[130, 130] 130 [false, false] [x0, au]) av fun aw ax =>
 j4 [aw] ax)
 (j4 [x0] d))
 (j1 [x0] c)
def d2O (x0 x1 w) (R : RT) (E) :=
 xcut (fun b c => b7R (nth b 0) c R E) fun j1 =>
 xloop [0, 5] [x0, (vI 0)] w fun a d next2 =>
 c2B (a 0) x1 (a 5) d next2 j1 R E
def d5Y : Hint := (sQ (hU [0] (sQ (hB (hL [0, 5] (hS (sQ (hC hN hN)) (hU [0] (hB (sQ (hU [0] (sQ (hC hN hN)) (hU [0] (sQ (hB (hL [0, 7] (hS (sQ (hC hN hN)) (hS (hB hN) hN))))) (hU [0] (sQ (hB (hL [0, 8] (hS (sQ (hC hN hN)) (hS (hB hN) hN))))) (sQ hN)))))) hN))))) (sQ hN)))
theorem c9N {x0 x1 : Value} (h : d2O x0 x1 w R E) : Cv pG 104 #[x0, x1] w R E := okF (h := d5Y) Tryz.func104 (by kernel_rfl) (by kernel_rfl) h
def b7W (x0 w) (R : RT) (_E : Pan) :=
 ∀ _τ : Fr, (R x0 w)
def c2C (x0 x3 x6 w) (next3 : NT) (j2 : NT) (_R : RT) (E) :=
 oP E (fA 59 x3 3) w fun b c =>
 oP E (lA 57 b) c fun d e =>
 oP E (xBuiltin .len #[57] 3 [false] [d]) e fun f g =>
 oP E (xBin .lss 3 (.tmp 21) (.tmp 24) x6 f) g fun i a =>
 xcond i
 (oP E (fA 59 x3 3) a fun j k =>
 oP E (lA 57 j) k fun l m =>
 oP E (iA 57 l x6) m fun n o =>
 oP E (lA 59 n) o fun p q =>
 oP E (xCall (fC 138) [x0, p]) q fun r s =>
 oP E (xBin .add 3 (.tmp 26) (.const (vI 1)) x6 (vI 1)) s fun t u =>
 next3 [r, t] u)
 (j2 [x0] a)
def b7X (x0 x3 w) (R : RT) (E) :=
 ∀ _τ : Fr, (xcut (fun b c => b7W (nth b 0) c R E) fun j2 =>
 xloop [0, 6] [x0, (vI 0)] w fun a d next3 =>
 c2C (a 0) x3 (a 6) d next3 j2 R E)
def c2D (x0 x3 x5 w) (next4 : NT) (j1 : NT) (_R : RT) (E) :=
 oP E (fA 59 x3 2) w fun b c =>
 oP E (lA 51 b) c fun d e =>
 oP E (xBuiltin .len #[51] 3 [false] [d]) e fun f g =>
 oP E (xBin .lss 3 (.tmp 7) (.tmp 10) x5 f) g fun i a =>
 xcond i
 (oP E (fA 59 x3 2) a fun j k =>
 oP E (lA 51 j) k fun l m =>
 oP E (iA 51 l x5) m fun n o =>
 oP E (lA 53 n) o fun p q =>
 oP E (xCall (fC 139) [x0, p]) q fun r s =>
 oP E (xBin .add 3 (.tmp 12) (.const (vI 1)) x5 (vI 1)) s fun t u =>
 next4 [r, t] u)
 (j1 [x0] a)
def d2P (x0 x1 w) (R : RT) (E) :=
 oP E (xV (Instr.box 59 x1)) w fun a c =>
 xcut (fun d e => b7X (nth d 0) a e R E) fun j1 =>
 xloop [0, 5] [x0, (vI 0)] c fun b f next4 =>
 c2D (b 0) a (b 5) f next4 j1 R E
def d5Z : Hint := (sQ (hU [0] (sQ (hB (hL [0, 5] (hS (sQ (hC hN hN)) (hS (hB hN) hN))))) (hU [0] (sQ (hB (hL [0, 6] (hS (sQ (hC hN hN)) (hS (hB hN) hN))))) (sQ hN))))
theorem c9O {x0 x1 : Value} (h : d2P x0 x1 w R E) : Cv pG 138 #[x0, x1] w R E := okF (h := d5Z) Tryz.func138 (by kernel_rfl) (by kernel_rfl) h
def b7Y (x0 w) (R : RT) (_E : Pan) :=
 ∀ _τ : Fr, (R x0 w)
def c2E (x0 x3 x5 w) (next3 : NT) (j2 : NT) (_R : RT) (E) :=
 oP E (fA 53 x3 3) w fun b c =>
 oP E (lA 51 b) c fun d e =>
 oP E (xBuiltin .len #[51] 3 [false] [d]) e fun f g =>
 oP E (xBin .lss 3 (.tmp 23) (.tmp 26) x5 f) g fun i a =>
 xcond i
 (oP E (fA 53 x3 3) a fun j k =>
 oP E (lA 51 j) k fun l m =>
 oP E (iA 51 l x5) m fun n o =>
 oP E (lA 53 n) o fun p q =>
 oP E (xCall (fC 139) [x0, p]) q fun r s =>
 oP E (xBin .add 3 (.tmp 28) (.const (vI 1)) x5 (vI 1)) s fun t u =>
 next3 [r, t] u)
 (j2 [x0] a)
def b7Z (x0 x3 w) (R : RT) (E) :=
 ∀ _τ : Fr, (xcut (fun b c => b7Y (nth b 0) c R E) fun j2 =>
 xloop [0, 5] [x0, (vI 0)] w fun a d next3 =>
 c2E (a 0) x3 (a 5) d next3 j2 R E)
def d2Q (x0 x1 w) (R : RT) (E) :=
 oP E (xV (Instr.box 53 x1)) w fun a d =>
 xcut (fun e f => b7Z (nth e 0) a f R E) fun j1 =>
 oP E (fA 53 a 0) d fun g i =>
 oP E (lA 3 g) i fun j k =>
 oP E (xBin .eql 3 (.tmp 7) (.const (vI 2)) j (vI 2)) k fun b l =>
 oP E (gsem (asB b) false (fA 53 a 0)) l fun m n =>
 oP E (gsem (asB b) false (lA 3 m)) n fun o p =>
 oP E (gsem (asB b) false (xBin .eql 3 (.tmp 11) (.const (vI 4)) o (vI 4))) p fun q r =>
 oP E (xPick b (vB true) q) r fun s c =>
 xcond s
 (oP E (fA 53 a 2) c fun t u =>
 oP E (lA 9 t) u fun v y =>
 oP E (fA 53 a 0) y fun z aa =>
 oP E (lA 3 z) aa fun ab ac =>
 oP E (xBin .eql 3 (.tmp 18) (.const (vI 4)) ab (vI 4)) ac fun ad ae =>
 oP E (xV (Instr.build 133 #[(0, v), (1, ad)])) ae fun af ag =>
 oP E (xV (Instr.buildSlice 130 1 #[(0, af)])) ag fun ah ai =>
 oP E (xBuiltin .append #[130, 130] 130 [false, false] [x0, ah]) ai fun aj ak =>
 j1 [aj] ak)
 (j1 [x0] c)
def d6a : Hint := (sQ (hU [0] (sQ (hC hN hN)) (hU [0] (sQ (hB (hL [0, 5] (hS (sQ (hC hN hN)) (hS (hB hN) hN))))) (sQ hN))))
theorem c9P {x0 x1 : Value} (h : d2Q x0 x1 w R E) : Cv pG 139 #[x0, x1] w R E := okF (h := d6a) Tryz.func139 (by kernel_rfl) (by kernel_rfl) h
end Go.Proofs.YtnhkdkcgdcgmdaaGreatDoor
