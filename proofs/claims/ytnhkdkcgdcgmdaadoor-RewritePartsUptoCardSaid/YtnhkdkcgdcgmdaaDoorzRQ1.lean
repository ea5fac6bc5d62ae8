/- Trees: plain ones, how they lie in the frozen heap; whether two are the same, by the program and by the document. Contracts off the printed formulas. -/
import Derived.Test.YtnhkdkcgdcgmdaaDoorzRB
import Derived.Test.YtnhkdkcgdcgmdaaDoorzRV1a
import Derived.Test.YtnhkdkcgdcgmdaaDoorzRV1b
import Derived.Test.YtnhkdkcgdcgmdaaDoorzRV1c
import Derived.Test.YtnhkdkcgdcgmdaaDoorzRV1d
namespace Go.Proofs.YtnhkdkcgdcgmdaaDoor
open Go.RowKit
set_option maxRecDepth 100000
set_option maxHeartbeats 2000000
inductive Lab where
  | decl (size : Int) (name : ByteArray)
  | stmt (kind : Int) (name : ByteArray) (e c t f : Nat)
  | cond (kind op : Int) (e p : Nat)
  | expr (kind num : Int) (name : ByteArray) (n : Nat)
inductive PT where
  | mk (l : Lab) (cs : List PT)
def PT.lab : PT → Lab | .mk l _ => l
def PT.kids : PT → List PT | .mk _ cs => cs
abbrev big : Nat := 1099511627776
inductive EH (H : Hp) : a7 → PT → Prop
  | mk {e : a7} {xs : List a7} {ts : List PT} : SlH H 4 b8 e.d8 xs → xs.length ≤ big → xs.length = ts.length → (∀ (i : Nat) (x : a7) (t : PT), xs[i]? = some x → ts[i]? = some t → EH H x t) → EH H e (.mk (.expr e.b9 e.g9 e.g1 ts.length) ts)
inductive CH (H : Hp) : d5 → PT → Prop
  | mk {c : d5} {xs : List a7} {ts : List PT} {ys : List d5} {us : List PT} : SlH H 4 b8 c.g5 xs → xs.length ≤ big → v8 (EH H) xs ts → SlH H 4 d6 c.i7 ys → ys.length ≤ big → ys.length = us.length → (∀ (i : Nat) (x : d5) (t : PT), ys[i]? = some x → us[i]? = some t → CH H x t) → CH H c (.mk (.cond c.b9 c.fOp ts.length us.length) (ts ++ us))
inductive SH (H : Hp) : R5 → PT → Prop
  | mk {s : R5} {xs : List a7} {ts : List PT} {ys : List d5} {us : List PT} {zs bs : List R5} {vs ws : List PT} : SlH H 4 b8 s.g5 xs → xs.length ≤ big → v8 (EH H) xs ts → SlH H 4 d6 s.q9 ys → ys.length ≤ big → v8 (CH H) ys us →
      SlH H 6 v6 s.M8 zs → zs.length ≤ big → zs.length = vs.length → (∀ (i : Nat) (x : R5) (t : PT), zs[i]? = some x → vs[i]? = some t → SH H x t) →
      SlH H 6 v6 s.I5 bs → bs.length ≤ big → bs.length = ws.length → (∀ (i : Nat) (x : R5) (t : PT), bs[i]? = some x → ws[i]? = some t → SH H x t) →
      SH H s (.mk (.stmt s.b9 s.g1 ts.length us.length vs.length ws.length) (us ++ (ts ++ (vs ++ ws))))
theorem EH.le {H H' : Hp} (l : Hle H H') {e : a7} {t : PT} (h : EH H e t) : EH H' e t := by
  induction h with
  | mk hs hb hl _ ih => exact .mk (hs.le l) hb hl ih
theorem CH.le {H H' : Hp} (l : Hle H H') {e : d5} {t : PT} (h : CH H e t) : CH H' e t := by
  induction h with
  | mk hs hb hr hy hc hl _ ih => exact .mk (hs.le l) hb (hr.mono fun _ _ => EH.le l) (hy.le l) hc hl ih
theorem SH.le {H H' : Hp} (l : Hle H H') {e : R5} {t : PT} (h : SH H e t) : SH H' e t := by
  induction h with
  | mk hs hb hr hy hc hrc ha hab hal _ hbs hbb hbl _ ih1 ih2 => exact .mk (hs.le l) hb (hr.mono fun _ _ => EH.le l) (hy.le l) hc (hrc.mono fun _ _ => CH.le l) (ha.le l) hab hal ih1 (hbs.le l) hbb hbl ih2
structure PP where
  decls : List b0y
  body : List PT
structure PH (H : Hp) (p : c6b) (q : PP) : Prop where
  d : SlH H 2 a1R p.f3Z q.decls
  bd : q.decls.length ≤ big
  b : ∃ xs, SlH H 6 v6 p.g8L xs ∧ xs.length ≤ big ∧ v8 (SH H) xs q.body
theorem PH.le {H H' : Hp} {p : c6b} {q : PP} (h : PH H p q) (l : Hle H H') : PH H' p q := by
  obtain ⟨a, b, xs, c, d, e⟩ := h
  exact ⟨a.le l, b, xs, c.le l, d, e.mono fun _ _ => SH.le l⟩
open Classical in
noncomputable def eqT (a b : PT) : Bool := decide (a = b)
open Classical in
noncomputable def eqTs (a b : List PT) : Bool := decide (a = b)
theorem b5E {a b : PT} : eqT a b = true ↔ a = b := by unfold eqT; simp
theorem c1Z {a b : List PT} : eqTs a b = true ↔ a = b := by unfold eqTs; simp
theorem g0b {a b : PT} : eqT a b = false ↔ a ≠ b := by unfold eqT; simp
theorem d2A {a b : List PT} : eqTs a b = false ↔ a ≠ b := by unfold eqTs; simp
theorem c2a {a b : List PT} (h : a.length ≠ b.length) : eqTs a b = false := d2A.2 fun e => h (by rw [e])
theorem c5t {a b : List PT} {i : Nat} {x y : PT} (ha : a[i]? = some x) (hb : b[i]? = some y) (h : eqT x y = false) : eqTs a b = false := d2A.2 fun e => by
  rw [e, hb] at ha; cases ha; exact g0b.1 h rfl
theorem e2J {a b : List PT} (hl : a.length = b.length) (h : ∀ (i : Nat) (x y : PT), a[i]? = some x → b[i]? = some y → eqT x y = true) : eqTs a b = true := c1Z.2 (e7J hl fun i x y ha hb => b5E.1 (h i x y ha hb))
theorem e2K {k n : Int} {s : ByteArray} {ts : List PT} {k' n' : Int} {s' : ByteArray} {ts' : List PT} : eqT (.mk (.expr k n s ts.length) ts) (.mk (.expr k' n' s' ts'.length) ts') = (decide (k = k') && decide (n = n') && decide (s = s') && eqTs ts ts') := by
  rw [Bool.eq_iff_iff, b5E]
  simp only [Bool.and_eq_true, decide_eq_true_eq, c1Z, PT.mk.injEq, Lab.expr.injEq]
  constructor
  · rintro ⟨⟨rfl, rfl, rfl, _⟩, rfl⟩; exact ⟨⟨⟨rfl, rfl⟩, rfl⟩, rfl⟩
  · rintro ⟨⟨⟨rfl, rfl⟩, rfl⟩, rfl⟩; exact ⟨⟨rfl, rfl, rfl, rfl⟩, rfl⟩
theorem e2L {k n : Int} {ts us : List PT} {k' n' : Int} {ts' us' : List PT} : eqT (.mk (.cond k n ts.length us.length) (ts ++ us)) (.mk (.cond k' n' ts'.length us'.length) (ts' ++ us')) = (decide (k = k') && decide (n = n') && eqTs ts ts' && eqTs us us') := by
  rw [Bool.eq_iff_iff, b5E]
  simp only [Bool.and_eq_true, decide_eq_true_eq, c1Z, PT.mk.injEq, Lab.cond.injEq]
  constructor
  · rintro ⟨⟨rfl, rfl, h1, h2⟩, h⟩
    obtain ⟨rfl, rfl⟩ := List.append_inj h h1
    exact ⟨⟨⟨rfl, rfl⟩, rfl⟩, rfl⟩
  · rintro ⟨⟨⟨rfl, rfl⟩, rfl⟩, rfl⟩; exact ⟨⟨rfl, rfl, rfl, rfl⟩, rfl⟩
section
variable {H : Hp}
end
end Go.Proofs.YtnhkdkcgdcgmdaaDoor
