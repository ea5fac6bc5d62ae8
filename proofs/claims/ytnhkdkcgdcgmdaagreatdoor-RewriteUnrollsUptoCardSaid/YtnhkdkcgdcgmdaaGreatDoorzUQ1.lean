/- Trees: plain ones, how they lie in the frozen heap; whether two are the same, by the program and by the document. Contracts off the printed formulas. -/
import Derived.Test.YtnhkdkcgdcgmdaaGreatDoorzUB
import Derived.Test.YtnhkdkcgdcgmdaaGreatDoorzUV1a
import Derived.Test.YtnhkdkcgdcgmdaaGreatDoorzUV1b
import Derived.Test.YtnhkdkcgdcgmdaaGreatDoorzUV1c
import Derived.Test.YtnhkdkcgdcgmdaaGreatDoorzUV1d
namespace Go.Proofs.YtnhkdkcgdcgmdaaGreatDoor
open Go.RowKit
set_option maxRecDepth 100000
set_option maxHeartbeats 2000000
inductive Lab where
  | decl (size : Int) (name : ByteArray)
  | stmt (kind : Int) (name : ByteArray) (e c t f : Nat)
  | cond (kind op : Int) (e p : Nat)
  | expr (kind num : Int) (name : ByteArray) (n : Nat)
inductive PT where
  | mk (l : Lab) (cs : List PT)
def PT.lab : PT → Lab | .mk l _ => l
def PT.kids : PT → List PT | .mk _ cs => cs
abbrev big : Nat := 1099511627776
inductive EH (H : Hp) : a8 → PT → Prop
  | mk {e : a8} {xs : List a8} {ts : List PT} : SlH H 4 b8 e.k9 xs → xs.length ≤ big → xs.length = ts.length → (∀ (i : Nat) (x : a8) (t : PT), xs[i]? = some x → ts[i]? = some t → EH H x t) → EH H e (.mk (.expr e.b6 e.o6 e.f6 ts.length) ts)
inductive CH (H : Hp) : b7 → PT → Prop
  | mk {c : b7} {xs : List a8} {ts : List PT} {ys : List b7} {us : List PT} : SlH H 4 b8 c.f5 xs → xs.length ≤ big → u4 (EH H) xs ts → SlH H 4 d8 c.o3 ys → ys.length ≤ big → ys.length = us.length → (∀ (i : Nat) (x : b7) (t : PT), ys[i]? = some x → us[i]? = some t → CH H x t) → CH H c (.mk (.cond c.b6 c.fOp ts.length us.length) (ts ++ us))
inductive SH (H : Hp) : d6 → PT → Prop
  | mk {s : d6} {xs : List a8} {ts : List PT} {ys : List b7} {us : List PT} {zs bs : List d6} {vs ws : List PT} : SlH H 4 b8 s.f5 xs → xs.length ≤ big → u4 (EH H) xs ts → SlH H 4 d8 s.i4 ys → ys.length ≤ big → u4 (CH H) ys us →
      SlH H 6 d9 s.A5 zs → zs.length ≤ big → zs.length = vs.length → (∀ (i : Nat) (x : d6) (t : PT), zs[i]? = some x → vs[i]? = some t → SH H x t) →
      SlH H 6 d9 s.z6 bs → bs.length ≤ big → bs.length = ws.length → (∀ (i : Nat) (x : d6) (t : PT), bs[i]? = some x → ws[i]? = some t → SH H x t) →
      SH H s (.mk (.stmt s.b6 s.f6 ts.length us.length vs.length ws.length) (us ++ (ts ++ (vs ++ ws))))
theorem EH.le {H H' : Hp} (l : Hle H H') {e : a8} {t : PT} (h : EH H e t) : EH H' e t := by
  induction h with
  | mk hs hb hl _ ih => exact .mk (hs.le l) hb hl ih
theorem CH.le {H H' : Hp} (l : Hle H H') {e : b7} {t : PT} (h : CH H e t) : CH H' e t := by
  induction h with
  | mk hs hb hr hy hc hl _ ih => exact .mk (hs.le l) hb (hr.mono fun _ _ => EH.le l) (hy.le l) hc hl ih
theorem SH.le {H H' : Hp} (l : Hle H H') {e : d6} {t : PT} (h : SH H e t) : SH H' e t := by
  induction h with
  | mk hs hb hr hy hc hrc ha hab hal _ hbs hbb hbl _ ih1 ih2 => exact .mk (hs.le l) hb (hr.mono fun _ _ => EH.le l) (hy.le l) hc (hrc.mono fun _ _ => CH.le l) (ha.le l) hab hal ih1 (hbs.le l) hbb hbl ih2
structure PP where
  decls : List E0
  body : List PT
structure PH (H : Hp) (p : g7) (q : PP) : Prop where
  d : SlH H 2 w6 p.r5 q.decls
  bd : q.decls.length ≤ big
  b : ∃ xs, SlH H 6 d9 p.G3 xs ∧ xs.length ≤ big ∧ u4 (SH H) xs q.body
theorem PH.le {H H' : Hp} {p : g7} {q : PP} (h : PH H p q) (l : Hle H H') : PH H' p q := by
  obtain ⟨a, b, xs, c, d, e⟩ := h
  exact ⟨a.le l, b, xs, c.le l, d, e.mono fun _ _ => SH.le l⟩
open Classical in
noncomputable def eqT (a b : PT) : Bool := decide (a = b)
open Classical in
noncomputable def eqTs (a b : List PT) : Bool := decide (a = b)
theorem c7i {a b : PT} : eqT a b = true ↔ a = b := by unfold eqT; simp
theorem b9s {a b : List PT} : eqTs a b = true ↔ a = b := by unfold eqTs; simp
theorem h5l {a b : PT} : eqT a b = false ↔ a ≠ b := by unfold eqT; simp
theorem e2H {a b : List PT} : eqTs a b = false ↔ a ≠ b := by unfold eqTs; simp
theorem b5V {a b : List PT} (h : a.length ≠ b.length) : eqTs a b = false := e2H.2 fun e => h (by rw [e])
theorem b8f {a b : List PT} {i : Nat} {x y : PT} (ha : a[i]? = some x) (hb : b[i]? = some y) (h : eqT x y = false) : eqTs a b = false := e2H.2 fun e => by
  rw [e, hb] at ha; cases ha; exact h5l.1 h rfl
theorem f5f {a b : List PT} (hl : a.length = b.length) (h : ∀ (i : Nat) (x y : PT), a[i]? = some x → b[i]? = some y → eqT x y = true) : eqTs a b = true := b9s.2 (e2l hl fun i x y ha hb => c7i.1 (h i x y ha hb))
theorem f5g {k n : Int} {s : ByteArray} {ts : List PT} {k' n' : Int} {s' : ByteArray} {ts' : List PT} : eqT (.mk (.expr k n s ts.length) ts) (.mk (.expr k' n' s' ts'.length) ts') = (decide (k = k') && decide (n = n') && decide (s = s') && eqTs ts ts') := by
  rw [Bool.eq_iff_iff, c7i]
  simp only [Bool.and_eq_true, decide_eq_true_eq, b9s, PT.mk.injEq, Lab.expr.injEq]
  constructor
  · rintro ⟨⟨rfl, rfl, rfl, _⟩, rfl⟩; exact ⟨⟨⟨rfl, rfl⟩, rfl⟩, rfl⟩
  · rintro ⟨⟨⟨rfl, rfl⟩, rfl⟩, rfl⟩; exact ⟨⟨rfl, rfl, rfl, rfl⟩, rfl⟩
theorem f5h {k n : Int} {ts us : List PT} {k' n' : Int} {ts' us' : List PT} : eqT (.mk (.cond k n ts.length us.length) (ts ++ us)) (.mk (.cond k' n' ts'.length us'.length) (ts' ++ us')) = (decide (k = k') && decide (n = n') && eqTs ts ts' && eqTs us us') := by
  rw [Bool.eq_iff_iff, c7i]
  simp only [Bool.and_eq_true, decide_eq_true_eq, b9s, PT.mk.injEq, Lab.cond.injEq]
  constructor
  · rintro ⟨⟨rfl, rfl, h1, h2⟩, h⟩
    obtain ⟨rfl, rfl⟩ := List.append_inj h h1
    exact ⟨⟨⟨rfl, rfl⟩, rfl⟩, rfl⟩
  · rintro ⟨⟨⟨rfl, rfl⟩, rfl⟩, rfl⟩; exact ⟨⟨rfl, rfl, rfl, rfl⟩, rfl⟩
theorem f5i {k : Int} {s : ByteArray} {ts us vs ws : List PT} {k' : Int} {s' : ByteArray} {ts' us' vs' ws' : List PT} : eqT (.mk (.stmt k s ts.length us.length vs.length ws.length) (us ++ (ts ++ (vs ++ ws)))) (.mk (.stmt k' s' ts'.length us'.length vs'.length ws'.length) (us' ++ (ts' ++ (vs' ++ ws')))) = (decide (k = k') && decide (s = s') && eqTs ts ts' && eqTs us us' && eqTs vs vs' && eqTs ws ws') := by
  rw [Bool.eq_iff_iff, c7i]
  simp only [Bool.and_eq_true, decide_eq_true_eq, b9s, PT.mk.injEq, Lab.stmt.injEq]
  constructor
  · rintro ⟨⟨rfl, rfl, h1, h2, h3, h4⟩, h⟩
    obtain ⟨e1, h5⟩ := List.append_inj h h2
    obtain ⟨e2, h6⟩ := List.append_inj h5 h1
    obtain ⟨e3, e4⟩ := List.append_inj h6 h3
    subst e1; subst e2; subst e3; subst e4
    exact ⟨⟨⟨⟨⟨rfl, rfl⟩, rfl⟩, rfl⟩, rfl⟩, rfl⟩
  · rintro ⟨⟨⟨⟨⟨rfl, rfl⟩, rfl⟩, rfl⟩, rfl⟩, rfl⟩; exact ⟨⟨rfl, rfl, rfl, rfl, rfl, rfl⟩, rfl⟩
section
variable {H : Hp}
end
end Go.Proofs.YtnhkdkcgdcgmdaaGreatDoor
