/- Trees: plain ones, how they lie in the frozen heap; whether two are the same, by the program and by the document. Contracts off the printed formulas. -/
import Derived.Test.YthldnpmfelniiaaDoorzVB
import Derived.Test.YthldnpmfelniiaaDoorzVV1a
import Derived.Test.YthldnpmfelniiaaDoorzVV1b
import Derived.Test.YthldnpmfelniiaaDoorzVV1c
import Derived.Test.YthldnpmfelniiaaDoorzVV1d
namespace Go.Proofs.YthldnpmfelniiaaDoor
open Go.RowKit
set_option maxRecDepth 100000
set_option maxHeartbeats 2000000
inductive Lab where
  | decl (size : Int) (name : ByteArray)
  | stmt (kind : Int) (name : ByteArray) (e c t f : Nat)
  | cond (kind op : Int) (e p : Nat)
  | expr (kind num : Int) (name : ByteArray) (n : Nat)
inductive PT where
  | mk (l : Lab) (cs : List PT)
def PT.lab : PT → Lab | .mk l _ => l
def PT.kids : PT → List PT | .mk _ cs => cs
abbrev big : Nat := 1099511627776
inductive EH (H : Hp) : q7 → PT → Prop
  | mk {e : q7} {xs : List q7} {ts : List PT} : SlH H 4 d4 e.y8 xs → xs.length ≤ big → xs.length = ts.length → (∀ (i : Nat) (x : q7) (t : PT), xs[i]? = some x → ts[i]? = some t → EH H x t) → EH H e (.mk (.expr e.d5 e.X3 e.c6 ts.length) ts)
inductive CH (H : Hp) : r6 → PT → Prop
  | mk {c : r6} {xs : List q7} {ts : List PT} {ys : List r6} {us : List PT} : SlH H 4 d4 c.c5 xs → xs.length ≤ big → z7 (EH H) xs ts → SlH H 4 f6 c.o5 ys → ys.length ≤ big → ys.length = us.length → (∀ (i : Nat) (x : r6) (t : PT), ys[i]? = some x → us[i]? = some t → CH H x t) → CH H c (.mk (.cond c.d5 c.fOp ts.length us.length) (ts ++ us))
inductive SH (H : Hp) : q8 → PT → Prop
  | mk {s : q8} {xs : List q7} {ts : List PT} {ys : List r6} {us : List PT} {zs bs : List q8} {vs ws : List PT} : SlH H 4 d4 s.c5 xs → xs.length ≤ big → z7 (EH H) xs ts → SlH H 4 f6 s.h7 ys → ys.length ≤ big → z7 (CH H) ys us →
      SlH H 6 g8 s.C0 zs → zs.length ≤ big → zs.length = vs.length → (∀ (i : Nat) (x : q8) (t : PT), zs[i]? = some x → vs[i]? = some t → SH H x t) →
      SlH H 6 g8 s.A8 bs → bs.length ≤ big → bs.length = ws.length → (∀ (i : Nat) (x : q8) (t : PT), bs[i]? = some x → ws[i]? = some t → SH H x t) →
      SH H s (.mk (.stmt s.d5 s.c6 ts.length us.length vs.length ws.length) (us ++ (ts ++ (vs ++ ws))))
theorem EH.le {H H' : Hp} (l : Hle H H') {e : q7} {t : PT} (h : EH H e t) : EH H' e t := by
  induction h with
  | mk hs hb hl _ ih => exact .mk (hs.le l) hb hl ih
theorem CH.le {H H' : Hp} (l : Hle H H') {e : r6} {t : PT} (h : CH H e t) : CH H' e t := by
  induction h with
  | mk hs hb hr hy hc hl _ ih => exact .mk (hs.le l) hb (hr.mono fun _ _ => EH.le l) (hy.le l) hc hl ih
theorem SH.le {H H' : Hp} (l : Hle H H') {e : q8} {t : PT} (h : SH H e t) : SH H' e t := by
  induction h with
  | mk hs hb hr hy hc hrc ha hab hal _ hbs hbb hbl _ ih1 ih2 => exact .mk (hs.le l) hb (hr.mono fun _ _ => EH.le l) (hy.le l) hc (hrc.mono fun _ _ => CH.le l) (ha.le l) hab hal ih1 (hbs.le l) hbb hbl ih2
structure PP where
  decls : List f7
  body : List PT
structure PH (H : Hp) (p : i6) (q : PP) : Prop where
  d : SlH H 2 c7 p.L8 q.decls
  bd : q.decls.length ≤ big
  b : ∃ xs, SlH H 6 g8 p.L1 xs ∧ xs.length ≤ big ∧ z7 (SH H) xs q.body
theorem PH.le {H H' : Hp} {p : i6} {q : PP} (h : PH H p q) (l : Hle H H') : PH H' p q := by
  obtain ⟨a, b, xs, c, d, e⟩ := h
  exact ⟨a.le l, b, xs, c.le l, d, e.mono fun _ _ => SH.le l⟩
section
variable {H : Hp}
end
end Go.Proofs.YthldnpmfelniiaaDoor
