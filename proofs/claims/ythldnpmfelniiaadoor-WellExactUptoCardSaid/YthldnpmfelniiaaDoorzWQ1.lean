/- Trees: plain ones, how they lie in the frozen heap; whether two are the same, by the program and by the document. Contracts off the printed formulas. -/
import Derived.Test.YthldnpmfelniiaaDoorzWB
import Derived.Test.YthldnpmfelniiaaDoorzWV1a
import Derived.Test.YthldnpmfelniiaaDoorzWV1b
import Derived.Test.YthldnpmfelniiaaDoorzWV1c
import Derived.Test.YthldnpmfelniiaaDoorzWV1d
namespace Go.Proofs.YthldnpmfelniiaaDoor
open Go.RowKit
set_option maxRecDepth 100000
set_option maxHeartbeats 2000000
inductive Lab where
  | decl (size : Int) (name : ByteArray)
  | stmt (kind : Int) (name : ByteArray) (e c t f : Nat)
  | cond (kind op : Int) (e p : Nat)
  | expr (kind num : Int) (name : ByteArray) (n : Nat)
inductive PT where
  | mk (l : Lab) (cs : List PT)
def PT.lab : PT → Lab | .mk l _ => l
def PT.kids : PT → List PT | .mk _ cs => cs
abbrev big : Nat := 1099511627776
inductive EH (H : Hp) : m7 → PT → Prop
  | mk {e : m7} {xs : List m7} {ts : List PT} : SlH H 4 f6 e.u6 xs → xs.length ≤ big → xs.length = ts.length → (∀ (i : Nat) (x : m7) (t : PT), xs[i]? = some x → ts[i]? = some t → EH H x t) → EH H e (.mk (.expr e.c6 e.Q6 e.f5 ts.length) ts)
inductive CH (H : Hp) : m8 → PT → Prop
  | mk {c : m8} {xs : List m7} {ts : List PT} {ys : List m8} {us : List PT} : SlH H 4 f6 c.g5 xs → xs.length ≤ big → K4 (EH H) xs ts → SlH H 4 g7 c.p5 ys → ys.length ≤ big → ys.length = us.length → (∀ (i : Nat) (x : m8) (t : PT), ys[i]? = some x → us[i]? = some t → CH H x t) → CH H c (.mk (.cond c.c6 c.fOp ts.length us.length) (ts ++ us))
inductive SH (H : Hp) : l9 → PT → Prop
  | mk {s : l9} {xs : List m7} {ts : List PT} {ys : List m8} {us : List PT} {zs bs : List l9} {vs ws : List PT} : SlH H 4 f6 s.g5 xs → xs.length ≤ big → K4 (EH H) xs ts → SlH H 4 g7 s.m4 ys → ys.length ≤ big → K4 (CH H) ys us →
      SlH H 6 d8 s.A9 zs → zs.length ≤ big → zs.length = vs.length → (∀ (i : Nat) (x : l9) (t : PT), zs[i]? = some x → vs[i]? = some t → SH H x t) →
      SlH H 6 d8 s.y8 bs → bs.length ≤ big → bs.length = ws.length → (∀ (i : Nat) (x : l9) (t : PT), bs[i]? = some x → ws[i]? = some t → SH H x t) →
      SH H s (.mk (.stmt s.c6 s.f5 ts.length us.length vs.length ws.length) (us ++ (ts ++ (vs ++ ws))))
theorem EH.le {H H' : Hp} (l : Hle H H') {e : m7} {t : PT} (h : EH H e t) : EH H' e t := by
  induction h with
  | mk hs hb hl _ ih => exact .mk (hs.le l) hb hl ih
theorem CH.le {H H' : Hp} (l : Hle H H') {e : m8} {t : PT} (h : CH H e t) : CH H' e t := by
  induction h with
  | mk hs hb hr hy hc hl _ ih => exact .mk (hs.le l) hb (hr.mono fun _ _ => EH.le l) (hy.le l) hc hl ih
theorem SH.le {H H' : Hp} (l : Hle H H') {e : l9} {t : PT} (h : SH H e t) : SH H' e t := by
  induction h with
  | mk hs hb hr hy hc hrc ha hab hal _ hbs hbb hbl _ ih1 ih2 => exact .mk (hs.le l) hb (hr.mono fun _ _ => EH.le l) (hy.le l) hc (hrc.mono fun _ _ => CH.le l) (ha.le l) hab hal ih1 (hbs.le l) hbb hbl ih2
structure PP where
  decls : List i4
  body : List PT
structure PH (H : Hp) (p : i7) (q : PP) : Prop where
  d : SlH H 2 g9 p.s8 q.decls
  bd : q.decls.length ≤ big
  b : ∃ xs, SlH H 6 d8 p.Z8 xs ∧ xs.length ≤ big ∧ K4 (SH H) xs q.body
theorem PH.le {H H' : Hp} {p : i7} {q : PP} (h : PH H p q) (l : Hle H H') : PH H' p q := by
  obtain ⟨a, b, xs, c, d, e⟩ := h
  exact ⟨a.le l, b, xs, c.le l, d, e.mono fun _ _ => SH.le l⟩
section
variable {H : Hp}
end
end Go.Proofs.YthldnpmfelniiaaDoor
