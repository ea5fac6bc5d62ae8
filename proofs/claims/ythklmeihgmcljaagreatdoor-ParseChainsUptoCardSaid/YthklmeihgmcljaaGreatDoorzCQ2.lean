/- Trees: plain ones, how they lie in the frozen heap; whether two are the same, by the program and by the document. Contracts off the printed formulas. -/
import Derived.Test.YthklmeihgmcljaaGreatDoorzCV1a
import Derived.Test.YthklmeihgmcljaaGreatDoorzCV1b
import Derived.Test.YthklmeihgmcljaaGreatDoorzCV1c
import Derived.Test.YthklmeihgmcljaaGreatDoorzCV1d
namespace Go.Proofs.YthklmeihgmcljaaGreatDoor
open Go.RowKit
set_option maxRecDepth 100000
set_option maxHeartbeats 2000000
inductive Lab where
 | decl (size : Int) (name : ByteArray)
 | stmt (kind : Int) (name : ByteArray) (e c t f : Nat)
 | cond (kind op : Int) (e p : Nat)
 | expr (kind num : Int) (name : ByteArray) (n : Nat)
inductive PT where
 | mk (l : Lab) (cs : List PT)
def PT.lab : PT → Lab | .mk l _ => l
def PT.kids : PT → List PT | .mk _ cs => cs
abbrev big : Nat := 1099511627776
inductive EH (H : Hp) : b7 → PT → Prop
 | mk {e : b7} {xs : List b7} {ts : List PT} : SlH H 4 c8 e.E4 xs → xs.length ≤ big → xs.length = ts.length → (∀ (i : Nat) (x : b7) (t : PT), xs[i]? = some x → ts[i]? = some t → EH H x t) → EH H e (.mk (.expr e.f7 e.N6 e.A7 ts.length) ts)
inductive CH (H : Hp) : f8 → PT → Prop
 | mk {c : f8} {xs : List b7} {ts : List PT} {ys : List f8} {us : List PT} : SlH H 4 c8 c.l8 xs → xs.length ≤ big → u5 (EH H) xs ts → SlH H 4 g9 c.E2 ys → ys.length ≤ big → ys.length = us.length → (∀ (i : Nat) (x : f8) (t : PT), ys[i]? = some x → us[i]? = some t → CH H x t) → CH H c (.mk (.cond c.f7 c.fOp ts.length us.length) (ts ++ us))
inductive SH (H : Hp) : g5 → PT → Prop
 | mk {s : g5} {xs : List b7} {ts : List PT} {ys : List f8} {us : List PT} {zs bs : List g5} {vs ws : List PT} : SlH H 4 c8 s.l8 xs → xs.length ≤ big → u5 (EH H) xs ts → SlH H 4 g9 s.z7 ys → ys.length ≤ big → u5 (CH H) ys us →
   SlH H 6 s7 s.M3 zs → zs.length ≤ big → zs.length = vs.length → (∀ (i : Nat) (x : g5) (t : PT), zs[i]? = some x → vs[i]? = some t → SH H x t) →
   SlH H 6 s7 s.L6 bs → bs.length ≤ big → bs.length = ws.length → (∀ (i : Nat) (x : g5) (t : PT), bs[i]? = some x → ws[i]? = some t → SH H x t) →
   SH H s (.mk (.stmt s.f7 s.A7 ts.length us.length vs.length ws.length) (us ++ (ts ++ (vs ++ ws))))
theorem EH.le {H H' : Hp} (l : Hle H H') {e : b7} {t : PT} (h : EH H e t) : EH H' e t := by
 induction h with
 | mk hs hb hl _ ih => exact .mk (hs.le l) hb hl ih
theorem CH.le {H H' : Hp} (l : Hle H H') {e : f8} {t : PT} (h : CH H e t) : CH H' e t := by
 induction h with
 | mk hs hb hr hy hc hl _ ih => exact .mk (hs.le l) hb (hr.mono fun _ _ => EH.le l) (hy.le l) hc hl ih
theorem SH.le {H H' : Hp} (l : Hle H H') {e : g5} {t : PT} (h : SH H e t) : SH H' e t := by
 induction h with
 | mk hs hb hr hy hc hrc ha hab hal _ hbs hbb hbl _ ih1 ih2 => exact .mk (hs.le l) hb (hr.mono fun _ _ => EH.le l) (hy.le l) hc (hrc.mono fun _ _ => CH.le l) (ha.le l) hab hal ih1 (hbs.le l) hbb hbl ih2
structure PP where
 decls : List l0
 body : List PT
structure PH (H : Hp) (p : l7) (q : PP) : Prop where
 d : SlH H 2 z6 p.a3z q.decls
 bd : q.decls.length ≤ big
 b : ∃ xs, SlH H 6 s7 p.a2K xs ∧ xs.length ≤ big ∧ u5 (SH H) xs q.body
theorem PH.le {H H' : Hp} {p : l7} {q : PP} (h : PH H p q) (l : Hle H H') : PH H' p q := by
 obtain ⟨a, b, xs, c, d, e⟩ := h
 exact ⟨a.le l, b, xs, c.le l, d, e.mono fun _ _ => SH.le l⟩
section
variable {H : Hp}
end
section
variable {H : Hp}
abbrev W := a9W
def wStep (s : W) (d : Int) : W := if s.fbad = 0 then (if s.fn = 4096 then ⟨s.fn, s.fdepth, 33⟩ else if 64 < d then ⟨s.fn, s.fdepth, 32⟩ else ⟨s.fn + 1, if d > s.fdepth then d else s.fdepth, 0⟩) else s
mutual
def wT : PT → Int → W → W
 | .mk _ cs, d, s => wTs cs (d + 1) (wStep s d)
def wTs : List PT → Int → W → W
 | [], _, s => s
 | t :: ts, d, s => wTs ts d (wT t d s)
end
mutual
theorem b0J : ∀ (t : PT) (d : Int) (s : W), s.fbad ≠ 0 → wT t d s = s
 | .mk _ cs, d, s, h => by
  have : wStep s d = s := by unfold wStep; rw [if_neg h]
  rw [wT, this]; exact a9t cs _ _ h
theorem a9t : ∀ (ts : List PT) (d : Int) (s : W), s.fbad ≠ 0 → wTs ts d s = s
 | [], _, s, h => by rw [wTs]
 | t :: ts, d, s, h => by rw [wTs, b0J t d s h]; exact a9t ts d s h
end
def dT (d : l0) : PT := .mk (.decl d.a3u d.A7) []
def PP.nodes (q : PP) : List PT := q.decls.map dT ++ q.body
def w0S : W := ⟨0, 0, 0⟩
end
end Go.Proofs.YthklmeihgmcljaaGreatDoor
