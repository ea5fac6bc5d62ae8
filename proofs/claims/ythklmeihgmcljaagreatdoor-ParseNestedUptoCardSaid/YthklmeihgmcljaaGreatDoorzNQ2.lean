/- Trees: plain ones, how they lie in the frozen heap; whether two are the same, by the program and by the document. Contracts off the printed formulas. -/
import Derived.Test.YthklmeihgmcljaaGreatDoorzNV1a
import Derived.Test.YthklmeihgmcljaaGreatDoorzNV1b
import Derived.Test.YthklmeihgmcljaaGreatDoorzNV1c
import Derived.Test.YthklmeihgmcljaaGreatDoorzNV1d
namespace Go.Proofs.YthklmeihgmcljaaGreatDoor
open Go.RowKit
set_option maxRecDepth 100000
set_option maxHeartbeats 2000000
inductive Lab where
 | decl (size : Int) (name : ByteArray)
 | stmt (kind : Int) (name : ByteArray) (e c t f : Nat)
 | cond (kind op : Int) (e p : Nat)
 | expr (kind num : Int) (name : ByteArray) (n : Nat)
inductive PT where
 | mk (l : Lab) (cs : List PT)
def PT.lab : PT → Lab | .mk l _ => l
def PT.kids : PT → List PT | .mk _ cs => cs
abbrev big : Nat := 1099511627776
inductive EH (H : Hp) : d7 → PT → Prop
 | mk {e : d7} {xs : List d7} {ts : List PT} : SlH H 4 f9 e.P0 xs → xs.length ≤ big → xs.length = ts.length → (∀ (i : Nat) (x : d7) (t : PT), xs[i]? = some x → ts[i]? = some t → EH H x t) → EH H e (.mk (.expr e.g6 e.T4 e.B0 ts.length) ts)
inductive CH (H : Hp) : f7 → PT → Prop
 | mk {c : f7} {xs : List d7} {ts : List PT} {ys : List f7} {us : List PT} : SlH H 4 f9 c.m5 xs → xs.length ≤ big → v6 (EH H) xs ts → SlH H 4 i6 c.E3 ys → ys.length ≤ big → ys.length = us.length → (∀ (i : Nat) (x : f7) (t : PT), ys[i]? = some x → us[i]? = some t → CH H x t) → CH H c (.mk (.cond c.g6 c.fOp ts.length us.length) (ts ++ us))
inductive SH (H : Hp) : g5 → PT → Prop
 | mk {s : g5} {xs : List d7} {ts : List PT} {ys : List f7} {us : List PT} {zs bs : List g5} {vs ws : List PT} : SlH H 4 f9 s.m5 xs → xs.length ≤ big → v6 (EH H) xs ts → SlH H 4 i6 s.A4 ys → ys.length ≤ big → v6 (CH H) ys us →
   SlH H 6 t7 s.M2 zs → zs.length ≤ big → zs.length = vs.length → (∀ (i : Nat) (x : g5) (t : PT), zs[i]? = some x → vs[i]? = some t → SH H x t) →
   SlH H 6 t7 s.L5 bs → bs.length ≤ big → bs.length = ws.length → (∀ (i : Nat) (x : g5) (t : PT), bs[i]? = some x → ws[i]? = some t → SH H x t) →
   SH H s (.mk (.stmt s.g6 s.B0 ts.length us.length vs.length ws.length) (us ++ (ts ++ (vs ++ ws))))
theorem EH.le {H H' : Hp} (l : Hle H H') {e : d7} {t : PT} (h : EH H e t) : EH H' e t := by
 induction h with
 | mk hs hb hl _ ih => exact .mk (hs.le l) hb hl ih
theorem CH.le {H H' : Hp} (l : Hle H H') {e : f7} {t : PT} (h : CH H e t) : CH H' e t := by
 induction h with
 | mk hs hb hr hy hc hl _ ih => exact .mk (hs.le l) hb (hr.mono fun _ _ => EH.le l) (hy.le l) hc hl ih
theorem SH.le {H H' : Hp} (l : Hle H H') {e : g5} {t : PT} (h : SH H e t) : SH H' e t := by
 induction h with
 | mk hs hb hr hy hc hrc ha hab hal _ hbs hbb hbl _ ih1 ih2 => exact .mk (hs.le l) hb (hr.mono fun _ _ => EH.le l) (hy.le l) hc (hrc.mono fun _ _ => CH.le l) (ha.le l) hab hal ih1 (hbs.le l) hbb hbl ih2
structure PP where
 decls : List l8
 body : List PT
structure PH (H : Hp) (p : l9) (q : PP) : Prop where
 d : SlH H 2 A0 p.a3A q.decls
 bd : q.decls.length ≤ big
 b : ∃ xs, SlH H 6 t7 p.a2f xs ∧ xs.length ≤ big ∧ v6 (SH H) xs q.body
theorem PH.le {H H' : Hp} {p : l9} {q : PP} (h : PH H p q) (l : Hle H H') : PH H' p q := by
 obtain ⟨a, b, xs, c, d, e⟩ := h
 exact ⟨a.le l, b, xs, c.le l, d, e.mono fun _ _ => SH.le l⟩
section
variable {H : Hp}
end
section
variable {H : Hp}
abbrev W := a9T
def wStep (s : W) (d : Int) : W := if s.fbad = 0 then (if s.fn = 4096 then ⟨s.fn, s.fdepth, 33⟩ else if 64 < d then ⟨s.fn, s.fdepth, 32⟩ else ⟨s.fn + 1, if d > s.fdepth then d else s.fdepth, 0⟩) else s
mutual
def wT : PT → Int → W → W
 | .mk _ cs, d, s => wTs cs (d + 1) (wStep s d)
def wTs : List PT → Int → W → W
 | [], _, s => s
 | t :: ts, d, s => wTs ts d (wT t d s)
end
mutual
theorem c4a : ∀ (t : PT) (d : Int) (s : W), s.fbad ≠ 0 → wT t d s = s
 | .mk _ cs, d, s, h => by
  have : wStep s d = s := by unfold wStep; rw [if_neg h]
  rw [wT, this]; exact a9r cs _ _ h
theorem a9r : ∀ (ts : List PT) (d : Int) (s : W), s.fbad ≠ 0 → wTs ts d s = s
 | [], _, s, h => by rw [wTs]
 | t :: ts, d, s, h => by rw [wTs, c4a t d s h]; exact a9r ts d s h
end
def dT (d : l8) : PT := .mk (.decl d.a3t d.B0) []
def PP.nodes (q : PP) : List PT := q.decls.map dT ++ q.body
def w0S : W := ⟨0, 0, 0⟩
end
end Go.Proofs.YthklmeihgmcljaaGreatDoor
