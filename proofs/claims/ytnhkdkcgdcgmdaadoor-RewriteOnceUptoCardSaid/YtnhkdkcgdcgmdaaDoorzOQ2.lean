/- The document's trees: whether two are the same; how many nodes, how deep. Contracts off the printed formulas. -/
import Derived.Test.YtnhkdkcgdcgmdaaDoorzOQ1
namespace Go.Proofs.YtnhkdkcgdcgmdaaDoor
open Go.RowKit
set_option maxRecDepth 100000
set_option maxHeartbeats 2000000
section
variable {H : Hp}
abbrev W := c0V
def wStep (s : W) (d : Int) : W := if s.fbad = 0 then (if s.fn = 4096 then ⟨s.fn, s.fdepth, 33⟩ else if 64 < d then ⟨s.fn, s.fdepth, 32⟩ else ⟨s.fn + 1, if d > s.fdepth then d else s.fdepth, 0⟩) else s
mutual
def wT : PT → Int → W → W
  | .mk _ cs, d, s => wTs cs (d + 1) (wStep s d)
def wTs : List PT → Int → W → W
  | [], _, s => s
  | t :: ts, d, s => wTs ts d (wT t d s)
end
def wok (s : W) : Prop := 0 ≤ s.fn ∧ s.fn ≤ 4096
theorem e0Q {s : W} {d : Int} (h : wok s) : wok (wStep s d) := by
  unfold wStep
  repeat' split
  all_goals first | exact h | (unfold wok at h ⊢; dsimp only; omega)
mutual
theorem g2e : ∀ (t : PT) (d : Int) (s : W), wok s → wok (wT t d s)
  | .mk _ cs, d, s, h => by rw [wT]; exact c9k cs _ _ (e0Q h)
theorem c9k : ∀ (ts : List PT) (d : Int) (s : W), wok s → wok (wTs ts d s)
  | [], _, s, h => by rw [wTs]; exact h
  | t :: ts, d, s, h => by rw [wTs]; exact c9k ts d _ (g2e t d s h)
end
mutual
theorem f3Z : ∀ (t : PT) (d : Int) (s : W), s.fbad ≠ 0 → wT t d s = s
  | .mk _ cs, d, s, h => by
    have : wStep s d = s := by unfold wStep; rw [if_neg h]
    rw [wT, this]; exact a4K cs _ _ h
theorem a4K : ∀ (ts : List PT) (d : Int) (s : W), s.fbad ≠ 0 → wTs ts d s = s
  | [], _, s, h => by rw [wTs]
  | t :: ts, d, s, h => by rw [wTs, f3Z t d s h]; exact a4K ts d s h
end
def dT (d : t1) : PT := .mk (.decl d.Z2 d.b7) []
def PP.nodes (q : PP) : List PT := q.decls.map dT ++ q.body
def w0S : W := ⟨0, 0, 0⟩
end
end Go.Proofs.YtnhkdkcgdcgmdaaDoor
