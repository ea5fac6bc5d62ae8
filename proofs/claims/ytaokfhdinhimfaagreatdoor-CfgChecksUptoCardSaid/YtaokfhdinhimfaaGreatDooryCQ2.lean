/- The document's trees: whether two are the same; how many nodes, how deep. Contracts off the printed formulas. -/
import Derived.Test.YtaokfhdinhimfaaGreatDooryCQ1
namespace Go.Proofs.YtaokfhdinhimfaaGreatDoor
open Go.RowKit
set_option maxRecDepth 100000
set_option maxHeartbeats 2000000
section
variable {H:Hp}
abbrev W:=b4l
def wStep(s:W)(d:Int):W:=if s.fbad=0 then (if s.fn=4096 then ⟨s.fn,s.fdepth,33⟩ else if 64 < d then ⟨s.fn,s.fdepth,32⟩ else ⟨s.fn+1,if d > s.fdepth then d else s.fdepth,0⟩) else s
mutual
def wT:PT→Int→W→W
 | .mk _ cs,d,s=>wTs cs (d+1) (wStep s d)
def wTs:List PT→Int→W→W
 | [],_,s=>s
 | t::ts,d,s=>wTs ts d (wT t d s)
end
def wok(s:W):Prop:=0≤s.fn∧s.fn≤4096
theorem c3N{s:W}{d:Int}(h:wok s):wok (wStep s d):=by
 unfold wStep
 repeat' split
 all_goals first | exact h | (unfold wok at h ⊢;dsimp only;omega)
mutual
theorem d0q:∀(t:PT)(d:Int)(s:W),wok s→wok (wT t d s)
 | .mk _ cs,d,s,h=>by rw [wT];exact b9a cs _ _ (c3N h)
theorem b9a:∀(ts:List PT)(d:Int)(s:W),wok s→wok (wTs ts d s)
 | [],_,s,h=>by rw [wTs];exact h
 | t::ts,d,s,h=>by rw [wTs];exact b9a ts d _ (d0q t d s h)
end
mutual
theorem c9l:∀(t:PT)(d:Int)(s:W),s.fbad≠0→wT t d s=s
 | .mk _ cs,d,s,h=>by
  have:wStep s d=s:=by unfold wStep;rw [if_neg h]
  rw [wT,this];exact a6v cs _ _ h
theorem a6v:∀(ts:List PT)(d:Int)(s:W),s.fbad≠0→wTs ts d s=s
 | [],_,s,h=>by rw [wTs]
 | t::ts,d,s,h=>by rw [wTs,c9l t d s h];exact a6v ts d s h
end
def dT(d:j8):PT:=.mk (.decl d.E1 d.i7) []
def PP.nodes(q:PP):List PT:=q.decls.map dT++q.body
def w0S:W:=⟨0,0,0⟩
end
end Go.Proofs.YtaokfhdinhimfaaGreatDoor
