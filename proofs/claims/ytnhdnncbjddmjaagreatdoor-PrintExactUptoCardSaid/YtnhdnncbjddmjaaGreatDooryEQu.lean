/- The walk told by counts and depths. Plain. -/
import Derived.Test.YtnhdnncbjddmjaaGreatDooryEQ9
namespace Go.Proofs.YtnhdnncbjddmjaaGreatDoor
open Go.RowKit
set_option maxRecDepth 100000
set_option maxHeartbeats 2000000
mutual
def dpT(B:Int):PT→Int→Prop
 | .mk _ cs,d=>d≤B∧dpTs B cs (d+1)
def dpTs(B:Int):List PT→Int→Prop
 | [],_=>True
 | t::ts,d=>dpT B t d∧dpTs B ts d
end
variable {B:Int}
theorem a3g:∀(a b:List PT)(d:Int),dpTs B (a++b) d↔dpTs B a d∧dpTs B b d
 | [],b,d=>by rw [List.nil_append,dpTs];exact ⟨fun h=>⟨trivial,h⟩,fun h=>h.2⟩
 | t::a,b,d=>by rw [List.cons_append,dpTs,dpTs,a3g a b,and_assoc]
theorem b3S{s:W}{d:Int}(hb:s.fbad=0)(h2:¬s.fn=4096)(h3:¬64 < d):wStep s d=⟨s.fn+1,if d > s.fdepth then d else s.fdepth,0⟩:=by
 unfold wStep;rw [if_pos hb,if_neg h2,if_neg h3]
mutual
theorem b5s:∀(t:PT)(d:Int)(s:W),0≤s.fn→s.fn≤4096→s.fbad=0→((wT t d s).fbad=0↔(s.fn+cT t≤4096∧dpT 64 t d))
 | .mk l cs,d,s,h0,h1,hb=>by
  rw [wT,cT,dpT]
  by_cases h2:s.fn=4096
  ·have:(wStep s d).fbad≠0:=by unfold wStep;rw [if_pos hb,if_pos h2];exact (by decide:(33:Int)≠0)
   rw [a0T _ _ _ this]
   exact ⟨fun e=>(this e).elim,fun e=>by omega⟩
  ·by_cases h3:64 < d
   ·have:(wStep s d).fbad≠0:=by unfold wStep;rw [if_pos hb,if_neg h2,if_pos h3];exact (by decide:(32:Int)≠0)
    rw [a0T _ _ _ this]
    exact ⟨fun e=>(this e).elim,fun e=>by omega⟩
   ·rw [b3S hb h2 h3,a9O cs (d+1) _ (by dsimp only;omega) (by dsimp only;omega) rfl]
    dsimp only
    constructor
    ·rintro ⟨a,b⟩;exact ⟨by omega,by omega,b⟩
    ·rintro ⟨a,b,c⟩;exact ⟨by omega,c⟩
theorem a9O:∀(ts:List PT)(d:Int)(s:W),0≤s.fn→s.fn≤4096→s.fbad=0→((wTs ts d s).fbad=0↔(s.fn+cTs ts≤4096∧dpTs 64 ts d))
 | [],d,s,h0,h1,hb=>by rw [wTs,cTs,dpTs];exact ⟨fun _=>⟨by omega,trivial⟩,fun _=>hb⟩
 | t::ts,d,s,h0,h1,hb=>by
  rw [wTs,cTs,dpTs]
  by_cases h2:(wT t d s).fbad=0
  ·have hi:=(b5s t d s h0 h1 hb).1 h2
   have hc:=b5q t d s h2
   rw [a9O ts d _ (by omega) (by omega) h2,hc]
   constructor
   ·rintro ⟨a,b⟩;exact ⟨by omega,hi.2,b⟩
   ·rintro ⟨a,b,c⟩;exact ⟨by omega,c⟩
  ·rw [a0T _ _ _ h2]
   have:=mt (b5s t d s h0 h1 hb).2 h2
   exact ⟨fun e=>(h2 e).elim,fun e=>(this ⟨by omega,e.2.1⟩).elim⟩
end
theorem a8Q(ts:List PT):toldS ts=0↔(cTs ts≤4096∧dpTs 64 ts 1∧formTs ts=true∧namesTs ts=true):=by
 have h:=a9O ts 1 w0S (Int.le_refl _) (by decide) rfl
 have e0:w0S.fn=0:=rfl
 rw [e0] at h
 unfold toldS
 constructor
 ·intro e
  split at e
  ·rename_i hb
   have:=h.1 hb
   split at e
   ·rename_i hf
    split at e
    ·rename_i hn;exact ⟨by omega,this.2,hf,hn⟩
    ·cases e
   ·cases e
  ·rename_i hb;exact (hb e).elim
 ·rintro ⟨a,b,c,d⟩
  rw [if_pos (h.2 ⟨by omega,b⟩),if_pos c,if_pos d]
end Go.Proofs.YtnhdnncbjddmjaaGreatDoor
