/- Trees: plain ones, how they lie in the frozen heap; whether two are the same, by the program and by the document. Contracts off the printed formulas. -/
import Derived.Test.YthaaobpfbgcfiaaGreatDooryWV1a
import Derived.Test.YthaaobpfbgcfiaaGreatDooryWV1b
import Derived.Test.YthaaobpfbgcfiaaGreatDooryWV1c
import Derived.Test.YthaaobpfbgcfiaaGreatDooryWV1d
namespace Go.Proofs.YthaaobpfbgcfiaaGreatDoor
open Go.RowKit
set_option maxRecDepth 100000
set_option maxHeartbeats 2000000
inductive Lab where
 | decl (size:Int) (name:ByteArray)
 | stmt (kind:Int) (name:ByteArray) (e c t f:Nat)
 | cond (kind op:Int) (e p:Nat)
 | expr (kind num:Int) (name:ByteArray) (n:Nat)
inductive PT where
 | mk (l:Lab) (cs:List PT)
def PT.lab:PT→Lab | .mk l _=>l
def PT.kids:PT→List PT | .mk _ cs=>cs
abbrev big:Nat:=1099511627776
inductive EH (H:Hp):q8→PT→Prop
 | mk {e:q8} {xs:List q8} {ts:List PT}:SlH H 4 j9 e.D9 xs→xs.length≤big→xs.length=ts.length→(∀(i:Nat)(x:q8)(t:PT),xs[i]? = some x→ts[i]? = some t→EH H x t)→EH H e (.mk (.expr e.b8 e.s8 e.f8 ts.length) ts)
inductive CH (H:Hp):y9→PT→Prop
 | mk {c:y9} {xs:List q8} {ts:List PT} {ys:List y9} {us:List PT}:SlH H 4 j9 c.t7 xs→xs.length≤big→K4 (EH H) xs ts→SlH H 4 p5 c.C7 ys→ys.length≤big→ys.length=us.length→(∀(i:Nat)(x:y9)(t:PT),ys[i]? = some x→us[i]? = some t→CH H x t)→CH H c (.mk (.cond c.b8 c.fOp ts.length us.length) (ts++us))
inductive SH (H:Hp):B4→PT→Prop
 | mk {s:B4} {xs:List q8} {ts:List PT} {ys:List y9} {us:List PT} {zs bs:List B4} {vs ws:List PT}:SlH H 4 j9 s.t7 xs→xs.length≤big→K4 (EH H) xs ts→SlH H 4 p5 s.D3 ys→ys.length≤big→K4 (CH H) ys us→
   SlH H 6 p8 s.S8 zs→zs.length≤big→zs.length=vs.length→(∀(i:Nat)(x:B4)(t:PT),zs[i]? = some x→vs[i]? = some t→SH H x t)→
   SlH H 6 p8 s.U7 bs→bs.length≤big→bs.length=ws.length→(∀(i:Nat)(x:B4)(t:PT),bs[i]? = some x→ws[i]? = some t→SH H x t)→
   SH H s (.mk (.stmt s.b8 s.f8 ts.length us.length vs.length ws.length) (us++(ts++(vs++ws))))
theorem EH.le{H H':Hp}(l:Hle H H'){e:q8}{t:PT}(h:EH H e t):EH H' e t:=by
 induction h with
 | mk hs hb hl _ ih=>exact .mk (hs.le l) hb hl ih
theorem CH.le{H H':Hp}(l:Hle H H'){e:y9}{t:PT}(h:CH H e t):CH H' e t:=by
 induction h with
 | mk hs hb hr hy hc hl _ ih=>exact .mk (hs.le l) hb (hr.mono fun _ _=>EH.le l) (hy.le l) hc hl ih
theorem SH.le{H H':Hp}(l:Hle H H'){e:B4}{t:PT}(h:SH H e t):SH H' e t:=by
 induction h with
 | mk hs hb hr hy hc hrc ha hab hal _ hbs hbb hbl _ ih1 ih2=>exact .mk (hs.le l) hb (hr.mono fun _ _=>EH.le l) (hy.le l) hc (hrc.mono fun _ _=>CH.le l) (ha.le l) hab hal ih1 (hbs.le l) hbb hbl ih2
structure PP where
 decls:List j7
 body:List PT
structure PH (H:Hp) (p:z8) (q:PP):Prop where
 d:SlH H 2 m3 p.a5g q.decls
 bd:q.decls.length≤big
 b:∃xs,SlH H 6 p8 p.a5J xs∧xs.length≤big∧K4 (SH H) xs q.body
theorem PH.le{H H':Hp}{p:z8}{q:PP}(h:PH H p q)(l:Hle H H'):PH H' p q:=by
 obtain ⟨a,b,xs,c,d,e⟩:=h
 exact ⟨a.le l,b,xs,c.le l,d,e.mono fun _ _=>SH.le l⟩
section
variable {H:Hp}
end
section
variable {H:Hp}
structure W where
 fn:Int
 fdepth:Int
 fbad:Int
def wStep(s:W)(d:Int):W:=if s.fbad=0 then (if s.fn=4096 then ⟨s.fn,s.fdepth,33⟩ else if 64 < d then ⟨s.fn,s.fdepth,32⟩ else ⟨s.fn+1,if d > s.fdepth then d else s.fdepth,0⟩) else s
mutual
def wT:PT→Int→W→W
 | .mk _ cs,d,s=>wTs cs (d+1) (wStep s d)
def wTs:List PT→Int→W→W
 | [],_,s=>s
 | t::ts,d,s=>wTs ts d (wT t d s)
end
def wok(s:W):Prop:=0≤s.fn∧s.fn≤4096
theorem c4S{s:W}{d:Int}(h:wok s):wok (wStep s d):=by
 unfold wStep
 repeat' split
 all_goals first | exact h | (unfold wok at h ⊢;dsimp only;omega)
mutual
theorem d3k:∀(t:PT)(d:Int)(s:W),wok s→wok (wT t d s)
 | .mk _ cs,d,s,h=>by rw [wT];exact b8M cs _ _ (c4S h)
theorem b8M:∀(ts:List PT)(d:Int)(s:W),wok s→wok (wTs ts d s)
 | [],_,s,h=>by rw [wTs];exact h
 | t::ts,d,s,h=>by rw [wTs];exact b8M ts d _ (d3k t d s h)
end
mutual
theorem d1J:∀(t:PT)(d:Int)(s:W),s.fbad≠0→wT t d s=s
 | .mk _ cs,d,s,h=>by
  have:wStep s d=s:=by unfold wStep;rw [if_neg h]
  rw [wT,this];exact a5X cs _ _ h
theorem a5X:∀(ts:List PT)(d:Int)(s:W),s.fbad≠0→wTs ts d s=s
 | [],_,s,h=>by rw [wTs]
 | t::ts,d,s,h=>by rw [wTs,d1J t d s h];exact a5X ts d s h
end
def dT(d:j7):PT:=.mk (.decl d.C1 d.f8) []
def PP.nodes(q:PP):List PT:=q.decls.map dT++q.body
def w0S:W:=⟨0,0,0⟩
end
end Go.Proofs.YthaaobpfbgcfiaaGreatDoor
