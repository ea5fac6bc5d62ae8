/- Trees: plain ones, how they lie in the frozen heap; whether two are the same, by the program and by the document. Contracts off the printed formulas. -/
import Derived.Test.YtnhdnncbjddmjaaGreatDooryEB
import Derived.Test.YtnhdnncbjddmjaaGreatDooryEV1a
import Derived.Test.YtnhdnncbjddmjaaGreatDooryEV1b
import Derived.Test.YtnhdnncbjddmjaaGreatDooryEV1c
import Derived.Test.YtnhdnncbjddmjaaGreatDooryEV1d
namespace Go.Proofs.YtnhdnncbjddmjaaGreatDoor
open Go.RowKit
set_option maxRecDepth 100000
set_option maxHeartbeats 2000000
inductive Lab where
 | decl (size:Int) (name:ByteArray)
 | stmt (kind:Int) (name:ByteArray) (e c t f:Nat)
 | cond (kind op:Int) (e p:Nat)
 | expr (kind num:Int) (name:ByteArray) (n:Nat)
inductive PT where
 | mk (l:Lab) (cs:List PT)
def PT.lab:PT→Lab | .mk l _=>l
def PT.kids:PT→List PT | .mk _ cs=>cs
abbrev big:Nat:=1099511627776
inductive EH (H:Hp):d8→PT→Prop
 | mk {e:d8} {xs:List d8} {ts:List PT}:SlH H 4 c7 e.r5 xs→xs.length≤big→xs.length=ts.length→(∀(i:Nat)(x:d8)(t:PT),xs[i]? = some x→ts[i]? = some t→EH H x t)→EH H e (.mk (.expr e.b8 e.a0w e.f4 ts.length) ts)
inductive CH (H:Hp):f9→PT→Prop
 | mk {c:f9} {xs:List d8} {ts:List PT} {ys:List f9} {us:List PT}:SlH H 4 c7 c.f0 xs→xs.length≤big→B9 (EH H) xs ts→SlH H 4 c9 c.o0 ys→ys.length≤big→ys.length=us.length→(∀(i:Nat)(x:f9)(t:PT),ys[i]? = some x→us[i]? = some t→CH H x t)→CH H c (.mk (.cond c.b8 c.fOp ts.length us.length) (ts++us))
inductive SH (H:Hp):i6→PT→Prop
 | mk {s:i6} {xs:List d8} {ts:List PT} {ys:List f9} {us:List PT} {zs bs:List i6} {vs ws:List PT}:SlH H 4 c7 s.f0 xs→xs.length≤big→B9 (EH H) xs ts→SlH H 4 c9 s.m7 ys→ys.length≤big→B9 (CH H) ys us→
   SlH H 6 d7 s.D1 zs→zs.length≤big→zs.length=vs.length→(∀(i:Nat)(x:i6)(t:PT),zs[i]? = some x→vs[i]? = some t→SH H x t)→
   SlH H 6 d7 s.A6 bs→bs.length≤big→bs.length=ws.length→(∀(i:Nat)(x:i6)(t:PT),bs[i]? = some x→ws[i]? = some t→SH H x t)→
   SH H s (.mk (.stmt s.b8 s.f4 ts.length us.length vs.length ws.length) (us++(ts++(vs++ws))))
theorem EH.le{H H':Hp}(l:Hle H H'){e:d8}{t:PT}(h:EH H e t):EH H' e t:=by
 induction h with
 | mk hs hb hl _ ih=>exact .mk (hs.le l) hb hl ih
theorem CH.le{H H':Hp}(l:Hle H H'){e:f9}{t:PT}(h:CH H e t):CH H' e t:=by
 induction h with
 | mk hs hb hr hy hc hl _ ih=>exact .mk (hs.le l) hb (hr.mono fun _ _=>EH.le l) (hy.le l) hc hl ih
theorem SH.le{H H':Hp}(l:Hle H H'){e:i6}{t:PT}(h:SH H e t):SH H' e t:=by
 induction h with
 | mk hs hb hr hy hc hrc ha hab hal _ hbs hbb hbl _ ih1 ih2=>exact .mk (hs.le l) hb (hr.mono fun _ _=>EH.le l) (hy.le l) hc (hrc.mono fun _ _=>CH.le l) (ha.le l) hab hal ih1 (hbs.le l) hbb hbl ih2
structure PP where
 decls:List G4
 body:List PT
structure PH (H:Hp) (p:l9) (q:PP):Prop where
 d:SlH H 2 u7 p.G1 q.decls
 bd:q.decls.length≤big
 b:∃xs,SlH H 6 d7 p.Z1 xs∧xs.length≤big∧B9 (SH H) xs q.body
theorem PH.le{H H':Hp}{p:l9}{q:PP}(h:PH H p q)(l:Hle H H'):PH H' p q:=by
 obtain ⟨a,b,xs,c,d,e⟩:=h
 exact ⟨a.le l,b,xs,c.le l,d,e.mono fun _ _=>SH.le l⟩
section
variable {H:Hp}
end
end Go.Proofs.YtnhdnncbjddmjaaGreatDoor
