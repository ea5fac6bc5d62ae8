/- Trees: plain ones, how they lie in the frozen heap; whether two are the same, by the program and by the document. Contracts off the printed formulas. -/
import Derived.Test.YtaokfhdinhimfaaGreatDooryLV1a
import Derived.Test.YtaokfhdinhimfaaGreatDooryLV1b
import Derived.Test.YtaokfhdinhimfaaGreatDooryLV1c
import Derived.Test.YtaokfhdinhimfaaGreatDooryLV1d
namespace Go.Proofs.YtaokfhdinhimfaaGreatDoor
open Go.RowKit
set_option maxRecDepth 100000
set_option maxHeartbeats 2000000
inductive Lab where
 | decl (size:Int) (name:ByteArray)
 | stmt (kind:Int) (name:ByteArray) (e c t f:Nat)
 | cond (kind op:Int) (e p:Nat)
 | expr (kind num:Int) (name:ByteArray) (n:Nat)
inductive PT where
 | mk (l:Lab) (cs:List PT)
def PT.lab:PT→Lab | .mk l _=>l
def PT.kids:PT→List PT | .mk _ cs=>cs
abbrev big:Nat:=1099511627776
inductive EH (H:Hp):f8→PT→Prop
 | mk {e:f8} {xs:List f8} {ts:List PT}:SlH H 4 d7 e.u1 xs→xs.length≤big→xs.length=ts.length→(∀(i:Nat)(x:f8)(t:PT),xs[i]? = some x→ts[i]? = some t→EH H x t)→EH H e (.mk (.expr e.c8 e.s7 e.f6 ts.length) ts)
inductive CH (H:Hp):j8→PT→Prop
 | mk {c:j8} {xs:List f8} {ts:List PT} {ys:List j8} {us:List PT}:SlH H 4 d7 c.l7 xs→xs.length≤big→N1 (EH H) xs ts→SlH H 4 f7 c.r7 ys→ys.length≤big→ys.length=us.length→(∀(i:Nat)(x:j8)(t:PT),ys[i]? = some x→us[i]? = some t→CH H x t)→CH H c (.mk (.cond c.c8 c.fOp ts.length us.length) (ts++us))
inductive SH (H:Hp):i8→PT→Prop
 | mk {s:i8} {xs:List f8} {ts:List PT} {ys:List j8} {us:List PT} {zs bs:List i8} {vs ws:List PT}:SlH H 4 d7 s.l7 xs→xs.length≤big→N1 (EH H) xs ts→SlH H 4 f7 s.r9 ys→ys.length≤big→N1 (CH H) ys us→
   SlH H 6 g7 s.K5 zs→zs.length≤big→zs.length=vs.length→(∀(i:Nat)(x:i8)(t:PT),zs[i]? = some x→vs[i]? = some t→SH H x t)→
   SlH H 6 g7 s.L2 bs→bs.length≤big→bs.length=ws.length→(∀(i:Nat)(x:i8)(t:PT),bs[i]? = some x→ws[i]? = some t→SH H x t)→
   SH H s (.mk (.stmt s.c8 s.f6 ts.length us.length vs.length ws.length) (us++(ts++(vs++ws))))
theorem EH.le{H H':Hp}(l:Hle H H'){e:f8}{t:PT}(h:EH H e t):EH H' e t:=by
 induction h with
 | mk hs hb hl _ ih=>exact .mk (hs.le l) hb hl ih
theorem CH.le{H H':Hp}(l:Hle H H'){e:j8}{t:PT}(h:CH H e t):CH H' e t:=by
 induction h with
 | mk hs hb hr hy hc hl _ ih=>exact .mk (hs.le l) hb (hr.mono fun _ _=>EH.le l) (hy.le l) hc hl ih
theorem SH.le{H H':Hp}(l:Hle H H'){e:i8}{t:PT}(h:SH H e t):SH H' e t:=by
 induction h with
 | mk hs hb hr hy hc hrc ha hab hal _ hbs hbb hbl _ ih1 ih2=>exact .mk (hs.le l) hb (hr.mono fun _ _=>EH.le l) (hy.le l) hc (hrc.mono fun _ _=>CH.le l) (ha.le l) hab hal ih1 (hbs.le l) hbb hbl ih2
structure PP where
 decls:List i7
 body:List PT
structure PH (H:Hp) (p:m6) (q:PP):Prop where
 d:SlH H 2 i5 p.E4 q.decls
 bd:q.decls.length≤big
 b:∃xs,SlH H 6 g7 p.a1l xs∧xs.length≤big∧N1 (SH H) xs q.body
theorem PH.le{H H':Hp}{p:m6}{q:PP}(h:PH H p q)(l:Hle H H'):PH H' p q:=by
 obtain ⟨a,b,xs,c,d,e⟩:=h
 exact ⟨a.le l,b,xs,c.le l,d,e.mono fun _ _=>SH.le l⟩
section
variable {H:Hp}
end
end Go.Proofs.YtaokfhdinhimfaaGreatDoor
