/- Trees: plain ones, how they lie in the frozen heap; whether two are the same, by the program and by the document. Contracts off the printed formulas. -/
import Derived.Test.YthklmeihgmcljaaGreatDoorzEV1a
import Derived.Test.YthklmeihgmcljaaGreatDoorzEV1b
import Derived.Test.YthklmeihgmcljaaGreatDoorzEV1c
import Derived.Test.YthklmeihgmcljaaGreatDoorzEV1d
namespace Go.Proofs.YthklmeihgmcljaaGreatDoor
open Go.RowKit
set_option maxRecDepth 100000
set_option maxHeartbeats 2000000
inductive Lab where
 | decl (size:Int) (name:ByteArray)
 | stmt (kind:Int) (name:ByteArray) (e c t f:Nat)
 | cond (kind op:Int) (e p:Nat)
 | expr (kind num:Int) (name:ByteArray) (n:Nat)
inductive PT where
 | mk (l:Lab) (cs:List PT)
def PT.lab:PT→Lab | .mk l _=>l
def PT.kids:PT→List PT | .mk _ cs=>cs
abbrev big:Nat:=1099511627776
inductive EH (H:Hp):d9→PT→Prop
 | mk {e:d9} {xs:List d9} {ts:List PT}:SlH H 4 g7 e.G4 xs→xs.length≤big→xs.length=ts.length→(∀(i:Nat)(x:d9)(t:PT),xs[i]? = some x→ts[i]? = some t→EH H x t)→EH H e (.mk (.expr e.d8 e.G9 e.t7 ts.length) ts)
inductive CH (H:Hp):f8→PT→Prop
 | mk {c:f8} {xs:List d9} {ts:List PT} {ys:List f8} {us:List PT}:SlH H 4 g7 c.o4 xs→xs.length≤big→u2 (EH H) xs ts→SlH H 4 i7 c.B0 ys→ys.length≤big→ys.length=us.length→(∀(i:Nat)(x:f8)(t:PT),ys[i]? = some x→us[i]? = some t→CH H x t)→CH H c (.mk (.cond c.d8 c.fOp ts.length us.length) (ts++us))
inductive SH (H:Hp):b9→PT→Prop
 | mk {s:b9} {xs:List d9} {ts:List PT} {ys:List f8} {us:List PT} {zs bs:List b9} {vs ws:List PT}:SlH H 4 g7 s.o4 xs→xs.length≤big→u2 (EH H) xs ts→SlH H 4 i7 s.v8 ys→ys.length≤big→u2 (CH H) ys us→
   SlH H 6 m6 s.J5 zs→zs.length≤big→zs.length=vs.length→(∀(i:Nat)(x:b9)(t:PT),zs[i]? = some x→vs[i]? = some t→SH H x t)→
   SlH H 6 m6 s.H7 bs→bs.length≤big→bs.length=ws.length→(∀(i:Nat)(x:b9)(t:PT),bs[i]? = some x→ws[i]? = some t→SH H x t)→
   SH H s (.mk (.stmt s.d8 s.t7 ts.length us.length vs.length ws.length) (us++(ts++(vs++ws))))
theorem EH.le{H H':Hp}(l:Hle H H'){e:d9}{t:PT}(h:EH H e t):EH H' e t:=by
 induction h with
 | mk hs hb hl _ ih=>exact .mk (hs.le l) hb hl ih
theorem CH.le{H H':Hp}(l:Hle H H'){e:f8}{t:PT}(h:CH H e t):CH H' e t:=by
 induction h with
 | mk hs hb hr hy hc hl _ ih=>exact .mk (hs.le l) hb (hr.mono fun _ _=>EH.le l) (hy.le l) hc hl ih
theorem SH.le{H H':Hp}(l:Hle H H'){e:b9}{t:PT}(h:SH H e t):SH H' e t:=by
 induction h with
 | mk hs hb hr hy hc hrc ha hab hal _ hbs hbb hbl _ ih1 ih2=>exact .mk (hs.le l) hb (hr.mono fun _ _=>EH.le l) (hy.le l) hc (hrc.mono fun _ _=>CH.le l) (ha.le l) hab hal ih1 (hbs.le l) hbb hbl ih2
structure PP where
 decls:List m7
 body:List PT
structure PH (H:Hp) (p:l8) (q:PP):Prop where
 d:SlH H 2 u5 p.N3 q.decls
 bd:q.decls.length≤big
 b:∃xs,SlH H 6 m6 p.a0L xs∧xs.length≤big∧u2 (SH H) xs q.body
theorem PH.le{H H':Hp}{p:l8}{q:PP}(h:PH H p q)(l:Hle H H'):PH H' p q:=by
 obtain ⟨a,b,xs,c,d,e⟩:=h
 exact ⟨a.le l,b,xs,c.le l,d,e.mono fun _ _=>SH.le l⟩
open Classical in
noncomputable def eqT(a b:PT):Bool:=decide (a=b)
open Classical in
noncomputable def eqTs(a b:List PT):Bool:=decide (a=b)
theorem b6v{a b:PT}:eqT a b=true↔a=b:=by unfold eqT;simp
theorem b3t{a b:List PT}:eqTs a b=true↔a=b:=by unfold eqTs;simp
theorem d4h{a b:PT}:eqT a b=false↔a≠b:=by unfold eqT;simp
theorem c2B{a b:List PT}:eqTs a b=false↔a≠b:=by unfold eqTs;simp
theorem b1g{a b:List PT}(h:a.length≠b.length):eqTs a b=false:=c2B.2 fun e=>h (by rw [e])
theorem b2I{a b:List PT}{i:Nat}{x y:PT}(ha:a[i]? = some x)(hb:b[i]? = some y)(h:eqT x y=false):eqTs a b=false:=c2B.2 fun e=>by
 rw [e,hb] at ha;cases ha;exact d4h.1 h rfl
theorem c7c{a b:List PT}(hl:a.length=b.length)(h:∀(i:Nat)(x y:PT),a[i]? = some x→b[i]? = some y→eqT x y=true):eqTs a b=true:=b3t.2 (c1H hl fun i x y ha hb=>b6v.1 (h i x y ha hb))
theorem c7d{k n:Int}{s:ByteArray}{ts:List PT}{k' n':Int}{s':ByteArray}{ts':List PT}:eqT (.mk (.expr k n s ts.length) ts) (.mk (.expr k' n' s' ts'.length) ts')=(decide (k=k')&&decide (n=n')&&decide (s=s')&&eqTs ts ts'):=by
 rw [Bool.eq_iff_iff,b6v]
 simp only [Bool.and_eq_true,decide_eq_true_eq,b3t,PT.mk.injEq,Lab.expr.injEq]
 constructor
 ·rintro ⟨⟨rfl,rfl,rfl,_⟩,rfl⟩;exact ⟨⟨⟨rfl,rfl⟩,rfl⟩,rfl⟩
 ·rintro ⟨⟨⟨rfl,rfl⟩,rfl⟩,rfl⟩;exact ⟨⟨rfl,rfl,rfl,rfl⟩,rfl⟩
theorem c7e{k n:Int}{ts us:List PT}{k' n':Int}{ts' us':List PT}:eqT (.mk (.cond k n ts.length us.length) (ts++us)) (.mk (.cond k' n' ts'.length us'.length) (ts'++us'))=(decide (k=k')&&decide (n=n')&&eqTs ts ts'&&eqTs us us'):=by
 rw [Bool.eq_iff_iff,b6v]
 simp only [Bool.and_eq_true,decide_eq_true_eq,b3t,PT.mk.injEq,Lab.cond.injEq]
 constructor
 ·rintro ⟨⟨rfl,rfl,h1,h2⟩,h⟩
  obtain ⟨rfl,rfl⟩:=List.append_inj h h1
  exact ⟨⟨⟨rfl,rfl⟩,rfl⟩,rfl⟩
 ·rintro ⟨⟨⟨rfl,rfl⟩,rfl⟩,rfl⟩;exact ⟨⟨rfl,rfl,rfl,rfl⟩,rfl⟩
theorem c7f{k:Int}{s:ByteArray}{ts us vs ws:List PT}{k':Int}{s':ByteArray}{ts' us' vs' ws':List PT}:eqT (.mk (.stmt k s ts.length us.length vs.length ws.length) (us++(ts++(vs++ws)))) (.mk (.stmt k' s' ts'.length us'.length vs'.length ws'.length) (us'++(ts'++(vs'++ws'))))=(decide (k=k')&&decide (s=s')&&eqTs ts ts'&&eqTs us us'&&eqTs vs vs'&&eqTs ws ws'):=by
 rw [Bool.eq_iff_iff,b6v]
 simp only [Bool.and_eq_true,decide_eq_true_eq,b3t,PT.mk.injEq,Lab.stmt.injEq]
 constructor
 ·rintro ⟨⟨rfl,rfl,h1,h2,h3,h4⟩,h⟩
  obtain ⟨e1,h5⟩:=List.append_inj h h2
  obtain ⟨e2,h6⟩:=List.append_inj h5 h1
  obtain ⟨e3,e4⟩:=List.append_inj h6 h3
  subst e1;subst e2;subst e3;subst e4
  exact ⟨⟨⟨⟨⟨rfl,rfl⟩,rfl⟩,rfl⟩,rfl⟩,rfl⟩
 ·rintro ⟨⟨⟨⟨⟨rfl,rfl⟩,rfl⟩,rfl⟩,rfl⟩,rfl⟩;exact ⟨⟨rfl,rfl,rfl,rfl,rfl,rfl⟩,rfl⟩
section
variable {H:Hp}
end
end Go.Proofs.YthklmeihgmcljaaGreatDoor
