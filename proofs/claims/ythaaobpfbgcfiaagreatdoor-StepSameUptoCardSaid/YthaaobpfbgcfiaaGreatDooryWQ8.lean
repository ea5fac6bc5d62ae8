/- The document's forms: which trees have theirs, which names are names; what it tells is what the program tells. The law TreeParts. -/
import Derived.Lib.TrimUEq
import Derived.Lib.ValidLaws
import Derived.Test.YthaaobpfbgcfiaaGreatDooryWQo
namespace Go.Proofs.YthaaobpfbgcfiaaGreatDoor
open Go.RowKit
set_option maxRecDepth 100000
set_option maxHeartbeats 2000000
def nameOk(l:Lab):Bool:=if (nameL l).2=true then nameS (nameL l).1 else true
mutual
def formT:PT→Bool
 | .mk l cs=>formL l&&formTs cs
def formTs:List PT→Bool
 | []=>true
 | t::ts=>formT t&&formTs ts
end
mutual
def namesT:PT→Bool
 | .mk l cs=>nameOk l&&namesTs cs
def namesTs:List PT→Bool
 | []=>true
 | t::ts=>namesT t&&namesTs ts
end
theorem a4l:∀a b:List PT,formTs (a++b)=(formTs a&&formTs b)
 | [],b=>by rw [List.nil_append,formTs,Bool.true_and]
 | t::a,b=>by rw [List.cons_append,formTs,formTs,a4l a b,Bool.and_assoc]
structure Fm where
 fok:Bool
 fnames:Bool
def FR(f:Fm)(a b:Bool)(y:Fm):Prop:=y.fok=(f.fok&&a)∧(y.fok=true→y.fnames=(f.fnames&&b))
theorem FR.refl(f:Fm):FR f true true f:=⟨(Bool.and_true _).symm,fun _=>(Bool.and_true _).symm⟩
theorem FR.trans{f g y:Fm}{a b a' b':Bool}(h:FR f a b g)(h':FR g a' b' y):FR f (a&&a') (b&&b') y:=by
 refine ⟨by rw [h'.1,h.1,Bool.and_assoc],fun hy=>?_⟩
 have hg:g.fok=true:=by rw [h'.1] at hy;exact (Bool.and_eq_true_iff.1 hy).1
 rw [h'.2 hy,h.2 hg,Bool.and_assoc]
section
variable {H:Hp}
def toldS(ts:List PT):Int:=if (wTs ts 1 w0S).fbad=0 then (if formTs ts=true then (if namesTs ts=true then 0 else 31) else 30) else (wTs ts 1 w0S).fbad
theorem d3m:wok w0S:=⟨by decide,by decide⟩
end
def fmR(v:V)(a b:Bool)(r:Bool×V):Prop:=r.1=true→r.2.f=(v.f || !a)∧r.2.m=(v.m || !b)
theorem c8m(v:V)(l:Lab)(d:Int):fmR v (formL l) (nameOk l) (vMeet v l d):=by
 unfold vMeet fmR nameOk
 intro h
 split at h
 ·cases h
 ·rename_i h1
  rw [if_neg h1]
  split at h
  ·cases h
  ·rename_i h2
   rw [if_neg h2]
   refine ⟨rfl,?_⟩
   dsimp only
   cases (nameL l).2
   ·simp
   ·simp
mutual
theorem d4V:∀(t:PT)(d:Int)(v:V),fmR v (formT t) (namesT t) (vT t d v)
 | .mk l cs,d,v=>by
  have hm:=c8m v l d
  rw [vT,formT,namesT]
  by_cases hq:(vMeet v l d).1=true
  ·rw [if_pos hq]
   intro h
   have h1:=hm hq
   have h2:=c1T cs (d+1) _ h
   rw [h2.1,h2.2,h1.1,h1.2]
   cases v.f<;>cases v.m<;>cases formL l<;>cases nameOk l<;>cases formTs cs<;>cases namesTs cs<;>exact ⟨rfl,rfl⟩
  ·rw [if_neg hq];exact fun h=>(hq h).elim
theorem c1T:∀(ts:List PT)(d:Int)(v:V),fmR v (formTs ts) (namesTs ts) (vTs ts d v)
 | [],d,v=>by
  rw [vTs,formTs,namesTs]
  intro _
  dsimp only
  cases v.f<;>cases v.m<;>exact ⟨rfl,rfl⟩
 | t::ts,d,v=>by
  have hm:=d4V t d v
  rw [vTs,formTs,namesTs]
  by_cases hq:(vT t d v).1=true
  ·rw [if_pos hq]
   intro h
   have h1:=hm hq
   have h2:=c1T ts d _ h
   rw [h2.1,h2.2,h1.1,h1.2]
   cases v.f<;>cases v.m<;>cases formT t<;>cases namesT t<;>cases formTs ts<;>cases namesTs ts<;>exact ⟨rfl,rfl⟩
  ·rw [if_neg hq];exact fun h=>(hq h).elim
end
theorem c8n(ts:List PT):vEnd (vTs ts 1 v0)=toldS ts:=by
 have hs:=c6P ts
 have hf:=c1T ts 1 v0
 unfold toldS vEnd
 generalize vTs ts 1 v0=r at hs hf ⊢
 generalize wTs ts 1 w0S=s at hs ⊢
 by_cases hq:r.1=true
 ·obtain ⟨h1,h2,_⟩:=hs.1 hq
  obtain ⟨h3,h4⟩:=hf hq
  rw [if_pos hq,h1,h2,h3,h4,if_pos rfl]
  cases formTs ts<;>cases namesTs ts<;>rfl
 ·obtain ⟨h1,h2⟩:=hs.2 (Bool.eq_false_iff.2 hq)
  rw [if_neg hq,h1,if_neg (by omega)]
section
variable {H:Hp}
end
end Go.Proofs.YthaaobpfbgcfiaaGreatDoor
