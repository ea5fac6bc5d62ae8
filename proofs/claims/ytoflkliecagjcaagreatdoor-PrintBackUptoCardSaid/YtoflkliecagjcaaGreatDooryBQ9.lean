/- The document's forms: which trees have theirs, which names are names; what it tells is what the program tells. The law TreeParts. -/
import Derived.Lib.TrimUEq
import Derived.Lib.ValidLaws
import Derived.Test.YtoflkliecagjcaaGreatDooryBQ6
namespace Go.Proofs.YtoflkliecagjcaaGreatDoor
open Go.RowKit
set_option maxRecDepth 100000
set_option maxHeartbeats 2000000
def nameOk(l:Lab):Bool:=if (nameL l).2=true then nameS (nameL l).1 else true
mutual
def formT:PT→Bool
 | .mk l cs=>formL l&&formTs cs
def formTs:List PT→Bool
 | []=>true
 | t::ts=>formT t&&formTs ts
end
mutual
def namesT:PT→Bool
 | .mk l cs=>nameOk l&&namesTs cs
def namesTs:List PT→Bool
 | []=>true
 | t::ts=>namesT t&&namesTs ts
end
theorem a2k:∀a b:List PT,formTs (a++b)=(formTs a&&formTs b)
 | [],b=>by rw [List.nil_append,formTs,Bool.true_and]
 | t::a,b=>by rw [List.cons_append,formTs,formTs,a2k a b,Bool.and_assoc]
theorem b3L:∀a b:List PT,namesTs (a++b)=(namesTs a&&namesTs b)
 | [],b=>by rw [List.nil_append,namesTs,Bool.true_and]
 | t::a,b=>by rw [List.cons_append,namesTs,namesTs,b3L a b,Bool.and_assoc]
structure Fm where
 fok:Bool
 fnames:Bool
def FR(f:Fm)(a b:Bool)(y:Fm):Prop:=y.fok=(f.fok&&a)∧(y.fok=true→y.fnames=(f.fnames&&b))
theorem FR.refl(f:Fm):FR f true true f:=⟨(Bool.and_true _).symm,fun _=>(Bool.and_true _).symm⟩
theorem FR.trans{f g y:Fm}{a b a' b':Bool}(h:FR f a b g)(h':FR g a' b' y):FR f (a&&a') (b&&b') y:=by
 refine ⟨by rw [h'.1,h.1,Bool.and_assoc],fun hy=>?_⟩
 have hg:g.fok=true:=by rw [h'.1] at hy;exact (Bool.and_eq_true_iff.1 hy).1
 rw [h'.2 hy,h.2 hg,Bool.and_assoc]
section
variable {H:Hp}
def toldS(ts:List PT):Int:=if (wTs ts 1 w0S).fbad=0 then (if formTs ts=true then (if namesTs ts=true then 0 else 31) else 30) else (wTs ts 1 w0S).fbad
end
def fmR(v:V)(a b:Bool)(r:Bool×V):Prop:=r.1=true→r.2.f=(v.f || !a)∧r.2.m=(v.m || !b)
theorem c9g(v:V)(l:Lab)(d:Int):fmR v (formL l) (nameOk l) (vMeet v l d):=by
 unfold vMeet fmR nameOk
 intro h
 split at h
 ·cases h
 ·rename_i h1
  rw [if_neg h1]
  split at h
  ·cases h
  ·rename_i h2
   rw [if_neg h2]
   refine ⟨rfl,?_⟩
   dsimp only
   cases (nameL l).2
   ·simp
   ·simp
mutual
theorem d6E:∀(t:PT)(d:Int)(v:V),fmR v (formT t) (namesT t) (vT t d v)
 | .mk l cs,d,v=>by
  have hm:=c9g v l d
  rw [vT,formT,namesT]
  by_cases hq:(vMeet v l d).1=true
  ·rw [if_pos hq]
   intro h
   have h1:=hm hq
   have h2:=c2l cs (d+1) _ h
   rw [h2.1,h2.2,h1.1,h1.2]
   cases v.f<;>cases v.m<;>cases formL l<;>cases nameOk l<;>cases formTs cs<;>cases namesTs cs<;>exact ⟨rfl,rfl⟩
  ·rw [if_neg hq];exact fun h=>(hq h).elim
theorem c2l:∀(ts:List PT)(d:Int)(v:V),fmR v (formTs ts) (namesTs ts) (vTs ts d v)
 | [],d,v=>by
  rw [vTs,formTs,namesTs]
  intro _
  dsimp only
  cases v.f<;>cases v.m<;>exact ⟨rfl,rfl⟩
 | t::ts,d,v=>by
  have hm:=d6E t d v
  rw [vTs,formTs,namesTs]
  by_cases hq:(vT t d v).1=true
  ·rw [if_pos hq]
   intro h
   have h1:=hm hq
   have h2:=c2l ts d _ h
   rw [h2.1,h2.2,h1.1,h1.2]
   cases v.f<;>cases v.m<;>cases formT t<;>cases namesT t<;>cases formTs ts<;>cases namesTs ts<;>exact ⟨rfl,rfl⟩
  ·rw [if_neg hq];exact fun h=>(hq h).elim
end
theorem b3i(ts:List PT):vEnd (vTs ts 1 v0)=toldS ts:=by
 have hs:=c7z ts
 have hf:=c2l ts 1 v0
 unfold toldS vEnd
 generalize vTs ts 1 v0=r at hs hf ⊢
 generalize wTs ts 1 w0S=s at hs ⊢
 by_cases hq:r.1=true
 ·obtain ⟨h1,h2,_⟩:=hs.1 hq
  obtain ⟨h3,h4⟩:=hf hq
  rw [if_pos hq,h1,h2,h3,h4,if_pos rfl]
  cases formTs ts<;>cases namesTs ts<;>rfl
 ·obtain ⟨h1,h2⟩:=hs.2 (Bool.eq_false_iff.2 hq)
  rw [if_neg hq,h1,if_neg (by omega)]
section
variable {H:Hp}
end
end Go.Proofs.YtoflkliecagjcaaGreatDoor
namespace Go.Proofs.YtoflkliecagjcaaGreatDoor
open Go.RowKit
set_option maxRecDepth 100000
set_option maxHeartbeats 2000000
structure Us where
 o8:ByteArray
 d6K:Bool
mutual
def cT:PT→Nat
 | .mk _ cs=>1+cTs cs
def cTs:List PT→Nat
 | []=>0
 | t::ts=>cT t+cTs ts
end
theorem a9i:∀a b:List PT,cTs (a++b)=cTs a+cTs b
 | [],b=>by rw [List.nil_append,cTs,Nat.zero_add]
 | t::a,b=>by rw [List.cons_append,cTs,cTs,a9i a b,Nat.add_assoc]
mutual
theorem c4y:∀(t:PT)(d:Int)(s:W),(wT t d s).fbad=0→(wT t d s).fn=s.fn+cT t
 | .mk l cs,d,s,h=>by
  rw [wT] at h ⊢
  rw [c1c cs _ _ h,cT]
  have hb:(wStep s d).fbad=0:=by
   by_cases hq:(wStep s d).fbad=0
   ·exact hq
   ·rw [a5x _ _ _ hq] at h;exact h
  unfold wStep at hb ⊢
  split at hb
  ·rename_i h1
   rw [if_pos h1]
   split at hb
   ·cases hb
   ·rename_i h2
    rw [if_neg h2]
    split at hb
    ·cases hb
    ·rename_i h3
     rw [if_neg h3];dsimp only;omega
  ·rename_i h1;exact (h1 hb).elim
theorem c1c:∀(ts:List PT)(d:Int)(s:W),(wTs ts d s).fbad=0→(wTs ts d s).fn=s.fn+cTs ts
 | [],d,s,h=>by rw [wTs,cTs];simp
 | t::ts,d,s,h=>by
  rw [wTs] at h ⊢
  rw [c1c ts _ _ h,cTs]
  have hb:(wT t d s).fbad=0:=by
   by_cases hq:(wT t d s).fbad=0
   ·exact hq
   ·rw [a5x _ _ _ hq] at h;exact h
  rw [c4y t d s hb];omega
end
inductive Nd:PT→Prop
 | mk {l:Lab} {cs:List PT}:(∀z s,l≠.decl z s)→(∀t∈cs,Nd t)→Nd (.mk l cs)
theorem a9I{α:Type}{R:α→PT→Prop}{xs:List α}{ts:List PT}(hl:xs.length=ts.length)(h:∀(i:Nat)(x:α)(t:PT),xs[i]? = some x→ts[i]? = some t→Nd t):∀t∈ts,Nd t:=fun t ht=>by
 obtain ⟨i,hi⟩:=List.mem_iff_getElem?.1 ht
 obtain ⟨x,hx⟩:=O9 (l:=xs) (i:=i) (by rw [hl];exact P4 hi)
 exact h i x t hx hi
theorem b5h{a b:List PT}(ha:∀t∈a,Nd t)(hb:∀t∈b,Nd t):∀t∈a++b,Nd t:=fun t h=>(List.mem_append.1 h).elim (ha t) (hb t)
theorem EH.nd{H:Hp}{e:f8}{t:PT}(h:EH H e t):Nd t:=by
 induction h with
 | mk hs hb hl _ ih=>exact .mk (fun z s e=>by cases e) (a9I (R:=EH H) hl ih)
theorem CH.nd{H:Hp}{e:i7}{t:PT}(h:CH H e t):Nd t:=by
 induction h with
 | mk hs hb hr hc hcb hl _ ih=>exact .mk (fun z s e=>by cases e) (b5h (a9I (R:=EH H) hr.1 fun i x t a b=>(hr.2 i x t a b).nd) (a9I (R:=CH H) hl ih))
theorem SH.nd{H:Hp}{e:d9}{t:PT}(h:SH H e t):Nd t:=by
 induction h with
 | mk hs hb hr hc hcb hcr ha hab hal _ hbs hbb hbl _ ih1 ih2=>
  exact .mk (fun z s e=>by cases e) (b5h (a9I (R:=CH H) hcr.1 fun i x t a b=>(hcr.2 i x t a b).nd) (b5h (a9I (R:=EH H) hr.1 fun i x t a b=>(hr.2 i x t a b).nd) (b5h (a9I (R:=SH H) hal ih1) (a9I (R:=SH H) hbl ih2))))
section
variable {H:Hp}
end
end Go.Proofs.YtoflkliecagjcaaGreatDoor
