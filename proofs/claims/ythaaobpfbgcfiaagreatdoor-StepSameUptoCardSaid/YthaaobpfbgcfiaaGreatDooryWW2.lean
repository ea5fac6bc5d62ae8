/- A program's run as a tree, and its graph's: what the tree does, edges do. Expressions and conditions. Plain. -/
import Derived.Test.YthaaobpfbgcfiaaGreatDooryWW1
import Derived.Test.YthaaobpfbgcfiaaGreatDooryWR6
namespace Go.Proofs.YthaaobpfbgcfiaaGreatDoor
open Go.RowKit
set_option maxRecDepth 100000
set_option maxHeartbeats 2000000
section
variable {es:List Ed}{scr:List Int}{k0:Int}
def Gq(es:List Ed)(scr:List Int)(k0:Int)(n:Nat)(s s':RS):Prop:=∀f,runS es scr k0 (n+f) s=runS es scr k0 f s'
def Fi(es:List Ed)(scr:List Int)(k0:Int)(s:RS)(st wr:Int)(s':RS):Prop:=∃n:Nat,(n:Int)≤k0-s.steps∧∀f,runS es scr k0 (n+1+f) s=(st,wr,s')
theorem Gq.refl(s:RS):Gq es scr k0 0 s s:=fun f=>by rw [Nat.zero_add]
theorem Gq.trans{n m:Nat}{a b c:RS}(h:Gq es scr k0 n a b)(k:Gq es scr k0 m b c):Gq es scr k0 (n+m) a c:=fun f=>by rw [Nat.add_assoc,h,k]
theorem Gq.fi{n:Nat}{a b c:RS}{st wr:Int}(h:Gq es scr k0 n a b)(e:b.steps=a.steps+n)(k:Fi es scr k0 b st wr c):Fi es scr k0 a st wr c:=by
 obtain ⟨m,hm,q⟩:=k
 exact ⟨n+m,by omega,fun f=>by rw [Nat.add_assoc n m 1,Nat.add_assoc n (m+1) f,h,q]⟩
def tk(es:List Ed)(s:RS):Option Ed:=edgeAt es (takeS es s.vars (idxS s.pt 0 es))
end
structure Gok (ex:Int) (es:List Ed):Prop where
 one:∀x∈es,x.b8≠12→∀vars,edgeAt es (takeS es vars (idxS x.B3 0 es))=some x
 two:∀x∈es,∀y∈es,x.b8=12→y.b8=12→y.B3=x.B3→1≤x.fOp→x.fOp≤6→y.fOp=notO x.fOp→y.fA=x.fA→y.fB=x.fB→∀vars,edgeAt es (takeS es vars (idxS x.B3 0 es))=some (if cmpS x.fOp (valS vars x.fA) (valS vars x.fB)=true then x else y)
 ex:∀x∈es,x.B3≠ex
theorem c5H{op a b:Int}(h0:1≤op)(h1:op≤6):cmpS (notO op) a b = !cmpS op a b:=by
 rw [show notO op=notG op from by obtain rfl | rfl | rfl | rfl | rfl | rfl:=(by omega:op=1∨op=2∨op=3∨op=4∨op=5∨op=6)<;>rfl]
 exact b9s h0 h1
theorem d3r{es:List Ed}{p:Int}{x:Ed}(h:fromS es p=[x]):∃i,idxS p 0 es=[i]∧0≤i∧es[i.toNat]? = some x:=by
 have hl:=a6W p 0 es
 rw [h] at hl
 match hq:idxS p 0 es,hl with
 | [i],_=>
  obtain ⟨a,_,e,he,hf⟩:=a6V p 0 es 0 i (by rw [hq];rfl)
  rw [h] at hf
  cases hf
  exact ⟨i,rfl,a,by rw [Int.sub_zero] at he;exact he⟩
theorem d3s{es:List Ed}{p:Int}{x y:Ed}(h:fromS es p=[x,y]):∃i j,idxS p 0 es=[i,j]∧(0≤i∧es[i.toNat]? = some x)∧0≤j∧es[j.toNat]? = some y:=by
 have hl:=a6W p 0 es
 rw [h] at hl
 match hq:idxS p 0 es,hl with
 | [i,j],_=>
  obtain ⟨a,_,e,he,hf⟩:=a6V p 0 es 0 i (by rw [hq];rfl)
  obtain ⟨a2,_,e2,he2,hf2⟩:=a6V p 0 es 1 j (by rw [hq];rfl)
  rw [h] at hf hf2
  cases hf;cases hf2
  exact ⟨i,j,rfl,⟨a,by rw [Int.sub_zero] at he;exact he⟩,a2,by rw [Int.sub_zero] at he2;exact he2⟩
theorem b4d{es:List Ed}{i:Int}{x:Ed}(h0:0≤i)(h:es[i.toNat]? = some x):edgeAt es i=some x:=by unfold edgeAt;rw [if_neg (by omega)];exact h
theorem b9v{es:List Ed}{vars:List Int}{i:Int}{l:List Int}{x:Ed}(h:es[i.toNat]? = some x):takeS es vars (i::l)=bif goS vars x then i else takeS es vars l:=by rw [takeS,h]
theorem d2i{es:List Ed}{ex:Int}(h:∀p,goeS (fromS es p)=true)(hx:∀x∈es,x.B3≠ex):Gok ex es:=by
 have mem:∀{x:Ed},x∈es→x∈fromS es x.B3:=fun hx=>List.mem_filter.2 ⟨hx,by simp⟩
 refine ⟨fun x hx hk vars=>?_,fun x hx y hy kx ky hf o0 o1 ho ha hb vars=>?_,hx⟩
 ·have g:=h x.B3
  have m:=mem hx
  match hq:fromS es x.B3,g,m with
  | [a],_,m=>
   obtain rfl:=List.mem_singleton.1 m
   obtain ⟨i,e,i0,hi⟩:=d3r hq
   rw [e,b9v hi,show goS vars x=true from by unfold goS;rw [decide_eq_false hk];rfl]
   exact b4d i0 hi
  | [a,b],g,m=>
   rw [b6s] at g
   simp only [Bool.and_eq_true,decide_eq_true_eq] at g
   rcases List.mem_cons.1 m with rfl | m
   ·exact (hk g.1.1.1.1).elim
   ·rw [List.mem_singleton.1 m] at hk;exact (hk g.1.1.1.2).elim
 ·have g:=h x.B3
  have m:=mem hx
  have m2:y∈fromS es x.B3:=hf ▸ mem hy
  have nc:=c5H (a:=valS vars x.fA) (b:=valS vars x.fB) o0 o1
  have ne:notO x.fOp≠x.fOp:=by obtain e | e | e | e | e | e:=(by omega:x.fOp=1∨x.fOp=2∨x.fOp=3∨x.fOp=4∨x.fOp=5∨x.fOp=6)<;>rw [e]<;>decide
  have gx:goS vars x=cmpS x.fOp (valS vars x.fA) (valS vars x.fB):=by unfold goS;rw [decide_eq_true kx];rfl
  have gy:goS vars y = !cmpS x.fOp (valS vars x.fA) (valS vars x.fB):=by unfold goS;rw [decide_eq_true ky,ho,ha,hb,nc];rfl
  match hq:fromS es x.B3,g,m,m2 with
  | [a],_,m,m2=>
   rw [List.mem_singleton.1 m2,← List.mem_singleton.1 m] at ho
   exact (ne ho.symm).elim
  | [a,b],g,m,m2=>
   obtain ⟨i,j,e,⟨i0,hi⟩,j0,hj⟩:=d3s hq
   rw [e,b9v hi,b9v hj]
   rcases List.mem_cons.1 m with rfl | m
   ·rcases List.mem_cons.1 m2 with e2 | m2
    ·rw [e2] at ho;exact (ne ho.symm).elim
    ·obtain rfl:=List.mem_singleton.1 m2
     rw [gx,gy]
     cases q:cmpS x.fOp (valS vars x.fA) (valS vars x.fB)
     ·exact b4d j0 hj
     ·exact b4d i0 hi
   ·obtain rfl:=List.mem_singleton.1 m
    rcases List.mem_cons.1 m2 with rfl | m2
    ·rw [gx,gy]
     cases q:cmpS x.fOp (valS vars x.fA) (valS vars x.fB)
     ·exact b4d i0 hi
     ·exact b4d j0 hj
    ·rw [List.mem_singleton.1 m2] at ho;exact (ne ho.symm).elim
structure Cc (L:En) (ns ars:List ByteArray):Prop where
 n:0≤L.nv
 v0:∀x∈ns,0≤L.vf x∧L.vf x < L.nv
 vi:∀x∈ns,∀y∈ns,L.vf x=L.vf y→x=y
 a0:∀x∈ars,0≤L.af x
 ai:∀x∈ars,∀y∈ars,L.af x=L.af y→x=y
structure Re (L:En) (T:Int) (ns ars:List ByteArray) (scr:List Int) (k0:Int) (σ:St) (s:RS):Prop where
 st:s.steps = σ.steps
 lf:σ.steps + σ.left=k0
 ev:s.evs = σ.events
 ip:σ.script=scr.drop s.inp
 il:s.inp≤scr.length
 vn:σ.vars.map (·.1)=ns
 an:σ.arrs.map (·.1)=ars
 vs:∀x v,lk x σ.vars=some v→s.vars[(L.vf x).toNat]? = some v
 rs:∀x r,lk x σ.arrs=some r→s.arrs[(L.af x).toNat]? = some r
 vl:(s.vars.length:Int)=L.nv+T
 al:s.arrs.length=ars.length
def Keep(n:Int)(s s':RS):Prop:=∀i:Nat,(i:Int) < n→s'.vars[i]? = s.vars[i]?
theorem Keep.refl(n:Int)(s:RS):Keep n s s:=fun _ _=>rfl
theorem Keep.trans{n m:Int}{a b c:RS}(h:Keep n a b)(k:Keep m b c)(e:n≤m):Keep n a c:=fun i hi=>(k i (by omega)).trans (h i hi)
theorem Keep.val{n:Int}{s s':RS}(h:Keep n s s'){o:Op}(ho:o.A8 < n):valS s'.vars o=valS s.vars o:=by
 unfold valS
 split
 ·rfl
 ·rw [List.getD_eq_getElem?_getD,List.getD_eq_getElem?_getD,h o.A8.toNat (by omega)]
section
variable {L:En}{T:Int}{ns ars:List ByteArray}{es:List Ed}{scr:List Int}{k0:Int}
def Gs{α:Type}(L:En)(T:Int)(ns ars:List ByteArray)(es:List Ed)(scr:List Int)(k0:Int)(r:Rs α)(s:RS)(P:α→St→RS→Prop):Prop:=
 match r with
 | .ok a σ'=>∃n s',Gq es scr k0 n s s'∧s'.steps=s.steps+(n:Nat)∧P a σ' s'
 | .stop st wr σ'=>∃s',Fi es scr k0 s st wr s'∧Re L T ns ars scr k0 σ' s'
theorem Gs.bnd{α β:Type}{m:M α}{k:α→M β}{σ:St}{s:RS}{P:α→St→RS→Prop}{Q:β→St→RS→Prop}(h:Gs L T ns ars es scr k0 (m σ) s P)(hk:∀a σ' s',s.steps≤s'.steps→P a σ' s'→Gs L T ns ars es scr k0 (k a σ') s' Q):Gs L T ns ars es scr k0 (bnd m k σ) s Q:=by
 unfold Go.Proofs.YthaaobpfbgcfiaaGreatDoor.bnd
 cases e:m σ with
 | stop st wr σ'=>rw [e] at h;exact h
 | ok a σ'=>
  rw [e] at h
  obtain ⟨n,s',g,es',p⟩:=h
  have q:=hk a σ' s' (by omega) p
  show Gs L T ns ars es scr k0 (k a σ') s Q
  cases e2:k a σ' with
  | ok b σ2=>
   rw [e2] at q
   obtain ⟨m2,s2,g2,e2',p2⟩:=q
   exact ⟨n+m2,s2,g.trans g2,by rw [e2',es',Int.natCast_add];omega,p2⟩
  | stop st wr σ2=>
   rw [e2] at q
   obtain ⟨s2,f2,r2⟩:=q
   exact ⟨s2,g.fi es' f2,r2⟩
theorem Gs.now{α:Type}{a:α}{σ:St}{s:RS}{P:α→St→RS→Prop}(h:P a σ s):Gs L T ns ars es scr k0 (.ok a σ) s P:=⟨0,s,Gq.refl s,by simp,h⟩
theorem Gs.mono{α:Type}{r:Rs α}{s:RS}{P Q:α→St→RS→Prop}(h:Gs L T ns ars es scr k0 r s P)(k:∀a σ' s',s.steps≤s'.steps→P a σ' s'→Q a σ' s'):Gs L T ns ars es scr k0 r s Q:=by
 cases r with
 | ok a σ'=>
  obtain ⟨n,s',g,e,p⟩:=h
  exact ⟨n,s',g,e,k _ _ _ (by omega) p⟩
 | stop _ _ _=>exact h
abbrev Ed1{α:Type}(W:Int)(r:Rs α)(A:α→St→Prop)(B:St→Prop):Prop:=
 match r with
 | .ok a σ'=>W=0∧A a σ'
 | .stop st wr σ'=>st=3∧W=wr∧wr≠0∧B σ'
theorem a7h{α:Type}{r:Rs α}{σ:St}{s:RS}{x:Ed}{P:α→St→RS→Prop}(hR:Re L T ns ars scr k0 σ s)(he:tk es s=some x)(h9:x.b8=9→s.inp < scr.length)
  (h0:σ.left=0→r=.stop 1 0 σ)
  (h1:σ.left≠0→Ed1 (wrongS x scr s) r (fun a σ'=>P a σ' (toS (nextS x scr s) x.fTo)) fun σ'=>Re L T ns ars scr k0 σ' (nextS x scr s)):Gs L T ns ars es scr k0 r s P:=by
 have hs:=hR.st
 have hl:=hR.lf
 have n9:¬(x.b8=9∧scr.length≤s.inp):=fun q=>by have:=h9 q.1;omega
 by_cases z:σ.left=0
 ·rw [h0 z]
  refine ⟨s,⟨0,by omega,fun f=>?_⟩,hR⟩
  rw [show 0+1+f=f+1 by omega,a8V he,if_neg n9,if_pos (by omega)]
 ·have h1:=h1 z
  cases r with
  | ok a σ'=>
   refine ⟨1,toS (nextS x scr s) x.fTo,fun f=>?_,rfl,h1.2⟩
   rw [show 1+f=f+1 by omega,a8V he,if_neg n9,if_neg (by omega),if_pos h1.1]
  | stop st wr σ'=>
   obtain ⟨rfl,e,w,q⟩:=h1
   refine ⟨_,⟨0,by omega,fun f=>?_⟩,q⟩
   rw [show 0+1+f=f+1 by omega,a8V he,if_neg n9,if_neg (by omega),if_neg (by rw [e];exact w),e]
theorem Re.var{σ:St}{s:RS}(hR:Re L T ns ars scr k0 σ s){x:ByteArray}(hx:x∈ns):∃v,lk x σ.vars=some v∧s.vars[(L.vf x).toNat]? = some v:=by
 obtain ⟨v,hv⟩:=a9Y (l:=σ.vars) (k:=x) (by rw [hR.vn];exact hx)
 exact ⟨v,hv,hR.vs x v hv⟩
theorem Re.row{σ:St}{s:RS}(hR:Re L T ns ars scr k0 σ s){x:ByteArray}(hx:x∈ars):lk x σ.arrs=some (rowOf x σ)∧s.arrs[(L.af x).toNat]? = some (rowOf x σ):=by
 obtain ⟨r,hr⟩:=a9Y (l:=σ.arrs) (k:=x) (by rw [hR.an];exact hx)
 have e:rowOf x σ = r:=by unfold rowOf;rw [hr];rfl
 rw [e]
 exact ⟨hr,hR.rs x r hr⟩
theorem Re.up{σ:St}{s:RS}(hR:Re L T ns ars scr k0 σ s)(z:σ.left≠0)(p:Int):Re L T ns ars scr k0 { σ with left:=σ.left-1,steps:=σ.steps+1 } ⟨p,s.vars,s.arrs,s.inp,s.evs,s.steps+1⟩:=
 ⟨by show s.steps+1 = σ.steps+1;rw [hR.st],by show σ.steps+1+((σ.left-1:Nat):Int)=k0;have:=hR.lf;omega,hR.ev,hR.ip,hR.il,hR.vn,hR.an,hR.vs,hR.rs,hR.vl,hR.al⟩
theorem Re.pt{σ:St}{s:RS}(hR:Re L T ns ars scr k0 σ s)(p:Int):Re L T ns ars scr k0 σ (toS s p):=⟨hR.st,hR.lf,hR.ev,hR.ip,hR.il,hR.vn,hR.an,hR.vs,hR.rs,hR.vl,hR.al⟩
theorem Re.temp{σ:St}{s:RS}(C:Cc L ns ars)(hR:Re L T ns ars scr k0 σ s){i:Int}(hi:L.nv≤i)(v p:Int):Re L T ns ars scr k0 σ ⟨p,s.vars.set i.toNat v,s.arrs,s.inp,s.evs,s.steps⟩:=
 ⟨hR.st,hR.lf,hR.ev,hR.ip,hR.il,hR.vn,hR.an,fun x w h=>by
  have hx:x∈ns:=by rw [←hR.vn];exact List.mem_map.2 ⟨_,b1j h,rfl⟩
  have:=C.v0 x hx
  have hn:=C.n
  show (s.vars.set i.toNat v)[(L.vf x).toNat]? = _
  rw [List.getElem?_set_ne (by omega)]
  exact hR.vs x w h,hR.rs,by show ((s.vars.set i.toNat v).length:Int)=_;rw [List.length_set];exact hR.vl,hR.al⟩
theorem Re.vset{σ:St}{s:RS}(C:Cc L ns ars)(hR:Re L T ns ars scr k0 σ s)(hT:0≤T){x:ByteArray}(hx:x∈ns)(v p:Int):Re L T ns ars scr k0 { σ with vars:=T7 x v σ.vars } ⟨p,s.vars.set (L.vf x).toNat v,s.arrs,s.inp,s.evs,s.steps⟩:=
 ⟨hR.st,hR.lf,hR.ev,hR.ip,hR.il,by show (T7 x v σ.vars).map (·.1)=ns;rw [b0Q x v σ.vars (by rw [hR.vn];exact hx)];exact hR.vn,hR.an,fun y w h=>by
  have h:lk y (T7 x v σ.vars)=some w:=h
  rw [a7Z] at h
  have hl:=hR.vl
  have q:=C.v0 x hx
  show (s.vars.set (L.vf x).toNat v)[(L.vf y).toNat]? = _
  by_cases e:y=x
  ·subst e
   rw [if_pos rfl] at h
   cases h
   rw [List.getElem?_set_self (by omega)]
  ·rw [if_neg e] at h
   have hy:y∈ns:=by rw [←hR.vn];exact List.mem_map.2 ⟨_,b1j h,rfl⟩
   have q2:=C.v0 y hy
   rw [List.getElem?_set_ne (fun z=>e (C.vi y hy x hx (by omega)))]
   exact hR.vs y w h,hR.rs,by show ((s.vars.set _ v).length:Int)=_;rw [List.length_set];exact hR.vl,hR.al⟩
theorem Re.rset{σ:St}{s:RS}(C:Cc L ns ars)(hR:Re L T ns ars scr k0 σ s){x:ByteArray}(hx:x∈ars)(r:List Int)(p:Int):Re L T ns ars scr k0 { σ with arrs:=T7 x r σ.arrs } ⟨p,s.vars,s.arrs.set (L.af x).toNat r,s.inp,s.evs,s.steps⟩:=
 ⟨hR.st,hR.lf,hR.ev,hR.ip,hR.il,hR.vn,by show (T7 x r σ.arrs).map (·.1)=ars;rw [b0Q x r σ.arrs (by rw [hR.an];exact hx)];exact hR.an,hR.vs,fun y w h=>by
  have h:lk y (T7 x r σ.arrs)=some w:=h
  rw [a7Z] at h
  have q:=C.a0 x hx
  show (s.arrs.set (L.af x).toNat r)[(L.af y).toNat]? = _
  by_cases e:y=x
  ·subst e
   rw [if_pos rfl] at h
   cases h
   rw [List.getElem?_set_self (C3 (hR.row hx).2)]
  ·rw [if_neg e] at h
   have hy:y∈ars:=by rw [←hR.an];exact List.mem_map.2 ⟨_,b1j h,rfl⟩
   have q2:=C.a0 y hy
   rw [List.getElem?_set_ne (fun z=>e (C.ai y hy x hx (by omega)))]
   exact hR.rs y w h,hR.vl,by show (s.arrs.set _ r).length=_;rw [List.length_set];exact hR.al⟩
def Un(es:List Ed)(T:Int)(g:Gr):Prop:=(∀x∈g.es,x∈es)∧g.t≤T
theorem Un.of{n:Nat}{g g':Gr}(h:Un es T g')(k:Gl n g g'):Un es T g:=by
 obtain ⟨l,e,_⟩:=k.es
 exact ⟨fun x hx=>h.1 x (by rw [e];exact List.mem_append_left _ hx),by have:=k.t;have:=h.2;omega⟩
theorem Un.last{g:Gr}{x:Ed}(h:Un es T (edG x g)):x∈es∧Un es T g:=⟨h.1 x (List.mem_append_right _ (List.mem_singleton.2 rfl)),fun y hy=>h.1 y (List.mem_append_left _ hy),h.2⟩
theorem a5G{ex:Int}(G:Gok ex es){s:RS}{x:Ed}(hx:x∈es)(hk:x.b8≠12)(hp:s.pt=x.B3):tk es s=some x:=by
 unfold tk;rw [hp];exact G.one x hx hk s.vars
def InP(L:En)(T:Int)(ns ars:List ByteArray)(scr:List Int)(k0:Int)(s:RS)(dst tg d:Int)(v:Int)(σ':St)(s':RS):Prop:=
 ∃s1,Re L T ns ars scr k0 σ' s1∧Keep (L.nv+d) s s1∧s'=⟨tg,s1.vars.set dst.toNat v,s1.arrs,s1.inp,s1.evs,s1.steps⟩
def OpP(L:En)(T:Int)(ns ars:List ByteArray)(scr:List Int)(k0:Int)(s:RS)(d:Int)(o:Op)(e:Int)(v:Int)(σ':St)(s':RS):Prop:=
 Re L T ns ars scr k0 σ' s'∧s'.pt=e∧valS s'.vars o=v∧Keep (L.nv+d) s s'
structure FeG (L:En) (T:Int) (ns ars:List ByteArray) (es:List Ed) (scr:List Int) (k0:Int) (t:PT):Prop where
 pl:∀o,(loT L t).pl=some o→plainX t=true∧o.A8 < L.nv∧∀σ s,Re L T ns ars scr k0 σ s→evT t σ = .ok (valS s.vars o) σ
 np:(loT L t).pl=none→plainX t=false
 into:(loT L t).pl=none→∀(dst a b d:Int)(g:Gr)(σ:St)(s:RS),0≤d→Un es T ((loT L t).into dst a b d g)→Re L T ns ars scr k0 σ s→s.pt=a→Gs L T ns ars es scr k0 (evT t σ) s (InP L T ns ars scr k0 s dst b d)
theorem b7U(C:Cc L ns ars){t:PT}(hf:FeG L T ns ars es scr k0 t){a d:Int}{g:Gr}{σ:St}{s:RS}(d0:0≤d)(hU:Un es T (opF L (loT L t) a d g).2.2)(hR:Re L T ns ars scr k0 σ s)(hp:s.pt=a):
  Gs L T ns ars es scr k0 (evT t σ) s (OpP L T ns ars scr k0 s d (opF L (loT L t) a d g).1 (opF L (loT L t) a d g).2.1)∧(opF L (loT L t) a d g).1.A8 < L.nv+dpO L (opF L (loT L t) a d g).1 d:=by
 have hn:=C.n
 unfold opF at hU ⊢
 cases e:(loT L t).pl with
 | some o=>
  obtain ⟨_,h2,h3⟩:=hf.pl o e
  dsimp only
  rw [h3 σ s hR]
  exact ⟨Gs.now ⟨hR,hp,rfl,Keep.refl _ _⟩,by unfold dpO;split<;>omega⟩
 | none=>
  rw [e] at hU
  dsimp only at hU ⊢
  refine ⟨(hf.into e (L.nv+d) a g.p d _ σ s d0 hU hR hp).mono fun v σ' s' _ q=>?_,by unfold dpO;rw [if_pos (by dsimp only;omega)];(try dsimp only);omega⟩
  obtain ⟨s1,r1,k1,rfl⟩:=q
  have hl:=r1.vl
  have ht:d+1≤T:=by
   have h1:=(hU.of ((a4n L t).into ..)).2
   dsimp only at h1
   split at h1<;>omega
  refine ⟨r1.temp C (by omega) v g.p,rfl,?_,fun i hi=>?_⟩
  ·unfold valS
   rw [if_neg (by dsimp only;omega),List.getD_eq_getElem?_getD]
   dsimp only
   rw [List.getElem?_set_self (by omega)];rfl
  ·show (s1.vars.set _ v)[i]? = _
   rw [List.getElem?_set_ne (by omega)]
   exact k1 i hi
theorem d2j(L:En)(t:PT)(a d:Int)(g:Gr):Gl (4*cT t-1+1) g (opF L (loT L t) a d g).2.2:=b4u (a4n L t) a d g
theorem c2h(C:Cc L ns ars){t u:PT}(hf:FeG L T ns ars es scr k0 t)(hh:FeG L T ns ars es scr k0 u){a d:Int}{g:Gr}{σ:St}{s:RS}{β:Type}{k:Int→Int→M β}{Q:β→St→RS→Prop}(d0:0≤d)(hU:Un es T (twF L (loT L t) (loT L u) a d g).2.2.2)(hR:Re L T ns ars scr k0 σ s)(hp:s.pt=a)
  (hk:∀(x y:Int)(σ':St)(s':RS),s.steps≤s'.steps→Re L T ns ars scr k0 σ' s'→s'.pt=(twF L (loT L t) (loT L u) a d g).2.2.1→valS s'.vars (twF L (loT L t) (loT L u) a d g).1=x→valS s'.vars (twF L (loT L t) (loT L u) a d g).2.1=y→Keep (L.nv+d) s s'→Gs L T ns ars es scr k0 (k x y σ') s' Q):
  Gs L T ns ars es scr k0 (bnd (evT t) (fun x=>bnd (evT u) (k x)) σ) s Q:=by
 unfold twF at hU hk
 dsimp only at hU hk
 have h1:=b7U C hf (a:=a) (d:=d) (g:=g) d0 (hU.of (d2j L u ..)) hR hp
 generalize opF L (loT L t) a d g=r1 at *
 refine h1.1.bnd fun x σ1 s1 q1 ⟨R1,p1,v1,k1⟩=>?_
 have h2:=b7U C hh (a:=r1.2.1) (d:=dpO L r1.1 d) (g:=r1.2.2) (c6V d0) hU R1 p1
 generalize opF L (loT L u) r1.2.1 (dpO L r1.1 d) r1.2.2=r2 at *
 refine h2.1.bnd fun y σ2 s2 q2 ⟨R2,p2,v2,k2⟩=>?_
 refine hk x y σ2 s2 (by omega) R2 p2 (by rw [k2.val h1.2];exact v1) v2 (k1.trans k2 ?_)
 unfold dpO;split<;>omega
theorem d2k{l:Lab}{s:ByteArray}(hc:Nm ns ars (useL l))(e:useL l=[⟨s,false⟩]):s∈ns:=(hc ⟨s,false⟩ (by rw [e];exact List.mem_singleton.2 rfl)).2 rfl
theorem d2l{l:Lab}{s:ByteArray}(hc:Nm ns ars (useL l))(e:useL l=[⟨s,true⟩]):s∈ars:=(hc ⟨s,true⟩ (by rw [e];exact List.mem_singleton.2 rfl)).1 rfl
theorem c4p{k:Int}{σ:St}{s s0:RS}{a b dst d:Int}{x:Ed}{r:Int×Int}{ex:Int}(G:Gok ex es)(hx:x∈es)(hk:3≤x.b8∧x.b8≤8)(hR:Re L T ns ars scr k0 σ s)(hp:s.pt=x.B3)(hd:x.D8=dst)(ht:x.fTo=b)(hr:opS x.b8 (valS s.vars x.fA) (valS s.vars x.fB)=r)(kp:Keep (L.nv+d) s0 s):
  Gs L T ns ars es scr k0 (bnd stepM (fun _=>toldM r) σ) s (InP L T ns ars scr k0 s0 dst b d):=by
 have hdo:∀i,doesS x i s.vars s.arrs=if r.2=0 then (0,s.vars.set dst.toNat r.1,s.arrs) else (r.2,s.vars,s.arrs):=fun i=>by
  unfold doesS
  rw [if_neg (by omega),if_neg (by omega),if_pos hk,hr,hd]
 have hi:∀i,evS x i s.evs=s.evs:=fun i=>by unfold evS;rw [if_neg (by omega),if_neg (by omega),if_neg (by omega)]
 refine a7h hR (a5G G hx (by omega) hp) (fun q=>by omega) (fun z=>?_) fun z=>?_
 ·unfold bnd stepM;rw [if_pos z];rfl
 ·have e:bnd stepM (fun _=>toldM r) σ = toldM r { σ with left:=σ.left-1,steps:=σ.steps+1 }:=K3 (by unfold stepM;rw [if_neg z])
  rw [e]
  unfold toldM
  by_cases w:r.2=0
  ·rw [if_pos w]
   refine ⟨by unfold wrongS;rw [hdo,if_pos w],⟨s.pt,s.vars,s.arrs,s.inp,s.evs,s.steps+1⟩,hR.up z s.pt,kp,?_⟩
   unfold nextS toS
   dsimp only
   rw [hdo,if_pos w,hi,if_neg (by omega),ht]
  ·rw [if_neg w]
   refine ⟨rfl,by unfold wrongS;rw [hdo,if_neg w],w,?_⟩
   unfold nextS
   dsimp only
   rw [hdo,if_neg w,hi,if_neg (by omega)]
   exact hR.up z s.pt
theorem b9w(k n:Int)(s:ByteArray)(cs:List PT):evT (eX k n s cs)=evN k s (cst (eX k n s cs)) (evTs cs):=b6q k n s cs
theorem b9x(t:PT):evTs [t]=bnd (evT t) fun v=>ret [v]:=by
 rw [evTs,evTs];funext s;unfold bnd ret;cases evT t s<;>rfl
theorem d2m(t u:PT):evTs [t,u]=bnd (evT t) fun v=>bnd (evT u) fun w=>ret [v,w]:=by
 rw [evTs,b9x];funext s;unfold bnd ret;cases evT t s with
 | ok a s=>show Rs.andThen _ _=_;cases h:evT u s<;>simp [Rs.andThen,h]
 | stop _ _ _=>rfl
theorem b9y(C:Cc L ns ars)(hT:0≤T){ex:Int}(G:Gok ex es){t:PT}(ht:XE t):Nm ns ars (uT t)→FeG L T ns ars es scr k0 t:=by
 induction ht with
 | num n h0 h1=>
  intro _
  refine ⟨fun o e=>?_,fun e=>(by rw [U5] at e;cases e),fun e=>by rw [U5] at e;cases e⟩
  rw [U5] at e
  cases e
  exact ⟨rfl,by show (-1:Int) < L.nv;have:=C.n;omega,fun σ s _=>rfl⟩
 | var x=>
  intro hu
  have hx:=d2k (s:=x) hu.own.1 rfl
  refine ⟨fun o e=>?_,fun e=>(by rw [U5] at e;cases e),fun e=>by rw [U5] at e;cases e⟩
  rw [U5] at e
  have e:some (⟨L.vf x,0⟩:Op)=some o:=e
  cases e
  refine ⟨rfl,(C.v0 x hx).2,fun σ s hR=>?_⟩
  obtain ⟨v,e1,e2⟩:=hR.var hx
  show Rs.ok ((lk x σ.vars).getD 0) σ = _
  unfold valS
  rw [if_neg (by have:=(C.v0 x hx).1;dsimp only;omega),List.getD_eq_getElem?_getD]
  dsimp only
  rw [e1,e2]
 | inp=>
  intro _
  refine ⟨fun o e=>(by rw [U5] at e;cases e),fun _=>rfl,fun _ dst a b d g σ s d0 hU hR hp=>?_⟩
  rw [U5] at hU
  have hU:Un es T (edG ⟨a,b,9,dst,-1,0,nO,nO⟩ g):=hU
  have hx:=hU.last.1
  have e:evT (eX 3 0 ⟨#[]⟩ [])=inM:=rfl
  rw [e]
  unfold inM
  by_cases q:s.inp < scr.length
  ·have hs:σ.script=scr.getD s.inp 0::scr.drop (s.inp+1):=by
    rw [hR.ip,List.drop_eq_getElem_cons q,List.getD_eq_getElem?_getD,List.getElem?_eq_getElem q];rfl
   rw [hs]
   dsimp only
   refine a7h (x:=⟨a,b,9,dst,-1,0,nO,nO⟩) hR (a5G G hx (show (9:Int)≠12 by decide) hp) (fun _=>q) (fun z=>?_) fun z=>?_
   ·rw [if_pos z]
   ·rw [if_neg z]
    refine ⟨rfl,⟨s.pt,s.vars,s.arrs,s.inp+1,s.evs++[⟨true,scr.getD s.inp 0,false⟩],s.steps+1⟩,?_,Keep.refl _ _,rfl⟩
    have hu:=hR.up z s.pt
    exact ⟨hu.st,hu.lf,by show s.evs++_ = σ.events++_;rw [hR.ev],rfl,by show s.inp+1≤_;omega,hu.vn,hu.an,hu.vs,hu.rs,hu.vl,hu.al⟩
  ·have hs:σ.script=[]:=by rw [hR.ip];exact List.drop_of_length_le (by omega)
   rw [hs]
   dsimp only
   refine ⟨s,⟨0,by have:=hR.st;have:=hR.lf;omega,fun f=>?_⟩,hR⟩
   rw [show 0+1+f=f+1 by omega,a8V (a5G G hx (show (9:Int)≠12 by decide) hp),if_pos ⟨rfl,by omega⟩]
 | item x e he ih=>
  intro hu
  have hx:=d2l (s:=x) hu.own.1 rfl
  have hf:=ih (hu.own.2.mem (by simp))
  have np:plN L 4 0 x [e]=none:=c2f (by decide) (by decide) (by decide)
  refine ⟨fun o q=>(by rw [U5] at q;rw [show (_:Option Op)=none from np] at q;cases q),fun _=>rfl,fun _ dst a b d g σ s d0 hU hR hp=>?_⟩
  rw [U5] at hU
  have hU:Un es T (edG ⟨(opF L (loT L e) a d g).2.1,b,10,dst,L.af x,0,(opF L (loT L e) a d g).1,nO⟩ (opF L (loT L e) a d g).2.2):=hU
  have ev:evT (eX 4 0 x [e])=bnd (evT e) fun i=>loadM x i:=by
   rw [b9w]
   show bnd (evTs [e]) (fun l=>loadM x (l.getD 0 0))=_
   rw [b9x,a0m];rfl
  rw [ev]
  refine (b7U C hf (a:=a) (g:=g) d0 hU.last.2 hR hp).1.bnd fun i σ1 s1 q1 ⟨R1,p1,v1,k1⟩=>?_
  generalize opF L (loT L e) a d g=r1 at *
  obtain ⟨_,hr⟩:=R1.row hx
  have hrow:rowS s1.arrs ⟨r1.2.1,b,10,dst,L.af x,0,r1.1,nO⟩=rowOf x σ1:=by unfold rowS;rw [List.getD_eq_getElem?_getD];dsimp only;rw [hr];rfl
  have hdo:∀j,doesS ⟨r1.2.1,b,10,dst,L.af x,0,r1.1,nO⟩ j s1.vars s1.arrs=if 0≤i∧i < (rowOf x σ1).length then (0,s1.vars.set dst.toNat ((rowOf x σ1).getD i.toNat 0),s1.arrs) else (3,s1.vars,s1.arrs):=fun j=>by
   unfold doesS
   rw [if_neg (show ¬(10:Int)=2 by decide),if_neg (show ¬(10:Int)=9 by decide),if_neg (show ¬(3≤(10:Int)∧(10:Int)≤8) by decide),if_pos rfl,hrow]
   dsimp only
   rw [v1]
  refine a7h (x:=⟨r1.2.1,b,10,dst,L.af x,0,r1.1,nO⟩) R1 (a5G G hU.last.1 (show (10:Int)≠12 by decide) p1) (fun q=>(by cases q)) (fun z=>?_) fun z=>?_
  ·unfold loadM itemM;rw [a0m];unfold bnd stepM;rw [if_pos z];rfl
  ·have e1:loadM x i σ1=bnd (boundM x i) (fun _=>cellM x i) { σ1 with left:=σ1.left-1,steps:=σ1.steps+1 }:=by
    unfold loadM itemM
    rw [a0m]
    exact K3 (by unfold stepM;rw [if_neg z])
   rw [e1]
   by_cases w:0≤i∧i < (rowOf x σ1).length
   ·rw [K3 (s1:={ σ1 with left:=σ1.left-1,steps:=σ1.steps+1 }) (a:=()) (by unfold boundM;rw [if_neg (by show ¬(i < 0∨((rowOf x σ1).length:Int)≤i);omega)])]
    refine ⟨by unfold wrongS;rw [hdo,if_pos w],⟨s1.pt,s1.vars,s1.arrs,s1.inp,s1.evs,s1.steps+1⟩,R1.up z s1.pt,k1,?_⟩
    unfold nextS toS
    dsimp only
    rw [hdo,if_pos w]
    rfl
   ·rw [O5 (s1:={ σ1 with left:=σ1.left-1,steps:=σ1.steps+1 }) (x:=3) (y:=3) (by unfold boundM;rw [if_pos (by show (i < 0∨((rowOf x σ1).length:Int)≤i);omega)])]
    refine ⟨rfl,by unfold wrongS;rw [hdo,if_neg w],by decide,?_⟩
    unfold nextS
    dsimp only
    rw [hdo,if_neg w]
    exact R1.up z s1.pt
 | neg e he ih=>
  intro hu
  have hf:=ih (hu.own.2.mem (by simp))
  by_cases hc:∃n,e=eX 1 n ⟨#[]⟩ []
  ·obtain ⟨n,rfl⟩:=hc
   refine ⟨fun o q=>?_,fun q=>(by rw [U5] at q;cases q),fun q=>by rw [U5] at q;cases q⟩
   rw [U5] at q
   have q:some (⟨-1,IntKind.wrap .i64 (0-n)⟩:Op)=some o:=q
   cases q
   exact ⟨rfl,by show (-1:Int) < L.nv;have:=C.n;omega,fun σ s _=>rfl⟩
  ·have np:plN L 5 0 ⟨#[]⟩ [e]=none:=by
    cases he with
    | num n _ _=>exact (hc ⟨n,rfl⟩).elim
    | bin k _ _ hk _ _=>unfold eX plN;dsimp only;rw [if_neg (by decide),if_neg (by omega),if_neg (by decide)]
    | _=>rfl
   have nc:cst (eX 5 0 ⟨#[]⟩ [e])=none:=by
    cases he with
    | num n _ _=>exact (hc ⟨n,rfl⟩).elim
    | bin k _ _ hk _ _=>unfold eX;rw [cst,if_neg (by decide),if_pos rfl];unfold kidC;dsimp only;rw [if_neg (by omega)]
    | _=>rfl
   refine ⟨fun o q=>(by rw [U5] at q;rw [show (_:Option Op)=none from np] at q;cases q),fun _=>?_,fun _ dst a b d g σ s d0 hU hR hp=>?_⟩
   ·show ((cst (eX 5 0 ⟨#[]⟩ [e])).isSome||decide ((5:Int)=2))=false
    rw [nc];rfl
   ·rw [U5] at hU
    have hU:Un es T (edG ⟨(opF L (loT L e) a d g).2.1,b,3,dst,-1,0,(opF L (loT L e) a d g).1,nO⟩ (opF L (loT L e) a d g).2.2):=hU
    have ev:evT (eX 5 0 ⟨#[]⟩ [e])=bnd (evT e) fun i=>bnd stepM fun _=>toldM (opS 3 i 0):=by
     rw [b9w,nc]
     show bnd (evTs [e]) (fun l=>bnd stepM fun _=>toldM (opS 3 (l.getD 0 0) (l.getD 1 0)))=_
     rw [b9x,a0m];rfl
    rw [ev]
    refine (b7U C hf (a:=a) (g:=g) d0 hU.last.2 hR hp).1.bnd fun i σ1 s1 q1 ⟨R1,p1,v1,k1⟩=>?_
    exact c4p (k:=3) (a:=a) G hU.last.1 ⟨show (3:Int)≤3 by decide,show (3:Int)≤8 by decide⟩ R1 p1 rfl rfl (by dsimp only;rw [v1];rfl) k1
 | bin k x y hk hx hy ih1 ih2=>
  intro hu
  have hf:=ih1 (hu.own.2.mem (by simp))
  have hh:=ih2 (hu.own.2.mem (by simp))
  have np:plN L k 0 ⟨#[]⟩ [x,y]=none:=c2f (by omega) (by omega) (by omega)
  have nc:cst (eX k 0 ⟨#[]⟩ [x,y])=none:=by unfold eX;rw [cst,if_neg (by omega),if_neg (by omega)]
  refine ⟨fun o q=>(by rw [U5] at q;rw [show (_:Option Op)=none from np] at q;cases q),fun _=>?_,fun _ dst a b d g σ s d0 hU hR hp=>?_⟩
  ·show ((cst (eX k 0 ⟨#[]⟩ [x,y])).isSome||decide (k=2))=false
   rw [nc,decide_eq_false (by omega)];rfl
  ·rw [U5] at hU
   have hU:Un es T (inN L k ⟨#[]⟩ [loT L x,loT L y] dst a b d g):=hU
   unfold inN at hU
   dsimp only at hU
   rw [if_neg (show ¬k=4 by omega)] at hU
   have ev:evT (eX k 0 ⟨#[]⟩ [x,y])=bnd (evT x) fun v=>bnd (evT y) fun w=>bnd stepM fun _=>toldM (opS (k-2) v w):=by
    rw [b9w,nc]
    unfold evN
    dsimp only
    rw [if_neg (show ¬k=2 by omega),d2m,a0m]
    congr 1
    funext v
    rw [a0m]
    congr 1
    funext w
    rw [b6X,if_neg (show ¬k=3 by omega),if_neg (show ¬k=4 by omega)]
    rfl
   rw [ev]
   have ko:kO k=k-2∧3≤kO k∧kO k≤8:=by rcases hk with rfl | rfl | rfl | rfl | rfl<;>exact ⟨rfl,by decide,by decide⟩
   refine c2h C hf hh d0 hU.last.2 hR hp fun v w σ1 s1 q1 R1 p1 v1 v2 k1=>?_
   exact c4p (k:=k) (a:=a) G hU.last.1 ko.2 R1 p1 rfl rfl (by dsimp only;rw [v1,v2,ko.1]) k1
def CoP(L:En)(T:Int)(ns ars:List ByteArray)(scr:List Int)(k0:Int)(s:RS)(yes no:Int)(b:Bool)(σ':St)(s':RS):Prop:=
 Re L T ns ars scr k0 σ' s'∧s'.pt=(if b=true then yes else no)∧s.steps < s'.steps
theorem b9z(k op:Int)(xs ps:List PT):cvT (cX k op xs ps)=cvN k op (xs.map evT) (ps.map cvT):=b8U k op xs ps
theorem b4e{α:Type}{σ:St}{s:RS}{x:Ed}{a:α}{ex:Int}{P:α→St→RS→Prop}(G:Gok ex es)(hx:tk es s=some x)(hk:x.b8=1∨x.b8=12)(hR:Re L T ns ars scr k0 σ s)
  (h:∀σ' s',Re L T ns ars scr k0 σ' s'→s'.pt=x.fTo→s.steps < s'.steps→P a σ' s'):Gs L T ns ars es scr k0 (bnd stepM (fun _=>ret a) σ) s P:=by
 have hdo:∀i,doesS x i s.vars s.arrs=(0,s.vars,s.arrs):=fun i=>by
  unfold doesS
  rw [if_neg (by omega),if_neg (by omega),if_neg (by omega),if_neg (by omega),if_neg (by omega),if_neg (by omega)]
 have hi:∀i,evS x i s.evs=s.evs:=fun i=>by unfold evS;rw [if_neg (by omega),if_neg (by omega),if_neg (by omega)]
 refine a7h hR hx (fun q=>by omega) (fun z=>?_) fun z=>?_
 ·unfold bnd stepM;rw [if_pos z];rfl
 ·rw [K3 (s1:={ σ with left:=σ.left-1,steps:=σ.steps+1 }) (a:=()) (by unfold stepM;rw [if_neg z])]
  refine ⟨by unfold wrongS;rw [hdo],?_⟩
  have e:toS (nextS x scr s) x.fTo=⟨x.fTo,s.vars,s.arrs,s.inp,s.evs,s.steps+1⟩:=by
   unfold nextS toS
   dsimp only
   rw [hdo,hi,if_neg (by omega)]
  rw [e]
  exact h _ _ (hR.up z x.fTo) rfl (by show s.steps < s.steps+1;omega)
theorem c2i(C:Cc L ns ars)(hT:0≤T){ex:Int}(G:Gok ex es){t:PT}(ht:XC t):Nm ns ars (uT t)→∀(a yes no:Int)(g:Gr)(σ:St)(s:RS),Un es T ((loT L t).co a yes no g)→Re L T ns ars scr k0 σ s→s.pt=a→Gs L T ns ars es scr k0 (cvT t σ) s (CoP L T ns ars scr k0 s yes no):=by
 induction ht with
 | tru=>
  intro _ a yes no g σ s hU hR hp
  rw [a6J] at hU
  exact b4e (a:=true) G (a5G G (x:=bareE a yes 1) hU.last.1 (show (1:Int)≠12 by decide) hp) (.inl rfl) hR fun σ' s' R p l=>⟨R,p,l⟩
 | fls=>
  intro _ a yes no g σ s hU hR hp
  rw [a6J] at hU
  exact b4e (a:=false) G (a5G G (x:=bareE a no 1) hU.last.1 (show (1:Int)≠12 by decide) hp) (.inl rfl) hR fun σ' s' R p l=>⟨R,p,l⟩
 | cmp op x y o0 o1 hx hy=>
  intro hu a yes no g σ s hU hR hp
  have hf:=b9y (es:=es) (scr:=scr) (k0:=k0) C hT G hx (hu.own.2.mem (by simp))
  have hh:=b9y (es:=es) (scr:=scr) (k0:=k0) C hT G hy (hu.own.2.mem (by simp))
  rw [a6J] at hU
  have hU:Un es T (asN L 3 op (twF L (loT L x) (loT L y) a 0 g).1 (twF L (loT L x) (loT L y) a 0 g).2.1 (twF L (loT L x) (loT L y) a 0 g).2.2.1 yes no (twF L (loT L x) (loT L y) a 0 g).2.2.2):=hU
  unfold asN at hU
  have m2:=hU.last.1
  have m1:=hU.last.2.last.1
  refine c2h (k:=fun v w=>bnd stepM fun _=>ret (cmpS op v w)) C hf hh (Int.le_refl 0) hU.last.2.last.2 hR hp fun v w σ1 s1 q1 R1 p1 v1 v2 k1=>?_
  have ht:=G.two _ m1 _ m2 rfl rfl rfl o0 o1 rfl rfl rfl s1.vars
  dsimp only at ht
  rw [v1,v2,← p1] at ht
  cases q:cmpS op v w
  ·rw [q,if_neg (by decide)] at ht
   exact b4e (a:=false) G ht (.inr rfl) R1 fun σ' s' R p l=>⟨R,p,by omega⟩
  ·rw [q,if_pos rfl] at ht
   exact b4e (a:=true) G ht (.inr rfl) R1 fun σ' s' R p l=>⟨R,p,by omega⟩
 | not c hc ih=>
  intro hu a yes no g σ s hU hR hp
  rw [a6J] at hU
  have ev:cvT (cX 4 0 [] [c])=bnd (cvT c) fun b=>ret !b:=by rw [b9z];rfl
  rw [ev]
  refine (ih (hu.own.2.mem (by simp)) a no yes g σ s hU hR hp).bnd fun b σ1 s1 q1 ⟨R1,p1,l1⟩=>?_
  refine Gs.now ⟨R1,?_,by omega⟩
  rw [p1]
  cases b<;>rfl
 | bin k x y hk hx hy ih1 ih2=>
  intro hu a yes no g σ s hU hR hp
  have h1:=ih1 (hu.own.2.mem (by simp))
  have h2:=ih2 (hu.own.2.mem (by simp))
  rw [a6J] at hU
  rcases hk with rfl | rfl
  ·have hU:Un es T ((loT L y).co g.p yes no ((loT L x).co a g.p no (frG g))):=hU
   have ev:cvT (cX 5 0 [] [x,y])=bnd (cvT x) fun b=>if b=true then cvT y else ret false:=by rw [b9z];rfl
   rw [ev]
   refine (h1 a g.p no (frG g) σ s (hU.of ((a4n L y).co ..)) hR hp).bnd fun b σ1 s1 q1 ⟨R1,p1,l1⟩=>?_
   cases b
   ·exact Gs.now ⟨R1,p1,by omega⟩
   ·exact (h2 g.p yes no _ σ1 s1 hU R1 p1).mono fun b σ2 s2 _ ⟨R2,p2,l2⟩=>⟨R2,p2,by omega⟩
  ·have hU:Un es T ((loT L y).co g.p yes no ((loT L x).co a yes g.p (frG g))):=hU
   have ev:cvT (cX 6 0 [] [x,y])=bnd (cvT x) fun b=>if b=true then ret true else cvT y:=by rw [b9z];rfl
   rw [ev]
   refine (h1 a yes g.p (frG g) σ s (hU.of ((a4n L y).co ..)) hR hp).bnd fun b σ1 s1 q1 ⟨R1,p1,l1⟩=>?_
   cases b
   ·exact (h2 g.p yes no _ σ1 s1 hU R1 p1).mono fun b σ2 s2 _ ⟨R2,p2,l2⟩=>⟨R2,p2,by omega⟩
   ·exact Gs.now ⟨R1,p1,by omega⟩
end
end Go.Proofs.YthaaobpfbgcfiaaGreatDoor
