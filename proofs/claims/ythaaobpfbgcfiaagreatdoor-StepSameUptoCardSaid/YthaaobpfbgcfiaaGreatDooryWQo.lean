/- The program's walk over nodes: what it meets, where it stops, which names; it is the document's. Contracts off the printed formulas. -/
import Derived.Test.YthaaobpfbgcfiaaGreatDooryWQ4
import Derived.Test.YthaaobpfbgcfiaaGreatDooryWO
namespace Go.Proofs.YthaaobpfbgcfiaaGreatDoor
open Go.RowKit
set_option maxRecDepth 100000
set_option maxHeartbeats 2000000
structure V where
 n:Int
 d:Int
 e:Int
 f:Bool
 m:Bool
 ns:List ByteArray
def V.w(v:V):p9:=⟨v.n,v.d,v.e,v.f,v.m,⟨none,0,0⟩⟩
def memS(l:List ByteArray)(s:ByteArray):Bool:=l.any fun x=>decide (s=x)
theorem a2S{l:List ByteArray}{s:ByteArray}:memS l s=true↔s∈l:=by
 unfold memS;rw [List.any_eq_true]
 constructor
 ·rintro ⟨x,hx,e⟩;rw [of_decide_eq_true e];exact hx
 ·exact fun h=>⟨s,h,decide_eq_true rfl⟩
def putS(l:List ByteArray)(s:ByteArray):List ByteArray:=if memS l s=true then l else l++[s]
def vMeet(v:V)(l:Lab)(d:Int):Bool×V:=
 if 4096 < v.n+1 then (false,⟨v.n+1,v.d,33,v.f,v.m,v.ns⟩)
 else if 64 < d then (false,⟨v.n+1,v.d,32,v.f,v.m,v.ns⟩)
 else (true,⟨v.n+1,if d > v.d then d else v.d,v.e,v.f || !formL l,if (nameL l).2=true then v.m || !nameS (nameL l).1 else v.m,if (nameL l).2=true then putS v.ns (nameL l).1 else v.ns⟩)
mutual
def vT:PT→Int→V→Bool×V
 | .mk l cs,d,v=>if (vMeet v l d).1=true then vTs cs (d+1) (vMeet v l d).2 else vMeet v l d
def vTs:List PT→Int→V→Bool×V
 | [],_,v=>(true,v)
 | t::ts,d,v=>if (vT t d v).1=true then vTs ts d (vT t d v).2 else vT t d v
end
def vok(v:V):Prop:=0≤v.n∧v.n≤4096∧(v.ns.length:Int)≤v.n
theorem c4Z(l:List ByteArray)(s:ByteArray):(putS l s).length≤l.length+1:=by
 unfold putS;split
 ·omega
 ·rw [List.length_append];exact Nat.le_refl _
theorem b8O{v:V}{l:Lab}{d:Int}(h:vok v)(ht:(vMeet v l d).1=true):vok (vMeet v l d).2:=by
 unfold vMeet at ht ⊢
 unfold vok at h
 split
 ·rw [if_pos (by assumption)] at ht;cases ht
 ·rw [if_neg (by assumption)] at ht
  split
  ·rw [if_pos (by assumption)] at ht;cases ht
  ·refine ⟨by dsimp only;omega,by dsimp only;omega,?_⟩
   dsimp only
   have:=c4Z v.ns (nameL l).1
   split<;>omega
mutual
theorem c6O:∀(t:PT)(d:Int)(v:V),vok v→(vT t d v).1=true→vok (vT t d v).2
 | .mk l cs,d,v,h,ht=>by
  rw [vT] at ht ⊢
  split
  ·rename_i hm
   rw [if_pos hm] at ht
   exact c3J cs _ _ (b8O h hm) ht
  ·rename_i hm
   rw [if_neg hm] at ht;exact (hm ht).elim
theorem c3J:∀(ts:List PT)(d:Int)(v:V),vok v→(vTs ts d v).1=true→vok (vTs ts d v).2
 | [],_,v,h,_=>by rw [vTs];exact h
 | t::ts,d,v,h,ht=>by
  rw [vTs] at ht ⊢
  split
  ·rename_i hm
   rw [if_pos hm] at ht
   exact c3J ts d _ (c6O t d v h hm) ht
  ·rename_i hm
   rw [if_neg hm] at ht;exact (hm ht).elim
end
abbrev sml:Nat:=1048576
def numL:Lab→Int
 | .expr _ n _ _=>n
 | _=>0
def smL(l:Lab):Prop:=(nameL l).1.size≤sml∧o8 (numL l)
instance (l:Lab):Decidable (smL l):=by unfold smL;infer_instance
theorem z64:o8 0:=by decide
inductive Sm:PT→Prop
 | mk {l:Lab} {cs:List PT}:smL l→(∀t∈cs,Sm t)→Sm (.mk l cs)
section
variable {H:Hp}
theorem c5a{l:List ByteArray}(hl:l.length≤big){s:ByteArray}{K:Int→Hp→Prop}(h1:∀i:Int,0≤i→s∈l→K i H)(h2:¬s∈l→K (-1) H):a0M l s H K:=by
 refine a8i _ _ ?_
 unfold a3A
 refine Z2 (fun(i:Int) H'=>0≤i∧i≤l.length∧H'=H∧∀(j:Nat)(x:ByteArray),(j:Int) < i→l[j]? = some x→s≠x) (fun i=>(l.length-i).toNat) ⟨Int.le_refl _,by omega,rfl,fun j x hj=>by omega⟩ ?_
 rintro i H1 next ⟨i0,i1,rfl,hi⟩ hn
 unfold a2v
 refine ⟨fun hc=>?_,fun hc=>?_⟩
 ·obtain ⟨x,hx⟩:=y7 (l:=l) (i:=i.toNat) (by omega)
  refine ⟨i0,x,hx,fun e=>h1 i i0 ?_,fun e=>?_⟩
  ·subst e;exact List.mem_of_getElem? hx
  ·rw [D6 i0 (by simp only [big] at hl;omega)]
   refine hn _ _ ⟨by omega,by omega,rfl,fun j y hj hy=>?_⟩ (by omega)
   by_cases ej:j=i.toNat
   ·subst ej;rw [hx] at hy;cases hy;exact e
   ·exact hi j y (by omega) hy
 ·unfold a0b
  refine h2 fun hm=>?_
  obtain ⟨j,hj⟩:=List.mem_iff_getElem?.1 hm
  exact hi j s (by have:=C3 hj;omega) hj rfl
theorem b9X{l:List ByteArray}(hl:l.length≤big){s:ByteArray}{K:Bool→Hp→Prop}(h:K (memS l s) H):R8 l s H K:=by
 refine a7j _ _ ?_
 unfold a2w
 refine c5a hl (fun i i0 hm=>?_) fun hm=>?_
 ·rw [a2S.2 hm] at h;rw [decide_eq_true i0];exact h
 ·rw [Bool.eq_false_iff.2 fun e=>hm (a2S.1 e)] at h;exact h
theorem c5b(hT:TabsH H){v:V}(hv:vok v){x:d9}{t:PT}(hx:NH H x t)(hs:(nameL t.lab).1.size≤big){d:Int}{K:Bool→p9→List ByteArray→Hp→Prop}(h:K (vMeet v t.lab d).1 (vMeet v t.lab d).2.w (vMeet v t.lab d).2.ns H):a1w v.w v.ns x d H K:=by
 refine a9j _ _ _ _ ?_
 unfold a4A
 unfold vok at hv
 have e1:IntKind.wrap .i64 (v.w.fnodes+1)=v.n+1:=D6 hv.1 (show v.n≤_ by omega)
 rw [e1]
 unfold vMeet at h
 refine ⟨fun hc=>by rw [if_pos hc] at h;exact h,fun hc=>?_⟩
 rw [if_neg hc] at h
 refine ⟨fun hd=>by rw [if_pos hd] at h;exact h,fun hd=>?_⟩
 rw [if_neg hd] at h
 refine a0F (formL t.lab) (fun _ K' hk=>c8k hx hk) (c0L hx ?_)
 have ef:(v.w.fform || !(if v.w.fform=false then formL t.lab else false))=(v.f || !formL t.lab):=by
  show (v.f || !(if v.f=false then formL t.lab else false))=_
  cases v.f<;>rfl
 rw [ef]
 refine ⟨fun hn=>?_,fun hn=>?_⟩
 ·rw [if_pos hn,if_pos hn] at h
  refine a0F (nameS (nameL t.lab).1) (fun _ K' hk=>c8i hT hs hk) (b9X (by simp only [big];omega) ?_)
  have em:(v.w.fnamed || !(if v.w.fnamed=false then nameS (nameL t.lab).1 else false))=(v.m || !nameS (nameL t.lab).1):=by
   show (v.m || !(if v.m=false then nameS (nameL t.lab).1 else false))=_
   cases v.m<;>rfl
  rw [em]
  unfold putS at h
  refine ⟨fun hc=>?_,fun hc=>?_⟩
  ·have hc':¬memS v.ns (nameL t.lab).1=true:=by simpa using hc
   rw [if_neg hc'] at h
   exact ⟨by simp only [List.length_cons,List.length_nil];omega,h⟩
  ·have hc':memS v.ns (nameL t.lab).1=true:=by simpa using hc
   rw [if_pos hc'] at h
   exact h
 ·simp only [hn,Bool.false_eq_true,if_false] at h
  exact h
def WalkP(ts:List PT):Prop:=∀(s:Sl)(d:Int)(v:V)(H:Hp)(xs:List d9)(K:Bool→p9→List ByteArray→Hp→Prop),TabsH H→SlH H 1 v8 s xs→K4 (NH H) xs ts→ts.length≤4*big→(∀t∈ts,Sm t)→vok v→0≤d→d≤65→
 (∀H',Hle H H'→K (vTs ts d v).1 (vTs ts d v).2.w (vTs ts d v).2.ns H')→W2 s d v.w v.ns H K
theorem b7v{ts:List PT}(ih:∀t∈ts,WalkP t.kids):WalkP ts:=by
 intro s d v H xs K hT hS hr hb hsm hv d0 d1 h
 refine b1u _ _ _ _ ?_
 unfold a6G
 have n1:=hS.1;have r1:=hr.1
 refine Z2 (fun(z:Int×Int×Int×Int×Bool×Bool×List ByteArray) H'=>∃u:V,z=(z.1,u.n,u.d,u.e,u.f,u.m,u.ns)∧0≤z.1∧z.1≤ts.length∧Hle H H'∧vok u∧vTs ts d v=vTs (ts.drop z.1.toNat) d u) (fun z=>(ts.length-z.1).toNat) ⟨v,rfl,Int.le_refl _,by simp,Hle.refl _,hv,rfl⟩ ?_
 rintro ⟨i,z⟩ H1 next ⟨u,hz,i0,i1,l1,hu,he⟩ hn
 dsimp only at i0 i1 he hz ⊢
 cases hz
 unfold a1S
 dsimp only
 refine ⟨fun hc=>?_,fun hc=>?_⟩
 ·obtain ⟨x,hx,hE⟩:=(hS.le l1).get i0 hc
  obtain ⟨t,ht,hN⟩:=hr.get hx
  have hlt:=C3 ht
  have htm:=List.mem_of_getElem? ht
  have hdrop:ts.drop i.toNat=t::ts.drop (i.toNat+1):=by
   rw [List.drop_eq_getElem_cons hlt];congr 1
   rw [List.getElem?_eq_getElem hlt] at ht;exact Option.some.inj ht
  have hst:=hsm t htm
  have hsz:(nameL t.lab).1.size≤big:=by
   cases hst with
   | mk h1 h2=>exact Nat.le_trans h1.1 (by decide)
  have hsk:∀c∈t.kids,Sm c:=by cases hst;assumption
  rw [hdrop,vTs] at he
  refine ⟨i0,hc,x,hE,c5b (hT.le l1) (v:=u) hu (hN.le l1) hsz ?_⟩
  have hvt:vT t d u=if (vMeet u t.lab d).1=true then vTs t.kids (d+1) (vMeet u t.lab d).2 else vMeet u t.lab d:=by
   cases t;rw [vT];rfl
  by_cases hm:(vMeet u t.lab d).1=true
  ·rw [if_pos hm] at hvt
   have d64:d≤64:=by
    unfold vMeet at hm
    split at hm
    ·cases hm
    ·split at hm
     ·cases hm
     ·omega
   rw [hm]
   refine ⟨fun _=>c4Y (hN.le l1) fun r H2 ns l2 hS2 hr2 hk2=>?_,fun q=>(q rfl).elim⟩
   refine ⟨fun _=>?_,fun q=>(q rfl).elim⟩
   rw [D6 d0 (by omega)]
   refine ih t htm r (d+1) _ H2 ns _ (hT.le (l1.trans l2)) hS2 hr2 hk2 hsk (b8O hu hm) (by omega) (by omega) fun H3 l3=>?_
   rw [←hvt]
   by_cases hq:(vT t d u).1=true
   ·rw [if_pos hq] at he
    rw [hq]
    refine ⟨fun q=>(by cases q),fun _=>?_⟩
    rw [Y2 (a:=i+1) ⟨by omega,by simp only [big] at hb;omega⟩]
    refine hn _ _ ⟨(vT t d u).2,rfl,by dsimp only;omega,by dsimp only;omega,l1.trans (l2.trans l3),c6O t d u hu hq,?_⟩ (by dsimp only;omega)
    dsimp only
    rw [show (i+1).toNat=i.toNat+1 by omega];exact he
   ·rw [if_neg hq] at he
    have h':=h H3 (l1.trans (l2.trans l3))
    rw [he] at h'
    have hq':=Bool.eq_false_iff.2 hq
    rw [hq'] at h' ⊢
    exact ⟨fun _=>h',fun q=>(by cases q)⟩
  ·rw [if_neg hm] at hvt
   rw [hvt,if_neg hm] at he
   have hm':=Bool.eq_false_iff.2 hm
   have h':=h H1 l1
   rw [he] at h'
   rw [hm'] at h' ⊢
   refine ⟨fun q=>(by cases q),fun _=>⟨fun q=>(by cases q),fun _=>⟨fun _=>h',fun q=>(by cases q)⟩⟩⟩
 ·rw [List.drop_eq_nil_of_le (by omega),vTs] at he
  unfold a1R
  have h':=h H1 l1
  rw [he] at h'
  exact h'
end
mutual
theorem c3K:∀t:PT,WalkP t.kids
 | .mk _ cs=>b7v (b5r cs)
theorem b5r:∀(ts:List PT),∀t∈ts,WalkP t.kids
 | [],_,h=>by cases h
 | t::ts,u,h=>by
  cases List.mem_cons.1 h with
  | inl e=>rw [e];exact c3K t
  | inr h=>exact b5r ts u h
end
theorem c8l(ts:List PT):WalkP ts:=b7v (b5r ts)
def v0:V:=⟨0,0,0,false,false,[]⟩
def vEnd(r:Bool×V):Int:=if r.1=true then (if r.2.f=true then 30 else if r.2.m=true then 31 else r.2.e) else r.2.e
section
variable {H:Hp}
theorem c3L(hT:TabsH H){s:Sl}{xs:List d9}{ts:List PT}(hS:SlH H 1 v8 s xs)(hr:K4 (NH H) xs ts)(hb:ts.length≤4*big)(hsm:∀t∈ts,Sm t){K:p9→Hp→Prop}
  (h:∀(sl:Sl)(H':Hp),Hle H H'→SlH H' 1 C8 sl (vTs ts 1 v0).2.ns→K ⟨(vTs ts 1 v0).2.n,(vTs ts 1 v0).2.d,vEnd (vTs ts 1 v0),(vTs ts 1 v0).2.f,(vTs ts 1 v0).2.m,sl⟩ H'):a3Y s H K:=by
 refine b2A _ ?_
 unfold a7x
 refine c8l ts s 1 v0 H xs _ hT hS hr hb hsm ⟨by decide,by decide,by decide⟩ (by decide) (by decide) fun H1 l1=>?_
 generalize hq:vTs ts 1 v0=q at h ⊢
 obtain ⟨b,u⟩:=q
 dsimp only [V.w] at h ⊢
 unfold vEnd at h
 dsimp only at h
 cases b
 ·refine ⟨fun _=>?_,fun q=>(by cases q)⟩
  unfold N5
  intro sl H2 l2 hS2 hc
  exact h sl H2 (l1.trans l2) hS2
 ·refine ⟨fun q=>(by cases q),fun _=>⟨fun hf=>?_,fun hf=>⟨fun hm=>?_,fun hm=>?_⟩⟩⟩
  all_goals
   unfold N5
   intro sl H2 l2 hS2 hc
   have h':=h sl H2 (l1.trans l2) hS2
   rw [if_pos rfl] at h'
  ·rw [if_pos hf] at h';exact h'
  ·rw [if_neg (by rw [hf];decide),if_pos hm] at h';exact h'
  ·rw [if_neg (by rw [hf];decide),if_neg (by rw [hm];decide)] at h';exact h'
theorem K4.d4U{α β γ δ:Type}{R:γ→δ→Prop}{f:α→γ}{g:β→δ}{xs:List α}{ys:List β}(h:K4 (fun x y=>R (f x) (g y)) xs ys):K4 R (xs.map f) (ys.map g):=by
 refine ⟨by rw [List.length_map,List.length_map];exact h.1,fun i x y hx hy=>?_⟩
 rw [List.getElem?_map,Option.map_eq_some_iff] at hx hy
 obtain ⟨a,ha,rfl⟩:=hx
 obtain ⟨b,hb,rfl⟩:=hy
 exact h.2 i a b ha hb
def allV(q:PP):Bool×V:=vTs q.nodes 1 v0
def PP.Sm(q:PP):Prop:=∀t∈q.nodes,Go.Proofs.YthaaobpfbgcfiaaGreatDoor.Sm t
theorem d1K(hT:TabsH H){p:z8}{q:PP}(hp:PH H p q)(hsm:q.Sm){K:p9→Hp→Prop}
  (h:∀(sl:Sl)(H':Hp),Hle H H'→SlH H' 1 C8 sl (allV q).2.ns→K ⟨(allV q).2.n,(allV q).2.d,vEnd (allV q),(allV q).2.f,(allV q).2.m,sl⟩ H'):a6y p H K:=by
 refine b4G _ ?_
 unfold a9t
 obtain ⟨hd,hbd,xs,hsl,hb,hr⟩:=hp
 refine b9W hd hbd fun r1 H1 l1 hS1=>?_
 refine b1w (hsl.le l1) hb fun r2 H2 l2 hS2=>?_
 intro s H3 l3 hS hc
 have r0:=hr.1
 refine b3R hS (nss:=[_,_]) ((K4.one (hS1.le (l2.trans l3))).app (K4.one (hS2.le l3))) ?_ (by simp [big]) fun r H4 l4 hS4=>?_
 ·simp only [List.flatten_cons,List.flatten_nil,List.append_nil,List.length_append,List.length_map];simp only [big] at hb hbd;omega
 simp only [List.flatten_cons,List.flatten_nil,List.append_nil] at hS4
 have l14:=l1.trans (l2.trans (l3.trans l4))
 refine c3L (hT.le l14) hS4 (ts:=q.nodes) ?_ ?_ hsm fun sl H5 l5 hS5=>h sl H5 (l14.trans l5) hS5
 ·refine K4.app (K4.d4U (R:=NH H4) (f:=fun x=>.M5 ⟨x⟩) (g:=dT) ⟨rfl,fun i a b ha hb=>?_⟩) (K4.map (R:=NH H4) (f:=fun x=>.K6 ⟨x⟩) (hr.mono fun _ _=>SH.le l14))
  rw [ha] at hb;cases hb;rfl
 ·unfold PP.nodes;rw [List.length_append,List.length_map];omega
theorem c5c(hT:TabsH H){p:z8}{q:PP}(hp:PH H p q)(hsm:q.Sm){K:Int→Hp→Prop}(h:∀H',Hle H H'→K (vEnd (allV q)) H'):a4H p H K:=by
 refine b3l _ ?_
 unfold a7U
 exact d1K hT hp hsm fun sl H' l hS=>h H' l
end
def SimR(r:Bool×V)(s:W):Prop:=(r.1=true→s=⟨r.2.n,r.2.d,0⟩∧r.2.e=0∧0≤r.2.n∧r.2.n≤4096)∧(r.1=false→s.fbad=r.2.e∧(r.2.e=32∨r.2.e=33))
theorem c5d{v:V}(he:v.e=0)(h0:0≤v.n)(hn:v.n≤4096)(l:Lab)(d:Int):SimR (vMeet v l d) (wStep ⟨v.n,v.d,0⟩ d):=by
 unfold vMeet wStep
 rw [if_pos rfl]
 by_cases h1:4096 < v.n+1
 ·rw [if_pos h1,if_pos (show v.n=4096 by omega)]
  exact ⟨fun q=>(by cases q),fun _=>⟨rfl,.inr rfl⟩⟩
 ·rw [if_neg h1,if_neg (show ¬v.n=4096 by omega)]
  by_cases h2:64 < d
  ·rw [if_pos h2,if_pos h2]
   exact ⟨fun q=>(by cases q),fun _=>⟨rfl,.inl rfl⟩⟩
  ·rw [if_neg h2,if_neg h2]
   exact ⟨fun _=>⟨rfl,he,by dsimp only;omega,by dsimp only;omega⟩,fun q=>(by cases q)⟩
mutual
theorem d3l:∀(t:PT)(d:Int)(v:V),v.e=0→0≤v.n→v.n≤4096→SimR (vT t d v) (wT t d ⟨v.n,v.d,0⟩)
 | .mk l cs,d,v,he,h0,hn=>by
  have hm:=c5d he h0 hn l d
  rw [vT,wT]
  by_cases hq:(vMeet v l d).1=true
  ·rw [if_pos hq]
   obtain ⟨h1,h2,h3,h4⟩:=hm.1 hq
   rw [h1]
   exact b8P cs (d+1) _ h2 h3 h4
  ·rw [if_neg hq]
   have hq':=Bool.eq_false_iff.2 hq
   obtain ⟨h1,h2⟩:=hm.2 hq'
   rw [a5X _ _ _ (by rw [h1];omega)]
   exact ⟨fun q=>(hq q).elim,fun _=>⟨h1,h2⟩⟩
theorem b8P:∀(ts:List PT)(d:Int)(v:V),v.e=0→0≤v.n→v.n≤4096→SimR (vTs ts d v) (wTs ts d ⟨v.n,v.d,0⟩)
 | [],d,v,he,h0,hn=>by
  rw [vTs,wTs]
  exact ⟨fun _=>⟨rfl,he,h0,hn⟩,fun q=>(by cases q)⟩
 | t::ts,d,v,he,h0,hn=>by
  have hm:=d3l t d v he h0 hn
  rw [vTs,wTs]
  by_cases hq:(vT t d v).1=true
  ·rw [if_pos hq]
   obtain ⟨h1,h2,h3,h4⟩:=hm.1 hq
   rw [h1]
   exact b8P ts d _ h2 h3 h4
  ·rw [if_neg hq]
   have hq':=Bool.eq_false_iff.2 hq
   obtain ⟨h1,h2⟩:=hm.2 hq'
   rw [a5X _ _ _ (by rw [h1];omega)]
   exact ⟨fun q=>(hq q).elim,fun _=>⟨h1,h2⟩⟩
end
theorem c6P(ts:List PT):SimR (vTs ts 1 v0) (wTs ts 1 w0S):=b8P ts 1 v0 rfl (by decide) (by decide)
section
variable {H:Hp}
end
end Go.Proofs.YthaaobpfbgcfiaaGreatDoor
namespace Go.Proofs.YthaaobpfbgcfiaaGreatDoor
open Go.RowKit Go.ChangeShapes
set_option maxRecDepth 100000
theorem a8R{α:Type}{R:α→PT→Prop}:∀xs:List α,(∀a∈xs,∃t,R a t∧Sm t)→∃ts,K4 R xs ts∧∀t∈ts,Sm t
 | [],_=>⟨[],K4.nil,fun t h=>by cases h⟩
 | a::xs,h=>by
  obtain ⟨t,h1,h2⟩:=h a List.mem_cons_self
  obtain ⟨ts,h3,h4⟩:=a8R xs fun b hb=>h b (List.mem_cons_of_mem _ hb)
  refine ⟨t::ts,(K4.one h1).app h3,fun u hu=>?_⟩
  rcases List.mem_cons.1 hu with e | hu
  ·rw [e];exact h2
  ·exact h4 u hu
section
variable {Hd:Type}{enc:TypeId×Value→Hd}{P:Program}{W:World}
theorem a4k{α:Type}{t e:TypeId}{sz:Nat}(ht:P.underlying t=some (.slice e))(hs:P.cellsOf e=sz)(h0:0 < sz)(cf:α→List Value)(Good:α→Prop)
  {n:Nat} {cs:List Value} {x:DataW Hd×List MemPlace} (h:DataW.trod enc P W 0 (fun _=>true) true n t cs=some x)
  (oe:∀n cs y,Rows.uptoBulk y.1 < Rows.uptoBulk x.1→DataW.trod enc P W 0 (fun _=>true) true n e cs=some y→∃a,cs=cf a∧Good a):
  ∃(s:Sl)(xs:List α),cs=[.slice s.a s.n s.c]∧SlH (hpW W) sz cf s xs∧s.n≤s.c∧xs.length≤Rows.uptoBulk x.1∧∀a∈xs,Good a:=by
 rcases Deep.open_slice ht h with ⟨rfl,rfl⟩ | ⟨a,len,cap,m,n',D,Pl,rfl,_,hl,_,hm,rfl,hx⟩
 ·exact ⟨⟨none,0,0⟩,[],rfl,SlH.nil _ _ _,Nat.le_refl _,Nat.zero_le _,fun a h=>by cases h⟩
 simp only [if_true] at hm
 subst hm
 rw [hs] at hx
 have hsm:∀k,k < len→Rows.uptoBulk (D k) < Rows.uptoBulk (DataW.slice ((List.range len).map D) ((List.range (m-len)).map fun j=>D (len+j))):=fun k hk=>by
  have:=b4Z (List.mem_map.2 ⟨k,List.mem_range.2 hk,rfl⟩:D k∈(List.range len).map D)
  simp only [Rows.uptoBulk]
  omega
 have key:∀k,k≤len→∃xs:List α,xs.length=k∧∀i b,xs[i]? = some b→AtH (hpW W) a.block (a.off+i*sz) (cf b)∧(i=0→a.spot=none)∧Good b:=by
  intro k
  induction k with
  | zero=>exact fun _=>⟨[],rfl,fun i b h=>by simp at h⟩
  | succ k ih=>
   intro hk
   obtain ⟨xs,hxl,hxs⟩:=ih (by omega)
   obtain ⟨cs',h1,h2⟩:=hx k (by omega)
   obtain ⟨b,rfl,hb⟩:=oe _ _ _ (hsm k (by omega)) h2
   obtain ⟨hA,hsp⟩:=d2F h0 h1
   refine ⟨xs++[b],by simp [hxl],fun i c hc=>?_⟩
   by_cases hi:i < xs.length
   ·rw [List.getElem?_append_left hi] at hc;exact hxs i c hc
   ·rw [List.getElem?_append_right (by omega)] at hc
    have:i-xs.length=0:=by
     by_cases hz:i-xs.length=0
     ·exact hz
     ·rw [List.getElem?_eq_none (by simp;omega)] at hc;cases hc
    rw [this] at hc
    simp at hc;subst hc
    obtain rfl:i=k:=by omega
    exact ⟨hA,fun hz=>hsp (by rw [hz];simp),hb⟩
 obtain ⟨xs,hxl,hxs⟩:=key len (Nat.le_refl _)
 have hbl:len≤Rows.uptoBulkAll ((List.range len).map D):=by have:=b8o ((List.range len).map D);simpa using this
 refine ⟨⟨some a,len,_⟩,xs,rfl,⟨hxl.symm,fun i b hb=>?_⟩,hl,?_,fun b hb=>?_⟩
 ·obtain ⟨hA,_,_⟩:=hxs i b hb
  have hi:i < len:=by rw [←hxl];exact (List.getElem?_eq_some_iff.1 hb).1
  have hsp:a.spot=none:=by
   have h00:0 < xs.length:=by omega
   exact (hxs 0 xs[0] (List.getElem?_eq_getElem h00)).2.1 rfl
  refine ⟨a.block,a.off,?_,?_⟩
  ·show some a=_
   cases a;simp at hsp;subst hsp;rfl
  ·rw [Int.toNat_natCast];exact hA
 ·show xs.length≤Rows.uptoBulk (.slice _ _)
  simp only [Rows.uptoBulk]
  omega
 ·obtain ⟨i,hi,rfl⟩:=List.mem_iff_getElem.1 hb
  exact (hxs i _ (List.getElem?_eq_getElem hi)).2.2
theorem a6I{t:TypeId}{fs:Array Field}(ht:P.underlying t=some (.struct fs)){n:Nat}{cs:List Value}{x:DataW Hd×List MemPlace}(h:DataW.trod enc P W 0 (fun _=>true) true n t cs=some x):
  cs.length=P.cellsOf t∧∃m,∀(i:Nat)(f:Field),fs[i]? = some f→∃y,DataW.trod enc P W 0 (fun _=>true) true m f.type ((cs.drop f.offset).take (P.cellsOf f.type))=some y∧Rows.uptoBulk y.1 < Rows.uptoBulk x.1:=by
 obtain ⟨xs,m,_,rfl,hl,hxl,hg⟩:=DataW.trod_struct ht h
 refine ⟨hl,m,fun i f hf=>?_⟩
 have hi:i < xs.length:=by rw [hxl];exact (Array.getElem?_eq_some_iff.1 hf).1
 refine ⟨xs[i],by rw [hg i f hf,List.getElem?_eq_getElem hi],?_⟩
 have:=b4Z (List.mem_map.2 ⟨xs[i],List.getElem_mem hi,rfl⟩:xs[i].1∈xs.map (·.1))
 show _ < Rows.uptoBulk (.agg _)
 simp only [Rows.uptoBulk]
 omega
end
section
variable {Hd:Type}{enc:TypeId×Value→Hd}{W:World}
theorem b1O{t:TypeId}(ht:Tryz.prog.underlying t=some (.int .i64))(hc:Tryz.prog.cellsOf t=1){n:Nat}{l:List Value}{x:DataW Hd×List MemPlace}(h:DataW.trod enc Tryz.prog W 0 (fun _=>true) true n t (l.take (Tryz.prog.cellsOf t))=some x):∃z:Int,l.take 1=[.int .i64 z]∧o8 z:=by
 rw [hc] at h
 obtain ⟨z,hz,a,b⟩:=c0m ht h
 exact ⟨z,hz,a,b⟩
theorem fldk{t k:Nat}(hc:Tryz.prog.cellsOf t=k){n:Nat}{l:List Value}{x:DataW Hd×List MemPlace}(h:DataW.trod enc Tryz.prog W 0 (fun _=>true) true n t (l.take (Tryz.prog.cellsOf t))=some x):DataW.trod enc Tryz.prog W 0 (fun _=>true) true n t (l.take k)=some x:=by rwa [hc] at h
theorem i3:Tryz.prog.underlying 3=some (.int .i64):=Tryz.underlying3
theorem i2:Tryz.prog.underlying 2=some (.int .i64):=Tryz.underlying2
theorem ce3:Tryz.prog.cellsOf 3=1:=by kernel_rfl
theorem ce2:Tryz.prog.cellsOf 2=1:=by kernel_rfl
theorem ceS:Tryz.prog.cellsOf 9=1:=by kernel_rfl
theorem ceE:Tryz.prog.cellsOf 101=1:=by kernel_rfl
theorem ceC:Tryz.prog.cellsOf 102=1:=by kernel_rfl
theorem ceT:Tryz.prog.cellsOf 23=1:=by kernel_rfl
theorem ceD:Tryz.prog.cellsOf 22=1:=by kernel_rfl
theorem b8Q{n:Nat}{l:List Value}{x:DataW Hd×List MemPlace}(h:DataW.trod enc Tryz.prog W 0 (fun _=>true) true n 9 (l.take (Tryz.prog.cellsOf 9))=some x):∃s:ByteArray,l.take 1=[.string s]∧s.size < Rows.uptoBulk x.1:=by
 rw [ceS] at h
 exact c1m Tryz.underlying9 h
theorem c3M{n:Nat}{cs:List Value}{x:DataW Hd×List MemPlace}(h:DataW.trod enc Tryz.prog W 0 (fun _=>true) true n 58 cs=some x):∃d:j7,cs=m3 d∧o8 d.C1∧d.f8.size < Rows.uptoBulk x.1:=by
 obtain ⟨hl,m,g⟩:=a6I Tryz.underlying58 h
 rw [show Tryz.prog.cellsOf 58=2 by kernel_rfl] at hl
 match cs,hl with
 | [a,b],_=>
 obtain ⟨_,h0,b0⟩:=g 0 _ rfl
 obtain ⟨_,h1,_⟩:=g 1 _ rfl
 obtain ⟨s,q0,l0⟩:=b8Q (l:=[a,b]) h0
 obtain ⟨z1,q1,r1⟩:=b1O (l:=[b]) i3 ce3 h1
 simp at q0 q1
 subst q0;subst q1
 exact ⟨⟨s,z1⟩,rfl,r1,by dsimp only;omega⟩
theorem c3N:∀(b:Nat),b≤1048576→∀{n:Nat}{cs:List Value}{x:DataW Hd×List MemPlace},Rows.uptoBulk x.1≤b→DataW.trod enc Tryz.prog W 0 (fun _=>true) true n 125 cs=some x→∃e:q8,cs=j9 e∧∃t,EH (hpW W) e t∧Sm t:=by
 intro b
 induction b with
 | zero=>intro _ n cs x hx;have:=b2i x.1;omega
 | succ b ih=>
  intro hb n cs x hx h
  obtain ⟨hl,m,g⟩:=a6I Tryz.underlying125 h
  rw [show Tryz.prog.cellsOf 125=4 by kernel_rfl] at hl
  match cs,hl with
  | [a0,a1,a2,a3],_=>
  obtain ⟨_,h0,_⟩:=g 0 _ rfl
  obtain ⟨_,h1,_⟩:=g 1 _ rfl
  obtain ⟨y2,h2,l2⟩:=g 2 _ rfl
  obtain ⟨y3,h3,l3⟩:=g 3 _ rfl
  obtain ⟨z0,q0,_⟩:=b1O (l:=[a0,a1,a2,a3]) i3 ce3 h0
  obtain ⟨z1,q1,r1⟩:=b1O (l:=[a1,a2,a3]) i2 ce2 h1
  obtain ⟨s2,q2,r2⟩:=b8Q (l:=[a2,a3]) h2
  obtain ⟨s3,xs,q3,hS,_,hlen,hg⟩:=a4k Tryz.underlying101 (show Tryz.prog.cellsOf 125=4 by kernel_rfl) (by decide) j9 (fun e=>∃t,EH (hpW W) e t∧Sm t) (fldk (l:=[a3]) ceE h3) (fun n cs y hy h=>ih (by omega) (by omega) h)
  simp at q0 q1 q2 q3
  subst q0;subst q1;subst q2;subst q3
  obtain ⟨ts,hr,hsm⟩:=a8R xs hg
  exact ⟨⟨z0,z1,s2,s3⟩,rfl,_,EH.mk (e:=⟨z0,z1,s2,s3⟩) hS (by simp only [big];omega) hr.1 hr.2,.mk ⟨by show s2.size≤sml;simp only [sml];omega,r1⟩ hsm⟩
theorem b6d{b:Nat}(hb:b≤1048576){n:Nat}{cs:List Value}{x:DataW Hd×List MemPlace}(hx:Rows.uptoBulk x.1≤b)(h:DataW.trod enc Tryz.prog W 0 (fun _=>true) true n 101 cs=some x):
  ∃(s:Sl)(xs:List q8)(ts:List PT),cs=[.slice s.a s.n s.c]∧SlH (hpW W) 4 j9 s xs∧xs.length≤big∧K4 (EH (hpW W)) xs ts∧∀t∈ts,Sm t:=by
 obtain ⟨s3,xs,q3,hS,_,hlen,hg⟩:=a4k Tryz.underlying101 (show Tryz.prog.cellsOf 125=4 by kernel_rfl) (by decide) j9 (fun e=>∃t,EH (hpW W) e t∧Sm t) h (fun n cs y hy h=>c3N b hb (by omega) h)
 obtain ⟨ts,hr,hsm⟩:=a8R xs hg
 exact ⟨s3,xs,ts,q3,hS,by simp only [big];omega,hr,hsm⟩
theorem b1P{a b:List PT}(ha:∀t∈a,Sm t)(hb:∀t∈b,Sm t):∀t∈a++b,Sm t:=fun t h=>(List.mem_append.1 h).elim (ha t) (hb t)
theorem c3O:(⟨#[]⟩:ByteArray).size≤sml:=by decide
theorem c3P:∀(b:Nat),b≤1048576→∀{n:Nat}{cs:List Value}{x:DataW Hd×List MemPlace},Rows.uptoBulk x.1≤b→DataW.trod enc Tryz.prog W 0 (fun _=>true) true n 122 cs=some x→∃e:y9,cs=p5 e∧∃t,CH (hpW W) e t∧Sm t:=by
 intro b
 induction b with
 | zero=>intro _ n cs x hx;have:=b2i x.1;omega
 | succ b ih=>
  intro hb n cs x hx h
  obtain ⟨hl,m,g⟩:=a6I Tryz.underlying122 h
  rw [show Tryz.prog.cellsOf 122=4 by kernel_rfl] at hl
  match cs,hl with
  | [a0,a1,a2,a3],_=>
  obtain ⟨_,h0,_⟩:=g 0 _ rfl
  obtain ⟨_,h1,_⟩:=g 1 _ rfl
  obtain ⟨y2,h2,l2⟩:=g 2 _ rfl
  obtain ⟨y3,h3,l3⟩:=g 3 _ rfl
  obtain ⟨z0,q0,_⟩:=b1O (l:=[a0,a1,a2,a3]) i3 ce3 h0
  obtain ⟨z1,q1,r1⟩:=b1O (l:=[a1,a2,a3]) i3 ce3 h1
  obtain ⟨s2,xs,ts,q2,hE,hEl,hEr,hEs⟩:=b6d (b:=b+1) hb (by omega) (fldk (l:=[a2,a3]) ceE h2)
  obtain ⟨s3,ys,q3,hS,_,hlen,hg⟩:=a4k Tryz.underlying102 (show Tryz.prog.cellsOf 122=4 by kernel_rfl) (by decide) p5 (fun e=>∃t,CH (hpW W) e t∧Sm t) (fldk (l:=[a3]) ceC h3) (fun n cs y hy h=>ih (by omega) (by omega) h)
  simp at q0 q1 q2 q3
  subst q0;subst q1;subst q2;subst q3
  obtain ⟨us,hr,hsm⟩:=a8R ys hg
  exact ⟨⟨z0,z1,s2,s3⟩,rfl,_,CH.mk (c:=⟨z0,z1,s2,s3⟩) hE hEl hEr hS (by simp only [big];omega) hr.1 hr.2,.mk ⟨c3O,z64⟩ (b1P hEs hsm)⟩
theorem c1R{b:Nat}(hb:b≤1048576){n:Nat}{cs:List Value}{x:DataW Hd×List MemPlace}(hx:Rows.uptoBulk x.1≤b)(h:DataW.trod enc Tryz.prog W 0 (fun _=>true) true n 102 cs=some x):
  ∃(s:Sl)(xs:List y9)(ts:List PT),cs=[.slice s.a s.n s.c]∧SlH (hpW W) 4 p5 s xs∧xs.length≤big∧K4 (CH (hpW W)) xs ts∧∀t∈ts,Sm t:=by
 obtain ⟨s3,xs,q3,hS,_,hlen,hg⟩:=a4k Tryz.underlying102 (show Tryz.prog.cellsOf 122=4 by kernel_rfl) (by decide) p5 (fun e=>∃t,CH (hpW W) e t∧Sm t) h (fun n cs y hy h=>c3P b hb (by omega) h)
 obtain ⟨ts,hr,hsm⟩:=a8R xs hg
 exact ⟨s3,xs,ts,q3,hS,by simp only [big];omega,hr,hsm⟩
theorem c3Q:∀(b:Nat),b≤1048576→∀{n:Nat}{cs:List Value}{x:DataW Hd×List MemPlace},Rows.uptoBulk x.1≤b→DataW.trod enc Tryz.prog W 0 (fun _=>true) true n 104 cs=some x→∃e:B4,cs=p8 e∧∃t,SH (hpW W) e t∧Sm t:=by
 intro b
 induction b with
 | zero=>intro _ n cs x hx;have:=b2i x.1;omega
 | succ b ih=>
  intro hb n cs x hx h
  obtain ⟨hl,m,g⟩:=a6I Tryz.underlying104 h
  rw [show Tryz.prog.cellsOf 104=6 by kernel_rfl] at hl
  match cs,hl with
  | [a0,a1,a2,a3,a4,a5],_=>
  obtain ⟨_,h0,_⟩:=g 0 _ rfl
  obtain ⟨_,h1,l1⟩:=g 1 _ rfl
  obtain ⟨y2,h2,l2⟩:=g 2 _ rfl
  obtain ⟨y3,h3,l3⟩:=g 3 _ rfl
  obtain ⟨y4,h4,l4⟩:=g 4 _ rfl
  obtain ⟨y5,h5,l5⟩:=g 5 _ rfl
  obtain ⟨z0,q0,_⟩:=b1O (l:=[a0,a1,a2,a3,a4,a5]) i3 ce3 h0
  obtain ⟨s1,q1,r1⟩:=b8Q (l:=[a1,a2,a3,a4,a5]) h1
  obtain ⟨s2,xs,ts,q2,hE,hEl,hEr,hEs⟩:=b6d (b:=b+1) hb (by omega) (fldk (l:=[a2,a3,a4,a5]) ceE h2)
  obtain ⟨s3,ys,us,q3,hC,hCl,hCr,hCs⟩:=c1R (b:=b+1) hb (by omega) (fldk (l:=[a3,a4,a5]) ceC h3)
  obtain ⟨s4,zs,q4,hS,_,hlen,hg⟩:=a4k Tryz.underlying23 (show Tryz.prog.cellsOf 104=6 by kernel_rfl) (by decide) p8 (fun e=>∃t,SH (hpW W) e t∧Sm t) (fldk (l:=[a4,a5]) ceT h4) (fun n cs y hy h=>ih (by omega) (by omega) h)
  obtain ⟨s5,bs,q5,hS',_,hlen',hg'⟩:=a4k Tryz.underlying23 (show Tryz.prog.cellsOf 104=6 by kernel_rfl) (by decide) p8 (fun e=>∃t,SH (hpW W) e t∧Sm t) (fldk (l:=[a5]) ceT h5) (fun n cs y hy h=>ih (by omega) (by omega) h)
  simp at q0 q1 q2 q3 q4 q5
  subst q0;subst q1;subst q2;subst q3;subst q4;subst q5
  obtain ⟨vs,hr,hsm⟩:=a8R zs hg
  obtain ⟨ws,hr',hsm'⟩:=a8R bs hg'
  exact ⟨⟨z0,s1,s2,s3,s4,s5⟩,rfl,_,SH.mk (s:=⟨z0,s1,s2,s3,s4,s5⟩) hE hEl hEr hC hCl hCr hS (by simp only [big];omega) hr.1 hr.2 hS' (by simp only [big];omega) hr'.1 hr'.2,.mk ⟨by show s1.size≤sml;simp only [sml];omega,z64⟩ (b1P hCs (b1P hEs (b1P hsm hsm')))⟩
theorem c1S{b:Nat}{v:Value}{d:DataW Hd}{ps:List MemPlace}(hv:Value.okWide Tryz.prog W .any b 25 v)(h:DataW.Trod enc Tryz.prog W 0 (fun _=>true) true 25 v d ps)(hb:Rows.uptoBulk d≤1048576):
  ∃(p:z8)(q:PP),v=.agg (v7 p).toArray∧PH (hpW W) p q∧q.Sm∧p.a5g.n≤p.a5g.c∧p.a5J.n≤p.a5J.c:=by
 obtain ⟨n,h⟩:=b5K h
 have hagg:=b8p Tryz.underlying25 hv
 obtain ⟨hl,m,g⟩:=a6I Tryz.underlying25 h
 rw [show Tryz.prog.cellsOf 25=2 by kernel_rfl] at hl
 generalize hq:v.cells=q at h hl g hagg
 obtain ⟨l⟩:=q
 match l,hl with
 | [a0,a1],_=>
 obtain ⟨y0,h0,l0⟩:=g 0 _ rfl
 obtain ⟨y1,h1,l1⟩:=g 1 _ rfl
 obtain ⟨s0,xs,q0,hS,hc0,hlen,hg⟩:=a4k Tryz.underlying22 (show Tryz.prog.cellsOf 58=2 by kernel_rfl) (by decide) m3 (fun e=>e.f8.size≤1048576) (fldk (l:=[a0,a1]) ceD h0) (fun n cs y hy h=>by
  obtain ⟨e,h1,_,h2⟩:=c3M h
  dsimp only at l0
  exact ⟨e,h1,by omega⟩)
 obtain ⟨s1,zs,q1,hS',hc1,hlen',hg'⟩:=a4k Tryz.underlying23 (show Tryz.prog.cellsOf 104=6 by kernel_rfl) (by decide) p8 (fun e=>∃t,SH (hpW W) e t∧Sm t) (fldk (l:=[a1]) ceT h1) (fun n cs y hy h=>c3Q 1048576 (Nat.le_refl _) (by dsimp only at l1;omega) h)
 simp at q0 q1
 subst q0;subst q1
 obtain ⟨vs,hr,hsm⟩:=a8R zs hg'
 dsimp only at l0 l1
 refine ⟨⟨s0,s1⟩,⟨xs,vs⟩,hagg,⟨hS,by simp only [big];omega,zs,hS',by simp only [big];omega,hr⟩,b1P (fun t ht=>?_) hsm,hc0,hc1⟩
 obtain ⟨e,he,rfl⟩:=List.mem_map.1 ht
 exact .mk ⟨by show e.f8.size≤sml;have:=hg e he;simp only [sml];omega,z64⟩ fun t ht=>by cases ht
theorem c3R{b:Nat}{v:Value}{d:DataW Hd}{ps:List MemPlace}(hv:Value.okWide Tryz.prog W .any b 25 v)(h:DataW.Trod enc Tryz.prog W 0 (fun _=>true) true 25 v d ps)(hb:Rows.uptoBulk d≤1048576):
  ∃(p:z8)(q:PP),v=.agg (v7 p).toArray∧PH (hpW W) p q∧q.Sm:=by
 obtain ⟨p,q,h1,h2,h3,_⟩:=c1S hv h hb
 exact ⟨p,q,h1,h2,h3⟩
end
end Go.Proofs.YthaaobpfbgcfiaaGreatDoor
