/- The program's walk over nodes: what it meets, where it stops, which names; it is the document's. Contracts off the printed formulas. -/
import Derived.Test.YtnhdnncbjddmjaaGreatDooryEQ4
namespace Go.Proofs.YtnhdnncbjddmjaaGreatDoor
open Go.RowKit
set_option maxRecDepth 100000
set_option maxHeartbeats 2000000
structure V where
 n:Int
 d:Int
 e:Int
 f:Bool
 m:Bool
 ns:List ByteArray
def V.w(v:V):f7:=⟨v.n,v.d,v.e,v.f,v.m,⟨none,0,0⟩⟩
def memS(l:List ByteArray)(s:ByteArray):Bool:=l.any fun x=>decide (s=x)
theorem b2i{l:List ByteArray}{s:ByteArray}:memS l s=true↔s∈l:=by
 unfold memS;rw [List.any_eq_true]
 constructor
 ·rintro ⟨x,hx,e⟩;rw [of_decide_eq_true e];exact hx
 ·exact fun h=>⟨s,h,decide_eq_true rfl⟩
def putS(l:List ByteArray)(s:ByteArray):List ByteArray:=if memS l s=true then l else l++[s]
def vMeet(v:V)(l:Lab)(d:Int):Bool×V:=
 if 4096 < v.n+1 then (false,⟨v.n+1,v.d,33,v.f,v.m,v.ns⟩)
 else if 64 < d then (false,⟨v.n+1,v.d,32,v.f,v.m,v.ns⟩)
 else (true,⟨v.n+1,if d > v.d then d else v.d,v.e,v.f || !formL l,if (nameL l).2=true then v.m || !nameS (nameL l).1 else v.m,if (nameL l).2=true then putS v.ns (nameL l).1 else v.ns⟩)
mutual
def vT:PT→Int→V→Bool×V
 | .mk l cs,d,v=>if (vMeet v l d).1=true then vTs cs (d+1) (vMeet v l d).2 else vMeet v l d
def vTs:List PT→Int→V→Bool×V
 | [],_,v=>(true,v)
 | t::ts,d,v=>if (vT t d v).1=true then vTs ts d (vT t d v).2 else vT t d v
end
def vok(v:V):Prop:=0≤v.n∧v.n≤4096∧(v.ns.length:Int)≤v.n
theorem b5V(l:List ByteArray)(s:ByteArray):(putS l s).length≤l.length+1:=by
 unfold putS;split
 ·omega
 ·rw [List.length_append];exact Nat.le_refl _
theorem b2j{v:V}{l:Lab}{d:Int}(h:vok v)(ht:(vMeet v l d).1=true):vok (vMeet v l d).2:=by
 unfold vMeet at ht ⊢
 unfold vok at h
 split
 ·rw [if_pos (by assumption)] at ht;cases ht
 ·rw [if_neg (by assumption)] at ht
  split
  ·rw [if_pos (by assumption)] at ht;cases ht
  ·refine ⟨by dsimp only;omega,by dsimp only;omega,?_⟩
   dsimp only
   have:=b5V v.ns (nameL l).1
   split<;>omega
mutual
theorem b6H:∀(t:PT)(d:Int)(v:V),vok v→(vT t d v).1=true→vok (vT t d v).2
 | .mk l cs,d,v,h,ht=>by
  rw [vT] at ht ⊢
  split
  ·rename_i hm
   rw [if_pos hm] at ht
   exact b5f cs _ _ (b2j h hm) ht
  ·rename_i hm
   rw [if_neg hm] at ht;exact (hm ht).elim
theorem b5f:∀(ts:List PT)(d:Int)(v:V),vok v→(vTs ts d v).1=true→vok (vTs ts d v).2
 | [],_,v,h,_=>by rw [vTs];exact h
 | t::ts,d,v,h,ht=>by
  rw [vTs] at ht ⊢
  split
  ·rename_i hm
   rw [if_pos hm] at ht
   exact b5f ts d _ (b6H t d v h hm) ht
  ·rename_i hm
   rw [if_neg hm] at ht;exact (hm ht).elim
end
abbrev sml:Nat:=1048576
def numL:Lab→Int
 | .expr _ n _ _=>n
 | _=>0
def smL(l:Lab):Prop:=(nameL l).1.size≤sml∧a7J (numL l)
instance (l:Lab):Decidable (smL l):=by unfold smL;infer_instance
theorem z64:a7J 0:=by decide
inductive Sm:PT→Prop
 | mk {l:Lab} {cs:List PT}:smL l→(∀t∈cs,Sm t)→Sm (.mk l cs)
section
variable {H:Hp}
theorem b5W{l:List ByteArray}(hl:l.length≤big){s:ByteArray}{K:Int→Hp→Prop}(h1:∀i:Int,0≤i→s∈l→K i H)(h2:¬s∈l→K (-1) H):Y0 l s H K:=by
 refine a4Q _ _ ?_
 unfold Y9
 refine Q9 (fun(i:Int) H'=>0≤i∧i≤l.length∧H'=H∧∀(j:Nat)(x:ByteArray),(j:Int) < i→l[j]? = some x→s≠x) (fun i=>(l.length-i).toNat) ⟨Int.le_refl _,by omega,rfl,fun j x hj=>by omega⟩ ?_
 rintro i H1 next ⟨i0,i1,rfl,hi⟩ hn
 unfold U2
 refine ⟨fun hc=>?_,fun hc=>?_⟩
 ·obtain ⟨x,hx⟩:=A0 (l:=l) (i:=i.toNat) (by omega)
  refine ⟨i0,x,hx,fun e=>h1 i i0 ?_,fun e=>?_⟩
  ·subst e;exact List.mem_of_getElem? hx
  ·rw [u5 i0 (by simp only [big] at hl;omega)]
   refine hn _ _ ⟨by omega,by omega,rfl,fun j y hj hy=>?_⟩ (by omega)
   by_cases ej:j=i.toNat
   ·subst ej;rw [hx] at hy;cases hy;exact e
   ·exact hi j y (by omega) hy
 ·unfold N3
  refine h2 fun hm=>?_
  obtain ⟨j,hj⟩:=List.mem_iff_getElem?.1 hm
  exact hi j s (by have:=t8 hj;omega) hj rfl
theorem b2J{l:List ByteArray}(hl:l.length≤big){s:ByteArray}{K:Bool→Hp→Prop}(h:K (memS l s) H):N2 l s H K:=by
 refine a3Y _ _ ?_
 unfold U1
 refine b5W hl (fun i i0 hm=>?_) fun hm=>?_
 ·rw [b2i.2 hm] at h;rw [decide_eq_true i0];exact h
 ·rw [Bool.eq_false_iff.2 fun e=>hm (b2i.1 e)] at h;exact h
theorem b5X(hT:TabsH H){v:V}(hv:vok v){x:c6}{t:PT}(hx:NH H x t)(hs:(nameL t.lab).1.size≤big){d:Int}{K:Bool→f7→List ByteArray→Hp→Prop}(h:K (vMeet v t.lab d).1 (vMeet v t.lab d).2.w (vMeet v t.lab d).2.ns H):a0g v.w v.ns x d H K:=by
 refine a5h _ _ _ _ ?_
 unfold a0r
 unfold vok at hv
 have e1:IntKind.wrap .i64 (v.w.fnodes+1)=v.n+1:=u5 hv.1 (show v.n≤_ by omega)
 rw [e1]
 unfold vMeet at h
 refine ⟨fun hc=>by rw [if_pos hc] at h;exact h,fun hc=>?_⟩
 rw [if_neg hc] at h
 refine ⟨fun hd=>by rw [if_pos hd] at h;exact h,fun hd=>?_⟩
 rw [if_neg hd] at h
 refine a3N (formL t.lab) (fun _ K' hk=>b7x hx hk) (b2X hx ?_)
 have ef:(v.w.fform || !(if v.w.fform=false then formL t.lab else false))=(v.f || !formL t.lab):=by
  show (v.f || !(if v.f=false then formL t.lab else false))=_
  cases v.f<;>rfl
 rw [ef]
 refine ⟨fun hn=>?_,fun hn=>?_⟩
 ·rw [if_pos hn,if_pos hn] at h
  refine a3N (nameS (nameL t.lab).1) (fun _ K' hk=>b7v hT hs hk) (b2J (by simp only [big];omega) ?_)
  have em:(v.w.fnamed || !(if v.w.fnamed=false then nameS (nameL t.lab).1 else false))=(v.m || !nameS (nameL t.lab).1):=by
   show (v.m || !(if v.m=false then nameS (nameL t.lab).1 else false))=_
   cases v.m<;>rfl
  rw [em]
  unfold putS at h
  refine ⟨fun hc=>?_,fun hc=>?_⟩
  ·have hc':¬memS v.ns (nameL t.lab).1=true:=by simpa using hc
   rw [if_neg hc'] at h
   exact ⟨by simp only [List.length_cons,List.length_nil];omega,h⟩
  ·have hc':memS v.ns (nameL t.lab).1=true:=by simpa using hc
   rw [if_pos hc'] at h
   exact h
 ·simp only [hn,Bool.false_eq_true,if_false] at h
  exact h
def WalkP(ts:List PT):Prop:=∀(s:Sl)(d:Int)(v:V)(H:Hp)(xs:List c6)(K:Bool→f7→List ByteArray→Hp→Prop),TabsH H→SlH H 1 l7 s xs→B9 (NH H) xs ts→ts.length≤4*big→(∀t∈ts,Sm t)→vok v→0≤d→d≤65→
 (∀H',Hle H H'→K (vTs ts d v).1 (vTs ts d v).2.w (vTs ts d v).2.ns H')→Q7 s d v.w v.ns H K
theorem b0d{ts:List PT}(ih:∀t∈ts,WalkP t.kids):WalkP ts:=by
 intro s d v H xs K hT hS hr hb hsm hv d0 d1 h
 refine a6B _ _ _ _ ?_
 unfold a1R
 have n1:=hS.1;have r1:=hr.1
 refine Q9 (fun(z:Int×Int×Int×Int×Bool×Bool×List ByteArray) H'=>∃u:V,z=(z.1,u.n,u.d,u.e,u.f,u.m,u.ns)∧0≤z.1∧z.1≤ts.length∧Hle H H'∧vok u∧vTs ts d v=vTs (ts.drop z.1.toNat) d u) (fun z=>(ts.length-z.1).toNat) ⟨v,rfl,Int.le_refl _,by simp,Hle.refl _,hv,rfl⟩ ?_
 rintro ⟨i,z⟩ H1 next ⟨u,hz,i0,i1,l1,hu,he⟩ hn
 dsimp only at i0 i1 he hz ⊢
 cases hz
 unfold U0
 dsimp only
 refine ⟨fun hc=>?_,fun hc=>?_⟩
 ·obtain ⟨x,hx,hE⟩:=(hS.le l1).get i0 hc
  obtain ⟨t,ht,hN⟩:=hr.get hx
  have hlt:=t8 ht
  have htm:=List.mem_of_getElem? ht
  have hdrop:ts.drop i.toNat=t::ts.drop (i.toNat+1):=by
   rw [List.drop_eq_getElem_cons hlt];congr 1
   rw [List.getElem?_eq_getElem hlt] at ht;exact Option.some.inj ht
  have hst:=hsm t htm
  have hsz:(nameL t.lab).1.size≤big:=by
   cases hst with
   | mk h1 h2=>exact Nat.le_trans h1.1 (by decide)
  have hsk:∀c∈t.kids,Sm c:=by cases hst;assumption
  rw [hdrop,vTs] at he
  refine ⟨i0,hc,x,hE,b5X (hT.le l1) (v:=u) hu (hN.le l1) hsz ?_⟩
  have hvt:vT t d u=if (vMeet u t.lab d).1=true then vTs t.kids (d+1) (vMeet u t.lab d).2 else vMeet u t.lab d:=by
   cases t;rw [vT];rfl
  by_cases hm:(vMeet u t.lab d).1=true
  ·rw [if_pos hm] at hvt
   have d64:d≤64:=by
    unfold vMeet at hm
    split at hm
    ·cases hm
    ·split at hm
     ·cases hm
     ·omega
   rw [hm]
   refine ⟨fun _=>b5U (hN.le l1) fun r H2 ns l2 hS2 hr2 hk2=>?_,fun q=>(q rfl).elim⟩
   refine ⟨fun _=>?_,fun q=>(q rfl).elim⟩
   rw [u5 d0 (by omega)]
   refine ih t htm r (d+1) _ H2 ns _ (hT.le (l1.trans l2)) hS2 hr2 hk2 hsk (b2j hu hm) (by omega) (by omega) fun H3 l3=>?_
   rw [←hvt]
   by_cases hq:(vT t d u).1=true
   ·rw [if_pos hq] at he
    rw [hq]
    refine ⟨fun q=>(by cases q),fun _=>?_⟩
    rw [F0 (a:=i+1) ⟨by omega,by simp only [big] at hb;omega⟩]
    refine hn _ _ ⟨(vT t d u).2,rfl,by dsimp only;omega,by dsimp only;omega,l1.trans (l2.trans l3),b6H t d u hu hq,?_⟩ (by dsimp only;omega)
    dsimp only
    rw [show (i+1).toNat=i.toNat+1 by omega];exact he
   ·rw [if_neg hq] at he
    have h':=h H3 (l1.trans (l2.trans l3))
    rw [he] at h'
    have hq':=Bool.eq_false_iff.2 hq
    rw [hq'] at h' ⊢
    exact ⟨fun _=>h',fun q=>(by cases q)⟩
  ·rw [if_neg hm] at hvt
   rw [hvt,if_neg hm] at he
   have hm':=Bool.eq_false_iff.2 hm
   have h':=h H1 l1
   rw [he] at h'
   rw [hm'] at h' ⊢
   refine ⟨fun q=>(by cases q),fun _=>⟨fun q=>(by cases q),fun _=>⟨fun _=>h',fun q=>(by cases q)⟩⟩⟩
 ·rw [List.drop_eq_nil_of_le (by omega),vTs] at he
  unfold T9
  have h':=h H1 l1
  rw [he] at h'
  exact h'
end
mutual
theorem b5g:∀t:PT,WalkP t.kids
 | .mk _ cs=>b0d (a8N cs)
theorem a8N:∀(ts:List PT),∀t∈ts,WalkP t.kids
 | [],_,h=>by cases h
 | t::ts,u,h=>by
  cases List.mem_cons.1 h with
  | inl e=>rw [e];exact b5g t
  | inr h=>exact a8N ts u h
end
theorem b7y(ts:List PT):WalkP ts:=b0d (a8N ts)
def v0:V:=⟨0,0,0,false,false,[]⟩
def vEnd(r:Bool×V):Int:=if r.1=true then (if r.2.f=true then 30 else if r.2.m=true then 31 else r.2.e) else r.2.e
section
variable {H:Hp}
theorem b0e(hT:TabsH H){s:Sl}{xs:List c6}{ts:List PT}(hS:SlH H 1 l7 s xs)(hr:B9 (NH H) xs ts)(hb:ts.length≤4*big)(hsm:∀t∈ts,Sm t){K:f7→Hp→Prop}
  (h:∀(sl:Sl)(H':Hp),Hle H H'→SlH H' 1 j8 sl (vTs ts 1 v0).2.ns→K ⟨(vTs ts 1 v0).2.n,(vTs ts 1 v0).2.d,vEnd (vTs ts 1 v0),(vTs ts 1 v0).2.f,(vTs ts 1 v0).2.m,sl⟩ H'):a0z s H K:=by
 refine a7r _ ?_
 unfold a2u
 refine b7y ts s 1 v0 H xs _ hT hS hr hb hsm ⟨by decide,by decide,by decide⟩ (by decide) (by decide) fun H1 l1=>?_
 generalize hq:vTs ts 1 v0=q at h ⊢
 obtain ⟨b,u⟩:=q
 dsimp only [V.w] at h ⊢
 unfold vEnd at h
 dsimp only at h
 cases b
 ·refine ⟨fun _=>?_,fun q=>(by cases q)⟩
  unfold D9
  intro sl H2 l2 hS2 hc
  exact h sl H2 (l1.trans l2) hS2
 ·refine ⟨fun q=>(by cases q),fun _=>⟨fun hf=>?_,fun hf=>⟨fun hm=>?_,fun hm=>?_⟩⟩⟩
  all_goals
   unfold D9
   intro sl H2 l2 hS2 hc
   have h':=h sl H2 (l1.trans l2) hS2
   rw [if_pos rfl] at h'
  ·rw [if_pos hf] at h';exact h'
  ·rw [if_neg (by rw [hf];decide),if_pos hm] at h';exact h'
  ·rw [if_neg (by rw [hf];decide),if_neg (by rw [hm];decide)] at h';exact h'
theorem B9.c1d{α β γ δ:Type}{R:γ→δ→Prop}{f:α→γ}{g:β→δ}{xs:List α}{ys:List β}(h:B9 (fun x y=>R (f x) (g y)) xs ys):B9 R (xs.map f) (ys.map g):=by
 refine ⟨by rw [List.length_map,List.length_map];exact h.1,fun i x y hx hy=>?_⟩
 rw [List.getElem?_map,Option.map_eq_some_iff] at hx hy
 obtain ⟨a,ha,rfl⟩:=hx
 obtain ⟨b,hb,rfl⟩:=hy
 exact h.2 i a b ha hb
def allV(q:PP):Bool×V:=vTs q.nodes 1 v0
def PP.Sm(q:PP):Prop:=∀t∈q.nodes,Go.Proofs.YtnhdnncbjddmjaaGreatDoor.Sm t
theorem b9Z(hT:TabsH H){p:l9}{q:PP}(hp:PH H p q)(hsm:q.Sm){K:f7→Hp→Prop}
  (h:∀(sl:Sl)(H':Hp),Hle H H'→SlH H' 1 j8 sl (allV q).2.ns→K ⟨(allV q).2.n,(allV q).2.d,vEnd (allV q),(allV q).2.f,(allV q).2.m,sl⟩ H'):a3B p H K:=by
 refine a8s _ ?_
 unfold a3F
 obtain ⟨hd,hbd,xs,hsl,hb,hr⟩:=hp
 refine b2I hd hbd fun r1 H1 l1 hS1=>?_
 refine a6C (hsl.le l1) hb fun r2 H2 l2 hS2=>?_
 intro s H3 l3 hS hc
 have r0:=hr.1
 refine a7W hS (nss:=[_,_]) ((B9.one (hS1.le (l2.trans l3))).app (B9.one (hS2.le l3))) ?_ (by simp [big]) fun r H4 l4 hS4=>?_
 ·simp only [List.flatten_cons,List.flatten_nil,List.append_nil,List.length_append,List.length_map];simp only [big] at hb hbd;omega
 simp only [List.flatten_cons,List.flatten_nil,List.append_nil] at hS4
 have l14:=l1.trans (l2.trans (l3.trans l4))
 refine b0e (hT.le l14) hS4 (ts:=q.nodes) ?_ ?_ hsm fun sl H5 l5 hS5=>h sl H5 (l14.trans l5) hS5
 ·refine B9.app (B9.c1d (R:=NH H4) (f:=fun x=>.D5 ⟨x⟩) (g:=dT) ⟨rfl,fun i a b ha hb=>?_⟩) (B9.map (R:=NH H4) (f:=fun x=>.B4 ⟨x⟩) (hr.mono fun _ _=>SH.le l14))
  rw [ha] at hb;cases hb;rfl
 ·unfold PP.nodes;rw [List.length_append,List.length_map];omega
theorem b5Y(hT:TabsH H){p:l9}{q:PP}(hp:PH H p q)(hsm:q.Sm){K:Int→Hp→Prop}(h:∀H',Hle H H'→K (vEnd (allV q)) H'):a2E p H K:=by
 refine a7B _ ?_
 unfold a2F
 exact b9Z hT hp hsm fun sl H' l hS=>h H' l
theorem b7z(hT:TabsH H){e:d8}{t:PT}(he:EH H e t)(hsm:Sm t){K:Int→Hp→Prop}(h:∀H',Hle H H'→K (vEnd (vTs [t] 1 v0)) H'):a2Q e H K:=by
 refine a7R _ ?_
 unfold a2Y
 intro s H1 l1 hS hc
 refine b0e (hT.le l1) hS (ts:=[t]) (B9.one (EH.le l1 he)) (by simp [big]) (fun u hu=>by rw [List.mem_singleton.1 hu];exact hsm) fun sl H2 l2 hS2=>h H2 (l1.trans l2)
end
def SimR(r:Bool×V)(s:W):Prop:=(r.1=true→s=⟨r.2.n,r.2.d,0⟩∧r.2.e=0∧0≤r.2.n∧r.2.n≤4096)∧(r.1=false→s.fbad=r.2.e∧(r.2.e=32∨r.2.e=33))
theorem b5Z{v:V}(he:v.e=0)(h0:0≤v.n)(hn:v.n≤4096)(l:Lab)(d:Int):SimR (vMeet v l d) (wStep ⟨v.n,v.d,0⟩ d):=by
 unfold vMeet wStep
 rw [if_pos rfl]
 by_cases h1:4096 < v.n+1
 ·rw [if_pos h1,if_pos (show v.n=4096 by omega)]
  exact ⟨fun q=>(by cases q),fun _=>⟨rfl,.inr rfl⟩⟩
 ·rw [if_neg h1,if_neg (show ¬v.n=4096 by omega)]
  by_cases h2:64 < d
  ·rw [if_pos h2,if_pos h2]
   exact ⟨fun q=>(by cases q),fun _=>⟨rfl,.inl rfl⟩⟩
  ·rw [if_neg h2,if_neg h2]
   exact ⟨fun _=>⟨rfl,he,by dsimp only;omega,by dsimp only;omega⟩,fun q=>(by cases q)⟩
mutual
theorem c0B:∀(t:PT)(d:Int)(v:V),v.e=0→0≤v.n→v.n≤4096→SimR (vT t d v) (wT t d ⟨v.n,v.d,0⟩)
 | .mk l cs,d,v,he,h0,hn=>by
  have hm:=b5Z he h0 hn l d
  rw [vT,wT]
  by_cases hq:(vMeet v l d).1=true
  ·rw [if_pos hq]
   obtain ⟨h1,h2,h3,h4⟩:=hm.1 hq
   rw [h1]
   exact b2k cs (d+1) _ h2 h3 h4
  ·rw [if_neg hq]
   have hq':=Bool.eq_false_iff.2 hq
   obtain ⟨h1,h2⟩:=hm.2 hq'
   rw [a0T _ _ _ (by rw [h1];omega)]
   exact ⟨fun q=>(hq q).elim,fun _=>⟨h1,h2⟩⟩
theorem b2k:∀(ts:List PT)(d:Int)(v:V),v.e=0→0≤v.n→v.n≤4096→SimR (vTs ts d v) (wTs ts d ⟨v.n,v.d,0⟩)
 | [],d,v,he,h0,hn=>by
  rw [vTs,wTs]
  exact ⟨fun _=>⟨rfl,he,h0,hn⟩,fun q=>(by cases q)⟩
 | t::ts,d,v,he,h0,hn=>by
  have hm:=c0B t d v he h0 hn
  rw [vTs,wTs]
  by_cases hq:(vT t d v).1=true
  ·rw [if_pos hq]
   obtain ⟨h1,h2,h3,h4⟩:=hm.1 hq
   rw [h1]
   exact b2k ts d _ h2 h3 h4
  ·rw [if_neg hq]
   have hq':=Bool.eq_false_iff.2 hq
   obtain ⟨h1,h2⟩:=hm.2 hq'
   rw [a0T _ _ _ (by rw [h1];omega)]
   exact ⟨fun q=>(hq q).elim,fun _=>⟨h1,h2⟩⟩
end
theorem c0C(ts:List PT):SimR (vTs ts 1 v0) (wTs ts 1 w0S):=b2k ts 1 v0 rfl (by decide) (by decide)
section
variable {H:Hp}
end
end Go.Proofs.YtnhdnncbjddmjaaGreatDoor
